import Derived.Test.YtnjheelameojaaaGreatGaA
/- A text of the proof. -/
set_option linter.all false
set_option maxRecDepth 100000
set_option maxHeartbeats 2000000
namespace Go.P
open Go.Sim (Ex OpK CK)
open K (I Q rq nq xq ck)
def F163_2 (a:List Zw) (x2:Int):Option Bool:=
 (F209_2 a x2).bind fun b=>some (decide (b>=0))
theorem ok163_2 {k} (d) (a:List Zw) (x2:Int):OD k (d+20) 163 [.is 2 (I Zw.g a),.fn 164 [] [.ip [.fn 162 [] []],.ip [.fn 111 [] []],.ip [i64 x2]]]=(F163_2 a x2).map (fun b=>bv b):=by
 rw[od (fn:=p163) rfl rfl rfl]
 refine bo (ok209_2 d a x2) fun c=>?_
 exact lf rfl
def F161_2 (d:Int) (x2:Zm):Option Bool:=
 (F106 x2).bind fun⟨a,b⟩=>if b !=0 then some false else(F163_2 x2.Cells a).bind fun c=>some c
theorem ok161_2 {k} (d) (a:Int) (x2:Zm):OD k (d+21) 161 [i64 a,.agg (Zm.g x2),.ip [.fn 111 [] []]]=(F161_2 a x2).map (fun c=>bv c):=by
 rw[od (fn:=p161) rfl rfl rfl]
 refine bo (ok106 (d+16) x2) fun⟨b,e⟩=>?_
 refine io (lf rfl) ?_
 refine bo (ok163_2 d x2.Cells b) fun f=>?_
 exact lf rfl
def Fn102_5 (g:List Zv) (x2:Z0) (h:Int):Option (List Zv):=
 (aO (E:=List Zv) (fun(⟨a,e⟩:Int×(List Zv))=>if decide (a<(x2.Measures.length:Int))then(lget x2.Measures a).bind fun f=>(F161_2 a f).bind fun b=>(Fn96 b f.ID e x2 h).bind fun c=>some (.inl ((w64 (a+1)),c))else some (.inr e)) B64 (0,g)).bind fun d=>some d
theorem okn102_5 {k} (d) (c:List Zv) (x2:Z0) (a:Int):runR (XD k (d+22)) 102 [.ref 1 0,.fn 161 [] [.ref 3 0]] [(3,.box [.fn 111 [] []]),(2,.lst 147 3 false (I Zv.g c)),(1,.box (ck x2 a (.own 2)))] 4 false=(Fn102_5 c x2 a).map (fun(f:List Zv)=>((.tup [],[(3,.box [.fn 111 [] []]),(2,.lst 147 3 false (I Zv.g f)),(1,.box (ck x2 a (.own 2)))],0))):=by
 rw[xd (fn:=p102) rfl]
 refine bz lm ?_
 refine bo (aH (S:=Int×(List Zv)) (enc:=fun⟨h,i⟩=>(Q [(0,.ref 1 0),(1,.fn 161 [] [.ref 3 0]),(10,.is 22 (I Zm.g x2.Measures)),(11,i64 (x2.Measures.length:Int)),(12,i64 h)] [(3,.box [.fn 111 [] []]),(2,.lst 147 3 false (I Zv.g i)),(1,.box (ck x2 a (.own 2)))])) (encE:=(fun(b:List Zv)=>(xq 0 [] [(3,.box [.fn 111 [] []]),(2,.lst 147 3 false (I Zv.g b)),(1,.box (ck x2 a (.own 2)))]))) (fun⟨h,i⟩=>?_) B64 (0,c)) fun b=>?_
 refine io ?_ (lf rfl)
 refine bo rg fun j=>?_
 refine bo (ok161_2 d h j) fun e=>?_
 refine bo (okn96 (d+20) e j.ID i x2 a) fun l=>?_
 exact lf rfl
 exact lf rfl
def Fn109_2 (a:List Zv) (x2:Z0) (b:Int):Option (List Zv):=
 (Fn102_5 a x2 b).bind fun c=>some c
theorem okn109_2 {k} (d) (b:List Zv) (x2:Z0) (a:Int):runR (XD k (d+23)) 109 [.ref 1 0,.fn 111 [] []] [(2,.lst 147 3 false (I Zv.g b)),(1,.box (ck x2 a (.own 2)))] 3 false=(Fn109_2 b x2 a).map (fun(c:List Zv)=>((.tup [],[(2,.lst 147 3 false (I Zv.g c)),(1,.box (ck x2 a (.own 2)))],0))):=by
 rw[xd (fn:=p109) rfl]
 refine bo (okn102_5 d b x2 a) fun e=>?_
 exact lf rfl
def Fn65 (a:List Zv) (x2:Z0) (b:Int):Option (List Zv):=
 (Fn109_2 a x2 b).bind fun c=>some c
theorem okn65 {k} (d) (b:List Zv) (x2:Z0) (a:Int):runR (XD k (d+24)) 65 [.ref 1 0] [(2,.lst 147 3 false (I Zv.g b)),(1,.box (ck x2 a (.own 2)))] 3 false=(Fn65 b x2 a).map (fun(c:List Zv)=>((.tup [],[(2,.lst 147 3 false (I Zv.g c)),(1,.box (ck x2 a (.own 2)))],0))):=by
 rw[xd (fn:=p65) rfl]
 refine bo (okn109_2 d b x2 a) fun e=>?_
 exact lf rfl
def F113 (b:Zp) (x2:Ze):Option Bool:=
 (F114 x2).bind fun a=>some (a !=0)
theorem ok113 {k} (d) (a:Zp) (x2:Ze):OD k (d+9) 113 [.agg (Zp.g a),.agg (Ze.g x2)]=(F113 a x2).map (fun b=>bv b):=by
 rw[od (fn:=p113) rfl rfl rfl]
 refine bo (ok114 d x2) fun c=>?_
 exact lf rfl
def Fn112 (s:List Zv) (x2:Z0) (t:Int):Option (List Zv):=
 (aO (E:=List Zv) (fun(⟨b,m⟩:Int×(List Zv))=>if decide (b<(x2.Measures.length:Int))then(lget x2.Measures b).bind fun n=>(aO (E:=List Zv) (fun(⟨c,o⟩:Int×(List Zv))=>if decide (c<(n.Cells.length:Int))then(lget n.Cells c).bind fun p=>(aO (E:=List Zv) (fun(⟨d,q⟩:Int×(List Zv))=>if decide (d<(p.Voices.length:Int))then(lget p.Voices d).bind fun r=>(aO (E:=List Zv) (fun(⟨a,e⟩:Int×(List Zv))=>if decide (a<(r.Events.length:Int))then(lget r.Events a).bind fun f=>(F113 (Zp.mk 4 0 c b d a 0) f).bind fun g=>(Fn96 g f.ID e x2 t).bind fun h=>some (.inl ((w64 (a+1)),h))else some (.inr e)) B64 (0,q)).bind fun i=>some (.inl ((w64 (d+1)),i))else some (.inr q)) B64 (0,o)).bind fun j=>some (.inl ((w64 (c+1)),j))else some (.inr o)) B64 (0,m)).bind fun k=>some (.inl ((w64 (b+1)),k))else some (.inr m)) B64 (0,s)).bind fun l=>some l
theorem okn112 {k} (d) (w:List Zv) (x2:Z0) (h:Int):runR (XD k (d+10)) 112 [.ref 1 0,.fn 113 [] []] [(2,.lst 147 3 false (I Zv.g w)),(1,.box (ck x2 h (.own 2)))] 3 false=(Fn112 w x2 h).map (fun(v:List Zv)=>((.tup [],[(2,.lst 147 3 false (I Zv.g v)),(1,.box (ck x2 h (.own 2)))],0))):=by
 rw[xd (fn:=p112) rfl]
 refine bz lm ?_
 refine bo (aH (S:=Int×(List Zv)) (enc:=fun⟨b,r⟩=>(Q [(0,.ref 1 0),(1,.fn 113 [] []),(16,.is 22 (I Zm.g x2.Measures)),(17,i64 (x2.Measures.length:Int)),(18,i64 b)] [(2,.lst 147 3 false (I Zv.g r)),(1,.box (ck x2 h (.own 2)))])) (encE:=(fun(q:List Zv)=>(xq 0 [] [(2,.lst 147 3 false (I Zv.g q)),(1,.box (ck x2 h (.own 2)))]))) (fun⟨b,r⟩=>?_) B64 (0,w)) fun q=>?_
 refine io ?_ (lf rfl)
 refine bo rg fun a=>?_
 refine bz lm ?_
 refine bo (aH (S:=Int×(List Zv)) (enc:=fun⟨c,s⟩=>(Q [(0,.ref 1 0),(1,.fn 113 [] []),(4,i64 b),(16,.is 22 (I Zm.g x2.Measures)),(17,i64 (x2.Measures.length:Int)),(18,i64 b),(24,.is 2 (I Zw.g a.Cells)),(25,i64 (a.Cells.length:Int)),(26,i64 c)] [(3,.box (Zm.g a)),(2,.lst 147 3 false (I Zv.g s)),(1,.box (ck x2 h (.own 2)))])) (encE:=(fun(p:List Zv)=>(xq 2 [(0,.ref 1 0),(1,.fn 113 [] []),(16,.is 22 (I Zm.g x2.Measures)),(17,i64 (x2.Measures.length:Int)),(18,i64 b)] [(3,.box (Zm.g a)),(2,.lst 147 3 false (I Zv.g p)),(1,.box (ck x2 h (.own 2)))]))) (fun⟨c,s⟩=>?_) B64 (0,r)) fun p=>?_
 refine io ?_ (lf rfl)
 refine bo rg fun e=>?_
 refine bz lm ?_
 refine bo (aH (S:=Int×(List Zv)) (enc:=fun⟨f,t⟩=>(Q [(0,.ref 1 0),(1,.fn 113 [] []),(4,i64 b),(6,i64 c),(16,.is 22 (I Zm.g x2.Measures)),(17,i64 (x2.Measures.length:Int)),(18,i64 b),(24,.is 2 (I Zw.g a.Cells)),(25,i64 (a.Cells.length:Int)),(26,i64 c),(32,.is 2 (I Zo.g e.Voices)),(33,i64 (e.Voices.length:Int)),(34,i64 f)] [(4,.box (Zw.g e)),(3,.box (Zm.g a)),(2,.lst 147 3 false (I Zv.g t)),(1,.box (ck x2 h (.own 2)))])) (encE:=(fun(o:List Zv)=>(xq 4 [(0,.ref 1 0),(1,.fn 113 [] []),(4,i64 b),(16,.is 22 (I Zm.g x2.Measures)),(17,i64 (x2.Measures.length:Int)),(18,i64 b),(24,.is 2 (I Zw.g a.Cells)),(25,i64 (a.Cells.length:Int)),(26,i64 c)] [(4,.box (Zw.g e)),(3,.box (Zm.g a)),(2,.lst 147 3 false (I Zv.g o)),(1,.box (ck x2 h (.own 2)))]))) (fun⟨f,t⟩=>?_) B64 (0,s)) fun o=>?_
 refine io ?_ (lf rfl)
 refine bo rg fun l=>?_
 refine bz lm ?_
 refine bo (aH (S:=Int×(List Zv)) (enc:=fun⟨i,j⟩=>(Q [(0,.ref 1 0),(1,.fn 113 [] []),(4,i64 b),(6,i64 c),(8,i64 f),(16,.is 22 (I Zm.g x2.Measures)),(17,i64 (x2.Measures.length:Int)),(18,i64 b),(24,.is 2 (I Zw.g a.Cells)),(25,i64 (a.Cells.length:Int)),(26,i64 c),(32,.is 2 (I Zo.g e.Voices)),(33,i64 (e.Voices.length:Int)),(34,i64 f),(40,.is 13 (I Ze.g l.Events)),(41,i64 (l.Events.length:Int)),(42,i64 i)] [(5,.box (Zo.g l)),(4,.box (Zw.g e)),(3,.box (Zm.g a)),(2,.lst 147 3 false (I Zv.g j)),(1,.box (ck x2 h (.own 2)))])) (encE:=(fun(n:List Zv)=>(xq 6 [(0,.ref 1 0),(1,.fn 113 [] []),(4,i64 b),(6,i64 c),(16,.is 22 (I Zm.g x2.Measures)),(17,i64 (x2.Measures.length:Int)),(18,i64 b),(24,.is 2 (I Zw.g a.Cells)),(25,i64 (a.Cells.length:Int)),(26,i64 c),(32,.is 2 (I Zo.g e.Voices)),(33,i64 (e.Voices.length:Int)),(34,i64 f)] [(5,.box (Zo.g l)),(4,.box (Zw.g e)),(3,.box (Zm.g a)),(2,.lst 147 3 false (I Zv.g n)),(1,.box (ck x2 h (.own 2)))]))) (fun⟨i,j⟩=>?_) B64 (0,t)) fun n=>?_
 refine io ?_ (lf rfl)
 refine bo rg fun m=>?_
 refine bo (ok113 d (Zp.mk 4 0 c b f i 0) m) fun u=>?_
 refine bo (okn96 (d+8) u m.ID j x2 h) fun x=>?_
 exact lf rfl
 exact lf rfl
 exact lf rfl
 exact lf rfl
 exact lf rfl
def Fn66 (a:List Zv) (x2:Z0) (b:Int):Option (List Zv):=
 (Fn112 a x2 b).bind fun c=>some c
theorem okn66 {k} (d) (b:List Zv) (x2:Z0) (a:Int):runR (XD k (d+11)) 66 [.ref 1 0] [(2,.lst 147 3 false (I Zv.g b)),(1,.box (ck x2 a (.own 2)))] 3 false=(Fn66 b x2 a).map (fun(c:List Zv)=>((.tup [],[(2,.lst 147 3 false (I Zv.g c)),(1,.box (ck x2 a (.own 2)))],0))):=by
 rw[xd (fn:=p66) rfl]
 refine bo (okn112 d b x2 a) fun e=>?_
 exact lf rfl
def F53 (c:Z0) (x2:Int):Option (Int×Int×Int):=
 if decide (x2<0)then some (0,0,2)else(aO (E:=(Int×Int)⊕Unit) (fun(⟨b,a⟩:Int×Int)=>if decide (a<(c.Parts.length:Int))then(lget c.Parts a).bind fun d=>if decide (b<(d.Staves.length:Int))then some (.inr (.inl (a,b)))else some (.inl ((w64 (b-(d.Staves.length:Int))),(w64 (a+1))))else some (.inr (.inr ()))) B64 (x2,0)).bind fun e=>(match e with|.inl ⟨x7,x8⟩=>some (x7,x8,0)|.inr _=>some (0,0,2))
theorem ok53 {k} (d) (a:Z0) (x2:Int):OD k (d+1) 53 [.agg (Z0.g a),i64 x2]=(F53 a x2).map (fun⟨i,j,l⟩=>.tup [i64 i,i64 j,i64 l]):=by
 rw[od (fn:=p53) rfl rfl rfl]
 refine io (lf rfl) ?_
 refine bz lm ?_
 refine bo (aH (S:=Int×Int) (enc:=fun⟨b,c⟩=>(Q [(1,i64 b),(12,.is 6 (I Zj.g a.Parts)),(13,i64 (a.Parts.length:Int)),(14,i64 c)] [(0,.box (Z0.g a))])) (encE:=(fun|.inl ⟨e,f⟩=>(rq [(4,i64 e),(5,i64 f),(6,i64 0)] [(0,.box (Z0.g a))])|.inr _=>(xq 0 [] [(0,.box (Z0.g a))]))) (fun⟨b,c⟩=>?_) B64 (x2,0)) fun h=>?_
 refine io ?_ (lf rfl)
 refine bo rg fun m=>?_
 refine bz lm ?_
 refine io (lf rfl) ?_
 refine bz lm ?_
 exact lf rfl
 rcases h with⟨e,f⟩|_
 exact lf rfl
 exact lf rfl
def F116 (a:Zh) (x2:Int):Option Bool:=
 (F79 a).bind fun⟨b,d⟩=>(F98 (w64 (b+x2)) 0 127).bind fun c=>some (!c)
theorem ok116 {k} (d) (a:Zh) (x2:Int):OD k (d+5) 116 [.agg (Zh.g a),.ip [i64 x2]]=(F116 a x2).map (fun c=>bv c):=by
 rw[od (fn:=p116) rfl rfl rfl]
 refine bo (ok79 d a) fun⟨b,e⟩=>?_
 refine bo (ok98 (d+3) (w64 (b+x2)) 0 127) fun f=>?_
 exact lf rfl
def F118 (a:Zb) (x2:Int):Option Bool:=
 (F116 a.Pitch x2).bind fun b=>some b
theorem ok118 {k} (d) (a:Zb) (x2:Int):OD k (d+6) 118 [.agg (Zb.g a),.ip [.fn 116 [] [.ip [i64 x2]]]]=(F118 a x2).map (fun b=>bv b):=by
 rw[od (fn:=p118) rfl rfl rfl]
 refine bo (ok116 d a.Pitch x2) fun c=>?_
 exact lf rfl
def F176 (b:List Zb) (x2:Int):Option Int:=
 (aO (E:=Int⊕Unit) (fun(a:Int)=>if decide (a<(b.length:Int))then(lget b a).bind fun c=>(F118 c x2).bind fun d=>if d then some (.inr (.inl a))else some (.inl (w64 (a+1)))else some (.inr (.inr ()))) B64 0).bind fun e=>(match e with|.inl x8=>some x8|.inr _=>some (-1))
theorem ok176 {k} (d) (a:List Zb) (x2:Int):OD k (d+7) 176 [.is 5 (I Zb.g a),.fn 118 [] [.ip [.fn 116 [] [.ip [i64 x2]]]]]=(F176 a x2).map (fun h=>i64 h):=by
 rw[od (fn:=p176) rfl rfl rfl]
 refine bz lm ?_
 refine bo (aH (S:=Int) (enc:=fun b=>(Q [(0,.is 5 (I Zb.g a)),(1,.fn 118 [] [.ip [.fn 116 [] [.ip [i64 x2]]]]),(7,i64 (a.length:Int)),(8,i64 b)] [])) (encE:=(fun|.inl c=>(rq [(4,i64 c)] [])|.inr _=>(xq 0 [] []))) (fun b=>?_) B64 0) fun f=>?_
 refine io ?_ (lf rfl)
 refine bo rg fun e=>?_
 refine bo (ok118 d e x2) fun i=>?_
 refine io (lf rfl) (lf rfl)
 rcases f with c|_
 exact lf rfl
 exact lf rfl
def F117 (a:List Zb) (x2:Int):Option Bool:=
 (F176 a x2).bind fun b=>some (decide (b>=0))
theorem ok117 {k} (d) (a:List Zb) (x2:Int):OD k (d+8) 117 [.is 5 (I Zb.g a),.fn 118 [] [.ip [.fn 116 [] [.ip [i64 x2]]]]]=(F117 a x2).map (fun b=>bv b):=by
 rw[od (fn:=p117) rfl rfl rfl]
 refine bo (ok176 d a x2) fun c=>?_
 exact lf rfl
def F120 (a:Zd) (x2:Int):Option Bool:=
 (F116 a.Pitch x2).bind fun b=>some b
theorem ok120 {k} (d) (a:Zd) (x2:Int):OD k (d+6) 120 [.agg (Zd.g a),.ip [.fn 116 [] [.ip [i64 x2]]]]=(F120 a x2).map (fun b=>bv b):=by
 rw[od (fn:=p120) rfl rfl rfl]
 refine bo (ok116 d a.Pitch x2) fun c=>?_
 exact lf rfl
def F177 (b:List Zd) (x2:Int):Option Int:=
 (aO (E:=Int⊕Unit) (fun(a:Int)=>if decide (a<(b.length:Int))then(lget b a).bind fun c=>(F120 c x2).bind fun d=>if d then some (.inr (.inl a))else some (.inl (w64 (a+1)))else some (.inr (.inr ()))) B64 0).bind fun e=>(match e with|.inl x8=>some x8|.inr _=>some (-1))
theorem ok177 {k} (d) (a:List Zd) (x2:Int):OD k (d+7) 177 [.is 5 (I Zd.g a),.fn 120 [] [.ip [.fn 116 [] [.ip [i64 x2]]]]]=(F177 a x2).map (fun h=>i64 h):=by
 rw[od (fn:=p177) rfl rfl rfl]
 refine bz lm ?_
 refine bo (aH (S:=Int) (enc:=fun b=>(Q [(0,.is 5 (I Zd.g a)),(1,.fn 120 [] [.ip [.fn 116 [] [.ip [i64 x2]]]]),(7,i64 (a.length:Int)),(8,i64 b)] [])) (encE:=(fun|.inl c=>(rq [(4,i64 c)] [])|.inr _=>(xq 0 [] []))) (fun b=>?_) B64 0) fun f=>?_
 refine io ?_ (lf rfl)
 refine bo rg fun e=>?_
 refine bo (ok120 d e x2) fun i=>?_
 refine io (lf rfl) (lf rfl)
 rcases f with c|_
 exact lf rfl
 exact lf rfl
def F119 (a:List Zd) (x2:Int):Option Bool:=
 (F177 a x2).bind fun b=>some (decide (b>=0))
theorem ok119 {k} (d) (a:List Zd) (x2:Int):OD k (d+8) 119 [.is 5 (I Zd.g a),.fn 120 [] [.ip [.fn 116 [] [.ip [i64 x2]]]]]=(F119 a x2).map (fun b=>bv b):=by
 rw[od (fn:=p119) rfl rfl rfl]
 refine bo (ok177 d a x2) fun c=>?_
 exact lf rfl
def F115 (g:Zp) (x2:Ze) (e:Zk):Option Bool:=
 (F114 x2).bind fun h=>if h !=0 then some false else(F53 e.s' g.Staff).bind fun⟨i,l,j⟩=>((if j==0 then(lget e.s'.Parts i).bind fun k=>some k.Transpose.Semitones else some 0:Option (Int))).bind fun f=>((if e.s'.Written then some (w64 (0-f))else some f:Option (Int))).bind fun a=>(F117 x2.Heads a).bind fun b=>((if b then some true else(F119 x2.Graces a).bind fun c=>some c:Option (Bool))).bind fun d=>some d
theorem ok115 {k} (d) (b:Zp) (x2:Ze) (c:Zk):OD k (d+9) 115 [.agg (Zp.g b),.agg (Ze.g x2),.ip [.ip (Zk.g c)]]=(F115 b x2 c).map (fun l=>bv l):=by
 rw[od (fn:=p115) rfl rfl rfl]
 refine bo (ok114 d x2) fun m=>?_
 refine io (lf rfl) ?_
 refine bo (ok53 (d+7) c.s' b.Staff) fun⟨n,o,p⟩=>?_
 refine bo (e:=(fun(f:Int)=>(nq [(2,.ip [.ip (Zk.g c)]),(4,.ref 1 0),(6,.ref 2 0)] [(2,.box [i64 f]),(1,.box (Ze.g x2)),(0,.box (Zp.g b))]))) ?_ fun f=>?_
 refine io ?_ (lf rfl)
 refine bo rg fun q=>?_
 exact lf rfl
 refine bo (e:=(fun(a:Int)=>(nq [(4,.ref 1 0),(6,.ref 2 0)] [(2,.box [i64 a]),(1,.box (Ze.g x2)),(0,.box (Zp.g b))]))) ?_ fun a=>?_
 refine io (lf rfl) (lf rfl)
 refine bo (ok117 d x2.Heads a) fun h=>?_
 refine bo (e:=id) ?_ fun j=>?_
 refine io (lf rfl) ?_
 refine bo (ok119 d x2.Graces a) fun i=>?_
 exact lf rfl
 exact lf rfl
def Fn112_2 (t:List Zv) (x2:Z0) (s:Int):Option (List Zv):=
 (aO (E:=List Zv) (fun(⟨c,m⟩:Int×(List Zv))=>if decide (c<(x2.Measures.length:Int))then(lget x2.Measures c).bind fun n=>(aO (E:=List Zv) (fun(⟨d,o⟩:Int×(List Zv))=>if decide (d<(n.Cells.length:Int))then(lget n.Cells d).bind fun p=>(aO (E:=List Zv) (fun(⟨e,q⟩:Int×(List Zv))=>if decide (e<(p.Voices.length:Int))then(lget p.Voices e).bind fun r=>(aO (E:=List Zv) (fun(⟨a,b⟩:Int×(List Zv))=>if decide (a<(r.Events.length:Int))then(lget r.Events a).bind fun f=>(F115 (Zp.mk 4 0 d c e a 0) f (Zk.mk x2 s b)).bind fun g=>(Fn96 g f.ID b x2 s).bind fun h=>some (.inl ((w64 (a+1)),h))else some (.inr b)) B64 (0,q)).bind fun i=>some (.inl ((w64 (e+1)),i))else some (.inr q)) B64 (0,o)).bind fun j=>some (.inl ((w64 (d+1)),j))else some (.inr o)) B64 (0,m)).bind fun k=>some (.inl ((w64 (c+1)),k))else some (.inr m)) B64 (0,t)).bind fun l=>some l
theorem okn112_2 {k} (d) (w:List Zv) (x2:Z0) (h:Int):runR (XD k (d+10)) 112 [.ref 1 0,.fn 115 [] [.ref 3 0]] [(3,.box [.ref 1 0]),(2,.lst 147 3 false (I Zv.g w)),(1,.box (ck x2 h (.own 2)))] 4 false=(Fn112_2 w x2 h).map (fun(v:List Zv)=>((.tup [],[(3,.box [.ref 1 0]),(2,.lst 147 3 false (I Zv.g v)),(1,.box (ck x2 h (.own 2)))],0))):=by
 rw[xd (fn:=p112) rfl]
 refine bz lm ?_
 refine bo (aH (S:=Int×(List Zv)) (enc:=fun⟨b,r⟩=>(Q [(0,.ref 1 0),(1,.fn 115 [] [.ref 3 0]),(16,.is 22 (I Zm.g x2.Measures)),(17,i64 (x2.Measures.length:Int)),(18,i64 b)] [(3,.box [.ref 1 0]),(2,.lst 147 3 false (I Zv.g r)),(1,.box (ck x2 h (.own 2)))])) (encE:=(fun(q:List Zv)=>(xq 0 [] [(3,.box [.ref 1 0]),(2,.lst 147 3 false (I Zv.g q)),(1,.box (ck x2 h (.own 2)))]))) (fun⟨b,r⟩=>?_) B64 (0,w)) fun q=>?_
 refine io ?_ (lf rfl)
 refine bo rg fun a=>?_
 refine bz lm ?_
 refine bo (aH (S:=Int×(List Zv)) (enc:=fun⟨c,s⟩=>(Q [(0,.ref 1 0),(1,.fn 115 [] [.ref 3 0]),(4,i64 b),(16,.is 22 (I Zm.g x2.Measures)),(17,i64 (x2.Measures.length:Int)),(18,i64 b),(24,.is 2 (I Zw.g a.Cells)),(25,i64 (a.Cells.length:Int)),(26,i64 c)] [(4,.box (Zm.g a)),(3,.box [.ref 1 0]),(2,.lst 147 3 false (I Zv.g s)),(1,.box (ck x2 h (.own 2)))])) (encE:=(fun(p:List Zv)=>(xq 2 [(0,.ref 1 0),(1,.fn 115 [] [.ref 3 0]),(16,.is 22 (I Zm.g x2.Measures)),(17,i64 (x2.Measures.length:Int)),(18,i64 b)] [(4,.box (Zm.g a)),(3,.box [.ref 1 0]),(2,.lst 147 3 false (I Zv.g p)),(1,.box (ck x2 h (.own 2)))]))) (fun⟨c,s⟩=>?_) B64 (0,r)) fun p=>?_
 refine io ?_ (lf rfl)
 refine bo rg fun e=>?_
 refine bz lm ?_
 refine bo (aH (S:=Int×(List Zv)) (enc:=fun⟨i,t⟩=>(Q [(0,.ref 1 0),(1,.fn 115 [] [.ref 3 0]),(4,i64 b),(6,i64 c),(16,.is 22 (I Zm.g x2.Measures)),(17,i64 (x2.Measures.length:Int)),(18,i64 b),(24,.is 2 (I Zw.g a.Cells)),(25,i64 (a.Cells.length:Int)),(26,i64 c),(32,.is 2 (I Zo.g e.Voices)),(33,i64 (e.Voices.length:Int)),(34,i64 i)] [(5,.box (Zw.g e)),(4,.box (Zm.g a)),(3,.box [.ref 1 0]),(2,.lst 147 3 false (I Zv.g t)),(1,.box (ck x2 h (.own 2)))])) (encE:=(fun(o:List Zv)=>(xq 4 [(0,.ref 1 0),(1,.fn 115 [] [.ref 3 0]),(4,i64 b),(16,.is 22 (I Zm.g x2.Measures)),(17,i64 (x2.Measures.length:Int)),(18,i64 b),(24,.is 2 (I Zw.g a.Cells)),(25,i64 (a.Cells.length:Int)),(26,i64 c)] [(5,.box (Zw.g e)),(4,.box (Zm.g a)),(3,.box [.ref 1 0]),(2,.lst 147 3 false (I Zv.g o)),(1,.box (ck x2 h (.own 2)))]))) (fun⟨i,t⟩=>?_) B64 (0,s)) fun o=>?_
 refine io ?_ (lf rfl)
 refine bo rg fun l=>?_
 refine bz lm ?_
 refine bo (aH (S:=Int×(List Zv)) (enc:=fun⟨j,f⟩=>(Q [(0,.ref 1 0),(1,.fn 115 [] [.ref 3 0]),(4,i64 b),(6,i64 c),(8,i64 i),(16,.is 22 (I Zm.g x2.Measures)),(17,i64 (x2.Measures.length:Int)),(18,i64 b),(24,.is 2 (I Zw.g a.Cells)),(25,i64 (a.Cells.length:Int)),(26,i64 c),(32,.is 2 (I Zo.g e.Voices)),(33,i64 (e.Voices.length:Int)),(34,i64 i),(40,.is 13 (I Ze.g l.Events)),(41,i64 (l.Events.length:Int)),(42,i64 j)] [(6,.box (Zo.g l)),(5,.box (Zw.g e)),(4,.box (Zm.g a)),(3,.box [.ref 1 0]),(2,.lst 147 3 false (I Zv.g f)),(1,.box (ck x2 h (.own 2)))])) (encE:=(fun(n:List Zv)=>(xq 6 [(0,.ref 1 0),(1,.fn 115 [] [.ref 3 0]),(4,i64 b),(6,i64 c),(16,.is 22 (I Zm.g x2.Measures)),(17,i64 (x2.Measures.length:Int)),(18,i64 b),(24,.is 2 (I Zw.g a.Cells)),(25,i64 (a.Cells.length:Int)),(26,i64 c),(32,.is 2 (I Zo.g e.Voices)),(33,i64 (e.Voices.length:Int)),(34,i64 i)] [(6,.box (Zo.g l)),(5,.box (Zw.g e)),(4,.box (Zm.g a)),(3,.box [.ref 1 0]),(2,.lst 147 3 false (I Zv.g n)),(1,.box (ck x2 h (.own 2)))]))) (fun⟨j,f⟩=>?_) B64 (0,t)) fun n=>?_
 refine io ?_ (lf rfl)
 refine bo rg fun m=>?_
 refine bo (ok115 d (Zp.mk 4 0 c b i j 0) m (Zk.mk x2 h f)) fun u=>?_
 refine bo (okn96 (d+8) u m.ID f x2 h) fun x=>?_
 exact lf rfl
 exact lf rfl
 exact lf rfl
 exact lf rfl
 exact lf rfl
def Fn67 (a:List Zv) (x2:Z0) (b:Int):Option (List Zv):=
 (Fn112_2 a x2 b).bind fun c=>some c
theorem okn67 {k} (d) (b:List Zv) (x2:Z0) (a:Int):runR (XD k (d+11)) 67 [.ref 1 0] [(2,.lst 147 3 false (I Zv.g b)),(1,.box (ck x2 a (.own 2)))] 3 false=(Fn67 b x2 a).map (fun(c:List Zv)=>((.tup [],[(2,.lst 147 3 false (I Zv.g c)),(1,.box (ck x2 a (.own 2)))],0))):=by
 rw[xd (fn:=p67) rfl]
 refine bo (okn112_2 d b x2 a) fun e=>?_
 exact lf rfl
def F178 (a:Zb):Option Bool:=
 some a.Tied
theorem ok178 {k} (d) (a:Zb):OD k (d+1) 178 [.agg (Zb.g a)]=(F178 a).map (fun b=>bv b):=by
 rw[od (fn:=p178) rfl rfl rfl]
 exact lf rfl
def F176_2 (b:List Zb):Option Int:=
 (aO (E:=Int⊕Unit) (fun(a:Int)=>if decide (a<(b.length:Int))then(lget b a).bind fun c=>(F178 c).bind fun d=>if d then some (.inr (.inl a))else some (.inl (w64 (a+1)))else some (.inr (.inr ()))) B64 0).bind fun e=>(match e with|.inl x7=>some x7|.inr _=>some (-1))
theorem ok176_2 {k} (d) (a:List Zb):OD k (d+2) 176 [.is 5 (I Zb.g a),.fn 178 [] []]=(F176_2 a).map (fun h=>i64 h):=by
 rw[od (fn:=p176) rfl rfl rfl]
 refine bz lm ?_
 refine bo (aH (S:=Int) (enc:=fun b=>(Q [(0,.is 5 (I Zb.g a)),(1,.fn 178 [] []),(7,i64 (a.length:Int)),(8,i64 b)] [])) (encE:=(fun|.inl c=>(rq [(4,i64 c)] [])|.inr _=>(xq 0 [] []))) (fun b=>?_) B64 0) fun f=>?_
 refine io ?_ (lf rfl)
 refine bo rg fun e=>?_
 refine bo (ok178 d e) fun i=>?_
 refine io (lf rfl) (lf rfl)
 rcases f with c|_
 exact lf rfl
 exact lf rfl
def F117_2 (a:List Zb):Option Bool:=
 (F176_2 a).bind fun x2=>some (decide (x2>=0))
theorem ok117_2 {k} (d) (a:List Zb):OD k (d+3) 117 [.is 5 (I Zb.g a),.fn 178 [] []]=(F117_2 a).map (fun b=>bv b):=by
 rw[od (fn:=p117) rfl rfl rfl]
 refine bo (ok176_2 d a) fun x2=>?_
 exact lf rfl
def F122 (a:Ze):Option Bool:=
 ((if a.Kind==1 then(F117_2 a.Heads).bind fun x2=>some x2 else some false:Option (Bool))).bind fun b=>some b
theorem ok122 {k} (d) (a:Ze):OD k (d+4) 122 [.agg (Ze.g a)]=(F122 a).map (fun b=>bv b):=by
 rw[od (fn:=p122) rfl rfl rfl]
 refine bo (e:=id) ?_ fun c=>?_
 refine io ?_ (lf rfl)
 refine bo (ok117_2 d a.Heads) fun x2=>?_
 exact lf rfl
 exact lf rfl
def F180 (a:Z0) (x2 b f:Int):Option (List Ze):=
 ((if((decide (x2<0))||(decide (x2>=(a.Measures.length:Int))))||(decide (b<0))then some true else(lget a.Measures x2).bind fun g=>some (decide (b>=(g.Cells.length:Int))):Option (Bool))).bind fun h=>((if h||(decide (f<0))then some true else(lget a.Measures x2).bind fun i=>(lget i.Cells b).bind fun j=>some (decide (f>=(j.Voices.length:Int))):Option (Bool))).bind fun k=>if k then some []else(lget a.Measures x2).bind fun c=>(lget c.Cells b).bind fun d=>(lget d.Voices f).bind fun e=>some e.Events
theorem ok180 {k} (d) (a:Z0) (x2 b c:Int):OD k (d+1) 180 [.agg (Z0.g a),i64 x2,i64 b,i64 c]=(F180 a x2 b c).map (fun j=>.is 13 (I Ze.g j)):=by
 rw[od (fn:=p180) rfl rfl rfl]
 refine bz (gor (bz lm rfl)) ?_
 refine bz (gor rfl) ?_
 refine bo (e:=id) ?_ fun m=>?_
 refine io (lf rfl) ?_
 refine bo rg fun l=>?_
 refine bz lm ?_
 exact lf rfl
 refine bz (gor rfl) ?_
 refine bo (e:=id) ?_ fun p=>?_
 refine io (lf rfl) ?_
 refine bo rg fun n=>?_
 refine bo rg fun o=>?_
 refine bz lm ?_
 exact lf rfl
 refine io (lf rfl) ?_
 refine bo rg fun f=>?_
 refine bo rg fun h=>?_
 refine bo rg fun i=>?_
 exact lf rfl
def F179 (a:Z0) (x2:Zp):Option Int:=
 if x2.Kind !=4 then some 11 else((if decide (x2.Event<0)then some true else(F180 a x2.Measure x2.Staff x2.Voice).bind fun b=>some (decide (x2.Event>=(b.length:Int))):Option (Bool))).bind fun c=>if c then some 2 else some 0
theorem ok179 {k} (d) (a:Z0) (x2:Zp):OD k (d+2) 179 [.agg (Z0.g a),.agg (Zp.g x2)]=(F179 a x2).map (fun b=>i64 b):=by
 rw[od (fn:=p179) rfl rfl rfl]
 refine io (lf rfl) ?_
 refine bo (e:=id) ?_ fun f=>?_
 refine io (lf rfl) ?_
 refine bo (ok180 d a x2.Measure x2.Staff x2.Voice) fun c=>?_
 refine bz lm ?_
 exact lf rfl
 refine io (lf rfl) (lf rfl)
def F181 (a x2:Int) (b c:Int):Option Zp:=
 some (Zp.mk 4 0 x2 a b c 0)
theorem ok181 {k} (d) (a x2:Int) (b c:Int):OD k (d+1) 181 [i64 a,i64 x2,i64 b,i64 c]=(F181 a x2 b c).map (fun e=>.agg (Zp.g e)):=by
 rw[od (fn:=p181) rfl rfl rfl]
 exact lf rfl
def F123 (a:Z0) (x2:Zp):Option (Zp×Bool):=
 (F179 a x2).bind fun b=>if b !=0 then some ((Zp.mk 0 0 0 0 0 0 0),false)else(F180 a x2.Measure x2.Staff x2.Voice).bind fun c=>if decide ((w64 (x2.Event+1))<(c.length:Int))then(F181 x2.Measure x2.Staff x2.Voice (w64 (x2.Event+1))).bind fun d=>some (d,true)else(F180 a (w64 (x2.Measure+1)) x2.Staff x2.Voice).bind fun e=>if decide ((e.length:Int)>0)then(F181 (w64 (x2.Measure+1)) x2.Staff x2.Voice 0).bind fun f=>some (f,true)else some ((Zp.mk 0 0 0 0 0 0 0),false)
theorem ok123 {k} (d) (a:Z0) (x2:Zp):OD k (d+3) 123 [.agg (Z0.g a),.agg (Zp.g x2)]=(F123 a x2).map (fun⟨b,c⟩=>.tup [.agg (Zp.g b),bv c]):=by
 rw[od (fn:=p123) rfl rfl rfl]
 refine bo (ok179 d a x2) fun e=>?_
 refine io (lf rfl) ?_
 refine bo (ok180 (d+1) a x2.Measure x2.Staff x2.Voice) fun f=>?_
 refine bz lm ?_
 refine io ?_ ?_
 refine bo (ok181 (d+1) x2.Measure x2.Staff x2.Voice (w64 (x2.Event+1))) fun h=>?_
 exact lf rfl
 refine bo (ok180 (d+1) a (w64 (x2.Measure+1)) x2.Staff x2.Voice) fun i=>?_
 refine bz lm ?_
 refine io ?_ (lf rfl)
 refine bo (ok181 (d+1) (w64 (x2.Measure+1)) x2.Staff x2.Voice 0) fun j=>?_
 exact lf rfl
def F140 (a:Ze):Option Ze:=
 (nP a.Heads).bind fun x2=>(nP a.Graces).bind fun b=>(nP a.Lyrics).bind fun c=>some (Ze.mk a.ID a.Kind a.Value x2 b a.Articulations a.Ornament a.Dynamic c a.Stem a.Beam)
theorem ok140 {k} (d) (a:Ze):OD k (d+2) 140 [.agg (Ze.g a)]=(F140 a).map (fun b=>.agg (Ze.g b)):=by
 rw[od (fn:=p140) rfl rfl rfl]
 refine bo (kP 196 (d+1) 5 _ _ rfl rfl rfl) fun x2=>?_
 refine bo (kP 197 (d+1) 5 _ _ rfl rfl rfl) fun c=>?_
 refine bo (kP 198 (d+1) 2 _ _ rfl rfl rfl) fun e=>?_
 exact lf rfl
def F124 (a:Z0) (x2:Zp):Option (Ze×Int):=
 (F179 a x2).bind fun b=>if b !=0 then some ((Ze.mk (Zz.mk 0 0) 0 (Za.mk 0 0) [] [] 0 0 0 [] 0 0),b)else(F180 a x2.Measure x2.Staff x2.Voice).bind fun c=>(lget c x2.Event).bind fun d=>(F140 d).bind fun e=>some (e,0)
theorem ok124 {k} (d) (a:Z0) (x2:Zp):OD k (d+3) 124 [.agg (Z0.g a),.agg (Zp.g x2)]=(F124 a x2).map (fun⟨c,e⟩=>.tup [.agg (Ze.g c),i64 e]):=by
 rw[od (fn:=p124) rfl rfl rfl]
 refine bo (ok179 d a x2) fun f=>?_
 refine io (lf rfl) ?_
 refine bo (ok180 (d+1) a x2.Measure x2.Staff x2.Voice) fun h=>?_
 refine bo rg fun b=>?_
 refine bo (ok140 d b) fun i=>?_
 exact lf rfl
def F182 (a x2:Zb):Option Bool:=
 some (((a.Pitch.Step==x2.Pitch.Step)&&((a.Pitch.Alter==x2.Pitch.Alter)&&((a.Pitch.Octave==x2.Pitch.Octave)&&true)))!=false)
theorem ok182 {k} (d) (a x2:Zb):OD k (d+1) 182 [.agg (Zb.g a),.ip (Zb.g x2)]=(F182 a x2).map (fun b=>bv b):=by
 rw[od (fn:=p182) rfl rfl rfl]
 exact lf rfl
def F176_3 (b:List Zb) (x2:Zb):Option Int:=
 (aO (E:=Int⊕Unit) (fun(a:Int)=>if decide (a<(b.length:Int))then(lget b a).bind fun c=>(F182 c x2).bind fun d=>if d then some (.inr (.inl a))else some (.inl (w64 (a+1)))else some (.inr (.inr ()))) B64 0).bind fun e=>(match e with|.inl x8=>some x8|.inr _=>some (-1))
theorem ok176_3 {k} (d) (a:List Zb) (x2:Zb):OD k (d+2) 176 [.is 5 (I Zb.g a),.fn 182 [] [.ip (Zb.g x2)]]=(F176_3 a x2).map (fun h=>i64 h):=by
 rw[od (fn:=p176) rfl rfl rfl]
 refine bz lm ?_
 refine bo (aH (S:=Int) (enc:=fun b=>(Q [(0,.is 5 (I Zb.g a)),(1,.fn 182 [] [.ip (Zb.g x2)]),(7,i64 (a.length:Int)),(8,i64 b)] [])) (encE:=(fun|.inl c=>(rq [(4,i64 c)] [])|.inr _=>(xq 0 [] []))) (fun b=>?_) B64 0) fun f=>?_
 refine io ?_ (lf rfl)
 refine bo rg fun e=>?_
 refine bo (ok182 d e x2) fun i=>?_
 refine io (lf rfl) (lf rfl)
 rcases f with c|_
 exact lf rfl
 exact lf rfl
def F117_3 (a:List Zb) (x2:Zb):Option Bool:=
 (F176_3 a x2).bind fun b=>some (decide (b>=0))
theorem ok117_3 {k} (d) (a:List Zb) (x2:Zb):OD k (d+3) 117 [.is 5 (I Zb.g a),.fn 182 [] [.ip (Zb.g x2)]]=(F117_3 a x2).map (fun b=>bv b):=by
 rw[od (fn:=p117) rfl rfl rfl]
 refine bo (ok176_3 d a x2) fun c=>?_
 exact lf rfl
def F125 (a x2:Ze):Option Bool:=
 if a.Kind !=1 then some true else(aO (E:=Unit⊕Unit) (fun(e:Int)=>if decide (e<(a.Heads.length:Int))then(lget a.Heads e).bind fun f=>((if f.Tied then((if x2.Kind==1 then(F117_3 x2.Heads f).bind fun g=>some g else some false:Option (Bool))).bind fun b=>some (!b)else some false:Option (Bool))).bind fun c=>if c then some (.inr (.inl ()))else some (.inl (w64 (e+1)))else some (.inr (.inr ()))) B64 0).bind fun d=>(match d with|.inl _=>some false|.inr _=>some true)
theorem ok125 {k} (d) (a x2:Ze):OD k (d+4) 125 [.agg (Ze.g a),.agg (Ze.g x2)]=(F125 a x2).map (fun j=>bv j):=by
 rw[od (fn:=p125) rfl rfl rfl]
 refine io (lf rfl) ?_
 refine bz lm ?_
 refine bo (aH (S:=Int) (enc:=fun c=>(Q [(3,.ref 1 0),(11,.is 5 (I Zb.g a.Heads)),(12,i64 (a.Heads.length:Int)),(13,i64 c)] [(1,.box (Ze.g x2)),(0,.box (Ze.g a))])) (encE:=(fun|.inl _=>(rq [(4,bv false)] [(1,.box (Ze.g x2)),(0,.box (Ze.g a))])|.inr _=>(xq 0 [] [(1,.box (Ze.g x2)),(0,.box (Ze.g a))]))) (fun c=>?_) B64 0) fun b=>?_
 refine io ?_ (lf rfl)
 refine bo rg fun i=>?_
 refine bo (e:=id) ?_ fun h=>?_
 refine io ?_ (lf rfl)
 refine bo (e:=id) ?_ fun f=>?_
 refine io ?_ (lf rfl)
 refine bo (ok117_3 d x2.Heads i) fun l=>?_
 exact lf rfl
 exact lf rfl
 refine io (lf rfl) (lf rfl)
 rcases b with _|_
 exact lf rfl
 exact lf rfl
def F121 (c:Zp) (x2:Ze) (b:Zk):Option Bool:=
 (F122 x2).bind fun d=>if !d then some false else(F123 b.s' c).bind fun⟨e,f⟩=>(F124 b.s' e).bind fun⟨g,i⟩=>((if !f then some true else(F125 x2 g).bind fun h=>some (!h):Option (Bool))).bind fun a=>some a
theorem ok121 {k} (d) (b:Zp) (x2:Ze) (a:Zk):OD k (d+5) 121 [.agg (Zp.g b),.agg (Ze.g x2),.ip [.ip (Zk.g a)]]=(F121 b x2 a).map (fun i=>bv i):=by
 rw[od (fn:=p121) rfl rfl rfl]
 refine bo (ok122 d x2) fun j=>?_
 refine io (lf rfl) ?_
 refine bo (ok123 (d+1) a.s' b) fun⟨f,l⟩=>?_
 refine bo (ok124 (d+1) a.s' f) fun⟨h,m⟩=>?_
 refine bo (e:=id) ?_ fun c=>?_
 refine io (lf rfl) ?_
 refine bo (ok125 d x2 h) fun n=>?_
 exact lf rfl
 exact lf rfl
def Fn112_3 (t:List Zv) (x2:Z0) (s:Int):Option (List Zv):=
 (aO (E:=List Zv) (fun(⟨c,m⟩:Int×(List Zv))=>if decide (c<(x2.Measures.length:Int))then(lget x2.Measures c).bind fun n=>(aO (E:=List Zv) (fun(⟨d,o⟩:Int×(List Zv))=>if decide (d<(n.Cells.length:Int))then(lget n.Cells d).bind fun p=>(aO (E:=List Zv) (fun(⟨e,q⟩:Int×(List Zv))=>if decide (e<(p.Voices.length:Int))then(lget p.Voices e).bind fun r=>(aO (E:=List Zv) (fun(⟨a,b⟩:Int×(List Zv))=>if decide (a<(r.Events.length:Int))then(lget r.Events a).bind fun f=>(F121 (Zp.mk 4 0 d c e a 0) f (Zk.mk x2 s b)).bind fun g=>(Fn96 g f.ID b x2 s).bind fun h=>some (.inl ((w64 (a+1)),h))else some (.inr b)) B64 (0,q)).bind fun i=>some (.inl ((w64 (e+1)),i))else some (.inr q)) B64 (0,o)).bind fun j=>some (.inl ((w64 (d+1)),j))else some (.inr o)) B64 (0,m)).bind fun k=>some (.inl ((w64 (c+1)),k))else some (.inr m)) B64 (0,t)).bind fun l=>some l
theorem okn112_3 {k} (d) (w:List Zv) (x2:Z0) (h:Int):runR (XD k (d+6)) 112 [.ref 1 0,.fn 121 [] [.ref 3 0]] [(3,.box [.ref 1 0]),(2,.lst 147 3 false (I Zv.g w)),(1,.box (ck x2 h (.own 2)))] 4 false=(Fn112_3 w x2 h).map (fun(v:List Zv)=>((.tup [],[(3,.box [.ref 1 0]),(2,.lst 147 3 false (I Zv.g v)),(1,.box (ck x2 h (.own 2)))],0))):=by
 rw[xd (fn:=p112) rfl]
 refine bz lm ?_
 refine bo (aH (S:=Int×(List Zv)) (enc:=fun⟨b,r⟩=>(Q [(0,.ref 1 0),(1,.fn 121 [] [.ref 3 0]),(16,.is 22 (I Zm.g x2.Measures)),(17,i64 (x2.Measures.length:Int)),(18,i64 b)] [(3,.box [.ref 1 0]),(2,.lst 147 3 false (I Zv.g r)),(1,.box (ck x2 h (.own 2)))])) (encE:=(fun(q:List Zv)=>(xq 0 [] [(3,.box [.ref 1 0]),(2,.lst 147 3 false (I Zv.g q)),(1,.box (ck x2 h (.own 2)))]))) (fun⟨b,r⟩=>?_) B64 (0,w)) fun q=>?_
 refine io ?_ (lf rfl)
 refine bo rg fun a=>?_
 refine bz lm ?_
 refine bo (aH (S:=Int×(List Zv)) (enc:=fun⟨c,s⟩=>(Q [(0,.ref 1 0),(1,.fn 121 [] [.ref 3 0]),(4,i64 b),(16,.is 22 (I Zm.g x2.Measures)),(17,i64 (x2.Measures.length:Int)),(18,i64 b),(24,.is 2 (I Zw.g a.Cells)),(25,i64 (a.Cells.length:Int)),(26,i64 c)] [(4,.box (Zm.g a)),(3,.box [.ref 1 0]),(2,.lst 147 3 false (I Zv.g s)),(1,.box (ck x2 h (.own 2)))])) (encE:=(fun(p:List Zv)=>(xq 2 [(0,.ref 1 0),(1,.fn 121 [] [.ref 3 0]),(16,.is 22 (I Zm.g x2.Measures)),(17,i64 (x2.Measures.length:Int)),(18,i64 b)] [(4,.box (Zm.g a)),(3,.box [.ref 1 0]),(2,.lst 147 3 false (I Zv.g p)),(1,.box (ck x2 h (.own 2)))]))) (fun⟨c,s⟩=>?_) B64 (0,r)) fun p=>?_
 refine io ?_ (lf rfl)
 refine bo rg fun e=>?_
 refine bz lm ?_
 refine bo (aH (S:=Int×(List Zv)) (enc:=fun⟨i,t⟩=>(Q [(0,.ref 1 0),(1,.fn 121 [] [.ref 3 0]),(4,i64 b),(6,i64 c),(16,.is 22 (I Zm.g x2.Measures)),(17,i64 (x2.Measures.length:Int)),(18,i64 b),(24,.is 2 (I Zw.g a.Cells)),(25,i64 (a.Cells.length:Int)),(26,i64 c),(32,.is 2 (I Zo.g e.Voices)),(33,i64 (e.Voices.length:Int)),(34,i64 i)] [(5,.box (Zw.g e)),(4,.box (Zm.g a)),(3,.box [.ref 1 0]),(2,.lst 147 3 false (I Zv.g t)),(1,.box (ck x2 h (.own 2)))])) (encE:=(fun(o:List Zv)=>(xq 4 [(0,.ref 1 0),(1,.fn 121 [] [.ref 3 0]),(4,i64 b),(16,.is 22 (I Zm.g x2.Measures)),(17,i64 (x2.Measures.length:Int)),(18,i64 b),(24,.is 2 (I Zw.g a.Cells)),(25,i64 (a.Cells.length:Int)),(26,i64 c)] [(5,.box (Zw.g e)),(4,.box (Zm.g a)),(3,.box [.ref 1 0]),(2,.lst 147 3 false (I Zv.g o)),(1,.box (ck x2 h (.own 2)))]))) (fun⟨i,t⟩=>?_) B64 (0,s)) fun o=>?_
 refine io ?_ (lf rfl)
 refine bo rg fun l=>?_
 refine bz lm ?_
 refine bo (aH (S:=Int×(List Zv)) (enc:=fun⟨j,f⟩=>(Q [(0,.ref 1 0),(1,.fn 121 [] [.ref 3 0]),(4,i64 b),(6,i64 c),(8,i64 i),(16,.is 22 (I Zm.g x2.Measures)),(17,i64 (x2.Measures.length:Int)),(18,i64 b),(24,.is 2 (I Zw.g a.Cells)),(25,i64 (a.Cells.length:Int)),(26,i64 c),(32,.is 2 (I Zo.g e.Voices)),(33,i64 (e.Voices.length:Int)),(34,i64 i),(40,.is 13 (I Ze.g l.Events)),(41,i64 (l.Events.length:Int)),(42,i64 j)] [(6,.box (Zo.g l)),(5,.box (Zw.g e)),(4,.box (Zm.g a)),(3,.box [.ref 1 0]),(2,.lst 147 3 false (I Zv.g f)),(1,.box (ck x2 h (.own 2)))])) (encE:=(fun(n:List Zv)=>(xq 6 [(0,.ref 1 0),(1,.fn 121 [] [.ref 3 0]),(4,i64 b),(6,i64 c),(16,.is 22 (I Zm.g x2.Measures)),(17,i64 (x2.Measures.length:Int)),(18,i64 b),(24,.is 2 (I Zw.g a.Cells)),(25,i64 (a.Cells.length:Int)),(26,i64 c),(32,.is 2 (I Zo.g e.Voices)),(33,i64 (e.Voices.length:Int)),(34,i64 i)] [(6,.box (Zo.g l)),(5,.box (Zw.g e)),(4,.box (Zm.g a)),(3,.box [.ref 1 0]),(2,.lst 147 3 false (I Zv.g n)),(1,.box (ck x2 h (.own 2)))]))) (fun⟨j,f⟩=>?_) B64 (0,t)) fun n=>?_
 refine io ?_ (lf rfl)
 refine bo rg fun m=>?_
 refine bo (ok121 d (Zp.mk 4 0 c b i j 0) m (Zk.mk x2 h f)) fun u=>?_
 refine bo (okn96 (d+4) u m.ID f x2 h) fun x=>?_
 exact lf rfl
 exact lf rfl
 exact lf rfl
 exact lf rfl
 exact lf rfl
def Fn68 (a:List Zv) (x2:Z0) (b:Int):Option (List Zv):=
 (Fn112_3 a x2 b).bind fun c=>some c
theorem okn68 {k} (d) (b:List Zv) (x2:Z0) (a:Int):runR (XD k (d+7)) 68 [.ref 1 0] [(2,.lst 147 3 false (I Zv.g b)),(1,.box (ck x2 a (.own 2)))] 3 false=(Fn68 b x2 a).map (fun(c:List Zv)=>((.tup [],[(2,.lst 147 3 false (I Zv.g c)),(1,.box (ck x2 a (.own 2)))],0))):=by
 rw[xd (fn:=p68) rfl]
 refine bo (okn112_3 d b x2 a) fun e=>?_
 exact lf rfl
def F183 (a:Ze) (x2:Int):Option Bool:=
 ((if decide (x2>=(a.Lyrics.length:Int))then some true else(lget a.Lyrics x2).bind fun b=>some (((b.Text==(⟨#[]⟩:ByteArray))&&((b.Link==0)&&true))!=false):Option (Bool))).bind fun c=>some c
theorem ok183 {k} (d) (a:Ze) (x2:Int):OD k (d+1) 183 [.agg (Ze.g a),i64 x2]=(F183 a x2).map (fun b=>bv b):=by
 rw[od (fn:=p183) rfl rfl rfl]
 refine bz lm ?_
 refine bo (e:=id) ?_ fun f=>?_
 refine io (lf rfl) ?_
 refine bo rg fun c=>?_
 exact lf rfl
 exact lf rfl
def Fn126 (v x2 T:Int) (V:List (Zp×Bool)) (W:List Zv) (U:Z0) (X:Int):Option (List (Zp×Bool)):=
 (aO (E:=Int×Int×Int×Int×Int×Zy×(List (Zp×Bool))) (fun(⟨e,n,o,p,q,r,s,t⟩:Int×Int×Int×Int×Int×Int×Zy×(List (Zp×Bool)))=>if decide (e<(U.Measures.length:Int))then(lget U.Measures e).bind fun u=>((if decide (v>=(u.Cells.length:Int))then some true else(lget u.Cells v).bind fun P=>some (decide (x2>=(P.Voices.length:Int))):Option (Bool))).bind fun R=>if R then some (.inl ((w64 (e+1)),n,o,p,q,r,s,t))else(lget u.Cells v).bind fun S=>(lget S.Voices x2).bind fun O=>(aO (E:=Int×Int×Int×Int×Int×Zy×(List (Zp×Bool))) (fun(⟨a,f,g,h,i,j,b,c⟩:Int×Int×Int×Int×Int×Int×Zy×(List (Zp×Bool)))=>if decide (a<(O.Events.length:Int))then(lget O.Events a).bind fun k=>(F183 k T).bind fun w=>if w then some (.inl ((w64 (a+1)),f,g,h,i,j,b,c))else(lget k.Lyrics T).bind fun d=>((if(b.Link==1)&&(d.Text.toList==(⟨#[]⟩:ByteArray).toList)then some (mput c (Zp.mk f 0 g h i j 0) true)else some c:Option (List (Zp×Bool)))).bind fun l=>((if((d.Text.toList==(⟨#[]⟩:ByteArray).toList)&&(d.Link==2))&&(b.Link !=2)then some (mput l (Zp.mk 4 0 v e x2 a 0) true)else some l:Option (List (Zp×Bool)))).bind fun x=>some (.inl ((w64 (a+1)),4,v,e,x2,a,d,x))else some (.inr (f,g,h,i,j,b,c))) B64 (0,n,o,p,q,r,s,t)).bind fun⟨y,z,A,B,C,D,F⟩=>some (.inl ((w64 (e+1)),y,z,A,B,C,D,F))else some (.inr (n,o,p,q,r,s,t))) B64 (0,0,0,0,0,0,(Zy.mk (⟨#[]⟩:ByteArray) 0),V)).bind fun⟨G,H,J,K,L,M,m⟩=>((if M.Link==1 then some (mput m (Zp.mk G 0 H J K L 0) true)else some m:Option (List (Zp×Bool)))).bind fun N=>some N
theorem okn126 {k} (d) (y x2 N:Int) (Y:List (Zp×Bool)) (z:List Zv) (c:Z0) (A:Int):runR (XD k (d+2)) 126 [.ref 1 0,i64 y,i64 x2,i64 N,.map 3] [(3,.mp (I (mEnt (eA Zp.g) bv) Y)),(2,.lst 147 3 false (I Zv.g z)),(1,.box (ck c A (.own 2)))] 4 false=(Fn126 y x2 N Y z c A).map (fun(X:List (Zp×Bool))=>((.tup [],[(3,.mp (I (mEnt (eA Zp.g) bv) X)),(2,.lst 147 3 false (I Zv.g z)),(1,.box (ck c A (.own 2)))],0))):=by
 rw[xd (fn:=p126) rfl]
 refine bz lm ?_
 refine bo (aH (S:=Int×Int×Int×Int×Int×Int×Zy×(List (Zp×Bool))) (enc:=fun⟨a,O,P,R,T,U,V,W⟩=>(Q [(1,i64 y),(2,i64 x2),(3,i64 N),(4,.map 3),(10,.ref 4 0),(11,.ref 5 0),(22,.is 22 (I Zm.g c.Measures)),(23,i64 (c.Measures.length:Int)),(24,i64 a)] [(5,.box [i64 O,i64 0,i64 P,i64 R,i64 T,i64 U,i64 0]),(4,.box (Zy.g V)),(3,.mp (I (mEnt (eA Zp.g) bv) W)),(2,.lst 147 3 false (I Zv.g z)),(1,.box (ck c A (.own 2)))])) (encE:=(fun(⟨n,o,p,q,r,w,x⟩:Int×Int×Int×Int×Int×Zy×(List (Zp×Bool)))=>(xq 0 [(4,.map 3),(10,.ref 4 0),(11,.ref 5 0)] [(5,.box [i64 n,i64 0,i64 o,i64 p,i64 q,i64 r,i64 0]),(4,.box (Zy.g w)),(3,.mp (I (mEnt (eA Zp.g) bv) x)),(2,.lst 147 3 false (I Zv.g z)),(1,.box (ck c A (.own 2)))]))) (fun⟨a,O,P,R,T,U,V,W⟩=>?_) B64 (0,0,0,0,0,0,(Zy.mk (⟨#[]⟩:ByteArray) 0),Y)) fun⟨n,o,p,q,r,w,x⟩=>?_
 refine io ?_ (lf rfl)
 refine bo rg fun B=>?_
 refine bz lm ?_
 refine bo (e:=id) ?_ fun b0=>?_
 refine io (lf rfl) ?_
 refine bo rg fun a0=>?_
 refine bz lm ?_
 exact lf rfl
 refine io (lf rfl) ?_
 refine bo rg fun b4=>?_
 refine bo rg fun s=>?_
 refine bz lm ?_
 refine bo (aH (S:=Int×Int×Int×Int×Int×Int×Zy×(List (Zp×Bool))) (enc:=fun⟨b,f,h,i,j,l,m,t⟩=>(Q [(1,i64 y),(2,i64 x2),(3,i64 N),(4,.map 3),(10,.ref 4 0),(11,.ref 5 0),(12,i64 a),(22,.is 22 (I Zm.g c.Measures)),(23,i64 (c.Measures.length:Int)),(24,i64 a),(54,.is 13 (I Ze.g s.Events)),(55,i64 (s.Events.length:Int)),(56,i64 b)] [(6,.box (Zm.g B)),(5,.box [i64 f,i64 0,i64 h,i64 i,i64 j,i64 l,i64 0]),(4,.box (Zy.g m)),(3,.mp (I (mEnt (eA Zp.g) bv) t)),(2,.lst 147 3 false (I Zv.g z)),(1,.box (ck c A (.own 2)))])) (encE:=(fun(⟨E,F,G,H,J,K,L⟩:Int×Int×Int×Int×Int×Zy×(List (Zp×Bool)))=>(xq 2 [(1,i64 y),(2,i64 x2),(3,i64 N),(4,.map 3),(10,.ref 4 0),(11,.ref 5 0),(22,.is 22 (I Zm.g c.Measures)),(23,i64 (c.Measures.length:Int)),(24,i64 a)] [(6,.box (Zm.g B)),(5,.box [i64 E,i64 0,i64 F,i64 G,i64 H,i64 J,i64 0]),(4,.box (Zy.g K)),(3,.mp (I (mEnt (eA Zp.g) bv) L)),(2,.lst 147 3 false (I Zv.g z)),(1,.box (ck c A (.own 2)))]))) (fun⟨b,f,h,i,j,l,m,t⟩=>?_) B64 (0,O,P,R,T,U,V,W)) fun⟨E,F,G,H,J,K,L⟩=>?_
 refine io ?_ (lf rfl)
 refine bo rg fun u=>?_
 refine bo (ok183 d u N) fun Z=>?_
 refine io (lf rfl) ?_
 refine bo rg fun C=>?_
 refine bz (gand rfl) ?_
 refine bo (e:=(fun(v:List (Zp×Bool))=>(nq [(1,i64 y),(2,i64 x2),(3,i64 N),(4,.map 3),(10,.ref 4 0),(11,.ref 5 0),(12,i64 a),(16,.ref 8 0),(17,.ref 9 0),(22,.is 22 (I Zm.g c.Measures)),(23,i64 (c.Measures.length:Int)),(24,i64 a),(54,.is 13 (I Ze.g s.Events)),(55,i64 (s.Events.length:Int)),(56,i64 b)] [(9,.box (Zy.g C)),(8,.box [i64 4,i64 0,i64 y,i64 a,i64 x2,i64 b,i64 0]),(7,.box (Ze.g u)),(6,.box (Zm.g B)),(5,.box [i64 f,i64 0,i64 h,i64 i,i64 j,i64 l,i64 0]),(4,.box (Zy.g m)),(3,.mp (I (mEnt (eA Zp.g) bv) v)),(2,.lst 147 3 false (I Zv.g z)),(1,.box (ck c A (.own 2)))]))) ?_ fun v=>?_
 refine io ?_ (lf rfl)
 refine bz (iE dJ bv t (Zp.mk f 0 h i j l 0) true) ?_
 exact lf rfl
 refine bz (gand rfl) ?_
 refine bz (gand rfl) ?_
 refine bo (e:=(fun(D:List (Zp×Bool))=>(nq [(1,i64 y),(2,i64 x2),(3,i64 N),(4,.map 3),(10,.ref 4 0),(11,.ref 5 0),(12,i64 a),(16,.ref 8 0),(17,.ref 9 0),(22,.is 22 (I Zm.g c.Measures)),(23,i64 (c.Measures.length:Int)),(24,i64 a),(54,.is 13 (I Ze.g s.Events)),(55,i64 (s.Events.length:Int)),(56,i64 b)] [(9,.box (Zy.g C)),(8,.box [i64 4,i64 0,i64 y,i64 a,i64 x2,i64 b,i64 0]),(7,.box (Ze.g u)),(6,.box (Zm.g B)),(5,.box [i64 f,i64 0,i64 h,i64 i,i64 j,i64 l,i64 0]),(4,.box (Zy.g m)),(3,.mp (I (mEnt (eA Zp.g) bv) D)),(2,.lst 147 3 false (I Zv.g z)),(1,.box (ck c A (.own 2)))]))) ?_ fun D=>?_
 refine io ?_ (lf rfl)
 refine bz (iE dJ bv v (Zp.mk 4 0 y a x2 b 0) true) ?_
 exact lf rfl
 exact lf rfl
 exact lf rfl
 refine bo (e:=(fun(M:List (Zp×Bool))=>(nq [] [(5,.box [i64 n,i64 0,i64 o,i64 p,i64 q,i64 r,i64 0]),(4,.box (Zy.g w)),(3,.mp (I (mEnt (eA Zp.g) bv) M)),(2,.lst 147 3 false (I Zv.g z)),(1,.box (ck c A (.own 2)))]))) ?_ fun M=>?_
 refine io ?_ (lf rfl)
 refine bz (iE dJ bv x (Zp.mk n 0 o p q r 0) true) ?_
 exact lf rfl
 exact lf rfl
def F127 (a:Zp) (x2:Ze) (b:List (Zp×Bool)):Option Bool:=
 some (mget b a false)
theorem ok127 {k} (d) (a:Zp) (x2:Ze) (b:List (Zp×Bool)):OD k (d+1) 127 [.agg (Zp.g a),.agg (Ze.g x2),.ip [.im (I (mEnt (eA Zp.g) bv) b)]]=(F127 a x2 b).map (fun c=>bv c):=by
 rw[od (fn:=p127) rfl rfl rfl]
 refine bz (pH dJ bv b a false) ?_
 exact lf rfl
def Fn112_4 (t:List (Zp×Bool)) (x2:List Zv) (s:Z0) (u:Int):Option (List Zv):=
 (aO (E:=List Zv) (fun(⟨b,m⟩:Int×(List Zv))=>if decide (b<(s.Measures.length:Int))then(lget s.Measures b).bind fun n=>(aO (E:=List Zv) (fun(⟨c,o⟩:Int×(List Zv))=>if decide (c<(n.Cells.length:Int))then(lget n.Cells c).bind fun p=>(aO (E:=List Zv) (fun(⟨d,q⟩:Int×(List Zv))=>if decide (d<(p.Voices.length:Int))then(lget p.Voices d).bind fun r=>(aO (E:=List Zv) (fun(⟨a,e⟩:Int×(List Zv))=>if decide (a<(r.Events.length:Int))then(lget r.Events a).bind fun f=>(F127 (Zp.mk 4 0 c b d a 0) f t).bind fun g=>(Fn96 g f.ID e s u).bind fun h=>some (.inl ((w64 (a+1)),h))else some (.inr e)) B64 (0,q)).bind fun i=>some (.inl ((w64 (d+1)),i))else some (.inr q)) B64 (0,o)).bind fun j=>some (.inl ((w64 (c+1)),j))else some (.inr o)) B64 (0,m)).bind fun k=>some (.inl ((w64 (b+1)),k))else some (.inr m)) B64 (0,x2)).bind fun l=>some l
theorem okn112_4 {k} (d) (i:List (Zp×Bool)) (x2:List Zv) (c:Z0) (j:Int):runR (XD k (d+2)) 112 [.ref 1 0,.fn 127 [] [.ref 4 0]] [(4,.box [.map 3]),(3,.mp (I (mEnt (eA Zp.g) bv) i)),(2,.lst 147 3 false (I Zv.g x2)),(1,.box (ck c j (.own 2)))] 5 false=(Fn112_4 i x2 c j).map (fun(x:List Zv)=>((.tup [],[(4,.box [.map 3]),(3,.mp (I (mEnt (eA Zp.g) bv) i)),(2,.lst 147 3 false (I Zv.g x)),(1,.box (ck c j (.own 2)))],0))):=by
 rw[xd (fn:=p112) rfl]
 refine bz lm ?_
 refine bo (aH (S:=Int×(List Zv)) (enc:=fun⟨b,t⟩=>(Q [(0,.ref 1 0),(1,.fn 127 [] [.ref 4 0]),(16,.is 22 (I Zm.g c.Measures)),(17,i64 (c.Measures.length:Int)),(18,i64 b)] [(4,.box [.map 3]),(3,.mp (I (mEnt (eA Zp.g) bv) i)),(2,.lst 147 3 false (I Zv.g t)),(1,.box (ck c j (.own 2)))])) (encE:=(fun(s:List Zv)=>(xq 0 [] [(4,.box [.map 3]),(3,.mp (I (mEnt (eA Zp.g) bv) i)),(2,.lst 147 3 false (I Zv.g s)),(1,.box (ck c j (.own 2)))]))) (fun⟨b,t⟩=>?_) B64 (0,x2)) fun s=>?_
 refine io ?_ (lf rfl)
 refine bo rg fun a=>?_
 refine bz lm ?_
 refine bo (aH (S:=Int×(List Zv)) (enc:=fun⟨e,u⟩=>(Q [(0,.ref 1 0),(1,.fn 127 [] [.ref 4 0]),(4,i64 b),(16,.is 22 (I Zm.g c.Measures)),(17,i64 (c.Measures.length:Int)),(18,i64 b),(24,.is 2 (I Zw.g a.Cells)),(25,i64 (a.Cells.length:Int)),(26,i64 e)] [(5,.box (Zm.g a)),(4,.box [.map 3]),(3,.mp (I (mEnt (eA Zp.g) bv) i)),(2,.lst 147 3 false (I Zv.g u)),(1,.box (ck c j (.own 2)))])) (encE:=(fun(r:List Zv)=>(xq 2 [(0,.ref 1 0),(1,.fn 127 [] [.ref 4 0]),(16,.is 22 (I Zm.g c.Measures)),(17,i64 (c.Measures.length:Int)),(18,i64 b)] [(5,.box (Zm.g a)),(4,.box [.map 3]),(3,.mp (I (mEnt (eA Zp.g) bv) i)),(2,.lst 147 3 false (I Zv.g r)),(1,.box (ck c j (.own 2)))]))) (fun⟨e,u⟩=>?_) B64 (0,t)) fun r=>?_
 refine io ?_ (lf rfl)
 refine bo rg fun f=>?_
 refine bz lm ?_
 refine bo (aH (S:=Int×(List Zv)) (enc:=fun⟨h,v⟩=>(Q [(0,.ref 1 0),(1,.fn 127 [] [.ref 4 0]),(4,i64 b),(6,i64 e),(16,.is 22 (I Zm.g c.Measures)),(17,i64 (c.Measures.length:Int)),(18,i64 b),(24,.is 2 (I Zw.g a.Cells)),(25,i64 (a.Cells.length:Int)),(26,i64 e),(32,.is 2 (I Zo.g f.Voices)),(33,i64 (f.Voices.length:Int)),(34,i64 h)] [(6,.box (Zw.g f)),(5,.box (Zm.g a)),(4,.box [.map 3]),(3,.mp (I (mEnt (eA Zp.g) bv) i)),(2,.lst 147 3 false (I Zv.g v)),(1,.box (ck c j (.own 2)))])) (encE:=(fun(q:List Zv)=>(xq 4 [(0,.ref 1 0),(1,.fn 127 [] [.ref 4 0]),(4,i64 b),(16,.is 22 (I Zm.g c.Measures)),(17,i64 (c.Measures.length:Int)),(18,i64 b),(24,.is 2 (I Zw.g a.Cells)),(25,i64 (a.Cells.length:Int)),(26,i64 e)] [(6,.box (Zw.g f)),(5,.box (Zm.g a)),(4,.box [.map 3]),(3,.mp (I (mEnt (eA Zp.g) bv) i)),(2,.lst 147 3 false (I Zv.g q)),(1,.box (ck c j (.own 2)))]))) (fun⟨h,v⟩=>?_) B64 (0,u)) fun q=>?_
 refine io ?_ (lf rfl)
 refine bo rg fun n=>?_
 refine bz lm ?_
 refine bo (aH (S:=Int×(List Zv)) (enc:=fun⟨l,m⟩=>(Q [(0,.ref 1 0),(1,.fn 127 [] [.ref 4 0]),(4,i64 b),(6,i64 e),(8,i64 h),(16,.is 22 (I Zm.g c.Measures)),(17,i64 (c.Measures.length:Int)),(18,i64 b),(24,.is 2 (I Zw.g a.Cells)),(25,i64 (a.Cells.length:Int)),(26,i64 e),(32,.is 2 (I Zo.g f.Voices)),(33,i64 (f.Voices.length:Int)),(34,i64 h),(40,.is 13 (I Ze.g n.Events)),(41,i64 (n.Events.length:Int)),(42,i64 l)] [(7,.box (Zo.g n)),(6,.box (Zw.g f)),(5,.box (Zm.g a)),(4,.box [.map 3]),(3,.mp (I (mEnt (eA Zp.g) bv) i)),(2,.lst 147 3 false (I Zv.g m)),(1,.box (ck c j (.own 2)))])) (encE:=(fun(p:List Zv)=>(xq 6 [(0,.ref 1 0),(1,.fn 127 [] [.ref 4 0]),(4,i64 b),(6,i64 e),(16,.is 22 (I Zm.g c.Measures)),(17,i64 (c.Measures.length:Int)),(18,i64 b),(24,.is 2 (I Zw.g a.Cells)),(25,i64 (a.Cells.length:Int)),(26,i64 e),(32,.is 2 (I Zo.g f.Voices)),(33,i64 (f.Voices.length:Int)),(34,i64 h)] [(7,.box (Zo.g n)),(6,.box (Zw.g f)),(5,.box (Zm.g a)),(4,.box [.map 3]),(3,.mp (I (mEnt (eA Zp.g) bv) i)),(2,.lst 147 3 false (I Zv.g p)),(1,.box (ck c j (.own 2)))]))) (fun⟨l,m⟩=>?_) B64 (0,v)) fun p=>?_
 refine io ?_ (lf rfl)
 refine bo rg fun o=>?_
 refine bo (ok127 d (Zp.mk 4 0 e b h l 0) o i) fun w=>?_
 refine bo (okn96 d w o.ID m c j) fun y=>?_
 exact lf rfl
 exact lf rfl
 exact lf rfl
 exact lf rfl
 exact lf rfl
def Fn69 (l:List Zv) (x2:Z0) (m:Int):Option (List Zv):=
 (F32 x2).bind fun n=>(aO (E:=List (Zp×Bool)) (fun(⟨a,d⟩:Int×(List (Zp×Bool)))=>if decide (a<n)then(aO (E:=List (Zp×Bool)) (fun(⟨b,e⟩:Int×(List (Zp×Bool)))=>if decide (b<2)then(aO (E:=List (Zp×Bool)) (fun(⟨c,f⟩:Int×(List (Zp×Bool)))=>if decide (c<4)then(Fn126 a b c f l x2 m).bind fun g=>some (.inl ((w64 (c+1)),g))else some (.inr f)) B64 (0,e)).bind fun h=>some (.inl ((w64 (b+1)),h))else some (.inr e)) B64 (0,d)).bind fun i=>some (.inl ((w64 (a+1)),i))else some (.inr d)) B64 (0,[])).bind fun j=>(Fn112_4 j l x2 m).bind fun k=>some k
theorem okn69 {k} (d) (e:List Zv) (x2:Z0) (c:Int):runR (XD k (d+3)) 69 [.ref 1 0] [(2,.lst 147 3 false (I Zv.g e)),(1,.box (ck x2 c (.own 2)))] 3 false=(Fn69 e x2 c).map (fun(p:List Zv)=>((.tup [],[(2,.lst 147 3 false (I Zv.g p)),(1,.box (ck x2 c (.own 2)))],0))):=by
 rw[xd (fn:=p69) rfl]
 refine bo (ok32 (d+1) x2) fun o=>?_
 refine bo (aH (S:=Int×(List (Zp×Bool))) (enc:=fun⟨a,f⟩=>(Q [(0,.ref 1 0),(2,.ref 4 0),(13,i64 o),(14,i64 a)] [(4,.box [.map 3]),(3,.mp (I (mEnt (eA Zp.g) bv) f)),(2,.lst 147 3 false (I Zv.g e)),(1,.box (ck x2 c (.own 2)))])) (encE:=(fun(l:List (Zp×Bool))=>(xq 0 [(0,.ref 1 0),(2,.ref 4 0)] [(4,.box [.map 3]),(3,.mp (I (mEnt (eA Zp.g) bv) l)),(2,.lst 147 3 false (I Zv.g e)),(1,.box (ck x2 c (.own 2)))]))) (fun⟨a,f⟩=>?_) B64 (0,[])) fun l=>?_
 refine io ?_ (lf rfl)
 refine bo (aH (S:=Int×(List (Zp×Bool))) (enc:=fun⟨b,h⟩=>(Q [(0,.ref 1 0),(2,.ref 4 0),(4,i64 a),(13,i64 o),(14,i64 a),(17,i64 b)] [(4,.box [.map 3]),(3,.mp (I (mEnt (eA Zp.g) bv) h)),(2,.lst 147 3 false (I Zv.g e)),(1,.box (ck x2 c (.own 2)))])) (encE:=(fun(n:List (Zp×Bool))=>(xq 2 [(0,.ref 1 0),(2,.ref 4 0),(13,i64 o),(14,i64 a)] [(4,.box [.map 3]),(3,.mp (I (mEnt (eA Zp.g) bv) n)),(2,.lst 147 3 false (I Zv.g e)),(1,.box (ck x2 c (.own 2)))]))) (fun⟨b,h⟩=>?_) B64 (0,f)) fun n=>?_
 refine io ?_ (lf rfl)
 refine bo (aH (S:=Int×(List (Zp×Bool))) (enc:=fun⟨i,j⟩=>(Q [(0,.ref 1 0),(2,.ref 4 0),(4,i64 a),(5,i64 b),(13,i64 o),(14,i64 a),(17,i64 b),(20,i64 i)] [(4,.box [.map 3]),(3,.mp (I (mEnt (eA Zp.g) bv) j)),(2,.lst 147 3 false (I Zv.g e)),(1,.box (ck x2 c (.own 2)))])) (encE:=(fun(m:List (Zp×Bool))=>(xq 4 [(0,.ref 1 0),(2,.ref 4 0),(4,i64 a),(13,i64 o),(14,i64 a),(17,i64 b)] [(4,.box [.map 3]),(3,.mp (I (mEnt (eA Zp.g) bv) m)),(2,.lst 147 3 false (I Zv.g e)),(1,.box (ck x2 c (.own 2)))]))) (fun⟨i,j⟩=>?_) B64 (0,h)) fun m=>?_
 refine io ?_ (lf rfl)
 refine bo (okn126 d a b i j e x2 c) fun q=>?_
 exact lf rfl
 exact lf rfl
 exact lf rfl
 refine bo (okn112_4 d l e x2 c) fun r=>?_
 exact lf rfl
def Fn91_2 (a:Z0):Option Unit:=
 some ()
theorem okn91_2 {k} (d) (a:Z0):runR (XD k (d+1)) 91 [.ref 0 0] [(0,.box (Z0.g a))] 4 true=(Fn91_2 a).map (fun(_:Unit)=>((.fn 154 [] [.ref 4 0],[(4,.box [.ref 0 0]),(0,.box (Z0.g a))],5))):=by
 rw[xd (fn:=p91) rfl]
 exact lf rfl
def Fy47_13 (d x2:Int) (e f:Int) (g h i:Int) (b:Zj) (j:Bool) (c:Zp) (a:Zz):Option (Unit⊕Unit):=
 if((b.ID.Site==a.Site)&&((b.ID.Number==a.Number)&&true))!=false then some (.inl ())else some (.inr ())
theorem oky47_13 {k} (d) (c x2:Int) (e f:Int) (h i j:Int) (m:Zj) (l:Bool) (b:Zp) (a:Zz):yldR (XD k (d+1)) 5 [.agg [i64 c,i64 x2,i64 e,i64 f,i64 h,i64 i,i64 j],.ip (Zj.g m)] [(5,.loop 22 [(3,.ref 1 0),(4,.ref 2 0),(5,.ref 3 0)] [13,14] q47_13a q47_13b false none),(3,.box [bv l]),(2,.box (Zp.g b)),(1,.box (Zz.g a))] 6=(Fy47_13 c x2 e f h i j m l b a).map (fun|.inl _=>((bv false,[(5,.loop 22 [(3,.ref 1 0),(4,.ref 2 0),(5,.ref 3 0)] [13,14] q47_13a q47_13b false (some .ret)),(3,.box [bv true]),(2,.box [i64 c,i64 x2,i64 e,i64 f,i64 h,i64 i,i64 j]),(1,.box (Zz.g a))],0))|.inr _=>((bv true,[(5,.loop 22 [(3,.ref 1 0),(4,.ref 2 0),(5,.ref 3 0)] [13,14] q47_13a q47_13b false none),(3,.box [bv l]),(2,.box (Zp.g b)),(1,.box (Zz.g a))],0))):=by
 rw[yd]
 refine bz (okg gU) ?_
 refine io (lf rfl) (lf rfl)
end Go.P
namespace Go.P
open Go.Sim (Ex OpK CK)
open K (I Q rq nq xq ck)
def Fy47_13_2 (d x2:Int) (e f:Int) (g h i:Int) (b:Zf) (j:Bool) (c:Zp) (a:Zz):Option (Unit⊕Unit):=
 if((b.ID.Site==a.Site)&&((b.ID.Number==a.Number)&&true))!=false then some (.inl ())else some (.inr ())
theorem oky47_13_2 {k} (d) (c x2:Int) (e f:Int) (h i j:Int) (m:Zf) (l:Bool) (b:Zp) (a:Zz):yldR (XD k (d+1)) 5 [.agg [i64 c,i64 x2,i64 e,i64 f,i64 h,i64 i,i64 j],.ip (Zf.g m)] [(5,.loop 22 [(3,.ref 1 0),(4,.ref 2 0),(5,.ref 3 0)] [13,14] q47_13a q47_13b false none),(3,.box [bv l]),(2,.box (Zp.g b)),(1,.box (Zz.g a))] 6=(Fy47_13_2 c x2 e f h i j m l b a).map (fun|.inl _=>((bv false,[(5,.loop 22 [(3,.ref 1 0),(4,.ref 2 0),(5,.ref 3 0)] [13,14] q47_13a q47_13b false (some .ret)),(3,.box [bv true]),(2,.box [i64 c,i64 x2,i64 e,i64 f,i64 h,i64 i,i64 j]),(1,.box (Zz.g a))],0))|.inr _=>((bv true,[(5,.loop 22 [(3,.ref 1 0),(4,.ref 2 0),(5,.ref 3 0)] [13,14] q47_13a q47_13b false none),(3,.box [bv l]),(2,.box (Zp.g b)),(1,.box (Zz.g a))],0))):=by
 rw[yd]
 refine bz (okg gU) ?_
 refine io (lf rfl) (lf rfl)
def Fy47_13_3 (d x2:Int) (e f:Int) (g h i:Int) (b:Zm) (j:Bool) (c:Zp) (a:Zz):Option (Unit⊕Unit):=
 if((b.ID.Site==a.Site)&&((b.ID.Number==a.Number)&&true))!=false then some (.inl ())else some (.inr ())
theorem oky47_13_3 {k} (d) (c x2:Int) (e f:Int) (h i j:Int) (m:Zm) (l:Bool) (b:Zp) (a:Zz):yldR (XD k (d+1)) 5 [.agg [i64 c,i64 x2,i64 e,i64 f,i64 h,i64 i,i64 j],.ip (Zm.g m)] [(5,.loop 22 [(3,.ref 1 0),(4,.ref 2 0),(5,.ref 3 0)] [13,14] q47_13a q47_13b false none),(3,.box [bv l]),(2,.box (Zp.g b)),(1,.box (Zz.g a))] 6=(Fy47_13_3 c x2 e f h i j m l b a).map (fun|.inl _=>((bv false,[(5,.loop 22 [(3,.ref 1 0),(4,.ref 2 0),(5,.ref 3 0)] [13,14] q47_13a q47_13b false (some .ret)),(3,.box [bv true]),(2,.box [i64 c,i64 x2,i64 e,i64 f,i64 h,i64 i,i64 j]),(1,.box (Zz.g a))],0))|.inr _=>((bv true,[(5,.loop 22 [(3,.ref 1 0),(4,.ref 2 0),(5,.ref 3 0)] [13,14] q47_13a q47_13b false none),(3,.box [bv l]),(2,.box (Zp.g b)),(1,.box (Zz.g a))],0))):=by
 rw[yd]
 refine bz (okg gU) ?_
 refine io (lf rfl) (lf rfl)
def Fy47_13_4 (d x2:Int) (e f:Int) (g h i:Int) (b:Ze) (j:Bool) (c:Zp) (a:Zz):Option (Unit⊕Unit):=
 if((b.ID.Site==a.Site)&&((b.ID.Number==a.Number)&&true))!=false then some (.inl ())else some (.inr ())
theorem oky47_13_4 {k} (d) (c x2:Int) (e f:Int) (h i j:Int) (m:Ze) (l:Bool) (b:Zp) (a:Zz):yldR (XD k (d+1)) 5 [.agg [i64 c,i64 x2,i64 e,i64 f,i64 h,i64 i,i64 j],.ip (Ze.g m)] [(5,.loop 22 [(3,.ref 1 0),(4,.ref 2 0),(5,.ref 3 0)] [13,14] q47_13a q47_13b false none),(3,.box [bv l]),(2,.box (Zp.g b)),(1,.box (Zz.g a))] 6=(Fy47_13_4 c x2 e f h i j m l b a).map (fun|.inl _=>((bv false,[(5,.loop 22 [(3,.ref 1 0),(4,.ref 2 0),(5,.ref 3 0)] [13,14] q47_13a q47_13b false (some .ret)),(3,.box [bv true]),(2,.box [i64 c,i64 x2,i64 e,i64 f,i64 h,i64 i,i64 j]),(1,.box (Zz.g a))],0))|.inr _=>((bv true,[(5,.loop 22 [(3,.ref 1 0),(4,.ref 2 0),(5,.ref 3 0)] [13,14] q47_13a q47_13b false none),(3,.box [bv l]),(2,.box (Zp.g b)),(1,.box (Zz.g a))],0))):=by
 rw[yd]
 refine bz (okg gU) ?_
 refine io (lf rfl) (lf rfl)
def Fy47_13_5 (d x2:Int) (e f:Int) (g h i:Int) (b:Zn) (j:Bool) (c:Zp) (a:Zz):Option (Unit⊕Unit):=
 if((b.ID.Site==a.Site)&&((b.ID.Number==a.Number)&&true))!=false then some (.inl ())else some (.inr ())
theorem oky47_13_5 {k} (d) (c x2:Int) (e f:Int) (h i j:Int) (m:Zn) (l:Bool) (b:Zp) (a:Zz):yldR (XD k (d+1)) 5 [.agg [i64 c,i64 x2,i64 e,i64 f,i64 h,i64 i,i64 j],.ip (Zn.g m)] [(5,.loop 22 [(3,.ref 1 0),(4,.ref 2 0),(5,.ref 3 0)] [13,14] q47_13a q47_13b false none),(3,.box [bv l]),(2,.box (Zp.g b)),(1,.box (Zz.g a))] 6=(Fy47_13_5 c x2 e f h i j m l b a).map (fun|.inl _=>((bv false,[(5,.loop 22 [(3,.ref 1 0),(4,.ref 2 0),(5,.ref 3 0)] [13,14] q47_13a q47_13b false (some .ret)),(3,.box [bv true]),(2,.box [i64 c,i64 x2,i64 e,i64 f,i64 h,i64 i,i64 j]),(1,.box (Zz.g a))],0))|.inr _=>((bv true,[(5,.loop 22 [(3,.ref 1 0),(4,.ref 2 0),(5,.ref 3 0)] [13,14] q47_13a q47_13b false none),(3,.box [bv l]),(2,.box (Zp.g b)),(1,.box (Zz.g a))],0))):=by
 rw[yd]
 refine bz (okg gU) ?_
 refine io (lf rfl) (lf rfl)
def Fn154_2 (g:Z0) (x2:Bool) (D:Zp) (F:Zz):Option (Zp⊕Unit):=
 (aO (E:=(Int×Int×Int)⊕Unit) (fun(⟨G,f⟩:Int×Int)=>if decide (f<(g.Parts.length:Int))then(lget g.Parts f).bind fun H=>(Fy47_13 1 f 0 0 0 0 0 H x2 D F).bind fun J=>(match J with|.inl _=>some (.inr (.inl (1,f,0)))|.inr _=>(lget g.Parts f).bind fun K=>(aO (E:=(Int×Int)⊕Int) (fun(⟨h,i⟩:Int×Int)=>if decide (i<(K.Staves.length:Int))then(lget g.Parts f).bind fun L=>(lget L.Staves i).bind fun M=>(Fy47_13_2 2 0 h 0 0 0 0 M x2 D F).bind fun N=>(match N with|.inl _=>some (.inr (.inl (h,h)))|.inr _=>some (.inl ((w64 (h+1)),(w64 (i+1)))))else some (.inr (.inr h))) B64 (G,0)).bind fun O=>(match O with|.inl ⟨x33,x34⟩=>some (.inr (.inl (2,0,x34)))|.inr x35=>some (.inl (x35,(w64 (f+1))))))else some (.inr (.inr ()))) B64 (0,0)).bind fun P=>(match P with|.inl ⟨x37,x38,x39⟩=>some (.inl (Zp.mk x37 x38 x39 0 0 0 0))|.inr _=>(aO (E:=(Int×Int×Int×Int×Int)⊕Unit) (fun(a:Int)=>if decide (a<(g.Measures.length:Int))then(lget g.Measures a).bind fun j=>(Fy47_13_3 3 0 0 a 0 0 0 j x2 D F).bind fun k=>(match k with|.inl _=>some (.inr (.inl (3,0,a,0,0)))|.inr _=>(lget g.Measures a).bind fun l=>(aO (E:=(Int×Int×Int)⊕Unit) (fun(b:Int)=>if decide (b<(l.Cells.length:Int))then(lget g.Measures a).bind fun m=>(lget m.Cells b).bind fun n=>(aO (E:=(Int×Int)⊕Unit) (fun(c:Int)=>if decide (c<(n.Voices.length:Int))then(lget g.Measures a).bind fun o=>(lget o.Cells b).bind fun p=>(lget p.Voices c).bind fun q=>(aO (E:=Int⊕Unit) (fun(d:Int)=>if decide (d<(q.Events.length:Int))then(lget g.Measures a).bind fun r=>(lget r.Cells b).bind fun s=>(lget s.Voices c).bind fun t=>(lget t.Events d).bind fun u=>(Fy47_13_4 4 0 b a c d 0 u x2 D F).bind fun v=>(match v with|.inl _=>some (.inr (.inl d))|.inr _=>some (.inl (w64 (d+1))))else some (.inr (.inr ()))) B64 0).bind fun w=>(match w with|.inl x201=>some (.inr (.inl (c,x201)))|.inr _=>some (.inl (w64 (c+1))))else some (.inr (.inr ()))) B64 0).bind fun x=>(match x with|.inl ⟨x203,x204⟩=>some (.inr (.inl (b,x203,x204)))|.inr _=>some (.inl (w64 (b+1))))else some (.inr (.inr ()))) B64 0).bind fun y=>(match y with|.inl ⟨x206,x207,x208⟩=>some (.inr (.inl (4,x206,a,x207,x208)))|.inr _=>some (.inl (w64 (a+1)))))else some (.inr (.inr ()))) B64 0).bind fun z=>(match z with|.inl ⟨x210,x211,x212,x213,x214⟩=>some (.inl (Zp.mk x210 0 x211 x212 x213 x214 0))|.inr _=>(aO (E:=Int⊕Unit) (fun(e:Int)=>if decide (e<(g.Spanners.length:Int))then(lget g.Spanners e).bind fun A=>(Fy47_13_5 5 0 0 0 0 0 e A x2 D F).bind fun B=>(match B with|.inl _=>some (.inr (.inl e))|.inr _=>some (.inl (w64 (e+1))))else some (.inr (.inr ()))) B64 0).bind fun C=>(match C with|.inl x221=>some (.inl (Zp.mk 5 0 0 0 0 0 x221))|.inr _=>some (.inr ()))))
theorem okn154_2 {k} (d) (c:Z0) (x2:Bool) (i:Zp) (e:Zz):runR (XD k (d+2)) 154 [.yld 5,.ref 4 0] [(5,.loop 22 [(3,.ref 1 0),(4,.ref 2 0),(5,.ref 3 0)] [13,14] q47_13a q47_13b false none),(4,.box [.ref 0 0]),(0,.box (Z0.g c)),(3,.box [bv x2]),(2,.box (Zp.g i)),(1,.box (Zz.g e))] 6 false=(Fn154_2 c x2 i e).map (fun|.inl x223=>((.tup [],[(5,.loop 22 [(3,.ref 1 0),(4,.ref 2 0),(5,.ref 3 0)] [13,14] q47_13a q47_13b false (some .ret)),(4,.box [.ref 0 0]),(0,.box (Z0.g c)),(3,.box [bv true]),(2,.box (Zp.g x223)),(1,.box (Zz.g e))],0))|.inr _=>((.tup [],[(5,.loop 22 [(3,.ref 1 0),(4,.ref 2 0),(5,.ref 3 0)] [13,14] q47_13a q47_13b false none),(4,.box [.ref 0 0]),(0,.box (Z0.g c)),(3,.box [bv x2]),(2,.box (Zp.g i)),(1,.box (Zz.g e))],0))):=by
 rw[xd (fn:=p154) rfl]
 refine bz lm ?_
 refine bo (aH (S:=Int×Int) (enc:=fun⟨A,j⟩=>(Q [(0,.yld 5),(1,.ref 4 0),(3,i64 A),(15,i64 (c.Parts.length:Int)),(16,i64 j)] [(5,.loop 22 [(3,.ref 1 0),(4,.ref 2 0),(5,.ref 3 0)] [13,14] q47_13a q47_13b false none),(4,.box [.ref 0 0]),(0,.box (Z0.g c)),(3,.box [bv x2]),(2,.box (Zp.g i)),(1,.box (Zz.g e))])) (encE:=(fun|.inl ⟨U,V,W⟩=>(rq [(0,.yld 5),(1,.ref 4 0)] [(5,.loop 22 [(3,.ref 1 0),(4,.ref 2 0),(5,.ref 3 0)] [13,14] q47_13a q47_13b false (some .ret)),(4,.box [.ref 0 0]),(0,.box (Z0.g c)),(3,.box [bv true]),(2,.box [i64 U,i64 V,i64 W,i64 0,i64 0,i64 0,i64 0]),(1,.box (Zz.g e))])|.inr _=>(xq 0 [(0,.yld 5),(1,.ref 4 0)] [(5,.loop 22 [(3,.ref 1 0),(4,.ref 2 0),(5,.ref 3 0)] [13,14] q47_13a q47_13b false none),(4,.box [.ref 0 0]),(0,.box (Z0.g c)),(3,.box [bv x2]),(2,.box (Zp.g i)),(1,.box (Zz.g e))]))) (fun⟨A,j⟩=>?_) B64 (0,0)) fun b5=>?_
 refine io ?_ (lf rfl)
 refine bo rg fun X=>?_
 refine bo (oky47_13 d 1 j 0 0 0 0 0 X x2 i e) fun Y=>?_
 rcases Y with _|_
 exact lf rfl
 refine bo rg fun Z=>?_
 refine bz lm ?_
 refine bo (aH (S:=Int×Int) (enc:=fun⟨B,P⟩=>(Q [(0,.yld 5),(1,.ref 4 0),(3,i64 B),(4,i64 j),(15,i64 (c.Parts.length:Int)),(16,i64 j),(39,i64 (Z.Staves.length:Int)),(40,i64 P)] [(5,.loop 22 [(3,.ref 1 0),(4,.ref 2 0),(5,.ref 3 0)] [13,14] q47_13a q47_13b false none),(3,.box [bv x2]),(2,.box (Zp.g i)),(1,.box (Zz.g e)),(4,.box [.ref 0 0]),(0,.box (Z0.g c))])) (encE:=(fun|.inl ⟨R,T⟩=>(rq [(0,.yld 5),(1,.ref 4 0),(3,i64 R),(15,i64 (c.Parts.length:Int)),(16,i64 j)] [(5,.loop 22 [(3,.ref 1 0),(4,.ref 2 0),(5,.ref 3 0)] [13,14] q47_13a q47_13b false (some .ret)),(3,.box [bv true]),(2,.box [i64 2,i64 0,i64 T,i64 0,i64 0,i64 0,i64 0]),(1,.box (Zz.g e)),(4,.box [.ref 0 0]),(0,.box (Z0.g c))])|.inr x35=>(xq 2 [(0,.yld 5),(1,.ref 4 0),(3,i64 x35),(15,i64 (c.Parts.length:Int)),(16,i64 j)] [(5,.loop 22 [(3,.ref 1 0),(4,.ref 2 0),(5,.ref 3 0)] [13,14] q47_13a q47_13b false none),(3,.box [bv x2]),(2,.box (Zp.g i)),(1,.box (Zz.g e)),(4,.box [.ref 0 0]),(0,.box (Z0.g c))]))) (fun⟨B,P⟩=>?_) B64 (A,0)) fun b4=>?_
 refine io ?_ (lf rfl)
 refine bo rg fun d2=>?_
 refine bo rg fun a0=>?_
 refine bo (oky47_13_2 d 2 0 B 0 0 0 0 a0 x2 i e) fun b0=>?_
 rcases b0 with _|_
 exact lf rfl
 exact lf rfl
 rcases b4 with⟨R,T⟩|x35
 exact lf rfl
 exact lf rfl
 rcases b5 with⟨U,V,W⟩|_
 exact lf rfl
 refine bz lm ?_
 refine bo (aH (S:=Int) (enc:=fun a=>(Q [(0,.yld 5),(1,.ref 4 0),(67,i64 (c.Measures.length:Int)),(68,i64 a)] [(5,.loop 22 [(3,.ref 1 0),(4,.ref 2 0),(5,.ref 3 0)] [13,14] q47_13a q47_13b false none),(4,.box [.ref 0 0]),(0,.box (Z0.g c)),(3,.box [bv x2]),(2,.box (Zp.g i)),(1,.box (Zz.g e))])) (encE:=(fun|.inl ⟨u,v,w,x,y⟩=>(rq [(0,.yld 5),(1,.ref 4 0)] [(5,.loop 22 [(3,.ref 1 0),(4,.ref 2 0),(5,.ref 3 0)] [13,14] q47_13a q47_13b false (some .ret)),(4,.box [.ref 0 0]),(0,.box (Z0.g c)),(3,.box [bv true]),(2,.box [i64 u,i64 0,i64 v,i64 w,i64 x,i64 y,i64 0]),(1,.box (Zz.g e))])|.inr _=>(xq 4 [(0,.yld 5),(1,.ref 4 0)] [(5,.loop 22 [(3,.ref 1 0),(4,.ref 2 0),(5,.ref 3 0)] [13,14] q47_13a q47_13b false none),(4,.box [.ref 0 0]),(0,.box (Z0.g c)),(3,.box [bv x2]),(2,.box (Zp.g i)),(1,.box (Zz.g e))]))) (fun a=>?_) B64 0) fun L=>?_
 refine io ?_ (lf rfl)
 refine bo rg fun C=>?_
 refine bo (oky47_13_3 d 3 0 0 a 0 0 0 C x2 i e) fun D=>?_
 rcases D with _|_
 exact lf rfl
 refine bo rg fun h=>?_
 refine bz lm ?_
 refine bo (aH (S:=Int) (enc:=fun b=>(Q [(0,.yld 5),(1,.ref 4 0),(6,i64 a),(67,i64 (c.Measures.length:Int)),(68,i64 a),(91,i64 (h.Cells.length:Int)),(92,i64 b)] [(5,.loop 22 [(3,.ref 1 0),(4,.ref 2 0),(5,.ref 3 0)] [13,14] q47_13a q47_13b false none),(3,.box [bv x2]),(2,.box (Zp.g i)),(1,.box (Zz.g e)),(4,.box [.ref 0 0]),(0,.box (Z0.g c))])) (encE:=(fun|.inl ⟨r,s,t⟩=>(rq [(0,.yld 5),(1,.ref 4 0),(67,i64 (c.Measures.length:Int)),(68,i64 a)] [(5,.loop 22 [(3,.ref 1 0),(4,.ref 2 0),(5,.ref 3 0)] [13,14] q47_13a q47_13b false (some .ret)),(3,.box [bv true]),(2,.box [i64 4,i64 0,i64 r,i64 a,i64 s,i64 t,i64 0]),(1,.box (Zz.g e)),(4,.box [.ref 0 0]),(0,.box (Z0.g c))])|.inr _=>(xq 6 [(0,.yld 5),(1,.ref 4 0),(67,i64 (c.Measures.length:Int)),(68,i64 a)] [(5,.loop 22 [(3,.ref 1 0),(4,.ref 2 0),(5,.ref 3 0)] [13,14] q47_13a q47_13b false none),(3,.box [bv x2]),(2,.box (Zp.g i)),(1,.box (Zz.g e)),(4,.box [.ref 0 0]),(0,.box (Z0.g c))]))) (fun b=>?_) B64 0) fun K=>?_
 refine io ?_ (lf rfl)
 refine bo rg fun b6=>?_
 refine bo rg fun l=>?_
 refine bz lm ?_
 refine bo (aH (S:=Int) (enc:=fun f=>(Q [(0,.yld 5),(1,.ref 4 0),(6,i64 a),(7,i64 b),(67,i64 (c.Measures.length:Int)),(68,i64 a),(91,i64 (h.Cells.length:Int)),(92,i64 b),(107,i64 (l.Voices.length:Int)),(108,i64 f)] [(5,.loop 22 [(3,.ref 1 0),(4,.ref 2 0),(5,.ref 3 0)] [13,14] q47_13a q47_13b false none),(3,.box [bv x2]),(2,.box (Zp.g i)),(1,.box (Zz.g e)),(4,.box [.ref 0 0]),(0,.box (Z0.g c))])) (encE:=(fun|.inl ⟨p,q⟩=>(rq [(0,.yld 5),(1,.ref 4 0),(6,i64 a),(67,i64 (c.Measures.length:Int)),(68,i64 a),(91,i64 (h.Cells.length:Int)),(92,i64 b)] [(5,.loop 22 [(3,.ref 1 0),(4,.ref 2 0),(5,.ref 3 0)] [13,14] q47_13a q47_13b false (some .ret)),(3,.box [bv true]),(2,.box [i64 4,i64 0,i64 b,i64 a,i64 p,i64 q,i64 0]),(1,.box (Zz.g e)),(4,.box [.ref 0 0]),(0,.box (Z0.g c))])|.inr _=>(xq 8 [(0,.yld 5),(1,.ref 4 0),(6,i64 a),(67,i64 (c.Measures.length:Int)),(68,i64 a),(91,i64 (h.Cells.length:Int)),(92,i64 b)] [(5,.loop 22 [(3,.ref 1 0),(4,.ref 2 0),(5,.ref 3 0)] [13,14] q47_13a q47_13b false none),(3,.box [bv x2]),(2,.box (Zp.g i)),(1,.box (Zz.g e)),(4,.box [.ref 0 0]),(0,.box (Z0.g c))]))) (fun f=>?_) B64 0) fun J=>?_
 refine io ?_ (lf rfl)
 refine bo rg fun b7=>?_
 refine bo rg fun b8=>?_
 refine bo rg fun E=>?_
 refine bz lm ?_
 refine bo (aH (S:=Int) (enc:=fun m=>(Q [(0,.yld 5),(1,.ref 4 0),(6,i64 a),(7,i64 b),(8,i64 f),(67,i64 (c.Measures.length:Int)),(68,i64 a),(91,i64 (h.Cells.length:Int)),(92,i64 b),(107,i64 (l.Voices.length:Int)),(108,i64 f),(127,i64 (E.Events.length:Int)),(128,i64 m)] [(5,.loop 22 [(3,.ref 1 0),(4,.ref 2 0),(5,.ref 3 0)] [13,14] q47_13a q47_13b false none),(3,.box [bv x2]),(2,.box (Zp.g i)),(1,.box (Zz.g e)),(4,.box [.ref 0 0]),(0,.box (Z0.g c))])) (encE:=(fun|.inl o=>(rq [(0,.yld 5),(1,.ref 4 0),(6,i64 a),(7,i64 b),(67,i64 (c.Measures.length:Int)),(68,i64 a),(91,i64 (h.Cells.length:Int)),(92,i64 b),(107,i64 (l.Voices.length:Int)),(108,i64 f)] [(5,.loop 22 [(3,.ref 1 0),(4,.ref 2 0),(5,.ref 3 0)] [13,14] q47_13a q47_13b false (some .ret)),(3,.box [bv true]),(2,.box [i64 4,i64 0,i64 b,i64 a,i64 f,i64 o,i64 0]),(1,.box (Zz.g e)),(4,.box [.ref 0 0]),(0,.box (Z0.g c))])|.inr _=>(xq 10 [(0,.yld 5),(1,.ref 4 0),(6,i64 a),(7,i64 b),(67,i64 (c.Measures.length:Int)),(68,i64 a),(91,i64 (h.Cells.length:Int)),(92,i64 b),(107,i64 (l.Voices.length:Int)),(108,i64 f)] [(5,.loop 22 [(3,.ref 1 0),(4,.ref 2 0),(5,.ref 3 0)] [13,14] q47_13a q47_13b false none),(3,.box [bv x2]),(2,.box (Zp.g i)),(1,.box (Zz.g e)),(4,.box [.ref 0 0]),(0,.box (Z0.g c))]))) (fun m=>?_) B64 0) fun H=>?_
 refine io ?_ (lf rfl)
 refine bo rg fun b9=>?_
 refine bo rg fun d0=>?_
 refine bo rg fun d1=>?_
 refine bo rg fun F=>?_
 refine bo (oky47_13_4 d 4 0 b a f m 0 F x2 i e) fun G=>?_
 rcases G with _|_
 exact lf rfl
 exact lf rfl
 rcases H with o|_
 exact lf rfl
 exact lf rfl
 rcases J with⟨p,q⟩|_
 exact lf rfl
 exact lf rfl
 rcases K with⟨r,s,t⟩|_
 exact lf rfl
 exact lf rfl
 rcases L with⟨u,v,w,x,y⟩|_
 exact lf rfl
 refine bz lm ?_
 refine bo (aH (S:=Int) (enc:=fun n=>(Q [(0,.yld 5),(1,.ref 4 0),(166,i64 (c.Spanners.length:Int)),(167,i64 n)] [(5,.loop 22 [(3,.ref 1 0),(4,.ref 2 0),(5,.ref 3 0)] [13,14] q47_13a q47_13b false none),(4,.box [.ref 0 0]),(0,.box (Z0.g c)),(3,.box [bv x2]),(2,.box (Zp.g i)),(1,.box (Zz.g e))])) (encE:=(fun|.inl z=>(rq [] [(5,.loop 22 [(3,.ref 1 0),(4,.ref 2 0),(5,.ref 3 0)] [13,14] q47_13a q47_13b false (some .ret)),(4,.box [.ref 0 0]),(0,.box (Z0.g c)),(3,.box [bv true]),(2,.box [i64 5,i64 0,i64 0,i64 0,i64 0,i64 0,i64 z]),(1,.box (Zz.g e))])|.inr _=>(xq 12 [] [(5,.loop 22 [(3,.ref 1 0),(4,.ref 2 0),(5,.ref 3 0)] [13,14] q47_13a q47_13b false none),(4,.box [.ref 0 0]),(0,.box (Z0.g c)),(3,.box [bv x2]),(2,.box (Zp.g i)),(1,.box (Zz.g e))]))) (fun n=>?_) B64 0) fun O=>?_
 refine io ?_ (lf rfl)
 refine bo rg fun M=>?_
 refine bo (oky47_13_5 d 5 0 0 0 0 0 n M x2 i e) fun N=>?_
 rcases N with _|_
 exact lf rfl
 exact lf rfl
 rcases O with z|_
 exact lf rfl
 exact lf rfl
def F47 (a:Z0) (x2:Zz):Option (Zp×Bool):=
 if((x2.Site==0)&&((x2.Number==0)&&true))!=false then some ((Zp.mk 0 0 0 0 0 0 0),false)else(Fn91_2 a).bind fun _=>(Fn154_2 a false (Zp.mk 0 0 0 0 0 0 0) x2).bind fun b=>(match b with|.inl x3=>some (x3,true)|.inr _=>some ((Zp.mk 0 0 0 0 0 0 0),false))
theorem ok47 {k} (d) (a:Z0) (x2:Zz):OD k (d+3) 47 [.agg (Z0.g a),.agg (Zz.g x2)]=(F47 a x2).map (fun⟨c,e⟩=>.tup [.agg (Zp.g c),bv e]):=by
 rw[od (fn:=p47) rfl rfl rfl]
 refine io (lf rfl) ?_
 refine bo (okn91_2 (d+1) a) fun _=>?_
 refine bo (okn154_2 d a false (Zp.mk 0 0 0 0 0 0 0) x2) fun b=>?_
 rcases b with f|_
 exact lf rfl
 exact lf rfl
def F235 (c:List Int):Option (List Int):=
 (nZ (c.length:Int) (c.length:Int) 0).bind fun x2=>(aO (E:=List Int) (fun(⟨b,a⟩:Int×(List Int))=>if decide (b<(c.length:Int))then(lidx a (w64 (b-1))).bind fun d=>(lnth a d).bind fun e=>(lget c (w64 (b-1))).bind fun f=>(lidx a b).bind fun g=>(lput a g (fun j=>(w64 (e+f)))).bind fun h=>some (.inl ((w64 (b+1)),h))else some (.inr a)) B64 (1,x2)).bind fun i=>some i
theorem ok235 {k} (d) (h:List Int):OD k (d+1) 235 [.is 1 (I cI h)]=(F235 h).map (fun q=>.is 1 (I cI q)):=by
 rw[od (fn:=p235) rfl rfl rfl]
 refine bz lm ?_
 refine bo (dY cI _ _ 0) fun x2=>?_
 refine bo (aH (S:=Int×(List Int)) (enc:=fun⟨j,a⟩=>(Q [(0,.is 1 (I cI h)),(3,.own 0),(4,i64 j)] [(0,.lst 3 1 true (I cI a))])) (encE:=(fun(e:List Int)=>(xq 0 [(3,.own 0)] [(0,.lst 3 1 true (I cI e))]))) (fun⟨j,a⟩=>?_) B64 (1,x2)) fun e=>?_
 refine bz lm ?_
 refine io ?_ (lf rfl)
 refine bo (aW cI a _) fun l=>?_
 refine bo (bE (A:=Int) (c:=cI) (g:=fun b=>i64 b) (fun _=>rfl) a _) fun b=>?_
 refine bo rg fun i=>?_
 refine bo (aW cI a _) fun n=>?_
 refine bo (jX (A:=Int) (c:=cI) (m:=1) (f:=fun o=>(w64 (b+i))) (fun _=>⟨rfl,rfl⟩) (Nat.le_of_ble_eq_true rfl) a _) fun p=>?_
 exact lf rfl
 exact lf rfl
def F219 (b:Zo) (x2:Int):Option ((List Int)×Int):=
 (F210 b x2).bind fun⟨c,a⟩=>if a !=0 then some ([],a)else(F235 c).bind fun d=>some (d,0)
theorem ok219 {k} (d) (a:Zo) (x2:Int):OD k (d+14) 219 [.agg (Zo.g a),i64 x2]=(F219 a x2).map (fun⟨c,e⟩=>.tup [.is 1 (I cI c),i64 e]):=by
 rw[od (fn:=p219) rfl rfl rfl]
 refine bo (ok210 d a x2) fun⟨b,f⟩=>?_
 refine io (lf rfl) ?_
 refine bo (ok235 (d+12) b) fun h=>?_
 exact lf rfl
def F184 (d:Zk) (x2:Zz):Option (Zq×Bool):=
 (F47 d.s' x2).bind fun⟨a,g⟩=>if(!g)||(a.Kind !=4)then some ((Zq.mk 0 0 0 0),false)else(lget d.s'.Measures a.Measure).bind fun e=>(F106 e).bind fun⟨h,k⟩=>(lget e.Cells a.Staff).bind fun i=>(lget i.Voices a.Voice).bind fun j=>(F219 j h).bind fun⟨b,f⟩=>if decide (a.Event>=(b.length:Int))then some ((Zq.mk 0 0 0 0),false)else(lget b a.Event).bind fun c=>some ((Zq.mk a.Measure c a.Staff a.Voice),true)
theorem ok184 {k} (d) (a:Zk) (x2:Zz):OD k (d+15) 184 [.ip (Zk.g a),.agg (Zz.g x2)]=(F184 a x2).map (fun⟨j,l⟩=>.tup [.agg (Zq.g j),bv l]):=by
 rw[od (fn:=p184) rfl rfl rfl]
 refine bo (ok47 (d+11) a.s' x2) fun⟨m,n⟩=>?_
 refine bz (gor rfl) ?_
 refine io (lf rfl) ?_
 refine bo rg fun f=>?_
 refine bo (ok106 (d+10) f) fun⟨h,o⟩=>?_
 refine bo rg fun p=>?_
 refine bo rg fun i=>?_
 refine bo (ok219 d i h) fun⟨b,c⟩=>?_
 refine bz lm ?_
 refine io (lf rfl) ?_
 refine bo rg fun e=>?_
 exact lf rfl
def F236 (a x2:Int):Option Bool:=
 some ((decide (a>=0))&&(decide (a<=x2)))
theorem ok236 {k} (d) (a x2:Int):OD k (d+1) 236 [i64 a,i64 x2]=(F236 a x2).map (fun b=>bv b):=by
 rw[od (fn:=p236) rfl rfl rfl]
 refine bz (gand rfl) ?_
 exact lf rfl
def F220 (a:Zq):Option Bool:=
 (F236 a.Measure 1023).bind fun x2=>((if x2 then(F236 a.At 4398046511104).bind fun b=>some b else some false:Option (Bool))).bind fun c=>((if c then(F236 a.Staff 127).bind fun d=>some d else some false:Option (Bool))).bind fun e=>((if e then(F236 a.Voice 1).bind fun f=>some f else some false:Option (Bool))).bind fun g=>some g
theorem ok220 {k} (d) (a:Zq):OD k (d+2) 220 [.agg (Zq.g a)]=(F220 a).map (fun b=>bv b):=by
 rw[od (fn:=p220) rfl rfl rfl]
 refine bo (ok236 d a.Measure 1023) fun x2=>?_
 refine bo (e:=id) ?_ fun f=>?_
 refine io ?_ (lf rfl)
 refine bo (ok236 d a.At 4398046511104) fun c=>?_
 exact lf rfl
 refine bo (e:=id) ?_ fun i=>?_
 refine io ?_ (lf rfl)
 refine bo (ok236 d a.Staff 127) fun h=>?_
 exact lf rfl
 refine bo (e:=id) ?_ fun l=>?_
 refine io ?_ (lf rfl)
 refine bo (ok236 d a.Voice 1) fun j=>?_
 exact lf rfl
 exact lf rfl
def F221 (a:Int):Option Bool:=
 some ((a==1)||(a==7))
theorem ok221 {k} (d) (a:Int):OD k (d+1) 221 [i64 a]=(F221 a).map (fun b=>bv b):=by
 rw[od (fn:=p221) rfl rfl rfl]
 refine bz (gor rfl) ?_
 exact lf rfl
def F50 (a:Int):Option Bool:=
 some (a !=a)
theorem ok50 {k} (d) (a:Int):OD k (d+1) 50 [i64 a]=(F50 a).map (fun b=>bv b):=by
 rw[od (fn:=p50) rfl rfl rfl]
 exact lf rfl
def F26 (a x2:Int):Option Int:=
 (F50 a).bind fun c=>(F50 x2).bind fun b=>if c then if b then some 0 else some (-1)else if b then some 1 else if decide (a<x2)then some (-1)else if decide (a>x2)then some 1 else some 0
theorem ok26 {k} (d) (a x2:Int):OD k (d+2) 26 [i64 a,i64 x2]=(F26 a x2).map (fun b=>i64 b):=by
 rw[od (fn:=p26) rfl rfl rfl]
 refine bo (ok50 d a) fun c=>?_
 refine bo (ok50 d x2) fun e=>?_
 refine io ?_ ?_
 refine io (lf rfl) (lf rfl)
 refine io (lf rfl) ?_
 refine io (lf rfl) ?_
 refine io (lf rfl) (lf rfl)
def F25 (b:List Int):Option Int:=
 (aO (E:=Int⊕Unit) (fun(a:Int)=>if decide (a<(b.length:Int))then(lget b a).bind fun c=>if c !=0 then some (.inr (.inl c))else some (.inl (w64 (a+1)))else some (.inr (.inr ()))) B64 0).bind fun d=>(match d with|.inl x5=>some x5|.inr _=>some 0)
theorem ok25 {k} (d) (a:List Int):OD k (d+1) 25 [.is 1 (I cI a)]=(F25 a).map (fun f=>i64 f):=by
 rw[od (fn:=p25) rfl rfl rfl]
 refine bz lm ?_
 refine bo (aH (S:=Int) (enc:=fun b=>(Q [(3,i64 0),(6,.is 1 (I cI a)),(7,i64 (a.length:Int)),(8,i64 b)] [])) (encE:=(fun|.inl c=>(rq [(2,i64 c),(3,i64 0)] [])|.inr _=>(xq 0 [(3,i64 0)] []))) (fun b=>?_) B64 0) fun e=>?_
 refine io ?_ (lf rfl)
 refine bo rg fun g=>?_
 refine io (lf rfl) (lf rfl)
 rcases e with c|_
 exact lf rfl
 exact lf rfl
def F222 (a x2:Zq):Option Int:=
 (F26 a.Measure x2.Measure).bind fun b=>(F26 a.At x2.At).bind fun c=>(F25 [b,c]).bind fun d=>some d
theorem ok222 {k} (d) (a x2:Zq):OD k (d+3) 222 [.agg (Zq.g a),.agg (Zq.g x2)]=(F222 a x2).map (fun e=>i64 e):=by
 rw[od (fn:=p222) rfl rfl rfl]
 refine bo (ok26 d a.Measure x2.Measure) fun b=>?_
 refine bo (ok26 d a.At x2.At) fun c=>?_
 refine bo (ok25 (d+1) [b,c]) fun f=>?_
 exact lf rfl
def F185 (a:Zs):Option Int:=
 if(decide (a.Kind<1))||(decide (a.Kind>7))then some 11 else(F220 a.From).bind fun x2=>((if !x2 then some true else(F220 a.To).bind fun b=>some (!b):Option (Bool))).bind fun c=>if c then some 2 else((if a.From.Staff !=a.To.Staff then some true else(F221 a.Kind).bind fun d=>some (d&&(a.From.Voice !=a.To.Voice)):Option (Bool))).bind fun e=>if e then some 23 else(F222 a.From a.To).bind fun f=>if decide (f>=0)then some 25 else some 0
theorem ok185 {k} (d) (a:Zs):OD k (d+4) 185 [.agg (Zs.g a)]=(F185 a).map (fun b=>i64 b):=by
 rw[od (fn:=p185) rfl rfl rfl]
 refine bz (gor rfl) ?_
 refine io (lf rfl) ?_
 refine bo (ok220 (d+1) a.From) fun x2=>?_
 refine bo (e:=id) ?_ fun f=>?_
 refine io (lf rfl) ?_
 refine bo (ok220 (d+1) a.To) fun c=>?_
 exact lf rfl
 refine io (lf rfl) ?_
 refine bo (e:=id) ?_ fun i=>?_
 refine io (lf rfl) ?_
 refine bo (ok221 (d+2) a.Kind) fun h=>?_
 refine bz (gand rfl) ?_
 exact lf rfl
 refine io (lf rfl) ?_
 refine bo (ok222 d a.From a.To) fun j=>?_
 refine io (lf rfl) (lf rfl)
def Fn128 (o:List Zv) (x2:Z0) (p:Int):Option ((List Bool)×(List Zs)):=
 (aO (E:=(List Bool)×(List Zs)) (fun(⟨b,c,d⟩:Int×(List Bool)×(List Zs))=>if decide (b<(x2.Spanners.length:Int))then(lget x2.Spanners b).bind fun a=>(F184 (Zk.mk x2 p o) a.From).bind fun⟨e,g⟩=>(F184 (Zk.mk x2 p o) a.To).bind fun⟨f,h⟩=>(lapp false d [(Zs.mk a.Kind e f)]).bind fun i=>((if(!g)||(!h)then some true else(F185 (Zs.mk a.Kind e f)).bind fun j=>some (j !=0):Option (Bool))).bind fun k=>(lapp false c [k]).bind fun l=>some (.inl ((w64 (b+1)),l,i))else some (.inr (c,d))) B64 (0,[],[])).bind fun⟨m,n⟩=>some (m,n)
theorem okn128 {k} (d) (b:List Zv) (x2:Z0) (h:Int):runR (XD k (d+16)) 128 [.ref 1 0] [(2,.lst 147 3 false (I Zv.g b)),(1,.box (ck x2 h (.own 2)))] 3 true=(Fn128 b x2 h).map (fun(⟨p,q⟩:(List Bool)×(List Zs))=>((.tup [.own 3,.own 4],[(4,.lst 4 1 false (I cB p)),(3,.lst 214 9 false (I Zs.g q)),(2,.lst 147 3 false (I Zv.g b)),(1,.box (ck x2 h (.own 2)))],5))):=by
 rw[xd (fn:=p128) rfl]
 refine bz lm ?_
 refine bo (aH (S:=Int×(List Bool)×(List Zs)) (enc:=fun⟨i,c,f⟩=>(Q [(0,.ref 1 0),(4,.own 3),(5,.own 4),(17,.is 7 (I Zn.g x2.Spanners)),(18,i64 (x2.Spanners.length:Int)),(19,i64 i)] [(4,.lst 4 1 false (I cB c)),(3,.lst 214 9 false (I Zs.g f)),(2,.lst 147 3 false (I Zv.g b)),(1,.box (ck x2 h (.own 2)))])) (encE:=(fun(⟨m,n⟩:(List Bool)×(List Zs))=>(xq 0 [(4,.own 3),(5,.own 4)] [(4,.lst 4 1 false (I cB m)),(3,.lst 214 9 false (I Zs.g n)),(2,.lst 147 3 false (I Zv.g b)),(1,.box (ck x2 h (.own 2)))]))) (fun⟨i,c,f⟩=>?_) B64 (0,[],[])) fun⟨m,n⟩=>?_
 refine io ?_ (lf rfl)
 refine bo rg fun a=>?_
 refine bo (ok184 d (Zk.mk x2 h b) a.From) fun⟨j,r⟩=>?_
 refine bo (ok184 d (Zk.mk x2 h b) a.To) fun⟨l,s⟩=>?_
 refine bo (bR false Zs.g f [(Zs.mk a.Kind j l)]) fun t=>?_
 refine bz (gor rfl) ?_
 refine bo (e:=id) ?_ fun o=>?_
 refine io (lf rfl) ?_
 refine bo (ok185 (d+11) (Zs.mk a.Kind j l)) fun u=>?_
 exact lf rfl
 refine bo (bR false cB c [o]) fun v=>?_
 exact lf rfl
 exact lf rfl
def Fn70 (h:List Zv) (x2:Z0) (i:Int):Option (List Zv):=
 (Fn128 h x2 i).bind fun⟨j,k⟩=>(aO (E:=List Zv) (fun(⟨a,b⟩:Int×(List Zv))=>if decide (a<(x2.Spanners.length:Int))then(lget x2.Spanners a).bind fun c=>(lidx j a).bind fun d=>(lnth j d).bind fun e=>(Fn96 e c.ID b x2 i).bind fun f=>some (.inl ((w64 (a+1)),f))else some (.inr b)) B64 (0,h)).bind fun g=>some g
theorem okn70 {k} (d) (i:List Zv) (x2:Z0) (e:Int):runR (XD k (d+17)) 70 [.ref 1 0] [(2,.lst 147 3 false (I Zv.g i)),(1,.box (ck x2 e (.own 2)))] 3 false=(Fn70 i x2 e).map (fun(m:List Zv)=>((.tup [],[(2,.lst 147 3 false (I Zv.g m)),(1,.box (ck x2 e (.own 2)))],0))):=by
 rw[xd (fn:=p70) rfl]
 refine bo (okn128 d i x2 e) fun⟨j,n⟩=>?_
 refine bz lm ?_
 refine bo (aH (S:=Int×(List Zv)) (enc:=fun⟨f,a⟩=>(Q [(0,.ref 1 0),(3,.own 4),(15,.is 7 (I Zn.g x2.Spanners)),(16,i64 (x2.Spanners.length:Int)),(17,i64 f)] [(4,.lst 4 1 false (I cB j)),(3,.lst 214 9 false (I Zs.g n)),(2,.lst 147 3 false (I Zv.g a)),(1,.box (ck x2 e (.own 2)))])) (encE:=(fun(h:List Zv)=>(xq 0 [] [(4,.lst 4 1 false (I cB j)),(3,.lst 214 9 false (I Zs.g n)),(2,.lst 147 3 false (I Zv.g h)),(1,.box (ck x2 e (.own 2)))]))) (fun⟨f,a⟩=>?_) B64 (0,i)) fun h=>?_
 refine io ?_ (lf rfl)
 refine bo rg fun l=>?_
 refine bo (aW cB j _) fun o=>?_
 refine bo (bE (A:=Bool) (c:=cB) (g:=fun b=>bv b) (fun _=>rfl) j _) fun b=>?_
 refine bo (okn96 (d+15) b l.ID a x2 e) fun p=>?_
 exact lf rfl
 exact lf rfl
def F223 (a:Int):Option Int:=
 if(decide (a<1))||(decide (a>7))then some 0 else(lget [1,2,2,4,4,6,7] (w64 (a-1))).bind fun x2=>some x2
theorem ok223 {k} (d) (a:Int):OD k (d+1) 223 [i64 a]=(F223 a).map (fun b=>i64 b):=by
 rw[od (fn:=p223) rfl rfl rfl]
 refine bz (gor rfl) ?_
 refine io (lf rfl) ?_
 refine bo (kO .i64 [1,2,2,4,4,6,7] (w64 (a-1)) rfl) fun x2=>?_
 exact lf rfl
def F186 (a x2:Zs):Option Bool:=
 (F223 a.Kind).bind fun b=>((if decide (b>0)then(F223 a.Kind).bind fun c=>(F223 x2.Kind).bind fun d=>some (c==d)else some false:Option (Bool))).bind fun e=>((if e&&(a.From.Staff==x2.From.Staff)then(F221 a.Kind).bind fun f=>some ((!f)||(a.From.Voice==x2.From.Voice))else some false:Option (Bool))).bind fun g=>some g
theorem ok186 {k} (d) (a x2:Zs):OD k (d+2) 186 [.agg (Zs.g a),.agg (Zs.g x2)]=(F186 a x2).map (fun b=>bv b):=by
 rw[od (fn:=p186) rfl rfl rfl]
 refine bo (ok223 d a.Kind) fun c=>?_
 refine bo (e:=id) ?_ fun i=>?_
 refine io ?_ (lf rfl)
 refine bo (ok223 d a.Kind) fun f=>?_
 refine bo (ok223 d x2.Kind) fun h=>?_
 exact lf rfl
 refine bz (gand rfl) ?_
 refine bo (e:=id) ?_ fun l=>?_
 refine io ?_ (lf rfl)
 refine bo (ok221 d a.Kind) fun j=>?_
 refine bz (gor rfl) ?_
 exact lf rfl
 exact lf rfl
def F190 (a x2:Zs):Option Bool:=
 (F222 a.To x2.From).bind fun b=>((if decide (b<0)then some true else(F222 x2.To a.From).bind fun c=>some (decide (c<0)):Option (Bool))).bind fun d=>some d
theorem ok190 {k} (d) (a x2:Zs):OD k (d+4) 190 [.agg (Zs.g a),.agg (Zs.g x2)]=(F190 a x2).map (fun b=>bv b):=by
 rw[od (fn:=p190) rfl rfl rfl]
 refine bo (ok222 d a.To x2.From) fun c=>?_
 refine bo (e:=id) ?_ fun h=>?_
 refine io (lf rfl) ?_
 refine bo (ok222 d x2.To a.From) fun f=>?_
 exact lf rfl
 exact lf rfl
def F189 (a x2:Zs):Option Bool:=
 (F190 a x2).bind fun b=>some (!b)
theorem ok189 {k} (d) (a x2:Zs):OD k (d+5) 189 [.agg (Zs.g a),.agg (Zs.g x2)]=(F189 a x2).map (fun b=>bv b):=by
 rw[od (fn:=p189) rfl rfl rfl]
 refine bo (ok190 d a x2) fun c=>?_
 exact lf rfl
def F188 (a x2:Zs):Option Bool:=
 (F222 a.To x2.From).bind fun b=>((if decide (b<=0)then some true else(F222 x2.To a.From).bind fun c=>some (decide (c<=0)):Option (Bool))).bind fun d=>some d
theorem ok188 {k} (d) (a x2:Zs):OD k (d+4) 188 [.agg (Zs.g a),.agg (Zs.g x2)]=(F188 a x2).map (fun b=>bv b):=by
 rw[od (fn:=p188) rfl rfl rfl]
 refine bo (ok222 d a.To x2.From) fun c=>?_
 refine bo (e:=id) ?_ fun h=>?_
 refine io (lf rfl) ?_
 refine bo (ok222 d x2.To a.From) fun f=>?_
 exact lf rfl
 exact lf rfl
def F187 (a x2:Zs):Option Bool:=
 (F188 a x2).bind fun b=>some (!b)
theorem ok187 {k} (d) (a x2:Zs):OD k (d+5) 187 [.agg (Zs.g a),.agg (Zs.g x2)]=(F187 a x2).map (fun b=>bv b):=by
 rw[od (fn:=p187) rfl rfl rfl]
 refine bo (ok188 d a x2) fun c=>?_
 exact lf rfl
def F224 (a x2:Zs):Option Bool:=
 (F222 a.From x2.From).bind fun b=>((if decide (b>=0)then(F222 a.To x2.To).bind fun c=>some (decide (c<=0))else some false:Option (Bool))).bind fun d=>some d
theorem ok224 {k} (d) (a x2:Zs):OD k (d+4) 224 [.agg (Zs.g a),.agg (Zs.g x2)]=(F224 a x2).map (fun b=>bv b):=by
 rw[od (fn:=p224) rfl rfl rfl]
 refine bo (ok222 d a.From x2.From) fun c=>?_
 refine bo (e:=id) ?_ fun h=>?_
 refine io ?_ (lf rfl)
 refine bo (ok222 d a.To x2.To) fun f=>?_
 exact lf rfl
 exact lf rfl
def F191 (a x2:Zs):Option Bool:=
 (F188 a x2).bind fun b=>((if !b then(F224 a x2).bind fun c=>(F224 x2 a).bind fun d=>some ((c==d)!=false)else some false:Option (Bool))).bind fun e=>some e
theorem ok191 {k} (d) (a x2:Zs):OD k (d+5) 191 [.agg (Zs.g a),.agg (Zs.g x2)]=(F191 a x2).map (fun b=>bv b):=by
 rw[od (fn:=p191) rfl rfl rfl]
 refine bo (ok188 d a x2) fun c=>?_
 refine bo (e:=id) ?_ fun i=>?_
 refine io ?_ (lf rfl)
 refine bo (ok224 d a x2) fun f=>?_
 refine bo (ok224 d x2 a) fun h=>?_
 exact lf rfl
 exact lf rfl
def F129 (a x2:Zs):Option Bool:=
 (F186 a x2).bind fun c=>if !c then some false else if(w64 (a.Kind-1))==6 then(F189 a x2).bind fun d=>some d else if(w64 (a.Kind-1))==5 then(F187 a x2).bind fun e=>some e else if(w64 (a.Kind-1))==4 then(F189 a x2).bind fun f=>some f else if(w64 (a.Kind-1))==3 then(F189 a x2).bind fun g=>some g else if(w64 (a.Kind-1))==2 then(F187 a x2).bind fun h=>some h else if(w64 (a.Kind-1))==1 then(F187 a x2).bind fun i=>some i else if(w64 (a.Kind-1))==0 then(F191 a x2).bind fun b=>some b else none
theorem ok129 {k} (d) (a x2:Zs):OD k (d+6) 129 [.agg (Zs.g a),.agg (Zs.g x2)]=(F129 a x2).map (fun c=>bv c):=by
 rw[od (fn:=p129) rfl rfl rfl]
 refine bo (ok186 (d+3) a x2) fun e=>?_
 refine io (lf rfl) ?_
 refine io ?_ ?_
 refine bo (ok189 d a x2) fun f=>?_
 exact lf rfl
 refine io ?_ ?_
 refine bo (ok187 d a x2) fun h=>?_
 exact lf rfl
 refine io ?_ ?_
 refine bo (ok189 d a x2) fun i=>?_
 exact lf rfl
 refine io ?_ ?_
 refine bo (ok189 d a x2) fun j=>?_
 exact lf rfl
 refine io ?_ ?_
 refine bo (ok187 d a x2) fun l=>?_
 exact lf rfl
 refine io ?_ ?_
 refine bo (ok187 d a x2) fun m=>?_
 exact lf rfl
 refine io ?_ ?_
 refine bo (ok191 d a x2) fun b=>?_
 exact lf rfl
 rfl
def Fn71 (v:List Zv) (x2:Z0) (w:Int):Option (List Zv):=
 (Fn128 v x2 w).bind fun⟨e,f⟩=>(aO (E:=List Zv) (fun(⟨a,c⟩:Int×(List Zv))=>if decide (a<(x2.Spanners.length:Int))then(lget x2.Spanners a).bind fun g=>(aO (E:=Bool) (fun(⟨d,b⟩:Bool×Int)=>((if decide (b<a)then(lidx e a).bind fun h=>(lnth e h).bind fun i=>some (!i)else some false:Option (Bool))).bind fun j=>if j&&(!d)then(lidx e b).bind fun k=>(lnth e k).bind fun l=>((if !l then(lidx f b).bind fun m=>(lnth f m).bind fun n=>(lidx f a).bind fun o=>(lnth f o).bind fun p=>(F129 n p).bind fun q=>some q else some false:Option (Bool))).bind fun r=>some (.inl (r,(w64 (b+1))))else some (.inr d)) B64 (false,0)).bind fun s=>(Fn96 s g.ID c x2 w).bind fun t=>some (.inl ((w64 (a+1)),t))else some (.inr c)) B64 (0,v)).bind fun u=>some u
theorem okn71 {k} (d) (u:List Zv) (x2:Z0) (i:Int):runR (XD k (d+17)) 71 [.ref 1 0] [(2,.lst 147 3 false (I Zv.g u)),(1,.box (ck x2 i (.own 2)))] 3 false=(Fn71 u x2 i).map (fun(v:List Zv)=>((.tup [],[(2,.lst 147 3 false (I Zv.g v)),(1,.box (ck x2 i (.own 2)))],0))):=by
 rw[xd (fn:=p71) rfl]
 refine bo (okn128 d u x2 i) fun⟨j,l⟩=>?_
 refine bz lm ?_
 refine bo (aH (S:=Int×(List Zv)) (enc:=fun⟨f,h⟩=>(Q [(0,.ref 1 0),(2,.own 3),(3,.own 4),(17,.is 7 (I Zn.g x2.Spanners)),(18,i64 (x2.Spanners.length:Int)),(19,i64 f)] [(4,.lst 4 1 false (I cB j)),(3,.lst 214 9 false (I Zs.g l)),(2,.lst 147 3 false (I Zv.g h)),(1,.box (ck x2 i (.own 2)))])) (encE:=(fun(t:List Zv)=>(xq 0 [] [(4,.lst 4 1 false (I cB j)),(3,.lst 214 9 false (I Zs.g l)),(2,.lst 147 3 false (I Zv.g t)),(1,.box (ck x2 i (.own 2)))]))) (fun⟨f,h⟩=>?_) B64 (0,u)) fun t=>?_
 refine io ?_ (lf rfl)
 refine bo rg fun n=>?_
 refine bo (aH (S:=Bool×Int) (enc:=fun⟨p,q⟩=>(Q [(0,.ref 1 0),(2,.own 3),(3,.own 4),(4,i64 f),(5,.ref 5 0),(6,bv p),(7,i64 q),(17,.is 7 (I Zn.g x2.Spanners)),(18,i64 (x2.Spanners.length:Int)),(19,i64 f)] [(5,.box (Zn.g n)),(4,.lst 4 1 false (I cB j)),(3,.lst 214 9 false (I Zs.g l)),(2,.lst 147 3 false (I Zv.g h)),(1,.box (ck x2 i (.own 2)))])) (encE:=(fun(o:Bool)=>(xq 2 [(0,.ref 1 0),(2,.own 3),(3,.own 4),(5,.ref 5 0),(6,bv o),(17,.is 7 (I Zn.g x2.Spanners)),(18,i64 (x2.Spanners.length:Int)),(19,i64 f)] [(5,.box (Zn.g n)),(4,.lst 4 1 false (I cB j)),(3,.lst 214 9 false (I Zs.g l)),(2,.lst 147 3 false (I Zv.g h)),(1,.box (ck x2 i (.own 2)))]))) (fun⟨p,q⟩=>?_) B64 (false,0)) fun o=>?_
 refine bo (e:=id) ?_ fun x=>?_
 refine io ?_ (lf rfl)
 refine bo (aW cB j _) fun w=>?_
 refine bo (bE (A:=Bool) (c:=cB) (g:=fun r=>bv r) (fun _=>rfl) j _) fun r=>?_
 exact lf rfl
 refine bz (gand rfl) ?_
 refine io ?_ (lf rfl)
 refine bo (aW cB j _) fun y=>?_
 refine bo (bE (A:=Bool) (c:=cB) (g:=fun s=>bv s) (fun _=>rfl) j _) fun s=>?_
 refine bo (e:=id) ?_ fun D=>?_
 refine io ?_ (lf rfl)
 refine bo (aW Zs.g l _) fun z=>?_
 refine bo (iD (A:=Zs) (c:=Zs.g) (m:=9) (g:=fun a=>[i64 a.Kind,i64 a.From.Measure,i64 a.From.At,i64 a.From.Staff,i64 a.From.Voice,i64 a.To.Measure,i64 a.To.At,i64 a.To.Staff,i64 a.To.Voice]) (fun _=>⟨rfl,rfl⟩) (Nat.le_of_ble_eq_true rfl) l _) fun a=>?_
 refine bo (aW Zs.g l _) fun B=>?_
 refine bo (iD (A:=Zs) (c:=Zs.g) (m:=9) (g:=fun b=>[i64 b.Kind,i64 b.From.Measure,i64 b.From.At,i64 b.From.Staff,i64 b.From.Voice,i64 b.To.Measure,i64 b.To.At,i64 b.To.Staff,i64 b.To.Voice]) (fun _=>⟨rfl,rfl⟩) (Nat.le_of_ble_eq_true rfl) l _) fun b=>?_
 refine bo (ok129 (d+10) a b) fun C=>?_
 exact lf rfl
 exact lf rfl
 refine bo (okn96 (d+15) o n.ID h x2 i) fun E=>?_
 exact lf rfl
 exact lf rfl
def F130 (e:Int) (x2:Zm):Option Bool:=
 ((if x2.RepeatEnd !=0 then(F98 x2.RepeatEnd 2 8).bind fun a=>some (!a)else some false:Option (Bool))).bind fun b=>((if b then some true else(F98 x2.Endings 0 255).bind fun c=>some (!c):Option (Bool))).bind fun d=>some d
theorem ok130 {k} (d) (a:Int) (x2:Zm):OD k (d+2) 130 [i64 a,.agg (Zm.g x2)]=(F130 a x2).map (fun b=>bv b):=by
 rw[od (fn:=p130) rfl rfl rfl]
 refine bo (e:=id) ?_ fun f=>?_
 refine io ?_ (lf rfl)
 refine bo (ok98 d x2.RepeatEnd 2 8) fun c=>?_
 exact lf rfl
 refine bo (e:=id) ?_ fun i=>?_
 refine io (lf rfl) ?_
 refine bo (ok98 d x2.Endings 0 255) fun h=>?_
 exact lf rfl
 exact lf rfl
def Fn102_6 (g:List Zv) (x2:Z0) (h:Int):Option (List Zv):=
 (aO (E:=List Zv) (fun(⟨a,e⟩:Int×(List Zv))=>if decide (a<(x2.Measures.length:Int))then(lget x2.Measures a).bind fun f=>(F130 a f).bind fun b=>(Fn96 b f.ID e x2 h).bind fun c=>some (.inl ((w64 (a+1)),c))else some (.inr e)) B64 (0,g)).bind fun d=>some d
theorem okn102_6 {k} (d) (c:List Zv) (x2:Z0) (a:Int):runR (XD k (d+3)) 102 [.ref 1 0,.fn 130 [] []] [(2,.lst 147 3 false (I Zv.g c)),(1,.box (ck x2 a (.own 2)))] 3 false=(Fn102_6 c x2 a).map (fun(f:List Zv)=>((.tup [],[(2,.lst 147 3 false (I Zv.g f)),(1,.box (ck x2 a (.own 2)))],0))):=by
 rw[xd (fn:=p102) rfl]
 refine bz lm ?_
 refine bo (aH (S:=Int×(List Zv)) (enc:=fun⟨h,i⟩=>(Q [(0,.ref 1 0),(1,.fn 130 [] []),(10,.is 22 (I Zm.g x2.Measures)),(11,i64 (x2.Measures.length:Int)),(12,i64 h)] [(2,.lst 147 3 false (I Zv.g i)),(1,.box (ck x2 a (.own 2)))])) (encE:=(fun(b:List Zv)=>(xq 0 [] [(2,.lst 147 3 false (I Zv.g b)),(1,.box (ck x2 a (.own 2)))]))) (fun⟨h,i⟩=>?_) B64 (0,c)) fun b=>?_
 refine io ?_ (lf rfl)
 refine bo rg fun j=>?_
 refine bo (ok130 d h j) fun e=>?_
 refine bo (okn96 (d+1) e j.ID i x2 a) fun l=>?_
 exact lf rfl
 exact lf rfl
def F238 (a:Int):Option Int:=
 ((if decide (a>=4294967296)then(shrO .u64 a 32).bind fun x2=>some (x2,32)else some (a,0):Option (Int×Int))).bind fun⟨d,f⟩=>((if decide (d>=65536)then(shrO .u64 d 16).bind fun h=>some (h,(w64 (f+16)))else some (d,f):Option (Int×Int))).bind fun⟨e,g⟩=>((if decide (e>=256)then(shrO .u64 e 8).bind fun i=>some (i,(w64 (g+8)))else some (e,g):Option (Int×Int))).bind fun⟨j,b⟩=>(kY (⟨#[0,1,2,2,3,3,3,3,4,4,4,4,4,4,4,4,5,5,5,5,5,5,5,5,5,5,5,5,5,5,5,5,6,6,6,6,6,6,6,6,6,6,6,6,6,6,6,6,6,6,6,6,6,6,6,6,6,6,6,6,6,6,6,6,7,7,7,7,7,7,7,7,7,7,7,7,7,7,7,7,7,7,7,7,7,7,7,7,7,7,7,7,7,7,7,7,7,7,7,7,7,7,7,7,7,7,7,7,7,7,7,7,7,7,7,7,7,7,7,7,7,7,7,7,7,7,7,7,8,8,8,8,8,8,8,8,8,8,8,8,8,8,8,8,8,8,8,8,8,8,8,8,8,8,8,8,8,8,8,8,8,8,8,8,8,8,8,8,8,8,8,8,8,8,8,8,8,8,8,8,8,8,8,8,8,8,8,8,8,8,8,8,8,8,8,8,8,8,8,8,8,8,8,8,8,8,8,8,8,8,8,8,8,8,8,8,8,8,8,8,8,8,8,8,8,8,8,8,8,8,8,8,8,8,8,8,8,8,8,8,8,8,8,8,8,8,8,8,8,8,8,8,8,8,8,8]⟩:ByteArray) (IntKind.wrap .u8 (j))).bind fun c=>some (w64 (b+(w64 (c))))
theorem ok238 {k} (d) (b:Int):OD k (d+1) 238 [.v (.int .u64 b)]=(F238 b).map (fun l=>i64 l):=by
 rw[od (fn:=p238) rfl rfl rfl]
 refine bo (e:=(fun(⟨c,f⟩:Int×Int)=>(nq [(0,.v (.int .u64 c)),(2,i64 f)] []))) ?_ fun⟨c,f⟩=>?_
 refine io ?_ (lf rfl)
 refine bo oi fun x2=>?_
 exact lf rfl
 refine bo (e:=(fun(⟨g,h⟩:Int×Int)=>(nq [(0,.v (.int .u64 g)),(2,i64 h)] []))) ?_ fun⟨g,h⟩=>?_
 refine io ?_ (lf rfl)
 refine bo oi fun m=>?_
 exact lf rfl
 refine bo (e:=(fun(⟨i,a⟩:Int×Int)=>(nq [(0,.v (.int .u64 i)),(2,i64 a)] []))) ?_ fun⟨i,a⟩=>?_
 refine io ?_ (lf rfl)
 refine bo oi fun n=>?_
 exact lf rfl
 refine bo oi fun j=>?_
 exact lf rfl
def F225 (a:Int):Option Int:=
 (F238 a).bind fun x2=>some x2
theorem ok225 {k} (d) (a:Int):OD k (d+2) 225 [.v (.int .u64 a)]=(F225 a).map (fun b=>i64 b):=by
 rw[od (fn:=p225) rfl rfl rfl]
 refine bo (ok238 d a) fun x2=>?_
 exact lf rfl
def F132 (a:Zg):Option Bool:=
 ((if decide (a.passes>0)then(shlO .i64 1 (w64 (a.passes-1))).bind fun x2=>some (a.ending==x2)else some false:Option (Bool))).bind fun b=>some b
theorem ok132 {k} (d) (a:Zg):OD k (d+1) 132 [.agg (Zg.g a)]=(F132 a).map (fun b=>bv b):=by
 rw[od (fn:=p132) rfl rfl rfl]
 refine bo (e:=id) ?_ fun c=>?_
 refine io ?_ (lf rfl)
 refine bo oi fun x2=>?_
 exact lf rfl
 exact lf rfl
def F192 (a:Zg) (x2:Zm):Option (Zg×Bool):=
 if x2.RepeatStart||(a.body==0)then some (a,false)else if x2.Endings !=a.ending then if((a.ending !=0)&&(!a.ended))||((iand .i64 x2.Endings a.used)!=0)then some (a,false)else(F225 (IntKind.wrap .u64 (x2.Endings))).bind fun j=>if a.passes==0 then if((iand .i64 x2.Endings 1)==0)||(decide ((w64 (j-1))>6))then some ((Zg.mk a.started a.body (ior .i64 a.used x2.Endings) x2.Endings false a.passes),false)else if x2.RepeatEnd !=0 then(F132 (Zg.mk a.started a.body (ior .i64 a.used x2.Endings) x2.Endings false a.passes)).bind fun k=>((if k||((a.passes !=0)&&(x2.RepeatEnd !=a.passes))then some true else(F225 (IntKind.wrap .u64 (x2.Endings))).bind fun l=>some (decide (l>=x2.RepeatEnd)):Option (Bool))).bind fun m=>if m then some ((Zg.mk a.started a.body (ior .i64 a.used x2.Endings) x2.Endings false a.passes),false)else some ((Zg.mk a.started a.body (ior .i64 a.used x2.Endings) x2.Endings true x2.RepeatEnd),true)else some ((Zg.mk a.started a.body (ior .i64 a.used x2.Endings) x2.Endings false a.passes),true)else((if decide ((w64 (j-1))>=a.passes)then some true else((if(w64 (j-1))==(w64 (a.passes-1))then(F132 (Zg.mk a.started a.body (ior .i64 a.used x2.Endings) x2.Endings false a.passes)).bind fun n=>((if !n then some true else(shlO .i64 1 a.passes).bind fun o=>some ((ior .i64 a.used x2.Endings)!=(w64 (o-1))):Option (Bool))).bind fun p=>some p else some false:Option (Bool))).bind fun b=>some b:Option (Bool))).bind fun c=>if c then some ((Zg.mk a.started a.body (ior .i64 a.used x2.Endings) x2.Endings false a.passes),false)else if x2.RepeatEnd !=0 then(F132 (Zg.mk a.started a.body (ior .i64 a.used x2.Endings) x2.Endings false a.passes)).bind fun d=>((if d||((a.passes !=0)&&(x2.RepeatEnd !=a.passes))then some true else(F225 (IntKind.wrap .u64 (x2.Endings))).bind fun e=>some (decide (e>=x2.RepeatEnd)):Option (Bool))).bind fun f=>if f then some ((Zg.mk a.started a.body (ior .i64 a.used x2.Endings) x2.Endings false a.passes),false)else some ((Zg.mk a.started a.body (ior .i64 a.used x2.Endings) x2.Endings true x2.RepeatEnd),true)else some ((Zg.mk a.started a.body (ior .i64 a.used x2.Endings) x2.Endings false a.passes),true)else if a.ended then some (a,false)else if x2.RepeatEnd !=0 then(F132 a).bind fun g=>((if g||((a.passes !=0)&&(x2.RepeatEnd !=a.passes))then some true else(F225 (IntKind.wrap .u64 (a.ending))).bind fun h=>some (decide (h>=x2.RepeatEnd)):Option (Bool))).bind fun i=>if i then some (a,false)else some ((Zg.mk a.started a.body a.used a.ending true x2.RepeatEnd),true)else some (a,true)
theorem ok192 {k} (d) (a:Zg) (x2:Zm):OD k (d+3) 192 [.agg (Zg.g a),.agg (Zm.g x2)]=(F192 a x2).map (fun⟨n,o⟩=>.tup [.agg (Zg.g n),bv o]):=by
 rw[od (fn:=p192) rfl rfl rfl]
 refine bz (gor rfl) ?_
 refine io (lf rfl) ?_
 refine io ?_ ?_
 refine bz (gand rfl) ?_
 refine bz (gor rfl) ?_
 refine io (lf rfl) ?_
 refine bo (ok225 d (IntKind.wrap .u64 (x2.Endings))) fun p=>?_
 refine io ?_ ?_
 refine bz (gor rfl) ?_
 refine io (lf rfl) ?_
 refine io ?_ (lf rfl)
 refine bo (ok132 (d+1) (Zg.mk a.started a.body (ior .i64 a.used x2.Endings) x2.Endings false a.passes)) fun q=>?_
 refine bz (gor (bz (gand rfl) rfl)) ?_
 refine bo (e:=id) ?_ fun s=>?_
 refine io (lf rfl) ?_
 refine bo (ok225 d (IntKind.wrap .u64 (x2.Endings))) fun r=>?_
 exact lf rfl
 refine io (lf rfl) (lf rfl)
 refine bo (e:=id) ?_ fun c=>?_
 refine io (lf rfl) ?_
 refine bo (e:=id) ?_ fun b=>?_
 refine io ?_ (lf rfl)
 refine bo (ok132 (d+1) (Zg.mk a.started a.body (ior .i64 a.used x2.Endings) x2.Endings false a.passes)) fun t=>?_
 refine bo (e:=id) ?_ fun v=>?_
 refine io (lf rfl) ?_
 refine bo oi fun u=>?_
 exact lf rfl
 exact lf rfl
 exact lf rfl
 refine io (lf rfl) ?_
 refine io ?_ (lf rfl)
 refine bo (ok132 (d+1) (Zg.mk a.started a.body (ior .i64 a.used x2.Endings) x2.Endings false a.passes)) fun f=>?_
 refine bz (gor (bz (gand rfl) rfl)) ?_
 refine bo (e:=id) ?_ fun i=>?_
 refine io (lf rfl) ?_
 refine bo (ok225 d (IntKind.wrap .u64 (x2.Endings))) fun h=>?_
 exact lf rfl
 refine io (lf rfl) (lf rfl)
 refine io (lf rfl) ?_
 refine io ?_ (lf rfl)
 refine bo (ok132 (d+1) a) fun j=>?_
 refine bz (gor (bz (gand rfl) rfl)) ?_
 refine bo (e:=id) ?_ fun m=>?_
 refine io (lf rfl) ?_
 refine bo (ok225 d (IntKind.wrap .u64 (a.ending))) fun l=>?_
 exact lf rfl
 refine io (lf rfl) (lf rfl)
def F131 (a:Zg) (x2:Zm):Option (Zg×Bool):=
 if x2.Endings !=0 then(F192 a x2).bind fun⟨d,e⟩=>some (d,e)else if a.ending !=0 then(F132 a).bind fun f=>if !f then some (a,false)else if x2.RepeatStart then if false then some ((Zg.mk false 0 0 0 false 0),false)else((if x2.RepeatEnd !=0 then some (false,0)else some (true,1):Option (Bool×Int))).bind fun⟨g,h⟩=>some ((Zg.mk g h 0 0 false 0),true)else((if x2.RepeatEnd !=0 then some 0 else some 1:Option (Int))).bind fun i=>some ((Zg.mk false i 0 0 false 0),true)else if x2.RepeatStart then if a.started then some (a,false)else((if x2.RepeatEnd !=0 then some (false,0)else some (true,1):Option (Bool×Int))).bind fun⟨j,b⟩=>some ((Zg.mk j b 0 0 false 0),true)else((if x2.RepeatEnd !=0 then some (Zg.mk false 0 0 0 false 0)else some (Zg.mk a.started (w64 (a.body+1)) a.used a.ending a.ended a.passes):Option (Zg))).bind fun c=>some (c,true)
theorem ok131 {k} (d) (c:Zg) (x2:Zm):OD k (d+4) 131 [.agg (Zg.g c),.agg (Zm.g x2)]=(F131 c x2).map (fun⟨l,m⟩=>.tup [.agg (Zg.g l),bv m]):=by
 rw[od (fn:=p131) rfl rfl rfl]
 refine io ?_ ?_
 refine bo (ok192 d c x2) fun⟨n,o⟩=>?_
 exact lf rfl
 refine io ?_ ?_
 refine bo (ok132 (d+2) c) fun p=>?_
 refine io (lf rfl) ?_
 refine io ?_ ?_
 refine io (lf rfl) ?_
 refine bo (e:=(fun(⟨f,h⟩:Bool×Int)=>(nq [(2,.ref 0 0),(4,.ref 2 0)] [(2,.box [bv false,i64 0,i64 0,i64 0,bv false,i64 0]),(1,.box (Zm.g x2)),(0,.box [bv f,i64 h,i64 0,i64 0,bv false,i64 0])]))) ?_ fun⟨f,h⟩=>?_
 refine io (lf rfl) (lf rfl)
 exact lf rfl
 refine bo (e:=(fun(i:Int)=>(nq [(2,.ref 0 0),(4,.ref 2 0)] [(2,.box [bv false,i64 0,i64 0,i64 0,bv false,i64 0]),(1,.box (Zm.g x2)),(0,.box [bv false,i64 i,i64 0,i64 0,bv false,i64 0])]))) ?_ fun i=>?_
 refine io (lf rfl) (lf rfl)
 exact lf rfl
 refine io ?_ ?_
 refine io (lf rfl) ?_
 refine bo (e:=(fun(⟨j,a⟩:Bool×Int)=>(nq [(2,.ref 0 0),(4,.ref 2 0)] [(2,.box [bv false,i64 0,i64 0,i64 0,bv false,i64 0]),(1,.box (Zm.g x2)),(0,.box [bv j,i64 a,i64 0,i64 0,bv false,i64 0])]))) ?_ fun⟨j,a⟩=>?_
 refine io (lf rfl) (lf rfl)
 exact lf rfl
 refine bo (e:=(fun(b:Zg)=>(nq [(2,.ref 0 0),(4,.ref 2 0)] [(2,.box [bv false,i64 0,i64 0,i64 0,bv false,i64 0]),(1,.box (Zm.g x2)),(0,.box (Zg.g b))]))) ?_ fun b=>?_
 refine io (lf rfl) (lf rfl)
 exact lf rfl
def Fn72 (o:List Zv) (x2:Z0) (m:Int):Option (List Zv):=
 (Fn102_6 o x2 m).bind fun d=>if decide ((d.length:Int)>(o.length:Int))then some d else(aO (E:=(Zg×(List Zv))⊕Zg) (fun(⟨n,a⟩:Int×Zg)=>if decide (n<(x2.Measures.length:Int))then(lget x2.Measures n).bind fun b=>(F131 a b).bind fun⟨c,e⟩=>if !e then(Fn96 true b.ID d x2 m).bind fun f=>some (.inr (.inl (c,f)))else some (.inl ((w64 (n+1)),c))else some (.inr (.inr a))) B64 (0,(Zg.mk false 0 0 0 false 0))).bind fun g=>(match g with|.inl ⟨x15,x16⟩=>some x16|.inr x17=>((if x17.started&&(x17.ending==0)then some true else((if x17.ending !=0 then(F132 x17).bind fun h=>some (!h)else some false:Option (Bool))).bind fun i=>some i:Option (Bool))).bind fun j=>(lget x2.Measures (w64 ((x2.Measures.length:Int)-1))).bind fun k=>(Fn96 j k.ID d x2 m).bind fun l=>some l)
theorem okn72 {k} (d) (j:List Zv) (x2:Z0) (a:Int):runR (XD k (d+5)) 72 [.ref 1 0] [(2,.lst 147 3 false (I Zv.g j)),(1,.box (ck x2 a (.own 2)))] 3 false=(Fn72 j x2 a).map (fun(o:List Zv)=>((.tup [],[(2,.lst 147 3 false (I Zv.g o)),(1,.box (ck x2 a (.own 2)))],0))):=by
 rw[xd (fn:=p72) rfl]
 refine bz (bW Zv.g j) ?_
 refine bo (okn102_6 (d+1) j x2 a) fun i=>?_
 refine bz (bW Zv.g i) ?_
 refine io (lf rfl) ?_
 refine bz lm ?_
 refine bo (aH (S:=Int×Zg) (enc:=fun⟨p,b⟩=>(Q [(0,.ref 1 0),(3,.ref 3 0),(26,.is 22 (I Zm.g x2.Measures)),(27,i64 (x2.Measures.length:Int)),(28,i64 p)] [(3,.box (Zg.g b)),(2,.lst 147 3 false (I Zv.g i)),(1,.box (ck x2 a (.own 2)))])) (encE:=(fun|.inl ⟨f,h⟩=>(rq [(3,.ref 3 0)] [(3,.box (Zg.g f)),(2,.lst 147 3 false (I Zv.g h)),(1,.box (ck x2 a (.own 2)))])|.inr x17=>(xq 0 [(0,.ref 1 0),(3,.ref 3 0)] [(3,.box (Zg.g x17)),(2,.lst 147 3 false (I Zv.g i)),(1,.box (ck x2 a (.own 2)))]))) (fun⟨p,b⟩=>?_) B64 (0,(Zg.mk false 0 0 0 false 0))) fun l=>?_
 refine io ?_ (lf rfl)
 refine bo rg fun c=>?_
 refine bo (ok131 d b c) fun⟨q,r⟩=>?_
 refine io ?_ (lf rfl)
 refine bo (okn96 (d+3) true c.ID i x2 a) fun s=>?_
 exact lf rfl
 rcases l with⟨f,h⟩|x17
 exact lf rfl
 refine bz (gand rfl) ?_
 refine bo (e:=id) ?_ fun m=>?_
 refine io (lf rfl) ?_
 refine bo (e:=id) ?_ fun u=>?_
 refine io ?_ (lf rfl)
 refine bo (ok132 (d+3) x17) fun t=>?_
 exact lf rfl
 exact lf rfl
 refine bz lm ?_
 refine bo rg fun n=>?_
 refine bo (okn96 (d+3) m n.ID i x2 a) fun v=>?_
 exact lf rfl
def F134 (a x2:Zm):Option Bool:=
 some (((x2.Jump !=0)&&(a.Jump !=0))||((iand .i64 x2.Labels a.Labels)!=0))
theorem ok134 {k} (d) (a x2:Zm):OD k (d+1) 134 [.agg (Zm.g a),.ip (Zm.g x2)]=(F134 a x2).map (fun b=>bv b):=by
 rw[od (fn:=p134) rfl rfl rfl]
 refine bz (gand rfl) ?_
 refine bz (gor rfl) ?_
 exact lf rfl
def F193 (b:List Zm) (x2:Zm):Option Int:=
 (aO (E:=Int⊕Unit) (fun(a:Int)=>if decide (a<(b.length:Int))then(lget b a).bind fun c=>(F134 c x2).bind fun d=>if d then some (.inr (.inl a))else some (.inl (w64 (a+1)))else some (.inr (.inr ()))) B64 0).bind fun e=>(match e with|.inl x8=>some x8|.inr _=>some (-1))
theorem ok193 {k} (d) (a:List Zm) (x2:Zm):OD k (d+2) 193 [.is 22 (I Zm.g a),.fn 134 [] [.ip (Zm.g x2)]]=(F193 a x2).map (fun h=>i64 h):=by
 rw[od (fn:=p193) rfl rfl rfl]
 refine bz lm ?_
 refine bo (aH (S:=Int) (enc:=fun b=>(Q [(0,.is 22 (I Zm.g a)),(1,.fn 134 [] [.ip (Zm.g x2)]),(7,i64 (a.length:Int)),(8,i64 b)] [])) (encE:=(fun|.inl c=>(rq [(4,i64 c)] [])|.inr _=>(xq 0 [] []))) (fun b=>?_) B64 0) fun f=>?_
 refine io ?_ (lf rfl)
 refine bo rg fun e=>?_
 refine bo (ok134 d e x2) fun i=>?_
 refine io (lf rfl) (lf rfl)
 rcases f with c|_
 exact lf rfl
 exact lf rfl
def F135 (a:List Zm) (x2:Zm):Option Bool:=
 (F193 a x2).bind fun b=>some (decide (b>=0))
theorem ok135 {k} (d) (a:List Zm) (x2:Zm):OD k (d+3) 135 [.is 22 (I Zm.g a),.fn 134 [] [.ip (Zm.g x2)]]=(F135 a x2).map (fun b=>bv b):=by
 rw[od (fn:=p135) rfl rfl rfl]
 refine bo (ok193 d a x2) fun c=>?_
 exact lf rfl
def F226 (a:Zm) (x2:Int):Option Bool:=
 some ((iand .i64 a.Labels x2)!=0)
theorem ok226 {k} (d) (a:Zm) (x2:Int):OD k (d+1) 226 [.agg (Zm.g a),.ip [i64 x2]]=(F226 a x2).map (fun b=>bv b):=by
 rw[od (fn:=p226) rfl rfl rfl]
 exact lf rfl
def F193_2 (b:List Zm) (x2:Int):Option Int:=
 (aO (E:=Int⊕Unit) (fun(a:Int)=>if decide (a<(b.length:Int))then(lget b a).bind fun c=>(F226 c x2).bind fun d=>if d then some (.inr (.inl a))else some (.inl (w64 (a+1)))else some (.inr (.inr ()))) B64 0).bind fun e=>(match e with|.inl x8=>some x8|.inr _=>some (-1))
theorem ok193_2 {k} (d) (a:List Zm) (x2:Int):OD k (d+2) 193 [.is 22 (I Zm.g a),.fn 226 [] [.ip [i64 x2]]]=(F193_2 a x2).map (fun h=>i64 h):=by
 rw[od (fn:=p193) rfl rfl rfl]
 refine bz lm ?_
 refine bo (aH (S:=Int) (enc:=fun b=>(Q [(0,.is 22 (I Zm.g a)),(1,.fn 226 [] [.ip [i64 x2]]),(7,i64 (a.length:Int)),(8,i64 b)] [])) (encE:=(fun|.inl c=>(rq [(4,i64 c)] [])|.inr _=>(xq 0 [] []))) (fun b=>?_) B64 0) fun f=>?_
 refine io ?_ (lf rfl)
 refine bo rg fun e=>?_
 refine bo (ok226 d e x2) fun i=>?_
 refine io (lf rfl) (lf rfl)
 rcases f with c|_
 exact lf rfl
 exact lf rfl
end Go.P
namespace Go.P
open Go.Sim (Ex OpK CK)
open K (I Q rq nq xq ck)
def F195 (a:Zk) (x2:Int):Option Int:=
 (F193_2 a.s'.Measures x2).bind fun b=>some b
theorem ok195 {k} (d) (a:Zk) (x2:Int):OD k (d+3) 195 [.ip (Zk.g a),i64 x2]=(F195 a x2).map (fun b=>i64 b):=by
 rw[od (fn:=p195) rfl rfl rfl]
 refine bo (ok193_2 d a.s'.Measures x2) fun c=>?_
 exact lf rfl
def F194 (a:Int) (x2:Zk) (b:Int):Option Bool:=
 (F195 x2 a).bind fun c=>(F98 c 0 b).bind fun d=>some d
theorem ok194 {k} (d) (a:Int) (x2:Zk) (b:Int):OD k (d+4) 194 [i64 a,.ip [.ip (Zk.g x2)],.ip [i64 b]]=(F194 a x2 b).map (fun e=>bv e):=by
 rw[od (fn:=p194) rfl rfl rfl]
 refine bo (ok195 d x2 a) fun c=>?_
 refine bo (ok98 (d+2) c 0 b) fun f=>?_
 exact lf rfl
def F136 (a:Zk) (x2 e:Int):Option Bool:=
 ((if decide (x2>=4)then(F194 1 a e).bind fun f=>some (!f)else some false:Option (Bool))).bind fun g=>if g then some false else((if x2==2 then some (x2==2)else some (x2==5):Option (Bool))).bind fun h=>if h then(F194 4 a e).bind fun i=>some i else((if x2==3 then some (x2==3)else some (x2==6):Option (Bool))).bind fun j=>if j then(F194 8 a e).bind fun k=>((if k then(F195 a 2).bind fun b=>(F195 a 8).bind fun c=>some (decide (b>c))else some false:Option (Bool))).bind fun d=>some d else some true
theorem ok136 {k} (d) (a:Zk) (x2 b:Int):OD k (d+5) 136 [.ip (Zk.g a),i64 x2,i64 b]=(F136 a x2 b).map (fun l=>bv l):=by
 rw[od (fn:=p136) rfl rfl rfl]
 refine bo (e:=id) ?_ fun n=>?_
 refine io ?_ (lf rfl)
 refine bo (ok194 d 1 a b) fun m=>?_
 exact lf rfl
 refine io (lf rfl) ?_
 refine bo (e:=(fun(c:Bool)=>(nq [(3,.ref 0 0),(7,.fn 194 [] [.ref 0 0,.ref 1 0]),(16,i64 x2),(17,bv c)] [(1,.box [i64 b]),(0,.box [.ip (Zk.g a)])]))) ?_ fun c=>?_
 refine io (lf rfl) (lf rfl)
 refine io ?_ ?_
 refine bo (ok194 d 4 a b) fun o=>?_
 exact lf rfl
 refine bo (e:=(fun(f:Bool)=>(nq [(3,.ref 0 0),(7,.fn 194 [] [.ref 0 0,.ref 1 0]),(22,bv f)] [(1,.box [i64 b]),(0,.box [.ip (Zk.g a)])]))) ?_ fun f=>?_
 refine io (lf rfl) (lf rfl)
 refine io ?_ (lf rfl)
 refine bo (ok194 d 8 a b) fun p=>?_
 refine bo (e:=id) ?_ fun j=>?_
 refine io ?_ (lf rfl)
 refine bo (ok195 (d+1) a 2) fun h=>?_
 refine bo (ok195 (d+1) a 8) fun i=>?_
 exact lf rfl
 exact lf rfl
def F133 (b:Int) (x2:Zm) (c:Zk):Option Bool:=
 (F98 x2.Jump 0 6).bind fun d=>((if !d then some true else(F98 x2.Labels 0 15).bind fun e=>some (!e):Option (Bool))).bind fun f=>if f||(((x2.Jump !=0)||(x2.Labels !=0))&&((x2.RepeatEnd !=0)||(x2.Endings !=0)))then some true else(iP c.s'.Measures 0 b).bind fun g=>(F135 g x2).bind fun h=>((if h then some true else(F136 c x2.Jump b).bind fun i=>some (!i):Option (Bool))).bind fun a=>some a
theorem ok133 {k} (d) (a:Int) (x2:Zm) (b:Zk):OD k (d+6) 133 [i64 a,.agg (Zm.g x2),.ip [.ip (Zk.g b)]]=(F133 a x2 b).map (fun h=>bv h):=by
 rw[od (fn:=p133) rfl rfl rfl]
 refine bo (ok98 (d+4) x2.Jump 0 6) fun i=>?_
 refine bo (e:=id) ?_ fun l=>?_
 refine io (lf rfl) ?_
 refine bo (ok98 (d+4) x2.Labels 0 15) fun j=>?_
 exact lf rfl
 refine bz (gor (bz (gor rfl) (bz (gand (bz (gor rfl) rfl)) rfl))) ?_
 refine io (lf rfl) ?_
 refine bo (gS _ _ _ _) fun f=>?_
 refine bo (ok135 (d+2) f x2) fun m=>?_
 refine bo (e:=id) ?_ fun c=>?_
 refine io (lf rfl) ?_
 refine bo (ok136 d b x2.Jump a) fun n=>?_
 exact lf rfl
 exact lf rfl
def Fn102_7 (h:List Zv) (x2:Z0) (f:Int):Option (List Zv):=
 (aO (E:=List Zv) (fun(⟨a,e⟩:Int×(List Zv))=>if decide (a<(x2.Measures.length:Int))then(lget x2.Measures a).bind fun g=>(F133 a g (Zk.mk x2 f e)).bind fun b=>(Fn96 b g.ID e x2 f).bind fun c=>some (.inl ((w64 (a+1)),c))else some (.inr e)) B64 (0,h)).bind fun d=>some d
theorem okn102_7 {k} (d) (e:List Zv) (x2:Z0) (a:Int):runR (XD k (d+7)) 102 [.ref 1 0,.fn 133 [] [.ref 3 0]] [(3,.box [.ref 1 0]),(2,.lst 147 3 false (I Zv.g e)),(1,.box (ck x2 a (.own 2)))] 4 false=(Fn102_7 e x2 a).map (fun(h:List Zv)=>((.tup [],[(3,.box [.ref 1 0]),(2,.lst 147 3 false (I Zv.g h)),(1,.box (ck x2 a (.own 2)))],0))):=by
 rw[xd (fn:=p102) rfl]
 refine bz lm ?_
 refine bo (aH (S:=Int×(List Zv)) (enc:=fun⟨i,c⟩=>(Q [(0,.ref 1 0),(1,.fn 133 [] [.ref 3 0]),(10,.is 22 (I Zm.g x2.Measures)),(11,i64 (x2.Measures.length:Int)),(12,i64 i)] [(3,.box [.ref 1 0]),(2,.lst 147 3 false (I Zv.g c)),(1,.box (ck x2 a (.own 2)))])) (encE:=(fun(b:List Zv)=>(xq 0 [] [(3,.box [.ref 1 0]),(2,.lst 147 3 false (I Zv.g b)),(1,.box (ck x2 a (.own 2)))]))) (fun⟨i,c⟩=>?_) B64 (0,e)) fun b=>?_
 refine io ?_ (lf rfl)
 refine bo rg fun j=>?_
 refine bo (ok133 d i j (Zk.mk x2 a c)) fun f=>?_
 refine bo (okn96 (d+5) f j.ID c x2 a) fun l=>?_
 exact lf rfl
 exact lf rfl
def Fn73 (a:List Zv) (x2:Z0) (b:Int):Option (List Zv):=
 (Fn102_7 a x2 b).bind fun c=>some c
theorem okn73 {k} (d) (b:List Zv) (x2:Z0) (a:Int):runR (XD k (d+8)) 73 [.ref 1 0] [(2,.lst 147 3 false (I Zv.g b)),(1,.box (ck x2 a (.own 2)))] 3 false=(Fn73 b x2 a).map (fun(c:List Zv)=>((.tup [],[(2,.lst 147 3 false (I Zv.g c)),(1,.box (ck x2 a (.own 2)))],0))):=by
 rw[xd (fn:=p73) rfl]
 refine bo (okn102_7 d b x2 a) fun e=>?_
 exact lf rfl
def F137 (q:Int) (x2:Zm):Option Bool:=
 (F106 x2).bind fun⟨l,r⟩=>((if x2.Swing !=0 then(F98 x2.Swing 50 75).bind fun m=>some (!m)else some false:Option (Bool))).bind fun n=>((if n then some true else(F98 x2.Break 0 3).bind fun o=>some (!o):Option (Bool))).bind fun p=>(aO (E:=Bool) (fun(⟨c,a⟩:Bool×Int)=>if decide (a<(x2.Tempi.length:Int))then(lget x2.Tempi a).bind fun b=>((if c then some true else(F98 b.At 0 (w64 (l-1))).bind fun d=>some (!d):Option (Bool))).bind fun e=>((if e then some true else(F98 b.Micros 1 60000000).bind fun f=>some (!f):Option (Bool))).bind fun g=>((if g then some true else((if decide (a>0)then(lget x2.Tempi (w64 (a-1))).bind fun h=>some (decide (b.At<=h.At))else some false:Option (Bool))).bind fun i=>some i:Option (Bool))).bind fun j=>some (.inl (j,(w64 (a+1))))else some (.inr c)) B64 (p,0)).bind fun k=>some k
theorem ok137 {k} (d) (h:Int) (x2:Zm):OD k (d+5) 137 [i64 h,.agg (Zm.g x2)]=(F137 h x2).map (fun s=>bv s):=by
 rw[od (fn:=p137) rfl rfl rfl]
 refine bo (ok106 d x2) fun⟨i,t⟩=>?_
 refine bo (e:=id) ?_ fun v=>?_
 refine io ?_ (lf rfl)
 refine bo (ok98 (d+3) x2.Swing 50 75) fun u=>?_
 exact lf rfl
 refine bo (e:=id) ?_ fun r=>?_
 refine io (lf rfl) ?_
 refine bo (ok98 (d+3) x2.Break 0 3) fun w=>?_
 exact lf rfl
 refine bz lm ?_
 refine bo (aH (S:=Bool×Int) (enc:=fun⟨a,b⟩=>(Q [(3,.ref 0 0),(5,i64 i),(7,bv a),(31,.is 3 (I Zt.g x2.Tempi)),(32,i64 (x2.Tempi.length:Int)),(33,i64 b)] [(0,.box (Zm.g x2))])) (encE:=(fun(f:Bool)=>(xq 0 [(7,bv f)] [(0,.box (Zm.g x2))]))) (fun⟨a,b⟩=>?_) B64 (r,0)) fun f=>?_
 refine io ?_ (lf rfl)
 refine bo rg fun c=>?_
 refine bo (e:=id) ?_ fun l=>?_
 refine io (lf rfl) ?_
 refine bo (ok98 (d+3) c.At 0 (w64 (i-1))) fun j=>?_
 exact lf rfl
 refine bo (e:=id) ?_ fun n=>?_
 refine io (lf rfl) ?_
 refine bo (ok98 (d+3) c.Micros 1 60000000) fun m=>?_
 exact lf rfl
 refine bo (e:=id) ?_ fun q=>?_
 refine io (lf rfl) ?_
 refine bo (e:=id) ?_ fun p=>?_
 refine io ?_ (lf rfl)
 refine bo rg fun o=>?_
 exact lf rfl
 exact lf rfl
 exact lf rfl
 exact lf rfl
def Fn102_8 (g:List Zv) (x2:Z0) (h:Int):Option (List Zv):=
 (aO (E:=List Zv) (fun(⟨a,e⟩:Int×(List Zv))=>if decide (a<(x2.Measures.length:Int))then(lget x2.Measures a).bind fun f=>(F137 a f).bind fun b=>(Fn96 b f.ID e x2 h).bind fun c=>some (.inl ((w64 (a+1)),c))else some (.inr e)) B64 (0,g)).bind fun d=>some d
theorem okn102_8 {k} (d) (c:List Zv) (x2:Z0) (a:Int):runR (XD k (d+6)) 102 [.ref 1 0,.fn 137 [] []] [(2,.lst 147 3 false (I Zv.g c)),(1,.box (ck x2 a (.own 2)))] 3 false=(Fn102_8 c x2 a).map (fun(f:List Zv)=>((.tup [],[(2,.lst 147 3 false (I Zv.g f)),(1,.box (ck x2 a (.own 2)))],0))):=by
 rw[xd (fn:=p102) rfl]
 refine bz lm ?_
 refine bo (aH (S:=Int×(List Zv)) (enc:=fun⟨h,i⟩=>(Q [(0,.ref 1 0),(1,.fn 137 [] []),(10,.is 22 (I Zm.g x2.Measures)),(11,i64 (x2.Measures.length:Int)),(12,i64 h)] [(2,.lst 147 3 false (I Zv.g i)),(1,.box (ck x2 a (.own 2)))])) (encE:=(fun(b:List Zv)=>(xq 0 [] [(2,.lst 147 3 false (I Zv.g b)),(1,.box (ck x2 a (.own 2)))]))) (fun⟨h,i⟩=>?_) B64 (0,c)) fun b=>?_
 refine io ?_ (lf rfl)
 refine bo rg fun j=>?_
 refine bo (ok137 d h j) fun e=>?_
 refine bo (okn96 (d+4) e j.ID i x2 a) fun l=>?_
 exact lf rfl
 exact lf rfl
def Fn74 (a:List Zv) (x2:Z0) (b:Int):Option (List Zv):=
 (Fn102_8 a x2 b).bind fun c=>some c
theorem okn74 {k} (d) (b:List Zv) (x2:Z0) (a:Int):runR (XD k (d+7)) 74 [.ref 1 0] [(2,.lst 147 3 false (I Zv.g b)),(1,.box (ck x2 a (.own 2)))] 3 false=(Fn74 b x2 a).map (fun(c:List Zv)=>((.tup [],[(2,.lst 147 3 false (I Zv.g c)),(1,.box (ck x2 a (.own 2)))],0))):=by
 rw[xd (fn:=p74) rfl]
 refine bo (okn102_8 d b x2 a) fun e=>?_
 exact lf rfl
def F138 (b:Zp) (x2:Ze) (c:Zk):Option Bool:=
 (F123 c.s' b).bind fun⟨e,f⟩=>((if !f then some true else(F122 x2).bind fun g=>some (!g):Option (Bool))).bind fun h=>if h||(e.Measure==b.Measure)then some false else(lget c.s'.Measures b.Measure).bind fun a=>(lget c.s'.Measures e.Measure).bind fun d=>some ((((((a.RepeatEnd !=0)||(a.Jump !=0))||((iand .i64 a.Labels 12)!=0))||(a.Endings !=d.Endings))||d.RepeatStart)||((iand .i64 d.Labels 3)!=0))
theorem ok138 {k} (d) (a:Zp) (x2:Ze) (b:Zk):OD k (d+5) 138 [.agg (Zp.g a),.agg (Ze.g x2),.ip [.ip (Zk.g b)]]=(F138 a x2 b).map (fun c=>bv c):=by
 rw[od (fn:=p138) rfl rfl rfl]
 refine bo (ok123 (d+1) b.s' a) fun⟨f,h⟩=>?_
 refine bo (e:=id) ?_ fun j=>?_
 refine io (lf rfl) ?_
 refine bo (ok122 d x2) fun i=>?_
 exact lf rfl
 refine bz (gor rfl) ?_
 refine io (lf rfl) ?_
 refine bo rg fun l=>?_
 refine bo rg fun m=>?_
 refine bz (gor rfl) ?_
 refine bz (gor rfl) ?_
 refine bz (gor rfl) ?_
 refine bz (gor rfl) ?_
 refine bz (gor rfl) ?_
 exact lf rfl
def Fn112_5 (t:List Zv) (x2:Z0) (s:Int):Option (List Zv):=
 (aO (E:=List Zv) (fun(⟨c,m⟩:Int×(List Zv))=>if decide (c<(x2.Measures.length:Int))then(lget x2.Measures c).bind fun n=>(aO (E:=List Zv) (fun(⟨d,o⟩:Int×(List Zv))=>if decide (d<(n.Cells.length:Int))then(lget n.Cells d).bind fun p=>(aO (E:=List Zv) (fun(⟨e,q⟩:Int×(List Zv))=>if decide (e<(p.Voices.length:Int))then(lget p.Voices e).bind fun r=>(aO (E:=List Zv) (fun(⟨a,b⟩:Int×(List Zv))=>if decide (a<(r.Events.length:Int))then(lget r.Events a).bind fun f=>(F138 (Zp.mk 4 0 d c e a 0) f (Zk.mk x2 s b)).bind fun g=>(Fn96 g f.ID b x2 s).bind fun h=>some (.inl ((w64 (a+1)),h))else some (.inr b)) B64 (0,q)).bind fun i=>some (.inl ((w64 (e+1)),i))else some (.inr q)) B64 (0,o)).bind fun j=>some (.inl ((w64 (d+1)),j))else some (.inr o)) B64 (0,m)).bind fun k=>some (.inl ((w64 (c+1)),k))else some (.inr m)) B64 (0,t)).bind fun l=>some l
theorem okn112_5 {k} (d) (w:List Zv) (x2:Z0) (h:Int):runR (XD k (d+6)) 112 [.ref 1 0,.fn 138 [] [.ref 3 0]] [(3,.box [.ref 1 0]),(2,.lst 147 3 false (I Zv.g w)),(1,.box (ck x2 h (.own 2)))] 4 false=(Fn112_5 w x2 h).map (fun(v:List Zv)=>((.tup [],[(3,.box [.ref 1 0]),(2,.lst 147 3 false (I Zv.g v)),(1,.box (ck x2 h (.own 2)))],0))):=by
 rw[xd (fn:=p112) rfl]
 refine bz lm ?_
 refine bo (aH (S:=Int×(List Zv)) (enc:=fun⟨b,r⟩=>(Q [(0,.ref 1 0),(1,.fn 138 [] [.ref 3 0]),(16,.is 22 (I Zm.g x2.Measures)),(17,i64 (x2.Measures.length:Int)),(18,i64 b)] [(3,.box [.ref 1 0]),(2,.lst 147 3 false (I Zv.g r)),(1,.box (ck x2 h (.own 2)))])) (encE:=(fun(q:List Zv)=>(xq 0 [] [(3,.box [.ref 1 0]),(2,.lst 147 3 false (I Zv.g q)),(1,.box (ck x2 h (.own 2)))]))) (fun⟨b,r⟩=>?_) B64 (0,w)) fun q=>?_
 refine io ?_ (lf rfl)
 refine bo rg fun a=>?_
 refine bz lm ?_
 refine bo (aH (S:=Int×(List Zv)) (enc:=fun⟨c,s⟩=>(Q [(0,.ref 1 0),(1,.fn 138 [] [.ref 3 0]),(4,i64 b),(16,.is 22 (I Zm.g x2.Measures)),(17,i64 (x2.Measures.length:Int)),(18,i64 b),(24,.is 2 (I Zw.g a.Cells)),(25,i64 (a.Cells.length:Int)),(26,i64 c)] [(4,.box (Zm.g a)),(3,.box [.ref 1 0]),(2,.lst 147 3 false (I Zv.g s)),(1,.box (ck x2 h (.own 2)))])) (encE:=(fun(p:List Zv)=>(xq 2 [(0,.ref 1 0),(1,.fn 138 [] [.ref 3 0]),(16,.is 22 (I Zm.g x2.Measures)),(17,i64 (x2.Measures.length:Int)),(18,i64 b)] [(4,.box (Zm.g a)),(3,.box [.ref 1 0]),(2,.lst 147 3 false (I Zv.g p)),(1,.box (ck x2 h (.own 2)))]))) (fun⟨c,s⟩=>?_) B64 (0,r)) fun p=>?_
 refine io ?_ (lf rfl)
 refine bo rg fun e=>?_
 refine bz lm ?_
 refine bo (aH (S:=Int×(List Zv)) (enc:=fun⟨i,t⟩=>(Q [(0,.ref 1 0),(1,.fn 138 [] [.ref 3 0]),(4,i64 b),(6,i64 c),(16,.is 22 (I Zm.g x2.Measures)),(17,i64 (x2.Measures.length:Int)),(18,i64 b),(24,.is 2 (I Zw.g a.Cells)),(25,i64 (a.Cells.length:Int)),(26,i64 c),(32,.is 2 (I Zo.g e.Voices)),(33,i64 (e.Voices.length:Int)),(34,i64 i)] [(5,.box (Zw.g e)),(4,.box (Zm.g a)),(3,.box [.ref 1 0]),(2,.lst 147 3 false (I Zv.g t)),(1,.box (ck x2 h (.own 2)))])) (encE:=(fun(o:List Zv)=>(xq 4 [(0,.ref 1 0),(1,.fn 138 [] [.ref 3 0]),(4,i64 b),(16,.is 22 (I Zm.g x2.Measures)),(17,i64 (x2.Measures.length:Int)),(18,i64 b),(24,.is 2 (I Zw.g a.Cells)),(25,i64 (a.Cells.length:Int)),(26,i64 c)] [(5,.box (Zw.g e)),(4,.box (Zm.g a)),(3,.box [.ref 1 0]),(2,.lst 147 3 false (I Zv.g o)),(1,.box (ck x2 h (.own 2)))]))) (fun⟨i,t⟩=>?_) B64 (0,s)) fun o=>?_
 refine io ?_ (lf rfl)
 refine bo rg fun l=>?_
 refine bz lm ?_
 refine bo (aH (S:=Int×(List Zv)) (enc:=fun⟨j,f⟩=>(Q [(0,.ref 1 0),(1,.fn 138 [] [.ref 3 0]),(4,i64 b),(6,i64 c),(8,i64 i),(16,.is 22 (I Zm.g x2.Measures)),(17,i64 (x2.Measures.length:Int)),(18,i64 b),(24,.is 2 (I Zw.g a.Cells)),(25,i64 (a.Cells.length:Int)),(26,i64 c),(32,.is 2 (I Zo.g e.Voices)),(33,i64 (e.Voices.length:Int)),(34,i64 i),(40,.is 13 (I Ze.g l.Events)),(41,i64 (l.Events.length:Int)),(42,i64 j)] [(6,.box (Zo.g l)),(5,.box (Zw.g e)),(4,.box (Zm.g a)),(3,.box [.ref 1 0]),(2,.lst 147 3 false (I Zv.g f)),(1,.box (ck x2 h (.own 2)))])) (encE:=(fun(n:List Zv)=>(xq 6 [(0,.ref 1 0),(1,.fn 138 [] [.ref 3 0]),(4,i64 b),(6,i64 c),(16,.is 22 (I Zm.g x2.Measures)),(17,i64 (x2.Measures.length:Int)),(18,i64 b),(24,.is 2 (I Zw.g a.Cells)),(25,i64 (a.Cells.length:Int)),(26,i64 c),(32,.is 2 (I Zo.g e.Voices)),(33,i64 (e.Voices.length:Int)),(34,i64 i)] [(6,.box (Zo.g l)),(5,.box (Zw.g e)),(4,.box (Zm.g a)),(3,.box [.ref 1 0]),(2,.lst 147 3 false (I Zv.g n)),(1,.box (ck x2 h (.own 2)))]))) (fun⟨j,f⟩=>?_) B64 (0,t)) fun n=>?_
 refine io ?_ (lf rfl)
 refine bo rg fun m=>?_
 refine bo (ok138 d (Zp.mk 4 0 c b i j 0) m (Zk.mk x2 h f)) fun u=>?_
 refine bo (okn96 (d+4) u m.ID f x2 h) fun x=>?_
 exact lf rfl
 exact lf rfl
 exact lf rfl
 exact lf rfl
 exact lf rfl
def Fn75 (a:List Zv) (x2:Z0) (b:Int):Option (List Zv):=
 (Fn112_5 a x2 b).bind fun c=>some c
theorem okn75 {k} (d) (b:List Zv) (x2:Z0) (a:Int):runR (XD k (d+7)) 75 [.ref 1 0] [(2,.lst 147 3 false (I Zv.g b)),(1,.box (ck x2 a (.own 2)))] 3 false=(Fn75 b x2 a).map (fun(c:List Zv)=>((.tup [],[(2,.lst 147 3 false (I Zv.g c)),(1,.box (ck x2 a (.own 2)))],0))):=by
 rw[xd (fn:=p75) rfl]
 refine bo (okn112_5 d b x2 a) fun e=>?_
 exact lf rfl
def F40 (a:Z0):Option (List Zv):=
 ((if decide ((([]:List Zv).length:Int)>0)then((if false then some true else((if false then(lidx ([]:List Zv) 0).bind fun x2=>(lnth ([]:List Zv) x2).bind fun x3=>some (decide (x3.Rule<10))else some false:Option (Bool))).bind fun x4=>some x4:Option (Bool))).bind fun x5=>some x5 else some false:Option (Bool))).bind fun x6=>if x6 then some []else(Fn59 [] a 1).bind fun u=>((if decide ((u.length:Int)>0)then((if true then some true else((if false then(lidx u 0).bind fun x8=>(lnth u x8).bind fun x9=>some (decide (x9.Rule<10))else some false:Option (Bool))).bind fun v=>some v:Option (Bool))).bind fun w=>some w else some false:Option (Bool))).bind fun x=>if x then some u else(Fn60 u a 2).bind fun b=>((if decide ((b.length:Int)>0)then((if false then some true else((if false then(lidx b 0).bind fun y=>(lnth b y).bind fun z=>some (decide (z.Rule<10))else some false:Option (Bool))).bind fun A=>some A:Option (Bool))).bind fun B=>some B else some false:Option (Bool))).bind fun C=>if C then some b else(Fn61 b a 3).bind fun c=>((if decide ((c.length:Int)>0)then((if false then some true else((if false then(lidx c 0).bind fun D=>(lnth c D).bind fun E=>some (decide (E.Rule<10))else some false:Option (Bool))).bind fun F=>some F:Option (Bool))).bind fun G=>some G else some false:Option (Bool))).bind fun H=>if H then some c else(Fn62 c a 4).bind fun d=>((if decide ((d.length:Int)>0)then((if false then some true else((if false then(lidx d 0).bind fun J=>(lnth d J).bind fun K=>some (decide (K.Rule<10))else some false:Option (Bool))).bind fun L=>some L:Option (Bool))).bind fun M=>some M else some false:Option (Bool))).bind fun N=>if N then some d else(Fn63 d a 5).bind fun e=>((if decide ((e.length:Int)>0)then((if false then some true else((if false then(lidx e 0).bind fun O=>(lnth e O).bind fun P=>some (decide (P.Rule<10))else some false:Option (Bool))).bind fun R=>some R:Option (Bool))).bind fun S=>some S else some false:Option (Bool))).bind fun T=>if T then some e else(Fn64 e a 6).bind fun f=>((if decide ((f.length:Int)>0)then((if false then some true else((if false then(lidx f 0).bind fun U=>(lnth f U).bind fun V=>some (decide (V.Rule<10))else some false:Option (Bool))).bind fun W=>some W:Option (Bool))).bind fun X=>some X else some false:Option (Bool))).bind fun Y=>if Y then some f else(Fn65 f a 7).bind fun g=>((if decide ((g.length:Int)>0)then((if false then some true else((if false then(lidx g 0).bind fun Z=>(lnth g Z).bind fun a0=>some (decide (a0.Rule<10))else some false:Option (Bool))).bind fun b0=>some b0:Option (Bool))).bind fun b4=>some b4 else some false:Option (Bool))).bind fun b5=>if b5 then some g else(Fn66 g a 8).bind fun h=>((if decide ((h.length:Int)>0)then((if false then some true else((if false then(lidx h 0).bind fun b6=>(lnth h b6).bind fun b7=>some (decide (b7.Rule<10))else some false:Option (Bool))).bind fun b8=>some b8:Option (Bool))).bind fun b9=>some b9 else some false:Option (Bool))).bind fun d0=>if d0 then some h else(Fn67 h a 9).bind fun i=>((if decide ((i.length:Int)>0)then((if false then some true else((if true then(lidx i 0).bind fun d1=>(lnth i d1).bind fun d2=>some (decide (d2.Rule<10))else some false:Option (Bool))).bind fun d3=>some d3:Option (Bool))).bind fun d4=>some d4 else some false:Option (Bool))).bind fun d5=>if d5 then some i else(Fn68 i a 10).bind fun j=>((if decide ((j.length:Int)>0)then((if false then some true else((if true then(lidx j 0).bind fun d6=>(lnth j d6).bind fun d7=>some (decide (d7.Rule<10))else some false:Option (Bool))).bind fun d8=>some d8:Option (Bool))).bind fun d9=>some d9 else some false:Option (Bool))).bind fun e0=>if e0 then some j else(Fn69 j a 11).bind fun k=>((if decide ((k.length:Int)>0)then((if false then some true else((if true then(lidx k 0).bind fun e1=>(lnth k e1).bind fun e2=>some (decide (e2.Rule<10))else some false:Option (Bool))).bind fun e3=>some e3:Option (Bool))).bind fun e4=>some e4 else some false:Option (Bool))).bind fun e5=>if e5 then some k else(Fn70 k a 12).bind fun l=>((if decide ((l.length:Int)>0)then((if false then some true else((if true then(lidx l 0).bind fun e6=>(lnth l e6).bind fun e7=>some (decide (e7.Rule<10))else some false:Option (Bool))).bind fun e8=>some e8:Option (Bool))).bind fun e9=>some e9 else some false:Option (Bool))).bind fun f0=>if f0 then some l else(Fn71 l a 13).bind fun m=>((if decide ((m.length:Int)>0)then((if false then some true else((if true then(lidx m 0).bind fun f1=>(lnth m f1).bind fun f2=>some (decide (f2.Rule<10))else some false:Option (Bool))).bind fun f3=>some f3:Option (Bool))).bind fun f6=>some f6 else some false:Option (Bool))).bind fun f7=>if f7 then some m else(Fn72 m a 14).bind fun n=>((if decide ((n.length:Int)>0)then((if false then some true else((if true then(lidx n 0).bind fun f8=>(lnth n f8).bind fun f9=>some (decide (f9.Rule<10))else some false:Option (Bool))).bind fun g1=>some g1:Option (Bool))).bind fun g3=>some g3 else some false:Option (Bool))).bind fun g4=>if g4 then some n else(Fn73 n a 15).bind fun o=>((if decide ((o.length:Int)>0)then((if false then some true else((if true then(lidx o 0).bind fun g5=>(lnth o g5).bind fun g6=>some (decide (g6.Rule<10))else some false:Option (Bool))).bind fun g7=>some g7:Option (Bool))).bind fun g8=>some g8 else some false:Option (Bool))).bind fun g9=>if g9 then some o else(Fn74 o a 16).bind fun p=>((if decide ((p.length:Int)>0)then((if false then some true else((if true then(lidx p 0).bind fun h0=>(lnth p h0).bind fun h2=>some (decide (h2.Rule<10))else some false:Option (Bool))).bind fun q=>some q:Option (Bool))).bind fun r=>some r else some false:Option (Bool))).bind fun s=>if s then some p else(Fn75 p a 17).bind fun t=>some t
theorem ok40 {k} (d) (a:Z0):OD k (d+25) 40 [.agg (Z0.g a)]=(F40 a).map (fun y0=>.is 3 (I Zv.g y0)):=by
 rw[od (fn:=p40) rfl rfl rfl]
 refine bz (bW Zv.g ([]:List Zv)) ?_
 refine bo (e:=id) ?_ fun x6=>?_
 refine io ?_ (lf rfl)
 refine bo (e:=id) ?_ fun x5=>?_
 refine io (lf rfl) ?_
 refine bo (e:=id) ?_ fun x4=>?_
 refine io ?_ (lf rfl)
 refine bo (aW Zv.g ([]:List Zv) _) fun x2=>?_
 refine bo (bE (A:=Zv) (c:=Zv.g) (g:=fun S=>i64 S.Rule) (fun _=>rfl) ([]:List Zv) _) fun S=>?_
 exact lf rfl
 exact lf rfl
 exact lf rfl
 refine io (lf rfl) ?_
 refine bo (okn59 (d+19) [] a 1) fun M=>?_
 refine bz (bW Zv.g M) ?_
 refine bo (e:=id) ?_ fun W=>?_
 refine io ?_ (lf rfl)
 refine bo (e:=id) ?_ fun V=>?_
 refine io (lf rfl) ?_
 refine bo (e:=id) ?_ fun U=>?_
 refine io ?_ (lf rfl)
 refine bo (aW Zv.g M _) fun x8=>?_
 refine bo (bE (A:=Zv) (c:=Zv.g) (g:=fun T=>i64 T.Rule) (fun _=>rfl) M _) fun T=>?_
 exact lf rfl
 exact lf rfl
 exact lf rfl
 refine io (lf rfl) ?_
 refine bo (okn60 (d+20) M a 2) fun b=>?_
 refine bz (bW Zv.g b) ?_
 refine bo (e:=id) ?_ fun a0=>?_
 refine io ?_ (lf rfl)
 refine bo (e:=id) ?_ fun Z=>?_
 refine io (lf rfl) ?_
 refine bo (e:=id) ?_ fun Y=>?_
 refine io ?_ (lf rfl)
 refine bo (aW Zv.g b _) fun X=>?_
 refine bo (bE (A:=Zv) (c:=Zv.g) (g:=fun v=>i64 v.Rule) (fun _=>rfl) b _) fun v=>?_
 exact lf rfl
 exact lf rfl
 exact lf rfl
 refine io (lf rfl) ?_
 refine bo (okn61 (d+21) b a 3) fun f=>?_
 refine bz (bW Zv.g f) ?_
 refine bo (e:=id) ?_ fun b6=>?_
 refine io ?_ (lf rfl)
 refine bo (e:=id) ?_ fun b5=>?_
 refine io (lf rfl) ?_
 refine bo (e:=id) ?_ fun b4=>?_
 refine io ?_ (lf rfl)
 refine bo (aW Zv.g f _) fun b0=>?_
 refine bo (bE (A:=Zv) (c:=Zv.g) (g:=fun w=>i64 w.Rule) (fun _=>rfl) f _) fun w=>?_
 exact lf rfl
 exact lf rfl
 exact lf rfl
 refine io (lf rfl) ?_
 refine bo (okn62 (d+17) f a 4) fun h=>?_
 refine bz (bW Zv.g h) ?_
 refine bo (e:=id) ?_ fun d0=>?_
 refine io ?_ (lf rfl)
 refine bo (e:=id) ?_ fun b9=>?_
 refine io (lf rfl) ?_
 refine bo (e:=id) ?_ fun b8=>?_
 refine io ?_ (lf rfl)
 refine bo (aW Zv.g h _) fun b7=>?_
 refine bo (bE (A:=Zv) (c:=Zv.g) (g:=fun x=>i64 x.Rule) (fun _=>rfl) h _) fun x=>?_
 exact lf rfl
 exact lf rfl
 exact lf rfl
 refine io (lf rfl) ?_
 refine bo (okn63 (d+17) h a 5) fun i=>?_
 refine bz (bW Zv.g i) ?_
 refine bo (e:=id) ?_ fun d4=>?_
 refine io ?_ (lf rfl)
 refine bo (e:=id) ?_ fun d3=>?_
 refine io (lf rfl) ?_
 refine bo (e:=id) ?_ fun d2=>?_
 refine io ?_ (lf rfl)
 refine bo (aW Zv.g i _) fun d1=>?_
 refine bo (bE (A:=Zv) (c:=Zv.g) (g:=fun y=>i64 y.Rule) (fun _=>rfl) i _) fun y=>?_
 exact lf rfl
 exact lf rfl
 exact lf rfl
 refine io (lf rfl) ?_
 refine bo (okn64 d i a 6) fun j=>?_
 refine bz (bW Zv.g j) ?_
 refine bo (e:=id) ?_ fun d8=>?_
 refine io ?_ (lf rfl)
 refine bo (e:=id) ?_ fun d7=>?_
 refine io (lf rfl) ?_
 refine bo (e:=id) ?_ fun d6=>?_
 refine io ?_ (lf rfl)
 refine bo (aW Zv.g j _) fun d5=>?_
 refine bo (bE (A:=Zv) (c:=Zv.g) (g:=fun z=>i64 z.Rule) (fun _=>rfl) j _) fun z=>?_
 exact lf rfl
 exact lf rfl
 exact lf rfl
 refine io (lf rfl) ?_
 refine bo (okn65 d j a 7) fun l=>?_
 refine bz (bW Zv.g l) ?_
 refine bo (e:=id) ?_ fun e2=>?_
 refine io ?_ (lf rfl)
 refine bo (e:=id) ?_ fun e1=>?_
 refine io (lf rfl) ?_
 refine bo (e:=id) ?_ fun e0=>?_
 refine io ?_ (lf rfl)
 refine bo (aW Zv.g l _) fun d9=>?_
 refine bo (bE (A:=Zv) (c:=Zv.g) (g:=fun B=>i64 B.Rule) (fun _=>rfl) l _) fun B=>?_
 exact lf rfl
 exact lf rfl
 exact lf rfl
 refine io (lf rfl) ?_
 refine bo (okn66 (d+13) l a 8) fun m=>?_
 refine bz (bW Zv.g m) ?_
 refine bo (e:=id) ?_ fun e6=>?_
 refine io ?_ (lf rfl)
 refine bo (e:=id) ?_ fun e5=>?_
 refine io (lf rfl) ?_
 refine bo (e:=id) ?_ fun e4=>?_
 refine io ?_ (lf rfl)
 refine bo (aW Zv.g m _) fun e3=>?_
 refine bo (bE (A:=Zv) (c:=Zv.g) (g:=fun C=>i64 C.Rule) (fun _=>rfl) m _) fun C=>?_
 exact lf rfl
 exact lf rfl
 exact lf rfl
 refine io (lf rfl) ?_
 refine bo (okn67 (d+13) m a 9) fun n=>?_
 refine bz (bW Zv.g n) ?_
 refine bo (e:=id) ?_ fun f0=>?_
 refine io ?_ (lf rfl)
 refine bo (e:=id) ?_ fun e9=>?_
 refine io (lf rfl) ?_
 refine bo (e:=id) ?_ fun e8=>?_
 refine io ?_ (lf rfl)
 refine bo (aW Zv.g n _) fun e7=>?_
 refine bo (bE (A:=Zv) (c:=Zv.g) (g:=fun D=>i64 D.Rule) (fun _=>rfl) n _) fun D=>?_
 exact lf rfl
 exact lf rfl
 exact lf rfl
 refine io (lf rfl) ?_
 refine bo (okn68 (d+17) n a 10) fun o=>?_
 refine bz (bW Zv.g o) ?_
 refine bo (e:=id) ?_ fun f6=>?_
 refine io ?_ (lf rfl)
 refine bo (e:=id) ?_ fun f3=>?_
 refine io (lf rfl) ?_
 refine bo (e:=id) ?_ fun f2=>?_
 refine io ?_ (lf rfl)
 refine bo (aW Zv.g o _) fun f1=>?_
 refine bo (bE (A:=Zv) (c:=Zv.g) (g:=fun E=>i64 E.Rule) (fun _=>rfl) o _) fun E=>?_
 exact lf rfl
 exact lf rfl
 exact lf rfl
 refine io (lf rfl) ?_
 refine bo (okn69 (d+21) o a 11) fun p=>?_
 refine bz (bW Zv.g p) ?_
 refine bo (e:=id) ?_ fun g1=>?_
 refine io ?_ (lf rfl)
 refine bo (e:=id) ?_ fun f9=>?_
 refine io (lf rfl) ?_
 refine bo (e:=id) ?_ fun f8=>?_
 refine io ?_ (lf rfl)
 refine bo (aW Zv.g p _) fun f7=>?_
 refine bo (bE (A:=Zv) (c:=Zv.g) (g:=fun F=>i64 F.Rule) (fun _=>rfl) p _) fun F=>?_
 exact lf rfl
 exact lf rfl
 exact lf rfl
 refine io (lf rfl) ?_
 refine bo (okn70 (d+7) p a 12) fun q=>?_
 refine bz (bW Zv.g q) ?_
 refine bo (e:=id) ?_ fun g6=>?_
 refine io ?_ (lf rfl)
 refine bo (e:=id) ?_ fun g5=>?_
 refine io (lf rfl) ?_
 refine bo (e:=id) ?_ fun g4=>?_
 refine io ?_ (lf rfl)
 refine bo (aW Zv.g q _) fun g3=>?_
 refine bo (bE (A:=Zv) (c:=Zv.g) (g:=fun G=>i64 G.Rule) (fun _=>rfl) q _) fun G=>?_
 exact lf rfl
 exact lf rfl
 exact lf rfl
 refine io (lf rfl) ?_
 refine bo (okn71 (d+7) q a 13) fun r=>?_
 refine bz (bW Zv.g r) ?_
 refine bo (e:=id) ?_ fun h0=>?_
 refine io ?_ (lf rfl)
 refine bo (e:=id) ?_ fun g9=>?_
 refine io (lf rfl) ?_
 refine bo (e:=id) ?_ fun g8=>?_
 refine io ?_ (lf rfl)
 refine bo (aW Zv.g r _) fun g7=>?_
 refine bo (bE (A:=Zv) (c:=Zv.g) (g:=fun H=>i64 H.Rule) (fun _=>rfl) r _) fun H=>?_
 exact lf rfl
 exact lf rfl
 exact lf rfl
 refine io (lf rfl) ?_
 refine bo (okn72 (d+19) r a 14) fun s=>?_
 refine bz (bW Zv.g s) ?_
 refine bo (e:=id) ?_ fun h5=>?_
 refine io ?_ (lf rfl)
 refine bo (e:=id) ?_ fun h4=>?_
 refine io (lf rfl) ?_
 refine bo (e:=id) ?_ fun h3=>?_
 refine io ?_ (lf rfl)
 refine bo (aW Zv.g s _) fun h2=>?_
 refine bo (bE (A:=Zv) (c:=Zv.g) (g:=fun J=>i64 J.Rule) (fun _=>rfl) s _) fun J=>?_
 exact lf rfl
 exact lf rfl
 exact lf rfl
 refine io (lf rfl) ?_
 refine bo (okn73 (d+16) s a 15) fun t=>?_
 refine bz (bW Zv.g t) ?_
 refine bo (e:=id) ?_ fun h9=>?_
 refine io ?_ (lf rfl)
 refine bo (e:=id) ?_ fun h8=>?_
 refine io (lf rfl) ?_
 refine bo (e:=id) ?_ fun h7=>?_
 refine io ?_ (lf rfl)
 refine bo (aW Zv.g t _) fun h6=>?_
 refine bo (bE (A:=Zv) (c:=Zv.g) (g:=fun K=>i64 K.Rule) (fun _=>rfl) t _) fun K=>?_
 exact lf rfl
 exact lf rfl
 exact lf rfl
 refine io (lf rfl) ?_
 refine bo (okn74 (d+17) t a 16) fun u=>?_
 refine bz (bW Zv.g u) ?_
 refine bo (e:=id) ?_ fun P=>?_
 refine io ?_ (lf rfl)
 refine bo (e:=id) ?_ fun O=>?_
 refine io (lf rfl) ?_
 refine bo (e:=id) ?_ fun N=>?_
 refine io ?_ (lf rfl)
 refine bo (aW Zv.g u _) fun i0=>?_
 refine bo (bE (A:=Zv) (c:=Zv.g) (g:=fun L=>i64 L.Rule) (fun _=>rfl) u _) fun L=>?_
 exact lf rfl
 exact lf rfl
 exact lf rfl
 refine io (lf rfl) ?_
 refine bo (okn75 (d+17) u a 17) fun R=>?_
 exact lf rfl
def F18 (a:Z0):Option Bool:=
 (F40 a).bind fun x2=>some ((x2.length:Int)==0)
theorem ok18 {k} (d) (a:Z0):OD k (d+26) 18 [.agg (Z0.g a)]=(F18 a).map (fun b=>bv b):=by
 rw[od (fn:=p18) rfl rfl rfl]
 refine bo (ok40 d a) fun x2=>?_
 refine bz lm ?_
 exact lf rfl
def F7 (a:Z0):Option Bool:=
 (F17 a).bind fun x2=>((if x2 then(F18 a).bind fun b=>some b else some false:Option (Bool))).bind fun c=>some c
theorem ok7 {k} (d) (a:Z0):OD k (d+27) 7 [.agg (Z0.g a)]=(F7 a).map (fun b=>bv b):=by
 rw[od (fn:=p7) rfl rfl rfl]
 refine bo (ok17 (d+24) a) fun x2=>?_
 refine bo (e:=id) ?_ fun f=>?_
 refine io ?_ (lf rfl)
 refine bo (ok18 d a) fun c=>?_
 exact lf rfl
 exact lf rfl
def F23 (a:Z0) (x2:Int):Option Int:=
 (F18 a).bind fun b=>if !b then some 24 else if(decide (x2<0))||(decide (x2>=(a.Parts.length:Int)))then some 2 else some 0
theorem ok23 {k} (d) (a:Z0) (x2:Int):OD k (d+27) 23 [.agg (Z0.g a),i64 x2]=(F23 a x2).map (fun b=>i64 b):=by
 rw[od (fn:=p23) rfl rfl rfl]
 refine bo (ok18 d a) fun c=>?_
 refine io (lf rfl) ?_
 refine bz (gor (bz lm rfl)) ?_
 refine io (lf rfl) (lf rfl)
def F32_2 (f:ByteArray) (x2:Bool) (b:List Zj):Option Int:=
 (aO (E:=Int) (fun(⟨c,a⟩:Int×Int)=>if decide (a<(b.length:Int))then(lget b a).bind fun d=>some (.inl ((w64 (c+(d.Staves.length:Int))),(w64 (a+1))))else some (.inr c)) B64 (0,0)).bind fun e=>some e
theorem ok32_2 {k} (d) (b:ByteArray) (x2:Bool) (a:List Zj):OD k (d+1) 32 [.agg [.v (.string b),bv x2,.is 6 (I Zj.g a),.v (.slice none 0 0),.v (.slice none 0 0),.v (.slice none 0 0)]]=(F32_2 b x2 a).map (fun h=>i64 h):=by
 rw[od (fn:=p32) rfl rfl rfl]
 refine bz lm ?_
 refine bo (aH (S:=Int×Int) (enc:=fun⟨c,e⟩=>(Q [(3,i64 c),(7,.is 6 (I Zj.g a)),(8,i64 (a.length:Int)),(9,i64 e)] [(0,.box [.v (.string b),bv x2,.is 6 (I Zj.g a),.v (.slice none 0 0),.v (.slice none 0 0),.v (.slice none 0 0)])])) (encE:=(fun(f:Int)=>(xq 0 [(3,i64 f)] [(0,.box [.v (.string b),bv x2,.is 6 (I Zj.g a),.v (.slice none 0 0),.v (.slice none 0 0),.v (.slice none 0 0)])]))) (fun⟨c,e⟩=>?_) B64 (0,0)) fun f=>?_
 refine io ?_ (lf rfl)
 refine bo rg fun i=>?_
 refine bz lm ?_
 exact lf rfl
 exact lf rfl
def F36 (a:Z0) (x2:Int):Option (Int×Int):=
 if(decide (x2<0))||(decide (x2>=(a.Parts.length:Int)))then some (0,2)else(iP a.Parts 0 x2).bind fun b=>(F32_2 (⟨#[]⟩:ByteArray) false b).bind fun c=>some (c,0)
theorem ok36 {k} (d) (a:Z0) (x2:Int):OD k (d+2) 36 [.agg (Z0.g a),i64 x2]=(F36 a x2).map (fun⟨c,e⟩=>.tup [i64 c,i64 e]):=by
 rw[od (fn:=p36) rfl rfl rfl]
 refine bz (gor (bz lm rfl)) ?_
 refine io (lf rfl) ?_
 refine bo (gS _ _ _ _) fun b=>?_
 refine bo (ok32_2 d (⟨#[]⟩:ByteArray) false b) fun f=>?_
 exact lf rfl
def F58 (a:Ze):Option Bool:=
 some ((a.Kind==1)&&(decide ((a.Heads.length:Int)>0)))
theorem ok58 {k} (d) (a:Ze):OD k (d+1) 58 [.agg (Ze.g a)]=(F58 a).map (fun b=>bv b):=by
 rw[od (fn:=p58) rfl rfl rfl]
 refine bz (gand (bz lm rfl)) ?_
 exact lf rfl
def F95_2 (b:List Ze):Option Int:=
 (aO (E:=Int⊕Unit) (fun(a:Int)=>if decide (a<(b.length:Int))then(lget b a).bind fun c=>(F58 c).bind fun d=>if d then some (.inr (.inl a))else some (.inl (w64 (a+1)))else some (.inr (.inr ()))) B64 0).bind fun e=>(match e with|.inl x7=>some x7|.inr _=>some (-1))
theorem ok95_2 {k} (d) (a:List Ze):OD k (d+2) 95 [.is 13 (I Ze.g a),.fn 58 [] []]=(F95_2 a).map (fun h=>i64 h):=by
 rw[od (fn:=p95) rfl rfl rfl]
 refine bz lm ?_
 refine bo (aH (S:=Int) (enc:=fun b=>(Q [(0,.is 13 (I Ze.g a)),(1,.fn 58 [] []),(7,i64 (a.length:Int)),(8,i64 b)] [])) (encE:=(fun|.inl c=>(rq [(4,i64 c)] [])|.inr _=>(xq 0 [] []))) (fun b=>?_) B64 0) fun f=>?_
 refine io ?_ (lf rfl)
 refine bo rg fun e=>?_
 refine bo (ok58 d e) fun i=>?_
 refine io (lf rfl) (lf rfl)
 rcases f with c|_
 exact lf rfl
 exact lf rfl
def F57_2 (a:List Ze):Option Bool:=
 (F95_2 a).bind fun x2=>some (decide (x2>=0))
theorem ok57_2 {k} (d) (a:List Ze):OD k (d+3) 57 [.is 13 (I Ze.g a),.fn 58 [] []]=(F57_2 a).map (fun b=>bv b):=by
 rw[od (fn:=p57) rfl rfl rfl]
 refine bo (ok95_2 d a) fun x2=>?_
 exact lf rfl
def F56 (a:Zo):Option Bool:=
 (F57_2 a.Events).bind fun x2=>some x2
theorem ok56 {k} (d) (a:Zo):OD k (d+4) 56 [.agg (Zo.g a)]=(F56 a).map (fun b=>bv b):=by
 rw[od (fn:=p56) rfl rfl rfl]
 refine bo (ok57_2 d a.Events) fun x2=>?_
 exact lf rfl
def F94_3 (b:List Zo):Option Int:=
 (aO (E:=Int⊕Unit) (fun(a:Int)=>if decide (a<(b.length:Int))then(lget b a).bind fun c=>(F56 c).bind fun d=>if d then some (.inr (.inl a))else some (.inl (w64 (a+1)))else some (.inr (.inr ()))) B64 0).bind fun e=>(match e with|.inl x7=>some x7|.inr _=>some (-1))
theorem ok94_3 {k} (d) (a:List Zo):OD k (d+5) 94 [.is 2 (I Zo.g a),.fn 56 [] []]=(F94_3 a).map (fun h=>i64 h):=by
 rw[od (fn:=p94) rfl rfl rfl]
 refine bz lm ?_
 refine bo (aH (S:=Int) (enc:=fun b=>(Q [(0,.is 2 (I Zo.g a)),(1,.fn 56 [] []),(7,i64 (a.length:Int)),(8,i64 b)] [])) (encE:=(fun|.inl c=>(rq [(4,i64 c)] [])|.inr _=>(xq 0 [] []))) (fun b=>?_) B64 0) fun f=>?_
 refine io ?_ (lf rfl)
 refine bo rg fun e=>?_
 refine bo (ok56 d e) fun i=>?_
 refine io (lf rfl) (lf rfl)
 rcases f with c|_
 exact lf rfl
 exact lf rfl
def F55_3 (a:List Zo):Option Bool:=
 (F94_3 a).bind fun x2=>some (decide (x2>=0))
theorem ok55_3 {k} (d) (a:List Zo):OD k (d+6) 55 [.is 2 (I Zo.g a),.fn 56 [] []]=(F55_3 a).map (fun b=>bv b):=by
 rw[od (fn:=p55) rfl rfl rfl]
 refine bo (ok94_3 d a) fun x2=>?_
 exact lf rfl
def F37 (a:Zm) (x2:Int):Option Bool:=
 if(decide (x2<0))||(decide (x2>=(a.Cells.length:Int)))then some true else(lget a.Cells x2).bind fun b=>(F55_3 b.Voices).bind fun c=>some (!c)
theorem ok37 {k} (d) (a:Zm) (x2:Int):OD k (d+7) 37 [.agg (Zm.g a),i64 x2]=(F37 a x2).map (fun c=>bv c):=by
 rw[od (fn:=p37) rfl rfl rfl]
 refine bz (gor (bz lm rfl)) ?_
 refine io (lf rfl) ?_
 refine bo rg fun b=>?_
 refine bo (ok55_3 d b.Voices) fun e=>?_
 exact lf rfl
def F28 (e:Z0) (x2:Int):Option (List Bool):=
 (F36 e x2).bind fun⟨r,v⟩=>(nZ (e.Measures.length:Int) (e.Measures.length:Int) false).bind fun u=>(aO (E:=List Bool) (fun(⟨a,c⟩:Int×(List Bool))=>if decide (a<(e.Measures.length:Int))then(lget e.Measures a).bind fun f=>(lidx c a).bind fun g=>(lput c g (fun s=>true)).bind fun h=>(lget e.Parts x2).bind fun i=>(aO (E:=List Bool) (fun(⟨d,b⟩:Int×(List Bool))=>if decide (d<(i.Staves.length:Int))then(lidx b a).bind fun j=>(lnth b j).bind fun k=>((if k then(F37 f (w64 (r+d))).bind fun l=>some l else some false:Option (Bool))).bind fun m=>(lidx b a).bind fun n=>(lput b n (fun t=>m)).bind fun o=>some (.inl ((w64 (d+1)),o))else some (.inr b)) B64 (0,h)).bind fun p=>some (.inl ((w64 (a+1)),p))else some (.inr c)) B64 (0,u)).bind fun q=>some q
theorem ok28 {k} (d) (a:Z0) (x2:Int):OD k (d+8) 28 [.agg (Z0.g a),i64 x2]=(F28 a x2).map (fun D=>.is 1 (I cB D)):=by
 rw[od (fn:=p28) rfl rfl rfl]
 refine bo (ok36 (d+5) a x2) fun⟨q,E⟩=>?_
 refine bz lm ?_
 refine bo (dY cB _ _ false) fun B=>?_
 refine bz lm ?_
 refine bo (aH (S:=Int×(List Bool)) (enc:=fun⟨h,i⟩=>(Q [(1,i64 x2),(2,.ref 0 0),(5,i64 q),(7,.own 1),(22,.is 22 (I Zm.g a.Measures)),(23,i64 (a.Measures.length:Int)),(24,i64 h)] [(1,.lst 4 1 true (I cB i)),(0,.box (Z0.g a))])) (encE:=(fun(p:List Bool)=>(xq 0 [(7,.own 1)] [(1,.lst 4 1 true (I cB p)),(0,.box (Z0.g a))]))) (fun⟨h,i⟩=>?_) B64 (0,B)) fun p=>?_
 refine io ?_ (lf rfl)
 refine bo rg fun j=>?_
 refine bo (aW cB i _) fun u=>?_
 refine bo (jX (A:=Bool) (c:=cB) (m:=1) (f:=fun v=>true) (fun _=>⟨rfl,rfl⟩) (Nat.le_of_ble_eq_true rfl) i _) fun r=>?_
 refine bo rg fun s=>?_
 refine bz lm ?_
 refine bo (aH (S:=Int×(List Bool)) (enc:=fun⟨l,b⟩=>(Q [(1,i64 x2),(2,.ref 0 0),(5,i64 q),(7,.own 1),(8,i64 h),(9,.ref 2 0),(22,.is 22 (I Zm.g a.Measures)),(23,i64 (a.Measures.length:Int)),(24,i64 h),(38,i64 (s.Staves.length:Int)),(39,i64 l)] [(2,.box (Zm.g j)),(1,.lst 4 1 true (I cB b)),(0,.box (Z0.g a))])) (encE:=(fun(o:List Bool)=>(xq 2 [(1,i64 x2),(2,.ref 0 0),(5,i64 q),(7,.own 1),(22,.is 22 (I Zm.g a.Measures)),(23,i64 (a.Measures.length:Int)),(24,i64 h)] [(2,.box (Zm.g j)),(1,.lst 4 1 true (I cB o)),(0,.box (Z0.g a))]))) (fun⟨l,b⟩=>?_) B64 (0,r)) fun o=>?_
 refine io ?_ (lf rfl)
 refine bo (aW cB b _) fun w=>?_
 refine bo (bE (A:=Bool) (c:=cB) (g:=fun n=>bv n) (fun _=>rfl) b _) fun n=>?_
 refine bo (e:=id) ?_ fun t=>?_
 refine io ?_ (lf rfl)
 refine bo (ok37 d j (w64 (q+l))) fun x=>?_
 exact lf rfl
 refine bo (aW cB b _) fun y=>?_
 refine bo (jX (A:=Bool) (c:=cB) (m:=1) (f:=fun z=>t) (fun _=>⟨rfl,rfl⟩) (Nat.le_of_ble_eq_true rfl) b _) fun C=>?_
 exact lf rfl
 exact lf rfl
 exact lf rfl
def F12 (a:Z0) (x2:Int):Option ((List Bool)×Int):=
 (F23 a x2).bind fun b=>if b !=0 then some ([],b)else(F28 a x2).bind fun c=>some (c,0)
theorem ok12 {k} (d) (a:Z0) (x2:Int):OD k (d+28) 12 [.agg (Z0.g a),i64 x2]=(F12 a x2).map (fun⟨b,c⟩=>.tup [.is 1 (I cB b),i64 c]):=by
 rw[od (fn:=p12) rfl rfl rfl]
 refine bo (ok23 d a x2) fun e=>?_
 refine io (lf rfl) ?_
 refine bo (ok28 (d+19) a x2) fun f=>?_
 exact lf rfl
def F14 (a:aQ):Option Int:=
 if(((decide (a.Rest<1))||(decide (a.Rest>1000)))||(decide (a.Length<1)))||(decide (a.Length>8))then some 2 else some 0
theorem ok14 {k} (d) (a:aQ):OD k (d+1) 14 [.agg (aQ.g a)]=(F14 a).map (fun b=>i64 b):=by
 rw[od (fn:=p14) rfl rfl rfl]
 refine bz (gor rfl) ?_
 refine bz (gor rfl) ?_
 refine bz (gor rfl) ?_
 refine io (lf rfl) (lf rfl)
def Fn27 (a:List Bool) (x2:aQ):Option Unit:=
 some ()
theorem okn27 {k} (d) (a:List Bool) (x2:aQ):runR (XD k (d+1)) 27 [.is 1 (I cB a),.agg (aQ.g x2)] [] 4 true=(Fn27 a x2).map (fun(_:Unit)=>((.fn 51 [] [.ref 4 0,.ref 5 0],[(5,.box (aQ.g x2)),(4,.box [.is 1 (I cB a)])],6))):=by
 rw[xd (fn:=p27) rfl]
 exact lf rfl
def Fy13_30 (a x2:Int) (b:List Int):Option (List Int):=
 (lapp false b [a]).bind fun c=>some c
theorem oky13_30 {k} (d) (a x2:Int) (b:List Int):yldR (XD k (d+1)) 6 [i64 a,i64 x2] [(6,.loop 35 [(10,.ref 2 0)] [28,29] q13_30a q13_30b false none),(3,.lst 3 1 false (I cI b)),(2,.box [.own 3])] 7=(Fy13_30 a x2 b).map (fun(c:List Int)=>((bv true,[(6,.loop 35 [(10,.ref 2 0)] [28,29] q13_30a q13_30b false none),(3,.lst 3 1 false (I cI c)),(2,.box [.own 3])],0))):=by
 rw[yd]
 refine bz (okg bI1) ?_
 refine bo (bR false cI b [a]) fun e=>?_
 exact lf rfl
def Fn51 (f:aQ) (x2:List Bool) (g:List Int):Option (List Int):=
 (aO (E:=List Int) (fun(⟨e,a,b⟩:Int×Int×(List Int))=>if decide (a<(x2.length:Int))then(lget x2 a).bind fun h=>if h then some (.inl (e,(w64 (a+1)),b))else if decide ((w64 (a-e))>=f.Rest)then(Fy13_30 a e b).bind fun c=>some (.inl ((w64 (a+1)),(w64 (a+1)),c))else some (.inl ((w64 (a+1)),(w64 (a+1)),b))else some (.inr b)) B64 (0,0,g)).bind fun d=>some d
theorem okn51 {k} (d) (a:aQ) (x2:List Bool) (e:List Int):runR (XD k (d+2)) 51 [.yld 6,.ref 4 0,.ref 5 0] [(6,.loop 35 [(10,.ref 2 0)] [28,29] q13_30a q13_30b false none),(5,.box (aQ.g a)),(4,.box [.is 1 (I cB x2)]),(3,.lst 3 1 false (I cI e)),(2,.box [.own 3])] 7 false=(Fn51 a x2 e).map (fun(c:List Int)=>((.tup [],[(6,.loop 35 [(10,.ref 2 0)] [28,29] q13_30a q13_30b false none),(5,.box (aQ.g a)),(4,.box [.is 1 (I cB x2)]),(3,.lst 3 1 false (I cI c)),(2,.box [.own 3])],0))):=by
 rw[xd (fn:=p51) rfl]
 refine bz lm ?_
 refine bo (aH (S:=Int×Int×(List Int)) (enc:=fun⟨f,h,i⟩=>(Q [(0,.yld 6),(2,.ref 5 0),(4,i64 f),(7,.is 1 (I cB x2)),(8,i64 (x2.length:Int)),(9,i64 h)] [(6,.loop 35 [(10,.ref 2 0)] [28,29] q13_30a q13_30b false none),(5,.box (aQ.g a)),(4,.box [.is 1 (I cB x2)]),(3,.lst 3 1 false (I cI i)),(2,.box [.own 3])])) (encE:=(fun(b:List Int)=>(xq 0 [] [(6,.loop 35 [(10,.ref 2 0)] [28,29] q13_30a q13_30b false none),(5,.box (aQ.g a)),(4,.box [.is 1 (I cB x2)]),(3,.lst 3 1 false (I cI b)),(2,.box [.own 3])]))) (fun⟨f,h,i⟩=>?_) B64 (0,0,e)) fun b=>?_
 refine io ?_ (lf rfl)
 refine bo rg fun l=>?_
 refine io (lf rfl) ?_
 refine io ?_ (lf rfl)
 refine bo (oky13_30 d h f i) fun j=>?_
 exact lf rfl
 exact lf rfl
def F13 (b:Z0) (x2:Int) (a:aQ):Option ((List Int)×Int):=
 (F23 b x2).bind fun c=>if c !=0 then some ([],c)else(F14 a).bind fun d=>if d !=0 then some ([],d)else(F28 b x2).bind fun e=>(Fn27 e a).bind fun _=>(Fn51 a e []).bind fun f=>some (f,0)
theorem ok13 {k} (d) (b:Z0) (x2:Int) (a:aQ):OD k (d+28) 13 [.agg (Z0.g b),i64 x2,.agg (aQ.g a)]=(F13 b x2 a).map (fun⟨e,f⟩=>.tup [.is 1 (I cI e),i64 f]):=by
 rw[od (fn:=p13) rfl rfl rfl]
 refine bo (ok23 d b x2) fun h=>?_
 refine io (lf rfl) ?_
 refine bo (ok14 (d+26) a) fun i=>?_
 refine io (lf rfl) ?_
 refine bo (ok28 (d+19) b x2) fun c=>?_
 refine bo (okn27 (d+26) c a) fun _=>?_
 refine bo (okn51 (d+25) a c []) fun j=>?_
 exact lf rfl
def F15 (a:Z0) (x2 g:Int):Option Bool:=
 (F36 a x2).bind fun⟨h,i⟩=>(aO (E:=Unit⊕Unit) (fun(f:Int)=>(lget a.Parts x2).bind fun b=>if decide (f<(b.Staves.length:Int))then(lget a.Measures g).bind fun c=>(F37 c (w64 (h+f))).bind fun d=>if !d then some (.inr (.inl ()))else some (.inl (w64 (f+1)))else some (.inr (.inr ()))) B64 0).bind fun e=>(match e with|.inl _=>some false|.inr _=>some true)
theorem ok15 {k} (d) (a:Z0) (x2 e:Int):OD k (d+8) 15 [.agg (Z0.g a),i64 x2,i64 e]=(F15 a x2 e).map (fun l=>bv l):=by
 rw[od (fn:=p15) rfl rfl rfl]
 refine bo (ok36 (d+5) a x2) fun⟨h,m⟩=>?_
 refine bo (aH (S:=Int) (enc:=fun f=>(Q [(1,i64 x2),(2,i64 e),(3,.ref 0 0),(7,i64 h),(9,i64 f)] [(0,.box (Z0.g a))])) (encE:=(fun|.inl _=>(rq [(6,bv false)] [(0,.box (Z0.g a))])|.inr _=>(xq 0 [] [(0,.box (Z0.g a))]))) (fun f=>?_) B64 0) fun c=>?_
 refine bo rg fun i=>?_
 refine bz lm ?_
 refine io ?_ (lf rfl)
 refine bo rg fun b=>?_
 refine bo (ok37 d b (w64 (h+f))) fun j=>?_
 refine io (lf rfl) (lf rfl)
 rcases c with _|_
 exact lf rfl
 exact lf rfl
def F16 (c:Z0) (x2 a d:Int):Option Bool:=
 (F15 c x2 a).bind fun e=>if e||(decide (a<d))then some false else(aO (E:=Unit⊕Unit) (fun(b:Int)=>if decide (b<a)then(F15 c x2 b).bind fun f=>if !f then some (.inr (.inl ()))else some (.inl (w64 (b+1)))else some (.inr (.inr ()))) B64 (w64 (a-d))).bind fun g=>(match g with|.inl _=>some false|.inr _=>some true)
theorem ok16 {k} (d) (a:Z0) (x2 b c:Int):OD k (d+9) 16 [.agg (Z0.g a),i64 x2,i64 b,i64 c]=(F16 a x2 b c).map (fun h=>bv h):=by
 rw[od (fn:=p16) rfl rfl rfl]
 refine bo (ok15 d a x2 b) fun i=>?_
 refine bz (gor rfl) ?_
 refine io (lf rfl) ?_
 refine bo (aH (S:=Int) (enc:=fun e=>(Q [(1,i64 x2),(2,i64 b),(4,.ref 0 0),(9,i64 e)] [(0,.box (Z0.g a))])) (encE:=(fun|.inl _=>(rq [(8,bv false)] [(0,.box (Z0.g a))])|.inr _=>(xq 0 [] [(0,.box (Z0.g a))]))) (fun e=>?_) B64 (w64 (b-c))) fun f=>?_
 refine io ?_ (lf rfl)
 refine bo (ok15 d a x2 e) fun j=>?_
 refine io (lf rfl) (lf rfl)
 rcases f with _|_
 exact lf rfl
 exact lf rfl
def F4 (f:Z0) (x2:Int) (a:aQ):Option Bool:=
 (some true).bind fun u=>((if !u then some true else(F7 f).bind fun v=>some (!v):Option (Bool))).bind fun w=>if w then(some true).bind fun x=>some x else(F12 f x2).bind fun⟨h,t⟩=>(F13 f x2 a).bind fun⟨c,g⟩=>(F14 a).bind fun i=>((if((i==0)==((((decide (a.Rest>=1))&&(decide (a.Rest<=1000)))&&(decide (a.Length>=1)))&&(decide (a.Length<=8))))!=true then some true else((if !((((decide (a.Rest>=1))&&(decide (a.Rest<=1000)))&&(decide (a.Length>=1)))&&(decide (a.Length<=8)))then(F14 a).bind fun j=>some (j !=2)else some false:Option (Bool))).bind fun k=>some k:Option (Bool))).bind fun l=>if l then some false else if(decide (x2<0))||(decide (x2>=(f.Parts.length:Int)))then some ((((t==2)&&(g==2))&&((h.length:Int)==0))&&((c.length:Int)==0))else if(t !=0)||((h.length:Int)!=(f.Measures.length:Int))then some false else(aO (E:=Unit⊕Unit) (fun(e:Int)=>if decide (e<(h.length:Int))then(lget h e).bind fun m=>(F15 f x2 e).bind fun n=>if(m==n)!=true then some (.inr (.inl ()))else some (.inl (w64 (e+1)))else some (.inr (.inr ()))) B64 0).bind fun o=>(match o with|.inl _=>some false|.inr _=>if !((((decide (a.Rest>=1))&&(decide (a.Rest<=1000)))&&(decide (a.Length>=1)))&&(decide (a.Length<=8)))then some ((g==2)&&((c.length:Int)==0))else(aO (E:=Int⊕Int) (fun(⟨b,d⟩:Int×Int)=>if decide (d<(f.Measures.length:Int))then(F16 f x2 d a.Rest).bind fun p=>if p then((if decide (b>=(c.length:Int))then some true else(lget c b).bind fun q=>some (q !=d):Option (Bool))).bind fun r=>if r then some (.inr (.inl b))else some (.inl ((w64 (b+1)),(w64 (d+1))))else some (.inl (b,(w64 (d+1))))else some (.inr (.inr b))) B64 (0,0)).bind fun s=>(match s with|.inl x30=>some false|.inr x31=>some ((g==0)&&(x31==(c.length:Int)))))
theorem ok4 (d) (b:Z0) (x2:Int) (a:aQ):OD true (d+29) 4 [.agg (Z0.g b),i64 x2,.agg (aQ.g a)]=(F4 b x2 a).map (fun x=>bv x):=by
 rw[od (fn:=p4) rfl rfl rfl]
 refine bo (xA (d+28)) fun y=>?_
 refine bo (e:=id) ?_ fun A=>?_
 refine io (lf rfl) ?_
 refine bo (ok7 (d+1) b) fun z=>?_
 exact lf rfl
 refine io ?_ ?_
 refine bo (xA (d+28)) fun B=>?_
 exact lf rfl
 refine bo (ok12 d b x2) fun⟨w,C⟩=>?_
 refine bo (ok13 d b x2 a) fun⟨c,f⟩=>?_
 refine bz (gand rfl) ?_
 refine bz (gand rfl) ?_
 refine bz (gand rfl) ?_
 refine bo (ok14 (d+27) a) fun n=>?_
 refine bo (e:=id) ?_ fun q=>?_
 refine io (lf rfl) ?_
 refine bo (e:=id) ?_ fun p=>?_
 refine io ?_ (lf rfl)
 refine bo (ok14 (d+27) a) fun o=>?_
 exact lf rfl
 exact lf rfl
 refine io (lf rfl) ?_
 refine bz (gor (bz lm rfl)) ?_
 refine io ?_ ?_
 refine bz (gand rfl) ?_
 refine bz (gand (bz lm rfl)) ?_
 refine bz (gand (bz lm rfl)) ?_
 exact lf rfl
 refine bz (gor (bz lm (bz lm rfl))) ?_
 refine io (lf rfl) ?_
 refine bo (aH (S:=Int) (enc:=fun h=>(Q [(1,i64 x2),(3,.ref 0 0),(5,.ref 1 0),(7,.is 1 (I cB w)),(9,.is 1 (I cI c)),(10,i64 f),(11,bv ((((decide (a.Rest>=1))&&(decide (a.Rest<=1000)))&&(decide (a.Length>=1)))&&(decide (a.Length<=8)))),(12,i64 h)] [(1,.box (aQ.g a)),(0,.box (Z0.g b))])) (encE:=(fun|.inl _=>(rq [(1,i64 x2),(3,.ref 0 0),(5,.ref 1 0),(6,bv false),(9,.is 1 (I cI c)),(10,i64 f),(11,bv ((((decide (a.Rest>=1))&&(decide (a.Rest<=1000)))&&(decide (a.Length>=1)))&&(decide (a.Length<=8))))] [(1,.box (aQ.g a)),(0,.box (Z0.g b))])|.inr _=>(xq 0 [(1,i64 x2),(3,.ref 0 0),(5,.ref 1 0),(9,.is 1 (I cI c)),(10,i64 f),(11,bv ((((decide (a.Rest>=1))&&(decide (a.Rest<=1000)))&&(decide (a.Length>=1)))&&(decide (a.Length<=8))))] [(1,.box (aQ.g a)),(0,.box (Z0.g b))]))) (fun h=>?_) B64 0) fun l=>?_
 refine bz lm ?_
 refine io ?_ (lf rfl)
 refine bo rg fun r=>?_
 refine bo (ok15 (d+20) b x2 h) fun s=>?_
 refine io (lf rfl) (lf rfl)
 rcases l with _|_
 exact lf rfl
 refine io ?_ ?_
 refine bz (gand (bz lm rfl)) ?_
 exact lf rfl
 refine bo (aH (S:=Int×Int) (enc:=fun⟨j,i⟩=>(Q [(1,i64 x2),(3,.ref 0 0),(5,.ref 1 0),(9,.is 1 (I cI c)),(10,i64 f),(13,i64 j),(14,i64 i)] [(1,.box (aQ.g a)),(0,.box (Z0.g b))])) (encE:=(fun|.inl k=>(rq [(6,bv false),(9,.is 1 (I cI c)),(10,i64 f),(13,i64 k)] [(1,.box (aQ.g a)),(0,.box (Z0.g b))])|.inr x31=>(xq 2 [(9,.is 1 (I cI c)),(10,i64 f),(13,i64 x31)] [(1,.box (aQ.g a)),(0,.box (Z0.g b))]))) (fun⟨j,i⟩=>?_) B64 (0,0)) fun m=>?_
 refine bz lm ?_
 refine io ?_ (lf rfl)
 refine bo (ok16 (d+19) b x2 i a.Rest) fun t=>?_
 refine io ?_ (lf rfl)
 refine bz lm ?_
 refine bo (e:=id) ?_ fun v=>?_
 refine io (lf rfl) ?_
 refine bo rg fun u=>?_
 exact lf rfl
 refine io (lf rfl) (lf rfl)
 rcases m with k|x31
 exact lf rfl
 refine bz (gand (bz lm rfl)) ?_
 exact lf rfl
def F43 (a:Z0) (x2:bO):Option Bool:=
 if((((((decide (x2.Part<0))||(decide (x2.Part>=(a.Parts.length:Int))))||(decide (x2.First<0)))||(decide (x2.First>=x2.Entry)))||(decide (x2.Entry>(a.Measures.length:Int))))||(decide (x2.Voice<0)))||(decide (x2.Voice>=2))then some false else(F53 a x2.Staff).bind fun⟨b,d,c⟩=>some ((c==0)&&(b !=x2.Part))
theorem ok43 {k} (d) (a:Z0) (x2:bO):OD k (d+2) 43 [.agg (Z0.g a),.agg (bO.g x2)]=(F43 a x2).map (fun b=>bv b):=by
 rw[od (fn:=p43) rfl rfl rfl]
 refine bz (gor (bz lm rfl)) ?_
 refine bz (gor rfl) ?_
 refine bz (gor rfl) ?_
 refine bz (gor (bz lm rfl)) ?_
 refine bz (gor rfl) ?_
 refine bz (gor rfl) ?_
 refine io (lf rfl) ?_
 refine bo (ok53 d a x2.Staff) fun⟨c,e,f⟩=>?_
 refine bz (gand rfl) ?_
 exact lf rfl
def F35 (a:Z0) (x2:bO):Option Int:=
 (F18 a).bind fun b=>if !b then some 24 else(F43 a x2).bind fun c=>if !c then some 2 else some 0
theorem ok35 {k} (d) (a:Z0) (x2:bO):OD k (d+27) 35 [.agg (Z0.g a),.agg (bO.g x2)]=(F35 a x2).map (fun b=>i64 b):=by
 rw[od (fn:=p35) rfl rfl rfl]
 refine bo (ok18 d a) fun c=>?_
 refine io (lf rfl) ?_
 refine bo (ok43 (d+24) a x2) fun e=>?_
 refine io (lf rfl) (lf rfl)
def F11 (b:Z0) (x2:bO):Option (Int×Int):=
 (F35 b x2).bind fun a=>if a !=0 then some (0,a)else none
theorem ok11 {k} (d) (a:Z0) (x2:bO):OD k (d+28) 11 [.agg (Z0.g a),.agg (bO.g x2)]=(F11 a x2).map (fun⟨b,c⟩=>.tup [i64 b,i64 c]):=by
 rw[od (fn:=p11) rfl rfl rfl]
 refine bo (ok35 d a x2) fun e=>?_
 refine io (lf rfl) ?_
 rfl
def F19 (b:Z0) (x2:bO):Option ((List Zo)×Int):=
 (F35 b x2).bind fun a=>if a !=0 then some ([],a)else none
theorem ok19 {k} (d) (a:Z0) (x2:bO):OD k (d+28) 19 [.agg (Z0.g a),.agg (bO.g x2)]=(F19 a x2).map (fun⟨b,c⟩=>.tup [.is 2 (I Zo.g b),i64 c]):=by
 rw[od (fn:=p19) rfl rfl rfl]
 refine bo (ok35 d a x2) fun e=>?_
 refine io (lf rfl) ?_
 rfl
def F9 (b:Z0) (x2:Int) (c:aQ):Option ((List bO)×Int):=
 (F23 b x2).bind fun a=>if a !=0 then some ([],a)else none
theorem ok9 {k} (d) (a:Z0) (x2:Int) (b:aQ):OD k (d+28) 9 [.agg (Z0.g a),i64 x2,.agg (aQ.g b)]=(F9 a x2 b).map (fun⟨c,e⟩=>.tup [.is 5 (I bO.g c),i64 e]):=by
 rw[od (fn:=p9) rfl rfl rfl]
 refine bo (ok23 d a x2) fun f=>?_
 refine io (lf rfl) ?_
 rfl
def Fn20 (a:Z0) (x2:Zz) (c:List bO):Option Unit:=
 (F18 a).bind fun b=>if !b then some ()else none
theorem okn20 {k} (d) (a:Z0) (x2:Zz) (b:List bO):runR (XD k (d+27)) 20 [.agg (Z0.g a),.own 2,.agg (Zz.g x2)] [(2,.lst 39 5 false (I bO.g b))] 3 false=(Fn20 a x2 b).map (fun(_:Unit)=>((.tup [.agg [.v (.string (⟨#[]⟩:ByteArray)),bv false,.v (.slice none 0 0),.v (.slice none 0 0),.v (.slice none 0 0),.v (.slice none 0 0)],.v (.slice none 0 0),i64 24],[(2,.lst 39 5 false (I bO.g b))],0))):=by
 rw[xd (fn:=p20) rfl]
 refine bo (ok18 d a) fun c=>?_
 refine io (lf rfl) ?_
 rfl
def F21 (a:Z0):Option (Z0×Int):=
 (F18 a).bind fun x2=>if !x2 then some ((Z0.mk (⟨#[]⟩:ByteArray) false [] [] [] []),24)else none
theorem ok21 {k} (d) (a:Z0):OD k (d+27) 21 [.agg (Z0.g a),.v (.slice none 0 0)]=(F21 a).map (fun⟨b,c⟩=>.tup [.agg (Z0.g b),i64 c]):=by
 rw[od (fn:=p21) rfl rfl rfl]
 refine bo (ok18 d a) fun x2=>?_
 refine io (lf rfl) ?_
 rfl
def F5 (a:Z0) (x2:bO):Option Bool:=
 (some true).bind fun m=>((if !m then some true else(F17 a).bind fun n=>some (!n):Option (Bool))).bind fun o=>((if o then some true else(F18 a).bind fun p=>some p:Option (Bool))).bind fun q=>if q then(some true).bind fun r=>some r else(F12 a x2.Part).bind fun⟨s,b⟩=>(F13 a x2.Part (aQ.mk 0 0)).bind fun⟨h,c⟩=>(F11 a x2).bind fun⟨i,d⟩=>(F19 a x2).bind fun⟨j,e⟩=>(F9 a x2.Part (aQ.mk 0 0)).bind fun⟨k,f⟩=>(Fn20 a (Zz.mk 0 0) [x2]).bind fun _=>(F21 a).bind fun⟨l,g⟩=>some (((((((b==24)&&(c==24))&&(d==24))&&(e==24))&&(f==24))&&true)&&(g==24))
theorem ok5 (d) (a:Z0) (x2:bO):OD true (d+29) 5 [.agg (Z0.g a),.agg (bO.g x2)]=(F5 a x2).map (fun p=>bv p):=by
 rw[od (fn:=p5) rfl rfl rfl]
 refine bo (xA (d+28)) fun q=>?_
 refine bo (e:=id) ?_ fun s=>?_
 refine io (lf rfl) ?_
 refine bo (ok17 (d+26) a) fun r=>?_
 exact lf rfl
 refine bo (e:=id) ?_ fun u=>?_
 refine io (lf rfl) ?_
 refine bo (ok18 (d+2) a) fun t=>?_
 exact lf rfl
 refine io ?_ ?_
 refine bo (xA (d+28)) fun v=>?_
 exact lf rfl
 refine bo (ok12 d a x2.Part) fun⟨w,b⟩=>?_
 refine bo (ok13 d a x2.Part (aQ.mk 0 0)) fun⟨c,f⟩=>?_
 refine bo (ok11 d a x2) fun⟨h,i⟩=>?_
 refine bo (ok19 d a x2) fun⟨j,k⟩=>?_
 refine bo (ok9 d a x2.Part (aQ.mk 0 0)) fun⟨l,m⟩=>?_
 refine bo (okn20 (d+1) a (Zz.mk 0 0) [x2]) fun _=>?_
 refine bo (ok21 (d+1) a) fun⟨n,o⟩=>?_
 refine bz (gand rfl) ?_
 refine bz (gand rfl) ?_
 refine bz (gand rfl) ?_
 refine bz (gand rfl) ?_
 refine bz (gand rfl) ?_
 refine bz (gand rfl) ?_
 exact lf rfl
end Go.P
