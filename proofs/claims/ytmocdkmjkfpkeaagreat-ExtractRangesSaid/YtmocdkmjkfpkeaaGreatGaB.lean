import Derived.Test.YtmocdkmjkfpkeaaGreatGaA
/- A text of the proof. -/
set_option linter.all false
set_option maxRecDepth 100000
set_option maxHeartbeats 2000000
namespace Go.P
open Go.Sim (Ex OpK CK)
open K (I Q rq nq xq ck)
def F118_2 (x1:List Zw) (a:Int):Option Bool:=
 (F168_2 x1 a).bind fun b=>some (decide (b>=0))
theorem ok118_2 {k} (d) (x1:List Zw) (a:Int):OD k (d+20) 118 [.is 2 (I Zw.g x1),.fn 119 [] [.ip [.fn 117 [] []],.ip [.fn 72 [] []],.ip [i64 a]]]=(F118_2 x1 a).map (fun b=>bv b):=by
 rw[od (fn:=p118) rfl rfl rfl]
 refine bo (ok168_2 d x1 a) fun c=>?_
 exact lf rfl
def F116_2 (x1:Int) (a:Zm):Option Bool:=
 (F68 a).bind fun⟨b,c⟩=>if c !=0 then some false else(F118_2 a.Cells b).bind fun d=>some d
theorem ok116_2 {k} (d) (x1:Int) (a:Zm):OD k (d+21) 116 [i64 x1,.agg (Zm.g a),.ip [.fn 72 [] []]]=(F116_2 x1 a).map (fun c=>bv c):=by
 rw[od (fn:=p116) rfl rfl rfl]
 refine bo (ok68 (d+16) a) fun⟨b,e⟩=>?_
 refine io (lf rfl) ?_
 refine bo (ok118_2 d a.Cells b) fun f=>?_
 exact lf rfl
def Fn64_5 (x1:List Zv) (e:Z0) (h:Int):Option (List Zv):=
 (aO (E:=List Zv) (fun(⟨a,f⟩:Int×(List Zv))=>if decide (a<(e.Measures.length:Int))then(lget e.Measures a).bind fun g=>(F116_2 a g).bind fun b=>(Fn58 b g.ID f e h).bind fun c=>some (.inl ((w64 (a+1)),c))else some (.inr f)) B64 (0,x1)).bind fun d=>some d
theorem okn64_5 {k} (d) (x1:List Zv) (a:Z0) (b:Int):runR (XD k (d+22)) 64 [.ref 1 0,.fn 116 [] [.ref 3 0]] [(3,.box [.fn 72 [] []]),(2,.lst 106 3 false (I Zv.g x1)),(1,.box (ck a b (.own 2)))] 4 false=(Fn64_5 x1 a b).map (fun(f:List Zv)=>((.tup [],[(3,.box [.fn 72 [] []]),(2,.lst 106 3 false (I Zv.g f)),(1,.box (ck a b (.own 2)))],0))):=by
 rw[xd (fn:=p64) rfl]
 refine bz lm ?_
 refine bo (aI (S:=Int×(List Zv)) (enc:=fun⟨h,i⟩=>(Q [(0,.ref 1 0),(1,.fn 116 [] [.ref 3 0]),(10,.is 22 (I Zm.g a.Measures)),(11,i64 (a.Measures.length:Int)),(12,i64 h)] [(3,.box [.fn 72 [] []]),(2,.lst 106 3 false (I Zv.g i)),(1,.box (ck a b (.own 2)))])) (encE:=(fun(c:List Zv)=>(xq 0 [] [(3,.box [.fn 72 [] []]),(2,.lst 106 3 false (I Zv.g c)),(1,.box (ck a b (.own 2)))]))) (fun⟨h,i⟩=>?_) B64 (0,x1)) fun c=>?_
 refine io ?_ (lf rfl)
 refine bo rg fun j=>?_
 refine bo (ok116_2 d h j) fun e=>?_
 refine bo (okn58 (d+20) e j.ID i a b) fun l=>?_
 exact lf rfl
 exact lf rfl
def Fn70_2 (x1:List Zv) (a:Z0) (b:Int):Option (List Zv):=
 (Fn64_5 x1 a b).bind fun c=>some c
theorem okn70_2 {k} (d) (x1:List Zv) (a:Z0) (b:Int):runR (XD k (d+23)) 70 [.ref 1 0,.fn 72 [] []] [(2,.lst 106 3 false (I Zv.g x1)),(1,.box (ck a b (.own 2)))] 3 false=(Fn70_2 x1 a b).map (fun(c:List Zv)=>((.tup [],[(2,.lst 106 3 false (I Zv.g c)),(1,.box (ck a b (.own 2)))],0))):=by
 rw[xd (fn:=p70) rfl]
 refine bo (okn64_5 d x1 a b) fun e=>?_
 exact lf rfl
def Fn37 (x1:List Zv) (a:Z0) (b:Int):Option (List Zv):=
 (Fn70_2 x1 a b).bind fun c=>some c
theorem okn37 {k} (d) (x1:List Zv) (a:Z0) (b:Int):runR (XD k (d+24)) 37 [.ref 1 0] [(2,.lst 106 3 false (I Zv.g x1)),(1,.box (ck a b (.own 2)))] 3 false=(Fn37 x1 a b).map (fun(c:List Zv)=>((.tup [],[(2,.lst 106 3 false (I Zv.g c)),(1,.box (ck a b (.own 2)))],0))):=by
 rw[xd (fn:=p37) rfl]
 refine bo (okn70_2 d x1 a b) fun e=>?_
 exact lf rfl
def F74 (x1:Zp) (a:Ze):Option Bool:=
 (F75 a).bind fun b=>some (b !=0)
theorem ok74 {k} (d) (x1:Zp) (a:Ze):OD k (d+9) 74 [.agg (Zp.g x1),.agg (Ze.g a)]=(F74 x1 a).map (fun b=>bv b):=by
 rw[od (fn:=p74) rfl rfl rfl]
 refine bo (ok75 d a) fun c=>?_
 exact lf rfl
def Fn73 (x1:List Zv) (s:Z0) (t:Int):Option (List Zv):=
 (aO (E:=List Zv) (fun(⟨b,m⟩:Int×(List Zv))=>if decide (b<(s.Measures.length:Int))then(lget s.Measures b).bind fun n=>(aO (E:=List Zv) (fun(⟨c,o⟩:Int×(List Zv))=>if decide (c<(n.Cells.length:Int))then(lget n.Cells c).bind fun p=>(aO (E:=List Zv) (fun(⟨d,q⟩:Int×(List Zv))=>if decide (d<(p.Voices.length:Int))then(lget p.Voices d).bind fun r=>(aO (E:=List Zv) (fun(⟨a,e⟩:Int×(List Zv))=>if decide (a<(r.Events.length:Int))then(lget r.Events a).bind fun f=>(F74 (Zp.mk 4 0 c b d a 0) f).bind fun g=>(Fn58 g f.ID e s t).bind fun h=>some (.inl ((w64 (a+1)),h))else some (.inr e)) B64 (0,q)).bind fun i=>some (.inl ((w64 (d+1)),i))else some (.inr q)) B64 (0,o)).bind fun j=>some (.inl ((w64 (c+1)),j))else some (.inr o)) B64 (0,m)).bind fun k=>some (.inl ((w64 (b+1)),k))else some (.inr m)) B64 (0,x1)).bind fun l=>some l
theorem okn73 {k} (d) (x1:List Zv) (c:Z0) (i:Int):runR (XD k (d+10)) 73 [.ref 1 0,.fn 74 [] []] [(2,.lst 106 3 false (I Zv.g x1)),(1,.box (ck c i (.own 2)))] 3 false=(Fn73 x1 c i).map (fun(w:List Zv)=>((.tup [],[(2,.lst 106 3 false (I Zv.g w)),(1,.box (ck c i (.own 2)))],0))):=by
 rw[xd (fn:=p73) rfl]
 refine bz lm ?_
 refine bo (aI (S:=Int×(List Zv)) (enc:=fun⟨b,s⟩=>(Q [(0,.ref 1 0),(1,.fn 74 [] []),(16,.is 22 (I Zm.g c.Measures)),(17,i64 (c.Measures.length:Int)),(18,i64 b)] [(2,.lst 106 3 false (I Zv.g s)),(1,.box (ck c i (.own 2)))])) (encE:=(fun(r:List Zv)=>(xq 0 [] [(2,.lst 106 3 false (I Zv.g r)),(1,.box (ck c i (.own 2)))]))) (fun⟨b,s⟩=>?_) B64 (0,x1)) fun r=>?_
 refine io ?_ (lf rfl)
 refine bo rg fun a=>?_
 refine bz lm ?_
 refine bo (aI (S:=Int×(List Zv)) (enc:=fun⟨e,t⟩=>(Q [(0,.ref 1 0),(1,.fn 74 [] []),(4,i64 b),(16,.is 22 (I Zm.g c.Measures)),(17,i64 (c.Measures.length:Int)),(18,i64 b),(24,.is 2 (I Zw.g a.Cells)),(25,i64 (a.Cells.length:Int)),(26,i64 e)] [(3,.box (Zm.g a)),(2,.lst 106 3 false (I Zv.g t)),(1,.box (ck c i (.own 2)))])) (encE:=(fun(q:List Zv)=>(xq 2 [(0,.ref 1 0),(1,.fn 74 [] []),(16,.is 22 (I Zm.g c.Measures)),(17,i64 (c.Measures.length:Int)),(18,i64 b)] [(3,.box (Zm.g a)),(2,.lst 106 3 false (I Zv.g q)),(1,.box (ck c i (.own 2)))]))) (fun⟨e,t⟩=>?_) B64 (0,s)) fun q=>?_
 refine io ?_ (lf rfl)
 refine bo rg fun f=>?_
 refine bz lm ?_
 refine bo (aI (S:=Int×(List Zv)) (enc:=fun⟨h,u⟩=>(Q [(0,.ref 1 0),(1,.fn 74 [] []),(4,i64 b),(6,i64 e),(16,.is 22 (I Zm.g c.Measures)),(17,i64 (c.Measures.length:Int)),(18,i64 b),(24,.is 2 (I Zw.g a.Cells)),(25,i64 (a.Cells.length:Int)),(26,i64 e),(32,.is 2 (I Zo.g f.Voices)),(33,i64 (f.Voices.length:Int)),(34,i64 h)] [(4,.box (Zw.g f)),(3,.box (Zm.g a)),(2,.lst 106 3 false (I Zv.g u)),(1,.box (ck c i (.own 2)))])) (encE:=(fun(p:List Zv)=>(xq 4 [(0,.ref 1 0),(1,.fn 74 [] []),(4,i64 b),(16,.is 22 (I Zm.g c.Measures)),(17,i64 (c.Measures.length:Int)),(18,i64 b),(24,.is 2 (I Zw.g a.Cells)),(25,i64 (a.Cells.length:Int)),(26,i64 e)] [(4,.box (Zw.g f)),(3,.box (Zm.g a)),(2,.lst 106 3 false (I Zv.g p)),(1,.box (ck c i (.own 2)))]))) (fun⟨h,u⟩=>?_) B64 (0,t)) fun p=>?_
 refine io ?_ (lf rfl)
 refine bo rg fun m=>?_
 refine bz lm ?_
 refine bo (aI (S:=Int×(List Zv)) (enc:=fun⟨j,l⟩=>(Q [(0,.ref 1 0),(1,.fn 74 [] []),(4,i64 b),(6,i64 e),(8,i64 h),(16,.is 22 (I Zm.g c.Measures)),(17,i64 (c.Measures.length:Int)),(18,i64 b),(24,.is 2 (I Zw.g a.Cells)),(25,i64 (a.Cells.length:Int)),(26,i64 e),(32,.is 2 (I Zo.g f.Voices)),(33,i64 (f.Voices.length:Int)),(34,i64 h),(40,.is 13 (I Ze.g m.Events)),(41,i64 (m.Events.length:Int)),(42,i64 j)] [(5,.box (Zo.g m)),(4,.box (Zw.g f)),(3,.box (Zm.g a)),(2,.lst 106 3 false (I Zv.g l)),(1,.box (ck c i (.own 2)))])) (encE:=(fun(o:List Zv)=>(xq 6 [(0,.ref 1 0),(1,.fn 74 [] []),(4,i64 b),(6,i64 e),(16,.is 22 (I Zm.g c.Measures)),(17,i64 (c.Measures.length:Int)),(18,i64 b),(24,.is 2 (I Zw.g a.Cells)),(25,i64 (a.Cells.length:Int)),(26,i64 e),(32,.is 2 (I Zo.g f.Voices)),(33,i64 (f.Voices.length:Int)),(34,i64 h)] [(5,.box (Zo.g m)),(4,.box (Zw.g f)),(3,.box (Zm.g a)),(2,.lst 106 3 false (I Zv.g o)),(1,.box (ck c i (.own 2)))]))) (fun⟨j,l⟩=>?_) B64 (0,u)) fun o=>?_
 refine io ?_ (lf rfl)
 refine bo rg fun n=>?_
 refine bo (ok74 d (Zp.mk 4 0 e b h j 0) n) fun v=>?_
 refine bo (okn58 (d+8) v n.ID l c i) fun x=>?_
 exact lf rfl
 exact lf rfl
 exact lf rfl
 exact lf rfl
 exact lf rfl
def Fn38 (x1:List Zv) (a:Z0) (b:Int):Option (List Zv):=
 (Fn73 x1 a b).bind fun c=>some c
theorem okn38 {k} (d) (x1:List Zv) (a:Z0) (b:Int):runR (XD k (d+11)) 38 [.ref 1 0] [(2,.lst 106 3 false (I Zv.g x1)),(1,.box (ck a b (.own 2)))] 3 false=(Fn38 x1 a b).map (fun(c:List Zv)=>((.tup [],[(2,.lst 106 3 false (I Zv.g c)),(1,.box (ck a b (.own 2)))],0))):=by
 rw[xd (fn:=p38) rfl]
 refine bo (okn73 d x1 a b) fun e=>?_
 exact lf rfl
def F77 (x1:Z0) (c:Int):Option (Int×Int×Int):=
 if decide (c<0)then some (0,0,2)else(aO (E:=(Int×Int)⊕Unit) (fun(⟨b,a⟩:Int×Int)=>if decide (a<(x1.Parts.length:Int))then(lget x1.Parts a).bind fun d=>if decide (b<(d.Staves.length:Int))then some (.inr (.inl (a,b)))else some (.inl ((w64 (b-(d.Staves.length:Int))),(w64 (a+1))))else some (.inr (.inr ()))) B64 (c,0)).bind fun e=>(match e with|.inl ⟨x7,x8⟩=>some (x7,x8,0)|.inr _=>some (0,0,2))
theorem ok77 {k} (d) (x1:Z0) (a:Int):OD k (d+1) 77 [.agg (Z0.g x1),i64 a]=(F77 x1 a).map (fun⟨i,j,l⟩=>.tup [i64 i,i64 j,i64 l]):=by
 rw[od (fn:=p77) rfl rfl rfl]
 refine io (lf rfl) ?_
 refine bz lm ?_
 refine bo (aI (S:=Int×Int) (enc:=fun⟨b,c⟩=>(Q [(1,i64 b),(12,.is 6 (I Zj.g x1.Parts)),(13,i64 (x1.Parts.length:Int)),(14,i64 c)] [(0,.box (Z0.g x1))])) (encE:=(fun|.inl ⟨e,f⟩=>(rq [(4,i64 e),(5,i64 f),(6,i64 0)] [(0,.box (Z0.g x1))])|.inr _=>(xq 0 [] [(0,.box (Z0.g x1))]))) (fun⟨b,c⟩=>?_) B64 (a,0)) fun h=>?_
 refine io ?_ (lf rfl)
 refine bo rg fun m=>?_
 refine bz lm ?_
 refine io (lf rfl) ?_
 refine bz lm ?_
 exact lf rfl
 rcases h with⟨e,f⟩|_
 exact lf rfl
 exact lf rfl
def F78 (x1:Zh) (a:Int):Option Bool:=
 (F28 x1).bind fun⟨b,d⟩=>(F60 (w64 (b+a)) 0 127).bind fun c=>some (!c)
theorem ok78 {k} (d) (x1:Zh) (a:Int):OD k (d+5) 78 [.agg (Zh.g x1),.ip [i64 a]]=(F78 x1 a).map (fun c=>bv c):=by
 rw[od (fn:=p78) rfl rfl rfl]
 refine bo (ok28 d x1) fun⟨b,e⟩=>?_
 refine bo (ok60 (d+3) (w64 (b+a)) 0 127) fun f=>?_
 exact lf rfl
def F80 (x1:Zb) (a:Int):Option Bool:=
 (F78 x1.Pitch a).bind fun b=>some b
theorem ok80 {k} (d) (x1:Zb) (a:Int):OD k (d+6) 80 [.agg (Zb.g x1),.ip [.fn 78 [] [.ip [i64 a]]]]=(F80 x1 a).map (fun b=>bv b):=by
 rw[od (fn:=p80) rfl rfl rfl]
 refine bo (ok78 d x1.Pitch a) fun c=>?_
 exact lf rfl
def F133 (x1:List Zb) (b:Int):Option Int:=
 (aO (E:=Int⊕Unit) (fun(a:Int)=>if decide (a<(x1.length:Int))then(lget x1 a).bind fun c=>(F80 c b).bind fun d=>if d then some (.inr (.inl a))else some (.inl (w64 (a+1)))else some (.inr (.inr ()))) B64 0).bind fun e=>(match e with|.inl x8=>some x8|.inr _=>some (-1))
theorem ok133 {k} (d) (x1:List Zb) (a:Int):OD k (d+7) 133 [.is 5 (I Zb.g x1),.fn 80 [] [.ip [.fn 78 [] [.ip [i64 a]]]]]=(F133 x1 a).map (fun h=>i64 h):=by
 rw[od (fn:=p133) rfl rfl rfl]
 refine bz lm ?_
 refine bo (aI (S:=Int) (enc:=fun b=>(Q [(0,.is 5 (I Zb.g x1)),(1,.fn 80 [] [.ip [.fn 78 [] [.ip [i64 a]]]]),(7,i64 (x1.length:Int)),(8,i64 b)] [])) (encE:=(fun|.inl c=>(rq [(4,i64 c)] [])|.inr _=>(xq 0 [] []))) (fun b=>?_) B64 0) fun f=>?_
 refine io ?_ (lf rfl)
 refine bo rg fun e=>?_
 refine bo (ok80 d e a) fun i=>?_
 refine io (lf rfl) (lf rfl)
 rcases f with c|_
 exact lf rfl
 exact lf rfl
def F79 (x1:List Zb) (a:Int):Option Bool:=
 (F133 x1 a).bind fun b=>some (decide (b>=0))
theorem ok79 {k} (d) (x1:List Zb) (a:Int):OD k (d+8) 79 [.is 5 (I Zb.g x1),.fn 80 [] [.ip [.fn 78 [] [.ip [i64 a]]]]]=(F79 x1 a).map (fun b=>bv b):=by
 rw[od (fn:=p79) rfl rfl rfl]
 refine bo (ok133 d x1 a) fun c=>?_
 exact lf rfl
def F82 (x1:Zd) (a:Int):Option Bool:=
 (F78 x1.Pitch a).bind fun b=>some b
theorem ok82 {k} (d) (x1:Zd) (a:Int):OD k (d+6) 82 [.agg (Zd.g x1),.ip [.fn 78 [] [.ip [i64 a]]]]=(F82 x1 a).map (fun b=>bv b):=by
 rw[od (fn:=p82) rfl rfl rfl]
 refine bo (ok78 d x1.Pitch a) fun c=>?_
 exact lf rfl
def F134 (x1:List Zd) (b:Int):Option Int:=
 (aO (E:=Int⊕Unit) (fun(a:Int)=>if decide (a<(x1.length:Int))then(lget x1 a).bind fun c=>(F82 c b).bind fun d=>if d then some (.inr (.inl a))else some (.inl (w64 (a+1)))else some (.inr (.inr ()))) B64 0).bind fun e=>(match e with|.inl x8=>some x8|.inr _=>some (-1))
theorem ok134 {k} (d) (x1:List Zd) (a:Int):OD k (d+7) 134 [.is 5 (I Zd.g x1),.fn 82 [] [.ip [.fn 78 [] [.ip [i64 a]]]]]=(F134 x1 a).map (fun h=>i64 h):=by
 rw[od (fn:=p134) rfl rfl rfl]
 refine bz lm ?_
 refine bo (aI (S:=Int) (enc:=fun b=>(Q [(0,.is 5 (I Zd.g x1)),(1,.fn 82 [] [.ip [.fn 78 [] [.ip [i64 a]]]]),(7,i64 (x1.length:Int)),(8,i64 b)] [])) (encE:=(fun|.inl c=>(rq [(4,i64 c)] [])|.inr _=>(xq 0 [] []))) (fun b=>?_) B64 0) fun f=>?_
 refine io ?_ (lf rfl)
 refine bo rg fun e=>?_
 refine bo (ok82 d e a) fun i=>?_
 refine io (lf rfl) (lf rfl)
 rcases f with c|_
 exact lf rfl
 exact lf rfl
def F81 (x1:List Zd) (a:Int):Option Bool:=
 (F134 x1 a).bind fun b=>some (decide (b>=0))
theorem ok81 {k} (d) (x1:List Zd) (a:Int):OD k (d+8) 81 [.is 5 (I Zd.g x1),.fn 82 [] [.ip [.fn 78 [] [.ip [i64 a]]]]]=(F81 x1 a).map (fun b=>bv b):=by
 rw[od (fn:=p81) rfl rfl rfl]
 refine bo (ok134 d x1 a) fun c=>?_
 exact lf rfl
def F76 (x1:Zp) (e:Ze) (f:Zk):Option Bool:=
 (F75 e).bind fun h=>if h !=0 then some false else(F77 f.s' x1.Staff).bind fun⟨i,l,j⟩=>((if j==0 then(lget f.s'.Parts i).bind fun k=>some k.Transpose.Semitones else some 0:Option (Int))).bind fun g=>((if f.s'.Written then some (w64 (0-g))else some g:Option (Int))).bind fun a=>(F79 e.Heads a).bind fun b=>((if b then some true else(F81 e.Graces a).bind fun c=>some c:Option (Bool))).bind fun d=>some d
theorem ok76 {k} (d) (x1:Zp) (b:Ze) (c:Zk):OD k (d+9) 76 [.agg (Zp.g x1),.agg (Ze.g b),.ip [.ip (Zk.g c)]]=(F76 x1 b c).map (fun l=>bv l):=by
 rw[od (fn:=p76) rfl rfl rfl]
 refine bo (ok75 d b) fun m=>?_
 refine io (lf rfl) ?_
 refine bo (ok77 (d+7) c.s' x1.Staff) fun⟨n,o,p⟩=>?_
 refine bo (e:=(fun(f:Int)=>(nq [(2,.ip [.ip (Zk.g c)]),(4,.ref 1 0),(6,.ref 2 0)] [(2,.box [i64 f]),(1,.box (Ze.g b)),(0,.box (Zp.g x1))]))) ?_ fun f=>?_
 refine io ?_ (lf rfl)
 refine bo rg fun q=>?_
 exact lf rfl
 refine bo (e:=(fun(a:Int)=>(nq [(4,.ref 1 0),(6,.ref 2 0)] [(2,.box [i64 a]),(1,.box (Ze.g b)),(0,.box (Zp.g x1))]))) ?_ fun a=>?_
 refine io (lf rfl) (lf rfl)
 refine bo (ok79 d b.Heads a) fun h=>?_
 refine bo (e:=id) ?_ fun j=>?_
 refine io (lf rfl) ?_
 refine bo (ok81 d b.Graces a) fun i=>?_
 exact lf rfl
 exact lf rfl
def Fn73_2 (x1:List Zv) (s:Z0) (t:Int):Option (List Zv):=
 (aO (E:=List Zv) (fun(⟨c,m⟩:Int×(List Zv))=>if decide (c<(s.Measures.length:Int))then(lget s.Measures c).bind fun n=>(aO (E:=List Zv) (fun(⟨d,o⟩:Int×(List Zv))=>if decide (d<(n.Cells.length:Int))then(lget n.Cells d).bind fun p=>(aO (E:=List Zv) (fun(⟨e,q⟩:Int×(List Zv))=>if decide (e<(p.Voices.length:Int))then(lget p.Voices e).bind fun r=>(aO (E:=List Zv) (fun(⟨a,b⟩:Int×(List Zv))=>if decide (a<(r.Events.length:Int))then(lget r.Events a).bind fun f=>(F76 (Zp.mk 4 0 d c e a 0) f (Zk.mk s t b)).bind fun g=>(Fn58 g f.ID b s t).bind fun h=>some (.inl ((w64 (a+1)),h))else some (.inr b)) B64 (0,q)).bind fun i=>some (.inl ((w64 (e+1)),i))else some (.inr q)) B64 (0,o)).bind fun j=>some (.inl ((w64 (d+1)),j))else some (.inr o)) B64 (0,m)).bind fun k=>some (.inl ((w64 (c+1)),k))else some (.inr m)) B64 (0,x1)).bind fun l=>some l
theorem okn73_2 {k} (d) (x1:List Zv) (c:Z0) (i:Int):runR (XD k (d+10)) 73 [.ref 1 0,.fn 76 [] [.ref 3 0]] [(3,.box [.ref 1 0]),(2,.lst 106 3 false (I Zv.g x1)),(1,.box (ck c i (.own 2)))] 4 false=(Fn73_2 x1 c i).map (fun(w:List Zv)=>((.tup [],[(3,.box [.ref 1 0]),(2,.lst 106 3 false (I Zv.g w)),(1,.box (ck c i (.own 2)))],0))):=by
 rw[xd (fn:=p73) rfl]
 refine bz lm ?_
 refine bo (aI (S:=Int×(List Zv)) (enc:=fun⟨b,s⟩=>(Q [(0,.ref 1 0),(1,.fn 76 [] [.ref 3 0]),(16,.is 22 (I Zm.g c.Measures)),(17,i64 (c.Measures.length:Int)),(18,i64 b)] [(3,.box [.ref 1 0]),(2,.lst 106 3 false (I Zv.g s)),(1,.box (ck c i (.own 2)))])) (encE:=(fun(r:List Zv)=>(xq 0 [] [(3,.box [.ref 1 0]),(2,.lst 106 3 false (I Zv.g r)),(1,.box (ck c i (.own 2)))]))) (fun⟨b,s⟩=>?_) B64 (0,x1)) fun r=>?_
 refine io ?_ (lf rfl)
 refine bo rg fun a=>?_
 refine bz lm ?_
 refine bo (aI (S:=Int×(List Zv)) (enc:=fun⟨e,t⟩=>(Q [(0,.ref 1 0),(1,.fn 76 [] [.ref 3 0]),(4,i64 b),(16,.is 22 (I Zm.g c.Measures)),(17,i64 (c.Measures.length:Int)),(18,i64 b),(24,.is 2 (I Zw.g a.Cells)),(25,i64 (a.Cells.length:Int)),(26,i64 e)] [(4,.box (Zm.g a)),(3,.box [.ref 1 0]),(2,.lst 106 3 false (I Zv.g t)),(1,.box (ck c i (.own 2)))])) (encE:=(fun(q:List Zv)=>(xq 2 [(0,.ref 1 0),(1,.fn 76 [] [.ref 3 0]),(16,.is 22 (I Zm.g c.Measures)),(17,i64 (c.Measures.length:Int)),(18,i64 b)] [(4,.box (Zm.g a)),(3,.box [.ref 1 0]),(2,.lst 106 3 false (I Zv.g q)),(1,.box (ck c i (.own 2)))]))) (fun⟨e,t⟩=>?_) B64 (0,s)) fun q=>?_
 refine io ?_ (lf rfl)
 refine bo rg fun f=>?_
 refine bz lm ?_
 refine bo (aI (S:=Int×(List Zv)) (enc:=fun⟨j,u⟩=>(Q [(0,.ref 1 0),(1,.fn 76 [] [.ref 3 0]),(4,i64 b),(6,i64 e),(16,.is 22 (I Zm.g c.Measures)),(17,i64 (c.Measures.length:Int)),(18,i64 b),(24,.is 2 (I Zw.g a.Cells)),(25,i64 (a.Cells.length:Int)),(26,i64 e),(32,.is 2 (I Zo.g f.Voices)),(33,i64 (f.Voices.length:Int)),(34,i64 j)] [(5,.box (Zw.g f)),(4,.box (Zm.g a)),(3,.box [.ref 1 0]),(2,.lst 106 3 false (I Zv.g u)),(1,.box (ck c i (.own 2)))])) (encE:=(fun(p:List Zv)=>(xq 4 [(0,.ref 1 0),(1,.fn 76 [] [.ref 3 0]),(4,i64 b),(16,.is 22 (I Zm.g c.Measures)),(17,i64 (c.Measures.length:Int)),(18,i64 b),(24,.is 2 (I Zw.g a.Cells)),(25,i64 (a.Cells.length:Int)),(26,i64 e)] [(5,.box (Zw.g f)),(4,.box (Zm.g a)),(3,.box [.ref 1 0]),(2,.lst 106 3 false (I Zv.g p)),(1,.box (ck c i (.own 2)))]))) (fun⟨j,u⟩=>?_) B64 (0,t)) fun p=>?_
 refine io ?_ (lf rfl)
 refine bo rg fun m=>?_
 refine bz lm ?_
 refine bo (aI (S:=Int×(List Zv)) (enc:=fun⟨l,h⟩=>(Q [(0,.ref 1 0),(1,.fn 76 [] [.ref 3 0]),(4,i64 b),(6,i64 e),(8,i64 j),(16,.is 22 (I Zm.g c.Measures)),(17,i64 (c.Measures.length:Int)),(18,i64 b),(24,.is 2 (I Zw.g a.Cells)),(25,i64 (a.Cells.length:Int)),(26,i64 e),(32,.is 2 (I Zo.g f.Voices)),(33,i64 (f.Voices.length:Int)),(34,i64 j),(40,.is 13 (I Ze.g m.Events)),(41,i64 (m.Events.length:Int)),(42,i64 l)] [(6,.box (Zo.g m)),(5,.box (Zw.g f)),(4,.box (Zm.g a)),(3,.box [.ref 1 0]),(2,.lst 106 3 false (I Zv.g h)),(1,.box (ck c i (.own 2)))])) (encE:=(fun(o:List Zv)=>(xq 6 [(0,.ref 1 0),(1,.fn 76 [] [.ref 3 0]),(4,i64 b),(6,i64 e),(16,.is 22 (I Zm.g c.Measures)),(17,i64 (c.Measures.length:Int)),(18,i64 b),(24,.is 2 (I Zw.g a.Cells)),(25,i64 (a.Cells.length:Int)),(26,i64 e),(32,.is 2 (I Zo.g f.Voices)),(33,i64 (f.Voices.length:Int)),(34,i64 j)] [(6,.box (Zo.g m)),(5,.box (Zw.g f)),(4,.box (Zm.g a)),(3,.box [.ref 1 0]),(2,.lst 106 3 false (I Zv.g o)),(1,.box (ck c i (.own 2)))]))) (fun⟨l,h⟩=>?_) B64 (0,u)) fun o=>?_
 refine io ?_ (lf rfl)
 refine bo rg fun n=>?_
 refine bo (ok76 d (Zp.mk 4 0 e b j l 0) n (Zk.mk c i h)) fun v=>?_
 refine bo (okn58 (d+8) v n.ID h c i) fun x=>?_
 exact lf rfl
 exact lf rfl
 exact lf rfl
 exact lf rfl
 exact lf rfl
def Fn39 (x1:List Zv) (a:Z0) (b:Int):Option (List Zv):=
 (Fn73_2 x1 a b).bind fun c=>some c
theorem okn39 {k} (d) (x1:List Zv) (a:Z0) (b:Int):runR (XD k (d+11)) 39 [.ref 1 0] [(2,.lst 106 3 false (I Zv.g x1)),(1,.box (ck a b (.own 2)))] 3 false=(Fn39 x1 a b).map (fun(c:List Zv)=>((.tup [],[(2,.lst 106 3 false (I Zv.g c)),(1,.box (ck a b (.own 2)))],0))):=by
 rw[xd (fn:=p39) rfl]
 refine bo (okn73_2 d x1 a b) fun e=>?_
 exact lf rfl
def F135 (x1:Zb):Option Bool:=
 some x1.Tied
theorem ok135 {k} (d) (x1:Zb):OD k (d+1) 135 [.agg (Zb.g x1)]=(F135 x1).map (fun a=>bv a):=by
 rw[od (fn:=p135) rfl rfl rfl]
 exact lf rfl
def F133_2 (x1:List Zb):Option Int:=
 (aO (E:=Int⊕Unit) (fun(a:Int)=>if decide (a<(x1.length:Int))then(lget x1 a).bind fun b=>(F135 b).bind fun c=>if c then some (.inr (.inl a))else some (.inl (w64 (a+1)))else some (.inr (.inr ()))) B64 0).bind fun d=>(match d with|.inl x7=>some x7|.inr _=>some (-1))
theorem ok133_2 {k} (d) (x1:List Zb):OD k (d+2) 133 [.is 5 (I Zb.g x1),.fn 135 [] []]=(F133_2 x1).map (fun f=>i64 f):=by
 rw[od (fn:=p133) rfl rfl rfl]
 refine bz lm ?_
 refine bo (aI (S:=Int) (enc:=fun a=>(Q [(0,.is 5 (I Zb.g x1)),(1,.fn 135 [] []),(7,i64 (x1.length:Int)),(8,i64 a)] [])) (encE:=(fun|.inl b=>(rq [(4,i64 b)] [])|.inr _=>(xq 0 [] []))) (fun a=>?_) B64 0) fun e=>?_
 refine io ?_ (lf rfl)
 refine bo rg fun c=>?_
 refine bo (ok135 d c) fun h=>?_
 refine io (lf rfl) (lf rfl)
 rcases e with b|_
 exact lf rfl
 exact lf rfl
def F79_2 (x1:List Zb):Option Bool:=
 (F133_2 x1).bind fun a=>some (decide (a>=0))
theorem ok79_2 {k} (d) (x1:List Zb):OD k (d+3) 79 [.is 5 (I Zb.g x1),.fn 135 [] []]=(F79_2 x1).map (fun a=>bv a):=by
 rw[od (fn:=p79) rfl rfl rfl]
 refine bo (ok133_2 d x1) fun b=>?_
 exact lf rfl
def F84 (x1:Ze):Option Bool:=
 ((if x1.Kind==1 then(F79_2 x1.Heads).bind fun a=>some a else some false:Option (Bool))).bind fun b=>some b
theorem ok84 {k} (d) (x1:Ze):OD k (d+4) 84 [.agg (Ze.g x1)]=(F84 x1).map (fun a=>bv a):=by
 rw[od (fn:=p84) rfl rfl rfl]
 refine bo (e:=id) ?_ fun c=>?_
 refine io ?_ (lf rfl)
 refine bo (ok79_2 d x1.Heads) fun b=>?_
 exact lf rfl
 exact lf rfl
def F137 (x1:Z0) (a b f:Int):Option (List Ze):=
 ((if((decide (a<0))||(decide (a>=(x1.Measures.length:Int))))||(decide (b<0))then some true else(lget x1.Measures a).bind fun g=>some (decide (b>=(g.Cells.length:Int))):Option (Bool))).bind fun h=>((if h||(decide (f<0))then some true else(lget x1.Measures a).bind fun i=>(lget i.Cells b).bind fun j=>some (decide (f>=(j.Voices.length:Int))):Option (Bool))).bind fun k=>if k then some []else(lget x1.Measures a).bind fun c=>(lget c.Cells b).bind fun d=>(lget d.Voices f).bind fun e=>some e.Events
theorem ok137 {k} (d) (x1:Z0) (a b c:Int):OD k (d+1) 137 [.agg (Z0.g x1),i64 a,i64 b,i64 c]=(F137 x1 a b c).map (fun j=>.is 13 (I Ze.g j)):=by
 rw[od (fn:=p137) rfl rfl rfl]
 refine bz (gor (bz lm rfl)) ?_
 refine bz (gor rfl) ?_
 refine bo (e:=id) ?_ fun m=>?_
 refine io (lf rfl) ?_
 refine bo rg fun l=>?_
 refine bz lm ?_
 exact lf rfl
 refine bz (gor rfl) ?_
 refine bo (e:=id) ?_ fun p=>?_
 refine io (lf rfl) ?_
 refine bo rg fun n=>?_
 refine bo rg fun o=>?_
 refine bz lm ?_
 exact lf rfl
 refine io (lf rfl) ?_
 refine bo rg fun f=>?_
 refine bo rg fun h=>?_
 refine bo rg fun i=>?_
 exact lf rfl
def F136 (x1:Z0) (a:Zp):Option Int:=
 if a.Kind !=4 then some 11 else((if decide (a.Event<0)then some true else(F137 x1 a.Measure a.Staff a.Voice).bind fun b=>some (decide (a.Event>=(b.length:Int))):Option (Bool))).bind fun c=>if c then some 2 else some 0
theorem ok136 {k} (d) (x1:Z0) (a:Zp):OD k (d+2) 136 [.agg (Z0.g x1),.agg (Zp.g a)]=(F136 x1 a).map (fun b=>i64 b):=by
 rw[od (fn:=p136) rfl rfl rfl]
 refine io (lf rfl) ?_
 refine bo (e:=id) ?_ fun f=>?_
 refine io (lf rfl) ?_
 refine bo (ok137 d x1 a.Measure a.Staff a.Voice) fun c=>?_
 refine bz lm ?_
 exact lf rfl
 refine io (lf rfl) (lf rfl)
def F138 (x1 a:Int) (b c:Int):Option Zp:=
 some (Zp.mk 4 0 a x1 b c 0)
theorem ok138 {k} (d) (x1 a:Int) (b c:Int):OD k (d+1) 138 [i64 x1,i64 a,i64 b,i64 c]=(F138 x1 a b c).map (fun e=>.agg (Zp.g e)):=by
 rw[od (fn:=p138) rfl rfl rfl]
 exact lf rfl
def F85 (x1:Z0) (a:Zp):Option (Zp×Bool):=
 (F136 x1 a).bind fun b=>if b !=0 then some ((Zp.mk 0 0 0 0 0 0 0),false)else(F137 x1 a.Measure a.Staff a.Voice).bind fun c=>if decide ((w64 (a.Event+1))<(c.length:Int))then(F138 a.Measure a.Staff a.Voice (w64 (a.Event+1))).bind fun d=>some (d,true)else(F137 x1 (w64 (a.Measure+1)) a.Staff a.Voice).bind fun e=>if decide ((e.length:Int)>0)then(F138 (w64 (a.Measure+1)) a.Staff a.Voice 0).bind fun f=>some (f,true)else some ((Zp.mk 0 0 0 0 0 0 0),false)
theorem ok85 {k} (d) (x1:Z0) (a:Zp):OD k (d+3) 85 [.agg (Z0.g x1),.agg (Zp.g a)]=(F85 x1 a).map (fun⟨b,c⟩=>.tup [.agg (Zp.g b),bv c]):=by
 rw[od (fn:=p85) rfl rfl rfl]
 refine bo (ok136 d x1 a) fun e=>?_
 refine io (lf rfl) ?_
 refine bo (ok137 (d+1) x1 a.Measure a.Staff a.Voice) fun f=>?_
 refine bz lm ?_
 refine io ?_ ?_
 refine bo (ok138 (d+1) a.Measure a.Staff a.Voice (w64 (a.Event+1))) fun h=>?_
 exact lf rfl
 refine bo (ok137 (d+1) x1 (w64 (a.Measure+1)) a.Staff a.Voice) fun i=>?_
 refine bz lm ?_
 refine io ?_ (lf rfl)
 refine bo (ok138 (d+1) (w64 (a.Measure+1)) a.Staff a.Voice 0) fun j=>?_
 exact lf rfl
def F139 (x1:Ze):Option Ze:=
 (nR x1.Heads).bind fun a=>(nR x1.Graces).bind fun b=>(nR x1.Lyrics).bind fun c=>some (Ze.mk x1.ID x1.Kind x1.Value a b x1.Articulations x1.Ornament x1.Dynamic c x1.Stem x1.Beam)
theorem ok139 {k} (d) (x1:Ze):OD k (d+2) 139 [.agg (Ze.g x1)]=(F139 x1).map (fun a=>.agg (Ze.g a)):=by
 rw[od (fn:=p139) rfl rfl rfl]
 refine bo (kQ 180 (d+1) 5 _ _ rfl rfl rfl) fun b=>?_
 refine bo (kQ 181 (d+1) 5 _ _ rfl rfl rfl) fun c=>?_
 refine bo (kQ 182 (d+1) 2 _ _ rfl rfl rfl) fun e=>?_
 exact lf rfl
def F86 (x1:Z0) (a:Zp):Option (Ze×Int):=
 (F136 x1 a).bind fun b=>if b !=0 then some ((Ze.mk (Zz.mk 0 0) 0 (Za.mk 0 0) [] [] 0 0 0 [] 0 0),b)else(F137 x1 a.Measure a.Staff a.Voice).bind fun c=>(lget c a.Event).bind fun d=>(F139 d).bind fun e=>some (e,0)
theorem ok86 {k} (d) (x1:Z0) (a:Zp):OD k (d+3) 86 [.agg (Z0.g x1),.agg (Zp.g a)]=(F86 x1 a).map (fun⟨c,e⟩=>.tup [.agg (Ze.g c),i64 e]):=by
 rw[od (fn:=p86) rfl rfl rfl]
 refine bo (ok136 d x1 a) fun f=>?_
 refine io (lf rfl) ?_
 refine bo (ok137 (d+1) x1 a.Measure a.Staff a.Voice) fun h=>?_
 refine bo rg fun b=>?_
 refine bo (ok139 d b) fun i=>?_
 exact lf rfl
def F140 (x1 a:Zb):Option Bool:=
 some (((x1.Pitch.Step==a.Pitch.Step)&&((x1.Pitch.Alter==a.Pitch.Alter)&&((x1.Pitch.Octave==a.Pitch.Octave)&&true)))!=false)
theorem ok140 {k} (d) (x1 a:Zb):OD k (d+1) 140 [.agg (Zb.g x1),.ip (Zb.g a)]=(F140 x1 a).map (fun b=>bv b):=by
 rw[od (fn:=p140) rfl rfl rfl]
 exact lf rfl
def F133_3 (x1:List Zb) (b:Zb):Option Int:=
 (aO (E:=Int⊕Unit) (fun(a:Int)=>if decide (a<(x1.length:Int))then(lget x1 a).bind fun c=>(F140 c b).bind fun d=>if d then some (.inr (.inl a))else some (.inl (w64 (a+1)))else some (.inr (.inr ()))) B64 0).bind fun e=>(match e with|.inl x8=>some x8|.inr _=>some (-1))
theorem ok133_3 {k} (d) (x1:List Zb) (a:Zb):OD k (d+2) 133 [.is 5 (I Zb.g x1),.fn 140 [] [.ip (Zb.g a)]]=(F133_3 x1 a).map (fun h=>i64 h):=by
 rw[od (fn:=p133) rfl rfl rfl]
 refine bz lm ?_
 refine bo (aI (S:=Int) (enc:=fun b=>(Q [(0,.is 5 (I Zb.g x1)),(1,.fn 140 [] [.ip (Zb.g a)]),(7,i64 (x1.length:Int)),(8,i64 b)] [])) (encE:=(fun|.inl c=>(rq [(4,i64 c)] [])|.inr _=>(xq 0 [] []))) (fun b=>?_) B64 0) fun f=>?_
 refine io ?_ (lf rfl)
 refine bo rg fun e=>?_
 refine bo (ok140 d e a) fun i=>?_
 refine io (lf rfl) (lf rfl)
 rcases f with c|_
 exact lf rfl
 exact lf rfl
def F79_3 (x1:List Zb) (a:Zb):Option Bool:=
 (F133_3 x1 a).bind fun b=>some (decide (b>=0))
theorem ok79_3 {k} (d) (x1:List Zb) (a:Zb):OD k (d+3) 79 [.is 5 (I Zb.g x1),.fn 140 [] [.ip (Zb.g a)]]=(F79_3 x1 a).map (fun b=>bv b):=by
 rw[od (fn:=p79) rfl rfl rfl]
 refine bo (ok133_3 d x1 a) fun c=>?_
 exact lf rfl
def F87 (x1 e:Ze):Option Bool:=
 if x1.Kind !=1 then some true else(aO (E:=Unit⊕Unit) (fun(d:Int)=>if decide (d<(x1.Heads.length:Int))then(lget x1.Heads d).bind fun f=>((if f.Tied then((if e.Kind==1 then(F79_3 e.Heads f).bind fun g=>some g else some false:Option (Bool))).bind fun a=>some (!a)else some false:Option (Bool))).bind fun b=>if b then some (.inr (.inl ()))else some (.inl (w64 (d+1)))else some (.inr (.inr ()))) B64 0).bind fun c=>(match c with|.inl _=>some false|.inr _=>some true)
theorem ok87 {k} (d) (x1 a:Ze):OD k (d+4) 87 [.agg (Ze.g x1),.agg (Ze.g a)]=(F87 x1 a).map (fun j=>bv j):=by
 rw[od (fn:=p87) rfl rfl rfl]
 refine io (lf rfl) ?_
 refine bz lm ?_
 refine bo (aI (S:=Int) (enc:=fun c=>(Q [(3,.ref 1 0),(11,.is 5 (I Zb.g x1.Heads)),(12,i64 (x1.Heads.length:Int)),(13,i64 c)] [(1,.box (Ze.g a)),(0,.box (Ze.g x1))])) (encE:=(fun|.inl _=>(rq [(4,bv false)] [(1,.box (Ze.g a)),(0,.box (Ze.g x1))])|.inr _=>(xq 0 [] [(1,.box (Ze.g a)),(0,.box (Ze.g x1))]))) (fun c=>?_) B64 0) fun b=>?_
 refine io ?_ (lf rfl)
 refine bo rg fun i=>?_
 refine bo (e:=id) ?_ fun h=>?_
 refine io ?_ (lf rfl)
 refine bo (e:=id) ?_ fun f=>?_
 refine io ?_ (lf rfl)
 refine bo (ok79_3 d a.Heads i) fun l=>?_
 exact lf rfl
 exact lf rfl
 refine io (lf rfl) (lf rfl)
 rcases b with _|_
 exact lf rfl
 exact lf rfl
def F83 (x1:Zp) (b:Ze) (c:Zk):Option Bool:=
 (F84 b).bind fun d=>if !d then some false else(F85 c.s' x1).bind fun⟨e,f⟩=>(F86 c.s' e).bind fun⟨g,i⟩=>((if !f then some true else(F87 b g).bind fun h=>some (!h):Option (Bool))).bind fun a=>some a
theorem ok83 {k} (d) (x1:Zp) (a:Ze) (b:Zk):OD k (d+5) 83 [.agg (Zp.g x1),.agg (Ze.g a),.ip [.ip (Zk.g b)]]=(F83 x1 a b).map (fun i=>bv i):=by
 rw[od (fn:=p83) rfl rfl rfl]
 refine bo (ok84 d a) fun j=>?_
 refine io (lf rfl) ?_
 refine bo (ok85 (d+1) b.s' x1) fun⟨f,l⟩=>?_
 refine bo (ok86 (d+1) b.s' f) fun⟨h,m⟩=>?_
 refine bo (e:=id) ?_ fun c=>?_
 refine io (lf rfl) ?_
 refine bo (ok87 d a h) fun n=>?_
 exact lf rfl
 exact lf rfl
def Fn73_3 (x1:List Zv) (s:Z0) (t:Int):Option (List Zv):=
 (aO (E:=List Zv) (fun(⟨c,m⟩:Int×(List Zv))=>if decide (c<(s.Measures.length:Int))then(lget s.Measures c).bind fun n=>(aO (E:=List Zv) (fun(⟨d,o⟩:Int×(List Zv))=>if decide (d<(n.Cells.length:Int))then(lget n.Cells d).bind fun p=>(aO (E:=List Zv) (fun(⟨e,q⟩:Int×(List Zv))=>if decide (e<(p.Voices.length:Int))then(lget p.Voices e).bind fun r=>(aO (E:=List Zv) (fun(⟨a,b⟩:Int×(List Zv))=>if decide (a<(r.Events.length:Int))then(lget r.Events a).bind fun f=>(F83 (Zp.mk 4 0 d c e a 0) f (Zk.mk s t b)).bind fun g=>(Fn58 g f.ID b s t).bind fun h=>some (.inl ((w64 (a+1)),h))else some (.inr b)) B64 (0,q)).bind fun i=>some (.inl ((w64 (e+1)),i))else some (.inr q)) B64 (0,o)).bind fun j=>some (.inl ((w64 (d+1)),j))else some (.inr o)) B64 (0,m)).bind fun k=>some (.inl ((w64 (c+1)),k))else some (.inr m)) B64 (0,x1)).bind fun l=>some l
theorem okn73_3 {k} (d) (x1:List Zv) (c:Z0) (i:Int):runR (XD k (d+6)) 73 [.ref 1 0,.fn 83 [] [.ref 3 0]] [(3,.box [.ref 1 0]),(2,.lst 106 3 false (I Zv.g x1)),(1,.box (ck c i (.own 2)))] 4 false=(Fn73_3 x1 c i).map (fun(w:List Zv)=>((.tup [],[(3,.box [.ref 1 0]),(2,.lst 106 3 false (I Zv.g w)),(1,.box (ck c i (.own 2)))],0))):=by
 rw[xd (fn:=p73) rfl]
 refine bz lm ?_
 refine bo (aI (S:=Int×(List Zv)) (enc:=fun⟨b,s⟩=>(Q [(0,.ref 1 0),(1,.fn 83 [] [.ref 3 0]),(16,.is 22 (I Zm.g c.Measures)),(17,i64 (c.Measures.length:Int)),(18,i64 b)] [(3,.box [.ref 1 0]),(2,.lst 106 3 false (I Zv.g s)),(1,.box (ck c i (.own 2)))])) (encE:=(fun(r:List Zv)=>(xq 0 [] [(3,.box [.ref 1 0]),(2,.lst 106 3 false (I Zv.g r)),(1,.box (ck c i (.own 2)))]))) (fun⟨b,s⟩=>?_) B64 (0,x1)) fun r=>?_
 refine io ?_ (lf rfl)
 refine bo rg fun a=>?_
 refine bz lm ?_
 refine bo (aI (S:=Int×(List Zv)) (enc:=fun⟨e,t⟩=>(Q [(0,.ref 1 0),(1,.fn 83 [] [.ref 3 0]),(4,i64 b),(16,.is 22 (I Zm.g c.Measures)),(17,i64 (c.Measures.length:Int)),(18,i64 b),(24,.is 2 (I Zw.g a.Cells)),(25,i64 (a.Cells.length:Int)),(26,i64 e)] [(4,.box (Zm.g a)),(3,.box [.ref 1 0]),(2,.lst 106 3 false (I Zv.g t)),(1,.box (ck c i (.own 2)))])) (encE:=(fun(q:List Zv)=>(xq 2 [(0,.ref 1 0),(1,.fn 83 [] [.ref 3 0]),(16,.is 22 (I Zm.g c.Measures)),(17,i64 (c.Measures.length:Int)),(18,i64 b)] [(4,.box (Zm.g a)),(3,.box [.ref 1 0]),(2,.lst 106 3 false (I Zv.g q)),(1,.box (ck c i (.own 2)))]))) (fun⟨e,t⟩=>?_) B64 (0,s)) fun q=>?_
 refine io ?_ (lf rfl)
 refine bo rg fun f=>?_
 refine bz lm ?_
 refine bo (aI (S:=Int×(List Zv)) (enc:=fun⟨j,u⟩=>(Q [(0,.ref 1 0),(1,.fn 83 [] [.ref 3 0]),(4,i64 b),(6,i64 e),(16,.is 22 (I Zm.g c.Measures)),(17,i64 (c.Measures.length:Int)),(18,i64 b),(24,.is 2 (I Zw.g a.Cells)),(25,i64 (a.Cells.length:Int)),(26,i64 e),(32,.is 2 (I Zo.g f.Voices)),(33,i64 (f.Voices.length:Int)),(34,i64 j)] [(5,.box (Zw.g f)),(4,.box (Zm.g a)),(3,.box [.ref 1 0]),(2,.lst 106 3 false (I Zv.g u)),(1,.box (ck c i (.own 2)))])) (encE:=(fun(p:List Zv)=>(xq 4 [(0,.ref 1 0),(1,.fn 83 [] [.ref 3 0]),(4,i64 b),(16,.is 22 (I Zm.g c.Measures)),(17,i64 (c.Measures.length:Int)),(18,i64 b),(24,.is 2 (I Zw.g a.Cells)),(25,i64 (a.Cells.length:Int)),(26,i64 e)] [(5,.box (Zw.g f)),(4,.box (Zm.g a)),(3,.box [.ref 1 0]),(2,.lst 106 3 false (I Zv.g p)),(1,.box (ck c i (.own 2)))]))) (fun⟨j,u⟩=>?_) B64 (0,t)) fun p=>?_
 refine io ?_ (lf rfl)
 refine bo rg fun m=>?_
 refine bz lm ?_
 refine bo (aI (S:=Int×(List Zv)) (enc:=fun⟨l,h⟩=>(Q [(0,.ref 1 0),(1,.fn 83 [] [.ref 3 0]),(4,i64 b),(6,i64 e),(8,i64 j),(16,.is 22 (I Zm.g c.Measures)),(17,i64 (c.Measures.length:Int)),(18,i64 b),(24,.is 2 (I Zw.g a.Cells)),(25,i64 (a.Cells.length:Int)),(26,i64 e),(32,.is 2 (I Zo.g f.Voices)),(33,i64 (f.Voices.length:Int)),(34,i64 j),(40,.is 13 (I Ze.g m.Events)),(41,i64 (m.Events.length:Int)),(42,i64 l)] [(6,.box (Zo.g m)),(5,.box (Zw.g f)),(4,.box (Zm.g a)),(3,.box [.ref 1 0]),(2,.lst 106 3 false (I Zv.g h)),(1,.box (ck c i (.own 2)))])) (encE:=(fun(o:List Zv)=>(xq 6 [(0,.ref 1 0),(1,.fn 83 [] [.ref 3 0]),(4,i64 b),(6,i64 e),(16,.is 22 (I Zm.g c.Measures)),(17,i64 (c.Measures.length:Int)),(18,i64 b),(24,.is 2 (I Zw.g a.Cells)),(25,i64 (a.Cells.length:Int)),(26,i64 e),(32,.is 2 (I Zo.g f.Voices)),(33,i64 (f.Voices.length:Int)),(34,i64 j)] [(6,.box (Zo.g m)),(5,.box (Zw.g f)),(4,.box (Zm.g a)),(3,.box [.ref 1 0]),(2,.lst 106 3 false (I Zv.g o)),(1,.box (ck c i (.own 2)))]))) (fun⟨l,h⟩=>?_) B64 (0,u)) fun o=>?_
 refine io ?_ (lf rfl)
 refine bo rg fun n=>?_
 refine bo (ok83 d (Zp.mk 4 0 e b j l 0) n (Zk.mk c i h)) fun v=>?_
 refine bo (okn58 (d+4) v n.ID h c i) fun x=>?_
 exact lf rfl
 exact lf rfl
 exact lf rfl
 exact lf rfl
 exact lf rfl
def Fn40 (x1:List Zv) (a:Z0) (b:Int):Option (List Zv):=
 (Fn73_3 x1 a b).bind fun c=>some c
theorem okn40 {k} (d) (x1:List Zv) (a:Z0) (b:Int):runR (XD k (d+7)) 40 [.ref 1 0] [(2,.lst 106 3 false (I Zv.g x1)),(1,.box (ck a b (.own 2)))] 3 false=(Fn40 x1 a b).map (fun(c:List Zv)=>((.tup [],[(2,.lst 106 3 false (I Zv.g c)),(1,.box (ck a b (.own 2)))],0))):=by
 rw[xd (fn:=p40) rfl]
 refine bo (okn73_3 d x1 a b) fun e=>?_
 exact lf rfl
def F141 (x1:Ze) (a:Int):Option Bool:=
 ((if decide (a>=(x1.Lyrics.length:Int))then some true else(lget x1.Lyrics a).bind fun b=>some (((b.Text==(⟨#[]⟩:ByteArray))&&((b.Link==0)&&true))!=false):Option (Bool))).bind fun c=>some c
theorem ok141 {k} (d) (x1:Ze) (a:Int):OD k (d+1) 141 [.agg (Ze.g x1),i64 a]=(F141 x1 a).map (fun b=>bv b):=by
 rw[od (fn:=p141) rfl rfl rfl]
 refine bz lm ?_
 refine bo (e:=id) ?_ fun f=>?_
 refine io (lf rfl) ?_
 refine bo rg fun c=>?_
 exact lf rfl
 exact lf rfl
def Fn88 (x1 O T:Int) (V:List (Zp×Bool)) (W:List Zv) (U:Z0) (X:Int):Option (List (Zp×Bool)):=
 (aO (E:=Int×Int×Int×Int×Int×Zy×(List (Zp×Bool))) (fun(⟨e,n,o,p,q,r,s,t⟩:Int×Int×Int×Int×Int×Int×Zy×(List (Zp×Bool)))=>if decide (e<(U.Measures.length:Int))then(lget U.Measures e).bind fun u=>((if decide (x1>=(u.Cells.length:Int))then some true else(lget u.Cells x1).bind fun P=>some (decide (O>=(P.Voices.length:Int))):Option (Bool))).bind fun R=>if R then some (.inl ((w64 (e+1)),n,o,p,q,r,s,t))else(lget u.Cells x1).bind fun S=>(lget S.Voices O).bind fun N=>(aO (E:=Int×Int×Int×Int×Int×Zy×(List (Zp×Bool))) (fun(⟨a,f,g,h,i,j,b,c⟩:Int×Int×Int×Int×Int×Int×Zy×(List (Zp×Bool)))=>if decide (a<(N.Events.length:Int))then(lget N.Events a).bind fun k=>(F141 k T).bind fun v=>if v then some (.inl ((w64 (a+1)),f,g,h,i,j,b,c))else(lget k.Lyrics T).bind fun d=>((if(b.Link==1)&&(d.Text.toList==(⟨#[]⟩:ByteArray).toList)then some (mput c (Zp.mk f 0 g h i j 0) true)else some c:Option (List (Zp×Bool)))).bind fun l=>((if((d.Text.toList==(⟨#[]⟩:ByteArray).toList)&&(d.Link==2))&&(b.Link !=2)then some (mput l (Zp.mk 4 0 x1 e O a 0) true)else some l:Option (List (Zp×Bool)))).bind fun w=>some (.inl ((w64 (a+1)),4,x1,e,O,a,d,w))else some (.inr (f,g,h,i,j,b,c))) B64 (0,n,o,p,q,r,s,t)).bind fun⟨x,y,z,A,B,C,D⟩=>some (.inl ((w64 (e+1)),x,y,z,A,B,C,D))else some (.inr (n,o,p,q,r,s,t))) B64 (0,0,0,0,0,0,(Zy.mk (⟨#[]⟩:ByteArray) 0),V)).bind fun⟨F,G,H,J,K,L,m⟩=>((if L.Link==1 then some (mput m (Zp.mk F 0 G H J K 0) true)else some m:Option (List (Zp×Bool)))).bind fun M=>some M
theorem okn88 {k} (d) (x1 y N:Int) (Y:List (Zp×Bool)) (z:List Zv) (c:Z0) (A:Int):runR (XD k (d+2)) 88 [.ref 1 0,i64 x1,i64 y,i64 N,.map 3] [(3,.mp (I (mEnt (eA Zp.g) bv) Y)),(2,.lst 106 3 false (I Zv.g z)),(1,.box (ck c A (.own 2)))] 4 false=(Fn88 x1 y N Y z c A).map (fun(X:List (Zp×Bool))=>((.tup [],[(3,.mp (I (mEnt (eA Zp.g) bv) X)),(2,.lst 106 3 false (I Zv.g z)),(1,.box (ck c A (.own 2)))],0))):=by
 rw[xd (fn:=p88) rfl]
 refine bz lm ?_
 refine bo (aI (S:=Int×Int×Int×Int×Int×Int×Zy×(List (Zp×Bool))) (enc:=fun⟨a,O,P,R,T,U,V,W⟩=>(Q [(1,i64 x1),(2,i64 y),(3,i64 N),(4,.map 3),(10,.ref 4 0),(11,.ref 5 0),(22,.is 22 (I Zm.g c.Measures)),(23,i64 (c.Measures.length:Int)),(24,i64 a)] [(5,.box [i64 O,i64 0,i64 P,i64 R,i64 T,i64 U,i64 0]),(4,.box (Zy.g V)),(3,.mp (I (mEnt (eA Zp.g) bv) W)),(2,.lst 106 3 false (I Zv.g z)),(1,.box (ck c A (.own 2)))])) (encE:=(fun(⟨n,o,p,q,r,w,x⟩:Int×Int×Int×Int×Int×Zy×(List (Zp×Bool)))=>(xq 0 [(4,.map 3),(10,.ref 4 0),(11,.ref 5 0)] [(5,.box [i64 n,i64 0,i64 o,i64 p,i64 q,i64 r,i64 0]),(4,.box (Zy.g w)),(3,.mp (I (mEnt (eA Zp.g) bv) x)),(2,.lst 106 3 false (I Zv.g z)),(1,.box (ck c A (.own 2)))]))) (fun⟨a,O,P,R,T,U,V,W⟩=>?_) B64 (0,0,0,0,0,0,(Zy.mk (⟨#[]⟩:ByteArray) 0),Y)) fun⟨n,o,p,q,r,w,x⟩=>?_
 refine io ?_ (lf rfl)
 refine bo rg fun B=>?_
 refine bz lm ?_
 refine bo (e:=id) ?_ fun b0=>?_
 refine io (lf rfl) ?_
 refine bo rg fun a0=>?_
 refine bz lm ?_
 exact lf rfl
 refine io (lf rfl) ?_
 refine bo rg fun b4=>?_
 refine bo rg fun s=>?_
 refine bz lm ?_
 refine bo (aI (S:=Int×Int×Int×Int×Int×Int×Zy×(List (Zp×Bool))) (enc:=fun⟨b,f,h,i,j,l,m,t⟩=>(Q [(1,i64 x1),(2,i64 y),(3,i64 N),(4,.map 3),(10,.ref 4 0),(11,.ref 5 0),(12,i64 a),(22,.is 22 (I Zm.g c.Measures)),(23,i64 (c.Measures.length:Int)),(24,i64 a),(54,.is 13 (I Ze.g s.Events)),(55,i64 (s.Events.length:Int)),(56,i64 b)] [(6,.box (Zm.g B)),(5,.box [i64 f,i64 0,i64 h,i64 i,i64 j,i64 l,i64 0]),(4,.box (Zy.g m)),(3,.mp (I (mEnt (eA Zp.g) bv) t)),(2,.lst 106 3 false (I Zv.g z)),(1,.box (ck c A (.own 2)))])) (encE:=(fun(⟨E,F,G,H,J,K,L⟩:Int×Int×Int×Int×Int×Zy×(List (Zp×Bool)))=>(xq 2 [(1,i64 x1),(2,i64 y),(3,i64 N),(4,.map 3),(10,.ref 4 0),(11,.ref 5 0),(22,.is 22 (I Zm.g c.Measures)),(23,i64 (c.Measures.length:Int)),(24,i64 a)] [(6,.box (Zm.g B)),(5,.box [i64 E,i64 0,i64 F,i64 G,i64 H,i64 J,i64 0]),(4,.box (Zy.g K)),(3,.mp (I (mEnt (eA Zp.g) bv) L)),(2,.lst 106 3 false (I Zv.g z)),(1,.box (ck c A (.own 2)))]))) (fun⟨b,f,h,i,j,l,m,t⟩=>?_) B64 (0,O,P,R,T,U,V,W)) fun⟨E,F,G,H,J,K,L⟩=>?_
 refine io ?_ (lf rfl)
 refine bo rg fun u=>?_
 refine bo (ok141 d u N) fun Z=>?_
 refine io (lf rfl) ?_
 refine bo rg fun C=>?_
 refine bz (gand rfl) ?_
 refine bo (e:=(fun(v:List (Zp×Bool))=>(nq [(1,i64 x1),(2,i64 y),(3,i64 N),(4,.map 3),(10,.ref 4 0),(11,.ref 5 0),(12,i64 a),(16,.ref 8 0),(17,.ref 9 0),(22,.is 22 (I Zm.g c.Measures)),(23,i64 (c.Measures.length:Int)),(24,i64 a),(54,.is 13 (I Ze.g s.Events)),(55,i64 (s.Events.length:Int)),(56,i64 b)] [(9,.box (Zy.g C)),(8,.box [i64 4,i64 0,i64 x1,i64 a,i64 y,i64 b,i64 0]),(7,.box (Ze.g u)),(6,.box (Zm.g B)),(5,.box [i64 f,i64 0,i64 h,i64 i,i64 j,i64 l,i64 0]),(4,.box (Zy.g m)),(3,.mp (I (mEnt (eA Zp.g) bv) v)),(2,.lst 106 3 false (I Zv.g z)),(1,.box (ck c A (.own 2)))]))) ?_ fun v=>?_
 refine io ?_ (lf rfl)
 refine bz (iJ dH bv t (Zp.mk f 0 h i j l 0) true) ?_
 exact lf rfl
 refine bz (gand rfl) ?_
 refine bz (gand rfl) ?_
 refine bo (e:=(fun(D:List (Zp×Bool))=>(nq [(1,i64 x1),(2,i64 y),(3,i64 N),(4,.map 3),(10,.ref 4 0),(11,.ref 5 0),(12,i64 a),(16,.ref 8 0),(17,.ref 9 0),(22,.is 22 (I Zm.g c.Measures)),(23,i64 (c.Measures.length:Int)),(24,i64 a),(54,.is 13 (I Ze.g s.Events)),(55,i64 (s.Events.length:Int)),(56,i64 b)] [(9,.box (Zy.g C)),(8,.box [i64 4,i64 0,i64 x1,i64 a,i64 y,i64 b,i64 0]),(7,.box (Ze.g u)),(6,.box (Zm.g B)),(5,.box [i64 f,i64 0,i64 h,i64 i,i64 j,i64 l,i64 0]),(4,.box (Zy.g m)),(3,.mp (I (mEnt (eA Zp.g) bv) D)),(2,.lst 106 3 false (I Zv.g z)),(1,.box (ck c A (.own 2)))]))) ?_ fun D=>?_
 refine io ?_ (lf rfl)
 refine bz (iJ dH bv v (Zp.mk 4 0 x1 a y b 0) true) ?_
 exact lf rfl
 exact lf rfl
 exact lf rfl
 refine bo (e:=(fun(M:List (Zp×Bool))=>(nq [] [(5,.box [i64 n,i64 0,i64 o,i64 p,i64 q,i64 r,i64 0]),(4,.box (Zy.g w)),(3,.mp (I (mEnt (eA Zp.g) bv) M)),(2,.lst 106 3 false (I Zv.g z)),(1,.box (ck c A (.own 2)))]))) ?_ fun M=>?_
 refine io ?_ (lf rfl)
 refine bz (iJ dH bv x (Zp.mk n 0 o p q r 0) true) ?_
 exact lf rfl
 exact lf rfl
def F89 (x1:Zp) (b:Ze) (a:List (Zp×Bool)):Option Bool:=
 some (mget a x1 false)
theorem ok89 {k} (d) (x1:Zp) (b:Ze) (a:List (Zp×Bool)):OD k (d+1) 89 [.agg (Zp.g x1),.agg (Ze.g b),.ip [.im (I (mEnt (eA Zp.g) bv) a)]]=(F89 x1 b a).map (fun c=>bv c):=by
 rw[od (fn:=p89) rfl rfl rfl]
 refine bz (pK dH bv a x1 false) ?_
 exact lf rfl
def Fn73_4 (x1:List (Zp×Bool)) (t:List Zv) (s:Z0) (u:Int):Option (List Zv):=
 (aO (E:=List Zv) (fun(⟨b,m⟩:Int×(List Zv))=>if decide (b<(s.Measures.length:Int))then(lget s.Measures b).bind fun n=>(aO (E:=List Zv) (fun(⟨c,o⟩:Int×(List Zv))=>if decide (c<(n.Cells.length:Int))then(lget n.Cells c).bind fun p=>(aO (E:=List Zv) (fun(⟨d,q⟩:Int×(List Zv))=>if decide (d<(p.Voices.length:Int))then(lget p.Voices d).bind fun r=>(aO (E:=List Zv) (fun(⟨a,e⟩:Int×(List Zv))=>if decide (a<(r.Events.length:Int))then(lget r.Events a).bind fun f=>(F89 (Zp.mk 4 0 c b d a 0) f x1).bind fun g=>(Fn58 g f.ID e s u).bind fun h=>some (.inl ((w64 (a+1)),h))else some (.inr e)) B64 (0,q)).bind fun i=>some (.inl ((w64 (d+1)),i))else some (.inr q)) B64 (0,o)).bind fun j=>some (.inl ((w64 (c+1)),j))else some (.inr o)) B64 (0,m)).bind fun k=>some (.inl ((w64 (b+1)),k))else some (.inr m)) B64 (0,t)).bind fun l=>some l
theorem okn73_4 {k} (d) (x1:List (Zp×Bool)) (x:List Zv) (c:Z0) (i:Int):runR (XD k (d+2)) 73 [.ref 1 0,.fn 89 [] [.ref 4 0]] [(4,.box [.map 3]),(3,.mp (I (mEnt (eA Zp.g) bv) x1)),(2,.lst 106 3 false (I Zv.g x)),(1,.box (ck c i (.own 2)))] 5 false=(Fn73_4 x1 x c i).map (fun(w:List Zv)=>((.tup [],[(4,.box [.map 3]),(3,.mp (I (mEnt (eA Zp.g) bv) x1)),(2,.lst 106 3 false (I Zv.g w)),(1,.box (ck c i (.own 2)))],0))):=by
 rw[xd (fn:=p73) rfl]
 refine bz lm ?_
 refine bo (aI (S:=Int×(List Zv)) (enc:=fun⟨b,s⟩=>(Q [(0,.ref 1 0),(1,.fn 89 [] [.ref 4 0]),(16,.is 22 (I Zm.g c.Measures)),(17,i64 (c.Measures.length:Int)),(18,i64 b)] [(4,.box [.map 3]),(3,.mp (I (mEnt (eA Zp.g) bv) x1)),(2,.lst 106 3 false (I Zv.g s)),(1,.box (ck c i (.own 2)))])) (encE:=(fun(r:List Zv)=>(xq 0 [] [(4,.box [.map 3]),(3,.mp (I (mEnt (eA Zp.g) bv) x1)),(2,.lst 106 3 false (I Zv.g r)),(1,.box (ck c i (.own 2)))]))) (fun⟨b,s⟩=>?_) B64 (0,x)) fun r=>?_
 refine io ?_ (lf rfl)
 refine bo rg fun a=>?_
 refine bz lm ?_
 refine bo (aI (S:=Int×(List Zv)) (enc:=fun⟨e,t⟩=>(Q [(0,.ref 1 0),(1,.fn 89 [] [.ref 4 0]),(4,i64 b),(16,.is 22 (I Zm.g c.Measures)),(17,i64 (c.Measures.length:Int)),(18,i64 b),(24,.is 2 (I Zw.g a.Cells)),(25,i64 (a.Cells.length:Int)),(26,i64 e)] [(5,.box (Zm.g a)),(4,.box [.map 3]),(3,.mp (I (mEnt (eA Zp.g) bv) x1)),(2,.lst 106 3 false (I Zv.g t)),(1,.box (ck c i (.own 2)))])) (encE:=(fun(q:List Zv)=>(xq 2 [(0,.ref 1 0),(1,.fn 89 [] [.ref 4 0]),(16,.is 22 (I Zm.g c.Measures)),(17,i64 (c.Measures.length:Int)),(18,i64 b)] [(5,.box (Zm.g a)),(4,.box [.map 3]),(3,.mp (I (mEnt (eA Zp.g) bv) x1)),(2,.lst 106 3 false (I Zv.g q)),(1,.box (ck c i (.own 2)))]))) (fun⟨e,t⟩=>?_) B64 (0,s)) fun q=>?_
 refine io ?_ (lf rfl)
 refine bo rg fun f=>?_
 refine bz lm ?_
 refine bo (aI (S:=Int×(List Zv)) (enc:=fun⟨h,u⟩=>(Q [(0,.ref 1 0),(1,.fn 89 [] [.ref 4 0]),(4,i64 b),(6,i64 e),(16,.is 22 (I Zm.g c.Measures)),(17,i64 (c.Measures.length:Int)),(18,i64 b),(24,.is 2 (I Zw.g a.Cells)),(25,i64 (a.Cells.length:Int)),(26,i64 e),(32,.is 2 (I Zo.g f.Voices)),(33,i64 (f.Voices.length:Int)),(34,i64 h)] [(6,.box (Zw.g f)),(5,.box (Zm.g a)),(4,.box [.map 3]),(3,.mp (I (mEnt (eA Zp.g) bv) x1)),(2,.lst 106 3 false (I Zv.g u)),(1,.box (ck c i (.own 2)))])) (encE:=(fun(p:List Zv)=>(xq 4 [(0,.ref 1 0),(1,.fn 89 [] [.ref 4 0]),(4,i64 b),(16,.is 22 (I Zm.g c.Measures)),(17,i64 (c.Measures.length:Int)),(18,i64 b),(24,.is 2 (I Zw.g a.Cells)),(25,i64 (a.Cells.length:Int)),(26,i64 e)] [(6,.box (Zw.g f)),(5,.box (Zm.g a)),(4,.box [.map 3]),(3,.mp (I (mEnt (eA Zp.g) bv) x1)),(2,.lst 106 3 false (I Zv.g p)),(1,.box (ck c i (.own 2)))]))) (fun⟨h,u⟩=>?_) B64 (0,t)) fun p=>?_
 refine io ?_ (lf rfl)
 refine bo rg fun m=>?_
 refine bz lm ?_
 refine bo (aI (S:=Int×(List Zv)) (enc:=fun⟨j,l⟩=>(Q [(0,.ref 1 0),(1,.fn 89 [] [.ref 4 0]),(4,i64 b),(6,i64 e),(8,i64 h),(16,.is 22 (I Zm.g c.Measures)),(17,i64 (c.Measures.length:Int)),(18,i64 b),(24,.is 2 (I Zw.g a.Cells)),(25,i64 (a.Cells.length:Int)),(26,i64 e),(32,.is 2 (I Zo.g f.Voices)),(33,i64 (f.Voices.length:Int)),(34,i64 h),(40,.is 13 (I Ze.g m.Events)),(41,i64 (m.Events.length:Int)),(42,i64 j)] [(7,.box (Zo.g m)),(6,.box (Zw.g f)),(5,.box (Zm.g a)),(4,.box [.map 3]),(3,.mp (I (mEnt (eA Zp.g) bv) x1)),(2,.lst 106 3 false (I Zv.g l)),(1,.box (ck c i (.own 2)))])) (encE:=(fun(o:List Zv)=>(xq 6 [(0,.ref 1 0),(1,.fn 89 [] [.ref 4 0]),(4,i64 b),(6,i64 e),(16,.is 22 (I Zm.g c.Measures)),(17,i64 (c.Measures.length:Int)),(18,i64 b),(24,.is 2 (I Zw.g a.Cells)),(25,i64 (a.Cells.length:Int)),(26,i64 e),(32,.is 2 (I Zo.g f.Voices)),(33,i64 (f.Voices.length:Int)),(34,i64 h)] [(7,.box (Zo.g m)),(6,.box (Zw.g f)),(5,.box (Zm.g a)),(4,.box [.map 3]),(3,.mp (I (mEnt (eA Zp.g) bv) x1)),(2,.lst 106 3 false (I Zv.g o)),(1,.box (ck c i (.own 2)))]))) (fun⟨j,l⟩=>?_) B64 (0,u)) fun o=>?_
 refine io ?_ (lf rfl)
 refine bo rg fun n=>?_
 refine bo (ok89 d (Zp.mk 4 0 e b h j 0) n x1) fun v=>?_
 refine bo (okn58 d v n.ID l c i) fun y=>?_
 exact lf rfl
 exact lf rfl
 exact lf rfl
 exact lf rfl
 exact lf rfl
def Fn41 (x1:List Zv) (g:Z0) (m:Int):Option (List Zv):=
 (F49 g).bind fun n=>(aO (E:=List (Zp×Bool)) (fun(⟨a,d⟩:Int×(List (Zp×Bool)))=>if decide (a<n)then(aO (E:=List (Zp×Bool)) (fun(⟨b,e⟩:Int×(List (Zp×Bool)))=>if decide (b<2)then(aO (E:=List (Zp×Bool)) (fun(⟨c,f⟩:Int×(List (Zp×Bool)))=>if decide (c<4)then(Fn88 a b c f x1 g m).bind fun h=>some (.inl ((w64 (c+1)),h))else some (.inr f)) B64 (0,e)).bind fun i=>some (.inl ((w64 (b+1)),i))else some (.inr e)) B64 (0,d)).bind fun j=>some (.inl ((w64 (a+1)),j))else some (.inr d)) B64 (0,[])).bind fun k=>(Fn73_4 k x1 g m).bind fun l=>some l
theorem okn41 {k} (d) (x1:List Zv) (c:Z0) (e:Int):runR (XD k (d+3)) 41 [.ref 1 0] [(2,.lst 106 3 false (I Zv.g x1)),(1,.box (ck c e (.own 2)))] 3 false=(Fn41 x1 c e).map (fun(p:List Zv)=>((.tup [],[(2,.lst 106 3 false (I Zv.g p)),(1,.box (ck c e (.own 2)))],0))):=by
 rw[xd (fn:=p41) rfl]
 refine bo (ok49 (d+1) c) fun o=>?_
 refine bo (aI (S:=Int×(List (Zp×Bool))) (enc:=fun⟨a,f⟩=>(Q [(0,.ref 1 0),(2,.ref 4 0),(13,i64 o),(14,i64 a)] [(4,.box [.map 3]),(3,.mp (I (mEnt (eA Zp.g) bv) f)),(2,.lst 106 3 false (I Zv.g x1)),(1,.box (ck c e (.own 2)))])) (encE:=(fun(l:List (Zp×Bool))=>(xq 0 [(0,.ref 1 0),(2,.ref 4 0)] [(4,.box [.map 3]),(3,.mp (I (mEnt (eA Zp.g) bv) l)),(2,.lst 106 3 false (I Zv.g x1)),(1,.box (ck c e (.own 2)))]))) (fun⟨a,f⟩=>?_) B64 (0,[])) fun l=>?_
 refine io ?_ (lf rfl)
 refine bo (aI (S:=Int×(List (Zp×Bool))) (enc:=fun⟨b,h⟩=>(Q [(0,.ref 1 0),(2,.ref 4 0),(4,i64 a),(13,i64 o),(14,i64 a),(17,i64 b)] [(4,.box [.map 3]),(3,.mp (I (mEnt (eA Zp.g) bv) h)),(2,.lst 106 3 false (I Zv.g x1)),(1,.box (ck c e (.own 2)))])) (encE:=(fun(n:List (Zp×Bool))=>(xq 2 [(0,.ref 1 0),(2,.ref 4 0),(13,i64 o),(14,i64 a)] [(4,.box [.map 3]),(3,.mp (I (mEnt (eA Zp.g) bv) n)),(2,.lst 106 3 false (I Zv.g x1)),(1,.box (ck c e (.own 2)))]))) (fun⟨b,h⟩=>?_) B64 (0,f)) fun n=>?_
 refine io ?_ (lf rfl)
 refine bo (aI (S:=Int×(List (Zp×Bool))) (enc:=fun⟨i,j⟩=>(Q [(0,.ref 1 0),(2,.ref 4 0),(4,i64 a),(5,i64 b),(13,i64 o),(14,i64 a),(17,i64 b),(20,i64 i)] [(4,.box [.map 3]),(3,.mp (I (mEnt (eA Zp.g) bv) j)),(2,.lst 106 3 false (I Zv.g x1)),(1,.box (ck c e (.own 2)))])) (encE:=(fun(m:List (Zp×Bool))=>(xq 4 [(0,.ref 1 0),(2,.ref 4 0),(4,i64 a),(13,i64 o),(14,i64 a),(17,i64 b)] [(4,.box [.map 3]),(3,.mp (I (mEnt (eA Zp.g) bv) m)),(2,.lst 106 3 false (I Zv.g x1)),(1,.box (ck c e (.own 2)))]))) (fun⟨i,j⟩=>?_) B64 (0,h)) fun m=>?_
 refine io ?_ (lf rfl)
 refine bo (okn88 d a b i j x1 c e) fun q=>?_
 exact lf rfl
 exact lf rfl
 exact lf rfl
 refine bo (okn73_4 d l x1 c e) fun r=>?_
 exact lf rfl
def Fn113_2 (x1:Z0):Option Unit:=
 some ()
theorem okn113_2 {k} (d) (x1:Z0):runR (XD k (d+1)) 113 [.ref 0 0] [(0,.box (Z0.g x1))] 4 true=(Fn113_2 x1).map (fun(_:Unit)=>((.fn 164 [] [.ref 4 0],[(4,.box [.ref 0 0]),(0,.box (Z0.g x1))],5))):=by
 rw[xd (fn:=p113) rfl]
 exact lf rfl
def Fy183_13 (x1 d:Int) (e f:Int) (g h i:Int) (b:Zj) (j:Bool) (c:Zp) (a:Zz):Option (Unit⊕Unit):=
 if((b.ID.Site==a.Site)&&((b.ID.Number==a.Number)&&true))!=false then some (.inl ())else some (.inr ())
theorem oky183_13 {k} (d) (x1 c:Int) (e f:Int) (h i j:Int) (m:Zj) (l:Bool) (b:Zp) (a:Zz):yldR (XD k (d+1)) 5 [.agg [i64 x1,i64 c,i64 e,i64 f,i64 h,i64 i,i64 j],.ip (Zj.g m)] [(5,.loop 22 [(3,.ref 1 0),(4,.ref 2 0),(5,.ref 3 0)] [13,14] q183_13a q183_13b false none),(3,.box [bv l]),(2,.box (Zp.g b)),(1,.box (Zz.g a))] 6=(Fy183_13 x1 c e f h i j m l b a).map (fun|.inl _=>((bv false,[(5,.loop 22 [(3,.ref 1 0),(4,.ref 2 0),(5,.ref 3 0)] [13,14] q183_13a q183_13b false (some .ret)),(3,.box [bv true]),(2,.box [i64 x1,i64 c,i64 e,i64 f,i64 h,i64 i,i64 j]),(1,.box (Zz.g a))],0))|.inr _=>((bv true,[(5,.loop 22 [(3,.ref 1 0),(4,.ref 2 0),(5,.ref 3 0)] [13,14] q183_13a q183_13b false none),(3,.box [bv l]),(2,.box (Zp.g b)),(1,.box (Zz.g a))],0))):=by
 rw[yd]
 refine bz (okg fP) ?_
 refine io (lf rfl) (lf rfl)
end Go.P
namespace Go.P
open Go.Sim (Ex OpK CK)
open K (I Q rq nq xq ck)
def Fy183_13_2 (x1 d:Int) (e f:Int) (g h i:Int) (b:Zf) (j:Bool) (c:Zp) (a:Zz):Option (Unit⊕Unit):=
 if((b.ID.Site==a.Site)&&((b.ID.Number==a.Number)&&true))!=false then some (.inl ())else some (.inr ())
theorem oky183_13_2 {k} (d) (x1 c:Int) (e f:Int) (h i j:Int) (m:Zf) (l:Bool) (b:Zp) (a:Zz):yldR (XD k (d+1)) 5 [.agg [i64 x1,i64 c,i64 e,i64 f,i64 h,i64 i,i64 j],.ip (Zf.g m)] [(5,.loop 22 [(3,.ref 1 0),(4,.ref 2 0),(5,.ref 3 0)] [13,14] q183_13a q183_13b false none),(3,.box [bv l]),(2,.box (Zp.g b)),(1,.box (Zz.g a))] 6=(Fy183_13_2 x1 c e f h i j m l b a).map (fun|.inl _=>((bv false,[(5,.loop 22 [(3,.ref 1 0),(4,.ref 2 0),(5,.ref 3 0)] [13,14] q183_13a q183_13b false (some .ret)),(3,.box [bv true]),(2,.box [i64 x1,i64 c,i64 e,i64 f,i64 h,i64 i,i64 j]),(1,.box (Zz.g a))],0))|.inr _=>((bv true,[(5,.loop 22 [(3,.ref 1 0),(4,.ref 2 0),(5,.ref 3 0)] [13,14] q183_13a q183_13b false none),(3,.box [bv l]),(2,.box (Zp.g b)),(1,.box (Zz.g a))],0))):=by
 rw[yd]
 refine bz (okg fP) ?_
 refine io (lf rfl) (lf rfl)
def Fy183_13_3 (x1 d:Int) (e f:Int) (g h i:Int) (b:Zm) (j:Bool) (c:Zp) (a:Zz):Option (Unit⊕Unit):=
 if((b.ID.Site==a.Site)&&((b.ID.Number==a.Number)&&true))!=false then some (.inl ())else some (.inr ())
theorem oky183_13_3 {k} (d) (x1 c:Int) (e f:Int) (h i j:Int) (m:Zm) (l:Bool) (b:Zp) (a:Zz):yldR (XD k (d+1)) 5 [.agg [i64 x1,i64 c,i64 e,i64 f,i64 h,i64 i,i64 j],.ip (Zm.g m)] [(5,.loop 22 [(3,.ref 1 0),(4,.ref 2 0),(5,.ref 3 0)] [13,14] q183_13a q183_13b false none),(3,.box [bv l]),(2,.box (Zp.g b)),(1,.box (Zz.g a))] 6=(Fy183_13_3 x1 c e f h i j m l b a).map (fun|.inl _=>((bv false,[(5,.loop 22 [(3,.ref 1 0),(4,.ref 2 0),(5,.ref 3 0)] [13,14] q183_13a q183_13b false (some .ret)),(3,.box [bv true]),(2,.box [i64 x1,i64 c,i64 e,i64 f,i64 h,i64 i,i64 j]),(1,.box (Zz.g a))],0))|.inr _=>((bv true,[(5,.loop 22 [(3,.ref 1 0),(4,.ref 2 0),(5,.ref 3 0)] [13,14] q183_13a q183_13b false none),(3,.box [bv l]),(2,.box (Zp.g b)),(1,.box (Zz.g a))],0))):=by
 rw[yd]
 refine bz (okg fP) ?_
 refine io (lf rfl) (lf rfl)
def Fy183_13_4 (x1 d:Int) (e f:Int) (g h i:Int) (b:Ze) (j:Bool) (c:Zp) (a:Zz):Option (Unit⊕Unit):=
 if((b.ID.Site==a.Site)&&((b.ID.Number==a.Number)&&true))!=false then some (.inl ())else some (.inr ())
theorem oky183_13_4 {k} (d) (x1 c:Int) (e f:Int) (h i j:Int) (m:Ze) (l:Bool) (b:Zp) (a:Zz):yldR (XD k (d+1)) 5 [.agg [i64 x1,i64 c,i64 e,i64 f,i64 h,i64 i,i64 j],.ip (Ze.g m)] [(5,.loop 22 [(3,.ref 1 0),(4,.ref 2 0),(5,.ref 3 0)] [13,14] q183_13a q183_13b false none),(3,.box [bv l]),(2,.box (Zp.g b)),(1,.box (Zz.g a))] 6=(Fy183_13_4 x1 c e f h i j m l b a).map (fun|.inl _=>((bv false,[(5,.loop 22 [(3,.ref 1 0),(4,.ref 2 0),(5,.ref 3 0)] [13,14] q183_13a q183_13b false (some .ret)),(3,.box [bv true]),(2,.box [i64 x1,i64 c,i64 e,i64 f,i64 h,i64 i,i64 j]),(1,.box (Zz.g a))],0))|.inr _=>((bv true,[(5,.loop 22 [(3,.ref 1 0),(4,.ref 2 0),(5,.ref 3 0)] [13,14] q183_13a q183_13b false none),(3,.box [bv l]),(2,.box (Zp.g b)),(1,.box (Zz.g a))],0))):=by
 rw[yd]
 refine bz (okg fP) ?_
 refine io (lf rfl) (lf rfl)
def Fy183_13_5 (x1 d:Int) (e f:Int) (g h i:Int) (b:Zn) (j:Bool) (c:Zp) (a:Zz):Option (Unit⊕Unit):=
 if((b.ID.Site==a.Site)&&((b.ID.Number==a.Number)&&true))!=false then some (.inl ())else some (.inr ())
theorem oky183_13_5 {k} (d) (x1 c:Int) (e f:Int) (h i j:Int) (m:Zn) (l:Bool) (b:Zp) (a:Zz):yldR (XD k (d+1)) 5 [.agg [i64 x1,i64 c,i64 e,i64 f,i64 h,i64 i,i64 j],.ip (Zn.g m)] [(5,.loop 22 [(3,.ref 1 0),(4,.ref 2 0),(5,.ref 3 0)] [13,14] q183_13a q183_13b false none),(3,.box [bv l]),(2,.box (Zp.g b)),(1,.box (Zz.g a))] 6=(Fy183_13_5 x1 c e f h i j m l b a).map (fun|.inl _=>((bv false,[(5,.loop 22 [(3,.ref 1 0),(4,.ref 2 0),(5,.ref 3 0)] [13,14] q183_13a q183_13b false (some .ret)),(3,.box [bv true]),(2,.box [i64 x1,i64 c,i64 e,i64 f,i64 h,i64 i,i64 j]),(1,.box (Zz.g a))],0))|.inr _=>((bv true,[(5,.loop 22 [(3,.ref 1 0),(4,.ref 2 0),(5,.ref 3 0)] [13,14] q183_13a q183_13b false none),(3,.box [bv l]),(2,.box (Zp.g b)),(1,.box (Zz.g a))],0))):=by
 rw[yd]
 refine bz (okg fP) ?_
 refine io (lf rfl) (lf rfl)
def Fn164_2 (x1:Z0) (u:Bool) (D:Zp) (F:Zz):Option (Zp⊕Unit):=
 (aO (E:=(Int×Int×Int)⊕Unit) (fun(⟨G,f⟩:Int×Int)=>if decide (f<(x1.Parts.length:Int))then(lget x1.Parts f).bind fun H=>(Fy183_13 1 f 0 0 0 0 0 H u D F).bind fun J=>(match J with|.inl _=>some (.inr (.inl (1,f,0)))|.inr _=>(lget x1.Parts f).bind fun K=>(aO (E:=(Int×Int)⊕Int) (fun(⟨g,h⟩:Int×Int)=>if decide (h<(K.Staves.length:Int))then(lget x1.Parts f).bind fun L=>(lget L.Staves h).bind fun M=>(Fy183_13_2 2 0 g 0 0 0 0 M u D F).bind fun N=>(match N with|.inl _=>some (.inr (.inl (g,g)))|.inr _=>some (.inl ((w64 (g+1)),(w64 (h+1)))))else some (.inr (.inr g))) B64 (G,0)).bind fun O=>(match O with|.inl ⟨x33,x34⟩=>some (.inr (.inl (2,0,x34)))|.inr x35=>some (.inl (x35,(w64 (f+1))))))else some (.inr (.inr ()))) B64 (0,0)).bind fun P=>(match P with|.inl ⟨x37,x38,x39⟩=>some (.inl (Zp.mk x37 x38 x39 0 0 0 0))|.inr _=>(aO (E:=(Int×Int×Int×Int×Int)⊕Unit) (fun(a:Int)=>if decide (a<(x1.Measures.length:Int))then(lget x1.Measures a).bind fun i=>(Fy183_13_3 3 0 0 a 0 0 0 i u D F).bind fun j=>(match j with|.inl _=>some (.inr (.inl (3,0,a,0,0)))|.inr _=>(lget x1.Measures a).bind fun k=>(aO (E:=(Int×Int×Int)⊕Unit) (fun(b:Int)=>if decide (b<(k.Cells.length:Int))then(lget x1.Measures a).bind fun l=>(lget l.Cells b).bind fun m=>(aO (E:=(Int×Int)⊕Unit) (fun(c:Int)=>if decide (c<(m.Voices.length:Int))then(lget x1.Measures a).bind fun n=>(lget n.Cells b).bind fun o=>(lget o.Voices c).bind fun p=>(aO (E:=Int⊕Unit) (fun(d:Int)=>if decide (d<(p.Events.length:Int))then(lget x1.Measures a).bind fun q=>(lget q.Cells b).bind fun r=>(lget r.Voices c).bind fun s=>(lget s.Events d).bind fun t=>(Fy183_13_4 4 0 b a c d 0 t u D F).bind fun v=>(match v with|.inl _=>some (.inr (.inl d))|.inr _=>some (.inl (w64 (d+1))))else some (.inr (.inr ()))) B64 0).bind fun w=>(match w with|.inl x201=>some (.inr (.inl (c,x201)))|.inr _=>some (.inl (w64 (c+1))))else some (.inr (.inr ()))) B64 0).bind fun x=>(match x with|.inl ⟨x203,x204⟩=>some (.inr (.inl (b,x203,x204)))|.inr _=>some (.inl (w64 (b+1))))else some (.inr (.inr ()))) B64 0).bind fun y=>(match y with|.inl ⟨x206,x207,x208⟩=>some (.inr (.inl (4,x206,a,x207,x208)))|.inr _=>some (.inl (w64 (a+1)))))else some (.inr (.inr ()))) B64 0).bind fun z=>(match z with|.inl ⟨x210,x211,x212,x213,x214⟩=>some (.inl (Zp.mk x210 0 x211 x212 x213 x214 0))|.inr _=>(aO (E:=Int⊕Unit) (fun(e:Int)=>if decide (e<(x1.Spanners.length:Int))then(lget x1.Spanners e).bind fun A=>(Fy183_13_5 5 0 0 0 0 0 e A u D F).bind fun B=>(match B with|.inl _=>some (.inr (.inl e))|.inr _=>some (.inl (w64 (e+1))))else some (.inr (.inr ()))) B64 0).bind fun C=>(match C with|.inl x221=>some (.inl (Zp.mk 5 0 0 0 0 0 x221))|.inr _=>some (.inr ()))))
theorem okn164_2 {k} (d) (x1:Z0) (h:Bool) (i:Zp) (c:Zz):runR (XD k (d+2)) 164 [.yld 5,.ref 4 0] [(5,.loop 22 [(3,.ref 1 0),(4,.ref 2 0),(5,.ref 3 0)] [13,14] q183_13a q183_13b false none),(4,.box [.ref 0 0]),(0,.box (Z0.g x1)),(3,.box [bv h]),(2,.box (Zp.g i)),(1,.box (Zz.g c))] 6 false=(Fn164_2 x1 h i c).map (fun|.inl x223=>((.tup [],[(5,.loop 22 [(3,.ref 1 0),(4,.ref 2 0),(5,.ref 3 0)] [13,14] q183_13a q183_13b false (some .ret)),(4,.box [.ref 0 0]),(0,.box (Z0.g x1)),(3,.box [bv true]),(2,.box (Zp.g x223)),(1,.box (Zz.g c))],0))|.inr _=>((.tup [],[(5,.loop 22 [(3,.ref 1 0),(4,.ref 2 0),(5,.ref 3 0)] [13,14] q183_13a q183_13b false none),(4,.box [.ref 0 0]),(0,.box (Z0.g x1)),(3,.box [bv h]),(2,.box (Zp.g i)),(1,.box (Zz.g c))],0))):=by
 rw[xd (fn:=p164) rfl]
 refine bz lm ?_
 refine bo (aI (S:=Int×Int) (enc:=fun⟨A,j⟩=>(Q [(0,.yld 5),(1,.ref 4 0),(3,i64 A),(15,i64 (x1.Parts.length:Int)),(16,i64 j)] [(5,.loop 22 [(3,.ref 1 0),(4,.ref 2 0),(5,.ref 3 0)] [13,14] q183_13a q183_13b false none),(4,.box [.ref 0 0]),(0,.box (Z0.g x1)),(3,.box [bv h]),(2,.box (Zp.g i)),(1,.box (Zz.g c))])) (encE:=(fun|.inl ⟨U,V,W⟩=>(rq [(0,.yld 5),(1,.ref 4 0)] [(5,.loop 22 [(3,.ref 1 0),(4,.ref 2 0),(5,.ref 3 0)] [13,14] q183_13a q183_13b false (some .ret)),(4,.box [.ref 0 0]),(0,.box (Z0.g x1)),(3,.box [bv true]),(2,.box [i64 U,i64 V,i64 W,i64 0,i64 0,i64 0,i64 0]),(1,.box (Zz.g c))])|.inr _=>(xq 0 [(0,.yld 5),(1,.ref 4 0)] [(5,.loop 22 [(3,.ref 1 0),(4,.ref 2 0),(5,.ref 3 0)] [13,14] q183_13a q183_13b false none),(4,.box [.ref 0 0]),(0,.box (Z0.g x1)),(3,.box [bv h]),(2,.box (Zp.g i)),(1,.box (Zz.g c))]))) (fun⟨A,j⟩=>?_) B64 (0,0)) fun b5=>?_
 refine io ?_ (lf rfl)
 refine bo rg fun X=>?_
 refine bo (oky183_13 d 1 j 0 0 0 0 0 X h i c) fun Y=>?_
 rcases Y with _|_
 exact lf rfl
 refine bo rg fun Z=>?_
 refine bz lm ?_
 refine bo (aI (S:=Int×Int) (enc:=fun⟨B,P⟩=>(Q [(0,.yld 5),(1,.ref 4 0),(3,i64 B),(4,i64 j),(15,i64 (x1.Parts.length:Int)),(16,i64 j),(39,i64 (Z.Staves.length:Int)),(40,i64 P)] [(5,.loop 22 [(3,.ref 1 0),(4,.ref 2 0),(5,.ref 3 0)] [13,14] q183_13a q183_13b false none),(3,.box [bv h]),(2,.box (Zp.g i)),(1,.box (Zz.g c)),(4,.box [.ref 0 0]),(0,.box (Z0.g x1))])) (encE:=(fun|.inl ⟨R,T⟩=>(rq [(0,.yld 5),(1,.ref 4 0),(3,i64 R),(15,i64 (x1.Parts.length:Int)),(16,i64 j)] [(5,.loop 22 [(3,.ref 1 0),(4,.ref 2 0),(5,.ref 3 0)] [13,14] q183_13a q183_13b false (some .ret)),(3,.box [bv true]),(2,.box [i64 2,i64 0,i64 T,i64 0,i64 0,i64 0,i64 0]),(1,.box (Zz.g c)),(4,.box [.ref 0 0]),(0,.box (Z0.g x1))])|.inr x35=>(xq 2 [(0,.yld 5),(1,.ref 4 0),(3,i64 x35),(15,i64 (x1.Parts.length:Int)),(16,i64 j)] [(5,.loop 22 [(3,.ref 1 0),(4,.ref 2 0),(5,.ref 3 0)] [13,14] q183_13a q183_13b false none),(3,.box [bv h]),(2,.box (Zp.g i)),(1,.box (Zz.g c)),(4,.box [.ref 0 0]),(0,.box (Z0.g x1))]))) (fun⟨B,P⟩=>?_) B64 (A,0)) fun b4=>?_
 refine io ?_ (lf rfl)
 refine bo rg fun d2=>?_
 refine bo rg fun a0=>?_
 refine bo (oky183_13_2 d 2 0 B 0 0 0 0 a0 h i c) fun b0=>?_
 rcases b0 with _|_
 exact lf rfl
 exact lf rfl
 rcases b4 with⟨R,T⟩|x35
 exact lf rfl
 exact lf rfl
 rcases b5 with⟨U,V,W⟩|_
 exact lf rfl
 refine bz lm ?_
 refine bo (aI (S:=Int) (enc:=fun a=>(Q [(0,.yld 5),(1,.ref 4 0),(67,i64 (x1.Measures.length:Int)),(68,i64 a)] [(5,.loop 22 [(3,.ref 1 0),(4,.ref 2 0),(5,.ref 3 0)] [13,14] q183_13a q183_13b false none),(4,.box [.ref 0 0]),(0,.box (Z0.g x1)),(3,.box [bv h]),(2,.box (Zp.g i)),(1,.box (Zz.g c))])) (encE:=(fun|.inl ⟨u,v,w,x,y⟩=>(rq [(0,.yld 5),(1,.ref 4 0)] [(5,.loop 22 [(3,.ref 1 0),(4,.ref 2 0),(5,.ref 3 0)] [13,14] q183_13a q183_13b false (some .ret)),(4,.box [.ref 0 0]),(0,.box (Z0.g x1)),(3,.box [bv true]),(2,.box [i64 u,i64 0,i64 v,i64 w,i64 x,i64 y,i64 0]),(1,.box (Zz.g c))])|.inr _=>(xq 4 [(0,.yld 5),(1,.ref 4 0)] [(5,.loop 22 [(3,.ref 1 0),(4,.ref 2 0),(5,.ref 3 0)] [13,14] q183_13a q183_13b false none),(4,.box [.ref 0 0]),(0,.box (Z0.g x1)),(3,.box [bv h]),(2,.box (Zp.g i)),(1,.box (Zz.g c))]))) (fun a=>?_) B64 0) fun L=>?_
 refine io ?_ (lf rfl)
 refine bo rg fun C=>?_
 refine bo (oky183_13_3 d 3 0 0 a 0 0 0 C h i c) fun D=>?_
 rcases D with _|_
 exact lf rfl
 refine bo rg fun f=>?_
 refine bz lm ?_
 refine bo (aI (S:=Int) (enc:=fun b=>(Q [(0,.yld 5),(1,.ref 4 0),(6,i64 a),(67,i64 (x1.Measures.length:Int)),(68,i64 a),(91,i64 (f.Cells.length:Int)),(92,i64 b)] [(5,.loop 22 [(3,.ref 1 0),(4,.ref 2 0),(5,.ref 3 0)] [13,14] q183_13a q183_13b false none),(3,.box [bv h]),(2,.box (Zp.g i)),(1,.box (Zz.g c)),(4,.box [.ref 0 0]),(0,.box (Z0.g x1))])) (encE:=(fun|.inl ⟨r,s,t⟩=>(rq [(0,.yld 5),(1,.ref 4 0),(67,i64 (x1.Measures.length:Int)),(68,i64 a)] [(5,.loop 22 [(3,.ref 1 0),(4,.ref 2 0),(5,.ref 3 0)] [13,14] q183_13a q183_13b false (some .ret)),(3,.box [bv true]),(2,.box [i64 4,i64 0,i64 r,i64 a,i64 s,i64 t,i64 0]),(1,.box (Zz.g c)),(4,.box [.ref 0 0]),(0,.box (Z0.g x1))])|.inr _=>(xq 6 [(0,.yld 5),(1,.ref 4 0),(67,i64 (x1.Measures.length:Int)),(68,i64 a)] [(5,.loop 22 [(3,.ref 1 0),(4,.ref 2 0),(5,.ref 3 0)] [13,14] q183_13a q183_13b false none),(3,.box [bv h]),(2,.box (Zp.g i)),(1,.box (Zz.g c)),(4,.box [.ref 0 0]),(0,.box (Z0.g x1))]))) (fun b=>?_) B64 0) fun K=>?_
 refine io ?_ (lf rfl)
 refine bo rg fun b6=>?_
 refine bo rg fun l=>?_
 refine bz lm ?_
 refine bo (aI (S:=Int) (enc:=fun e=>(Q [(0,.yld 5),(1,.ref 4 0),(6,i64 a),(7,i64 b),(67,i64 (x1.Measures.length:Int)),(68,i64 a),(91,i64 (f.Cells.length:Int)),(92,i64 b),(107,i64 (l.Voices.length:Int)),(108,i64 e)] [(5,.loop 22 [(3,.ref 1 0),(4,.ref 2 0),(5,.ref 3 0)] [13,14] q183_13a q183_13b false none),(3,.box [bv h]),(2,.box (Zp.g i)),(1,.box (Zz.g c)),(4,.box [.ref 0 0]),(0,.box (Z0.g x1))])) (encE:=(fun|.inl ⟨p,q⟩=>(rq [(0,.yld 5),(1,.ref 4 0),(6,i64 a),(67,i64 (x1.Measures.length:Int)),(68,i64 a),(91,i64 (f.Cells.length:Int)),(92,i64 b)] [(5,.loop 22 [(3,.ref 1 0),(4,.ref 2 0),(5,.ref 3 0)] [13,14] q183_13a q183_13b false (some .ret)),(3,.box [bv true]),(2,.box [i64 4,i64 0,i64 b,i64 a,i64 p,i64 q,i64 0]),(1,.box (Zz.g c)),(4,.box [.ref 0 0]),(0,.box (Z0.g x1))])|.inr _=>(xq 8 [(0,.yld 5),(1,.ref 4 0),(6,i64 a),(67,i64 (x1.Measures.length:Int)),(68,i64 a),(91,i64 (f.Cells.length:Int)),(92,i64 b)] [(5,.loop 22 [(3,.ref 1 0),(4,.ref 2 0),(5,.ref 3 0)] [13,14] q183_13a q183_13b false none),(3,.box [bv h]),(2,.box (Zp.g i)),(1,.box (Zz.g c)),(4,.box [.ref 0 0]),(0,.box (Z0.g x1))]))) (fun e=>?_) B64 0) fun J=>?_
 refine io ?_ (lf rfl)
 refine bo rg fun b7=>?_
 refine bo rg fun b8=>?_
 refine bo rg fun E=>?_
 refine bz lm ?_
 refine bo (aI (S:=Int) (enc:=fun m=>(Q [(0,.yld 5),(1,.ref 4 0),(6,i64 a),(7,i64 b),(8,i64 e),(67,i64 (x1.Measures.length:Int)),(68,i64 a),(91,i64 (f.Cells.length:Int)),(92,i64 b),(107,i64 (l.Voices.length:Int)),(108,i64 e),(127,i64 (E.Events.length:Int)),(128,i64 m)] [(5,.loop 22 [(3,.ref 1 0),(4,.ref 2 0),(5,.ref 3 0)] [13,14] q183_13a q183_13b false none),(3,.box [bv h]),(2,.box (Zp.g i)),(1,.box (Zz.g c)),(4,.box [.ref 0 0]),(0,.box (Z0.g x1))])) (encE:=(fun|.inl o=>(rq [(0,.yld 5),(1,.ref 4 0),(6,i64 a),(7,i64 b),(67,i64 (x1.Measures.length:Int)),(68,i64 a),(91,i64 (f.Cells.length:Int)),(92,i64 b),(107,i64 (l.Voices.length:Int)),(108,i64 e)] [(5,.loop 22 [(3,.ref 1 0),(4,.ref 2 0),(5,.ref 3 0)] [13,14] q183_13a q183_13b false (some .ret)),(3,.box [bv true]),(2,.box [i64 4,i64 0,i64 b,i64 a,i64 e,i64 o,i64 0]),(1,.box (Zz.g c)),(4,.box [.ref 0 0]),(0,.box (Z0.g x1))])|.inr _=>(xq 10 [(0,.yld 5),(1,.ref 4 0),(6,i64 a),(7,i64 b),(67,i64 (x1.Measures.length:Int)),(68,i64 a),(91,i64 (f.Cells.length:Int)),(92,i64 b),(107,i64 (l.Voices.length:Int)),(108,i64 e)] [(5,.loop 22 [(3,.ref 1 0),(4,.ref 2 0),(5,.ref 3 0)] [13,14] q183_13a q183_13b false none),(3,.box [bv h]),(2,.box (Zp.g i)),(1,.box (Zz.g c)),(4,.box [.ref 0 0]),(0,.box (Z0.g x1))]))) (fun m=>?_) B64 0) fun H=>?_
 refine io ?_ (lf rfl)
 refine bo rg fun b9=>?_
 refine bo rg fun d0=>?_
 refine bo rg fun d1=>?_
 refine bo rg fun F=>?_
 refine bo (oky183_13_4 d 4 0 b a e m 0 F h i c) fun G=>?_
 rcases G with _|_
 exact lf rfl
 exact lf rfl
 rcases H with o|_
 exact lf rfl
 exact lf rfl
 rcases J with⟨p,q⟩|_
 exact lf rfl
 exact lf rfl
 rcases K with⟨r,s,t⟩|_
 exact lf rfl
 exact lf rfl
 rcases L with⟨u,v,w,x,y⟩|_
 exact lf rfl
 refine bz lm ?_
 refine bo (aI (S:=Int) (enc:=fun n=>(Q [(0,.yld 5),(1,.ref 4 0),(166,i64 (x1.Spanners.length:Int)),(167,i64 n)] [(5,.loop 22 [(3,.ref 1 0),(4,.ref 2 0),(5,.ref 3 0)] [13,14] q183_13a q183_13b false none),(4,.box [.ref 0 0]),(0,.box (Z0.g x1)),(3,.box [bv h]),(2,.box (Zp.g i)),(1,.box (Zz.g c))])) (encE:=(fun|.inl z=>(rq [] [(5,.loop 22 [(3,.ref 1 0),(4,.ref 2 0),(5,.ref 3 0)] [13,14] q183_13a q183_13b false (some .ret)),(4,.box [.ref 0 0]),(0,.box (Z0.g x1)),(3,.box [bv true]),(2,.box [i64 5,i64 0,i64 0,i64 0,i64 0,i64 0,i64 z]),(1,.box (Zz.g c))])|.inr _=>(xq 12 [] [(5,.loop 22 [(3,.ref 1 0),(4,.ref 2 0),(5,.ref 3 0)] [13,14] q183_13a q183_13b false none),(4,.box [.ref 0 0]),(0,.box (Z0.g x1)),(3,.box [bv h]),(2,.box (Zp.g i)),(1,.box (Zz.g c))]))) (fun n=>?_) B64 0) fun O=>?_
 refine io ?_ (lf rfl)
 refine bo rg fun M=>?_
 refine bo (oky183_13_5 d 5 0 0 0 0 0 n M h i c) fun N=>?_
 rcases N with _|_
 exact lf rfl
 exact lf rfl
 rcases O with z|_
 exact lf rfl
 exact lf rfl
def F183 (x1:Z0) (a:Zz):Option (Zp×Bool):=
 if((a.Site==0)&&((a.Number==0)&&true))!=false then some ((Zp.mk 0 0 0 0 0 0 0),false)else(Fn113_2 x1).bind fun _=>(Fn164_2 x1 false (Zp.mk 0 0 0 0 0 0 0) a).bind fun b=>(match b with|.inl x3=>some (x3,true)|.inr _=>some ((Zp.mk 0 0 0 0 0 0 0),false))
theorem ok183 {k} (d) (x1:Z0) (a:Zz):OD k (d+3) 183 [.agg (Z0.g x1),.agg (Zz.g a)]=(F183 x1 a).map (fun⟨c,e⟩=>.tup [.agg (Zp.g c),bv e]):=by
 rw[od (fn:=p183) rfl rfl rfl]
 refine io (lf rfl) ?_
 refine bo (okn113_2 (d+1) x1) fun _=>?_
 refine bo (okn164_2 d x1 false (Zp.mk 0 0 0 0 0 0 0) a) fun b=>?_
 rcases b with f|_
 exact lf rfl
 exact lf rfl
def F202 (x1:List Int):Option (List Int):=
 (tJ (x1.length:Int) (x1.length:Int) 0).bind fun j=>(aO (E:=List Int) (fun(⟨b,a⟩:Int×(List Int))=>if decide (b<(x1.length:Int))then(lidx a (w64 (b-1))).bind fun c=>(lnth a c).bind fun d=>(lget x1 (w64 (b-1))).bind fun e=>(lidx a b).bind fun f=>(lput a f (fun i=>(w64 (d+e)))).bind fun g=>some (.inl ((w64 (b+1)),g))else some (.inr a)) B64 (1,j)).bind fun h=>some h
theorem ok202 {k} (d) (x1:List Int):OD k (d+1) 202 [.is 1 (I cI x1)]=(F202 x1).map (fun q=>.is 1 (I cI q)):=by
 rw[od (fn:=p202) rfl rfl rfl]
 refine bz lm ?_
 refine bo (eU cI _ _ 0) fun p=>?_
 refine bo (aI (S:=Int×(List Int)) (enc:=fun⟨i,a⟩=>(Q [(0,.is 1 (I cI x1)),(3,.own 0),(4,i64 i)] [(0,.lst 3 1 true (I cI a))])) (encE:=(fun(e:List Int)=>(xq 0 [(3,.own 0)] [(0,.lst 3 1 true (I cI e))]))) (fun⟨i,a⟩=>?_) B64 (1,p)) fun e=>?_
 refine bz lm ?_
 refine io ?_ (lf rfl)
 refine bo (aW cI a _) fun j=>?_
 refine bo (bD (A:=Int) (c:=cI) (g:=fun b=>i64 b) (fun _=>rfl) a _) fun b=>?_
 refine bo rg fun h=>?_
 refine bo (aW cI a _) fun l=>?_
 refine bo (tG (A:=Int) (c:=cI) (m:=1) (f:=fun n=>(w64 (b+h))) (fun _=>⟨rfl,rfl⟩) (Nat.le_of_ble_eq_true rfl) a _) fun o=>?_
 exact lf rfl
 exact lf rfl
def F184 (x1:Zo) (b:Int):Option ((List Int)×Int):=
 (F171 x1 b).bind fun⟨c,a⟩=>if a !=0 then some ([],a)else(F202 c).bind fun d=>some (d,0)
theorem ok184 {k} (d) (x1:Zo) (a:Int):OD k (d+14) 184 [.agg (Zo.g x1),i64 a]=(F184 x1 a).map (fun⟨c,e⟩=>.tup [.is 1 (I cI c),i64 e]):=by
 rw[od (fn:=p184) rfl rfl rfl]
 refine bo (ok171 d x1 a) fun⟨b,f⟩=>?_
 refine io (lf rfl) ?_
 refine bo (ok202 (d+12) b) fun h=>?_
 exact lf rfl
def F142 (x1:Zk) (f:Zz):Option (Zq×Bool):=
 (F183 x1.s' f).bind fun⟨a,g⟩=>if(!g)||(a.Kind !=4)then some ((Zq.mk 0 0 0 0),false)else(lget x1.s'.Measures a.Measure).bind fun d=>(F68 d).bind fun⟨h,k⟩=>(lget d.Cells a.Staff).bind fun i=>(lget i.Voices a.Voice).bind fun j=>(F184 j h).bind fun⟨b,e⟩=>if decide (a.Event>=(b.length:Int))then some ((Zq.mk 0 0 0 0),false)else(lget b a.Event).bind fun c=>some ((Zq.mk a.Measure c a.Staff a.Voice),true)
theorem ok142 {k} (d) (x1:Zk) (a:Zz):OD k (d+15) 142 [.ip (Zk.g x1),.agg (Zz.g a)]=(F142 x1 a).map (fun⟨j,l⟩=>.tup [.agg (Zq.g j),bv l]):=by
 rw[od (fn:=p142) rfl rfl rfl]
 refine bo (ok183 (d+11) x1.s' a) fun⟨m,n⟩=>?_
 refine bz (gor rfl) ?_
 refine io (lf rfl) ?_
 refine bo rg fun f=>?_
 refine bo (ok68 (d+10) f) fun⟨h,o⟩=>?_
 refine bo rg fun p=>?_
 refine bo rg fun i=>?_
 refine bo (ok184 d i h) fun⟨b,c⟩=>?_
 refine bz lm ?_
 refine io (lf rfl) ?_
 refine bo rg fun e=>?_
 exact lf rfl
def F203 (x1 a:Int):Option Bool:=
 some ((decide (x1>=0))&&(decide (x1<=a)))
theorem ok203 {k} (d) (x1 a:Int):OD k (d+1) 203 [i64 x1,i64 a]=(F203 x1 a).map (fun b=>bv b):=by
 rw[od (fn:=p203) rfl rfl rfl]
 refine bz (gand rfl) ?_
 exact lf rfl
def F185 (x1:Zq):Option Bool:=
 (F203 x1.Measure 1023).bind fun a=>((if a then(F203 x1.At 4398046511104).bind fun b=>some b else some false:Option (Bool))).bind fun c=>((if c then(F203 x1.Staff 127).bind fun d=>some d else some false:Option (Bool))).bind fun e=>((if e then(F203 x1.Voice 1).bind fun f=>some f else some false:Option (Bool))).bind fun g=>some g
theorem ok185 {k} (d) (x1:Zq):OD k (d+2) 185 [.agg (Zq.g x1)]=(F185 x1).map (fun a=>bv a):=by
 rw[od (fn:=p185) rfl rfl rfl]
 refine bo (ok203 d x1.Measure 1023) fun b=>?_
 refine bo (e:=id) ?_ fun f=>?_
 refine io ?_ (lf rfl)
 refine bo (ok203 d x1.At 4398046511104) fun c=>?_
 exact lf rfl
 refine bo (e:=id) ?_ fun i=>?_
 refine io ?_ (lf rfl)
 refine bo (ok203 d x1.Staff 127) fun h=>?_
 exact lf rfl
 refine bo (e:=id) ?_ fun l=>?_
 refine io ?_ (lf rfl)
 refine bo (ok203 d x1.Voice 1) fun j=>?_
 exact lf rfl
 exact lf rfl
def F186 (x1:Int):Option Bool:=
 some ((x1==1)||(x1==7))
theorem ok186 {k} (d) (x1:Int):OD k (d+1) 186 [i64 x1]=(F186 x1).map (fun a=>bv a):=by
 rw[od (fn:=p186) rfl rfl rfl]
 refine bz (gor rfl) ?_
 exact lf rfl
def F213 (x1:Int):Option Bool:=
 some (x1 !=x1)
theorem ok213 {k} (d) (x1:Int):OD k (d+1) 213 [i64 x1]=(F213 x1).map (fun a=>bv a):=by
 rw[od (fn:=p213) rfl rfl rfl]
 exact lf rfl
def F205 (x1 a:Int):Option Int:=
 (F213 x1).bind fun c=>(F213 a).bind fun b=>if c then if b then some 0 else some (-1)else if b then some 1 else if decide (x1<a)then some (-1)else if decide (x1>a)then some 1 else some 0
theorem ok205 {k} (d) (x1 a:Int):OD k (d+2) 205 [i64 x1,i64 a]=(F205 x1 a).map (fun b=>i64 b):=by
 rw[od (fn:=p205) rfl rfl rfl]
 refine bo (ok213 d x1) fun c=>?_
 refine bo (ok213 d a) fun e=>?_
 refine io ?_ ?_
 refine io (lf rfl) (lf rfl)
 refine io (lf rfl) ?_
 refine io (lf rfl) ?_
 refine io (lf rfl) (lf rfl)
def F204 (x1:List Int):Option Int:=
 (aO (E:=Int⊕Unit) (fun(a:Int)=>if decide (a<(x1.length:Int))then(lget x1 a).bind fun b=>if b !=0 then some (.inr (.inl b))else some (.inl (w64 (a+1)))else some (.inr (.inr ()))) B64 0).bind fun c=>(match c with|.inl x5=>some x5|.inr _=>some 0)
theorem ok204 {k} (d) (x1:List Int):OD k (d+1) 204 [.is 1 (I cI x1)]=(F204 x1).map (fun e=>i64 e):=by
 rw[od (fn:=p204) rfl rfl rfl]
 refine bz lm ?_
 refine bo (aI (S:=Int) (enc:=fun a=>(Q [(3,i64 0),(6,.is 1 (I cI x1)),(7,i64 (x1.length:Int)),(8,i64 a)] [])) (encE:=(fun|.inl b=>(rq [(2,i64 b),(3,i64 0)] [])|.inr _=>(xq 0 [(3,i64 0)] []))) (fun a=>?_) B64 0) fun c=>?_
 refine io ?_ (lf rfl)
 refine bo rg fun f=>?_
 refine io (lf rfl) (lf rfl)
 rcases c with b|_
 exact lf rfl
 exact lf rfl
def F187 (x1 a:Zq):Option Int:=
 (F205 x1.Measure a.Measure).bind fun b=>(F205 x1.At a.At).bind fun c=>(F204 [b,c]).bind fun d=>some d
theorem ok187 {k} (d) (x1 a:Zq):OD k (d+3) 187 [.agg (Zq.g x1),.agg (Zq.g a)]=(F187 x1 a).map (fun e=>i64 e):=by
 rw[od (fn:=p187) rfl rfl rfl]
 refine bo (ok205 d x1.Measure a.Measure) fun b=>?_
 refine bo (ok205 d x1.At a.At) fun c=>?_
 refine bo (ok204 (d+1) [b,c]) fun f=>?_
 exact lf rfl
def F143 (x1:Zs):Option Int:=
 if(decide (x1.Kind<1))||(decide (x1.Kind>7))then some 11 else(F185 x1.From).bind fun a=>((if !a then some true else(F185 x1.To).bind fun b=>some (!b):Option (Bool))).bind fun c=>if c then some 2 else((if x1.From.Staff !=x1.To.Staff then some true else(F186 x1.Kind).bind fun d=>some (d&&(x1.From.Voice !=x1.To.Voice)):Option (Bool))).bind fun e=>if e then some 23 else(F187 x1.From x1.To).bind fun f=>if decide (f>=0)then some 25 else some 0
theorem ok143 {k} (d) (x1:Zs):OD k (d+4) 143 [.agg (Zs.g x1)]=(F143 x1).map (fun a=>i64 a):=by
 rw[od (fn:=p143) rfl rfl rfl]
 refine bz (gor rfl) ?_
 refine io (lf rfl) ?_
 refine bo (ok185 (d+1) x1.From) fun b=>?_
 refine bo (e:=id) ?_ fun f=>?_
 refine io (lf rfl) ?_
 refine bo (ok185 (d+1) x1.To) fun c=>?_
 exact lf rfl
 refine io (lf rfl) ?_
 refine bo (e:=id) ?_ fun i=>?_
 refine io (lf rfl) ?_
 refine bo (ok186 (d+2) x1.Kind) fun h=>?_
 refine bz (gand rfl) ?_
 exact lf rfl
 refine io (lf rfl) ?_
 refine bo (ok187 d x1.From x1.To) fun j=>?_
 refine io (lf rfl) (lf rfl)
def Fn90 (x1:List Zv) (g:Z0) (p:Int):Option ((List Bool)×(List Zs)):=
 (aO (E:=(List Bool)×(List Zs)) (fun(⟨b,c,d⟩:Int×(List Bool)×(List Zs))=>if decide (b<(g.Spanners.length:Int))then(lget g.Spanners b).bind fun a=>(F142 (Zk.mk g p x1) a.From).bind fun⟨e,h⟩=>(F142 (Zk.mk g p x1) a.To).bind fun⟨f,i⟩=>(lapp false d [(Zs.mk a.Kind e f)]).bind fun j=>((if(!h)||(!i)then some true else(F143 (Zs.mk a.Kind e f)).bind fun k=>some (k !=0):Option (Bool))).bind fun l=>(lapp false c [l]).bind fun m=>some (.inl ((w64 (b+1)),m,j))else some (.inr (c,d))) B64 (0,[],[])).bind fun⟨n,o⟩=>some (n,o)
theorem okn90 {k} (d) (x1:List Zv) (b:Z0) (h:Int):runR (XD k (d+16)) 90 [.ref 1 0] [(2,.lst 106 3 false (I Zv.g x1)),(1,.box (ck b h (.own 2)))] 3 true=(Fn90 x1 b h).map (fun(⟨p,q⟩:(List Bool)×(List Zs))=>((.tup [.own 3,.own 4],[(4,.lst 4 1 false (I cB p)),(3,.lst 161 9 false (I Zs.g q)),(2,.lst 106 3 false (I Zv.g x1)),(1,.box (ck b h (.own 2)))],5))):=by
 rw[xd (fn:=p90) rfl]
 refine bz lm ?_
 refine bo (aI (S:=Int×(List Bool)×(List Zs)) (enc:=fun⟨i,c,f⟩=>(Q [(0,.ref 1 0),(4,.own 3),(5,.own 4),(17,.is 7 (I Zn.g b.Spanners)),(18,i64 (b.Spanners.length:Int)),(19,i64 i)] [(4,.lst 4 1 false (I cB c)),(3,.lst 161 9 false (I Zs.g f)),(2,.lst 106 3 false (I Zv.g x1)),(1,.box (ck b h (.own 2)))])) (encE:=(fun(⟨m,n⟩:(List Bool)×(List Zs))=>(xq 0 [(4,.own 3),(5,.own 4)] [(4,.lst 4 1 false (I cB m)),(3,.lst 161 9 false (I Zs.g n)),(2,.lst 106 3 false (I Zv.g x1)),(1,.box (ck b h (.own 2)))]))) (fun⟨i,c,f⟩=>?_) B64 (0,[],[])) fun⟨m,n⟩=>?_
 refine io ?_ (lf rfl)
 refine bo rg fun a=>?_
 refine bo (ok142 d (Zk.mk b h x1) a.From) fun⟨j,r⟩=>?_
 refine bo (ok142 d (Zk.mk b h x1) a.To) fun⟨l,s⟩=>?_
 refine bo (bL false Zs.g f [(Zs.mk a.Kind j l)]) fun t=>?_
 refine bz (gor rfl) ?_
 refine bo (e:=id) ?_ fun o=>?_
 refine io (lf rfl) ?_
 refine bo (ok143 (d+11) (Zs.mk a.Kind j l)) fun u=>?_
 exact lf rfl
 refine bo (bL false cB c [o]) fun v=>?_
 exact lf rfl
 exact lf rfl
def Fn42 (x1:List Zv) (c:Z0) (i:Int):Option (List Zv):=
 (Fn90 x1 c i).bind fun⟨j,k⟩=>(aO (E:=List Zv) (fun(⟨a,b⟩:Int×(List Zv))=>if decide (a<(c.Spanners.length:Int))then(lget c.Spanners a).bind fun d=>(lidx j a).bind fun e=>(lnth j e).bind fun f=>(Fn58 f d.ID b c i).bind fun g=>some (.inl ((w64 (a+1)),g))else some (.inr b)) B64 (0,x1)).bind fun h=>some h
theorem okn42 {k} (d) (x1:List Zv) (a:Z0) (f:Int):runR (XD k (d+17)) 42 [.ref 1 0] [(2,.lst 106 3 false (I Zv.g x1)),(1,.box (ck a f (.own 2)))] 3 false=(Fn42 x1 a f).map (fun(m:List Zv)=>((.tup [],[(2,.lst 106 3 false (I Zv.g m)),(1,.box (ck a f (.own 2)))],0))):=by
 rw[xd (fn:=p42) rfl]
 refine bo (okn90 d x1 a f) fun⟨j,n⟩=>?_
 refine bz lm ?_
 refine bo (aI (S:=Int×(List Zv)) (enc:=fun⟨h,b⟩=>(Q [(0,.ref 1 0),(3,.own 4),(15,.is 7 (I Zn.g a.Spanners)),(16,i64 (a.Spanners.length:Int)),(17,i64 h)] [(4,.lst 4 1 false (I cB j)),(3,.lst 161 9 false (I Zs.g n)),(2,.lst 106 3 false (I Zv.g b)),(1,.box (ck a f (.own 2)))])) (encE:=(fun(i:List Zv)=>(xq 0 [] [(4,.lst 4 1 false (I cB j)),(3,.lst 161 9 false (I Zs.g n)),(2,.lst 106 3 false (I Zv.g i)),(1,.box (ck a f (.own 2)))]))) (fun⟨h,b⟩=>?_) B64 (0,x1)) fun i=>?_
 refine io ?_ (lf rfl)
 refine bo rg fun l=>?_
 refine bo (aW cB j _) fun o=>?_
 refine bo (bD (A:=Bool) (c:=cB) (g:=fun e=>bv e) (fun _=>rfl) j _) fun e=>?_
 refine bo (okn58 (d+15) e l.ID b a f) fun p=>?_
 exact lf rfl
 exact lf rfl
def F188 (x1:Int):Option Int:=
 if(decide (x1<1))||(decide (x1>7))then some 0 else(lget [1,2,2,4,4,6,7] (w64 (x1-1))).bind fun a=>some a
theorem ok188 {k} (d) (x1:Int):OD k (d+1) 188 [i64 x1]=(F188 x1).map (fun a=>i64 a):=by
 rw[od (fn:=p188) rfl rfl rfl]
 refine bz (gor rfl) ?_
 refine io (lf rfl) ?_
 refine bo (kP .i64 [1,2,2,4,4,6,7] (w64 (x1-1)) rfl) fun b=>?_
 exact lf rfl
def F144 (x1 a:Zs):Option Bool:=
 (F188 x1.Kind).bind fun b=>((if decide (b>0)then(F188 x1.Kind).bind fun c=>(F188 a.Kind).bind fun d=>some (c==d)else some false:Option (Bool))).bind fun e=>((if e&&(x1.From.Staff==a.From.Staff)then(F186 x1.Kind).bind fun f=>some ((!f)||(x1.From.Voice==a.From.Voice))else some false:Option (Bool))).bind fun g=>some g
theorem ok144 {k} (d) (x1 a:Zs):OD k (d+2) 144 [.agg (Zs.g x1),.agg (Zs.g a)]=(F144 x1 a).map (fun b=>bv b):=by
 rw[od (fn:=p144) rfl rfl rfl]
 refine bo (ok188 d x1.Kind) fun c=>?_
 refine bo (e:=id) ?_ fun i=>?_
 refine io ?_ (lf rfl)
 refine bo (ok188 d x1.Kind) fun f=>?_
 refine bo (ok188 d a.Kind) fun h=>?_
 exact lf rfl
 refine bz (gand rfl) ?_
 refine bo (e:=id) ?_ fun l=>?_
 refine io ?_ (lf rfl)
 refine bo (ok186 d x1.Kind) fun j=>?_
 refine bz (gor rfl) ?_
 exact lf rfl
 exact lf rfl
def F148 (x1 a:Zs):Option Bool:=
 (F187 x1.To a.From).bind fun b=>((if decide (b<0)then some true else(F187 a.To x1.From).bind fun c=>some (decide (c<0)):Option (Bool))).bind fun d=>some d
theorem ok148 {k} (d) (x1 a:Zs):OD k (d+4) 148 [.agg (Zs.g x1),.agg (Zs.g a)]=(F148 x1 a).map (fun b=>bv b):=by
 rw[od (fn:=p148) rfl rfl rfl]
 refine bo (ok187 d x1.To a.From) fun c=>?_
 refine bo (e:=id) ?_ fun h=>?_
 refine io (lf rfl) ?_
 refine bo (ok187 d a.To x1.From) fun f=>?_
 exact lf rfl
 exact lf rfl
def F147 (x1 a:Zs):Option Bool:=
 (F148 x1 a).bind fun b=>some (!b)
theorem ok147 {k} (d) (x1 a:Zs):OD k (d+5) 147 [.agg (Zs.g x1),.agg (Zs.g a)]=(F147 x1 a).map (fun b=>bv b):=by
 rw[od (fn:=p147) rfl rfl rfl]
 refine bo (ok148 d x1 a) fun c=>?_
 exact lf rfl
def F146 (x1 a:Zs):Option Bool:=
 (F187 x1.To a.From).bind fun b=>((if decide (b<=0)then some true else(F187 a.To x1.From).bind fun c=>some (decide (c<=0)):Option (Bool))).bind fun d=>some d
theorem ok146 {k} (d) (x1 a:Zs):OD k (d+4) 146 [.agg (Zs.g x1),.agg (Zs.g a)]=(F146 x1 a).map (fun b=>bv b):=by
 rw[od (fn:=p146) rfl rfl rfl]
 refine bo (ok187 d x1.To a.From) fun c=>?_
 refine bo (e:=id) ?_ fun h=>?_
 refine io (lf rfl) ?_
 refine bo (ok187 d a.To x1.From) fun f=>?_
 exact lf rfl
 exact lf rfl
def F145 (x1 a:Zs):Option Bool:=
 (F146 x1 a).bind fun b=>some (!b)
theorem ok145 {k} (d) (x1 a:Zs):OD k (d+5) 145 [.agg (Zs.g x1),.agg (Zs.g a)]=(F145 x1 a).map (fun b=>bv b):=by
 rw[od (fn:=p145) rfl rfl rfl]
 refine bo (ok146 d x1 a) fun c=>?_
 exact lf rfl
def F189 (x1 a:Zs):Option Bool:=
 (F187 x1.From a.From).bind fun b=>((if decide (b>=0)then(F187 x1.To a.To).bind fun c=>some (decide (c<=0))else some false:Option (Bool))).bind fun d=>some d
theorem ok189 {k} (d) (x1 a:Zs):OD k (d+4) 189 [.agg (Zs.g x1),.agg (Zs.g a)]=(F189 x1 a).map (fun b=>bv b):=by
 rw[od (fn:=p189) rfl rfl rfl]
 refine bo (ok187 d x1.From a.From) fun c=>?_
 refine bo (e:=id) ?_ fun h=>?_
 refine io ?_ (lf rfl)
 refine bo (ok187 d x1.To a.To) fun f=>?_
 exact lf rfl
 exact lf rfl
def F149 (x1 a:Zs):Option Bool:=
 (F146 x1 a).bind fun b=>((if !b then(F189 x1 a).bind fun c=>(F189 a x1).bind fun d=>some ((c==d)!=false)else some false:Option (Bool))).bind fun e=>some e
theorem ok149 {k} (d) (x1 a:Zs):OD k (d+5) 149 [.agg (Zs.g x1),.agg (Zs.g a)]=(F149 x1 a).map (fun b=>bv b):=by
 rw[od (fn:=p149) rfl rfl rfl]
 refine bo (ok146 d x1 a) fun c=>?_
 refine bo (e:=id) ?_ fun i=>?_
 refine io ?_ (lf rfl)
 refine bo (ok189 d x1 a) fun f=>?_
 refine bo (ok189 d a x1) fun h=>?_
 exact lf rfl
 exact lf rfl
def F91 (x1 a:Zs):Option Bool:=
 (F144 x1 a).bind fun c=>if !c then some false else if(w64 (x1.Kind-1))==6 then(F147 x1 a).bind fun d=>some d else if(w64 (x1.Kind-1))==5 then(F145 x1 a).bind fun e=>some e else if(w64 (x1.Kind-1))==4 then(F147 x1 a).bind fun f=>some f else if(w64 (x1.Kind-1))==3 then(F147 x1 a).bind fun g=>some g else if(w64 (x1.Kind-1))==2 then(F145 x1 a).bind fun h=>some h else if(w64 (x1.Kind-1))==1 then(F145 x1 a).bind fun i=>some i else if(w64 (x1.Kind-1))==0 then(F149 x1 a).bind fun b=>some b else none
theorem ok91 {k} (d) (x1 a:Zs):OD k (d+6) 91 [.agg (Zs.g x1),.agg (Zs.g a)]=(F91 x1 a).map (fun c=>bv c):=by
 rw[od (fn:=p91) rfl rfl rfl]
 refine bo (ok144 (d+3) x1 a) fun e=>?_
 refine io (lf rfl) ?_
 refine io ?_ ?_
 refine bo (ok147 d x1 a) fun f=>?_
 exact lf rfl
 refine io ?_ ?_
 refine bo (ok145 d x1 a) fun h=>?_
 exact lf rfl
 refine io ?_ ?_
 refine bo (ok147 d x1 a) fun i=>?_
 exact lf rfl
 refine io ?_ ?_
 refine bo (ok147 d x1 a) fun j=>?_
 exact lf rfl
 refine io ?_ ?_
 refine bo (ok145 d x1 a) fun l=>?_
 exact lf rfl
 refine io ?_ ?_
 refine bo (ok145 d x1 a) fun m=>?_
 exact lf rfl
 refine io ?_ ?_
 refine bo (ok149 d x1 a) fun b=>?_
 exact lf rfl
 rfl
def Fn43 (x1:List Zv) (e:Z0) (w:Int):Option (List Zv):=
 (Fn90 x1 e w).bind fun⟨f,g⟩=>(aO (E:=List Zv) (fun(⟨a,c⟩:Int×(List Zv))=>if decide (a<(e.Spanners.length:Int))then(lget e.Spanners a).bind fun h=>(aO (E:=Bool) (fun(⟨d,b⟩:Bool×Int)=>((if decide (b<a)then(lidx f a).bind fun i=>(lnth f i).bind fun j=>some (!j)else some false:Option (Bool))).bind fun k=>if k&&(!d)then(lidx f b).bind fun l=>(lnth f l).bind fun m=>((if !m then(lidx g b).bind fun n=>(lnth g n).bind fun o=>(lidx g a).bind fun p=>(lnth g p).bind fun q=>(F91 o q).bind fun r=>some r else some false:Option (Bool))).bind fun s=>some (.inl (s,(w64 (b+1))))else some (.inr d)) B64 (false,0)).bind fun t=>(Fn58 t h.ID c e w).bind fun u=>some (.inl ((w64 (a+1)),u))else some (.inr c)) B64 (0,x1)).bind fun v=>some v
theorem okn43 {k} (d) (x1:List Zv) (f:Z0) (j:Int):runR (XD k (d+17)) 43 [.ref 1 0] [(2,.lst 106 3 false (I Zv.g x1)),(1,.box (ck f j (.own 2)))] 3 false=(Fn43 x1 f j).map (fun(v:List Zv)=>((.tup [],[(2,.lst 106 3 false (I Zv.g v)),(1,.box (ck f j (.own 2)))],0))):=by
 rw[xd (fn:=p43) rfl]
 refine bo (okn90 d x1 f j) fun⟨l,n⟩=>?_
 refine bz lm ?_
 refine bo (aI (S:=Int×(List Zv)) (enc:=fun⟨h,i⟩=>(Q [(0,.ref 1 0),(2,.own 3),(3,.own 4),(17,.is 7 (I Zn.g f.Spanners)),(18,i64 (f.Spanners.length:Int)),(19,i64 h)] [(4,.lst 4 1 false (I cB l)),(3,.lst 161 9 false (I Zs.g n)),(2,.lst 106 3 false (I Zv.g i)),(1,.box (ck f j (.own 2)))])) (encE:=(fun(u:List Zv)=>(xq 0 [] [(4,.lst 4 1 false (I cB l)),(3,.lst 161 9 false (I Zs.g n)),(2,.lst 106 3 false (I Zv.g u)),(1,.box (ck f j (.own 2)))]))) (fun⟨h,i⟩=>?_) B64 (0,x1)) fun u=>?_
 refine io ?_ (lf rfl)
 refine bo rg fun o=>?_
 refine bo (aI (S:=Bool×Int) (enc:=fun⟨q,r⟩=>(Q [(0,.ref 1 0),(2,.own 3),(3,.own 4),(4,i64 h),(5,.ref 5 0),(6,bv q),(7,i64 r),(17,.is 7 (I Zn.g f.Spanners)),(18,i64 (f.Spanners.length:Int)),(19,i64 h)] [(5,.box (Zn.g o)),(4,.lst 4 1 false (I cB l)),(3,.lst 161 9 false (I Zs.g n)),(2,.lst 106 3 false (I Zv.g i)),(1,.box (ck f j (.own 2)))])) (encE:=(fun(p:Bool)=>(xq 2 [(0,.ref 1 0),(2,.own 3),(3,.own 4),(5,.ref 5 0),(6,bv p),(17,.is 7 (I Zn.g f.Spanners)),(18,i64 (f.Spanners.length:Int)),(19,i64 h)] [(5,.box (Zn.g o)),(4,.lst 4 1 false (I cB l)),(3,.lst 161 9 false (I Zs.g n)),(2,.lst 106 3 false (I Zv.g i)),(1,.box (ck f j (.own 2)))]))) (fun⟨q,r⟩=>?_) B64 (false,0)) fun p=>?_
 refine bo (e:=id) ?_ fun x=>?_
 refine io ?_ (lf rfl)
 refine bo (aW cB l _) fun w=>?_
 refine bo (bD (A:=Bool) (c:=cB) (g:=fun s=>bv s) (fun _=>rfl) l _) fun s=>?_
 exact lf rfl
 refine bz (gand rfl) ?_
 refine io ?_ (lf rfl)
 refine bo (aW cB l _) fun y=>?_
 refine bo (bD (A:=Bool) (c:=cB) (g:=fun t=>bv t) (fun _=>rfl) l _) fun t=>?_
 refine bo (e:=id) ?_ fun D=>?_
 refine io ?_ (lf rfl)
 refine bo (aW Zs.g n _) fun z=>?_
 refine bo (iI (A:=Zs) (c:=Zs.g) (m:=9) (g:=fun a=>[i64 a.Kind,i64 a.From.Measure,i64 a.From.At,i64 a.From.Staff,i64 a.From.Voice,i64 a.To.Measure,i64 a.To.At,i64 a.To.Staff,i64 a.To.Voice]) (fun _=>⟨rfl,rfl⟩) (Nat.le_of_ble_eq_true rfl) n _) fun a=>?_
 refine bo (aW Zs.g n _) fun B=>?_
 refine bo (iI (A:=Zs) (c:=Zs.g) (m:=9) (g:=fun b=>[i64 b.Kind,i64 b.From.Measure,i64 b.From.At,i64 b.From.Staff,i64 b.From.Voice,i64 b.To.Measure,i64 b.To.At,i64 b.To.Staff,i64 b.To.Voice]) (fun _=>⟨rfl,rfl⟩) (Nat.le_of_ble_eq_true rfl) n _) fun b=>?_
 refine bo (ok91 (d+10) a b) fun C=>?_
 exact lf rfl
 exact lf rfl
 refine bo (okn58 (d+15) p o.ID i f j) fun E=>?_
 exact lf rfl
 exact lf rfl
def F92 (x1:Int) (a:Zm):Option Bool:=
 ((if a.RepeatEnd !=0 then(F60 a.RepeatEnd 2 8).bind fun b=>some (!b)else some false:Option (Bool))).bind fun c=>((if c then some true else(F60 a.Endings 0 255).bind fun d=>some (!d):Option (Bool))).bind fun e=>some e
theorem ok92 {k} (d) (x1:Int) (a:Zm):OD k (d+2) 92 [i64 x1,.agg (Zm.g a)]=(F92 x1 a).map (fun b=>bv b):=by
 rw[od (fn:=p92) rfl rfl rfl]
 refine bo (e:=id) ?_ fun f=>?_
 refine io ?_ (lf rfl)
 refine bo (ok60 d a.RepeatEnd 2 8) fun c=>?_
 exact lf rfl
 refine bo (e:=id) ?_ fun i=>?_
 refine io (lf rfl) ?_
 refine bo (ok60 d a.Endings 0 255) fun h=>?_
 exact lf rfl
 exact lf rfl
def Fn64_6 (x1:List Zv) (e:Z0) (h:Int):Option (List Zv):=
 (aO (E:=List Zv) (fun(⟨a,f⟩:Int×(List Zv))=>if decide (a<(e.Measures.length:Int))then(lget e.Measures a).bind fun g=>(F92 a g).bind fun b=>(Fn58 b g.ID f e h).bind fun c=>some (.inl ((w64 (a+1)),c))else some (.inr f)) B64 (0,x1)).bind fun d=>some d
theorem okn64_6 {k} (d) (x1:List Zv) (a:Z0) (b:Int):runR (XD k (d+3)) 64 [.ref 1 0,.fn 92 [] []] [(2,.lst 106 3 false (I Zv.g x1)),(1,.box (ck a b (.own 2)))] 3 false=(Fn64_6 x1 a b).map (fun(f:List Zv)=>((.tup [],[(2,.lst 106 3 false (I Zv.g f)),(1,.box (ck a b (.own 2)))],0))):=by
 rw[xd (fn:=p64) rfl]
 refine bz lm ?_
 refine bo (aI (S:=Int×(List Zv)) (enc:=fun⟨h,i⟩=>(Q [(0,.ref 1 0),(1,.fn 92 [] []),(10,.is 22 (I Zm.g a.Measures)),(11,i64 (a.Measures.length:Int)),(12,i64 h)] [(2,.lst 106 3 false (I Zv.g i)),(1,.box (ck a b (.own 2)))])) (encE:=(fun(c:List Zv)=>(xq 0 [] [(2,.lst 106 3 false (I Zv.g c)),(1,.box (ck a b (.own 2)))]))) (fun⟨h,i⟩=>?_) B64 (0,x1)) fun c=>?_
 refine io ?_ (lf rfl)
 refine bo rg fun j=>?_
 refine bo (ok92 d h j) fun e=>?_
 refine bo (okn58 (d+1) e j.ID i a b) fun l=>?_
 exact lf rfl
 exact lf rfl
def F207 (x1:Int):Option Int:=
 ((if decide (x1>=4294967296)then(shrO .u64 x1 32).bind fun g=>some (g,32)else some (x1,0):Option (Int×Int))).bind fun⟨c,e⟩=>((if decide (c>=65536)then(shrO .u64 c 16).bind fun h=>some (h,(w64 (e+16)))else some (c,e):Option (Int×Int))).bind fun⟨d,f⟩=>((if decide (d>=256)then(shrO .u64 d 8).bind fun i=>some (i,(w64 (f+8)))else some (d,f):Option (Int×Int))).bind fun⟨j,a⟩=>(kX (⟨#[0,1,2,2,3,3,3,3,4,4,4,4,4,4,4,4,5,5,5,5,5,5,5,5,5,5,5,5,5,5,5,5,6,6,6,6,6,6,6,6,6,6,6,6,6,6,6,6,6,6,6,6,6,6,6,6,6,6,6,6,6,6,6,6,7,7,7,7,7,7,7,7,7,7,7,7,7,7,7,7,7,7,7,7,7,7,7,7,7,7,7,7,7,7,7,7,7,7,7,7,7,7,7,7,7,7,7,7,7,7,7,7,7,7,7,7,7,7,7,7,7,7,7,7,7,7,7,7,8,8,8,8,8,8,8,8,8,8,8,8,8,8,8,8,8,8,8,8,8,8,8,8,8,8,8,8,8,8,8,8,8,8,8,8,8,8,8,8,8,8,8,8,8,8,8,8,8,8,8,8,8,8,8,8,8,8,8,8,8,8,8,8,8,8,8,8,8,8,8,8,8,8,8,8,8,8,8,8,8,8,8,8,8,8,8,8,8,8,8,8,8,8,8,8,8,8,8,8,8,8,8,8,8,8,8,8,8,8,8,8,8,8,8,8,8,8,8,8,8,8,8,8,8,8,8,8]⟩:ByteArray) (IntKind.wrap .u8 (j))).bind fun b=>some (w64 (a+(w64 (b))))
theorem ok207 {k} (d) (x1:Int):OD k (d+1) 207 [.v (.int .u64 x1)]=(F207 x1).map (fun j=>i64 j):=by
 rw[od (fn:=p207) rfl rfl rfl]
 refine bo (e:=(fun(⟨b,c⟩:Int×Int)=>(nq [(0,.v (.int .u64 b)),(2,i64 c)] []))) ?_ fun⟨b,c⟩=>?_
 refine io ?_ (lf rfl)
 refine bo oi fun l=>?_
 exact lf rfl
 refine bo (e:=(fun(⟨f,g⟩:Int×Int)=>(nq [(0,.v (.int .u64 f)),(2,i64 g)] []))) ?_ fun⟨f,g⟩=>?_
 refine io ?_ (lf rfl)
 refine bo oi fun m=>?_
 exact lf rfl
 refine bo (e:=(fun(⟨h,a⟩:Int×Int)=>(nq [(0,.v (.int .u64 h)),(2,i64 a)] []))) ?_ fun⟨h,a⟩=>?_
 refine io ?_ (lf rfl)
 refine bo oi fun n=>?_
 exact lf rfl
 refine bo oi fun i=>?_
 exact lf rfl
def F190 (x1:Int):Option Int:=
 (F207 x1).bind fun a=>some a
theorem ok190 {k} (d) (x1:Int):OD k (d+2) 190 [.v (.int .u64 x1)]=(F190 x1).map (fun a=>i64 a):=by
 rw[od (fn:=p190) rfl rfl rfl]
 refine bo (ok207 d x1) fun b=>?_
 exact lf rfl
def F94 (x1:Zg):Option Bool:=
 ((if decide (x1.passes>0)then(shlO .i64 1 (w64 (x1.passes-1))).bind fun a=>some (x1.ending==a)else some false:Option (Bool))).bind fun b=>some b
theorem ok94 {k} (d) (x1:Zg):OD k (d+1) 94 [.agg (Zg.g x1)]=(F94 x1).map (fun a=>bv a):=by
 rw[od (fn:=p94) rfl rfl rfl]
 refine bo (e:=id) ?_ fun c=>?_
 refine io ?_ (lf rfl)
 refine bo oi fun b=>?_
 exact lf rfl
 exact lf rfl
def F150 (x1:Zg) (a:Zm):Option (Zg×Bool):=
 if a.RepeatStart||(x1.body==0)then some (x1,false)else if a.Endings !=x1.ending then if((x1.ending !=0)&&(!x1.ended))||((iand .i64 a.Endings x1.used)!=0)then some (x1,false)else(F190 (IntKind.wrap .u64 (a.Endings))).bind fun j=>if x1.passes==0 then if((iand .i64 a.Endings 1)==0)||(decide ((w64 (j-1))>6))then some ((Zg.mk x1.started x1.body (ior .i64 x1.used a.Endings) a.Endings false x1.passes),false)else if a.RepeatEnd !=0 then(F94 (Zg.mk x1.started x1.body (ior .i64 x1.used a.Endings) a.Endings false x1.passes)).bind fun k=>((if k||((x1.passes !=0)&&(a.RepeatEnd !=x1.passes))then some true else(F190 (IntKind.wrap .u64 (a.Endings))).bind fun l=>some (decide (l>=a.RepeatEnd)):Option (Bool))).bind fun m=>if m then some ((Zg.mk x1.started x1.body (ior .i64 x1.used a.Endings) a.Endings false x1.passes),false)else some ((Zg.mk x1.started x1.body (ior .i64 x1.used a.Endings) a.Endings true a.RepeatEnd),true)else some ((Zg.mk x1.started x1.body (ior .i64 x1.used a.Endings) a.Endings false x1.passes),true)else((if decide ((w64 (j-1))>=x1.passes)then some true else((if(w64 (j-1))==(w64 (x1.passes-1))then(F94 (Zg.mk x1.started x1.body (ior .i64 x1.used a.Endings) a.Endings false x1.passes)).bind fun n=>((if !n then some true else(shlO .i64 1 x1.passes).bind fun o=>some ((ior .i64 x1.used a.Endings)!=(w64 (o-1))):Option (Bool))).bind fun p=>some p else some false:Option (Bool))).bind fun b=>some b:Option (Bool))).bind fun c=>if c then some ((Zg.mk x1.started x1.body (ior .i64 x1.used a.Endings) a.Endings false x1.passes),false)else if a.RepeatEnd !=0 then(F94 (Zg.mk x1.started x1.body (ior .i64 x1.used a.Endings) a.Endings false x1.passes)).bind fun d=>((if d||((x1.passes !=0)&&(a.RepeatEnd !=x1.passes))then some true else(F190 (IntKind.wrap .u64 (a.Endings))).bind fun e=>some (decide (e>=a.RepeatEnd)):Option (Bool))).bind fun f=>if f then some ((Zg.mk x1.started x1.body (ior .i64 x1.used a.Endings) a.Endings false x1.passes),false)else some ((Zg.mk x1.started x1.body (ior .i64 x1.used a.Endings) a.Endings true a.RepeatEnd),true)else some ((Zg.mk x1.started x1.body (ior .i64 x1.used a.Endings) a.Endings false x1.passes),true)else if x1.ended then some (x1,false)else if a.RepeatEnd !=0 then(F94 x1).bind fun g=>((if g||((x1.passes !=0)&&(a.RepeatEnd !=x1.passes))then some true else(F190 (IntKind.wrap .u64 (x1.ending))).bind fun h=>some (decide (h>=a.RepeatEnd)):Option (Bool))).bind fun i=>if i then some (x1,false)else some ((Zg.mk x1.started x1.body x1.used x1.ending true a.RepeatEnd),true)else some (x1,true)
theorem ok150 {k} (d) (x1:Zg) (a:Zm):OD k (d+3) 150 [.agg (Zg.g x1),.agg (Zm.g a)]=(F150 x1 a).map (fun⟨n,o⟩=>.tup [.agg (Zg.g n),bv o]):=by
 rw[od (fn:=p150) rfl rfl rfl]
 refine bz (gor rfl) ?_
 refine io (lf rfl) ?_
 refine io ?_ ?_
 refine bz (gand rfl) ?_
 refine bz (gor rfl) ?_
 refine io (lf rfl) ?_
 refine bo (ok190 d (IntKind.wrap .u64 (a.Endings))) fun p=>?_
 refine io ?_ ?_
 refine bz (gor rfl) ?_
 refine io (lf rfl) ?_
 refine io ?_ (lf rfl)
 refine bo (ok94 (d+1) (Zg.mk x1.started x1.body (ior .i64 x1.used a.Endings) a.Endings false x1.passes)) fun q=>?_
 refine bz (gor (bz (gand rfl) rfl)) ?_
 refine bo (e:=id) ?_ fun s=>?_
 refine io (lf rfl) ?_
 refine bo (ok190 d (IntKind.wrap .u64 (a.Endings))) fun r=>?_
 exact lf rfl
 refine io (lf rfl) (lf rfl)
 refine bo (e:=id) ?_ fun c=>?_
 refine io (lf rfl) ?_
 refine bo (e:=id) ?_ fun b=>?_
 refine io ?_ (lf rfl)
 refine bo (ok94 (d+1) (Zg.mk x1.started x1.body (ior .i64 x1.used a.Endings) a.Endings false x1.passes)) fun t=>?_
 refine bo (e:=id) ?_ fun v=>?_
 refine io (lf rfl) ?_
 refine bo oi fun u=>?_
 exact lf rfl
 exact lf rfl
 exact lf rfl
 refine io (lf rfl) ?_
 refine io ?_ (lf rfl)
 refine bo (ok94 (d+1) (Zg.mk x1.started x1.body (ior .i64 x1.used a.Endings) a.Endings false x1.passes)) fun f=>?_
 refine bz (gor (bz (gand rfl) rfl)) ?_
 refine bo (e:=id) ?_ fun i=>?_
 refine io (lf rfl) ?_
 refine bo (ok190 d (IntKind.wrap .u64 (a.Endings))) fun h=>?_
 exact lf rfl
 refine io (lf rfl) (lf rfl)
 refine io (lf rfl) ?_
 refine io ?_ (lf rfl)
 refine bo (ok94 (d+1) x1) fun j=>?_
 refine bz (gor (bz (gand rfl) rfl)) ?_
 refine bo (e:=id) ?_ fun m=>?_
 refine io (lf rfl) ?_
 refine bo (ok190 d (IntKind.wrap .u64 (x1.ending))) fun l=>?_
 exact lf rfl
 refine io (lf rfl) (lf rfl)
def F93 (x1:Zg) (a:Zm):Option (Zg×Bool):=
 if a.Endings !=0 then(F150 x1 a).bind fun⟨d,e⟩=>some (d,e)else if x1.ending !=0 then(F94 x1).bind fun f=>if !f then some (x1,false)else if a.RepeatStart then if false then some ((Zg.mk false 0 0 0 false 0),false)else((if a.RepeatEnd !=0 then some (false,0)else some (true,1):Option (Bool×Int))).bind fun⟨g,h⟩=>some ((Zg.mk g h 0 0 false 0),true)else((if a.RepeatEnd !=0 then some 0 else some 1:Option (Int))).bind fun i=>some ((Zg.mk false i 0 0 false 0),true)else if a.RepeatStart then if x1.started then some (x1,false)else((if a.RepeatEnd !=0 then some (false,0)else some (true,1):Option (Bool×Int))).bind fun⟨j,b⟩=>some ((Zg.mk j b 0 0 false 0),true)else((if a.RepeatEnd !=0 then some (Zg.mk false 0 0 0 false 0)else some (Zg.mk x1.started (w64 (x1.body+1)) x1.used x1.ending x1.ended x1.passes):Option (Zg))).bind fun c=>some (c,true)
theorem ok93 {k} (d) (x1:Zg) (a:Zm):OD k (d+4) 93 [.agg (Zg.g x1),.agg (Zm.g a)]=(F93 x1 a).map (fun⟨l,m⟩=>.tup [.agg (Zg.g l),bv m]):=by
 rw[od (fn:=p93) rfl rfl rfl]
 refine io ?_ ?_
 refine bo (ok150 d x1 a) fun⟨n,o⟩=>?_
 exact lf rfl
 refine io ?_ ?_
 refine bo (ok94 (d+2) x1) fun p=>?_
 refine io (lf rfl) ?_
 refine io ?_ ?_
 refine io (lf rfl) ?_
 refine bo (e:=(fun(⟨f,h⟩:Bool×Int)=>(nq [(2,.ref 0 0),(4,.ref 2 0)] [(2,.box [bv false,i64 0,i64 0,i64 0,bv false,i64 0]),(1,.box (Zm.g a)),(0,.box [bv f,i64 h,i64 0,i64 0,bv false,i64 0])]))) ?_ fun⟨f,h⟩=>?_
 refine io (lf rfl) (lf rfl)
 exact lf rfl
 refine bo (e:=(fun(i:Int)=>(nq [(2,.ref 0 0),(4,.ref 2 0)] [(2,.box [bv false,i64 0,i64 0,i64 0,bv false,i64 0]),(1,.box (Zm.g a)),(0,.box [bv false,i64 i,i64 0,i64 0,bv false,i64 0])]))) ?_ fun i=>?_
 refine io (lf rfl) (lf rfl)
 exact lf rfl
 refine io ?_ ?_
 refine io (lf rfl) ?_
 refine bo (e:=(fun(⟨j,b⟩:Bool×Int)=>(nq [(2,.ref 0 0),(4,.ref 2 0)] [(2,.box [bv false,i64 0,i64 0,i64 0,bv false,i64 0]),(1,.box (Zm.g a)),(0,.box [bv j,i64 b,i64 0,i64 0,bv false,i64 0])]))) ?_ fun⟨j,b⟩=>?_
 refine io (lf rfl) (lf rfl)
 exact lf rfl
 refine bo (e:=(fun(c:Zg)=>(nq [(2,.ref 0 0),(4,.ref 2 0)] [(2,.box [bv false,i64 0,i64 0,i64 0,bv false,i64 0]),(1,.box (Zm.g a)),(0,.box (Zg.g c))]))) ?_ fun c=>?_
 refine io (lf rfl) (lf rfl)
 exact lf rfl
def Fn44 (x1:List Zv) (a:Z0) (n:Int):Option (List Zv):=
 (Fn64_6 x1 a n).bind fun e=>if decide ((e.length:Int)>(x1.length:Int))then some e else(aO (E:=(Zg×(List Zv))⊕Zg) (fun(⟨o,b⟩:Int×Zg)=>if decide (o<(a.Measures.length:Int))then(lget a.Measures o).bind fun c=>(F93 b c).bind fun⟨d,f⟩=>if !f then(Fn58 true c.ID e a n).bind fun g=>some (.inr (.inl (d,g)))else some (.inl ((w64 (o+1)),d))else some (.inr (.inr b))) B64 (0,(Zg.mk false 0 0 0 false 0))).bind fun h=>(match h with|.inl ⟨x15,x16⟩=>some x16|.inr x17=>((if x17.started&&(x17.ending==0)then some true else((if x17.ending !=0 then(F94 x17).bind fun i=>some (!i)else some false:Option (Bool))).bind fun j=>some j:Option (Bool))).bind fun k=>(lget a.Measures (w64 ((a.Measures.length:Int)-1))).bind fun l=>(Fn58 k l.ID e a n).bind fun m=>some m)
theorem okn44 {k} (d) (x1:List Zv) (a:Z0) (b:Int):runR (XD k (d+5)) 44 [.ref 1 0] [(2,.lst 106 3 false (I Zv.g x1)),(1,.box (ck a b (.own 2)))] 3 false=(Fn44 x1 a b).map (fun(o:List Zv)=>((.tup [],[(2,.lst 106 3 false (I Zv.g o)),(1,.box (ck a b (.own 2)))],0))):=by
 rw[xd (fn:=p44) rfl]
 refine bz (bV Zv.g x1) ?_
 refine bo (okn64_6 (d+1) x1 a b) fun j=>?_
 refine bz (bV Zv.g j) ?_
 refine io (lf rfl) ?_
 refine bz lm ?_
 refine bo (aI (S:=Int×Zg) (enc:=fun⟨p,c⟩=>(Q [(0,.ref 1 0),(3,.ref 3 0),(26,.is 22 (I Zm.g a.Measures)),(27,i64 (a.Measures.length:Int)),(28,i64 p)] [(3,.box (Zg.g c)),(2,.lst 106 3 false (I Zv.g j)),(1,.box (ck a b (.own 2)))])) (encE:=(fun|.inl ⟨h,i⟩=>(rq [(3,.ref 3 0)] [(3,.box (Zg.g h)),(2,.lst 106 3 false (I Zv.g i)),(1,.box (ck a b (.own 2)))])|.inr x17=>(xq 0 [(0,.ref 1 0),(3,.ref 3 0)] [(3,.box (Zg.g x17)),(2,.lst 106 3 false (I Zv.g j)),(1,.box (ck a b (.own 2)))]))) (fun⟨p,c⟩=>?_) B64 (0,(Zg.mk false 0 0 0 false 0))) fun l=>?_
 refine io ?_ (lf rfl)
 refine bo rg fun f=>?_
 refine bo (ok93 d c f) fun⟨q,r⟩=>?_
 refine io ?_ (lf rfl)
 refine bo (okn58 (d+3) true f.ID j a b) fun s=>?_
 exact lf rfl
 rcases l with⟨h,i⟩|x17
 exact lf rfl
 refine bz (gand rfl) ?_
 refine bo (e:=id) ?_ fun m=>?_
 refine io (lf rfl) ?_
 refine bo (e:=id) ?_ fun u=>?_
 refine io ?_ (lf rfl)
 refine bo (ok94 (d+3) x17) fun t=>?_
 exact lf rfl
 exact lf rfl
 refine bz lm ?_
 refine bo rg fun n=>?_
 refine bo (okn58 (d+3) m n.ID j a b) fun v=>?_
 exact lf rfl
def F96 (x1 a:Zm):Option Bool:=
 some (((a.Jump !=0)&&(x1.Jump !=0))||((iand .i64 a.Labels x1.Labels)!=0))
theorem ok96 {k} (d) (x1 a:Zm):OD k (d+1) 96 [.agg (Zm.g x1),.ip (Zm.g a)]=(F96 x1 a).map (fun b=>bv b):=by
 rw[od (fn:=p96) rfl rfl rfl]
 refine bz (gand rfl) ?_
 refine bz (gor rfl) ?_
 exact lf rfl
def F110 (x1:List Zm) (b:Zm):Option Int:=
 (aO (E:=Int⊕Unit) (fun(a:Int)=>if decide (a<(x1.length:Int))then(lget x1 a).bind fun c=>(F96 c b).bind fun d=>if d then some (.inr (.inl a))else some (.inl (w64 (a+1)))else some (.inr (.inr ()))) B64 0).bind fun e=>(match e with|.inl x8=>some x8|.inr _=>some (-1))
theorem ok110 {k} (d) (x1:List Zm) (a:Zm):OD k (d+2) 110 [.is 22 (I Zm.g x1),.fn 96 [] [.ip (Zm.g a)]]=(F110 x1 a).map (fun h=>i64 h):=by
 rw[od (fn:=p110) rfl rfl rfl]
 refine bz lm ?_
 refine bo (aI (S:=Int) (enc:=fun b=>(Q [(0,.is 22 (I Zm.g x1)),(1,.fn 96 [] [.ip (Zm.g a)]),(7,i64 (x1.length:Int)),(8,i64 b)] [])) (encE:=(fun|.inl c=>(rq [(4,i64 c)] [])|.inr _=>(xq 0 [] []))) (fun b=>?_) B64 0) fun f=>?_
 refine io ?_ (lf rfl)
 refine bo rg fun e=>?_
 refine bo (ok96 d e a) fun i=>?_
 refine io (lf rfl) (lf rfl)
 rcases f with c|_
 exact lf rfl
 exact lf rfl
def F56 (x1:List Zm) (a:Zm):Option Bool:=
 (F110 x1 a).bind fun b=>some (decide (b>=0))
theorem ok56 {k} (d) (x1:List Zm) (a:Zm):OD k (d+3) 56 [.is 22 (I Zm.g x1),.fn 96 [] [.ip (Zm.g a)]]=(F56 x1 a).map (fun b=>bv b):=by
 rw[od (fn:=p56) rfl rfl rfl]
 refine bo (ok110 d x1 a) fun c=>?_
 exact lf rfl
def F191 (x1:Zm) (a:Int):Option Bool:=
 some ((iand .i64 x1.Labels a)!=0)
theorem ok191 {k} (d) (x1:Zm) (a:Int):OD k (d+1) 191 [.agg (Zm.g x1),.ip [i64 a]]=(F191 x1 a).map (fun b=>bv b):=by
 rw[od (fn:=p191) rfl rfl rfl]
 exact lf rfl
def F110_2 (x1:List Zm) (b:Int):Option Int:=
 (aO (E:=Int⊕Unit) (fun(a:Int)=>if decide (a<(x1.length:Int))then(lget x1 a).bind fun c=>(F191 c b).bind fun d=>if d then some (.inr (.inl a))else some (.inl (w64 (a+1)))else some (.inr (.inr ()))) B64 0).bind fun e=>(match e with|.inl x8=>some x8|.inr _=>some (-1))
theorem ok110_2 {k} (d) (x1:List Zm) (a:Int):OD k (d+2) 110 [.is 22 (I Zm.g x1),.fn 191 [] [.ip [i64 a]]]=(F110_2 x1 a).map (fun h=>i64 h):=by
 rw[od (fn:=p110) rfl rfl rfl]
 refine bz lm ?_
 refine bo (aI (S:=Int) (enc:=fun b=>(Q [(0,.is 22 (I Zm.g x1)),(1,.fn 191 [] [.ip [i64 a]]),(7,i64 (x1.length:Int)),(8,i64 b)] [])) (encE:=(fun|.inl c=>(rq [(4,i64 c)] [])|.inr _=>(xq 0 [] []))) (fun b=>?_) B64 0) fun f=>?_
 refine io ?_ (lf rfl)
 refine bo rg fun e=>?_
 refine bo (ok191 d e a) fun i=>?_
 refine io (lf rfl) (lf rfl)
 rcases f with c|_
 exact lf rfl
 exact lf rfl
end Go.P
namespace Go.P
open Go.Sim (Ex OpK CK)
open K (I Q rq nq xq ck)
def F152 (x1:Zk) (a:Int):Option Int:=
 (F110_2 x1.s'.Measures a).bind fun b=>some b
theorem ok152 {k} (d) (x1:Zk) (a:Int):OD k (d+3) 152 [.ip (Zk.g x1),i64 a]=(F152 x1 a).map (fun b=>i64 b):=by
 rw[od (fn:=p152) rfl rfl rfl]
 refine bo (ok110_2 d x1.s'.Measures a) fun c=>?_
 exact lf rfl
def F151 (x1:Int) (a:Zk) (b:Int):Option Bool:=
 (F152 a x1).bind fun c=>(F60 c 0 b).bind fun d=>some d
theorem ok151 {k} (d) (x1:Int) (a:Zk) (b:Int):OD k (d+4) 151 [i64 x1,.ip [.ip (Zk.g a)],.ip [i64 b]]=(F151 x1 a b).map (fun e=>bv e):=by
 rw[od (fn:=p151) rfl rfl rfl]
 refine bo (ok152 d a x1) fun c=>?_
 refine bo (ok60 (d+2) c 0 b) fun f=>?_
 exact lf rfl
def F97 (x1:Zk) (a e:Int):Option Bool:=
 ((if decide (a>=4)then(F151 1 x1 e).bind fun f=>some (!f)else some false:Option (Bool))).bind fun g=>if g then some false else((if a==2 then some (a==2)else some (a==5):Option (Bool))).bind fun h=>if h then(F151 4 x1 e).bind fun i=>some i else((if a==3 then some (a==3)else some (a==6):Option (Bool))).bind fun j=>if j then(F151 8 x1 e).bind fun k=>((if k then(F152 x1 2).bind fun b=>(F152 x1 8).bind fun c=>some (decide (b>c))else some false:Option (Bool))).bind fun d=>some d else some true
theorem ok97 {k} (d) (x1:Zk) (b a:Int):OD k (d+5) 97 [.ip (Zk.g x1),i64 b,i64 a]=(F97 x1 b a).map (fun l=>bv l):=by
 rw[od (fn:=p97) rfl rfl rfl]
 refine bo (e:=id) ?_ fun n=>?_
 refine io ?_ (lf rfl)
 refine bo (ok151 d 1 x1 a) fun m=>?_
 exact lf rfl
 refine io (lf rfl) ?_
 refine bo (e:=(fun(c:Bool)=>(nq [(3,.ref 0 0),(7,.fn 151 [] [.ref 0 0,.ref 1 0]),(16,i64 b),(17,bv c)] [(1,.box [i64 a]),(0,.box [.ip (Zk.g x1)])]))) ?_ fun c=>?_
 refine io (lf rfl) (lf rfl)
 refine io ?_ ?_
 refine bo (ok151 d 4 x1 a) fun o=>?_
 exact lf rfl
 refine bo (e:=(fun(f:Bool)=>(nq [(3,.ref 0 0),(7,.fn 151 [] [.ref 0 0,.ref 1 0]),(22,bv f)] [(1,.box [i64 a]),(0,.box [.ip (Zk.g x1)])]))) ?_ fun f=>?_
 refine io (lf rfl) (lf rfl)
 refine io ?_ (lf rfl)
 refine bo (ok151 d 8 x1 a) fun p=>?_
 refine bo (e:=id) ?_ fun j=>?_
 refine io ?_ (lf rfl)
 refine bo (ok152 (d+1) x1 2) fun h=>?_
 refine bo (ok152 (d+1) x1 8) fun i=>?_
 exact lf rfl
 exact lf rfl
def F95 (x1:Int) (a:Zm) (c:Zk):Option Bool:=
 (F60 a.Jump 0 6).bind fun d=>((if !d then some true else(F60 a.Labels 0 15).bind fun e=>some (!e):Option (Bool))).bind fun f=>if f||(((a.Jump !=0)||(a.Labels !=0))&&((a.RepeatEnd !=0)||(a.Endings !=0)))then some true else(fO c.s'.Measures 0 x1).bind fun g=>(F56 g a).bind fun h=>((if h then some true else(F97 c a.Jump x1).bind fun i=>some (!i):Option (Bool))).bind fun b=>some b
theorem ok95 {k} (d) (x1:Int) (a:Zm) (b:Zk):OD k (d+6) 95 [i64 x1,.agg (Zm.g a),.ip [.ip (Zk.g b)]]=(F95 x1 a b).map (fun h=>bv h):=by
 rw[od (fn:=p95) rfl rfl rfl]
 refine bo (ok60 (d+4) a.Jump 0 6) fun i=>?_
 refine bo (e:=id) ?_ fun l=>?_
 refine io (lf rfl) ?_
 refine bo (ok60 (d+4) a.Labels 0 15) fun j=>?_
 exact lf rfl
 refine bz (gor (bz (gor rfl) (bz (gand (bz (gor rfl) rfl)) rfl))) ?_
 refine io (lf rfl) ?_
 refine bo (eT _ _ _ _) fun f=>?_
 refine bo (ok56 (d+2) f a) fun m=>?_
 refine bo (e:=id) ?_ fun c=>?_
 refine io (lf rfl) ?_
 refine bo (ok97 d b a.Jump x1) fun n=>?_
 exact lf rfl
 exact lf rfl
def Fn64_7 (x1:List Zv) (a:Z0) (g:Int):Option (List Zv):=
 (aO (E:=List Zv) (fun(⟨b,f⟩:Int×(List Zv))=>if decide (b<(a.Measures.length:Int))then(lget a.Measures b).bind fun h=>(F95 b h (Zk.mk a g f)).bind fun c=>(Fn58 c h.ID f a g).bind fun d=>some (.inl ((w64 (b+1)),d))else some (.inr f)) B64 (0,x1)).bind fun e=>some e
theorem okn64_7 {k} (d) (x1:List Zv) (a:Z0) (b:Int):runR (XD k (d+7)) 64 [.ref 1 0,.fn 95 [] [.ref 3 0]] [(3,.box [.ref 1 0]),(2,.lst 106 3 false (I Zv.g x1)),(1,.box (ck a b (.own 2)))] 4 false=(Fn64_7 x1 a b).map (fun(h:List Zv)=>((.tup [],[(3,.box [.ref 1 0]),(2,.lst 106 3 false (I Zv.g h)),(1,.box (ck a b (.own 2)))],0))):=by
 rw[xd (fn:=p64) rfl]
 refine bz lm ?_
 refine bo (aI (S:=Int×(List Zv)) (enc:=fun⟨i,e⟩=>(Q [(0,.ref 1 0),(1,.fn 95 [] [.ref 3 0]),(10,.is 22 (I Zm.g a.Measures)),(11,i64 (a.Measures.length:Int)),(12,i64 i)] [(3,.box [.ref 1 0]),(2,.lst 106 3 false (I Zv.g e)),(1,.box (ck a b (.own 2)))])) (encE:=(fun(c:List Zv)=>(xq 0 [] [(3,.box [.ref 1 0]),(2,.lst 106 3 false (I Zv.g c)),(1,.box (ck a b (.own 2)))]))) (fun⟨i,e⟩=>?_) B64 (0,x1)) fun c=>?_
 refine io ?_ (lf rfl)
 refine bo rg fun j=>?_
 refine bo (ok95 d i j (Zk.mk a b e)) fun f=>?_
 refine bo (okn58 (d+5) f j.ID e a b) fun l=>?_
 exact lf rfl
 exact lf rfl
def Fn45 (x1:List Zv) (a:Z0) (b:Int):Option (List Zv):=
 (Fn64_7 x1 a b).bind fun c=>some c
theorem okn45 {k} (d) (x1:List Zv) (a:Z0) (b:Int):runR (XD k (d+8)) 45 [.ref 1 0] [(2,.lst 106 3 false (I Zv.g x1)),(1,.box (ck a b (.own 2)))] 3 false=(Fn45 x1 a b).map (fun(c:List Zv)=>((.tup [],[(2,.lst 106 3 false (I Zv.g c)),(1,.box (ck a b (.own 2)))],0))):=by
 rw[xd (fn:=p45) rfl]
 refine bo (okn64_7 d x1 a b) fun e=>?_
 exact lf rfl
def F98 (x1:Int) (c:Zm):Option Bool:=
 (F68 c).bind fun⟨m,r⟩=>((if c.Swing !=0 then(F60 c.Swing 50 75).bind fun n=>some (!n)else some false:Option (Bool))).bind fun o=>((if o then some true else(F60 c.Break 0 3).bind fun p=>some (!p):Option (Bool))).bind fun q=>(aO (E:=Bool) (fun(⟨d,a⟩:Bool×Int)=>if decide (a<(c.Tempi.length:Int))then(lget c.Tempi a).bind fun b=>((if d then some true else(F60 b.At 0 (w64 (m-1))).bind fun e=>some (!e):Option (Bool))).bind fun f=>((if f then some true else(F60 b.Micros 1 60000000).bind fun g=>some (!g):Option (Bool))).bind fun h=>((if h then some true else((if decide (a>0)then(lget c.Tempi (w64 (a-1))).bind fun i=>some (decide (b.At<=i.At))else some false:Option (Bool))).bind fun j=>some j:Option (Bool))).bind fun k=>some (.inl (k,(w64 (a+1))))else some (.inr d)) B64 (q,0)).bind fun l=>some l
theorem ok98 {k} (d) (x1:Int) (a:Zm):OD k (d+5) 98 [i64 x1,.agg (Zm.g a)]=(F98 x1 a).map (fun s=>bv s):=by
 rw[od (fn:=p98) rfl rfl rfl]
 refine bo (ok68 d a) fun⟨i,t⟩=>?_
 refine bo (e:=id) ?_ fun v=>?_
 refine io ?_ (lf rfl)
 refine bo (ok60 (d+3) a.Swing 50 75) fun u=>?_
 exact lf rfl
 refine bo (e:=id) ?_ fun r=>?_
 refine io (lf rfl) ?_
 refine bo (ok60 (d+3) a.Break 0 3) fun w=>?_
 exact lf rfl
 refine bz lm ?_
 refine bo (aI (S:=Bool×Int) (enc:=fun⟨b,c⟩=>(Q [(3,.ref 0 0),(5,i64 i),(7,bv b),(31,.is 3 (I Zt.g a.Tempi)),(32,i64 (a.Tempi.length:Int)),(33,i64 c)] [(0,.box (Zm.g a))])) (encE:=(fun(h:Bool)=>(xq 0 [(7,bv h)] [(0,.box (Zm.g a))]))) (fun⟨b,c⟩=>?_) B64 (r,0)) fun h=>?_
 refine io ?_ (lf rfl)
 refine bo rg fun f=>?_
 refine bo (e:=id) ?_ fun l=>?_
 refine io (lf rfl) ?_
 refine bo (ok60 (d+3) f.At 0 (w64 (i-1))) fun j=>?_
 exact lf rfl
 refine bo (e:=id) ?_ fun n=>?_
 refine io (lf rfl) ?_
 refine bo (ok60 (d+3) f.Micros 1 60000000) fun m=>?_
 exact lf rfl
 refine bo (e:=id) ?_ fun q=>?_
 refine io (lf rfl) ?_
 refine bo (e:=id) ?_ fun p=>?_
 refine io ?_ (lf rfl)
 refine bo rg fun o=>?_
 exact lf rfl
 exact lf rfl
 exact lf rfl
 exact lf rfl
def Fn64_8 (x1:List Zv) (e:Z0) (h:Int):Option (List Zv):=
 (aO (E:=List Zv) (fun(⟨a,f⟩:Int×(List Zv))=>if decide (a<(e.Measures.length:Int))then(lget e.Measures a).bind fun g=>(F98 a g).bind fun b=>(Fn58 b g.ID f e h).bind fun c=>some (.inl ((w64 (a+1)),c))else some (.inr f)) B64 (0,x1)).bind fun d=>some d
theorem okn64_8 {k} (d) (x1:List Zv) (a:Z0) (b:Int):runR (XD k (d+6)) 64 [.ref 1 0,.fn 98 [] []] [(2,.lst 106 3 false (I Zv.g x1)),(1,.box (ck a b (.own 2)))] 3 false=(Fn64_8 x1 a b).map (fun(f:List Zv)=>((.tup [],[(2,.lst 106 3 false (I Zv.g f)),(1,.box (ck a b (.own 2)))],0))):=by
 rw[xd (fn:=p64) rfl]
 refine bz lm ?_
 refine bo (aI (S:=Int×(List Zv)) (enc:=fun⟨h,i⟩=>(Q [(0,.ref 1 0),(1,.fn 98 [] []),(10,.is 22 (I Zm.g a.Measures)),(11,i64 (a.Measures.length:Int)),(12,i64 h)] [(2,.lst 106 3 false (I Zv.g i)),(1,.box (ck a b (.own 2)))])) (encE:=(fun(c:List Zv)=>(xq 0 [] [(2,.lst 106 3 false (I Zv.g c)),(1,.box (ck a b (.own 2)))]))) (fun⟨h,i⟩=>?_) B64 (0,x1)) fun c=>?_
 refine io ?_ (lf rfl)
 refine bo rg fun j=>?_
 refine bo (ok98 d h j) fun e=>?_
 refine bo (okn58 (d+4) e j.ID i a b) fun l=>?_
 exact lf rfl
 exact lf rfl
def Fn46 (x1:List Zv) (a:Z0) (b:Int):Option (List Zv):=
 (Fn64_8 x1 a b).bind fun c=>some c
theorem okn46 {k} (d) (x1:List Zv) (a:Z0) (b:Int):runR (XD k (d+7)) 46 [.ref 1 0] [(2,.lst 106 3 false (I Zv.g x1)),(1,.box (ck a b (.own 2)))] 3 false=(Fn46 x1 a b).map (fun(c:List Zv)=>((.tup [],[(2,.lst 106 3 false (I Zv.g c)),(1,.box (ck a b (.own 2)))],0))):=by
 rw[xd (fn:=p46) rfl]
 refine bo (okn64_8 d x1 a b) fun e=>?_
 exact lf rfl
def F99 (x1:Zp) (e:Ze) (b:Zk):Option Bool:=
 (F85 b.s' x1).bind fun⟨d,f⟩=>((if !f then some true else(F84 e).bind fun g=>some (!g):Option (Bool))).bind fun h=>if h||(d.Measure==x1.Measure)then some false else(lget b.s'.Measures x1.Measure).bind fun a=>(lget b.s'.Measures d.Measure).bind fun c=>some ((((((a.RepeatEnd !=0)||(a.Jump !=0))||((iand .i64 a.Labels 12)!=0))||(a.Endings !=c.Endings))||c.RepeatStart)||((iand .i64 c.Labels 3)!=0))
theorem ok99 {k} (d) (x1:Zp) (a:Ze) (b:Zk):OD k (d+5) 99 [.agg (Zp.g x1),.agg (Ze.g a),.ip [.ip (Zk.g b)]]=(F99 x1 a b).map (fun c=>bv c):=by
 rw[od (fn:=p99) rfl rfl rfl]
 refine bo (ok85 (d+1) b.s' x1) fun⟨f,h⟩=>?_
 refine bo (e:=id) ?_ fun j=>?_
 refine io (lf rfl) ?_
 refine bo (ok84 d a) fun i=>?_
 exact lf rfl
 refine bz (gor rfl) ?_
 refine io (lf rfl) ?_
 refine bo rg fun l=>?_
 refine bo rg fun m=>?_
 refine bz (gor rfl) ?_
 refine bz (gor rfl) ?_
 refine bz (gor rfl) ?_
 refine bz (gor rfl) ?_
 refine bz (gor rfl) ?_
 exact lf rfl
def Fn73_5 (x1:List Zv) (s:Z0) (t:Int):Option (List Zv):=
 (aO (E:=List Zv) (fun(⟨c,m⟩:Int×(List Zv))=>if decide (c<(s.Measures.length:Int))then(lget s.Measures c).bind fun n=>(aO (E:=List Zv) (fun(⟨d,o⟩:Int×(List Zv))=>if decide (d<(n.Cells.length:Int))then(lget n.Cells d).bind fun p=>(aO (E:=List Zv) (fun(⟨e,q⟩:Int×(List Zv))=>if decide (e<(p.Voices.length:Int))then(lget p.Voices e).bind fun r=>(aO (E:=List Zv) (fun(⟨a,b⟩:Int×(List Zv))=>if decide (a<(r.Events.length:Int))then(lget r.Events a).bind fun f=>(F99 (Zp.mk 4 0 d c e a 0) f (Zk.mk s t b)).bind fun g=>(Fn58 g f.ID b s t).bind fun h=>some (.inl ((w64 (a+1)),h))else some (.inr b)) B64 (0,q)).bind fun i=>some (.inl ((w64 (e+1)),i))else some (.inr q)) B64 (0,o)).bind fun j=>some (.inl ((w64 (d+1)),j))else some (.inr o)) B64 (0,m)).bind fun k=>some (.inl ((w64 (c+1)),k))else some (.inr m)) B64 (0,x1)).bind fun l=>some l
theorem okn73_5 {k} (d) (x1:List Zv) (c:Z0) (i:Int):runR (XD k (d+6)) 73 [.ref 1 0,.fn 99 [] [.ref 3 0]] [(3,.box [.ref 1 0]),(2,.lst 106 3 false (I Zv.g x1)),(1,.box (ck c i (.own 2)))] 4 false=(Fn73_5 x1 c i).map (fun(w:List Zv)=>((.tup [],[(3,.box [.ref 1 0]),(2,.lst 106 3 false (I Zv.g w)),(1,.box (ck c i (.own 2)))],0))):=by
 rw[xd (fn:=p73) rfl]
 refine bz lm ?_
 refine bo (aI (S:=Int×(List Zv)) (enc:=fun⟨b,s⟩=>(Q [(0,.ref 1 0),(1,.fn 99 [] [.ref 3 0]),(16,.is 22 (I Zm.g c.Measures)),(17,i64 (c.Measures.length:Int)),(18,i64 b)] [(3,.box [.ref 1 0]),(2,.lst 106 3 false (I Zv.g s)),(1,.box (ck c i (.own 2)))])) (encE:=(fun(r:List Zv)=>(xq 0 [] [(3,.box [.ref 1 0]),(2,.lst 106 3 false (I Zv.g r)),(1,.box (ck c i (.own 2)))]))) (fun⟨b,s⟩=>?_) B64 (0,x1)) fun r=>?_
 refine io ?_ (lf rfl)
 refine bo rg fun a=>?_
 refine bz lm ?_
 refine bo (aI (S:=Int×(List Zv)) (enc:=fun⟨e,t⟩=>(Q [(0,.ref 1 0),(1,.fn 99 [] [.ref 3 0]),(4,i64 b),(16,.is 22 (I Zm.g c.Measures)),(17,i64 (c.Measures.length:Int)),(18,i64 b),(24,.is 2 (I Zw.g a.Cells)),(25,i64 (a.Cells.length:Int)),(26,i64 e)] [(4,.box (Zm.g a)),(3,.box [.ref 1 0]),(2,.lst 106 3 false (I Zv.g t)),(1,.box (ck c i (.own 2)))])) (encE:=(fun(q:List Zv)=>(xq 2 [(0,.ref 1 0),(1,.fn 99 [] [.ref 3 0]),(16,.is 22 (I Zm.g c.Measures)),(17,i64 (c.Measures.length:Int)),(18,i64 b)] [(4,.box (Zm.g a)),(3,.box [.ref 1 0]),(2,.lst 106 3 false (I Zv.g q)),(1,.box (ck c i (.own 2)))]))) (fun⟨e,t⟩=>?_) B64 (0,s)) fun q=>?_
 refine io ?_ (lf rfl)
 refine bo rg fun f=>?_
 refine bz lm ?_
 refine bo (aI (S:=Int×(List Zv)) (enc:=fun⟨j,u⟩=>(Q [(0,.ref 1 0),(1,.fn 99 [] [.ref 3 0]),(4,i64 b),(6,i64 e),(16,.is 22 (I Zm.g c.Measures)),(17,i64 (c.Measures.length:Int)),(18,i64 b),(24,.is 2 (I Zw.g a.Cells)),(25,i64 (a.Cells.length:Int)),(26,i64 e),(32,.is 2 (I Zo.g f.Voices)),(33,i64 (f.Voices.length:Int)),(34,i64 j)] [(5,.box (Zw.g f)),(4,.box (Zm.g a)),(3,.box [.ref 1 0]),(2,.lst 106 3 false (I Zv.g u)),(1,.box (ck c i (.own 2)))])) (encE:=(fun(p:List Zv)=>(xq 4 [(0,.ref 1 0),(1,.fn 99 [] [.ref 3 0]),(4,i64 b),(16,.is 22 (I Zm.g c.Measures)),(17,i64 (c.Measures.length:Int)),(18,i64 b),(24,.is 2 (I Zw.g a.Cells)),(25,i64 (a.Cells.length:Int)),(26,i64 e)] [(5,.box (Zw.g f)),(4,.box (Zm.g a)),(3,.box [.ref 1 0]),(2,.lst 106 3 false (I Zv.g p)),(1,.box (ck c i (.own 2)))]))) (fun⟨j,u⟩=>?_) B64 (0,t)) fun p=>?_
 refine io ?_ (lf rfl)
 refine bo rg fun m=>?_
 refine bz lm ?_
 refine bo (aI (S:=Int×(List Zv)) (enc:=fun⟨l,h⟩=>(Q [(0,.ref 1 0),(1,.fn 99 [] [.ref 3 0]),(4,i64 b),(6,i64 e),(8,i64 j),(16,.is 22 (I Zm.g c.Measures)),(17,i64 (c.Measures.length:Int)),(18,i64 b),(24,.is 2 (I Zw.g a.Cells)),(25,i64 (a.Cells.length:Int)),(26,i64 e),(32,.is 2 (I Zo.g f.Voices)),(33,i64 (f.Voices.length:Int)),(34,i64 j),(40,.is 13 (I Ze.g m.Events)),(41,i64 (m.Events.length:Int)),(42,i64 l)] [(6,.box (Zo.g m)),(5,.box (Zw.g f)),(4,.box (Zm.g a)),(3,.box [.ref 1 0]),(2,.lst 106 3 false (I Zv.g h)),(1,.box (ck c i (.own 2)))])) (encE:=(fun(o:List Zv)=>(xq 6 [(0,.ref 1 0),(1,.fn 99 [] [.ref 3 0]),(4,i64 b),(6,i64 e),(16,.is 22 (I Zm.g c.Measures)),(17,i64 (c.Measures.length:Int)),(18,i64 b),(24,.is 2 (I Zw.g a.Cells)),(25,i64 (a.Cells.length:Int)),(26,i64 e),(32,.is 2 (I Zo.g f.Voices)),(33,i64 (f.Voices.length:Int)),(34,i64 j)] [(6,.box (Zo.g m)),(5,.box (Zw.g f)),(4,.box (Zm.g a)),(3,.box [.ref 1 0]),(2,.lst 106 3 false (I Zv.g o)),(1,.box (ck c i (.own 2)))]))) (fun⟨l,h⟩=>?_) B64 (0,u)) fun o=>?_
 refine io ?_ (lf rfl)
 refine bo rg fun n=>?_
 refine bo (ok99 d (Zp.mk 4 0 e b j l 0) n (Zk.mk c i h)) fun v=>?_
 refine bo (okn58 (d+4) v n.ID h c i) fun x=>?_
 exact lf rfl
 exact lf rfl
 exact lf rfl
 exact lf rfl
 exact lf rfl
def Fn47 (x1:List Zv) (a:Z0) (b:Int):Option (List Zv):=
 (Fn73_5 x1 a b).bind fun c=>some c
theorem okn47 {k} (d) (x1:List Zv) (a:Z0) (b:Int):runR (XD k (d+7)) 47 [.ref 1 0] [(2,.lst 106 3 false (I Zv.g x1)),(1,.box (ck a b (.own 2)))] 3 false=(Fn47 x1 a b).map (fun(c:List Zv)=>((.tup [],[(2,.lst 106 3 false (I Zv.g c)),(1,.box (ck a b (.own 2)))],0))):=by
 rw[xd (fn:=p47) rfl]
 refine bo (okn73_5 d x1 a b) fun e=>?_
 exact lf rfl
def F24 (x1:Z0):Option (List Zv):=
 ((if decide ((([]:List Zv).length:Int)>0)then((if false then some true else((if false then(lidx ([]:List Zv) 0).bind fun x2=>(lnth ([]:List Zv) x2).bind fun x3=>some (decide (x3.Rule<10))else some false:Option (Bool))).bind fun x4=>some x4:Option (Bool))).bind fun x5=>some x5 else some false:Option (Bool))).bind fun x6=>if x6 then some []else(Fn31 [] x1 1).bind fun t=>((if decide ((t.length:Int)>0)then((if true then some true else((if false then(lidx t 0).bind fun x8=>(lnth t x8).bind fun x9=>some (decide (x9.Rule<10))else some false:Option (Bool))).bind fun u=>some u:Option (Bool))).bind fun v=>some v else some false:Option (Bool))).bind fun w=>if w then some t else(Fn32 t x1 2).bind fun a=>((if decide ((a.length:Int)>0)then((if false then some true else((if false then(lidx a 0).bind fun x=>(lnth a x).bind fun y=>some (decide (y.Rule<10))else some false:Option (Bool))).bind fun z=>some z:Option (Bool))).bind fun A=>some A else some false:Option (Bool))).bind fun B=>if B then some a else(Fn33 a x1 3).bind fun b=>((if decide ((b.length:Int)>0)then((if false then some true else((if false then(lidx b 0).bind fun C=>(lnth b C).bind fun D=>some (decide (D.Rule<10))else some false:Option (Bool))).bind fun E=>some E:Option (Bool))).bind fun F=>some F else some false:Option (Bool))).bind fun G=>if G then some b else(Fn34 b x1 4).bind fun c=>((if decide ((c.length:Int)>0)then((if false then some true else((if false then(lidx c 0).bind fun H=>(lnth c H).bind fun J=>some (decide (J.Rule<10))else some false:Option (Bool))).bind fun K=>some K:Option (Bool))).bind fun L=>some L else some false:Option (Bool))).bind fun M=>if M then some c else(Fn35 c x1 5).bind fun d=>((if decide ((d.length:Int)>0)then((if false then some true else((if false then(lidx d 0).bind fun N=>(lnth d N).bind fun O=>some (decide (O.Rule<10))else some false:Option (Bool))).bind fun P=>some P:Option (Bool))).bind fun R=>some R else some false:Option (Bool))).bind fun S=>if S then some d else(Fn36 d x1 6).bind fun e=>((if decide ((e.length:Int)>0)then((if false then some true else((if false then(lidx e 0).bind fun T=>(lnth e T).bind fun U=>some (decide (U.Rule<10))else some false:Option (Bool))).bind fun V=>some V:Option (Bool))).bind fun W=>some W else some false:Option (Bool))).bind fun X=>if X then some e else(Fn37 e x1 7).bind fun f=>((if decide ((f.length:Int)>0)then((if false then some true else((if false then(lidx f 0).bind fun Y=>(lnth f Y).bind fun Z=>some (decide (Z.Rule<10))else some false:Option (Bool))).bind fun a0=>some a0:Option (Bool))).bind fun b0=>some b0 else some false:Option (Bool))).bind fun b4=>if b4 then some f else(Fn38 f x1 8).bind fun g=>((if decide ((g.length:Int)>0)then((if false then some true else((if false then(lidx g 0).bind fun b5=>(lnth g b5).bind fun b6=>some (decide (b6.Rule<10))else some false:Option (Bool))).bind fun b7=>some b7:Option (Bool))).bind fun b8=>some b8 else some false:Option (Bool))).bind fun b9=>if b9 then some g else(Fn39 g x1 9).bind fun h=>((if decide ((h.length:Int)>0)then((if false then some true else((if true then(lidx h 0).bind fun d0=>(lnth h d0).bind fun d1=>some (decide (d1.Rule<10))else some false:Option (Bool))).bind fun d2=>some d2:Option (Bool))).bind fun d3=>some d3 else some false:Option (Bool))).bind fun d4=>if d4 then some h else(Fn40 h x1 10).bind fun i=>((if decide ((i.length:Int)>0)then((if false then some true else((if true then(lidx i 0).bind fun d5=>(lnth i d5).bind fun d6=>some (decide (d6.Rule<10))else some false:Option (Bool))).bind fun d7=>some d7:Option (Bool))).bind fun d8=>some d8 else some false:Option (Bool))).bind fun d9=>if d9 then some i else(Fn41 i x1 11).bind fun j=>((if decide ((j.length:Int)>0)then((if false then some true else((if true then(lidx j 0).bind fun e0=>(lnth j e0).bind fun e1=>some (decide (e1.Rule<10))else some false:Option (Bool))).bind fun e2=>some e2:Option (Bool))).bind fun e3=>some e3 else some false:Option (Bool))).bind fun e4=>if e4 then some j else(Fn42 j x1 12).bind fun k=>((if decide ((k.length:Int)>0)then((if false then some true else((if true then(lidx k 0).bind fun e5=>(lnth k e5).bind fun e6=>some (decide (e6.Rule<10))else some false:Option (Bool))).bind fun e7=>some e7:Option (Bool))).bind fun e8=>some e8 else some false:Option (Bool))).bind fun e9=>if e9 then some k else(Fn43 k x1 13).bind fun l=>((if decide ((l.length:Int)>0)then((if false then some true else((if true then(lidx l 0).bind fun f0=>(lnth l f0).bind fun f1=>some (decide (f1.Rule<10))else some false:Option (Bool))).bind fun f2=>some f2:Option (Bool))).bind fun f3=>some f3 else some false:Option (Bool))).bind fun f5=>if f5 then some l else(Fn44 l x1 14).bind fun m=>((if decide ((m.length:Int)>0)then((if false then some true else((if true then(lidx m 0).bind fun f6=>(lnth m f6).bind fun f7=>some (decide (f7.Rule<10))else some false:Option (Bool))).bind fun f8=>some f8:Option (Bool))).bind fun f9=>some f9 else some false:Option (Bool))).bind fun g1=>if g1 then some m else(Fn45 m x1 15).bind fun n=>((if decide ((n.length:Int)>0)then((if false then some true else((if true then(lidx n 0).bind fun g3=>(lnth n g3).bind fun g4=>some (decide (g4.Rule<10))else some false:Option (Bool))).bind fun g5=>some g5:Option (Bool))).bind fun g6=>some g6 else some false:Option (Bool))).bind fun g7=>if g7 then some n else(Fn46 n x1 16).bind fun o=>((if decide ((o.length:Int)>0)then((if false then some true else((if true then(lidx o 0).bind fun g8=>(lnth o g8).bind fun g9=>some (decide (g9.Rule<10))else some false:Option (Bool))).bind fun p=>some p:Option (Bool))).bind fun q=>some q else some false:Option (Bool))).bind fun r=>if r then some o else(Fn47 o x1 17).bind fun s=>some s
theorem ok24 {k} (d) (x1:Z0):OD k (d+25) 24 [.agg (Z0.g x1)]=(F24 x1).map (fun y0=>.is 3 (I Zv.g y0)):=by
 rw[od (fn:=p24) rfl rfl rfl]
 refine bz (bV Zv.g ([]:List Zv)) ?_
 refine bo (e:=id) ?_ fun x6=>?_
 refine io ?_ (lf rfl)
 refine bo (e:=id) ?_ fun x5=>?_
 refine io (lf rfl) ?_
 refine bo (e:=id) ?_ fun x4=>?_
 refine io ?_ (lf rfl)
 refine bo (aW Zv.g ([]:List Zv) _) fun x2=>?_
 refine bo (bD (A:=Zv) (c:=Zv.g) (g:=fun R=>i64 R.Rule) (fun _=>rfl) ([]:List Zv) _) fun R=>?_
 exact lf rfl
 exact lf rfl
 exact lf rfl
 refine io (lf rfl) ?_
 refine bo (okn31 (d+19) [] x1 1) fun L=>?_
 refine bz (bV Zv.g L) ?_
 refine bo (e:=id) ?_ fun V=>?_
 refine io ?_ (lf rfl)
 refine bo (e:=id) ?_ fun U=>?_
 refine io (lf rfl) ?_
 refine bo (e:=id) ?_ fun T=>?_
 refine io ?_ (lf rfl)
 refine bo (aW Zv.g L _) fun x8=>?_
 refine bo (bD (A:=Zv) (c:=Zv.g) (g:=fun S=>i64 S.Rule) (fun _=>rfl) L _) fun S=>?_
 exact lf rfl
 exact lf rfl
 exact lf rfl
 refine io (lf rfl) ?_
 refine bo (okn32 (d+20) L x1 2) fun a=>?_
 refine bz (bV Zv.g a) ?_
 refine bo (e:=id) ?_ fun Z=>?_
 refine io ?_ (lf rfl)
 refine bo (e:=id) ?_ fun Y=>?_
 refine io (lf rfl) ?_
 refine bo (e:=id) ?_ fun X=>?_
 refine io ?_ (lf rfl)
 refine bo (aW Zv.g a _) fun W=>?_
 refine bo (bD (A:=Zv) (c:=Zv.g) (g:=fun u=>i64 u.Rule) (fun _=>rfl) a _) fun u=>?_
 exact lf rfl
 exact lf rfl
 exact lf rfl
 refine io (lf rfl) ?_
 refine bo (okn33 (d+21) a x1 3) fun b=>?_
 refine bz (bV Zv.g b) ?_
 refine bo (e:=id) ?_ fun b5=>?_
 refine io ?_ (lf rfl)
 refine bo (e:=id) ?_ fun b4=>?_
 refine io (lf rfl) ?_
 refine bo (e:=id) ?_ fun b0=>?_
 refine io ?_ (lf rfl)
 refine bo (aW Zv.g b _) fun a0=>?_
 refine bo (bD (A:=Zv) (c:=Zv.g) (g:=fun v=>i64 v.Rule) (fun _=>rfl) b _) fun v=>?_
 exact lf rfl
 exact lf rfl
 exact lf rfl
 refine io (lf rfl) ?_
 refine bo (okn34 (d+17) b x1 4) fun f=>?_
 refine bz (bV Zv.g f) ?_
 refine bo (e:=id) ?_ fun b9=>?_
 refine io ?_ (lf rfl)
 refine bo (e:=id) ?_ fun b8=>?_
 refine io (lf rfl) ?_
 refine bo (e:=id) ?_ fun b7=>?_
 refine io ?_ (lf rfl)
 refine bo (aW Zv.g f _) fun b6=>?_
 refine bo (bD (A:=Zv) (c:=Zv.g) (g:=fun w=>i64 w.Rule) (fun _=>rfl) f _) fun w=>?_
 exact lf rfl
 exact lf rfl
 exact lf rfl
 refine io (lf rfl) ?_
 refine bo (okn35 (d+17) f x1 5) fun h=>?_
 refine bz (bV Zv.g h) ?_
 refine bo (e:=id) ?_ fun d3=>?_
 refine io ?_ (lf rfl)
 refine bo (e:=id) ?_ fun d2=>?_
 refine io (lf rfl) ?_
 refine bo (e:=id) ?_ fun d1=>?_
 refine io ?_ (lf rfl)
 refine bo (aW Zv.g h _) fun d0=>?_
 refine bo (bD (A:=Zv) (c:=Zv.g) (g:=fun x=>i64 x.Rule) (fun _=>rfl) h _) fun x=>?_
 exact lf rfl
 exact lf rfl
 exact lf rfl
 refine io (lf rfl) ?_
 refine bo (okn36 d h x1 6) fun i=>?_
 refine bz (bV Zv.g i) ?_
 refine bo (e:=id) ?_ fun d7=>?_
 refine io ?_ (lf rfl)
 refine bo (e:=id) ?_ fun d6=>?_
 refine io (lf rfl) ?_
 refine bo (e:=id) ?_ fun d5=>?_
 refine io ?_ (lf rfl)
 refine bo (aW Zv.g i _) fun d4=>?_
 refine bo (bD (A:=Zv) (c:=Zv.g) (g:=fun y=>i64 y.Rule) (fun _=>rfl) i _) fun y=>?_
 exact lf rfl
 exact lf rfl
 exact lf rfl
 refine io (lf rfl) ?_
 refine bo (okn37 d i x1 7) fun j=>?_
 refine bz (bV Zv.g j) ?_
 refine bo (e:=id) ?_ fun e1=>?_
 refine io ?_ (lf rfl)
 refine bo (e:=id) ?_ fun e0=>?_
 refine io (lf rfl) ?_
 refine bo (e:=id) ?_ fun d9=>?_
 refine io ?_ (lf rfl)
 refine bo (aW Zv.g j _) fun d8=>?_
 refine bo (bD (A:=Zv) (c:=Zv.g) (g:=fun z=>i64 z.Rule) (fun _=>rfl) j _) fun z=>?_
 exact lf rfl
 exact lf rfl
 exact lf rfl
 refine io (lf rfl) ?_
 refine bo (okn38 (d+13) j x1 8) fun l=>?_
 refine bz (bV Zv.g l) ?_
 refine bo (e:=id) ?_ fun e5=>?_
 refine io ?_ (lf rfl)
 refine bo (e:=id) ?_ fun e4=>?_
 refine io (lf rfl) ?_
 refine bo (e:=id) ?_ fun e3=>?_
 refine io ?_ (lf rfl)
 refine bo (aW Zv.g l _) fun e2=>?_
 refine bo (bD (A:=Zv) (c:=Zv.g) (g:=fun B=>i64 B.Rule) (fun _=>rfl) l _) fun B=>?_
 exact lf rfl
 exact lf rfl
 exact lf rfl
 refine io (lf rfl) ?_
 refine bo (okn39 (d+13) l x1 9) fun m=>?_
 refine bz (bV Zv.g m) ?_
 refine bo (e:=id) ?_ fun e9=>?_
 refine io ?_ (lf rfl)
 refine bo (e:=id) ?_ fun e8=>?_
 refine io (lf rfl) ?_
 refine bo (e:=id) ?_ fun e7=>?_
 refine io ?_ (lf rfl)
 refine bo (aW Zv.g m _) fun e6=>?_
 refine bo (bD (A:=Zv) (c:=Zv.g) (g:=fun C=>i64 C.Rule) (fun _=>rfl) m _) fun C=>?_
 exact lf rfl
 exact lf rfl
 exact lf rfl
 refine io (lf rfl) ?_
 refine bo (okn40 (d+17) m x1 10) fun n=>?_
 refine bz (bV Zv.g n) ?_
 refine bo (e:=id) ?_ fun f3=>?_
 refine io ?_ (lf rfl)
 refine bo (e:=id) ?_ fun f2=>?_
 refine io (lf rfl) ?_
 refine bo (e:=id) ?_ fun f1=>?_
 refine io ?_ (lf rfl)
 refine bo (aW Zv.g n _) fun f0=>?_
 refine bo (bD (A:=Zv) (c:=Zv.g) (g:=fun D=>i64 D.Rule) (fun _=>rfl) n _) fun D=>?_
 exact lf rfl
 exact lf rfl
 exact lf rfl
 refine io (lf rfl) ?_
 refine bo (okn41 (d+21) n x1 11) fun o=>?_
 refine bz (bV Zv.g o) ?_
 refine bo (e:=id) ?_ fun f8=>?_
 refine io ?_ (lf rfl)
 refine bo (e:=id) ?_ fun f7=>?_
 refine io (lf rfl) ?_
 refine bo (e:=id) ?_ fun f6=>?_
 refine io ?_ (lf rfl)
 refine bo (aW Zv.g o _) fun f5=>?_
 refine bo (bD (A:=Zv) (c:=Zv.g) (g:=fun E=>i64 E.Rule) (fun _=>rfl) o _) fun E=>?_
 exact lf rfl
 exact lf rfl
 exact lf rfl
 refine io (lf rfl) ?_
 refine bo (okn42 (d+7) o x1 12) fun p=>?_
 refine bz (bV Zv.g p) ?_
 refine bo (e:=id) ?_ fun g4=>?_
 refine io ?_ (lf rfl)
 refine bo (e:=id) ?_ fun g3=>?_
 refine io (lf rfl) ?_
 refine bo (e:=id) ?_ fun g1=>?_
 refine io ?_ (lf rfl)
 refine bo (aW Zv.g p _) fun f9=>?_
 refine bo (bD (A:=Zv) (c:=Zv.g) (g:=fun F=>i64 F.Rule) (fun _=>rfl) p _) fun F=>?_
 exact lf rfl
 exact lf rfl
 exact lf rfl
 refine io (lf rfl) ?_
 refine bo (okn43 (d+7) p x1 13) fun q=>?_
 refine bz (bV Zv.g q) ?_
 refine bo (e:=id) ?_ fun g8=>?_
 refine io ?_ (lf rfl)
 refine bo (e:=id) ?_ fun g7=>?_
 refine io (lf rfl) ?_
 refine bo (e:=id) ?_ fun g6=>?_
 refine io ?_ (lf rfl)
 refine bo (aW Zv.g q _) fun g5=>?_
 refine bo (bD (A:=Zv) (c:=Zv.g) (g:=fun G=>i64 G.Rule) (fun _=>rfl) q _) fun G=>?_
 exact lf rfl
 exact lf rfl
 exact lf rfl
 refine io (lf rfl) ?_
 refine bo (okn44 (d+19) q x1 14) fun r=>?_
 refine bz (bV Zv.g r) ?_
 refine bo (e:=id) ?_ fun h3=>?_
 refine io ?_ (lf rfl)
 refine bo (e:=id) ?_ fun h2=>?_
 refine io (lf rfl) ?_
 refine bo (e:=id) ?_ fun h0=>?_
 refine io ?_ (lf rfl)
 refine bo (aW Zv.g r _) fun g9=>?_
 refine bo (bD (A:=Zv) (c:=Zv.g) (g:=fun H=>i64 H.Rule) (fun _=>rfl) r _) fun H=>?_
 exact lf rfl
 exact lf rfl
 exact lf rfl
 refine io (lf rfl) ?_
 refine bo (okn45 (d+16) r x1 15) fun s=>?_
 refine bz (bV Zv.g s) ?_
 refine bo (e:=id) ?_ fun h7=>?_
 refine io ?_ (lf rfl)
 refine bo (e:=id) ?_ fun h6=>?_
 refine io (lf rfl) ?_
 refine bo (e:=id) ?_ fun h5=>?_
 refine io ?_ (lf rfl)
 refine bo (aW Zv.g s _) fun h4=>?_
 refine bo (bD (A:=Zv) (c:=Zv.g) (g:=fun J=>i64 J.Rule) (fun _=>rfl) s _) fun J=>?_
 exact lf rfl
 exact lf rfl
 exact lf rfl
 refine io (lf rfl) ?_
 refine bo (okn46 (d+17) s x1 16) fun t=>?_
 refine bz (bV Zv.g t) ?_
 refine bo (e:=id) ?_ fun O=>?_
 refine io ?_ (lf rfl)
 refine bo (e:=id) ?_ fun N=>?_
 refine io (lf rfl) ?_
 refine bo (e:=id) ?_ fun M=>?_
 refine io ?_ (lf rfl)
 refine bo (aW Zv.g t _) fun h8=>?_
 refine bo (bD (A:=Zv) (c:=Zv.g) (g:=fun K=>i64 K.Rule) (fun _=>rfl) t _) fun K=>?_
 exact lf rfl
 exact lf rfl
 exact lf rfl
 refine io (lf rfl) ?_
 refine bo (okn47 (d+17) t x1 17) fun P=>?_
 exact lf rfl
def F9 (x1:Z0):Option Bool:=
 (F24 x1).bind fun a=>some ((a.length:Int)==0)
theorem ok9 {k} (d) (x1:Z0):OD k (d+26) 9 [.agg (Z0.g x1)]=(F9 x1).map (fun a=>bv a):=by
 rw[od (fn:=p9) rfl rfl rfl]
 refine bo (ok24 d x1) fun b=>?_
 refine bz lm ?_
 exact lf rfl
def F21 (x1:Z0) (a:Int):Option Int:=
 (F9 x1).bind fun b=>if !b then some 24 else if(decide (a<0))||(decide (a>=(x1.Parts.length:Int)))then some 2 else some 0
theorem ok21 {k} (d) (x1:Z0) (a:Int):OD k (d+27) 21 [.agg (Z0.g x1),i64 a]=(F21 x1 a).map (fun b=>i64 b):=by
 rw[od (fn:=p21) rfl rfl rfl]
 refine bo (ok9 d x1) fun c=>?_
 refine io (lf rfl) ?_
 refine bz (gor (bz lm rfl)) ?_
 refine io (lf rfl) (lf rfl)
def F49_2 (x1:ByteArray) (f:Bool) (b:List Zj):Option Int:=
 (aO (E:=Int) (fun(⟨c,a⟩:Int×Int)=>if decide (a<(b.length:Int))then(lget b a).bind fun d=>some (.inl ((w64 (c+(d.Staves.length:Int))),(w64 (a+1))))else some (.inr c)) B64 (0,0)).bind fun e=>some e
theorem ok49_2 {k} (d) (x1:ByteArray) (b:Bool) (a:List Zj):OD k (d+1) 49 [.agg [.v (.string x1),bv b,.is 6 (I Zj.g a),.v (.slice none 0 0),.v (.slice none 0 0),.v (.slice none 0 0)]]=(F49_2 x1 b a).map (fun h=>i64 h):=by
 rw[od (fn:=p49) rfl rfl rfl]
 refine bz lm ?_
 refine bo (aI (S:=Int×Int) (enc:=fun⟨c,e⟩=>(Q [(3,i64 c),(7,.is 6 (I Zj.g a)),(8,i64 (a.length:Int)),(9,i64 e)] [(0,.box [.v (.string x1),bv b,.is 6 (I Zj.g a),.v (.slice none 0 0),.v (.slice none 0 0),.v (.slice none 0 0)])])) (encE:=(fun(f:Int)=>(xq 0 [(3,i64 f)] [(0,.box [.v (.string x1),bv b,.is 6 (I Zj.g a),.v (.slice none 0 0),.v (.slice none 0 0),.v (.slice none 0 0)])]))) (fun⟨c,e⟩=>?_) B64 (0,0)) fun f=>?_
 refine io ?_ (lf rfl)
 refine bo rg fun i=>?_
 refine bz lm ?_
 exact lf rfl
 exact lf rfl
def F27 (x1:Z0) (a:Int):Option (Int×Int):=
 if(decide (a<0))||(decide (a>=(x1.Parts.length:Int)))then some (0,2)else(fO x1.Parts 0 a).bind fun b=>(F49_2 (⟨#[]⟩:ByteArray) false b).bind fun c=>some (c,0)
theorem ok27 {k} (d) (x1:Z0) (a:Int):OD k (d+2) 27 [.agg (Z0.g x1),i64 a]=(F27 x1 a).map (fun⟨c,e⟩=>.tup [i64 c,i64 e]):=by
 rw[od (fn:=p27) rfl rfl rfl]
 refine bz (gor (bz lm rfl)) ?_
 refine io (lf rfl) ?_
 refine bo (eT _ _ _ _) fun b=>?_
 refine bo (ok49_2 d (⟨#[]⟩:ByteArray) false b) fun f=>?_
 exact lf rfl
def F13 (x1:Z0) (x2:Int):Option (Zh×Zh×Bool):=
 (F21 x1 x2).bind fun x3=>if x3 !=0 then some ((Zh.mk 0 0 0),(Zh.mk 0 0 0),false)else(F27 x1 x2).bind fun⟨x4,x5⟩=>(aO (E:=Bool×Zh×Zh) (fun(⟨k,K,L,b,l,m⟩:Bool×Int×Int×Int×Zh×Zh)=>if decide (b<(x1.Measures.length:Int))then(lget x1.Measures b).bind fun M=>(lget x1.Parts x2).bind fun N=>(fO M.Cells x4 (w64 (x4+(N.Staves.length:Int)))).bind fun n=>(aO (E:=Bool×Int×Int×Zh×Zh) (fun(⟨o,p,q,c,r,s⟩:Bool×Int×Int×Int×Zh×Zh)=>if decide (c<(n.length:Int))then(lget n c).bind fun t=>(aO (E:=Bool×Int×Int×Zh×Zh) (fun(⟨u,v,w,d,x,y⟩:Bool×Int×Int×Int×Zh×Zh)=>if decide (d<(t.Voices.length:Int))then(lget t.Voices d).bind fun z=>(aO (E:=Bool×Int×Int×Zh×Zh) (fun(⟨A,B,C,e,D,F⟩:Bool×Int×Int×Int×Zh×Zh)=>if decide (e<(z.Events.length:Int))then(lget z.Events e).bind fun G=>(aO (E:=Bool×Int×Int×Zh×Zh) (fun(⟨f,g,h,i,H,J⟩:Bool×Int×Int×Int×Zh×Zh)=>if decide (i<(G.Heads.length:Int))then(lget G.Heads i).bind fun j=>(F28 j.Pitch).bind fun⟨a,d8⟩=>((if(!f)||(decide (a<g))then some (a,j.Pitch)else some (g,J):Option (Int×Zh))).bind fun⟨O,P⟩=>((if(!f)||(decide (a>h))then some (a,j.Pitch)else some (h,H):Option (Int×Zh))).bind fun⟨R,S⟩=>some (.inl (true,O,R,(w64 (i+1)),S,P))else some (.inr (f,g,h,H,J))) B64 (A,B,C,0,D,F)).bind fun⟨T,U,V,W,X⟩=>some (.inl (T,U,V,(w64 (e+1)),W,X))else some (.inr (A,B,C,D,F))) B64 (u,v,w,0,x,y)).bind fun⟨Y,Z,a0,b0,b4⟩=>some (.inl (Y,Z,a0,(w64 (d+1)),b0,b4))else some (.inr (u,v,w,x,y))) B64 (o,p,q,0,r,s)).bind fun⟨b5,b6,b7,b8,b9⟩=>some (.inl (b5,b6,b7,(w64 (c+1)),b8,b9))else some (.inr (o,p,q,r,s))) B64 (k,K,L,0,l,m)).bind fun⟨d0,d1,d2,d3,d4⟩=>some (.inl (d0,d1,d2,(w64 (b+1)),d3,d4))else some (.inr (k,l,m))) B64 (false,0,0,0,(Zh.mk 0 0 0),(Zh.mk 0 0 0))).bind fun⟨d5,d6,d7⟩=>some (d7,d6,d5)
theorem ok13 {k} (d) (x1:Z0) (n:Int):OD k (d+28) 13 [.agg (Z0.g x1),i64 n]=(F13 x1 n).map (fun⟨y0,y1,y2⟩=>.tup [.agg (Zh.g y0),.agg (Zh.g y1),bv y2]):=by
 rw[od (fn:=p13) rfl rfl rfl]
 refine bo (ok21 d x1 n) fun x3=>?_
 refine io (lf rfl) ?_
 refine bo (ok27 (d+25) x1 n) fun⟨u,x5⟩=>?_
 refine bz lm ?_
 refine bo (aI (S:=Bool×Int×Int×Int×Zh×Zh) (enc:=fun⟨p,q,r,f,s,t⟩=>(Q [(1,i64 n),(2,.ref 0 0),(4,.ref 1 0),(5,.ref 2 0),(6,bv p),(7,i64 u),(9,i64 q),(10,i64 r),(36,.is 22 (I Zm.g x1.Measures)),(37,i64 (x1.Measures.length:Int)),(38,i64 f)] [(2,.box (Zh.g s)),(1,.box (Zh.g t)),(0,.box (Z0.g x1))])) (encE:=(fun(⟨d9,e0,e1⟩:Bool×Zh×Zh)=>(xq 0 [(4,.ref 1 0),(5,.ref 2 0),(6,bv d9)] [(2,.box (Zh.g e0)),(1,.box (Zh.g e1)),(0,.box (Z0.g x1))]))) (fun⟨p,q,r,f,s,t⟩=>?_) B64 (false,0,0,0,(Zh.mk 0 0 0),(Zh.mk 0 0 0))) fun⟨d9,e0,e1⟩=>?_
 refine io ?_ (lf rfl)
 refine bo rg fun h=>?_
 refine bo rg fun e3=>?_
 refine bz lm ?_
 refine bo (eT _ _ _ _) fun b=>?_
 refine bz lm ?_
 refine bo (aI (S:=Bool×Int×Int×Int×Zh×Zh) (enc:=fun⟨v,w,x,i,y,z⟩=>(Q [(1,i64 n),(2,.ref 0 0),(4,.ref 1 0),(5,.ref 2 0),(6,bv v),(7,i64 u),(9,i64 w),(10,i64 x),(36,.is 22 (I Zm.g x1.Measures)),(37,i64 (x1.Measures.length:Int)),(38,i64 f),(54,.is 2 (I Zw.g b)),(55,i64 (b.length:Int)),(56,i64 i)] [(3,.box (Zm.g h)),(2,.box (Zh.g y)),(1,.box (Zh.g z)),(0,.box (Z0.g x1))])) (encE:=(fun(⟨d4,d5,d6,d7,d8⟩:Bool×Int×Int×Zh×Zh)=>(xq 2 [(1,i64 n),(2,.ref 0 0),(4,.ref 1 0),(5,.ref 2 0),(6,bv d4),(7,i64 u),(9,i64 d5),(10,i64 d6),(36,.is 22 (I Zm.g x1.Measures)),(37,i64 (x1.Measures.length:Int)),(38,i64 f)] [(3,.box (Zm.g h)),(2,.box (Zh.g d7)),(1,.box (Zh.g d8)),(0,.box (Z0.g x1))]))) (fun⟨v,w,x,i,y,z⟩=>?_) B64 (p,q,r,0,s,t)) fun⟨d4,d5,d6,d7,d8⟩=>?_
 refine io ?_ (lf rfl)
 refine bo rg fun a=>?_
 refine bz lm ?_
 refine bo (aI (S:=Bool×Int×Int×Int×Zh×Zh) (enc:=fun⟨A,B,C,l,D,E⟩=>(Q [(1,i64 n),(2,.ref 0 0),(4,.ref 1 0),(5,.ref 2 0),(6,bv A),(7,i64 u),(9,i64 B),(10,i64 C),(36,.is 22 (I Zm.g x1.Measures)),(37,i64 (x1.Measures.length:Int)),(38,i64 f),(54,.is 2 (I Zw.g b)),(55,i64 (b.length:Int)),(56,i64 i),(61,.is 2 (I Zo.g a.Voices)),(62,i64 (a.Voices.length:Int)),(63,i64 l)] [(4,.box (Zw.g a)),(3,.box (Zm.g h)),(2,.box (Zh.g D)),(1,.box (Zh.g E)),(0,.box (Z0.g x1))])) (encE:=(fun(⟨b9,d0,d1,d2,d3⟩:Bool×Int×Int×Zh×Zh)=>(xq 4 [(1,i64 n),(2,.ref 0 0),(4,.ref 1 0),(5,.ref 2 0),(6,bv b9),(7,i64 u),(9,i64 d0),(10,i64 d1),(36,.is 22 (I Zm.g x1.Measures)),(37,i64 (x1.Measures.length:Int)),(38,i64 f),(54,.is 2 (I Zw.g b)),(55,i64 (b.length:Int)),(56,i64 i)] [(4,.box (Zw.g a)),(3,.box (Zm.g h)),(2,.box (Zh.g d2)),(1,.box (Zh.g d3)),(0,.box (Z0.g x1))]))) (fun⟨A,B,C,l,D,E⟩=>?_) B64 (v,w,x,0,y,z)) fun⟨b9,d0,d1,d2,d3⟩=>?_
 refine io ?_ (lf rfl)
 refine bo rg fun c=>?_
 refine bz lm ?_
 refine bo (aI (S:=Bool×Int×Int×Int×Zh×Zh) (enc:=fun⟨F,G,H,m,J,K⟩=>(Q [(1,i64 n),(2,.ref 0 0),(4,.ref 1 0),(5,.ref 2 0),(6,bv F),(7,i64 u),(9,i64 G),(10,i64 H),(36,.is 22 (I Zm.g x1.Measures)),(37,i64 (x1.Measures.length:Int)),(38,i64 f),(54,.is 2 (I Zw.g b)),(55,i64 (b.length:Int)),(56,i64 i),(61,.is 2 (I Zo.g a.Voices)),(62,i64 (a.Voices.length:Int)),(63,i64 l),(68,.is 13 (I Ze.g c.Events)),(69,i64 (c.Events.length:Int)),(70,i64 m)] [(5,.box (Zo.g c)),(4,.box (Zw.g a)),(3,.box (Zm.g h)),(2,.box (Zh.g J)),(1,.box (Zh.g K)),(0,.box (Z0.g x1))])) (encE:=(fun(⟨b4,b5,b6,b7,b8⟩:Bool×Int×Int×Zh×Zh)=>(xq 6 [(1,i64 n),(2,.ref 0 0),(4,.ref 1 0),(5,.ref 2 0),(6,bv b4),(7,i64 u),(9,i64 b5),(10,i64 b6),(36,.is 22 (I Zm.g x1.Measures)),(37,i64 (x1.Measures.length:Int)),(38,i64 f),(54,.is 2 (I Zw.g b)),(55,i64 (b.length:Int)),(56,i64 i),(61,.is 2 (I Zo.g a.Voices)),(62,i64 (a.Voices.length:Int)),(63,i64 l)] [(5,.box (Zo.g c)),(4,.box (Zw.g a)),(3,.box (Zm.g h)),(2,.box (Zh.g b7)),(1,.box (Zh.g b8)),(0,.box (Z0.g x1))]))) (fun⟨F,G,H,m,J,K⟩=>?_) B64 (A,B,C,0,D,E)) fun⟨b4,b5,b6,b7,b8⟩=>?_
 refine io ?_ (lf rfl)
 refine bo rg fun j=>?_
 refine bz lm ?_
 refine bo (aI (S:=Bool×Int×Int×Int×Zh×Zh) (enc:=fun⟨L,T,M,o,N,U⟩=>(Q [(1,i64 n),(2,.ref 0 0),(4,.ref 1 0),(5,.ref 2 0),(6,bv L),(7,i64 u),(9,i64 T),(10,i64 M),(36,.is 22 (I Zm.g x1.Measures)),(37,i64 (x1.Measures.length:Int)),(38,i64 f),(54,.is 2 (I Zw.g b)),(55,i64 (b.length:Int)),(56,i64 i),(61,.is 2 (I Zo.g a.Voices)),(62,i64 (a.Voices.length:Int)),(63,i64 l),(68,.is 13 (I Ze.g c.Events)),(69,i64 (c.Events.length:Int)),(70,i64 m),(75,.is 5 (I Zb.g j.Heads)),(76,i64 (j.Heads.length:Int)),(77,i64 o)] [(6,.box (Ze.g j)),(5,.box (Zo.g c)),(4,.box (Zw.g a)),(3,.box (Zm.g h)),(2,.box (Zh.g N)),(1,.box (Zh.g U)),(0,.box (Z0.g x1))])) (encE:=(fun(⟨X,Y,Z,a0,b0⟩:Bool×Int×Int×Zh×Zh)=>(xq 8 [(1,i64 n),(2,.ref 0 0),(4,.ref 1 0),(5,.ref 2 0),(6,bv X),(7,i64 u),(9,i64 Y),(10,i64 Z),(36,.is 22 (I Zm.g x1.Measures)),(37,i64 (x1.Measures.length:Int)),(38,i64 f),(54,.is 2 (I Zw.g b)),(55,i64 (b.length:Int)),(56,i64 i),(61,.is 2 (I Zo.g a.Voices)),(62,i64 (a.Voices.length:Int)),(63,i64 l),(68,.is 13 (I Ze.g c.Events)),(69,i64 (c.Events.length:Int)),(70,i64 m)] [(6,.box (Ze.g j)),(5,.box (Zo.g c)),(4,.box (Zw.g a)),(3,.box (Zm.g h)),(2,.box (Zh.g a0)),(1,.box (Zh.g b0)),(0,.box (Z0.g x1))]))) (fun⟨L,T,M,o,N,U⟩=>?_) B64 (F,G,H,0,J,K)) fun⟨X,Y,Z,a0,b0⟩=>?_
 refine io ?_ (lf rfl)
 refine bo rg fun O=>?_
 refine bo (ok28 (d+23) O.Pitch) fun⟨e2,e4⟩=>?_
 refine bz (gor rfl) ?_
 refine bo (e:=(fun(⟨P,R⟩:Int×Zh)=>(nq [(1,i64 n),(2,.ref 0 0),(4,.ref 1 0),(5,.ref 2 0),(6,bv L),(7,i64 u),(9,i64 P),(10,i64 M),(20,.ref 7 0),(21,i64 e2),(36,.is 22 (I Zm.g x1.Measures)),(37,i64 (x1.Measures.length:Int)),(38,i64 f),(54,.is 2 (I Zw.g b)),(55,i64 (b.length:Int)),(56,i64 i),(61,.is 2 (I Zo.g a.Voices)),(62,i64 (a.Voices.length:Int)),(63,i64 l),(68,.is 13 (I Ze.g c.Events)),(69,i64 (c.Events.length:Int)),(70,i64 m),(75,.is 5 (I Zb.g j.Heads)),(76,i64 (j.Heads.length:Int)),(77,i64 o)] [(7,.box (Zb.g O)),(6,.box (Ze.g j)),(5,.box (Zo.g c)),(4,.box (Zw.g a)),(3,.box (Zm.g h)),(2,.box (Zh.g N)),(1,.box (Zh.g R)),(0,.box (Z0.g x1))]))) ?_ fun⟨P,R⟩=>?_
 refine io (lf rfl) (lf rfl)
 refine bz (gor rfl) ?_
 refine bo (e:=(fun(⟨V,W⟩:Int×Zh)=>(nq [(1,i64 n),(2,.ref 0 0),(4,.ref 1 0),(5,.ref 2 0),(7,i64 u),(9,i64 P),(10,i64 V),(36,.is 22 (I Zm.g x1.Measures)),(37,i64 (x1.Measures.length:Int)),(38,i64 f),(54,.is 2 (I Zw.g b)),(55,i64 (b.length:Int)),(56,i64 i),(61,.is 2 (I Zo.g a.Voices)),(62,i64 (a.Voices.length:Int)),(63,i64 l),(68,.is 13 (I Ze.g c.Events)),(69,i64 (c.Events.length:Int)),(70,i64 m),(75,.is 5 (I Zb.g j.Heads)),(76,i64 (j.Heads.length:Int)),(77,i64 o)] [(7,.box (Zb.g O)),(6,.box (Ze.g j)),(5,.box (Zo.g c)),(4,.box (Zw.g a)),(3,.box (Zm.g h)),(2,.box (Zh.g W)),(1,.box (Zh.g R)),(0,.box (Z0.g x1))]))) ?_ fun⟨V,W⟩=>?_
 refine io (lf rfl) (lf rfl)
 exact lf rfl
 exact lf rfl
 exact lf rfl
 exact lf rfl
 exact lf rfl
 exact lf rfl
def F14 (x1:Z0) (c:Int):Option Int:=
 (aO (E:=Int) (fun(⟨b,a⟩:Int×Int)=>if decide (a<c)then(lget x1.Parts a).bind fun d=>some (.inl ((w64 (b+(d.Staves.length:Int))),(w64 (a+1))))else some (.inr b)) B64 (0,0)).bind fun e=>some e
theorem ok14 {k} (d) (x1:Z0) (a:Int):OD k (d+1) 14 [.agg (Z0.g x1),i64 a]=(F14 x1 a).map (fun f=>i64 f):=by
 rw[od (fn:=p14) rfl rfl rfl]
 refine bo (aI (S:=Int×Int) (enc:=fun⟨b,c⟩=>(Q [(1,i64 a),(2,.ref 0 0),(5,i64 b),(6,i64 c)] [(0,.box (Z0.g x1))])) (encE:=(fun(e:Int)=>(xq 0 [(5,i64 e)] [(0,.box (Z0.g x1))]))) (fun⟨b,c⟩=>?_) B64 (0,0)) fun e=>?_
 refine io ?_ (lf rfl)
 refine bo rg fun h=>?_
 refine bz lm ?_
 exact lf rfl
 exact lf rfl
def F15 (x1:Z0) (A B:Int) (C:Bool):Option (List Zh):=
 (aO (E:=List Zh) (fun(⟨b,h⟩:Int×(List Zh))=>if decide (b<(x1.Measures.length:Int))then(aO (E:=List Zh) (fun(⟨c,i⟩:Int×(List Zh))=>if decide (c<B)then(lget x1.Measures b).bind fun p=>(lget p.Cells c).bind fun j=>(aO (E:=List Zh) (fun(⟨d,k⟩:Int×(List Zh))=>if decide (d<(j.Voices.length:Int))then(lget j.Voices d).bind fun l=>(aO (E:=List Zh) (fun(⟨e,m⟩:Int×(List Zh))=>if decide (e<(l.Events.length:Int))then(lget l.Events e).bind fun a=>(aO (E:=List Zh) (fun(⟨f,n⟩:Int×(List Zh))=>if decide (f<(a.Heads.length:Int))then(lget a.Heads f).bind fun q=>(lapp false n [q.Pitch]).bind fun r=>some (.inl ((w64 (f+1)),r))else some (.inr n)) B64 (0,m)).bind fun s=>(aO (E:=List Zh) (fun(⟨g,o⟩:Int×(List Zh))=>if(decide (g<(a.Graces.length:Int)))&&C then(lget a.Graces g).bind fun t=>(lapp false o [t.Pitch]).bind fun u=>some (.inl ((w64 (g+1)),u))else some (.inr o)) B64 (0,s)).bind fun v=>some (.inl ((w64 (e+1)),v))else some (.inr m)) B64 (0,k)).bind fun w=>some (.inl ((w64 (d+1)),w))else some (.inr k)) B64 (0,i)).bind fun x=>some (.inl ((w64 (c+1)),x))else some (.inr i)) B64 (A,h)).bind fun y=>some (.inl ((w64 (b+1)),y))else some (.inr h)) B64 (0,[])).bind fun z=>some z
theorem ok15 {k} (d) (x1:Z0) (j l:Int) (m:Bool):OD k (d+1) 15 [.agg (Z0.g x1),i64 j,i64 l,bv m]=(F15 x1 j l m).map (fun G=>.is 3 (I Zh.g G)):=by
 rw[od (fn:=p15) rfl rfl rfl]
 refine bo (aI (S:=Int×(List Zh)) (enc:=fun⟨c,n⟩=>(Q [(1,i64 j),(2,i64 l),(3,bv m),(4,.ref 0 0),(9,.own 1),(10,i64 c)] [(1,.lst 54 3 false (I Zh.g n)),(0,.box (Z0.g x1))])) (encE:=(fun(A:List Zh)=>(xq 0 [(9,.own 1)] [(1,.lst 54 3 false (I Zh.g A)),(0,.box (Z0.g x1))]))) (fun⟨c,n⟩=>?_) B64 (0,[])) fun A=>?_
 refine bz lm ?_
 refine io ?_ (lf rfl)
 refine bo (aI (S:=Int×(List Zh)) (enc:=fun⟨e,o⟩=>(Q [(1,i64 j),(2,i64 l),(3,bv m),(4,.ref 0 0),(9,.own 1),(10,i64 c),(11,i64 e)] [(1,.lst 54 3 false (I Zh.g o)),(0,.box (Z0.g x1))])) (encE:=(fun(z:List Zh)=>(xq 2 [(1,i64 j),(2,i64 l),(3,bv m),(4,.ref 0 0),(9,.own 1),(10,i64 c)] [(1,.lst 54 3 false (I Zh.g z)),(0,.box (Z0.g x1))]))) (fun⟨e,o⟩=>?_) B64 (j,n)) fun z=>?_
 refine io ?_ (lf rfl)
 refine bo rg fun D=>?_
 refine bo rg fun b=>?_
 refine bz lm ?_
 refine bo (aI (S:=Int×(List Zh)) (enc:=fun⟨f,p⟩=>(Q [(1,i64 j),(2,i64 l),(3,bv m),(4,.ref 0 0),(9,.own 1),(10,i64 c),(11,i64 e),(41,.is 2 (I Zo.g b.Voices)),(42,i64 (b.Voices.length:Int)),(43,i64 f)] [(1,.lst 54 3 false (I Zh.g p)),(0,.box (Z0.g x1))])) (encE:=(fun(y:List Zh)=>(xq 4 [(1,i64 j),(2,i64 l),(3,bv m),(4,.ref 0 0),(9,.own 1),(10,i64 c),(11,i64 e)] [(1,.lst 54 3 false (I Zh.g y)),(0,.box (Z0.g x1))]))) (fun⟨f,p⟩=>?_) B64 (0,o)) fun y=>?_
 refine io ?_ (lf rfl)
 refine bo rg fun a=>?_
 refine bz lm ?_
 refine bo (aI (S:=Int×(List Zh)) (enc:=fun⟨h,q⟩=>(Q [(1,i64 j),(2,i64 l),(3,bv m),(4,.ref 0 0),(9,.own 1),(10,i64 c),(11,i64 e),(41,.is 2 (I Zo.g b.Voices)),(42,i64 (b.Voices.length:Int)),(43,i64 f),(48,.is 13 (I Ze.g a.Events)),(49,i64 (a.Events.length:Int)),(50,i64 h)] [(2,.box (Zo.g a)),(1,.lst 54 3 false (I Zh.g q)),(0,.box (Z0.g x1))])) (encE:=(fun(x:List Zh)=>(xq 6 [(1,i64 j),(2,i64 l),(3,bv m),(4,.ref 0 0),(9,.own 1),(10,i64 c),(11,i64 e),(41,.is 2 (I Zo.g b.Voices)),(42,i64 (b.Voices.length:Int)),(43,i64 f)] [(2,.box (Zo.g a)),(1,.lst 54 3 false (I Zh.g x)),(0,.box (Z0.g x1))]))) (fun⟨h,q⟩=>?_) B64 (0,p)) fun x=>?_
 refine io ?_ (lf rfl)
 refine bo rg fun i=>?_
 refine bz lm ?_
 refine bo (aI (S:=Int×(List Zh)) (enc:=fun⟨u,r⟩=>(Q [(1,i64 j),(2,i64 l),(3,bv m),(4,.ref 0 0),(9,.own 1),(10,i64 c),(11,i64 e),(15,.ref 3 0),(41,.is 2 (I Zo.g b.Voices)),(42,i64 (b.Voices.length:Int)),(43,i64 f),(48,.is 13 (I Ze.g a.Events)),(49,i64 (a.Events.length:Int)),(50,i64 h),(55,.is 5 (I Zb.g i.Heads)),(56,i64 (i.Heads.length:Int)),(57,i64 u)] [(3,.box (Ze.g i)),(2,.box (Zo.g a)),(1,.lst 54 3 false (I Zh.g r)),(0,.box (Z0.g x1))])) (encE:=(fun(s:List Zh)=>(xq 8 [(1,i64 j),(2,i64 l),(3,bv m),(4,.ref 0 0),(9,.own 1),(10,i64 c),(11,i64 e),(15,.ref 3 0),(41,.is 2 (I Zo.g b.Voices)),(42,i64 (b.Voices.length:Int)),(43,i64 f),(48,.is 13 (I Ze.g a.Events)),(49,i64 (a.Events.length:Int)),(50,i64 h)] [(3,.box (Ze.g i)),(2,.box (Zo.g a)),(1,.lst 54 3 false (I Zh.g s)),(0,.box (Z0.g x1))]))) (fun⟨u,r⟩=>?_) B64 (0,q)) fun s=>?_
 refine io ?_ (lf rfl)
 refine bo rg fun B=>?_
 refine bo (bL false Zh.g r [B.Pitch]) fun E=>?_
 exact lf rfl
 refine bo (aI (S:=Int×(List Zh)) (enc:=fun⟨v,t⟩=>(Q [(1,i64 j),(2,i64 l),(3,bv m),(4,.ref 0 0),(9,.own 1),(10,i64 c),(11,i64 e),(15,.ref 3 0),(18,i64 v),(41,.is 2 (I Zo.g b.Voices)),(42,i64 (b.Voices.length:Int)),(43,i64 f),(48,.is 13 (I Ze.g a.Events)),(49,i64 (a.Events.length:Int)),(50,i64 h)] [(3,.box (Ze.g i)),(2,.box (Zo.g a)),(1,.lst 54 3 false (I Zh.g t)),(0,.box (Z0.g x1))])) (encE:=(fun(w:List Zh)=>(xq 10 [(1,i64 j),(2,i64 l),(3,bv m),(4,.ref 0 0),(9,.own 1),(10,i64 c),(11,i64 e),(41,.is 2 (I Zo.g b.Voices)),(42,i64 (b.Voices.length:Int)),(43,i64 f),(48,.is 13 (I Ze.g a.Events)),(49,i64 (a.Events.length:Int)),(50,i64 h)] [(3,.box (Ze.g i)),(2,.box (Zo.g a)),(1,.lst 54 3 false (I Zh.g w)),(0,.box (Z0.g x1))]))) (fun⟨v,t⟩=>?_) B64 (0,s)) fun w=>?_
 refine bz lm ?_
 refine bz (gand rfl) ?_
 refine io ?_ (lf rfl)
 refine bo rg fun C=>?_
 refine bo (bL false Zh.g t [C.Pitch]) fun F=>?_
 exact lf rfl
 exact lf rfl
 exact lf rfl
 exact lf rfl
 exact lf rfl
 exact lf rfl
def F16 (x1:Zh):Option Int:=
 (F28 x1).bind fun⟨a,b⟩=>some a
theorem ok16 {k} (d) (x1:Zh):OD k (d+5) 16 [.agg (Zh.g x1)]=(F16 x1).map (fun a=>i64 a):=by
 rw[od (fn:=p16) rfl rfl rfl]
 refine bo (ok28 d x1) fun⟨b,c⟩=>?_
 exact lf rfl
def F4 (x1:Z0) (j:Int):Option Bool:=
 (F5 x1).bind fun z=>((if !z then some true else(some true).bind fun A=>some (!A):Option (Bool))).bind fun B=>if B then(some true).bind fun C=>some C else(F13 x1 j).bind fun⟨c,d,y⟩=>(F9 x1).bind fun k=>if((!k)||(decide (j<0)))||(decide (j>=(x1.Parts.length:Int)))then some (((!y)&&(((c.Step==0)&&((c.Alter==0)&&((c.Octave==0)&&true)))!=false))&&(((d.Step==0)&&((d.Alter==0)&&((d.Octave==0)&&true)))!=false))else(F14 x1 j).bind fun i=>(lget x1.Parts j).bind fun l=>(F15 x1 i (w64 (i+(l.Staves.length:Int))) false).bind fun a=>if(a.length:Int)==0 then some (((!y)&&(((c.Step==0)&&((c.Alter==0)&&((c.Octave==0)&&true)))!=false))&&(((d.Step==0)&&((d.Alter==0)&&((d.Octave==0)&&true)))!=false))else(lget a 0).bind fun m=>(lget a 0).bind fun n=>(aO (E:=Zh×Zh) (fun(⟨b,e,f⟩:Int×Zh×Zh)=>if decide (b<(a.length:Int))then(lget a b).bind fun o=>(F16 o).bind fun p=>(F16 f).bind fun q=>((if decide (p<q)then(lget a b).bind fun r=>some r else some f:Option (Zh))).bind fun s=>(lget a b).bind fun t=>(F16 t).bind fun u=>(F16 e).bind fun v=>((if decide (u>v)then(lget a b).bind fun w=>some w else some e:Option (Zh))).bind fun x=>some (.inl ((w64 (b+1)),x,s))else some (.inr (e,f))) B64 (1,n,m)).bind fun⟨g,h⟩=>some ((y&&(((c.Step==h.Step)&&((c.Alter==h.Alter)&&((c.Octave==h.Octave)&&true)))!=false))&&(((d.Step==g.Step)&&((d.Alter==g.Alter)&&((d.Octave==g.Octave)&&true)))!=false))
theorem ok4 (d) (x1:Z0) (m:Int):OD true (d+29) 4 [.agg (Z0.g x1),i64 m]=(F4 x1 m).map (fun C=>bv C):=by
 rw[od (fn:=p4) rfl rfl rfl]
 refine bo (ok5 (d+26) x1) fun D=>?_
 refine bo (e:=id) ?_ fun F=>?_
 refine io (lf rfl) ?_
 refine bo (eW1 (d+28)) fun E=>?_
 exact lf rfl
 refine io ?_ ?_
 refine bo (eW1 (d+28)) fun G=>?_
 exact lf rfl
 refine bo (ok13 d x1 m) fun⟨n,o,p⟩=>?_
 refine bo (ok9 (d+2) x1) fun v=>?_
 refine bz (gor rfl) ?_
 refine bz (gor (bz lm rfl)) ?_
 refine io ?_ ?_
 refine bz (gand rfl) ?_
 refine bz (gand rfl) ?_
 exact lf rfl
 refine bo (ok14 (d+27) x1 m) fun i=>?_
 refine bo rg fun q=>?_
 refine bz lm ?_
 refine bo (ok15 (d+27) x1 i (w64 (i+(q.Staves.length:Int))) false) fun c=>?_
 refine bz lm ?_
 refine io ?_ ?_
 refine bz (gand rfl) ?_
 refine bz (gand rfl) ?_
 exact lf rfl
 refine bo rg fun r=>?_
 refine bo rg fun s=>?_
 refine bo (aI (S:=Int×Zh×Zh) (enc:=fun⟨a,b,f⟩=>(Q [(5,.ref 1 0),(6,.ref 2 0),(7,bv p),(9,.is 3 (I Zh.g c)),(10,.ref 3 0),(11,.ref 4 0),(12,i64 a)] [(4,.box (Zh.g b)),(3,.box (Zh.g f)),(2,.box (Zh.g o)),(1,.box (Zh.g n)),(0,.box (Z0.g x1))])) (encE:=(fun(⟨k,l⟩:Zh×Zh)=>(xq 0 [(5,.ref 1 0),(6,.ref 2 0),(7,bv p),(10,.ref 3 0),(11,.ref 4 0)] [(4,.box (Zh.g k)),(3,.box (Zh.g l)),(2,.box (Zh.g o)),(1,.box (Zh.g n)),(0,.box (Z0.g x1))]))) (fun⟨a,b,f⟩=>?_) B64 (1,s,r)) fun⟨k,l⟩=>?_
 refine bz lm ?_
 refine io ?_ (lf rfl)
 refine bo rg fun t=>?_
 refine bo (ok16 (d+23) t) fun w=>?_
 refine bo (ok16 (d+23) f) fun x=>?_
 refine bo (e:=(fun(h:Zh)=>(nq [(5,.ref 1 0),(6,.ref 2 0),(7,bv p),(9,.is 3 (I Zh.g c)),(10,.ref 3 0),(11,.ref 4 0),(12,i64 a)] [(4,.box (Zh.g b)),(3,.box (Zh.g h)),(2,.box (Zh.g o)),(1,.box (Zh.g n)),(0,.box (Z0.g x1))]))) ?_ fun h=>?_
 refine io ?_ (lf rfl)
 refine bo rg fun y=>?_
 exact lf rfl
 refine bo rg fun u=>?_
 refine bo (ok16 (d+23) u) fun z=>?_
 refine bo (ok16 (d+23) b) fun A=>?_
 refine bo (e:=(fun(j:Zh)=>(nq [(5,.ref 1 0),(6,.ref 2 0),(7,bv p),(9,.is 3 (I Zh.g c)),(10,.ref 3 0),(11,.ref 4 0),(12,i64 a)] [(4,.box (Zh.g j)),(3,.box (Zh.g h)),(2,.box (Zh.g o)),(1,.box (Zh.g n)),(0,.box (Z0.g x1))]))) ?_ fun j=>?_
 refine io ?_ (lf rfl)
 refine bo rg fun B=>?_
 exact lf rfl
 exact lf rfl
 refine bz (gand rfl) ?_
 refine bz (gand rfl) ?_
 exact lf rfl
end Go.P
