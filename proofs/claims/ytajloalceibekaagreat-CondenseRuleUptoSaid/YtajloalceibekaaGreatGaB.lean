import Derived.Test.YtajloalceibekaaGreatGaA
/- A text of the proof. -/
set_option linter.all false
set_option maxRecDepth 100000
set_option maxHeartbeats 2000000
namespace Go.P
open Go.Sim (Ex OpK CK)
open K (I Q rq nq xq ck)
def F123 (c:Z0) (d:Int):Option (Int×Int×Int):=
 if decide (d<0)then some (0,0,2)else(aO (E:=(Int×Int)⊕Unit) (fun(⟨b,a⟩:Int×Int)=>if decide (a<(c.Parts.length:Int))then(lget c.Parts a).bind fun e=>if decide (b<(e.Staves.length:Int))then some (.inr (.inl (a,b)))else some (.inl ((w64 (b-(e.Staves.length:Int))),(w64 (a+1))))else some (.inr (.inr ()))) B64 (d,0)).bind fun f=>(match f with|.inl ⟨x7,x8⟩=>some (x7,x8,0)|.inr _=>some (0,0,2))
theorem ok123 {k} (d) (a:Z0) (b:Int):OD k (d+1) 123 [.agg (Z0.g a),i64 b]=(F123 a b).map (fun⟨j,l,m⟩=>.tup [i64 j,i64 l,i64 m]):=by
 rw[od (fn:=p123) rfl rfl rfl]
 refine io (lf rfl) ?_
 refine bz lm ?_
 refine bo (aI (S:=Int×Int) (enc:=fun⟨c,e⟩=>(Q [(1,i64 c),(12,.is 6 (I Zj.g a.Parts)),(13,i64 (a.Parts.length:Int)),(14,i64 e)] [(0,.box (Z0.g a))])) (encE:=(fun|.inl ⟨f,h⟩=>(rq [(4,i64 f),(5,i64 h),(6,i64 0)] [(0,.box (Z0.g a))])|.inr _=>(xq 0 [] [(0,.box (Z0.g a))]))) (fun⟨c,e⟩=>?_) B64 (b,0)) fun i=>?_
 refine io ?_ (lf rfl)
 refine bo rg fun n=>?_
 refine bz lm ?_
 refine io (lf rfl) ?_
 refine bz lm ?_
 exact lf rfl
 rcases i with⟨f,h⟩|_
 exact lf rfl
 exact lf rfl
def F124 (a:Zh) (b:Int):Option Bool:=
 (F125 a).bind fun⟨c,e⟩=>(F105 (w64 (c+b)) 0 127).bind fun d=>some (!d)
theorem ok124 {k} (d) (a:Zh) (b:Int):OD k (d+5) 124 [.agg (Zh.g a),.ip [i64 b]]=(F124 a b).map (fun e=>bv e):=by
 rw[od (fn:=p124) rfl rfl rfl]
 refine bo (ok125 d a) fun⟨c,f⟩=>?_
 refine bo (ok105 (d+3) (w64 (c+b)) 0 127) fun h=>?_
 exact lf rfl
def F127 (a:Zb) (b:Int):Option Bool:=
 (F124 a.Pitch b).bind fun c=>some c
theorem ok127 {k} (d) (a:Zb) (b:Int):OD k (d+6) 127 [.agg (Zb.g a),.ip [.fn 124 [] [.ip [i64 b]]]]=(F127 a b).map (fun c=>bv c):=by
 rw[od (fn:=p127) rfl rfl rfl]
 refine bo (ok124 d a.Pitch b) fun e=>?_
 exact lf rfl
def F195 (b:List Zb) (c:Int):Option Int:=
 (aO (E:=Int⊕Unit) (fun(a:Int)=>if decide (a<(b.length:Int))then(lget b a).bind fun d=>(F127 d c).bind fun e=>if e then some (.inr (.inl a))else some (.inl (w64 (a+1)))else some (.inr (.inr ()))) B64 0).bind fun f=>(match f with|.inl x8=>some x8|.inr _=>some (-1))
theorem ok195 {k} (d) (a:List Zb) (b:Int):OD k (d+7) 195 [.is 5 (I Zb.g a),.fn 127 [] [.ip [.fn 124 [] [.ip [i64 b]]]]]=(F195 a b).map (fun i=>i64 i):=by
 rw[od (fn:=p195) rfl rfl rfl]
 refine bz lm ?_
 refine bo (aI (S:=Int) (enc:=fun c=>(Q [(0,.is 5 (I Zb.g a)),(1,.fn 127 [] [.ip [.fn 124 [] [.ip [i64 b]]]]),(7,i64 (a.length:Int)),(8,i64 c)] [])) (encE:=(fun|.inl e=>(rq [(4,i64 e)] [])|.inr _=>(xq 0 [] []))) (fun c=>?_) B64 0) fun h=>?_
 refine io ?_ (lf rfl)
 refine bo rg fun f=>?_
 refine bo (ok127 d f b) fun j=>?_
 refine io (lf rfl) (lf rfl)
 rcases h with e|_
 exact lf rfl
 exact lf rfl
def F126 (a:List Zb) (b:Int):Option Bool:=
 (F195 a b).bind fun c=>some (decide (c>=0))
theorem ok126 {k} (d) (a:List Zb) (b:Int):OD k (d+8) 126 [.is 5 (I Zb.g a),.fn 127 [] [.ip [.fn 124 [] [.ip [i64 b]]]]]=(F126 a b).map (fun c=>bv c):=by
 rw[od (fn:=p126) rfl rfl rfl]
 refine bo (ok195 d a b) fun e=>?_
 exact lf rfl
def F129 (a:Zd) (b:Int):Option Bool:=
 (F124 a.Pitch b).bind fun c=>some c
theorem ok129 {k} (d) (a:Zd) (b:Int):OD k (d+6) 129 [.agg (Zd.g a),.ip [.fn 124 [] [.ip [i64 b]]]]=(F129 a b).map (fun c=>bv c):=by
 rw[od (fn:=p129) rfl rfl rfl]
 refine bo (ok124 d a.Pitch b) fun e=>?_
 exact lf rfl
def F196 (b:List Zd) (c:Int):Option Int:=
 (aO (E:=Int⊕Unit) (fun(a:Int)=>if decide (a<(b.length:Int))then(lget b a).bind fun d=>(F129 d c).bind fun e=>if e then some (.inr (.inl a))else some (.inl (w64 (a+1)))else some (.inr (.inr ()))) B64 0).bind fun f=>(match f with|.inl x8=>some x8|.inr _=>some (-1))
theorem ok196 {k} (d) (a:List Zd) (b:Int):OD k (d+7) 196 [.is 5 (I Zd.g a),.fn 129 [] [.ip [.fn 124 [] [.ip [i64 b]]]]]=(F196 a b).map (fun i=>i64 i):=by
 rw[od (fn:=p196) rfl rfl rfl]
 refine bz lm ?_
 refine bo (aI (S:=Int) (enc:=fun c=>(Q [(0,.is 5 (I Zd.g a)),(1,.fn 129 [] [.ip [.fn 124 [] [.ip [i64 b]]]]),(7,i64 (a.length:Int)),(8,i64 c)] [])) (encE:=(fun|.inl e=>(rq [(4,i64 e)] [])|.inr _=>(xq 0 [] []))) (fun c=>?_) B64 0) fun h=>?_
 refine io ?_ (lf rfl)
 refine bo rg fun f=>?_
 refine bo (ok129 d f b) fun j=>?_
 refine io (lf rfl) (lf rfl)
 rcases h with e|_
 exact lf rfl
 exact lf rfl
def F128 (a:List Zd) (b:Int):Option Bool:=
 (F196 a b).bind fun c=>some (decide (c>=0))
theorem ok128 {k} (d) (a:List Zd) (b:Int):OD k (d+8) 128 [.is 5 (I Zd.g a),.fn 129 [] [.ip [.fn 124 [] [.ip [i64 b]]]]]=(F128 a b).map (fun c=>bv c):=by
 rw[od (fn:=p128) rfl rfl rfl]
 refine bo (ok196 d a b) fun e=>?_
 exact lf rfl
def F122 (h:Zp) (e:Ze) (f:Zk):Option Bool:=
 (F121 e).bind fun i=>if i !=0 then some false else(F123 f.s' h.Staff).bind fun⟨j,m,k⟩=>((if k==0 then(lget f.s'.Parts j).bind fun l=>some l.Transpose.Semitones else some 0:Option (Int))).bind fun g=>((if f.s'.Written then some (w64 (0-g))else some g:Option (Int))).bind fun a=>(F126 e.Heads a).bind fun b=>((if b then some true else(F128 e.Graces a).bind fun c=>some c:Option (Bool))).bind fun d=>some d
theorem ok122 {k} (d) (c:Zp) (b:Ze) (f:Zk):OD k (d+9) 122 [.agg (Zp.g c),.agg (Ze.g b),.ip [.ip (Zk.g f)]]=(F122 c b f).map (fun m=>bv m):=by
 rw[od (fn:=p122) rfl rfl rfl]
 refine bo (ok121 d b) fun n=>?_
 refine io (lf rfl) ?_
 refine bo (ok123 (d+7) f.s' c.Staff) fun⟨o,p,q⟩=>?_
 refine bo (e:=(fun(h:Int)=>(nq [(2,.ip [.ip (Zk.g f)]),(4,.ref 1 0),(6,.ref 2 0)] [(2,.box [i64 h]),(1,.box (Ze.g b)),(0,.box (Zp.g c))]))) ?_ fun h=>?_
 refine io ?_ (lf rfl)
 refine bo rg fun r=>?_
 exact lf rfl
 refine bo (e:=(fun(a:Int)=>(nq [(4,.ref 1 0),(6,.ref 2 0)] [(2,.box [i64 a]),(1,.box (Ze.g b)),(0,.box (Zp.g c))]))) ?_ fun a=>?_
 refine io (lf rfl) (lf rfl)
 refine bo (ok126 d b.Heads a) fun i=>?_
 refine bo (e:=id) ?_ fun l=>?_
 refine io (lf rfl) ?_
 refine bo (ok128 d b.Graces a) fun j=>?_
 exact lf rfl
 exact lf rfl
def Fn119_2 (u:List Zv) (s:Z0) (t:Int):Option (List Zv):=
 (aO (E:=List Zv) (fun(⟨c,m⟩:Int×(List Zv))=>if decide (c<(s.Measures.length:Int))then(lget s.Measures c).bind fun n=>(aO (E:=List Zv) (fun(⟨d,o⟩:Int×(List Zv))=>if decide (d<(n.Cells.length:Int))then(lget n.Cells d).bind fun p=>(aO (E:=List Zv) (fun(⟨e,q⟩:Int×(List Zv))=>if decide (e<(p.Voices.length:Int))then(lget p.Voices e).bind fun r=>(aO (E:=List Zv) (fun(⟨a,b⟩:Int×(List Zv))=>if decide (a<(r.Events.length:Int))then(lget r.Events a).bind fun f=>(F122 (Zp.mk 4 0 d c e a 0) f (Zk.mk s t b)).bind fun g=>(Fn103 g f.ID b s t).bind fun h=>some (.inl ((w64 (a+1)),h))else some (.inr b)) B64 (0,q)).bind fun i=>some (.inl ((w64 (e+1)),i))else some (.inr q)) B64 (0,o)).bind fun j=>some (.inl ((w64 (d+1)),j))else some (.inr o)) B64 (0,m)).bind fun k=>some (.inl ((w64 (c+1)),k))else some (.inr m)) B64 (0,u)).bind fun l=>some l
theorem okn119_2 {k} (d) (x:List Zv) (c:Z0) (i:Int):runR (XD k (d+10)) 119 [.ref 1 0,.fn 122 [] [.ref 3 0]] [(3,.box [.ref 1 0]),(2,.lst 129 3 false (I Zv.g x)),(1,.box (ck c i (.own 2)))] 4 false=(Fn119_2 x c i).map (fun(w:List Zv)=>((.tup [],[(3,.box [.ref 1 0]),(2,.lst 129 3 false (I Zv.g w)),(1,.box (ck c i (.own 2)))],0))):=by
 rw[xd (fn:=p119) rfl]
 refine bz lm ?_
 refine bo (aI (S:=Int×(List Zv)) (enc:=fun⟨b,s⟩=>(Q [(0,.ref 1 0),(1,.fn 122 [] [.ref 3 0]),(16,.is 22 (I Zm.g c.Measures)),(17,i64 (c.Measures.length:Int)),(18,i64 b)] [(3,.box [.ref 1 0]),(2,.lst 129 3 false (I Zv.g s)),(1,.box (ck c i (.own 2)))])) (encE:=(fun(r:List Zv)=>(xq 0 [] [(3,.box [.ref 1 0]),(2,.lst 129 3 false (I Zv.g r)),(1,.box (ck c i (.own 2)))]))) (fun⟨b,s⟩=>?_) B64 (0,x)) fun r=>?_
 refine io ?_ (lf rfl)
 refine bo rg fun a=>?_
 refine bz lm ?_
 refine bo (aI (S:=Int×(List Zv)) (enc:=fun⟨e,t⟩=>(Q [(0,.ref 1 0),(1,.fn 122 [] [.ref 3 0]),(4,i64 b),(16,.is 22 (I Zm.g c.Measures)),(17,i64 (c.Measures.length:Int)),(18,i64 b),(24,.is 2 (I Zw.g a.Cells)),(25,i64 (a.Cells.length:Int)),(26,i64 e)] [(4,.box (Zm.g a)),(3,.box [.ref 1 0]),(2,.lst 129 3 false (I Zv.g t)),(1,.box (ck c i (.own 2)))])) (encE:=(fun(q:List Zv)=>(xq 2 [(0,.ref 1 0),(1,.fn 122 [] [.ref 3 0]),(16,.is 22 (I Zm.g c.Measures)),(17,i64 (c.Measures.length:Int)),(18,i64 b)] [(4,.box (Zm.g a)),(3,.box [.ref 1 0]),(2,.lst 129 3 false (I Zv.g q)),(1,.box (ck c i (.own 2)))]))) (fun⟨e,t⟩=>?_) B64 (0,s)) fun q=>?_
 refine io ?_ (lf rfl)
 refine bo rg fun f=>?_
 refine bz lm ?_
 refine bo (aI (S:=Int×(List Zv)) (enc:=fun⟨j,u⟩=>(Q [(0,.ref 1 0),(1,.fn 122 [] [.ref 3 0]),(4,i64 b),(6,i64 e),(16,.is 22 (I Zm.g c.Measures)),(17,i64 (c.Measures.length:Int)),(18,i64 b),(24,.is 2 (I Zw.g a.Cells)),(25,i64 (a.Cells.length:Int)),(26,i64 e),(32,.is 2 (I Zo.g f.Voices)),(33,i64 (f.Voices.length:Int)),(34,i64 j)] [(5,.box (Zw.g f)),(4,.box (Zm.g a)),(3,.box [.ref 1 0]),(2,.lst 129 3 false (I Zv.g u)),(1,.box (ck c i (.own 2)))])) (encE:=(fun(p:List Zv)=>(xq 4 [(0,.ref 1 0),(1,.fn 122 [] [.ref 3 0]),(4,i64 b),(16,.is 22 (I Zm.g c.Measures)),(17,i64 (c.Measures.length:Int)),(18,i64 b),(24,.is 2 (I Zw.g a.Cells)),(25,i64 (a.Cells.length:Int)),(26,i64 e)] [(5,.box (Zw.g f)),(4,.box (Zm.g a)),(3,.box [.ref 1 0]),(2,.lst 129 3 false (I Zv.g p)),(1,.box (ck c i (.own 2)))]))) (fun⟨j,u⟩=>?_) B64 (0,t)) fun p=>?_
 refine io ?_ (lf rfl)
 refine bo rg fun m=>?_
 refine bz lm ?_
 refine bo (aI (S:=Int×(List Zv)) (enc:=fun⟨l,h⟩=>(Q [(0,.ref 1 0),(1,.fn 122 [] [.ref 3 0]),(4,i64 b),(6,i64 e),(8,i64 j),(16,.is 22 (I Zm.g c.Measures)),(17,i64 (c.Measures.length:Int)),(18,i64 b),(24,.is 2 (I Zw.g a.Cells)),(25,i64 (a.Cells.length:Int)),(26,i64 e),(32,.is 2 (I Zo.g f.Voices)),(33,i64 (f.Voices.length:Int)),(34,i64 j),(40,.is 13 (I Ze.g m.Events)),(41,i64 (m.Events.length:Int)),(42,i64 l)] [(6,.box (Zo.g m)),(5,.box (Zw.g f)),(4,.box (Zm.g a)),(3,.box [.ref 1 0]),(2,.lst 129 3 false (I Zv.g h)),(1,.box (ck c i (.own 2)))])) (encE:=(fun(o:List Zv)=>(xq 6 [(0,.ref 1 0),(1,.fn 122 [] [.ref 3 0]),(4,i64 b),(6,i64 e),(16,.is 22 (I Zm.g c.Measures)),(17,i64 (c.Measures.length:Int)),(18,i64 b),(24,.is 2 (I Zw.g a.Cells)),(25,i64 (a.Cells.length:Int)),(26,i64 e),(32,.is 2 (I Zo.g f.Voices)),(33,i64 (f.Voices.length:Int)),(34,i64 j)] [(6,.box (Zo.g m)),(5,.box (Zw.g f)),(4,.box (Zm.g a)),(3,.box [.ref 1 0]),(2,.lst 129 3 false (I Zv.g o)),(1,.box (ck c i (.own 2)))]))) (fun⟨l,h⟩=>?_) B64 (0,u)) fun o=>?_
 refine io ?_ (lf rfl)
 refine bo rg fun n=>?_
 refine bo (ok122 d (Zp.mk 4 0 e b j l 0) n (Zk.mk c i h)) fun v=>?_
 refine bo (okn103 (d+8) v n.ID h c i) fun y=>?_
 exact lf rfl
 exact lf rfl
 exact lf rfl
 exact lf rfl
 exact lf rfl
def Fn55 (a:List Zv) (b:Z0) (c:Int):Option (List Zv):=
 (Fn119_2 a b c).bind fun d=>some d
theorem okn55 {k} (d) (c:List Zv) (a:Z0) (b:Int):runR (XD k (d+11)) 55 [.ref 1 0] [(2,.lst 129 3 false (I Zv.g c)),(1,.box (ck a b (.own 2)))] 3 false=(Fn55 c a b).map (fun(e:List Zv)=>((.tup [],[(2,.lst 129 3 false (I Zv.g e)),(1,.box (ck a b (.own 2)))],0))):=by
 rw[xd (fn:=p55) rfl]
 refine bo (okn119_2 d c a b) fun f=>?_
 exact lf rfl
def F197 (a:Zb):Option Bool:=
 some a.Tied
theorem ok197 {k} (d) (a:Zb):OD k (d+1) 197 [.agg (Zb.g a)]=(F197 a).map (fun b=>bv b):=by
 rw[od (fn:=p197) rfl rfl rfl]
 exact lf rfl
def F195_2 (b:List Zb):Option Int:=
 (aO (E:=Int⊕Unit) (fun(a:Int)=>if decide (a<(b.length:Int))then(lget b a).bind fun c=>(F197 c).bind fun d=>if d then some (.inr (.inl a))else some (.inl (w64 (a+1)))else some (.inr (.inr ()))) B64 0).bind fun e=>(match e with|.inl x7=>some x7|.inr _=>some (-1))
theorem ok195_2 {k} (d) (a:List Zb):OD k (d+2) 195 [.is 5 (I Zb.g a),.fn 197 [] []]=(F195_2 a).map (fun h=>i64 h):=by
 rw[od (fn:=p195) rfl rfl rfl]
 refine bz lm ?_
 refine bo (aI (S:=Int) (enc:=fun b=>(Q [(0,.is 5 (I Zb.g a)),(1,.fn 197 [] []),(7,i64 (a.length:Int)),(8,i64 b)] [])) (encE:=(fun|.inl c=>(rq [(4,i64 c)] [])|.inr _=>(xq 0 [] []))) (fun b=>?_) B64 0) fun f=>?_
 refine io ?_ (lf rfl)
 refine bo rg fun e=>?_
 refine bo (ok197 d e) fun i=>?_
 refine io (lf rfl) (lf rfl)
 rcases f with c|_
 exact lf rfl
 exact lf rfl
def F126_2 (a:List Zb):Option Bool:=
 (F195_2 a).bind fun b=>some (decide (b>=0))
theorem ok126_2 {k} (d) (a:List Zb):OD k (d+3) 126 [.is 5 (I Zb.g a),.fn 197 [] []]=(F126_2 a).map (fun b=>bv b):=by
 rw[od (fn:=p126) rfl rfl rfl]
 refine bo (ok195_2 d a) fun c=>?_
 exact lf rfl
def F131 (a:Ze):Option Bool:=
 ((if a.Kind==1 then(F126_2 a.Heads).bind fun b=>some b else some false:Option (Bool))).bind fun c=>some c
theorem ok131 {k} (d) (a:Ze):OD k (d+4) 131 [.agg (Ze.g a)]=(F131 a).map (fun b=>bv b):=by
 rw[od (fn:=p131) rfl rfl rfl]
 refine bo (e:=id) ?_ fun f=>?_
 refine io ?_ (lf rfl)
 refine bo (ok126_2 d a.Heads) fun c=>?_
 exact lf rfl
 exact lf rfl
def F199 (b:Z0) (a c g:Int):Option (List Ze):=
 ((if((decide (a<0))||(decide (a>=(b.Measures.length:Int))))||(decide (c<0))then some true else(lget b.Measures a).bind fun h=>some (decide (c>=(h.Cells.length:Int))):Option (Bool))).bind fun i=>((if i||(decide (g<0))then some true else(lget b.Measures a).bind fun j=>(lget j.Cells c).bind fun k=>some (decide (g>=(k.Voices.length:Int))):Option (Bool))).bind fun l=>if l then some []else(lget b.Measures a).bind fun d=>(lget d.Cells c).bind fun e=>(lget e.Voices g).bind fun f=>some f.Events
theorem ok199 {k} (d) (a:Z0) (b c f:Int):OD k (d+1) 199 [.agg (Z0.g a),i64 b,i64 c,i64 f]=(F199 a b c f).map (fun l=>.is 13 (I Ze.g l)):=by
 rw[od (fn:=p199) rfl rfl rfl]
 refine bz (gor (bz lm rfl)) ?_
 refine bz (gor rfl) ?_
 refine bo (e:=id) ?_ fun n=>?_
 refine io (lf rfl) ?_
 refine bo rg fun m=>?_
 refine bz lm ?_
 exact lf rfl
 refine bz (gor rfl) ?_
 refine bo (e:=id) ?_ fun q=>?_
 refine io (lf rfl) ?_
 refine bo rg fun o=>?_
 refine bo rg fun p=>?_
 refine bz lm ?_
 exact lf rfl
 refine io (lf rfl) ?_
 refine bo rg fun h=>?_
 refine bo rg fun i=>?_
 refine bo rg fun j=>?_
 exact lf rfl
def F198 (b:Z0) (a:Zp):Option Int:=
 if a.Kind !=4 then some 11 else((if decide (a.Event<0)then some true else(F199 b a.Measure a.Staff a.Voice).bind fun c=>some (decide (a.Event>=(c.length:Int))):Option (Bool))).bind fun d=>if d then some 2 else some 0
theorem ok198 {k} (d) (b:Z0) (a:Zp):OD k (d+2) 198 [.agg (Z0.g b),.agg (Zp.g a)]=(F198 b a).map (fun c=>i64 c):=by
 rw[od (fn:=p198) rfl rfl rfl]
 refine io (lf rfl) ?_
 refine bo (e:=id) ?_ fun h=>?_
 refine io (lf rfl) ?_
 refine bo (ok199 d b a.Measure a.Staff a.Voice) fun f=>?_
 refine bz lm ?_
 exact lf rfl
 refine io (lf rfl) (lf rfl)
def F200 (a b:Int) (c d:Int):Option Zp:=
 some (Zp.mk 4 0 b a c d 0)
theorem ok200 {k} (d) (a b:Int) (c e:Int):OD k (d+1) 200 [i64 a,i64 b,i64 c,i64 e]=(F200 a b c e).map (fun f=>.agg (Zp.g f)):=by
 rw[od (fn:=p200) rfl rfl rfl]
 exact lf rfl
def F132 (b:Z0) (a:Zp):Option (Zp×Bool):=
 (F198 b a).bind fun c=>if c !=0 then some ((Zp.mk 0 0 0 0 0 0 0),false)else(F199 b a.Measure a.Staff a.Voice).bind fun d=>if decide ((w64 (a.Event+1))<(d.length:Int))then(F200 a.Measure a.Staff a.Voice (w64 (a.Event+1))).bind fun e=>some (e,true)else(F199 b (w64 (a.Measure+1)) a.Staff a.Voice).bind fun f=>if decide ((f.length:Int)>0)then(F200 (w64 (a.Measure+1)) a.Staff a.Voice 0).bind fun g=>some (g,true)else some ((Zp.mk 0 0 0 0 0 0 0),false)
theorem ok132 {k} (d) (b:Z0) (a:Zp):OD k (d+3) 132 [.agg (Z0.g b),.agg (Zp.g a)]=(F132 b a).map (fun⟨c,e⟩=>.tup [.agg (Zp.g c),bv e]):=by
 rw[od (fn:=p132) rfl rfl rfl]
 refine bo (ok198 d b a) fun f=>?_
 refine io (lf rfl) ?_
 refine bo (ok199 (d+1) b a.Measure a.Staff a.Voice) fun h=>?_
 refine bz lm ?_
 refine io ?_ ?_
 refine bo (ok200 (d+1) a.Measure a.Staff a.Voice (w64 (a.Event+1))) fun i=>?_
 exact lf rfl
 refine bo (ok199 (d+1) b (w64 (a.Measure+1)) a.Staff a.Voice) fun j=>?_
 refine bz lm ?_
 refine io ?_ (lf rfl)
 refine bo (ok200 (d+1) (w64 (a.Measure+1)) a.Staff a.Voice 0) fun l=>?_
 exact lf rfl
def Fn73 (a:Ze):Option ((List Zb)×(List Zd)×(List Zy)):=
 (gS a.Heads).bind fun b=>(gS a.Graces).bind fun c=>(gS a.Lyrics).bind fun d=>some (b,c,d)
theorem okn73 {k} (d) (a:Ze):runR (XD k (d+2)) 73 [.agg (Ze.g a)] [] 3 true=(Fn73 a).map (fun(⟨b,c,e⟩:(List Zb)×(List Zd)×(List Zy))=>((.agg [i64 a.ID.Site,i64 a.ID.Number,i64 a.Kind,i64 a.Value.Log,i64 a.Value.Dots,.is 5 (I Zb.g b),.is 5 (I Zd.g c),i64 a.Articulations,i64 a.Ornament,i64 a.Dynamic,.own 5,i64 a.Stem,i64 a.Beam],[(5,.lst 233 2 true (I Zy.g e))],6))):=by
 rw[xd (fn:=p73) rfl]
 refine bo (iV 155 (d+1) 5 _ _ rfl rfl rfl) fun f=>?_
 refine bo (iV 156 (d+1) 5 _ _ rfl rfl rfl) fun h=>?_
 refine bo (oO 157 d 233 2 _ _ 5 rfl rfl rfl (fun _=>rfl)) fun i=>?_
 exact lf rfl
def F133 (c:Z0) (b:Zp):Option (Ze×Int):=
 (F198 c b).bind fun d=>if d !=0 then some ((Ze.mk (Zz.mk 0 0) 0 (Za.mk 0 0) [] [] 0 0 0 [] 0 0),d)else(F199 c b.Measure b.Staff b.Voice).bind fun e=>(lget e b.Event).bind fun a=>(Fn73 a).bind fun⟨f,g,h⟩=>some ((Ze.mk a.ID a.Kind a.Value f g a.Articulations a.Ornament a.Dynamic h a.Stem a.Beam),0)
theorem ok133 {k} (d) (b:Z0) (a:Zp):OD k (d+3) 133 [.agg (Z0.g b),.agg (Zp.g a)]=(F133 b a).map (fun⟨e,f⟩=>.tup [.agg (Ze.g e),i64 f]):=by
 rw[od (fn:=p133) rfl rfl rfl]
 refine bo (ok198 d b a) fun h=>?_
 refine io (lf rfl) ?_
 refine bo (ok199 (d+1) b a.Measure a.Staff a.Voice) fun i=>?_
 refine bo rg fun c=>?_
 refine bo (okn73 d c) fun⟨j,l,m⟩=>?_
 exact lf rfl
def F201 (a b:Zb):Option Bool:=
 some (((a.Pitch.Step==b.Pitch.Step)&&((a.Pitch.Alter==b.Pitch.Alter)&&((a.Pitch.Octave==b.Pitch.Octave)&&true)))!=false)
theorem ok201 {k} (d) (a b:Zb):OD k (d+1) 201 [.agg (Zb.g a),.ip (Zb.g b)]=(F201 a b).map (fun c=>bv c):=by
 rw[od (fn:=p201) rfl rfl rfl]
 exact lf rfl
def F195_3 (b:List Zb) (c:Zb):Option Int:=
 (aO (E:=Int⊕Unit) (fun(a:Int)=>if decide (a<(b.length:Int))then(lget b a).bind fun d=>(F201 d c).bind fun e=>if e then some (.inr (.inl a))else some (.inl (w64 (a+1)))else some (.inr (.inr ()))) B64 0).bind fun f=>(match f with|.inl x8=>some x8|.inr _=>some (-1))
theorem ok195_3 {k} (d) (a:List Zb) (b:Zb):OD k (d+2) 195 [.is 5 (I Zb.g a),.fn 201 [] [.ip (Zb.g b)]]=(F195_3 a b).map (fun i=>i64 i):=by
 rw[od (fn:=p195) rfl rfl rfl]
 refine bz lm ?_
 refine bo (aI (S:=Int) (enc:=fun c=>(Q [(0,.is 5 (I Zb.g a)),(1,.fn 201 [] [.ip (Zb.g b)]),(7,i64 (a.length:Int)),(8,i64 c)] [])) (encE:=(fun|.inl e=>(rq [(4,i64 e)] [])|.inr _=>(xq 0 [] []))) (fun c=>?_) B64 0) fun h=>?_
 refine io ?_ (lf rfl)
 refine bo rg fun f=>?_
 refine bo (ok201 d f b) fun j=>?_
 refine io (lf rfl) (lf rfl)
 rcases h with e|_
 exact lf rfl
 exact lf rfl
def F126_3 (a:List Zb) (b:Zb):Option Bool:=
 (F195_3 a b).bind fun c=>some (decide (c>=0))
theorem ok126_3 {k} (d) (a:List Zb) (b:Zb):OD k (d+3) 126 [.is 5 (I Zb.g a),.fn 201 [] [.ip (Zb.g b)]]=(F126_3 a b).map (fun c=>bv c):=by
 rw[od (fn:=p126) rfl rfl rfl]
 refine bo (ok195_3 d a b) fun e=>?_
 exact lf rfl
def F134 (a f:Ze):Option Bool:=
 if a.Kind !=1 then some true else(aO (E:=Unit⊕Unit) (fun(e:Int)=>if decide (e<(a.Heads.length:Int))then(lget a.Heads e).bind fun g=>((if g.Tied then((if f.Kind==1 then(F126_3 f.Heads g).bind fun h=>some h else some false:Option (Bool))).bind fun b=>some (!b)else some false:Option (Bool))).bind fun c=>if c then some (.inr (.inl ()))else some (.inl (w64 (e+1)))else some (.inr (.inr ()))) B64 0).bind fun d=>(match d with|.inl _=>some false|.inr _=>some true)
theorem ok134 {k} (d) (a b:Ze):OD k (d+4) 134 [.agg (Ze.g a),.agg (Ze.g b)]=(F134 a b).map (fun l=>bv l):=by
 rw[od (fn:=p134) rfl rfl rfl]
 refine io (lf rfl) ?_
 refine bz lm ?_
 refine bo (aI (S:=Int) (enc:=fun f=>(Q [(3,.ref 1 0),(11,.is 5 (I Zb.g a.Heads)),(12,i64 (a.Heads.length:Int)),(13,i64 f)] [(1,.box (Ze.g b)),(0,.box (Ze.g a))])) (encE:=(fun|.inl _=>(rq [(4,bv false)] [(1,.box (Ze.g b)),(0,.box (Ze.g a))])|.inr _=>(xq 0 [] [(1,.box (Ze.g b)),(0,.box (Ze.g a))]))) (fun f=>?_) B64 0) fun c=>?_
 refine io ?_ (lf rfl)
 refine bo rg fun j=>?_
 refine bo (e:=id) ?_ fun i=>?_
 refine io ?_ (lf rfl)
 refine bo (e:=id) ?_ fun h=>?_
 refine io ?_ (lf rfl)
 refine bo (ok126_3 d b.Heads j) fun m=>?_
 exact lf rfl
 exact lf rfl
 refine io (lf rfl) (lf rfl)
 rcases c with _|_
 exact lf rfl
 exact lf rfl
def F130 (d:Zp) (b:Ze) (c:Zk):Option Bool:=
 (F131 b).bind fun e=>if !e then some false else(F132 c.s' d).bind fun⟨f,g⟩=>(F133 c.s' f).bind fun⟨h,j⟩=>((if !g then some true else(F134 b h).bind fun i=>some (!i):Option (Bool))).bind fun a=>some a
theorem ok130 {k} (d) (c:Zp) (a:Ze) (b:Zk):OD k (d+5) 130 [.agg (Zp.g c),.agg (Ze.g a),.ip [.ip (Zk.g b)]]=(F130 c a b).map (fun j=>bv j):=by
 rw[od (fn:=p130) rfl rfl rfl]
 refine bo (ok131 d a) fun l=>?_
 refine io (lf rfl) ?_
 refine bo (ok132 (d+1) b.s' c) fun⟨h,m⟩=>?_
 refine bo (ok133 (d+1) b.s' h) fun⟨i,n⟩=>?_
 refine bo (e:=id) ?_ fun f=>?_
 refine io (lf rfl) ?_
 refine bo (ok134 d a i) fun o=>?_
 exact lf rfl
 exact lf rfl
def Fn119_3 (u:List Zv) (s:Z0) (t:Int):Option (List Zv):=
 (aO (E:=List Zv) (fun(⟨c,m⟩:Int×(List Zv))=>if decide (c<(s.Measures.length:Int))then(lget s.Measures c).bind fun n=>(aO (E:=List Zv) (fun(⟨d,o⟩:Int×(List Zv))=>if decide (d<(n.Cells.length:Int))then(lget n.Cells d).bind fun p=>(aO (E:=List Zv) (fun(⟨e,q⟩:Int×(List Zv))=>if decide (e<(p.Voices.length:Int))then(lget p.Voices e).bind fun r=>(aO (E:=List Zv) (fun(⟨a,b⟩:Int×(List Zv))=>if decide (a<(r.Events.length:Int))then(lget r.Events a).bind fun f=>(F130 (Zp.mk 4 0 d c e a 0) f (Zk.mk s t b)).bind fun g=>(Fn103 g f.ID b s t).bind fun h=>some (.inl ((w64 (a+1)),h))else some (.inr b)) B64 (0,q)).bind fun i=>some (.inl ((w64 (e+1)),i))else some (.inr q)) B64 (0,o)).bind fun j=>some (.inl ((w64 (d+1)),j))else some (.inr o)) B64 (0,m)).bind fun k=>some (.inl ((w64 (c+1)),k))else some (.inr m)) B64 (0,u)).bind fun l=>some l
theorem okn119_3 {k} (d) (x:List Zv) (c:Z0) (i:Int):runR (XD k (d+6)) 119 [.ref 1 0,.fn 130 [] [.ref 3 0]] [(3,.box [.ref 1 0]),(2,.lst 129 3 false (I Zv.g x)),(1,.box (ck c i (.own 2)))] 4 false=(Fn119_3 x c i).map (fun(w:List Zv)=>((.tup [],[(3,.box [.ref 1 0]),(2,.lst 129 3 false (I Zv.g w)),(1,.box (ck c i (.own 2)))],0))):=by
 rw[xd (fn:=p119) rfl]
 refine bz lm ?_
 refine bo (aI (S:=Int×(List Zv)) (enc:=fun⟨b,s⟩=>(Q [(0,.ref 1 0),(1,.fn 130 [] [.ref 3 0]),(16,.is 22 (I Zm.g c.Measures)),(17,i64 (c.Measures.length:Int)),(18,i64 b)] [(3,.box [.ref 1 0]),(2,.lst 129 3 false (I Zv.g s)),(1,.box (ck c i (.own 2)))])) (encE:=(fun(r:List Zv)=>(xq 0 [] [(3,.box [.ref 1 0]),(2,.lst 129 3 false (I Zv.g r)),(1,.box (ck c i (.own 2)))]))) (fun⟨b,s⟩=>?_) B64 (0,x)) fun r=>?_
 refine io ?_ (lf rfl)
 refine bo rg fun a=>?_
 refine bz lm ?_
 refine bo (aI (S:=Int×(List Zv)) (enc:=fun⟨e,t⟩=>(Q [(0,.ref 1 0),(1,.fn 130 [] [.ref 3 0]),(4,i64 b),(16,.is 22 (I Zm.g c.Measures)),(17,i64 (c.Measures.length:Int)),(18,i64 b),(24,.is 2 (I Zw.g a.Cells)),(25,i64 (a.Cells.length:Int)),(26,i64 e)] [(4,.box (Zm.g a)),(3,.box [.ref 1 0]),(2,.lst 129 3 false (I Zv.g t)),(1,.box (ck c i (.own 2)))])) (encE:=(fun(q:List Zv)=>(xq 2 [(0,.ref 1 0),(1,.fn 130 [] [.ref 3 0]),(16,.is 22 (I Zm.g c.Measures)),(17,i64 (c.Measures.length:Int)),(18,i64 b)] [(4,.box (Zm.g a)),(3,.box [.ref 1 0]),(2,.lst 129 3 false (I Zv.g q)),(1,.box (ck c i (.own 2)))]))) (fun⟨e,t⟩=>?_) B64 (0,s)) fun q=>?_
 refine io ?_ (lf rfl)
 refine bo rg fun f=>?_
 refine bz lm ?_
 refine bo (aI (S:=Int×(List Zv)) (enc:=fun⟨j,u⟩=>(Q [(0,.ref 1 0),(1,.fn 130 [] [.ref 3 0]),(4,i64 b),(6,i64 e),(16,.is 22 (I Zm.g c.Measures)),(17,i64 (c.Measures.length:Int)),(18,i64 b),(24,.is 2 (I Zw.g a.Cells)),(25,i64 (a.Cells.length:Int)),(26,i64 e),(32,.is 2 (I Zo.g f.Voices)),(33,i64 (f.Voices.length:Int)),(34,i64 j)] [(5,.box (Zw.g f)),(4,.box (Zm.g a)),(3,.box [.ref 1 0]),(2,.lst 129 3 false (I Zv.g u)),(1,.box (ck c i (.own 2)))])) (encE:=(fun(p:List Zv)=>(xq 4 [(0,.ref 1 0),(1,.fn 130 [] [.ref 3 0]),(4,i64 b),(16,.is 22 (I Zm.g c.Measures)),(17,i64 (c.Measures.length:Int)),(18,i64 b),(24,.is 2 (I Zw.g a.Cells)),(25,i64 (a.Cells.length:Int)),(26,i64 e)] [(5,.box (Zw.g f)),(4,.box (Zm.g a)),(3,.box [.ref 1 0]),(2,.lst 129 3 false (I Zv.g p)),(1,.box (ck c i (.own 2)))]))) (fun⟨j,u⟩=>?_) B64 (0,t)) fun p=>?_
 refine io ?_ (lf rfl)
 refine bo rg fun m=>?_
 refine bz lm ?_
 refine bo (aI (S:=Int×(List Zv)) (enc:=fun⟨l,h⟩=>(Q [(0,.ref 1 0),(1,.fn 130 [] [.ref 3 0]),(4,i64 b),(6,i64 e),(8,i64 j),(16,.is 22 (I Zm.g c.Measures)),(17,i64 (c.Measures.length:Int)),(18,i64 b),(24,.is 2 (I Zw.g a.Cells)),(25,i64 (a.Cells.length:Int)),(26,i64 e),(32,.is 2 (I Zo.g f.Voices)),(33,i64 (f.Voices.length:Int)),(34,i64 j),(40,.is 13 (I Ze.g m.Events)),(41,i64 (m.Events.length:Int)),(42,i64 l)] [(6,.box (Zo.g m)),(5,.box (Zw.g f)),(4,.box (Zm.g a)),(3,.box [.ref 1 0]),(2,.lst 129 3 false (I Zv.g h)),(1,.box (ck c i (.own 2)))])) (encE:=(fun(o:List Zv)=>(xq 6 [(0,.ref 1 0),(1,.fn 130 [] [.ref 3 0]),(4,i64 b),(6,i64 e),(16,.is 22 (I Zm.g c.Measures)),(17,i64 (c.Measures.length:Int)),(18,i64 b),(24,.is 2 (I Zw.g a.Cells)),(25,i64 (a.Cells.length:Int)),(26,i64 e),(32,.is 2 (I Zo.g f.Voices)),(33,i64 (f.Voices.length:Int)),(34,i64 j)] [(6,.box (Zo.g m)),(5,.box (Zw.g f)),(4,.box (Zm.g a)),(3,.box [.ref 1 0]),(2,.lst 129 3 false (I Zv.g o)),(1,.box (ck c i (.own 2)))]))) (fun⟨l,h⟩=>?_) B64 (0,u)) fun o=>?_
 refine io ?_ (lf rfl)
 refine bo rg fun n=>?_
 refine bo (ok130 d (Zp.mk 4 0 e b j l 0) n (Zk.mk c i h)) fun v=>?_
 refine bo (okn103 (d+4) v n.ID h c i) fun y=>?_
 exact lf rfl
 exact lf rfl
 exact lf rfl
 exact lf rfl
 exact lf rfl
def Fn56 (a:List Zv) (b:Z0) (c:Int):Option (List Zv):=
 (Fn119_3 a b c).bind fun d=>some d
theorem okn56 {k} (d) (c:List Zv) (a:Z0) (b:Int):runR (XD k (d+7)) 56 [.ref 1 0] [(2,.lst 129 3 false (I Zv.g c)),(1,.box (ck a b (.own 2)))] 3 false=(Fn56 c a b).map (fun(e:List Zv)=>((.tup [],[(2,.lst 129 3 false (I Zv.g e)),(1,.box (ck a b (.own 2)))],0))):=by
 rw[xd (fn:=p56) rfl]
 refine bo (okn119_3 d c a b) fun f=>?_
 exact lf rfl
def F202 (a:Ze) (b:Int):Option Bool:=
 ((if decide (b>=(a.Lyrics.length:Int))then some true else(lget a.Lyrics b).bind fun c=>some (((c.Text==(⟨#[]⟩:ByteArray))&&((c.Link==0)&&true))!=false):Option (Bool))).bind fun d=>some d
theorem ok202 {k} (d) (a:Ze) (b:Int):OD k (d+1) 202 [.agg (Ze.g a),i64 b]=(F202 a b).map (fun c=>bv c):=by
 rw[od (fn:=p202) rfl rfl rfl]
 refine bz lm ?_
 refine bo (e:=id) ?_ fun h=>?_
 refine io (lf rfl) ?_
 refine bo rg fun f=>?_
 exact lf rfl
 exact lf rfl
def Fn135 (v P U:Int) (W:List (Zp×Bool)) (X:List Zv) (V:Z0) (Y:Int):Option (List (Zp×Bool)):=
 (aO (E:=Int×Int×Int×Int×Int×Zy×(List (Zp×Bool))) (fun(⟨e,n,o,p,q,r,s,t⟩:Int×Int×Int×Int×Int×Int×Zy×(List (Zp×Bool)))=>if decide (e<(V.Measures.length:Int))then(lget V.Measures e).bind fun u=>((if decide (v>=(u.Cells.length:Int))then some true else(lget u.Cells v).bind fun R=>some (decide (P>=(R.Voices.length:Int))):Option (Bool))).bind fun S=>if S then some (.inl ((w64 (e+1)),n,o,p,q,r,s,t))else(lget u.Cells v).bind fun T=>(lget T.Voices P).bind fun O=>(aO (E:=Int×Int×Int×Int×Int×Zy×(List (Zp×Bool))) (fun(⟨a,f,g,h,i,j,b,c⟩:Int×Int×Int×Int×Int×Int×Zy×(List (Zp×Bool)))=>if decide (a<(O.Events.length:Int))then(lget O.Events a).bind fun k=>(F202 k U).bind fun w=>if w then some (.inl ((w64 (a+1)),f,g,h,i,j,b,c))else(lget k.Lyrics U).bind fun d=>((if(b.Link==1)&&(d.Text.toList==(⟨#[]⟩:ByteArray).toList)then some (mput c (Zp.mk f 0 g h i j 0) true)else some c:Option (List (Zp×Bool)))).bind fun l=>((if((d.Text.toList==(⟨#[]⟩:ByteArray).toList)&&(d.Link==2))&&(b.Link !=2)then some (mput l (Zp.mk 4 0 v e P a 0) true)else some l:Option (List (Zp×Bool)))).bind fun x=>some (.inl ((w64 (a+1)),4,v,e,P,a,d,x))else some (.inr (f,g,h,i,j,b,c))) B64 (0,n,o,p,q,r,s,t)).bind fun⟨y,z,A,B,C,D,F⟩=>some (.inl ((w64 (e+1)),y,z,A,B,C,D,F))else some (.inr (n,o,p,q,r,s,t))) B64 (0,0,0,0,0,0,(Zy.mk (⟨#[]⟩:ByteArray) 0),W)).bind fun⟨G,H,J,K,L,M,m⟩=>((if M.Link==1 then some (mput m (Zp.mk G 0 H J K L 0) true)else some m:Option (List (Zp×Bool)))).bind fun N=>some N
theorem okn135 {k} (d) (y z O:Int) (Z:List (Zp×Bool)) (A:List Zv) (c:Z0) (B:Int):runR (XD k (d+2)) 135 [.ref 1 0,i64 y,i64 z,i64 O,.map 3] [(3,.mp (I (mEnt (eA Zp.g) bv) Z)),(2,.lst 129 3 false (I Zv.g A)),(1,.box (ck c B (.own 2)))] 4 false=(Fn135 y z O Z A c B).map (fun(Y:List (Zp×Bool))=>((.tup [],[(3,.mp (I (mEnt (eA Zp.g) bv) Y)),(2,.lst 129 3 false (I Zv.g A)),(1,.box (ck c B (.own 2)))],0))):=by
 rw[xd (fn:=p135) rfl]
 refine bz lm ?_
 refine bo (aI (S:=Int×Int×Int×Int×Int×Int×Zy×(List (Zp×Bool))) (enc:=fun⟨a,P,R,T,U,V,W,X⟩=>(Q [(1,i64 y),(2,i64 z),(3,i64 O),(4,.map 3),(10,.ref 4 0),(11,.ref 5 0),(22,.is 22 (I Zm.g c.Measures)),(23,i64 (c.Measures.length:Int)),(24,i64 a)] [(5,.box [i64 P,i64 0,i64 R,i64 T,i64 U,i64 V,i64 0]),(4,.box (Zy.g W)),(3,.mp (I (mEnt (eA Zp.g) bv) X)),(2,.lst 129 3 false (I Zv.g A)),(1,.box (ck c B (.own 2)))])) (encE:=(fun(⟨n,o,p,q,r,w,x⟩:Int×Int×Int×Int×Int×Zy×(List (Zp×Bool)))=>(xq 0 [(4,.map 3),(10,.ref 4 0),(11,.ref 5 0)] [(5,.box [i64 n,i64 0,i64 o,i64 p,i64 q,i64 r,i64 0]),(4,.box (Zy.g w)),(3,.mp (I (mEnt (eA Zp.g) bv) x)),(2,.lst 129 3 false (I Zv.g A)),(1,.box (ck c B (.own 2)))]))) (fun⟨a,P,R,T,U,V,W,X⟩=>?_) B64 (0,0,0,0,0,0,(Zy.mk (⟨#[]⟩:ByteArray) 0),Z)) fun⟨n,o,p,q,r,w,x⟩=>?_
 refine io ?_ (lf rfl)
 refine bo rg fun C=>?_
 refine bz lm ?_
 refine bo (e:=id) ?_ fun b4=>?_
 refine io (lf rfl) ?_
 refine bo rg fun b0=>?_
 refine bz lm ?_
 exact lf rfl
 refine io (lf rfl) ?_
 refine bo rg fun b5=>?_
 refine bo rg fun s=>?_
 refine bz lm ?_
 refine bo (aI (S:=Int×Int×Int×Int×Int×Int×Zy×(List (Zp×Bool))) (enc:=fun⟨b,f,h,i,j,l,m,t⟩=>(Q [(1,i64 y),(2,i64 z),(3,i64 O),(4,.map 3),(10,.ref 4 0),(11,.ref 5 0),(12,i64 a),(22,.is 22 (I Zm.g c.Measures)),(23,i64 (c.Measures.length:Int)),(24,i64 a),(54,.is 13 (I Ze.g s.Events)),(55,i64 (s.Events.length:Int)),(56,i64 b)] [(6,.box (Zm.g C)),(5,.box [i64 f,i64 0,i64 h,i64 i,i64 j,i64 l,i64 0]),(4,.box (Zy.g m)),(3,.mp (I (mEnt (eA Zp.g) bv) t)),(2,.lst 129 3 false (I Zv.g A)),(1,.box (ck c B (.own 2)))])) (encE:=(fun(⟨F,G,H,J,K,L,M⟩:Int×Int×Int×Int×Int×Zy×(List (Zp×Bool)))=>(xq 2 [(1,i64 y),(2,i64 z),(3,i64 O),(4,.map 3),(10,.ref 4 0),(11,.ref 5 0),(22,.is 22 (I Zm.g c.Measures)),(23,i64 (c.Measures.length:Int)),(24,i64 a)] [(6,.box (Zm.g C)),(5,.box [i64 F,i64 0,i64 G,i64 H,i64 J,i64 K,i64 0]),(4,.box (Zy.g L)),(3,.mp (I (mEnt (eA Zp.g) bv) M)),(2,.lst 129 3 false (I Zv.g A)),(1,.box (ck c B (.own 2)))]))) (fun⟨b,f,h,i,j,l,m,t⟩=>?_) B64 (0,P,R,T,U,V,W,X)) fun⟨F,G,H,J,K,L,M⟩=>?_
 refine io ?_ (lf rfl)
 refine bo rg fun u=>?_
 refine bo (ok202 d u O) fun a0=>?_
 refine io (lf rfl) ?_
 refine bo rg fun D=>?_
 refine bz (gand rfl) ?_
 refine bo (e:=(fun(v:List (Zp×Bool))=>(nq [(1,i64 y),(2,i64 z),(3,i64 O),(4,.map 3),(10,.ref 4 0),(11,.ref 5 0),(12,i64 a),(16,.ref 8 0),(17,.ref 9 0),(22,.is 22 (I Zm.g c.Measures)),(23,i64 (c.Measures.length:Int)),(24,i64 a),(54,.is 13 (I Ze.g s.Events)),(55,i64 (s.Events.length:Int)),(56,i64 b)] [(9,.box (Zy.g D)),(8,.box [i64 4,i64 0,i64 y,i64 a,i64 z,i64 b,i64 0]),(7,.box (Ze.g u)),(6,.box (Zm.g C)),(5,.box [i64 f,i64 0,i64 h,i64 i,i64 j,i64 l,i64 0]),(4,.box (Zy.g m)),(3,.mp (I (mEnt (eA Zp.g) bv) v)),(2,.lst 129 3 false (I Zv.g A)),(1,.box (ck c B (.own 2)))]))) ?_ fun v=>?_
 refine io ?_ (lf rfl)
 refine bz (iU dS bv t (Zp.mk f 0 h i j l 0) true) ?_
 exact lf rfl
 refine bz (gand rfl) ?_
 refine bz (gand rfl) ?_
 refine bo (e:=(fun(E:List (Zp×Bool))=>(nq [(1,i64 y),(2,i64 z),(3,i64 O),(4,.map 3),(10,.ref 4 0),(11,.ref 5 0),(12,i64 a),(16,.ref 8 0),(17,.ref 9 0),(22,.is 22 (I Zm.g c.Measures)),(23,i64 (c.Measures.length:Int)),(24,i64 a),(54,.is 13 (I Ze.g s.Events)),(55,i64 (s.Events.length:Int)),(56,i64 b)] [(9,.box (Zy.g D)),(8,.box [i64 4,i64 0,i64 y,i64 a,i64 z,i64 b,i64 0]),(7,.box (Ze.g u)),(6,.box (Zm.g C)),(5,.box [i64 f,i64 0,i64 h,i64 i,i64 j,i64 l,i64 0]),(4,.box (Zy.g m)),(3,.mp (I (mEnt (eA Zp.g) bv) E)),(2,.lst 129 3 false (I Zv.g A)),(1,.box (ck c B (.own 2)))]))) ?_ fun E=>?_
 refine io ?_ (lf rfl)
 refine bz (iU dS bv v (Zp.mk 4 0 y a z b 0) true) ?_
 exact lf rfl
 exact lf rfl
 exact lf rfl
 refine bo (e:=(fun(N:List (Zp×Bool))=>(nq [] [(5,.box [i64 n,i64 0,i64 o,i64 p,i64 q,i64 r,i64 0]),(4,.box (Zy.g w)),(3,.mp (I (mEnt (eA Zp.g) bv) N)),(2,.lst 129 3 false (I Zv.g A)),(1,.box (ck c B (.own 2)))]))) ?_ fun N=>?_
 refine io ?_ (lf rfl)
 refine bz (iU dS bv x (Zp.mk n 0 o p q r 0) true) ?_
 exact lf rfl
 exact lf rfl
def F136 (a:Zp) (c:Ze) (b:List (Zp×Bool)):Option Bool:=
 some (mget b a false)
theorem ok136 {k} (d) (a:Zp) (c:Ze) (b:List (Zp×Bool)):OD k (d+1) 136 [.agg (Zp.g a),.agg (Ze.g c),.ip [.im (I (mEnt (eA Zp.g) bv) b)]]=(F136 a c b).map (fun e=>bv e):=by
 rw[od (fn:=p136) rfl rfl rfl]
 refine bz (qD dS bv b a false) ?_
 exact lf rfl
def Fn119_4 (t:List (Zp×Bool)) (u:List Zv) (s:Z0) (v:Int):Option (List Zv):=
 (aO (E:=List Zv) (fun(⟨b,m⟩:Int×(List Zv))=>if decide (b<(s.Measures.length:Int))then(lget s.Measures b).bind fun n=>(aO (E:=List Zv) (fun(⟨c,o⟩:Int×(List Zv))=>if decide (c<(n.Cells.length:Int))then(lget n.Cells c).bind fun p=>(aO (E:=List Zv) (fun(⟨d,q⟩:Int×(List Zv))=>if decide (d<(p.Voices.length:Int))then(lget p.Voices d).bind fun r=>(aO (E:=List Zv) (fun(⟨a,e⟩:Int×(List Zv))=>if decide (a<(r.Events.length:Int))then(lget r.Events a).bind fun f=>(F136 (Zp.mk 4 0 c b d a 0) f t).bind fun g=>(Fn103 g f.ID e s v).bind fun h=>some (.inl ((w64 (a+1)),h))else some (.inr e)) B64 (0,q)).bind fun i=>some (.inl ((w64 (d+1)),i))else some (.inr q)) B64 (0,o)).bind fun j=>some (.inl ((w64 (c+1)),j))else some (.inr o)) B64 (0,m)).bind fun k=>some (.inl ((w64 (b+1)),k))else some (.inr m)) B64 (0,u)).bind fun l=>some l
theorem okn119_4 {k} (d) (i:List (Zp×Bool)) (y:List Zv) (c:Z0) (j:Int):runR (XD k (d+2)) 119 [.ref 1 0,.fn 136 [] [.ref 4 0]] [(4,.box [.map 3]),(3,.mp (I (mEnt (eA Zp.g) bv) i)),(2,.lst 129 3 false (I Zv.g y)),(1,.box (ck c j (.own 2)))] 5 false=(Fn119_4 i y c j).map (fun(x:List Zv)=>((.tup [],[(4,.box [.map 3]),(3,.mp (I (mEnt (eA Zp.g) bv) i)),(2,.lst 129 3 false (I Zv.g x)),(1,.box (ck c j (.own 2)))],0))):=by
 rw[xd (fn:=p119) rfl]
 refine bz lm ?_
 refine bo (aI (S:=Int×(List Zv)) (enc:=fun⟨b,t⟩=>(Q [(0,.ref 1 0),(1,.fn 136 [] [.ref 4 0]),(16,.is 22 (I Zm.g c.Measures)),(17,i64 (c.Measures.length:Int)),(18,i64 b)] [(4,.box [.map 3]),(3,.mp (I (mEnt (eA Zp.g) bv) i)),(2,.lst 129 3 false (I Zv.g t)),(1,.box (ck c j (.own 2)))])) (encE:=(fun(s:List Zv)=>(xq 0 [] [(4,.box [.map 3]),(3,.mp (I (mEnt (eA Zp.g) bv) i)),(2,.lst 129 3 false (I Zv.g s)),(1,.box (ck c j (.own 2)))]))) (fun⟨b,t⟩=>?_) B64 (0,y)) fun s=>?_
 refine io ?_ (lf rfl)
 refine bo rg fun a=>?_
 refine bz lm ?_
 refine bo (aI (S:=Int×(List Zv)) (enc:=fun⟨e,u⟩=>(Q [(0,.ref 1 0),(1,.fn 136 [] [.ref 4 0]),(4,i64 b),(16,.is 22 (I Zm.g c.Measures)),(17,i64 (c.Measures.length:Int)),(18,i64 b),(24,.is 2 (I Zw.g a.Cells)),(25,i64 (a.Cells.length:Int)),(26,i64 e)] [(5,.box (Zm.g a)),(4,.box [.map 3]),(3,.mp (I (mEnt (eA Zp.g) bv) i)),(2,.lst 129 3 false (I Zv.g u)),(1,.box (ck c j (.own 2)))])) (encE:=(fun(r:List Zv)=>(xq 2 [(0,.ref 1 0),(1,.fn 136 [] [.ref 4 0]),(16,.is 22 (I Zm.g c.Measures)),(17,i64 (c.Measures.length:Int)),(18,i64 b)] [(5,.box (Zm.g a)),(4,.box [.map 3]),(3,.mp (I (mEnt (eA Zp.g) bv) i)),(2,.lst 129 3 false (I Zv.g r)),(1,.box (ck c j (.own 2)))]))) (fun⟨e,u⟩=>?_) B64 (0,t)) fun r=>?_
 refine io ?_ (lf rfl)
 refine bo rg fun f=>?_
 refine bz lm ?_
 refine bo (aI (S:=Int×(List Zv)) (enc:=fun⟨h,v⟩=>(Q [(0,.ref 1 0),(1,.fn 136 [] [.ref 4 0]),(4,i64 b),(6,i64 e),(16,.is 22 (I Zm.g c.Measures)),(17,i64 (c.Measures.length:Int)),(18,i64 b),(24,.is 2 (I Zw.g a.Cells)),(25,i64 (a.Cells.length:Int)),(26,i64 e),(32,.is 2 (I Zo.g f.Voices)),(33,i64 (f.Voices.length:Int)),(34,i64 h)] [(6,.box (Zw.g f)),(5,.box (Zm.g a)),(4,.box [.map 3]),(3,.mp (I (mEnt (eA Zp.g) bv) i)),(2,.lst 129 3 false (I Zv.g v)),(1,.box (ck c j (.own 2)))])) (encE:=(fun(q:List Zv)=>(xq 4 [(0,.ref 1 0),(1,.fn 136 [] [.ref 4 0]),(4,i64 b),(16,.is 22 (I Zm.g c.Measures)),(17,i64 (c.Measures.length:Int)),(18,i64 b),(24,.is 2 (I Zw.g a.Cells)),(25,i64 (a.Cells.length:Int)),(26,i64 e)] [(6,.box (Zw.g f)),(5,.box (Zm.g a)),(4,.box [.map 3]),(3,.mp (I (mEnt (eA Zp.g) bv) i)),(2,.lst 129 3 false (I Zv.g q)),(1,.box (ck c j (.own 2)))]))) (fun⟨h,v⟩=>?_) B64 (0,u)) fun q=>?_
 refine io ?_ (lf rfl)
 refine bo rg fun n=>?_
 refine bz lm ?_
 refine bo (aI (S:=Int×(List Zv)) (enc:=fun⟨l,m⟩=>(Q [(0,.ref 1 0),(1,.fn 136 [] [.ref 4 0]),(4,i64 b),(6,i64 e),(8,i64 h),(16,.is 22 (I Zm.g c.Measures)),(17,i64 (c.Measures.length:Int)),(18,i64 b),(24,.is 2 (I Zw.g a.Cells)),(25,i64 (a.Cells.length:Int)),(26,i64 e),(32,.is 2 (I Zo.g f.Voices)),(33,i64 (f.Voices.length:Int)),(34,i64 h),(40,.is 13 (I Ze.g n.Events)),(41,i64 (n.Events.length:Int)),(42,i64 l)] [(7,.box (Zo.g n)),(6,.box (Zw.g f)),(5,.box (Zm.g a)),(4,.box [.map 3]),(3,.mp (I (mEnt (eA Zp.g) bv) i)),(2,.lst 129 3 false (I Zv.g m)),(1,.box (ck c j (.own 2)))])) (encE:=(fun(p:List Zv)=>(xq 6 [(0,.ref 1 0),(1,.fn 136 [] [.ref 4 0]),(4,i64 b),(6,i64 e),(16,.is 22 (I Zm.g c.Measures)),(17,i64 (c.Measures.length:Int)),(18,i64 b),(24,.is 2 (I Zw.g a.Cells)),(25,i64 (a.Cells.length:Int)),(26,i64 e),(32,.is 2 (I Zo.g f.Voices)),(33,i64 (f.Voices.length:Int)),(34,i64 h)] [(7,.box (Zo.g n)),(6,.box (Zw.g f)),(5,.box (Zm.g a)),(4,.box [.map 3]),(3,.mp (I (mEnt (eA Zp.g) bv) i)),(2,.lst 129 3 false (I Zv.g p)),(1,.box (ck c j (.own 2)))]))) (fun⟨l,m⟩=>?_) B64 (0,v)) fun p=>?_
 refine io ?_ (lf rfl)
 refine bo rg fun o=>?_
 refine bo (ok136 d (Zp.mk 4 0 e b h l 0) o i) fun w=>?_
 refine bo (okn103 d w o.ID m c j) fun z=>?_
 exact lf rfl
 exact lf rfl
 exact lf rfl
 exact lf rfl
 exact lf rfl
def Fn57 (m:List Zv) (g:Z0) (n:Int):Option (List Zv):=
 (F75 g).bind fun o=>(aO (E:=List (Zp×Bool)) (fun(⟨a,d⟩:Int×(List (Zp×Bool)))=>if decide (a<o)then(aO (E:=List (Zp×Bool)) (fun(⟨b,e⟩:Int×(List (Zp×Bool)))=>if decide (b<2)then(aO (E:=List (Zp×Bool)) (fun(⟨c,f⟩:Int×(List (Zp×Bool)))=>if decide (c<4)then(Fn135 a b c f m g n).bind fun h=>some (.inl ((w64 (c+1)),h))else some (.inr f)) B64 (0,e)).bind fun i=>some (.inl ((w64 (b+1)),i))else some (.inr e)) B64 (0,d)).bind fun j=>some (.inl ((w64 (a+1)),j))else some (.inr d)) B64 (0,[])).bind fun k=>(Fn119_4 k m g n).bind fun l=>some l
theorem okn57 {k} (d) (f:List Zv) (c:Z0) (e:Int):runR (XD k (d+3)) 57 [.ref 1 0] [(2,.lst 129 3 false (I Zv.g f)),(1,.box (ck c e (.own 2)))] 3 false=(Fn57 f c e).map (fun(q:List Zv)=>((.tup [],[(2,.lst 129 3 false (I Zv.g q)),(1,.box (ck c e (.own 2)))],0))):=by
 rw[xd (fn:=p57) rfl]
 refine bo (ok75 (d+1) c) fun p=>?_
 refine bo (aI (S:=Int×(List (Zp×Bool))) (enc:=fun⟨a,h⟩=>(Q [(0,.ref 1 0),(2,.ref 4 0),(13,i64 p),(14,i64 a)] [(4,.box [.map 3]),(3,.mp (I (mEnt (eA Zp.g) bv) h)),(2,.lst 129 3 false (I Zv.g f)),(1,.box (ck c e (.own 2)))])) (encE:=(fun(m:List (Zp×Bool))=>(xq 0 [(0,.ref 1 0),(2,.ref 4 0)] [(4,.box [.map 3]),(3,.mp (I (mEnt (eA Zp.g) bv) m)),(2,.lst 129 3 false (I Zv.g f)),(1,.box (ck c e (.own 2)))]))) (fun⟨a,h⟩=>?_) B64 (0,[])) fun m=>?_
 refine io ?_ (lf rfl)
 refine bo (aI (S:=Int×(List (Zp×Bool))) (enc:=fun⟨b,i⟩=>(Q [(0,.ref 1 0),(2,.ref 4 0),(4,i64 a),(13,i64 p),(14,i64 a),(17,i64 b)] [(4,.box [.map 3]),(3,.mp (I (mEnt (eA Zp.g) bv) i)),(2,.lst 129 3 false (I Zv.g f)),(1,.box (ck c e (.own 2)))])) (encE:=(fun(o:List (Zp×Bool))=>(xq 2 [(0,.ref 1 0),(2,.ref 4 0),(13,i64 p),(14,i64 a)] [(4,.box [.map 3]),(3,.mp (I (mEnt (eA Zp.g) bv) o)),(2,.lst 129 3 false (I Zv.g f)),(1,.box (ck c e (.own 2)))]))) (fun⟨b,i⟩=>?_) B64 (0,h)) fun o=>?_
 refine io ?_ (lf rfl)
 refine bo (aI (S:=Int×(List (Zp×Bool))) (enc:=fun⟨j,l⟩=>(Q [(0,.ref 1 0),(2,.ref 4 0),(4,i64 a),(5,i64 b),(13,i64 p),(14,i64 a),(17,i64 b),(20,i64 j)] [(4,.box [.map 3]),(3,.mp (I (mEnt (eA Zp.g) bv) l)),(2,.lst 129 3 false (I Zv.g f)),(1,.box (ck c e (.own 2)))])) (encE:=(fun(n:List (Zp×Bool))=>(xq 4 [(0,.ref 1 0),(2,.ref 4 0),(4,i64 a),(13,i64 p),(14,i64 a),(17,i64 b)] [(4,.box [.map 3]),(3,.mp (I (mEnt (eA Zp.g) bv) n)),(2,.lst 129 3 false (I Zv.g f)),(1,.box (ck c e (.own 2)))]))) (fun⟨j,l⟩=>?_) B64 (0,i)) fun n=>?_
 refine io ?_ (lf rfl)
 refine bo (okn135 d a b j l f c e) fun r=>?_
 exact lf rfl
 exact lf rfl
 exact lf rfl
 refine bo (okn119_4 d m f c e) fun s=>?_
 exact lf rfl
def Fn80_2 (a:Z0):Option Unit:=
 some ()
theorem okn80_2 {k} (d) (a:Z0):runR (XD k (d+1)) 80 [.ref 0 0] [(0,.box (Z0.g a))] 4 true=(Fn80_2 a).map (fun(_:Unit)=>((.fn 159 [] [.ref 4 0],[(4,.box [.ref 0 0]),(0,.box (Z0.g a))],5))):=by
 rw[xd (fn:=p80) rfl]
 exact lf rfl
def Fy34_13 (d e:Int) (f g:Int) (h i j:Int) (b:Zj) (k:Bool) (c:Zp) (a:Zz):Option (Unit⊕Unit):=
 if((b.ID.Site==a.Site)&&((b.ID.Number==a.Number)&&true))!=false then some (.inl ())else some (.inr ())
theorem oky34_13 {k} (d) (c e:Int) (f h:Int) (i j l:Int) (n:Zj) (m:Bool) (b:Zp) (a:Zz):yldR (XD k (d+1)) 5 [.agg [i64 c,i64 e,i64 f,i64 h,i64 i,i64 j,i64 l],.ip (Zj.g n)] [(5,.loop 22 [(3,.ref 1 0),(4,.ref 2 0),(5,.ref 3 0)] [13,14] q34_13a q34_13b false none),(3,.box [bv m]),(2,.box (Zp.g b)),(1,.box (Zz.g a))] 6=(Fy34_13 c e f h i j l n m b a).map (fun|.inl _=>((bv false,[(5,.loop 22 [(3,.ref 1 0),(4,.ref 2 0),(5,.ref 3 0)] [13,14] q34_13a q34_13b false (some .ret)),(3,.box [bv true]),(2,.box [i64 c,i64 e,i64 f,i64 h,i64 i,i64 j,i64 l]),(1,.box (Zz.g a))],0))|.inr _=>((bv true,[(5,.loop 22 [(3,.ref 1 0),(4,.ref 2 0),(5,.ref 3 0)] [13,14] q34_13a q34_13b false none),(3,.box [bv m]),(2,.box (Zp.g b)),(1,.box (Zz.g a))],0))):=by
 rw[yd]
 refine bz (okg iG) ?_
 refine io (lf rfl) (lf rfl)
def Fy34_13_2 (d e:Int) (f g:Int) (h i j:Int) (b:Zf) (k:Bool) (c:Zp) (a:Zz):Option (Unit⊕Unit):=
 if((b.ID.Site==a.Site)&&((b.ID.Number==a.Number)&&true))!=false then some (.inl ())else some (.inr ())
theorem oky34_13_2 {k} (d) (c e:Int) (f h:Int) (i j l:Int) (n:Zf) (m:Bool) (b:Zp) (a:Zz):yldR (XD k (d+1)) 5 [.agg [i64 c,i64 e,i64 f,i64 h,i64 i,i64 j,i64 l],.ip (Zf.g n)] [(5,.loop 22 [(3,.ref 1 0),(4,.ref 2 0),(5,.ref 3 0)] [13,14] q34_13a q34_13b false none),(3,.box [bv m]),(2,.box (Zp.g b)),(1,.box (Zz.g a))] 6=(Fy34_13_2 c e f h i j l n m b a).map (fun|.inl _=>((bv false,[(5,.loop 22 [(3,.ref 1 0),(4,.ref 2 0),(5,.ref 3 0)] [13,14] q34_13a q34_13b false (some .ret)),(3,.box [bv true]),(2,.box [i64 c,i64 e,i64 f,i64 h,i64 i,i64 j,i64 l]),(1,.box (Zz.g a))],0))|.inr _=>((bv true,[(5,.loop 22 [(3,.ref 1 0),(4,.ref 2 0),(5,.ref 3 0)] [13,14] q34_13a q34_13b false none),(3,.box [bv m]),(2,.box (Zp.g b)),(1,.box (Zz.g a))],0))):=by
 rw[yd]
 refine bz (okg iG) ?_
 refine io (lf rfl) (lf rfl)
def Fy34_13_3 (d e:Int) (f g:Int) (h i j:Int) (b:Zm) (k:Bool) (c:Zp) (a:Zz):Option (Unit⊕Unit):=
 if((b.ID.Site==a.Site)&&((b.ID.Number==a.Number)&&true))!=false then some (.inl ())else some (.inr ())
theorem oky34_13_3 {k} (d) (c e:Int) (f h:Int) (i j l:Int) (n:Zm) (m:Bool) (b:Zp) (a:Zz):yldR (XD k (d+1)) 5 [.agg [i64 c,i64 e,i64 f,i64 h,i64 i,i64 j,i64 l],.ip (Zm.g n)] [(5,.loop 22 [(3,.ref 1 0),(4,.ref 2 0),(5,.ref 3 0)] [13,14] q34_13a q34_13b false none),(3,.box [bv m]),(2,.box (Zp.g b)),(1,.box (Zz.g a))] 6=(Fy34_13_3 c e f h i j l n m b a).map (fun|.inl _=>((bv false,[(5,.loop 22 [(3,.ref 1 0),(4,.ref 2 0),(5,.ref 3 0)] [13,14] q34_13a q34_13b false (some .ret)),(3,.box [bv true]),(2,.box [i64 c,i64 e,i64 f,i64 h,i64 i,i64 j,i64 l]),(1,.box (Zz.g a))],0))|.inr _=>((bv true,[(5,.loop 22 [(3,.ref 1 0),(4,.ref 2 0),(5,.ref 3 0)] [13,14] q34_13a q34_13b false none),(3,.box [bv m]),(2,.box (Zp.g b)),(1,.box (Zz.g a))],0))):=by
 rw[yd]
 refine bz (okg iG) ?_
 refine io (lf rfl) (lf rfl)
def Fy34_13_4 (d e:Int) (f g:Int) (h i j:Int) (b:Ze) (k:Bool) (c:Zp) (a:Zz):Option (Unit⊕Unit):=
 if((b.ID.Site==a.Site)&&((b.ID.Number==a.Number)&&true))!=false then some (.inl ())else some (.inr ())
theorem oky34_13_4 {k} (d) (c e:Int) (f h:Int) (i j l:Int) (n:Ze) (m:Bool) (b:Zp) (a:Zz):yldR (XD k (d+1)) 5 [.agg [i64 c,i64 e,i64 f,i64 h,i64 i,i64 j,i64 l],.ip (Ze.g n)] [(5,.loop 22 [(3,.ref 1 0),(4,.ref 2 0),(5,.ref 3 0)] [13,14] q34_13a q34_13b false none),(3,.box [bv m]),(2,.box (Zp.g b)),(1,.box (Zz.g a))] 6=(Fy34_13_4 c e f h i j l n m b a).map (fun|.inl _=>((bv false,[(5,.loop 22 [(3,.ref 1 0),(4,.ref 2 0),(5,.ref 3 0)] [13,14] q34_13a q34_13b false (some .ret)),(3,.box [bv true]),(2,.box [i64 c,i64 e,i64 f,i64 h,i64 i,i64 j,i64 l]),(1,.box (Zz.g a))],0))|.inr _=>((bv true,[(5,.loop 22 [(3,.ref 1 0),(4,.ref 2 0),(5,.ref 3 0)] [13,14] q34_13a q34_13b false none),(3,.box [bv m]),(2,.box (Zp.g b)),(1,.box (Zz.g a))],0))):=by
 rw[yd]
 refine bz (okg iG) ?_
 refine io (lf rfl) (lf rfl)
def Fy34_13_5 (d e:Int) (f g:Int) (h i j:Int) (b:Zn) (k:Bool) (c:Zp) (a:Zz):Option (Unit⊕Unit):=
 if((b.ID.Site==a.Site)&&((b.ID.Number==a.Number)&&true))!=false then some (.inl ())else some (.inr ())
theorem oky34_13_5 {k} (d) (c e:Int) (f h:Int) (i j l:Int) (n:Zn) (m:Bool) (b:Zp) (a:Zz):yldR (XD k (d+1)) 5 [.agg [i64 c,i64 e,i64 f,i64 h,i64 i,i64 j,i64 l],.ip (Zn.g n)] [(5,.loop 22 [(3,.ref 1 0),(4,.ref 2 0),(5,.ref 3 0)] [13,14] q34_13a q34_13b false none),(3,.box [bv m]),(2,.box (Zp.g b)),(1,.box (Zz.g a))] 6=(Fy34_13_5 c e f h i j l n m b a).map (fun|.inl _=>((bv false,[(5,.loop 22 [(3,.ref 1 0),(4,.ref 2 0),(5,.ref 3 0)] [13,14] q34_13a q34_13b false (some .ret)),(3,.box [bv true]),(2,.box [i64 c,i64 e,i64 f,i64 h,i64 i,i64 j,i64 l]),(1,.box (Zz.g a))],0))|.inr _=>((bv true,[(5,.loop 22 [(3,.ref 1 0),(4,.ref 2 0),(5,.ref 3 0)] [13,14] q34_13a q34_13b false none),(3,.box [bv m]),(2,.box (Zp.g b)),(1,.box (Zz.g a))],0))):=by
 rw[yd]
 refine bz (okg iG) ?_
 refine io (lf rfl) (lf rfl)
def Fn159_2 (g:Z0) (v:Bool) (F:Zp) (G:Zz):Option (Zp⊕Unit):=
 (aO (E:=(Int×Int×Int)⊕Unit) (fun(⟨H,f⟩:Int×Int)=>if decide (f<(g.Parts.length:Int))then(lget g.Parts f).bind fun J=>(Fy34_13 1 f 0 0 0 0 0 J v F G).bind fun K=>(match K with|.inl _=>some (.inr (.inl (1,f,0)))|.inr _=>(lget g.Parts f).bind fun L=>(aO (E:=(Int×Int)⊕Int) (fun(⟨h,i⟩:Int×Int)=>if decide (i<(L.Staves.length:Int))then(lget g.Parts f).bind fun M=>(lget M.Staves i).bind fun N=>(Fy34_13_2 2 0 h 0 0 0 0 N v F G).bind fun O=>(match O with|.inl _=>some (.inr (.inl (h,h)))|.inr _=>some (.inl ((w64 (h+1)),(w64 (i+1)))))else some (.inr (.inr h))) B64 (H,0)).bind fun P=>(match P with|.inl ⟨x33,x34⟩=>some (.inr (.inl (2,0,x34)))|.inr x35=>some (.inl (x35,(w64 (f+1))))))else some (.inr (.inr ()))) B64 (0,0)).bind fun R=>(match R with|.inl ⟨x37,x38,x39⟩=>some (.inl (Zp.mk x37 x38 x39 0 0 0 0))|.inr _=>(aO (E:=(Int×Int×Int×Int×Int)⊕Unit) (fun(a:Int)=>if decide (a<(g.Measures.length:Int))then(lget g.Measures a).bind fun j=>(Fy34_13_3 3 0 0 a 0 0 0 j v F G).bind fun k=>(match k with|.inl _=>some (.inr (.inl (3,0,a,0,0)))|.inr _=>(lget g.Measures a).bind fun l=>(aO (E:=(Int×Int×Int)⊕Unit) (fun(b:Int)=>if decide (b<(l.Cells.length:Int))then(lget g.Measures a).bind fun m=>(lget m.Cells b).bind fun n=>(aO (E:=(Int×Int)⊕Unit) (fun(c:Int)=>if decide (c<(n.Voices.length:Int))then(lget g.Measures a).bind fun o=>(lget o.Cells b).bind fun p=>(lget p.Voices c).bind fun q=>(aO (E:=Int⊕Unit) (fun(d:Int)=>if decide (d<(q.Events.length:Int))then(lget g.Measures a).bind fun r=>(lget r.Cells b).bind fun s=>(lget s.Voices c).bind fun t=>(lget t.Events d).bind fun u=>(Fy34_13_4 4 0 b a c d 0 u v F G).bind fun w=>(match w with|.inl _=>some (.inr (.inl d))|.inr _=>some (.inl (w64 (d+1))))else some (.inr (.inr ()))) B64 0).bind fun x=>(match x with|.inl x201=>some (.inr (.inl (c,x201)))|.inr _=>some (.inl (w64 (c+1))))else some (.inr (.inr ()))) B64 0).bind fun y=>(match y with|.inl ⟨x203,x204⟩=>some (.inr (.inl (b,x203,x204)))|.inr _=>some (.inl (w64 (b+1))))else some (.inr (.inr ()))) B64 0).bind fun z=>(match z with|.inl ⟨x206,x207,x208⟩=>some (.inr (.inl (4,x206,a,x207,x208)))|.inr _=>some (.inl (w64 (a+1)))))else some (.inr (.inr ()))) B64 0).bind fun A=>(match A with|.inl ⟨x210,x211,x212,x213,x214⟩=>some (.inl (Zp.mk x210 0 x211 x212 x213 x214 0))|.inr _=>(aO (E:=Int⊕Unit) (fun(e:Int)=>if decide (e<(g.Spanners.length:Int))then(lget g.Spanners e).bind fun B=>(Fy34_13_5 5 0 0 0 0 0 e B v F G).bind fun C=>(match C with|.inl _=>some (.inr (.inl e))|.inr _=>some (.inl (w64 (e+1))))else some (.inr (.inr ()))) B64 0).bind fun D=>(match D with|.inl x221=>some (.inl (Zp.mk 5 0 0 0 0 0 x221))|.inr _=>some (.inr ()))))
theorem okn159_2 {k} (d) (c:Z0) (i:Bool) (j:Zp) (e:Zz):runR (XD k (d+2)) 159 [.yld 5,.ref 4 0] [(5,.loop 22 [(3,.ref 1 0),(4,.ref 2 0),(5,.ref 3 0)] [13,14] q34_13a q34_13b false none),(4,.box [.ref 0 0]),(0,.box (Z0.g c)),(3,.box [bv i]),(2,.box (Zp.g j)),(1,.box (Zz.g e))] 6 false=(Fn159_2 c i j e).map (fun|.inl x223=>((.tup [],[(5,.loop 22 [(3,.ref 1 0),(4,.ref 2 0),(5,.ref 3 0)] [13,14] q34_13a q34_13b false (some .ret)),(4,.box [.ref 0 0]),(0,.box (Z0.g c)),(3,.box [bv true]),(2,.box (Zp.g x223)),(1,.box (Zz.g e))],0))|.inr _=>((.tup [],[(5,.loop 22 [(3,.ref 1 0),(4,.ref 2 0),(5,.ref 3 0)] [13,14] q34_13a q34_13b false none),(4,.box [.ref 0 0]),(0,.box (Z0.g c)),(3,.box [bv i]),(2,.box (Zp.g j)),(1,.box (Zz.g e))],0))):=by
 rw[xd (fn:=p159) rfl]
 refine bz lm ?_
 refine bo (aI (S:=Int×Int) (enc:=fun⟨B,l⟩=>(Q [(0,.yld 5),(1,.ref 4 0),(3,i64 B),(15,i64 (c.Parts.length:Int)),(16,i64 l)] [(5,.loop 22 [(3,.ref 1 0),(4,.ref 2 0),(5,.ref 3 0)] [13,14] q34_13a q34_13b false none),(4,.box [.ref 0 0]),(0,.box (Z0.g c)),(3,.box [bv i]),(2,.box (Zp.g j)),(1,.box (Zz.g e))])) (encE:=(fun|.inl ⟨V,W,X⟩=>(rq [(0,.yld 5),(1,.ref 4 0)] [(5,.loop 22 [(3,.ref 1 0),(4,.ref 2 0),(5,.ref 3 0)] [13,14] q34_13a q34_13b false (some .ret)),(4,.box [.ref 0 0]),(0,.box (Z0.g c)),(3,.box [bv true]),(2,.box [i64 V,i64 W,i64 X,i64 0,i64 0,i64 0,i64 0]),(1,.box (Zz.g e))])|.inr _=>(xq 0 [(0,.yld 5),(1,.ref 4 0)] [(5,.loop 22 [(3,.ref 1 0),(4,.ref 2 0),(5,.ref 3 0)] [13,14] q34_13a q34_13b false none),(4,.box [.ref 0 0]),(0,.box (Z0.g c)),(3,.box [bv i]),(2,.box (Zp.g j)),(1,.box (Zz.g e))]))) (fun⟨B,l⟩=>?_) B64 (0,0)) fun b6=>?_
 refine io ?_ (lf rfl)
 refine bo rg fun Y=>?_
 refine bo (oky34_13 d 1 l 0 0 0 0 0 Y i j e) fun Z=>?_
 rcases Z with _|_
 exact lf rfl
 refine bo rg fun a0=>?_
 refine bz lm ?_
 refine bo (aI (S:=Int×Int) (enc:=fun⟨C,R⟩=>(Q [(0,.yld 5),(1,.ref 4 0),(3,i64 C),(4,i64 l),(15,i64 (c.Parts.length:Int)),(16,i64 l),(39,i64 (a0.Staves.length:Int)),(40,i64 R)] [(5,.loop 22 [(3,.ref 1 0),(4,.ref 2 0),(5,.ref 3 0)] [13,14] q34_13a q34_13b false none),(3,.box [bv i]),(2,.box (Zp.g j)),(1,.box (Zz.g e)),(4,.box [.ref 0 0]),(0,.box (Z0.g c))])) (encE:=(fun|.inl ⟨T,U⟩=>(rq [(0,.yld 5),(1,.ref 4 0),(3,i64 T),(15,i64 (c.Parts.length:Int)),(16,i64 l)] [(5,.loop 22 [(3,.ref 1 0),(4,.ref 2 0),(5,.ref 3 0)] [13,14] q34_13a q34_13b false (some .ret)),(3,.box [bv true]),(2,.box [i64 2,i64 0,i64 U,i64 0,i64 0,i64 0,i64 0]),(1,.box (Zz.g e)),(4,.box [.ref 0 0]),(0,.box (Z0.g c))])|.inr x35=>(xq 2 [(0,.yld 5),(1,.ref 4 0),(3,i64 x35),(15,i64 (c.Parts.length:Int)),(16,i64 l)] [(5,.loop 22 [(3,.ref 1 0),(4,.ref 2 0),(5,.ref 3 0)] [13,14] q34_13a q34_13b false none),(3,.box [bv i]),(2,.box (Zp.g j)),(1,.box (Zz.g e)),(4,.box [.ref 0 0]),(0,.box (Z0.g c))]))) (fun⟨C,R⟩=>?_) B64 (B,0)) fun b5=>?_
 refine io ?_ (lf rfl)
 refine bo rg fun d3=>?_
 refine bo rg fun b0=>?_
 refine bo (oky34_13_2 d 2 0 C 0 0 0 0 b0 i j e) fun b4=>?_
 rcases b4 with _|_
 exact lf rfl
 exact lf rfl
 rcases b5 with⟨T,U⟩|x35
 exact lf rfl
 exact lf rfl
 rcases b6 with⟨V,W,X⟩|_
 exact lf rfl
 refine bz lm ?_
 refine bo (aI (S:=Int) (enc:=fun a=>(Q [(0,.yld 5),(1,.ref 4 0),(67,i64 (c.Measures.length:Int)),(68,i64 a)] [(5,.loop 22 [(3,.ref 1 0),(4,.ref 2 0),(5,.ref 3 0)] [13,14] q34_13a q34_13b false none),(4,.box [.ref 0 0]),(0,.box (Z0.g c)),(3,.box [bv i]),(2,.box (Zp.g j)),(1,.box (Zz.g e))])) (encE:=(fun|.inl ⟨v,w,x,y,z⟩=>(rq [(0,.yld 5),(1,.ref 4 0)] [(5,.loop 22 [(3,.ref 1 0),(4,.ref 2 0),(5,.ref 3 0)] [13,14] q34_13a q34_13b false (some .ret)),(4,.box [.ref 0 0]),(0,.box (Z0.g c)),(3,.box [bv true]),(2,.box [i64 v,i64 0,i64 w,i64 x,i64 y,i64 z,i64 0]),(1,.box (Zz.g e))])|.inr _=>(xq 4 [(0,.yld 5),(1,.ref 4 0)] [(5,.loop 22 [(3,.ref 1 0),(4,.ref 2 0),(5,.ref 3 0)] [13,14] q34_13a q34_13b false none),(4,.box [.ref 0 0]),(0,.box (Z0.g c)),(3,.box [bv i]),(2,.box (Zp.g j)),(1,.box (Zz.g e))]))) (fun a=>?_) B64 0) fun M=>?_
 refine io ?_ (lf rfl)
 refine bo rg fun D=>?_
 refine bo (oky34_13_3 d 3 0 0 a 0 0 0 D i j e) fun E=>?_
 rcases E with _|_
 exact lf rfl
 refine bo rg fun h=>?_
 refine bz lm ?_
 refine bo (aI (S:=Int) (enc:=fun b=>(Q [(0,.yld 5),(1,.ref 4 0),(6,i64 a),(67,i64 (c.Measures.length:Int)),(68,i64 a),(91,i64 (h.Cells.length:Int)),(92,i64 b)] [(5,.loop 22 [(3,.ref 1 0),(4,.ref 2 0),(5,.ref 3 0)] [13,14] q34_13a q34_13b false none),(3,.box [bv i]),(2,.box (Zp.g j)),(1,.box (Zz.g e)),(4,.box [.ref 0 0]),(0,.box (Z0.g c))])) (encE:=(fun|.inl ⟨s,t,u⟩=>(rq [(0,.yld 5),(1,.ref 4 0),(67,i64 (c.Measures.length:Int)),(68,i64 a)] [(5,.loop 22 [(3,.ref 1 0),(4,.ref 2 0),(5,.ref 3 0)] [13,14] q34_13a q34_13b false (some .ret)),(3,.box [bv true]),(2,.box [i64 4,i64 0,i64 s,i64 a,i64 t,i64 u,i64 0]),(1,.box (Zz.g e)),(4,.box [.ref 0 0]),(0,.box (Z0.g c))])|.inr _=>(xq 6 [(0,.yld 5),(1,.ref 4 0),(67,i64 (c.Measures.length:Int)),(68,i64 a)] [(5,.loop 22 [(3,.ref 1 0),(4,.ref 2 0),(5,.ref 3 0)] [13,14] q34_13a q34_13b false none),(3,.box [bv i]),(2,.box (Zp.g j)),(1,.box (Zz.g e)),(4,.box [.ref 0 0]),(0,.box (Z0.g c))]))) (fun b=>?_) B64 0) fun L=>?_
 refine io ?_ (lf rfl)
 refine bo rg fun b7=>?_
 refine bo rg fun m=>?_
 refine bz lm ?_
 refine bo (aI (S:=Int) (enc:=fun f=>(Q [(0,.yld 5),(1,.ref 4 0),(6,i64 a),(7,i64 b),(67,i64 (c.Measures.length:Int)),(68,i64 a),(91,i64 (h.Cells.length:Int)),(92,i64 b),(107,i64 (m.Voices.length:Int)),(108,i64 f)] [(5,.loop 22 [(3,.ref 1 0),(4,.ref 2 0),(5,.ref 3 0)] [13,14] q34_13a q34_13b false none),(3,.box [bv i]),(2,.box (Zp.g j)),(1,.box (Zz.g e)),(4,.box [.ref 0 0]),(0,.box (Z0.g c))])) (encE:=(fun|.inl ⟨q,r⟩=>(rq [(0,.yld 5),(1,.ref 4 0),(6,i64 a),(67,i64 (c.Measures.length:Int)),(68,i64 a),(91,i64 (h.Cells.length:Int)),(92,i64 b)] [(5,.loop 22 [(3,.ref 1 0),(4,.ref 2 0),(5,.ref 3 0)] [13,14] q34_13a q34_13b false (some .ret)),(3,.box [bv true]),(2,.box [i64 4,i64 0,i64 b,i64 a,i64 q,i64 r,i64 0]),(1,.box (Zz.g e)),(4,.box [.ref 0 0]),(0,.box (Z0.g c))])|.inr _=>(xq 8 [(0,.yld 5),(1,.ref 4 0),(6,i64 a),(67,i64 (c.Measures.length:Int)),(68,i64 a),(91,i64 (h.Cells.length:Int)),(92,i64 b)] [(5,.loop 22 [(3,.ref 1 0),(4,.ref 2 0),(5,.ref 3 0)] [13,14] q34_13a q34_13b false none),(3,.box [bv i]),(2,.box (Zp.g j)),(1,.box (Zz.g e)),(4,.box [.ref 0 0]),(0,.box (Z0.g c))]))) (fun f=>?_) B64 0) fun K=>?_
 refine io ?_ (lf rfl)
 refine bo rg fun b8=>?_
 refine bo rg fun b9=>?_
 refine bo rg fun F=>?_
 refine bz lm ?_
 refine bo (aI (S:=Int) (enc:=fun n=>(Q [(0,.yld 5),(1,.ref 4 0),(6,i64 a),(7,i64 b),(8,i64 f),(67,i64 (c.Measures.length:Int)),(68,i64 a),(91,i64 (h.Cells.length:Int)),(92,i64 b),(107,i64 (m.Voices.length:Int)),(108,i64 f),(127,i64 (F.Events.length:Int)),(128,i64 n)] [(5,.loop 22 [(3,.ref 1 0),(4,.ref 2 0),(5,.ref 3 0)] [13,14] q34_13a q34_13b false none),(3,.box [bv i]),(2,.box (Zp.g j)),(1,.box (Zz.g e)),(4,.box [.ref 0 0]),(0,.box (Z0.g c))])) (encE:=(fun|.inl p=>(rq [(0,.yld 5),(1,.ref 4 0),(6,i64 a),(7,i64 b),(67,i64 (c.Measures.length:Int)),(68,i64 a),(91,i64 (h.Cells.length:Int)),(92,i64 b),(107,i64 (m.Voices.length:Int)),(108,i64 f)] [(5,.loop 22 [(3,.ref 1 0),(4,.ref 2 0),(5,.ref 3 0)] [13,14] q34_13a q34_13b false (some .ret)),(3,.box [bv true]),(2,.box [i64 4,i64 0,i64 b,i64 a,i64 f,i64 p,i64 0]),(1,.box (Zz.g e)),(4,.box [.ref 0 0]),(0,.box (Z0.g c))])|.inr _=>(xq 10 [(0,.yld 5),(1,.ref 4 0),(6,i64 a),(7,i64 b),(67,i64 (c.Measures.length:Int)),(68,i64 a),(91,i64 (h.Cells.length:Int)),(92,i64 b),(107,i64 (m.Voices.length:Int)),(108,i64 f)] [(5,.loop 22 [(3,.ref 1 0),(4,.ref 2 0),(5,.ref 3 0)] [13,14] q34_13a q34_13b false none),(3,.box [bv i]),(2,.box (Zp.g j)),(1,.box (Zz.g e)),(4,.box [.ref 0 0]),(0,.box (Z0.g c))]))) (fun n=>?_) B64 0) fun J=>?_
 refine io ?_ (lf rfl)
 refine bo rg fun d0=>?_
 refine bo rg fun d1=>?_
 refine bo rg fun d2=>?_
 refine bo rg fun G=>?_
 refine bo (oky34_13_4 d 4 0 b a f n 0 G i j e) fun H=>?_
 rcases H with _|_
 exact lf rfl
 exact lf rfl
 rcases J with p|_
 exact lf rfl
 exact lf rfl
 rcases K with⟨q,r⟩|_
 exact lf rfl
 exact lf rfl
 rcases L with⟨s,t,u⟩|_
 exact lf rfl
 exact lf rfl
 rcases M with⟨v,w,x,y,z⟩|_
 exact lf rfl
 refine bz lm ?_
 refine bo (aI (S:=Int) (enc:=fun o=>(Q [(0,.yld 5),(1,.ref 4 0),(166,i64 (c.Spanners.length:Int)),(167,i64 o)] [(5,.loop 22 [(3,.ref 1 0),(4,.ref 2 0),(5,.ref 3 0)] [13,14] q34_13a q34_13b false none),(4,.box [.ref 0 0]),(0,.box (Z0.g c)),(3,.box [bv i]),(2,.box (Zp.g j)),(1,.box (Zz.g e))])) (encE:=(fun|.inl A=>(rq [] [(5,.loop 22 [(3,.ref 1 0),(4,.ref 2 0),(5,.ref 3 0)] [13,14] q34_13a q34_13b false (some .ret)),(4,.box [.ref 0 0]),(0,.box (Z0.g c)),(3,.box [bv true]),(2,.box [i64 5,i64 0,i64 0,i64 0,i64 0,i64 0,i64 A]),(1,.box (Zz.g e))])|.inr _=>(xq 12 [] [(5,.loop 22 [(3,.ref 1 0),(4,.ref 2 0),(5,.ref 3 0)] [13,14] q34_13a q34_13b false none),(4,.box [.ref 0 0]),(0,.box (Z0.g c)),(3,.box [bv i]),(2,.box (Zp.g j)),(1,.box (Zz.g e))]))) (fun o=>?_) B64 0) fun P=>?_
 refine io ?_ (lf rfl)
 refine bo rg fun N=>?_
 refine bo (oky34_13_5 d 5 0 0 0 0 0 o N i j e) fun O=>?_
 rcases O with _|_
 exact lf rfl
 exact lf rfl
 rcases P with A|_
 exact lf rfl
 exact lf rfl
end Go.P
namespace Go.P
open Go.Sim (Ex OpK CK)
open K (I Q rq nq xq ck)
def F34 (b:Z0) (a:Zz):Option (Zp×Bool):=
 if((a.Site==0)&&((a.Number==0)&&true))!=false then some ((Zp.mk 0 0 0 0 0 0 0),false)else(Fn80_2 b).bind fun _=>(Fn159_2 b false (Zp.mk 0 0 0 0 0 0 0) a).bind fun c=>(match c with|.inl x3=>some (x3,true)|.inr _=>some ((Zp.mk 0 0 0 0 0 0 0),false))
theorem ok34 {k} (d) (a:Z0) (b:Zz):OD k (d+3) 34 [.agg (Z0.g a),.agg (Zz.g b)]=(F34 a b).map (fun⟨e,f⟩=>.tup [.agg (Zp.g e),bv f]):=by
 rw[od (fn:=p34) rfl rfl rfl]
 refine io (lf rfl) ?_
 refine bo (okn80_2 (d+1) a) fun _=>?_
 refine bo (okn159_2 d a false (Zp.mk 0 0 0 0 0 0 0) b) fun c=>?_
 rcases c with h|_
 exact lf rfl
 exact lf rfl
def F262 (c:List Int):Option (List Int):=
 (uC (c.length:Int) (c.length:Int) 0).bind fun k=>(aO (E:=List Int) (fun(⟨b,a⟩:Int×(List Int))=>if decide (b<(c.length:Int))then(lidx a (w64 (b-1))).bind fun d=>(lnth a d).bind fun e=>(lget c (w64 (b-1))).bind fun f=>(lidx a b).bind fun g=>(lput a g (fun j=>(w64 (e+f)))).bind fun h=>some (.inl ((w64 (b+1)),h))else some (.inr a)) B64 (1,k)).bind fun i=>some i
theorem ok262 {k} (d) (h:List Int):OD k (d+1) 262 [.is 1 (I cI h)]=(F262 h).map (fun r=>.is 1 (I cI r)):=by
 rw[od (fn:=p262) rfl rfl rfl]
 refine bz lm ?_
 refine bo (fK cI _ _ 0) fun q=>?_
 refine bo (aI (S:=Int×(List Int)) (enc:=fun⟨j,a⟩=>(Q [(0,.is 1 (I cI h)),(3,.own 0),(4,i64 j)] [(0,.lst 3 1 true (I cI a))])) (encE:=(fun(e:List Int)=>(xq 0 [(3,.own 0)] [(0,.lst 3 1 true (I cI e))]))) (fun⟨j,a⟩=>?_) B64 (1,q)) fun e=>?_
 refine bz lm ?_
 refine io ?_ (lf rfl)
 refine bo (aT cI a _) fun l=>?_
 refine bo (bC (A:=Int) (c:=cI) (g:=fun b=>i64 b) (fun _=>rfl) a _) fun b=>?_
 refine bo rg fun i=>?_
 refine bo (aT cI a _) fun n=>?_
 refine bo (oM (A:=Int) (c:=cI) (m:=1) (f:=fun o=>(w64 (b+i))) (fun _=>⟨rfl,rfl⟩) (nV1 rfl) a _) fun p=>?_
 exact lf rfl
 exact lf rfl
def F246 (b:Zo) (c:Int):Option ((List Int)×Int):=
 (F241 b c).bind fun⟨d,a⟩=>if a !=0 then some ([],a)else(F262 d).bind fun e=>some (e,0)
theorem ok246 {k} (d) (a:Zo) (b:Int):OD k (d+14) 246 [.agg (Zo.g a),i64 b]=(F246 a b).map (fun⟨e,f⟩=>.tup [.is 1 (I cI e),i64 f]):=by
 rw[od (fn:=p246) rfl rfl rfl]
 refine bo (ok241 d a b) fun⟨c,h⟩=>?_
 refine io (lf rfl) ?_
 refine bo (ok262 (d+12) c) fun i=>?_
 exact lf rfl
def F203 (d:Zk) (g:Zz):Option (Zq×Bool):=
 (F34 d.s' g).bind fun⟨a,h⟩=>if(!h)||(a.Kind !=4)then some ((Zq.mk 0 0 0 0),false)else(lget d.s'.Measures a.Measure).bind fun e=>(F113 e).bind fun⟨i,l⟩=>(lget e.Cells a.Staff).bind fun j=>(lget j.Voices a.Voice).bind fun k=>(F246 k i).bind fun⟨b,f⟩=>if decide (a.Event>=(b.length:Int))then some ((Zq.mk 0 0 0 0),false)else(lget b a.Event).bind fun c=>some ((Zq.mk a.Measure c a.Staff a.Voice),true)
theorem ok203 {k} (d) (a:Zk) (b:Zz):OD k (d+15) 203 [.ip (Zk.g a),.agg (Zz.g b)]=(F203 a b).map (fun⟨l,m⟩=>.tup [.agg (Zq.g l),bv m]):=by
 rw[od (fn:=p203) rfl rfl rfl]
 refine bo (ok34 (d+11) a.s' b) fun⟨n,o⟩=>?_
 refine bz (gor rfl) ?_
 refine io (lf rfl) ?_
 refine bo rg fun h=>?_
 refine bo (ok113 (d+10) h) fun⟨i,p⟩=>?_
 refine bo rg fun q=>?_
 refine bo rg fun j=>?_
 refine bo (ok246 d j i) fun⟨c,e⟩=>?_
 refine bz lm ?_
 refine io (lf rfl) ?_
 refine bo rg fun f=>?_
 exact lf rfl
def F263 (a b:Int):Option Bool:=
 some ((decide (a>=0))&&(decide (a<=b)))
theorem ok263 {k} (d) (a b:Int):OD k (d+1) 263 [i64 a,i64 b]=(F263 a b).map (fun c=>bv c):=by
 rw[od (fn:=p263) rfl rfl rfl]
 refine bz (gand rfl) ?_
 exact lf rfl
def F247 (a:Zq):Option Bool:=
 (F263 a.Measure 1023).bind fun b=>((if b then(F263 a.At 4398046511104).bind fun c=>some c else some false:Option (Bool))).bind fun d=>((if d then(F263 a.Staff 127).bind fun e=>some e else some false:Option (Bool))).bind fun f=>((if f then(F263 a.Voice 1).bind fun g=>some g else some false:Option (Bool))).bind fun h=>some h
theorem ok247 {k} (d) (a:Zq):OD k (d+2) 247 [.agg (Zq.g a)]=(F247 a).map (fun b=>bv b):=by
 rw[od (fn:=p247) rfl rfl rfl]
 refine bo (ok263 d a.Measure 1023) fun c=>?_
 refine bo (e:=id) ?_ fun h=>?_
 refine io ?_ (lf rfl)
 refine bo (ok263 d a.At 4398046511104) fun f=>?_
 exact lf rfl
 refine bo (e:=id) ?_ fun j=>?_
 refine io ?_ (lf rfl)
 refine bo (ok263 d a.Staff 127) fun i=>?_
 exact lf rfl
 refine bo (e:=id) ?_ fun m=>?_
 refine io ?_ (lf rfl)
 refine bo (ok263 d a.Voice 1) fun l=>?_
 exact lf rfl
 exact lf rfl
def F248 (a:Int):Option Bool:=
 some ((a==1)||(a==7))
theorem ok248 {k} (d) (a:Int):OD k (d+1) 248 [i64 a]=(F248 a).map (fun b=>bv b):=by
 rw[od (fn:=p248) rfl rfl rfl]
 refine bz (gor rfl) ?_
 exact lf rfl
def F272 (a:Int):Option Bool:=
 some (a !=a)
theorem ok272 {k} (d) (a:Int):OD k (d+1) 272 [i64 a]=(F272 a).map (fun b=>bv b):=by
 rw[od (fn:=p272) rfl rfl rfl]
 exact lf rfl
def F265 (a b:Int):Option Int:=
 (F272 a).bind fun d=>(F272 b).bind fun c=>if d then if c then some 0 else some (-1)else if c then some 1 else if decide (a<b)then some (-1)else if decide (a>b)then some 1 else some 0
theorem ok265 {k} (d) (a b:Int):OD k (d+2) 265 [i64 a,i64 b]=(F265 a b).map (fun c=>i64 c):=by
 rw[od (fn:=p265) rfl rfl rfl]
 refine bo (ok272 d a) fun e=>?_
 refine bo (ok272 d b) fun f=>?_
 refine io ?_ ?_
 refine io (lf rfl) (lf rfl)
 refine io (lf rfl) ?_
 refine io (lf rfl) ?_
 refine io (lf rfl) (lf rfl)
def F264 (b:List Int):Option Int:=
 (aO (E:=Int⊕Unit) (fun(a:Int)=>if decide (a<(b.length:Int))then(lget b a).bind fun c=>if c !=0 then some (.inr (.inl c))else some (.inl (w64 (a+1)))else some (.inr (.inr ()))) B64 0).bind fun d=>(match d with|.inl x5=>some x5|.inr _=>some 0)
theorem ok264 {k} (d) (a:List Int):OD k (d+1) 264 [.is 1 (I cI a)]=(F264 a).map (fun f=>i64 f):=by
 rw[od (fn:=p264) rfl rfl rfl]
 refine bz lm ?_
 refine bo (aI (S:=Int) (enc:=fun b=>(Q [(3,i64 0),(6,.is 1 (I cI a)),(7,i64 (a.length:Int)),(8,i64 b)] [])) (encE:=(fun|.inl c=>(rq [(2,i64 c),(3,i64 0)] [])|.inr _=>(xq 0 [(3,i64 0)] []))) (fun b=>?_) B64 0) fun e=>?_
 refine io ?_ (lf rfl)
 refine bo rg fun g=>?_
 refine io (lf rfl) (lf rfl)
 rcases e with c|_
 exact lf rfl
 exact lf rfl
def F249 (a b:Zq):Option Int:=
 (F265 a.Measure b.Measure).bind fun c=>(F265 a.At b.At).bind fun d=>(F264 [c,d]).bind fun e=>some e
theorem ok249 {k} (d) (a b:Zq):OD k (d+3) 249 [.agg (Zq.g a),.agg (Zq.g b)]=(F249 a b).map (fun f=>i64 f):=by
 rw[od (fn:=p249) rfl rfl rfl]
 refine bo (ok265 d a.Measure b.Measure) fun c=>?_
 refine bo (ok265 d a.At b.At) fun e=>?_
 refine bo (ok264 (d+1) [c,e]) fun h=>?_
 exact lf rfl
def F204 (a:Zs):Option Int:=
 if(decide (a.Kind<1))||(decide (a.Kind>7))then some 11 else(F247 a.From).bind fun b=>((if !b then some true else(F247 a.To).bind fun c=>some (!c):Option (Bool))).bind fun d=>if d then some 2 else((if a.From.Staff !=a.To.Staff then some true else(F248 a.Kind).bind fun e=>some (e&&(a.From.Voice !=a.To.Voice)):Option (Bool))).bind fun f=>if f then some 23 else(F249 a.From a.To).bind fun g=>if decide (g>=0)then some 25 else some 0
theorem ok204 {k} (d) (a:Zs):OD k (d+4) 204 [.agg (Zs.g a)]=(F204 a).map (fun b=>i64 b):=by
 rw[od (fn:=p204) rfl rfl rfl]
 refine bz (gor rfl) ?_
 refine io (lf rfl) ?_
 refine bo (ok247 (d+1) a.From) fun c=>?_
 refine bo (e:=id) ?_ fun h=>?_
 refine io (lf rfl) ?_
 refine bo (ok247 (d+1) a.To) fun f=>?_
 exact lf rfl
 refine io (lf rfl) ?_
 refine bo (e:=id) ?_ fun j=>?_
 refine io (lf rfl) ?_
 refine bo (ok248 (d+2) a.Kind) fun i=>?_
 refine bz (gand rfl) ?_
 exact lf rfl
 refine io (lf rfl) ?_
 refine bo (ok249 d a.From a.To) fun l=>?_
 refine io (lf rfl) (lf rfl)
def Fn137 (p:List Zv) (g:Z0) (q:Int):Option ((List Bool)×(List Zs)):=
 (aO (E:=(List Bool)×(List Zs)) (fun(⟨b,c,d⟩:Int×(List Bool)×(List Zs))=>if decide (b<(g.Spanners.length:Int))then(lget g.Spanners b).bind fun a=>(F203 (Zk.mk g q p) a.From).bind fun⟨e,h⟩=>(F203 (Zk.mk g q p) a.To).bind fun⟨f,i⟩=>(lapp false d [(Zs.mk a.Kind e f)]).bind fun j=>((if(!h)||(!i)then some true else(F204 (Zs.mk a.Kind e f)).bind fun k=>some (k !=0):Option (Bool))).bind fun l=>(lapp false c [l]).bind fun m=>some (.inl ((w64 (b+1)),m,j))else some (.inr (c,d))) B64 (0,[],[])).bind fun⟨n,o⟩=>some (n,o)
theorem okn137 {k} (d) (c:List Zv) (b:Z0) (i:Int):runR (XD k (d+16)) 137 [.ref 1 0] [(2,.lst 129 3 false (I Zv.g c)),(1,.box (ck b i (.own 2)))] 3 true=(Fn137 c b i).map (fun(⟨q,r⟩:(List Bool)×(List Zs))=>((.tup [.own 3,.own 4],[(4,.lst 4 1 false (I cB q)),(3,.lst 215 9 false (I Zs.g r)),(2,.lst 129 3 false (I Zv.g c)),(1,.box (ck b i (.own 2)))],5))):=by
 rw[xd (fn:=p137) rfl]
 refine bz lm ?_
 refine bo (aI (S:=Int×(List Bool)×(List Zs)) (enc:=fun⟨j,f,h⟩=>(Q [(0,.ref 1 0),(4,.own 3),(5,.own 4),(17,.is 7 (I Zn.g b.Spanners)),(18,i64 (b.Spanners.length:Int)),(19,i64 j)] [(4,.lst 4 1 false (I cB f)),(3,.lst 215 9 false (I Zs.g h)),(2,.lst 129 3 false (I Zv.g c)),(1,.box (ck b i (.own 2)))])) (encE:=(fun(⟨n,o⟩:(List Bool)×(List Zs))=>(xq 0 [(4,.own 3),(5,.own 4)] [(4,.lst 4 1 false (I cB n)),(3,.lst 215 9 false (I Zs.g o)),(2,.lst 129 3 false (I Zv.g c)),(1,.box (ck b i (.own 2)))]))) (fun⟨j,f,h⟩=>?_) B64 (0,[],[])) fun⟨n,o⟩=>?_
 refine io ?_ (lf rfl)
 refine bo rg fun a=>?_
 refine bo (ok203 d (Zk.mk b i c) a.From) fun⟨l,s⟩=>?_
 refine bo (ok203 d (Zk.mk b i c) a.To) fun⟨m,t⟩=>?_
 refine bo (aV false Zs.g h [(Zs.mk a.Kind l m)]) fun u=>?_
 refine bz (gor rfl) ?_
 refine bo (e:=id) ?_ fun p=>?_
 refine io (lf rfl) ?_
 refine bo (ok204 (d+11) (Zs.mk a.Kind l m)) fun v=>?_
 exact lf rfl
 refine bo (aV false cB f [p]) fun w=>?_
 exact lf rfl
 exact lf rfl
def Fn58 (i:List Zv) (c:Z0) (j:Int):Option (List Zv):=
 (Fn137 i c j).bind fun⟨k,l⟩=>(aO (E:=List Zv) (fun(⟨a,b⟩:Int×(List Zv))=>if decide (a<(c.Spanners.length:Int))then(lget c.Spanners a).bind fun d=>(lidx k a).bind fun e=>(lnth k e).bind fun f=>(Fn103 f d.ID b c j).bind fun g=>some (.inl ((w64 (a+1)),g))else some (.inr b)) B64 (0,i)).bind fun h=>some h
theorem okn58 {k} (d) (j:List Zv) (a:Z0) (f:Int):runR (XD k (d+17)) 58 [.ref 1 0] [(2,.lst 129 3 false (I Zv.g j)),(1,.box (ck a f (.own 2)))] 3 false=(Fn58 j a f).map (fun(n:List Zv)=>((.tup [],[(2,.lst 129 3 false (I Zv.g n)),(1,.box (ck a f (.own 2)))],0))):=by
 rw[xd (fn:=p58) rfl]
 refine bo (okn137 d j a f) fun⟨l,o⟩=>?_
 refine bz lm ?_
 refine bo (aI (S:=Int×(List Zv)) (enc:=fun⟨h,b⟩=>(Q [(0,.ref 1 0),(3,.own 4),(15,.is 7 (I Zn.g a.Spanners)),(16,i64 (a.Spanners.length:Int)),(17,i64 h)] [(4,.lst 4 1 false (I cB l)),(3,.lst 215 9 false (I Zs.g o)),(2,.lst 129 3 false (I Zv.g b)),(1,.box (ck a f (.own 2)))])) (encE:=(fun(i:List Zv)=>(xq 0 [] [(4,.lst 4 1 false (I cB l)),(3,.lst 215 9 false (I Zs.g o)),(2,.lst 129 3 false (I Zv.g i)),(1,.box (ck a f (.own 2)))]))) (fun⟨h,b⟩=>?_) B64 (0,j)) fun i=>?_
 refine io ?_ (lf rfl)
 refine bo rg fun m=>?_
 refine bo (aT cB l _) fun p=>?_
 refine bo (bC (A:=Bool) (c:=cB) (g:=fun e=>bv e) (fun _=>rfl) l _) fun e=>?_
 refine bo (okn103 (d+15) e m.ID b a f) fun q=>?_
 exact lf rfl
 exact lf rfl
def F250 (a:Int):Option Int:=
 if(decide (a<1))||(decide (a>7))then some 0 else(lget [1,2,2,4,4,6,7] (w64 (a-1))).bind fun b=>some b
theorem ok250 {k} (d) (a:Int):OD k (d+1) 250 [i64 a]=(F250 a).map (fun b=>i64 b):=by
 rw[od (fn:=p250) rfl rfl rfl]
 refine bz (gor rfl) ?_
 refine io (lf rfl) ?_
 refine bo (lA .i64 [1,2,2,4,4,6,7] (w64 (a-1)) rfl) fun c=>?_
 exact lf rfl
def F205 (a b:Zs):Option Bool:=
 (F250 a.Kind).bind fun c=>((if decide (c>0)then(F250 a.Kind).bind fun d=>(F250 b.Kind).bind fun e=>some (d==e)else some false:Option (Bool))).bind fun f=>((if f&&(a.From.Staff==b.From.Staff)then(F248 a.Kind).bind fun g=>some ((!g)||(a.From.Voice==b.From.Voice))else some false:Option (Bool))).bind fun h=>some h
theorem ok205 {k} (d) (a b:Zs):OD k (d+2) 205 [.agg (Zs.g a),.agg (Zs.g b)]=(F205 a b).map (fun c=>bv c):=by
 rw[od (fn:=p205) rfl rfl rfl]
 refine bo (ok250 d a.Kind) fun f=>?_
 refine bo (e:=id) ?_ fun j=>?_
 refine io ?_ (lf rfl)
 refine bo (ok250 d a.Kind) fun h=>?_
 refine bo (ok250 d b.Kind) fun i=>?_
 exact lf rfl
 refine bz (gand rfl) ?_
 refine bo (e:=id) ?_ fun m=>?_
 refine io ?_ (lf rfl)
 refine bo (ok248 d a.Kind) fun l=>?_
 refine bz (gor rfl) ?_
 exact lf rfl
 exact lf rfl
def F209 (a b:Zs):Option Bool:=
 (F249 a.To b.From).bind fun c=>((if decide (c<0)then some true else(F249 b.To a.From).bind fun d=>some (decide (d<0)):Option (Bool))).bind fun e=>some e
theorem ok209 {k} (d) (a b:Zs):OD k (d+4) 209 [.agg (Zs.g a),.agg (Zs.g b)]=(F209 a b).map (fun c=>bv c):=by
 rw[od (fn:=p209) rfl rfl rfl]
 refine bo (ok249 d a.To b.From) fun f=>?_
 refine bo (e:=id) ?_ fun i=>?_
 refine io (lf rfl) ?_
 refine bo (ok249 d b.To a.From) fun h=>?_
 exact lf rfl
 exact lf rfl
def F208 (a b:Zs):Option Bool:=
 (F209 a b).bind fun c=>some (!c)
theorem ok208 {k} (d) (a b:Zs):OD k (d+5) 208 [.agg (Zs.g a),.agg (Zs.g b)]=(F208 a b).map (fun c=>bv c):=by
 rw[od (fn:=p208) rfl rfl rfl]
 refine bo (ok209 d a b) fun e=>?_
 exact lf rfl
def F207 (a b:Zs):Option Bool:=
 (F249 a.To b.From).bind fun c=>((if decide (c<=0)then some true else(F249 b.To a.From).bind fun d=>some (decide (d<=0)):Option (Bool))).bind fun e=>some e
theorem ok207 {k} (d) (a b:Zs):OD k (d+4) 207 [.agg (Zs.g a),.agg (Zs.g b)]=(F207 a b).map (fun c=>bv c):=by
 rw[od (fn:=p207) rfl rfl rfl]
 refine bo (ok249 d a.To b.From) fun f=>?_
 refine bo (e:=id) ?_ fun i=>?_
 refine io (lf rfl) ?_
 refine bo (ok249 d b.To a.From) fun h=>?_
 exact lf rfl
 exact lf rfl
def F206 (a b:Zs):Option Bool:=
 (F207 a b).bind fun c=>some (!c)
theorem ok206 {k} (d) (a b:Zs):OD k (d+5) 206 [.agg (Zs.g a),.agg (Zs.g b)]=(F206 a b).map (fun c=>bv c):=by
 rw[od (fn:=p206) rfl rfl rfl]
 refine bo (ok207 d a b) fun e=>?_
 exact lf rfl
def F251 (a b:Zs):Option Bool:=
 (F249 a.From b.From).bind fun c=>((if decide (c>=0)then(F249 a.To b.To).bind fun d=>some (decide (d<=0))else some false:Option (Bool))).bind fun e=>some e
theorem ok251 {k} (d) (a b:Zs):OD k (d+4) 251 [.agg (Zs.g a),.agg (Zs.g b)]=(F251 a b).map (fun c=>bv c):=by
 rw[od (fn:=p251) rfl rfl rfl]
 refine bo (ok249 d a.From b.From) fun f=>?_
 refine bo (e:=id) ?_ fun i=>?_
 refine io ?_ (lf rfl)
 refine bo (ok249 d a.To b.To) fun h=>?_
 exact lf rfl
 exact lf rfl
def F210 (a b:Zs):Option Bool:=
 (F207 a b).bind fun c=>((if !c then(F251 a b).bind fun d=>(F251 b a).bind fun e=>some ((d==e)!=false)else some false:Option (Bool))).bind fun f=>some f
theorem ok210 {k} (d) (a b:Zs):OD k (d+5) 210 [.agg (Zs.g a),.agg (Zs.g b)]=(F210 a b).map (fun c=>bv c):=by
 rw[od (fn:=p210) rfl rfl rfl]
 refine bo (ok207 d a b) fun f=>?_
 refine bo (e:=id) ?_ fun j=>?_
 refine io ?_ (lf rfl)
 refine bo (ok251 d a b) fun h=>?_
 refine bo (ok251 d b a) fun i=>?_
 exact lf rfl
 exact lf rfl
def F138 (a b:Zs):Option Bool:=
 (F205 a b).bind fun d=>if !d then some false else if(w64 (a.Kind-1))==6 then(F208 a b).bind fun e=>some e else if(w64 (a.Kind-1))==5 then(F206 a b).bind fun f=>some f else if(w64 (a.Kind-1))==4 then(F208 a b).bind fun g=>some g else if(w64 (a.Kind-1))==3 then(F208 a b).bind fun h=>some h else if(w64 (a.Kind-1))==2 then(F206 a b).bind fun i=>some i else if(w64 (a.Kind-1))==1 then(F206 a b).bind fun j=>some j else if(w64 (a.Kind-1))==0 then(F210 a b).bind fun c=>some c else none
theorem ok138 {k} (d) (a b:Zs):OD k (d+6) 138 [.agg (Zs.g a),.agg (Zs.g b)]=(F138 a b).map (fun e=>bv e):=by
 rw[od (fn:=p138) rfl rfl rfl]
 refine bo (ok205 (d+3) a b) fun f=>?_
 refine io (lf rfl) ?_
 refine io ?_ ?_
 refine bo (ok208 d a b) fun h=>?_
 exact lf rfl
 refine io ?_ ?_
 refine bo (ok206 d a b) fun i=>?_
 exact lf rfl
 refine io ?_ ?_
 refine bo (ok208 d a b) fun j=>?_
 exact lf rfl
 refine io ?_ ?_
 refine bo (ok208 d a b) fun l=>?_
 exact lf rfl
 refine io ?_ ?_
 refine bo (ok206 d a b) fun m=>?_
 exact lf rfl
 refine io ?_ ?_
 refine bo (ok206 d a b) fun n=>?_
 exact lf rfl
 refine io ?_ ?_
 refine bo (ok210 d a b) fun c=>?_
 exact lf rfl
 rfl
def Fn59 (w:List Zv) (e:Z0) (x:Int):Option (List Zv):=
 (Fn137 w e x).bind fun⟨f,g⟩=>(aO (E:=List Zv) (fun(⟨a,c⟩:Int×(List Zv))=>if decide (a<(e.Spanners.length:Int))then(lget e.Spanners a).bind fun h=>(aO (E:=Bool) (fun(⟨d,b⟩:Bool×Int)=>((if decide (b<a)then(lidx f a).bind fun i=>(lnth f i).bind fun j=>some (!j)else some false:Option (Bool))).bind fun k=>if k&&(!d)then(lidx f b).bind fun l=>(lnth f l).bind fun m=>((if !m then(lidx g b).bind fun n=>(lnth g n).bind fun o=>(lidx g a).bind fun p=>(lnth g p).bind fun q=>(F138 o q).bind fun r=>some r else some false:Option (Bool))).bind fun s=>some (.inl (s,(w64 (b+1))))else some (.inr d)) B64 (false,0)).bind fun t=>(Fn103 t h.ID c e x).bind fun u=>some (.inl ((w64 (a+1)),u))else some (.inr c)) B64 (0,w)).bind fun v=>some v
theorem okn59 {k} (d) (v:List Zv) (f:Z0) (j:Int):runR (XD k (d+17)) 59 [.ref 1 0] [(2,.lst 129 3 false (I Zv.g v)),(1,.box (ck f j (.own 2)))] 3 false=(Fn59 v f j).map (fun(w:List Zv)=>((.tup [],[(2,.lst 129 3 false (I Zv.g w)),(1,.box (ck f j (.own 2)))],0))):=by
 rw[xd (fn:=p59) rfl]
 refine bo (okn137 d v f j) fun⟨l,n⟩=>?_
 refine bz lm ?_
 refine bo (aI (S:=Int×(List Zv)) (enc:=fun⟨h,i⟩=>(Q [(0,.ref 1 0),(2,.own 3),(3,.own 4),(17,.is 7 (I Zn.g f.Spanners)),(18,i64 (f.Spanners.length:Int)),(19,i64 h)] [(4,.lst 4 1 false (I cB l)),(3,.lst 215 9 false (I Zs.g n)),(2,.lst 129 3 false (I Zv.g i)),(1,.box (ck f j (.own 2)))])) (encE:=(fun(u:List Zv)=>(xq 0 [] [(4,.lst 4 1 false (I cB l)),(3,.lst 215 9 false (I Zs.g n)),(2,.lst 129 3 false (I Zv.g u)),(1,.box (ck f j (.own 2)))]))) (fun⟨h,i⟩=>?_) B64 (0,v)) fun u=>?_
 refine io ?_ (lf rfl)
 refine bo rg fun o=>?_
 refine bo (aI (S:=Bool×Int) (enc:=fun⟨q,r⟩=>(Q [(0,.ref 1 0),(2,.own 3),(3,.own 4),(4,i64 h),(5,.ref 5 0),(6,bv q),(7,i64 r),(17,.is 7 (I Zn.g f.Spanners)),(18,i64 (f.Spanners.length:Int)),(19,i64 h)] [(5,.box (Zn.g o)),(4,.lst 4 1 false (I cB l)),(3,.lst 215 9 false (I Zs.g n)),(2,.lst 129 3 false (I Zv.g i)),(1,.box (ck f j (.own 2)))])) (encE:=(fun(p:Bool)=>(xq 2 [(0,.ref 1 0),(2,.own 3),(3,.own 4),(5,.ref 5 0),(6,bv p),(17,.is 7 (I Zn.g f.Spanners)),(18,i64 (f.Spanners.length:Int)),(19,i64 h)] [(5,.box (Zn.g o)),(4,.lst 4 1 false (I cB l)),(3,.lst 215 9 false (I Zs.g n)),(2,.lst 129 3 false (I Zv.g i)),(1,.box (ck f j (.own 2)))]))) (fun⟨q,r⟩=>?_) B64 (false,0)) fun p=>?_
 refine bo (e:=id) ?_ fun y=>?_
 refine io ?_ (lf rfl)
 refine bo (aT cB l _) fun x=>?_
 refine bo (bC (A:=Bool) (c:=cB) (g:=fun s=>bv s) (fun _=>rfl) l _) fun s=>?_
 exact lf rfl
 refine bz (gand rfl) ?_
 refine io ?_ (lf rfl)
 refine bo (aT cB l _) fun z=>?_
 refine bo (bC (A:=Bool) (c:=cB) (g:=fun t=>bv t) (fun _=>rfl) l _) fun t=>?_
 refine bo (e:=id) ?_ fun E=>?_
 refine io ?_ (lf rfl)
 refine bo (aT Zs.g n _) fun B=>?_
 refine bo (iT (A:=Zs) (c:=Zs.g) (m:=9) (g:=fun a=>[i64 a.Kind,i64 a.From.Measure,i64 a.From.At,i64 a.From.Staff,i64 a.From.Voice,i64 a.To.Measure,i64 a.To.At,i64 a.To.Staff,i64 a.To.Voice]) (fun _=>⟨rfl,rfl⟩) (nV1 rfl) n _) fun a=>?_
 refine bo (aT Zs.g n _) fun C=>?_
 refine bo (iT (A:=Zs) (c:=Zs.g) (m:=9) (g:=fun b=>[i64 b.Kind,i64 b.From.Measure,i64 b.From.At,i64 b.From.Staff,i64 b.From.Voice,i64 b.To.Measure,i64 b.To.At,i64 b.To.Staff,i64 b.To.Voice]) (fun _=>⟨rfl,rfl⟩) (nV1 rfl) n _) fun b=>?_
 refine bo (ok138 (d+10) a b) fun D=>?_
 exact lf rfl
 exact lf rfl
 refine bo (okn103 (d+15) p o.ID i f j) fun F=>?_
 exact lf rfl
 exact lf rfl
def F139 (f:Int) (a:Zm):Option Bool:=
 ((if a.RepeatEnd !=0 then(F105 a.RepeatEnd 2 8).bind fun b=>some (!b)else some false:Option (Bool))).bind fun c=>((if c then some true else(F105 a.Endings 0 255).bind fun d=>some (!d):Option (Bool))).bind fun e=>some e
theorem ok139 {k} (d) (b:Int) (a:Zm):OD k (d+2) 139 [i64 b,.agg (Zm.g a)]=(F139 b a).map (fun c=>bv c):=by
 rw[od (fn:=p139) rfl rfl rfl]
 refine bo (e:=id) ?_ fun h=>?_
 refine io ?_ (lf rfl)
 refine bo (ok105 d a.RepeatEnd 2 8) fun f=>?_
 exact lf rfl
 refine bo (e:=id) ?_ fun j=>?_
 refine io (lf rfl) ?_
 refine bo (ok105 d a.Endings 0 255) fun i=>?_
 exact lf rfl
 exact lf rfl
def Fn109_6 (h:List Zv) (e:Z0) (i:Int):Option (List Zv):=
 (aO (E:=List Zv) (fun(⟨a,f⟩:Int×(List Zv))=>if decide (a<(e.Measures.length:Int))then(lget e.Measures a).bind fun g=>(F139 a g).bind fun b=>(Fn103 b g.ID f e i).bind fun c=>some (.inl ((w64 (a+1)),c))else some (.inr f)) B64 (0,h)).bind fun d=>some d
theorem okn109_6 {k} (d) (e:List Zv) (a:Z0) (b:Int):runR (XD k (d+3)) 109 [.ref 1 0,.fn 139 [] []] [(2,.lst 129 3 false (I Zv.g e)),(1,.box (ck a b (.own 2)))] 3 false=(Fn109_6 e a b).map (fun(h:List Zv)=>((.tup [],[(2,.lst 129 3 false (I Zv.g h)),(1,.box (ck a b (.own 2)))],0))):=by
 rw[xd (fn:=p109) rfl]
 refine bz lm ?_
 refine bo (aI (S:=Int×(List Zv)) (enc:=fun⟨i,j⟩=>(Q [(0,.ref 1 0),(1,.fn 139 [] []),(10,.is 22 (I Zm.g a.Measures)),(11,i64 (a.Measures.length:Int)),(12,i64 i)] [(2,.lst 129 3 false (I Zv.g j)),(1,.box (ck a b (.own 2)))])) (encE:=(fun(c:List Zv)=>(xq 0 [] [(2,.lst 129 3 false (I Zv.g c)),(1,.box (ck a b (.own 2)))]))) (fun⟨i,j⟩=>?_) B64 (0,e)) fun c=>?_
 refine io ?_ (lf rfl)
 refine bo rg fun l=>?_
 refine bo (ok139 d i l) fun f=>?_
 refine bo (okn103 (d+1) f l.ID j a b) fun m=>?_
 exact lf rfl
 exact lf rfl
def F267 (a:Int):Option Int:=
 ((if decide (a>=4294967296)then(shrO .u64 a 32).bind fun h=>some (h,32)else some (a,0):Option (Int×Int))).bind fun⟨d,f⟩=>((if decide (d>=65536)then(shrO .u64 d 16).bind fun i=>some (i,(w64 (f+16)))else some (d,f):Option (Int×Int))).bind fun⟨e,g⟩=>((if decide (e>=256)then(shrO .u64 e 8).bind fun j=>some (j,(w64 (g+8)))else some (e,g):Option (Int×Int))).bind fun⟨k,b⟩=>(lI (⟨#[0,1,2,2,3,3,3,3,4,4,4,4,4,4,4,4,5,5,5,5,5,5,5,5,5,5,5,5,5,5,5,5,6,6,6,6,6,6,6,6,6,6,6,6,6,6,6,6,6,6,6,6,6,6,6,6,6,6,6,6,6,6,6,6,7,7,7,7,7,7,7,7,7,7,7,7,7,7,7,7,7,7,7,7,7,7,7,7,7,7,7,7,7,7,7,7,7,7,7,7,7,7,7,7,7,7,7,7,7,7,7,7,7,7,7,7,7,7,7,7,7,7,7,7,7,7,7,7,8,8,8,8,8,8,8,8,8,8,8,8,8,8,8,8,8,8,8,8,8,8,8,8,8,8,8,8,8,8,8,8,8,8,8,8,8,8,8,8,8,8,8,8,8,8,8,8,8,8,8,8,8,8,8,8,8,8,8,8,8,8,8,8,8,8,8,8,8,8,8,8,8,8,8,8,8,8,8,8,8,8,8,8,8,8,8,8,8,8,8,8,8,8,8,8,8,8,8,8,8,8,8,8,8,8,8,8,8,8,8,8,8,8,8,8,8,8,8,8,8,8,8,8,8,8,8,8]⟩:ByteArray) (IntKind.wrap .u8 (k))).bind fun c=>some (w64 (b+(w64 (c))))
theorem ok267 {k} (d) (b:Int):OD k (d+1) 267 [.v (.int .u64 b)]=(F267 b).map (fun l=>i64 l):=by
 rw[od (fn:=p267) rfl rfl rfl]
 refine bo (e:=(fun(⟨c,f⟩:Int×Int)=>(nq [(0,.v (.int .u64 c)),(2,i64 f)] []))) ?_ fun⟨c,f⟩=>?_
 refine io ?_ (lf rfl)
 refine bo oi fun m=>?_
 exact lf rfl
 refine bo (e:=(fun(⟨g,h⟩:Int×Int)=>(nq [(0,.v (.int .u64 g)),(2,i64 h)] []))) ?_ fun⟨g,h⟩=>?_
 refine io ?_ (lf rfl)
 refine bo oi fun n=>?_
 exact lf rfl
 refine bo (e:=(fun(⟨i,a⟩:Int×Int)=>(nq [(0,.v (.int .u64 i)),(2,i64 a)] []))) ?_ fun⟨i,a⟩=>?_
 refine io ?_ (lf rfl)
 refine bo oi fun o=>?_
 exact lf rfl
 refine bo oi fun j=>?_
 exact lf rfl
def F252 (a:Int):Option Int:=
 (F267 a).bind fun b=>some b
theorem ok252 {k} (d) (a:Int):OD k (d+2) 252 [.v (.int .u64 a)]=(F252 a).map (fun b=>i64 b):=by
 rw[od (fn:=p252) rfl rfl rfl]
 refine bo (ok267 d a) fun c=>?_
 exact lf rfl
def F141 (a:Zg):Option Bool:=
 ((if decide (a.passes>0)then(shlO .i64 1 (w64 (a.passes-1))).bind fun b=>some (a.ending==b)else some false:Option (Bool))).bind fun c=>some c
theorem ok141 {k} (d) (a:Zg):OD k (d+1) 141 [.agg (Zg.g a)]=(F141 a).map (fun b=>bv b):=by
 rw[od (fn:=p141) rfl rfl rfl]
 refine bo (e:=id) ?_ fun f=>?_
 refine io ?_ (lf rfl)
 refine bo oi fun c=>?_
 exact lf rfl
 exact lf rfl
def F211 (a:Zg) (b:Zm):Option (Zg×Bool):=
 if b.RepeatStart||(a.body==0)then some (a,false)else if b.Endings !=a.ending then if((a.ending !=0)&&(!a.ended))||((iand .i64 b.Endings a.used)!=0)then some (a,false)else(F252 (IntKind.wrap .u64 (b.Endings))).bind fun k=>if a.passes==0 then if((iand .i64 b.Endings 1)==0)||(decide ((w64 (k-1))>6))then some ((Zg.mk a.started a.body (ior .i64 a.used b.Endings) b.Endings false a.passes),false)else if b.RepeatEnd !=0 then(F141 (Zg.mk a.started a.body (ior .i64 a.used b.Endings) b.Endings false a.passes)).bind fun l=>((if l||((a.passes !=0)&&(b.RepeatEnd !=a.passes))then some true else(F252 (IntKind.wrap .u64 (b.Endings))).bind fun m=>some (decide (m>=b.RepeatEnd)):Option (Bool))).bind fun n=>if n then some ((Zg.mk a.started a.body (ior .i64 a.used b.Endings) b.Endings false a.passes),false)else some ((Zg.mk a.started a.body (ior .i64 a.used b.Endings) b.Endings true b.RepeatEnd),true)else some ((Zg.mk a.started a.body (ior .i64 a.used b.Endings) b.Endings false a.passes),true)else((if decide ((w64 (k-1))>=a.passes)then some true else((if(w64 (k-1))==(w64 (a.passes-1))then(F141 (Zg.mk a.started a.body (ior .i64 a.used b.Endings) b.Endings false a.passes)).bind fun o=>((if !o then some true else(shlO .i64 1 a.passes).bind fun p=>some ((ior .i64 a.used b.Endings)!=(w64 (p-1))):Option (Bool))).bind fun q=>some q else some false:Option (Bool))).bind fun c=>some c:Option (Bool))).bind fun d=>if d then some ((Zg.mk a.started a.body (ior .i64 a.used b.Endings) b.Endings false a.passes),false)else if b.RepeatEnd !=0 then(F141 (Zg.mk a.started a.body (ior .i64 a.used b.Endings) b.Endings false a.passes)).bind fun e=>((if e||((a.passes !=0)&&(b.RepeatEnd !=a.passes))then some true else(F252 (IntKind.wrap .u64 (b.Endings))).bind fun f=>some (decide (f>=b.RepeatEnd)):Option (Bool))).bind fun g=>if g then some ((Zg.mk a.started a.body (ior .i64 a.used b.Endings) b.Endings false a.passes),false)else some ((Zg.mk a.started a.body (ior .i64 a.used b.Endings) b.Endings true b.RepeatEnd),true)else some ((Zg.mk a.started a.body (ior .i64 a.used b.Endings) b.Endings false a.passes),true)else if a.ended then some (a,false)else if b.RepeatEnd !=0 then(F141 a).bind fun h=>((if h||((a.passes !=0)&&(b.RepeatEnd !=a.passes))then some true else(F252 (IntKind.wrap .u64 (a.ending))).bind fun i=>some (decide (i>=b.RepeatEnd)):Option (Bool))).bind fun j=>if j then some (a,false)else some ((Zg.mk a.started a.body a.used a.ending true b.RepeatEnd),true)else some (a,true)
theorem ok211 {k} (d) (a:Zg) (b:Zm):OD k (d+3) 211 [.agg (Zg.g a),.agg (Zm.g b)]=(F211 a b).map (fun⟨o,p⟩=>.tup [.agg (Zg.g o),bv p]):=by
 rw[od (fn:=p211) rfl rfl rfl]
 refine bz (gor rfl) ?_
 refine io (lf rfl) ?_
 refine io ?_ ?_
 refine bz (gand rfl) ?_
 refine bz (gor rfl) ?_
 refine io (lf rfl) ?_
 refine bo (ok252 d (IntKind.wrap .u64 (b.Endings))) fun q=>?_
 refine io ?_ ?_
 refine bz (gor rfl) ?_
 refine io (lf rfl) ?_
 refine io ?_ (lf rfl)
 refine bo (ok141 (d+1) (Zg.mk a.started a.body (ior .i64 a.used b.Endings) b.Endings false a.passes)) fun r=>?_
 refine bz (gor (bz (gand rfl) rfl)) ?_
 refine bo (e:=id) ?_ fun t=>?_
 refine io (lf rfl) ?_
 refine bo (ok252 d (IntKind.wrap .u64 (b.Endings))) fun s=>?_
 exact lf rfl
 refine io (lf rfl) (lf rfl)
 refine bo (e:=id) ?_ fun f=>?_
 refine io (lf rfl) ?_
 refine bo (e:=id) ?_ fun c=>?_
 refine io ?_ (lf rfl)
 refine bo (ok141 (d+1) (Zg.mk a.started a.body (ior .i64 a.used b.Endings) b.Endings false a.passes)) fun u=>?_
 refine bo (e:=id) ?_ fun w=>?_
 refine io (lf rfl) ?_
 refine bo oi fun v=>?_
 exact lf rfl
 exact lf rfl
 exact lf rfl
 refine io (lf rfl) ?_
 refine io ?_ (lf rfl)
 refine bo (ok141 (d+1) (Zg.mk a.started a.body (ior .i64 a.used b.Endings) b.Endings false a.passes)) fun h=>?_
 refine bz (gor (bz (gand rfl) rfl)) ?_
 refine bo (e:=id) ?_ fun j=>?_
 refine io (lf rfl) ?_
 refine bo (ok252 d (IntKind.wrap .u64 (b.Endings))) fun i=>?_
 exact lf rfl
 refine io (lf rfl) (lf rfl)
 refine io (lf rfl) ?_
 refine io ?_ (lf rfl)
 refine bo (ok141 (d+1) a) fun l=>?_
 refine bz (gor (bz (gand rfl) rfl)) ?_
 refine bo (e:=id) ?_ fun n=>?_
 refine io (lf rfl) ?_
 refine bo (ok252 d (IntKind.wrap .u64 (a.ending))) fun m=>?_
 exact lf rfl
 refine io (lf rfl) (lf rfl)
def F140 (a:Zg) (b:Zm):Option (Zg×Bool):=
 if b.Endings !=0 then(F211 a b).bind fun⟨e,f⟩=>some (e,f)else if a.ending !=0 then(F141 a).bind fun g=>if !g then some (a,false)else if b.RepeatStart then if false then some ((Zg.mk false 0 0 0 false 0),false)else((if b.RepeatEnd !=0 then some (false,0)else some (true,1):Option (Bool×Int))).bind fun⟨h,i⟩=>some ((Zg.mk h i 0 0 false 0),true)else((if b.RepeatEnd !=0 then some 0 else some 1:Option (Int))).bind fun j=>some ((Zg.mk false j 0 0 false 0),true)else if b.RepeatStart then if a.started then some (a,false)else((if b.RepeatEnd !=0 then some (false,0)else some (true,1):Option (Bool×Int))).bind fun⟨k,c⟩=>some ((Zg.mk k c 0 0 false 0),true)else((if b.RepeatEnd !=0 then some (Zg.mk false 0 0 0 false 0)else some (Zg.mk a.started (w64 (a.body+1)) a.used a.ending a.ended a.passes):Option (Zg))).bind fun d=>some (d,true)
theorem ok140 {k} (d) (f:Zg) (a:Zm):OD k (d+4) 140 [.agg (Zg.g f),.agg (Zm.g a)]=(F140 f a).map (fun⟨m,n⟩=>.tup [.agg (Zg.g m),bv n]):=by
 rw[od (fn:=p140) rfl rfl rfl]
 refine io ?_ ?_
 refine bo (ok211 d f a) fun⟨o,p⟩=>?_
 exact lf rfl
 refine io ?_ ?_
 refine bo (ok141 (d+2) f) fun q=>?_
 refine io (lf rfl) ?_
 refine io ?_ ?_
 refine io (lf rfl) ?_
 refine bo (e:=(fun(⟨h,i⟩:Bool×Int)=>(nq [(2,.ref 0 0),(4,.ref 2 0)] [(2,.box [bv false,i64 0,i64 0,i64 0,bv false,i64 0]),(1,.box (Zm.g a)),(0,.box [bv h,i64 i,i64 0,i64 0,bv false,i64 0])]))) ?_ fun⟨h,i⟩=>?_
 refine io (lf rfl) (lf rfl)
 exact lf rfl
 refine bo (e:=(fun(j:Int)=>(nq [(2,.ref 0 0),(4,.ref 2 0)] [(2,.box [bv false,i64 0,i64 0,i64 0,bv false,i64 0]),(1,.box (Zm.g a)),(0,.box [bv false,i64 j,i64 0,i64 0,bv false,i64 0])]))) ?_ fun j=>?_
 refine io (lf rfl) (lf rfl)
 exact lf rfl
 refine io ?_ ?_
 refine io (lf rfl) ?_
 refine bo (e:=(fun(⟨l,b⟩:Bool×Int)=>(nq [(2,.ref 0 0),(4,.ref 2 0)] [(2,.box [bv false,i64 0,i64 0,i64 0,bv false,i64 0]),(1,.box (Zm.g a)),(0,.box [bv l,i64 b,i64 0,i64 0,bv false,i64 0])]))) ?_ fun⟨l,b⟩=>?_
 refine io (lf rfl) (lf rfl)
 exact lf rfl
 refine bo (e:=(fun(c:Zg)=>(nq [(2,.ref 0 0),(4,.ref 2 0)] [(2,.box [bv false,i64 0,i64 0,i64 0,bv false,i64 0]),(1,.box (Zm.g a)),(0,.box (Zg.g c))]))) ?_ fun c=>?_
 refine io (lf rfl) (lf rfl)
 exact lf rfl
def Fn60 (p:List Zv) (a:Z0) (n:Int):Option (List Zv):=
 (Fn109_6 p a n).bind fun e=>if decide ((e.length:Int)>(p.length:Int))then some e else(aO (E:=(Zg×(List Zv))⊕Zg) (fun(⟨o,b⟩:Int×Zg)=>if decide (o<(a.Measures.length:Int))then(lget a.Measures o).bind fun c=>(F140 b c).bind fun⟨d,f⟩=>if !f then(Fn103 true c.ID e a n).bind fun g=>some (.inr (.inl (d,g)))else some (.inl ((w64 (o+1)),d))else some (.inr (.inr b))) B64 (0,(Zg.mk false 0 0 0 false 0))).bind fun h=>(match h with|.inl ⟨x15,x16⟩=>some x16|.inr x17=>((if x17.started&&(x17.ending==0)then some true else((if x17.ending !=0 then(F141 x17).bind fun i=>some (!i)else some false:Option (Bool))).bind fun j=>some j:Option (Bool))).bind fun k=>(lget a.Measures (w64 ((a.Measures.length:Int)-1))).bind fun l=>(Fn103 k l.ID e a n).bind fun m=>some m)
theorem okn60 {k} (d) (l:List Zv) (a:Z0) (b:Int):runR (XD k (d+5)) 60 [.ref 1 0] [(2,.lst 129 3 false (I Zv.g l)),(1,.box (ck a b (.own 2)))] 3 false=(Fn60 l a b).map (fun(p:List Zv)=>((.tup [],[(2,.lst 129 3 false (I Zv.g p)),(1,.box (ck a b (.own 2)))],0))):=by
 rw[xd (fn:=p60) rfl]
 refine bz (bP Zv.g l) ?_
 refine bo (okn109_6 (d+1) l a b) fun j=>?_
 refine bz (bP Zv.g j) ?_
 refine io (lf rfl) ?_
 refine bz lm ?_
 refine bo (aI (S:=Int×Zg) (enc:=fun⟨q,c⟩=>(Q [(0,.ref 1 0),(3,.ref 3 0),(26,.is 22 (I Zm.g a.Measures)),(27,i64 (a.Measures.length:Int)),(28,i64 q)] [(3,.box (Zg.g c)),(2,.lst 129 3 false (I Zv.g j)),(1,.box (ck a b (.own 2)))])) (encE:=(fun|.inl ⟨h,i⟩=>(rq [(3,.ref 3 0)] [(3,.box (Zg.g h)),(2,.lst 129 3 false (I Zv.g i)),(1,.box (ck a b (.own 2)))])|.inr x17=>(xq 0 [(0,.ref 1 0),(3,.ref 3 0)] [(3,.box (Zg.g x17)),(2,.lst 129 3 false (I Zv.g j)),(1,.box (ck a b (.own 2)))]))) (fun⟨q,c⟩=>?_) B64 (0,(Zg.mk false 0 0 0 false 0))) fun m=>?_
 refine io ?_ (lf rfl)
 refine bo rg fun f=>?_
 refine bo (ok140 d c f) fun⟨r,s⟩=>?_
 refine io ?_ (lf rfl)
 refine bo (okn103 (d+3) true f.ID j a b) fun t=>?_
 exact lf rfl
 rcases m with⟨h,i⟩|x17
 exact lf rfl
 refine bz (gand rfl) ?_
 refine bo (e:=id) ?_ fun n=>?_
 refine io (lf rfl) ?_
 refine bo (e:=id) ?_ fun v=>?_
 refine io ?_ (lf rfl)
 refine bo (ok141 (d+3) x17) fun u=>?_
 exact lf rfl
 exact lf rfl
 refine bz lm ?_
 refine bo rg fun o=>?_
 refine bo (okn103 (d+3) n o.ID j a b) fun w=>?_
 exact lf rfl
def F143 (a b:Zm):Option Bool:=
 some (((b.Jump !=0)&&(a.Jump !=0))||((iand .i64 b.Labels a.Labels)!=0))
theorem ok143 {k} (d) (a b:Zm):OD k (d+1) 143 [.agg (Zm.g a),.ip (Zm.g b)]=(F143 a b).map (fun c=>bv c):=by
 rw[od (fn:=p143) rfl rfl rfl]
 refine bz (gand rfl) ?_
 refine bz (gor rfl) ?_
 exact lf rfl
def F212 (b:List Zm) (c:Zm):Option Int:=
 (aO (E:=Int⊕Unit) (fun(a:Int)=>if decide (a<(b.length:Int))then(lget b a).bind fun d=>(F143 d c).bind fun e=>if e then some (.inr (.inl a))else some (.inl (w64 (a+1)))else some (.inr (.inr ()))) B64 0).bind fun f=>(match f with|.inl x8=>some x8|.inr _=>some (-1))
theorem ok212 {k} (d) (a:List Zm) (b:Zm):OD k (d+2) 212 [.is 22 (I Zm.g a),.fn 143 [] [.ip (Zm.g b)]]=(F212 a b).map (fun i=>i64 i):=by
 rw[od (fn:=p212) rfl rfl rfl]
 refine bz lm ?_
 refine bo (aI (S:=Int) (enc:=fun c=>(Q [(0,.is 22 (I Zm.g a)),(1,.fn 143 [] [.ip (Zm.g b)]),(7,i64 (a.length:Int)),(8,i64 c)] [])) (encE:=(fun|.inl e=>(rq [(4,i64 e)] [])|.inr _=>(xq 0 [] []))) (fun c=>?_) B64 0) fun h=>?_
 refine io ?_ (lf rfl)
 refine bo rg fun f=>?_
 refine bo (ok143 d f b) fun j=>?_
 refine io (lf rfl) (lf rfl)
 rcases h with e|_
 exact lf rfl
 exact lf rfl
def F144 (a:List Zm) (b:Zm):Option Bool:=
 (F212 a b).bind fun c=>some (decide (c>=0))
theorem ok144 {k} (d) (a:List Zm) (b:Zm):OD k (d+3) 144 [.is 22 (I Zm.g a),.fn 143 [] [.ip (Zm.g b)]]=(F144 a b).map (fun c=>bv c):=by
 rw[od (fn:=p144) rfl rfl rfl]
 refine bo (ok212 d a b) fun e=>?_
 exact lf rfl
def F253 (a:Zm) (b:Int):Option Bool:=
 some ((iand .i64 a.Labels b)!=0)
theorem ok253 {k} (d) (a:Zm) (b:Int):OD k (d+1) 253 [.agg (Zm.g a),.ip [i64 b]]=(F253 a b).map (fun c=>bv c):=by
 rw[od (fn:=p253) rfl rfl rfl]
 exact lf rfl
def F212_2 (b:List Zm) (c:Int):Option Int:=
 (aO (E:=Int⊕Unit) (fun(a:Int)=>if decide (a<(b.length:Int))then(lget b a).bind fun d=>(F253 d c).bind fun e=>if e then some (.inr (.inl a))else some (.inl (w64 (a+1)))else some (.inr (.inr ()))) B64 0).bind fun f=>(match f with|.inl x8=>some x8|.inr _=>some (-1))
theorem ok212_2 {k} (d) (a:List Zm) (b:Int):OD k (d+2) 212 [.is 22 (I Zm.g a),.fn 253 [] [.ip [i64 b]]]=(F212_2 a b).map (fun i=>i64 i):=by
 rw[od (fn:=p212) rfl rfl rfl]
 refine bz lm ?_
 refine bo (aI (S:=Int) (enc:=fun c=>(Q [(0,.is 22 (I Zm.g a)),(1,.fn 253 [] [.ip [i64 b]]),(7,i64 (a.length:Int)),(8,i64 c)] [])) (encE:=(fun|.inl e=>(rq [(4,i64 e)] [])|.inr _=>(xq 0 [] []))) (fun c=>?_) B64 0) fun h=>?_
 refine io ?_ (lf rfl)
 refine bo rg fun f=>?_
 refine bo (ok253 d f b) fun j=>?_
 refine io (lf rfl) (lf rfl)
 rcases h with e|_
 exact lf rfl
 exact lf rfl
def F214 (a:Zk) (b:Int):Option Int:=
 (F212_2 a.s'.Measures b).bind fun c=>some c
theorem ok214 {k} (d) (a:Zk) (b:Int):OD k (d+3) 214 [.ip (Zk.g a),i64 b]=(F214 a b).map (fun c=>i64 c):=by
 rw[od (fn:=p214) rfl rfl rfl]
 refine bo (ok212_2 d a.s'.Measures b) fun e=>?_
 exact lf rfl
def F213 (a:Int) (b:Zk) (c:Int):Option Bool:=
 (F214 b a).bind fun d=>(F105 d 0 c).bind fun e=>some e
theorem ok213 {k} (d) (a:Int) (b:Zk) (c:Int):OD k (d+4) 213 [i64 a,.ip [.ip (Zk.g b)],.ip [i64 c]]=(F213 a b c).map (fun f=>bv f):=by
 rw[od (fn:=p213) rfl rfl rfl]
 refine bo (ok214 d b a) fun e=>?_
 refine bo (ok105 (d+2) e 0 c) fun h=>?_
 exact lf rfl
def F145 (b:Zk) (a f:Int):Option Bool:=
 ((if decide (a>=4)then(F213 1 b f).bind fun g=>some (!g)else some false:Option (Bool))).bind fun h=>if h then some false else((if a==2 then some (a==2)else some (a==5):Option (Bool))).bind fun i=>if i then(F213 4 b f).bind fun j=>some j else((if a==3 then some (a==3)else some (a==6):Option (Bool))).bind fun k=>if k then(F213 8 b f).bind fun l=>((if l then(F214 b 2).bind fun c=>(F214 b 8).bind fun d=>some (decide (c>d))else some false:Option (Bool))).bind fun e=>some e else some true
theorem ok145 {k} (d) (a:Zk) (c b:Int):OD k (d+5) 145 [.ip (Zk.g a),i64 c,i64 b]=(F145 a c b).map (fun m=>bv m):=by
 rw[od (fn:=p145) rfl rfl rfl]
 refine bo (e:=id) ?_ fun o=>?_
 refine io ?_ (lf rfl)
 refine bo (ok213 d 1 a b) fun n=>?_
 exact lf rfl
 refine io (lf rfl) ?_
 refine bo (e:=(fun(f:Bool)=>(nq [(3,.ref 0 0),(7,.fn 213 [] [.ref 0 0,.ref 1 0]),(16,i64 c),(17,bv f)] [(1,.box [i64 b]),(0,.box [.ip (Zk.g a)])]))) ?_ fun f=>?_
 refine io (lf rfl) (lf rfl)
 refine io ?_ ?_
 refine bo (ok213 d 4 a b) fun p=>?_
 exact lf rfl
 refine bo (e:=(fun(h:Bool)=>(nq [(3,.ref 0 0),(7,.fn 213 [] [.ref 0 0,.ref 1 0]),(22,bv h)] [(1,.box [i64 b]),(0,.box [.ip (Zk.g a)])]))) ?_ fun h=>?_
 refine io (lf rfl) (lf rfl)
 refine io ?_ (lf rfl)
 refine bo (ok213 d 8 a b) fun q=>?_
 refine bo (e:=id) ?_ fun l=>?_
 refine io ?_ (lf rfl)
 refine bo (ok214 (d+1) a 2) fun i=>?_
 refine bo (ok214 (d+1) a 8) fun j=>?_
 exact lf rfl
 exact lf rfl
def F142 (c:Int) (a:Zm) (d:Zk):Option Bool:=
 (F105 a.Jump 0 6).bind fun e=>((if !e then some true else(F105 a.Labels 0 15).bind fun f=>some (!f):Option (Bool))).bind fun g=>if g||(((a.Jump !=0)||(a.Labels !=0))&&((a.RepeatEnd !=0)||(a.Endings !=0)))then some true else(dU d.s'.Measures 0 c).bind fun h=>(F144 h a).bind fun i=>((if i then some true else(F145 d a.Jump c).bind fun j=>some (!j):Option (Bool))).bind fun b=>some b
theorem ok142 {k} (d) (b:Int) (a:Zm) (c:Zk):OD k (d+6) 142 [i64 b,.agg (Zm.g a),.ip [.ip (Zk.g c)]]=(F142 b a c).map (fun i=>bv i):=by
 rw[od (fn:=p142) rfl rfl rfl]
 refine bo (ok105 (d+4) a.Jump 0 6) fun j=>?_
 refine bo (e:=id) ?_ fun m=>?_
 refine io (lf rfl) ?_
 refine bo (ok105 (d+4) a.Labels 0 15) fun l=>?_
 exact lf rfl
 refine bz (gor (bz (gor rfl) (bz (gand (bz (gor rfl) rfl)) rfl))) ?_
 refine io (lf rfl) ?_
 refine bo (bQ _ _ _ _) fun h=>?_
 refine bo (ok144 (d+2) h a) fun n=>?_
 refine bo (e:=id) ?_ fun f=>?_
 refine io (lf rfl) ?_
 refine bo (ok145 d c a.Jump b) fun o=>?_
 exact lf rfl
 exact lf rfl
def Fn109_7 (i:List Zv) (a:Z0) (g:Int):Option (List Zv):=
 (aO (E:=List Zv) (fun(⟨b,f⟩:Int×(List Zv))=>if decide (b<(a.Measures.length:Int))then(lget a.Measures b).bind fun h=>(F142 b h (Zk.mk a g f)).bind fun c=>(Fn103 c h.ID f a g).bind fun d=>some (.inl ((w64 (b+1)),d))else some (.inr f)) B64 (0,i)).bind fun e=>some e
theorem okn109_7 {k} (d) (f:List Zv) (a:Z0) (b:Int):runR (XD k (d+7)) 109 [.ref 1 0,.fn 142 [] [.ref 3 0]] [(3,.box [.ref 1 0]),(2,.lst 129 3 false (I Zv.g f)),(1,.box (ck a b (.own 2)))] 4 false=(Fn109_7 f a b).map (fun(i:List Zv)=>((.tup [],[(3,.box [.ref 1 0]),(2,.lst 129 3 false (I Zv.g i)),(1,.box (ck a b (.own 2)))],0))):=by
 rw[xd (fn:=p109) rfl]
 refine bz lm ?_
 refine bo (aI (S:=Int×(List Zv)) (enc:=fun⟨j,e⟩=>(Q [(0,.ref 1 0),(1,.fn 142 [] [.ref 3 0]),(10,.is 22 (I Zm.g a.Measures)),(11,i64 (a.Measures.length:Int)),(12,i64 j)] [(3,.box [.ref 1 0]),(2,.lst 129 3 false (I Zv.g e)),(1,.box (ck a b (.own 2)))])) (encE:=(fun(c:List Zv)=>(xq 0 [] [(3,.box [.ref 1 0]),(2,.lst 129 3 false (I Zv.g c)),(1,.box (ck a b (.own 2)))]))) (fun⟨j,e⟩=>?_) B64 (0,f)) fun c=>?_
 refine io ?_ (lf rfl)
 refine bo rg fun l=>?_
 refine bo (ok142 d j l (Zk.mk a b e)) fun h=>?_
 refine bo (okn103 (d+5) h l.ID e a b) fun m=>?_
 exact lf rfl
 exact lf rfl
def Fn61 (a:List Zv) (b:Z0) (c:Int):Option (List Zv):=
 (Fn109_7 a b c).bind fun d=>some d
theorem okn61 {k} (d) (c:List Zv) (a:Z0) (b:Int):runR (XD k (d+8)) 61 [.ref 1 0] [(2,.lst 129 3 false (I Zv.g c)),(1,.box (ck a b (.own 2)))] 3 false=(Fn61 c a b).map (fun(e:List Zv)=>((.tup [],[(2,.lst 129 3 false (I Zv.g e)),(1,.box (ck a b (.own 2)))],0))):=by
 rw[xd (fn:=p61) rfl]
 refine bo (okn109_7 d c a b) fun f=>?_
 exact lf rfl
def F146 (r:Int) (c:Zm):Option Bool:=
 (F113 c).bind fun⟨m,s⟩=>((if c.Swing !=0 then(F105 c.Swing 50 75).bind fun n=>some (!n)else some false:Option (Bool))).bind fun o=>((if o then some true else(F105 c.Break 0 3).bind fun p=>some (!p):Option (Bool))).bind fun q=>(aO (E:=Bool) (fun(⟨d,a⟩:Bool×Int)=>if decide (a<(c.Tempi.length:Int))then(lget c.Tempi a).bind fun b=>((if d then some true else(F105 b.At 0 (w64 (m-1))).bind fun e=>some (!e):Option (Bool))).bind fun f=>((if f then some true else(F105 b.Micros 1 60000000).bind fun g=>some (!g):Option (Bool))).bind fun h=>((if h then some true else((if decide (a>0)then(lget c.Tempi (w64 (a-1))).bind fun i=>some (decide (b.At<=i.At))else some false:Option (Bool))).bind fun j=>some j:Option (Bool))).bind fun k=>some (.inl (k,(w64 (a+1))))else some (.inr d)) B64 (q,0)).bind fun l=>some l
theorem ok146 {k} (d) (i:Int) (a:Zm):OD k (d+5) 146 [i64 i,.agg (Zm.g a)]=(F146 i a).map (fun t=>bv t):=by
 rw[od (fn:=p146) rfl rfl rfl]
 refine bo (ok113 d a) fun⟨j,u⟩=>?_
 refine bo (e:=id) ?_ fun w=>?_
 refine io ?_ (lf rfl)
 refine bo (ok105 (d+3) a.Swing 50 75) fun v=>?_
 exact lf rfl
 refine bo (e:=id) ?_ fun s=>?_
 refine io (lf rfl) ?_
 refine bo (ok105 (d+3) a.Break 0 3) fun x=>?_
 exact lf rfl
 refine bz lm ?_
 refine bo (aI (S:=Bool×Int) (enc:=fun⟨b,c⟩=>(Q [(3,.ref 0 0),(5,i64 j),(7,bv b),(31,.is 3 (I Zt.g a.Tempi)),(32,i64 (a.Tempi.length:Int)),(33,i64 c)] [(0,.box (Zm.g a))])) (encE:=(fun(h:Bool)=>(xq 0 [(7,bv h)] [(0,.box (Zm.g a))]))) (fun⟨b,c⟩=>?_) B64 (s,0)) fun h=>?_
 refine io ?_ (lf rfl)
 refine bo rg fun f=>?_
 refine bo (e:=id) ?_ fun m=>?_
 refine io (lf rfl) ?_
 refine bo (ok105 (d+3) f.At 0 (w64 (j-1))) fun l=>?_
 exact lf rfl
 refine bo (e:=id) ?_ fun o=>?_
 refine io (lf rfl) ?_
 refine bo (ok105 (d+3) f.Micros 1 60000000) fun n=>?_
 exact lf rfl
 refine bo (e:=id) ?_ fun r=>?_
 refine io (lf rfl) ?_
 refine bo (e:=id) ?_ fun q=>?_
 refine io ?_ (lf rfl)
 refine bo rg fun p=>?_
 exact lf rfl
 exact lf rfl
 exact lf rfl
 exact lf rfl
def Fn109_8 (h:List Zv) (e:Z0) (i:Int):Option (List Zv):=
 (aO (E:=List Zv) (fun(⟨a,f⟩:Int×(List Zv))=>if decide (a<(e.Measures.length:Int))then(lget e.Measures a).bind fun g=>(F146 a g).bind fun b=>(Fn103 b g.ID f e i).bind fun c=>some (.inl ((w64 (a+1)),c))else some (.inr f)) B64 (0,h)).bind fun d=>some d
theorem okn109_8 {k} (d) (e:List Zv) (a:Z0) (b:Int):runR (XD k (d+6)) 109 [.ref 1 0,.fn 146 [] []] [(2,.lst 129 3 false (I Zv.g e)),(1,.box (ck a b (.own 2)))] 3 false=(Fn109_8 e a b).map (fun(h:List Zv)=>((.tup [],[(2,.lst 129 3 false (I Zv.g h)),(1,.box (ck a b (.own 2)))],0))):=by
 rw[xd (fn:=p109) rfl]
 refine bz lm ?_
 refine bo (aI (S:=Int×(List Zv)) (enc:=fun⟨i,j⟩=>(Q [(0,.ref 1 0),(1,.fn 146 [] []),(10,.is 22 (I Zm.g a.Measures)),(11,i64 (a.Measures.length:Int)),(12,i64 i)] [(2,.lst 129 3 false (I Zv.g j)),(1,.box (ck a b (.own 2)))])) (encE:=(fun(c:List Zv)=>(xq 0 [] [(2,.lst 129 3 false (I Zv.g c)),(1,.box (ck a b (.own 2)))]))) (fun⟨i,j⟩=>?_) B64 (0,e)) fun c=>?_
 refine io ?_ (lf rfl)
 refine bo rg fun l=>?_
 refine bo (ok146 d i l) fun f=>?_
 refine bo (okn103 (d+4) f l.ID j a b) fun m=>?_
 exact lf rfl
 exact lf rfl
def Fn62 (a:List Zv) (b:Z0) (c:Int):Option (List Zv):=
 (Fn109_8 a b c).bind fun d=>some d
theorem okn62 {k} (d) (c:List Zv) (a:Z0) (b:Int):runR (XD k (d+7)) 62 [.ref 1 0] [(2,.lst 129 3 false (I Zv.g c)),(1,.box (ck a b (.own 2)))] 3 false=(Fn62 c a b).map (fun(e:List Zv)=>((.tup [],[(2,.lst 129 3 false (I Zv.g e)),(1,.box (ck a b (.own 2)))],0))):=by
 rw[xd (fn:=p62) rfl]
 refine bo (okn109_8 d c a b) fun f=>?_
 exact lf rfl
def F147 (b:Zp) (f:Ze) (c:Zk):Option Bool:=
 (F132 c.s' b).bind fun⟨e,g⟩=>((if !g then some true else(F131 f).bind fun h=>some (!h):Option (Bool))).bind fun i=>if i||(e.Measure==b.Measure)then some false else(lget c.s'.Measures b.Measure).bind fun a=>(lget c.s'.Measures e.Measure).bind fun d=>some ((((((a.RepeatEnd !=0)||(a.Jump !=0))||((iand .i64 a.Labels 12)!=0))||(a.Endings !=d.Endings))||d.RepeatStart)||((iand .i64 d.Labels 3)!=0))
theorem ok147 {k} (d) (a:Zp) (b:Ze) (c:Zk):OD k (d+5) 147 [.agg (Zp.g a),.agg (Ze.g b),.ip [.ip (Zk.g c)]]=(F147 a b c).map (fun f=>bv f):=by
 rw[od (fn:=p147) rfl rfl rfl]
 refine bo (ok132 (d+1) c.s' a) fun⟨h,i⟩=>?_
 refine bo (e:=id) ?_ fun l=>?_
 refine io (lf rfl) ?_
 refine bo (ok131 d b) fun j=>?_
 exact lf rfl
 refine bz (gor rfl) ?_
 refine io (lf rfl) ?_
 refine bo rg fun m=>?_
 refine bo rg fun n=>?_
 refine bz (gor rfl) ?_
 refine bz (gor rfl) ?_
 refine bz (gor rfl) ?_
 refine bz (gor rfl) ?_
 refine bz (gor rfl) ?_
 exact lf rfl
def Fn119_5 (u:List Zv) (s:Z0) (t:Int):Option (List Zv):=
 (aO (E:=List Zv) (fun(⟨c,m⟩:Int×(List Zv))=>if decide (c<(s.Measures.length:Int))then(lget s.Measures c).bind fun n=>(aO (E:=List Zv) (fun(⟨d,o⟩:Int×(List Zv))=>if decide (d<(n.Cells.length:Int))then(lget n.Cells d).bind fun p=>(aO (E:=List Zv) (fun(⟨e,q⟩:Int×(List Zv))=>if decide (e<(p.Voices.length:Int))then(lget p.Voices e).bind fun r=>(aO (E:=List Zv) (fun(⟨a,b⟩:Int×(List Zv))=>if decide (a<(r.Events.length:Int))then(lget r.Events a).bind fun f=>(F147 (Zp.mk 4 0 d c e a 0) f (Zk.mk s t b)).bind fun g=>(Fn103 g f.ID b s t).bind fun h=>some (.inl ((w64 (a+1)),h))else some (.inr b)) B64 (0,q)).bind fun i=>some (.inl ((w64 (e+1)),i))else some (.inr q)) B64 (0,o)).bind fun j=>some (.inl ((w64 (d+1)),j))else some (.inr o)) B64 (0,m)).bind fun k=>some (.inl ((w64 (c+1)),k))else some (.inr m)) B64 (0,u)).bind fun l=>some l
theorem okn119_5 {k} (d) (x:List Zv) (c:Z0) (i:Int):runR (XD k (d+6)) 119 [.ref 1 0,.fn 147 [] [.ref 3 0]] [(3,.box [.ref 1 0]),(2,.lst 129 3 false (I Zv.g x)),(1,.box (ck c i (.own 2)))] 4 false=(Fn119_5 x c i).map (fun(w:List Zv)=>((.tup [],[(3,.box [.ref 1 0]),(2,.lst 129 3 false (I Zv.g w)),(1,.box (ck c i (.own 2)))],0))):=by
 rw[xd (fn:=p119) rfl]
 refine bz lm ?_
 refine bo (aI (S:=Int×(List Zv)) (enc:=fun⟨b,s⟩=>(Q [(0,.ref 1 0),(1,.fn 147 [] [.ref 3 0]),(16,.is 22 (I Zm.g c.Measures)),(17,i64 (c.Measures.length:Int)),(18,i64 b)] [(3,.box [.ref 1 0]),(2,.lst 129 3 false (I Zv.g s)),(1,.box (ck c i (.own 2)))])) (encE:=(fun(r:List Zv)=>(xq 0 [] [(3,.box [.ref 1 0]),(2,.lst 129 3 false (I Zv.g r)),(1,.box (ck c i (.own 2)))]))) (fun⟨b,s⟩=>?_) B64 (0,x)) fun r=>?_
 refine io ?_ (lf rfl)
 refine bo rg fun a=>?_
 refine bz lm ?_
 refine bo (aI (S:=Int×(List Zv)) (enc:=fun⟨e,t⟩=>(Q [(0,.ref 1 0),(1,.fn 147 [] [.ref 3 0]),(4,i64 b),(16,.is 22 (I Zm.g c.Measures)),(17,i64 (c.Measures.length:Int)),(18,i64 b),(24,.is 2 (I Zw.g a.Cells)),(25,i64 (a.Cells.length:Int)),(26,i64 e)] [(4,.box (Zm.g a)),(3,.box [.ref 1 0]),(2,.lst 129 3 false (I Zv.g t)),(1,.box (ck c i (.own 2)))])) (encE:=(fun(q:List Zv)=>(xq 2 [(0,.ref 1 0),(1,.fn 147 [] [.ref 3 0]),(16,.is 22 (I Zm.g c.Measures)),(17,i64 (c.Measures.length:Int)),(18,i64 b)] [(4,.box (Zm.g a)),(3,.box [.ref 1 0]),(2,.lst 129 3 false (I Zv.g q)),(1,.box (ck c i (.own 2)))]))) (fun⟨e,t⟩=>?_) B64 (0,s)) fun q=>?_
 refine io ?_ (lf rfl)
 refine bo rg fun f=>?_
 refine bz lm ?_
 refine bo (aI (S:=Int×(List Zv)) (enc:=fun⟨j,u⟩=>(Q [(0,.ref 1 0),(1,.fn 147 [] [.ref 3 0]),(4,i64 b),(6,i64 e),(16,.is 22 (I Zm.g c.Measures)),(17,i64 (c.Measures.length:Int)),(18,i64 b),(24,.is 2 (I Zw.g a.Cells)),(25,i64 (a.Cells.length:Int)),(26,i64 e),(32,.is 2 (I Zo.g f.Voices)),(33,i64 (f.Voices.length:Int)),(34,i64 j)] [(5,.box (Zw.g f)),(4,.box (Zm.g a)),(3,.box [.ref 1 0]),(2,.lst 129 3 false (I Zv.g u)),(1,.box (ck c i (.own 2)))])) (encE:=(fun(p:List Zv)=>(xq 4 [(0,.ref 1 0),(1,.fn 147 [] [.ref 3 0]),(4,i64 b),(16,.is 22 (I Zm.g c.Measures)),(17,i64 (c.Measures.length:Int)),(18,i64 b),(24,.is 2 (I Zw.g a.Cells)),(25,i64 (a.Cells.length:Int)),(26,i64 e)] [(5,.box (Zw.g f)),(4,.box (Zm.g a)),(3,.box [.ref 1 0]),(2,.lst 129 3 false (I Zv.g p)),(1,.box (ck c i (.own 2)))]))) (fun⟨j,u⟩=>?_) B64 (0,t)) fun p=>?_
 refine io ?_ (lf rfl)
 refine bo rg fun m=>?_
 refine bz lm ?_
 refine bo (aI (S:=Int×(List Zv)) (enc:=fun⟨l,h⟩=>(Q [(0,.ref 1 0),(1,.fn 147 [] [.ref 3 0]),(4,i64 b),(6,i64 e),(8,i64 j),(16,.is 22 (I Zm.g c.Measures)),(17,i64 (c.Measures.length:Int)),(18,i64 b),(24,.is 2 (I Zw.g a.Cells)),(25,i64 (a.Cells.length:Int)),(26,i64 e),(32,.is 2 (I Zo.g f.Voices)),(33,i64 (f.Voices.length:Int)),(34,i64 j),(40,.is 13 (I Ze.g m.Events)),(41,i64 (m.Events.length:Int)),(42,i64 l)] [(6,.box (Zo.g m)),(5,.box (Zw.g f)),(4,.box (Zm.g a)),(3,.box [.ref 1 0]),(2,.lst 129 3 false (I Zv.g h)),(1,.box (ck c i (.own 2)))])) (encE:=(fun(o:List Zv)=>(xq 6 [(0,.ref 1 0),(1,.fn 147 [] [.ref 3 0]),(4,i64 b),(6,i64 e),(16,.is 22 (I Zm.g c.Measures)),(17,i64 (c.Measures.length:Int)),(18,i64 b),(24,.is 2 (I Zw.g a.Cells)),(25,i64 (a.Cells.length:Int)),(26,i64 e),(32,.is 2 (I Zo.g f.Voices)),(33,i64 (f.Voices.length:Int)),(34,i64 j)] [(6,.box (Zo.g m)),(5,.box (Zw.g f)),(4,.box (Zm.g a)),(3,.box [.ref 1 0]),(2,.lst 129 3 false (I Zv.g o)),(1,.box (ck c i (.own 2)))]))) (fun⟨l,h⟩=>?_) B64 (0,u)) fun o=>?_
 refine io ?_ (lf rfl)
 refine bo rg fun n=>?_
 refine bo (ok147 d (Zp.mk 4 0 e b j l 0) n (Zk.mk c i h)) fun v=>?_
 refine bo (okn103 (d+4) v n.ID h c i) fun y=>?_
 exact lf rfl
 exact lf rfl
 exact lf rfl
 exact lf rfl
 exact lf rfl
def Fn63 (a:List Zv) (b:Z0) (c:Int):Option (List Zv):=
 (Fn119_5 a b c).bind fun d=>some d
theorem okn63 {k} (d) (c:List Zv) (a:Z0) (b:Int):runR (XD k (d+7)) 63 [.ref 1 0] [(2,.lst 129 3 false (I Zv.g c)),(1,.box (ck a b (.own 2)))] 3 false=(Fn63 c a b).map (fun(e:List Zv)=>((.tup [],[(2,.lst 129 3 false (I Zv.g e)),(1,.box (ck a b (.own 2)))],0))):=by
 rw[xd (fn:=p63) rfl]
 refine bo (okn119_5 d c a b) fun f=>?_
 exact lf rfl
def F18 (a:Z0):Option (List Zv):=
 ((if decide ((([]:List Zv).length:Int)>0)then((if false then some true else((if false then(lidx ([]:List Zv) 0).bind fun x2=>(lnth ([]:List Zv) x2).bind fun x3=>some (decide (x3.Rule<10))else some false:Option (Bool))).bind fun x4=>some x4:Option (Bool))).bind fun x5=>some x5 else some false:Option (Bool))).bind fun x6=>if x6 then some []else(Fn47 [] a 1).bind fun u=>((if decide ((u.length:Int)>0)then((if true then some true else((if false then(lidx u 0).bind fun x8=>(lnth u x8).bind fun x9=>some (decide (x9.Rule<10))else some false:Option (Bool))).bind fun v=>some v:Option (Bool))).bind fun w=>some w else some false:Option (Bool))).bind fun x=>if x then some u else(Fn48 u a 2).bind fun b=>((if decide ((b.length:Int)>0)then((if false then some true else((if false then(lidx b 0).bind fun y=>(lnth b y).bind fun z=>some (decide (z.Rule<10))else some false:Option (Bool))).bind fun A=>some A:Option (Bool))).bind fun B=>some B else some false:Option (Bool))).bind fun C=>if C then some b else(Fn49 b a 3).bind fun c=>((if decide ((c.length:Int)>0)then((if false then some true else((if false then(lidx c 0).bind fun D=>(lnth c D).bind fun E=>some (decide (E.Rule<10))else some false:Option (Bool))).bind fun F=>some F:Option (Bool))).bind fun G=>some G else some false:Option (Bool))).bind fun H=>if H then some c else(Fn50 c a 4).bind fun d=>((if decide ((d.length:Int)>0)then((if false then some true else((if false then(lidx d 0).bind fun J=>(lnth d J).bind fun K=>some (decide (K.Rule<10))else some false:Option (Bool))).bind fun L=>some L:Option (Bool))).bind fun M=>some M else some false:Option (Bool))).bind fun N=>if N then some d else(Fn51 d a 5).bind fun e=>((if decide ((e.length:Int)>0)then((if false then some true else((if false then(lidx e 0).bind fun O=>(lnth e O).bind fun P=>some (decide (P.Rule<10))else some false:Option (Bool))).bind fun R=>some R:Option (Bool))).bind fun S=>some S else some false:Option (Bool))).bind fun T=>if T then some e else(Fn52 e a 6).bind fun f=>((if decide ((f.length:Int)>0)then((if false then some true else((if false then(lidx f 0).bind fun U=>(lnth f U).bind fun V=>some (decide (V.Rule<10))else some false:Option (Bool))).bind fun W=>some W:Option (Bool))).bind fun X=>some X else some false:Option (Bool))).bind fun Y=>if Y then some f else(Fn53 f a 7).bind fun g=>((if decide ((g.length:Int)>0)then((if false then some true else((if false then(lidx g 0).bind fun Z=>(lnth g Z).bind fun a0=>some (decide (a0.Rule<10))else some false:Option (Bool))).bind fun b0=>some b0:Option (Bool))).bind fun b4=>some b4 else some false:Option (Bool))).bind fun b5=>if b5 then some g else(Fn54 g a 8).bind fun h=>((if decide ((h.length:Int)>0)then((if false then some true else((if false then(lidx h 0).bind fun b6=>(lnth h b6).bind fun b7=>some (decide (b7.Rule<10))else some false:Option (Bool))).bind fun b8=>some b8:Option (Bool))).bind fun b9=>some b9 else some false:Option (Bool))).bind fun d0=>if d0 then some h else(Fn55 h a 9).bind fun i=>((if decide ((i.length:Int)>0)then((if false then some true else((if true then(lidx i 0).bind fun d1=>(lnth i d1).bind fun d2=>some (decide (d2.Rule<10))else some false:Option (Bool))).bind fun d3=>some d3:Option (Bool))).bind fun d4=>some d4 else some false:Option (Bool))).bind fun d5=>if d5 then some i else(Fn56 i a 10).bind fun j=>((if decide ((j.length:Int)>0)then((if false then some true else((if true then(lidx j 0).bind fun d6=>(lnth j d6).bind fun d7=>some (decide (d7.Rule<10))else some false:Option (Bool))).bind fun d8=>some d8:Option (Bool))).bind fun d9=>some d9 else some false:Option (Bool))).bind fun e0=>if e0 then some j else(Fn57 j a 11).bind fun k=>((if decide ((k.length:Int)>0)then((if false then some true else((if true then(lidx k 0).bind fun e1=>(lnth k e1).bind fun e3=>some (decide (e3.Rule<10))else some false:Option (Bool))).bind fun e4=>some e4:Option (Bool))).bind fun e5=>some e5 else some false:Option (Bool))).bind fun e6=>if e6 then some k else(Fn58 k a 12).bind fun l=>((if decide ((l.length:Int)>0)then((if false then some true else((if true then(lidx l 0).bind fun e7=>(lnth l e7).bind fun e8=>some (decide (e8.Rule<10))else some false:Option (Bool))).bind fun e9=>some e9:Option (Bool))).bind fun f0=>some f0 else some false:Option (Bool))).bind fun f1=>if f1 then some l else(Fn59 l a 13).bind fun m=>((if decide ((m.length:Int)>0)then((if false then some true else((if true then(lidx m 0).bind fun f2=>(lnth m f2).bind fun f3=>some (decide (f3.Rule<10))else some false:Option (Bool))).bind fun f5=>some f5:Option (Bool))).bind fun f6=>some f6 else some false:Option (Bool))).bind fun f7=>if f7 then some m else(Fn60 m a 14).bind fun n=>((if decide ((n.length:Int)>0)then((if false then some true else((if true then(lidx n 0).bind fun f8=>(lnth n f8).bind fun f9=>some (decide (f9.Rule<10))else some false:Option (Bool))).bind fun g1=>some g1:Option (Bool))).bind fun g3=>some g3 else some false:Option (Bool))).bind fun g4=>if g4 then some n else(Fn61 n a 15).bind fun o=>((if decide ((o.length:Int)>0)then((if false then some true else((if true then(lidx o 0).bind fun g5=>(lnth o g5).bind fun g6=>some (decide (g6.Rule<10))else some false:Option (Bool))).bind fun g7=>some g7:Option (Bool))).bind fun g8=>some g8 else some false:Option (Bool))).bind fun g9=>if g9 then some o else(Fn62 o a 16).bind fun p=>((if decide ((p.length:Int)>0)then((if false then some true else((if true then(lidx p 0).bind fun h0=>(lnth p h0).bind fun h2=>some (decide (h2.Rule<10))else some false:Option (Bool))).bind fun q=>some q:Option (Bool))).bind fun r=>some r else some false:Option (Bool))).bind fun s=>if s then some p else(Fn63 p a 17).bind fun t=>some t
theorem ok18 {k} (d) (a:Z0):OD k (d+25) 18 [.agg (Z0.g a)]=(F18 a).map (fun y0=>.is 3 (I Zv.g y0)):=by
 rw[od (fn:=p18) rfl rfl rfl]
 refine bz (bP Zv.g ([]:List Zv)) ?_
 refine bo (e:=id) ?_ fun x6=>?_
 refine io ?_ (lf rfl)
 refine bo (e:=id) ?_ fun x5=>?_
 refine io (lf rfl) ?_
 refine bo (e:=id) ?_ fun x4=>?_
 refine io ?_ (lf rfl)
 refine bo (aT Zv.g ([]:List Zv) _) fun x2=>?_
 refine bo (bC (A:=Zv) (c:=Zv.g) (g:=fun S=>i64 S.Rule) (fun _=>rfl) ([]:List Zv) _) fun S=>?_
 exact lf rfl
 exact lf rfl
 exact lf rfl
 refine io (lf rfl) ?_
 refine bo (okn47 (d+19) [] a 1) fun M=>?_
 refine bz (bP Zv.g M) ?_
 refine bo (e:=id) ?_ fun W=>?_
 refine io ?_ (lf rfl)
 refine bo (e:=id) ?_ fun V=>?_
 refine io (lf rfl) ?_
 refine bo (e:=id) ?_ fun U=>?_
 refine io ?_ (lf rfl)
 refine bo (aT Zv.g M _) fun x8=>?_
 refine bo (bC (A:=Zv) (c:=Zv.g) (g:=fun T=>i64 T.Rule) (fun _=>rfl) M _) fun T=>?_
 exact lf rfl
 exact lf rfl
 exact lf rfl
 refine io (lf rfl) ?_
 refine bo (okn48 (d+20) M a 2) fun b=>?_
 refine bz (bP Zv.g b) ?_
 refine bo (e:=id) ?_ fun a0=>?_
 refine io ?_ (lf rfl)
 refine bo (e:=id) ?_ fun Z=>?_
 refine io (lf rfl) ?_
 refine bo (e:=id) ?_ fun Y=>?_
 refine io ?_ (lf rfl)
 refine bo (aT Zv.g b _) fun X=>?_
 refine bo (bC (A:=Zv) (c:=Zv.g) (g:=fun v=>i64 v.Rule) (fun _=>rfl) b _) fun v=>?_
 exact lf rfl
 exact lf rfl
 exact lf rfl
 refine io (lf rfl) ?_
 refine bo (okn49 (d+21) b a 3) fun f=>?_
 refine bz (bP Zv.g f) ?_
 refine bo (e:=id) ?_ fun b6=>?_
 refine io ?_ (lf rfl)
 refine bo (e:=id) ?_ fun b5=>?_
 refine io (lf rfl) ?_
 refine bo (e:=id) ?_ fun b4=>?_
 refine io ?_ (lf rfl)
 refine bo (aT Zv.g f _) fun b0=>?_
 refine bo (bC (A:=Zv) (c:=Zv.g) (g:=fun w=>i64 w.Rule) (fun _=>rfl) f _) fun w=>?_
 exact lf rfl
 exact lf rfl
 exact lf rfl
 refine io (lf rfl) ?_
 refine bo (okn50 (d+17) f a 4) fun h=>?_
 refine bz (bP Zv.g h) ?_
 refine bo (e:=id) ?_ fun d0=>?_
 refine io ?_ (lf rfl)
 refine bo (e:=id) ?_ fun b9=>?_
 refine io (lf rfl) ?_
 refine bo (e:=id) ?_ fun b8=>?_
 refine io ?_ (lf rfl)
 refine bo (aT Zv.g h _) fun b7=>?_
 refine bo (bC (A:=Zv) (c:=Zv.g) (g:=fun x=>i64 x.Rule) (fun _=>rfl) h _) fun x=>?_
 exact lf rfl
 exact lf rfl
 exact lf rfl
 refine io (lf rfl) ?_
 refine bo (okn51 (d+17) h a 5) fun i=>?_
 refine bz (bP Zv.g i) ?_
 refine bo (e:=id) ?_ fun d4=>?_
 refine io ?_ (lf rfl)
 refine bo (e:=id) ?_ fun d3=>?_
 refine io (lf rfl) ?_
 refine bo (e:=id) ?_ fun d2=>?_
 refine io ?_ (lf rfl)
 refine bo (aT Zv.g i _) fun d1=>?_
 refine bo (bC (A:=Zv) (c:=Zv.g) (g:=fun y=>i64 y.Rule) (fun _=>rfl) i _) fun y=>?_
 exact lf rfl
 exact lf rfl
 exact lf rfl
 refine io (lf rfl) ?_
 refine bo (okn52 d i a 6) fun j=>?_
 refine bz (bP Zv.g j) ?_
 refine bo (e:=id) ?_ fun d8=>?_
 refine io ?_ (lf rfl)
 refine bo (e:=id) ?_ fun d7=>?_
 refine io (lf rfl) ?_
 refine bo (e:=id) ?_ fun d6=>?_
 refine io ?_ (lf rfl)
 refine bo (aT Zv.g j _) fun d5=>?_
 refine bo (bC (A:=Zv) (c:=Zv.g) (g:=fun z=>i64 z.Rule) (fun _=>rfl) j _) fun z=>?_
 exact lf rfl
 exact lf rfl
 exact lf rfl
 refine io (lf rfl) ?_
 refine bo (okn53 d j a 7) fun l=>?_
 refine bz (bP Zv.g l) ?_
 refine bo (e:=id) ?_ fun e3=>?_
 refine io ?_ (lf rfl)
 refine bo (e:=id) ?_ fun e1=>?_
 refine io (lf rfl) ?_
 refine bo (e:=id) ?_ fun e0=>?_
 refine io ?_ (lf rfl)
 refine bo (aT Zv.g l _) fun d9=>?_
 refine bo (bC (A:=Zv) (c:=Zv.g) (g:=fun B=>i64 B.Rule) (fun _=>rfl) l _) fun B=>?_
 exact lf rfl
 exact lf rfl
 exact lf rfl
 refine io (lf rfl) ?_
 refine bo (okn54 (d+13) l a 8) fun m=>?_
 refine bz (bP Zv.g m) ?_
 refine bo (e:=id) ?_ fun e7=>?_
 refine io ?_ (lf rfl)
 refine bo (e:=id) ?_ fun e6=>?_
 refine io (lf rfl) ?_
 refine bo (e:=id) ?_ fun e5=>?_
 refine io ?_ (lf rfl)
 refine bo (aT Zv.g m _) fun e4=>?_
 refine bo (bC (A:=Zv) (c:=Zv.g) (g:=fun C=>i64 C.Rule) (fun _=>rfl) m _) fun C=>?_
 exact lf rfl
 exact lf rfl
 exact lf rfl
 refine io (lf rfl) ?_
 refine bo (okn55 (d+13) m a 9) fun n=>?_
 refine bz (bP Zv.g n) ?_
 refine bo (e:=id) ?_ fun f1=>?_
 refine io ?_ (lf rfl)
 refine bo (e:=id) ?_ fun f0=>?_
 refine io (lf rfl) ?_
 refine bo (e:=id) ?_ fun e9=>?_
 refine io ?_ (lf rfl)
 refine bo (aT Zv.g n _) fun e8=>?_
 refine bo (bC (A:=Zv) (c:=Zv.g) (g:=fun D=>i64 D.Rule) (fun _=>rfl) n _) fun D=>?_
 exact lf rfl
 exact lf rfl
 exact lf rfl
 refine io (lf rfl) ?_
 refine bo (okn56 (d+17) n a 10) fun o=>?_
 refine bz (bP Zv.g o) ?_
 refine bo (e:=id) ?_ fun f6=>?_
 refine io ?_ (lf rfl)
 refine bo (e:=id) ?_ fun f5=>?_
 refine io (lf rfl) ?_
 refine bo (e:=id) ?_ fun f3=>?_
 refine io ?_ (lf rfl)
 refine bo (aT Zv.g o _) fun f2=>?_
 refine bo (bC (A:=Zv) (c:=Zv.g) (g:=fun E=>i64 E.Rule) (fun _=>rfl) o _) fun E=>?_
 exact lf rfl
 exact lf rfl
 exact lf rfl
 refine io (lf rfl) ?_
 refine bo (okn57 (d+21) o a 11) fun p=>?_
 refine bz (bP Zv.g p) ?_
 refine bo (e:=id) ?_ fun g1=>?_
 refine io ?_ (lf rfl)
 refine bo (e:=id) ?_ fun f9=>?_
 refine io (lf rfl) ?_
 refine bo (e:=id) ?_ fun f8=>?_
 refine io ?_ (lf rfl)
 refine bo (aT Zv.g p _) fun f7=>?_
 refine bo (bC (A:=Zv) (c:=Zv.g) (g:=fun F=>i64 F.Rule) (fun _=>rfl) p _) fun F=>?_
 exact lf rfl
 exact lf rfl
 exact lf rfl
 refine io (lf rfl) ?_
 refine bo (okn58 (d+7) p a 12) fun q=>?_
 refine bz (bP Zv.g q) ?_
 refine bo (e:=id) ?_ fun g6=>?_
 refine io ?_ (lf rfl)
 refine bo (e:=id) ?_ fun g5=>?_
 refine io (lf rfl) ?_
 refine bo (e:=id) ?_ fun g4=>?_
 refine io ?_ (lf rfl)
 refine bo (aT Zv.g q _) fun g3=>?_
 refine bo (bC (A:=Zv) (c:=Zv.g) (g:=fun G=>i64 G.Rule) (fun _=>rfl) q _) fun G=>?_
 exact lf rfl
 exact lf rfl
 exact lf rfl
 refine io (lf rfl) ?_
 refine bo (okn59 (d+7) q a 13) fun r=>?_
 refine bz (bP Zv.g r) ?_
 refine bo (e:=id) ?_ fun h0=>?_
 refine io ?_ (lf rfl)
 refine bo (e:=id) ?_ fun g9=>?_
 refine io (lf rfl) ?_
 refine bo (e:=id) ?_ fun g8=>?_
 refine io ?_ (lf rfl)
 refine bo (aT Zv.g r _) fun g7=>?_
 refine bo (bC (A:=Zv) (c:=Zv.g) (g:=fun H=>i64 H.Rule) (fun _=>rfl) r _) fun H=>?_
 exact lf rfl
 exact lf rfl
 exact lf rfl
 refine io (lf rfl) ?_
 refine bo (okn60 (d+19) r a 14) fun s=>?_
 refine bz (bP Zv.g s) ?_
 refine bo (e:=id) ?_ fun h5=>?_
 refine io ?_ (lf rfl)
 refine bo (e:=id) ?_ fun h4=>?_
 refine io (lf rfl) ?_
 refine bo (e:=id) ?_ fun h3=>?_
 refine io ?_ (lf rfl)
 refine bo (aT Zv.g s _) fun h2=>?_
 refine bo (bC (A:=Zv) (c:=Zv.g) (g:=fun J=>i64 J.Rule) (fun _=>rfl) s _) fun J=>?_
 exact lf rfl
 exact lf rfl
 exact lf rfl
 refine io (lf rfl) ?_
 refine bo (okn61 (d+16) s a 15) fun t=>?_
 refine bz (bP Zv.g t) ?_
 refine bo (e:=id) ?_ fun h9=>?_
 refine io ?_ (lf rfl)
 refine bo (e:=id) ?_ fun h8=>?_
 refine io (lf rfl) ?_
 refine bo (e:=id) ?_ fun h7=>?_
 refine io ?_ (lf rfl)
 refine bo (aT Zv.g t _) fun h6=>?_
 refine bo (bC (A:=Zv) (c:=Zv.g) (g:=fun K=>i64 K.Rule) (fun _=>rfl) t _) fun K=>?_
 exact lf rfl
 exact lf rfl
 exact lf rfl
 refine io (lf rfl) ?_
 refine bo (okn62 (d+17) t a 16) fun u=>?_
 refine bz (bP Zv.g u) ?_
 refine bo (e:=id) ?_ fun P=>?_
 refine io ?_ (lf rfl)
 refine bo (e:=id) ?_ fun O=>?_
 refine io (lf rfl) ?_
 refine bo (e:=id) ?_ fun N=>?_
 refine io ?_ (lf rfl)
 refine bo (aT Zv.g u _) fun i0=>?_
 refine bo (bC (A:=Zv) (c:=Zv.g) (g:=fun L=>i64 L.Rule) (fun _=>rfl) u _) fun L=>?_
 exact lf rfl
 exact lf rfl
 exact lf rfl
 refine io (lf rfl) ?_
 refine bo (okn63 (d+17) u a 17) fun R=>?_
 exact lf rfl
end Go.P
namespace Go.P
open Go.Sim (Ex OpK CK)
open K (I Q rq nq xq ck)
def F26 (a:Z0):Option Bool:=
 (F18 a).bind fun b=>some ((b.length:Int)==0)
theorem ok26 {k} (d) (a:Z0):OD k (d+26) 26 [.agg (Z0.g a)]=(F26 a).map (fun b=>bv b):=by
 rw[od (fn:=p26) rfl rfl rfl]
 refine bo (ok18 d a) fun c=>?_
 refine bz lm ?_
 exact lf rfl
def Fn73_2 (a:Ze):Option ((List Zb)×(List Zd)×(List Zy)):=
 (gS a.Heads).bind fun b=>(gS a.Graces).bind fun c=>(gS a.Lyrics).bind fun d=>some (b,c,d)
theorem okn73_2 {k} (d) (a:Ze):runR (XD k (d+2)) 73 [.agg (Ze.g a)] [] 2 true=(Fn73_2 a).map (fun(⟨b,c,e⟩:(List Zb)×(List Zd)×(List Zy))=>((.agg [i64 a.ID.Site,i64 a.ID.Number,i64 a.Kind,i64 a.Value.Log,i64 a.Value.Dots,.is 5 (I Zb.g b),.is 5 (I Zd.g c),i64 a.Articulations,i64 a.Ornament,i64 a.Dynamic,.own 4,i64 a.Stem,i64 a.Beam],[(4,.lst 233 2 true (I Zy.g e))],5))):=by
 rw[xd (fn:=p73) rfl]
 refine bo (iV 155 (d+1) 5 _ _ rfl rfl rfl) fun f=>?_
 refine bo (iV 156 (d+1) 5 _ _ rfl rfl rfl) fun h=>?_
 refine bo (oO 157 d 233 2 _ _ 4 rfl rfl rfl (fun _=>rfl)) fun i=>?_
 exact lf rfl
def F171 (c:Ze):Option Ze:=
 (Fn73_2 c).bind fun⟨g,n,o⟩=>(dU g 0 (if 5<(g.length:Int)then 5 else(g.length:Int))).bind fun p=>(dU n 0 (if 4<(n.length:Int)then 4 else(n.length:Int))).bind fun q=>(lQ o (if 5<(o.length:Int)then 5 else(o.length:Int))).bind fun r=>(aO (E:=List Zy) (fun(⟨b,a⟩:Int×(List Zy))=>if decide (b<(a.length:Int))then(lidx a b).bind fun e=>(lnth a e).bind fun f=>(lidx a b).bind fun h=>(lnth a h).bind fun d=>(eQ f.Text 0 (if 30<(d.Text.size:Int)then 30 else(d.Text.size:Int))).bind fun i=>(lidx a b).bind fun j=>(lput a j (fun k=>(Zy.mk i k.Link))).bind fun l=>some (.inl ((w64 (b+1)),l))else some (.inr a)) B64 (0,r)).bind fun m=>some (Ze.mk c.ID c.Kind c.Value p q c.Articulations c.Ornament c.Dynamic m c.Stem c.Beam)
theorem ok171 {k} (d) (a:Ze):OD k (d+3) 171 [.agg (Ze.g a)]=(F171 a).map (fun x=>.agg (Ze.g x)):=by
 rw[od (fn:=p171) rfl rfl rfl]
 refine bo (okn73_2 d a) fun⟨y,z,l⟩=>?_
 refine bz lm ?_
 refine bo (bQ _ _ _ _) fun p=>?_
 refine bz lm ?_
 refine bo (bQ _ _ _ _) fun q=>?_
 refine bz (bP Zy.g l) ?_
 refine bo (kJ Zy.g l (if 5<(l.length:Int)then 5 else(l.length:Int))) fun w=>?_
 refine bo (aI (S:=Int×(List Zy)) (enc:=fun⟨e,b⟩=>(Q [(1,.ref 0 0),(2,.ref 1 0),(3,i64 e)] [(4,.lst 233 2 true (I Zy.g b)),(1,.box [i64 0,i64 0,i64 0,i64 0,i64 0,.v (.slice none 0 0),.v (.slice none 0 0),i64 0,i64 0,i64 0,.v (.slice none 0 0),i64 0,i64 0]),(0,.box [i64 a.ID.Site,i64 a.ID.Number,i64 a.Kind,i64 a.Value.Log,i64 a.Value.Dots,.is 5 (I Zb.g p),.is 5 (I Zd.g q),i64 a.Articulations,i64 a.Ornament,i64 a.Dynamic,.own 4,i64 a.Stem,i64 a.Beam])])) (encE:=(fun(j:List Zy)=>(xq 0 [(1,.ref 0 0),(2,.ref 1 0)] [(4,.lst 233 2 true (I Zy.g j)),(1,.box [i64 0,i64 0,i64 0,i64 0,i64 0,.v (.slice none 0 0),.v (.slice none 0 0),i64 0,i64 0,i64 0,.v (.slice none 0 0),i64 0,i64 0]),(0,.box [i64 a.ID.Site,i64 a.ID.Number,i64 a.Kind,i64 a.Value.Log,i64 a.Value.Dots,.is 5 (I Zb.g p),.is 5 (I Zd.g q),i64 a.Articulations,i64 a.Ornament,i64 a.Dynamic,.own 4,i64 a.Stem,i64 a.Beam])]))) (fun⟨e,b⟩=>?_) B64 (0,w)) fun j=>?_
 refine bz (bP Zy.g b) ?_
 refine io ?_ (lf rfl)
 refine bo (aT Zy.g b _) fun r=>?_
 refine bo (bC (A:=Zy) (c:=Zy.g) (g:=fun h=>.v (.string h.Text)) (fun _=>rfl) b _) fun h=>?_
 refine bo (aT Zy.g b _) fun s=>?_
 refine bo (bC (A:=Zy) (c:=Zy.g) (g:=fun i=>.v (.string i.Text)) (fun _=>rfl) b _) fun i=>?_
 refine bo oi fun n=>?_
 refine bo (aT Zy.g b _) fun t=>?_
 refine bo (oM (A:=Zy) (c:=Zy.g) (m:=2) (f:=fun o=>(Zy.mk n o.Link)) (fun _=>⟨rfl,rfl⟩) (nV1 rfl) b _) fun u=>?_
 exact lf rfl
 exact lf rfl
def F102 (a:Zo):Option Zo:=
 (aO (E:=List Ze) (fun(⟨b,f⟩:Int×(List Ze))=>if(decide (b<(a.Events.length:Int)))&&(decide (b<12))then(lget a.Events b).bind fun g=>(F171 g).bind fun h=>(lapp false f [h]).bind fun i=>some (.inl ((w64 (b+1)),i))else some (.inr f)) B64 (0,[])).bind fun c=>(dU a.Tuplets 0 (if 6<(a.Tuplets.length:Int)then 6 else(a.Tuplets.length:Int))).bind fun d=>(lapp false ([]:List Zu) d).bind fun e=>some (Zo.mk c e)
theorem ok102 {k} (d) (b:Zo):OD k (d+4) 102 [.agg (Zo.g b)]=(F102 b).map (fun l=>.agg (Zo.g l)):=by
 rw[od (fn:=p102) rfl rfl rfl]
 refine bo (aI (S:=Int×(List Ze)) (enc:=fun⟨f,e⟩=>(Q [(1,.ref 0 0),(2,.ref 1 0),(3,.ref 2 0),(4,i64 f)] [(4,.lst 226 4 false (I Zu.g [])),(3,.lst 121 13 false (I Ze.g e)),(2,.box [.own 3,.own 4]),(1,.box [.v (.slice none 0 0),.v (.slice none 0 0)]),(0,.box (Zo.g b))])) (encE:=(fun(a:List Ze)=>(xq 0 [(1,.ref 0 0),(2,.ref 1 0),(3,.ref 2 0)] [(4,.lst 226 4 false (I Zu.g [])),(3,.lst 121 13 false (I Ze.g a)),(2,.box [.own 3,.own 4]),(1,.box [.v (.slice none 0 0),.v (.slice none 0 0)]),(0,.box (Zo.g b))]))) (fun⟨f,e⟩=>?_) B64 (0,[])) fun a=>?_
 refine bz lm ?_
 refine bz (gand rfl) ?_
 refine io ?_ (lf rfl)
 refine bo rg fun i=>?_
 refine bo (ok171 d i) fun j=>?_
 refine bo (aV false Ze.g e [j]) fun m=>?_
 exact lf rfl
 refine bz lm ?_
 refine bo (bQ _ _ _ _) fun c=>?_
 refine bo (aV false Zu.g ([]:List Zu) c) fun h=>?_
 exact lf rfl
def F46 (a:Zm):Option Zm:=
 (aO (E:=List Zw) (fun(⟨b,d⟩:Int×(List Zw))=>if(decide (b<(a.Cells.length:Int)))&&(decide (b<4))then(lget a.Cells b).bind fun g=>(lget a.Cells b).bind fun e=>(dU g.Clefs 0 (if 8<(e.Clefs.length:Int)then 8 else(e.Clefs.length:Int))).bind fun h=>(lapp false ([]:List Zc) h).bind fun i=>(aO (E:=List Zo) (fun(⟨c,f⟩:Int×(List Zo))=>(lget a.Cells b).bind fun j=>if(decide (c<(j.Voices.length:Int)))&&(decide (c<3))then(lget a.Cells b).bind fun k=>(lget k.Voices c).bind fun l=>(F102 l).bind fun m=>(lapp false f [m]).bind fun n=>some (.inl ((w64 (c+1)),n))else some (.inr f)) B64 (0,[])).bind fun o=>(lapp false d [(Zw.mk i o)]).bind fun p=>some (.inl ((w64 (b+1)),p))else some (.inr d)) B64 (0,[])).bind fun q=>(dU a.Tempi 0 (if 8<(a.Tempi.length:Int)then 8 else(a.Tempi.length:Int))).bind fun r=>(lapp false ([]:List Zt) r).bind fun s=>(eQ a.Rehearsal 0 (if 30<(a.Rehearsal.size:Int)then 30 else(a.Rehearsal.size:Int))).bind fun t=>some (Zm.mk a.ID a.Metre a.Length a.Fifths a.RepeatStart a.RepeatEnd a.Endings a.Jump a.Labels a.Swing a.Break t s q)
theorem ok46 {k} (d) (a:Zm):OD k (d+5) 46 [.agg (Zm.g a)]=(F46 a).map (fun y=>.agg (Zm.g y)):=by
 rw[od (fn:=p46) rfl rfl rfl]
 refine bo (aI (S:=Int×(List Zw)) (enc:=fun⟨c,b⟩=>(Q [(1,.ref 0 0),(2,.ref 1 0),(3,.is 2 (I Zw.g a.Cells)),(4,i64 c)] [(2,.lz 64 2 1 (I Zw.g b)),(1,.box [i64 0,i64 0,i64 0,i64 0,i64 0,i64 0,i64 0,i64 0,i64 0,i64 0,i64 0,i64 0,bv false,i64 0,i64 0,i64 0,i64 0,i64 0,i64 0,.v (.string (⟨#[]⟩:ByteArray)),.v (.slice none 0 0),.v (.slice none 0 0)]),(0,.box [i64 a.ID.Site,i64 a.ID.Number,i64 a.Metre.Count,i64 a.Metre.Unit,i64 a.Metre.Groups.c0,i64 a.Metre.Groups.c1,i64 a.Metre.Groups.c2,i64 a.Metre.Groups.c3,i64 a.Metre.Groups.c4,i64 a.Metre.Groups.c5,i64 a.Length,i64 a.Fifths,bv a.RepeatStart,i64 a.RepeatEnd,i64 a.Endings,i64 a.Jump,i64 a.Labels,i64 a.Swing,i64 a.Break,.v (.string a.Rehearsal),.is 3 (I Zt.g a.Tempi),.own 2])])) (encE:=(fun(j:List Zw)=>(xq 0 [(1,.ref 0 0),(2,.ref 1 0)] [(2,.lz 64 2 1 (I Zw.g j)),(1,.box [i64 0,i64 0,i64 0,i64 0,i64 0,i64 0,i64 0,i64 0,i64 0,i64 0,i64 0,i64 0,bv false,i64 0,i64 0,i64 0,i64 0,i64 0,i64 0,.v (.string (⟨#[]⟩:ByteArray)),.v (.slice none 0 0),.v (.slice none 0 0)]),(0,.box [i64 a.ID.Site,i64 a.ID.Number,i64 a.Metre.Count,i64 a.Metre.Unit,i64 a.Metre.Groups.c0,i64 a.Metre.Groups.c1,i64 a.Metre.Groups.c2,i64 a.Metre.Groups.c3,i64 a.Metre.Groups.c4,i64 a.Metre.Groups.c5,i64 a.Length,i64 a.Fifths,bv a.RepeatStart,i64 a.RepeatEnd,i64 a.Endings,i64 a.Jump,i64 a.Labels,i64 a.Swing,i64 a.Break,.v (.string a.Rehearsal),.is 3 (I Zt.g a.Tempi),.own 2])]))) (fun⟨c,b⟩=>?_) B64 (0,[])) fun j=>?_
 refine bz lm ?_
 refine bz (gand rfl) ?_
 refine io ?_ (lf rfl)
 refine bo rg fun p=>?_
 refine bo rg fun q=>?_
 refine bz lm ?_
 refine bo (bQ _ _ _ _) fun l=>?_
 refine bo (aV false Zc.g ([]:List Zc) l) fun e=>?_
 refine bo (aI (S:=Int×(List Zo)) (enc:=fun⟨i,f⟩=>(Q [(1,.ref 0 0),(2,.ref 1 0),(3,.is 2 (I Zw.g a.Cells)),(4,i64 c),(5,.ref 3 0),(6,i64 i)] [(5,.lst 77 2 false (I Zo.g f)),(4,.lst 96 2 false (I Zc.g e)),(3,.box [.own 4,.own 5]),(2,.lz 64 2 1 (I Zw.g b)),(1,.box [i64 0,i64 0,i64 0,i64 0,i64 0,i64 0,i64 0,i64 0,i64 0,i64 0,i64 0,i64 0,bv false,i64 0,i64 0,i64 0,i64 0,i64 0,i64 0,.v (.string (⟨#[]⟩:ByteArray)),.v (.slice none 0 0),.v (.slice none 0 0)]),(0,.box [i64 a.ID.Site,i64 a.ID.Number,i64 a.Metre.Count,i64 a.Metre.Unit,i64 a.Metre.Groups.c0,i64 a.Metre.Groups.c1,i64 a.Metre.Groups.c2,i64 a.Metre.Groups.c3,i64 a.Metre.Groups.c4,i64 a.Metre.Groups.c5,i64 a.Length,i64 a.Fifths,bv a.RepeatStart,i64 a.RepeatEnd,i64 a.Endings,i64 a.Jump,i64 a.Labels,i64 a.Swing,i64 a.Break,.v (.string a.Rehearsal),.is 3 (I Zt.g a.Tempi),.own 2])])) (encE:=(fun(h:List Zo)=>(xq 2 [(1,.ref 0 0),(2,.ref 1 0),(3,.is 2 (I Zw.g a.Cells)),(4,i64 c),(5,.ref 3 0)] [(5,.lst 77 2 false (I Zo.g h)),(4,.lst 96 2 false (I Zc.g e)),(3,.box [.own 4,.own 5]),(2,.lz 64 2 1 (I Zw.g b)),(1,.box [i64 0,i64 0,i64 0,i64 0,i64 0,i64 0,i64 0,i64 0,i64 0,i64 0,i64 0,i64 0,bv false,i64 0,i64 0,i64 0,i64 0,i64 0,i64 0,.v (.string (⟨#[]⟩:ByteArray)),.v (.slice none 0 0),.v (.slice none 0 0)]),(0,.box [i64 a.ID.Site,i64 a.ID.Number,i64 a.Metre.Count,i64 a.Metre.Unit,i64 a.Metre.Groups.c0,i64 a.Metre.Groups.c1,i64 a.Metre.Groups.c2,i64 a.Metre.Groups.c3,i64 a.Metre.Groups.c4,i64 a.Metre.Groups.c5,i64 a.Length,i64 a.Fifths,bv a.RepeatStart,i64 a.RepeatEnd,i64 a.Endings,i64 a.Jump,i64 a.Labels,i64 a.Swing,i64 a.Break,.v (.string a.Rehearsal),.is 3 (I Zt.g a.Tempi),.own 2])]))) (fun⟨i,f⟩=>?_) B64 (0,[])) fun h=>?_
 refine bo rg fun r=>?_
 refine bz lm ?_
 refine bz (gand rfl) ?_
 refine io ?_ (lf rfl)
 refine bo rg fun s=>?_
 refine bo rg fun m=>?_
 refine bo (ok102 d m) fun n=>?_
 refine bo (aV false Zo.g f [n]) fun t=>?_
 exact lf rfl
 refine bo (aV false Zw.g b [(Zw.mk e h)]) fun u=>?_
 exact lf rfl
 refine bz lm ?_
 refine bo (bQ _ _ _ _) fun o=>?_
 refine bo (aV false Zt.g ([]:List Zt) o) fun w=>?_
 refine bo oi fun x=>?_
 exact lf rfl
def F17 (a:Zm):Option Zm:=
 (F46 a).bind fun b=>some b
theorem ok17 {k} (d) (a:Zm):OD k (d+6) 17 [.agg (Zm.g a)]=(F17 a).map (fun b=>.agg (Zm.g b)):=by
 rw[od (fn:=p17) rfl rfl rfl]
 refine bo (ok46 d a) fun c=>?_
 exact lf rfl
def F8 (b:Z0):Option Z0:=
 (eQ b.Title 0 (if 30<(b.Title.size:Int)then 30 else(b.Title.size:Int))).bind fun t=>(aO (E:=List Zj) (fun(⟨e,s⟩:Int×(List Zj))=>if(decide (e<(b.Parts.length:Int)))&&(decide (e<3))then(lget b.Parts e).bind fun a=>(eQ a.Name 0 (if 30<(a.Name.size:Int)then 30 else(a.Name.size:Int))).bind fun f=>(dU a.Staves 0 (if 2<(a.Staves.length:Int)then 2 else(a.Staves.length:Int))).bind fun g=>(lapp false ([]:List Zf) g).bind fun h=>(lapp false s [(Zj.mk a.ID f a.Transpose h)]).bind fun i=>some (.inl ((w64 (e+1)),i))else some (.inr s)) B64 (0,[])).bind fun j=>(aO (E:=List Zm) (fun(⟨c,d⟩:Int×(List Zm))=>if(decide (c<(b.Measures.length:Int)))&&(decide (c<4))then(lget b.Measures c).bind fun k=>(F17 k).bind fun l=>(lapp false d [l]).bind fun m=>some (.inl ((w64 (c+1)),m))else some (.inr d)) B64 (0,[])).bind fun n=>(dU b.Spanners 0 (if 8<(b.Spanners.length:Int)then 8 else(b.Spanners.length:Int))).bind fun o=>(lapp false ([]:List Zn) o).bind fun p=>(dU b.Last 0 (if 3<(b.Last.length:Int)then 3 else(b.Last.length:Int))).bind fun q=>(lapp false ([]:List Zz) q).bind fun r=>some (Z0.mk t b.Written j n p r)
theorem ok8 {k} (d) (a:Z0):OD k (d+7) 8 [.agg (Z0.g a)]=(F8 a).map (fun y=>.agg (Z0.g y)):=by
 rw[od (fn:=p8) rfl rfl rfl]
 refine bo oi fun i=>?_
 refine bo (aI (S:=Int×(List Zj)) (enc:=fun⟨s,r⟩=>(Q [(1,.ref 0 0),(2,.ref 1 0),(3,.ref 2 0),(4,i64 s)] [(6,.lst 48 2 false (I Zz.g [])),(5,.lst 100 7 false (I Zn.g [])),(4,.lst 60 22 false (I Zm.g [])),(3,.lz 53 6 1 (I Zj.g r)),(2,.box [.v (.string i),bv a.Written,.own 3,.own 4,.own 5,.own 6]),(1,.box [.v (.string (⟨#[]⟩:ByteArray)),bv false,.v (.slice none 0 0),.v (.slice none 0 0),.v (.slice none 0 0),.v (.slice none 0 0)]),(0,.box (Z0.g a))])) (encE:=(fun(b:List Zj)=>(xq 0 [(1,.ref 0 0),(2,.ref 1 0),(3,.ref 2 0)] [(6,.lst 48 2 false (I Zz.g [])),(5,.lst 100 7 false (I Zn.g [])),(4,.lst 60 22 false (I Zm.g [])),(3,.lz 53 6 1 (I Zj.g b)),(2,.box [.v (.string i),bv a.Written,.own 3,.own 4,.own 5,.own 6]),(1,.box [.v (.string (⟨#[]⟩:ByteArray)),bv false,.v (.slice none 0 0),.v (.slice none 0 0),.v (.slice none 0 0),.v (.slice none 0 0)]),(0,.box (Z0.g a))]))) (fun⟨s,r⟩=>?_) B64 (0,[])) fun b=>?_
 refine bz lm ?_
 refine bz (gand rfl) ?_
 refine io ?_ (lf rfl)
 refine bo rg fun e=>?_
 refine bo oi fun j=>?_
 refine bz lm ?_
 refine bo (bQ _ _ _ _) fun l=>?_
 refine bo (aV false Zf.g ([]:List Zf) l) fun m=>?_
 refine bo (aV false Zj.g r [(Zj.mk e.ID j e.Transpose m)]) fun t=>?_
 exact lf rfl
 refine bo (aI (S:=Int×(List Zm)) (enc:=fun⟨f,c⟩=>(Q [(1,.ref 0 0),(2,.ref 1 0),(3,.ref 2 0),(6,i64 f)] [(6,.lst 48 2 false (I Zz.g [])),(5,.lst 100 7 false (I Zn.g [])),(4,.lst 60 22 false (I Zm.g c)),(3,.lz 53 6 1 (I Zj.g b)),(2,.box [.v (.string i),bv a.Written,.own 3,.own 4,.own 5,.own 6]),(1,.box [.v (.string (⟨#[]⟩:ByteArray)),bv false,.v (.slice none 0 0),.v (.slice none 0 0),.v (.slice none 0 0),.v (.slice none 0 0)]),(0,.box (Z0.g a))])) (encE:=(fun(h:List Zm)=>(xq 2 [(1,.ref 0 0),(2,.ref 1 0),(3,.ref 2 0)] [(6,.lst 48 2 false (I Zz.g [])),(5,.lst 100 7 false (I Zn.g [])),(4,.lst 60 22 false (I Zm.g h)),(3,.lz 53 6 1 (I Zj.g b)),(2,.box [.v (.string i),bv a.Written,.own 3,.own 4,.own 5,.own 6]),(1,.box [.v (.string (⟨#[]⟩:ByteArray)),bv false,.v (.slice none 0 0),.v (.slice none 0 0),.v (.slice none 0 0),.v (.slice none 0 0)]),(0,.box (Z0.g a))]))) (fun⟨f,c⟩=>?_) B64 (0,[])) fun h=>?_
 refine bz lm ?_
 refine bz (gand rfl) ?_
 refine io ?_ (lf rfl)
 refine bo rg fun n=>?_
 refine bo (ok17 d n) fun o=>?_
 refine bo (aV false Zm.g c [o]) fun u=>?_
 exact lf rfl
 refine bz lm ?_
 refine bo (bQ _ _ _ _) fun p=>?_
 refine bo (aV false Zn.g ([]:List Zn) p) fun w=>?_
 refine bz lm ?_
 refine bo (bQ _ _ _ _) fun q=>?_
 refine bo (aV false Zz.g ([]:List Zz) q) fun x=>?_
 exact lf rfl
def F9 (b:Z0):Option (List Zv):=
 (F18 b).bind fun a=>(dU a 0 (if 200<(a.length:Int)then 200 else(a.length:Int))).bind fun c=>some c
theorem ok9 {k} (d) (a:Z0):OD k (d+26) 9 [.agg (Z0.g a)]=(F9 a).map (fun b=>.is 3 (I Zv.g b)):=by
 rw[od (fn:=p9) rfl rfl rfl]
 refine bo (ok18 d a) fun c=>?_
 refine bz lm ?_
 refine bo (bQ _ _ _ _) fun e=>?_
 exact lf rfl
def F19 (a:Z0) (c d:Int):Option (dE×Int):=
 (F26 a).bind fun b=>if !b then some ((dE.mk (Z0.mk (⟨#[]⟩:ByteArray) false [] [] [] []) (uE.mk 0 0)),24)else none
theorem ok19 {k} (d) (a:Z0) (b c:Int):OD k (d+27) 19 [.agg (Z0.g a),i64 b,i64 c]=(F19 a b c).map (fun⟨e,f⟩=>.tup [.agg (dE.g e),i64 f]):=by
 rw[od (fn:=p19) rfl rfl rfl]
 refine bz lm ?_
 refine bo (ok26 d a) fun h=>?_
 refine io (lf rfl) ?_
 rfl
def F10 (b:Z0) (c d:Int):Option ((List Int)×Int):=
 (F19 b c d).bind fun⟨e,a⟩=>if a !=0 then some ([],a)else none
theorem ok10 {k} (d) (a:Z0) (b c:Int):OD k (d+28) 10 [.agg (Z0.g a),i64 b,i64 c]=(F10 a b c).map (fun⟨e,f⟩=>.tup [.is 1 (I cI e),i64 f]):=by
 rw[od (fn:=p10) rfl rfl rfl]
 refine bo (ok19 d a b c) fun⟨h,i⟩=>?_
 refine io (lf rfl) ?_
 rfl
def F11 (b:Z0) (c d:Int):Option (Z0×(List Int)×Int):=
 (F19 b c d).bind fun⟨e,a⟩=>if a !=0 then some ((Z0.mk (⟨#[]⟩:ByteArray) false [] [] [] []),[],a)else none
theorem ok11 {k} (d) (a:Z0) (b c:Int):OD k (d+28) 11 [.agg (Z0.g a),i64 b,i64 c]=(F11 a b c).map (fun⟨e,f,h⟩=>.tup [.agg (Z0.g e),.is 1 (I cI f),i64 h]):=by
 rw[od (fn:=p11) rfl rfl rfl]
 refine bo (ok19 d a b c) fun⟨i,j⟩=>?_
 refine io (lf rfl) ?_
 rfl
def F27 (a:Z0) (c:Int) (d:bX) (e f:Int):Option (Int×Int):=
 (F26 a).bind fun b=>if !b then some (0,24)else none
theorem ok27 {k} (d) (a:Z0) (b:Int) (c:bX) (e f:Int):OD k (d+27) 27 [.agg (Z0.g a),i64 b,.v (.slice none 0 0),.agg (bX.g c),i64 e,i64 f]=(F27 a b c e f).map (fun⟨h,i⟩=>.tup [i64 h,i64 i]):=by
 rw[od (fn:=p27) rfl rfl rfl]
 refine bo (ok26 d a) fun j=>?_
 refine io (lf rfl) ?_
 rfl
def F12 (b:Z0) (c:Int) (d:bX) (e f:Int):Option (Z0×Int):=
 (F27 b c d e f).bind fun⟨g,a⟩=>if a !=0 then some ((Z0.mk (⟨#[]⟩:ByteArray) false [] [] [] []),a)else none
theorem ok12 {k} (d) (a:Z0) (b:Int) (c:bX) (e f:Int):OD k (d+28) 12 [.agg (Z0.g a),i64 b,.v (.slice none 0 0),.agg (bX.g c),i64 e,i64 f]=(F12 a b c e f).map (fun⟨h,i⟩=>.tup [.agg (Z0.g h),i64 i]):=by
 rw[od (fn:=p12) rfl rfl rfl]
 refine bo (ok27 d a b c e f) fun⟨j,l⟩=>?_
 refine io (lf rfl) ?_
 rfl
def F13 (a:Z0) (b c:Int):Option Int:=
 (F19 a b c).bind fun⟨e,d⟩=>some d
theorem ok13 {k} (d) (a:Z0) (b c:Int):OD k (d+28) 13 [.agg (Z0.g a),i64 b,i64 c]=(F13 a b c).map (fun e=>i64 e):=by
 rw[od (fn:=p13) rfl rfl rfl]
 refine bo (ok19 d a b c) fun⟨f,h⟩=>?_
 exact lf rfl
def F38 (a:List Zj):Option Bool:=
 if(a.length:Int)!=0 then some false else(aO (E:=Unit) (fun(_:Unit)=>if decide (0<(a.length:Int))then none else some (.inr ())) B64 ()).bind fun _=>some true
theorem ok38 {k} (d) (a:List Zj):OD k (d+1) 38 [.is 6 (I Zj.g a),.v (.slice none 0 0),.fn 36 [] []]=(F38 a).map (fun b=>bv b):=by
 rw[od (fn:=p38) rfl rfl rfl]
 refine bz lm ?_
 refine io (lf rfl) ?_
 refine bz lm ?_
 refine bo (aI (S:=Unit) (enc:=fun _=>(Q [(16,i64 (a.length:Int)),(17,i64 0)] [])) (encE:=(fun(_:Unit)=>(xq 0 [] []))) (fun _=>?_) B64 ()) fun _=>?_
 refine io ?_ (lf rfl)
 rfl
 exact lf rfl
def F39 (a:List Zm):Option Bool:=
 if(a.length:Int)!=0 then some false else(aO (E:=Unit) (fun(_:Unit)=>if decide (0<(a.length:Int))then none else some (.inr ())) B64 ()).bind fun _=>some true
theorem ok39 {k} (d) (a:List Zm):OD k (d+1) 39 [.is 22 (I Zm.g a),.v (.slice none 0 0),.fn 40 [] []]=(F39 a).map (fun b=>bv b):=by
 rw[od (fn:=p39) rfl rfl rfl]
 refine bz lm ?_
 refine io (lf rfl) ?_
 refine bz lm ?_
 refine bo (aI (S:=Unit) (enc:=fun _=>(Q [(16,i64 (a.length:Int)),(17,i64 0)] [])) (encE:=(fun(_:Unit)=>(xq 0 [] []))) (fun _=>?_) B64 ()) fun _=>?_
 refine io ?_ (lf rfl)
 rfl
 exact lf rfl
def F41 (a:List Zn):Option Bool:=
 if(a.length:Int)!=0 then some false else(aO (E:=Unit) (fun(_:Unit)=>if decide (0<(a.length:Int))then none else some (.inr ())) B64 ()).bind fun _=>some true
theorem ok41 {k} (d) (a:List Zn):OD k (d+1) 41 [.is 7 (I Zn.g a),.v (.slice none 0 0)]=(F41 a).map (fun b=>bv b):=by
 rw[od (fn:=p41) rfl rfl rfl]
 refine bz lm ?_
 refine io (lf rfl) ?_
 refine bz lm ?_
 refine bo (aI (S:=Unit) (enc:=fun _=>(Q [(12,i64 (a.length:Int)),(13,i64 0)] [])) (encE:=(fun(_:Unit)=>(xq 0 [] []))) (fun _=>?_) B64 ()) fun _=>?_
 refine io ?_ (lf rfl)
 rfl
 exact lf rfl
def F42 (a:List Zz):Option Bool:=
 if(a.length:Int)!=0 then some false else(aO (E:=Unit) (fun(_:Unit)=>if decide (0<(a.length:Int))then none else some (.inr ())) B64 ()).bind fun _=>some true
theorem ok42 {k} (d) (a:List Zz):OD k (d+1) 42 [.is 2 (I Zz.g a),.v (.slice none 0 0)]=(F42 a).map (fun b=>bv b):=by
 rw[od (fn:=p42) rfl rfl rfl]
 refine bz lm ?_
 refine io (lf rfl) ?_
 refine bz lm ?_
 refine bo (aI (S:=Unit) (enc:=fun _=>(Q [(12,i64 (a.length:Int)),(13,i64 0)] [])) (encE:=(fun(_:Unit)=>(xq 0 [] []))) (fun _=>?_) B64 ()) fun _=>?_
 refine io ?_ (lf rfl)
 rfl
 exact lf rfl
def F14 (a:Z0) (d:ByteArray) (e:Bool):Option Bool:=
 ((if(a.Title.toList==d.toList)&&((a.Written==e)!=false)then(F38 a.Parts).bind fun f=>some f else some false:Option (Bool))).bind fun g=>((if g then(F39 a.Measures).bind fun h=>some h else some false:Option (Bool))).bind fun i=>((if i then(F41 a.Spanners).bind fun j=>some j else some false:Option (Bool))).bind fun k=>((if k then(F42 a.Last).bind fun b=>some b else some false:Option (Bool))).bind fun c=>some c
theorem ok14 {k} (d) (a:Z0) (b:ByteArray) (c:Bool):OD k (d+2) 14 [.agg (Z0.g a),.agg [.v (.string b),bv c,.v (.slice none 0 0),.v (.slice none 0 0),.v (.slice none 0 0),.v (.slice none 0 0)]]=(F14 a b c).map (fun i=>bv i):=by
 rw[od (fn:=p14) rfl rfl rfl]
 refine bz (gand rfl) ?_
 refine bo (e:=id) ?_ fun l=>?_
 refine io ?_ (lf rfl)
 refine bo (ok38 d a.Parts) fun j=>?_
 exact lf rfl
 refine bo (e:=id) ?_ fun n=>?_
 refine io ?_ (lf rfl)
 refine bo (ok39 d a.Measures) fun m=>?_
 exact lf rfl
 refine bo (e:=id) ?_ fun p=>?_
 refine io ?_ (lf rfl)
 refine bo (ok41 d a.Spanners) fun o=>?_
 exact lf rfl
 refine bo (e:=id) ?_ fun h=>?_
 refine io ?_ (lf rfl)
 refine bo (ok42 d a.Last) fun f=>?_
 exact lf rfl
 exact lf rfl
def F4 (m:Z0) (l:Int):Option Bool:=
 (F8 m).bind fun a=>(F9 a).bind fun n=>if(n.length:Int)==0 then(some true).bind fun o=>some o else(F10 a 0 1).bind fun⟨p,q⟩=>(F11 a 0 1).bind fun⟨r,s,b⟩=>(F12 a l (bX.mk (⟨#[]⟩:ByteArray) (⟨#[]⟩:ByteArray)) 1 l).bind fun⟨c,d⟩=>(some true).bind fun e=>((if e then(F13 a 0 1).bind fun f=>some (f==24)else some false:Option (Bool))).bind fun g=>((if(((g&&((w64 ((p.length:Int)+(s.length:Int)))==0))&&(q==24))&&(b==24))&&(d==24)then(F14 r (⟨#[]⟩:ByteArray) false).bind fun h=>some h else some false:Option (Bool))).bind fun i=>((if i then(F14 c (⟨#[]⟩:ByteArray) false).bind fun j=>some j else some false:Option (Bool))).bind fun k=>some k
theorem ok4 (d) (c:Z0) (b:Int):OD true (d+29) 4 [.agg (Z0.g c),i64 b]=(F4 c b).map (fun r=>bv r):=by
 rw[od (fn:=p4) rfl rfl rfl]
 refine bo (ok8 (d+21) c) fun a=>?_
 refine bo (ok9 (d+2) a) fun s=>?_
 refine bz lm ?_
 refine io ?_ ?_
 refine bo (gO1 (d+28)) fun t=>?_
 exact lf rfl
 refine bo (ok10 d a 0 1) fun⟨u,v⟩=>?_
 refine bo (ok11 d a 0 1) fun⟨q,w,h⟩=>?_
 refine bo (ok12 d a b (bX.mk (⟨#[]⟩:ByteArray) (⟨#[]⟩:ByteArray)) 1 b) fun⟨f,i⟩=>?_
 refine bo (gO1 (d+28)) fun j=>?_
 refine bo (e:=id) ?_ fun l=>?_
 refine io ?_ (lf rfl)
 refine bo (ok13 d a 0 1) fun k=>?_
 exact lf rfl
 refine bz (gand (bz lm (bz lm rfl))) ?_
 refine bz (gand rfl) ?_
 refine bz (gand rfl) ?_
 refine bz (gand rfl) ?_
 refine bo (e:=id) ?_ fun n=>?_
 refine io ?_ (lf rfl)
 refine bo (ok14 (d+26) q (⟨#[]⟩:ByteArray) false) fun m=>?_
 exact lf rfl
 refine bo (e:=id) ?_ fun p=>?_
 refine io ?_ (lf rfl)
 refine bo (ok14 (d+26) f (⟨#[]⟩:ByteArray) false) fun o=>?_
 exact lf rfl
 exact lf rfl
end Go.P
