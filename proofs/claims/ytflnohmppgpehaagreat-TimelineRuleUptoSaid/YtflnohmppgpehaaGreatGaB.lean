import Derived.Test.YtflnohmppgpehaaGreatGaA
/- A text of the proof. -/
set_option linter.all false
set_option maxRecDepth 100000
set_option maxHeartbeats 2000000
namespace Go.P
open Go.Sim (Ex OpK CK)
open K (I Q rq nq xq ck)
def F22 (c:Z0) (d:Int):Option (Int×Int×Int):=
 if decide (d<0)then some (0,0,2)else(aO (E:=(Int×Int)⊕Unit) (fun(⟨b,a⟩:Int×Int)=>if decide (a<(c.Parts.length:Int))then(lget c.Parts a).bind fun e=>if decide (b<(e.Staves.length:Int))then some (.inr (.inl (a,b)))else some (.inl ((w64 (b-(e.Staves.length:Int))),(w64 (a+1))))else some (.inr (.inr ()))) B64 (d,0)).bind fun f=>(match f with|.inl ⟨x7,x8⟩=>some (x7,x8,0)|.inr _=>some (0,0,2))
theorem ok22 {k} (d) (a:Z0) (b:Int):OD k (d+1) 22 [.agg (Z0.g a),i64 b]=(F22 a b).map (fun⟨j,l,m⟩=>.tup [i64 j,i64 l,i64 m]):=by
 rw[od (fn:=p22) rfl rfl rfl]
 refine io (lf rfl) ?_
 refine bz lm ?_
 refine bo (aI (S:=Int×Int) (enc:=fun⟨c,e⟩=>(Q [(1,i64 c),(12,.is 6 (I Zj.g a.Parts)),(13,i64 (a.Parts.length:Int)),(14,i64 e)] [(0,.box (Z0.g a))])) (encE:=(fun|.inl ⟨f,h⟩=>(rq [(4,i64 f),(5,i64 h),(6,i64 0)] [(0,.box (Z0.g a))])|.inr _=>(xq 0 [] [(0,.box (Z0.g a))]))) (fun⟨c,e⟩=>?_) B64 (b,0)) fun i=>?_
 refine io ?_ (lf rfl)
 refine bo rg fun n=>?_
 refine bz lm ?_
 refine io (lf rfl) ?_
 refine bz lm ?_
 exact lf rfl
 rcases i with⟨f,h⟩|_
 exact lf rfl
 exact lf rfl
def F81 (a:Zh) (b:Int):Option Bool:=
 (F82 a).bind fun⟨c,e⟩=>(F65 (w64 (c+b)) 0 127).bind fun d=>some (!d)
theorem ok81 {k} (d) (a:Zh) (b:Int):OD k (d+5) 81 [.agg (Zh.g a),.ip [i64 b]]=(F81 a b).map (fun e=>bv e):=by
 rw[od (fn:=p81) rfl rfl rfl]
 refine bo (ok82 d a) fun⟨c,f⟩=>?_
 refine bo (ok65 (d+3) (w64 (c+b)) 0 127) fun h=>?_
 exact lf rfl
def F84 (a:Zb) (b:Int):Option Bool:=
 (F81 a.Pitch b).bind fun c=>some c
theorem ok84 {k} (d) (a:Zb) (b:Int):OD k (d+6) 84 [.agg (Zb.g a),.ip [.fn 81 [] [.ip [i64 b]]]]=(F84 a b).map (fun c=>bv c):=by
 rw[od (fn:=p84) rfl rfl rfl]
 refine bo (ok81 d a.Pitch b) fun e=>?_
 exact lf rfl
def F141 (b:List Zb) (c:Int):Option Int:=
 (aO (E:=Int⊕Unit) (fun(a:Int)=>if decide (a<(b.length:Int))then(lget b a).bind fun d=>(F84 d c).bind fun e=>if e then some (.inr (.inl a))else some (.inl (w64 (a+1)))else some (.inr (.inr ()))) B64 0).bind fun f=>(match f with|.inl x8=>some x8|.inr _=>some (-1))
theorem ok141 {k} (d) (a:List Zb) (b:Int):OD k (d+7) 141 [.is 5 (I Zb.g a),.fn 84 [] [.ip [.fn 81 [] [.ip [i64 b]]]]]=(F141 a b).map (fun i=>i64 i):=by
 rw[od (fn:=p141) rfl rfl rfl]
 refine bz lm ?_
 refine bo (aI (S:=Int) (enc:=fun c=>(Q [(0,.is 5 (I Zb.g a)),(1,.fn 84 [] [.ip [.fn 81 [] [.ip [i64 b]]]]),(7,i64 (a.length:Int)),(8,i64 c)] [])) (encE:=(fun|.inl e=>(rq [(4,i64 e)] [])|.inr _=>(xq 0 [] []))) (fun c=>?_) B64 0) fun h=>?_
 refine io ?_ (lf rfl)
 refine bo rg fun f=>?_
 refine bo (ok84 d f b) fun j=>?_
 refine io (lf rfl) (lf rfl)
 rcases h with e|_
 exact lf rfl
 exact lf rfl
def F83 (a:List Zb) (b:Int):Option Bool:=
 (F141 a b).bind fun c=>some (decide (c>=0))
theorem ok83 {k} (d) (a:List Zb) (b:Int):OD k (d+8) 83 [.is 5 (I Zb.g a),.fn 84 [] [.ip [.fn 81 [] [.ip [i64 b]]]]]=(F83 a b).map (fun c=>bv c):=by
 rw[od (fn:=p83) rfl rfl rfl]
 refine bo (ok141 d a b) fun e=>?_
 exact lf rfl
def F86 (a:Zd) (b:Int):Option Bool:=
 (F81 a.Pitch b).bind fun c=>some c
theorem ok86 {k} (d) (a:Zd) (b:Int):OD k (d+6) 86 [.agg (Zd.g a),.ip [.fn 81 [] [.ip [i64 b]]]]=(F86 a b).map (fun c=>bv c):=by
 rw[od (fn:=p86) rfl rfl rfl]
 refine bo (ok81 d a.Pitch b) fun e=>?_
 exact lf rfl
def F142 (b:List Zd) (c:Int):Option Int:=
 (aO (E:=Int⊕Unit) (fun(a:Int)=>if decide (a<(b.length:Int))then(lget b a).bind fun d=>(F86 d c).bind fun e=>if e then some (.inr (.inl a))else some (.inl (w64 (a+1)))else some (.inr (.inr ()))) B64 0).bind fun f=>(match f with|.inl x8=>some x8|.inr _=>some (-1))
theorem ok142 {k} (d) (a:List Zd) (b:Int):OD k (d+7) 142 [.is 5 (I Zd.g a),.fn 86 [] [.ip [.fn 81 [] [.ip [i64 b]]]]]=(F142 a b).map (fun i=>i64 i):=by
 rw[od (fn:=p142) rfl rfl rfl]
 refine bz lm ?_
 refine bo (aI (S:=Int) (enc:=fun c=>(Q [(0,.is 5 (I Zd.g a)),(1,.fn 86 [] [.ip [.fn 81 [] [.ip [i64 b]]]]),(7,i64 (a.length:Int)),(8,i64 c)] [])) (encE:=(fun|.inl e=>(rq [(4,i64 e)] [])|.inr _=>(xq 0 [] []))) (fun c=>?_) B64 0) fun h=>?_
 refine io ?_ (lf rfl)
 refine bo rg fun f=>?_
 refine bo (ok86 d f b) fun j=>?_
 refine io (lf rfl) (lf rfl)
 rcases h with e|_
 exact lf rfl
 exact lf rfl
def F85 (a:List Zd) (b:Int):Option Bool:=
 (F142 a b).bind fun c=>some (decide (c>=0))
theorem ok85 {k} (d) (a:List Zd) (b:Int):OD k (d+8) 85 [.is 5 (I Zd.g a),.fn 86 [] [.ip [.fn 81 [] [.ip [i64 b]]]]]=(F85 a b).map (fun c=>bv c):=by
 rw[od (fn:=p85) rfl rfl rfl]
 refine bo (ok142 d a b) fun e=>?_
 exact lf rfl
def F80 (h:Zp) (e:Ze) (f:Zk):Option Bool:=
 (F79 e).bind fun i=>if i !=0 then some false else(F22 f.s' h.Staff).bind fun⟨j,m,k⟩=>((if k==0 then(lget f.s'.Parts j).bind fun l=>some l.Transpose.Semitones else some 0:Option (Int))).bind fun g=>((if f.s'.Written then some (w64 (0-g))else some g:Option (Int))).bind fun a=>(F83 e.Heads a).bind fun b=>((if b then some true else(F85 e.Graces a).bind fun c=>some c:Option (Bool))).bind fun d=>some d
theorem ok80 {k} (d) (c:Zp) (b:Ze) (f:Zk):OD k (d+9) 80 [.agg (Zp.g c),.agg (Ze.g b),.ip [.ip (Zk.g f)]]=(F80 c b f).map (fun m=>bv m):=by
 rw[od (fn:=p80) rfl rfl rfl]
 refine bo (ok79 d b) fun n=>?_
 refine io (lf rfl) ?_
 refine bo (ok22 (d+7) f.s' c.Staff) fun⟨o,p,q⟩=>?_
 refine bo (e:=(fun(h:Int)=>(nq [(2,.ip [.ip (Zk.g f)]),(4,.ref 1 0),(6,.ref 2 0)] [(2,.box [i64 h]),(1,.box (Ze.g b)),(0,.box (Zp.g c))]))) ?_ fun h=>?_
 refine io ?_ (lf rfl)
 refine bo rg fun r=>?_
 exact lf rfl
 refine bo (e:=(fun(a:Int)=>(nq [(4,.ref 1 0),(6,.ref 2 0)] [(2,.box [i64 a]),(1,.box (Ze.g b)),(0,.box (Zp.g c))]))) ?_ fun a=>?_
 refine io (lf rfl) (lf rfl)
 refine bo (ok83 d b.Heads a) fun i=>?_
 refine bo (e:=id) ?_ fun l=>?_
 refine io (lf rfl) ?_
 refine bo (ok85 d b.Graces a) fun j=>?_
 exact lf rfl
 exact lf rfl
def Fn77_2 (u:List Zv) (s:Z0) (t:Int):Option (List Zv):=
 (aO (E:=List Zv) (fun(⟨c,m⟩:Int×(List Zv))=>if decide (c<(s.Measures.length:Int))then(lget s.Measures c).bind fun n=>(aO (E:=List Zv) (fun(⟨d,o⟩:Int×(List Zv))=>if decide (d<(n.Cells.length:Int))then(lget n.Cells d).bind fun p=>(aO (E:=List Zv) (fun(⟨e,q⟩:Int×(List Zv))=>if decide (e<(p.Voices.length:Int))then(lget p.Voices e).bind fun r=>(aO (E:=List Zv) (fun(⟨a,b⟩:Int×(List Zv))=>if decide (a<(r.Events.length:Int))then(lget r.Events a).bind fun f=>(F80 (Zp.mk 4 0 d c e a 0) f (Zk.mk s t b)).bind fun g=>(Fn63 g f.ID b s t).bind fun h=>some (.inl ((w64 (a+1)),h))else some (.inr b)) B64 (0,q)).bind fun i=>some (.inl ((w64 (e+1)),i))else some (.inr q)) B64 (0,o)).bind fun j=>some (.inl ((w64 (d+1)),j))else some (.inr o)) B64 (0,m)).bind fun k=>some (.inl ((w64 (c+1)),k))else some (.inr m)) B64 (0,u)).bind fun l=>some l
theorem okn77_2 {k} (d) (x:List Zv) (c:Z0) (i:Int):runR (XD k (d+10)) 77 [.ref 1 0,.fn 80 [] [.ref 3 0]] [(3,.box [.ref 1 0]),(2,.lst 131 3 false (I Zv.g x)),(1,.box (ck c i (.own 2)))] 4 false=(Fn77_2 x c i).map (fun(w:List Zv)=>((.tup [],[(3,.box [.ref 1 0]),(2,.lst 131 3 false (I Zv.g w)),(1,.box (ck c i (.own 2)))],0))):=by
 rw[xd (fn:=p77) rfl]
 refine bz lm ?_
 refine bo (aI (S:=Int×(List Zv)) (enc:=fun⟨b,s⟩=>(Q [(0,.ref 1 0),(1,.fn 80 [] [.ref 3 0]),(16,.is 22 (I Zm.g c.Measures)),(17,i64 (c.Measures.length:Int)),(18,i64 b)] [(3,.box [.ref 1 0]),(2,.lst 131 3 false (I Zv.g s)),(1,.box (ck c i (.own 2)))])) (encE:=(fun(r:List Zv)=>(xq 0 [] [(3,.box [.ref 1 0]),(2,.lst 131 3 false (I Zv.g r)),(1,.box (ck c i (.own 2)))]))) (fun⟨b,s⟩=>?_) B64 (0,x)) fun r=>?_
 refine io ?_ (lf rfl)
 refine bo rg fun a=>?_
 refine bz lm ?_
 refine bo (aI (S:=Int×(List Zv)) (enc:=fun⟨e,t⟩=>(Q [(0,.ref 1 0),(1,.fn 80 [] [.ref 3 0]),(4,i64 b),(16,.is 22 (I Zm.g c.Measures)),(17,i64 (c.Measures.length:Int)),(18,i64 b),(24,.is 2 (I Zw.g a.Cells)),(25,i64 (a.Cells.length:Int)),(26,i64 e)] [(4,.box (Zm.g a)),(3,.box [.ref 1 0]),(2,.lst 131 3 false (I Zv.g t)),(1,.box (ck c i (.own 2)))])) (encE:=(fun(q:List Zv)=>(xq 2 [(0,.ref 1 0),(1,.fn 80 [] [.ref 3 0]),(16,.is 22 (I Zm.g c.Measures)),(17,i64 (c.Measures.length:Int)),(18,i64 b)] [(4,.box (Zm.g a)),(3,.box [.ref 1 0]),(2,.lst 131 3 false (I Zv.g q)),(1,.box (ck c i (.own 2)))]))) (fun⟨e,t⟩=>?_) B64 (0,s)) fun q=>?_
 refine io ?_ (lf rfl)
 refine bo rg fun f=>?_
 refine bz lm ?_
 refine bo (aI (S:=Int×(List Zv)) (enc:=fun⟨j,u⟩=>(Q [(0,.ref 1 0),(1,.fn 80 [] [.ref 3 0]),(4,i64 b),(6,i64 e),(16,.is 22 (I Zm.g c.Measures)),(17,i64 (c.Measures.length:Int)),(18,i64 b),(24,.is 2 (I Zw.g a.Cells)),(25,i64 (a.Cells.length:Int)),(26,i64 e),(32,.is 2 (I Zo.g f.Voices)),(33,i64 (f.Voices.length:Int)),(34,i64 j)] [(5,.box (Zw.g f)),(4,.box (Zm.g a)),(3,.box [.ref 1 0]),(2,.lst 131 3 false (I Zv.g u)),(1,.box (ck c i (.own 2)))])) (encE:=(fun(p:List Zv)=>(xq 4 [(0,.ref 1 0),(1,.fn 80 [] [.ref 3 0]),(4,i64 b),(16,.is 22 (I Zm.g c.Measures)),(17,i64 (c.Measures.length:Int)),(18,i64 b),(24,.is 2 (I Zw.g a.Cells)),(25,i64 (a.Cells.length:Int)),(26,i64 e)] [(5,.box (Zw.g f)),(4,.box (Zm.g a)),(3,.box [.ref 1 0]),(2,.lst 131 3 false (I Zv.g p)),(1,.box (ck c i (.own 2)))]))) (fun⟨j,u⟩=>?_) B64 (0,t)) fun p=>?_
 refine io ?_ (lf rfl)
 refine bo rg fun m=>?_
 refine bz lm ?_
 refine bo (aI (S:=Int×(List Zv)) (enc:=fun⟨l,h⟩=>(Q [(0,.ref 1 0),(1,.fn 80 [] [.ref 3 0]),(4,i64 b),(6,i64 e),(8,i64 j),(16,.is 22 (I Zm.g c.Measures)),(17,i64 (c.Measures.length:Int)),(18,i64 b),(24,.is 2 (I Zw.g a.Cells)),(25,i64 (a.Cells.length:Int)),(26,i64 e),(32,.is 2 (I Zo.g f.Voices)),(33,i64 (f.Voices.length:Int)),(34,i64 j),(40,.is 13 (I Ze.g m.Events)),(41,i64 (m.Events.length:Int)),(42,i64 l)] [(6,.box (Zo.g m)),(5,.box (Zw.g f)),(4,.box (Zm.g a)),(3,.box [.ref 1 0]),(2,.lst 131 3 false (I Zv.g h)),(1,.box (ck c i (.own 2)))])) (encE:=(fun(o:List Zv)=>(xq 6 [(0,.ref 1 0),(1,.fn 80 [] [.ref 3 0]),(4,i64 b),(6,i64 e),(16,.is 22 (I Zm.g c.Measures)),(17,i64 (c.Measures.length:Int)),(18,i64 b),(24,.is 2 (I Zw.g a.Cells)),(25,i64 (a.Cells.length:Int)),(26,i64 e),(32,.is 2 (I Zo.g f.Voices)),(33,i64 (f.Voices.length:Int)),(34,i64 j)] [(6,.box (Zo.g m)),(5,.box (Zw.g f)),(4,.box (Zm.g a)),(3,.box [.ref 1 0]),(2,.lst 131 3 false (I Zv.g o)),(1,.box (ck c i (.own 2)))]))) (fun⟨l,h⟩=>?_) B64 (0,u)) fun o=>?_
 refine io ?_ (lf rfl)
 refine bo rg fun n=>?_
 refine bo (ok80 d (Zp.mk 4 0 e b j l 0) n (Zk.mk c i h)) fun v=>?_
 refine bo (okn63 (d+8) v n.ID h c i) fun y=>?_
 exact lf rfl
 exact lf rfl
 exact lf rfl
 exact lf rfl
 exact lf rfl
def Fn40 (a:List Zv) (b:Z0) (c:Int):Option (List Zv):=
 (Fn77_2 a b c).bind fun d=>some d
theorem okn40 {k} (d) (c:List Zv) (a:Z0) (b:Int):runR (XD k (d+11)) 40 [.ref 1 0] [(2,.lst 131 3 false (I Zv.g c)),(1,.box (ck a b (.own 2)))] 3 false=(Fn40 c a b).map (fun(e:List Zv)=>((.tup [],[(2,.lst 131 3 false (I Zv.g e)),(1,.box (ck a b (.own 2)))],0))):=by
 rw[xd (fn:=p40) rfl]
 refine bo (okn77_2 d c a b) fun f=>?_
 exact lf rfl
def F143 (a:Zb):Option Bool:=
 some a.Tied
theorem ok143 {k} (d) (a:Zb):OD k (d+1) 143 [.agg (Zb.g a)]=(F143 a).map (fun b=>bv b):=by
 rw[od (fn:=p143) rfl rfl rfl]
 exact lf rfl
def F141_2 (b:List Zb):Option Int:=
 (aO (E:=Int⊕Unit) (fun(a:Int)=>if decide (a<(b.length:Int))then(lget b a).bind fun c=>(F143 c).bind fun d=>if d then some (.inr (.inl a))else some (.inl (w64 (a+1)))else some (.inr (.inr ()))) B64 0).bind fun e=>(match e with|.inl x7=>some x7|.inr _=>some (-1))
theorem ok141_2 {k} (d) (a:List Zb):OD k (d+2) 141 [.is 5 (I Zb.g a),.fn 143 [] []]=(F141_2 a).map (fun h=>i64 h):=by
 rw[od (fn:=p141) rfl rfl rfl]
 refine bz lm ?_
 refine bo (aI (S:=Int) (enc:=fun b=>(Q [(0,.is 5 (I Zb.g a)),(1,.fn 143 [] []),(7,i64 (a.length:Int)),(8,i64 b)] [])) (encE:=(fun|.inl c=>(rq [(4,i64 c)] [])|.inr _=>(xq 0 [] []))) (fun b=>?_) B64 0) fun f=>?_
 refine io ?_ (lf rfl)
 refine bo rg fun e=>?_
 refine bo (ok143 d e) fun i=>?_
 refine io (lf rfl) (lf rfl)
 rcases f with c|_
 exact lf rfl
 exact lf rfl
def F83_2 (a:List Zb):Option Bool:=
 (F141_2 a).bind fun b=>some (decide (b>=0))
theorem ok83_2 {k} (d) (a:List Zb):OD k (d+3) 83 [.is 5 (I Zb.g a),.fn 143 [] []]=(F83_2 a).map (fun b=>bv b):=by
 rw[od (fn:=p83) rfl rfl rfl]
 refine bo (ok141_2 d a) fun c=>?_
 exact lf rfl
def F88 (a:Ze):Option Bool:=
 ((if a.Kind==1 then(F83_2 a.Heads).bind fun b=>some b else some false:Option (Bool))).bind fun c=>some c
theorem ok88 {k} (d) (a:Ze):OD k (d+4) 88 [.agg (Ze.g a)]=(F88 a).map (fun b=>bv b):=by
 rw[od (fn:=p88) rfl rfl rfl]
 refine bo (e:=id) ?_ fun f=>?_
 refine io ?_ (lf rfl)
 refine bo (ok83_2 d a.Heads) fun c=>?_
 exact lf rfl
 exact lf rfl
def F145 (b:Z0) (a c g:Int):Option (List Ze):=
 ((if((decide (a<0))||(decide (a>=(b.Measures.length:Int))))||(decide (c<0))then some true else(lget b.Measures a).bind fun h=>some (decide (c>=(h.Cells.length:Int))):Option (Bool))).bind fun i=>((if i||(decide (g<0))then some true else(lget b.Measures a).bind fun j=>(lget j.Cells c).bind fun k=>some (decide (g>=(k.Voices.length:Int))):Option (Bool))).bind fun l=>if l then some []else(lget b.Measures a).bind fun d=>(lget d.Cells c).bind fun e=>(lget e.Voices g).bind fun f=>some f.Events
theorem ok145 {k} (d) (a:Z0) (b c f:Int):OD k (d+1) 145 [.agg (Z0.g a),i64 b,i64 c,i64 f]=(F145 a b c f).map (fun l=>.is 13 (I Ze.g l)):=by
 rw[od (fn:=p145) rfl rfl rfl]
 refine bz (gor (bz lm rfl)) ?_
 refine bz (gor rfl) ?_
 refine bo (e:=id) ?_ fun n=>?_
 refine io (lf rfl) ?_
 refine bo rg fun m=>?_
 refine bz lm ?_
 exact lf rfl
 refine bz (gor rfl) ?_
 refine bo (e:=id) ?_ fun q=>?_
 refine io (lf rfl) ?_
 refine bo rg fun o=>?_
 refine bo rg fun p=>?_
 refine bz lm ?_
 exact lf rfl
 refine io (lf rfl) ?_
 refine bo rg fun h=>?_
 refine bo rg fun i=>?_
 refine bo rg fun j=>?_
 exact lf rfl
def F144 (b:Z0) (a:Zp):Option Int:=
 if a.Kind !=4 then some 11 else((if decide (a.Event<0)then some true else(F145 b a.Measure a.Staff a.Voice).bind fun c=>some (decide (a.Event>=(c.length:Int))):Option (Bool))).bind fun d=>if d then some 2 else some 0
theorem ok144 {k} (d) (b:Z0) (a:Zp):OD k (d+2) 144 [.agg (Z0.g b),.agg (Zp.g a)]=(F144 b a).map (fun c=>i64 c):=by
 rw[od (fn:=p144) rfl rfl rfl]
 refine io (lf rfl) ?_
 refine bo (e:=id) ?_ fun h=>?_
 refine io (lf rfl) ?_
 refine bo (ok145 d b a.Measure a.Staff a.Voice) fun f=>?_
 refine bz lm ?_
 exact lf rfl
 refine io (lf rfl) (lf rfl)
def F146 (a b:Int) (c d:Int):Option Zp:=
 some (Zp.mk 4 0 b a c d 0)
theorem ok146 {k} (d) (a b:Int) (c e:Int):OD k (d+1) 146 [i64 a,i64 b,i64 c,i64 e]=(F146 a b c e).map (fun f=>.agg (Zp.g f)):=by
 rw[od (fn:=p146) rfl rfl rfl]
 exact lf rfl
def F89 (b:Z0) (a:Zp):Option (Zp×Bool):=
 (F144 b a).bind fun c=>if c !=0 then some ((Zp.mk 0 0 0 0 0 0 0),false)else(F145 b a.Measure a.Staff a.Voice).bind fun d=>if decide ((w64 (a.Event+1))<(d.length:Int))then(F146 a.Measure a.Staff a.Voice (w64 (a.Event+1))).bind fun e=>some (e,true)else(F145 b (w64 (a.Measure+1)) a.Staff a.Voice).bind fun f=>if decide ((f.length:Int)>0)then(F146 (w64 (a.Measure+1)) a.Staff a.Voice 0).bind fun g=>some (g,true)else some ((Zp.mk 0 0 0 0 0 0 0),false)
theorem ok89 {k} (d) (b:Z0) (a:Zp):OD k (d+3) 89 [.agg (Z0.g b),.agg (Zp.g a)]=(F89 b a).map (fun⟨c,e⟩=>.tup [.agg (Zp.g c),bv e]):=by
 rw[od (fn:=p89) rfl rfl rfl]
 refine bo (ok144 d b a) fun f=>?_
 refine io (lf rfl) ?_
 refine bo (ok145 (d+1) b a.Measure a.Staff a.Voice) fun h=>?_
 refine bz lm ?_
 refine io ?_ ?_
 refine bo (ok146 (d+1) a.Measure a.Staff a.Voice (w64 (a.Event+1))) fun i=>?_
 exact lf rfl
 refine bo (ok145 (d+1) b (w64 (a.Measure+1)) a.Staff a.Voice) fun j=>?_
 refine bz lm ?_
 refine io ?_ (lf rfl)
 refine bo (ok146 (d+1) (w64 (a.Measure+1)) a.Staff a.Voice 0) fun l=>?_
 exact lf rfl
def Fn147 (a:Ze):Option ((List Zb)×(List Zd)×(List Zy)):=
 (gR a.Heads).bind fun b=>(gR a.Graces).bind fun c=>(gR a.Lyrics).bind fun d=>some (b,c,d)
theorem okn147 {k} (d) (a:Ze):runR (XD k (d+2)) 147 [.agg (Ze.g a)] [] 3 true=(Fn147 a).map (fun(⟨b,c,e⟩:(List Zb)×(List Zd)×(List Zy))=>((.agg [i64 a.ID.Site,i64 a.ID.Number,i64 a.Kind,i64 a.Value.Log,i64 a.Value.Dots,.is 5 (I Zb.g b),.is 5 (I Zd.g c),i64 a.Articulations,i64 a.Ornament,i64 a.Dynamic,.own 5,i64 a.Stem,i64 a.Beam],[(5,.lst 241 2 true (I Zy.g e))],6))):=by
 rw[xd (fn:=p147) rfl]
 refine bo (iR 183 (d+1) 5 _ _ rfl rfl rfl) fun f=>?_
 refine bo (iR 184 (d+1) 5 _ _ rfl rfl rfl) fun h=>?_
 refine bo (oL 185 d 241 2 _ _ 5 rfl rfl rfl (fun _=>rfl)) fun i=>?_
 exact lf rfl
def F90 (c:Z0) (b:Zp):Option (Ze×Int):=
 (F144 c b).bind fun d=>if d !=0 then some ((Ze.mk (Zz.mk 0 0) 0 (Za.mk 0 0) [] [] 0 0 0 [] 0 0),d)else(F145 c b.Measure b.Staff b.Voice).bind fun e=>(lget e b.Event).bind fun a=>(Fn147 a).bind fun⟨f,g,h⟩=>some ((Ze.mk a.ID a.Kind a.Value f g a.Articulations a.Ornament a.Dynamic h a.Stem a.Beam),0)
theorem ok90 {k} (d) (b:Z0) (a:Zp):OD k (d+3) 90 [.agg (Z0.g b),.agg (Zp.g a)]=(F90 b a).map (fun⟨e,f⟩=>.tup [.agg (Ze.g e),i64 f]):=by
 rw[od (fn:=p90) rfl rfl rfl]
 refine bo (ok144 d b a) fun h=>?_
 refine io (lf rfl) ?_
 refine bo (ok145 (d+1) b a.Measure a.Staff a.Voice) fun i=>?_
 refine bo rg fun c=>?_
 refine bo (okn147 d c) fun⟨j,l,m⟩=>?_
 exact lf rfl
def F148 (a b:Zb):Option Bool:=
 some (((a.Pitch.Step==b.Pitch.Step)&&((a.Pitch.Alter==b.Pitch.Alter)&&((a.Pitch.Octave==b.Pitch.Octave)&&true)))!=false)
theorem ok148 {k} (d) (a b:Zb):OD k (d+1) 148 [.agg (Zb.g a),.ip (Zb.g b)]=(F148 a b).map (fun c=>bv c):=by
 rw[od (fn:=p148) rfl rfl rfl]
 exact lf rfl
def F141_3 (b:List Zb) (c:Zb):Option Int:=
 (aO (E:=Int⊕Unit) (fun(a:Int)=>if decide (a<(b.length:Int))then(lget b a).bind fun d=>(F148 d c).bind fun e=>if e then some (.inr (.inl a))else some (.inl (w64 (a+1)))else some (.inr (.inr ()))) B64 0).bind fun f=>(match f with|.inl x8=>some x8|.inr _=>some (-1))
theorem ok141_3 {k} (d) (a:List Zb) (b:Zb):OD k (d+2) 141 [.is 5 (I Zb.g a),.fn 148 [] [.ip (Zb.g b)]]=(F141_3 a b).map (fun i=>i64 i):=by
 rw[od (fn:=p141) rfl rfl rfl]
 refine bz lm ?_
 refine bo (aI (S:=Int) (enc:=fun c=>(Q [(0,.is 5 (I Zb.g a)),(1,.fn 148 [] [.ip (Zb.g b)]),(7,i64 (a.length:Int)),(8,i64 c)] [])) (encE:=(fun|.inl e=>(rq [(4,i64 e)] [])|.inr _=>(xq 0 [] []))) (fun c=>?_) B64 0) fun h=>?_
 refine io ?_ (lf rfl)
 refine bo rg fun f=>?_
 refine bo (ok148 d f b) fun j=>?_
 refine io (lf rfl) (lf rfl)
 rcases h with e|_
 exact lf rfl
 exact lf rfl
def F83_3 (a:List Zb) (b:Zb):Option Bool:=
 (F141_3 a b).bind fun c=>some (decide (c>=0))
theorem ok83_3 {k} (d) (a:List Zb) (b:Zb):OD k (d+3) 83 [.is 5 (I Zb.g a),.fn 148 [] [.ip (Zb.g b)]]=(F83_3 a b).map (fun c=>bv c):=by
 rw[od (fn:=p83) rfl rfl rfl]
 refine bo (ok141_3 d a b) fun e=>?_
 exact lf rfl
def F91 (a f:Ze):Option Bool:=
 if a.Kind !=1 then some true else(aO (E:=Unit⊕Unit) (fun(e:Int)=>if decide (e<(a.Heads.length:Int))then(lget a.Heads e).bind fun g=>((if g.Tied then((if f.Kind==1 then(F83_3 f.Heads g).bind fun h=>some h else some false:Option (Bool))).bind fun b=>some (!b)else some false:Option (Bool))).bind fun c=>if c then some (.inr (.inl ()))else some (.inl (w64 (e+1)))else some (.inr (.inr ()))) B64 0).bind fun d=>(match d with|.inl _=>some false|.inr _=>some true)
theorem ok91 {k} (d) (a b:Ze):OD k (d+4) 91 [.agg (Ze.g a),.agg (Ze.g b)]=(F91 a b).map (fun l=>bv l):=by
 rw[od (fn:=p91) rfl rfl rfl]
 refine io (lf rfl) ?_
 refine bz lm ?_
 refine bo (aI (S:=Int) (enc:=fun f=>(Q [(3,.ref 1 0),(11,.is 5 (I Zb.g a.Heads)),(12,i64 (a.Heads.length:Int)),(13,i64 f)] [(1,.box (Ze.g b)),(0,.box (Ze.g a))])) (encE:=(fun|.inl _=>(rq [(4,bv false)] [(1,.box (Ze.g b)),(0,.box (Ze.g a))])|.inr _=>(xq 0 [] [(1,.box (Ze.g b)),(0,.box (Ze.g a))]))) (fun f=>?_) B64 0) fun c=>?_
 refine io ?_ (lf rfl)
 refine bo rg fun j=>?_
 refine bo (e:=id) ?_ fun i=>?_
 refine io ?_ (lf rfl)
 refine bo (e:=id) ?_ fun h=>?_
 refine io ?_ (lf rfl)
 refine bo (ok83_3 d b.Heads j) fun m=>?_
 exact lf rfl
 exact lf rfl
 refine io (lf rfl) (lf rfl)
 rcases c with _|_
 exact lf rfl
 exact lf rfl
def F87 (d:Zp) (b:Ze) (c:Zk):Option Bool:=
 (F88 b).bind fun e=>if !e then some false else(F89 c.s' d).bind fun⟨f,g⟩=>(F90 c.s' f).bind fun⟨h,j⟩=>((if !g then some true else(F91 b h).bind fun i=>some (!i):Option (Bool))).bind fun a=>some a
theorem ok87 {k} (d) (c:Zp) (a:Ze) (b:Zk):OD k (d+5) 87 [.agg (Zp.g c),.agg (Ze.g a),.ip [.ip (Zk.g b)]]=(F87 c a b).map (fun j=>bv j):=by
 rw[od (fn:=p87) rfl rfl rfl]
 refine bo (ok88 d a) fun l=>?_
 refine io (lf rfl) ?_
 refine bo (ok89 (d+1) b.s' c) fun⟨h,m⟩=>?_
 refine bo (ok90 (d+1) b.s' h) fun⟨i,n⟩=>?_
 refine bo (e:=id) ?_ fun f=>?_
 refine io (lf rfl) ?_
 refine bo (ok91 d a i) fun o=>?_
 exact lf rfl
 exact lf rfl
def Fn77_3 (u:List Zv) (s:Z0) (t:Int):Option (List Zv):=
 (aO (E:=List Zv) (fun(⟨c,m⟩:Int×(List Zv))=>if decide (c<(s.Measures.length:Int))then(lget s.Measures c).bind fun n=>(aO (E:=List Zv) (fun(⟨d,o⟩:Int×(List Zv))=>if decide (d<(n.Cells.length:Int))then(lget n.Cells d).bind fun p=>(aO (E:=List Zv) (fun(⟨e,q⟩:Int×(List Zv))=>if decide (e<(p.Voices.length:Int))then(lget p.Voices e).bind fun r=>(aO (E:=List Zv) (fun(⟨a,b⟩:Int×(List Zv))=>if decide (a<(r.Events.length:Int))then(lget r.Events a).bind fun f=>(F87 (Zp.mk 4 0 d c e a 0) f (Zk.mk s t b)).bind fun g=>(Fn63 g f.ID b s t).bind fun h=>some (.inl ((w64 (a+1)),h))else some (.inr b)) B64 (0,q)).bind fun i=>some (.inl ((w64 (e+1)),i))else some (.inr q)) B64 (0,o)).bind fun j=>some (.inl ((w64 (d+1)),j))else some (.inr o)) B64 (0,m)).bind fun k=>some (.inl ((w64 (c+1)),k))else some (.inr m)) B64 (0,u)).bind fun l=>some l
theorem okn77_3 {k} (d) (x:List Zv) (c:Z0) (i:Int):runR (XD k (d+6)) 77 [.ref 1 0,.fn 87 [] [.ref 3 0]] [(3,.box [.ref 1 0]),(2,.lst 131 3 false (I Zv.g x)),(1,.box (ck c i (.own 2)))] 4 false=(Fn77_3 x c i).map (fun(w:List Zv)=>((.tup [],[(3,.box [.ref 1 0]),(2,.lst 131 3 false (I Zv.g w)),(1,.box (ck c i (.own 2)))],0))):=by
 rw[xd (fn:=p77) rfl]
 refine bz lm ?_
 refine bo (aI (S:=Int×(List Zv)) (enc:=fun⟨b,s⟩=>(Q [(0,.ref 1 0),(1,.fn 87 [] [.ref 3 0]),(16,.is 22 (I Zm.g c.Measures)),(17,i64 (c.Measures.length:Int)),(18,i64 b)] [(3,.box [.ref 1 0]),(2,.lst 131 3 false (I Zv.g s)),(1,.box (ck c i (.own 2)))])) (encE:=(fun(r:List Zv)=>(xq 0 [] [(3,.box [.ref 1 0]),(2,.lst 131 3 false (I Zv.g r)),(1,.box (ck c i (.own 2)))]))) (fun⟨b,s⟩=>?_) B64 (0,x)) fun r=>?_
 refine io ?_ (lf rfl)
 refine bo rg fun a=>?_
 refine bz lm ?_
 refine bo (aI (S:=Int×(List Zv)) (enc:=fun⟨e,t⟩=>(Q [(0,.ref 1 0),(1,.fn 87 [] [.ref 3 0]),(4,i64 b),(16,.is 22 (I Zm.g c.Measures)),(17,i64 (c.Measures.length:Int)),(18,i64 b),(24,.is 2 (I Zw.g a.Cells)),(25,i64 (a.Cells.length:Int)),(26,i64 e)] [(4,.box (Zm.g a)),(3,.box [.ref 1 0]),(2,.lst 131 3 false (I Zv.g t)),(1,.box (ck c i (.own 2)))])) (encE:=(fun(q:List Zv)=>(xq 2 [(0,.ref 1 0),(1,.fn 87 [] [.ref 3 0]),(16,.is 22 (I Zm.g c.Measures)),(17,i64 (c.Measures.length:Int)),(18,i64 b)] [(4,.box (Zm.g a)),(3,.box [.ref 1 0]),(2,.lst 131 3 false (I Zv.g q)),(1,.box (ck c i (.own 2)))]))) (fun⟨e,t⟩=>?_) B64 (0,s)) fun q=>?_
 refine io ?_ (lf rfl)
 refine bo rg fun f=>?_
 refine bz lm ?_
 refine bo (aI (S:=Int×(List Zv)) (enc:=fun⟨j,u⟩=>(Q [(0,.ref 1 0),(1,.fn 87 [] [.ref 3 0]),(4,i64 b),(6,i64 e),(16,.is 22 (I Zm.g c.Measures)),(17,i64 (c.Measures.length:Int)),(18,i64 b),(24,.is 2 (I Zw.g a.Cells)),(25,i64 (a.Cells.length:Int)),(26,i64 e),(32,.is 2 (I Zo.g f.Voices)),(33,i64 (f.Voices.length:Int)),(34,i64 j)] [(5,.box (Zw.g f)),(4,.box (Zm.g a)),(3,.box [.ref 1 0]),(2,.lst 131 3 false (I Zv.g u)),(1,.box (ck c i (.own 2)))])) (encE:=(fun(p:List Zv)=>(xq 4 [(0,.ref 1 0),(1,.fn 87 [] [.ref 3 0]),(4,i64 b),(16,.is 22 (I Zm.g c.Measures)),(17,i64 (c.Measures.length:Int)),(18,i64 b),(24,.is 2 (I Zw.g a.Cells)),(25,i64 (a.Cells.length:Int)),(26,i64 e)] [(5,.box (Zw.g f)),(4,.box (Zm.g a)),(3,.box [.ref 1 0]),(2,.lst 131 3 false (I Zv.g p)),(1,.box (ck c i (.own 2)))]))) (fun⟨j,u⟩=>?_) B64 (0,t)) fun p=>?_
 refine io ?_ (lf rfl)
 refine bo rg fun m=>?_
 refine bz lm ?_
 refine bo (aI (S:=Int×(List Zv)) (enc:=fun⟨l,h⟩=>(Q [(0,.ref 1 0),(1,.fn 87 [] [.ref 3 0]),(4,i64 b),(6,i64 e),(8,i64 j),(16,.is 22 (I Zm.g c.Measures)),(17,i64 (c.Measures.length:Int)),(18,i64 b),(24,.is 2 (I Zw.g a.Cells)),(25,i64 (a.Cells.length:Int)),(26,i64 e),(32,.is 2 (I Zo.g f.Voices)),(33,i64 (f.Voices.length:Int)),(34,i64 j),(40,.is 13 (I Ze.g m.Events)),(41,i64 (m.Events.length:Int)),(42,i64 l)] [(6,.box (Zo.g m)),(5,.box (Zw.g f)),(4,.box (Zm.g a)),(3,.box [.ref 1 0]),(2,.lst 131 3 false (I Zv.g h)),(1,.box (ck c i (.own 2)))])) (encE:=(fun(o:List Zv)=>(xq 6 [(0,.ref 1 0),(1,.fn 87 [] [.ref 3 0]),(4,i64 b),(6,i64 e),(16,.is 22 (I Zm.g c.Measures)),(17,i64 (c.Measures.length:Int)),(18,i64 b),(24,.is 2 (I Zw.g a.Cells)),(25,i64 (a.Cells.length:Int)),(26,i64 e),(32,.is 2 (I Zo.g f.Voices)),(33,i64 (f.Voices.length:Int)),(34,i64 j)] [(6,.box (Zo.g m)),(5,.box (Zw.g f)),(4,.box (Zm.g a)),(3,.box [.ref 1 0]),(2,.lst 131 3 false (I Zv.g o)),(1,.box (ck c i (.own 2)))]))) (fun⟨l,h⟩=>?_) B64 (0,u)) fun o=>?_
 refine io ?_ (lf rfl)
 refine bo rg fun n=>?_
 refine bo (ok87 d (Zp.mk 4 0 e b j l 0) n (Zk.mk c i h)) fun v=>?_
 refine bo (okn63 (d+4) v n.ID h c i) fun y=>?_
 exact lf rfl
 exact lf rfl
 exact lf rfl
 exact lf rfl
 exact lf rfl
def Fn41 (a:List Zv) (b:Z0) (c:Int):Option (List Zv):=
 (Fn77_3 a b c).bind fun d=>some d
theorem okn41 {k} (d) (c:List Zv) (a:Z0) (b:Int):runR (XD k (d+7)) 41 [.ref 1 0] [(2,.lst 131 3 false (I Zv.g c)),(1,.box (ck a b (.own 2)))] 3 false=(Fn41 c a b).map (fun(e:List Zv)=>((.tup [],[(2,.lst 131 3 false (I Zv.g e)),(1,.box (ck a b (.own 2)))],0))):=by
 rw[xd (fn:=p41) rfl]
 refine bo (okn77_3 d c a b) fun f=>?_
 exact lf rfl
def F149 (a:Ze) (b:Int):Option Bool:=
 ((if decide (b>=(a.Lyrics.length:Int))then some true else(lget a.Lyrics b).bind fun c=>some (((c.Text==(⟨#[]⟩:ByteArray))&&((c.Link==0)&&true))!=false):Option (Bool))).bind fun d=>some d
theorem ok149 {k} (d) (a:Ze) (b:Int):OD k (d+1) 149 [.agg (Ze.g a),i64 b]=(F149 a b).map (fun c=>bv c):=by
 rw[od (fn:=p149) rfl rfl rfl]
 refine bz lm ?_
 refine bo (e:=id) ?_ fun h=>?_
 refine io (lf rfl) ?_
 refine bo rg fun f=>?_
 exact lf rfl
 exact lf rfl
def Fn92 (v P U:Int) (W:List (Zp×Bool)) (X:List Zv) (V:Z0) (Y:Int):Option (List (Zp×Bool)):=
 (aO (E:=Int×Int×Int×Int×Int×Zy×(List (Zp×Bool))) (fun(⟨e,n,o,p,q,r,s,t⟩:Int×Int×Int×Int×Int×Int×Zy×(List (Zp×Bool)))=>if decide (e<(V.Measures.length:Int))then(lget V.Measures e).bind fun u=>((if decide (v>=(u.Cells.length:Int))then some true else(lget u.Cells v).bind fun R=>some (decide (P>=(R.Voices.length:Int))):Option (Bool))).bind fun S=>if S then some (.inl ((w64 (e+1)),n,o,p,q,r,s,t))else(lget u.Cells v).bind fun T=>(lget T.Voices P).bind fun O=>(aO (E:=Int×Int×Int×Int×Int×Zy×(List (Zp×Bool))) (fun(⟨a,f,g,h,i,j,b,c⟩:Int×Int×Int×Int×Int×Int×Zy×(List (Zp×Bool)))=>if decide (a<(O.Events.length:Int))then(lget O.Events a).bind fun k=>(F149 k U).bind fun w=>if w then some (.inl ((w64 (a+1)),f,g,h,i,j,b,c))else(lget k.Lyrics U).bind fun d=>((if(b.Link==1)&&(d.Text.toList==(⟨#[]⟩:ByteArray).toList)then some (mput c (Zp.mk f 0 g h i j 0) true)else some c:Option (List (Zp×Bool)))).bind fun l=>((if((d.Text.toList==(⟨#[]⟩:ByteArray).toList)&&(d.Link==2))&&(b.Link !=2)then some (mput l (Zp.mk 4 0 v e P a 0) true)else some l:Option (List (Zp×Bool)))).bind fun x=>some (.inl ((w64 (a+1)),4,v,e,P,a,d,x))else some (.inr (f,g,h,i,j,b,c))) B64 (0,n,o,p,q,r,s,t)).bind fun⟨y,z,A,B,C,D,F⟩=>some (.inl ((w64 (e+1)),y,z,A,B,C,D,F))else some (.inr (n,o,p,q,r,s,t))) B64 (0,0,0,0,0,0,(Zy.mk (⟨#[]⟩:ByteArray) 0),W)).bind fun⟨G,H,J,K,L,M,m⟩=>((if M.Link==1 then some (mput m (Zp.mk G 0 H J K L 0) true)else some m:Option (List (Zp×Bool)))).bind fun N=>some N
theorem okn92 {k} (d) (y z O:Int) (Z:List (Zp×Bool)) (A:List Zv) (c:Z0) (B:Int):runR (XD k (d+2)) 92 [.ref 1 0,i64 y,i64 z,i64 O,.map 3] [(3,.mp (I (mEnt (eA Zp.g) bv) Z)),(2,.lst 131 3 false (I Zv.g A)),(1,.box (ck c B (.own 2)))] 4 false=(Fn92 y z O Z A c B).map (fun(Y:List (Zp×Bool))=>((.tup [],[(3,.mp (I (mEnt (eA Zp.g) bv) Y)),(2,.lst 131 3 false (I Zv.g A)),(1,.box (ck c B (.own 2)))],0))):=by
 rw[xd (fn:=p92) rfl]
 refine bz lm ?_
 refine bo (aI (S:=Int×Int×Int×Int×Int×Int×Zy×(List (Zp×Bool))) (enc:=fun⟨a,P,R,T,U,V,W,X⟩=>(Q [(1,i64 y),(2,i64 z),(3,i64 O),(4,.map 3),(10,.ref 4 0),(11,.ref 5 0),(22,.is 22 (I Zm.g c.Measures)),(23,i64 (c.Measures.length:Int)),(24,i64 a)] [(5,.box [i64 P,i64 0,i64 R,i64 T,i64 U,i64 V,i64 0]),(4,.box (Zy.g W)),(3,.mp (I (mEnt (eA Zp.g) bv) X)),(2,.lst 131 3 false (I Zv.g A)),(1,.box (ck c B (.own 2)))])) (encE:=(fun(⟨n,o,p,q,r,w,x⟩:Int×Int×Int×Int×Int×Zy×(List (Zp×Bool)))=>(xq 0 [(4,.map 3),(10,.ref 4 0),(11,.ref 5 0)] [(5,.box [i64 n,i64 0,i64 o,i64 p,i64 q,i64 r,i64 0]),(4,.box (Zy.g w)),(3,.mp (I (mEnt (eA Zp.g) bv) x)),(2,.lst 131 3 false (I Zv.g A)),(1,.box (ck c B (.own 2)))]))) (fun⟨a,P,R,T,U,V,W,X⟩=>?_) B64 (0,0,0,0,0,0,(Zy.mk (⟨#[]⟩:ByteArray) 0),Z)) fun⟨n,o,p,q,r,w,x⟩=>?_
 refine io ?_ (lf rfl)
 refine bo rg fun C=>?_
 refine bz lm ?_
 refine bo (e:=id) ?_ fun b4=>?_
 refine io (lf rfl) ?_
 refine bo rg fun b0=>?_
 refine bz lm ?_
 exact lf rfl
 refine io (lf rfl) ?_
 refine bo rg fun b5=>?_
 refine bo rg fun s=>?_
 refine bz lm ?_
 refine bo (aI (S:=Int×Int×Int×Int×Int×Int×Zy×(List (Zp×Bool))) (enc:=fun⟨b,f,h,i,j,l,m,t⟩=>(Q [(1,i64 y),(2,i64 z),(3,i64 O),(4,.map 3),(10,.ref 4 0),(11,.ref 5 0),(12,i64 a),(22,.is 22 (I Zm.g c.Measures)),(23,i64 (c.Measures.length:Int)),(24,i64 a),(54,.is 13 (I Ze.g s.Events)),(55,i64 (s.Events.length:Int)),(56,i64 b)] [(6,.box (Zm.g C)),(5,.box [i64 f,i64 0,i64 h,i64 i,i64 j,i64 l,i64 0]),(4,.box (Zy.g m)),(3,.mp (I (mEnt (eA Zp.g) bv) t)),(2,.lst 131 3 false (I Zv.g A)),(1,.box (ck c B (.own 2)))])) (encE:=(fun(⟨F,G,H,J,K,L,M⟩:Int×Int×Int×Int×Int×Zy×(List (Zp×Bool)))=>(xq 2 [(1,i64 y),(2,i64 z),(3,i64 O),(4,.map 3),(10,.ref 4 0),(11,.ref 5 0),(22,.is 22 (I Zm.g c.Measures)),(23,i64 (c.Measures.length:Int)),(24,i64 a)] [(6,.box (Zm.g C)),(5,.box [i64 F,i64 0,i64 G,i64 H,i64 J,i64 K,i64 0]),(4,.box (Zy.g L)),(3,.mp (I (mEnt (eA Zp.g) bv) M)),(2,.lst 131 3 false (I Zv.g A)),(1,.box (ck c B (.own 2)))]))) (fun⟨b,f,h,i,j,l,m,t⟩=>?_) B64 (0,P,R,T,U,V,W,X)) fun⟨F,G,H,J,K,L,M⟩=>?_
 refine io ?_ (lf rfl)
 refine bo rg fun u=>?_
 refine bo (ok149 d u O) fun a0=>?_
 refine io (lf rfl) ?_
 refine bo rg fun D=>?_
 refine bz (gand rfl) ?_
 refine bo (e:=(fun(v:List (Zp×Bool))=>(nq [(1,i64 y),(2,i64 z),(3,i64 O),(4,.map 3),(10,.ref 4 0),(11,.ref 5 0),(12,i64 a),(16,.ref 8 0),(17,.ref 9 0),(22,.is 22 (I Zm.g c.Measures)),(23,i64 (c.Measures.length:Int)),(24,i64 a),(54,.is 13 (I Ze.g s.Events)),(55,i64 (s.Events.length:Int)),(56,i64 b)] [(9,.box (Zy.g D)),(8,.box [i64 4,i64 0,i64 y,i64 a,i64 z,i64 b,i64 0]),(7,.box (Ze.g u)),(6,.box (Zm.g C)),(5,.box [i64 f,i64 0,i64 h,i64 i,i64 j,i64 l,i64 0]),(4,.box (Zy.g m)),(3,.mp (I (mEnt (eA Zp.g) bv) v)),(2,.lst 131 3 false (I Zv.g A)),(1,.box (ck c B (.own 2)))]))) ?_ fun v=>?_
 refine io ?_ (lf rfl)
 refine bz (iQ dR bv t (Zp.mk f 0 h i j l 0) true) ?_
 exact lf rfl
 refine bz (gand rfl) ?_
 refine bz (gand rfl) ?_
 refine bo (e:=(fun(E:List (Zp×Bool))=>(nq [(1,i64 y),(2,i64 z),(3,i64 O),(4,.map 3),(10,.ref 4 0),(11,.ref 5 0),(12,i64 a),(16,.ref 8 0),(17,.ref 9 0),(22,.is 22 (I Zm.g c.Measures)),(23,i64 (c.Measures.length:Int)),(24,i64 a),(54,.is 13 (I Ze.g s.Events)),(55,i64 (s.Events.length:Int)),(56,i64 b)] [(9,.box (Zy.g D)),(8,.box [i64 4,i64 0,i64 y,i64 a,i64 z,i64 b,i64 0]),(7,.box (Ze.g u)),(6,.box (Zm.g C)),(5,.box [i64 f,i64 0,i64 h,i64 i,i64 j,i64 l,i64 0]),(4,.box (Zy.g m)),(3,.mp (I (mEnt (eA Zp.g) bv) E)),(2,.lst 131 3 false (I Zv.g A)),(1,.box (ck c B (.own 2)))]))) ?_ fun E=>?_
 refine io ?_ (lf rfl)
 refine bz (iQ dR bv v (Zp.mk 4 0 y a z b 0) true) ?_
 exact lf rfl
 exact lf rfl
 exact lf rfl
 refine bo (e:=(fun(N:List (Zp×Bool))=>(nq [] [(5,.box [i64 n,i64 0,i64 o,i64 p,i64 q,i64 r,i64 0]),(4,.box (Zy.g w)),(3,.mp (I (mEnt (eA Zp.g) bv) N)),(2,.lst 131 3 false (I Zv.g A)),(1,.box (ck c B (.own 2)))]))) ?_ fun N=>?_
 refine io ?_ (lf rfl)
 refine bz (iQ dR bv x (Zp.mk n 0 o p q r 0) true) ?_
 exact lf rfl
 exact lf rfl
def F93 (a:Zp) (c:Ze) (b:List (Zp×Bool)):Option Bool:=
 some (mget b a false)
theorem ok93 {k} (d) (a:Zp) (c:Ze) (b:List (Zp×Bool)):OD k (d+1) 93 [.agg (Zp.g a),.agg (Ze.g c),.ip [.im (I (mEnt (eA Zp.g) bv) b)]]=(F93 a c b).map (fun e=>bv e):=by
 rw[od (fn:=p93) rfl rfl rfl]
 refine bz (pZ dR bv b a false) ?_
 exact lf rfl
def Fn77_4 (t:List (Zp×Bool)) (u:List Zv) (s:Z0) (v:Int):Option (List Zv):=
 (aO (E:=List Zv) (fun(⟨b,m⟩:Int×(List Zv))=>if decide (b<(s.Measures.length:Int))then(lget s.Measures b).bind fun n=>(aO (E:=List Zv) (fun(⟨c,o⟩:Int×(List Zv))=>if decide (c<(n.Cells.length:Int))then(lget n.Cells c).bind fun p=>(aO (E:=List Zv) (fun(⟨d,q⟩:Int×(List Zv))=>if decide (d<(p.Voices.length:Int))then(lget p.Voices d).bind fun r=>(aO (E:=List Zv) (fun(⟨a,e⟩:Int×(List Zv))=>if decide (a<(r.Events.length:Int))then(lget r.Events a).bind fun f=>(F93 (Zp.mk 4 0 c b d a 0) f t).bind fun g=>(Fn63 g f.ID e s v).bind fun h=>some (.inl ((w64 (a+1)),h))else some (.inr e)) B64 (0,q)).bind fun i=>some (.inl ((w64 (d+1)),i))else some (.inr q)) B64 (0,o)).bind fun j=>some (.inl ((w64 (c+1)),j))else some (.inr o)) B64 (0,m)).bind fun k=>some (.inl ((w64 (b+1)),k))else some (.inr m)) B64 (0,u)).bind fun l=>some l
theorem okn77_4 {k} (d) (i:List (Zp×Bool)) (y:List Zv) (c:Z0) (j:Int):runR (XD k (d+2)) 77 [.ref 1 0,.fn 93 [] [.ref 4 0]] [(4,.box [.map 3]),(3,.mp (I (mEnt (eA Zp.g) bv) i)),(2,.lst 131 3 false (I Zv.g y)),(1,.box (ck c j (.own 2)))] 5 false=(Fn77_4 i y c j).map (fun(x:List Zv)=>((.tup [],[(4,.box [.map 3]),(3,.mp (I (mEnt (eA Zp.g) bv) i)),(2,.lst 131 3 false (I Zv.g x)),(1,.box (ck c j (.own 2)))],0))):=by
 rw[xd (fn:=p77) rfl]
 refine bz lm ?_
 refine bo (aI (S:=Int×(List Zv)) (enc:=fun⟨b,t⟩=>(Q [(0,.ref 1 0),(1,.fn 93 [] [.ref 4 0]),(16,.is 22 (I Zm.g c.Measures)),(17,i64 (c.Measures.length:Int)),(18,i64 b)] [(4,.box [.map 3]),(3,.mp (I (mEnt (eA Zp.g) bv) i)),(2,.lst 131 3 false (I Zv.g t)),(1,.box (ck c j (.own 2)))])) (encE:=(fun(s:List Zv)=>(xq 0 [] [(4,.box [.map 3]),(3,.mp (I (mEnt (eA Zp.g) bv) i)),(2,.lst 131 3 false (I Zv.g s)),(1,.box (ck c j (.own 2)))]))) (fun⟨b,t⟩=>?_) B64 (0,y)) fun s=>?_
 refine io ?_ (lf rfl)
 refine bo rg fun a=>?_
 refine bz lm ?_
 refine bo (aI (S:=Int×(List Zv)) (enc:=fun⟨e,u⟩=>(Q [(0,.ref 1 0),(1,.fn 93 [] [.ref 4 0]),(4,i64 b),(16,.is 22 (I Zm.g c.Measures)),(17,i64 (c.Measures.length:Int)),(18,i64 b),(24,.is 2 (I Zw.g a.Cells)),(25,i64 (a.Cells.length:Int)),(26,i64 e)] [(5,.box (Zm.g a)),(4,.box [.map 3]),(3,.mp (I (mEnt (eA Zp.g) bv) i)),(2,.lst 131 3 false (I Zv.g u)),(1,.box (ck c j (.own 2)))])) (encE:=(fun(r:List Zv)=>(xq 2 [(0,.ref 1 0),(1,.fn 93 [] [.ref 4 0]),(16,.is 22 (I Zm.g c.Measures)),(17,i64 (c.Measures.length:Int)),(18,i64 b)] [(5,.box (Zm.g a)),(4,.box [.map 3]),(3,.mp (I (mEnt (eA Zp.g) bv) i)),(2,.lst 131 3 false (I Zv.g r)),(1,.box (ck c j (.own 2)))]))) (fun⟨e,u⟩=>?_) B64 (0,t)) fun r=>?_
 refine io ?_ (lf rfl)
 refine bo rg fun f=>?_
 refine bz lm ?_
 refine bo (aI (S:=Int×(List Zv)) (enc:=fun⟨h,v⟩=>(Q [(0,.ref 1 0),(1,.fn 93 [] [.ref 4 0]),(4,i64 b),(6,i64 e),(16,.is 22 (I Zm.g c.Measures)),(17,i64 (c.Measures.length:Int)),(18,i64 b),(24,.is 2 (I Zw.g a.Cells)),(25,i64 (a.Cells.length:Int)),(26,i64 e),(32,.is 2 (I Zo.g f.Voices)),(33,i64 (f.Voices.length:Int)),(34,i64 h)] [(6,.box (Zw.g f)),(5,.box (Zm.g a)),(4,.box [.map 3]),(3,.mp (I (mEnt (eA Zp.g) bv) i)),(2,.lst 131 3 false (I Zv.g v)),(1,.box (ck c j (.own 2)))])) (encE:=(fun(q:List Zv)=>(xq 4 [(0,.ref 1 0),(1,.fn 93 [] [.ref 4 0]),(4,i64 b),(16,.is 22 (I Zm.g c.Measures)),(17,i64 (c.Measures.length:Int)),(18,i64 b),(24,.is 2 (I Zw.g a.Cells)),(25,i64 (a.Cells.length:Int)),(26,i64 e)] [(6,.box (Zw.g f)),(5,.box (Zm.g a)),(4,.box [.map 3]),(3,.mp (I (mEnt (eA Zp.g) bv) i)),(2,.lst 131 3 false (I Zv.g q)),(1,.box (ck c j (.own 2)))]))) (fun⟨h,v⟩=>?_) B64 (0,u)) fun q=>?_
 refine io ?_ (lf rfl)
 refine bo rg fun n=>?_
 refine bz lm ?_
 refine bo (aI (S:=Int×(List Zv)) (enc:=fun⟨l,m⟩=>(Q [(0,.ref 1 0),(1,.fn 93 [] [.ref 4 0]),(4,i64 b),(6,i64 e),(8,i64 h),(16,.is 22 (I Zm.g c.Measures)),(17,i64 (c.Measures.length:Int)),(18,i64 b),(24,.is 2 (I Zw.g a.Cells)),(25,i64 (a.Cells.length:Int)),(26,i64 e),(32,.is 2 (I Zo.g f.Voices)),(33,i64 (f.Voices.length:Int)),(34,i64 h),(40,.is 13 (I Ze.g n.Events)),(41,i64 (n.Events.length:Int)),(42,i64 l)] [(7,.box (Zo.g n)),(6,.box (Zw.g f)),(5,.box (Zm.g a)),(4,.box [.map 3]),(3,.mp (I (mEnt (eA Zp.g) bv) i)),(2,.lst 131 3 false (I Zv.g m)),(1,.box (ck c j (.own 2)))])) (encE:=(fun(p:List Zv)=>(xq 6 [(0,.ref 1 0),(1,.fn 93 [] [.ref 4 0]),(4,i64 b),(6,i64 e),(16,.is 22 (I Zm.g c.Measures)),(17,i64 (c.Measures.length:Int)),(18,i64 b),(24,.is 2 (I Zw.g a.Cells)),(25,i64 (a.Cells.length:Int)),(26,i64 e),(32,.is 2 (I Zo.g f.Voices)),(33,i64 (f.Voices.length:Int)),(34,i64 h)] [(7,.box (Zo.g n)),(6,.box (Zw.g f)),(5,.box (Zm.g a)),(4,.box [.map 3]),(3,.mp (I (mEnt (eA Zp.g) bv) i)),(2,.lst 131 3 false (I Zv.g p)),(1,.box (ck c j (.own 2)))]))) (fun⟨l,m⟩=>?_) B64 (0,v)) fun p=>?_
 refine io ?_ (lf rfl)
 refine bo rg fun o=>?_
 refine bo (ok93 d (Zp.mk 4 0 e b h l 0) o i) fun w=>?_
 refine bo (okn63 d w o.ID m c j) fun z=>?_
 exact lf rfl
 exact lf rfl
 exact lf rfl
 exact lf rfl
 exact lf rfl
def Fn42 (m:List Zv) (g:Z0) (n:Int):Option (List Zv):=
 (F25 g).bind fun o=>(aO (E:=List (Zp×Bool)) (fun(⟨a,d⟩:Int×(List (Zp×Bool)))=>if decide (a<o)then(aO (E:=List (Zp×Bool)) (fun(⟨b,e⟩:Int×(List (Zp×Bool)))=>if decide (b<2)then(aO (E:=List (Zp×Bool)) (fun(⟨c,f⟩:Int×(List (Zp×Bool)))=>if decide (c<4)then(Fn92 a b c f m g n).bind fun h=>some (.inl ((w64 (c+1)),h))else some (.inr f)) B64 (0,e)).bind fun i=>some (.inl ((w64 (b+1)),i))else some (.inr e)) B64 (0,d)).bind fun j=>some (.inl ((w64 (a+1)),j))else some (.inr d)) B64 (0,[])).bind fun k=>(Fn77_4 k m g n).bind fun l=>some l
theorem okn42 {k} (d) (f:List Zv) (c:Z0) (e:Int):runR (XD k (d+3)) 42 [.ref 1 0] [(2,.lst 131 3 false (I Zv.g f)),(1,.box (ck c e (.own 2)))] 3 false=(Fn42 f c e).map (fun(q:List Zv)=>((.tup [],[(2,.lst 131 3 false (I Zv.g q)),(1,.box (ck c e (.own 2)))],0))):=by
 rw[xd (fn:=p42) rfl]
 refine bo (ok25 (d+1) c) fun p=>?_
 refine bo (aI (S:=Int×(List (Zp×Bool))) (enc:=fun⟨a,h⟩=>(Q [(0,.ref 1 0),(2,.ref 4 0),(13,i64 p),(14,i64 a)] [(4,.box [.map 3]),(3,.mp (I (mEnt (eA Zp.g) bv) h)),(2,.lst 131 3 false (I Zv.g f)),(1,.box (ck c e (.own 2)))])) (encE:=(fun(m:List (Zp×Bool))=>(xq 0 [(0,.ref 1 0),(2,.ref 4 0)] [(4,.box [.map 3]),(3,.mp (I (mEnt (eA Zp.g) bv) m)),(2,.lst 131 3 false (I Zv.g f)),(1,.box (ck c e (.own 2)))]))) (fun⟨a,h⟩=>?_) B64 (0,[])) fun m=>?_
 refine io ?_ (lf rfl)
 refine bo (aI (S:=Int×(List (Zp×Bool))) (enc:=fun⟨b,i⟩=>(Q [(0,.ref 1 0),(2,.ref 4 0),(4,i64 a),(13,i64 p),(14,i64 a),(17,i64 b)] [(4,.box [.map 3]),(3,.mp (I (mEnt (eA Zp.g) bv) i)),(2,.lst 131 3 false (I Zv.g f)),(1,.box (ck c e (.own 2)))])) (encE:=(fun(o:List (Zp×Bool))=>(xq 2 [(0,.ref 1 0),(2,.ref 4 0),(13,i64 p),(14,i64 a)] [(4,.box [.map 3]),(3,.mp (I (mEnt (eA Zp.g) bv) o)),(2,.lst 131 3 false (I Zv.g f)),(1,.box (ck c e (.own 2)))]))) (fun⟨b,i⟩=>?_) B64 (0,h)) fun o=>?_
 refine io ?_ (lf rfl)
 refine bo (aI (S:=Int×(List (Zp×Bool))) (enc:=fun⟨j,l⟩=>(Q [(0,.ref 1 0),(2,.ref 4 0),(4,i64 a),(5,i64 b),(13,i64 p),(14,i64 a),(17,i64 b),(20,i64 j)] [(4,.box [.map 3]),(3,.mp (I (mEnt (eA Zp.g) bv) l)),(2,.lst 131 3 false (I Zv.g f)),(1,.box (ck c e (.own 2)))])) (encE:=(fun(n:List (Zp×Bool))=>(xq 4 [(0,.ref 1 0),(2,.ref 4 0),(4,i64 a),(13,i64 p),(14,i64 a),(17,i64 b)] [(4,.box [.map 3]),(3,.mp (I (mEnt (eA Zp.g) bv) n)),(2,.lst 131 3 false (I Zv.g f)),(1,.box (ck c e (.own 2)))]))) (fun⟨j,l⟩=>?_) B64 (0,i)) fun n=>?_
 refine io ?_ (lf rfl)
 refine bo (okn92 d a b j l f c e) fun r=>?_
 exact lf rfl
 exact lf rfl
 exact lf rfl
 refine bo (okn77_4 d m f c e) fun s=>?_
 exact lf rfl
def Fn121_2 (a:Z0):Option Unit:=
 some ()
theorem okn121_2 {k} (d) (a:Z0):runR (XD k (d+1)) 121 [.ref 0 0] [(0,.box (Z0.g a))] 4 true=(Fn121_2 a).map (fun(_:Unit)=>((.fn 170 [] [.ref 4 0],[(4,.box [.ref 0 0]),(0,.box (Z0.g a))],5))):=by
 rw[xd (fn:=p121) rfl]
 exact lf rfl
def Fy186_13 (d e:Int) (f g:Int) (h i j:Int) (b:Zj) (k:Bool) (c:Zp) (a:Zz):Option (Unit⊕Unit):=
 if((b.ID.Site==a.Site)&&((b.ID.Number==a.Number)&&true))!=false then some (.inl ())else some (.inr ())
theorem oky186_13 {k} (d) (c e:Int) (f h:Int) (i j l:Int) (n:Zj) (m:Bool) (b:Zp) (a:Zz):yldR (XD k (d+1)) 5 [.agg [i64 c,i64 e,i64 f,i64 h,i64 i,i64 j,i64 l],.ip (Zj.g n)] [(5,.loop 22 [(3,.ref 1 0),(4,.ref 2 0),(5,.ref 3 0)] [13,14] q186_13a q186_13b false none),(3,.box [bv m]),(2,.box (Zp.g b)),(1,.box (Zz.g a))] 6=(Fy186_13 c e f h i j l n m b a).map (fun|.inl _=>((bv false,[(5,.loop 22 [(3,.ref 1 0),(4,.ref 2 0),(5,.ref 3 0)] [13,14] q186_13a q186_13b false (some .ret)),(3,.box [bv true]),(2,.box [i64 c,i64 e,i64 f,i64 h,i64 i,i64 j,i64 l]),(1,.box (Zz.g a))],0))|.inr _=>((bv true,[(5,.loop 22 [(3,.ref 1 0),(4,.ref 2 0),(5,.ref 3 0)] [13,14] q186_13a q186_13b false none),(3,.box [bv m]),(2,.box (Zp.g b)),(1,.box (Zz.g a))],0))):=by
 rw[yd]
 refine bz (okg fY) ?_
 refine io (lf rfl) (lf rfl)
def Fy186_13_2 (d e:Int) (f g:Int) (h i j:Int) (b:Zf) (k:Bool) (c:Zp) (a:Zz):Option (Unit⊕Unit):=
 if((b.ID.Site==a.Site)&&((b.ID.Number==a.Number)&&true))!=false then some (.inl ())else some (.inr ())
theorem oky186_13_2 {k} (d) (c e:Int) (f h:Int) (i j l:Int) (n:Zf) (m:Bool) (b:Zp) (a:Zz):yldR (XD k (d+1)) 5 [.agg [i64 c,i64 e,i64 f,i64 h,i64 i,i64 j,i64 l],.ip (Zf.g n)] [(5,.loop 22 [(3,.ref 1 0),(4,.ref 2 0),(5,.ref 3 0)] [13,14] q186_13a q186_13b false none),(3,.box [bv m]),(2,.box (Zp.g b)),(1,.box (Zz.g a))] 6=(Fy186_13_2 c e f h i j l n m b a).map (fun|.inl _=>((bv false,[(5,.loop 22 [(3,.ref 1 0),(4,.ref 2 0),(5,.ref 3 0)] [13,14] q186_13a q186_13b false (some .ret)),(3,.box [bv true]),(2,.box [i64 c,i64 e,i64 f,i64 h,i64 i,i64 j,i64 l]),(1,.box (Zz.g a))],0))|.inr _=>((bv true,[(5,.loop 22 [(3,.ref 1 0),(4,.ref 2 0),(5,.ref 3 0)] [13,14] q186_13a q186_13b false none),(3,.box [bv m]),(2,.box (Zp.g b)),(1,.box (Zz.g a))],0))):=by
 rw[yd]
 refine bz (okg fY) ?_
 refine io (lf rfl) (lf rfl)
def Fy186_13_3 (d e:Int) (f g:Int) (h i j:Int) (b:Zm) (k:Bool) (c:Zp) (a:Zz):Option (Unit⊕Unit):=
 if((b.ID.Site==a.Site)&&((b.ID.Number==a.Number)&&true))!=false then some (.inl ())else some (.inr ())
theorem oky186_13_3 {k} (d) (c e:Int) (f h:Int) (i j l:Int) (n:Zm) (m:Bool) (b:Zp) (a:Zz):yldR (XD k (d+1)) 5 [.agg [i64 c,i64 e,i64 f,i64 h,i64 i,i64 j,i64 l],.ip (Zm.g n)] [(5,.loop 22 [(3,.ref 1 0),(4,.ref 2 0),(5,.ref 3 0)] [13,14] q186_13a q186_13b false none),(3,.box [bv m]),(2,.box (Zp.g b)),(1,.box (Zz.g a))] 6=(Fy186_13_3 c e f h i j l n m b a).map (fun|.inl _=>((bv false,[(5,.loop 22 [(3,.ref 1 0),(4,.ref 2 0),(5,.ref 3 0)] [13,14] q186_13a q186_13b false (some .ret)),(3,.box [bv true]),(2,.box [i64 c,i64 e,i64 f,i64 h,i64 i,i64 j,i64 l]),(1,.box (Zz.g a))],0))|.inr _=>((bv true,[(5,.loop 22 [(3,.ref 1 0),(4,.ref 2 0),(5,.ref 3 0)] [13,14] q186_13a q186_13b false none),(3,.box [bv m]),(2,.box (Zp.g b)),(1,.box (Zz.g a))],0))):=by
 rw[yd]
 refine bz (okg fY) ?_
 refine io (lf rfl) (lf rfl)
def Fy186_13_4 (d e:Int) (f g:Int) (h i j:Int) (b:Ze) (k:Bool) (c:Zp) (a:Zz):Option (Unit⊕Unit):=
 if((b.ID.Site==a.Site)&&((b.ID.Number==a.Number)&&true))!=false then some (.inl ())else some (.inr ())
theorem oky186_13_4 {k} (d) (c e:Int) (f h:Int) (i j l:Int) (n:Ze) (m:Bool) (b:Zp) (a:Zz):yldR (XD k (d+1)) 5 [.agg [i64 c,i64 e,i64 f,i64 h,i64 i,i64 j,i64 l],.ip (Ze.g n)] [(5,.loop 22 [(3,.ref 1 0),(4,.ref 2 0),(5,.ref 3 0)] [13,14] q186_13a q186_13b false none),(3,.box [bv m]),(2,.box (Zp.g b)),(1,.box (Zz.g a))] 6=(Fy186_13_4 c e f h i j l n m b a).map (fun|.inl _=>((bv false,[(5,.loop 22 [(3,.ref 1 0),(4,.ref 2 0),(5,.ref 3 0)] [13,14] q186_13a q186_13b false (some .ret)),(3,.box [bv true]),(2,.box [i64 c,i64 e,i64 f,i64 h,i64 i,i64 j,i64 l]),(1,.box (Zz.g a))],0))|.inr _=>((bv true,[(5,.loop 22 [(3,.ref 1 0),(4,.ref 2 0),(5,.ref 3 0)] [13,14] q186_13a q186_13b false none),(3,.box [bv m]),(2,.box (Zp.g b)),(1,.box (Zz.g a))],0))):=by
 rw[yd]
 refine bz (okg fY) ?_
 refine io (lf rfl) (lf rfl)
def Fy186_13_5 (d e:Int) (f g:Int) (h i j:Int) (b:Zn) (k:Bool) (c:Zp) (a:Zz):Option (Unit⊕Unit):=
 if((b.ID.Site==a.Site)&&((b.ID.Number==a.Number)&&true))!=false then some (.inl ())else some (.inr ())
theorem oky186_13_5 {k} (d) (c e:Int) (f h:Int) (i j l:Int) (n:Zn) (m:Bool) (b:Zp) (a:Zz):yldR (XD k (d+1)) 5 [.agg [i64 c,i64 e,i64 f,i64 h,i64 i,i64 j,i64 l],.ip (Zn.g n)] [(5,.loop 22 [(3,.ref 1 0),(4,.ref 2 0),(5,.ref 3 0)] [13,14] q186_13a q186_13b false none),(3,.box [bv m]),(2,.box (Zp.g b)),(1,.box (Zz.g a))] 6=(Fy186_13_5 c e f h i j l n m b a).map (fun|.inl _=>((bv false,[(5,.loop 22 [(3,.ref 1 0),(4,.ref 2 0),(5,.ref 3 0)] [13,14] q186_13a q186_13b false (some .ret)),(3,.box [bv true]),(2,.box [i64 c,i64 e,i64 f,i64 h,i64 i,i64 j,i64 l]),(1,.box (Zz.g a))],0))|.inr _=>((bv true,[(5,.loop 22 [(3,.ref 1 0),(4,.ref 2 0),(5,.ref 3 0)] [13,14] q186_13a q186_13b false none),(3,.box [bv m]),(2,.box (Zp.g b)),(1,.box (Zz.g a))],0))):=by
 rw[yd]
 refine bz (okg fY) ?_
 refine io (lf rfl) (lf rfl)
def Fn170_2 (g:Z0) (v:Bool) (F:Zp) (G:Zz):Option (Zp⊕Unit):=
 (aO (E:=(Int×Int×Int)⊕Unit) (fun(⟨H,f⟩:Int×Int)=>if decide (f<(g.Parts.length:Int))then(lget g.Parts f).bind fun J=>(Fy186_13 1 f 0 0 0 0 0 J v F G).bind fun K=>(match K with|.inl _=>some (.inr (.inl (1,f,0)))|.inr _=>(lget g.Parts f).bind fun L=>(aO (E:=(Int×Int)⊕Int) (fun(⟨h,i⟩:Int×Int)=>if decide (i<(L.Staves.length:Int))then(lget g.Parts f).bind fun M=>(lget M.Staves i).bind fun N=>(Fy186_13_2 2 0 h 0 0 0 0 N v F G).bind fun O=>(match O with|.inl _=>some (.inr (.inl (h,h)))|.inr _=>some (.inl ((w64 (h+1)),(w64 (i+1)))))else some (.inr (.inr h))) B64 (H,0)).bind fun P=>(match P with|.inl ⟨x33,x34⟩=>some (.inr (.inl (2,0,x34)))|.inr x35=>some (.inl (x35,(w64 (f+1))))))else some (.inr (.inr ()))) B64 (0,0)).bind fun R=>(match R with|.inl ⟨x37,x38,x39⟩=>some (.inl (Zp.mk x37 x38 x39 0 0 0 0))|.inr _=>(aO (E:=(Int×Int×Int×Int×Int)⊕Unit) (fun(a:Int)=>if decide (a<(g.Measures.length:Int))then(lget g.Measures a).bind fun j=>(Fy186_13_3 3 0 0 a 0 0 0 j v F G).bind fun k=>(match k with|.inl _=>some (.inr (.inl (3,0,a,0,0)))|.inr _=>(lget g.Measures a).bind fun l=>(aO (E:=(Int×Int×Int)⊕Unit) (fun(b:Int)=>if decide (b<(l.Cells.length:Int))then(lget g.Measures a).bind fun m=>(lget m.Cells b).bind fun n=>(aO (E:=(Int×Int)⊕Unit) (fun(c:Int)=>if decide (c<(n.Voices.length:Int))then(lget g.Measures a).bind fun o=>(lget o.Cells b).bind fun p=>(lget p.Voices c).bind fun q=>(aO (E:=Int⊕Unit) (fun(d:Int)=>if decide (d<(q.Events.length:Int))then(lget g.Measures a).bind fun r=>(lget r.Cells b).bind fun s=>(lget s.Voices c).bind fun t=>(lget t.Events d).bind fun u=>(Fy186_13_4 4 0 b a c d 0 u v F G).bind fun w=>(match w with|.inl _=>some (.inr (.inl d))|.inr _=>some (.inl (w64 (d+1))))else some (.inr (.inr ()))) B64 0).bind fun x=>(match x with|.inl x201=>some (.inr (.inl (c,x201)))|.inr _=>some (.inl (w64 (c+1))))else some (.inr (.inr ()))) B64 0).bind fun y=>(match y with|.inl ⟨x203,x204⟩=>some (.inr (.inl (b,x203,x204)))|.inr _=>some (.inl (w64 (b+1))))else some (.inr (.inr ()))) B64 0).bind fun z=>(match z with|.inl ⟨x206,x207,x208⟩=>some (.inr (.inl (4,x206,a,x207,x208)))|.inr _=>some (.inl (w64 (a+1)))))else some (.inr (.inr ()))) B64 0).bind fun A=>(match A with|.inl ⟨x210,x211,x212,x213,x214⟩=>some (.inl (Zp.mk x210 0 x211 x212 x213 x214 0))|.inr _=>(aO (E:=Int⊕Unit) (fun(e:Int)=>if decide (e<(g.Spanners.length:Int))then(lget g.Spanners e).bind fun B=>(Fy186_13_5 5 0 0 0 0 0 e B v F G).bind fun C=>(match C with|.inl _=>some (.inr (.inl e))|.inr _=>some (.inl (w64 (e+1))))else some (.inr (.inr ()))) B64 0).bind fun D=>(match D with|.inl x221=>some (.inl (Zp.mk 5 0 0 0 0 0 x221))|.inr _=>some (.inr ()))))
theorem okn170_2 {k} (d) (c:Z0) (i:Bool) (j:Zp) (e:Zz):runR (XD k (d+2)) 170 [.yld 5,.ref 4 0] [(5,.loop 22 [(3,.ref 1 0),(4,.ref 2 0),(5,.ref 3 0)] [13,14] q186_13a q186_13b false none),(4,.box [.ref 0 0]),(0,.box (Z0.g c)),(3,.box [bv i]),(2,.box (Zp.g j)),(1,.box (Zz.g e))] 6 false=(Fn170_2 c i j e).map (fun|.inl x223=>((.tup [],[(5,.loop 22 [(3,.ref 1 0),(4,.ref 2 0),(5,.ref 3 0)] [13,14] q186_13a q186_13b false (some .ret)),(4,.box [.ref 0 0]),(0,.box (Z0.g c)),(3,.box [bv true]),(2,.box (Zp.g x223)),(1,.box (Zz.g e))],0))|.inr _=>((.tup [],[(5,.loop 22 [(3,.ref 1 0),(4,.ref 2 0),(5,.ref 3 0)] [13,14] q186_13a q186_13b false none),(4,.box [.ref 0 0]),(0,.box (Z0.g c)),(3,.box [bv i]),(2,.box (Zp.g j)),(1,.box (Zz.g e))],0))):=by
 rw[xd (fn:=p170) rfl]
 refine bz lm ?_
 refine bo (aI (S:=Int×Int) (enc:=fun⟨B,l⟩=>(Q [(0,.yld 5),(1,.ref 4 0),(3,i64 B),(15,i64 (c.Parts.length:Int)),(16,i64 l)] [(5,.loop 22 [(3,.ref 1 0),(4,.ref 2 0),(5,.ref 3 0)] [13,14] q186_13a q186_13b false none),(4,.box [.ref 0 0]),(0,.box (Z0.g c)),(3,.box [bv i]),(2,.box (Zp.g j)),(1,.box (Zz.g e))])) (encE:=(fun|.inl ⟨V,W,X⟩=>(rq [(0,.yld 5),(1,.ref 4 0)] [(5,.loop 22 [(3,.ref 1 0),(4,.ref 2 0),(5,.ref 3 0)] [13,14] q186_13a q186_13b false (some .ret)),(4,.box [.ref 0 0]),(0,.box (Z0.g c)),(3,.box [bv true]),(2,.box [i64 V,i64 W,i64 X,i64 0,i64 0,i64 0,i64 0]),(1,.box (Zz.g e))])|.inr _=>(xq 0 [(0,.yld 5),(1,.ref 4 0)] [(5,.loop 22 [(3,.ref 1 0),(4,.ref 2 0),(5,.ref 3 0)] [13,14] q186_13a q186_13b false none),(4,.box [.ref 0 0]),(0,.box (Z0.g c)),(3,.box [bv i]),(2,.box (Zp.g j)),(1,.box (Zz.g e))]))) (fun⟨B,l⟩=>?_) B64 (0,0)) fun b6=>?_
 refine io ?_ (lf rfl)
 refine bo rg fun Y=>?_
 refine bo (oky186_13 d 1 l 0 0 0 0 0 Y i j e) fun Z=>?_
 rcases Z with _|_
 exact lf rfl
 refine bo rg fun a0=>?_
 refine bz lm ?_
 refine bo (aI (S:=Int×Int) (enc:=fun⟨C,R⟩=>(Q [(0,.yld 5),(1,.ref 4 0),(3,i64 C),(4,i64 l),(15,i64 (c.Parts.length:Int)),(16,i64 l),(39,i64 (a0.Staves.length:Int)),(40,i64 R)] [(5,.loop 22 [(3,.ref 1 0),(4,.ref 2 0),(5,.ref 3 0)] [13,14] q186_13a q186_13b false none),(3,.box [bv i]),(2,.box (Zp.g j)),(1,.box (Zz.g e)),(4,.box [.ref 0 0]),(0,.box (Z0.g c))])) (encE:=(fun|.inl ⟨T,U⟩=>(rq [(0,.yld 5),(1,.ref 4 0),(3,i64 T),(15,i64 (c.Parts.length:Int)),(16,i64 l)] [(5,.loop 22 [(3,.ref 1 0),(4,.ref 2 0),(5,.ref 3 0)] [13,14] q186_13a q186_13b false (some .ret)),(3,.box [bv true]),(2,.box [i64 2,i64 0,i64 U,i64 0,i64 0,i64 0,i64 0]),(1,.box (Zz.g e)),(4,.box [.ref 0 0]),(0,.box (Z0.g c))])|.inr x35=>(xq 2 [(0,.yld 5),(1,.ref 4 0),(3,i64 x35),(15,i64 (c.Parts.length:Int)),(16,i64 l)] [(5,.loop 22 [(3,.ref 1 0),(4,.ref 2 0),(5,.ref 3 0)] [13,14] q186_13a q186_13b false none),(3,.box [bv i]),(2,.box (Zp.g j)),(1,.box (Zz.g e)),(4,.box [.ref 0 0]),(0,.box (Z0.g c))]))) (fun⟨C,R⟩=>?_) B64 (B,0)) fun b5=>?_
 refine io ?_ (lf rfl)
 refine bo rg fun d3=>?_
 refine bo rg fun b0=>?_
 refine bo (oky186_13_2 d 2 0 C 0 0 0 0 b0 i j e) fun b4=>?_
 rcases b4 with _|_
 exact lf rfl
 exact lf rfl
 rcases b5 with⟨T,U⟩|x35
 exact lf rfl
 exact lf rfl
 rcases b6 with⟨V,W,X⟩|_
 exact lf rfl
 refine bz lm ?_
 refine bo (aI (S:=Int) (enc:=fun a=>(Q [(0,.yld 5),(1,.ref 4 0),(67,i64 (c.Measures.length:Int)),(68,i64 a)] [(5,.loop 22 [(3,.ref 1 0),(4,.ref 2 0),(5,.ref 3 0)] [13,14] q186_13a q186_13b false none),(4,.box [.ref 0 0]),(0,.box (Z0.g c)),(3,.box [bv i]),(2,.box (Zp.g j)),(1,.box (Zz.g e))])) (encE:=(fun|.inl ⟨v,w,x,y,z⟩=>(rq [(0,.yld 5),(1,.ref 4 0)] [(5,.loop 22 [(3,.ref 1 0),(4,.ref 2 0),(5,.ref 3 0)] [13,14] q186_13a q186_13b false (some .ret)),(4,.box [.ref 0 0]),(0,.box (Z0.g c)),(3,.box [bv true]),(2,.box [i64 v,i64 0,i64 w,i64 x,i64 y,i64 z,i64 0]),(1,.box (Zz.g e))])|.inr _=>(xq 4 [(0,.yld 5),(1,.ref 4 0)] [(5,.loop 22 [(3,.ref 1 0),(4,.ref 2 0),(5,.ref 3 0)] [13,14] q186_13a q186_13b false none),(4,.box [.ref 0 0]),(0,.box (Z0.g c)),(3,.box [bv i]),(2,.box (Zp.g j)),(1,.box (Zz.g e))]))) (fun a=>?_) B64 0) fun M=>?_
 refine io ?_ (lf rfl)
 refine bo rg fun D=>?_
 refine bo (oky186_13_3 d 3 0 0 a 0 0 0 D i j e) fun E=>?_
 rcases E with _|_
 exact lf rfl
 refine bo rg fun h=>?_
 refine bz lm ?_
 refine bo (aI (S:=Int) (enc:=fun b=>(Q [(0,.yld 5),(1,.ref 4 0),(6,i64 a),(67,i64 (c.Measures.length:Int)),(68,i64 a),(91,i64 (h.Cells.length:Int)),(92,i64 b)] [(5,.loop 22 [(3,.ref 1 0),(4,.ref 2 0),(5,.ref 3 0)] [13,14] q186_13a q186_13b false none),(3,.box [bv i]),(2,.box (Zp.g j)),(1,.box (Zz.g e)),(4,.box [.ref 0 0]),(0,.box (Z0.g c))])) (encE:=(fun|.inl ⟨s,t,u⟩=>(rq [(0,.yld 5),(1,.ref 4 0),(67,i64 (c.Measures.length:Int)),(68,i64 a)] [(5,.loop 22 [(3,.ref 1 0),(4,.ref 2 0),(5,.ref 3 0)] [13,14] q186_13a q186_13b false (some .ret)),(3,.box [bv true]),(2,.box [i64 4,i64 0,i64 s,i64 a,i64 t,i64 u,i64 0]),(1,.box (Zz.g e)),(4,.box [.ref 0 0]),(0,.box (Z0.g c))])|.inr _=>(xq 6 [(0,.yld 5),(1,.ref 4 0),(67,i64 (c.Measures.length:Int)),(68,i64 a)] [(5,.loop 22 [(3,.ref 1 0),(4,.ref 2 0),(5,.ref 3 0)] [13,14] q186_13a q186_13b false none),(3,.box [bv i]),(2,.box (Zp.g j)),(1,.box (Zz.g e)),(4,.box [.ref 0 0]),(0,.box (Z0.g c))]))) (fun b=>?_) B64 0) fun L=>?_
 refine io ?_ (lf rfl)
 refine bo rg fun b7=>?_
 refine bo rg fun m=>?_
 refine bz lm ?_
 refine bo (aI (S:=Int) (enc:=fun f=>(Q [(0,.yld 5),(1,.ref 4 0),(6,i64 a),(7,i64 b),(67,i64 (c.Measures.length:Int)),(68,i64 a),(91,i64 (h.Cells.length:Int)),(92,i64 b),(107,i64 (m.Voices.length:Int)),(108,i64 f)] [(5,.loop 22 [(3,.ref 1 0),(4,.ref 2 0),(5,.ref 3 0)] [13,14] q186_13a q186_13b false none),(3,.box [bv i]),(2,.box (Zp.g j)),(1,.box (Zz.g e)),(4,.box [.ref 0 0]),(0,.box (Z0.g c))])) (encE:=(fun|.inl ⟨q,r⟩=>(rq [(0,.yld 5),(1,.ref 4 0),(6,i64 a),(67,i64 (c.Measures.length:Int)),(68,i64 a),(91,i64 (h.Cells.length:Int)),(92,i64 b)] [(5,.loop 22 [(3,.ref 1 0),(4,.ref 2 0),(5,.ref 3 0)] [13,14] q186_13a q186_13b false (some .ret)),(3,.box [bv true]),(2,.box [i64 4,i64 0,i64 b,i64 a,i64 q,i64 r,i64 0]),(1,.box (Zz.g e)),(4,.box [.ref 0 0]),(0,.box (Z0.g c))])|.inr _=>(xq 8 [(0,.yld 5),(1,.ref 4 0),(6,i64 a),(67,i64 (c.Measures.length:Int)),(68,i64 a),(91,i64 (h.Cells.length:Int)),(92,i64 b)] [(5,.loop 22 [(3,.ref 1 0),(4,.ref 2 0),(5,.ref 3 0)] [13,14] q186_13a q186_13b false none),(3,.box [bv i]),(2,.box (Zp.g j)),(1,.box (Zz.g e)),(4,.box [.ref 0 0]),(0,.box (Z0.g c))]))) (fun f=>?_) B64 0) fun K=>?_
 refine io ?_ (lf rfl)
 refine bo rg fun b8=>?_
 refine bo rg fun b9=>?_
 refine bo rg fun F=>?_
 refine bz lm ?_
 refine bo (aI (S:=Int) (enc:=fun n=>(Q [(0,.yld 5),(1,.ref 4 0),(6,i64 a),(7,i64 b),(8,i64 f),(67,i64 (c.Measures.length:Int)),(68,i64 a),(91,i64 (h.Cells.length:Int)),(92,i64 b),(107,i64 (m.Voices.length:Int)),(108,i64 f),(127,i64 (F.Events.length:Int)),(128,i64 n)] [(5,.loop 22 [(3,.ref 1 0),(4,.ref 2 0),(5,.ref 3 0)] [13,14] q186_13a q186_13b false none),(3,.box [bv i]),(2,.box (Zp.g j)),(1,.box (Zz.g e)),(4,.box [.ref 0 0]),(0,.box (Z0.g c))])) (encE:=(fun|.inl p=>(rq [(0,.yld 5),(1,.ref 4 0),(6,i64 a),(7,i64 b),(67,i64 (c.Measures.length:Int)),(68,i64 a),(91,i64 (h.Cells.length:Int)),(92,i64 b),(107,i64 (m.Voices.length:Int)),(108,i64 f)] [(5,.loop 22 [(3,.ref 1 0),(4,.ref 2 0),(5,.ref 3 0)] [13,14] q186_13a q186_13b false (some .ret)),(3,.box [bv true]),(2,.box [i64 4,i64 0,i64 b,i64 a,i64 f,i64 p,i64 0]),(1,.box (Zz.g e)),(4,.box [.ref 0 0]),(0,.box (Z0.g c))])|.inr _=>(xq 10 [(0,.yld 5),(1,.ref 4 0),(6,i64 a),(7,i64 b),(67,i64 (c.Measures.length:Int)),(68,i64 a),(91,i64 (h.Cells.length:Int)),(92,i64 b),(107,i64 (m.Voices.length:Int)),(108,i64 f)] [(5,.loop 22 [(3,.ref 1 0),(4,.ref 2 0),(5,.ref 3 0)] [13,14] q186_13a q186_13b false none),(3,.box [bv i]),(2,.box (Zp.g j)),(1,.box (Zz.g e)),(4,.box [.ref 0 0]),(0,.box (Z0.g c))]))) (fun n=>?_) B64 0) fun J=>?_
 refine io ?_ (lf rfl)
 refine bo rg fun d0=>?_
 refine bo rg fun d1=>?_
 refine bo rg fun d2=>?_
 refine bo rg fun G=>?_
 refine bo (oky186_13_4 d 4 0 b a f n 0 G i j e) fun H=>?_
 rcases H with _|_
 exact lf rfl
 exact lf rfl
 rcases J with p|_
 exact lf rfl
 exact lf rfl
 rcases K with⟨q,r⟩|_
 exact lf rfl
 exact lf rfl
 rcases L with⟨s,t,u⟩|_
 exact lf rfl
 exact lf rfl
 rcases M with⟨v,w,x,y,z⟩|_
 exact lf rfl
 refine bz lm ?_
 refine bo (aI (S:=Int) (enc:=fun o=>(Q [(0,.yld 5),(1,.ref 4 0),(166,i64 (c.Spanners.length:Int)),(167,i64 o)] [(5,.loop 22 [(3,.ref 1 0),(4,.ref 2 0),(5,.ref 3 0)] [13,14] q186_13a q186_13b false none),(4,.box [.ref 0 0]),(0,.box (Z0.g c)),(3,.box [bv i]),(2,.box (Zp.g j)),(1,.box (Zz.g e))])) (encE:=(fun|.inl A=>(rq [] [(5,.loop 22 [(3,.ref 1 0),(4,.ref 2 0),(5,.ref 3 0)] [13,14] q186_13a q186_13b false (some .ret)),(4,.box [.ref 0 0]),(0,.box (Z0.g c)),(3,.box [bv true]),(2,.box [i64 5,i64 0,i64 0,i64 0,i64 0,i64 0,i64 A]),(1,.box (Zz.g e))])|.inr _=>(xq 12 [] [(5,.loop 22 [(3,.ref 1 0),(4,.ref 2 0),(5,.ref 3 0)] [13,14] q186_13a q186_13b false none),(4,.box [.ref 0 0]),(0,.box (Z0.g c)),(3,.box [bv i]),(2,.box (Zp.g j)),(1,.box (Zz.g e))]))) (fun o=>?_) B64 0) fun P=>?_
 refine io ?_ (lf rfl)
 refine bo rg fun N=>?_
 refine bo (oky186_13_5 d 5 0 0 0 0 0 o N i j e) fun O=>?_
 rcases O with _|_
 exact lf rfl
 exact lf rfl
 rcases P with A|_
 exact lf rfl
 exact lf rfl
end Go.P
namespace Go.P
open Go.Sim (Ex OpK CK)
open K (I Q rq nq xq ck)
def F186 (b:Z0) (a:Zz):Option (Zp×Bool):=
 if((a.Site==0)&&((a.Number==0)&&true))!=false then some ((Zp.mk 0 0 0 0 0 0 0),false)else(Fn121_2 b).bind fun _=>(Fn170_2 b false (Zp.mk 0 0 0 0 0 0 0) a).bind fun c=>(match c with|.inl x3=>some (x3,true)|.inr _=>some ((Zp.mk 0 0 0 0 0 0 0),false))
theorem ok186 {k} (d) (a:Z0) (b:Zz):OD k (d+3) 186 [.agg (Z0.g a),.agg (Zz.g b)]=(F186 a b).map (fun⟨e,f⟩=>.tup [.agg (Zp.g e),bv f]):=by
 rw[od (fn:=p186) rfl rfl rfl]
 refine io (lf rfl) ?_
 refine bo (okn121_2 (d+1) a) fun _=>?_
 refine bo (okn170_2 d a false (Zp.mk 0 0 0 0 0 0 0) b) fun c=>?_
 rcases c with h|_
 exact lf rfl
 exact lf rfl
def F164 (c:List Int):Option (List Int):=
 (tZ (c.length:Int) (c.length:Int) 0).bind fun k=>(aO (E:=List Int) (fun(⟨b,a⟩:Int×(List Int))=>if decide (b<(c.length:Int))then(lidx a (w64 (b-1))).bind fun d=>(lnth a d).bind fun e=>(lget c (w64 (b-1))).bind fun f=>(lidx a b).bind fun g=>(lput a g (fun j=>(w64 (e+f)))).bind fun h=>some (.inl ((w64 (b+1)),h))else some (.inr a)) B64 (1,k)).bind fun i=>some i
theorem ok164 {k} (d) (h:List Int):OD k (d+1) 164 [.is 1 (I cI h)]=(F164 h).map (fun r=>.is 1 (I cI r)):=by
 rw[od (fn:=p164) rfl rfl rfl]
 refine bz lm ?_
 refine bo (fG cI _ _ 0) fun q=>?_
 refine bo (aI (S:=Int×(List Int)) (enc:=fun⟨j,a⟩=>(Q [(0,.is 1 (I cI h)),(3,.own 0),(4,i64 j)] [(0,.lst 3 1 true (I cI a))])) (encE:=(fun(e:List Int)=>(xq 0 [(3,.own 0)] [(0,.lst 3 1 true (I cI e))]))) (fun⟨j,a⟩=>?_) B64 (1,q)) fun e=>?_
 refine bz lm ?_
 refine io ?_ (lf rfl)
 refine bo (aU cI a _) fun l=>?_
 refine bo (bD (A:=Int) (c:=cI) (g:=fun b=>i64 b) (fun _=>rfl) a _) fun b=>?_
 refine bo rg fun i=>?_
 refine bo (aU cI a _) fun n=>?_
 refine bo (oJ (A:=Int) (c:=cI) (m:=1) (f:=fun o=>(w64 (b+i))) (fun _=>⟨rfl,rfl⟩) (Nat.le_of_ble_eq_true rfl) a _) fun p=>?_
 exact lf rfl
 exact lf rfl
def F108 (b:Zo) (c:Int):Option ((List Int)×Int):=
 (F163 b c).bind fun⟨d,a⟩=>if a !=0 then some ([],a)else(F164 d).bind fun e=>some (e,0)
theorem ok108 {k} (d) (a:Zo) (b:Int):OD k (d+14) 108 [.agg (Zo.g a),i64 b]=(F108 a b).map (fun⟨e,f⟩=>.tup [.is 1 (I cI e),i64 f]):=by
 rw[od (fn:=p108) rfl rfl rfl]
 refine bo (ok163 d a b) fun⟨c,h⟩=>?_
 refine io (lf rfl) ?_
 refine bo (ok164 (d+12) c) fun i=>?_
 exact lf rfl
def F150 (d:Zk) (g:Zz):Option (Zq×Bool):=
 (F186 d.s' g).bind fun⟨a,h⟩=>if(!h)||(a.Kind !=4)then some ((Zq.mk 0 0 0 0),false)else(lget d.s'.Measures a.Measure).bind fun e=>(F27 e).bind fun⟨i,l⟩=>(lget e.Cells a.Staff).bind fun j=>(lget j.Voices a.Voice).bind fun k=>(F108 k i).bind fun⟨b,f⟩=>if decide (a.Event>=(b.length:Int))then some ((Zq.mk 0 0 0 0),false)else(lget b a.Event).bind fun c=>some ((Zq.mk a.Measure c a.Staff a.Voice),true)
theorem ok150 {k} (d) (a:Zk) (b:Zz):OD k (d+15) 150 [.ip (Zk.g a),.agg (Zz.g b)]=(F150 a b).map (fun⟨l,m⟩=>.tup [.agg (Zq.g l),bv m]):=by
 rw[od (fn:=p150) rfl rfl rfl]
 refine bo (ok186 (d+11) a.s' b) fun⟨n,o⟩=>?_
 refine bz (gor rfl) ?_
 refine io (lf rfl) ?_
 refine bo rg fun h=>?_
 refine bo (ok27 (d+10) h) fun⟨i,p⟩=>?_
 refine bo rg fun q=>?_
 refine bo rg fun j=>?_
 refine bo (ok108 d j i) fun⟨c,e⟩=>?_
 refine bz lm ?_
 refine io (lf rfl) ?_
 refine bo rg fun f=>?_
 exact lf rfl
def F195 (a b:Int):Option Bool:=
 some ((decide (a>=0))&&(decide (a<=b)))
theorem ok195 {k} (d) (a b:Int):OD k (d+1) 195 [i64 a,i64 b]=(F195 a b).map (fun c=>bv c):=by
 rw[od (fn:=p195) rfl rfl rfl]
 refine bz (gand rfl) ?_
 exact lf rfl
def F187 (a:Zq):Option Bool:=
 (F195 a.Measure 1023).bind fun b=>((if b then(F195 a.At 4398046511104).bind fun c=>some c else some false:Option (Bool))).bind fun d=>((if d then(F195 a.Staff 127).bind fun e=>some e else some false:Option (Bool))).bind fun f=>((if f then(F195 a.Voice 1).bind fun g=>some g else some false:Option (Bool))).bind fun h=>some h
theorem ok187 {k} (d) (a:Zq):OD k (d+2) 187 [.agg (Zq.g a)]=(F187 a).map (fun b=>bv b):=by
 rw[od (fn:=p187) rfl rfl rfl]
 refine bo (ok195 d a.Measure 1023) fun c=>?_
 refine bo (e:=id) ?_ fun h=>?_
 refine io ?_ (lf rfl)
 refine bo (ok195 d a.At 4398046511104) fun f=>?_
 exact lf rfl
 refine bo (e:=id) ?_ fun j=>?_
 refine io ?_ (lf rfl)
 refine bo (ok195 d a.Staff 127) fun i=>?_
 exact lf rfl
 refine bo (e:=id) ?_ fun m=>?_
 refine io ?_ (lf rfl)
 refine bo (ok195 d a.Voice 1) fun l=>?_
 exact lf rfl
 exact lf rfl
def F111 (a:Int):Option Bool:=
 some ((a==1)||(a==7))
theorem ok111 {k} (d) (a:Int):OD k (d+1) 111 [i64 a]=(F111 a).map (fun b=>bv b):=by
 rw[od (fn:=p111) rfl rfl rfl]
 refine bz (gor rfl) ?_
 exact lf rfl
def F105 (a:Int):Option Bool:=
 some (a !=a)
theorem ok105 {k} (d) (a:Int):OD k (d+1) 105 [i64 a]=(F105 a).map (fun b=>bv b):=by
 rw[od (fn:=p105) rfl rfl rfl]
 exact lf rfl
def F117 (a b:Int):Option Int:=
 (F105 a).bind fun d=>(F105 b).bind fun c=>if d then if c then some 0 else some (-1)else if c then some 1 else if decide (a<b)then some (-1)else if decide (a>b)then some 1 else some 0
theorem ok117 {k} (d) (a b:Int):OD k (d+2) 117 [i64 a,i64 b]=(F117 a b).map (fun c=>i64 c):=by
 rw[od (fn:=p117) rfl rfl rfl]
 refine bo (ok105 d a) fun e=>?_
 refine bo (ok105 d b) fun f=>?_
 refine io ?_ ?_
 refine io (lf rfl) (lf rfl)
 refine io (lf rfl) ?_
 refine io (lf rfl) ?_
 refine io (lf rfl) (lf rfl)
def F116 (b:List Int):Option Int:=
 (aO (E:=Int⊕Unit) (fun(a:Int)=>if decide (a<(b.length:Int))then(lget b a).bind fun c=>if c !=0 then some (.inr (.inl c))else some (.inl (w64 (a+1)))else some (.inr (.inr ()))) B64 0).bind fun d=>(match d with|.inl x5=>some x5|.inr _=>some 0)
theorem ok116 {k} (d) (a:List Int):OD k (d+1) 116 [.is 1 (I cI a)]=(F116 a).map (fun f=>i64 f):=by
 rw[od (fn:=p116) rfl rfl rfl]
 refine bz lm ?_
 refine bo (aI (S:=Int) (enc:=fun b=>(Q [(3,i64 0),(6,.is 1 (I cI a)),(7,i64 (a.length:Int)),(8,i64 b)] [])) (encE:=(fun|.inl c=>(rq [(2,i64 c),(3,i64 0)] [])|.inr _=>(xq 0 [(3,i64 0)] []))) (fun b=>?_) B64 0) fun e=>?_
 refine io ?_ (lf rfl)
 refine bo rg fun g=>?_
 refine io (lf rfl) (lf rfl)
 rcases e with c|_
 exact lf rfl
 exact lf rfl
def F112 (a b:Zq):Option Int:=
 (F117 a.Measure b.Measure).bind fun c=>(F117 a.At b.At).bind fun d=>(F116 [c,d]).bind fun e=>some e
theorem ok112 {k} (d) (a b:Zq):OD k (d+3) 112 [.agg (Zq.g a),.agg (Zq.g b)]=(F112 a b).map (fun f=>i64 f):=by
 rw[od (fn:=p112) rfl rfl rfl]
 refine bo (ok117 d a.Measure b.Measure) fun c=>?_
 refine bo (ok117 d a.At b.At) fun e=>?_
 refine bo (ok116 (d+1) [c,e]) fun h=>?_
 exact lf rfl
def F151 (a:Zs):Option Int:=
 if(decide (a.Kind<1))||(decide (a.Kind>7))then some 11 else(F187 a.From).bind fun b=>((if !b then some true else(F187 a.To).bind fun c=>some (!c):Option (Bool))).bind fun d=>if d then some 2 else((if a.From.Staff !=a.To.Staff then some true else(F111 a.Kind).bind fun e=>some (e&&(a.From.Voice !=a.To.Voice)):Option (Bool))).bind fun f=>if f then some 23 else(F112 a.From a.To).bind fun g=>if decide (g>=0)then some 25 else some 0
theorem ok151 {k} (d) (a:Zs):OD k (d+4) 151 [.agg (Zs.g a)]=(F151 a).map (fun b=>i64 b):=by
 rw[od (fn:=p151) rfl rfl rfl]
 refine bz (gor rfl) ?_
 refine io (lf rfl) ?_
 refine bo (ok187 (d+1) a.From) fun c=>?_
 refine bo (e:=id) ?_ fun h=>?_
 refine io (lf rfl) ?_
 refine bo (ok187 (d+1) a.To) fun f=>?_
 exact lf rfl
 refine io (lf rfl) ?_
 refine bo (e:=id) ?_ fun j=>?_
 refine io (lf rfl) ?_
 refine bo (ok111 (d+2) a.Kind) fun i=>?_
 refine bz (gand rfl) ?_
 exact lf rfl
 refine io (lf rfl) ?_
 refine bo (ok112 d a.From a.To) fun l=>?_
 refine io (lf rfl) (lf rfl)
def Fn94 (p:List Zv) (g:Z0) (q:Int):Option ((List Bool)×(List Zs)):=
 (aO (E:=(List Bool)×(List Zs)) (fun(⟨b,c,d⟩:Int×(List Bool)×(List Zs))=>if decide (b<(g.Spanners.length:Int))then(lget g.Spanners b).bind fun a=>(F150 (Zk.mk g q p) a.From).bind fun⟨e,h⟩=>(F150 (Zk.mk g q p) a.To).bind fun⟨f,i⟩=>(lapp false d [(Zs.mk a.Kind e f)]).bind fun j=>((if(!h)||(!i)then some true else(F151 (Zs.mk a.Kind e f)).bind fun k=>some (k !=0):Option (Bool))).bind fun l=>(lapp false c [l]).bind fun m=>some (.inl ((w64 (b+1)),m,j))else some (.inr (c,d))) B64 (0,[],[])).bind fun⟨n,o⟩=>some (n,o)
theorem okn94 {k} (d) (c:List Zv) (b:Z0) (i:Int):runR (XD k (d+16)) 94 [.ref 1 0] [(2,.lst 131 3 false (I Zv.g c)),(1,.box (ck b i (.own 2)))] 3 true=(Fn94 c b i).map (fun(⟨q,r⟩:(List Bool)×(List Zs))=>((.tup [.own 3,.own 4],[(4,.lst 4 1 false (I cB q)),(3,.lst 115 9 false (I Zs.g r)),(2,.lst 131 3 false (I Zv.g c)),(1,.box (ck b i (.own 2)))],5))):=by
 rw[xd (fn:=p94) rfl]
 refine bz lm ?_
 refine bo (aI (S:=Int×(List Bool)×(List Zs)) (enc:=fun⟨j,f,h⟩=>(Q [(0,.ref 1 0),(4,.own 3),(5,.own 4),(17,.is 7 (I Zn.g b.Spanners)),(18,i64 (b.Spanners.length:Int)),(19,i64 j)] [(4,.lst 4 1 false (I cB f)),(3,.lst 115 9 false (I Zs.g h)),(2,.lst 131 3 false (I Zv.g c)),(1,.box (ck b i (.own 2)))])) (encE:=(fun(⟨n,o⟩:(List Bool)×(List Zs))=>(xq 0 [(4,.own 3),(5,.own 4)] [(4,.lst 4 1 false (I cB n)),(3,.lst 115 9 false (I Zs.g o)),(2,.lst 131 3 false (I Zv.g c)),(1,.box (ck b i (.own 2)))]))) (fun⟨j,f,h⟩=>?_) B64 (0,[],[])) fun⟨n,o⟩=>?_
 refine io ?_ (lf rfl)
 refine bo rg fun a=>?_
 refine bo (ok150 d (Zk.mk b i c) a.From) fun⟨l,s⟩=>?_
 refine bo (ok150 d (Zk.mk b i c) a.To) fun⟨m,t⟩=>?_
 refine bo (aW false Zs.g h [(Zs.mk a.Kind l m)]) fun u=>?_
 refine bz (gor rfl) ?_
 refine bo (e:=id) ?_ fun p=>?_
 refine io (lf rfl) ?_
 refine bo (ok151 (d+11) (Zs.mk a.Kind l m)) fun v=>?_
 exact lf rfl
 refine bo (aW false cB f [p]) fun w=>?_
 exact lf rfl
 exact lf rfl
def Fn43 (i:List Zv) (c:Z0) (j:Int):Option (List Zv):=
 (Fn94 i c j).bind fun⟨k,l⟩=>(aO (E:=List Zv) (fun(⟨a,b⟩:Int×(List Zv))=>if decide (a<(c.Spanners.length:Int))then(lget c.Spanners a).bind fun d=>(lidx k a).bind fun e=>(lnth k e).bind fun f=>(Fn63 f d.ID b c j).bind fun g=>some (.inl ((w64 (a+1)),g))else some (.inr b)) B64 (0,i)).bind fun h=>some h
theorem okn43 {k} (d) (j:List Zv) (a:Z0) (f:Int):runR (XD k (d+17)) 43 [.ref 1 0] [(2,.lst 131 3 false (I Zv.g j)),(1,.box (ck a f (.own 2)))] 3 false=(Fn43 j a f).map (fun(n:List Zv)=>((.tup [],[(2,.lst 131 3 false (I Zv.g n)),(1,.box (ck a f (.own 2)))],0))):=by
 rw[xd (fn:=p43) rfl]
 refine bo (okn94 d j a f) fun⟨l,o⟩=>?_
 refine bz lm ?_
 refine bo (aI (S:=Int×(List Zv)) (enc:=fun⟨h,b⟩=>(Q [(0,.ref 1 0),(3,.own 4),(15,.is 7 (I Zn.g a.Spanners)),(16,i64 (a.Spanners.length:Int)),(17,i64 h)] [(4,.lst 4 1 false (I cB l)),(3,.lst 115 9 false (I Zs.g o)),(2,.lst 131 3 false (I Zv.g b)),(1,.box (ck a f (.own 2)))])) (encE:=(fun(i:List Zv)=>(xq 0 [] [(4,.lst 4 1 false (I cB l)),(3,.lst 115 9 false (I Zs.g o)),(2,.lst 131 3 false (I Zv.g i)),(1,.box (ck a f (.own 2)))]))) (fun⟨h,b⟩=>?_) B64 (0,j)) fun i=>?_
 refine io ?_ (lf rfl)
 refine bo rg fun m=>?_
 refine bo (aU cB l _) fun p=>?_
 refine bo (bD (A:=Bool) (c:=cB) (g:=fun e=>bv e) (fun _=>rfl) l _) fun e=>?_
 refine bo (okn63 (d+15) e m.ID b a f) fun q=>?_
 exact lf rfl
 exact lf rfl
def F56 (a:Int):Option Int:=
 if(decide (a<1))||(decide (a>7))then some 0 else(lget [1,2,2,4,4,6,7] (w64 (a-1))).bind fun b=>some b
theorem ok56 {k} (d) (a:Int):OD k (d+1) 56 [i64 a]=(F56 a).map (fun b=>i64 b):=by
 rw[od (fn:=p56) rfl rfl rfl]
 refine bz (gor rfl) ?_
 refine io (lf rfl) ?_
 refine bo (lA .i64 [1,2,2,4,4,6,7] (w64 (a-1)) rfl) fun c=>?_
 exact lf rfl
def F152 (a b:Zs):Option Bool:=
 (F56 a.Kind).bind fun c=>((if decide (c>0)then(F56 a.Kind).bind fun d=>(F56 b.Kind).bind fun e=>some (d==e)else some false:Option (Bool))).bind fun f=>((if f&&(a.From.Staff==b.From.Staff)then(F111 a.Kind).bind fun g=>some ((!g)||(a.From.Voice==b.From.Voice))else some false:Option (Bool))).bind fun h=>some h
theorem ok152 {k} (d) (a b:Zs):OD k (d+2) 152 [.agg (Zs.g a),.agg (Zs.g b)]=(F152 a b).map (fun c=>bv c):=by
 rw[od (fn:=p152) rfl rfl rfl]
 refine bo (ok56 d a.Kind) fun f=>?_
 refine bo (e:=id) ?_ fun j=>?_
 refine io ?_ (lf rfl)
 refine bo (ok56 d a.Kind) fun h=>?_
 refine bo (ok56 d b.Kind) fun i=>?_
 exact lf rfl
 refine bz (gand rfl) ?_
 refine bo (e:=id) ?_ fun m=>?_
 refine io ?_ (lf rfl)
 refine bo (ok111 d a.Kind) fun l=>?_
 refine bz (gor rfl) ?_
 exact lf rfl
 exact lf rfl
def F156 (a b:Zs):Option Bool:=
 (F112 a.To b.From).bind fun c=>((if decide (c<0)then some true else(F112 b.To a.From).bind fun d=>some (decide (d<0)):Option (Bool))).bind fun e=>some e
theorem ok156 {k} (d) (a b:Zs):OD k (d+4) 156 [.agg (Zs.g a),.agg (Zs.g b)]=(F156 a b).map (fun c=>bv c):=by
 rw[od (fn:=p156) rfl rfl rfl]
 refine bo (ok112 d a.To b.From) fun f=>?_
 refine bo (e:=id) ?_ fun i=>?_
 refine io (lf rfl) ?_
 refine bo (ok112 d b.To a.From) fun h=>?_
 exact lf rfl
 exact lf rfl
def F155 (a b:Zs):Option Bool:=
 (F156 a b).bind fun c=>some (!c)
theorem ok155 {k} (d) (a b:Zs):OD k (d+5) 155 [.agg (Zs.g a),.agg (Zs.g b)]=(F155 a b).map (fun c=>bv c):=by
 rw[od (fn:=p155) rfl rfl rfl]
 refine bo (ok156 d a b) fun e=>?_
 exact lf rfl
def F154 (a b:Zs):Option Bool:=
 (F112 a.To b.From).bind fun c=>((if decide (c<=0)then some true else(F112 b.To a.From).bind fun d=>some (decide (d<=0)):Option (Bool))).bind fun e=>some e
theorem ok154 {k} (d) (a b:Zs):OD k (d+4) 154 [.agg (Zs.g a),.agg (Zs.g b)]=(F154 a b).map (fun c=>bv c):=by
 rw[od (fn:=p154) rfl rfl rfl]
 refine bo (ok112 d a.To b.From) fun f=>?_
 refine bo (e:=id) ?_ fun i=>?_
 refine io (lf rfl) ?_
 refine bo (ok112 d b.To a.From) fun h=>?_
 exact lf rfl
 exact lf rfl
def F153 (a b:Zs):Option Bool:=
 (F154 a b).bind fun c=>some (!c)
theorem ok153 {k} (d) (a b:Zs):OD k (d+5) 153 [.agg (Zs.g a),.agg (Zs.g b)]=(F153 a b).map (fun c=>bv c):=by
 rw[od (fn:=p153) rfl rfl rfl]
 refine bo (ok154 d a b) fun e=>?_
 exact lf rfl
def F188 (a b:Zs):Option Bool:=
 (F112 a.From b.From).bind fun c=>((if decide (c>=0)then(F112 a.To b.To).bind fun d=>some (decide (d<=0))else some false:Option (Bool))).bind fun e=>some e
theorem ok188 {k} (d) (a b:Zs):OD k (d+4) 188 [.agg (Zs.g a),.agg (Zs.g b)]=(F188 a b).map (fun c=>bv c):=by
 rw[od (fn:=p188) rfl rfl rfl]
 refine bo (ok112 d a.From b.From) fun f=>?_
 refine bo (e:=id) ?_ fun i=>?_
 refine io ?_ (lf rfl)
 refine bo (ok112 d a.To b.To) fun h=>?_
 exact lf rfl
 exact lf rfl
def F157 (a b:Zs):Option Bool:=
 (F154 a b).bind fun c=>((if !c then(F188 a b).bind fun d=>(F188 b a).bind fun e=>some ((d==e)!=false)else some false:Option (Bool))).bind fun f=>some f
theorem ok157 {k} (d) (a b:Zs):OD k (d+5) 157 [.agg (Zs.g a),.agg (Zs.g b)]=(F157 a b).map (fun c=>bv c):=by
 rw[od (fn:=p157) rfl rfl rfl]
 refine bo (ok154 d a b) fun f=>?_
 refine bo (e:=id) ?_ fun j=>?_
 refine io ?_ (lf rfl)
 refine bo (ok188 d a b) fun h=>?_
 refine bo (ok188 d b a) fun i=>?_
 exact lf rfl
 exact lf rfl
def F95 (a b:Zs):Option Bool:=
 (F152 a b).bind fun d=>if !d then some false else if(w64 (a.Kind-1))==6 then(F155 a b).bind fun e=>some e else if(w64 (a.Kind-1))==5 then(F153 a b).bind fun f=>some f else if(w64 (a.Kind-1))==4 then(F155 a b).bind fun g=>some g else if(w64 (a.Kind-1))==3 then(F155 a b).bind fun h=>some h else if(w64 (a.Kind-1))==2 then(F153 a b).bind fun i=>some i else if(w64 (a.Kind-1))==1 then(F153 a b).bind fun j=>some j else if(w64 (a.Kind-1))==0 then(F157 a b).bind fun c=>some c else none
theorem ok95 {k} (d) (a b:Zs):OD k (d+6) 95 [.agg (Zs.g a),.agg (Zs.g b)]=(F95 a b).map (fun e=>bv e):=by
 rw[od (fn:=p95) rfl rfl rfl]
 refine bo (ok152 (d+3) a b) fun f=>?_
 refine io (lf rfl) ?_
 refine io ?_ ?_
 refine bo (ok155 d a b) fun h=>?_
 exact lf rfl
 refine io ?_ ?_
 refine bo (ok153 d a b) fun i=>?_
 exact lf rfl
 refine io ?_ ?_
 refine bo (ok155 d a b) fun j=>?_
 exact lf rfl
 refine io ?_ ?_
 refine bo (ok155 d a b) fun l=>?_
 exact lf rfl
 refine io ?_ ?_
 refine bo (ok153 d a b) fun m=>?_
 exact lf rfl
 refine io ?_ ?_
 refine bo (ok153 d a b) fun n=>?_
 exact lf rfl
 refine io ?_ ?_
 refine bo (ok157 d a b) fun c=>?_
 exact lf rfl
 rfl
def Fn44 (w:List Zv) (e:Z0) (x:Int):Option (List Zv):=
 (Fn94 w e x).bind fun⟨f,g⟩=>(aO (E:=List Zv) (fun(⟨a,c⟩:Int×(List Zv))=>if decide (a<(e.Spanners.length:Int))then(lget e.Spanners a).bind fun h=>(aO (E:=Bool) (fun(⟨d,b⟩:Bool×Int)=>((if decide (b<a)then(lidx f a).bind fun i=>(lnth f i).bind fun j=>some (!j)else some false:Option (Bool))).bind fun k=>if k&&(!d)then(lidx f b).bind fun l=>(lnth f l).bind fun m=>((if !m then(lidx g b).bind fun n=>(lnth g n).bind fun o=>(lidx g a).bind fun p=>(lnth g p).bind fun q=>(F95 o q).bind fun r=>some r else some false:Option (Bool))).bind fun s=>some (.inl (s,(w64 (b+1))))else some (.inr d)) B64 (false,0)).bind fun t=>(Fn63 t h.ID c e x).bind fun u=>some (.inl ((w64 (a+1)),u))else some (.inr c)) B64 (0,w)).bind fun v=>some v
theorem okn44 {k} (d) (v:List Zv) (f:Z0) (j:Int):runR (XD k (d+17)) 44 [.ref 1 0] [(2,.lst 131 3 false (I Zv.g v)),(1,.box (ck f j (.own 2)))] 3 false=(Fn44 v f j).map (fun(w:List Zv)=>((.tup [],[(2,.lst 131 3 false (I Zv.g w)),(1,.box (ck f j (.own 2)))],0))):=by
 rw[xd (fn:=p44) rfl]
 refine bo (okn94 d v f j) fun⟨l,n⟩=>?_
 refine bz lm ?_
 refine bo (aI (S:=Int×(List Zv)) (enc:=fun⟨h,i⟩=>(Q [(0,.ref 1 0),(2,.own 3),(3,.own 4),(17,.is 7 (I Zn.g f.Spanners)),(18,i64 (f.Spanners.length:Int)),(19,i64 h)] [(4,.lst 4 1 false (I cB l)),(3,.lst 115 9 false (I Zs.g n)),(2,.lst 131 3 false (I Zv.g i)),(1,.box (ck f j (.own 2)))])) (encE:=(fun(u:List Zv)=>(xq 0 [] [(4,.lst 4 1 false (I cB l)),(3,.lst 115 9 false (I Zs.g n)),(2,.lst 131 3 false (I Zv.g u)),(1,.box (ck f j (.own 2)))]))) (fun⟨h,i⟩=>?_) B64 (0,v)) fun u=>?_
 refine io ?_ (lf rfl)
 refine bo rg fun o=>?_
 refine bo (aI (S:=Bool×Int) (enc:=fun⟨q,r⟩=>(Q [(0,.ref 1 0),(2,.own 3),(3,.own 4),(4,i64 h),(5,.ref 5 0),(6,bv q),(7,i64 r),(17,.is 7 (I Zn.g f.Spanners)),(18,i64 (f.Spanners.length:Int)),(19,i64 h)] [(5,.box (Zn.g o)),(4,.lst 4 1 false (I cB l)),(3,.lst 115 9 false (I Zs.g n)),(2,.lst 131 3 false (I Zv.g i)),(1,.box (ck f j (.own 2)))])) (encE:=(fun(p:Bool)=>(xq 2 [(0,.ref 1 0),(2,.own 3),(3,.own 4),(5,.ref 5 0),(6,bv p),(17,.is 7 (I Zn.g f.Spanners)),(18,i64 (f.Spanners.length:Int)),(19,i64 h)] [(5,.box (Zn.g o)),(4,.lst 4 1 false (I cB l)),(3,.lst 115 9 false (I Zs.g n)),(2,.lst 131 3 false (I Zv.g i)),(1,.box (ck f j (.own 2)))]))) (fun⟨q,r⟩=>?_) B64 (false,0)) fun p=>?_
 refine bo (e:=id) ?_ fun y=>?_
 refine io ?_ (lf rfl)
 refine bo (aU cB l _) fun x=>?_
 refine bo (bD (A:=Bool) (c:=cB) (g:=fun s=>bv s) (fun _=>rfl) l _) fun s=>?_
 exact lf rfl
 refine bz (gand rfl) ?_
 refine io ?_ (lf rfl)
 refine bo (aU cB l _) fun z=>?_
 refine bo (bD (A:=Bool) (c:=cB) (g:=fun t=>bv t) (fun _=>rfl) l _) fun t=>?_
 refine bo (e:=id) ?_ fun E=>?_
 refine io ?_ (lf rfl)
 refine bo (aU Zs.g n _) fun B=>?_
 refine bo (iP (A:=Zs) (c:=Zs.g) (m:=9) (g:=fun a=>[i64 a.Kind,i64 a.From.Measure,i64 a.From.At,i64 a.From.Staff,i64 a.From.Voice,i64 a.To.Measure,i64 a.To.At,i64 a.To.Staff,i64 a.To.Voice]) (fun _=>⟨rfl,rfl⟩) (Nat.le_of_ble_eq_true rfl) n _) fun a=>?_
 refine bo (aU Zs.g n _) fun C=>?_
 refine bo (iP (A:=Zs) (c:=Zs.g) (m:=9) (g:=fun b=>[i64 b.Kind,i64 b.From.Measure,i64 b.From.At,i64 b.From.Staff,i64 b.From.Voice,i64 b.To.Measure,i64 b.To.At,i64 b.To.Staff,i64 b.To.Voice]) (fun _=>⟨rfl,rfl⟩) (Nat.le_of_ble_eq_true rfl) n _) fun b=>?_
 refine bo (ok95 (d+10) a b) fun D=>?_
 exact lf rfl
 exact lf rfl
 refine bo (okn63 (d+15) p o.ID i f j) fun F=>?_
 exact lf rfl
 exact lf rfl
def F96 (f:Int) (a:Zm):Option Bool:=
 ((if a.RepeatEnd !=0 then(F65 a.RepeatEnd 2 8).bind fun b=>some (!b)else some false:Option (Bool))).bind fun c=>((if c then some true else(F65 a.Endings 0 255).bind fun d=>some (!d):Option (Bool))).bind fun e=>some e
theorem ok96 {k} (d) (b:Int) (a:Zm):OD k (d+2) 96 [i64 b,.agg (Zm.g a)]=(F96 b a).map (fun c=>bv c):=by
 rw[od (fn:=p96) rfl rfl rfl]
 refine bo (e:=id) ?_ fun h=>?_
 refine io ?_ (lf rfl)
 refine bo (ok65 d a.RepeatEnd 2 8) fun f=>?_
 exact lf rfl
 refine bo (e:=id) ?_ fun j=>?_
 refine io (lf rfl) ?_
 refine bo (ok65 d a.Endings 0 255) fun i=>?_
 exact lf rfl
 exact lf rfl
def Fn70_6 (h:List Zv) (e:Z0) (i:Int):Option (List Zv):=
 (aO (E:=List Zv) (fun(⟨a,f⟩:Int×(List Zv))=>if decide (a<(e.Measures.length:Int))then(lget e.Measures a).bind fun g=>(F96 a g).bind fun b=>(Fn63 b g.ID f e i).bind fun c=>some (.inl ((w64 (a+1)),c))else some (.inr f)) B64 (0,h)).bind fun d=>some d
theorem okn70_6 {k} (d) (e:List Zv) (a:Z0) (b:Int):runR (XD k (d+3)) 70 [.ref 1 0,.fn 96 [] []] [(2,.lst 131 3 false (I Zv.g e)),(1,.box (ck a b (.own 2)))] 3 false=(Fn70_6 e a b).map (fun(h:List Zv)=>((.tup [],[(2,.lst 131 3 false (I Zv.g h)),(1,.box (ck a b (.own 2)))],0))):=by
 rw[xd (fn:=p70) rfl]
 refine bz lm ?_
 refine bo (aI (S:=Int×(List Zv)) (enc:=fun⟨i,j⟩=>(Q [(0,.ref 1 0),(1,.fn 96 [] []),(10,.is 22 (I Zm.g a.Measures)),(11,i64 (a.Measures.length:Int)),(12,i64 i)] [(2,.lst 131 3 false (I Zv.g j)),(1,.box (ck a b (.own 2)))])) (encE:=(fun(c:List Zv)=>(xq 0 [] [(2,.lst 131 3 false (I Zv.g c)),(1,.box (ck a b (.own 2)))]))) (fun⟨i,j⟩=>?_) B64 (0,e)) fun c=>?_
 refine io ?_ (lf rfl)
 refine bo rg fun l=>?_
 refine bo (ok96 d i l) fun f=>?_
 refine bo (okn63 (d+1) f l.ID j a b) fun m=>?_
 exact lf rfl
 exact lf rfl
def F197 (a:Int):Option Int:=
 ((if decide (a>=4294967296)then(shrO .u64 a 32).bind fun h=>some (h,32)else some (a,0):Option (Int×Int))).bind fun⟨d,f⟩=>((if decide (d>=65536)then(shrO .u64 d 16).bind fun i=>some (i,(w64 (f+16)))else some (d,f):Option (Int×Int))).bind fun⟨e,g⟩=>((if decide (e>=256)then(shrO .u64 e 8).bind fun j=>some (j,(w64 (g+8)))else some (e,g):Option (Int×Int))).bind fun⟨k,b⟩=>(lI (⟨#[0,1,2,2,3,3,3,3,4,4,4,4,4,4,4,4,5,5,5,5,5,5,5,5,5,5,5,5,5,5,5,5,6,6,6,6,6,6,6,6,6,6,6,6,6,6,6,6,6,6,6,6,6,6,6,6,6,6,6,6,6,6,6,6,7,7,7,7,7,7,7,7,7,7,7,7,7,7,7,7,7,7,7,7,7,7,7,7,7,7,7,7,7,7,7,7,7,7,7,7,7,7,7,7,7,7,7,7,7,7,7,7,7,7,7,7,7,7,7,7,7,7,7,7,7,7,7,7,8,8,8,8,8,8,8,8,8,8,8,8,8,8,8,8,8,8,8,8,8,8,8,8,8,8,8,8,8,8,8,8,8,8,8,8,8,8,8,8,8,8,8,8,8,8,8,8,8,8,8,8,8,8,8,8,8,8,8,8,8,8,8,8,8,8,8,8,8,8,8,8,8,8,8,8,8,8,8,8,8,8,8,8,8,8,8,8,8,8,8,8,8,8,8,8,8,8,8,8,8,8,8,8,8,8,8,8,8,8,8,8,8,8,8,8,8,8,8,8,8,8,8,8,8,8,8,8]⟩:ByteArray) (IntKind.wrap .u8 (k))).bind fun c=>some (w64 (b+(w64 (c))))
theorem ok197 {k} (d) (b:Int):OD k (d+1) 197 [.v (.int .u64 b)]=(F197 b).map (fun l=>i64 l):=by
 rw[od (fn:=p197) rfl rfl rfl]
 refine bo (e:=(fun(⟨c,f⟩:Int×Int)=>(nq [(0,.v (.int .u64 c)),(2,i64 f)] []))) ?_ fun⟨c,f⟩=>?_
 refine io ?_ (lf rfl)
 refine bo oi fun m=>?_
 exact lf rfl
 refine bo (e:=(fun(⟨g,h⟩:Int×Int)=>(nq [(0,.v (.int .u64 g)),(2,i64 h)] []))) ?_ fun⟨g,h⟩=>?_
 refine io ?_ (lf rfl)
 refine bo oi fun n=>?_
 exact lf rfl
 refine bo (e:=(fun(⟨i,a⟩:Int×Int)=>(nq [(0,.v (.int .u64 i)),(2,i64 a)] []))) ?_ fun⟨i,a⟩=>?_
 refine io ?_ (lf rfl)
 refine bo oi fun o=>?_
 exact lf rfl
 refine bo oi fun j=>?_
 exact lf rfl
def F189 (a:Int):Option Int:=
 (F197 a).bind fun b=>some b
theorem ok189 {k} (d) (a:Int):OD k (d+2) 189 [.v (.int .u64 a)]=(F189 a).map (fun b=>i64 b):=by
 rw[od (fn:=p189) rfl rfl rfl]
 refine bo (ok197 d a) fun c=>?_
 exact lf rfl
def F98 (a:Zg):Option Bool:=
 ((if decide (a.passes>0)then(shlO .i64 1 (w64 (a.passes-1))).bind fun b=>some (a.ending==b)else some false:Option (Bool))).bind fun c=>some c
theorem ok98 {k} (d) (a:Zg):OD k (d+1) 98 [.agg (Zg.g a)]=(F98 a).map (fun b=>bv b):=by
 rw[od (fn:=p98) rfl rfl rfl]
 refine bo (e:=id) ?_ fun f=>?_
 refine io ?_ (lf rfl)
 refine bo oi fun c=>?_
 exact lf rfl
 exact lf rfl
def F158 (a:Zg) (b:Zm):Option (Zg×Bool):=
 if b.RepeatStart||(a.body==0)then some (a,false)else if b.Endings !=a.ending then if((a.ending !=0)&&(!a.ended))||((iand .i64 b.Endings a.used)!=0)then some (a,false)else(F189 (IntKind.wrap .u64 (b.Endings))).bind fun k=>if a.passes==0 then if((iand .i64 b.Endings 1)==0)||(decide ((w64 (k-1))>6))then some ((Zg.mk a.started a.body (ior .i64 a.used b.Endings) b.Endings false a.passes),false)else if b.RepeatEnd !=0 then(F98 (Zg.mk a.started a.body (ior .i64 a.used b.Endings) b.Endings false a.passes)).bind fun l=>((if l||((a.passes !=0)&&(b.RepeatEnd !=a.passes))then some true else(F189 (IntKind.wrap .u64 (b.Endings))).bind fun m=>some (decide (m>=b.RepeatEnd)):Option (Bool))).bind fun n=>if n then some ((Zg.mk a.started a.body (ior .i64 a.used b.Endings) b.Endings false a.passes),false)else some ((Zg.mk a.started a.body (ior .i64 a.used b.Endings) b.Endings true b.RepeatEnd),true)else some ((Zg.mk a.started a.body (ior .i64 a.used b.Endings) b.Endings false a.passes),true)else((if decide ((w64 (k-1))>=a.passes)then some true else((if(w64 (k-1))==(w64 (a.passes-1))then(F98 (Zg.mk a.started a.body (ior .i64 a.used b.Endings) b.Endings false a.passes)).bind fun o=>((if !o then some true else(shlO .i64 1 a.passes).bind fun p=>some ((ior .i64 a.used b.Endings)!=(w64 (p-1))):Option (Bool))).bind fun q=>some q else some false:Option (Bool))).bind fun c=>some c:Option (Bool))).bind fun d=>if d then some ((Zg.mk a.started a.body (ior .i64 a.used b.Endings) b.Endings false a.passes),false)else if b.RepeatEnd !=0 then(F98 (Zg.mk a.started a.body (ior .i64 a.used b.Endings) b.Endings false a.passes)).bind fun e=>((if e||((a.passes !=0)&&(b.RepeatEnd !=a.passes))then some true else(F189 (IntKind.wrap .u64 (b.Endings))).bind fun f=>some (decide (f>=b.RepeatEnd)):Option (Bool))).bind fun g=>if g then some ((Zg.mk a.started a.body (ior .i64 a.used b.Endings) b.Endings false a.passes),false)else some ((Zg.mk a.started a.body (ior .i64 a.used b.Endings) b.Endings true b.RepeatEnd),true)else some ((Zg.mk a.started a.body (ior .i64 a.used b.Endings) b.Endings false a.passes),true)else if a.ended then some (a,false)else if b.RepeatEnd !=0 then(F98 a).bind fun h=>((if h||((a.passes !=0)&&(b.RepeatEnd !=a.passes))then some true else(F189 (IntKind.wrap .u64 (a.ending))).bind fun i=>some (decide (i>=b.RepeatEnd)):Option (Bool))).bind fun j=>if j then some (a,false)else some ((Zg.mk a.started a.body a.used a.ending true b.RepeatEnd),true)else some (a,true)
theorem ok158 {k} (d) (a:Zg) (b:Zm):OD k (d+3) 158 [.agg (Zg.g a),.agg (Zm.g b)]=(F158 a b).map (fun⟨o,p⟩=>.tup [.agg (Zg.g o),bv p]):=by
 rw[od (fn:=p158) rfl rfl rfl]
 refine bz (gor rfl) ?_
 refine io (lf rfl) ?_
 refine io ?_ ?_
 refine bz (gand rfl) ?_
 refine bz (gor rfl) ?_
 refine io (lf rfl) ?_
 refine bo (ok189 d (IntKind.wrap .u64 (b.Endings))) fun q=>?_
 refine io ?_ ?_
 refine bz (gor rfl) ?_
 refine io (lf rfl) ?_
 refine io ?_ (lf rfl)
 refine bo (ok98 (d+1) (Zg.mk a.started a.body (ior .i64 a.used b.Endings) b.Endings false a.passes)) fun r=>?_
 refine bz (gor (bz (gand rfl) rfl)) ?_
 refine bo (e:=id) ?_ fun t=>?_
 refine io (lf rfl) ?_
 refine bo (ok189 d (IntKind.wrap .u64 (b.Endings))) fun s=>?_
 exact lf rfl
 refine io (lf rfl) (lf rfl)
 refine bo (e:=id) ?_ fun f=>?_
 refine io (lf rfl) ?_
 refine bo (e:=id) ?_ fun c=>?_
 refine io ?_ (lf rfl)
 refine bo (ok98 (d+1) (Zg.mk a.started a.body (ior .i64 a.used b.Endings) b.Endings false a.passes)) fun u=>?_
 refine bo (e:=id) ?_ fun w=>?_
 refine io (lf rfl) ?_
 refine bo oi fun v=>?_
 exact lf rfl
 exact lf rfl
 exact lf rfl
 refine io (lf rfl) ?_
 refine io ?_ (lf rfl)
 refine bo (ok98 (d+1) (Zg.mk a.started a.body (ior .i64 a.used b.Endings) b.Endings false a.passes)) fun h=>?_
 refine bz (gor (bz (gand rfl) rfl)) ?_
 refine bo (e:=id) ?_ fun j=>?_
 refine io (lf rfl) ?_
 refine bo (ok189 d (IntKind.wrap .u64 (b.Endings))) fun i=>?_
 exact lf rfl
 refine io (lf rfl) (lf rfl)
 refine io (lf rfl) ?_
 refine io ?_ (lf rfl)
 refine bo (ok98 (d+1) a) fun l=>?_
 refine bz (gor (bz (gand rfl) rfl)) ?_
 refine bo (e:=id) ?_ fun n=>?_
 refine io (lf rfl) ?_
 refine bo (ok189 d (IntKind.wrap .u64 (a.ending))) fun m=>?_
 exact lf rfl
 refine io (lf rfl) (lf rfl)
def F97 (a:Zg) (b:Zm):Option (Zg×Bool):=
 if b.Endings !=0 then(F158 a b).bind fun⟨e,f⟩=>some (e,f)else if a.ending !=0 then(F98 a).bind fun g=>if !g then some (a,false)else if b.RepeatStart then if false then some ((Zg.mk false 0 0 0 false 0),false)else((if b.RepeatEnd !=0 then some (false,0)else some (true,1):Option (Bool×Int))).bind fun⟨h,i⟩=>some ((Zg.mk h i 0 0 false 0),true)else((if b.RepeatEnd !=0 then some 0 else some 1:Option (Int))).bind fun j=>some ((Zg.mk false j 0 0 false 0),true)else if b.RepeatStart then if a.started then some (a,false)else((if b.RepeatEnd !=0 then some (false,0)else some (true,1):Option (Bool×Int))).bind fun⟨k,c⟩=>some ((Zg.mk k c 0 0 false 0),true)else((if b.RepeatEnd !=0 then some (Zg.mk false 0 0 0 false 0)else some (Zg.mk a.started (w64 (a.body+1)) a.used a.ending a.ended a.passes):Option (Zg))).bind fun d=>some (d,true)
theorem ok97 {k} (d) (f:Zg) (a:Zm):OD k (d+4) 97 [.agg (Zg.g f),.agg (Zm.g a)]=(F97 f a).map (fun⟨m,n⟩=>.tup [.agg (Zg.g m),bv n]):=by
 rw[od (fn:=p97) rfl rfl rfl]
 refine io ?_ ?_
 refine bo (ok158 d f a) fun⟨o,p⟩=>?_
 exact lf rfl
 refine io ?_ ?_
 refine bo (ok98 (d+2) f) fun q=>?_
 refine io (lf rfl) ?_
 refine io ?_ ?_
 refine io (lf rfl) ?_
 refine bo (e:=(fun(⟨h,i⟩:Bool×Int)=>(nq [(2,.ref 0 0),(4,.ref 2 0)] [(2,.box [bv false,i64 0,i64 0,i64 0,bv false,i64 0]),(1,.box (Zm.g a)),(0,.box [bv h,i64 i,i64 0,i64 0,bv false,i64 0])]))) ?_ fun⟨h,i⟩=>?_
 refine io (lf rfl) (lf rfl)
 exact lf rfl
 refine bo (e:=(fun(j:Int)=>(nq [(2,.ref 0 0),(4,.ref 2 0)] [(2,.box [bv false,i64 0,i64 0,i64 0,bv false,i64 0]),(1,.box (Zm.g a)),(0,.box [bv false,i64 j,i64 0,i64 0,bv false,i64 0])]))) ?_ fun j=>?_
 refine io (lf rfl) (lf rfl)
 exact lf rfl
 refine io ?_ ?_
 refine io (lf rfl) ?_
 refine bo (e:=(fun(⟨l,b⟩:Bool×Int)=>(nq [(2,.ref 0 0),(4,.ref 2 0)] [(2,.box [bv false,i64 0,i64 0,i64 0,bv false,i64 0]),(1,.box (Zm.g a)),(0,.box [bv l,i64 b,i64 0,i64 0,bv false,i64 0])]))) ?_ fun⟨l,b⟩=>?_
 refine io (lf rfl) (lf rfl)
 exact lf rfl
 refine bo (e:=(fun(c:Zg)=>(nq [(2,.ref 0 0),(4,.ref 2 0)] [(2,.box [bv false,i64 0,i64 0,i64 0,bv false,i64 0]),(1,.box (Zm.g a)),(0,.box (Zg.g c))]))) ?_ fun c=>?_
 refine io (lf rfl) (lf rfl)
 exact lf rfl
def Fn45 (p:List Zv) (a:Z0) (n:Int):Option (List Zv):=
 (Fn70_6 p a n).bind fun e=>if decide ((e.length:Int)>(p.length:Int))then some e else(aO (E:=(Zg×(List Zv))⊕Zg) (fun(⟨o,b⟩:Int×Zg)=>if decide (o<(a.Measures.length:Int))then(lget a.Measures o).bind fun c=>(F97 b c).bind fun⟨d,f⟩=>if !f then(Fn63 true c.ID e a n).bind fun g=>some (.inr (.inl (d,g)))else some (.inl ((w64 (o+1)),d))else some (.inr (.inr b))) B64 (0,(Zg.mk false 0 0 0 false 0))).bind fun h=>(match h with|.inl ⟨x15,x16⟩=>some x16|.inr x17=>((if x17.started&&(x17.ending==0)then some true else((if x17.ending !=0 then(F98 x17).bind fun i=>some (!i)else some false:Option (Bool))).bind fun j=>some j:Option (Bool))).bind fun k=>(lget a.Measures (w64 ((a.Measures.length:Int)-1))).bind fun l=>(Fn63 k l.ID e a n).bind fun m=>some m)
theorem okn45 {k} (d) (l:List Zv) (a:Z0) (b:Int):runR (XD k (d+5)) 45 [.ref 1 0] [(2,.lst 131 3 false (I Zv.g l)),(1,.box (ck a b (.own 2)))] 3 false=(Fn45 l a b).map (fun(p:List Zv)=>((.tup [],[(2,.lst 131 3 false (I Zv.g p)),(1,.box (ck a b (.own 2)))],0))):=by
 rw[xd (fn:=p45) rfl]
 refine bz (bP Zv.g l) ?_
 refine bo (okn70_6 (d+1) l a b) fun j=>?_
 refine bz (bP Zv.g j) ?_
 refine io (lf rfl) ?_
 refine bz lm ?_
 refine bo (aI (S:=Int×Zg) (enc:=fun⟨q,c⟩=>(Q [(0,.ref 1 0),(3,.ref 3 0),(26,.is 22 (I Zm.g a.Measures)),(27,i64 (a.Measures.length:Int)),(28,i64 q)] [(3,.box (Zg.g c)),(2,.lst 131 3 false (I Zv.g j)),(1,.box (ck a b (.own 2)))])) (encE:=(fun|.inl ⟨h,i⟩=>(rq [(3,.ref 3 0)] [(3,.box (Zg.g h)),(2,.lst 131 3 false (I Zv.g i)),(1,.box (ck a b (.own 2)))])|.inr x17=>(xq 0 [(0,.ref 1 0),(3,.ref 3 0)] [(3,.box (Zg.g x17)),(2,.lst 131 3 false (I Zv.g j)),(1,.box (ck a b (.own 2)))]))) (fun⟨q,c⟩=>?_) B64 (0,(Zg.mk false 0 0 0 false 0))) fun m=>?_
 refine io ?_ (lf rfl)
 refine bo rg fun f=>?_
 refine bo (ok97 d c f) fun⟨r,s⟩=>?_
 refine io ?_ (lf rfl)
 refine bo (okn63 (d+3) true f.ID j a b) fun t=>?_
 exact lf rfl
 rcases m with⟨h,i⟩|x17
 exact lf rfl
 refine bz (gand rfl) ?_
 refine bo (e:=id) ?_ fun n=>?_
 refine io (lf rfl) ?_
 refine bo (e:=id) ?_ fun v=>?_
 refine io ?_ (lf rfl)
 refine bo (ok98 (d+3) x17) fun u=>?_
 exact lf rfl
 exact lf rfl
 refine bz lm ?_
 refine bo rg fun o=>?_
 refine bo (okn63 (d+3) n o.ID j a b) fun w=>?_
 exact lf rfl
def F100 (a b:Zm):Option Bool:=
 some (((b.Jump !=0)&&(a.Jump !=0))||((iand .i64 b.Labels a.Labels)!=0))
theorem ok100 {k} (d) (a b:Zm):OD k (d+1) 100 [.agg (Zm.g a),.ip (Zm.g b)]=(F100 a b).map (fun c=>bv c):=by
 rw[od (fn:=p100) rfl rfl rfl]
 refine bz (gand rfl) ?_
 refine bz (gor rfl) ?_
 exact lf rfl
def F159 (b:List Zm) (c:Zm):Option Int:=
 (aO (E:=Int⊕Unit) (fun(a:Int)=>if decide (a<(b.length:Int))then(lget b a).bind fun d=>(F100 d c).bind fun e=>if e then some (.inr (.inl a))else some (.inl (w64 (a+1)))else some (.inr (.inr ()))) B64 0).bind fun f=>(match f with|.inl x8=>some x8|.inr _=>some (-1))
theorem ok159 {k} (d) (a:List Zm) (b:Zm):OD k (d+2) 159 [.is 22 (I Zm.g a),.fn 100 [] [.ip (Zm.g b)]]=(F159 a b).map (fun i=>i64 i):=by
 rw[od (fn:=p159) rfl rfl rfl]
 refine bz lm ?_
 refine bo (aI (S:=Int) (enc:=fun c=>(Q [(0,.is 22 (I Zm.g a)),(1,.fn 100 [] [.ip (Zm.g b)]),(7,i64 (a.length:Int)),(8,i64 c)] [])) (encE:=(fun|.inl e=>(rq [(4,i64 e)] [])|.inr _=>(xq 0 [] []))) (fun c=>?_) B64 0) fun h=>?_
 refine io ?_ (lf rfl)
 refine bo rg fun f=>?_
 refine bo (ok100 d f b) fun j=>?_
 refine io (lf rfl) (lf rfl)
 rcases h with e|_
 exact lf rfl
 exact lf rfl
def F101 (a:List Zm) (b:Zm):Option Bool:=
 (F159 a b).bind fun c=>some (decide (c>=0))
theorem ok101 {k} (d) (a:List Zm) (b:Zm):OD k (d+3) 101 [.is 22 (I Zm.g a),.fn 100 [] [.ip (Zm.g b)]]=(F101 a b).map (fun c=>bv c):=by
 rw[od (fn:=p101) rfl rfl rfl]
 refine bo (ok159 d a b) fun e=>?_
 exact lf rfl
def F190 (a:Zm) (b:Int):Option Bool:=
 some ((iand .i64 a.Labels b)!=0)
theorem ok190 {k} (d) (a:Zm) (b:Int):OD k (d+1) 190 [.agg (Zm.g a),.ip [i64 b]]=(F190 a b).map (fun c=>bv c):=by
 rw[od (fn:=p190) rfl rfl rfl]
 exact lf rfl
def F159_2 (b:List Zm) (c:Int):Option Int:=
 (aO (E:=Int⊕Unit) (fun(a:Int)=>if decide (a<(b.length:Int))then(lget b a).bind fun d=>(F190 d c).bind fun e=>if e then some (.inr (.inl a))else some (.inl (w64 (a+1)))else some (.inr (.inr ()))) B64 0).bind fun f=>(match f with|.inl x8=>some x8|.inr _=>some (-1))
theorem ok159_2 {k} (d) (a:List Zm) (b:Int):OD k (d+2) 159 [.is 22 (I Zm.g a),.fn 190 [] [.ip [i64 b]]]=(F159_2 a b).map (fun i=>i64 i):=by
 rw[od (fn:=p159) rfl rfl rfl]
 refine bz lm ?_
 refine bo (aI (S:=Int) (enc:=fun c=>(Q [(0,.is 22 (I Zm.g a)),(1,.fn 190 [] [.ip [i64 b]]),(7,i64 (a.length:Int)),(8,i64 c)] [])) (encE:=(fun|.inl e=>(rq [(4,i64 e)] [])|.inr _=>(xq 0 [] []))) (fun c=>?_) B64 0) fun h=>?_
 refine io ?_ (lf rfl)
 refine bo rg fun f=>?_
 refine bo (ok190 d f b) fun j=>?_
 refine io (lf rfl) (lf rfl)
 rcases h with e|_
 exact lf rfl
 exact lf rfl
def F161 (a:Zk) (b:Int):Option Int:=
 (F159_2 a.s'.Measures b).bind fun c=>some c
theorem ok161 {k} (d) (a:Zk) (b:Int):OD k (d+3) 161 [.ip (Zk.g a),i64 b]=(F161 a b).map (fun c=>i64 c):=by
 rw[od (fn:=p161) rfl rfl rfl]
 refine bo (ok159_2 d a.s'.Measures b) fun e=>?_
 exact lf rfl
def F160 (a:Int) (b:Zk) (c:Int):Option Bool:=
 (F161 b a).bind fun d=>(F65 d 0 c).bind fun e=>some e
theorem ok160 {k} (d) (a:Int) (b:Zk) (c:Int):OD k (d+4) 160 [i64 a,.ip [.ip (Zk.g b)],.ip [i64 c]]=(F160 a b c).map (fun f=>bv f):=by
 rw[od (fn:=p160) rfl rfl rfl]
 refine bo (ok161 d b a) fun e=>?_
 refine bo (ok65 (d+2) e 0 c) fun h=>?_
 exact lf rfl
def F102 (b:Zk) (a f:Int):Option Bool:=
 ((if decide (a>=4)then(F160 1 b f).bind fun g=>some (!g)else some false:Option (Bool))).bind fun h=>if h then some false else((if a==2 then some (a==2)else some (a==5):Option (Bool))).bind fun i=>if i then(F160 4 b f).bind fun j=>some j else((if a==3 then some (a==3)else some (a==6):Option (Bool))).bind fun k=>if k then(F160 8 b f).bind fun l=>((if l then(F161 b 2).bind fun c=>(F161 b 8).bind fun d=>some (decide (c>d))else some false:Option (Bool))).bind fun e=>some e else some true
theorem ok102 {k} (d) (a:Zk) (c b:Int):OD k (d+5) 102 [.ip (Zk.g a),i64 c,i64 b]=(F102 a c b).map (fun m=>bv m):=by
 rw[od (fn:=p102) rfl rfl rfl]
 refine bo (e:=id) ?_ fun o=>?_
 refine io ?_ (lf rfl)
 refine bo (ok160 d 1 a b) fun n=>?_
 exact lf rfl
 refine io (lf rfl) ?_
 refine bo (e:=(fun(f:Bool)=>(nq [(3,.ref 0 0),(7,.fn 160 [] [.ref 0 0,.ref 1 0]),(16,i64 c),(17,bv f)] [(1,.box [i64 b]),(0,.box [.ip (Zk.g a)])]))) ?_ fun f=>?_
 refine io (lf rfl) (lf rfl)
 refine io ?_ ?_
 refine bo (ok160 d 4 a b) fun p=>?_
 exact lf rfl
 refine bo (e:=(fun(h:Bool)=>(nq [(3,.ref 0 0),(7,.fn 160 [] [.ref 0 0,.ref 1 0]),(22,bv h)] [(1,.box [i64 b]),(0,.box [.ip (Zk.g a)])]))) ?_ fun h=>?_
 refine io (lf rfl) (lf rfl)
 refine io ?_ (lf rfl)
 refine bo (ok160 d 8 a b) fun q=>?_
 refine bo (e:=id) ?_ fun l=>?_
 refine io ?_ (lf rfl)
 refine bo (ok161 (d+1) a 2) fun i=>?_
 refine bo (ok161 (d+1) a 8) fun j=>?_
 exact lf rfl
 exact lf rfl
def F99 (c:Int) (a:Zm) (d:Zk):Option Bool:=
 (F65 a.Jump 0 6).bind fun e=>((if !e then some true else(F65 a.Labels 0 15).bind fun f=>some (!f):Option (Bool))).bind fun g=>if g||(((a.Jump !=0)||(a.Labels !=0))&&((a.RepeatEnd !=0)||(a.Endings !=0)))then some true else(dT d.s'.Measures 0 c).bind fun h=>(F101 h a).bind fun i=>((if i then some true else(F102 d a.Jump c).bind fun j=>some (!j):Option (Bool))).bind fun b=>some b
theorem ok99 {k} (d) (b:Int) (a:Zm) (c:Zk):OD k (d+6) 99 [i64 b,.agg (Zm.g a),.ip [.ip (Zk.g c)]]=(F99 b a c).map (fun i=>bv i):=by
 rw[od (fn:=p99) rfl rfl rfl]
 refine bo (ok65 (d+4) a.Jump 0 6) fun j=>?_
 refine bo (e:=id) ?_ fun m=>?_
 refine io (lf rfl) ?_
 refine bo (ok65 (d+4) a.Labels 0 15) fun l=>?_
 exact lf rfl
 refine bz (gor (bz (gor rfl) (bz (gand (bz (gor rfl) rfl)) rfl))) ?_
 refine io (lf rfl) ?_
 refine bo (bQ _ _ _ _) fun h=>?_
 refine bo (ok101 (d+2) h a) fun n=>?_
 refine bo (e:=id) ?_ fun f=>?_
 refine io (lf rfl) ?_
 refine bo (ok102 d c a.Jump b) fun o=>?_
 exact lf rfl
 exact lf rfl
def Fn70_7 (i:List Zv) (a:Z0) (g:Int):Option (List Zv):=
 (aO (E:=List Zv) (fun(⟨b,f⟩:Int×(List Zv))=>if decide (b<(a.Measures.length:Int))then(lget a.Measures b).bind fun h=>(F99 b h (Zk.mk a g f)).bind fun c=>(Fn63 c h.ID f a g).bind fun d=>some (.inl ((w64 (b+1)),d))else some (.inr f)) B64 (0,i)).bind fun e=>some e
theorem okn70_7 {k} (d) (f:List Zv) (a:Z0) (b:Int):runR (XD k (d+7)) 70 [.ref 1 0,.fn 99 [] [.ref 3 0]] [(3,.box [.ref 1 0]),(2,.lst 131 3 false (I Zv.g f)),(1,.box (ck a b (.own 2)))] 4 false=(Fn70_7 f a b).map (fun(i:List Zv)=>((.tup [],[(3,.box [.ref 1 0]),(2,.lst 131 3 false (I Zv.g i)),(1,.box (ck a b (.own 2)))],0))):=by
 rw[xd (fn:=p70) rfl]
 refine bz lm ?_
 refine bo (aI (S:=Int×(List Zv)) (enc:=fun⟨j,e⟩=>(Q [(0,.ref 1 0),(1,.fn 99 [] [.ref 3 0]),(10,.is 22 (I Zm.g a.Measures)),(11,i64 (a.Measures.length:Int)),(12,i64 j)] [(3,.box [.ref 1 0]),(2,.lst 131 3 false (I Zv.g e)),(1,.box (ck a b (.own 2)))])) (encE:=(fun(c:List Zv)=>(xq 0 [] [(3,.box [.ref 1 0]),(2,.lst 131 3 false (I Zv.g c)),(1,.box (ck a b (.own 2)))]))) (fun⟨j,e⟩=>?_) B64 (0,f)) fun c=>?_
 refine io ?_ (lf rfl)
 refine bo rg fun l=>?_
 refine bo (ok99 d j l (Zk.mk a b e)) fun h=>?_
 refine bo (okn63 (d+5) h l.ID e a b) fun m=>?_
 exact lf rfl
 exact lf rfl
def Fn46 (a:List Zv) (b:Z0) (c:Int):Option (List Zv):=
 (Fn70_7 a b c).bind fun d=>some d
theorem okn46 {k} (d) (c:List Zv) (a:Z0) (b:Int):runR (XD k (d+8)) 46 [.ref 1 0] [(2,.lst 131 3 false (I Zv.g c)),(1,.box (ck a b (.own 2)))] 3 false=(Fn46 c a b).map (fun(e:List Zv)=>((.tup [],[(2,.lst 131 3 false (I Zv.g e)),(1,.box (ck a b (.own 2)))],0))):=by
 rw[xd (fn:=p46) rfl]
 refine bo (okn70_7 d c a b) fun f=>?_
 exact lf rfl
def F103 (r:Int) (c:Zm):Option Bool:=
 (F27 c).bind fun⟨m,s⟩=>((if c.Swing !=0 then(F65 c.Swing 50 75).bind fun n=>some (!n)else some false:Option (Bool))).bind fun o=>((if o then some true else(F65 c.Break 0 3).bind fun p=>some (!p):Option (Bool))).bind fun q=>(aO (E:=Bool) (fun(⟨d,a⟩:Bool×Int)=>if decide (a<(c.Tempi.length:Int))then(lget c.Tempi a).bind fun b=>((if d then some true else(F65 b.At 0 (w64 (m-1))).bind fun e=>some (!e):Option (Bool))).bind fun f=>((if f then some true else(F65 b.Micros 1 60000000).bind fun g=>some (!g):Option (Bool))).bind fun h=>((if h then some true else((if decide (a>0)then(lget c.Tempi (w64 (a-1))).bind fun i=>some (decide (b.At<=i.At))else some false:Option (Bool))).bind fun j=>some j:Option (Bool))).bind fun k=>some (.inl (k,(w64 (a+1))))else some (.inr d)) B64 (q,0)).bind fun l=>some l
theorem ok103 {k} (d) (i:Int) (a:Zm):OD k (d+5) 103 [i64 i,.agg (Zm.g a)]=(F103 i a).map (fun t=>bv t):=by
 rw[od (fn:=p103) rfl rfl rfl]
 refine bo (ok27 d a) fun⟨j,u⟩=>?_
 refine bo (e:=id) ?_ fun w=>?_
 refine io ?_ (lf rfl)
 refine bo (ok65 (d+3) a.Swing 50 75) fun v=>?_
 exact lf rfl
 refine bo (e:=id) ?_ fun s=>?_
 refine io (lf rfl) ?_
 refine bo (ok65 (d+3) a.Break 0 3) fun x=>?_
 exact lf rfl
 refine bz lm ?_
 refine bo (aI (S:=Bool×Int) (enc:=fun⟨b,c⟩=>(Q [(3,.ref 0 0),(5,i64 j),(7,bv b),(31,.is 3 (I Zt.g a.Tempi)),(32,i64 (a.Tempi.length:Int)),(33,i64 c)] [(0,.box (Zm.g a))])) (encE:=(fun(h:Bool)=>(xq 0 [(7,bv h)] [(0,.box (Zm.g a))]))) (fun⟨b,c⟩=>?_) B64 (s,0)) fun h=>?_
 refine io ?_ (lf rfl)
 refine bo rg fun f=>?_
 refine bo (e:=id) ?_ fun m=>?_
 refine io (lf rfl) ?_
 refine bo (ok65 (d+3) f.At 0 (w64 (j-1))) fun l=>?_
 exact lf rfl
 refine bo (e:=id) ?_ fun o=>?_
 refine io (lf rfl) ?_
 refine bo (ok65 (d+3) f.Micros 1 60000000) fun n=>?_
 exact lf rfl
 refine bo (e:=id) ?_ fun r=>?_
 refine io (lf rfl) ?_
 refine bo (e:=id) ?_ fun q=>?_
 refine io ?_ (lf rfl)
 refine bo rg fun p=>?_
 exact lf rfl
 exact lf rfl
 exact lf rfl
 exact lf rfl
def Fn70_8 (h:List Zv) (e:Z0) (i:Int):Option (List Zv):=
 (aO (E:=List Zv) (fun(⟨a,f⟩:Int×(List Zv))=>if decide (a<(e.Measures.length:Int))then(lget e.Measures a).bind fun g=>(F103 a g).bind fun b=>(Fn63 b g.ID f e i).bind fun c=>some (.inl ((w64 (a+1)),c))else some (.inr f)) B64 (0,h)).bind fun d=>some d
theorem okn70_8 {k} (d) (e:List Zv) (a:Z0) (b:Int):runR (XD k (d+6)) 70 [.ref 1 0,.fn 103 [] []] [(2,.lst 131 3 false (I Zv.g e)),(1,.box (ck a b (.own 2)))] 3 false=(Fn70_8 e a b).map (fun(h:List Zv)=>((.tup [],[(2,.lst 131 3 false (I Zv.g h)),(1,.box (ck a b (.own 2)))],0))):=by
 rw[xd (fn:=p70) rfl]
 refine bz lm ?_
 refine bo (aI (S:=Int×(List Zv)) (enc:=fun⟨i,j⟩=>(Q [(0,.ref 1 0),(1,.fn 103 [] []),(10,.is 22 (I Zm.g a.Measures)),(11,i64 (a.Measures.length:Int)),(12,i64 i)] [(2,.lst 131 3 false (I Zv.g j)),(1,.box (ck a b (.own 2)))])) (encE:=(fun(c:List Zv)=>(xq 0 [] [(2,.lst 131 3 false (I Zv.g c)),(1,.box (ck a b (.own 2)))]))) (fun⟨i,j⟩=>?_) B64 (0,e)) fun c=>?_
 refine io ?_ (lf rfl)
 refine bo rg fun l=>?_
 refine bo (ok103 d i l) fun f=>?_
 refine bo (okn63 (d+4) f l.ID j a b) fun m=>?_
 exact lf rfl
 exact lf rfl
def Fn47 (a:List Zv) (b:Z0) (c:Int):Option (List Zv):=
 (Fn70_8 a b c).bind fun d=>some d
theorem okn47 {k} (d) (c:List Zv) (a:Z0) (b:Int):runR (XD k (d+7)) 47 [.ref 1 0] [(2,.lst 131 3 false (I Zv.g c)),(1,.box (ck a b (.own 2)))] 3 false=(Fn47 c a b).map (fun(e:List Zv)=>((.tup [],[(2,.lst 131 3 false (I Zv.g e)),(1,.box (ck a b (.own 2)))],0))):=by
 rw[xd (fn:=p47) rfl]
 refine bo (okn70_8 d c a b) fun f=>?_
 exact lf rfl
def F104 (b:Zp) (f:Ze) (c:Zk):Option Bool:=
 (F89 c.s' b).bind fun⟨e,g⟩=>((if !g then some true else(F88 f).bind fun h=>some (!h):Option (Bool))).bind fun i=>if i||(e.Measure==b.Measure)then some false else(lget c.s'.Measures b.Measure).bind fun a=>(lget c.s'.Measures e.Measure).bind fun d=>some ((((((a.RepeatEnd !=0)||(a.Jump !=0))||((iand .i64 a.Labels 12)!=0))||(a.Endings !=d.Endings))||d.RepeatStart)||((iand .i64 d.Labels 3)!=0))
theorem ok104 {k} (d) (a:Zp) (b:Ze) (c:Zk):OD k (d+5) 104 [.agg (Zp.g a),.agg (Ze.g b),.ip [.ip (Zk.g c)]]=(F104 a b c).map (fun f=>bv f):=by
 rw[od (fn:=p104) rfl rfl rfl]
 refine bo (ok89 (d+1) c.s' a) fun⟨h,i⟩=>?_
 refine bo (e:=id) ?_ fun l=>?_
 refine io (lf rfl) ?_
 refine bo (ok88 d b) fun j=>?_
 exact lf rfl
 refine bz (gor rfl) ?_
 refine io (lf rfl) ?_
 refine bo rg fun m=>?_
 refine bo rg fun n=>?_
 refine bz (gor rfl) ?_
 refine bz (gor rfl) ?_
 refine bz (gor rfl) ?_
 refine bz (gor rfl) ?_
 refine bz (gor rfl) ?_
 exact lf rfl
def Fn77_5 (u:List Zv) (s:Z0) (t:Int):Option (List Zv):=
 (aO (E:=List Zv) (fun(⟨c,m⟩:Int×(List Zv))=>if decide (c<(s.Measures.length:Int))then(lget s.Measures c).bind fun n=>(aO (E:=List Zv) (fun(⟨d,o⟩:Int×(List Zv))=>if decide (d<(n.Cells.length:Int))then(lget n.Cells d).bind fun p=>(aO (E:=List Zv) (fun(⟨e,q⟩:Int×(List Zv))=>if decide (e<(p.Voices.length:Int))then(lget p.Voices e).bind fun r=>(aO (E:=List Zv) (fun(⟨a,b⟩:Int×(List Zv))=>if decide (a<(r.Events.length:Int))then(lget r.Events a).bind fun f=>(F104 (Zp.mk 4 0 d c e a 0) f (Zk.mk s t b)).bind fun g=>(Fn63 g f.ID b s t).bind fun h=>some (.inl ((w64 (a+1)),h))else some (.inr b)) B64 (0,q)).bind fun i=>some (.inl ((w64 (e+1)),i))else some (.inr q)) B64 (0,o)).bind fun j=>some (.inl ((w64 (d+1)),j))else some (.inr o)) B64 (0,m)).bind fun k=>some (.inl ((w64 (c+1)),k))else some (.inr m)) B64 (0,u)).bind fun l=>some l
theorem okn77_5 {k} (d) (x:List Zv) (c:Z0) (i:Int):runR (XD k (d+6)) 77 [.ref 1 0,.fn 104 [] [.ref 3 0]] [(3,.box [.ref 1 0]),(2,.lst 131 3 false (I Zv.g x)),(1,.box (ck c i (.own 2)))] 4 false=(Fn77_5 x c i).map (fun(w:List Zv)=>((.tup [],[(3,.box [.ref 1 0]),(2,.lst 131 3 false (I Zv.g w)),(1,.box (ck c i (.own 2)))],0))):=by
 rw[xd (fn:=p77) rfl]
 refine bz lm ?_
 refine bo (aI (S:=Int×(List Zv)) (enc:=fun⟨b,s⟩=>(Q [(0,.ref 1 0),(1,.fn 104 [] [.ref 3 0]),(16,.is 22 (I Zm.g c.Measures)),(17,i64 (c.Measures.length:Int)),(18,i64 b)] [(3,.box [.ref 1 0]),(2,.lst 131 3 false (I Zv.g s)),(1,.box (ck c i (.own 2)))])) (encE:=(fun(r:List Zv)=>(xq 0 [] [(3,.box [.ref 1 0]),(2,.lst 131 3 false (I Zv.g r)),(1,.box (ck c i (.own 2)))]))) (fun⟨b,s⟩=>?_) B64 (0,x)) fun r=>?_
 refine io ?_ (lf rfl)
 refine bo rg fun a=>?_
 refine bz lm ?_
 refine bo (aI (S:=Int×(List Zv)) (enc:=fun⟨e,t⟩=>(Q [(0,.ref 1 0),(1,.fn 104 [] [.ref 3 0]),(4,i64 b),(16,.is 22 (I Zm.g c.Measures)),(17,i64 (c.Measures.length:Int)),(18,i64 b),(24,.is 2 (I Zw.g a.Cells)),(25,i64 (a.Cells.length:Int)),(26,i64 e)] [(4,.box (Zm.g a)),(3,.box [.ref 1 0]),(2,.lst 131 3 false (I Zv.g t)),(1,.box (ck c i (.own 2)))])) (encE:=(fun(q:List Zv)=>(xq 2 [(0,.ref 1 0),(1,.fn 104 [] [.ref 3 0]),(16,.is 22 (I Zm.g c.Measures)),(17,i64 (c.Measures.length:Int)),(18,i64 b)] [(4,.box (Zm.g a)),(3,.box [.ref 1 0]),(2,.lst 131 3 false (I Zv.g q)),(1,.box (ck c i (.own 2)))]))) (fun⟨e,t⟩=>?_) B64 (0,s)) fun q=>?_
 refine io ?_ (lf rfl)
 refine bo rg fun f=>?_
 refine bz lm ?_
 refine bo (aI (S:=Int×(List Zv)) (enc:=fun⟨j,u⟩=>(Q [(0,.ref 1 0),(1,.fn 104 [] [.ref 3 0]),(4,i64 b),(6,i64 e),(16,.is 22 (I Zm.g c.Measures)),(17,i64 (c.Measures.length:Int)),(18,i64 b),(24,.is 2 (I Zw.g a.Cells)),(25,i64 (a.Cells.length:Int)),(26,i64 e),(32,.is 2 (I Zo.g f.Voices)),(33,i64 (f.Voices.length:Int)),(34,i64 j)] [(5,.box (Zw.g f)),(4,.box (Zm.g a)),(3,.box [.ref 1 0]),(2,.lst 131 3 false (I Zv.g u)),(1,.box (ck c i (.own 2)))])) (encE:=(fun(p:List Zv)=>(xq 4 [(0,.ref 1 0),(1,.fn 104 [] [.ref 3 0]),(4,i64 b),(16,.is 22 (I Zm.g c.Measures)),(17,i64 (c.Measures.length:Int)),(18,i64 b),(24,.is 2 (I Zw.g a.Cells)),(25,i64 (a.Cells.length:Int)),(26,i64 e)] [(5,.box (Zw.g f)),(4,.box (Zm.g a)),(3,.box [.ref 1 0]),(2,.lst 131 3 false (I Zv.g p)),(1,.box (ck c i (.own 2)))]))) (fun⟨j,u⟩=>?_) B64 (0,t)) fun p=>?_
 refine io ?_ (lf rfl)
 refine bo rg fun m=>?_
 refine bz lm ?_
 refine bo (aI (S:=Int×(List Zv)) (enc:=fun⟨l,h⟩=>(Q [(0,.ref 1 0),(1,.fn 104 [] [.ref 3 0]),(4,i64 b),(6,i64 e),(8,i64 j),(16,.is 22 (I Zm.g c.Measures)),(17,i64 (c.Measures.length:Int)),(18,i64 b),(24,.is 2 (I Zw.g a.Cells)),(25,i64 (a.Cells.length:Int)),(26,i64 e),(32,.is 2 (I Zo.g f.Voices)),(33,i64 (f.Voices.length:Int)),(34,i64 j),(40,.is 13 (I Ze.g m.Events)),(41,i64 (m.Events.length:Int)),(42,i64 l)] [(6,.box (Zo.g m)),(5,.box (Zw.g f)),(4,.box (Zm.g a)),(3,.box [.ref 1 0]),(2,.lst 131 3 false (I Zv.g h)),(1,.box (ck c i (.own 2)))])) (encE:=(fun(o:List Zv)=>(xq 6 [(0,.ref 1 0),(1,.fn 104 [] [.ref 3 0]),(4,i64 b),(6,i64 e),(16,.is 22 (I Zm.g c.Measures)),(17,i64 (c.Measures.length:Int)),(18,i64 b),(24,.is 2 (I Zw.g a.Cells)),(25,i64 (a.Cells.length:Int)),(26,i64 e),(32,.is 2 (I Zo.g f.Voices)),(33,i64 (f.Voices.length:Int)),(34,i64 j)] [(6,.box (Zo.g m)),(5,.box (Zw.g f)),(4,.box (Zm.g a)),(3,.box [.ref 1 0]),(2,.lst 131 3 false (I Zv.g o)),(1,.box (ck c i (.own 2)))]))) (fun⟨l,h⟩=>?_) B64 (0,u)) fun o=>?_
 refine io ?_ (lf rfl)
 refine bo rg fun n=>?_
 refine bo (ok104 d (Zp.mk 4 0 e b j l 0) n (Zk.mk c i h)) fun v=>?_
 refine bo (okn63 (d+4) v n.ID h c i) fun y=>?_
 exact lf rfl
 exact lf rfl
 exact lf rfl
 exact lf rfl
 exact lf rfl
def Fn48 (a:List Zv) (b:Z0) (c:Int):Option (List Zv):=
 (Fn77_5 a b c).bind fun d=>some d
theorem okn48 {k} (d) (c:List Zv) (a:Z0) (b:Int):runR (XD k (d+7)) 48 [.ref 1 0] [(2,.lst 131 3 false (I Zv.g c)),(1,.box (ck a b (.own 2)))] 3 false=(Fn48 c a b).map (fun(e:List Zv)=>((.tup [],[(2,.lst 131 3 false (I Zv.g e)),(1,.box (ck a b (.own 2)))],0))):=by
 rw[xd (fn:=p48) rfl]
 refine bo (okn77_5 d c a b) fun f=>?_
 exact lf rfl
def F17 (a:Z0):Option (List Zv):=
 ((if decide ((([]:List Zv).length:Int)>0)then((if false then some true else((if false then(lidx ([]:List Zv) 0).bind fun x2=>(lnth ([]:List Zv) x2).bind fun x3=>some (decide (x3.Rule<10))else some false:Option (Bool))).bind fun x4=>some x4:Option (Bool))).bind fun x5=>some x5 else some false:Option (Bool))).bind fun x6=>if x6 then some []else(Fn32 [] a 1).bind fun u=>((if decide ((u.length:Int)>0)then((if true then some true else((if false then(lidx u 0).bind fun x8=>(lnth u x8).bind fun x9=>some (decide (x9.Rule<10))else some false:Option (Bool))).bind fun v=>some v:Option (Bool))).bind fun w=>some w else some false:Option (Bool))).bind fun x=>if x then some u else(Fn33 u a 2).bind fun b=>((if decide ((b.length:Int)>0)then((if false then some true else((if false then(lidx b 0).bind fun y=>(lnth b y).bind fun z=>some (decide (z.Rule<10))else some false:Option (Bool))).bind fun A=>some A:Option (Bool))).bind fun B=>some B else some false:Option (Bool))).bind fun C=>if C then some b else(Fn34 b a 3).bind fun c=>((if decide ((c.length:Int)>0)then((if false then some true else((if false then(lidx c 0).bind fun D=>(lnth c D).bind fun E=>some (decide (E.Rule<10))else some false:Option (Bool))).bind fun F=>some F:Option (Bool))).bind fun G=>some G else some false:Option (Bool))).bind fun H=>if H then some c else(Fn35 c a 4).bind fun d=>((if decide ((d.length:Int)>0)then((if false then some true else((if false then(lidx d 0).bind fun J=>(lnth d J).bind fun K=>some (decide (K.Rule<10))else some false:Option (Bool))).bind fun L=>some L:Option (Bool))).bind fun M=>some M else some false:Option (Bool))).bind fun N=>if N then some d else(Fn36 d a 5).bind fun e=>((if decide ((e.length:Int)>0)then((if false then some true else((if false then(lidx e 0).bind fun O=>(lnth e O).bind fun P=>some (decide (P.Rule<10))else some false:Option (Bool))).bind fun R=>some R:Option (Bool))).bind fun S=>some S else some false:Option (Bool))).bind fun T=>if T then some e else(Fn37 e a 6).bind fun f=>((if decide ((f.length:Int)>0)then((if false then some true else((if false then(lidx f 0).bind fun U=>(lnth f U).bind fun V=>some (decide (V.Rule<10))else some false:Option (Bool))).bind fun W=>some W:Option (Bool))).bind fun X=>some X else some false:Option (Bool))).bind fun Y=>if Y then some f else(Fn38 f a 7).bind fun g=>((if decide ((g.length:Int)>0)then((if false then some true else((if false then(lidx g 0).bind fun Z=>(lnth g Z).bind fun a0=>some (decide (a0.Rule<10))else some false:Option (Bool))).bind fun b0=>some b0:Option (Bool))).bind fun b4=>some b4 else some false:Option (Bool))).bind fun b5=>if b5 then some g else(Fn39 g a 8).bind fun h=>((if decide ((h.length:Int)>0)then((if false then some true else((if false then(lidx h 0).bind fun b6=>(lnth h b6).bind fun b7=>some (decide (b7.Rule<10))else some false:Option (Bool))).bind fun b8=>some b8:Option (Bool))).bind fun b9=>some b9 else some false:Option (Bool))).bind fun d0=>if d0 then some h else(Fn40 h a 9).bind fun i=>((if decide ((i.length:Int)>0)then((if false then some true else((if true then(lidx i 0).bind fun d1=>(lnth i d1).bind fun d2=>some (decide (d2.Rule<10))else some false:Option (Bool))).bind fun d3=>some d3:Option (Bool))).bind fun d4=>some d4 else some false:Option (Bool))).bind fun d5=>if d5 then some i else(Fn41 i a 10).bind fun j=>((if decide ((j.length:Int)>0)then((if false then some true else((if true then(lidx j 0).bind fun d6=>(lnth j d6).bind fun d7=>some (decide (d7.Rule<10))else some false:Option (Bool))).bind fun d8=>some d8:Option (Bool))).bind fun d9=>some d9 else some false:Option (Bool))).bind fun e0=>if e0 then some j else(Fn42 j a 11).bind fun k=>((if decide ((k.length:Int)>0)then((if false then some true else((if true then(lidx k 0).bind fun e1=>(lnth k e1).bind fun e3=>some (decide (e3.Rule<10))else some false:Option (Bool))).bind fun e4=>some e4:Option (Bool))).bind fun e5=>some e5 else some false:Option (Bool))).bind fun e6=>if e6 then some k else(Fn43 k a 12).bind fun l=>((if decide ((l.length:Int)>0)then((if false then some true else((if true then(lidx l 0).bind fun e7=>(lnth l e7).bind fun e8=>some (decide (e8.Rule<10))else some false:Option (Bool))).bind fun e9=>some e9:Option (Bool))).bind fun f0=>some f0 else some false:Option (Bool))).bind fun f1=>if f1 then some l else(Fn44 l a 13).bind fun m=>((if decide ((m.length:Int)>0)then((if false then some true else((if true then(lidx m 0).bind fun f2=>(lnth m f2).bind fun f4=>some (decide (f4.Rule<10))else some false:Option (Bool))).bind fun f5=>some f5:Option (Bool))).bind fun f6=>some f6 else some false:Option (Bool))).bind fun f7=>if f7 then some m else(Fn45 m a 14).bind fun n=>((if decide ((n.length:Int)>0)then((if false then some true else((if true then(lidx n 0).bind fun f8=>(lnth n f8).bind fun f9=>some (decide (f9.Rule<10))else some false:Option (Bool))).bind fun g1=>some g1:Option (Bool))).bind fun g3=>some g3 else some false:Option (Bool))).bind fun g4=>if g4 then some n else(Fn46 n a 15).bind fun o=>((if decide ((o.length:Int)>0)then((if false then some true else((if true then(lidx o 0).bind fun g5=>(lnth o g5).bind fun g6=>some (decide (g6.Rule<10))else some false:Option (Bool))).bind fun g7=>some g7:Option (Bool))).bind fun g8=>some g8 else some false:Option (Bool))).bind fun g9=>if g9 then some o else(Fn47 o a 16).bind fun p=>((if decide ((p.length:Int)>0)then((if false then some true else((if true then(lidx p 0).bind fun h0=>(lnth p h0).bind fun h2=>some (decide (h2.Rule<10))else some false:Option (Bool))).bind fun q=>some q:Option (Bool))).bind fun r=>some r else some false:Option (Bool))).bind fun s=>if s then some p else(Fn48 p a 17).bind fun t=>some t
theorem ok17 {k} (d) (a:Z0):OD k (d+25) 17 [.agg (Z0.g a)]=(F17 a).map (fun y0=>.is 3 (I Zv.g y0)):=by
 rw[od (fn:=p17) rfl rfl rfl]
 refine bz (bP Zv.g ([]:List Zv)) ?_
 refine bo (e:=id) ?_ fun x6=>?_
 refine io ?_ (lf rfl)
 refine bo (e:=id) ?_ fun x5=>?_
 refine io (lf rfl) ?_
 refine bo (e:=id) ?_ fun x4=>?_
 refine io ?_ (lf rfl)
 refine bo (aU Zv.g ([]:List Zv) _) fun x2=>?_
 refine bo (bD (A:=Zv) (c:=Zv.g) (g:=fun S=>i64 S.Rule) (fun _=>rfl) ([]:List Zv) _) fun S=>?_
 exact lf rfl
 exact lf rfl
 exact lf rfl
 refine io (lf rfl) ?_
 refine bo (okn32 (d+19) [] a 1) fun M=>?_
 refine bz (bP Zv.g M) ?_
 refine bo (e:=id) ?_ fun W=>?_
 refine io ?_ (lf rfl)
 refine bo (e:=id) ?_ fun V=>?_
 refine io (lf rfl) ?_
 refine bo (e:=id) ?_ fun U=>?_
 refine io ?_ (lf rfl)
 refine bo (aU Zv.g M _) fun x8=>?_
 refine bo (bD (A:=Zv) (c:=Zv.g) (g:=fun T=>i64 T.Rule) (fun _=>rfl) M _) fun T=>?_
 exact lf rfl
 exact lf rfl
 exact lf rfl
 refine io (lf rfl) ?_
 refine bo (okn33 (d+20) M a 2) fun b=>?_
 refine bz (bP Zv.g b) ?_
 refine bo (e:=id) ?_ fun a0=>?_
 refine io ?_ (lf rfl)
 refine bo (e:=id) ?_ fun Z=>?_
 refine io (lf rfl) ?_
 refine bo (e:=id) ?_ fun Y=>?_
 refine io ?_ (lf rfl)
 refine bo (aU Zv.g b _) fun X=>?_
 refine bo (bD (A:=Zv) (c:=Zv.g) (g:=fun v=>i64 v.Rule) (fun _=>rfl) b _) fun v=>?_
 exact lf rfl
 exact lf rfl
 exact lf rfl
 refine io (lf rfl) ?_
 refine bo (okn34 (d+21) b a 3) fun f=>?_
 refine bz (bP Zv.g f) ?_
 refine bo (e:=id) ?_ fun b6=>?_
 refine io ?_ (lf rfl)
 refine bo (e:=id) ?_ fun b5=>?_
 refine io (lf rfl) ?_
 refine bo (e:=id) ?_ fun b4=>?_
 refine io ?_ (lf rfl)
 refine bo (aU Zv.g f _) fun b0=>?_
 refine bo (bD (A:=Zv) (c:=Zv.g) (g:=fun w=>i64 w.Rule) (fun _=>rfl) f _) fun w=>?_
 exact lf rfl
 exact lf rfl
 exact lf rfl
 refine io (lf rfl) ?_
 refine bo (okn35 (d+17) f a 4) fun h=>?_
 refine bz (bP Zv.g h) ?_
 refine bo (e:=id) ?_ fun d0=>?_
 refine io ?_ (lf rfl)
 refine bo (e:=id) ?_ fun b9=>?_
 refine io (lf rfl) ?_
 refine bo (e:=id) ?_ fun b8=>?_
 refine io ?_ (lf rfl)
 refine bo (aU Zv.g h _) fun b7=>?_
 refine bo (bD (A:=Zv) (c:=Zv.g) (g:=fun x=>i64 x.Rule) (fun _=>rfl) h _) fun x=>?_
 exact lf rfl
 exact lf rfl
 exact lf rfl
 refine io (lf rfl) ?_
 refine bo (okn36 (d+17) h a 5) fun i=>?_
 refine bz (bP Zv.g i) ?_
 refine bo (e:=id) ?_ fun d4=>?_
 refine io ?_ (lf rfl)
 refine bo (e:=id) ?_ fun d3=>?_
 refine io (lf rfl) ?_
 refine bo (e:=id) ?_ fun d2=>?_
 refine io ?_ (lf rfl)
 refine bo (aU Zv.g i _) fun d1=>?_
 refine bo (bD (A:=Zv) (c:=Zv.g) (g:=fun y=>i64 y.Rule) (fun _=>rfl) i _) fun y=>?_
 exact lf rfl
 exact lf rfl
 exact lf rfl
 refine io (lf rfl) ?_
 refine bo (okn37 d i a 6) fun j=>?_
 refine bz (bP Zv.g j) ?_
 refine bo (e:=id) ?_ fun d8=>?_
 refine io ?_ (lf rfl)
 refine bo (e:=id) ?_ fun d7=>?_
 refine io (lf rfl) ?_
 refine bo (e:=id) ?_ fun d6=>?_
 refine io ?_ (lf rfl)
 refine bo (aU Zv.g j _) fun d5=>?_
 refine bo (bD (A:=Zv) (c:=Zv.g) (g:=fun z=>i64 z.Rule) (fun _=>rfl) j _) fun z=>?_
 exact lf rfl
 exact lf rfl
 exact lf rfl
 refine io (lf rfl) ?_
 refine bo (okn38 d j a 7) fun l=>?_
 refine bz (bP Zv.g l) ?_
 refine bo (e:=id) ?_ fun e3=>?_
 refine io ?_ (lf rfl)
 refine bo (e:=id) ?_ fun e1=>?_
 refine io (lf rfl) ?_
 refine bo (e:=id) ?_ fun e0=>?_
 refine io ?_ (lf rfl)
 refine bo (aU Zv.g l _) fun d9=>?_
 refine bo (bD (A:=Zv) (c:=Zv.g) (g:=fun B=>i64 B.Rule) (fun _=>rfl) l _) fun B=>?_
 exact lf rfl
 exact lf rfl
 exact lf rfl
 refine io (lf rfl) ?_
 refine bo (okn39 (d+13) l a 8) fun m=>?_
 refine bz (bP Zv.g m) ?_
 refine bo (e:=id) ?_ fun e7=>?_
 refine io ?_ (lf rfl)
 refine bo (e:=id) ?_ fun e6=>?_
 refine io (lf rfl) ?_
 refine bo (e:=id) ?_ fun e5=>?_
 refine io ?_ (lf rfl)
 refine bo (aU Zv.g m _) fun e4=>?_
 refine bo (bD (A:=Zv) (c:=Zv.g) (g:=fun C=>i64 C.Rule) (fun _=>rfl) m _) fun C=>?_
 exact lf rfl
 exact lf rfl
 exact lf rfl
 refine io (lf rfl) ?_
 refine bo (okn40 (d+13) m a 9) fun n=>?_
 refine bz (bP Zv.g n) ?_
 refine bo (e:=id) ?_ fun f1=>?_
 refine io ?_ (lf rfl)
 refine bo (e:=id) ?_ fun f0=>?_
 refine io (lf rfl) ?_
 refine bo (e:=id) ?_ fun e9=>?_
 refine io ?_ (lf rfl)
 refine bo (aU Zv.g n _) fun e8=>?_
 refine bo (bD (A:=Zv) (c:=Zv.g) (g:=fun D=>i64 D.Rule) (fun _=>rfl) n _) fun D=>?_
 exact lf rfl
 exact lf rfl
 exact lf rfl
 refine io (lf rfl) ?_
 refine bo (okn41 (d+17) n a 10) fun o=>?_
 refine bz (bP Zv.g o) ?_
 refine bo (e:=id) ?_ fun f6=>?_
 refine io ?_ (lf rfl)
 refine bo (e:=id) ?_ fun f5=>?_
 refine io (lf rfl) ?_
 refine bo (e:=id) ?_ fun f4=>?_
 refine io ?_ (lf rfl)
 refine bo (aU Zv.g o _) fun f2=>?_
 refine bo (bD (A:=Zv) (c:=Zv.g) (g:=fun E=>i64 E.Rule) (fun _=>rfl) o _) fun E=>?_
 exact lf rfl
 exact lf rfl
 exact lf rfl
 refine io (lf rfl) ?_
 refine bo (okn42 (d+21) o a 11) fun p=>?_
 refine bz (bP Zv.g p) ?_
 refine bo (e:=id) ?_ fun g1=>?_
 refine io ?_ (lf rfl)
 refine bo (e:=id) ?_ fun f9=>?_
 refine io (lf rfl) ?_
 refine bo (e:=id) ?_ fun f8=>?_
 refine io ?_ (lf rfl)
 refine bo (aU Zv.g p _) fun f7=>?_
 refine bo (bD (A:=Zv) (c:=Zv.g) (g:=fun F=>i64 F.Rule) (fun _=>rfl) p _) fun F=>?_
 exact lf rfl
 exact lf rfl
 exact lf rfl
 refine io (lf rfl) ?_
 refine bo (okn43 (d+7) p a 12) fun q=>?_
 refine bz (bP Zv.g q) ?_
 refine bo (e:=id) ?_ fun g6=>?_
 refine io ?_ (lf rfl)
 refine bo (e:=id) ?_ fun g5=>?_
 refine io (lf rfl) ?_
 refine bo (e:=id) ?_ fun g4=>?_
 refine io ?_ (lf rfl)
 refine bo (aU Zv.g q _) fun g3=>?_
 refine bo (bD (A:=Zv) (c:=Zv.g) (g:=fun G=>i64 G.Rule) (fun _=>rfl) q _) fun G=>?_
 exact lf rfl
 exact lf rfl
 exact lf rfl
 refine io (lf rfl) ?_
 refine bo (okn44 (d+7) q a 13) fun r=>?_
 refine bz (bP Zv.g r) ?_
 refine bo (e:=id) ?_ fun h0=>?_
 refine io ?_ (lf rfl)
 refine bo (e:=id) ?_ fun g9=>?_
 refine io (lf rfl) ?_
 refine bo (e:=id) ?_ fun g8=>?_
 refine io ?_ (lf rfl)
 refine bo (aU Zv.g r _) fun g7=>?_
 refine bo (bD (A:=Zv) (c:=Zv.g) (g:=fun H=>i64 H.Rule) (fun _=>rfl) r _) fun H=>?_
 exact lf rfl
 exact lf rfl
 exact lf rfl
 refine io (lf rfl) ?_
 refine bo (okn45 (d+19) r a 14) fun s=>?_
 refine bz (bP Zv.g s) ?_
 refine bo (e:=id) ?_ fun h5=>?_
 refine io ?_ (lf rfl)
 refine bo (e:=id) ?_ fun h4=>?_
 refine io (lf rfl) ?_
 refine bo (e:=id) ?_ fun h3=>?_
 refine io ?_ (lf rfl)
 refine bo (aU Zv.g s _) fun h2=>?_
 refine bo (bD (A:=Zv) (c:=Zv.g) (g:=fun J=>i64 J.Rule) (fun _=>rfl) s _) fun J=>?_
 exact lf rfl
 exact lf rfl
 exact lf rfl
 refine io (lf rfl) ?_
 refine bo (okn46 (d+16) s a 15) fun t=>?_
 refine bz (bP Zv.g t) ?_
 refine bo (e:=id) ?_ fun h9=>?_
 refine io ?_ (lf rfl)
 refine bo (e:=id) ?_ fun h8=>?_
 refine io (lf rfl) ?_
 refine bo (e:=id) ?_ fun h7=>?_
 refine io ?_ (lf rfl)
 refine bo (aU Zv.g t _) fun h6=>?_
 refine bo (bD (A:=Zv) (c:=Zv.g) (g:=fun K=>i64 K.Rule) (fun _=>rfl) t _) fun K=>?_
 exact lf rfl
 exact lf rfl
 exact lf rfl
 refine io (lf rfl) ?_
 refine bo (okn47 (d+17) t a 16) fun u=>?_
 refine bz (bP Zv.g u) ?_
 refine bo (e:=id) ?_ fun P=>?_
 refine io ?_ (lf rfl)
 refine bo (e:=id) ?_ fun O=>?_
 refine io (lf rfl) ?_
 refine bo (e:=id) ?_ fun N=>?_
 refine io ?_ (lf rfl)
 refine bo (aU Zv.g u _) fun i0=>?_
 refine bo (bD (A:=Zv) (c:=Zv.g) (g:=fun L=>i64 L.Rule) (fun _=>rfl) u _) fun L=>?_
 exact lf rfl
 exact lf rfl
 exact lf rfl
 refine io (lf rfl) ?_
 refine bo (okn48 (d+17) u a 17) fun R=>?_
 exact lf rfl
end Go.P
namespace Go.P
open Go.Sim (Ex OpK CK)
open K (I Q rq nq xq ck)
def F19 (a:Z0):Option Bool:=
 (F17 a).bind fun b=>some ((b.length:Int)==0)
theorem ok19 {k} (d) (a:Z0):OD k (d+26) 19 [.agg (Z0.g a)]=(F19 a).map (fun b=>bv b):=by
 rw[od (fn:=p19) rfl rfl rfl]
 refine bo (ok17 d a) fun c=>?_
 refine bz lm ?_
 exact lf rfl
def Fn147_2 (a:Ze):Option ((List Zb)×(List Zd)×(List Zy)):=
 (gR a.Heads).bind fun b=>(gR a.Graces).bind fun c=>(gR a.Lyrics).bind fun d=>some (b,c,d)
theorem okn147_2 {k} (d) (a:Ze):runR (XD k (d+2)) 147 [.agg (Ze.g a)] [] 2 true=(Fn147_2 a).map (fun(⟨b,c,e⟩:(List Zb)×(List Zd)×(List Zy))=>((.agg [i64 a.ID.Site,i64 a.ID.Number,i64 a.Kind,i64 a.Value.Log,i64 a.Value.Dots,.is 5 (I Zb.g b),.is 5 (I Zd.g c),i64 a.Articulations,i64 a.Ornament,i64 a.Dynamic,.own 4,i64 a.Stem,i64 a.Beam],[(4,.lst 241 2 true (I Zy.g e))],5))):=by
 rw[xd (fn:=p147) rfl]
 refine bo (iR 183 (d+1) 5 _ _ rfl rfl rfl) fun f=>?_
 refine bo (iR 184 (d+1) 5 _ _ rfl rfl rfl) fun h=>?_
 refine bo (oL 185 d 241 2 _ _ 4 rfl rfl rfl (fun _=>rfl)) fun i=>?_
 exact lf rfl
def F118 (c:Ze):Option Ze:=
 (Fn147_2 c).bind fun⟨g,n,o⟩=>(dT g 0 (if 5<(g.length:Int)then 5 else(g.length:Int))).bind fun p=>(dT n 0 (if 4<(n.length:Int)then 4 else(n.length:Int))).bind fun q=>(lQ o (if 5<(o.length:Int)then 5 else(o.length:Int))).bind fun r=>(aO (E:=List Zy) (fun(⟨b,a⟩:Int×(List Zy))=>if decide (b<(a.length:Int))then(lidx a b).bind fun e=>(lnth a e).bind fun f=>(lidx a b).bind fun h=>(lnth a h).bind fun d=>(eN f.Text 0 (if 30<(d.Text.size:Int)then 30 else(d.Text.size:Int))).bind fun i=>(lidx a b).bind fun j=>(lput a j (fun k=>(Zy.mk i k.Link))).bind fun l=>some (.inl ((w64 (b+1)),l))else some (.inr a)) B64 (0,r)).bind fun m=>some (Ze.mk c.ID c.Kind c.Value p q c.Articulations c.Ornament c.Dynamic m c.Stem c.Beam)
theorem ok118 {k} (d) (a:Ze):OD k (d+3) 118 [.agg (Ze.g a)]=(F118 a).map (fun x=>.agg (Ze.g x)):=by
 rw[od (fn:=p118) rfl rfl rfl]
 refine bo (okn147_2 d a) fun⟨y,z,l⟩=>?_
 refine bz lm ?_
 refine bo (bQ _ _ _ _) fun p=>?_
 refine bz lm ?_
 refine bo (bQ _ _ _ _) fun q=>?_
 refine bz (bP Zy.g l) ?_
 refine bo (kI Zy.g l (if 5<(l.length:Int)then 5 else(l.length:Int))) fun w=>?_
 refine bo (aI (S:=Int×(List Zy)) (enc:=fun⟨e,b⟩=>(Q [(1,.ref 0 0),(2,.ref 1 0),(3,i64 e)] [(4,.lst 241 2 true (I Zy.g b)),(1,.box [i64 0,i64 0,i64 0,i64 0,i64 0,.v (.slice none 0 0),.v (.slice none 0 0),i64 0,i64 0,i64 0,.v (.slice none 0 0),i64 0,i64 0]),(0,.box [i64 a.ID.Site,i64 a.ID.Number,i64 a.Kind,i64 a.Value.Log,i64 a.Value.Dots,.is 5 (I Zb.g p),.is 5 (I Zd.g q),i64 a.Articulations,i64 a.Ornament,i64 a.Dynamic,.own 4,i64 a.Stem,i64 a.Beam])])) (encE:=(fun(j:List Zy)=>(xq 0 [(1,.ref 0 0),(2,.ref 1 0)] [(4,.lst 241 2 true (I Zy.g j)),(1,.box [i64 0,i64 0,i64 0,i64 0,i64 0,.v (.slice none 0 0),.v (.slice none 0 0),i64 0,i64 0,i64 0,.v (.slice none 0 0),i64 0,i64 0]),(0,.box [i64 a.ID.Site,i64 a.ID.Number,i64 a.Kind,i64 a.Value.Log,i64 a.Value.Dots,.is 5 (I Zb.g p),.is 5 (I Zd.g q),i64 a.Articulations,i64 a.Ornament,i64 a.Dynamic,.own 4,i64 a.Stem,i64 a.Beam])]))) (fun⟨e,b⟩=>?_) B64 (0,w)) fun j=>?_
 refine bz (bP Zy.g b) ?_
 refine io ?_ (lf rfl)
 refine bo (aU Zy.g b _) fun r=>?_
 refine bo (bD (A:=Zy) (c:=Zy.g) (g:=fun h=>.v (.string h.Text)) (fun _=>rfl) b _) fun h=>?_
 refine bo (aU Zy.g b _) fun s=>?_
 refine bo (bD (A:=Zy) (c:=Zy.g) (g:=fun i=>.v (.string i.Text)) (fun _=>rfl) b _) fun i=>?_
 refine bo oi fun n=>?_
 refine bo (aU Zy.g b _) fun t=>?_
 refine bo (oJ (A:=Zy) (c:=Zy.g) (m:=2) (f:=fun o=>(Zy.mk n o.Link)) (fun _=>⟨rfl,rfl⟩) (Nat.le_of_ble_eq_true rfl) b _) fun u=>?_
 exact lf rfl
 exact lf rfl
def F62 (a:Zo):Option Zo:=
 (aO (E:=List Ze) (fun(⟨b,f⟩:Int×(List Ze))=>if(decide (b<(a.Events.length:Int)))&&(decide (b<12))then(lget a.Events b).bind fun g=>(F118 g).bind fun h=>(lapp false f [h]).bind fun i=>some (.inl ((w64 (b+1)),i))else some (.inr f)) B64 (0,[])).bind fun c=>(dT a.Tuplets 0 (if 6<(a.Tuplets.length:Int)then 6 else(a.Tuplets.length:Int))).bind fun d=>(lapp false ([]:List Zu) d).bind fun e=>some (Zo.mk c e)
theorem ok62 {k} (d) (b:Zo):OD k (d+4) 62 [.agg (Zo.g b)]=(F62 b).map (fun l=>.agg (Zo.g l)):=by
 rw[od (fn:=p62) rfl rfl rfl]
 refine bo (aI (S:=Int×(List Ze)) (enc:=fun⟨f,e⟩=>(Q [(1,.ref 0 0),(2,.ref 1 0),(3,.ref 2 0),(4,i64 f)] [(4,.lst 288 4 false (I Zu.g [])),(3,.lst 103 13 false (I Ze.g e)),(2,.box [.own 3,.own 4]),(1,.box [.v (.slice none 0 0),.v (.slice none 0 0)]),(0,.box (Zo.g b))])) (encE:=(fun(a:List Ze)=>(xq 0 [(1,.ref 0 0),(2,.ref 1 0),(3,.ref 2 0)] [(4,.lst 288 4 false (I Zu.g [])),(3,.lst 103 13 false (I Ze.g a)),(2,.box [.own 3,.own 4]),(1,.box [.v (.slice none 0 0),.v (.slice none 0 0)]),(0,.box (Zo.g b))]))) (fun⟨f,e⟩=>?_) B64 (0,[])) fun a=>?_
 refine bz lm ?_
 refine bz (gand rfl) ?_
 refine io ?_ (lf rfl)
 refine bo rg fun i=>?_
 refine bo (ok118 d i) fun j=>?_
 refine bo (aW false Ze.g e [j]) fun m=>?_
 exact lf rfl
 refine bz lm ?_
 refine bo (bQ _ _ _ _) fun c=>?_
 refine bo (aW false Zu.g ([]:List Zu) c) fun h=>?_
 exact lf rfl
def F31 (a:Zm):Option Zm:=
 (aO (E:=List Zw) (fun(⟨b,d⟩:Int×(List Zw))=>if(decide (b<(a.Cells.length:Int)))&&(decide (b<4))then(lget a.Cells b).bind fun g=>(lget a.Cells b).bind fun e=>(dT g.Clefs 0 (if 8<(e.Clefs.length:Int)then 8 else(e.Clefs.length:Int))).bind fun h=>(lapp false ([]:List Zc) h).bind fun i=>(aO (E:=List Zo) (fun(⟨c,f⟩:Int×(List Zo))=>(lget a.Cells b).bind fun j=>if(decide (c<(j.Voices.length:Int)))&&(decide (c<3))then(lget a.Cells b).bind fun k=>(lget k.Voices c).bind fun l=>(F62 l).bind fun m=>(lapp false f [m]).bind fun n=>some (.inl ((w64 (c+1)),n))else some (.inr f)) B64 (0,[])).bind fun o=>(lapp false d [(Zw.mk i o)]).bind fun p=>some (.inl ((w64 (b+1)),p))else some (.inr d)) B64 (0,[])).bind fun q=>(dT a.Tempi 0 (if 8<(a.Tempi.length:Int)then 8 else(a.Tempi.length:Int))).bind fun r=>(lapp false ([]:List Zt) r).bind fun s=>(eN a.Rehearsal 0 (if 30<(a.Rehearsal.size:Int)then 30 else(a.Rehearsal.size:Int))).bind fun t=>some (Zm.mk a.ID a.Metre a.Length a.Fifths a.RepeatStart a.RepeatEnd a.Endings a.Jump a.Labels a.Swing a.Break t s q)
theorem ok31 {k} (d) (a:Zm):OD k (d+5) 31 [.agg (Zm.g a)]=(F31 a).map (fun y=>.agg (Zm.g y)):=by
 rw[od (fn:=p31) rfl rfl rfl]
 refine bo (aI (S:=Int×(List Zw)) (enc:=fun⟨c,b⟩=>(Q [(1,.ref 0 0),(2,.ref 1 0),(3,.is 2 (I Zw.g a.Cells)),(4,i64 c)] [(2,.lz 89 2 1 (I Zw.g b)),(1,.box [i64 0,i64 0,i64 0,i64 0,i64 0,i64 0,i64 0,i64 0,i64 0,i64 0,i64 0,i64 0,bv false,i64 0,i64 0,i64 0,i64 0,i64 0,i64 0,.v (.string (⟨#[]⟩:ByteArray)),.v (.slice none 0 0),.v (.slice none 0 0)]),(0,.box [i64 a.ID.Site,i64 a.ID.Number,i64 a.Metre.Count,i64 a.Metre.Unit,i64 a.Metre.Groups.c0,i64 a.Metre.Groups.c1,i64 a.Metre.Groups.c2,i64 a.Metre.Groups.c3,i64 a.Metre.Groups.c4,i64 a.Metre.Groups.c5,i64 a.Length,i64 a.Fifths,bv a.RepeatStart,i64 a.RepeatEnd,i64 a.Endings,i64 a.Jump,i64 a.Labels,i64 a.Swing,i64 a.Break,.v (.string a.Rehearsal),.is 3 (I Zt.g a.Tempi),.own 2])])) (encE:=(fun(j:List Zw)=>(xq 0 [(1,.ref 0 0),(2,.ref 1 0)] [(2,.lz 89 2 1 (I Zw.g j)),(1,.box [i64 0,i64 0,i64 0,i64 0,i64 0,i64 0,i64 0,i64 0,i64 0,i64 0,i64 0,i64 0,bv false,i64 0,i64 0,i64 0,i64 0,i64 0,i64 0,.v (.string (⟨#[]⟩:ByteArray)),.v (.slice none 0 0),.v (.slice none 0 0)]),(0,.box [i64 a.ID.Site,i64 a.ID.Number,i64 a.Metre.Count,i64 a.Metre.Unit,i64 a.Metre.Groups.c0,i64 a.Metre.Groups.c1,i64 a.Metre.Groups.c2,i64 a.Metre.Groups.c3,i64 a.Metre.Groups.c4,i64 a.Metre.Groups.c5,i64 a.Length,i64 a.Fifths,bv a.RepeatStart,i64 a.RepeatEnd,i64 a.Endings,i64 a.Jump,i64 a.Labels,i64 a.Swing,i64 a.Break,.v (.string a.Rehearsal),.is 3 (I Zt.g a.Tempi),.own 2])]))) (fun⟨c,b⟩=>?_) B64 (0,[])) fun j=>?_
 refine bz lm ?_
 refine bz (gand rfl) ?_
 refine io ?_ (lf rfl)
 refine bo rg fun p=>?_
 refine bo rg fun q=>?_
 refine bz lm ?_
 refine bo (bQ _ _ _ _) fun l=>?_
 refine bo (aW false Zc.g ([]:List Zc) l) fun e=>?_
 refine bo (aI (S:=Int×(List Zo)) (enc:=fun⟨i,f⟩=>(Q [(1,.ref 0 0),(2,.ref 1 0),(3,.is 2 (I Zw.g a.Cells)),(4,i64 c),(5,.ref 3 0),(6,i64 i)] [(5,.lst 96 2 false (I Zo.g f)),(4,.lst 91 2 false (I Zc.g e)),(3,.box [.own 4,.own 5]),(2,.lz 89 2 1 (I Zw.g b)),(1,.box [i64 0,i64 0,i64 0,i64 0,i64 0,i64 0,i64 0,i64 0,i64 0,i64 0,i64 0,i64 0,bv false,i64 0,i64 0,i64 0,i64 0,i64 0,i64 0,.v (.string (⟨#[]⟩:ByteArray)),.v (.slice none 0 0),.v (.slice none 0 0)]),(0,.box [i64 a.ID.Site,i64 a.ID.Number,i64 a.Metre.Count,i64 a.Metre.Unit,i64 a.Metre.Groups.c0,i64 a.Metre.Groups.c1,i64 a.Metre.Groups.c2,i64 a.Metre.Groups.c3,i64 a.Metre.Groups.c4,i64 a.Metre.Groups.c5,i64 a.Length,i64 a.Fifths,bv a.RepeatStart,i64 a.RepeatEnd,i64 a.Endings,i64 a.Jump,i64 a.Labels,i64 a.Swing,i64 a.Break,.v (.string a.Rehearsal),.is 3 (I Zt.g a.Tempi),.own 2])])) (encE:=(fun(h:List Zo)=>(xq 2 [(1,.ref 0 0),(2,.ref 1 0),(3,.is 2 (I Zw.g a.Cells)),(4,i64 c),(5,.ref 3 0)] [(5,.lst 96 2 false (I Zo.g h)),(4,.lst 91 2 false (I Zc.g e)),(3,.box [.own 4,.own 5]),(2,.lz 89 2 1 (I Zw.g b)),(1,.box [i64 0,i64 0,i64 0,i64 0,i64 0,i64 0,i64 0,i64 0,i64 0,i64 0,i64 0,i64 0,bv false,i64 0,i64 0,i64 0,i64 0,i64 0,i64 0,.v (.string (⟨#[]⟩:ByteArray)),.v (.slice none 0 0),.v (.slice none 0 0)]),(0,.box [i64 a.ID.Site,i64 a.ID.Number,i64 a.Metre.Count,i64 a.Metre.Unit,i64 a.Metre.Groups.c0,i64 a.Metre.Groups.c1,i64 a.Metre.Groups.c2,i64 a.Metre.Groups.c3,i64 a.Metre.Groups.c4,i64 a.Metre.Groups.c5,i64 a.Length,i64 a.Fifths,bv a.RepeatStart,i64 a.RepeatEnd,i64 a.Endings,i64 a.Jump,i64 a.Labels,i64 a.Swing,i64 a.Break,.v (.string a.Rehearsal),.is 3 (I Zt.g a.Tempi),.own 2])]))) (fun⟨i,f⟩=>?_) B64 (0,[])) fun h=>?_
 refine bo rg fun r=>?_
 refine bz lm ?_
 refine bz (gand rfl) ?_
 refine io ?_ (lf rfl)
 refine bo rg fun s=>?_
 refine bo rg fun m=>?_
 refine bo (ok62 d m) fun n=>?_
 refine bo (aW false Zo.g f [n]) fun t=>?_
 exact lf rfl
 refine bo (aW false Zw.g b [(Zw.mk e h)]) fun u=>?_
 exact lf rfl
 refine bz lm ?_
 refine bo (bQ _ _ _ _) fun o=>?_
 refine bo (aW false Zt.g ([]:List Zt) o) fun w=>?_
 refine bo oi fun x=>?_
 exact lf rfl
def F16 (a:Zm):Option Zm:=
 (F31 a).bind fun b=>some b
theorem ok16 {k} (d) (a:Zm):OD k (d+6) 16 [.agg (Zm.g a)]=(F16 a).map (fun b=>.agg (Zm.g b)):=by
 rw[od (fn:=p16) rfl rfl rfl]
 refine bo (ok31 d a) fun c=>?_
 exact lf rfl
def F4 (b:Z0):Option Z0:=
 (eN b.Title 0 (if 30<(b.Title.size:Int)then 30 else(b.Title.size:Int))).bind fun t=>(aO (E:=List Zj) (fun(⟨e,s⟩:Int×(List Zj))=>if(decide (e<(b.Parts.length:Int)))&&(decide (e<3))then(lget b.Parts e).bind fun a=>(eN a.Name 0 (if 30<(a.Name.size:Int)then 30 else(a.Name.size:Int))).bind fun f=>(dT a.Staves 0 (if 2<(a.Staves.length:Int)then 2 else(a.Staves.length:Int))).bind fun g=>(lapp false ([]:List Zf) g).bind fun h=>(lapp false s [(Zj.mk a.ID f a.Transpose h)]).bind fun i=>some (.inl ((w64 (e+1)),i))else some (.inr s)) B64 (0,[])).bind fun j=>(aO (E:=List Zm) (fun(⟨c,d⟩:Int×(List Zm))=>if(decide (c<(b.Measures.length:Int)))&&(decide (c<4))then(lget b.Measures c).bind fun k=>(F16 k).bind fun l=>(lapp false d [l]).bind fun m=>some (.inl ((w64 (c+1)),m))else some (.inr d)) B64 (0,[])).bind fun n=>(dT b.Spanners 0 (if 8<(b.Spanners.length:Int)then 8 else(b.Spanners.length:Int))).bind fun o=>(lapp false ([]:List Zn) o).bind fun p=>(dT b.Last 0 (if 3<(b.Last.length:Int)then 3 else(b.Last.length:Int))).bind fun q=>(lapp false ([]:List Zz) q).bind fun r=>some (Z0.mk t b.Written j n p r)
theorem ok4 {k} (d) (a:Z0):OD k (d+7) 4 [.agg (Z0.g a)]=(F4 a).map (fun y=>.agg (Z0.g y)):=by
 rw[od (fn:=p4) rfl rfl rfl]
 refine bo oi fun i=>?_
 refine bo (aI (S:=Int×(List Zj)) (enc:=fun⟨s,r⟩=>(Q [(1,.ref 0 0),(2,.ref 1 0),(3,.ref 2 0),(4,i64 s)] [(6,.lst 52 2 false (I Zz.g [])),(5,.lst 113 7 false (I Zn.g [])),(4,.lst 71 22 false (I Zm.g [])),(3,.lz 64 6 1 (I Zj.g r)),(2,.box [.v (.string i),bv a.Written,.own 3,.own 4,.own 5,.own 6]),(1,.box [.v (.string (⟨#[]⟩:ByteArray)),bv false,.v (.slice none 0 0),.v (.slice none 0 0),.v (.slice none 0 0),.v (.slice none 0 0)]),(0,.box (Z0.g a))])) (encE:=(fun(b:List Zj)=>(xq 0 [(1,.ref 0 0),(2,.ref 1 0),(3,.ref 2 0)] [(6,.lst 52 2 false (I Zz.g [])),(5,.lst 113 7 false (I Zn.g [])),(4,.lst 71 22 false (I Zm.g [])),(3,.lz 64 6 1 (I Zj.g b)),(2,.box [.v (.string i),bv a.Written,.own 3,.own 4,.own 5,.own 6]),(1,.box [.v (.string (⟨#[]⟩:ByteArray)),bv false,.v (.slice none 0 0),.v (.slice none 0 0),.v (.slice none 0 0),.v (.slice none 0 0)]),(0,.box (Z0.g a))]))) (fun⟨s,r⟩=>?_) B64 (0,[])) fun b=>?_
 refine bz lm ?_
 refine bz (gand rfl) ?_
 refine io ?_ (lf rfl)
 refine bo rg fun e=>?_
 refine bo oi fun j=>?_
 refine bz lm ?_
 refine bo (bQ _ _ _ _) fun l=>?_
 refine bo (aW false Zf.g ([]:List Zf) l) fun m=>?_
 refine bo (aW false Zj.g r [(Zj.mk e.ID j e.Transpose m)]) fun t=>?_
 exact lf rfl
 refine bo (aI (S:=Int×(List Zm)) (enc:=fun⟨f,c⟩=>(Q [(1,.ref 0 0),(2,.ref 1 0),(3,.ref 2 0),(6,i64 f)] [(6,.lst 52 2 false (I Zz.g [])),(5,.lst 113 7 false (I Zn.g [])),(4,.lst 71 22 false (I Zm.g c)),(3,.lz 64 6 1 (I Zj.g b)),(2,.box [.v (.string i),bv a.Written,.own 3,.own 4,.own 5,.own 6]),(1,.box [.v (.string (⟨#[]⟩:ByteArray)),bv false,.v (.slice none 0 0),.v (.slice none 0 0),.v (.slice none 0 0),.v (.slice none 0 0)]),(0,.box (Z0.g a))])) (encE:=(fun(h:List Zm)=>(xq 2 [(1,.ref 0 0),(2,.ref 1 0),(3,.ref 2 0)] [(6,.lst 52 2 false (I Zz.g [])),(5,.lst 113 7 false (I Zn.g [])),(4,.lst 71 22 false (I Zm.g h)),(3,.lz 64 6 1 (I Zj.g b)),(2,.box [.v (.string i),bv a.Written,.own 3,.own 4,.own 5,.own 6]),(1,.box [.v (.string (⟨#[]⟩:ByteArray)),bv false,.v (.slice none 0 0),.v (.slice none 0 0),.v (.slice none 0 0),.v (.slice none 0 0)]),(0,.box (Z0.g a))]))) (fun⟨f,c⟩=>?_) B64 (0,[])) fun h=>?_
 refine bz lm ?_
 refine bz (gand rfl) ?_
 refine io ?_ (lf rfl)
 refine bo rg fun n=>?_
 refine bo (ok16 d n) fun o=>?_
 refine bo (aW false Zm.g c [o]) fun u=>?_
 exact lf rfl
 refine bz lm ?_
 refine bo (bQ _ _ _ _) fun p=>?_
 refine bo (aW false Zn.g ([]:List Zn) p) fun w=>?_
 refine bz lm ?_
 refine bo (bQ _ _ _ _) fun q=>?_
 refine bo (aW false Zz.g ([]:List Zz) q) fun x=>?_
 exact lf rfl
def F5 (b:Z0):Option (List Zv):=
 (F17 b).bind fun a=>(dT a 0 (if 200<(a.length:Int)then 200 else(a.length:Int))).bind fun c=>some c
theorem ok5 {k} (d) (a:Z0):OD k (d+26) 5 [.agg (Z0.g a)]=(F5 a).map (fun b=>.is 3 (I Zv.g b)):=by
 rw[od (fn:=p5) rfl rfl rfl]
 refine bo (ok17 d a) fun c=>?_
 refine bz lm ?_
 refine bo (bQ _ _ _ _) fun e=>?_
 exact lf rfl
def F7 (a:Z0):Option ((List Int)×Int):=
 (F19 a).bind fun b=>if !b then some ([],24)else none
theorem ok7 {k} (d) (a:Z0):OD k (d+27) 7 [.agg (Z0.g a)]=(F7 a).map (fun⟨b,c⟩=>.tup [.is 1 (I cI b),i64 c]):=by
 rw[od (fn:=p7) rfl rfl rfl]
 refine bo (ok19 d a) fun e=>?_
 refine io (lf rfl) ?_
 rfl
def F8 (a:Z0) (c:Int):Option (Int×Int×Int):=
 (F19 a).bind fun b=>if !b then some (0,0,24)else none
theorem ok8 {k} (d) (a:Z0) (b:Int):OD k (d+27) 8 [.agg (Z0.g a),i64 b]=(F8 a b).map (fun⟨c,e,f⟩=>.tup [i64 c,i64 e,i64 f]):=by
 rw[od (fn:=p8) rfl rfl rfl]
 refine bo (ok19 d a) fun h=>?_
 refine io (lf rfl) ?_
 rfl
def F9 (a:Z0) (c:Int):Option ((List dG)×Int):=
 (F19 a).bind fun b=>if !b then some ([],24)else none
theorem ok9 {k} (d) (a:Z0) (b:Int):OD k (d+27) 9 [.agg (Z0.g a),i64 b]=(F9 a b).map (fun⟨c,e⟩=>.tup [.is 10 (I dG.g c),i64 e]):=by
 rw[od (fn:=p9) rfl rfl rfl]
 refine bo (ok19 d a) fun f=>?_
 refine io (lf rfl) ?_
 rfl
def F10 (a:Z0) (c d:Int):Option ((List eO)×Int):=
 (F19 a).bind fun b=>if !b then some ([],24)else none
theorem ok10 {k} (d) (a:Z0) (b c:Int):OD k (d+27) 10 [.agg (Z0.g a),i64 b,i64 c]=(F10 a b c).map (fun⟨e,f⟩=>.tup [.is 4 (I eO.g e),i64 f]):=by
 rw[od (fn:=p10) rfl rfl rfl]
 refine bo (ok19 d a) fun h=>?_
 refine io (lf rfl) ?_
 rfl
def F11 (a:Z0):Option ((List Zs)×Int):=
 (F19 a).bind fun b=>if !b then some ([],24)else none
theorem ok11 {k} (d) (a:Z0):OD k (d+27) 11 [.agg (Z0.g a)]=(F11 a).map (fun⟨b,c⟩=>.tup [.is 9 (I Zs.g b),i64 c]):=by
 rw[od (fn:=p11) rfl rfl rfl]
 refine bo (ok19 d a) fun e=>?_
 refine io (lf rfl) ?_
 rfl
def F13 (a:Int):Option Zz:=
 some (Zz.mk 1 a)
theorem ok13 {k} (d) (a:Int):OD k (d+1) 13 [i64 a]=(F13 a).map (fun b=>.agg (Zz.g b)):=by
 rw[od (fn:=p13) rfl rfl rfl]
 exact lf rfl
def F12 (a:Z0) (c:Zz):Option (Zq×Int):=
 (F19 a).bind fun b=>if !b then some ((Zq.mk 0 0 0 0),24)else none
theorem ok12 {k} (d) (a:Z0) (b:Zz):OD k (d+27) 12 [.agg (Z0.g a),.agg (Zz.g b)]=(F12 a b).map (fun⟨c,e⟩=>.tup [.agg (Zq.g c),i64 e]):=by
 rw[od (fn:=p12) rfl rfl rfl]
 refine bo (ok19 d a) fun f=>?_
 refine io (lf rfl) ?_
 rfl
def F14 (b:Z0) (c d e:Int):Option (Int×Int):=
 (F11 b).bind fun⟨f,a⟩=>if a !=0 then some (0,a)else none
theorem ok14 {k} (d) (a:Z0) (b c e:Int):OD k (d+28) 14 [.agg (Z0.g a),i64 b,i64 c,i64 e]=(F14 a b c e).map (fun⟨f,h⟩=>.tup [i64 f,i64 h]):=by
 rw[od (fn:=p14) rfl rfl rfl]
 refine bo (ok11 d a) fun⟨i,j⟩=>?_
 refine io (lf rfl) ?_
 rfl
def F15 (a:Z0):Option ((List fH1)×Int):=
 (F19 a).bind fun b=>if !b then some ([],24)else none
theorem ok15 {k} (d) (a:Z0):OD k (d+27) 15 [.agg (Z0.g a)]=(F15 a).map (fun⟨b,c⟩=>.tup [.is 9 (I fH1.g b),i64 c]):=by
 rw[od (fn:=p15) rfl rfl rfl]
 refine bo (ok19 d a) fun e=>?_
 refine io (lf rfl) ?_
 rfl
def F3 (p:Z0) (b:Int):Option Bool:=
 (F4 p).bind fun a=>(F5 a).bind fun s=>if(s.length:Int)==0 then(some true).bind fun t=>some t else(F7 a).bind fun⟨u,v⟩=>(F8 a b).bind fun⟨w,x,c⟩=>(F9 a b).bind fun⟨d,e⟩=>(F10 a b b).bind fun⟨f,g⟩=>(F11 a).bind fun⟨h,i⟩=>(F13 b).bind fun j=>(F12 a j).bind fun⟨q,k⟩=>(F14 a b b b).bind fun⟨r,l⟩=>(F15 a).bind fun⟨m,n⟩=>(some true).bind fun o=>some (((((((((o&&((w64 ((w64 ((w64 ((w64 ((u.length:Int)+(d.length:Int)))+(f.length:Int)))+(h.length:Int)))+(m.length:Int)))==0))&&(v==24))&&(c==24))&&(e==24))&&(g==24))&&(i==24))&&(k==24))&&(l==24))&&(n==24))
theorem ok3 (d) (c:Z0) (a:Int):OD true (d+29) 3 [.agg (Z0.g c),i64 a]=(F3 c a).map (fun u=>bv u):=by
 rw[od (fn:=p3) rfl rfl rfl]
 refine bo (ok4 (d+21) c) fun b=>?_
 refine bo (ok5 (d+2) b) fun v=>?_
 refine bz lm ?_
 refine io ?_ ?_
 refine bo (gH1 (d+28)) fun w=>?_
 exact lf rfl
 refine bo (ok7 (d+1) b) fun⟨x,y⟩=>?_
 refine bo (ok8 (d+1) b a) fun⟨z,A,f⟩=>?_
 refine bo (ok9 (d+1) b a) fun⟨h,i⟩=>?_
 refine bo (ok10 (d+1) b a a) fun⟨j,k⟩=>?_
 refine bo (ok11 (d+1) b) fun⟨l,m⟩=>?_
 refine bo (ok13 (d+27) a) fun e=>?_
 refine bo (ok12 (d+1) b e) fun⟨n,o⟩=>?_
 refine bo (ok14 d b a a a) fun⟨p,q⟩=>?_
 refine bo (ok15 (d+1) b) fun⟨r,s⟩=>?_
 refine bo (gH1 (d+28)) fun t=>?_
 refine bz (gand (bz lm (bz lm (bz lm (bz lm (bz lm rfl)))))) ?_
 refine bz (gand rfl) ?_
 refine bz (gand rfl) ?_
 refine bz (gand rfl) ?_
 refine bz (gand rfl) ?_
 refine bz (gand rfl) ?_
 refine bz (gand rfl) ?_
 refine bz (gand rfl) ?_
 refine bz (gand rfl) ?_
 exact lf rfl
end Go.P
