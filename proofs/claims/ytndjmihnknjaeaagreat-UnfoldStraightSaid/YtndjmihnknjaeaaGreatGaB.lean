import Derived.Test.YtndjmihnknjaeaaGreatGaA
/- A text of the proof. -/
set_option linter.all false
set_option maxRecDepth 100000
set_option maxHeartbeats 2000000
namespace Go.P
open Go.Sim (Ex OpK CK)
open K (I Q rq nq xq ck)
def F126_2 (a:List Zw) (b:Int):Option Bool:=
 (F168_2 a b).bind fun c=>some (decide (c>=0))
theorem ok126_2 {k} (d) (a:List Zw) (b:Int):OD k (d+20) 126 [.is 2 (I Zw.g a),.fn 127 [] [.ip [.fn 125 [] []],.ip [.fn 82 [] []],.ip [i64 b]]]=(F126_2 a b).map (fun c=>bv c):=by
 rw[od (fn:=p126) rfl rfl rfl]
 refine bo (ok168_2 d a b) fun e=>?_
 exact lf rfl
def F124_2 (c:Int) (a:Zm):Option Bool:=
 (F33 a).bind fun⟨b,x4⟩=>if x4 !=0 then some false else(F126_2 a.Cells b).bind fun x5=>some x5
theorem ok124_2 {k} (d) (b:Int) (a:Zm):OD k (d+21) 124 [i64 b,.agg (Zm.g a),.ip [.fn 82 [] []]]=(F124_2 b a).map (fun e=>bv e):=by
 rw[od (fn:=p124) rfl rfl rfl]
 refine bo (ok33 (d+16) a) fun⟨c,x4⟩=>?_
 refine io (lf rfl) ?_
 refine bo (ok126_2 d a.Cells c) fun x5=>?_
 exact lf rfl
def Fn74_5 (h:List Zv) (e:Z0) (i:Int):Option (List Zv):=
 (aQ (E:=List Zv) (fun(⟨a,f⟩:Int×(List Zv))=>if decide (a<(e.Measures.length:Int))then(lget e.Measures a).bind fun g=>(F124_2 a g).bind fun b=>(Fn66 b g.ID f e i).bind fun c=>some (.inl ((w64 (a+1)),c))else some (.inr f)) B64 (0,h)).bind fun d=>some d
theorem okn74_5 {k} (d) (e:List Zv) (a:Z0) (b:Int):runR (XD k (d+22)) 74 [.ref 1 0,.fn 124 [] [.ref 3 0]] [(3,.box [.fn 82 [] []]),(2,.lst 124 3 false (I Zv.g e)),(1,.box (ck a b (.own 2)))] 4 false=(Fn74_5 e a b).map (fun(h:List Zv)=>((.tup [],[(3,.box [.fn 82 [] []]),(2,.lst 124 3 false (I Zv.g h)),(1,.box (ck a b (.own 2)))],0))):=by
 rw[xd (fn:=p74) rfl]
 refine bz lm ?_
 refine bo (aI (S:=Int×(List Zv)) (enc:=fun⟨i,j⟩=>(Q [(0,.ref 1 0),(1,.fn 124 [] [.ref 3 0]),(10,.is 22 (I Zm.g a.Measures)),(11,i64 (a.Measures.length:Int)),(12,i64 i)] [(3,.box [.fn 82 [] []]),(2,.lst 124 3 false (I Zv.g j)),(1,.box (ck a b (.own 2)))])) (encE:=(fun(c:List Zv)=>(xq 0 [] [(3,.box [.fn 82 [] []]),(2,.lst 124 3 false (I Zv.g c)),(1,.box (ck a b (.own 2)))]))) (fun⟨i,j⟩=>?_) B64 (0,e)) fun c=>?_
 refine io ?_ (lf rfl)
 refine bo rg fun l=>?_
 refine bo (ok124_2 d i l) fun f=>?_
 refine bo (okn66 (d+20) f l.ID j a b) fun m=>?_
 exact lf rfl
 exact lf rfl
def Fn80_2 (a:List Zv) (b:Z0) (c:Int):Option (List Zv):=
 (Fn74_5 a b c).bind fun x4=>some x4
theorem okn80_2 {k} (d) (c:List Zv) (a:Z0) (b:Int):runR (XD k (d+23)) 80 [.ref 1 0,.fn 82 [] []] [(2,.lst 124 3 false (I Zv.g c)),(1,.box (ck a b (.own 2)))] 3 false=(Fn80_2 c a b).map (fun(x5:List Zv)=>((.tup [],[(2,.lst 124 3 false (I Zv.g x5)),(1,.box (ck a b (.own 2)))],0))):=by
 rw[xd (fn:=p80) rfl]
 refine bo (okn74_5 d c a b) fun x4=>?_
 exact lf rfl
def Fn45 (a:List Zv) (b:Z0) (c:Int):Option (List Zv):=
 (Fn80_2 a b c).bind fun x4=>some x4
theorem okn45 {k} (d) (c:List Zv) (a:Z0) (b:Int):runR (XD k (d+24)) 45 [.ref 1 0] [(2,.lst 124 3 false (I Zv.g c)),(1,.box (ck a b (.own 2)))] 3 false=(Fn45 c a b).map (fun(x5:List Zv)=>((.tup [],[(2,.lst 124 3 false (I Zv.g x5)),(1,.box (ck a b (.own 2)))],0))):=by
 rw[xd (fn:=p45) rfl]
 refine bo (okn80_2 d c a b) fun x4=>?_
 exact lf rfl
def F84 (c:Zp) (a:Ze):Option Bool:=
 (F85 a).bind fun b=>some (b !=0)
theorem ok84 {k} (d) (b:Zp) (a:Ze):OD k (d+9) 84 [.agg (Zp.g b),.agg (Ze.g a)]=(F84 b a).map (fun c=>bv c):=by
 rw[od (fn:=p84) rfl rfl rfl]
 refine bo (ok85 d a) fun e=>?_
 exact lf rfl
def Fn83 (t:List Zv) (s:Z0) (u:Int):Option (List Zv):=
 (aQ (E:=List Zv) (fun(⟨b,m⟩:Int×(List Zv))=>if decide (b<(s.Measures.length:Int))then(lget s.Measures b).bind fun n=>(aQ (E:=List Zv) (fun(⟨c,o⟩:Int×(List Zv))=>if decide (c<(n.Cells.length:Int))then(lget n.Cells c).bind fun p=>(aQ (E:=List Zv) (fun(⟨d,q⟩:Int×(List Zv))=>if decide (d<(p.Voices.length:Int))then(lget p.Voices d).bind fun r=>(aQ (E:=List Zv) (fun(⟨a,e⟩:Int×(List Zv))=>if decide (a<(r.Events.length:Int))then(lget r.Events a).bind fun f=>(F84 (Zp.mk 4 0 c b d a 0) f).bind fun g=>(Fn66 g f.ID e s u).bind fun h=>some (.inl ((w64 (a+1)),h))else some (.inr e)) B64 (0,q)).bind fun i=>some (.inl ((w64 (d+1)),i))else some (.inr q)) B64 (0,o)).bind fun j=>some (.inl ((w64 (c+1)),j))else some (.inr o)) B64 (0,m)).bind fun k=>some (.inl ((w64 (b+1)),k))else some (.inr m)) B64 (0,t)).bind fun l=>some l
theorem okn83 {k} (d) (x:List Zv) (c:Z0) (i:Int):runR (XD k (d+10)) 83 [.ref 1 0,.fn 84 [] []] [(2,.lst 124 3 false (I Zv.g x)),(1,.box (ck c i (.own 2)))] 3 false=(Fn83 x c i).map (fun(w:List Zv)=>((.tup [],[(2,.lst 124 3 false (I Zv.g w)),(1,.box (ck c i (.own 2)))],0))):=by
 rw[xd (fn:=p83) rfl]
 refine bz lm ?_
 refine bo (aI (S:=Int×(List Zv)) (enc:=fun⟨b,s⟩=>(Q [(0,.ref 1 0),(1,.fn 84 [] []),(16,.is 22 (I Zm.g c.Measures)),(17,i64 (c.Measures.length:Int)),(18,i64 b)] [(2,.lst 124 3 false (I Zv.g s)),(1,.box (ck c i (.own 2)))])) (encE:=(fun(r:List Zv)=>(xq 0 [] [(2,.lst 124 3 false (I Zv.g r)),(1,.box (ck c i (.own 2)))]))) (fun⟨b,s⟩=>?_) B64 (0,x)) fun r=>?_
 refine io ?_ (lf rfl)
 refine bo rg fun a=>?_
 refine bz lm ?_
 refine bo (aI (S:=Int×(List Zv)) (enc:=fun⟨e,t⟩=>(Q [(0,.ref 1 0),(1,.fn 84 [] []),(4,i64 b),(16,.is 22 (I Zm.g c.Measures)),(17,i64 (c.Measures.length:Int)),(18,i64 b),(24,.is 2 (I Zw.g a.Cells)),(25,i64 (a.Cells.length:Int)),(26,i64 e)] [(3,.box (Zm.g a)),(2,.lst 124 3 false (I Zv.g t)),(1,.box (ck c i (.own 2)))])) (encE:=(fun(q:List Zv)=>(xq 2 [(0,.ref 1 0),(1,.fn 84 [] []),(16,.is 22 (I Zm.g c.Measures)),(17,i64 (c.Measures.length:Int)),(18,i64 b)] [(3,.box (Zm.g a)),(2,.lst 124 3 false (I Zv.g q)),(1,.box (ck c i (.own 2)))]))) (fun⟨e,t⟩=>?_) B64 (0,s)) fun q=>?_
 refine io ?_ (lf rfl)
 refine bo rg fun f=>?_
 refine bz lm ?_
 refine bo (aI (S:=Int×(List Zv)) (enc:=fun⟨h,u⟩=>(Q [(0,.ref 1 0),(1,.fn 84 [] []),(4,i64 b),(6,i64 e),(16,.is 22 (I Zm.g c.Measures)),(17,i64 (c.Measures.length:Int)),(18,i64 b),(24,.is 2 (I Zw.g a.Cells)),(25,i64 (a.Cells.length:Int)),(26,i64 e),(32,.is 2 (I Zo.g f.Voices)),(33,i64 (f.Voices.length:Int)),(34,i64 h)] [(4,.box (Zw.g f)),(3,.box (Zm.g a)),(2,.lst 124 3 false (I Zv.g u)),(1,.box (ck c i (.own 2)))])) (encE:=(fun(p:List Zv)=>(xq 4 [(0,.ref 1 0),(1,.fn 84 [] []),(4,i64 b),(16,.is 22 (I Zm.g c.Measures)),(17,i64 (c.Measures.length:Int)),(18,i64 b),(24,.is 2 (I Zw.g a.Cells)),(25,i64 (a.Cells.length:Int)),(26,i64 e)] [(4,.box (Zw.g f)),(3,.box (Zm.g a)),(2,.lst 124 3 false (I Zv.g p)),(1,.box (ck c i (.own 2)))]))) (fun⟨h,u⟩=>?_) B64 (0,t)) fun p=>?_
 refine io ?_ (lf rfl)
 refine bo rg fun m=>?_
 refine bz lm ?_
 refine bo (aI (S:=Int×(List Zv)) (enc:=fun⟨j,l⟩=>(Q [(0,.ref 1 0),(1,.fn 84 [] []),(4,i64 b),(6,i64 e),(8,i64 h),(16,.is 22 (I Zm.g c.Measures)),(17,i64 (c.Measures.length:Int)),(18,i64 b),(24,.is 2 (I Zw.g a.Cells)),(25,i64 (a.Cells.length:Int)),(26,i64 e),(32,.is 2 (I Zo.g f.Voices)),(33,i64 (f.Voices.length:Int)),(34,i64 h),(40,.is 13 (I Ze.g m.Events)),(41,i64 (m.Events.length:Int)),(42,i64 j)] [(5,.box (Zo.g m)),(4,.box (Zw.g f)),(3,.box (Zm.g a)),(2,.lst 124 3 false (I Zv.g l)),(1,.box (ck c i (.own 2)))])) (encE:=(fun(o:List Zv)=>(xq 6 [(0,.ref 1 0),(1,.fn 84 [] []),(4,i64 b),(6,i64 e),(16,.is 22 (I Zm.g c.Measures)),(17,i64 (c.Measures.length:Int)),(18,i64 b),(24,.is 2 (I Zw.g a.Cells)),(25,i64 (a.Cells.length:Int)),(26,i64 e),(32,.is 2 (I Zo.g f.Voices)),(33,i64 (f.Voices.length:Int)),(34,i64 h)] [(5,.box (Zo.g m)),(4,.box (Zw.g f)),(3,.box (Zm.g a)),(2,.lst 124 3 false (I Zv.g o)),(1,.box (ck c i (.own 2)))]))) (fun⟨j,l⟩=>?_) B64 (0,u)) fun o=>?_
 refine io ?_ (lf rfl)
 refine bo rg fun n=>?_
 refine bo (ok84 d (Zp.mk 4 0 e b h j 0) n) fun v=>?_
 refine bo (okn66 (d+8) v n.ID l c i) fun y=>?_
 exact lf rfl
 exact lf rfl
 exact lf rfl
 exact lf rfl
 exact lf rfl
def Fn46 (a:List Zv) (b:Z0) (c:Int):Option (List Zv):=
 (Fn83 a b c).bind fun x4=>some x4
theorem okn46 {k} (d) (c:List Zv) (a:Z0) (b:Int):runR (XD k (d+11)) 46 [.ref 1 0] [(2,.lst 124 3 false (I Zv.g c)),(1,.box (ck a b (.own 2)))] 3 false=(Fn46 c a b).map (fun(x5:List Zv)=>((.tup [],[(2,.lst 124 3 false (I Zv.g x5)),(1,.box (ck a b (.own 2)))],0))):=by
 rw[xd (fn:=p46) rfl]
 refine bo (okn83 d c a b) fun x4=>?_
 exact lf rfl
def F87 (a:Z0) (b:Int):Option (Int×Int×Int):=
 if decide (b<0)then some (0,0,2)else(aQ (E:=(Int×Int)⊕Unit) (fun(⟨x4,x5⟩:Int×Int)=>if decide (x5<(a.Parts.length:Int))then(lget a.Parts x5).bind fun c=>if decide (x4<(c.Staves.length:Int))then some (.inr (.inl (x5,x4)))else some (.inl ((w64 (x4-(c.Staves.length:Int))),(w64 (x5+1))))else some (.inr (.inr ()))) B64 (b,0)).bind fun d=>(match d with|.inl ⟨x7,x8⟩=>some (x7,x8,0)|.inr _=>some (0,0,2))
theorem ok87 {k} (d) (a:Z0) (b:Int):OD k (d+1) 87 [.agg (Z0.g a),i64 b]=(F87 a b).map (fun⟨h,i,j⟩=>.tup [i64 h,i64 i,i64 j]):=by
 rw[od (fn:=p87) rfl rfl rfl]
 refine io (lf rfl) ?_
 refine bz lm ?_
 refine bo (aI (S:=Int×Int) (enc:=fun⟨x4,x5⟩=>(Q [(1,i64 x4),(12,.is 6 (I Zj.g a.Parts)),(13,i64 (a.Parts.length:Int)),(14,i64 x5)] [(0,.box (Z0.g a))])) (encE:=(fun|.inl ⟨c,e⟩=>(rq [(4,i64 c),(5,i64 e),(6,i64 0)] [(0,.box (Z0.g a))])|.inr _=>(xq 0 [] [(0,.box (Z0.g a))]))) (fun⟨x4,x5⟩=>?_) B64 (b,0)) fun f=>?_
 refine io ?_ (lf rfl)
 refine bo rg fun l=>?_
 refine bz lm ?_
 refine io (lf rfl) ?_
 refine bz lm ?_
 exact lf rfl
 rcases f with⟨c,e⟩|_
 exact lf rfl
 exact lf rfl
def F88 (a:Zh) (b:Int):Option Bool:=
 (F89 a).bind fun⟨c,x4⟩=>(F68 (w64 (c+b)) 0 127).bind fun x5=>some (!x5)
theorem ok88 {k} (d) (a:Zh) (b:Int):OD k (d+5) 88 [.agg (Zh.g a),.ip [i64 b]]=(F88 a b).map (fun e=>bv e):=by
 rw[od (fn:=p88) rfl rfl rfl]
 refine bo (ok89 d a) fun⟨c,x4⟩=>?_
 refine bo (ok68 (d+3) (w64 (c+b)) 0 127) fun x5=>?_
 exact lf rfl
def F91 (a:Zb) (b:Int):Option Bool:=
 (F88 a.Pitch b).bind fun c=>some c
theorem ok91 {k} (d) (a:Zb) (b:Int):OD k (d+6) 91 [.agg (Zb.g a),.ip [.fn 88 [] [.ip [i64 b]]]]=(F91 a b).map (fun c=>bv c):=by
 rw[od (fn:=p91) rfl rfl rfl]
 refine bo (ok88 d a.Pitch b) fun e=>?_
 exact lf rfl
def F143 (a:List Zb) (b:Int):Option Int:=
 (aQ (E:=Int⊕Unit) (fun(x5:Int)=>if decide (x5<(a.length:Int))then(lget a x5).bind fun c=>(F91 c b).bind fun d=>if d then some (.inr (.inl x5))else some (.inl (w64 (x5+1)))else some (.inr (.inr ()))) B64 0).bind fun e=>(match e with|.inl x8=>some x8|.inr _=>some (-1))
theorem ok143 {k} (d) (a:List Zb) (b:Int):OD k (d+7) 143 [.is 5 (I Zb.g a),.fn 91 [] [.ip [.fn 88 [] [.ip [i64 b]]]]]=(F143 a b).map (fun h=>i64 h):=by
 rw[od (fn:=p143) rfl rfl rfl]
 refine bz lm ?_
 refine bo (aI (S:=Int) (enc:=fun x5=>(Q [(0,.is 5 (I Zb.g a)),(1,.fn 91 [] [.ip [.fn 88 [] [.ip [i64 b]]]]),(7,i64 (a.length:Int)),(8,i64 x5)] [])) (encE:=(fun|.inl c=>(rq [(4,i64 c)] [])|.inr _=>(xq 0 [] []))) (fun x5=>?_) B64 0) fun f=>?_
 refine io ?_ (lf rfl)
 refine bo rg fun e=>?_
 refine bo (ok91 d e b) fun i=>?_
 refine io (lf rfl) (lf rfl)
 rcases f with c|_
 exact lf rfl
 exact lf rfl
def F90 (a:List Zb) (b:Int):Option Bool:=
 (F143 a b).bind fun c=>some (decide (c>=0))
theorem ok90 {k} (d) (a:List Zb) (b:Int):OD k (d+8) 90 [.is 5 (I Zb.g a),.fn 91 [] [.ip [.fn 88 [] [.ip [i64 b]]]]]=(F90 a b).map (fun c=>bv c):=by
 rw[od (fn:=p90) rfl rfl rfl]
 refine bo (ok143 d a b) fun e=>?_
 exact lf rfl
def F93 (a:Zd) (b:Int):Option Bool:=
 (F88 a.Pitch b).bind fun c=>some c
theorem ok93 {k} (d) (a:Zd) (b:Int):OD k (d+6) 93 [.agg (Zd.g a),.ip [.fn 88 [] [.ip [i64 b]]]]=(F93 a b).map (fun c=>bv c):=by
 rw[od (fn:=p93) rfl rfl rfl]
 refine bo (ok88 d a.Pitch b) fun e=>?_
 exact lf rfl
def F144 (a:List Zd) (b:Int):Option Int:=
 (aQ (E:=Int⊕Unit) (fun(x5:Int)=>if decide (x5<(a.length:Int))then(lget a x5).bind fun c=>(F93 c b).bind fun d=>if d then some (.inr (.inl x5))else some (.inl (w64 (x5+1)))else some (.inr (.inr ()))) B64 0).bind fun e=>(match e with|.inl x8=>some x8|.inr _=>some (-1))
theorem ok144 {k} (d) (a:List Zd) (b:Int):OD k (d+7) 144 [.is 5 (I Zd.g a),.fn 93 [] [.ip [.fn 88 [] [.ip [i64 b]]]]]=(F144 a b).map (fun h=>i64 h):=by
 rw[od (fn:=p144) rfl rfl rfl]
 refine bz lm ?_
 refine bo (aI (S:=Int) (enc:=fun x5=>(Q [(0,.is 5 (I Zd.g a)),(1,.fn 93 [] [.ip [.fn 88 [] [.ip [i64 b]]]]),(7,i64 (a.length:Int)),(8,i64 x5)] [])) (encE:=(fun|.inl c=>(rq [(4,i64 c)] [])|.inr _=>(xq 0 [] []))) (fun x5=>?_) B64 0) fun f=>?_
 refine io ?_ (lf rfl)
 refine bo rg fun e=>?_
 refine bo (ok93 d e b) fun i=>?_
 refine io (lf rfl) (lf rfl)
 rcases f with c|_
 exact lf rfl
 exact lf rfl
def F92 (a:List Zd) (b:Int):Option Bool:=
 (F144 a b).bind fun c=>some (decide (c>=0))
theorem ok92 {k} (d) (a:List Zd) (b:Int):OD k (d+8) 92 [.is 5 (I Zd.g a),.fn 93 [] [.ip [.fn 88 [] [.ip [i64 b]]]]]=(F92 a b).map (fun c=>bv c):=by
 rw[od (fn:=p92) rfl rfl rfl]
 refine bo (ok144 d a b) fun e=>?_
 exact lf rfl
def F86 (h:Zp) (e:Ze) (f:Zk):Option Bool:=
 (F85 e).bind fun x4=>if x4 !=0 then some false else(F87 f.s' h.Staff).bind fun⟨x5,k,i⟩=>((if i==0 then(lget f.s'.Parts x5).bind fun j=>some j.Transpose.Semitones else some 0:Option (Int))).bind fun g=>((if f.s'.Written then some (w64 (0-g))else some g:Option (Int))).bind fun a=>(F90 e.Heads a).bind fun b=>((if b then some true else(F92 e.Graces a).bind fun c=>some c:Option (Bool))).bind fun d=>some d
theorem ok86 {k} (d) (c:Zp) (b:Ze) (f:Zk):OD k (d+9) 86 [.agg (Zp.g c),.agg (Ze.g b),.ip [.ip (Zk.g f)]]=(F86 c b f).map (fun m=>bv m):=by
 rw[od (fn:=p86) rfl rfl rfl]
 refine bo (ok85 d b) fun x4=>?_
 refine io (lf rfl) ?_
 refine bo (ok87 (d+7) f.s' c.Staff) fun⟨x5,n,o⟩=>?_
 refine bo (e:=(fun(h:Int)=>(nq [(2,.ip [.ip (Zk.g f)]),(4,.ref 1 0),(6,.ref 2 0)] [(2,.box [i64 h]),(1,.box (Ze.g b)),(0,.box (Zp.g c))]))) ?_ fun h=>?_
 refine io ?_ (lf rfl)
 refine bo rg fun p=>?_
 exact lf rfl
 refine bo (e:=(fun(a:Int)=>(nq [(4,.ref 1 0),(6,.ref 2 0)] [(2,.box [i64 a]),(1,.box (Ze.g b)),(0,.box (Zp.g c))]))) ?_ fun a=>?_
 refine io (lf rfl) (lf rfl)
 refine bo (ok90 d b.Heads a) fun i=>?_
 refine bo (e:=id) ?_ fun l=>?_
 refine io (lf rfl) ?_
 refine bo (ok92 d b.Graces a) fun j=>?_
 exact lf rfl
 exact lf rfl
def Fn83_2 (u:List Zv) (s:Z0) (t:Int):Option (List Zv):=
 (aQ (E:=List Zv) (fun(⟨c,m⟩:Int×(List Zv))=>if decide (c<(s.Measures.length:Int))then(lget s.Measures c).bind fun n=>(aQ (E:=List Zv) (fun(⟨d,o⟩:Int×(List Zv))=>if decide (d<(n.Cells.length:Int))then(lget n.Cells d).bind fun p=>(aQ (E:=List Zv) (fun(⟨e,q⟩:Int×(List Zv))=>if decide (e<(p.Voices.length:Int))then(lget p.Voices e).bind fun r=>(aQ (E:=List Zv) (fun(⟨a,b⟩:Int×(List Zv))=>if decide (a<(r.Events.length:Int))then(lget r.Events a).bind fun f=>(F86 (Zp.mk 4 0 d c e a 0) f (Zk.mk s t b)).bind fun g=>(Fn66 g f.ID b s t).bind fun h=>some (.inl ((w64 (a+1)),h))else some (.inr b)) B64 (0,q)).bind fun i=>some (.inl ((w64 (e+1)),i))else some (.inr q)) B64 (0,o)).bind fun j=>some (.inl ((w64 (d+1)),j))else some (.inr o)) B64 (0,m)).bind fun k=>some (.inl ((w64 (c+1)),k))else some (.inr m)) B64 (0,u)).bind fun l=>some l
theorem okn83_2 {k} (d) (x:List Zv) (c:Z0) (i:Int):runR (XD k (d+10)) 83 [.ref 1 0,.fn 86 [] [.ref 3 0]] [(3,.box [.ref 1 0]),(2,.lst 124 3 false (I Zv.g x)),(1,.box (ck c i (.own 2)))] 4 false=(Fn83_2 x c i).map (fun(w:List Zv)=>((.tup [],[(3,.box [.ref 1 0]),(2,.lst 124 3 false (I Zv.g w)),(1,.box (ck c i (.own 2)))],0))):=by
 rw[xd (fn:=p83) rfl]
 refine bz lm ?_
 refine bo (aI (S:=Int×(List Zv)) (enc:=fun⟨b,s⟩=>(Q [(0,.ref 1 0),(1,.fn 86 [] [.ref 3 0]),(16,.is 22 (I Zm.g c.Measures)),(17,i64 (c.Measures.length:Int)),(18,i64 b)] [(3,.box [.ref 1 0]),(2,.lst 124 3 false (I Zv.g s)),(1,.box (ck c i (.own 2)))])) (encE:=(fun(r:List Zv)=>(xq 0 [] [(3,.box [.ref 1 0]),(2,.lst 124 3 false (I Zv.g r)),(1,.box (ck c i (.own 2)))]))) (fun⟨b,s⟩=>?_) B64 (0,x)) fun r=>?_
 refine io ?_ (lf rfl)
 refine bo rg fun a=>?_
 refine bz lm ?_
 refine bo (aI (S:=Int×(List Zv)) (enc:=fun⟨e,t⟩=>(Q [(0,.ref 1 0),(1,.fn 86 [] [.ref 3 0]),(4,i64 b),(16,.is 22 (I Zm.g c.Measures)),(17,i64 (c.Measures.length:Int)),(18,i64 b),(24,.is 2 (I Zw.g a.Cells)),(25,i64 (a.Cells.length:Int)),(26,i64 e)] [(4,.box (Zm.g a)),(3,.box [.ref 1 0]),(2,.lst 124 3 false (I Zv.g t)),(1,.box (ck c i (.own 2)))])) (encE:=(fun(q:List Zv)=>(xq 2 [(0,.ref 1 0),(1,.fn 86 [] [.ref 3 0]),(16,.is 22 (I Zm.g c.Measures)),(17,i64 (c.Measures.length:Int)),(18,i64 b)] [(4,.box (Zm.g a)),(3,.box [.ref 1 0]),(2,.lst 124 3 false (I Zv.g q)),(1,.box (ck c i (.own 2)))]))) (fun⟨e,t⟩=>?_) B64 (0,s)) fun q=>?_
 refine io ?_ (lf rfl)
 refine bo rg fun f=>?_
 refine bz lm ?_
 refine bo (aI (S:=Int×(List Zv)) (enc:=fun⟨j,u⟩=>(Q [(0,.ref 1 0),(1,.fn 86 [] [.ref 3 0]),(4,i64 b),(6,i64 e),(16,.is 22 (I Zm.g c.Measures)),(17,i64 (c.Measures.length:Int)),(18,i64 b),(24,.is 2 (I Zw.g a.Cells)),(25,i64 (a.Cells.length:Int)),(26,i64 e),(32,.is 2 (I Zo.g f.Voices)),(33,i64 (f.Voices.length:Int)),(34,i64 j)] [(5,.box (Zw.g f)),(4,.box (Zm.g a)),(3,.box [.ref 1 0]),(2,.lst 124 3 false (I Zv.g u)),(1,.box (ck c i (.own 2)))])) (encE:=(fun(p:List Zv)=>(xq 4 [(0,.ref 1 0),(1,.fn 86 [] [.ref 3 0]),(4,i64 b),(16,.is 22 (I Zm.g c.Measures)),(17,i64 (c.Measures.length:Int)),(18,i64 b),(24,.is 2 (I Zw.g a.Cells)),(25,i64 (a.Cells.length:Int)),(26,i64 e)] [(5,.box (Zw.g f)),(4,.box (Zm.g a)),(3,.box [.ref 1 0]),(2,.lst 124 3 false (I Zv.g p)),(1,.box (ck c i (.own 2)))]))) (fun⟨j,u⟩=>?_) B64 (0,t)) fun p=>?_
 refine io ?_ (lf rfl)
 refine bo rg fun m=>?_
 refine bz lm ?_
 refine bo (aI (S:=Int×(List Zv)) (enc:=fun⟨l,h⟩=>(Q [(0,.ref 1 0),(1,.fn 86 [] [.ref 3 0]),(4,i64 b),(6,i64 e),(8,i64 j),(16,.is 22 (I Zm.g c.Measures)),(17,i64 (c.Measures.length:Int)),(18,i64 b),(24,.is 2 (I Zw.g a.Cells)),(25,i64 (a.Cells.length:Int)),(26,i64 e),(32,.is 2 (I Zo.g f.Voices)),(33,i64 (f.Voices.length:Int)),(34,i64 j),(40,.is 13 (I Ze.g m.Events)),(41,i64 (m.Events.length:Int)),(42,i64 l)] [(6,.box (Zo.g m)),(5,.box (Zw.g f)),(4,.box (Zm.g a)),(3,.box [.ref 1 0]),(2,.lst 124 3 false (I Zv.g h)),(1,.box (ck c i (.own 2)))])) (encE:=(fun(o:List Zv)=>(xq 6 [(0,.ref 1 0),(1,.fn 86 [] [.ref 3 0]),(4,i64 b),(6,i64 e),(16,.is 22 (I Zm.g c.Measures)),(17,i64 (c.Measures.length:Int)),(18,i64 b),(24,.is 2 (I Zw.g a.Cells)),(25,i64 (a.Cells.length:Int)),(26,i64 e),(32,.is 2 (I Zo.g f.Voices)),(33,i64 (f.Voices.length:Int)),(34,i64 j)] [(6,.box (Zo.g m)),(5,.box (Zw.g f)),(4,.box (Zm.g a)),(3,.box [.ref 1 0]),(2,.lst 124 3 false (I Zv.g o)),(1,.box (ck c i (.own 2)))]))) (fun⟨l,h⟩=>?_) B64 (0,u)) fun o=>?_
 refine io ?_ (lf rfl)
 refine bo rg fun n=>?_
 refine bo (ok86 d (Zp.mk 4 0 e b j l 0) n (Zk.mk c i h)) fun v=>?_
 refine bo (okn66 (d+8) v n.ID h c i) fun y=>?_
 exact lf rfl
 exact lf rfl
 exact lf rfl
 exact lf rfl
 exact lf rfl
def Fn47 (a:List Zv) (b:Z0) (c:Int):Option (List Zv):=
 (Fn83_2 a b c).bind fun x4=>some x4
theorem okn47 {k} (d) (c:List Zv) (a:Z0) (b:Int):runR (XD k (d+11)) 47 [.ref 1 0] [(2,.lst 124 3 false (I Zv.g c)),(1,.box (ck a b (.own 2)))] 3 false=(Fn47 c a b).map (fun(x5:List Zv)=>((.tup [],[(2,.lst 124 3 false (I Zv.g x5)),(1,.box (ck a b (.own 2)))],0))):=by
 rw[xd (fn:=p47) rfl]
 refine bo (okn83_2 d c a b) fun x4=>?_
 exact lf rfl
def F145 (a:Zb):Option Bool:=
 some a.Tied
theorem ok145 {k} (d) (a:Zb):OD k (d+1) 145 [.agg (Zb.g a)]=(F145 a).map (fun b=>bv b):=by
 rw[od (fn:=p145) rfl rfl rfl]
 exact lf rfl
def F143_2 (a:List Zb):Option Int:=
 (aQ (E:=Int⊕Unit) (fun(x4:Int)=>if decide (x4<(a.length:Int))then(lget a x4).bind fun x5=>(F145 x5).bind fun b=>if b then some (.inr (.inl x4))else some (.inl (w64 (x4+1)))else some (.inr (.inr ()))) B64 0).bind fun c=>(match c with|.inl x7=>some x7|.inr _=>some (-1))
theorem ok143_2 {k} (d) (a:List Zb):OD k (d+2) 143 [.is 5 (I Zb.g a),.fn 145 [] []]=(F143_2 a).map (fun e=>i64 e):=by
 rw[od (fn:=p143) rfl rfl rfl]
 refine bz lm ?_
 refine bo (aI (S:=Int) (enc:=fun x4=>(Q [(0,.is 5 (I Zb.g a)),(1,.fn 145 [] []),(7,i64 (a.length:Int)),(8,i64 x4)] [])) (encE:=(fun|.inl b=>(rq [(4,i64 b)] [])|.inr _=>(xq 0 [] []))) (fun x4=>?_) B64 0) fun c=>?_
 refine io ?_ (lf rfl)
 refine bo rg fun x5=>?_
 refine bo (ok145 d x5) fun f=>?_
 refine io (lf rfl) (lf rfl)
 rcases c with b|_
 exact lf rfl
 exact lf rfl
def F90_2 (a:List Zb):Option Bool:=
 (F143_2 a).bind fun b=>some (decide (b>=0))
theorem ok90_2 {k} (d) (a:List Zb):OD k (d+3) 90 [.is 5 (I Zb.g a),.fn 145 [] []]=(F90_2 a).map (fun b=>bv b):=by
 rw[od (fn:=p90) rfl rfl rfl]
 refine bo (ok143_2 d a) fun c=>?_
 exact lf rfl
def F95 (a:Ze):Option Bool:=
 ((if a.Kind==1 then(F90_2 a.Heads).bind fun b=>some b else some false:Option (Bool))).bind fun c=>some c
theorem ok95 {k} (d) (a:Ze):OD k (d+4) 95 [.agg (Ze.g a)]=(F95 a).map (fun b=>bv b):=by
 rw[od (fn:=p95) rfl rfl rfl]
 refine bo (e:=id) ?_ fun f=>?_
 refine io ?_ (lf rfl)
 refine bo (ok90_2 d a.Heads) fun c=>?_
 exact lf rfl
 exact lf rfl
def F147 (b:Z0) (a c x4:Int):Option (List Ze):=
 ((if((decide (a<0))||(decide (a>=(b.Measures.length:Int))))||(decide (c<0))then some true else(lget b.Measures a).bind fun x5=>some (decide (c>=(x5.Cells.length:Int))):Option (Bool))).bind fun g=>((if g||(decide (x4<0))then some true else(lget b.Measures a).bind fun h=>(lget h.Cells c).bind fun i=>some (decide (x4>=(i.Voices.length:Int))):Option (Bool))).bind fun j=>if j then some []else(lget b.Measures a).bind fun d=>(lget d.Cells c).bind fun e=>(lget e.Voices x4).bind fun f=>some f.Events
theorem ok147 {k} (d) (a:Z0) (b c x4:Int):OD k (d+1) 147 [.agg (Z0.g a),i64 b,i64 c,i64 x4]=(F147 a b c x4).map (fun j=>.is 13 (I Ze.g j)):=by
 rw[od (fn:=p147) rfl rfl rfl]
 refine bz (gor (bz lm rfl)) ?_
 refine bz (gor rfl) ?_
 refine bo (e:=id) ?_ fun l=>?_
 refine io (lf rfl) ?_
 refine bo rg fun x5=>?_
 refine bz lm ?_
 exact lf rfl
 refine bz (gor rfl) ?_
 refine bo (e:=id) ?_ fun o=>?_
 refine io (lf rfl) ?_
 refine bo rg fun m=>?_
 refine bo rg fun n=>?_
 refine bz lm ?_
 exact lf rfl
 refine io (lf rfl) ?_
 refine bo rg fun f=>?_
 refine bo rg fun h=>?_
 refine bo rg fun i=>?_
 exact lf rfl
def F146 (b:Z0) (a:Zp):Option Int:=
 if a.Kind !=4 then some 11 else((if decide (a.Event<0)then some true else(F147 b a.Measure a.Staff a.Voice).bind fun c=>some (decide (a.Event>=(c.length:Int))):Option (Bool))).bind fun x4=>if x4 then some 2 else some 0
theorem ok146 {k} (d) (b:Z0) (a:Zp):OD k (d+2) 146 [.agg (Z0.g b),.agg (Zp.g a)]=(F146 b a).map (fun c=>i64 c):=by
 rw[od (fn:=p146) rfl rfl rfl]
 refine io (lf rfl) ?_
 refine bo (e:=id) ?_ fun x4=>?_
 refine io (lf rfl) ?_
 refine bo (ok147 d b a.Measure a.Staff a.Voice) fun f=>?_
 refine bz lm ?_
 exact lf rfl
 refine io (lf rfl) (lf rfl)
def F148 (a b:Int) (c x4:Int):Option Zp:=
 some (Zp.mk 4 0 b a c x4 0)
theorem ok148 {k} (d) (a b:Int) (c x4:Int):OD k (d+1) 148 [i64 a,i64 b,i64 c,i64 x4]=(F148 a b c x4).map (fun e=>.agg (Zp.g e)):=by
 rw[od (fn:=p148) rfl rfl rfl]
 exact lf rfl
def F96 (b:Z0) (a:Zp):Option (Zp×Bool):=
 (F146 b a).bind fun c=>if c !=0 then some ((Zp.mk 0 0 0 0 0 0 0),false)else(F147 b a.Measure a.Staff a.Voice).bind fun x4=>if decide ((w64 (a.Event+1))<(x4.length:Int))then(F148 a.Measure a.Staff a.Voice (w64 (a.Event+1))).bind fun x5=>some (x5,true)else(F147 b (w64 (a.Measure+1)) a.Staff a.Voice).bind fun d=>if decide ((d.length:Int)>0)then(F148 (w64 (a.Measure+1)) a.Staff a.Voice 0).bind fun e=>some (e,true)else some ((Zp.mk 0 0 0 0 0 0 0),false)
theorem ok96 {k} (d) (b:Z0) (a:Zp):OD k (d+3) 96 [.agg (Z0.g b),.agg (Zp.g a)]=(F96 b a).map (fun⟨c,e⟩=>.tup [.agg (Zp.g c),bv e]):=by
 rw[od (fn:=p96) rfl rfl rfl]
 refine bo (ok146 d b a) fun f=>?_
 refine io (lf rfl) ?_
 refine bo (ok147 (d+1) b a.Measure a.Staff a.Voice) fun x4=>?_
 refine bz lm ?_
 refine io ?_ ?_
 refine bo (ok148 (d+1) a.Measure a.Staff a.Voice (w64 (a.Event+1))) fun x5=>?_
 exact lf rfl
 refine bo (ok147 (d+1) b (w64 (a.Measure+1)) a.Staff a.Voice) fun h=>?_
 refine bz lm ?_
 refine io ?_ (lf rfl)
 refine bo (ok148 (d+1) (w64 (a.Measure+1)) a.Staff a.Voice 0) fun i=>?_
 exact lf rfl
def F149 (a:Ze):Option Ze:=
 (mQ a.Heads).bind fun b=>(mQ a.Graces).bind fun c=>(mQ a.Lyrics).bind fun x4=>some (Ze.mk a.ID a.Kind a.Value b c a.Articulations a.Ornament a.Dynamic x4 a.Stem a.Beam)
theorem ok149 {k} (d) (a:Ze):OD k (d+2) 149 [.agg (Ze.g a)]=(F149 a).map (fun b=>.agg (Ze.g b)):=by
 rw[od (fn:=p149) rfl rfl rfl]
 refine bo (jY 181 (d+1) 5 _ _ rfl rfl rfl) fun c=>?_
 refine bo (jY 182 (d+1) 5 _ _ rfl rfl rfl) fun e=>?_
 refine bo (jY 183 (d+1) 2 _ _ rfl rfl rfl) fun x4=>?_
 exact lf rfl
def F97 (b:Z0) (a:Zp):Option (Ze×Int):=
 (F146 b a).bind fun c=>if c !=0 then some ((Ze.mk (Zz.mk 0 0) 0 (Za.mk 0 0) [] [] 0 0 0 [] 0 0),c)else(F147 b a.Measure a.Staff a.Voice).bind fun x4=>(lget x4 a.Event).bind fun x5=>(F149 x5).bind fun d=>some (d,0)
theorem ok97 {k} (d) (b:Z0) (a:Zp):OD k (d+3) 97 [.agg (Z0.g b),.agg (Zp.g a)]=(F97 b a).map (fun⟨c,e⟩=>.tup [.agg (Ze.g c),i64 e]):=by
 rw[od (fn:=p97) rfl rfl rfl]
 refine bo (ok146 d b a) fun f=>?_
 refine io (lf rfl) ?_
 refine bo (ok147 (d+1) b a.Measure a.Staff a.Voice) fun x4=>?_
 refine bo rg fun x5=>?_
 refine bo (ok149 d x5) fun h=>?_
 exact lf rfl
def F150 (a b:Zb):Option Bool:=
 some (((a.Pitch.Step==b.Pitch.Step)&&((a.Pitch.Alter==b.Pitch.Alter)&&((a.Pitch.Octave==b.Pitch.Octave)&&true)))!=false)
theorem ok150 {k} (d) (a b:Zb):OD k (d+1) 150 [.agg (Zb.g a),.ip (Zb.g b)]=(F150 a b).map (fun c=>bv c):=by
 rw[od (fn:=p150) rfl rfl rfl]
 exact lf rfl
def F143_3 (a:List Zb) (b:Zb):Option Int:=
 (aQ (E:=Int⊕Unit) (fun(x5:Int)=>if decide (x5<(a.length:Int))then(lget a x5).bind fun c=>(F150 c b).bind fun d=>if d then some (.inr (.inl x5))else some (.inl (w64 (x5+1)))else some (.inr (.inr ()))) B64 0).bind fun e=>(match e with|.inl x8=>some x8|.inr _=>some (-1))
theorem ok143_3 {k} (d) (a:List Zb) (b:Zb):OD k (d+2) 143 [.is 5 (I Zb.g a),.fn 150 [] [.ip (Zb.g b)]]=(F143_3 a b).map (fun h=>i64 h):=by
 rw[od (fn:=p143) rfl rfl rfl]
 refine bz lm ?_
 refine bo (aI (S:=Int) (enc:=fun x5=>(Q [(0,.is 5 (I Zb.g a)),(1,.fn 150 [] [.ip (Zb.g b)]),(7,i64 (a.length:Int)),(8,i64 x5)] [])) (encE:=(fun|.inl c=>(rq [(4,i64 c)] [])|.inr _=>(xq 0 [] []))) (fun x5=>?_) B64 0) fun f=>?_
 refine io ?_ (lf rfl)
 refine bo rg fun e=>?_
 refine bo (ok150 d e b) fun i=>?_
 refine io (lf rfl) (lf rfl)
 rcases f with c|_
 exact lf rfl
 exact lf rfl
def F90_3 (a:List Zb) (b:Zb):Option Bool:=
 (F143_3 a b).bind fun c=>some (decide (c>=0))
theorem ok90_3 {k} (d) (a:List Zb) (b:Zb):OD k (d+3) 90 [.is 5 (I Zb.g a),.fn 150 [] [.ip (Zb.g b)]]=(F90_3 a b).map (fun c=>bv c):=by
 rw[od (fn:=p90) rfl rfl rfl]
 refine bo (ok143_3 d a b) fun e=>?_
 exact lf rfl
def F98 (a f:Ze):Option Bool:=
 if a.Kind !=1 then some true else(aQ (E:=Unit⊕Unit) (fun(e:Int)=>if decide (e<(a.Heads.length:Int))then(lget a.Heads e).bind fun g=>((if g.Tied then((if f.Kind==1 then(F90_3 f.Heads g).bind fun h=>some h else some false:Option (Bool))).bind fun b=>some (!b)else some false:Option (Bool))).bind fun c=>if c then some (.inr (.inl ()))else some (.inl (w64 (e+1)))else some (.inr (.inr ()))) B64 0).bind fun d=>(match d with|.inl _=>some false|.inr _=>some true)
theorem ok98 {k} (d) (a b:Ze):OD k (d+4) 98 [.agg (Ze.g a),.agg (Ze.g b)]=(F98 a b).map (fun l=>bv l):=by
 rw[od (fn:=p98) rfl rfl rfl]
 refine io (lf rfl) ?_
 refine bz lm ?_
 refine bo (aI (S:=Int) (enc:=fun f=>(Q [(3,.ref 1 0),(11,.is 5 (I Zb.g a.Heads)),(12,i64 (a.Heads.length:Int)),(13,i64 f)] [(1,.box (Ze.g b)),(0,.box (Ze.g a))])) (encE:=(fun|.inl _=>(rq [(4,bv false)] [(1,.box (Ze.g b)),(0,.box (Ze.g a))])|.inr _=>(xq 0 [] [(1,.box (Ze.g b)),(0,.box (Ze.g a))]))) (fun f=>?_) B64 0) fun c=>?_
 refine io ?_ (lf rfl)
 refine bo rg fun j=>?_
 refine bo (e:=id) ?_ fun i=>?_
 refine io ?_ (lf rfl)
 refine bo (e:=id) ?_ fun h=>?_
 refine io ?_ (lf rfl)
 refine bo (ok90_3 d b.Heads j) fun m=>?_
 exact lf rfl
 exact lf rfl
 refine io (lf rfl) (lf rfl)
 rcases c with _|_
 exact lf rfl
 exact lf rfl
def F94 (d:Zp) (b:Ze) (c:Zk):Option Bool:=
 (F95 b).bind fun x4=>if !x4 then some false else(F96 c.s' d).bind fun⟨x5,e⟩=>(F97 c.s' x5).bind fun⟨f,h⟩=>((if !e then some true else(F98 b f).bind fun g=>some (!g):Option (Bool))).bind fun a=>some a
theorem ok94 {k} (d) (c:Zp) (a:Ze) (b:Zk):OD k (d+5) 94 [.agg (Zp.g c),.agg (Ze.g a),.ip [.ip (Zk.g b)]]=(F94 c a b).map (fun i=>bv i):=by
 rw[od (fn:=p94) rfl rfl rfl]
 refine bo (ok95 d a) fun x4=>?_
 refine io (lf rfl) ?_
 refine bo (ok96 (d+1) b.s' c) fun⟨x5,j⟩=>?_
 refine bo (ok97 (d+1) b.s' x5) fun⟨h,l⟩=>?_
 refine bo (e:=id) ?_ fun f=>?_
 refine io (lf rfl) ?_
 refine bo (ok98 d a h) fun m=>?_
 exact lf rfl
 exact lf rfl
def Fn83_3 (u:List Zv) (s:Z0) (t:Int):Option (List Zv):=
 (aQ (E:=List Zv) (fun(⟨c,m⟩:Int×(List Zv))=>if decide (c<(s.Measures.length:Int))then(lget s.Measures c).bind fun n=>(aQ (E:=List Zv) (fun(⟨d,o⟩:Int×(List Zv))=>if decide (d<(n.Cells.length:Int))then(lget n.Cells d).bind fun p=>(aQ (E:=List Zv) (fun(⟨e,q⟩:Int×(List Zv))=>if decide (e<(p.Voices.length:Int))then(lget p.Voices e).bind fun r=>(aQ (E:=List Zv) (fun(⟨a,b⟩:Int×(List Zv))=>if decide (a<(r.Events.length:Int))then(lget r.Events a).bind fun f=>(F94 (Zp.mk 4 0 d c e a 0) f (Zk.mk s t b)).bind fun g=>(Fn66 g f.ID b s t).bind fun h=>some (.inl ((w64 (a+1)),h))else some (.inr b)) B64 (0,q)).bind fun i=>some (.inl ((w64 (e+1)),i))else some (.inr q)) B64 (0,o)).bind fun j=>some (.inl ((w64 (d+1)),j))else some (.inr o)) B64 (0,m)).bind fun k=>some (.inl ((w64 (c+1)),k))else some (.inr m)) B64 (0,u)).bind fun l=>some l
theorem okn83_3 {k} (d) (x:List Zv) (c:Z0) (i:Int):runR (XD k (d+6)) 83 [.ref 1 0,.fn 94 [] [.ref 3 0]] [(3,.box [.ref 1 0]),(2,.lst 124 3 false (I Zv.g x)),(1,.box (ck c i (.own 2)))] 4 false=(Fn83_3 x c i).map (fun(w:List Zv)=>((.tup [],[(3,.box [.ref 1 0]),(2,.lst 124 3 false (I Zv.g w)),(1,.box (ck c i (.own 2)))],0))):=by
 rw[xd (fn:=p83) rfl]
 refine bz lm ?_
 refine bo (aI (S:=Int×(List Zv)) (enc:=fun⟨b,s⟩=>(Q [(0,.ref 1 0),(1,.fn 94 [] [.ref 3 0]),(16,.is 22 (I Zm.g c.Measures)),(17,i64 (c.Measures.length:Int)),(18,i64 b)] [(3,.box [.ref 1 0]),(2,.lst 124 3 false (I Zv.g s)),(1,.box (ck c i (.own 2)))])) (encE:=(fun(r:List Zv)=>(xq 0 [] [(3,.box [.ref 1 0]),(2,.lst 124 3 false (I Zv.g r)),(1,.box (ck c i (.own 2)))]))) (fun⟨b,s⟩=>?_) B64 (0,x)) fun r=>?_
 refine io ?_ (lf rfl)
 refine bo rg fun a=>?_
 refine bz lm ?_
 refine bo (aI (S:=Int×(List Zv)) (enc:=fun⟨e,t⟩=>(Q [(0,.ref 1 0),(1,.fn 94 [] [.ref 3 0]),(4,i64 b),(16,.is 22 (I Zm.g c.Measures)),(17,i64 (c.Measures.length:Int)),(18,i64 b),(24,.is 2 (I Zw.g a.Cells)),(25,i64 (a.Cells.length:Int)),(26,i64 e)] [(4,.box (Zm.g a)),(3,.box [.ref 1 0]),(2,.lst 124 3 false (I Zv.g t)),(1,.box (ck c i (.own 2)))])) (encE:=(fun(q:List Zv)=>(xq 2 [(0,.ref 1 0),(1,.fn 94 [] [.ref 3 0]),(16,.is 22 (I Zm.g c.Measures)),(17,i64 (c.Measures.length:Int)),(18,i64 b)] [(4,.box (Zm.g a)),(3,.box [.ref 1 0]),(2,.lst 124 3 false (I Zv.g q)),(1,.box (ck c i (.own 2)))]))) (fun⟨e,t⟩=>?_) B64 (0,s)) fun q=>?_
 refine io ?_ (lf rfl)
 refine bo rg fun f=>?_
 refine bz lm ?_
 refine bo (aI (S:=Int×(List Zv)) (enc:=fun⟨j,u⟩=>(Q [(0,.ref 1 0),(1,.fn 94 [] [.ref 3 0]),(4,i64 b),(6,i64 e),(16,.is 22 (I Zm.g c.Measures)),(17,i64 (c.Measures.length:Int)),(18,i64 b),(24,.is 2 (I Zw.g a.Cells)),(25,i64 (a.Cells.length:Int)),(26,i64 e),(32,.is 2 (I Zo.g f.Voices)),(33,i64 (f.Voices.length:Int)),(34,i64 j)] [(5,.box (Zw.g f)),(4,.box (Zm.g a)),(3,.box [.ref 1 0]),(2,.lst 124 3 false (I Zv.g u)),(1,.box (ck c i (.own 2)))])) (encE:=(fun(p:List Zv)=>(xq 4 [(0,.ref 1 0),(1,.fn 94 [] [.ref 3 0]),(4,i64 b),(16,.is 22 (I Zm.g c.Measures)),(17,i64 (c.Measures.length:Int)),(18,i64 b),(24,.is 2 (I Zw.g a.Cells)),(25,i64 (a.Cells.length:Int)),(26,i64 e)] [(5,.box (Zw.g f)),(4,.box (Zm.g a)),(3,.box [.ref 1 0]),(2,.lst 124 3 false (I Zv.g p)),(1,.box (ck c i (.own 2)))]))) (fun⟨j,u⟩=>?_) B64 (0,t)) fun p=>?_
 refine io ?_ (lf rfl)
 refine bo rg fun m=>?_
 refine bz lm ?_
 refine bo (aI (S:=Int×(List Zv)) (enc:=fun⟨l,h⟩=>(Q [(0,.ref 1 0),(1,.fn 94 [] [.ref 3 0]),(4,i64 b),(6,i64 e),(8,i64 j),(16,.is 22 (I Zm.g c.Measures)),(17,i64 (c.Measures.length:Int)),(18,i64 b),(24,.is 2 (I Zw.g a.Cells)),(25,i64 (a.Cells.length:Int)),(26,i64 e),(32,.is 2 (I Zo.g f.Voices)),(33,i64 (f.Voices.length:Int)),(34,i64 j),(40,.is 13 (I Ze.g m.Events)),(41,i64 (m.Events.length:Int)),(42,i64 l)] [(6,.box (Zo.g m)),(5,.box (Zw.g f)),(4,.box (Zm.g a)),(3,.box [.ref 1 0]),(2,.lst 124 3 false (I Zv.g h)),(1,.box (ck c i (.own 2)))])) (encE:=(fun(o:List Zv)=>(xq 6 [(0,.ref 1 0),(1,.fn 94 [] [.ref 3 0]),(4,i64 b),(6,i64 e),(16,.is 22 (I Zm.g c.Measures)),(17,i64 (c.Measures.length:Int)),(18,i64 b),(24,.is 2 (I Zw.g a.Cells)),(25,i64 (a.Cells.length:Int)),(26,i64 e),(32,.is 2 (I Zo.g f.Voices)),(33,i64 (f.Voices.length:Int)),(34,i64 j)] [(6,.box (Zo.g m)),(5,.box (Zw.g f)),(4,.box (Zm.g a)),(3,.box [.ref 1 0]),(2,.lst 124 3 false (I Zv.g o)),(1,.box (ck c i (.own 2)))]))) (fun⟨l,h⟩=>?_) B64 (0,u)) fun o=>?_
 refine io ?_ (lf rfl)
 refine bo rg fun n=>?_
 refine bo (ok94 d (Zp.mk 4 0 e b j l 0) n (Zk.mk c i h)) fun v=>?_
 refine bo (okn66 (d+4) v n.ID h c i) fun y=>?_
 exact lf rfl
 exact lf rfl
 exact lf rfl
 exact lf rfl
 exact lf rfl
def Fn48 (a:List Zv) (b:Z0) (c:Int):Option (List Zv):=
 (Fn83_3 a b c).bind fun x4=>some x4
theorem okn48 {k} (d) (c:List Zv) (a:Z0) (b:Int):runR (XD k (d+7)) 48 [.ref 1 0] [(2,.lst 124 3 false (I Zv.g c)),(1,.box (ck a b (.own 2)))] 3 false=(Fn48 c a b).map (fun(x5:List Zv)=>((.tup [],[(2,.lst 124 3 false (I Zv.g x5)),(1,.box (ck a b (.own 2)))],0))):=by
 rw[xd (fn:=p48) rfl]
 refine bo (okn83_3 d c a b) fun x4=>?_
 exact lf rfl
def F151 (a:Ze) (b:Int):Option Bool:=
 ((if decide (b>=(a.Lyrics.length:Int))then some true else(lget a.Lyrics b).bind fun c=>some (((c.Text==(⟨#[]⟩:ByteArray))&&((c.Link==0)&&true))!=false):Option (Bool))).bind fun x4=>some x4
theorem ok151 {k} (d) (a:Ze) (b:Int):OD k (d+1) 151 [.agg (Ze.g a),i64 b]=(F151 a b).map (fun c=>bv c):=by
 rw[od (fn:=p151) rfl rfl rfl]
 refine bz lm ?_
 refine bo (e:=id) ?_ fun x4=>?_
 refine io (lf rfl) ?_
 refine bo rg fun f=>?_
 exact lf rfl
 exact lf rfl
def Fn99 (v P U:Int) (x4:List (Zp×Bool)) (x5:List Zv) (V:Z0) (W:Int):Option (List (Zp×Bool)):=
 (aQ (E:=Int×Int×Int×Int×Int×Zy×(List (Zp×Bool))) (fun(⟨e,n,o,p,q,r,s,t⟩:Int×Int×Int×Int×Int×Int×Zy×(List (Zp×Bool)))=>if decide (e<(V.Measures.length:Int))then(lget V.Measures e).bind fun u=>((if decide (v>=(u.Cells.length:Int))then some true else(lget u.Cells v).bind fun R=>some (decide (P>=(R.Voices.length:Int))):Option (Bool))).bind fun S=>if S then some (.inl ((w64 (e+1)),n,o,p,q,r,s,t))else(lget u.Cells v).bind fun T=>(lget T.Voices P).bind fun O=>(aQ (E:=Int×Int×Int×Int×Int×Zy×(List (Zp×Bool))) (fun(⟨a,f,g,h,i,j,b,c⟩:Int×Int×Int×Int×Int×Int×Zy×(List (Zp×Bool)))=>if decide (a<(O.Events.length:Int))then(lget O.Events a).bind fun k=>(F151 k U).bind fun w=>if w then some (.inl ((w64 (a+1)),f,g,h,i,j,b,c))else(lget k.Lyrics U).bind fun d=>((if(b.Link==1)&&(d.Text.toList==(⟨#[]⟩:ByteArray).toList)then some (mput c (Zp.mk f 0 g h i j 0) true)else some c:Option (List (Zp×Bool)))).bind fun l=>((if((d.Text.toList==(⟨#[]⟩:ByteArray).toList)&&(d.Link==2))&&(b.Link !=2)then some (mput l (Zp.mk 4 0 v e P a 0) true)else some l:Option (List (Zp×Bool)))).bind fun x=>some (.inl ((w64 (a+1)),4,v,e,P,a,d,x))else some (.inr (f,g,h,i,j,b,c))) B64 (0,n,o,p,q,r,s,t)).bind fun⟨y,z,A,B,C,D,F⟩=>some (.inl ((w64 (e+1)),y,z,A,B,C,D,F))else some (.inr (n,o,p,q,r,s,t))) B64 (0,0,0,0,0,0,(Zy.mk (⟨#[]⟩:ByteArray) 0),x4)).bind fun⟨G,H,J,K,L,M,m⟩=>((if M.Link==1 then some (mput m (Zp.mk G 0 H J K L 0) true)else some m:Option (List (Zp×Bool)))).bind fun N=>some N
theorem okn99 {k} (d) (y z N:Int) (x4:List (Zp×Bool)) (x5:List Zv) (c:Z0) (A:Int):runR (XD k (d+2)) 99 [.ref 1 0,i64 y,i64 z,i64 N,.map 3] [(3,.mp (I (mEnt (eA Zp.g) bv) x4)),(2,.lst 124 3 false (I Zv.g x5)),(1,.box (ck c A (.own 2)))] 4 false=(Fn99 y z N x4 x5 c A).map (fun(X:List (Zp×Bool))=>((.tup [],[(3,.mp (I (mEnt (eA Zp.g) bv) X)),(2,.lst 124 3 false (I Zv.g x5)),(1,.box (ck c A (.own 2)))],0))):=by
 rw[xd (fn:=p99) rfl]
 refine bz lm ?_
 refine bo (aI (S:=Int×Int×Int×Int×Int×Int×Zy×(List (Zp×Bool))) (enc:=fun⟨a,O,P,R,T,U,V,W⟩=>(Q [(1,i64 y),(2,i64 z),(3,i64 N),(4,.map 3),(10,.ref 4 0),(11,.ref 5 0),(22,.is 22 (I Zm.g c.Measures)),(23,i64 (c.Measures.length:Int)),(24,i64 a)] [(5,.box [i64 O,i64 0,i64 P,i64 R,i64 T,i64 U,i64 0]),(4,.box (Zy.g V)),(3,.mp (I (mEnt (eA Zp.g) bv) W)),(2,.lst 124 3 false (I Zv.g x5)),(1,.box (ck c A (.own 2)))])) (encE:=(fun(⟨n,o,p,q,r,w,x⟩:Int×Int×Int×Int×Int×Zy×(List (Zp×Bool)))=>(xq 0 [(4,.map 3),(10,.ref 4 0),(11,.ref 5 0)] [(5,.box [i64 n,i64 0,i64 o,i64 p,i64 q,i64 r,i64 0]),(4,.box (Zy.g w)),(3,.mp (I (mEnt (eA Zp.g) bv) x)),(2,.lst 124 3 false (I Zv.g x5)),(1,.box (ck c A (.own 2)))]))) (fun⟨a,O,P,R,T,U,V,W⟩=>?_) B64 (0,0,0,0,0,0,(Zy.mk (⟨#[]⟩:ByteArray) 0),x4)) fun⟨n,o,p,q,r,w,x⟩=>?_
 refine io ?_ (lf rfl)
 refine bo rg fun B=>?_
 refine bz lm ?_
 refine bo (e:=id) ?_ fun a0=>?_
 refine io (lf rfl) ?_
 refine bo rg fun Z=>?_
 refine bz lm ?_
 exact lf rfl
 refine io (lf rfl) ?_
 refine bo rg fun b0=>?_
 refine bo rg fun s=>?_
 refine bz lm ?_
 refine bo (aI (S:=Int×Int×Int×Int×Int×Int×Zy×(List (Zp×Bool))) (enc:=fun⟨b,f,h,i,j,l,m,t⟩=>(Q [(1,i64 y),(2,i64 z),(3,i64 N),(4,.map 3),(10,.ref 4 0),(11,.ref 5 0),(12,i64 a),(22,.is 22 (I Zm.g c.Measures)),(23,i64 (c.Measures.length:Int)),(24,i64 a),(54,.is 13 (I Ze.g s.Events)),(55,i64 (s.Events.length:Int)),(56,i64 b)] [(6,.box (Zm.g B)),(5,.box [i64 f,i64 0,i64 h,i64 i,i64 j,i64 l,i64 0]),(4,.box (Zy.g m)),(3,.mp (I (mEnt (eA Zp.g) bv) t)),(2,.lst 124 3 false (I Zv.g x5)),(1,.box (ck c A (.own 2)))])) (encE:=(fun(⟨E,F,G,H,J,K,L⟩:Int×Int×Int×Int×Int×Zy×(List (Zp×Bool)))=>(xq 2 [(1,i64 y),(2,i64 z),(3,i64 N),(4,.map 3),(10,.ref 4 0),(11,.ref 5 0),(22,.is 22 (I Zm.g c.Measures)),(23,i64 (c.Measures.length:Int)),(24,i64 a)] [(6,.box (Zm.g B)),(5,.box [i64 E,i64 0,i64 F,i64 G,i64 H,i64 J,i64 0]),(4,.box (Zy.g K)),(3,.mp (I (mEnt (eA Zp.g) bv) L)),(2,.lst 124 3 false (I Zv.g x5)),(1,.box (ck c A (.own 2)))]))) (fun⟨b,f,h,i,j,l,m,t⟩=>?_) B64 (0,O,P,R,T,U,V,W)) fun⟨E,F,G,H,J,K,L⟩=>?_
 refine io ?_ (lf rfl)
 refine bo rg fun u=>?_
 refine bo (ok151 d u N) fun Y=>?_
 refine io (lf rfl) ?_
 refine bo rg fun C=>?_
 refine bz (gand rfl) ?_
 refine bo (e:=(fun(v:List (Zp×Bool))=>(nq [(1,i64 y),(2,i64 z),(3,i64 N),(4,.map 3),(10,.ref 4 0),(11,.ref 5 0),(12,i64 a),(16,.ref 8 0),(17,.ref 9 0),(22,.is 22 (I Zm.g c.Measures)),(23,i64 (c.Measures.length:Int)),(24,i64 a),(54,.is 13 (I Ze.g s.Events)),(55,i64 (s.Events.length:Int)),(56,i64 b)] [(9,.box (Zy.g C)),(8,.box [i64 4,i64 0,i64 y,i64 a,i64 z,i64 b,i64 0]),(7,.box (Ze.g u)),(6,.box (Zm.g B)),(5,.box [i64 f,i64 0,i64 h,i64 i,i64 j,i64 l,i64 0]),(4,.box (Zy.g m)),(3,.mp (I (mEnt (eA Zp.g) bv) v)),(2,.lst 124 3 false (I Zv.g x5)),(1,.box (ck c A (.own 2)))]))) ?_ fun v=>?_
 refine io ?_ (lf rfl)
 refine bz (eF dI bv t (Zp.mk f 0 h i j l 0) true) ?_
 exact lf rfl
 refine bz (gand rfl) ?_
 refine bz (gand rfl) ?_
 refine bo (e:=(fun(D:List (Zp×Bool))=>(nq [(1,i64 y),(2,i64 z),(3,i64 N),(4,.map 3),(10,.ref 4 0),(11,.ref 5 0),(12,i64 a),(16,.ref 8 0),(17,.ref 9 0),(22,.is 22 (I Zm.g c.Measures)),(23,i64 (c.Measures.length:Int)),(24,i64 a),(54,.is 13 (I Ze.g s.Events)),(55,i64 (s.Events.length:Int)),(56,i64 b)] [(9,.box (Zy.g C)),(8,.box [i64 4,i64 0,i64 y,i64 a,i64 z,i64 b,i64 0]),(7,.box (Ze.g u)),(6,.box (Zm.g B)),(5,.box [i64 f,i64 0,i64 h,i64 i,i64 j,i64 l,i64 0]),(4,.box (Zy.g m)),(3,.mp (I (mEnt (eA Zp.g) bv) D)),(2,.lst 124 3 false (I Zv.g x5)),(1,.box (ck c A (.own 2)))]))) ?_ fun D=>?_
 refine io ?_ (lf rfl)
 refine bz (eF dI bv v (Zp.mk 4 0 y a z b 0) true) ?_
 exact lf rfl
 exact lf rfl
 exact lf rfl
 refine bo (e:=(fun(M:List (Zp×Bool))=>(nq [] [(5,.box [i64 n,i64 0,i64 o,i64 p,i64 q,i64 r,i64 0]),(4,.box (Zy.g w)),(3,.mp (I (mEnt (eA Zp.g) bv) M)),(2,.lst 124 3 false (I Zv.g x5)),(1,.box (ck c A (.own 2)))]))) ?_ fun M=>?_
 refine io ?_ (lf rfl)
 refine bz (eF dI bv x (Zp.mk n 0 o p q r 0) true) ?_
 exact lf rfl
 exact lf rfl
def F100 (a:Zp) (c:Ze) (b:List (Zp×Bool)):Option Bool:=
 some (mget b a false)
theorem ok100 {k} (d) (a:Zp) (c:Ze) (b:List (Zp×Bool)):OD k (d+1) 100 [.agg (Zp.g a),.agg (Ze.g c),.ip [.im (I (mEnt (eA Zp.g) bv) b)]]=(F100 a c b).map (fun e=>bv e):=by
 rw[od (fn:=p100) rfl rfl rfl]
 refine bz (eE dI bv b a false) ?_
 exact lf rfl
def Fn83_4 (t:List (Zp×Bool)) (u:List Zv) (s:Z0) (x4:Int):Option (List Zv):=
 (aQ (E:=List Zv) (fun(⟨b,m⟩:Int×(List Zv))=>if decide (b<(s.Measures.length:Int))then(lget s.Measures b).bind fun n=>(aQ (E:=List Zv) (fun(⟨c,o⟩:Int×(List Zv))=>if decide (c<(n.Cells.length:Int))then(lget n.Cells c).bind fun p=>(aQ (E:=List Zv) (fun(⟨d,q⟩:Int×(List Zv))=>if decide (d<(p.Voices.length:Int))then(lget p.Voices d).bind fun r=>(aQ (E:=List Zv) (fun(⟨a,e⟩:Int×(List Zv))=>if decide (a<(r.Events.length:Int))then(lget r.Events a).bind fun f=>(F100 (Zp.mk 4 0 c b d a 0) f t).bind fun g=>(Fn66 g f.ID e s x4).bind fun h=>some (.inl ((w64 (a+1)),h))else some (.inr e)) B64 (0,q)).bind fun i=>some (.inl ((w64 (d+1)),i))else some (.inr q)) B64 (0,o)).bind fun j=>some (.inl ((w64 (c+1)),j))else some (.inr o)) B64 (0,m)).bind fun k=>some (.inl ((w64 (b+1)),k))else some (.inr m)) B64 (0,u)).bind fun l=>some l
theorem okn83_4 {k} (d) (i:List (Zp×Bool)) (x:List Zv) (c:Z0) (x4:Int):runR (XD k (d+2)) 83 [.ref 1 0,.fn 100 [] [.ref 4 0]] [(4,.box [.map 3]),(3,.mp (I (mEnt (eA Zp.g) bv) i)),(2,.lst 124 3 false (I Zv.g x)),(1,.box (ck c x4 (.own 2)))] 5 false=(Fn83_4 i x c x4).map (fun(w:List Zv)=>((.tup [],[(4,.box [.map 3]),(3,.mp (I (mEnt (eA Zp.g) bv) i)),(2,.lst 124 3 false (I Zv.g w)),(1,.box (ck c x4 (.own 2)))],0))):=by
 rw[xd (fn:=p83) rfl]
 refine bz lm ?_
 refine bo (aI (S:=Int×(List Zv)) (enc:=fun⟨b,s⟩=>(Q [(0,.ref 1 0),(1,.fn 100 [] [.ref 4 0]),(16,.is 22 (I Zm.g c.Measures)),(17,i64 (c.Measures.length:Int)),(18,i64 b)] [(4,.box [.map 3]),(3,.mp (I (mEnt (eA Zp.g) bv) i)),(2,.lst 124 3 false (I Zv.g s)),(1,.box (ck c x4 (.own 2)))])) (encE:=(fun(r:List Zv)=>(xq 0 [] [(4,.box [.map 3]),(3,.mp (I (mEnt (eA Zp.g) bv) i)),(2,.lst 124 3 false (I Zv.g r)),(1,.box (ck c x4 (.own 2)))]))) (fun⟨b,s⟩=>?_) B64 (0,x)) fun r=>?_
 refine io ?_ (lf rfl)
 refine bo rg fun a=>?_
 refine bz lm ?_
 refine bo (aI (S:=Int×(List Zv)) (enc:=fun⟨e,t⟩=>(Q [(0,.ref 1 0),(1,.fn 100 [] [.ref 4 0]),(4,i64 b),(16,.is 22 (I Zm.g c.Measures)),(17,i64 (c.Measures.length:Int)),(18,i64 b),(24,.is 2 (I Zw.g a.Cells)),(25,i64 (a.Cells.length:Int)),(26,i64 e)] [(5,.box (Zm.g a)),(4,.box [.map 3]),(3,.mp (I (mEnt (eA Zp.g) bv) i)),(2,.lst 124 3 false (I Zv.g t)),(1,.box (ck c x4 (.own 2)))])) (encE:=(fun(q:List Zv)=>(xq 2 [(0,.ref 1 0),(1,.fn 100 [] [.ref 4 0]),(16,.is 22 (I Zm.g c.Measures)),(17,i64 (c.Measures.length:Int)),(18,i64 b)] [(5,.box (Zm.g a)),(4,.box [.map 3]),(3,.mp (I (mEnt (eA Zp.g) bv) i)),(2,.lst 124 3 false (I Zv.g q)),(1,.box (ck c x4 (.own 2)))]))) (fun⟨e,t⟩=>?_) B64 (0,s)) fun q=>?_
 refine io ?_ (lf rfl)
 refine bo rg fun f=>?_
 refine bz lm ?_
 refine bo (aI (S:=Int×(List Zv)) (enc:=fun⟨h,u⟩=>(Q [(0,.ref 1 0),(1,.fn 100 [] [.ref 4 0]),(4,i64 b),(6,i64 e),(16,.is 22 (I Zm.g c.Measures)),(17,i64 (c.Measures.length:Int)),(18,i64 b),(24,.is 2 (I Zw.g a.Cells)),(25,i64 (a.Cells.length:Int)),(26,i64 e),(32,.is 2 (I Zo.g f.Voices)),(33,i64 (f.Voices.length:Int)),(34,i64 h)] [(6,.box (Zw.g f)),(5,.box (Zm.g a)),(4,.box [.map 3]),(3,.mp (I (mEnt (eA Zp.g) bv) i)),(2,.lst 124 3 false (I Zv.g u)),(1,.box (ck c x4 (.own 2)))])) (encE:=(fun(p:List Zv)=>(xq 4 [(0,.ref 1 0),(1,.fn 100 [] [.ref 4 0]),(4,i64 b),(16,.is 22 (I Zm.g c.Measures)),(17,i64 (c.Measures.length:Int)),(18,i64 b),(24,.is 2 (I Zw.g a.Cells)),(25,i64 (a.Cells.length:Int)),(26,i64 e)] [(6,.box (Zw.g f)),(5,.box (Zm.g a)),(4,.box [.map 3]),(3,.mp (I (mEnt (eA Zp.g) bv) i)),(2,.lst 124 3 false (I Zv.g p)),(1,.box (ck c x4 (.own 2)))]))) (fun⟨h,u⟩=>?_) B64 (0,t)) fun p=>?_
 refine io ?_ (lf rfl)
 refine bo rg fun m=>?_
 refine bz lm ?_
 refine bo (aI (S:=Int×(List Zv)) (enc:=fun⟨j,l⟩=>(Q [(0,.ref 1 0),(1,.fn 100 [] [.ref 4 0]),(4,i64 b),(6,i64 e),(8,i64 h),(16,.is 22 (I Zm.g c.Measures)),(17,i64 (c.Measures.length:Int)),(18,i64 b),(24,.is 2 (I Zw.g a.Cells)),(25,i64 (a.Cells.length:Int)),(26,i64 e),(32,.is 2 (I Zo.g f.Voices)),(33,i64 (f.Voices.length:Int)),(34,i64 h),(40,.is 13 (I Ze.g m.Events)),(41,i64 (m.Events.length:Int)),(42,i64 j)] [(7,.box (Zo.g m)),(6,.box (Zw.g f)),(5,.box (Zm.g a)),(4,.box [.map 3]),(3,.mp (I (mEnt (eA Zp.g) bv) i)),(2,.lst 124 3 false (I Zv.g l)),(1,.box (ck c x4 (.own 2)))])) (encE:=(fun(o:List Zv)=>(xq 6 [(0,.ref 1 0),(1,.fn 100 [] [.ref 4 0]),(4,i64 b),(6,i64 e),(16,.is 22 (I Zm.g c.Measures)),(17,i64 (c.Measures.length:Int)),(18,i64 b),(24,.is 2 (I Zw.g a.Cells)),(25,i64 (a.Cells.length:Int)),(26,i64 e),(32,.is 2 (I Zo.g f.Voices)),(33,i64 (f.Voices.length:Int)),(34,i64 h)] [(7,.box (Zo.g m)),(6,.box (Zw.g f)),(5,.box (Zm.g a)),(4,.box [.map 3]),(3,.mp (I (mEnt (eA Zp.g) bv) i)),(2,.lst 124 3 false (I Zv.g o)),(1,.box (ck c x4 (.own 2)))]))) (fun⟨j,l⟩=>?_) B64 (0,u)) fun o=>?_
 refine io ?_ (lf rfl)
 refine bo rg fun n=>?_
 refine bo (ok100 d (Zp.mk 4 0 e b h j 0) n i) fun v=>?_
 refine bo (okn66 d v n.ID l c x4) fun y=>?_
 exact lf rfl
 exact lf rfl
 exact lf rfl
 exact lf rfl
 exact lf rfl
def Fn49 (m:List Zv) (g:Z0) (n:Int):Option (List Zv):=
 (F73 g).bind fun x4=>(aQ (E:=List (Zp×Bool)) (fun(⟨a,d⟩:Int×(List (Zp×Bool)))=>if decide (a<x4)then(aQ (E:=List (Zp×Bool)) (fun(⟨b,e⟩:Int×(List (Zp×Bool)))=>if decide (b<2)then(aQ (E:=List (Zp×Bool)) (fun(⟨c,f⟩:Int×(List (Zp×Bool)))=>if decide (c<4)then(Fn99 a b c f m g n).bind fun h=>some (.inl ((w64 (c+1)),h))else some (.inr f)) B64 (0,e)).bind fun i=>some (.inl ((w64 (b+1)),i))else some (.inr e)) B64 (0,d)).bind fun j=>some (.inl ((w64 (a+1)),j))else some (.inr d)) B64 (0,[])).bind fun k=>(Fn83_4 k m g n).bind fun l=>some l
theorem okn49 {k} (d) (f:List Zv) (c:Z0) (e:Int):runR (XD k (d+3)) 49 [.ref 1 0] [(2,.lst 124 3 false (I Zv.g f)),(1,.box (ck c e (.own 2)))] 3 false=(Fn49 f c e).map (fun(p:List Zv)=>((.tup [],[(2,.lst 124 3 false (I Zv.g p)),(1,.box (ck c e (.own 2)))],0))):=by
 rw[xd (fn:=p49) rfl]
 refine bo (ok73 (d+1) c) fun x4=>?_
 refine bo (aI (S:=Int×(List (Zp×Bool))) (enc:=fun⟨a,h⟩=>(Q [(0,.ref 1 0),(2,.ref 4 0),(13,i64 x4),(14,i64 a)] [(4,.box [.map 3]),(3,.mp (I (mEnt (eA Zp.g) bv) h)),(2,.lst 124 3 false (I Zv.g f)),(1,.box (ck c e (.own 2)))])) (encE:=(fun(m:List (Zp×Bool))=>(xq 0 [(0,.ref 1 0),(2,.ref 4 0)] [(4,.box [.map 3]),(3,.mp (I (mEnt (eA Zp.g) bv) m)),(2,.lst 124 3 false (I Zv.g f)),(1,.box (ck c e (.own 2)))]))) (fun⟨a,h⟩=>?_) B64 (0,[])) fun m=>?_
 refine io ?_ (lf rfl)
 refine bo (aI (S:=Int×(List (Zp×Bool))) (enc:=fun⟨b,i⟩=>(Q [(0,.ref 1 0),(2,.ref 4 0),(4,i64 a),(13,i64 x4),(14,i64 a),(17,i64 b)] [(4,.box [.map 3]),(3,.mp (I (mEnt (eA Zp.g) bv) i)),(2,.lst 124 3 false (I Zv.g f)),(1,.box (ck c e (.own 2)))])) (encE:=(fun(o:List (Zp×Bool))=>(xq 2 [(0,.ref 1 0),(2,.ref 4 0),(13,i64 x4),(14,i64 a)] [(4,.box [.map 3]),(3,.mp (I (mEnt (eA Zp.g) bv) o)),(2,.lst 124 3 false (I Zv.g f)),(1,.box (ck c e (.own 2)))]))) (fun⟨b,i⟩=>?_) B64 (0,h)) fun o=>?_
 refine io ?_ (lf rfl)
 refine bo (aI (S:=Int×(List (Zp×Bool))) (enc:=fun⟨j,l⟩=>(Q [(0,.ref 1 0),(2,.ref 4 0),(4,i64 a),(5,i64 b),(13,i64 x4),(14,i64 a),(17,i64 b),(20,i64 j)] [(4,.box [.map 3]),(3,.mp (I (mEnt (eA Zp.g) bv) l)),(2,.lst 124 3 false (I Zv.g f)),(1,.box (ck c e (.own 2)))])) (encE:=(fun(n:List (Zp×Bool))=>(xq 4 [(0,.ref 1 0),(2,.ref 4 0),(4,i64 a),(13,i64 x4),(14,i64 a),(17,i64 b)] [(4,.box [.map 3]),(3,.mp (I (mEnt (eA Zp.g) bv) n)),(2,.lst 124 3 false (I Zv.g f)),(1,.box (ck c e (.own 2)))]))) (fun⟨j,l⟩=>?_) B64 (0,i)) fun n=>?_
 refine io ?_ (lf rfl)
 refine bo (okn99 d a b j l f c e) fun q=>?_
 exact lf rfl
 exact lf rfl
 exact lf rfl
 refine bo (okn83_4 d m f c e) fun r=>?_
 exact lf rfl
def Fn121_2 (a:Z0):Option Unit:=
 some ()
theorem okn121_2 {k} (d) (a:Z0):runR (XD k (d+1)) 121 [.ref 0 0] [(0,.box (Z0.g a))] 4 true=(Fn121_2 a).map (fun(_:Unit)=>((.fn 166 [] [.ref 4 0],[(4,.box [.ref 0 0]),(0,.box (Z0.g a))],5))):=by
 rw[xd (fn:=p121) rfl]
 exact lf rfl
def Fy184_13 (d e:Int) (f x4:Int) (x5 g h:Int) (b:Zj) (i:Bool) (c:Zp) (a:Zz):Option (Unit⊕Unit):=
 if((b.ID.Site==a.Site)&&((b.ID.Number==a.Number)&&true))!=false then some (.inl ())else some (.inr ())
theorem oky184_13 {k} (d) (c e:Int) (f x4:Int) (x5 h i:Int) (l:Zj) (j:Bool) (b:Zp) (a:Zz):yldR (XD k (d+1)) 5 [.agg [i64 c,i64 e,i64 f,i64 x4,i64 x5,i64 h,i64 i],.ip (Zj.g l)] [(5,.loop 22 [(3,.ref 1 0),(4,.ref 2 0),(5,.ref 3 0)] [13,14] q184_13a q184_13b false none),(3,.box [bv j]),(2,.box (Zp.g b)),(1,.box (Zz.g a))] 6=(Fy184_13 c e f x4 x5 h i l j b a).map (fun|.inl _=>((bv false,[(5,.loop 22 [(3,.ref 1 0),(4,.ref 2 0),(5,.ref 3 0)] [13,14] q184_13a q184_13b false (some .ret)),(3,.box [bv true]),(2,.box [i64 c,i64 e,i64 f,i64 x4,i64 x5,i64 h,i64 i]),(1,.box (Zz.g a))],0))|.inr _=>((bv true,[(5,.loop 22 [(3,.ref 1 0),(4,.ref 2 0),(5,.ref 3 0)] [13,14] q184_13a q184_13b false none),(3,.box [bv j]),(2,.box (Zp.g b)),(1,.box (Zz.g a))],0))):=by
 rw[yd]
 refine bz (okg fF) ?_
 refine io (lf rfl) (lf rfl)
end Go.P
namespace Go.P
open Go.Sim (Ex OpK CK)
open K (I Q rq nq xq ck)
def Fy184_13_2 (d e:Int) (f x4:Int) (x5 g h:Int) (b:Zf) (i:Bool) (c:Zp) (a:Zz):Option (Unit⊕Unit):=
 if((b.ID.Site==a.Site)&&((b.ID.Number==a.Number)&&true))!=false then some (.inl ())else some (.inr ())
theorem oky184_13_2 {k} (d) (c e:Int) (f x4:Int) (x5 h i:Int) (l:Zf) (j:Bool) (b:Zp) (a:Zz):yldR (XD k (d+1)) 5 [.agg [i64 c,i64 e,i64 f,i64 x4,i64 x5,i64 h,i64 i],.ip (Zf.g l)] [(5,.loop 22 [(3,.ref 1 0),(4,.ref 2 0),(5,.ref 3 0)] [13,14] q184_13a q184_13b false none),(3,.box [bv j]),(2,.box (Zp.g b)),(1,.box (Zz.g a))] 6=(Fy184_13_2 c e f x4 x5 h i l j b a).map (fun|.inl _=>((bv false,[(5,.loop 22 [(3,.ref 1 0),(4,.ref 2 0),(5,.ref 3 0)] [13,14] q184_13a q184_13b false (some .ret)),(3,.box [bv true]),(2,.box [i64 c,i64 e,i64 f,i64 x4,i64 x5,i64 h,i64 i]),(1,.box (Zz.g a))],0))|.inr _=>((bv true,[(5,.loop 22 [(3,.ref 1 0),(4,.ref 2 0),(5,.ref 3 0)] [13,14] q184_13a q184_13b false none),(3,.box [bv j]),(2,.box (Zp.g b)),(1,.box (Zz.g a))],0))):=by
 rw[yd]
 refine bz (okg fF) ?_
 refine io (lf rfl) (lf rfl)
def Fy184_13_3 (d e:Int) (f x4:Int) (x5 g h:Int) (b:Zm) (i:Bool) (c:Zp) (a:Zz):Option (Unit⊕Unit):=
 if((b.ID.Site==a.Site)&&((b.ID.Number==a.Number)&&true))!=false then some (.inl ())else some (.inr ())
theorem oky184_13_3 {k} (d) (c e:Int) (f x4:Int) (x5 h i:Int) (l:Zm) (j:Bool) (b:Zp) (a:Zz):yldR (XD k (d+1)) 5 [.agg [i64 c,i64 e,i64 f,i64 x4,i64 x5,i64 h,i64 i],.ip (Zm.g l)] [(5,.loop 22 [(3,.ref 1 0),(4,.ref 2 0),(5,.ref 3 0)] [13,14] q184_13a q184_13b false none),(3,.box [bv j]),(2,.box (Zp.g b)),(1,.box (Zz.g a))] 6=(Fy184_13_3 c e f x4 x5 h i l j b a).map (fun|.inl _=>((bv false,[(5,.loop 22 [(3,.ref 1 0),(4,.ref 2 0),(5,.ref 3 0)] [13,14] q184_13a q184_13b false (some .ret)),(3,.box [bv true]),(2,.box [i64 c,i64 e,i64 f,i64 x4,i64 x5,i64 h,i64 i]),(1,.box (Zz.g a))],0))|.inr _=>((bv true,[(5,.loop 22 [(3,.ref 1 0),(4,.ref 2 0),(5,.ref 3 0)] [13,14] q184_13a q184_13b false none),(3,.box [bv j]),(2,.box (Zp.g b)),(1,.box (Zz.g a))],0))):=by
 rw[yd]
 refine bz (okg fF) ?_
 refine io (lf rfl) (lf rfl)
def Fy184_13_4 (d e:Int) (f x4:Int) (x5 g h:Int) (b:Ze) (i:Bool) (c:Zp) (a:Zz):Option (Unit⊕Unit):=
 if((b.ID.Site==a.Site)&&((b.ID.Number==a.Number)&&true))!=false then some (.inl ())else some (.inr ())
theorem oky184_13_4 {k} (d) (c e:Int) (f x4:Int) (x5 h i:Int) (l:Ze) (j:Bool) (b:Zp) (a:Zz):yldR (XD k (d+1)) 5 [.agg [i64 c,i64 e,i64 f,i64 x4,i64 x5,i64 h,i64 i],.ip (Ze.g l)] [(5,.loop 22 [(3,.ref 1 0),(4,.ref 2 0),(5,.ref 3 0)] [13,14] q184_13a q184_13b false none),(3,.box [bv j]),(2,.box (Zp.g b)),(1,.box (Zz.g a))] 6=(Fy184_13_4 c e f x4 x5 h i l j b a).map (fun|.inl _=>((bv false,[(5,.loop 22 [(3,.ref 1 0),(4,.ref 2 0),(5,.ref 3 0)] [13,14] q184_13a q184_13b false (some .ret)),(3,.box [bv true]),(2,.box [i64 c,i64 e,i64 f,i64 x4,i64 x5,i64 h,i64 i]),(1,.box (Zz.g a))],0))|.inr _=>((bv true,[(5,.loop 22 [(3,.ref 1 0),(4,.ref 2 0),(5,.ref 3 0)] [13,14] q184_13a q184_13b false none),(3,.box [bv j]),(2,.box (Zp.g b)),(1,.box (Zz.g a))],0))):=by
 rw[yd]
 refine bz (okg fF) ?_
 refine io (lf rfl) (lf rfl)
def Fy184_13_5 (d e:Int) (f x4:Int) (x5 g h:Int) (b:Zn) (i:Bool) (c:Zp) (a:Zz):Option (Unit⊕Unit):=
 if((b.ID.Site==a.Site)&&((b.ID.Number==a.Number)&&true))!=false then some (.inl ())else some (.inr ())
theorem oky184_13_5 {k} (d) (c e:Int) (f x4:Int) (x5 h i:Int) (l:Zn) (j:Bool) (b:Zp) (a:Zz):yldR (XD k (d+1)) 5 [.agg [i64 c,i64 e,i64 f,i64 x4,i64 x5,i64 h,i64 i],.ip (Zn.g l)] [(5,.loop 22 [(3,.ref 1 0),(4,.ref 2 0),(5,.ref 3 0)] [13,14] q184_13a q184_13b false none),(3,.box [bv j]),(2,.box (Zp.g b)),(1,.box (Zz.g a))] 6=(Fy184_13_5 c e f x4 x5 h i l j b a).map (fun|.inl _=>((bv false,[(5,.loop 22 [(3,.ref 1 0),(4,.ref 2 0),(5,.ref 3 0)] [13,14] q184_13a q184_13b false (some .ret)),(3,.box [bv true]),(2,.box [i64 c,i64 e,i64 f,i64 x4,i64 x5,i64 h,i64 i]),(1,.box (Zz.g a))],0))|.inr _=>((bv true,[(5,.loop 22 [(3,.ref 1 0),(4,.ref 2 0),(5,.ref 3 0)] [13,14] q184_13a q184_13b false none),(3,.box [bv j]),(2,.box (Zp.g b)),(1,.box (Zz.g a))],0))):=by
 rw[yd]
 refine bz (okg fF) ?_
 refine io (lf rfl) (lf rfl)
def Fn166_2 (g:Z0) (v:Bool) (F:Zp) (x4:Zz):Option (Zp⊕Unit):=
 (aQ (E:=(Int×Int×Int)⊕Unit) (fun(⟨G,f⟩:Int×Int)=>if decide (f<(g.Parts.length:Int))then(lget g.Parts f).bind fun H=>(Fy184_13 1 f 0 0 0 0 0 H v F x4).bind fun J=>(match J with|.inl _=>some (.inr (.inl (1,f,0)))|.inr _=>(lget g.Parts f).bind fun K=>(aQ (E:=(Int×Int)⊕Int) (fun(⟨h,i⟩:Int×Int)=>if decide (i<(K.Staves.length:Int))then(lget g.Parts f).bind fun L=>(lget L.Staves i).bind fun M=>(Fy184_13_2 2 0 h 0 0 0 0 M v F x4).bind fun N=>(match N with|.inl _=>some (.inr (.inl (h,h)))|.inr _=>some (.inl ((w64 (h+1)),(w64 (i+1)))))else some (.inr (.inr h))) B64 (G,0)).bind fun O=>(match O with|.inl ⟨x33,x34⟩=>some (.inr (.inl (2,0,x34)))|.inr x35=>some (.inl (x35,(w64 (f+1))))))else some (.inr (.inr ()))) B64 (0,0)).bind fun P=>(match P with|.inl ⟨x37,x38,x39⟩=>some (.inl (Zp.mk x37 x38 x39 0 0 0 0))|.inr _=>(aQ (E:=(Int×Int×Int×Int×Int)⊕Unit) (fun(a:Int)=>if decide (a<(g.Measures.length:Int))then(lget g.Measures a).bind fun j=>(Fy184_13_3 3 0 0 a 0 0 0 j v F x4).bind fun k=>(match k with|.inl _=>some (.inr (.inl (3,0,a,0,0)))|.inr _=>(lget g.Measures a).bind fun l=>(aQ (E:=(Int×Int×Int)⊕Unit) (fun(b:Int)=>if decide (b<(l.Cells.length:Int))then(lget g.Measures a).bind fun m=>(lget m.Cells b).bind fun n=>(aQ (E:=(Int×Int)⊕Unit) (fun(c:Int)=>if decide (c<(n.Voices.length:Int))then(lget g.Measures a).bind fun o=>(lget o.Cells b).bind fun p=>(lget p.Voices c).bind fun q=>(aQ (E:=Int⊕Unit) (fun(d:Int)=>if decide (d<(q.Events.length:Int))then(lget g.Measures a).bind fun r=>(lget r.Cells b).bind fun s=>(lget s.Voices c).bind fun t=>(lget t.Events d).bind fun u=>(Fy184_13_4 4 0 b a c d 0 u v F x4).bind fun w=>(match w with|.inl _=>some (.inr (.inl d))|.inr _=>some (.inl (w64 (d+1))))else some (.inr (.inr ()))) B64 0).bind fun x=>(match x with|.inl x201=>some (.inr (.inl (c,x201)))|.inr _=>some (.inl (w64 (c+1))))else some (.inr (.inr ()))) B64 0).bind fun y=>(match y with|.inl ⟨x203,x204⟩=>some (.inr (.inl (b,x203,x204)))|.inr _=>some (.inl (w64 (b+1))))else some (.inr (.inr ()))) B64 0).bind fun z=>(match z with|.inl ⟨x206,x207,x208⟩=>some (.inr (.inl (4,x206,a,x207,x208)))|.inr _=>some (.inl (w64 (a+1)))))else some (.inr (.inr ()))) B64 0).bind fun A=>(match A with|.inl ⟨x210,x211,x212,x213,x214⟩=>some (.inl (Zp.mk x210 0 x211 x212 x213 x214 0))|.inr _=>(aQ (E:=Int⊕Unit) (fun(e:Int)=>if decide (e<(g.Spanners.length:Int))then(lget g.Spanners e).bind fun B=>(Fy184_13_5 5 0 0 0 0 0 e B v F x4).bind fun C=>(match C with|.inl _=>some (.inr (.inl e))|.inr _=>some (.inl (w64 (e+1))))else some (.inr (.inr ()))) B64 0).bind fun D=>(match D with|.inl x221=>some (.inl (Zp.mk 5 0 0 0 0 0 x221))|.inr _=>some (.inr ()))))
theorem okn166_2 {k} (d) (c:Z0) (h:Bool) (i:Zp) (x4:Zz):runR (XD k (d+2)) 166 [.yld 5,.ref 4 0] [(5,.loop 22 [(3,.ref 1 0),(4,.ref 2 0),(5,.ref 3 0)] [13,14] q184_13a q184_13b false none),(4,.box [.ref 0 0]),(0,.box (Z0.g c)),(3,.box [bv h]),(2,.box (Zp.g i)),(1,.box (Zz.g x4))] 6 false=(Fn166_2 c h i x4).map (fun|.inl x223=>((.tup [],[(5,.loop 22 [(3,.ref 1 0),(4,.ref 2 0),(5,.ref 3 0)] [13,14] q184_13a q184_13b false (some .ret)),(4,.box [.ref 0 0]),(0,.box (Z0.g c)),(3,.box [bv true]),(2,.box (Zp.g x223)),(1,.box (Zz.g x4))],0))|.inr _=>((.tup [],[(5,.loop 22 [(3,.ref 1 0),(4,.ref 2 0),(5,.ref 3 0)] [13,14] q184_13a q184_13b false none),(4,.box [.ref 0 0]),(0,.box (Z0.g c)),(3,.box [bv h]),(2,.box (Zp.g i)),(1,.box (Zz.g x4))],0))):=by
 rw[xd (fn:=p166) rfl]
 refine bz lm ?_
 refine bo (aI (S:=Int×Int) (enc:=fun⟨A,j⟩=>(Q [(0,.yld 5),(1,.ref 4 0),(3,i64 A),(15,i64 (c.Parts.length:Int)),(16,i64 j)] [(5,.loop 22 [(3,.ref 1 0),(4,.ref 2 0),(5,.ref 3 0)] [13,14] q184_13a q184_13b false none),(4,.box [.ref 0 0]),(0,.box (Z0.g c)),(3,.box [bv h]),(2,.box (Zp.g i)),(1,.box (Zz.g x4))])) (encE:=(fun|.inl ⟨U,V,W⟩=>(rq [(0,.yld 5),(1,.ref 4 0)] [(5,.loop 22 [(3,.ref 1 0),(4,.ref 2 0),(5,.ref 3 0)] [13,14] q184_13a q184_13b false (some .ret)),(4,.box [.ref 0 0]),(0,.box (Z0.g c)),(3,.box [bv true]),(2,.box [i64 U,i64 V,i64 W,i64 0,i64 0,i64 0,i64 0]),(1,.box (Zz.g x4))])|.inr _=>(xq 0 [(0,.yld 5),(1,.ref 4 0)] [(5,.loop 22 [(3,.ref 1 0),(4,.ref 2 0),(5,.ref 3 0)] [13,14] q184_13a q184_13b false none),(4,.box [.ref 0 0]),(0,.box (Z0.g c)),(3,.box [bv h]),(2,.box (Zp.g i)),(1,.box (Zz.g x4))]))) (fun⟨A,j⟩=>?_) B64 (0,0)) fun b5=>?_
 refine io ?_ (lf rfl)
 refine bo rg fun X=>?_
 refine bo (oky184_13 d 1 j 0 0 0 0 0 X h i x4) fun Y=>?_
 rcases Y with _|_
 exact lf rfl
 refine bo rg fun Z=>?_
 refine bz lm ?_
 refine bo (aI (S:=Int×Int) (enc:=fun⟨B,P⟩=>(Q [(0,.yld 5),(1,.ref 4 0),(3,i64 B),(4,i64 j),(15,i64 (c.Parts.length:Int)),(16,i64 j),(39,i64 (Z.Staves.length:Int)),(40,i64 P)] [(5,.loop 22 [(3,.ref 1 0),(4,.ref 2 0),(5,.ref 3 0)] [13,14] q184_13a q184_13b false none),(3,.box [bv h]),(2,.box (Zp.g i)),(1,.box (Zz.g x4)),(4,.box [.ref 0 0]),(0,.box (Z0.g c))])) (encE:=(fun|.inl ⟨R,T⟩=>(rq [(0,.yld 5),(1,.ref 4 0),(3,i64 R),(15,i64 (c.Parts.length:Int)),(16,i64 j)] [(5,.loop 22 [(3,.ref 1 0),(4,.ref 2 0),(5,.ref 3 0)] [13,14] q184_13a q184_13b false (some .ret)),(3,.box [bv true]),(2,.box [i64 2,i64 0,i64 T,i64 0,i64 0,i64 0,i64 0]),(1,.box (Zz.g x4)),(4,.box [.ref 0 0]),(0,.box (Z0.g c))])|.inr x35=>(xq 2 [(0,.yld 5),(1,.ref 4 0),(3,i64 x35),(15,i64 (c.Parts.length:Int)),(16,i64 j)] [(5,.loop 22 [(3,.ref 1 0),(4,.ref 2 0),(5,.ref 3 0)] [13,14] q184_13a q184_13b false none),(3,.box [bv h]),(2,.box (Zp.g i)),(1,.box (Zz.g x4)),(4,.box [.ref 0 0]),(0,.box (Z0.g c))]))) (fun⟨B,P⟩=>?_) B64 (A,0)) fun b4=>?_
 refine io ?_ (lf rfl)
 refine bo rg fun d2=>?_
 refine bo rg fun a0=>?_
 refine bo (oky184_13_2 d 2 0 B 0 0 0 0 a0 h i x4) fun b0=>?_
 rcases b0 with _|_
 exact lf rfl
 exact lf rfl
 rcases b4 with⟨R,T⟩|x35
 exact lf rfl
 exact lf rfl
 rcases b5 with⟨U,V,W⟩|_
 exact lf rfl
 refine bz lm ?_
 refine bo (aI (S:=Int) (enc:=fun a=>(Q [(0,.yld 5),(1,.ref 4 0),(67,i64 (c.Measures.length:Int)),(68,i64 a)] [(5,.loop 22 [(3,.ref 1 0),(4,.ref 2 0),(5,.ref 3 0)] [13,14] q184_13a q184_13b false none),(4,.box [.ref 0 0]),(0,.box (Z0.g c)),(3,.box [bv h]),(2,.box (Zp.g i)),(1,.box (Zz.g x4))])) (encE:=(fun|.inl ⟨u,v,w,x,y⟩=>(rq [(0,.yld 5),(1,.ref 4 0)] [(5,.loop 22 [(3,.ref 1 0),(4,.ref 2 0),(5,.ref 3 0)] [13,14] q184_13a q184_13b false (some .ret)),(4,.box [.ref 0 0]),(0,.box (Z0.g c)),(3,.box [bv true]),(2,.box [i64 u,i64 0,i64 v,i64 w,i64 x,i64 y,i64 0]),(1,.box (Zz.g x4))])|.inr _=>(xq 4 [(0,.yld 5),(1,.ref 4 0)] [(5,.loop 22 [(3,.ref 1 0),(4,.ref 2 0),(5,.ref 3 0)] [13,14] q184_13a q184_13b false none),(4,.box [.ref 0 0]),(0,.box (Z0.g c)),(3,.box [bv h]),(2,.box (Zp.g i)),(1,.box (Zz.g x4))]))) (fun a=>?_) B64 0) fun L=>?_
 refine io ?_ (lf rfl)
 refine bo rg fun C=>?_
 refine bo (oky184_13_3 d 3 0 0 a 0 0 0 C h i x4) fun D=>?_
 rcases D with _|_
 exact lf rfl
 refine bo rg fun f=>?_
 refine bz lm ?_
 refine bo (aI (S:=Int) (enc:=fun b=>(Q [(0,.yld 5),(1,.ref 4 0),(6,i64 a),(67,i64 (c.Measures.length:Int)),(68,i64 a),(91,i64 (f.Cells.length:Int)),(92,i64 b)] [(5,.loop 22 [(3,.ref 1 0),(4,.ref 2 0),(5,.ref 3 0)] [13,14] q184_13a q184_13b false none),(3,.box [bv h]),(2,.box (Zp.g i)),(1,.box (Zz.g x4)),(4,.box [.ref 0 0]),(0,.box (Z0.g c))])) (encE:=(fun|.inl ⟨r,s,t⟩=>(rq [(0,.yld 5),(1,.ref 4 0),(67,i64 (c.Measures.length:Int)),(68,i64 a)] [(5,.loop 22 [(3,.ref 1 0),(4,.ref 2 0),(5,.ref 3 0)] [13,14] q184_13a q184_13b false (some .ret)),(3,.box [bv true]),(2,.box [i64 4,i64 0,i64 r,i64 a,i64 s,i64 t,i64 0]),(1,.box (Zz.g x4)),(4,.box [.ref 0 0]),(0,.box (Z0.g c))])|.inr _=>(xq 6 [(0,.yld 5),(1,.ref 4 0),(67,i64 (c.Measures.length:Int)),(68,i64 a)] [(5,.loop 22 [(3,.ref 1 0),(4,.ref 2 0),(5,.ref 3 0)] [13,14] q184_13a q184_13b false none),(3,.box [bv h]),(2,.box (Zp.g i)),(1,.box (Zz.g x4)),(4,.box [.ref 0 0]),(0,.box (Z0.g c))]))) (fun b=>?_) B64 0) fun K=>?_
 refine io ?_ (lf rfl)
 refine bo rg fun b6=>?_
 refine bo rg fun l=>?_
 refine bz lm ?_
 refine bo (aI (S:=Int) (enc:=fun e=>(Q [(0,.yld 5),(1,.ref 4 0),(6,i64 a),(7,i64 b),(67,i64 (c.Measures.length:Int)),(68,i64 a),(91,i64 (f.Cells.length:Int)),(92,i64 b),(107,i64 (l.Voices.length:Int)),(108,i64 e)] [(5,.loop 22 [(3,.ref 1 0),(4,.ref 2 0),(5,.ref 3 0)] [13,14] q184_13a q184_13b false none),(3,.box [bv h]),(2,.box (Zp.g i)),(1,.box (Zz.g x4)),(4,.box [.ref 0 0]),(0,.box (Z0.g c))])) (encE:=(fun|.inl ⟨p,q⟩=>(rq [(0,.yld 5),(1,.ref 4 0),(6,i64 a),(67,i64 (c.Measures.length:Int)),(68,i64 a),(91,i64 (f.Cells.length:Int)),(92,i64 b)] [(5,.loop 22 [(3,.ref 1 0),(4,.ref 2 0),(5,.ref 3 0)] [13,14] q184_13a q184_13b false (some .ret)),(3,.box [bv true]),(2,.box [i64 4,i64 0,i64 b,i64 a,i64 p,i64 q,i64 0]),(1,.box (Zz.g x4)),(4,.box [.ref 0 0]),(0,.box (Z0.g c))])|.inr _=>(xq 8 [(0,.yld 5),(1,.ref 4 0),(6,i64 a),(67,i64 (c.Measures.length:Int)),(68,i64 a),(91,i64 (f.Cells.length:Int)),(92,i64 b)] [(5,.loop 22 [(3,.ref 1 0),(4,.ref 2 0),(5,.ref 3 0)] [13,14] q184_13a q184_13b false none),(3,.box [bv h]),(2,.box (Zp.g i)),(1,.box (Zz.g x4)),(4,.box [.ref 0 0]),(0,.box (Z0.g c))]))) (fun e=>?_) B64 0) fun J=>?_
 refine io ?_ (lf rfl)
 refine bo rg fun b7=>?_
 refine bo rg fun b8=>?_
 refine bo rg fun E=>?_
 refine bz lm ?_
 refine bo (aI (S:=Int) (enc:=fun m=>(Q [(0,.yld 5),(1,.ref 4 0),(6,i64 a),(7,i64 b),(8,i64 e),(67,i64 (c.Measures.length:Int)),(68,i64 a),(91,i64 (f.Cells.length:Int)),(92,i64 b),(107,i64 (l.Voices.length:Int)),(108,i64 e),(127,i64 (E.Events.length:Int)),(128,i64 m)] [(5,.loop 22 [(3,.ref 1 0),(4,.ref 2 0),(5,.ref 3 0)] [13,14] q184_13a q184_13b false none),(3,.box [bv h]),(2,.box (Zp.g i)),(1,.box (Zz.g x4)),(4,.box [.ref 0 0]),(0,.box (Z0.g c))])) (encE:=(fun|.inl o=>(rq [(0,.yld 5),(1,.ref 4 0),(6,i64 a),(7,i64 b),(67,i64 (c.Measures.length:Int)),(68,i64 a),(91,i64 (f.Cells.length:Int)),(92,i64 b),(107,i64 (l.Voices.length:Int)),(108,i64 e)] [(5,.loop 22 [(3,.ref 1 0),(4,.ref 2 0),(5,.ref 3 0)] [13,14] q184_13a q184_13b false (some .ret)),(3,.box [bv true]),(2,.box [i64 4,i64 0,i64 b,i64 a,i64 e,i64 o,i64 0]),(1,.box (Zz.g x4)),(4,.box [.ref 0 0]),(0,.box (Z0.g c))])|.inr _=>(xq 10 [(0,.yld 5),(1,.ref 4 0),(6,i64 a),(7,i64 b),(67,i64 (c.Measures.length:Int)),(68,i64 a),(91,i64 (f.Cells.length:Int)),(92,i64 b),(107,i64 (l.Voices.length:Int)),(108,i64 e)] [(5,.loop 22 [(3,.ref 1 0),(4,.ref 2 0),(5,.ref 3 0)] [13,14] q184_13a q184_13b false none),(3,.box [bv h]),(2,.box (Zp.g i)),(1,.box (Zz.g x4)),(4,.box [.ref 0 0]),(0,.box (Z0.g c))]))) (fun m=>?_) B64 0) fun H=>?_
 refine io ?_ (lf rfl)
 refine bo rg fun b9=>?_
 refine bo rg fun d0=>?_
 refine bo rg fun d1=>?_
 refine bo rg fun F=>?_
 refine bo (oky184_13_4 d 4 0 b a e m 0 F h i x4) fun G=>?_
 rcases G with _|_
 exact lf rfl
 exact lf rfl
 rcases H with o|_
 exact lf rfl
 exact lf rfl
 rcases J with⟨p,q⟩|_
 exact lf rfl
 exact lf rfl
 rcases K with⟨r,s,t⟩|_
 exact lf rfl
 exact lf rfl
 rcases L with⟨u,v,w,x,y⟩|_
 exact lf rfl
 refine bz lm ?_
 refine bo (aI (S:=Int) (enc:=fun n=>(Q [(0,.yld 5),(1,.ref 4 0),(166,i64 (c.Spanners.length:Int)),(167,i64 n)] [(5,.loop 22 [(3,.ref 1 0),(4,.ref 2 0),(5,.ref 3 0)] [13,14] q184_13a q184_13b false none),(4,.box [.ref 0 0]),(0,.box (Z0.g c)),(3,.box [bv h]),(2,.box (Zp.g i)),(1,.box (Zz.g x4))])) (encE:=(fun|.inl z=>(rq [] [(5,.loop 22 [(3,.ref 1 0),(4,.ref 2 0),(5,.ref 3 0)] [13,14] q184_13a q184_13b false (some .ret)),(4,.box [.ref 0 0]),(0,.box (Z0.g c)),(3,.box [bv true]),(2,.box [i64 5,i64 0,i64 0,i64 0,i64 0,i64 0,i64 z]),(1,.box (Zz.g x4))])|.inr _=>(xq 12 [] [(5,.loop 22 [(3,.ref 1 0),(4,.ref 2 0),(5,.ref 3 0)] [13,14] q184_13a q184_13b false none),(4,.box [.ref 0 0]),(0,.box (Z0.g c)),(3,.box [bv h]),(2,.box (Zp.g i)),(1,.box (Zz.g x4))]))) (fun n=>?_) B64 0) fun O=>?_
 refine io ?_ (lf rfl)
 refine bo rg fun M=>?_
 refine bo (oky184_13_5 d 5 0 0 0 0 0 n M h i x4) fun N=>?_
 rcases N with _|_
 exact lf rfl
 exact lf rfl
 rcases O with z|_
 exact lf rfl
 exact lf rfl
def F184 (b:Z0) (a:Zz):Option (Zp×Bool):=
 if((a.Site==0)&&((a.Number==0)&&true))!=false then some ((Zp.mk 0 0 0 0 0 0 0),false)else(Fn121_2 b).bind fun _=>(Fn166_2 b false (Zp.mk 0 0 0 0 0 0 0) a).bind fun x4=>(match x4 with|.inl x3=>some (x3,true)|.inr _=>some ((Zp.mk 0 0 0 0 0 0 0),false))
theorem ok184 {k} (d) (a:Z0) (b:Zz):OD k (d+3) 184 [.agg (Z0.g a),.agg (Zz.g b)]=(F184 a b).map (fun⟨c,e⟩=>.tup [.agg (Zp.g c),bv e]):=by
 rw[od (fn:=p184) rfl rfl rfl]
 refine io (lf rfl) ?_
 refine bo (okn121_2 (d+1) a) fun _=>?_
 refine bo (okn166_2 d a false (Zp.mk 0 0 0 0 0 0 0) b) fun x4=>?_
 rcases x4 with f|_
 exact lf rfl
 exact lf rfl
def F195 (c:List Int):Option (List Int):=
 (pZ (c.length:Int) (c.length:Int) 0).bind fun k=>(aQ (E:=List Int) (fun(⟨b,a⟩:Int×(List Int))=>if decide (b<(c.length:Int))then(lidx a (w64 (b-1))).bind fun d=>(lnth a d).bind fun e=>(lget c (w64 (b-1))).bind fun f=>(lidx a b).bind fun g=>(lput a g (fun j=>(w64 (e+f)))).bind fun h=>some (.inl ((w64 (b+1)),h))else some (.inr a)) B64 (1,k)).bind fun i=>some i
theorem ok195 {k} (d) (h:List Int):OD k (d+1) 195 [.is 1 (I cI h)]=(F195 h).map (fun r=>.is 1 (I cI r)):=by
 rw[od (fn:=p195) rfl rfl rfl]
 refine bz lm ?_
 refine bo (dU cI _ _ 0) fun q=>?_
 refine bo (aI (S:=Int×(List Int)) (enc:=fun⟨j,a⟩=>(Q [(0,.is 1 (I cI h)),(3,.own 0),(4,i64 j)] [(0,.lst 3 1 true (I cI a))])) (encE:=(fun(e:List Int)=>(xq 0 [(3,.own 0)] [(0,.lst 3 1 true (I cI e))]))) (fun⟨j,a⟩=>?_) B64 (1,q)) fun e=>?_
 refine bz lm ?_
 refine io ?_ (lf rfl)
 refine bo (aW cI a _) fun l=>?_
 refine bo (bD (A:=Int) (c:=cI) (g:=fun b=>i64 b) (fun _=>rfl) a _) fun b=>?_
 refine bo rg fun i=>?_
 refine bo (aW cI a _) fun n=>?_
 refine bo (mN (A:=Int) (c:=cI) (m:=1) (f:=fun o=>(w64 (b+i))) (fun _=>⟨rfl,rfl⟩) (Nat.le_of_ble_eq_true rfl) a _) fun p=>?_
 exact lf rfl
 exact lf rfl
def F185 (a:Zo) (b:Int):Option ((List Int)×Int):=
 (F171 a b).bind fun⟨c,x4⟩=>if x4 !=0 then some ([],x4)else(F195 c).bind fun x5=>some (x5,0)
theorem ok185 {k} (d) (a:Zo) (b:Int):OD k (d+14) 185 [.agg (Zo.g a),i64 b]=(F185 a b).map (fun⟨e,f⟩=>.tup [.is 1 (I cI e),i64 f]):=by
 rw[od (fn:=p185) rfl rfl rfl]
 refine bo (ok171 d a b) fun⟨c,x4⟩=>?_
 refine io (lf rfl) ?_
 refine bo (ok195 (d+12) c) fun x5=>?_
 exact lf rfl
def F152 (d:Zk) (f:Zz):Option (Zq×Bool):=
 (F184 d.s' f).bind fun⟨a,x4⟩=>if(!x4)||(a.Kind !=4)then some ((Zq.mk 0 0 0 0),false)else(lget d.s'.Measures a.Measure).bind fun x5=>(F33 x5).bind fun⟨g,j⟩=>(lget x5.Cells a.Staff).bind fun h=>(lget h.Voices a.Voice).bind fun i=>(F185 i g).bind fun⟨b,e⟩=>if decide (a.Event>=(b.length:Int))then some ((Zq.mk 0 0 0 0),false)else(lget b a.Event).bind fun c=>some ((Zq.mk a.Measure c a.Staff a.Voice),true)
theorem ok152 {k} (d) (a:Zk) (b:Zz):OD k (d+15) 152 [.ip (Zk.g a),.agg (Zz.g b)]=(F152 a b).map (fun⟨j,l⟩=>.tup [.agg (Zq.g j),bv l]):=by
 rw[od (fn:=p152) rfl rfl rfl]
 refine bo (ok184 (d+11) a.s' b) fun⟨m,x4⟩=>?_
 refine bz (gor rfl) ?_
 refine io (lf rfl) ?_
 refine bo rg fun x5=>?_
 refine bo (ok33 (d+10) x5) fun⟨h,n⟩=>?_
 refine bo rg fun o=>?_
 refine bo rg fun i=>?_
 refine bo (ok185 d i h) fun⟨c,e⟩=>?_
 refine bz lm ?_
 refine io (lf rfl) ?_
 refine bo rg fun f=>?_
 exact lf rfl
def F196 (a b:Int):Option Bool:=
 some ((decide (a>=0))&&(decide (a<=b)))
theorem ok196 {k} (d) (a b:Int):OD k (d+1) 196 [i64 a,i64 b]=(F196 a b).map (fun c=>bv c):=by
 rw[od (fn:=p196) rfl rfl rfl]
 refine bz (gand rfl) ?_
 exact lf rfl
def F186 (a:Zq):Option Bool:=
 (F196 a.Measure 1023).bind fun b=>((if b then(F196 a.At 4398046511104).bind fun c=>some c else some false:Option (Bool))).bind fun x4=>((if x4 then(F196 a.Staff 127).bind fun x5=>some x5 else some false:Option (Bool))).bind fun d=>((if d then(F196 a.Voice 1).bind fun e=>some e else some false:Option (Bool))).bind fun f=>some f
theorem ok186 {k} (d) (a:Zq):OD k (d+2) 186 [.agg (Zq.g a)]=(F186 a).map (fun b=>bv b):=by
 rw[od (fn:=p186) rfl rfl rfl]
 refine bo (ok196 d a.Measure 1023) fun c=>?_
 refine bo (e:=id) ?_ fun x4=>?_
 refine io ?_ (lf rfl)
 refine bo (ok196 d a.At 4398046511104) fun f=>?_
 exact lf rfl
 refine bo (e:=id) ?_ fun h=>?_
 refine io ?_ (lf rfl)
 refine bo (ok196 d a.Staff 127) fun x5=>?_
 exact lf rfl
 refine bo (e:=id) ?_ fun j=>?_
 refine io ?_ (lf rfl)
 refine bo (ok196 d a.Voice 1) fun i=>?_
 exact lf rfl
 exact lf rfl
def F187 (a:Int):Option Bool:=
 some ((a==1)||(a==7))
theorem ok187 {k} (d) (a:Int):OD k (d+1) 187 [i64 a]=(F187 a).map (fun b=>bv b):=by
 rw[od (fn:=p187) rfl rfl rfl]
 refine bz (gor rfl) ?_
 exact lf rfl
def F114 (a:Int):Option Bool:=
 some (a !=a)
theorem ok114 {k} (d) (a:Int):OD k (d+1) 114 [i64 a]=(F114 a).map (fun b=>bv b):=by
 rw[od (fn:=p114) rfl rfl rfl]
 exact lf rfl
def F198 (a b:Int):Option Int:=
 (F114 a).bind fun c=>(F114 b).bind fun x4=>if c then if x4 then some 0 else some (-1)else if x4 then some 1 else if decide (a<b)then some (-1)else if decide (a>b)then some 1 else some 0
theorem ok198 {k} (d) (a b:Int):OD k (d+2) 198 [i64 a,i64 b]=(F198 a b).map (fun c=>i64 c):=by
 rw[od (fn:=p198) rfl rfl rfl]
 refine bo (ok114 d a) fun e=>?_
 refine bo (ok114 d b) fun x4=>?_
 refine io ?_ ?_
 refine io (lf rfl) (lf rfl)
 refine io (lf rfl) ?_
 refine io (lf rfl) ?_
 refine io (lf rfl) (lf rfl)
def F197 (b:List Int):Option Int:=
 (aQ (E:=Int⊕Unit) (fun(a:Int)=>if decide (a<(b.length:Int))then(lget b a).bind fun x4=>if x4 !=0 then some (.inr (.inl x4))else some (.inl (w64 (a+1)))else some (.inr (.inr ()))) B64 0).bind fun c=>(match c with|.inl x5=>some x5|.inr _=>some 0)
theorem ok197 {k} (d) (a:List Int):OD k (d+1) 197 [.is 1 (I cI a)]=(F197 a).map (fun e=>i64 e):=by
 rw[od (fn:=p197) rfl rfl rfl]
 refine bz lm ?_
 refine bo (aI (S:=Int) (enc:=fun b=>(Q [(3,i64 0),(6,.is 1 (I cI a)),(7,i64 (a.length:Int)),(8,i64 b)] [])) (encE:=(fun|.inl x5=>(rq [(2,i64 x5),(3,i64 0)] [])|.inr _=>(xq 0 [(3,i64 0)] []))) (fun b=>?_) B64 0) fun c=>?_
 refine io ?_ (lf rfl)
 refine bo rg fun x4=>?_
 refine io (lf rfl) (lf rfl)
 rcases c with x5|_
 exact lf rfl
 exact lf rfl
def F188 (a b:Zq):Option Int:=
 (F198 a.Measure b.Measure).bind fun c=>(F198 a.At b.At).bind fun x4=>(F197 [c,x4]).bind fun x5=>some x5
theorem ok188 {k} (d) (a b:Zq):OD k (d+3) 188 [.agg (Zq.g a),.agg (Zq.g b)]=(F188 a b).map (fun e=>i64 e):=by
 rw[od (fn:=p188) rfl rfl rfl]
 refine bo (ok198 d a.Measure b.Measure) fun c=>?_
 refine bo (ok198 d a.At b.At) fun x4=>?_
 refine bo (ok197 (d+1) [c,x4]) fun x5=>?_
 exact lf rfl
def F153 (a:Zs):Option Int:=
 if(decide (a.Kind<1))||(decide (a.Kind>7))then some 11 else(F186 a.From).bind fun b=>((if !b then some true else(F186 a.To).bind fun c=>some (!c):Option (Bool))).bind fun x4=>if x4 then some 2 else((if a.From.Staff !=a.To.Staff then some true else(F187 a.Kind).bind fun x5=>some (x5&&(a.From.Voice !=a.To.Voice)):Option (Bool))).bind fun d=>if d then some 23 else(F188 a.From a.To).bind fun e=>if decide (e>=0)then some 25 else some 0
theorem ok153 {k} (d) (a:Zs):OD k (d+4) 153 [.agg (Zs.g a)]=(F153 a).map (fun b=>i64 b):=by
 rw[od (fn:=p153) rfl rfl rfl]
 refine bz (gor rfl) ?_
 refine io (lf rfl) ?_
 refine bo (ok186 (d+1) a.From) fun c=>?_
 refine bo (e:=id) ?_ fun x4=>?_
 refine io (lf rfl) ?_
 refine bo (ok186 (d+1) a.To) fun f=>?_
 exact lf rfl
 refine io (lf rfl) ?_
 refine bo (e:=id) ?_ fun h=>?_
 refine io (lf rfl) ?_
 refine bo (ok187 (d+2) a.Kind) fun x5=>?_
 refine bz (gand rfl) ?_
 exact lf rfl
 refine io (lf rfl) ?_
 refine bo (ok188 d a.From a.To) fun i=>?_
 refine io (lf rfl) (lf rfl)
def Fn101 (p:List Zv) (g:Z0) (q:Int):Option ((List Bool)×(List Zs)):=
 (aQ (E:=(List Bool)×(List Zs)) (fun(⟨b,c,d⟩:Int×(List Bool)×(List Zs))=>if decide (b<(g.Spanners.length:Int))then(lget g.Spanners b).bind fun a=>(F152 (Zk.mk g q p) a.From).bind fun⟨e,h⟩=>(F152 (Zk.mk g q p) a.To).bind fun⟨f,i⟩=>(lapp false d [(Zs.mk a.Kind e f)]).bind fun j=>((if(!h)||(!i)then some true else(F153 (Zs.mk a.Kind e f)).bind fun k=>some (k !=0):Option (Bool))).bind fun l=>(lapp false c [l]).bind fun m=>some (.inl ((w64 (b+1)),m,j))else some (.inr (c,d))) B64 (0,[],[])).bind fun⟨n,o⟩=>some (n,o)
theorem okn101 {k} (d) (c:List Zv) (b:Z0) (i:Int):runR (XD k (d+16)) 101 [.ref 1 0] [(2,.lst 124 3 false (I Zv.g c)),(1,.box (ck b i (.own 2)))] 3 true=(Fn101 c b i).map (fun(⟨q,r⟩:(List Bool)×(List Zs))=>((.tup [.own 3,.own 4],[(4,.lst 4 1 false (I cB q)),(3,.lst 195 9 false (I Zs.g r)),(2,.lst 124 3 false (I Zv.g c)),(1,.box (ck b i (.own 2)))],5))):=by
 rw[xd (fn:=p101) rfl]
 refine bz lm ?_
 refine bo (aI (S:=Int×(List Bool)×(List Zs)) (enc:=fun⟨j,f,h⟩=>(Q [(0,.ref 1 0),(4,.own 3),(5,.own 4),(17,.is 7 (I Zn.g b.Spanners)),(18,i64 (b.Spanners.length:Int)),(19,i64 j)] [(4,.lst 4 1 false (I cB f)),(3,.lst 195 9 false (I Zs.g h)),(2,.lst 124 3 false (I Zv.g c)),(1,.box (ck b i (.own 2)))])) (encE:=(fun(⟨n,o⟩:(List Bool)×(List Zs))=>(xq 0 [(4,.own 3),(5,.own 4)] [(4,.lst 4 1 false (I cB n)),(3,.lst 195 9 false (I Zs.g o)),(2,.lst 124 3 false (I Zv.g c)),(1,.box (ck b i (.own 2)))]))) (fun⟨j,f,h⟩=>?_) B64 (0,[],[])) fun⟨n,o⟩=>?_
 refine io ?_ (lf rfl)
 refine bo rg fun a=>?_
 refine bo (ok152 d (Zk.mk b i c) a.From) fun⟨l,s⟩=>?_
 refine bo (ok152 d (Zk.mk b i c) a.To) fun⟨m,t⟩=>?_
 refine bo (bE false Zs.g h [(Zs.mk a.Kind l m)]) fun u=>?_
 refine bz (gor rfl) ?_
 refine bo (e:=id) ?_ fun p=>?_
 refine io (lf rfl) ?_
 refine bo (ok153 (d+11) (Zs.mk a.Kind l m)) fun v=>?_
 exact lf rfl
 refine bo (bE false cB f [p]) fun w=>?_
 exact lf rfl
 exact lf rfl
def Fn50 (i:List Zv) (c:Z0) (j:Int):Option (List Zv):=
 (Fn101 i c j).bind fun⟨x4,x5⟩=>(aQ (E:=List Zv) (fun(⟨a,b⟩:Int×(List Zv))=>if decide (a<(c.Spanners.length:Int))then(lget c.Spanners a).bind fun d=>(lidx x4 a).bind fun e=>(lnth x4 e).bind fun f=>(Fn66 f d.ID b c j).bind fun g=>some (.inl ((w64 (a+1)),g))else some (.inr b)) B64 (0,i)).bind fun h=>some h
theorem okn50 {k} (d) (j:List Zv) (a:Z0) (f:Int):runR (XD k (d+17)) 50 [.ref 1 0] [(2,.lst 124 3 false (I Zv.g j)),(1,.box (ck a f (.own 2)))] 3 false=(Fn50 j a f).map (fun(m:List Zv)=>((.tup [],[(2,.lst 124 3 false (I Zv.g m)),(1,.box (ck a f (.own 2)))],0))):=by
 rw[xd (fn:=p50) rfl]
 refine bo (okn101 d j a f) fun⟨x4,x5⟩=>?_
 refine bz lm ?_
 refine bo (aI (S:=Int×(List Zv)) (enc:=fun⟨h,b⟩=>(Q [(0,.ref 1 0),(3,.own 4),(15,.is 7 (I Zn.g a.Spanners)),(16,i64 (a.Spanners.length:Int)),(17,i64 h)] [(4,.lst 4 1 false (I cB x4)),(3,.lst 195 9 false (I Zs.g x5)),(2,.lst 124 3 false (I Zv.g b)),(1,.box (ck a f (.own 2)))])) (encE:=(fun(i:List Zv)=>(xq 0 [] [(4,.lst 4 1 false (I cB x4)),(3,.lst 195 9 false (I Zs.g x5)),(2,.lst 124 3 false (I Zv.g i)),(1,.box (ck a f (.own 2)))]))) (fun⟨h,b⟩=>?_) B64 (0,j)) fun i=>?_
 refine io ?_ (lf rfl)
 refine bo rg fun l=>?_
 refine bo (aW cB x4 _) fun n=>?_
 refine bo (bD (A:=Bool) (c:=cB) (g:=fun e=>bv e) (fun _=>rfl) x4 _) fun e=>?_
 refine bo (okn66 (d+15) e l.ID b a f) fun o=>?_
 exact lf rfl
 exact lf rfl
def F189 (a:Int):Option Int:=
 if(decide (a<1))||(decide (a>7))then some 0 else(lget [1,2,2,4,4,6,7] (w64 (a-1))).bind fun b=>some b
theorem ok189 {k} (d) (a:Int):OD k (d+1) 189 [i64 a]=(F189 a).map (fun b=>i64 b):=by
 rw[od (fn:=p189) rfl rfl rfl]
 refine bz (gor rfl) ?_
 refine io (lf rfl) ?_
 refine bo (jW .i64 [1,2,2,4,4,6,7] (w64 (a-1)) rfl) fun c=>?_
 exact lf rfl
def F154 (a b:Zs):Option Bool:=
 (F189 a.Kind).bind fun c=>((if decide (c>0)then(F189 a.Kind).bind fun x4=>(F189 b.Kind).bind fun x5=>some (x4==x5)else some false:Option (Bool))).bind fun d=>((if d&&(a.From.Staff==b.From.Staff)then(F187 a.Kind).bind fun e=>some ((!e)||(a.From.Voice==b.From.Voice))else some false:Option (Bool))).bind fun f=>some f
theorem ok154 {k} (d) (a b:Zs):OD k (d+2) 154 [.agg (Zs.g a),.agg (Zs.g b)]=(F154 a b).map (fun c=>bv c):=by
 rw[od (fn:=p154) rfl rfl rfl]
 refine bo (ok189 d a.Kind) fun f=>?_
 refine bo (e:=id) ?_ fun h=>?_
 refine io ?_ (lf rfl)
 refine bo (ok189 d a.Kind) fun x4=>?_
 refine bo (ok189 d b.Kind) fun x5=>?_
 exact lf rfl
 refine bz (gand rfl) ?_
 refine bo (e:=id) ?_ fun j=>?_
 refine io ?_ (lf rfl)
 refine bo (ok187 d a.Kind) fun i=>?_
 refine bz (gor rfl) ?_
 exact lf rfl
 exact lf rfl
def F158 (a b:Zs):Option Bool:=
 (F188 a.To b.From).bind fun c=>((if decide (c<0)then some true else(F188 b.To a.From).bind fun x4=>some (decide (x4<0)):Option (Bool))).bind fun x5=>some x5
theorem ok158 {k} (d) (a b:Zs):OD k (d+4) 158 [.agg (Zs.g a),.agg (Zs.g b)]=(F158 a b).map (fun c=>bv c):=by
 rw[od (fn:=p158) rfl rfl rfl]
 refine bo (ok188 d a.To b.From) fun f=>?_
 refine bo (e:=id) ?_ fun x5=>?_
 refine io (lf rfl) ?_
 refine bo (ok188 d b.To a.From) fun x4=>?_
 exact lf rfl
 exact lf rfl
def F157 (a b:Zs):Option Bool:=
 (F158 a b).bind fun c=>some (!c)
theorem ok157 {k} (d) (a b:Zs):OD k (d+5) 157 [.agg (Zs.g a),.agg (Zs.g b)]=(F157 a b).map (fun c=>bv c):=by
 rw[od (fn:=p157) rfl rfl rfl]
 refine bo (ok158 d a b) fun e=>?_
 exact lf rfl
def F156 (a b:Zs):Option Bool:=
 (F188 a.To b.From).bind fun c=>((if decide (c<=0)then some true else(F188 b.To a.From).bind fun x4=>some (decide (x4<=0)):Option (Bool))).bind fun x5=>some x5
theorem ok156 {k} (d) (a b:Zs):OD k (d+4) 156 [.agg (Zs.g a),.agg (Zs.g b)]=(F156 a b).map (fun c=>bv c):=by
 rw[od (fn:=p156) rfl rfl rfl]
 refine bo (ok188 d a.To b.From) fun f=>?_
 refine bo (e:=id) ?_ fun x5=>?_
 refine io (lf rfl) ?_
 refine bo (ok188 d b.To a.From) fun x4=>?_
 exact lf rfl
 exact lf rfl
def F155 (a b:Zs):Option Bool:=
 (F156 a b).bind fun c=>some (!c)
theorem ok155 {k} (d) (a b:Zs):OD k (d+5) 155 [.agg (Zs.g a),.agg (Zs.g b)]=(F155 a b).map (fun c=>bv c):=by
 rw[od (fn:=p155) rfl rfl rfl]
 refine bo (ok156 d a b) fun e=>?_
 exact lf rfl
def F190 (a b:Zs):Option Bool:=
 (F188 a.From b.From).bind fun c=>((if decide (c>=0)then(F188 a.To b.To).bind fun x4=>some (decide (x4<=0))else some false:Option (Bool))).bind fun x5=>some x5
theorem ok190 {k} (d) (a b:Zs):OD k (d+4) 190 [.agg (Zs.g a),.agg (Zs.g b)]=(F190 a b).map (fun c=>bv c):=by
 rw[od (fn:=p190) rfl rfl rfl]
 refine bo (ok188 d a.From b.From) fun f=>?_
 refine bo (e:=id) ?_ fun x5=>?_
 refine io ?_ (lf rfl)
 refine bo (ok188 d a.To b.To) fun x4=>?_
 exact lf rfl
 exact lf rfl
def F159 (a b:Zs):Option Bool:=
 (F156 a b).bind fun c=>((if !c then(F190 a b).bind fun x4=>(F190 b a).bind fun x5=>some ((x4==x5)!=false)else some false:Option (Bool))).bind fun d=>some d
theorem ok159 {k} (d) (a b:Zs):OD k (d+5) 159 [.agg (Zs.g a),.agg (Zs.g b)]=(F159 a b).map (fun c=>bv c):=by
 rw[od (fn:=p159) rfl rfl rfl]
 refine bo (ok156 d a b) fun f=>?_
 refine bo (e:=id) ?_ fun h=>?_
 refine io ?_ (lf rfl)
 refine bo (ok190 d a b) fun x4=>?_
 refine bo (ok190 d b a) fun x5=>?_
 exact lf rfl
 exact lf rfl
def F102 (a b:Zs):Option Bool:=
 (F154 a b).bind fun d=>if !d then some false else if(w64 (a.Kind-1))==6 then(F157 a b).bind fun x4=>some x4 else if(w64 (a.Kind-1))==5 then(F155 a b).bind fun x5=>some x5 else if(w64 (a.Kind-1))==4 then(F157 a b).bind fun e=>some e else if(w64 (a.Kind-1))==3 then(F157 a b).bind fun f=>some f else if(w64 (a.Kind-1))==2 then(F155 a b).bind fun g=>some g else if(w64 (a.Kind-1))==1 then(F155 a b).bind fun h=>some h else if(w64 (a.Kind-1))==0 then(F159 a b).bind fun c=>some c else none
theorem ok102 {k} (d) (a b:Zs):OD k (d+6) 102 [.agg (Zs.g a),.agg (Zs.g b)]=(F102 a b).map (fun e=>bv e):=by
 rw[od (fn:=p102) rfl rfl rfl]
 refine bo (ok154 (d+3) a b) fun f=>?_
 refine io (lf rfl) ?_
 refine io ?_ ?_
 refine bo (ok157 d a b) fun x4=>?_
 exact lf rfl
 refine io ?_ ?_
 refine bo (ok155 d a b) fun x5=>?_
 exact lf rfl
 refine io ?_ ?_
 refine bo (ok157 d a b) fun h=>?_
 exact lf rfl
 refine io ?_ ?_
 refine bo (ok157 d a b) fun i=>?_
 exact lf rfl
 refine io ?_ ?_
 refine bo (ok155 d a b) fun j=>?_
 exact lf rfl
 refine io ?_ ?_
 refine bo (ok155 d a b) fun l=>?_
 exact lf rfl
 refine io ?_ ?_
 refine bo (ok159 d a b) fun c=>?_
 exact lf rfl
 rfl
def Fn51 (u:List Zv) (e:Z0) (v:Int):Option (List Zv):=
 (Fn101 u e v).bind fun⟨x4,x5⟩=>(aQ (E:=List Zv) (fun(⟨a,c⟩:Int×(List Zv))=>if decide (a<(e.Spanners.length:Int))then(lget e.Spanners a).bind fun f=>(aQ (E:=Bool) (fun(⟨d,b⟩:Bool×Int)=>((if decide (b<a)then(lidx x4 a).bind fun g=>(lnth x4 g).bind fun h=>some (!h)else some false:Option (Bool))).bind fun i=>if i&&(!d)then(lidx x4 b).bind fun j=>(lnth x4 j).bind fun k=>((if !k then(lidx x5 b).bind fun l=>(lnth x5 l).bind fun m=>(lidx x5 a).bind fun n=>(lnth x5 n).bind fun o=>(F102 m o).bind fun p=>some p else some false:Option (Bool))).bind fun q=>some (.inl (q,(w64 (b+1))))else some (.inr d)) B64 (false,0)).bind fun r=>(Fn66 r f.ID c e v).bind fun s=>some (.inl ((w64 (a+1)),s))else some (.inr c)) B64 (0,u)).bind fun t=>some t
theorem okn51 {k} (d) (t:List Zv) (f:Z0) (j:Int):runR (XD k (d+17)) 51 [.ref 1 0] [(2,.lst 124 3 false (I Zv.g t)),(1,.box (ck f j (.own 2)))] 3 false=(Fn51 t f j).map (fun(u:List Zv)=>((.tup [],[(2,.lst 124 3 false (I Zv.g u)),(1,.box (ck f j (.own 2)))],0))):=by
 rw[xd (fn:=p51) rfl]
 refine bo (okn101 d t f j) fun⟨x4,x5⟩=>?_
 refine bz lm ?_
 refine bo (aI (S:=Int×(List Zv)) (enc:=fun⟨h,i⟩=>(Q [(0,.ref 1 0),(2,.own 3),(3,.own 4),(17,.is 7 (I Zn.g f.Spanners)),(18,i64 (f.Spanners.length:Int)),(19,i64 h)] [(4,.lst 4 1 false (I cB x4)),(3,.lst 195 9 false (I Zs.g x5)),(2,.lst 124 3 false (I Zv.g i)),(1,.box (ck f j (.own 2)))])) (encE:=(fun(s:List Zv)=>(xq 0 [] [(4,.lst 4 1 false (I cB x4)),(3,.lst 195 9 false (I Zs.g x5)),(2,.lst 124 3 false (I Zv.g s)),(1,.box (ck f j (.own 2)))]))) (fun⟨h,i⟩=>?_) B64 (0,t)) fun s=>?_
 refine io ?_ (lf rfl)
 refine bo rg fun l=>?_
 refine bo (aI (S:=Bool×Int) (enc:=fun⟨o,p⟩=>(Q [(0,.ref 1 0),(2,.own 3),(3,.own 4),(4,i64 h),(5,.ref 5 0),(6,bv o),(7,i64 p),(17,.is 7 (I Zn.g f.Spanners)),(18,i64 (f.Spanners.length:Int)),(19,i64 h)] [(5,.box (Zn.g l)),(4,.lst 4 1 false (I cB x4)),(3,.lst 195 9 false (I Zs.g x5)),(2,.lst 124 3 false (I Zv.g i)),(1,.box (ck f j (.own 2)))])) (encE:=(fun(n:Bool)=>(xq 2 [(0,.ref 1 0),(2,.own 3),(3,.own 4),(5,.ref 5 0),(6,bv n),(17,.is 7 (I Zn.g f.Spanners)),(18,i64 (f.Spanners.length:Int)),(19,i64 h)] [(5,.box (Zn.g l)),(4,.lst 4 1 false (I cB x4)),(3,.lst 195 9 false (I Zs.g x5)),(2,.lst 124 3 false (I Zv.g i)),(1,.box (ck f j (.own 2)))]))) (fun⟨o,p⟩=>?_) B64 (false,0)) fun n=>?_
 refine bo (e:=id) ?_ fun w=>?_
 refine io ?_ (lf rfl)
 refine bo (aW cB x4 _) fun v=>?_
 refine bo (bD (A:=Bool) (c:=cB) (g:=fun q=>bv q) (fun _=>rfl) x4 _) fun q=>?_
 exact lf rfl
 refine bz (gand rfl) ?_
 refine io ?_ (lf rfl)
 refine bo (aW cB x4 _) fun x=>?_
 refine bo (bD (A:=Bool) (c:=cB) (g:=fun r=>bv r) (fun _=>rfl) x4 _) fun r=>?_
 refine bo (e:=id) ?_ fun C=>?_
 refine io ?_ (lf rfl)
 refine bo (aW Zs.g x5 _) fun y=>?_
 refine bo (fE (A:=Zs) (c:=Zs.g) (m:=9) (g:=fun a=>[i64 a.Kind,i64 a.From.Measure,i64 a.From.At,i64 a.From.Staff,i64 a.From.Voice,i64 a.To.Measure,i64 a.To.At,i64 a.To.Staff,i64 a.To.Voice]) (fun _=>⟨rfl,rfl⟩) (Nat.le_of_ble_eq_true rfl) x5 _) fun a=>?_
 refine bo (aW Zs.g x5 _) fun z=>?_
 refine bo (fE (A:=Zs) (c:=Zs.g) (m:=9) (g:=fun b=>[i64 b.Kind,i64 b.From.Measure,i64 b.From.At,i64 b.From.Staff,i64 b.From.Voice,i64 b.To.Measure,i64 b.To.At,i64 b.To.Staff,i64 b.To.Voice]) (fun _=>⟨rfl,rfl⟩) (Nat.le_of_ble_eq_true rfl) x5 _) fun b=>?_
 refine bo (ok102 (d+10) a b) fun B=>?_
 exact lf rfl
 exact lf rfl
 refine bo (okn66 (d+15) n l.ID i f j) fun D=>?_
 exact lf rfl
 exact lf rfl
def F103 (d:Int) (a:Zm):Option Bool:=
 ((if a.RepeatEnd !=0 then(F68 a.RepeatEnd 2 8).bind fun b=>some (!b)else some false:Option (Bool))).bind fun x4=>((if x4 then some true else(F68 a.Endings 0 255).bind fun x5=>some (!x5):Option (Bool))).bind fun c=>some c
theorem ok103 {k} (d) (b:Int) (a:Zm):OD k (d+2) 103 [i64 b,.agg (Zm.g a)]=(F103 b a).map (fun c=>bv c):=by
 rw[od (fn:=p103) rfl rfl rfl]
 refine bo (e:=id) ?_ fun x4=>?_
 refine io ?_ (lf rfl)
 refine bo (ok68 d a.RepeatEnd 2 8) fun f=>?_
 exact lf rfl
 refine bo (e:=id) ?_ fun h=>?_
 refine io (lf rfl) ?_
 refine bo (ok68 d a.Endings 0 255) fun x5=>?_
 exact lf rfl
 exact lf rfl
def Fn74_6 (h:List Zv) (e:Z0) (i:Int):Option (List Zv):=
 (aQ (E:=List Zv) (fun(⟨a,f⟩:Int×(List Zv))=>if decide (a<(e.Measures.length:Int))then(lget e.Measures a).bind fun g=>(F103 a g).bind fun b=>(Fn66 b g.ID f e i).bind fun c=>some (.inl ((w64 (a+1)),c))else some (.inr f)) B64 (0,h)).bind fun d=>some d
theorem okn74_6 {k} (d) (e:List Zv) (a:Z0) (b:Int):runR (XD k (d+3)) 74 [.ref 1 0,.fn 103 [] []] [(2,.lst 124 3 false (I Zv.g e)),(1,.box (ck a b (.own 2)))] 3 false=(Fn74_6 e a b).map (fun(h:List Zv)=>((.tup [],[(2,.lst 124 3 false (I Zv.g h)),(1,.box (ck a b (.own 2)))],0))):=by
 rw[xd (fn:=p74) rfl]
 refine bz lm ?_
 refine bo (aI (S:=Int×(List Zv)) (enc:=fun⟨i,j⟩=>(Q [(0,.ref 1 0),(1,.fn 103 [] []),(10,.is 22 (I Zm.g a.Measures)),(11,i64 (a.Measures.length:Int)),(12,i64 i)] [(2,.lst 124 3 false (I Zv.g j)),(1,.box (ck a b (.own 2)))])) (encE:=(fun(c:List Zv)=>(xq 0 [] [(2,.lst 124 3 false (I Zv.g c)),(1,.box (ck a b (.own 2)))]))) (fun⟨i,j⟩=>?_) B64 (0,e)) fun c=>?_
 refine io ?_ (lf rfl)
 refine bo rg fun l=>?_
 refine bo (ok103 d i l) fun f=>?_
 refine bo (okn66 (d+1) f l.ID j a b) fun m=>?_
 exact lf rfl
 exact lf rfl
def F200 (a:Int):Option Int:=
 ((if decide (a>=4294967296)then(shrO .u64 a 32).bind fun g=>some (g,32)else some (a,0):Option (Int×Int))).bind fun⟨d,x4⟩=>((if decide (d>=65536)then(shrO .u64 d 16).bind fun x5=>some (x5,(w64 (x4+16)))else some (d,x4):Option (Int×Int))).bind fun⟨e,f⟩=>((if decide (e>=256)then(shrO .u64 e 8).bind fun h=>some (h,(w64 (f+8)))else some (e,f):Option (Int×Int))).bind fun⟨i,b⟩=>(kF (⟨#[0,1,2,2,3,3,3,3,4,4,4,4,4,4,4,4,5,5,5,5,5,5,5,5,5,5,5,5,5,5,5,5,6,6,6,6,6,6,6,6,6,6,6,6,6,6,6,6,6,6,6,6,6,6,6,6,6,6,6,6,6,6,6,6,7,7,7,7,7,7,7,7,7,7,7,7,7,7,7,7,7,7,7,7,7,7,7,7,7,7,7,7,7,7,7,7,7,7,7,7,7,7,7,7,7,7,7,7,7,7,7,7,7,7,7,7,7,7,7,7,7,7,7,7,7,7,7,7,8,8,8,8,8,8,8,8,8,8,8,8,8,8,8,8,8,8,8,8,8,8,8,8,8,8,8,8,8,8,8,8,8,8,8,8,8,8,8,8,8,8,8,8,8,8,8,8,8,8,8,8,8,8,8,8,8,8,8,8,8,8,8,8,8,8,8,8,8,8,8,8,8,8,8,8,8,8,8,8,8,8,8,8,8,8,8,8,8,8,8,8,8,8,8,8,8,8,8,8,8,8,8,8,8,8,8,8,8,8,8,8,8,8,8,8,8,8,8,8,8,8,8,8,8,8,8,8]⟩:ByteArray) (IntKind.wrap .u8 (i))).bind fun c=>some (w64 (b+(w64 (c))))
theorem ok200 {k} (d) (b:Int):OD k (d+1) 200 [.v (.int .u64 b)]=(F200 b).map (fun j=>i64 j):=by
 rw[od (fn:=p200) rfl rfl rfl]
 refine bo (e:=(fun(⟨c,x4⟩:Int×Int)=>(nq [(0,.v (.int .u64 c)),(2,i64 x4)] []))) ?_ fun⟨c,x4⟩=>?_
 refine io ?_ (lf rfl)
 refine bo oi fun l=>?_
 exact lf rfl
 refine bo (e:=(fun(⟨f,g⟩:Int×Int)=>(nq [(0,.v (.int .u64 f)),(2,i64 g)] []))) ?_ fun⟨f,g⟩=>?_
 refine io ?_ (lf rfl)
 refine bo oi fun x5=>?_
 exact lf rfl
 refine bo (e:=(fun(⟨h,a⟩:Int×Int)=>(nq [(0,.v (.int .u64 h)),(2,i64 a)] []))) ?_ fun⟨h,a⟩=>?_
 refine io ?_ (lf rfl)
 refine bo oi fun m=>?_
 exact lf rfl
 refine bo oi fun i=>?_
 exact lf rfl
def F191 (a:Int):Option Int:=
 (F200 a).bind fun b=>some b
theorem ok191 {k} (d) (a:Int):OD k (d+2) 191 [.v (.int .u64 a)]=(F191 a).map (fun b=>i64 b):=by
 rw[od (fn:=p191) rfl rfl rfl]
 refine bo (ok200 d a) fun c=>?_
 exact lf rfl
def F105 (a:Zg):Option Bool:=
 ((if decide (a.passes>0)then(shlO .i64 1 (w64 (a.passes-1))).bind fun b=>some (a.ending==b)else some false:Option (Bool))).bind fun c=>some c
theorem ok105 {k} (d) (a:Zg):OD k (d+1) 105 [.agg (Zg.g a)]=(F105 a).map (fun b=>bv b):=by
 rw[od (fn:=p105) rfl rfl rfl]
 refine bo (e:=id) ?_ fun f=>?_
 refine io ?_ (lf rfl)
 refine bo oi fun c=>?_
 exact lf rfl
 exact lf rfl
def F160 (a:Zg) (b:Zm):Option (Zg×Bool):=
 if b.RepeatStart||(a.body==0)then some (a,false)else if b.Endings !=a.ending then if((a.ending !=0)&&(!a.ended))||((iand .i64 b.Endings a.used)!=0)then some (a,false)else(F191 (IntKind.wrap .u64 (b.Endings))).bind fun k=>if a.passes==0 then if((iand .i64 b.Endings 1)==0)||(decide ((w64 (k-1))>6))then some ((Zg.mk a.started a.body (ior .i64 a.used b.Endings) b.Endings false a.passes),false)else if b.RepeatEnd !=0 then(F105 (Zg.mk a.started a.body (ior .i64 a.used b.Endings) b.Endings false a.passes)).bind fun x4=>((if x4||((a.passes !=0)&&(b.RepeatEnd !=a.passes))then some true else(F191 (IntKind.wrap .u64 (b.Endings))).bind fun x5=>some (decide (x5>=b.RepeatEnd)):Option (Bool))).bind fun l=>if l then some ((Zg.mk a.started a.body (ior .i64 a.used b.Endings) b.Endings false a.passes),false)else some ((Zg.mk a.started a.body (ior .i64 a.used b.Endings) b.Endings true b.RepeatEnd),true)else some ((Zg.mk a.started a.body (ior .i64 a.used b.Endings) b.Endings false a.passes),true)else((if decide ((w64 (k-1))>=a.passes)then some true else((if(w64 (k-1))==(w64 (a.passes-1))then(F105 (Zg.mk a.started a.body (ior .i64 a.used b.Endings) b.Endings false a.passes)).bind fun m=>((if !m then some true else(shlO .i64 1 a.passes).bind fun n=>some ((ior .i64 a.used b.Endings)!=(w64 (n-1))):Option (Bool))).bind fun o=>some o else some false:Option (Bool))).bind fun c=>some c:Option (Bool))).bind fun d=>if d then some ((Zg.mk a.started a.body (ior .i64 a.used b.Endings) b.Endings false a.passes),false)else if b.RepeatEnd !=0 then(F105 (Zg.mk a.started a.body (ior .i64 a.used b.Endings) b.Endings false a.passes)).bind fun e=>((if e||((a.passes !=0)&&(b.RepeatEnd !=a.passes))then some true else(F191 (IntKind.wrap .u64 (b.Endings))).bind fun f=>some (decide (f>=b.RepeatEnd)):Option (Bool))).bind fun g=>if g then some ((Zg.mk a.started a.body (ior .i64 a.used b.Endings) b.Endings false a.passes),false)else some ((Zg.mk a.started a.body (ior .i64 a.used b.Endings) b.Endings true b.RepeatEnd),true)else some ((Zg.mk a.started a.body (ior .i64 a.used b.Endings) b.Endings false a.passes),true)else if a.ended then some (a,false)else if b.RepeatEnd !=0 then(F105 a).bind fun h=>((if h||((a.passes !=0)&&(b.RepeatEnd !=a.passes))then some true else(F191 (IntKind.wrap .u64 (a.ending))).bind fun i=>some (decide (i>=b.RepeatEnd)):Option (Bool))).bind fun j=>if j then some (a,false)else some ((Zg.mk a.started a.body a.used a.ending true b.RepeatEnd),true)else some (a,true)
theorem ok160 {k} (d) (a:Zg) (b:Zm):OD k (d+3) 160 [.agg (Zg.g a),.agg (Zm.g b)]=(F160 a b).map (fun⟨o,p⟩=>.tup [.agg (Zg.g o),bv p]):=by
 rw[od (fn:=p160) rfl rfl rfl]
 refine bz (gor rfl) ?_
 refine io (lf rfl) ?_
 refine io ?_ ?_
 refine bz (gand rfl) ?_
 refine bz (gor rfl) ?_
 refine io (lf rfl) ?_
 refine bo (ok191 d (IntKind.wrap .u64 (b.Endings))) fun q=>?_
 refine io ?_ ?_
 refine bz (gor rfl) ?_
 refine io (lf rfl) ?_
 refine io ?_ (lf rfl)
 refine bo (ok105 (d+1) (Zg.mk a.started a.body (ior .i64 a.used b.Endings) b.Endings false a.passes)) fun x4=>?_
 refine bz (gor (bz (gand rfl) rfl)) ?_
 refine bo (e:=id) ?_ fun r=>?_
 refine io (lf rfl) ?_
 refine bo (ok191 d (IntKind.wrap .u64 (b.Endings))) fun x5=>?_
 exact lf rfl
 refine io (lf rfl) (lf rfl)
 refine bo (e:=id) ?_ fun f=>?_
 refine io (lf rfl) ?_
 refine bo (e:=id) ?_ fun c=>?_
 refine io ?_ (lf rfl)
 refine bo (ok105 (d+1) (Zg.mk a.started a.body (ior .i64 a.used b.Endings) b.Endings false a.passes)) fun s=>?_
 refine bo (e:=id) ?_ fun u=>?_
 refine io (lf rfl) ?_
 refine bo oi fun t=>?_
 exact lf rfl
 exact lf rfl
 exact lf rfl
 refine io (lf rfl) ?_
 refine io ?_ (lf rfl)
 refine bo (ok105 (d+1) (Zg.mk a.started a.body (ior .i64 a.used b.Endings) b.Endings false a.passes)) fun h=>?_
 refine bz (gor (bz (gand rfl) rfl)) ?_
 refine bo (e:=id) ?_ fun j=>?_
 refine io (lf rfl) ?_
 refine bo (ok191 d (IntKind.wrap .u64 (b.Endings))) fun i=>?_
 exact lf rfl
 refine io (lf rfl) (lf rfl)
 refine io (lf rfl) ?_
 refine io ?_ (lf rfl)
 refine bo (ok105 (d+1) a) fun l=>?_
 refine bz (gor (bz (gand rfl) rfl)) ?_
 refine bo (e:=id) ?_ fun n=>?_
 refine io (lf rfl) ?_
 refine bo (ok191 d (IntKind.wrap .u64 (a.ending))) fun m=>?_
 exact lf rfl
 refine io (lf rfl) (lf rfl)
def F104 (a:Zg) (b:Zm):Option (Zg×Bool):=
 if b.Endings !=0 then(F160 a b).bind fun⟨e,x4⟩=>some (e,x4)else if a.ending !=0 then(F105 a).bind fun x5=>if !x5 then some (a,false)else if b.RepeatStart then if false then some ((Zg.mk false 0 0 0 false 0),false)else((if b.RepeatEnd !=0 then some (false,0)else some (true,1):Option (Bool×Int))).bind fun⟨f,g⟩=>some ((Zg.mk f g 0 0 false 0),true)else((if b.RepeatEnd !=0 then some 0 else some 1:Option (Int))).bind fun h=>some ((Zg.mk false h 0 0 false 0),true)else if b.RepeatStart then if a.started then some (a,false)else((if b.RepeatEnd !=0 then some (false,0)else some (true,1):Option (Bool×Int))).bind fun⟨i,c⟩=>some ((Zg.mk i c 0 0 false 0),true)else((if b.RepeatEnd !=0 then some (Zg.mk false 0 0 0 false 0)else some (Zg.mk a.started (w64 (a.body+1)) a.used a.ending a.ended a.passes):Option (Zg))).bind fun d=>some (d,true)
theorem ok104 {k} (d) (f:Zg) (a:Zm):OD k (d+4) 104 [.agg (Zg.g f),.agg (Zm.g a)]=(F104 f a).map (fun⟨m,n⟩=>.tup [.agg (Zg.g m),bv n]):=by
 rw[od (fn:=p104) rfl rfl rfl]
 refine io ?_ ?_
 refine bo (ok160 d f a) fun⟨o,x4⟩=>?_
 exact lf rfl
 refine io ?_ ?_
 refine bo (ok105 (d+2) f) fun x5=>?_
 refine io (lf rfl) ?_
 refine io ?_ ?_
 refine io (lf rfl) ?_
 refine bo (e:=(fun(⟨h,i⟩:Bool×Int)=>(nq [(2,.ref 0 0),(4,.ref 2 0)] [(2,.box [bv false,i64 0,i64 0,i64 0,bv false,i64 0]),(1,.box (Zm.g a)),(0,.box [bv h,i64 i,i64 0,i64 0,bv false,i64 0])]))) ?_ fun⟨h,i⟩=>?_
 refine io (lf rfl) (lf rfl)
 exact lf rfl
 refine bo (e:=(fun(j:Int)=>(nq [(2,.ref 0 0),(4,.ref 2 0)] [(2,.box [bv false,i64 0,i64 0,i64 0,bv false,i64 0]),(1,.box (Zm.g a)),(0,.box [bv false,i64 j,i64 0,i64 0,bv false,i64 0])]))) ?_ fun j=>?_
 refine io (lf rfl) (lf rfl)
 exact lf rfl
 refine io ?_ ?_
 refine io (lf rfl) ?_
 refine bo (e:=(fun(⟨l,b⟩:Bool×Int)=>(nq [(2,.ref 0 0),(4,.ref 2 0)] [(2,.box [bv false,i64 0,i64 0,i64 0,bv false,i64 0]),(1,.box (Zm.g a)),(0,.box [bv l,i64 b,i64 0,i64 0,bv false,i64 0])]))) ?_ fun⟨l,b⟩=>?_
 refine io (lf rfl) (lf rfl)
 exact lf rfl
 refine bo (e:=(fun(c:Zg)=>(nq [(2,.ref 0 0),(4,.ref 2 0)] [(2,.box [bv false,i64 0,i64 0,i64 0,bv false,i64 0]),(1,.box (Zm.g a)),(0,.box (Zg.g c))]))) ?_ fun c=>?_
 refine io (lf rfl) (lf rfl)
 exact lf rfl
def Fn52 (o:List Zv) (a:Z0) (m:Int):Option (List Zv):=
 (Fn74_6 o a m).bind fun x4=>if decide ((x4.length:Int)>(o.length:Int))then some x4 else(aQ (E:=(Zg×(List Zv))⊕Zg) (fun(⟨n,b⟩:Int×Zg)=>if decide (n<(a.Measures.length:Int))then(lget a.Measures n).bind fun c=>(F104 b c).bind fun⟨d,e⟩=>if !e then(Fn66 true c.ID x4 a m).bind fun f=>some (.inr (.inl (d,f)))else some (.inl ((w64 (n+1)),d))else some (.inr (.inr b))) B64 (0,(Zg.mk false 0 0 0 false 0))).bind fun g=>(match g with|.inl ⟨x15,x16⟩=>some x16|.inr x17=>((if x17.started&&(x17.ending==0)then some true else((if x17.ending !=0 then(F105 x17).bind fun h=>some (!h)else some false:Option (Bool))).bind fun i=>some i:Option (Bool))).bind fun j=>(lget a.Measures (w64 ((a.Measures.length:Int)-1))).bind fun k=>(Fn66 j k.ID x4 a m).bind fun l=>some l)
theorem okn52 {k} (d) (j:List Zv) (a:Z0) (b:Int):runR (XD k (d+5)) 52 [.ref 1 0] [(2,.lst 124 3 false (I Zv.g j)),(1,.box (ck a b (.own 2)))] 3 false=(Fn52 j a b).map (fun(o:List Zv)=>((.tup [],[(2,.lst 124 3 false (I Zv.g o)),(1,.box (ck a b (.own 2)))],0))):=by
 rw[xd (fn:=p52) rfl]
 refine bz (bP Zv.g j) ?_
 refine bo (okn74_6 (d+1) j a b) fun x4=>?_
 refine bz (bP Zv.g x4) ?_
 refine io (lf rfl) ?_
 refine bz lm ?_
 refine bo (aI (S:=Int×Zg) (enc:=fun⟨p,c⟩=>(Q [(0,.ref 1 0),(3,.ref 3 0),(26,.is 22 (I Zm.g a.Measures)),(27,i64 (a.Measures.length:Int)),(28,i64 p)] [(3,.box (Zg.g c)),(2,.lst 124 3 false (I Zv.g x4)),(1,.box (ck a b (.own 2)))])) (encE:=(fun|.inl ⟨h,i⟩=>(rq [(3,.ref 3 0)] [(3,.box (Zg.g h)),(2,.lst 124 3 false (I Zv.g i)),(1,.box (ck a b (.own 2)))])|.inr x17=>(xq 0 [(0,.ref 1 0),(3,.ref 3 0)] [(3,.box (Zg.g x17)),(2,.lst 124 3 false (I Zv.g x4)),(1,.box (ck a b (.own 2)))]))) (fun⟨p,c⟩=>?_) B64 (0,(Zg.mk false 0 0 0 false 0))) fun l=>?_
 refine io ?_ (lf rfl)
 refine bo rg fun f=>?_
 refine bo (ok104 d c f) fun⟨q,r⟩=>?_
 refine io ?_ (lf rfl)
 refine bo (okn66 (d+3) true f.ID x4 a b) fun s=>?_
 exact lf rfl
 rcases l with⟨h,i⟩|x17
 exact lf rfl
 refine bz (gand rfl) ?_
 refine bo (e:=id) ?_ fun m=>?_
 refine io (lf rfl) ?_
 refine bo (e:=id) ?_ fun u=>?_
 refine io ?_ (lf rfl)
 refine bo (ok105 (d+3) x17) fun t=>?_
 exact lf rfl
 exact lf rfl
 refine bz lm ?_
 refine bo rg fun n=>?_
 refine bo (okn66 (d+3) m n.ID x4 a b) fun v=>?_
 exact lf rfl
def F107 (a b:Zm):Option Bool:=
 some (((b.Jump !=0)&&(a.Jump !=0))||((iand .i64 b.Labels a.Labels)!=0))
theorem ok107 {k} (d) (a b:Zm):OD k (d+1) 107 [.agg (Zm.g a),.ip (Zm.g b)]=(F107 a b).map (fun c=>bv c):=by
 rw[od (fn:=p107) rfl rfl rfl]
 refine bz (gand rfl) ?_
 refine bz (gor rfl) ?_
 exact lf rfl
def F117 (a:List Zm) (b:Zm):Option Int:=
 (aQ (E:=Int⊕Unit) (fun(x5:Int)=>if decide (x5<(a.length:Int))then(lget a x5).bind fun c=>(F107 c b).bind fun d=>if d then some (.inr (.inl x5))else some (.inl (w64 (x5+1)))else some (.inr (.inr ()))) B64 0).bind fun e=>(match e with|.inl x8=>some x8|.inr _=>some (-1))
theorem ok117 {k} (d) (a:List Zm) (b:Zm):OD k (d+2) 117 [.is 22 (I Zm.g a),.fn 107 [] [.ip (Zm.g b)]]=(F117 a b).map (fun h=>i64 h):=by
 rw[od (fn:=p117) rfl rfl rfl]
 refine bz lm ?_
 refine bo (aI (S:=Int) (enc:=fun x5=>(Q [(0,.is 22 (I Zm.g a)),(1,.fn 107 [] [.ip (Zm.g b)]),(7,i64 (a.length:Int)),(8,i64 x5)] [])) (encE:=(fun|.inl c=>(rq [(4,i64 c)] [])|.inr _=>(xq 0 [] []))) (fun x5=>?_) B64 0) fun f=>?_
 refine io ?_ (lf rfl)
 refine bo rg fun e=>?_
 refine bo (ok107 d e b) fun i=>?_
 refine io (lf rfl) (lf rfl)
 rcases f with c|_
 exact lf rfl
 exact lf rfl
def F108 (a:List Zm) (b:Zm):Option Bool:=
 (F117 a b).bind fun c=>some (decide (c>=0))
theorem ok108 {k} (d) (a:List Zm) (b:Zm):OD k (d+3) 108 [.is 22 (I Zm.g a),.fn 107 [] [.ip (Zm.g b)]]=(F108 a b).map (fun c=>bv c):=by
 rw[od (fn:=p108) rfl rfl rfl]
 refine bo (ok117 d a b) fun e=>?_
 exact lf rfl
def F192 (a:Zm) (b:Int):Option Bool:=
 some ((iand .i64 a.Labels b)!=0)
theorem ok192 {k} (d) (a:Zm) (b:Int):OD k (d+1) 192 [.agg (Zm.g a),.ip [i64 b]]=(F192 a b).map (fun c=>bv c):=by
 rw[od (fn:=p192) rfl rfl rfl]
 exact lf rfl
def F117_2 (a:List Zm) (b:Int):Option Int:=
 (aQ (E:=Int⊕Unit) (fun(x5:Int)=>if decide (x5<(a.length:Int))then(lget a x5).bind fun c=>(F192 c b).bind fun d=>if d then some (.inr (.inl x5))else some (.inl (w64 (x5+1)))else some (.inr (.inr ()))) B64 0).bind fun e=>(match e with|.inl x8=>some x8|.inr _=>some (-1))
theorem ok117_2 {k} (d) (a:List Zm) (b:Int):OD k (d+2) 117 [.is 22 (I Zm.g a),.fn 192 [] [.ip [i64 b]]]=(F117_2 a b).map (fun h=>i64 h):=by
 rw[od (fn:=p117) rfl rfl rfl]
 refine bz lm ?_
 refine bo (aI (S:=Int) (enc:=fun x5=>(Q [(0,.is 22 (I Zm.g a)),(1,.fn 192 [] [.ip [i64 b]]),(7,i64 (a.length:Int)),(8,i64 x5)] [])) (encE:=(fun|.inl c=>(rq [(4,i64 c)] [])|.inr _=>(xq 0 [] []))) (fun x5=>?_) B64 0) fun f=>?_
 refine io ?_ (lf rfl)
 refine bo rg fun e=>?_
 refine bo (ok192 d e b) fun i=>?_
 refine io (lf rfl) (lf rfl)
 rcases f with c|_
 exact lf rfl
 exact lf rfl
end Go.P
namespace Go.P
open Go.Sim (Ex OpK CK)
open K (I Q rq nq xq ck)
def F162 (a:Zk) (b:Int):Option Int:=
 (F117_2 a.s'.Measures b).bind fun c=>some c
theorem ok162 {k} (d) (a:Zk) (b:Int):OD k (d+3) 162 [.ip (Zk.g a),i64 b]=(F162 a b).map (fun c=>i64 c):=by
 rw[od (fn:=p162) rfl rfl rfl]
 refine bo (ok117_2 d a.s'.Measures b) fun e=>?_
 exact lf rfl
def F161 (a:Int) (b:Zk) (c:Int):Option Bool:=
 (F162 b a).bind fun x4=>(F68 x4 0 c).bind fun x5=>some x5
theorem ok161 {k} (d) (a:Int) (b:Zk) (c:Int):OD k (d+4) 161 [i64 a,.ip [.ip (Zk.g b)],.ip [i64 c]]=(F161 a b c).map (fun e=>bv e):=by
 rw[od (fn:=p161) rfl rfl rfl]
 refine bo (ok162 d b a) fun x4=>?_
 refine bo (ok68 (d+2) x4 0 c) fun x5=>?_
 exact lf rfl
def F109 (b:Zk) (a f:Int):Option Bool:=
 ((if decide (a>=4)then(F161 1 b f).bind fun x4=>some (!x4)else some false:Option (Bool))).bind fun x5=>if x5 then some false else((if a==2 then some (a==2)else some (a==5):Option (Bool))).bind fun g=>if g then(F161 4 b f).bind fun h=>some h else((if a==3 then some (a==3)else some (a==6):Option (Bool))).bind fun i=>if i then(F161 8 b f).bind fun j=>((if j then(F162 b 2).bind fun c=>(F162 b 8).bind fun d=>some (decide (c>d))else some false:Option (Bool))).bind fun e=>some e else some true
theorem ok109 {k} (d) (a:Zk) (c b:Int):OD k (d+5) 109 [.ip (Zk.g a),i64 c,i64 b]=(F109 a c b).map (fun m=>bv m):=by
 rw[od (fn:=p109) rfl rfl rfl]
 refine bo (e:=id) ?_ fun x5=>?_
 refine io ?_ (lf rfl)
 refine bo (ok161 d 1 a b) fun x4=>?_
 exact lf rfl
 refine io (lf rfl) ?_
 refine bo (e:=(fun(f:Bool)=>(nq [(3,.ref 0 0),(7,.fn 161 [] [.ref 0 0,.ref 1 0]),(16,i64 c),(17,bv f)] [(1,.box [i64 b]),(0,.box [.ip (Zk.g a)])]))) ?_ fun f=>?_
 refine io (lf rfl) (lf rfl)
 refine io ?_ ?_
 refine bo (ok161 d 4 a b) fun n=>?_
 exact lf rfl
 refine bo (e:=(fun(h:Bool)=>(nq [(3,.ref 0 0),(7,.fn 161 [] [.ref 0 0,.ref 1 0]),(22,bv h)] [(1,.box [i64 b]),(0,.box [.ip (Zk.g a)])]))) ?_ fun h=>?_
 refine io (lf rfl) (lf rfl)
 refine io ?_ (lf rfl)
 refine bo (ok161 d 8 a b) fun o=>?_
 refine bo (e:=id) ?_ fun l=>?_
 refine io ?_ (lf rfl)
 refine bo (ok162 (d+1) a 2) fun i=>?_
 refine bo (ok162 (d+1) a 8) fun j=>?_
 exact lf rfl
 exact lf rfl
def F106 (c:Int) (a:Zm) (d:Zk):Option Bool:=
 (F68 a.Jump 0 6).bind fun x4=>((if !x4 then some true else(F68 a.Labels 0 15).bind fun x5=>some (!x5):Option (Bool))).bind fun e=>if e||(((a.Jump !=0)||(a.Labels !=0))&&((a.RepeatEnd !=0)||(a.Endings !=0)))then some true else(mO d.s'.Measures 0 c).bind fun f=>(F108 f a).bind fun g=>((if g then some true else(F109 d a.Jump c).bind fun h=>some (!h):Option (Bool))).bind fun b=>some b
theorem ok106 {k} (d) (b:Int) (a:Zm) (c:Zk):OD k (d+6) 106 [i64 b,.agg (Zm.g a),.ip [.ip (Zk.g c)]]=(F106 b a c).map (fun i=>bv i):=by
 rw[od (fn:=p106) rfl rfl rfl]
 refine bo (ok68 (d+4) a.Jump 0 6) fun x4=>?_
 refine bo (e:=id) ?_ fun j=>?_
 refine io (lf rfl) ?_
 refine bo (ok68 (d+4) a.Labels 0 15) fun x5=>?_
 exact lf rfl
 refine bz (gor (bz (gor rfl) (bz (gand (bz (gor rfl) rfl)) rfl))) ?_
 refine io (lf rfl) ?_
 refine bo (kM _ _ _ _) fun h=>?_
 refine bo (ok108 (d+2) h a) fun l=>?_
 refine bo (e:=id) ?_ fun f=>?_
 refine io (lf rfl) ?_
 refine bo (ok109 d c a.Jump b) fun m=>?_
 exact lf rfl
 exact lf rfl
def Fn74_7 (i:List Zv) (a:Z0) (g:Int):Option (List Zv):=
 (aQ (E:=List Zv) (fun(⟨b,f⟩:Int×(List Zv))=>if decide (b<(a.Measures.length:Int))then(lget a.Measures b).bind fun h=>(F106 b h (Zk.mk a g f)).bind fun c=>(Fn66 c h.ID f a g).bind fun d=>some (.inl ((w64 (b+1)),d))else some (.inr f)) B64 (0,i)).bind fun e=>some e
theorem okn74_7 {k} (d) (f:List Zv) (a:Z0) (b:Int):runR (XD k (d+7)) 74 [.ref 1 0,.fn 106 [] [.ref 3 0]] [(3,.box [.ref 1 0]),(2,.lst 124 3 false (I Zv.g f)),(1,.box (ck a b (.own 2)))] 4 false=(Fn74_7 f a b).map (fun(i:List Zv)=>((.tup [],[(3,.box [.ref 1 0]),(2,.lst 124 3 false (I Zv.g i)),(1,.box (ck a b (.own 2)))],0))):=by
 rw[xd (fn:=p74) rfl]
 refine bz lm ?_
 refine bo (aI (S:=Int×(List Zv)) (enc:=fun⟨j,e⟩=>(Q [(0,.ref 1 0),(1,.fn 106 [] [.ref 3 0]),(10,.is 22 (I Zm.g a.Measures)),(11,i64 (a.Measures.length:Int)),(12,i64 j)] [(3,.box [.ref 1 0]),(2,.lst 124 3 false (I Zv.g e)),(1,.box (ck a b (.own 2)))])) (encE:=(fun(c:List Zv)=>(xq 0 [] [(3,.box [.ref 1 0]),(2,.lst 124 3 false (I Zv.g c)),(1,.box (ck a b (.own 2)))]))) (fun⟨j,e⟩=>?_) B64 (0,f)) fun c=>?_
 refine io ?_ (lf rfl)
 refine bo rg fun l=>?_
 refine bo (ok106 d j l (Zk.mk a b e)) fun h=>?_
 refine bo (okn66 (d+5) h l.ID e a b) fun m=>?_
 exact lf rfl
 exact lf rfl
def Fn53 (a:List Zv) (b:Z0) (c:Int):Option (List Zv):=
 (Fn74_7 a b c).bind fun x4=>some x4
theorem okn53 {k} (d) (c:List Zv) (a:Z0) (b:Int):runR (XD k (d+8)) 53 [.ref 1 0] [(2,.lst 124 3 false (I Zv.g c)),(1,.box (ck a b (.own 2)))] 3 false=(Fn53 c a b).map (fun(x5:List Zv)=>((.tup [],[(2,.lst 124 3 false (I Zv.g x5)),(1,.box (ck a b (.own 2)))],0))):=by
 rw[xd (fn:=p53) rfl]
 refine bo (okn74_7 d c a b) fun x4=>?_
 exact lf rfl
def F110 (q:Int) (c:Zm):Option Bool:=
 (F33 c).bind fun⟨m,x4⟩=>((if c.Swing !=0 then(F68 c.Swing 50 75).bind fun x5=>some (!x5)else some false:Option (Bool))).bind fun n=>((if n then some true else(F68 c.Break 0 3).bind fun o=>some (!o):Option (Bool))).bind fun p=>(aQ (E:=Bool) (fun(⟨d,a⟩:Bool×Int)=>if decide (a<(c.Tempi.length:Int))then(lget c.Tempi a).bind fun b=>((if d then some true else(F68 b.At 0 (w64 (m-1))).bind fun e=>some (!e):Option (Bool))).bind fun f=>((if f then some true else(F68 b.Micros 1 60000000).bind fun g=>some (!g):Option (Bool))).bind fun h=>((if h then some true else((if decide (a>0)then(lget c.Tempi (w64 (a-1))).bind fun i=>some (decide (b.At<=i.At))else some false:Option (Bool))).bind fun j=>some j:Option (Bool))).bind fun k=>some (.inl (k,(w64 (a+1))))else some (.inr d)) B64 (p,0)).bind fun l=>some l
theorem ok110 {k} (d) (i:Int) (a:Zm):OD k (d+5) 110 [i64 i,.agg (Zm.g a)]=(F110 i a).map (fun t=>bv t):=by
 rw[od (fn:=p110) rfl rfl rfl]
 refine bo (ok33 d a) fun⟨j,x4⟩=>?_
 refine bo (e:=id) ?_ fun u=>?_
 refine io ?_ (lf rfl)
 refine bo (ok68 (d+3) a.Swing 50 75) fun x5=>?_
 exact lf rfl
 refine bo (e:=id) ?_ fun s=>?_
 refine io (lf rfl) ?_
 refine bo (ok68 (d+3) a.Break 0 3) fun v=>?_
 exact lf rfl
 refine bz lm ?_
 refine bo (aI (S:=Bool×Int) (enc:=fun⟨b,c⟩=>(Q [(3,.ref 0 0),(5,i64 j),(7,bv b),(31,.is 3 (I Zt.g a.Tempi)),(32,i64 (a.Tempi.length:Int)),(33,i64 c)] [(0,.box (Zm.g a))])) (encE:=(fun(h:Bool)=>(xq 0 [(7,bv h)] [(0,.box (Zm.g a))]))) (fun⟨b,c⟩=>?_) B64 (s,0)) fun h=>?_
 refine io ?_ (lf rfl)
 refine bo rg fun f=>?_
 refine bo (e:=id) ?_ fun m=>?_
 refine io (lf rfl) ?_
 refine bo (ok68 (d+3) f.At 0 (w64 (j-1))) fun l=>?_
 exact lf rfl
 refine bo (e:=id) ?_ fun o=>?_
 refine io (lf rfl) ?_
 refine bo (ok68 (d+3) f.Micros 1 60000000) fun n=>?_
 exact lf rfl
 refine bo (e:=id) ?_ fun r=>?_
 refine io (lf rfl) ?_
 refine bo (e:=id) ?_ fun q=>?_
 refine io ?_ (lf rfl)
 refine bo rg fun p=>?_
 exact lf rfl
 exact lf rfl
 exact lf rfl
 exact lf rfl
def Fn74_8 (h:List Zv) (e:Z0) (i:Int):Option (List Zv):=
 (aQ (E:=List Zv) (fun(⟨a,f⟩:Int×(List Zv))=>if decide (a<(e.Measures.length:Int))then(lget e.Measures a).bind fun g=>(F110 a g).bind fun b=>(Fn66 b g.ID f e i).bind fun c=>some (.inl ((w64 (a+1)),c))else some (.inr f)) B64 (0,h)).bind fun d=>some d
theorem okn74_8 {k} (d) (e:List Zv) (a:Z0) (b:Int):runR (XD k (d+6)) 74 [.ref 1 0,.fn 110 [] []] [(2,.lst 124 3 false (I Zv.g e)),(1,.box (ck a b (.own 2)))] 3 false=(Fn74_8 e a b).map (fun(h:List Zv)=>((.tup [],[(2,.lst 124 3 false (I Zv.g h)),(1,.box (ck a b (.own 2)))],0))):=by
 rw[xd (fn:=p74) rfl]
 refine bz lm ?_
 refine bo (aI (S:=Int×(List Zv)) (enc:=fun⟨i,j⟩=>(Q [(0,.ref 1 0),(1,.fn 110 [] []),(10,.is 22 (I Zm.g a.Measures)),(11,i64 (a.Measures.length:Int)),(12,i64 i)] [(2,.lst 124 3 false (I Zv.g j)),(1,.box (ck a b (.own 2)))])) (encE:=(fun(c:List Zv)=>(xq 0 [] [(2,.lst 124 3 false (I Zv.g c)),(1,.box (ck a b (.own 2)))]))) (fun⟨i,j⟩=>?_) B64 (0,e)) fun c=>?_
 refine io ?_ (lf rfl)
 refine bo rg fun l=>?_
 refine bo (ok110 d i l) fun f=>?_
 refine bo (okn66 (d+4) f l.ID j a b) fun m=>?_
 exact lf rfl
 exact lf rfl
def Fn54 (a:List Zv) (b:Z0) (c:Int):Option (List Zv):=
 (Fn74_8 a b c).bind fun x4=>some x4
theorem okn54 {k} (d) (c:List Zv) (a:Z0) (b:Int):runR (XD k (d+7)) 54 [.ref 1 0] [(2,.lst 124 3 false (I Zv.g c)),(1,.box (ck a b (.own 2)))] 3 false=(Fn54 c a b).map (fun(x5:List Zv)=>((.tup [],[(2,.lst 124 3 false (I Zv.g x5)),(1,.box (ck a b (.own 2)))],0))):=by
 rw[xd (fn:=p54) rfl]
 refine bo (okn74_8 d c a b) fun x4=>?_
 exact lf rfl
def F111 (b:Zp) (e:Ze) (c:Zk):Option Bool:=
 (F96 c.s' b).bind fun⟨x4,x5⟩=>((if !x5 then some true else(F95 e).bind fun f=>some (!f):Option (Bool))).bind fun g=>if g||(x4.Measure==b.Measure)then some false else(lget c.s'.Measures b.Measure).bind fun a=>(lget c.s'.Measures x4.Measure).bind fun d=>some ((((((a.RepeatEnd !=0)||(a.Jump !=0))||((iand .i64 a.Labels 12)!=0))||(a.Endings !=d.Endings))||d.RepeatStart)||((iand .i64 d.Labels 3)!=0))
theorem ok111 {k} (d) (a:Zp) (b:Ze) (c:Zk):OD k (d+5) 111 [.agg (Zp.g a),.agg (Ze.g b),.ip [.ip (Zk.g c)]]=(F111 a b c).map (fun f=>bv f):=by
 rw[od (fn:=p111) rfl rfl rfl]
 refine bo (ok96 (d+1) c.s' a) fun⟨x4,x5⟩=>?_
 refine bo (e:=id) ?_ fun i=>?_
 refine io (lf rfl) ?_
 refine bo (ok95 d b) fun h=>?_
 exact lf rfl
 refine bz (gor rfl) ?_
 refine io (lf rfl) ?_
 refine bo rg fun j=>?_
 refine bo rg fun l=>?_
 refine bz (gor rfl) ?_
 refine bz (gor rfl) ?_
 refine bz (gor rfl) ?_
 refine bz (gor rfl) ?_
 refine bz (gor rfl) ?_
 exact lf rfl
def Fn83_5 (u:List Zv) (s:Z0) (t:Int):Option (List Zv):=
 (aQ (E:=List Zv) (fun(⟨c,m⟩:Int×(List Zv))=>if decide (c<(s.Measures.length:Int))then(lget s.Measures c).bind fun n=>(aQ (E:=List Zv) (fun(⟨d,o⟩:Int×(List Zv))=>if decide (d<(n.Cells.length:Int))then(lget n.Cells d).bind fun p=>(aQ (E:=List Zv) (fun(⟨e,q⟩:Int×(List Zv))=>if decide (e<(p.Voices.length:Int))then(lget p.Voices e).bind fun r=>(aQ (E:=List Zv) (fun(⟨a,b⟩:Int×(List Zv))=>if decide (a<(r.Events.length:Int))then(lget r.Events a).bind fun f=>(F111 (Zp.mk 4 0 d c e a 0) f (Zk.mk s t b)).bind fun g=>(Fn66 g f.ID b s t).bind fun h=>some (.inl ((w64 (a+1)),h))else some (.inr b)) B64 (0,q)).bind fun i=>some (.inl ((w64 (e+1)),i))else some (.inr q)) B64 (0,o)).bind fun j=>some (.inl ((w64 (d+1)),j))else some (.inr o)) B64 (0,m)).bind fun k=>some (.inl ((w64 (c+1)),k))else some (.inr m)) B64 (0,u)).bind fun l=>some l
theorem okn83_5 {k} (d) (x:List Zv) (c:Z0) (i:Int):runR (XD k (d+6)) 83 [.ref 1 0,.fn 111 [] [.ref 3 0]] [(3,.box [.ref 1 0]),(2,.lst 124 3 false (I Zv.g x)),(1,.box (ck c i (.own 2)))] 4 false=(Fn83_5 x c i).map (fun(w:List Zv)=>((.tup [],[(3,.box [.ref 1 0]),(2,.lst 124 3 false (I Zv.g w)),(1,.box (ck c i (.own 2)))],0))):=by
 rw[xd (fn:=p83) rfl]
 refine bz lm ?_
 refine bo (aI (S:=Int×(List Zv)) (enc:=fun⟨b,s⟩=>(Q [(0,.ref 1 0),(1,.fn 111 [] [.ref 3 0]),(16,.is 22 (I Zm.g c.Measures)),(17,i64 (c.Measures.length:Int)),(18,i64 b)] [(3,.box [.ref 1 0]),(2,.lst 124 3 false (I Zv.g s)),(1,.box (ck c i (.own 2)))])) (encE:=(fun(r:List Zv)=>(xq 0 [] [(3,.box [.ref 1 0]),(2,.lst 124 3 false (I Zv.g r)),(1,.box (ck c i (.own 2)))]))) (fun⟨b,s⟩=>?_) B64 (0,x)) fun r=>?_
 refine io ?_ (lf rfl)
 refine bo rg fun a=>?_
 refine bz lm ?_
 refine bo (aI (S:=Int×(List Zv)) (enc:=fun⟨e,t⟩=>(Q [(0,.ref 1 0),(1,.fn 111 [] [.ref 3 0]),(4,i64 b),(16,.is 22 (I Zm.g c.Measures)),(17,i64 (c.Measures.length:Int)),(18,i64 b),(24,.is 2 (I Zw.g a.Cells)),(25,i64 (a.Cells.length:Int)),(26,i64 e)] [(4,.box (Zm.g a)),(3,.box [.ref 1 0]),(2,.lst 124 3 false (I Zv.g t)),(1,.box (ck c i (.own 2)))])) (encE:=(fun(q:List Zv)=>(xq 2 [(0,.ref 1 0),(1,.fn 111 [] [.ref 3 0]),(16,.is 22 (I Zm.g c.Measures)),(17,i64 (c.Measures.length:Int)),(18,i64 b)] [(4,.box (Zm.g a)),(3,.box [.ref 1 0]),(2,.lst 124 3 false (I Zv.g q)),(1,.box (ck c i (.own 2)))]))) (fun⟨e,t⟩=>?_) B64 (0,s)) fun q=>?_
 refine io ?_ (lf rfl)
 refine bo rg fun f=>?_
 refine bz lm ?_
 refine bo (aI (S:=Int×(List Zv)) (enc:=fun⟨j,u⟩=>(Q [(0,.ref 1 0),(1,.fn 111 [] [.ref 3 0]),(4,i64 b),(6,i64 e),(16,.is 22 (I Zm.g c.Measures)),(17,i64 (c.Measures.length:Int)),(18,i64 b),(24,.is 2 (I Zw.g a.Cells)),(25,i64 (a.Cells.length:Int)),(26,i64 e),(32,.is 2 (I Zo.g f.Voices)),(33,i64 (f.Voices.length:Int)),(34,i64 j)] [(5,.box (Zw.g f)),(4,.box (Zm.g a)),(3,.box [.ref 1 0]),(2,.lst 124 3 false (I Zv.g u)),(1,.box (ck c i (.own 2)))])) (encE:=(fun(p:List Zv)=>(xq 4 [(0,.ref 1 0),(1,.fn 111 [] [.ref 3 0]),(4,i64 b),(16,.is 22 (I Zm.g c.Measures)),(17,i64 (c.Measures.length:Int)),(18,i64 b),(24,.is 2 (I Zw.g a.Cells)),(25,i64 (a.Cells.length:Int)),(26,i64 e)] [(5,.box (Zw.g f)),(4,.box (Zm.g a)),(3,.box [.ref 1 0]),(2,.lst 124 3 false (I Zv.g p)),(1,.box (ck c i (.own 2)))]))) (fun⟨j,u⟩=>?_) B64 (0,t)) fun p=>?_
 refine io ?_ (lf rfl)
 refine bo rg fun m=>?_
 refine bz lm ?_
 refine bo (aI (S:=Int×(List Zv)) (enc:=fun⟨l,h⟩=>(Q [(0,.ref 1 0),(1,.fn 111 [] [.ref 3 0]),(4,i64 b),(6,i64 e),(8,i64 j),(16,.is 22 (I Zm.g c.Measures)),(17,i64 (c.Measures.length:Int)),(18,i64 b),(24,.is 2 (I Zw.g a.Cells)),(25,i64 (a.Cells.length:Int)),(26,i64 e),(32,.is 2 (I Zo.g f.Voices)),(33,i64 (f.Voices.length:Int)),(34,i64 j),(40,.is 13 (I Ze.g m.Events)),(41,i64 (m.Events.length:Int)),(42,i64 l)] [(6,.box (Zo.g m)),(5,.box (Zw.g f)),(4,.box (Zm.g a)),(3,.box [.ref 1 0]),(2,.lst 124 3 false (I Zv.g h)),(1,.box (ck c i (.own 2)))])) (encE:=(fun(o:List Zv)=>(xq 6 [(0,.ref 1 0),(1,.fn 111 [] [.ref 3 0]),(4,i64 b),(6,i64 e),(16,.is 22 (I Zm.g c.Measures)),(17,i64 (c.Measures.length:Int)),(18,i64 b),(24,.is 2 (I Zw.g a.Cells)),(25,i64 (a.Cells.length:Int)),(26,i64 e),(32,.is 2 (I Zo.g f.Voices)),(33,i64 (f.Voices.length:Int)),(34,i64 j)] [(6,.box (Zo.g m)),(5,.box (Zw.g f)),(4,.box (Zm.g a)),(3,.box [.ref 1 0]),(2,.lst 124 3 false (I Zv.g o)),(1,.box (ck c i (.own 2)))]))) (fun⟨l,h⟩=>?_) B64 (0,u)) fun o=>?_
 refine io ?_ (lf rfl)
 refine bo rg fun n=>?_
 refine bo (ok111 d (Zp.mk 4 0 e b j l 0) n (Zk.mk c i h)) fun v=>?_
 refine bo (okn66 (d+4) v n.ID h c i) fun y=>?_
 exact lf rfl
 exact lf rfl
 exact lf rfl
 exact lf rfl
 exact lf rfl
def Fn55 (a:List Zv) (b:Z0) (c:Int):Option (List Zv):=
 (Fn83_5 a b c).bind fun x4=>some x4
theorem okn55 {k} (d) (c:List Zv) (a:Z0) (b:Int):runR (XD k (d+7)) 55 [.ref 1 0] [(2,.lst 124 3 false (I Zv.g c)),(1,.box (ck a b (.own 2)))] 3 false=(Fn55 c a b).map (fun(x5:List Zv)=>((.tup [],[(2,.lst 124 3 false (I Zv.g x5)),(1,.box (ck a b (.own 2)))],0))):=by
 rw[xd (fn:=p55) rfl]
 refine bo (okn83_5 d c a b) fun x4=>?_
 exact lf rfl
def F27 (a:Z0):Option (List Zv):=
 ((if decide ((([]:List Zv).length:Int)>0)then((if false then some true else((if false then(lidx ([]:List Zv) 0).bind fun x2=>(lnth ([]:List Zv) x2).bind fun x3=>some (decide (x3.Rule<10))else some false:Option (Bool))).bind fun x4=>some x4:Option (Bool))).bind fun x5=>some x5 else some false:Option (Bool))).bind fun x6=>if x6 then some []else(Fn39 [] a 1).bind fun u=>((if decide ((u.length:Int)>0)then((if true then some true else((if false then(lidx u 0).bind fun x8=>(lnth u x8).bind fun x9=>some (decide (x9.Rule<10))else some false:Option (Bool))).bind fun v=>some v:Option (Bool))).bind fun w=>some w else some false:Option (Bool))).bind fun x=>if x then some u else(Fn40 u a 2).bind fun b=>((if decide ((b.length:Int)>0)then((if false then some true else((if false then(lidx b 0).bind fun y=>(lnth b y).bind fun z=>some (decide (z.Rule<10))else some false:Option (Bool))).bind fun A=>some A:Option (Bool))).bind fun B=>some B else some false:Option (Bool))).bind fun C=>if C then some b else(Fn41 b a 3).bind fun c=>((if decide ((c.length:Int)>0)then((if false then some true else((if false then(lidx c 0).bind fun D=>(lnth c D).bind fun E=>some (decide (E.Rule<10))else some false:Option (Bool))).bind fun F=>some F:Option (Bool))).bind fun G=>some G else some false:Option (Bool))).bind fun H=>if H then some c else(Fn42 c a 4).bind fun d=>((if decide ((d.length:Int)>0)then((if false then some true else((if false then(lidx d 0).bind fun J=>(lnth d J).bind fun K=>some (decide (K.Rule<10))else some false:Option (Bool))).bind fun L=>some L:Option (Bool))).bind fun M=>some M else some false:Option (Bool))).bind fun N=>if N then some d else(Fn43 d a 5).bind fun e=>((if decide ((e.length:Int)>0)then((if false then some true else((if false then(lidx e 0).bind fun O=>(lnth e O).bind fun P=>some (decide (P.Rule<10))else some false:Option (Bool))).bind fun R=>some R:Option (Bool))).bind fun S=>some S else some false:Option (Bool))).bind fun T=>if T then some e else(Fn44 e a 6).bind fun f=>((if decide ((f.length:Int)>0)then((if false then some true else((if false then(lidx f 0).bind fun U=>(lnth f U).bind fun V=>some (decide (V.Rule<10))else some false:Option (Bool))).bind fun W=>some W:Option (Bool))).bind fun X=>some X else some false:Option (Bool))).bind fun Y=>if Y then some f else(Fn45 f a 7).bind fun g=>((if decide ((g.length:Int)>0)then((if false then some true else((if false then(lidx g 0).bind fun Z=>(lnth g Z).bind fun a0=>some (decide (a0.Rule<10))else some false:Option (Bool))).bind fun b0=>some b0:Option (Bool))).bind fun b4=>some b4 else some false:Option (Bool))).bind fun b5=>if b5 then some g else(Fn46 g a 8).bind fun h=>((if decide ((h.length:Int)>0)then((if false then some true else((if false then(lidx h 0).bind fun b6=>(lnth h b6).bind fun b7=>some (decide (b7.Rule<10))else some false:Option (Bool))).bind fun b8=>some b8:Option (Bool))).bind fun b9=>some b9 else some false:Option (Bool))).bind fun d0=>if d0 then some h else(Fn47 h a 9).bind fun i=>((if decide ((i.length:Int)>0)then((if false then some true else((if true then(lidx i 0).bind fun d1=>(lnth i d1).bind fun d2=>some (decide (d2.Rule<10))else some false:Option (Bool))).bind fun d3=>some d3:Option (Bool))).bind fun d4=>some d4 else some false:Option (Bool))).bind fun d5=>if d5 then some i else(Fn48 i a 10).bind fun j=>((if decide ((j.length:Int)>0)then((if false then some true else((if true then(lidx j 0).bind fun d6=>(lnth j d6).bind fun d7=>some (decide (d7.Rule<10))else some false:Option (Bool))).bind fun d8=>some d8:Option (Bool))).bind fun d9=>some d9 else some false:Option (Bool))).bind fun e0=>if e0 then some j else(Fn49 j a 11).bind fun k=>((if decide ((k.length:Int)>0)then((if false then some true else((if true then(lidx k 0).bind fun e1=>(lnth k e1).bind fun e2=>some (decide (e2.Rule<10))else some false:Option (Bool))).bind fun e3=>some e3:Option (Bool))).bind fun e4=>some e4 else some false:Option (Bool))).bind fun e7=>if e7 then some k else(Fn50 k a 12).bind fun l=>((if decide ((l.length:Int)>0)then((if false then some true else((if true then(lidx l 0).bind fun e8=>(lnth l e8).bind fun e9=>some (decide (e9.Rule<10))else some false:Option (Bool))).bind fun f0=>some f0:Option (Bool))).bind fun f1=>some f1 else some false:Option (Bool))).bind fun f2=>if f2 then some l else(Fn51 l a 13).bind fun m=>((if decide ((m.length:Int)>0)then((if false then some true else((if true then(lidx m 0).bind fun f3=>(lnth m f3).bind fun f4=>some (decide (f4.Rule<10))else some false:Option (Bool))).bind fun f6=>some f6:Option (Bool))).bind fun f7=>some f7 else some false:Option (Bool))).bind fun f8=>if f8 then some m else(Fn52 m a 14).bind fun n=>((if decide ((n.length:Int)>0)then((if false then some true else((if true then(lidx n 0).bind fun f9=>(lnth n f9).bind fun g1=>some (decide (g1.Rule<10))else some false:Option (Bool))).bind fun g3=>some g3:Option (Bool))).bind fun g4=>some g4 else some false:Option (Bool))).bind fun g5=>if g5 then some n else(Fn53 n a 15).bind fun o=>((if decide ((o.length:Int)>0)then((if false then some true else((if true then(lidx o 0).bind fun g6=>(lnth o g6).bind fun g7=>some (decide (g7.Rule<10))else some false:Option (Bool))).bind fun g8=>some g8:Option (Bool))).bind fun g9=>some g9 else some false:Option (Bool))).bind fun h0=>if h0 then some o else(Fn54 o a 16).bind fun p=>((if decide ((p.length:Int)>0)then((if false then some true else((if true then(lidx p 0).bind fun h2=>(lnth p h2).bind fun h3=>some (decide (h3.Rule<10))else some false:Option (Bool))).bind fun q=>some q:Option (Bool))).bind fun r=>some r else some false:Option (Bool))).bind fun s=>if s then some p else(Fn55 p a 17).bind fun t=>some t
theorem ok27 {k} (d) (a:Z0):OD k (d+25) 27 [.agg (Z0.g a)]=(F27 a).map (fun y0=>.is 3 (I Zv.g y0)):=by
 rw[od (fn:=p27) rfl rfl rfl]
 refine bz (bP Zv.g ([]:List Zv)) ?_
 refine bo (e:=id) ?_ fun x6=>?_
 refine io ?_ (lf rfl)
 refine bo (e:=id) ?_ fun x5=>?_
 refine io (lf rfl) ?_
 refine bo (e:=id) ?_ fun x4=>?_
 refine io ?_ (lf rfl)
 refine bo (aW Zv.g ([]:List Zv) _) fun x2=>?_
 refine bo (bD (A:=Zv) (c:=Zv.g) (g:=fun S=>i64 S.Rule) (fun _=>rfl) ([]:List Zv) _) fun S=>?_
 exact lf rfl
 exact lf rfl
 exact lf rfl
 refine io (lf rfl) ?_
 refine bo (okn39 (d+19) [] a 1) fun M=>?_
 refine bz (bP Zv.g M) ?_
 refine bo (e:=id) ?_ fun W=>?_
 refine io ?_ (lf rfl)
 refine bo (e:=id) ?_ fun V=>?_
 refine io (lf rfl) ?_
 refine bo (e:=id) ?_ fun U=>?_
 refine io ?_ (lf rfl)
 refine bo (aW Zv.g M _) fun x8=>?_
 refine bo (bD (A:=Zv) (c:=Zv.g) (g:=fun T=>i64 T.Rule) (fun _=>rfl) M _) fun T=>?_
 exact lf rfl
 exact lf rfl
 exact lf rfl
 refine io (lf rfl) ?_
 refine bo (okn40 (d+20) M a 2) fun b=>?_
 refine bz (bP Zv.g b) ?_
 refine bo (e:=id) ?_ fun a0=>?_
 refine io ?_ (lf rfl)
 refine bo (e:=id) ?_ fun Z=>?_
 refine io (lf rfl) ?_
 refine bo (e:=id) ?_ fun Y=>?_
 refine io ?_ (lf rfl)
 refine bo (aW Zv.g b _) fun X=>?_
 refine bo (bD (A:=Zv) (c:=Zv.g) (g:=fun v=>i64 v.Rule) (fun _=>rfl) b _) fun v=>?_
 exact lf rfl
 exact lf rfl
 exact lf rfl
 refine io (lf rfl) ?_
 refine bo (okn41 (d+21) b a 3) fun f=>?_
 refine bz (bP Zv.g f) ?_
 refine bo (e:=id) ?_ fun b6=>?_
 refine io ?_ (lf rfl)
 refine bo (e:=id) ?_ fun b5=>?_
 refine io (lf rfl) ?_
 refine bo (e:=id) ?_ fun b4=>?_
 refine io ?_ (lf rfl)
 refine bo (aW Zv.g f _) fun b0=>?_
 refine bo (bD (A:=Zv) (c:=Zv.g) (g:=fun w=>i64 w.Rule) (fun _=>rfl) f _) fun w=>?_
 exact lf rfl
 exact lf rfl
 exact lf rfl
 refine io (lf rfl) ?_
 refine bo (okn42 (d+17) f a 4) fun h=>?_
 refine bz (bP Zv.g h) ?_
 refine bo (e:=id) ?_ fun d0=>?_
 refine io ?_ (lf rfl)
 refine bo (e:=id) ?_ fun b9=>?_
 refine io (lf rfl) ?_
 refine bo (e:=id) ?_ fun b8=>?_
 refine io ?_ (lf rfl)
 refine bo (aW Zv.g h _) fun b7=>?_
 refine bo (bD (A:=Zv) (c:=Zv.g) (g:=fun x=>i64 x.Rule) (fun _=>rfl) h _) fun x=>?_
 exact lf rfl
 exact lf rfl
 exact lf rfl
 refine io (lf rfl) ?_
 refine bo (okn43 (d+17) h a 5) fun i=>?_
 refine bz (bP Zv.g i) ?_
 refine bo (e:=id) ?_ fun d4=>?_
 refine io ?_ (lf rfl)
 refine bo (e:=id) ?_ fun d3=>?_
 refine io (lf rfl) ?_
 refine bo (e:=id) ?_ fun d2=>?_
 refine io ?_ (lf rfl)
 refine bo (aW Zv.g i _) fun d1=>?_
 refine bo (bD (A:=Zv) (c:=Zv.g) (g:=fun y=>i64 y.Rule) (fun _=>rfl) i _) fun y=>?_
 exact lf rfl
 exact lf rfl
 exact lf rfl
 refine io (lf rfl) ?_
 refine bo (okn44 d i a 6) fun j=>?_
 refine bz (bP Zv.g j) ?_
 refine bo (e:=id) ?_ fun d8=>?_
 refine io ?_ (lf rfl)
 refine bo (e:=id) ?_ fun d7=>?_
 refine io (lf rfl) ?_
 refine bo (e:=id) ?_ fun d6=>?_
 refine io ?_ (lf rfl)
 refine bo (aW Zv.g j _) fun d5=>?_
 refine bo (bD (A:=Zv) (c:=Zv.g) (g:=fun z=>i64 z.Rule) (fun _=>rfl) j _) fun z=>?_
 exact lf rfl
 exact lf rfl
 exact lf rfl
 refine io (lf rfl) ?_
 refine bo (okn45 d j a 7) fun l=>?_
 refine bz (bP Zv.g l) ?_
 refine bo (e:=id) ?_ fun e2=>?_
 refine io ?_ (lf rfl)
 refine bo (e:=id) ?_ fun e1=>?_
 refine io (lf rfl) ?_
 refine bo (e:=id) ?_ fun e0=>?_
 refine io ?_ (lf rfl)
 refine bo (aW Zv.g l _) fun d9=>?_
 refine bo (bD (A:=Zv) (c:=Zv.g) (g:=fun B=>i64 B.Rule) (fun _=>rfl) l _) fun B=>?_
 exact lf rfl
 exact lf rfl
 exact lf rfl
 refine io (lf rfl) ?_
 refine bo (okn46 (d+13) l a 8) fun m=>?_
 refine bz (bP Zv.g m) ?_
 refine bo (e:=id) ?_ fun e8=>?_
 refine io ?_ (lf rfl)
 refine bo (e:=id) ?_ fun e7=>?_
 refine io (lf rfl) ?_
 refine bo (e:=id) ?_ fun e4=>?_
 refine io ?_ (lf rfl)
 refine bo (aW Zv.g m _) fun e3=>?_
 refine bo (bD (A:=Zv) (c:=Zv.g) (g:=fun C=>i64 C.Rule) (fun _=>rfl) m _) fun C=>?_
 exact lf rfl
 exact lf rfl
 exact lf rfl
 refine io (lf rfl) ?_
 refine bo (okn47 (d+13) m a 9) fun n=>?_
 refine bz (bP Zv.g n) ?_
 refine bo (e:=id) ?_ fun f2=>?_
 refine io ?_ (lf rfl)
 refine bo (e:=id) ?_ fun f1=>?_
 refine io (lf rfl) ?_
 refine bo (e:=id) ?_ fun f0=>?_
 refine io ?_ (lf rfl)
 refine bo (aW Zv.g n _) fun e9=>?_
 refine bo (bD (A:=Zv) (c:=Zv.g) (g:=fun D=>i64 D.Rule) (fun _=>rfl) n _) fun D=>?_
 exact lf rfl
 exact lf rfl
 exact lf rfl
 refine io (lf rfl) ?_
 refine bo (okn48 (d+17) n a 10) fun o=>?_
 refine bz (bP Zv.g o) ?_
 refine bo (e:=id) ?_ fun f7=>?_
 refine io ?_ (lf rfl)
 refine bo (e:=id) ?_ fun f6=>?_
 refine io (lf rfl) ?_
 refine bo (e:=id) ?_ fun f4=>?_
 refine io ?_ (lf rfl)
 refine bo (aW Zv.g o _) fun f3=>?_
 refine bo (bD (A:=Zv) (c:=Zv.g) (g:=fun E=>i64 E.Rule) (fun _=>rfl) o _) fun E=>?_
 exact lf rfl
 exact lf rfl
 exact lf rfl
 refine io (lf rfl) ?_
 refine bo (okn49 (d+21) o a 11) fun p=>?_
 refine bz (bP Zv.g p) ?_
 refine bo (e:=id) ?_ fun g3=>?_
 refine io ?_ (lf rfl)
 refine bo (e:=id) ?_ fun g1=>?_
 refine io (lf rfl) ?_
 refine bo (e:=id) ?_ fun f9=>?_
 refine io ?_ (lf rfl)
 refine bo (aW Zv.g p _) fun f8=>?_
 refine bo (bD (A:=Zv) (c:=Zv.g) (g:=fun F=>i64 F.Rule) (fun _=>rfl) p _) fun F=>?_
 exact lf rfl
 exact lf rfl
 exact lf rfl
 refine io (lf rfl) ?_
 refine bo (okn50 (d+7) p a 12) fun q=>?_
 refine bz (bP Zv.g q) ?_
 refine bo (e:=id) ?_ fun g7=>?_
 refine io ?_ (lf rfl)
 refine bo (e:=id) ?_ fun g6=>?_
 refine io (lf rfl) ?_
 refine bo (e:=id) ?_ fun g5=>?_
 refine io ?_ (lf rfl)
 refine bo (aW Zv.g q _) fun g4=>?_
 refine bo (bD (A:=Zv) (c:=Zv.g) (g:=fun G=>i64 G.Rule) (fun _=>rfl) q _) fun G=>?_
 exact lf rfl
 exact lf rfl
 exact lf rfl
 refine io (lf rfl) ?_
 refine bo (okn51 (d+7) q a 13) fun r=>?_
 refine bz (bP Zv.g r) ?_
 refine bo (e:=id) ?_ fun h2=>?_
 refine io ?_ (lf rfl)
 refine bo (e:=id) ?_ fun h0=>?_
 refine io (lf rfl) ?_
 refine bo (e:=id) ?_ fun g9=>?_
 refine io ?_ (lf rfl)
 refine bo (aW Zv.g r _) fun g8=>?_
 refine bo (bD (A:=Zv) (c:=Zv.g) (g:=fun H=>i64 H.Rule) (fun _=>rfl) r _) fun H=>?_
 exact lf rfl
 exact lf rfl
 exact lf rfl
 refine io (lf rfl) ?_
 refine bo (okn52 (d+19) r a 14) fun s=>?_
 refine bz (bP Zv.g s) ?_
 refine bo (e:=id) ?_ fun h6=>?_
 refine io ?_ (lf rfl)
 refine bo (e:=id) ?_ fun h5=>?_
 refine io (lf rfl) ?_
 refine bo (e:=id) ?_ fun h4=>?_
 refine io ?_ (lf rfl)
 refine bo (aW Zv.g s _) fun h3=>?_
 refine bo (bD (A:=Zv) (c:=Zv.g) (g:=fun J=>i64 J.Rule) (fun _=>rfl) s _) fun J=>?_
 exact lf rfl
 exact lf rfl
 exact lf rfl
 refine io (lf rfl) ?_
 refine bo (okn53 (d+16) s a 15) fun t=>?_
 refine bz (bP Zv.g t) ?_
 refine bo (e:=id) ?_ fun i0=>?_
 refine io ?_ (lf rfl)
 refine bo (e:=id) ?_ fun h9=>?_
 refine io (lf rfl) ?_
 refine bo (e:=id) ?_ fun h8=>?_
 refine io ?_ (lf rfl)
 refine bo (aW Zv.g t _) fun h7=>?_
 refine bo (bD (A:=Zv) (c:=Zv.g) (g:=fun K=>i64 K.Rule) (fun _=>rfl) t _) fun K=>?_
 exact lf rfl
 exact lf rfl
 exact lf rfl
 refine io (lf rfl) ?_
 refine bo (okn54 (d+17) t a 16) fun u=>?_
 refine bz (bP Zv.g u) ?_
 refine bo (e:=id) ?_ fun P=>?_
 refine io ?_ (lf rfl)
 refine bo (e:=id) ?_ fun O=>?_
 refine io (lf rfl) ?_
 refine bo (e:=id) ?_ fun N=>?_
 refine io ?_ (lf rfl)
 refine bo (aW Zv.g u _) fun i1=>?_
 refine bo (bD (A:=Zv) (c:=Zv.g) (g:=fun L=>i64 L.Rule) (fun _=>rfl) u _) fun L=>?_
 exact lf rfl
 exact lf rfl
 exact lf rfl
 refine io (lf rfl) ?_
 refine bo (okn55 (d+17) u a 17) fun R=>?_
 exact lf rfl
def F11 (a:Z0):Option Bool:=
 (F27 a).bind fun b=>some ((b.length:Int)==0)
theorem ok11 {k} (d) (a:Z0):OD k (d+26) 11 [.agg (Z0.g a)]=(F11 a).map (fun b=>bv b):=by
 rw[od (fn:=p11) rfl rfl rfl]
 refine bo (ok27 d a) fun c=>?_
 refine bz lm ?_
 exact lf rfl
def F32 (e:Z0) (d:List GBar):Option Int:=
 (F11 e).bind fun f=>if !f then some 24 else if decide ((d.length:Int)>8192)then some 9 else(aQ (E:=(Int×(List (Int×Int)))⊕(List (Int×Int))) (fun(⟨x5,a⟩:Int×(List (Int×Int)))=>if decide (x5<(d.length:Int))then(lget d x5).bind fun b=>if(decide (b.Measure<0))||(decide (b.Measure>=(e.Measures.length:Int)))then some (.inr (.inl (2,a)))else if b.Pass !=(mget a b.Measure 0)then some (.inr (.inl (38,a)))else some (.inl ((w64 (x5+1)),(mput a b.Measure (w64 ((mget a b.Measure 0)+1)))))else some (.inr (.inr a))) B64 (0,[])).bind fun c=>(match c with|.inl ⟨x8,x9⟩=>some x8|.inr x10=>some 0)
theorem ok32 {k} (d) (a:Z0) (c:List GBar):OD k (d+27) 32 [.agg (Z0.g a),.is 2 (I GBar.g c)]=(F32 a c).map (fun j=>i64 j):=by
 rw[od (fn:=p32) rfl rfl rfl]
 refine bo (ok11 d a) fun l=>?_
 refine io (lf rfl) ?_
 refine bz lm ?_
 refine io (lf rfl) ?_
 refine bz lm ?_
 refine bo (aI (S:=Int×(List (Int×Int))) (enc:=fun⟨x5,b⟩=>(Q [(2,.ref 0 0),(5,.map 1),(15,.is 2 (I GBar.g c)),(16,i64 (c.length:Int)),(17,i64 x5)] [(1,.mp (I (mEnt i64 i64) b)),(0,.box (Z0.g a))])) (encE:=(fun|.inl ⟨h,i⟩=>(rq [(4,i64 h)] [(1,.mp (I (mEnt i64 i64) i)),(0,.box (Z0.g a))])|.inr x10=>(xq 0 [] [(1,.mp (I (mEnt i64 i64) x10)),(0,.box (Z0.g a))]))) (fun⟨x5,b⟩=>?_) B64 (0,[])) fun f=>?_
 refine io ?_ (lf rfl)
 refine bo rg fun e=>?_
 refine bz (gor (bz lm rfl)) ?_
 refine io (lf rfl) ?_
 refine bz (eE jX i64 b e.Measure 0) ?_
 refine io (lf rfl) ?_
 refine bz (eE jX i64 b e.Measure 0) ?_
 refine bz (eF jX i64 b e.Measure (w64 ((mget b e.Measure 0)+1))) ?_
 exact lf rfl
 rcases f with⟨h,i⟩|x10
 exact lf rfl
 exact lf rfl
def F19 (d:Z0) (j:List GBar):Option ((List Int)×Int):=
 (F32 d j).bind fun k=>if k !=0 then some ([],k)else(pZ (d.Measures.length:Int) (d.Measures.length:Int) 0).bind fun x4=>(aQ (E:=List Int) (fun(⟨b,a⟩:Int×(List Int))=>if decide (b<(j.length:Int))then(lget j b).bind fun c=>(lidx a c.Measure).bind fun e=>(lnth a e).bind fun f=>(lidx a c.Measure).bind fun g=>(lput a g (fun l=>(w64 (f+1)))).bind fun h=>some (.inl ((w64 (b+1)),h))else some (.inr a)) B64 (0,x4)).bind fun i=>some (i,0)
theorem ok19 {k} (d) (e:Z0) (j:List GBar):OD k (d+28) 19 [.agg (Z0.g e),.is 2 (I GBar.g j)]=(F19 e j).map (fun⟨r,s⟩=>.tup [.is 1 (I cI r),i64 s]):=by
 rw[od (fn:=p19) rfl rfl rfl]
 refine bo (ok32 d e j) fun t=>?_
 refine io (lf rfl) ?_
 refine bz lm ?_
 refine bo (dU cI _ _ 0) fun x4=>?_
 refine bz lm ?_
 refine bo (aI (S:=Int×(List Int)) (enc:=fun⟨h,a⟩=>(Q [(7,.own 1),(20,.is 2 (I GBar.g j)),(21,i64 (j.length:Int)),(22,i64 h)] [(1,.lst 3 1 true (I cI a)),(0,.box (Z0.g e))])) (encE:=(fun(i:List Int)=>(xq 0 [(7,.own 1)] [(1,.lst 3 1 true (I cI i)),(0,.box (Z0.g e))]))) (fun⟨h,a⟩=>?_) B64 (0,x4)) fun i=>?_
 refine io ?_ (lf rfl)
 refine bo rg fun l=>?_
 refine bo (aW cI a _) fun n=>?_
 refine bo (bD (A:=Int) (c:=cI) (g:=fun b=>i64 b) (fun _=>rfl) a _) fun b=>?_
 refine bo (aW cI a _) fun o=>?_
 refine bo (mN (A:=Int) (c:=cI) (m:=1) (f:=fun p=>(w64 (b+1))) (fun _=>⟨rfl,rfl⟩) (Nat.le_of_ble_eq_true rfl) a _) fun q=>?_
 exact lf rfl
 exact lf rfl
def F57 (a:List Int) (b:Int):Option Int:=
 (aQ (E:=Int⊕Unit) (fun(x4:Int)=>if decide (x4<(a.length:Int))then(lget a x4).bind fun x5=>if b==x5 then some (.inr (.inl x4))else some (.inl (w64 (x4+1)))else some (.inr (.inr ()))) B64 0).bind fun c=>(match c with|.inl x6=>some x6|.inr _=>some (-1))
theorem ok57 {k} (d) (a:List Int) (b:Int):OD k (d+1) 57 [.is 1 (I cI a),i64 b]=(F57 a b).map (fun f=>i64 f):=by
 rw[od (fn:=p57) rfl rfl rfl]
 refine bz lm ?_
 refine bo (aI (S:=Int) (enc:=fun x4=>(Q [(0,.is 1 (I cI a)),(1,i64 b),(7,i64 (a.length:Int)),(8,i64 x4)] [])) (encE:=(fun|.inl c=>(rq [(4,i64 c)] [])|.inr _=>(xq 0 [] []))) (fun x4=>?_) B64 0) fun e=>?_
 refine io ?_ (lf rfl)
 refine bo rg fun x5=>?_
 refine io (lf rfl) (lf rfl)
 rcases e with c|_
 exact lf rfl
 exact lf rfl
def F31 (a:List Int) (b:Int):Option Bool:=
 (F57 a b).bind fun c=>some (decide (c>=0))
theorem ok31 {k} (d) (a:List Int) (b:Int):OD k (d+2) 31 [.is 1 (I cI a),i64 b]=(F31 a b).map (fun c=>bv c):=by
 rw[od (fn:=p31) rfl rfl rfl]
 refine bo (ok57 d a b) fun e=>?_
 exact lf rfl
def F17 (a:Z0) (b:List GBar):Option Bool:=
 (F19 a b).bind fun⟨c,x4⟩=>((if x4==0 then(F31 c 0).bind fun x5=>some (!x5)else some false:Option (Bool))).bind fun d=>some d
theorem ok17 {k} (d) (a:Z0) (b:List GBar):OD k (d+29) 17 [.agg (Z0.g a),.is 2 (I GBar.g b)]=(F17 a b).map (fun f=>bv f):=by
 rw[od (fn:=p17) rfl rfl rfl]
 refine bo (ok19 d a b) fun⟨c,x4⟩=>?_
 refine bo (e:=id) ?_ fun h=>?_
 refine io ?_ (lf rfl)
 refine bo (ok31 (d+26) c 0) fun x5=>?_
 exact lf rfl
 exact lf rfl
def Fn26 (a:Z0):Option Unit:=
 some ()
theorem okn26 {k} (d) (a:Z0):runR (XD k (d+1)) 26 [.agg (Z0.g a)] [] 7 true=(Fn26 a).map (fun(_:Unit)=>((.fn 35 [] [.ref 7 0],[(7,.box (Z0.g a))],8))):=by
 rw[xd (fn:=p26) rfl]
 exact lf rfl
def F36 (g:Z0):Option (List aH):=
 (aQ (E:=Int×(List aH)) (fun(⟨b,a,c⟩:Int×Int×(List aH))=>if decide (a<(g.Measures.length:Int))then(lget g.Measures a).bind fun d=>if d.Endings !=0 then none else((if d.RepeatStart&&(decide (a>b))then(lapp false c ([(aH.mk (aM.mk b a) [] 1)])).bind fun h=>some (a,(w64 (a-1)),h)else((if d.RepeatEnd !=0 then(lapp false c ([(aH.mk (aM.mk b (w64 (a+1))) [] d.RepeatEnd)])).bind fun i=>some ((w64 (a+1)),i)else some (b,c):Option (Int×(List aH)))).bind fun⟨j,k⟩=>some (j,a,k):Option (Int×Int×(List aH)))).bind fun⟨l,m,n⟩=>some (.inl (l,(w64 (m+1)),n))else some (.inr (b,c))) B64 (0,0,[])).bind fun⟨e,f⟩=>((if decide (e<(g.Measures.length:Int))then(lapp false f ([(aH.mk (aM.mk e (g.Measures.length:Int)) [] 1)])).bind fun o=>some o else some f:Option (List aH))).bind fun p=>some p
theorem ok36 {k} (d) (f:Z0):OD k (d+1) 36 [.agg (Z0.g f)]=(F36 f).map (fun u=>.is 4 (I aH.g u)):=by
 refine od2 (fn:=p36) rfl rfl rfl (fun _=>rfl) ?_
 refine bo (aI (S:=Int×Int×(List aH)) (enc:=fun⟨b,a,c⟩=>(Q [(1,.ref 0 0),(3,.own 1),(4,i64 b),(5,i64 a)] [(1,.lst 114 4 false (I aH.g c)),(0,.box (Z0.g f))])) (encE:=(fun(⟨i,j⟩:Int×(List aH))=>(xq 0 [(1,.ref 0 0),(3,.own 1),(4,i64 i)] [(1,.lst 114 4 false (I aH.g j)),(0,.box (Z0.g f))]))) (fun⟨b,a,c⟩=>?_) B64 (0,0,[])) fun⟨i,j⟩=>?_
 refine bz lm ?_
 refine io ?_ (lf rfl)
 refine bo rg fun h=>?_
 refine io ?_ ?_
 rfl
 refine bz (gand rfl) ?_
 refine bo (e:=(fun(⟨n,o,p⟩:Int×Int×(List aH))=>(nq [(1,.ref 0 0),(3,.own 1),(4,i64 n),(5,i64 o)] [(2,.box (Zm.g h)),(1,.lst 114 4 false (I aH.g p)),(0,.box (Z0.g f))]))) ?_ fun⟨n,o,p⟩=>?_
 refine io ?_ ?_
 refine bo (bE false aH.g c ([(aH.mk (aM.mk b a) [] 1)])) fun r=>?_
 exact lf rfl
 refine bo (e:=(fun(⟨l,m⟩:Int×(List aH))=>(nq [(1,.ref 0 0),(3,.own 1),(4,i64 l),(5,i64 a)] [(2,.box (Zm.g h)),(1,.lst 114 4 false (I aH.g m)),(0,.box (Z0.g f))]))) ?_ fun⟨l,m⟩=>?_
 refine io ?_ (lf rfl)
 refine bo (bE false aH.g c ([(aH.mk (aM.mk b (w64 (a+1))) [] h.RepeatEnd)])) fun s=>?_
 exact lf rfl
 exact lf rfl
 exact lf rfl
 refine bz lm ?_
 refine bo (e:=(fun(q:List aH)=>(nq [(3,.own 1)] [(1,.lst 114 4 false (I aH.g q)),(0,.box (Z0.g f))]))) ?_ fun q=>?_
 refine io ?_ (lf rfl)
 refine bz lm ?_
 refine bo (bE false aH.g j ([(aH.mk (aM.mk i (f.Measures.length:Int)) [] 1)])) fun t=>?_
 exact lf rfl
 exact lf rfl
def Fn37 (a:aH):Option Unit:=
 some ()
theorem okn37 {k} (d) (a:aH):runR (XD k (d+1)) 37 [.agg (aH.g a)] [] 12 true=(Fn37 a).map (fun(_:Unit)=>((.fn 62 [] [.ref 12 0],[(12,.box (aH.g a))],13))):=by
 rw[xd (fn:=p37) rfl]
 exact lf rfl
def Fy10_16 (a:Int) (c:List (Int×Int)) (b:List GBar) (x4:Int) (x5:List GBar):Option (Unit⊕(List GBar)):=
 if(b.length:Int)==8192 then some (.inl ())else(lapp false b [(GBar.mk a (mget c a 0))]).bind fun d=>some (.inr d)
theorem oky10_16 {k} (d) (a:Int) (b:List (Int×Int)) (c:List GBar) (x4:Int) (x5:List GBar):yldR (XD k (d+1)) 8 [i64 a] [(8,.loop 30 [(2,.ref 1 0),(3,.ref 2 0),(4,.ref 3 0),(5,.ref 6 0)] [13] q10_16a q10_16b false none),(6,.box [.map 5]),(5,.mp (I (mEnt i64 i64) b)),(4,.lst 53 2 false (I GBar.g c)),(3,.box [.own 4]),(2,.box [i64 x4]),(1,.box [.is 2 (I GBar.g x5)])] 9=(Fy10_16 a b c x4 x5).map (fun|.inl _=>((bv false,[(8,.loop 30 [(2,.ref 1 0),(3,.ref 2 0),(4,.ref 3 0),(5,.ref 6 0)] [13] q10_16a q10_16b false (some .ret)),(6,.box [.map 5]),(5,.mp (I (mEnt i64 i64) b)),(4,.lst 53 2 false (I GBar.g c)),(3,.box [.own 4]),(2,.box [i64 9]),(1,.box [.is 2 (I GBar.g [])])],0))|.inr x7=>((bv true,[(8,.loop 30 [(2,.ref 1 0),(3,.ref 2 0),(4,.ref 3 0),(5,.ref 6 0)] [13] q10_16a q10_16b false none),(6,.box [.map 5]),(5,.mp (I (mEnt i64 i64) (mput b a (w64 ((mget b a 0)+1))))),(4,.lst 53 2 false (I GBar.g x7)),(3,.box [.own 4]),(2,.box [i64 x4]),(1,.box [.is 2 (I GBar.g x5)])],0))):=by
 rw[yd]
 refine bz (okg aL1) ?_
 refine bz (bP GBar.g c) ?_
 refine io (lf rfl) ?_
 refine bz (eE jX i64 b a 0) ?_
 refine bo (bE false GBar.g c [(GBar.mk a (mget b a 0))]) fun e=>?_
 refine bz (eE jX i64 b a 0) ?_
 refine bz (eF jX i64 b a (w64 ((mget b a 0)+1))) ?_
 exact lf rfl
end Go.P
namespace Go.P
open Go.Sim (Ex OpK CK)
open K (I Q rq nq xq ck)
def Fy35_18 (b:Int) (c:Bool) (d:Z0) (x4:List (Int×Int)) (x5:List GBar) (e:Int) (f:List GBar):Option (Unit⊕(List GBar)):=
 (Fy10_16 b x4 x5 e f).bind fun g=>(match g with|.inl _=>some (.inl ())|.inr x8=>(lget d.Measures b).bind fun a=>if(a.Jump !=0)&&c then none else some (.inr x8))
theorem oky35_18 {k} (d) (a:Int) (f:Bool) (b:Z0) (x4:List (Int×Int)) (x5:List GBar) (c:Int) (e:List GBar):yldR (XD k (d+2)) 13 [i64 a,bv f] [(13,.loop 43 [(1,.ref 7 0),(2,.ref 9 0)] [19,20] q35_18a q35_18b false none),(9,.box [.yld 8]),(8,.loop 30 [(2,.ref 1 0),(3,.ref 2 0),(4,.ref 3 0),(5,.ref 6 0)] [13] q10_16a q10_16b false none),(7,.box (Z0.g b)),(6,.box [.map 5]),(5,.mp (I (mEnt i64 i64) x4)),(4,.lst 53 2 false (I GBar.g x5)),(3,.box [.own 4]),(2,.box [i64 c]),(1,.box [.is 2 (I GBar.g e)])] 14=(Fy35_18 a f b x4 x5 c e).map (fun|.inl _=>((bv false,[(8,.loop 30 [(2,.ref 1 0),(3,.ref 2 0),(4,.ref 3 0),(5,.ref 6 0)] [13] q10_16a q10_16b false (some .ret)),(6,.box [.map 5]),(5,.mp (I (mEnt i64 i64) x4)),(4,.lst 53 2 false (I GBar.g x5)),(3,.box [.own 4]),(2,.box [i64 9]),(1,.box [.is 2 (I GBar.g [])]),(13,.loop 43 [(1,.ref 7 0),(2,.ref 9 0)] [19,20] q35_18a q35_18b false (some .ret)),(9,.box [.yld 8]),(7,.box (Z0.g b))],0))|.inr x11=>((bv true,[(8,.loop 30 [(2,.ref 1 0),(3,.ref 2 0),(4,.ref 3 0),(5,.ref 6 0)] [13] q10_16a q10_16b false none),(6,.box [.map 5]),(5,.mp (I (mEnt i64 i64) (mput x4 a (w64 ((mget x4 a 0)+1))))),(4,.lst 53 2 false (I GBar.g x11)),(3,.box [.own 4]),(2,.box [i64 c]),(1,.box [.is 2 (I GBar.g e)]),(13,.loop 43 [(1,.ref 7 0),(2,.ref 9 0)] [19,20] q35_18a q35_18b false none),(9,.box [.yld 8]),(7,.box (Z0.g b))],0))):=by
 rw[yd]
 refine bz (okg aM1) ?_
 refine bo (oky10_16 d a x4 x5 c e) fun i=>?_
 rcases i with _|x8
 exact lf rfl
 refine bo rg fun h=>?_
 refine bz (gand rfl) ?_
 refine io ?_ (lf rfl)
 rfl
def Fn62 (i:aH) (x:Z0) (y:List (Int×Int)) (x4:List GBar) (x5:Int) (z:List GBar):Option (((List (Int×Int))×(List GBar))⊕((List (Int×Int))×(List GBar))):=
 (aQ (E:=((List (Int×Int))×(List GBar))⊕((List (Int×Int))×(List GBar))) (fun(⟨c,l,m⟩:Int×(List (Int×Int))×(List GBar))=>if decide (c<i.passes)then(aQ (E:=List aM) (fun(⟨d,e⟩:Int×(List aM))=>if decide (d<(i.endings.length:Int))then(lget i.endings d).bind fun n=>(shrO .i64 n.bits c).bind fun r=>((if(iand .i64 r 1)==1 then(lapp false e [n.span]).bind fun s=>some s else some e:Option (List aM))).bind fun t=>some (.inl ((w64 (d+1)),t))else some (.inr e)) B64 (0,[i.body])).bind fun f=>(aQ (E:=((List (Int×Int))×(List GBar))⊕((List (Int×Int))×(List GBar))) (fun(⟨g,o,p⟩:Int×(List (Int×Int))×(List GBar))=>if decide (g<(f.length:Int))then(lidx f g).bind fun u=>(lnth f u).bind fun q=>(aQ (E:=((List (Int×Int))×(List GBar))⊕((List (Int×Int))×(List GBar))) (fun(⟨a,b,h⟩:Int×(List (Int×Int))×(List GBar))=>if decide (a<q.end')then(Fy35_18 a (c==(w64 (i.passes-1))) x b h x5 z).bind fun v=>(match v with|.inl _=>some (.inr (.inl (b,h)))|.inr x92=>some (.inl ((w64 (a+1)),(mput b a (w64 ((mget b a 0)+1))),x92)))else some (.inr (.inr (b,h)))) B64 (q.first,o,p)).bind fun w=>(match w with|.inl ⟨x94,x95⟩=>some (.inr (.inl (x94,x95)))|.inr ⟨x96,x97⟩=>some (.inl ((w64 (g+1)),x96,x97)))else some (.inr (.inr (o,p)))) B64 (0,l,m)).bind fun j=>(match j with|.inl ⟨x99,x100⟩=>some (.inr (.inl (x99,x100)))|.inr ⟨x101,x102⟩=>some (.inl ((w64 (c+1)),x101,x102)))else some (.inr (.inr (l,m)))) B64 (0,y,x4)).bind fun k=>(match k with|.inl ⟨x104,x105⟩=>some (.inl (x104,x105))|.inr ⟨x106,x107⟩=>some (.inr (x106,x107)))
theorem okn62 {k} (d) (b:aH) (h:Z0) (H:List (Int×Int)) (x4:List GBar) (x5:Int) (n:List GBar):runR (XD k (d+3)) 62 [.yld 13,.ref 12 0] [(13,.loop 43 [(1,.ref 7 0),(2,.ref 9 0)] [19,20] q35_18a q35_18b false none),(12,.box (aH.g b)),(9,.box [.yld 8]),(8,.loop 30 [(2,.ref 1 0),(3,.ref 2 0),(4,.ref 3 0),(5,.ref 6 0)] [13] q10_16a q10_16b false none),(7,.box (Z0.g h)),(6,.box [.map 5]),(5,.mp (I (mEnt i64 i64) H)),(4,.lst 53 2 false (I GBar.g x4)),(3,.box [.own 4]),(2,.box [i64 x5]),(1,.box [.is 2 (I GBar.g n)])] 14 false=(Fn62 b h H x4 x5 n).map (fun|.inl ⟨x109,x110⟩=>((.tup [],[(13,.loop 43 [(1,.ref 7 0),(2,.ref 9 0)] [19,20] q35_18a q35_18b false (some .ret)),(12,.box (aH.g b)),(9,.box [.yld 8]),(8,.loop 30 [(2,.ref 1 0),(3,.ref 2 0),(4,.ref 3 0),(5,.ref 6 0)] [13] q10_16a q10_16b false (some .ret)),(7,.box (Z0.g h)),(6,.box [.map 5]),(5,.mp (I (mEnt i64 i64) x109)),(4,.lst 53 2 false (I GBar.g x110)),(3,.box [.own 4]),(2,.box [i64 9]),(1,.box [.is 2 (I GBar.g [])])],0))|.inr ⟨x111,x112⟩=>((.tup [],[(13,.loop 43 [(1,.ref 7 0),(2,.ref 9 0)] [19,20] q35_18a q35_18b false none),(12,.box (aH.g b)),(9,.box [.yld 8]),(8,.loop 30 [(2,.ref 1 0),(3,.ref 2 0),(4,.ref 3 0),(5,.ref 6 0)] [13] q10_16a q10_16b false none),(7,.box (Z0.g h)),(6,.box [.map 5]),(5,.mp (I (mEnt i64 i64) x111)),(4,.lst 53 2 false (I GBar.g x112)),(3,.box [.own 4]),(2,.box [i64 x5]),(1,.box [.is 2 (I GBar.g n)])],0))):=by
 rw[xd (fn:=p62) rfl]
 refine bo (aI (S:=Int×(List (Int×Int))×(List GBar)) (enc:=fun⟨a,j,l⟩=>(Q [(0,.yld 13),(1,.ref 12 0),(11,i64 b.passes),(12,i64 a)] [(13,.loop 43 [(1,.ref 7 0),(2,.ref 9 0)] [19,20] q35_18a q35_18b false none),(12,.box (aH.g b)),(9,.box [.yld 8]),(8,.loop 30 [(2,.ref 1 0),(3,.ref 2 0),(4,.ref 3 0),(5,.ref 6 0)] [13] q10_16a q10_16b false none),(7,.box (Z0.g h)),(6,.box [.map 5]),(5,.mp (I (mEnt i64 i64) j)),(4,.lst 53 2 false (I GBar.g l)),(3,.box [.own 4]),(2,.box [i64 x5]),(1,.box [.is 2 (I GBar.g n)])])) (encE:=(fun|.inl ⟨q,r⟩=>(rq [] [(13,.loop 43 [(1,.ref 7 0),(2,.ref 9 0)] [19,20] q35_18a q35_18b false (some .ret)),(12,.box (aH.g b)),(9,.box [.yld 8]),(8,.loop 30 [(2,.ref 1 0),(3,.ref 2 0),(4,.ref 3 0),(5,.ref 6 0)] [13] q10_16a q10_16b false (some .ret)),(7,.box (Z0.g h)),(6,.box [.map 5]),(5,.mp (I (mEnt i64 i64) q)),(4,.lst 53 2 false (I GBar.g r)),(3,.box [.own 4]),(2,.box [i64 9]),(1,.box [.is 2 (I GBar.g [])])])|.inr ⟨x106,x107⟩=>(xq 0 [] [(13,.loop 43 [(1,.ref 7 0),(2,.ref 9 0)] [19,20] q35_18a q35_18b false none),(12,.box (aH.g b)),(9,.box [.yld 8]),(8,.loop 30 [(2,.ref 1 0),(3,.ref 2 0),(4,.ref 3 0),(5,.ref 6 0)] [13] q10_16a q10_16b false none),(7,.box (Z0.g h)),(6,.box [.map 5]),(5,.mp (I (mEnt i64 i64) x106)),(4,.lst 53 2 false (I GBar.g x107)),(3,.box [.own 4]),(2,.box [i64 x5]),(1,.box [.is 2 (I GBar.g n)])]))) (fun⟨a,j,l⟩=>?_) B64 (0,H,x4)) fun B=>?_
 refine io ?_ (lf rfl)
 refine bz lm ?_
 refine bo (aI (S:=Int×(List aM)) (enc:=fun⟨s,t⟩=>(Q [(0,.yld 13),(1,.ref 12 0),(3,i64 a),(4,.own 14),(11,i64 b.passes),(12,i64 a),(19,.is 3 (I bV.g b.endings)),(20,i64 (b.endings.length:Int)),(21,i64 s)] [(14,.lst 111 2 false (I aM.g t)),(13,.loop 43 [(1,.ref 7 0),(2,.ref 9 0)] [19,20] q35_18a q35_18b false none),(12,.box (aH.g b)),(9,.box [.yld 8]),(8,.loop 30 [(2,.ref 1 0),(3,.ref 2 0),(4,.ref 3 0),(5,.ref 6 0)] [13] q10_16a q10_16b false none),(7,.box (Z0.g h)),(6,.box [.map 5]),(5,.mp (I (mEnt i64 i64) j)),(4,.lst 53 2 false (I GBar.g l)),(3,.box [.own 4]),(2,.box [i64 x5]),(1,.box [.is 2 (I GBar.g n)])])) (encE:=(fun(f:List aM)=>(xq 2 [(0,.yld 13),(1,.ref 12 0),(3,i64 a),(4,.own 14),(11,i64 b.passes),(12,i64 a)] [(14,.lst 111 2 false (I aM.g f)),(13,.loop 43 [(1,.ref 7 0),(2,.ref 9 0)] [19,20] q35_18a q35_18b false none),(12,.box (aH.g b)),(9,.box [.yld 8]),(8,.loop 30 [(2,.ref 1 0),(3,.ref 2 0),(4,.ref 3 0),(5,.ref 6 0)] [13] q10_16a q10_16b false none),(7,.box (Z0.g h)),(6,.box [.map 5]),(5,.mp (I (mEnt i64 i64) j)),(4,.lst 53 2 false (I GBar.g l)),(3,.box [.own 4]),(2,.box [i64 x5]),(1,.box [.is 2 (I GBar.g n)])]))) (fun⟨s,t⟩=>?_) B64 (0,[b.body])) fun f=>?_
 refine io ?_ (lf rfl)
 refine bo rg fun C=>?_
 refine bo oi fun L=>?_
 refine bo (e:=(fun(D:List aM)=>(nq [(0,.yld 13),(1,.ref 12 0),(3,i64 a),(4,.own 14),(11,i64 b.passes),(12,i64 a),(19,.is 3 (I bV.g b.endings)),(20,i64 (b.endings.length:Int)),(21,i64 s)] [(15,.box (bV.g C)),(14,.lst 111 2 false (I aM.g D)),(13,.loop 43 [(1,.ref 7 0),(2,.ref 9 0)] [19,20] q35_18a q35_18b false none),(12,.box (aH.g b)),(9,.box [.yld 8]),(8,.loop 30 [(2,.ref 1 0),(3,.ref 2 0),(4,.ref 3 0),(5,.ref 6 0)] [13] q10_16a q10_16b false none),(7,.box (Z0.g h)),(6,.box [.map 5]),(5,.mp (I (mEnt i64 i64) j)),(4,.lst 53 2 false (I GBar.g l)),(3,.box [.own 4]),(2,.box [i64 x5]),(1,.box [.is 2 (I GBar.g n)])]))) ?_ fun D=>?_
 refine io ?_ (lf rfl)
 refine bo (bE false aM.g t [C.span]) fun M=>?_
 exact lf rfl
 exact lf rfl
 refine bz (bP aM.g f) ?_
 refine bo (aI (S:=Int×(List (Int×Int))×(List GBar)) (enc:=fun⟨o,u,v⟩=>(Q [(0,.yld 13),(1,.ref 12 0),(3,i64 a),(11,i64 b.passes),(12,i64 a),(37,.own 14),(38,i64 (f.length:Int)),(39,i64 o)] [(14,.lst 111 2 false (I aM.g f)),(13,.loop 43 [(1,.ref 7 0),(2,.ref 9 0)] [19,20] q35_18a q35_18b false none),(12,.box (aH.g b)),(9,.box [.yld 8]),(8,.loop 30 [(2,.ref 1 0),(3,.ref 2 0),(4,.ref 3 0),(5,.ref 6 0)] [13] q10_16a q10_16b false none),(7,.box (Z0.g h)),(6,.box [.map 5]),(5,.mp (I (mEnt i64 i64) u)),(4,.lst 53 2 false (I GBar.g v)),(3,.box [.own 4]),(2,.box [i64 x5]),(1,.box [.is 2 (I GBar.g n)])])) (encE:=(fun|.inl ⟨G,p⟩=>(rq [(0,.yld 13),(1,.ref 12 0),(11,i64 b.passes),(12,i64 a)] [(14,.lst 111 2 false (I aM.g f)),(13,.loop 43 [(1,.ref 7 0),(2,.ref 9 0)] [19,20] q35_18a q35_18b false (some .ret)),(12,.box (aH.g b)),(9,.box [.yld 8]),(8,.loop 30 [(2,.ref 1 0),(3,.ref 2 0),(4,.ref 3 0),(5,.ref 6 0)] [13] q10_16a q10_16b false (some .ret)),(7,.box (Z0.g h)),(6,.box [.map 5]),(5,.mp (I (mEnt i64 i64) G)),(4,.lst 53 2 false (I GBar.g p)),(3,.box [.own 4]),(2,.box [i64 9]),(1,.box [.is 2 (I GBar.g [])])])|.inr ⟨x101,x102⟩=>(xq 4 [(0,.yld 13),(1,.ref 12 0),(11,i64 b.passes),(12,i64 a)] [(14,.lst 111 2 false (I aM.g f)),(13,.loop 43 [(1,.ref 7 0),(2,.ref 9 0)] [19,20] q35_18a q35_18b false none),(12,.box (aH.g b)),(9,.box [.yld 8]),(8,.loop 30 [(2,.ref 1 0),(3,.ref 2 0),(4,.ref 3 0),(5,.ref 6 0)] [13] q10_16a q10_16b false none),(7,.box (Z0.g h)),(6,.box [.map 5]),(5,.mp (I (mEnt i64 i64) x101)),(4,.lst 53 2 false (I GBar.g x102)),(3,.box [.own 4]),(2,.box [i64 x5]),(1,.box [.is 2 (I GBar.g n)])]))) (fun⟨o,u,v⟩=>?_) B64 (0,j,l)) fun z=>?_
 refine io ?_ (lf rfl)
 refine bo (aW aM.g f _) fun N=>?_
 refine bo (fE (A:=aM) (c:=aM.g) (m:=2) (g:=fun i=>[i64 i.first,i64 i.end']) (fun _=>⟨rfl,rfl⟩) (Nat.le_of_ble_eq_true rfl) f _) fun i=>?_
 refine bo (aI (S:=Int×(List (Int×Int))×(List GBar)) (enc:=fun⟨w,x,y⟩=>(Q [(0,.yld 13),(1,.ref 12 0),(3,i64 a),(8,.ref 15 0),(9,i64 w),(11,i64 b.passes),(12,i64 a),(37,.own 14),(38,i64 (f.length:Int)),(39,i64 o)] [(15,.box (aM.g i)),(14,.lst 111 2 false (I aM.g f)),(13,.loop 43 [(1,.ref 7 0),(2,.ref 9 0)] [19,20] q35_18a q35_18b false none),(12,.box (aH.g b)),(9,.box [.yld 8]),(8,.loop 30 [(2,.ref 1 0),(3,.ref 2 0),(4,.ref 3 0),(5,.ref 6 0)] [13] q10_16a q10_16b false none),(7,.box (Z0.g h)),(6,.box [.map 5]),(5,.mp (I (mEnt i64 i64) x)),(4,.lst 53 2 false (I GBar.g y)),(3,.box [.own 4]),(2,.box [i64 x5]),(1,.box [.is 2 (I GBar.g n)])])) (encE:=(fun|.inl ⟨E,F⟩=>(rq [(0,.yld 13),(1,.ref 12 0),(3,i64 a),(11,i64 b.passes),(12,i64 a),(37,.own 14),(38,i64 (f.length:Int)),(39,i64 o)] [(15,.box (aM.g i)),(14,.lst 111 2 false (I aM.g f)),(13,.loop 43 [(1,.ref 7 0),(2,.ref 9 0)] [19,20] q35_18a q35_18b false (some .ret)),(12,.box (aH.g b)),(9,.box [.yld 8]),(8,.loop 30 [(2,.ref 1 0),(3,.ref 2 0),(4,.ref 3 0),(5,.ref 6 0)] [13] q10_16a q10_16b false (some .ret)),(7,.box (Z0.g h)),(6,.box [.map 5]),(5,.mp (I (mEnt i64 i64) E)),(4,.lst 53 2 false (I GBar.g F)),(3,.box [.own 4]),(2,.box [i64 9]),(1,.box [.is 2 (I GBar.g [])])])|.inr ⟨x96,x97⟩=>(xq 6 [(0,.yld 13),(1,.ref 12 0),(3,i64 a),(11,i64 b.passes),(12,i64 a),(37,.own 14),(38,i64 (f.length:Int)),(39,i64 o)] [(15,.box (aM.g i)),(14,.lst 111 2 false (I aM.g f)),(13,.loop 43 [(1,.ref 7 0),(2,.ref 9 0)] [19,20] q35_18a q35_18b false none),(12,.box (aH.g b)),(9,.box [.yld 8]),(8,.loop 30 [(2,.ref 1 0),(3,.ref 2 0),(4,.ref 3 0),(5,.ref 6 0)] [13] q10_16a q10_16b false none),(7,.box (Z0.g h)),(6,.box [.map 5]),(5,.mp (I (mEnt i64 i64) x96)),(4,.lst 53 2 false (I GBar.g x97)),(3,.box [.own 4]),(2,.box [i64 x5]),(1,.box [.is 2 (I GBar.g n)])]))) (fun⟨w,x,y⟩=>?_) B64 (i.first,u,v)) fun K=>?_
 refine io ?_ (lf rfl)
 refine bo (oky35_18 d w (a==(w64 (b.passes-1))) h x y x5 n) fun J=>?_
 rcases J with _|x92
 exact lf rfl
 exact lf rfl
 rcases K with⟨E,F⟩|⟨x96,x97⟩
 exact lf rfl
 exact lf rfl
 rcases z with⟨G,p⟩|⟨x101,x102⟩
 exact lf rfl
 exact lf rfl
 rcases B with⟨q,r⟩|⟨x106,x107⟩
 exact lf rfl
 exact lf rfl
def Fn35 (g:Z0) (i:List (Int×Int)) (j:List GBar) (x4:Int) (x5:List GBar):Option (((List (Int×Int))×(List GBar))⊕((List (Int×Int))×(List GBar))):=
 (F36 g).bind fun h=>(aQ (E:=((List (Int×Int))×(List GBar))⊕((List (Int×Int))×(List GBar))) (fun(⟨a,b,c⟩:Int×(List (Int×Int))×(List GBar))=>if decide (a<(h.length:Int))then(lget h a).bind fun d=>(Fn37 d).bind fun _=>(Fn62 d g b c x4 x5).bind fun e=>(match e with|.inl ⟨x17,x18⟩=>some (.inr (.inl (x17,x18)))|.inr ⟨x19,x20⟩=>some (.inl ((w64 (a+1)),x19,x20)))else some (.inr (.inr (b,c)))) B64 (0,i,j)).bind fun f=>(match f with|.inl ⟨x22,x23⟩=>some (.inl (x22,x23))|.inr ⟨x24,x25⟩=>some (.inr (x24,x25)))
theorem okn35 {k} (d) (a:Z0) (l:List (Int×Int)) (o:List GBar) (x4:Int) (x5:List GBar):runR (XD k (d+4)) 35 [.yld 8,.ref 7 0] [(8,.loop 30 [(2,.ref 1 0),(3,.ref 2 0),(4,.ref 3 0),(5,.ref 6 0)] [13] q10_16a q10_16b false none),(7,.box (Z0.g a)),(6,.box [.map 5]),(5,.mp (I (mEnt i64 i64) l)),(4,.lst 53 2 false (I GBar.g o)),(3,.box [.own 4]),(2,.box [i64 x4]),(1,.box [.is 2 (I GBar.g x5)])] 9 false=(Fn35 a l o x4 x5).map (fun|.inl ⟨x27,x28⟩=>((.tup [],[(8,.loop 30 [(2,.ref 1 0),(3,.ref 2 0),(4,.ref 3 0),(5,.ref 6 0)] [13] q10_16a q10_16b false (some .ret)),(7,.box (Z0.g a)),(6,.box [.map 5]),(5,.mp (I (mEnt i64 i64) x27)),(4,.lst 53 2 false (I GBar.g x28)),(3,.box [.own 4]),(2,.box [i64 9]),(1,.box [.is 2 (I GBar.g [])])],0))|.inr ⟨x29,x30⟩=>((.tup [],[(8,.loop 30 [(2,.ref 1 0),(3,.ref 2 0),(4,.ref 3 0),(5,.ref 6 0)] [13] q10_16a q10_16b false none),(7,.box (Z0.g a)),(6,.box [.map 5]),(5,.mp (I (mEnt i64 i64) x29)),(4,.lst 53 2 false (I GBar.g x30)),(3,.box [.own 4]),(2,.box [i64 x4]),(1,.box [.is 2 (I GBar.g x5)])],0))):=by
 rw[xd (fn:=p35) rfl]
 refine bo (ok36 (d+2) a) fun j=>?_
 refine bz lm ?_
 refine bo (aI (S:=Int×(List (Int×Int))×(List GBar)) (enc:=fun⟨e,b,c⟩=>(Q [(1,.ref 7 0),(2,.ref 9 0),(11,.is 4 (I aH.g j)),(12,i64 (j.length:Int)),(13,i64 e)] [(10,.box [.is 4 (I aH.g j)]),(9,.box [.yld 8]),(8,.loop 30 [(2,.ref 1 0),(3,.ref 2 0),(4,.ref 3 0),(5,.ref 6 0)] [13] q10_16a q10_16b false none),(7,.box (Z0.g a)),(6,.box [.map 5]),(5,.mp (I (mEnt i64 i64) b)),(4,.lst 53 2 false (I GBar.g c)),(3,.box [.own 4]),(2,.box [i64 x4]),(1,.box [.is 2 (I GBar.g x5)])])) (encE:=(fun|.inl ⟨h,i⟩=>(rq [] [(10,.box [.is 4 (I aH.g j)]),(9,.box [.yld 8]),(8,.loop 30 [(2,.ref 1 0),(3,.ref 2 0),(4,.ref 3 0),(5,.ref 6 0)] [13] q10_16a q10_16b false (some .ret)),(7,.box (Z0.g a)),(6,.box [.map 5]),(5,.mp (I (mEnt i64 i64) h)),(4,.lst 53 2 false (I GBar.g i)),(3,.box [.own 4]),(2,.box [i64 9]),(1,.box [.is 2 (I GBar.g [])])])|.inr ⟨x24,x25⟩=>(xq 0 [] [(10,.box [.is 4 (I aH.g j)]),(9,.box [.yld 8]),(8,.loop 30 [(2,.ref 1 0),(3,.ref 2 0),(4,.ref 3 0),(5,.ref 6 0)] [13] q10_16a q10_16b false none),(7,.box (Z0.g a)),(6,.box [.map 5]),(5,.mp (I (mEnt i64 i64) x24)),(4,.lst 53 2 false (I GBar.g x25)),(3,.box [.own 4]),(2,.box [i64 x4]),(1,.box [.is 2 (I GBar.g x5)])]))) (fun⟨e,b,c⟩=>?_) B64 (0,l,o)) fun n=>?_
 refine io ?_ (lf rfl)
 refine bo rg fun f=>?_
 refine bo (okn37 (d+2) f) fun _=>?_
 refine bo (okn62 d f a b c x4 x5) fun m=>?_
 rcases m with⟨p,q⟩|⟨x19,x20⟩
 exact lf rfl
 exact lf rfl
 rcases n with⟨h,i⟩|⟨x24,x25⟩
 exact lf rfl
 exact lf rfl
def F10 (a:Z0):Option ((List GBar)×Int):=
 (F11 a).bind fun b=>if !b then some ([],24)else(Fn26 a).bind fun _=>(Fn35 a [] [] 0 []).bind fun c=>(match c with|.inl ⟨x3,x4⟩=>some ([],9)|.inr ⟨x5,x6⟩=>some (x6,0))
theorem ok10 {k} (d) (a:Z0):OD k (d+27) 10 [.agg (Z0.g a)]=(F10 a).map (fun⟨c,e⟩=>.tup [.is 2 (I GBar.g c),i64 e]):=by
 refine od2 (fn:=p10) rfl rfl rfl (fun _=>rfl) ?_
 refine bo (ok11 d a) fun f=>?_
 refine io (lf rfl) ?_
 refine bo (okn26 (d+25) a) fun _=>?_
 refine bo (okn35 (d+22) a [] [] 0 []) fun b=>?_
 rcases b with⟨h,x4⟩|⟨x5,x6⟩
 exact lf rfl
 exact lf rfl
def F5 (c:Z0):Option Bool:=
 (F8 c).bind fun l=>((if !l then some true else(some true).bind fun m=>some (!m):Option (Bool))).bind fun x4=>((if x4 then some true else(F11 c).bind fun x5=>some (!x5):Option (Bool))).bind fun n=>if n then(some true).bind fun o=>some o else(aQ (E:=Unit⊕Unit) (fun(k:Int)=>if decide (k<(c.Measures.length:Int))then(lget c.Measures k).bind fun d=>if((d.RepeatEnd !=0)||(d.Endings !=0))||(d.Jump !=0)then some (.inr (.inl ()))else some (.inl (w64 (k+1)))else some (.inr (.inr ()))) B64 0).bind fun f=>(match f with|.inl _=>some true|.inr _=>(F10 c).bind fun⟨a,g⟩=>((if(g !=0)||((a.length:Int)!=(c.Measures.length:Int))then some true else(F17 c a).bind fun h=>some (!h):Option (Bool))).bind fun i=>if i then some false else(aQ (E:=Unit⊕Unit) (fun(b:Int)=>if decide (b<(a.length:Int))then(lget a b).bind fun e=>if((e.Measure==b)&&((e.Pass==0)&&true))!=true then some (.inr (.inl ()))else some (.inl (w64 (b+1)))else some (.inr (.inr ()))) B64 0).bind fun j=>(match j with|.inl _=>some false|.inr _=>some true))
theorem ok5 (d) (a:Z0):OD true (d+30) 5 [.agg (Z0.g a)]=(F5 a).map (fun o=>bv o):=by
 rw[od (fn:=p5) rfl rfl rfl]
 refine bo (ok8 (d+27) a) fun p=>?_
 refine bo (e:=id) ?_ fun x4=>?_
 refine io (lf rfl) ?_
 refine bo (dX1 (d+29)) fun q=>?_
 exact lf rfl
 refine bo (e:=id) ?_ fun r=>?_
 refine io (lf rfl) ?_
 refine bo (ok11 (d+3) a) fun x5=>?_
 exact lf rfl
 refine io ?_ ?_
 refine bo (dX1 (d+29)) fun s=>?_
 exact lf rfl
 refine bo (aI (S:=Int) (enc:=fun i=>(Q [(1,.ref 0 0),(3,i64 i)] [(0,.box (Z0.g a))])) (encE:=(fun|.inl _=>(rq [(1,.ref 0 0),(2,bv true)] [(0,.box (Z0.g a))])|.inr _=>(xq 0 [(1,.ref 0 0)] [(0,.box (Z0.g a))]))) (fun i=>?_) B64 0) fun f=>?_
 refine bz lm ?_
 refine io ?_ (lf rfl)
 refine bo rg fun j=>?_
 refine bz (gor rfl) ?_
 refine bz (gor rfl) ?_
 refine io (lf rfl) (lf rfl)
 rcases f with _|_
 exact lf rfl
 refine bo (ok10 (d+2) a) fun⟨b,k⟩=>?_
 refine bz (gor (bz lm (bz lm rfl))) ?_
 refine bo (e:=id) ?_ fun m=>?_
 refine io (lf rfl) ?_
 refine bo (ok17 d a b) fun l=>?_
 exact lf rfl
 refine io (lf rfl) ?_
 refine bo (aI (S:=Int) (enc:=fun c=>(Q [(5,.is 2 (I GBar.g b)),(7,i64 c)] [(0,.box (Z0.g a))])) (encE:=(fun|.inl _=>(rq [(2,bv false)] [(0,.box (Z0.g a))])|.inr _=>(xq 2 [] [(0,.box (Z0.g a))]))) (fun c=>?_) B64 0) fun h=>?_
 refine bz lm ?_
 refine io ?_ (lf rfl)
 refine bo rg fun n=>?_
 refine io (lf rfl) (lf rfl)
 rcases h with _|_
 exact lf rfl
 exact lf rfl
end Go.P
