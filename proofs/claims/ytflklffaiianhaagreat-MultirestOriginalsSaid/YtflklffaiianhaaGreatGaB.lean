import Derived.Test.YtflklffaiianhaaGreatGaA
/- A text of the proof. -/
set_option linter.all false
set_option maxRecDepth 100000
set_option maxHeartbeats 2000000
namespace Go.P
open Go.Sim (Ex OpK CK)
open K (I Q rq nq xq ck)
def F124 (a:Zb) (b:Int):Option Bool:=
 (F121 a.Pitch b).bind fun c=>some c
theorem ok124 (d) (a:Zb) (b:Int):OD (d+6) 124 [.agg (Zb.g a),.ip [.fn 121 [] [.ip [i64 b]]]]=(F124 a b).map (fun c=>bv c):=by
 rw[od (fn:=p124) rfl rfl]
 refine bo (ok121 d a.Pitch b) fun e=>?_
 exact lf rfl
def F186 (b:List Zb) (c:Int):Option Int:=
 (aO (E:=Int⊕Unit) (fun(a:Int)=>if decide (a<(b.length:Int))then(lget b a).bind fun d=>(F124 d c).bind fun e=>if e then some (.inr (.inl a))else some (.inl (w64 (a+1)))else some (.inr (.inr ()))) B64 0).bind fun f=>(match f with|.inl x8=>some x8|.inr _=>some (-1))
theorem ok186 (d) (a:List Zb) (b:Int):OD (d+7) 186 [.is 5 (I Zb.g a),.fn 124 [] [.ip [.fn 121 [] [.ip [i64 b]]]]]=(F186 a b).map (fun i=>i64 i):=by
 rw[od (fn:=p186) rfl rfl]
 refine bz lm ?_
 refine bo (aH (S:=Int) (enc:=fun c=>(Q [(0,.is 5 (I Zb.g a)),(1,.fn 124 [] [.ip [.fn 121 [] [.ip [i64 b]]]]),(7,i64 (a.length:Int)),(8,i64 c)] [])) (encE:=(fun|.inl e=>(rq [(4,i64 e)] [])|.inr _=>(xq 0 [] []))) (fun c=>?_) B64 0) fun h=>?_
 refine io ?_ (lf rfl)
 refine bo rg fun f=>?_
 refine bo (ok124 d f b) fun j=>?_
 refine io (lf rfl) (lf rfl)
 rcases h with e|_
 exact lf rfl
 exact lf rfl
def F123 (a:List Zb) (b:Int):Option Bool:=
 (F186 a b).bind fun c=>some (decide (c>=0))
theorem ok123 (d) (a:List Zb) (b:Int):OD (d+8) 123 [.is 5 (I Zb.g a),.fn 124 [] [.ip [.fn 121 [] [.ip [i64 b]]]]]=(F123 a b).map (fun c=>bv c):=by
 rw[od (fn:=p123) rfl rfl]
 refine bo (ok186 d a b) fun e=>?_
 exact lf rfl
def F126 (a:Zd) (b:Int):Option Bool:=
 (F121 a.Pitch b).bind fun c=>some c
theorem ok126 (d) (a:Zd) (b:Int):OD (d+6) 126 [.agg (Zd.g a),.ip [.fn 121 [] [.ip [i64 b]]]]=(F126 a b).map (fun c=>bv c):=by
 rw[od (fn:=p126) rfl rfl]
 refine bo (ok121 d a.Pitch b) fun e=>?_
 exact lf rfl
def F187 (b:List Zd) (c:Int):Option Int:=
 (aO (E:=Int⊕Unit) (fun(a:Int)=>if decide (a<(b.length:Int))then(lget b a).bind fun d=>(F126 d c).bind fun e=>if e then some (.inr (.inl a))else some (.inl (w64 (a+1)))else some (.inr (.inr ()))) B64 0).bind fun f=>(match f with|.inl x8=>some x8|.inr _=>some (-1))
theorem ok187 (d) (a:List Zd) (b:Int):OD (d+7) 187 [.is 5 (I Zd.g a),.fn 126 [] [.ip [.fn 121 [] [.ip [i64 b]]]]]=(F187 a b).map (fun i=>i64 i):=by
 rw[od (fn:=p187) rfl rfl]
 refine bz lm ?_
 refine bo (aH (S:=Int) (enc:=fun c=>(Q [(0,.is 5 (I Zd.g a)),(1,.fn 126 [] [.ip [.fn 121 [] [.ip [i64 b]]]]),(7,i64 (a.length:Int)),(8,i64 c)] [])) (encE:=(fun|.inl e=>(rq [(4,i64 e)] [])|.inr _=>(xq 0 [] []))) (fun c=>?_) B64 0) fun h=>?_
 refine io ?_ (lf rfl)
 refine bo rg fun f=>?_
 refine bo (ok126 d f b) fun j=>?_
 refine io (lf rfl) (lf rfl)
 rcases h with e|_
 exact lf rfl
 exact lf rfl
def F125 (a:List Zd) (b:Int):Option Bool:=
 (F187 a b).bind fun c=>some (decide (c>=0))
theorem ok125 (d) (a:List Zd) (b:Int):OD (d+8) 125 [.is 5 (I Zd.g a),.fn 126 [] [.ip [.fn 121 [] [.ip [i64 b]]]]]=(F125 a b).map (fun c=>bv c):=by
 rw[od (fn:=p125) rfl rfl]
 refine bo (ok187 d a b) fun e=>?_
 exact lf rfl
def F120 (h:Zp) (e:Ze) (f:Zk):Option Bool:=
 (F119 e).bind fun i=>if i !=0 then some false else(F53 f.s' h.Staff).bind fun⟨j,m,k⟩=>((if k==0 then(lget f.s'.Parts j).bind fun l=>some l.Transpose.Semitones else some 0:Option (Int))).bind fun g=>((if f.s'.Written then some (w64 (0-g))else some g:Option (Int))).bind fun a=>(F123 e.Heads a).bind fun b=>((if b then some true else(F125 e.Graces a).bind fun c=>some c:Option (Bool))).bind fun d=>some d
theorem ok120 (d) (c:Zp) (b:Ze) (f:Zk):OD (d+9) 120 [.agg (Zp.g c),.agg (Ze.g b),.ip [.ip (Zk.g f)]]=(F120 c b f).map (fun l=>bv l):=by
 rw[od (fn:=p120) rfl rfl]
 refine bo (ok119 d b) fun m=>?_
 refine io (lf rfl) ?_
 refine bo (ok53 (d+7) f.s' c.Staff) fun⟨n,o,p⟩=>?_
 refine bo (e:=(fun(h:Int)=>(nq [(2,.ip [.ip (Zk.g f)]),(4,.ref 1 0),(6,.ref 2 0)] [(2,.box [i64 h]),(1,.box (Ze.g b)),(0,.box (Zp.g c))]))) ?_ fun h=>?_
 refine io ?_ (lf rfl)
 refine bo rg fun q=>?_
 exact lf rfl
 refine bo (e:=(fun(a:Int)=>(nq [(4,.ref 1 0),(6,.ref 2 0)] [(2,.box [i64 a]),(1,.box (Ze.g b)),(0,.box (Zp.g c))]))) ?_ fun a=>?_
 refine io (lf rfl) (lf rfl)
 refine bo (ok123 d b.Heads a) fun i=>?_
 refine bo (e:=id) ?_ fun k=>?_
 refine io (lf rfl) ?_
 refine bo (ok125 d b.Graces a) fun j=>?_
 exact lf rfl
 exact lf rfl
def Fn117_2 (u:List Zv) (s:Z0) (t:Int):Option (List Zv):=
 (aO (E:=List Zv) (fun(⟨c,m⟩:Int×(List Zv))=>if decide (c<(s.Measures.length:Int))then(lget s.Measures c).bind fun n=>(aO (E:=List Zv) (fun(⟨d,o⟩:Int×(List Zv))=>if decide (d<(n.Cells.length:Int))then(lget n.Cells d).bind fun p=>(aO (E:=List Zv) (fun(⟨e,q⟩:Int×(List Zv))=>if decide (e<(p.Voices.length:Int))then(lget p.Voices e).bind fun r=>(aO (E:=List Zv) (fun(⟨a,b⟩:Int×(List Zv))=>if decide (a<(r.Events.length:Int))then(lget r.Events a).bind fun f=>(F120 (Zp.mk 4 0 d c e a 0) f (Zk.mk s t b)).bind fun g=>(Fn101 g f.ID b s t).bind fun h=>some (.inl ((w64 (a+1)),h))else some (.inr b)) B64 (0,q)).bind fun i=>some (.inl ((w64 (e+1)),i))else some (.inr q)) B64 (0,o)).bind fun j=>some (.inl ((w64 (d+1)),j))else some (.inr o)) B64 (0,m)).bind fun k=>some (.inl ((w64 (c+1)),k))else some (.inr m)) B64 (0,u)).bind fun l=>some l
theorem okn117_2 (d) (w:List Zv) (c:Z0) (i:Int):runR (XD (d+10)) 117 [.ref 1 0,.fn 120 [] [.ref 3 0]] [(3,.box [.ref 1 0]),(2,.lst 147 3 false (I Zv.g w)),(1,.box (ck c i (.own 2)))] 4 false=(Fn117_2 w c i).map (fun(v:List Zv)=>((.tup [],[(3,.box [.ref 1 0]),(2,.lst 147 3 false (I Zv.g v)),(1,.box (ck c i (.own 2)))],0))):=by
 rw[xd (fn:=p117) rfl]
 refine bz lm ?_
 refine bo (aH (S:=Int×(List Zv)) (enc:=fun⟨b,r⟩=>(Q [(0,.ref 1 0),(1,.fn 120 [] [.ref 3 0]),(16,.is 22 (I Zm.g c.Measures)),(17,i64 (c.Measures.length:Int)),(18,i64 b)] [(3,.box [.ref 1 0]),(2,.lst 147 3 false (I Zv.g r)),(1,.box (ck c i (.own 2)))])) (encE:=(fun(q:List Zv)=>(xq 0 [] [(3,.box [.ref 1 0]),(2,.lst 147 3 false (I Zv.g q)),(1,.box (ck c i (.own 2)))]))) (fun⟨b,r⟩=>?_) B64 (0,w)) fun q=>?_
 refine io ?_ (lf rfl)
 refine bo rg fun a=>?_
 refine bz lm ?_
 refine bo (aH (S:=Int×(List Zv)) (enc:=fun⟨e,s⟩=>(Q [(0,.ref 1 0),(1,.fn 120 [] [.ref 3 0]),(4,i64 b),(16,.is 22 (I Zm.g c.Measures)),(17,i64 (c.Measures.length:Int)),(18,i64 b),(24,.is 2 (I Zw.g a.Cells)),(25,i64 (a.Cells.length:Int)),(26,i64 e)] [(4,.box (Zm.g a)),(3,.box [.ref 1 0]),(2,.lst 147 3 false (I Zv.g s)),(1,.box (ck c i (.own 2)))])) (encE:=(fun(p:List Zv)=>(xq 2 [(0,.ref 1 0),(1,.fn 120 [] [.ref 3 0]),(16,.is 22 (I Zm.g c.Measures)),(17,i64 (c.Measures.length:Int)),(18,i64 b)] [(4,.box (Zm.g a)),(3,.box [.ref 1 0]),(2,.lst 147 3 false (I Zv.g p)),(1,.box (ck c i (.own 2)))]))) (fun⟨e,s⟩=>?_) B64 (0,r)) fun p=>?_
 refine io ?_ (lf rfl)
 refine bo rg fun f=>?_
 refine bz lm ?_
 refine bo (aH (S:=Int×(List Zv)) (enc:=fun⟨j,t⟩=>(Q [(0,.ref 1 0),(1,.fn 120 [] [.ref 3 0]),(4,i64 b),(6,i64 e),(16,.is 22 (I Zm.g c.Measures)),(17,i64 (c.Measures.length:Int)),(18,i64 b),(24,.is 2 (I Zw.g a.Cells)),(25,i64 (a.Cells.length:Int)),(26,i64 e),(32,.is 2 (I Zo.g f.Voices)),(33,i64 (f.Voices.length:Int)),(34,i64 j)] [(5,.box (Zw.g f)),(4,.box (Zm.g a)),(3,.box [.ref 1 0]),(2,.lst 147 3 false (I Zv.g t)),(1,.box (ck c i (.own 2)))])) (encE:=(fun(o:List Zv)=>(xq 4 [(0,.ref 1 0),(1,.fn 120 [] [.ref 3 0]),(4,i64 b),(16,.is 22 (I Zm.g c.Measures)),(17,i64 (c.Measures.length:Int)),(18,i64 b),(24,.is 2 (I Zw.g a.Cells)),(25,i64 (a.Cells.length:Int)),(26,i64 e)] [(5,.box (Zw.g f)),(4,.box (Zm.g a)),(3,.box [.ref 1 0]),(2,.lst 147 3 false (I Zv.g o)),(1,.box (ck c i (.own 2)))]))) (fun⟨j,t⟩=>?_) B64 (0,s)) fun o=>?_
 refine io ?_ (lf rfl)
 refine bo rg fun l=>?_
 refine bz lm ?_
 refine bo (aH (S:=Int×(List Zv)) (enc:=fun⟨k,h⟩=>(Q [(0,.ref 1 0),(1,.fn 120 [] [.ref 3 0]),(4,i64 b),(6,i64 e),(8,i64 j),(16,.is 22 (I Zm.g c.Measures)),(17,i64 (c.Measures.length:Int)),(18,i64 b),(24,.is 2 (I Zw.g a.Cells)),(25,i64 (a.Cells.length:Int)),(26,i64 e),(32,.is 2 (I Zo.g f.Voices)),(33,i64 (f.Voices.length:Int)),(34,i64 j),(40,.is 13 (I Ze.g l.Events)),(41,i64 (l.Events.length:Int)),(42,i64 k)] [(6,.box (Zo.g l)),(5,.box (Zw.g f)),(4,.box (Zm.g a)),(3,.box [.ref 1 0]),(2,.lst 147 3 false (I Zv.g h)),(1,.box (ck c i (.own 2)))])) (encE:=(fun(n:List Zv)=>(xq 6 [(0,.ref 1 0),(1,.fn 120 [] [.ref 3 0]),(4,i64 b),(6,i64 e),(16,.is 22 (I Zm.g c.Measures)),(17,i64 (c.Measures.length:Int)),(18,i64 b),(24,.is 2 (I Zw.g a.Cells)),(25,i64 (a.Cells.length:Int)),(26,i64 e),(32,.is 2 (I Zo.g f.Voices)),(33,i64 (f.Voices.length:Int)),(34,i64 j)] [(6,.box (Zo.g l)),(5,.box (Zw.g f)),(4,.box (Zm.g a)),(3,.box [.ref 1 0]),(2,.lst 147 3 false (I Zv.g n)),(1,.box (ck c i (.own 2)))]))) (fun⟨k,h⟩=>?_) B64 (0,t)) fun n=>?_
 refine io ?_ (lf rfl)
 refine bo rg fun m=>?_
 refine bo (ok120 d (Zp.mk 4 0 e b j k 0) m (Zk.mk c i h)) fun u=>?_
 refine bo (okn101 (d+8) u m.ID h c i) fun x=>?_
 exact lf rfl
 exact lf rfl
 exact lf rfl
 exact lf rfl
 exact lf rfl
def Fn67 (a:List Zv) (b:Z0) (c:Int):Option (List Zv):=
 (Fn117_2 a b c).bind fun d=>some d
theorem okn67 (d) (c:List Zv) (a:Z0) (b:Int):runR (XD (d+11)) 67 [.ref 1 0] [(2,.lst 147 3 false (I Zv.g c)),(1,.box (ck a b (.own 2)))] 3 false=(Fn67 c a b).map (fun(e:List Zv)=>((.tup [],[(2,.lst 147 3 false (I Zv.g e)),(1,.box (ck a b (.own 2)))],0))):=by
 rw[xd (fn:=p67) rfl]
 refine bo (okn117_2 d c a b) fun f=>?_
 exact lf rfl
def F188 (a:Zb):Option Bool:=
 some a.Tied
theorem ok188 (d) (a:Zb):OD (d+1) 188 [.agg (Zb.g a)]=(F188 a).map (fun b=>bv b):=by
 rw[od (fn:=p188) rfl rfl]
 exact lf rfl
def F186_2 (b:List Zb):Option Int:=
 (aO (E:=Int⊕Unit) (fun(a:Int)=>if decide (a<(b.length:Int))then(lget b a).bind fun c=>(F188 c).bind fun d=>if d then some (.inr (.inl a))else some (.inl (w64 (a+1)))else some (.inr (.inr ()))) B64 0).bind fun e=>(match e with|.inl x7=>some x7|.inr _=>some (-1))
theorem ok186_2 (d) (a:List Zb):OD (d+2) 186 [.is 5 (I Zb.g a),.fn 188 [] []]=(F186_2 a).map (fun h=>i64 h):=by
 rw[od (fn:=p186) rfl rfl]
 refine bz lm ?_
 refine bo (aH (S:=Int) (enc:=fun b=>(Q [(0,.is 5 (I Zb.g a)),(1,.fn 188 [] []),(7,i64 (a.length:Int)),(8,i64 b)] [])) (encE:=(fun|.inl c=>(rq [(4,i64 c)] [])|.inr _=>(xq 0 [] []))) (fun b=>?_) B64 0) fun f=>?_
 refine io ?_ (lf rfl)
 refine bo rg fun e=>?_
 refine bo (ok188 d e) fun i=>?_
 refine io (lf rfl) (lf rfl)
 rcases f with c|_
 exact lf rfl
 exact lf rfl
def F123_2 (a:List Zb):Option Bool:=
 (F186_2 a).bind fun b=>some (decide (b>=0))
theorem ok123_2 (d) (a:List Zb):OD (d+3) 123 [.is 5 (I Zb.g a),.fn 188 [] []]=(F123_2 a).map (fun b=>bv b):=by
 rw[od (fn:=p123) rfl rfl]
 refine bo (ok186_2 d a) fun c=>?_
 exact lf rfl
def F128 (a:Ze):Option Bool:=
 ((if a.Kind==1 then(F123_2 a.Heads).bind fun b=>some b else some false:Option (Bool))).bind fun c=>some c
theorem ok128 (d) (a:Ze):OD (d+4) 128 [.agg (Ze.g a)]=(F128 a).map (fun b=>bv b):=by
 rw[od (fn:=p128) rfl rfl]
 refine bo (e:=id) ?_ fun f=>?_
 refine io ?_ (lf rfl)
 refine bo (ok123_2 d a.Heads) fun c=>?_
 exact lf rfl
 exact lf rfl
def F190 (b:Z0) (a c g:Int):Option (List Ze):=
 ((if((decide (a<0))||(decide (a>=(b.Measures.length:Int))))||(decide (c<0))then some true else(lget b.Measures a).bind fun h=>some (decide (c>=(h.Cells.length:Int))):Option (Bool))).bind fun i=>((if i||(decide (g<0))then some true else(lget b.Measures a).bind fun j=>(lget j.Cells c).bind fun k=>some (decide (g>=(k.Voices.length:Int))):Option (Bool))).bind fun l=>if l then some []else(lget b.Measures a).bind fun d=>(lget d.Cells c).bind fun e=>(lget e.Voices g).bind fun f=>some f.Events
theorem ok190 (d) (a:Z0) (b c f:Int):OD (d+1) 190 [.agg (Z0.g a),i64 b,i64 c,i64 f]=(F190 a b c f).map (fun k=>.is 13 (I Ze.g k)):=by
 rw[od (fn:=p190) rfl rfl]
 refine bz (gor (bz lm rfl)) ?_
 refine bz (gor rfl) ?_
 refine bo (e:=id) ?_ fun m=>?_
 refine io (lf rfl) ?_
 refine bo rg fun l=>?_
 refine bz lm ?_
 exact lf rfl
 refine bz (gor rfl) ?_
 refine bo (e:=id) ?_ fun p=>?_
 refine io (lf rfl) ?_
 refine bo rg fun n=>?_
 refine bo rg fun o=>?_
 refine bz lm ?_
 exact lf rfl
 refine io (lf rfl) ?_
 refine bo rg fun h=>?_
 refine bo rg fun i=>?_
 refine bo rg fun j=>?_
 exact lf rfl
def F189 (b:Z0) (a:Zp):Option Int:=
 if a.Kind !=4 then some 11 else((if decide (a.Event<0)then some true else(F190 b a.Measure a.Staff a.Voice).bind fun c=>some (decide (a.Event>=(c.length:Int))):Option (Bool))).bind fun d=>if d then some 2 else some 0
theorem ok189 (d) (b:Z0) (a:Zp):OD (d+2) 189 [.agg (Z0.g b),.agg (Zp.g a)]=(F189 b a).map (fun c=>i64 c):=by
 rw[od (fn:=p189) rfl rfl]
 refine io (lf rfl) ?_
 refine bo (e:=id) ?_ fun h=>?_
 refine io (lf rfl) ?_
 refine bo (ok190 d b a.Measure a.Staff a.Voice) fun f=>?_
 refine bz lm ?_
 exact lf rfl
 refine io (lf rfl) (lf rfl)
def F191 (a b:Int) (c d:Int):Option Zp:=
 some (Zp.mk 4 0 b a c d 0)
theorem ok191 (d) (a b:Int) (c e:Int):OD (d+1) 191 [i64 a,i64 b,i64 c,i64 e]=(F191 a b c e).map (fun f=>.agg (Zp.g f)):=by
 rw[od (fn:=p191) rfl rfl]
 exact lf rfl
def F129 (b:Z0) (a:Zp):Option (Zp×Bool):=
 (F189 b a).bind fun c=>if c !=0 then some ((Zp.mk 0 0 0 0 0 0 0),false)else(F190 b a.Measure a.Staff a.Voice).bind fun d=>if decide ((w64 (a.Event+1))<(d.length:Int))then(F191 a.Measure a.Staff a.Voice (w64 (a.Event+1))).bind fun e=>some (e,true)else(F190 b (w64 (a.Measure+1)) a.Staff a.Voice).bind fun f=>if decide ((f.length:Int)>0)then(F191 (w64 (a.Measure+1)) a.Staff a.Voice 0).bind fun g=>some (g,true)else some ((Zp.mk 0 0 0 0 0 0 0),false)
theorem ok129 (d) (b:Z0) (a:Zp):OD (d+3) 129 [.agg (Z0.g b),.agg (Zp.g a)]=(F129 b a).map (fun⟨c,e⟩=>.tup [.agg (Zp.g c),bv e]):=by
 rw[od (fn:=p129) rfl rfl]
 refine bo (ok189 d b a) fun f=>?_
 refine io (lf rfl) ?_
 refine bo (ok190 (d+1) b a.Measure a.Staff a.Voice) fun h=>?_
 refine bz lm ?_
 refine io ?_ ?_
 refine bo (ok191 (d+1) a.Measure a.Staff a.Voice (w64 (a.Event+1))) fun i=>?_
 exact lf rfl
 refine bo (ok190 (d+1) b (w64 (a.Measure+1)) a.Staff a.Voice) fun j=>?_
 refine bz lm ?_
 refine io ?_ (lf rfl)
 refine bo (ok191 (d+1) (w64 (a.Measure+1)) a.Staff a.Voice 0) fun k=>?_
 exact lf rfl
def F192 (a:Ze):Option Ze:=
 (mX a.Heads).bind fun b=>(mX a.Graces).bind fun c=>(mX a.Lyrics).bind fun d=>some (Ze.mk a.ID a.Kind a.Value b c a.Articulations a.Ornament a.Dynamic d a.Stem a.Beam)
theorem ok192 (d) (a:Ze):OD (d+2) 192 [.agg (Ze.g a)]=(F192 a).map (fun b=>.agg (Ze.g b)):=by
 rw[od (fn:=p192) rfl rfl]
 refine bo (kF 233 (d+1) 5 _ _ rfl rfl rfl) fun c=>?_
 refine bo (kF 234 (d+1) 5 _ _ rfl rfl rfl) fun e=>?_
 refine bo (kF 235 (d+1) 2 _ _ rfl rfl rfl) fun f=>?_
 exact lf rfl
def F130 (b:Z0) (a:Zp):Option (Ze×Int):=
 (F189 b a).bind fun c=>if c !=0 then some ((Ze.mk (Zz.mk 0 0) 0 (Za.mk 0 0) [] [] 0 0 0 [] 0 0),c)else(F190 b a.Measure a.Staff a.Voice).bind fun d=>(lget d a.Event).bind fun e=>(F192 e).bind fun f=>some (f,0)
theorem ok130 (d) (b:Z0) (a:Zp):OD (d+3) 130 [.agg (Z0.g b),.agg (Zp.g a)]=(F130 b a).map (fun⟨e,f⟩=>.tup [.agg (Ze.g e),i64 f]):=by
 rw[od (fn:=p130) rfl rfl]
 refine bo (ok189 d b a) fun h=>?_
 refine io (lf rfl) ?_
 refine bo (ok190 (d+1) b a.Measure a.Staff a.Voice) fun i=>?_
 refine bo rg fun c=>?_
 refine bo (ok192 d c) fun j=>?_
 exact lf rfl
def F193 (a b:Zb):Option Bool:=
 some (((a.Pitch.Step==b.Pitch.Step)&&((a.Pitch.Alter==b.Pitch.Alter)&&((a.Pitch.Octave==b.Pitch.Octave)&&true)))!=false)
theorem ok193 (d) (a b:Zb):OD (d+1) 193 [.agg (Zb.g a),.ip (Zb.g b)]=(F193 a b).map (fun c=>bv c):=by
 rw[od (fn:=p193) rfl rfl]
 exact lf rfl
def F186_3 (b:List Zb) (c:Zb):Option Int:=
 (aO (E:=Int⊕Unit) (fun(a:Int)=>if decide (a<(b.length:Int))then(lget b a).bind fun d=>(F193 d c).bind fun e=>if e then some (.inr (.inl a))else some (.inl (w64 (a+1)))else some (.inr (.inr ()))) B64 0).bind fun f=>(match f with|.inl x8=>some x8|.inr _=>some (-1))
theorem ok186_3 (d) (a:List Zb) (b:Zb):OD (d+2) 186 [.is 5 (I Zb.g a),.fn 193 [] [.ip (Zb.g b)]]=(F186_3 a b).map (fun i=>i64 i):=by
 rw[od (fn:=p186) rfl rfl]
 refine bz lm ?_
 refine bo (aH (S:=Int) (enc:=fun c=>(Q [(0,.is 5 (I Zb.g a)),(1,.fn 193 [] [.ip (Zb.g b)]),(7,i64 (a.length:Int)),(8,i64 c)] [])) (encE:=(fun|.inl e=>(rq [(4,i64 e)] [])|.inr _=>(xq 0 [] []))) (fun c=>?_) B64 0) fun h=>?_
 refine io ?_ (lf rfl)
 refine bo rg fun f=>?_
 refine bo (ok193 d f b) fun j=>?_
 refine io (lf rfl) (lf rfl)
 rcases h with e|_
 exact lf rfl
 exact lf rfl
def F123_3 (a:List Zb) (b:Zb):Option Bool:=
 (F186_3 a b).bind fun c=>some (decide (c>=0))
theorem ok123_3 (d) (a:List Zb) (b:Zb):OD (d+3) 123 [.is 5 (I Zb.g a),.fn 193 [] [.ip (Zb.g b)]]=(F123_3 a b).map (fun c=>bv c):=by
 rw[od (fn:=p123) rfl rfl]
 refine bo (ok186_3 d a b) fun e=>?_
 exact lf rfl
def F131 (a f:Ze):Option Bool:=
 if a.Kind !=1 then some true else(aO (E:=Unit⊕Unit) (fun(e:Int)=>if decide (e<(a.Heads.length:Int))then(lget a.Heads e).bind fun g=>((if g.Tied then((if f.Kind==1 then(F123_3 f.Heads g).bind fun h=>some h else some false:Option (Bool))).bind fun b=>some (!b)else some false:Option (Bool))).bind fun c=>if c then some (.inr (.inl ()))else some (.inl (w64 (e+1)))else some (.inr (.inr ()))) B64 0).bind fun d=>(match d with|.inl _=>some false|.inr _=>some true)
theorem ok131 (d) (a b:Ze):OD (d+4) 131 [.agg (Ze.g a),.agg (Ze.g b)]=(F131 a b).map (fun k=>bv k):=by
 rw[od (fn:=p131) rfl rfl]
 refine io (lf rfl) ?_
 refine bz lm ?_
 refine bo (aH (S:=Int) (enc:=fun f=>(Q [(3,.ref 1 0),(11,.is 5 (I Zb.g a.Heads)),(12,i64 (a.Heads.length:Int)),(13,i64 f)] [(1,.box (Ze.g b)),(0,.box (Ze.g a))])) (encE:=(fun|.inl _=>(rq [(4,bv false)] [(1,.box (Ze.g b)),(0,.box (Ze.g a))])|.inr _=>(xq 0 [] [(1,.box (Ze.g b)),(0,.box (Ze.g a))]))) (fun f=>?_) B64 0) fun c=>?_
 refine io ?_ (lf rfl)
 refine bo rg fun j=>?_
 refine bo (e:=id) ?_ fun i=>?_
 refine io ?_ (lf rfl)
 refine bo (e:=id) ?_ fun h=>?_
 refine io ?_ (lf rfl)
 refine bo (ok123_3 d b.Heads j) fun l=>?_
 exact lf rfl
 exact lf rfl
 refine io (lf rfl) (lf rfl)
 rcases c with _|_
 exact lf rfl
 exact lf rfl
def F127 (d:Zp) (b:Ze) (c:Zk):Option Bool:=
 (F128 b).bind fun e=>if !e then some false else(F129 c.s' d).bind fun⟨f,g⟩=>(F130 c.s' f).bind fun⟨h,j⟩=>((if !g then some true else(F131 b h).bind fun i=>some (!i):Option (Bool))).bind fun a=>some a
theorem ok127 (d) (c:Zp) (a:Ze) (b:Zk):OD (d+5) 127 [.agg (Zp.g c),.agg (Ze.g a),.ip [.ip (Zk.g b)]]=(F127 c a b).map (fun j=>bv j):=by
 rw[od (fn:=p127) rfl rfl]
 refine bo (ok128 d a) fun k=>?_
 refine io (lf rfl) ?_
 refine bo (ok129 (d+1) b.s' c) fun⟨h,l⟩=>?_
 refine bo (ok130 (d+1) b.s' h) fun⟨i,m⟩=>?_
 refine bo (e:=id) ?_ fun f=>?_
 refine io (lf rfl) ?_
 refine bo (ok131 d a i) fun n=>?_
 exact lf rfl
 exact lf rfl
def Fn117_3 (u:List Zv) (s:Z0) (t:Int):Option (List Zv):=
 (aO (E:=List Zv) (fun(⟨c,m⟩:Int×(List Zv))=>if decide (c<(s.Measures.length:Int))then(lget s.Measures c).bind fun n=>(aO (E:=List Zv) (fun(⟨d,o⟩:Int×(List Zv))=>if decide (d<(n.Cells.length:Int))then(lget n.Cells d).bind fun p=>(aO (E:=List Zv) (fun(⟨e,q⟩:Int×(List Zv))=>if decide (e<(p.Voices.length:Int))then(lget p.Voices e).bind fun r=>(aO (E:=List Zv) (fun(⟨a,b⟩:Int×(List Zv))=>if decide (a<(r.Events.length:Int))then(lget r.Events a).bind fun f=>(F127 (Zp.mk 4 0 d c e a 0) f (Zk.mk s t b)).bind fun g=>(Fn101 g f.ID b s t).bind fun h=>some (.inl ((w64 (a+1)),h))else some (.inr b)) B64 (0,q)).bind fun i=>some (.inl ((w64 (e+1)),i))else some (.inr q)) B64 (0,o)).bind fun j=>some (.inl ((w64 (d+1)),j))else some (.inr o)) B64 (0,m)).bind fun k=>some (.inl ((w64 (c+1)),k))else some (.inr m)) B64 (0,u)).bind fun l=>some l
theorem okn117_3 (d) (w:List Zv) (c:Z0) (i:Int):runR (XD (d+6)) 117 [.ref 1 0,.fn 127 [] [.ref 3 0]] [(3,.box [.ref 1 0]),(2,.lst 147 3 false (I Zv.g w)),(1,.box (ck c i (.own 2)))] 4 false=(Fn117_3 w c i).map (fun(v:List Zv)=>((.tup [],[(3,.box [.ref 1 0]),(2,.lst 147 3 false (I Zv.g v)),(1,.box (ck c i (.own 2)))],0))):=by
 rw[xd (fn:=p117) rfl]
 refine bz lm ?_
 refine bo (aH (S:=Int×(List Zv)) (enc:=fun⟨b,r⟩=>(Q [(0,.ref 1 0),(1,.fn 127 [] [.ref 3 0]),(16,.is 22 (I Zm.g c.Measures)),(17,i64 (c.Measures.length:Int)),(18,i64 b)] [(3,.box [.ref 1 0]),(2,.lst 147 3 false (I Zv.g r)),(1,.box (ck c i (.own 2)))])) (encE:=(fun(q:List Zv)=>(xq 0 [] [(3,.box [.ref 1 0]),(2,.lst 147 3 false (I Zv.g q)),(1,.box (ck c i (.own 2)))]))) (fun⟨b,r⟩=>?_) B64 (0,w)) fun q=>?_
 refine io ?_ (lf rfl)
 refine bo rg fun a=>?_
 refine bz lm ?_
 refine bo (aH (S:=Int×(List Zv)) (enc:=fun⟨e,s⟩=>(Q [(0,.ref 1 0),(1,.fn 127 [] [.ref 3 0]),(4,i64 b),(16,.is 22 (I Zm.g c.Measures)),(17,i64 (c.Measures.length:Int)),(18,i64 b),(24,.is 2 (I Zw.g a.Cells)),(25,i64 (a.Cells.length:Int)),(26,i64 e)] [(4,.box (Zm.g a)),(3,.box [.ref 1 0]),(2,.lst 147 3 false (I Zv.g s)),(1,.box (ck c i (.own 2)))])) (encE:=(fun(p:List Zv)=>(xq 2 [(0,.ref 1 0),(1,.fn 127 [] [.ref 3 0]),(16,.is 22 (I Zm.g c.Measures)),(17,i64 (c.Measures.length:Int)),(18,i64 b)] [(4,.box (Zm.g a)),(3,.box [.ref 1 0]),(2,.lst 147 3 false (I Zv.g p)),(1,.box (ck c i (.own 2)))]))) (fun⟨e,s⟩=>?_) B64 (0,r)) fun p=>?_
 refine io ?_ (lf rfl)
 refine bo rg fun f=>?_
 refine bz lm ?_
 refine bo (aH (S:=Int×(List Zv)) (enc:=fun⟨j,t⟩=>(Q [(0,.ref 1 0),(1,.fn 127 [] [.ref 3 0]),(4,i64 b),(6,i64 e),(16,.is 22 (I Zm.g c.Measures)),(17,i64 (c.Measures.length:Int)),(18,i64 b),(24,.is 2 (I Zw.g a.Cells)),(25,i64 (a.Cells.length:Int)),(26,i64 e),(32,.is 2 (I Zo.g f.Voices)),(33,i64 (f.Voices.length:Int)),(34,i64 j)] [(5,.box (Zw.g f)),(4,.box (Zm.g a)),(3,.box [.ref 1 0]),(2,.lst 147 3 false (I Zv.g t)),(1,.box (ck c i (.own 2)))])) (encE:=(fun(o:List Zv)=>(xq 4 [(0,.ref 1 0),(1,.fn 127 [] [.ref 3 0]),(4,i64 b),(16,.is 22 (I Zm.g c.Measures)),(17,i64 (c.Measures.length:Int)),(18,i64 b),(24,.is 2 (I Zw.g a.Cells)),(25,i64 (a.Cells.length:Int)),(26,i64 e)] [(5,.box (Zw.g f)),(4,.box (Zm.g a)),(3,.box [.ref 1 0]),(2,.lst 147 3 false (I Zv.g o)),(1,.box (ck c i (.own 2)))]))) (fun⟨j,t⟩=>?_) B64 (0,s)) fun o=>?_
 refine io ?_ (lf rfl)
 refine bo rg fun l=>?_
 refine bz lm ?_
 refine bo (aH (S:=Int×(List Zv)) (enc:=fun⟨k,h⟩=>(Q [(0,.ref 1 0),(1,.fn 127 [] [.ref 3 0]),(4,i64 b),(6,i64 e),(8,i64 j),(16,.is 22 (I Zm.g c.Measures)),(17,i64 (c.Measures.length:Int)),(18,i64 b),(24,.is 2 (I Zw.g a.Cells)),(25,i64 (a.Cells.length:Int)),(26,i64 e),(32,.is 2 (I Zo.g f.Voices)),(33,i64 (f.Voices.length:Int)),(34,i64 j),(40,.is 13 (I Ze.g l.Events)),(41,i64 (l.Events.length:Int)),(42,i64 k)] [(6,.box (Zo.g l)),(5,.box (Zw.g f)),(4,.box (Zm.g a)),(3,.box [.ref 1 0]),(2,.lst 147 3 false (I Zv.g h)),(1,.box (ck c i (.own 2)))])) (encE:=(fun(n:List Zv)=>(xq 6 [(0,.ref 1 0),(1,.fn 127 [] [.ref 3 0]),(4,i64 b),(6,i64 e),(16,.is 22 (I Zm.g c.Measures)),(17,i64 (c.Measures.length:Int)),(18,i64 b),(24,.is 2 (I Zw.g a.Cells)),(25,i64 (a.Cells.length:Int)),(26,i64 e),(32,.is 2 (I Zo.g f.Voices)),(33,i64 (f.Voices.length:Int)),(34,i64 j)] [(6,.box (Zo.g l)),(5,.box (Zw.g f)),(4,.box (Zm.g a)),(3,.box [.ref 1 0]),(2,.lst 147 3 false (I Zv.g n)),(1,.box (ck c i (.own 2)))]))) (fun⟨k,h⟩=>?_) B64 (0,t)) fun n=>?_
 refine io ?_ (lf rfl)
 refine bo rg fun m=>?_
 refine bo (ok127 d (Zp.mk 4 0 e b j k 0) m (Zk.mk c i h)) fun u=>?_
 refine bo (okn101 (d+4) u m.ID h c i) fun x=>?_
 exact lf rfl
 exact lf rfl
 exact lf rfl
 exact lf rfl
 exact lf rfl
def Fn68 (a:List Zv) (b:Z0) (c:Int):Option (List Zv):=
 (Fn117_3 a b c).bind fun d=>some d
theorem okn68 (d) (c:List Zv) (a:Z0) (b:Int):runR (XD (d+7)) 68 [.ref 1 0] [(2,.lst 147 3 false (I Zv.g c)),(1,.box (ck a b (.own 2)))] 3 false=(Fn68 c a b).map (fun(e:List Zv)=>((.tup [],[(2,.lst 147 3 false (I Zv.g e)),(1,.box (ck a b (.own 2)))],0))):=by
 rw[xd (fn:=p68) rfl]
 refine bo (okn117_3 d c a b) fun f=>?_
 exact lf rfl
def F194 (a:Ze) (b:Int):Option Bool:=
 ((if decide (b>=(a.Lyrics.length:Int))then some true else(lget a.Lyrics b).bind fun c=>some (((c.Text==(⟨#[]⟩:ByteArray))&&((c.Link==0)&&true))!=false):Option (Bool))).bind fun d=>some d
theorem ok194 (d) (a:Ze) (b:Int):OD (d+1) 194 [.agg (Ze.g a),i64 b]=(F194 a b).map (fun c=>bv c):=by
 rw[od (fn:=p194) rfl rfl]
 refine bz lm ?_
 refine bo (e:=id) ?_ fun h=>?_
 refine io (lf rfl) ?_
 refine bo rg fun f=>?_
 exact lf rfl
 exact lf rfl
def Fn132 (v P U:Int) (W:List (Zp×Bool)) (X:List Zv) (V:Z0) (Y:Int):Option (List (Zp×Bool)):=
 (aO (E:=Int×Int×Int×Int×Int×Zy×(List (Zp×Bool))) (fun(⟨e,n,o,p,q,r,s,t⟩:Int×Int×Int×Int×Int×Int×Zy×(List (Zp×Bool)))=>if decide (e<(V.Measures.length:Int))then(lget V.Measures e).bind fun u=>((if decide (v>=(u.Cells.length:Int))then some true else(lget u.Cells v).bind fun R=>some (decide (P>=(R.Voices.length:Int))):Option (Bool))).bind fun S=>if S then some (.inl ((w64 (e+1)),n,o,p,q,r,s,t))else(lget u.Cells v).bind fun T=>(lget T.Voices P).bind fun O=>(aO (E:=Int×Int×Int×Int×Int×Zy×(List (Zp×Bool))) (fun(⟨a,f,g,h,i,j,b,c⟩:Int×Int×Int×Int×Int×Int×Zy×(List (Zp×Bool)))=>if decide (a<(O.Events.length:Int))then(lget O.Events a).bind fun k=>(F194 k U).bind fun w=>if w then some (.inl ((w64 (a+1)),f,g,h,i,j,b,c))else(lget k.Lyrics U).bind fun d=>((if(b.Link==1)&&(d.Text.toList==(⟨#[]⟩:ByteArray).toList)then some (mput c (Zp.mk f 0 g h i j 0) true)else some c:Option (List (Zp×Bool)))).bind fun l=>((if((d.Text.toList==(⟨#[]⟩:ByteArray).toList)&&(d.Link==2))&&(b.Link !=2)then some (mput l (Zp.mk 4 0 v e P a 0) true)else some l:Option (List (Zp×Bool)))).bind fun x=>some (.inl ((w64 (a+1)),4,v,e,P,a,d,x))else some (.inr (f,g,h,i,j,b,c))) B64 (0,n,o,p,q,r,s,t)).bind fun⟨y,z,A,B,C,D,F⟩=>some (.inl ((w64 (e+1)),y,z,A,B,C,D,F))else some (.inr (n,o,p,q,r,s,t))) B64 (0,0,0,0,0,0,(Zy.mk (⟨#[]⟩:ByteArray) 0),W)).bind fun⟨G,H,J,K,L,M,m⟩=>((if M.Link==1 then some (mput m (Zp.mk G 0 H J K L 0) true)else some m:Option (List (Zp×Bool)))).bind fun N=>some N
theorem okn132 (d) (x y N:Int) (Y:List (Zp×Bool)) (z:List Zv) (c:Z0) (A:Int):runR (XD (d+2)) 132 [.ref 1 0,i64 x,i64 y,i64 N,.map 3] [(3,.mp (I (mEnt (eA Zp.g) bv) Y)),(2,.lst 147 3 false (I Zv.g z)),(1,.box (ck c A (.own 2)))] 4 false=(Fn132 x y N Y z c A).map (fun(X:List (Zp×Bool))=>((.tup [],[(3,.mp (I (mEnt (eA Zp.g) bv) X)),(2,.lst 147 3 false (I Zv.g z)),(1,.box (ck c A (.own 2)))],0))):=by
 rw[xd (fn:=p132) rfl]
 refine bz lm ?_
 refine bo (aH (S:=Int×Int×Int×Int×Int×Int×Zy×(List (Zp×Bool))) (enc:=fun⟨a,O,P,R,T,U,V,W⟩=>(Q [(1,i64 x),(2,i64 y),(3,i64 N),(4,.map 3),(10,.ref 4 0),(11,.ref 5 0),(22,.is 22 (I Zm.g c.Measures)),(23,i64 (c.Measures.length:Int)),(24,i64 a)] [(5,.box [i64 O,i64 0,i64 P,i64 R,i64 T,i64 U,i64 0]),(4,.box (Zy.g V)),(3,.mp (I (mEnt (eA Zp.g) bv) W)),(2,.lst 147 3 false (I Zv.g z)),(1,.box (ck c A (.own 2)))])) (encE:=(fun(⟨m,n,o,p,q,v,w⟩:Int×Int×Int×Int×Int×Zy×(List (Zp×Bool)))=>(xq 0 [(4,.map 3),(10,.ref 4 0),(11,.ref 5 0)] [(5,.box [i64 m,i64 0,i64 n,i64 o,i64 p,i64 q,i64 0]),(4,.box (Zy.g v)),(3,.mp (I (mEnt (eA Zp.g) bv) w)),(2,.lst 147 3 false (I Zv.g z)),(1,.box (ck c A (.own 2)))]))) (fun⟨a,O,P,R,T,U,V,W⟩=>?_) B64 (0,0,0,0,0,0,(Zy.mk (⟨#[]⟩:ByteArray) 0),Y)) fun⟨m,n,o,p,q,v,w⟩=>?_
 refine io ?_ (lf rfl)
 refine bo rg fun B=>?_
 refine bz lm ?_
 refine bo (e:=id) ?_ fun b0=>?_
 refine io (lf rfl) ?_
 refine bo rg fun a0=>?_
 refine bz lm ?_
 exact lf rfl
 refine io (lf rfl) ?_
 refine bo rg fun b4=>?_
 refine bo rg fun r=>?_
 refine bz lm ?_
 refine bo (aH (S:=Int×Int×Int×Int×Int×Int×Zy×(List (Zp×Bool))) (enc:=fun⟨b,f,h,i,j,k,l,s⟩=>(Q [(1,i64 x),(2,i64 y),(3,i64 N),(4,.map 3),(10,.ref 4 0),(11,.ref 5 0),(12,i64 a),(22,.is 22 (I Zm.g c.Measures)),(23,i64 (c.Measures.length:Int)),(24,i64 a),(54,.is 13 (I Ze.g r.Events)),(55,i64 (r.Events.length:Int)),(56,i64 b)] [(6,.box (Zm.g B)),(5,.box [i64 f,i64 0,i64 h,i64 i,i64 j,i64 k,i64 0]),(4,.box (Zy.g l)),(3,.mp (I (mEnt (eA Zp.g) bv) s)),(2,.lst 147 3 false (I Zv.g z)),(1,.box (ck c A (.own 2)))])) (encE:=(fun(⟨E,F,G,H,J,K,L⟩:Int×Int×Int×Int×Int×Zy×(List (Zp×Bool)))=>(xq 2 [(1,i64 x),(2,i64 y),(3,i64 N),(4,.map 3),(10,.ref 4 0),(11,.ref 5 0),(22,.is 22 (I Zm.g c.Measures)),(23,i64 (c.Measures.length:Int)),(24,i64 a)] [(6,.box (Zm.g B)),(5,.box [i64 E,i64 0,i64 F,i64 G,i64 H,i64 J,i64 0]),(4,.box (Zy.g K)),(3,.mp (I (mEnt (eA Zp.g) bv) L)),(2,.lst 147 3 false (I Zv.g z)),(1,.box (ck c A (.own 2)))]))) (fun⟨b,f,h,i,j,k,l,s⟩=>?_) B64 (0,O,P,R,T,U,V,W)) fun⟨E,F,G,H,J,K,L⟩=>?_
 refine io ?_ (lf rfl)
 refine bo rg fun t=>?_
 refine bo (ok194 d t N) fun Z=>?_
 refine io (lf rfl) ?_
 refine bo rg fun C=>?_
 refine bz (gand rfl) ?_
 refine bo (e:=(fun(u:List (Zp×Bool))=>(nq [(1,i64 x),(2,i64 y),(3,i64 N),(4,.map 3),(10,.ref 4 0),(11,.ref 5 0),(12,i64 a),(16,.ref 8 0),(17,.ref 9 0),(22,.is 22 (I Zm.g c.Measures)),(23,i64 (c.Measures.length:Int)),(24,i64 a),(54,.is 13 (I Ze.g r.Events)),(55,i64 (r.Events.length:Int)),(56,i64 b)] [(9,.box (Zy.g C)),(8,.box [i64 4,i64 0,i64 x,i64 a,i64 y,i64 b,i64 0]),(7,.box (Ze.g t)),(6,.box (Zm.g B)),(5,.box [i64 f,i64 0,i64 h,i64 i,i64 j,i64 k,i64 0]),(4,.box (Zy.g l)),(3,.mp (I (mEnt (eA Zp.g) bv) u)),(2,.lst 147 3 false (I Zv.g z)),(1,.box (ck c A (.own 2)))]))) ?_ fun u=>?_
 refine io ?_ (lf rfl)
 refine bz (eE dH bv s (Zp.mk f 0 h i j k 0) true) ?_
 exact lf rfl
 refine bz (gand rfl) ?_
 refine bz (gand rfl) ?_
 refine bo (e:=(fun(D:List (Zp×Bool))=>(nq [(1,i64 x),(2,i64 y),(3,i64 N),(4,.map 3),(10,.ref 4 0),(11,.ref 5 0),(12,i64 a),(16,.ref 8 0),(17,.ref 9 0),(22,.is 22 (I Zm.g c.Measures)),(23,i64 (c.Measures.length:Int)),(24,i64 a),(54,.is 13 (I Ze.g r.Events)),(55,i64 (r.Events.length:Int)),(56,i64 b)] [(9,.box (Zy.g C)),(8,.box [i64 4,i64 0,i64 x,i64 a,i64 y,i64 b,i64 0]),(7,.box (Ze.g t)),(6,.box (Zm.g B)),(5,.box [i64 f,i64 0,i64 h,i64 i,i64 j,i64 k,i64 0]),(4,.box (Zy.g l)),(3,.mp (I (mEnt (eA Zp.g) bv) D)),(2,.lst 147 3 false (I Zv.g z)),(1,.box (ck c A (.own 2)))]))) ?_ fun D=>?_
 refine io ?_ (lf rfl)
 refine bz (eE dH bv u (Zp.mk 4 0 x a y b 0) true) ?_
 exact lf rfl
 exact lf rfl
 exact lf rfl
 refine bo (e:=(fun(M:List (Zp×Bool))=>(nq [] [(5,.box [i64 m,i64 0,i64 n,i64 o,i64 p,i64 q,i64 0]),(4,.box (Zy.g v)),(3,.mp (I (mEnt (eA Zp.g) bv) M)),(2,.lst 147 3 false (I Zv.g z)),(1,.box (ck c A (.own 2)))]))) ?_ fun M=>?_
 refine io ?_ (lf rfl)
 refine bz (eE dH bv w (Zp.mk m 0 n o p q 0) true) ?_
 exact lf rfl
 exact lf rfl
def F133 (a:Zp) (c:Ze) (b:List (Zp×Bool)):Option Bool:=
 some (mget b a false)
theorem ok133 (d) (a:Zp) (c:Ze) (b:List (Zp×Bool)):OD (d+1) 133 [.agg (Zp.g a),.agg (Ze.g c),.ip [.im (I (mEnt (eA Zp.g) bv) b)]]=(F133 a c b).map (fun e=>bv e):=by
 rw[od (fn:=p133) rfl rfl]
 refine bz (kE dH bv b a false) ?_
 exact lf rfl
def Fn117_4 (t:List (Zp×Bool)) (u:List Zv) (s:Z0) (v:Int):Option (List Zv):=
 (aO (E:=List Zv) (fun(⟨b,m⟩:Int×(List Zv))=>if decide (b<(s.Measures.length:Int))then(lget s.Measures b).bind fun n=>(aO (E:=List Zv) (fun(⟨c,o⟩:Int×(List Zv))=>if decide (c<(n.Cells.length:Int))then(lget n.Cells c).bind fun p=>(aO (E:=List Zv) (fun(⟨d,q⟩:Int×(List Zv))=>if decide (d<(p.Voices.length:Int))then(lget p.Voices d).bind fun r=>(aO (E:=List Zv) (fun(⟨a,e⟩:Int×(List Zv))=>if decide (a<(r.Events.length:Int))then(lget r.Events a).bind fun f=>(F133 (Zp.mk 4 0 c b d a 0) f t).bind fun g=>(Fn101 g f.ID e s v).bind fun h=>some (.inl ((w64 (a+1)),h))else some (.inr e)) B64 (0,q)).bind fun i=>some (.inl ((w64 (d+1)),i))else some (.inr q)) B64 (0,o)).bind fun j=>some (.inl ((w64 (c+1)),j))else some (.inr o)) B64 (0,m)).bind fun k=>some (.inl ((w64 (b+1)),k))else some (.inr m)) B64 (0,u)).bind fun l=>some l
theorem okn117_4 (d) (i:List (Zp×Bool)) (x:List Zv) (c:Z0) (j:Int):runR (XD (d+2)) 117 [.ref 1 0,.fn 133 [] [.ref 4 0]] [(4,.box [.map 3]),(3,.mp (I (mEnt (eA Zp.g) bv) i)),(2,.lst 147 3 false (I Zv.g x)),(1,.box (ck c j (.own 2)))] 5 false=(Fn117_4 i x c j).map (fun(w:List Zv)=>((.tup [],[(4,.box [.map 3]),(3,.mp (I (mEnt (eA Zp.g) bv) i)),(2,.lst 147 3 false (I Zv.g w)),(1,.box (ck c j (.own 2)))],0))):=by
 rw[xd (fn:=p117) rfl]
 refine bz lm ?_
 refine bo (aH (S:=Int×(List Zv)) (enc:=fun⟨b,s⟩=>(Q [(0,.ref 1 0),(1,.fn 133 [] [.ref 4 0]),(16,.is 22 (I Zm.g c.Measures)),(17,i64 (c.Measures.length:Int)),(18,i64 b)] [(4,.box [.map 3]),(3,.mp (I (mEnt (eA Zp.g) bv) i)),(2,.lst 147 3 false (I Zv.g s)),(1,.box (ck c j (.own 2)))])) (encE:=(fun(r:List Zv)=>(xq 0 [] [(4,.box [.map 3]),(3,.mp (I (mEnt (eA Zp.g) bv) i)),(2,.lst 147 3 false (I Zv.g r)),(1,.box (ck c j (.own 2)))]))) (fun⟨b,s⟩=>?_) B64 (0,x)) fun r=>?_
 refine io ?_ (lf rfl)
 refine bo rg fun a=>?_
 refine bz lm ?_
 refine bo (aH (S:=Int×(List Zv)) (enc:=fun⟨e,t⟩=>(Q [(0,.ref 1 0),(1,.fn 133 [] [.ref 4 0]),(4,i64 b),(16,.is 22 (I Zm.g c.Measures)),(17,i64 (c.Measures.length:Int)),(18,i64 b),(24,.is 2 (I Zw.g a.Cells)),(25,i64 (a.Cells.length:Int)),(26,i64 e)] [(5,.box (Zm.g a)),(4,.box [.map 3]),(3,.mp (I (mEnt (eA Zp.g) bv) i)),(2,.lst 147 3 false (I Zv.g t)),(1,.box (ck c j (.own 2)))])) (encE:=(fun(q:List Zv)=>(xq 2 [(0,.ref 1 0),(1,.fn 133 [] [.ref 4 0]),(16,.is 22 (I Zm.g c.Measures)),(17,i64 (c.Measures.length:Int)),(18,i64 b)] [(5,.box (Zm.g a)),(4,.box [.map 3]),(3,.mp (I (mEnt (eA Zp.g) bv) i)),(2,.lst 147 3 false (I Zv.g q)),(1,.box (ck c j (.own 2)))]))) (fun⟨e,t⟩=>?_) B64 (0,s)) fun q=>?_
 refine io ?_ (lf rfl)
 refine bo rg fun f=>?_
 refine bz lm ?_
 refine bo (aH (S:=Int×(List Zv)) (enc:=fun⟨h,u⟩=>(Q [(0,.ref 1 0),(1,.fn 133 [] [.ref 4 0]),(4,i64 b),(6,i64 e),(16,.is 22 (I Zm.g c.Measures)),(17,i64 (c.Measures.length:Int)),(18,i64 b),(24,.is 2 (I Zw.g a.Cells)),(25,i64 (a.Cells.length:Int)),(26,i64 e),(32,.is 2 (I Zo.g f.Voices)),(33,i64 (f.Voices.length:Int)),(34,i64 h)] [(6,.box (Zw.g f)),(5,.box (Zm.g a)),(4,.box [.map 3]),(3,.mp (I (mEnt (eA Zp.g) bv) i)),(2,.lst 147 3 false (I Zv.g u)),(1,.box (ck c j (.own 2)))])) (encE:=(fun(p:List Zv)=>(xq 4 [(0,.ref 1 0),(1,.fn 133 [] [.ref 4 0]),(4,i64 b),(16,.is 22 (I Zm.g c.Measures)),(17,i64 (c.Measures.length:Int)),(18,i64 b),(24,.is 2 (I Zw.g a.Cells)),(25,i64 (a.Cells.length:Int)),(26,i64 e)] [(6,.box (Zw.g f)),(5,.box (Zm.g a)),(4,.box [.map 3]),(3,.mp (I (mEnt (eA Zp.g) bv) i)),(2,.lst 147 3 false (I Zv.g p)),(1,.box (ck c j (.own 2)))]))) (fun⟨h,u⟩=>?_) B64 (0,t)) fun p=>?_
 refine io ?_ (lf rfl)
 refine bo rg fun m=>?_
 refine bz lm ?_
 refine bo (aH (S:=Int×(List Zv)) (enc:=fun⟨k,l⟩=>(Q [(0,.ref 1 0),(1,.fn 133 [] [.ref 4 0]),(4,i64 b),(6,i64 e),(8,i64 h),(16,.is 22 (I Zm.g c.Measures)),(17,i64 (c.Measures.length:Int)),(18,i64 b),(24,.is 2 (I Zw.g a.Cells)),(25,i64 (a.Cells.length:Int)),(26,i64 e),(32,.is 2 (I Zo.g f.Voices)),(33,i64 (f.Voices.length:Int)),(34,i64 h),(40,.is 13 (I Ze.g m.Events)),(41,i64 (m.Events.length:Int)),(42,i64 k)] [(7,.box (Zo.g m)),(6,.box (Zw.g f)),(5,.box (Zm.g a)),(4,.box [.map 3]),(3,.mp (I (mEnt (eA Zp.g) bv) i)),(2,.lst 147 3 false (I Zv.g l)),(1,.box (ck c j (.own 2)))])) (encE:=(fun(o:List Zv)=>(xq 6 [(0,.ref 1 0),(1,.fn 133 [] [.ref 4 0]),(4,i64 b),(6,i64 e),(16,.is 22 (I Zm.g c.Measures)),(17,i64 (c.Measures.length:Int)),(18,i64 b),(24,.is 2 (I Zw.g a.Cells)),(25,i64 (a.Cells.length:Int)),(26,i64 e),(32,.is 2 (I Zo.g f.Voices)),(33,i64 (f.Voices.length:Int)),(34,i64 h)] [(7,.box (Zo.g m)),(6,.box (Zw.g f)),(5,.box (Zm.g a)),(4,.box [.map 3]),(3,.mp (I (mEnt (eA Zp.g) bv) i)),(2,.lst 147 3 false (I Zv.g o)),(1,.box (ck c j (.own 2)))]))) (fun⟨k,l⟩=>?_) B64 (0,u)) fun o=>?_
 refine io ?_ (lf rfl)
 refine bo rg fun n=>?_
 refine bo (ok133 d (Zp.mk 4 0 e b h k 0) n i) fun v=>?_
 refine bo (okn101 d v n.ID l c j) fun y=>?_
 exact lf rfl
 exact lf rfl
 exact lf rfl
 exact lf rfl
 exact lf rfl
def Fn69 (m:List Zv) (g:Z0) (n:Int):Option (List Zv):=
 (F52 g).bind fun o=>(aO (E:=List (Zp×Bool)) (fun(⟨a,d⟩:Int×(List (Zp×Bool)))=>if decide (a<o)then(aO (E:=List (Zp×Bool)) (fun(⟨b,e⟩:Int×(List (Zp×Bool)))=>if decide (b<2)then(aO (E:=List (Zp×Bool)) (fun(⟨c,f⟩:Int×(List (Zp×Bool)))=>if decide (c<4)then(Fn132 a b c f m g n).bind fun h=>some (.inl ((w64 (c+1)),h))else some (.inr f)) B64 (0,e)).bind fun i=>some (.inl ((w64 (b+1)),i))else some (.inr e)) B64 (0,d)).bind fun j=>some (.inl ((w64 (a+1)),j))else some (.inr d)) B64 (0,[])).bind fun k=>(Fn117_4 k m g n).bind fun l=>some l
theorem okn69 (d) (f:List Zv) (c:Z0) (e:Int):runR (XD (d+3)) 69 [.ref 1 0] [(2,.lst 147 3 false (I Zv.g f)),(1,.box (ck c e (.own 2)))] 3 false=(Fn69 f c e).map (fun(p:List Zv)=>((.tup [],[(2,.lst 147 3 false (I Zv.g p)),(1,.box (ck c e (.own 2)))],0))):=by
 rw[xd (fn:=p69) rfl]
 refine bo (ok52 (d+1) c) fun o=>?_
 refine bo (aH (S:=Int×(List (Zp×Bool))) (enc:=fun⟨a,h⟩=>(Q [(0,.ref 1 0),(2,.ref 4 0),(13,i64 o),(14,i64 a)] [(4,.box [.map 3]),(3,.mp (I (mEnt (eA Zp.g) bv) h)),(2,.lst 147 3 false (I Zv.g f)),(1,.box (ck c e (.own 2)))])) (encE:=(fun(l:List (Zp×Bool))=>(xq 0 [(0,.ref 1 0),(2,.ref 4 0)] [(4,.box [.map 3]),(3,.mp (I (mEnt (eA Zp.g) bv) l)),(2,.lst 147 3 false (I Zv.g f)),(1,.box (ck c e (.own 2)))]))) (fun⟨a,h⟩=>?_) B64 (0,[])) fun l=>?_
 refine io ?_ (lf rfl)
 refine bo (aH (S:=Int×(List (Zp×Bool))) (enc:=fun⟨b,i⟩=>(Q [(0,.ref 1 0),(2,.ref 4 0),(4,i64 a),(13,i64 o),(14,i64 a),(17,i64 b)] [(4,.box [.map 3]),(3,.mp (I (mEnt (eA Zp.g) bv) i)),(2,.lst 147 3 false (I Zv.g f)),(1,.box (ck c e (.own 2)))])) (encE:=(fun(n:List (Zp×Bool))=>(xq 2 [(0,.ref 1 0),(2,.ref 4 0),(13,i64 o),(14,i64 a)] [(4,.box [.map 3]),(3,.mp (I (mEnt (eA Zp.g) bv) n)),(2,.lst 147 3 false (I Zv.g f)),(1,.box (ck c e (.own 2)))]))) (fun⟨b,i⟩=>?_) B64 (0,h)) fun n=>?_
 refine io ?_ (lf rfl)
 refine bo (aH (S:=Int×(List (Zp×Bool))) (enc:=fun⟨j,k⟩=>(Q [(0,.ref 1 0),(2,.ref 4 0),(4,i64 a),(5,i64 b),(13,i64 o),(14,i64 a),(17,i64 b),(20,i64 j)] [(4,.box [.map 3]),(3,.mp (I (mEnt (eA Zp.g) bv) k)),(2,.lst 147 3 false (I Zv.g f)),(1,.box (ck c e (.own 2)))])) (encE:=(fun(m:List (Zp×Bool))=>(xq 4 [(0,.ref 1 0),(2,.ref 4 0),(4,i64 a),(13,i64 o),(14,i64 a),(17,i64 b)] [(4,.box [.map 3]),(3,.mp (I (mEnt (eA Zp.g) bv) m)),(2,.lst 147 3 false (I Zv.g f)),(1,.box (ck c e (.own 2)))]))) (fun⟨j,k⟩=>?_) B64 (0,i)) fun m=>?_
 refine io ?_ (lf rfl)
 refine bo (okn132 d a b j k f c e) fun q=>?_
 exact lf rfl
 exact lf rfl
 exact lf rfl
 refine bo (okn117_4 d l f c e) fun r=>?_
 exact lf rfl
def Fn56_2 (a:Z0):Option Unit:=
 some ()
theorem okn56_2 (d) (a:Z0):runR (XD (d+1)) 56 [.ref 0 0] [(0,.box (Z0.g a))] 4 true=(Fn56_2 a).map (fun(_:Unit)=>((.fn 100 [] [.ref 4 0],[(4,.box [.ref 0 0]),(0,.box (Z0.g a))],5))):=by
 rw[xd (fn:=p56) rfl]
 exact lf rfl
def Fy30_13 (d e:Int) (f g:Int) (h i j:Int) (b:Zj) (k:Bool) (c:Zp) (a:Zz):Option (Unit⊕Unit):=
 if((b.ID.Site==a.Site)&&((b.ID.Number==a.Number)&&true))!=false then some (.inl ())else some (.inr ())
theorem oky30_13 (d) (c e:Int) (f h:Int) (i j k:Int) (m:Zj) (l:Bool) (b:Zp) (a:Zz):yldR (XD (d+1)) 5 [.agg [i64 c,i64 e,i64 f,i64 h,i64 i,i64 j,i64 k],.ip (Zj.g m)] [(5,.loop 22 [(3,.ref 1 0),(4,.ref 2 0),(5,.ref 3 0)] [13,14] q30_13a q30_13b false none),(3,.box [bv l]),(2,.box (Zp.g b)),(1,.box (Zz.g a))] 6=(Fy30_13 c e f h i j k m l b a).map (fun|.inl _=>((bv false,[(5,.loop 22 [(3,.ref 1 0),(4,.ref 2 0),(5,.ref 3 0)] [13,14] q30_13a q30_13b false (some .ret)),(3,.box [bv true]),(2,.box [i64 c,i64 e,i64 f,i64 h,i64 i,i64 j,i64 k]),(1,.box (Zz.g a))],0))|.inr _=>((bv true,[(5,.loop 22 [(3,.ref 1 0),(4,.ref 2 0),(5,.ref 3 0)] [13,14] q30_13a q30_13b false none),(3,.box [bv l]),(2,.box (Zp.g b)),(1,.box (Zz.g a))],0))):=by
 rw[yd]
 refine bz (okg gS) ?_
 refine io (lf rfl) (lf rfl)
def Fy30_13_2 (d e:Int) (f g:Int) (h i j:Int) (b:Zf) (k:Bool) (c:Zp) (a:Zz):Option (Unit⊕Unit):=
 if((b.ID.Site==a.Site)&&((b.ID.Number==a.Number)&&true))!=false then some (.inl ())else some (.inr ())
theorem oky30_13_2 (d) (c e:Int) (f h:Int) (i j k:Int) (m:Zf) (l:Bool) (b:Zp) (a:Zz):yldR (XD (d+1)) 5 [.agg [i64 c,i64 e,i64 f,i64 h,i64 i,i64 j,i64 k],.ip (Zf.g m)] [(5,.loop 22 [(3,.ref 1 0),(4,.ref 2 0),(5,.ref 3 0)] [13,14] q30_13a q30_13b false none),(3,.box [bv l]),(2,.box (Zp.g b)),(1,.box (Zz.g a))] 6=(Fy30_13_2 c e f h i j k m l b a).map (fun|.inl _=>((bv false,[(5,.loop 22 [(3,.ref 1 0),(4,.ref 2 0),(5,.ref 3 0)] [13,14] q30_13a q30_13b false (some .ret)),(3,.box [bv true]),(2,.box [i64 c,i64 e,i64 f,i64 h,i64 i,i64 j,i64 k]),(1,.box (Zz.g a))],0))|.inr _=>((bv true,[(5,.loop 22 [(3,.ref 1 0),(4,.ref 2 0),(5,.ref 3 0)] [13,14] q30_13a q30_13b false none),(3,.box [bv l]),(2,.box (Zp.g b)),(1,.box (Zz.g a))],0))):=by
 rw[yd]
 refine bz (okg gS) ?_
 refine io (lf rfl) (lf rfl)
def Fy30_13_3 (d e:Int) (f g:Int) (h i j:Int) (b:Zm) (k:Bool) (c:Zp) (a:Zz):Option (Unit⊕Unit):=
 if((b.ID.Site==a.Site)&&((b.ID.Number==a.Number)&&true))!=false then some (.inl ())else some (.inr ())
theorem oky30_13_3 (d) (c e:Int) (f h:Int) (i j k:Int) (m:Zm) (l:Bool) (b:Zp) (a:Zz):yldR (XD (d+1)) 5 [.agg [i64 c,i64 e,i64 f,i64 h,i64 i,i64 j,i64 k],.ip (Zm.g m)] [(5,.loop 22 [(3,.ref 1 0),(4,.ref 2 0),(5,.ref 3 0)] [13,14] q30_13a q30_13b false none),(3,.box [bv l]),(2,.box (Zp.g b)),(1,.box (Zz.g a))] 6=(Fy30_13_3 c e f h i j k m l b a).map (fun|.inl _=>((bv false,[(5,.loop 22 [(3,.ref 1 0),(4,.ref 2 0),(5,.ref 3 0)] [13,14] q30_13a q30_13b false (some .ret)),(3,.box [bv true]),(2,.box [i64 c,i64 e,i64 f,i64 h,i64 i,i64 j,i64 k]),(1,.box (Zz.g a))],0))|.inr _=>((bv true,[(5,.loop 22 [(3,.ref 1 0),(4,.ref 2 0),(5,.ref 3 0)] [13,14] q30_13a q30_13b false none),(3,.box [bv l]),(2,.box (Zp.g b)),(1,.box (Zz.g a))],0))):=by
 rw[yd]
 refine bz (okg gS) ?_
 refine io (lf rfl) (lf rfl)
def Fy30_13_4 (d e:Int) (f g:Int) (h i j:Int) (b:Ze) (k:Bool) (c:Zp) (a:Zz):Option (Unit⊕Unit):=
 if((b.ID.Site==a.Site)&&((b.ID.Number==a.Number)&&true))!=false then some (.inl ())else some (.inr ())
theorem oky30_13_4 (d) (c e:Int) (f h:Int) (i j k:Int) (m:Ze) (l:Bool) (b:Zp) (a:Zz):yldR (XD (d+1)) 5 [.agg [i64 c,i64 e,i64 f,i64 h,i64 i,i64 j,i64 k],.ip (Ze.g m)] [(5,.loop 22 [(3,.ref 1 0),(4,.ref 2 0),(5,.ref 3 0)] [13,14] q30_13a q30_13b false none),(3,.box [bv l]),(2,.box (Zp.g b)),(1,.box (Zz.g a))] 6=(Fy30_13_4 c e f h i j k m l b a).map (fun|.inl _=>((bv false,[(5,.loop 22 [(3,.ref 1 0),(4,.ref 2 0),(5,.ref 3 0)] [13,14] q30_13a q30_13b false (some .ret)),(3,.box [bv true]),(2,.box [i64 c,i64 e,i64 f,i64 h,i64 i,i64 j,i64 k]),(1,.box (Zz.g a))],0))|.inr _=>((bv true,[(5,.loop 22 [(3,.ref 1 0),(4,.ref 2 0),(5,.ref 3 0)] [13,14] q30_13a q30_13b false none),(3,.box [bv l]),(2,.box (Zp.g b)),(1,.box (Zz.g a))],0))):=by
 rw[yd]
 refine bz (okg gS) ?_
 refine io (lf rfl) (lf rfl)
def Fy30_13_5 (d e:Int) (f g:Int) (h i j:Int) (b:Zn) (k:Bool) (c:Zp) (a:Zz):Option (Unit⊕Unit):=
 if((b.ID.Site==a.Site)&&((b.ID.Number==a.Number)&&true))!=false then some (.inl ())else some (.inr ())
theorem oky30_13_5 (d) (c e:Int) (f h:Int) (i j k:Int) (m:Zn) (l:Bool) (b:Zp) (a:Zz):yldR (XD (d+1)) 5 [.agg [i64 c,i64 e,i64 f,i64 h,i64 i,i64 j,i64 k],.ip (Zn.g m)] [(5,.loop 22 [(3,.ref 1 0),(4,.ref 2 0),(5,.ref 3 0)] [13,14] q30_13a q30_13b false none),(3,.box [bv l]),(2,.box (Zp.g b)),(1,.box (Zz.g a))] 6=(Fy30_13_5 c e f h i j k m l b a).map (fun|.inl _=>((bv false,[(5,.loop 22 [(3,.ref 1 0),(4,.ref 2 0),(5,.ref 3 0)] [13,14] q30_13a q30_13b false (some .ret)),(3,.box [bv true]),(2,.box [i64 c,i64 e,i64 f,i64 h,i64 i,i64 j,i64 k]),(1,.box (Zz.g a))],0))|.inr _=>((bv true,[(5,.loop 22 [(3,.ref 1 0),(4,.ref 2 0),(5,.ref 3 0)] [13,14] q30_13a q30_13b false none),(3,.box [bv l]),(2,.box (Zp.g b)),(1,.box (Zz.g a))],0))):=by
 rw[yd]
 refine bz (okg gS) ?_
 refine io (lf rfl) (lf rfl)
def Fn100_2 (g:Z0) (v:Bool) (F:Zp) (G:Zz):Option (Zp⊕Unit):=
 (aO (E:=(Int×Int×Int)⊕Unit) (fun(⟨H,f⟩:Int×Int)=>if decide (f<(g.Parts.length:Int))then(lget g.Parts f).bind fun J=>(Fy30_13 1 f 0 0 0 0 0 J v F G).bind fun K=>(match K with|.inl _=>some (.inr (.inl (1,f,0)))|.inr _=>(lget g.Parts f).bind fun L=>(aO (E:=(Int×Int)⊕Int) (fun(⟨h,i⟩:Int×Int)=>if decide (i<(L.Staves.length:Int))then(lget g.Parts f).bind fun M=>(lget M.Staves i).bind fun N=>(Fy30_13_2 2 0 h 0 0 0 0 N v F G).bind fun O=>(match O with|.inl _=>some (.inr (.inl (h,h)))|.inr _=>some (.inl ((w64 (h+1)),(w64 (i+1)))))else some (.inr (.inr h))) B64 (H,0)).bind fun P=>(match P with|.inl ⟨x33,x34⟩=>some (.inr (.inl (2,0,x34)))|.inr x35=>some (.inl (x35,(w64 (f+1))))))else some (.inr (.inr ()))) B64 (0,0)).bind fun R=>(match R with|.inl ⟨x37,x38,x39⟩=>some (.inl (Zp.mk x37 x38 x39 0 0 0 0))|.inr _=>(aO (E:=(Int×Int×Int×Int×Int)⊕Unit) (fun(a:Int)=>if decide (a<(g.Measures.length:Int))then(lget g.Measures a).bind fun j=>(Fy30_13_3 3 0 0 a 0 0 0 j v F G).bind fun k=>(match k with|.inl _=>some (.inr (.inl (3,0,a,0,0)))|.inr _=>(lget g.Measures a).bind fun l=>(aO (E:=(Int×Int×Int)⊕Unit) (fun(b:Int)=>if decide (b<(l.Cells.length:Int))then(lget g.Measures a).bind fun m=>(lget m.Cells b).bind fun n=>(aO (E:=(Int×Int)⊕Unit) (fun(c:Int)=>if decide (c<(n.Voices.length:Int))then(lget g.Measures a).bind fun o=>(lget o.Cells b).bind fun p=>(lget p.Voices c).bind fun q=>(aO (E:=Int⊕Unit) (fun(d:Int)=>if decide (d<(q.Events.length:Int))then(lget g.Measures a).bind fun r=>(lget r.Cells b).bind fun s=>(lget s.Voices c).bind fun t=>(lget t.Events d).bind fun u=>(Fy30_13_4 4 0 b a c d 0 u v F G).bind fun w=>(match w with|.inl _=>some (.inr (.inl d))|.inr _=>some (.inl (w64 (d+1))))else some (.inr (.inr ()))) B64 0).bind fun x=>(match x with|.inl x201=>some (.inr (.inl (c,x201)))|.inr _=>some (.inl (w64 (c+1))))else some (.inr (.inr ()))) B64 0).bind fun y=>(match y with|.inl ⟨x203,x204⟩=>some (.inr (.inl (b,x203,x204)))|.inr _=>some (.inl (w64 (b+1))))else some (.inr (.inr ()))) B64 0).bind fun z=>(match z with|.inl ⟨x206,x207,x208⟩=>some (.inr (.inl (4,x206,a,x207,x208)))|.inr _=>some (.inl (w64 (a+1)))))else some (.inr (.inr ()))) B64 0).bind fun A=>(match A with|.inl ⟨x210,x211,x212,x213,x214⟩=>some (.inl (Zp.mk x210 0 x211 x212 x213 x214 0))|.inr _=>(aO (E:=Int⊕Unit) (fun(e:Int)=>if decide (e<(g.Spanners.length:Int))then(lget g.Spanners e).bind fun B=>(Fy30_13_5 5 0 0 0 0 0 e B v F G).bind fun C=>(match C with|.inl _=>some (.inr (.inl e))|.inr _=>some (.inl (w64 (e+1))))else some (.inr (.inr ()))) B64 0).bind fun D=>(match D with|.inl x221=>some (.inl (Zp.mk 5 0 0 0 0 0 x221))|.inr _=>some (.inr ()))))
theorem okn100_2 (d) (c:Z0) (i:Bool) (j:Zp) (e:Zz):runR (XD (d+2)) 100 [.yld 5,.ref 4 0] [(5,.loop 22 [(3,.ref 1 0),(4,.ref 2 0),(5,.ref 3 0)] [13,14] q30_13a q30_13b false none),(4,.box [.ref 0 0]),(0,.box (Z0.g c)),(3,.box [bv i]),(2,.box (Zp.g j)),(1,.box (Zz.g e))] 6 false=(Fn100_2 c i j e).map (fun|.inl x223=>((.tup [],[(5,.loop 22 [(3,.ref 1 0),(4,.ref 2 0),(5,.ref 3 0)] [13,14] q30_13a q30_13b false (some .ret)),(4,.box [.ref 0 0]),(0,.box (Z0.g c)),(3,.box [bv true]),(2,.box (Zp.g x223)),(1,.box (Zz.g e))],0))|.inr _=>((.tup [],[(5,.loop 22 [(3,.ref 1 0),(4,.ref 2 0),(5,.ref 3 0)] [13,14] q30_13a q30_13b false none),(4,.box [.ref 0 0]),(0,.box (Z0.g c)),(3,.box [bv i]),(2,.box (Zp.g j)),(1,.box (Zz.g e))],0))):=by
 rw[xd (fn:=p100) rfl]
 refine bz lm ?_
 refine bo (aH (S:=Int×Int) (enc:=fun⟨A,k⟩=>(Q [(0,.yld 5),(1,.ref 4 0),(3,i64 A),(15,i64 (c.Parts.length:Int)),(16,i64 k)] [(5,.loop 22 [(3,.ref 1 0),(4,.ref 2 0),(5,.ref 3 0)] [13,14] q30_13a q30_13b false none),(4,.box [.ref 0 0]),(0,.box (Z0.g c)),(3,.box [bv i]),(2,.box (Zp.g j)),(1,.box (Zz.g e))])) (encE:=(fun|.inl ⟨U,V,W⟩=>(rq [(0,.yld 5),(1,.ref 4 0)] [(5,.loop 22 [(3,.ref 1 0),(4,.ref 2 0),(5,.ref 3 0)] [13,14] q30_13a q30_13b false (some .ret)),(4,.box [.ref 0 0]),(0,.box (Z0.g c)),(3,.box [bv true]),(2,.box [i64 U,i64 V,i64 W,i64 0,i64 0,i64 0,i64 0]),(1,.box (Zz.g e))])|.inr _=>(xq 0 [(0,.yld 5),(1,.ref 4 0)] [(5,.loop 22 [(3,.ref 1 0),(4,.ref 2 0),(5,.ref 3 0)] [13,14] q30_13a q30_13b false none),(4,.box [.ref 0 0]),(0,.box (Z0.g c)),(3,.box [bv i]),(2,.box (Zp.g j)),(1,.box (Zz.g e))]))) (fun⟨A,k⟩=>?_) B64 (0,0)) fun b5=>?_
 refine io ?_ (lf rfl)
 refine bo rg fun X=>?_
 refine bo (oky30_13 d 1 k 0 0 0 0 0 X i j e) fun Y=>?_
 rcases Y with _|_
 exact lf rfl
 refine bo rg fun Z=>?_
 refine bz lm ?_
 refine bo (aH (S:=Int×Int) (enc:=fun⟨B,P⟩=>(Q [(0,.yld 5),(1,.ref 4 0),(3,i64 B),(4,i64 k),(15,i64 (c.Parts.length:Int)),(16,i64 k),(39,i64 (Z.Staves.length:Int)),(40,i64 P)] [(5,.loop 22 [(3,.ref 1 0),(4,.ref 2 0),(5,.ref 3 0)] [13,14] q30_13a q30_13b false none),(3,.box [bv i]),(2,.box (Zp.g j)),(1,.box (Zz.g e)),(4,.box [.ref 0 0]),(0,.box (Z0.g c))])) (encE:=(fun|.inl ⟨R,T⟩=>(rq [(0,.yld 5),(1,.ref 4 0),(3,i64 R),(15,i64 (c.Parts.length:Int)),(16,i64 k)] [(5,.loop 22 [(3,.ref 1 0),(4,.ref 2 0),(5,.ref 3 0)] [13,14] q30_13a q30_13b false (some .ret)),(3,.box [bv true]),(2,.box [i64 2,i64 0,i64 T,i64 0,i64 0,i64 0,i64 0]),(1,.box (Zz.g e)),(4,.box [.ref 0 0]),(0,.box (Z0.g c))])|.inr x35=>(xq 2 [(0,.yld 5),(1,.ref 4 0),(3,i64 x35),(15,i64 (c.Parts.length:Int)),(16,i64 k)] [(5,.loop 22 [(3,.ref 1 0),(4,.ref 2 0),(5,.ref 3 0)] [13,14] q30_13a q30_13b false none),(3,.box [bv i]),(2,.box (Zp.g j)),(1,.box (Zz.g e)),(4,.box [.ref 0 0]),(0,.box (Z0.g c))]))) (fun⟨B,P⟩=>?_) B64 (A,0)) fun b4=>?_
 refine io ?_ (lf rfl)
 refine bo rg fun d2=>?_
 refine bo rg fun a0=>?_
 refine bo (oky30_13_2 d 2 0 B 0 0 0 0 a0 i j e) fun b0=>?_
 rcases b0 with _|_
 exact lf rfl
 exact lf rfl
 rcases b4 with⟨R,T⟩|x35
 exact lf rfl
 exact lf rfl
 rcases b5 with⟨U,V,W⟩|_
 exact lf rfl
 refine bz lm ?_
 refine bo (aH (S:=Int) (enc:=fun a=>(Q [(0,.yld 5),(1,.ref 4 0),(67,i64 (c.Measures.length:Int)),(68,i64 a)] [(5,.loop 22 [(3,.ref 1 0),(4,.ref 2 0),(5,.ref 3 0)] [13,14] q30_13a q30_13b false none),(4,.box [.ref 0 0]),(0,.box (Z0.g c)),(3,.box [bv i]),(2,.box (Zp.g j)),(1,.box (Zz.g e))])) (encE:=(fun|.inl ⟨u,v,w,x,y⟩=>(rq [(0,.yld 5),(1,.ref 4 0)] [(5,.loop 22 [(3,.ref 1 0),(4,.ref 2 0),(5,.ref 3 0)] [13,14] q30_13a q30_13b false (some .ret)),(4,.box [.ref 0 0]),(0,.box (Z0.g c)),(3,.box [bv true]),(2,.box [i64 u,i64 0,i64 v,i64 w,i64 x,i64 y,i64 0]),(1,.box (Zz.g e))])|.inr _=>(xq 4 [(0,.yld 5),(1,.ref 4 0)] [(5,.loop 22 [(3,.ref 1 0),(4,.ref 2 0),(5,.ref 3 0)] [13,14] q30_13a q30_13b false none),(4,.box [.ref 0 0]),(0,.box (Z0.g c)),(3,.box [bv i]),(2,.box (Zp.g j)),(1,.box (Zz.g e))]))) (fun a=>?_) B64 0) fun L=>?_
 refine io ?_ (lf rfl)
 refine bo rg fun C=>?_
 refine bo (oky30_13_3 d 3 0 0 a 0 0 0 C i j e) fun D=>?_
 rcases D with _|_
 exact lf rfl
 refine bo rg fun h=>?_
 refine bz lm ?_
 refine bo (aH (S:=Int) (enc:=fun b=>(Q [(0,.yld 5),(1,.ref 4 0),(6,i64 a),(67,i64 (c.Measures.length:Int)),(68,i64 a),(91,i64 (h.Cells.length:Int)),(92,i64 b)] [(5,.loop 22 [(3,.ref 1 0),(4,.ref 2 0),(5,.ref 3 0)] [13,14] q30_13a q30_13b false none),(3,.box [bv i]),(2,.box (Zp.g j)),(1,.box (Zz.g e)),(4,.box [.ref 0 0]),(0,.box (Z0.g c))])) (encE:=(fun|.inl ⟨r,s,t⟩=>(rq [(0,.yld 5),(1,.ref 4 0),(67,i64 (c.Measures.length:Int)),(68,i64 a)] [(5,.loop 22 [(3,.ref 1 0),(4,.ref 2 0),(5,.ref 3 0)] [13,14] q30_13a q30_13b false (some .ret)),(3,.box [bv true]),(2,.box [i64 4,i64 0,i64 r,i64 a,i64 s,i64 t,i64 0]),(1,.box (Zz.g e)),(4,.box [.ref 0 0]),(0,.box (Z0.g c))])|.inr _=>(xq 6 [(0,.yld 5),(1,.ref 4 0),(67,i64 (c.Measures.length:Int)),(68,i64 a)] [(5,.loop 22 [(3,.ref 1 0),(4,.ref 2 0),(5,.ref 3 0)] [13,14] q30_13a q30_13b false none),(3,.box [bv i]),(2,.box (Zp.g j)),(1,.box (Zz.g e)),(4,.box [.ref 0 0]),(0,.box (Z0.g c))]))) (fun b=>?_) B64 0) fun K=>?_
 refine io ?_ (lf rfl)
 refine bo rg fun b6=>?_
 refine bo rg fun l=>?_
 refine bz lm ?_
 refine bo (aH (S:=Int) (enc:=fun f=>(Q [(0,.yld 5),(1,.ref 4 0),(6,i64 a),(7,i64 b),(67,i64 (c.Measures.length:Int)),(68,i64 a),(91,i64 (h.Cells.length:Int)),(92,i64 b),(107,i64 (l.Voices.length:Int)),(108,i64 f)] [(5,.loop 22 [(3,.ref 1 0),(4,.ref 2 0),(5,.ref 3 0)] [13,14] q30_13a q30_13b false none),(3,.box [bv i]),(2,.box (Zp.g j)),(1,.box (Zz.g e)),(4,.box [.ref 0 0]),(0,.box (Z0.g c))])) (encE:=(fun|.inl ⟨p,q⟩=>(rq [(0,.yld 5),(1,.ref 4 0),(6,i64 a),(67,i64 (c.Measures.length:Int)),(68,i64 a),(91,i64 (h.Cells.length:Int)),(92,i64 b)] [(5,.loop 22 [(3,.ref 1 0),(4,.ref 2 0),(5,.ref 3 0)] [13,14] q30_13a q30_13b false (some .ret)),(3,.box [bv true]),(2,.box [i64 4,i64 0,i64 b,i64 a,i64 p,i64 q,i64 0]),(1,.box (Zz.g e)),(4,.box [.ref 0 0]),(0,.box (Z0.g c))])|.inr _=>(xq 8 [(0,.yld 5),(1,.ref 4 0),(6,i64 a),(67,i64 (c.Measures.length:Int)),(68,i64 a),(91,i64 (h.Cells.length:Int)),(92,i64 b)] [(5,.loop 22 [(3,.ref 1 0),(4,.ref 2 0),(5,.ref 3 0)] [13,14] q30_13a q30_13b false none),(3,.box [bv i]),(2,.box (Zp.g j)),(1,.box (Zz.g e)),(4,.box [.ref 0 0]),(0,.box (Z0.g c))]))) (fun f=>?_) B64 0) fun J=>?_
 refine io ?_ (lf rfl)
 refine bo rg fun b7=>?_
 refine bo rg fun b8=>?_
 refine bo rg fun E=>?_
 refine bz lm ?_
 refine bo (aH (S:=Int) (enc:=fun m=>(Q [(0,.yld 5),(1,.ref 4 0),(6,i64 a),(7,i64 b),(8,i64 f),(67,i64 (c.Measures.length:Int)),(68,i64 a),(91,i64 (h.Cells.length:Int)),(92,i64 b),(107,i64 (l.Voices.length:Int)),(108,i64 f),(127,i64 (E.Events.length:Int)),(128,i64 m)] [(5,.loop 22 [(3,.ref 1 0),(4,.ref 2 0),(5,.ref 3 0)] [13,14] q30_13a q30_13b false none),(3,.box [bv i]),(2,.box (Zp.g j)),(1,.box (Zz.g e)),(4,.box [.ref 0 0]),(0,.box (Z0.g c))])) (encE:=(fun|.inl o=>(rq [(0,.yld 5),(1,.ref 4 0),(6,i64 a),(7,i64 b),(67,i64 (c.Measures.length:Int)),(68,i64 a),(91,i64 (h.Cells.length:Int)),(92,i64 b),(107,i64 (l.Voices.length:Int)),(108,i64 f)] [(5,.loop 22 [(3,.ref 1 0),(4,.ref 2 0),(5,.ref 3 0)] [13,14] q30_13a q30_13b false (some .ret)),(3,.box [bv true]),(2,.box [i64 4,i64 0,i64 b,i64 a,i64 f,i64 o,i64 0]),(1,.box (Zz.g e)),(4,.box [.ref 0 0]),(0,.box (Z0.g c))])|.inr _=>(xq 10 [(0,.yld 5),(1,.ref 4 0),(6,i64 a),(7,i64 b),(67,i64 (c.Measures.length:Int)),(68,i64 a),(91,i64 (h.Cells.length:Int)),(92,i64 b),(107,i64 (l.Voices.length:Int)),(108,i64 f)] [(5,.loop 22 [(3,.ref 1 0),(4,.ref 2 0),(5,.ref 3 0)] [13,14] q30_13a q30_13b false none),(3,.box [bv i]),(2,.box (Zp.g j)),(1,.box (Zz.g e)),(4,.box [.ref 0 0]),(0,.box (Z0.g c))]))) (fun m=>?_) B64 0) fun H=>?_
 refine io ?_ (lf rfl)
 refine bo rg fun b9=>?_
 refine bo rg fun d0=>?_
 refine bo rg fun d1=>?_
 refine bo rg fun F=>?_
 refine bo (oky30_13_4 d 4 0 b a f m 0 F i j e) fun G=>?_
 rcases G with _|_
 exact lf rfl
 exact lf rfl
 rcases H with o|_
 exact lf rfl
 exact lf rfl
 rcases J with⟨p,q⟩|_
 exact lf rfl
 exact lf rfl
 rcases K with⟨r,s,t⟩|_
 exact lf rfl
 exact lf rfl
 rcases L with⟨u,v,w,x,y⟩|_
 exact lf rfl
 refine bz lm ?_
 refine bo (aH (S:=Int) (enc:=fun n=>(Q [(0,.yld 5),(1,.ref 4 0),(166,i64 (c.Spanners.length:Int)),(167,i64 n)] [(5,.loop 22 [(3,.ref 1 0),(4,.ref 2 0),(5,.ref 3 0)] [13,14] q30_13a q30_13b false none),(4,.box [.ref 0 0]),(0,.box (Z0.g c)),(3,.box [bv i]),(2,.box (Zp.g j)),(1,.box (Zz.g e))])) (encE:=(fun|.inl z=>(rq [] [(5,.loop 22 [(3,.ref 1 0),(4,.ref 2 0),(5,.ref 3 0)] [13,14] q30_13a q30_13b false (some .ret)),(4,.box [.ref 0 0]),(0,.box (Z0.g c)),(3,.box [bv true]),(2,.box [i64 5,i64 0,i64 0,i64 0,i64 0,i64 0,i64 z]),(1,.box (Zz.g e))])|.inr _=>(xq 12 [] [(5,.loop 22 [(3,.ref 1 0),(4,.ref 2 0),(5,.ref 3 0)] [13,14] q30_13a q30_13b false none),(4,.box [.ref 0 0]),(0,.box (Z0.g c)),(3,.box [bv i]),(2,.box (Zp.g j)),(1,.box (Zz.g e))]))) (fun n=>?_) B64 0) fun O=>?_
 refine io ?_ (lf rfl)
 refine bo rg fun M=>?_
 refine bo (oky30_13_5 d 5 0 0 0 0 0 n M i j e) fun N=>?_
 rcases N with _|_
 exact lf rfl
 exact lf rfl
 rcases O with z|_
 exact lf rfl
 exact lf rfl
end Go.P
namespace Go.P
open Go.Sim (Ex OpK CK)
open K (I Q rq nq xq ck)
def F30 (b:Z0) (a:Zz):Option (Zp×Bool):=
 if((a.Site==0)&&((a.Number==0)&&true))!=false then some ((Zp.mk 0 0 0 0 0 0 0),false)else(Fn56_2 b).bind fun _=>(Fn100_2 b false (Zp.mk 0 0 0 0 0 0 0) a).bind fun c=>(match c with|.inl x3=>some (x3,true)|.inr _=>some ((Zp.mk 0 0 0 0 0 0 0),false))
theorem ok30 (d) (a:Z0) (b:Zz):OD (d+3) 30 [.agg (Z0.g a),.agg (Zz.g b)]=(F30 a b).map (fun⟨e,f⟩=>.tup [.agg (Zp.g e),bv f]):=by
 rw[od (fn:=p30) rfl rfl]
 refine io (lf rfl) ?_
 refine bo (okn56_2 (d+1) a) fun _=>?_
 refine bo (okn100_2 d a false (Zp.mk 0 0 0 0 0 0 0) b) fun c=>?_
 rcases c with h|_
 exact lf rfl
 exact lf rfl
def F217 (c:List Int):Option (List Int):=
 (sL (c.length:Int) (c.length:Int) 0).bind fun k=>(aO (E:=List Int) (fun(⟨b,a⟩:Int×(List Int))=>if decide (b<(c.length:Int))then(lidx a (w64 (b-1))).bind fun d=>(lnth a d).bind fun e=>(lget c (w64 (b-1))).bind fun f=>(lidx a b).bind fun g=>(lput a g (fun j=>(w64 (e+f)))).bind fun h=>some (.inl ((w64 (b+1)),h))else some (.inr a)) B64 (1,k)).bind fun i=>some i
theorem ok217 (d) (h:List Int):OD (d+1) 217 [.is 1 (I cI h)]=(F217 h).map (fun q=>.is 1 (I cI q)):=by
 rw[od (fn:=p217) rfl rfl]
 refine bz lm ?_
 refine bo (eQ cI _ _ 0) fun p=>?_
 refine bo (aH (S:=Int×(List Int)) (enc:=fun⟨j,a⟩=>(Q [(0,.is 1 (I cI h)),(3,.own 0),(4,i64 j)] [(0,.lst 3 1 true (I cI a))])) (encE:=(fun(e:List Int)=>(xq 0 [(3,.own 0)] [(0,.lst 3 1 true (I cI e))]))) (fun⟨j,a⟩=>?_) B64 (1,p)) fun e=>?_
 refine bz lm ?_
 refine io ?_ (lf rfl)
 refine bo (aW cI a _) fun k=>?_
 refine bo (bC (A:=Int) (c:=cI) (g:=fun b=>i64 b) (fun _=>rfl) a _) fun b=>?_
 refine bo rg fun i=>?_
 refine bo (aW cI a _) fun l=>?_
 refine bo (sJ (A:=Int) (c:=cI) (m:=1) (f:=fun n=>(w64 (b+i))) (fun _=>⟨rfl,rfl⟩) (Nat.le_of_ble_eq_true rfl) a _) fun o=>?_
 exact lf rfl
 exact lf rfl
def F159 (b:Zo) (c:Int):Option ((List Int)×Int):=
 (F216 b c).bind fun⟨d,a⟩=>if a !=0 then some ([],a)else(F217 d).bind fun e=>some (e,0)
theorem ok159 (d) (a:Zo) (b:Int):OD (d+14) 159 [.agg (Zo.g a),i64 b]=(F159 a b).map (fun⟨e,f⟩=>.tup [.is 1 (I cI e),i64 f]):=by
 rw[od (fn:=p159) rfl rfl]
 refine bo (ok216 d a b) fun⟨c,h⟩=>?_
 refine io (lf rfl) ?_
 refine bo (ok217 (d+12) c) fun i=>?_
 exact lf rfl
def F195 (d:Zk) (g:Zz):Option (Zq×Bool):=
 (F30 d.s' g).bind fun⟨a,h⟩=>if(!h)||(a.Kind !=4)then some ((Zq.mk 0 0 0 0),false)else(lget d.s'.Measures a.Measure).bind fun e=>(F94 e).bind fun⟨i,l⟩=>(lget e.Cells a.Staff).bind fun j=>(lget j.Voices a.Voice).bind fun k=>(F159 k i).bind fun⟨b,f⟩=>if decide (a.Event>=(b.length:Int))then some ((Zq.mk 0 0 0 0),false)else(lget b a.Event).bind fun c=>some ((Zq.mk a.Measure c a.Staff a.Voice),true)
theorem ok195 (d) (a:Zk) (b:Zz):OD (d+15) 195 [.ip (Zk.g a),.agg (Zz.g b)]=(F195 a b).map (fun⟨k,l⟩=>.tup [.agg (Zq.g k),bv l]):=by
 rw[od (fn:=p195) rfl rfl]
 refine bo (ok30 (d+11) a.s' b) fun⟨m,n⟩=>?_
 refine bz (gor rfl) ?_
 refine io (lf rfl) ?_
 refine bo rg fun h=>?_
 refine bo (ok94 (d+10) h) fun⟨i,o⟩=>?_
 refine bo rg fun p=>?_
 refine bo rg fun j=>?_
 refine bo (ok159 d j i) fun⟨c,e⟩=>?_
 refine bz lm ?_
 refine io (lf rfl) ?_
 refine bo rg fun f=>?_
 exact lf rfl
def F250 (a b:Int):Option Bool:=
 some ((decide (a>=0))&&(decide (a<=b)))
theorem ok250 (d) (a b:Int):OD (d+1) 250 [i64 a,i64 b]=(F250 a b).map (fun c=>bv c):=by
 rw[od (fn:=p250) rfl rfl]
 refine bz (gand rfl) ?_
 exact lf rfl
def F236 (a:Zq):Option Bool:=
 (F250 a.Measure 1023).bind fun b=>((if b then(F250 a.At 4398046511104).bind fun c=>some c else some false:Option (Bool))).bind fun d=>((if d then(F250 a.Staff 127).bind fun e=>some e else some false:Option (Bool))).bind fun f=>((if f then(F250 a.Voice 1).bind fun g=>some g else some false:Option (Bool))).bind fun h=>some h
theorem ok236 (d) (a:Zq):OD (d+2) 236 [.agg (Zq.g a)]=(F236 a).map (fun b=>bv b):=by
 rw[od (fn:=p236) rfl rfl]
 refine bo (ok250 d a.Measure 1023) fun c=>?_
 refine bo (e:=id) ?_ fun h=>?_
 refine io ?_ (lf rfl)
 refine bo (ok250 d a.At 4398046511104) fun f=>?_
 exact lf rfl
 refine bo (e:=id) ?_ fun j=>?_
 refine io ?_ (lf rfl)
 refine bo (ok250 d a.Staff 127) fun i=>?_
 exact lf rfl
 refine bo (e:=id) ?_ fun l=>?_
 refine io ?_ (lf rfl)
 refine bo (ok250 d a.Voice 1) fun k=>?_
 exact lf rfl
 exact lf rfl
def F237 (a:Int):Option Bool:=
 some ((a==1)||(a==7))
theorem ok237 (d) (a:Int):OD (d+1) 237 [i64 a]=(F237 a).map (fun b=>bv b):=by
 rw[od (fn:=p237) rfl rfl]
 refine bz (gor rfl) ?_
 exact lf rfl
def F220 (a:Int):Option Bool:=
 some (a !=a)
theorem ok220 (d) (a:Int):OD (d+1) 220 [i64 a]=(F220 a).map (fun b=>bv b):=by
 rw[od (fn:=p220) rfl rfl]
 exact lf rfl
def F164 (a b:Int):Option Int:=
 (F220 a).bind fun d=>(F220 b).bind fun c=>if d then if c then some 0 else some (-1)else if c then some 1 else if decide (a<b)then some (-1)else if decide (a>b)then some 1 else some 0
theorem ok164 (d) (a b:Int):OD (d+2) 164 [i64 a,i64 b]=(F164 a b).map (fun c=>i64 c):=by
 rw[od (fn:=p164) rfl rfl]
 refine bo (ok220 d a) fun e=>?_
 refine bo (ok220 d b) fun f=>?_
 refine io ?_ ?_
 refine io (lf rfl) (lf rfl)
 refine io (lf rfl) ?_
 refine io (lf rfl) ?_
 refine io (lf rfl) (lf rfl)
def F163 (b:List Int):Option Int:=
 (aO (E:=Int⊕Unit) (fun(a:Int)=>if decide (a<(b.length:Int))then(lget b a).bind fun c=>if c !=0 then some (.inr (.inl c))else some (.inl (w64 (a+1)))else some (.inr (.inr ()))) B64 0).bind fun d=>(match d with|.inl x5=>some x5|.inr _=>some 0)
theorem ok163 (d) (a:List Int):OD (d+1) 163 [.is 1 (I cI a)]=(F163 a).map (fun f=>i64 f):=by
 rw[od (fn:=p163) rfl rfl]
 refine bz lm ?_
 refine bo (aH (S:=Int) (enc:=fun b=>(Q [(3,i64 0),(6,.is 1 (I cI a)),(7,i64 (a.length:Int)),(8,i64 b)] [])) (encE:=(fun|.inl c=>(rq [(2,i64 c),(3,i64 0)] [])|.inr _=>(xq 0 [(3,i64 0)] []))) (fun b=>?_) B64 0) fun e=>?_
 refine io ?_ (lf rfl)
 refine bo rg fun g=>?_
 refine io (lf rfl) (lf rfl)
 rcases e with c|_
 exact lf rfl
 exact lf rfl
def F238 (a b:Zq):Option Int:=
 (F164 a.Measure b.Measure).bind fun c=>(F164 a.At b.At).bind fun d=>(F163 [c,d]).bind fun e=>some e
theorem ok238 (d) (a b:Zq):OD (d+3) 238 [.agg (Zq.g a),.agg (Zq.g b)]=(F238 a b).map (fun f=>i64 f):=by
 rw[od (fn:=p238) rfl rfl]
 refine bo (ok164 d a.Measure b.Measure) fun c=>?_
 refine bo (ok164 d a.At b.At) fun e=>?_
 refine bo (ok163 (d+1) [c,e]) fun h=>?_
 exact lf rfl
def F196 (a:Zs):Option Int:=
 if(decide (a.Kind<1))||(decide (a.Kind>7))then some 11 else(F236 a.From).bind fun b=>((if !b then some true else(F236 a.To).bind fun c=>some (!c):Option (Bool))).bind fun d=>if d then some 2 else((if a.From.Staff !=a.To.Staff then some true else(F237 a.Kind).bind fun e=>some (e&&(a.From.Voice !=a.To.Voice)):Option (Bool))).bind fun f=>if f then some 23 else(F238 a.From a.To).bind fun g=>if decide (g>=0)then some 25 else some 0
theorem ok196 (d) (a:Zs):OD (d+4) 196 [.agg (Zs.g a)]=(F196 a).map (fun b=>i64 b):=by
 rw[od (fn:=p196) rfl rfl]
 refine bz (gor rfl) ?_
 refine io (lf rfl) ?_
 refine bo (ok236 (d+1) a.From) fun c=>?_
 refine bo (e:=id) ?_ fun h=>?_
 refine io (lf rfl) ?_
 refine bo (ok236 (d+1) a.To) fun f=>?_
 exact lf rfl
 refine io (lf rfl) ?_
 refine bo (e:=id) ?_ fun j=>?_
 refine io (lf rfl) ?_
 refine bo (ok237 (d+2) a.Kind) fun i=>?_
 refine bz (gand rfl) ?_
 exact lf rfl
 refine io (lf rfl) ?_
 refine bo (ok238 d a.From a.To) fun k=>?_
 refine io (lf rfl) (lf rfl)
def Fn134 (p:List Zv) (g:Z0) (q:Int):Option ((List Bool)×(List Zs)):=
 (aO (E:=(List Bool)×(List Zs)) (fun(⟨b,c,d⟩:Int×(List Bool)×(List Zs))=>if decide (b<(g.Spanners.length:Int))then(lget g.Spanners b).bind fun a=>(F195 (Zk.mk g q p) a.From).bind fun⟨e,h⟩=>(F195 (Zk.mk g q p) a.To).bind fun⟨f,i⟩=>(lapp false d [(Zs.mk a.Kind e f)]).bind fun j=>((if(!h)||(!i)then some true else(F196 (Zs.mk a.Kind e f)).bind fun k=>some (k !=0):Option (Bool))).bind fun l=>(lapp false c [l]).bind fun m=>some (.inl ((w64 (b+1)),m,j))else some (.inr (c,d))) B64 (0,[],[])).bind fun⟨n,o⟩=>some (n,o)
theorem okn134 (d) (c:List Zv) (b:Z0) (i:Int):runR (XD (d+16)) 134 [.ref 1 0] [(2,.lst 147 3 false (I Zv.g c)),(1,.box (ck b i (.own 2)))] 3 true=(Fn134 c b i).map (fun(⟨p,q⟩:(List Bool)×(List Zs))=>((.tup [.own 3,.own 4],[(4,.lst 4 1 false (I cB p)),(3,.lst 214 9 false (I Zs.g q)),(2,.lst 147 3 false (I Zv.g c)),(1,.box (ck b i (.own 2)))],5))):=by
 rw[xd (fn:=p134) rfl]
 refine bz lm ?_
 refine bo (aH (S:=Int×(List Bool)×(List Zs)) (enc:=fun⟨j,f,h⟩=>(Q [(0,.ref 1 0),(4,.own 3),(5,.own 4),(17,.is 7 (I Zn.g b.Spanners)),(18,i64 (b.Spanners.length:Int)),(19,i64 j)] [(4,.lst 4 1 false (I cB f)),(3,.lst 214 9 false (I Zs.g h)),(2,.lst 147 3 false (I Zv.g c)),(1,.box (ck b i (.own 2)))])) (encE:=(fun(⟨m,n⟩:(List Bool)×(List Zs))=>(xq 0 [(4,.own 3),(5,.own 4)] [(4,.lst 4 1 false (I cB m)),(3,.lst 214 9 false (I Zs.g n)),(2,.lst 147 3 false (I Zv.g c)),(1,.box (ck b i (.own 2)))]))) (fun⟨j,f,h⟩=>?_) B64 (0,[],[])) fun⟨m,n⟩=>?_
 refine io ?_ (lf rfl)
 refine bo rg fun a=>?_
 refine bo (ok195 d (Zk.mk b i c) a.From) fun⟨k,r⟩=>?_
 refine bo (ok195 d (Zk.mk b i c) a.To) fun⟨l,s⟩=>?_
 refine bo (aY false Zs.g h [(Zs.mk a.Kind k l)]) fun t=>?_
 refine bz (gor rfl) ?_
 refine bo (e:=id) ?_ fun o=>?_
 refine io (lf rfl) ?_
 refine bo (ok196 (d+11) (Zs.mk a.Kind k l)) fun u=>?_
 exact lf rfl
 refine bo (aY false cB f [o]) fun v=>?_
 exact lf rfl
 exact lf rfl
def Fn70 (i:List Zv) (c:Z0) (j:Int):Option (List Zv):=
 (Fn134 i c j).bind fun⟨k,l⟩=>(aO (E:=List Zv) (fun(⟨a,b⟩:Int×(List Zv))=>if decide (a<(c.Spanners.length:Int))then(lget c.Spanners a).bind fun d=>(lidx k a).bind fun e=>(lnth k e).bind fun f=>(Fn101 f d.ID b c j).bind fun g=>some (.inl ((w64 (a+1)),g))else some (.inr b)) B64 (0,i)).bind fun h=>some h
theorem okn70 (d) (j:List Zv) (a:Z0) (f:Int):runR (XD (d+17)) 70 [.ref 1 0] [(2,.lst 147 3 false (I Zv.g j)),(1,.box (ck a f (.own 2)))] 3 false=(Fn70 j a f).map (fun(m:List Zv)=>((.tup [],[(2,.lst 147 3 false (I Zv.g m)),(1,.box (ck a f (.own 2)))],0))):=by
 rw[xd (fn:=p70) rfl]
 refine bo (okn134 d j a f) fun⟨k,n⟩=>?_
 refine bz lm ?_
 refine bo (aH (S:=Int×(List Zv)) (enc:=fun⟨h,b⟩=>(Q [(0,.ref 1 0),(3,.own 4),(15,.is 7 (I Zn.g a.Spanners)),(16,i64 (a.Spanners.length:Int)),(17,i64 h)] [(4,.lst 4 1 false (I cB k)),(3,.lst 214 9 false (I Zs.g n)),(2,.lst 147 3 false (I Zv.g b)),(1,.box (ck a f (.own 2)))])) (encE:=(fun(i:List Zv)=>(xq 0 [] [(4,.lst 4 1 false (I cB k)),(3,.lst 214 9 false (I Zs.g n)),(2,.lst 147 3 false (I Zv.g i)),(1,.box (ck a f (.own 2)))]))) (fun⟨h,b⟩=>?_) B64 (0,j)) fun i=>?_
 refine io ?_ (lf rfl)
 refine bo rg fun l=>?_
 refine bo (aW cB k _) fun o=>?_
 refine bo (bC (A:=Bool) (c:=cB) (g:=fun e=>bv e) (fun _=>rfl) k _) fun e=>?_
 refine bo (okn101 (d+15) e l.ID b a f) fun p=>?_
 exact lf rfl
 exact lf rfl
def F239 (a:Int):Option Int:=
 if(decide (a<1))||(decide (a>7))then some 0 else(lget [1,2,2,4,4,6,7] (w64 (a-1))).bind fun b=>some b
theorem ok239 (d) (a:Int):OD (d+1) 239 [i64 a]=(F239 a).map (fun b=>i64 b):=by
 rw[od (fn:=p239) rfl rfl]
 refine bz (gor rfl) ?_
 refine io (lf rfl) ?_
 refine bo (kD .i64 [1,2,2,4,4,6,7] (w64 (a-1)) rfl) fun c=>?_
 exact lf rfl
def F197 (a b:Zs):Option Bool:=
 (F239 a.Kind).bind fun c=>((if decide (c>0)then(F239 a.Kind).bind fun d=>(F239 b.Kind).bind fun e=>some (d==e)else some false:Option (Bool))).bind fun f=>((if f&&(a.From.Staff==b.From.Staff)then(F237 a.Kind).bind fun g=>some ((!g)||(a.From.Voice==b.From.Voice))else some false:Option (Bool))).bind fun h=>some h
theorem ok197 (d) (a b:Zs):OD (d+2) 197 [.agg (Zs.g a),.agg (Zs.g b)]=(F197 a b).map (fun c=>bv c):=by
 rw[od (fn:=p197) rfl rfl]
 refine bo (ok239 d a.Kind) fun f=>?_
 refine bo (e:=id) ?_ fun j=>?_
 refine io ?_ (lf rfl)
 refine bo (ok239 d a.Kind) fun h=>?_
 refine bo (ok239 d b.Kind) fun i=>?_
 exact lf rfl
 refine bz (gand rfl) ?_
 refine bo (e:=id) ?_ fun l=>?_
 refine io ?_ (lf rfl)
 refine bo (ok237 d a.Kind) fun k=>?_
 refine bz (gor rfl) ?_
 exact lf rfl
 exact lf rfl
def F201 (a b:Zs):Option Bool:=
 (F238 a.To b.From).bind fun c=>((if decide (c<0)then some true else(F238 b.To a.From).bind fun d=>some (decide (d<0)):Option (Bool))).bind fun e=>some e
theorem ok201 (d) (a b:Zs):OD (d+4) 201 [.agg (Zs.g a),.agg (Zs.g b)]=(F201 a b).map (fun c=>bv c):=by
 rw[od (fn:=p201) rfl rfl]
 refine bo (ok238 d a.To b.From) fun f=>?_
 refine bo (e:=id) ?_ fun i=>?_
 refine io (lf rfl) ?_
 refine bo (ok238 d b.To a.From) fun h=>?_
 exact lf rfl
 exact lf rfl
def F200 (a b:Zs):Option Bool:=
 (F201 a b).bind fun c=>some (!c)
theorem ok200 (d) (a b:Zs):OD (d+5) 200 [.agg (Zs.g a),.agg (Zs.g b)]=(F200 a b).map (fun c=>bv c):=by
 rw[od (fn:=p200) rfl rfl]
 refine bo (ok201 d a b) fun e=>?_
 exact lf rfl
def F199 (a b:Zs):Option Bool:=
 (F238 a.To b.From).bind fun c=>((if decide (c<=0)then some true else(F238 b.To a.From).bind fun d=>some (decide (d<=0)):Option (Bool))).bind fun e=>some e
theorem ok199 (d) (a b:Zs):OD (d+4) 199 [.agg (Zs.g a),.agg (Zs.g b)]=(F199 a b).map (fun c=>bv c):=by
 rw[od (fn:=p199) rfl rfl]
 refine bo (ok238 d a.To b.From) fun f=>?_
 refine bo (e:=id) ?_ fun i=>?_
 refine io (lf rfl) ?_
 refine bo (ok238 d b.To a.From) fun h=>?_
 exact lf rfl
 exact lf rfl
def F198 (a b:Zs):Option Bool:=
 (F199 a b).bind fun c=>some (!c)
theorem ok198 (d) (a b:Zs):OD (d+5) 198 [.agg (Zs.g a),.agg (Zs.g b)]=(F198 a b).map (fun c=>bv c):=by
 rw[od (fn:=p198) rfl rfl]
 refine bo (ok199 d a b) fun e=>?_
 exact lf rfl
def F240 (a b:Zs):Option Bool:=
 (F238 a.From b.From).bind fun c=>((if decide (c>=0)then(F238 a.To b.To).bind fun d=>some (decide (d<=0))else some false:Option (Bool))).bind fun e=>some e
theorem ok240 (d) (a b:Zs):OD (d+4) 240 [.agg (Zs.g a),.agg (Zs.g b)]=(F240 a b).map (fun c=>bv c):=by
 rw[od (fn:=p240) rfl rfl]
 refine bo (ok238 d a.From b.From) fun f=>?_
 refine bo (e:=id) ?_ fun i=>?_
 refine io ?_ (lf rfl)
 refine bo (ok238 d a.To b.To) fun h=>?_
 exact lf rfl
 exact lf rfl
def F202 (a b:Zs):Option Bool:=
 (F199 a b).bind fun c=>((if !c then(F240 a b).bind fun d=>(F240 b a).bind fun e=>some ((d==e)!=false)else some false:Option (Bool))).bind fun f=>some f
theorem ok202 (d) (a b:Zs):OD (d+5) 202 [.agg (Zs.g a),.agg (Zs.g b)]=(F202 a b).map (fun c=>bv c):=by
 rw[od (fn:=p202) rfl rfl]
 refine bo (ok199 d a b) fun f=>?_
 refine bo (e:=id) ?_ fun j=>?_
 refine io ?_ (lf rfl)
 refine bo (ok240 d a b) fun h=>?_
 refine bo (ok240 d b a) fun i=>?_
 exact lf rfl
 exact lf rfl
def F135 (a b:Zs):Option Bool:=
 (F197 a b).bind fun d=>if !d then some false else if(w64 (a.Kind-1))==6 then(F200 a b).bind fun e=>some e else if(w64 (a.Kind-1))==5 then(F198 a b).bind fun f=>some f else if(w64 (a.Kind-1))==4 then(F200 a b).bind fun g=>some g else if(w64 (a.Kind-1))==3 then(F200 a b).bind fun h=>some h else if(w64 (a.Kind-1))==2 then(F198 a b).bind fun i=>some i else if(w64 (a.Kind-1))==1 then(F198 a b).bind fun j=>some j else if(w64 (a.Kind-1))==0 then(F202 a b).bind fun c=>some c else none
theorem ok135 (d) (a b:Zs):OD (d+6) 135 [.agg (Zs.g a),.agg (Zs.g b)]=(F135 a b).map (fun e=>bv e):=by
 rw[od (fn:=p135) rfl rfl]
 refine bo (ok197 (d+3) a b) fun f=>?_
 refine io (lf rfl) ?_
 refine io ?_ ?_
 refine bo (ok200 d a b) fun h=>?_
 exact lf rfl
 refine io ?_ ?_
 refine bo (ok198 d a b) fun i=>?_
 exact lf rfl
 refine io ?_ ?_
 refine bo (ok200 d a b) fun j=>?_
 exact lf rfl
 refine io ?_ ?_
 refine bo (ok200 d a b) fun k=>?_
 exact lf rfl
 refine io ?_ ?_
 refine bo (ok198 d a b) fun l=>?_
 exact lf rfl
 refine io ?_ ?_
 refine bo (ok198 d a b) fun m=>?_
 exact lf rfl
 refine io ?_ ?_
 refine bo (ok202 d a b) fun c=>?_
 exact lf rfl
 rfl
def Fn71 (w:List Zv) (e:Z0) (x:Int):Option (List Zv):=
 (Fn134 w e x).bind fun⟨f,g⟩=>(aO (E:=List Zv) (fun(⟨a,c⟩:Int×(List Zv))=>if decide (a<(e.Spanners.length:Int))then(lget e.Spanners a).bind fun h=>(aO (E:=Bool) (fun(⟨d,b⟩:Bool×Int)=>((if decide (b<a)then(lidx f a).bind fun i=>(lnth f i).bind fun j=>some (!j)else some false:Option (Bool))).bind fun k=>if k&&(!d)then(lidx f b).bind fun l=>(lnth f l).bind fun m=>((if !m then(lidx g b).bind fun n=>(lnth g n).bind fun o=>(lidx g a).bind fun p=>(lnth g p).bind fun q=>(F135 o q).bind fun r=>some r else some false:Option (Bool))).bind fun s=>some (.inl (s,(w64 (b+1))))else some (.inr d)) B64 (false,0)).bind fun t=>(Fn101 t h.ID c e x).bind fun u=>some (.inl ((w64 (a+1)),u))else some (.inr c)) B64 (0,w)).bind fun v=>some v
theorem okn71 (d) (u:List Zv) (f:Z0) (j:Int):runR (XD (d+17)) 71 [.ref 1 0] [(2,.lst 147 3 false (I Zv.g u)),(1,.box (ck f j (.own 2)))] 3 false=(Fn71 u f j).map (fun(v:List Zv)=>((.tup [],[(2,.lst 147 3 false (I Zv.g v)),(1,.box (ck f j (.own 2)))],0))):=by
 rw[xd (fn:=p71) rfl]
 refine bo (okn134 d u f j) fun⟨k,l⟩=>?_
 refine bz lm ?_
 refine bo (aH (S:=Int×(List Zv)) (enc:=fun⟨h,i⟩=>(Q [(0,.ref 1 0),(2,.own 3),(3,.own 4),(17,.is 7 (I Zn.g f.Spanners)),(18,i64 (f.Spanners.length:Int)),(19,i64 h)] [(4,.lst 4 1 false (I cB k)),(3,.lst 214 9 false (I Zs.g l)),(2,.lst 147 3 false (I Zv.g i)),(1,.box (ck f j (.own 2)))])) (encE:=(fun(t:List Zv)=>(xq 0 [] [(4,.lst 4 1 false (I cB k)),(3,.lst 214 9 false (I Zs.g l)),(2,.lst 147 3 false (I Zv.g t)),(1,.box (ck f j (.own 2)))]))) (fun⟨h,i⟩=>?_) B64 (0,u)) fun t=>?_
 refine io ?_ (lf rfl)
 refine bo rg fun n=>?_
 refine bo (aH (S:=Bool×Int) (enc:=fun⟨p,q⟩=>(Q [(0,.ref 1 0),(2,.own 3),(3,.own 4),(4,i64 h),(5,.ref 5 0),(6,bv p),(7,i64 q),(17,.is 7 (I Zn.g f.Spanners)),(18,i64 (f.Spanners.length:Int)),(19,i64 h)] [(5,.box (Zn.g n)),(4,.lst 4 1 false (I cB k)),(3,.lst 214 9 false (I Zs.g l)),(2,.lst 147 3 false (I Zv.g i)),(1,.box (ck f j (.own 2)))])) (encE:=(fun(o:Bool)=>(xq 2 [(0,.ref 1 0),(2,.own 3),(3,.own 4),(5,.ref 5 0),(6,bv o),(17,.is 7 (I Zn.g f.Spanners)),(18,i64 (f.Spanners.length:Int)),(19,i64 h)] [(5,.box (Zn.g n)),(4,.lst 4 1 false (I cB k)),(3,.lst 214 9 false (I Zs.g l)),(2,.lst 147 3 false (I Zv.g i)),(1,.box (ck f j (.own 2)))]))) (fun⟨p,q⟩=>?_) B64 (false,0)) fun o=>?_
 refine bo (e:=id) ?_ fun x=>?_
 refine io ?_ (lf rfl)
 refine bo (aW cB k _) fun w=>?_
 refine bo (bC (A:=Bool) (c:=cB) (g:=fun r=>bv r) (fun _=>rfl) k _) fun r=>?_
 exact lf rfl
 refine bz (gand rfl) ?_
 refine io ?_ (lf rfl)
 refine bo (aW cB k _) fun y=>?_
 refine bo (bC (A:=Bool) (c:=cB) (g:=fun s=>bv s) (fun _=>rfl) k _) fun s=>?_
 refine bo (e:=id) ?_ fun D=>?_
 refine io ?_ (lf rfl)
 refine bo (aW Zs.g l _) fun z=>?_
 refine bo (hZ (A:=Zs) (c:=Zs.g) (m:=9) (g:=fun a=>[i64 a.Kind,i64 a.From.Measure,i64 a.From.At,i64 a.From.Staff,i64 a.From.Voice,i64 a.To.Measure,i64 a.To.At,i64 a.To.Staff,i64 a.To.Voice]) (fun _=>⟨rfl,rfl⟩) (Nat.le_of_ble_eq_true rfl) l _) fun a=>?_
 refine bo (aW Zs.g l _) fun B=>?_
 refine bo (hZ (A:=Zs) (c:=Zs.g) (m:=9) (g:=fun b=>[i64 b.Kind,i64 b.From.Measure,i64 b.From.At,i64 b.From.Staff,i64 b.From.Voice,i64 b.To.Measure,i64 b.To.At,i64 b.To.Staff,i64 b.To.Voice]) (fun _=>⟨rfl,rfl⟩) (Nat.le_of_ble_eq_true rfl) l _) fun b=>?_
 refine bo (ok135 (d+10) a b) fun C=>?_
 exact lf rfl
 exact lf rfl
 refine bo (okn101 (d+15) o n.ID i f j) fun E=>?_
 exact lf rfl
 exact lf rfl
def F136 (f:Int) (a:Zm):Option Bool:=
 ((if a.RepeatEnd !=0 then(F103 a.RepeatEnd 2 8).bind fun b=>some (!b)else some false:Option (Bool))).bind fun c=>((if c then some true else(F103 a.Endings 0 255).bind fun d=>some (!d):Option (Bool))).bind fun e=>some e
theorem ok136 (d) (b:Int) (a:Zm):OD (d+2) 136 [i64 b,.agg (Zm.g a)]=(F136 b a).map (fun c=>bv c):=by
 rw[od (fn:=p136) rfl rfl]
 refine bo (e:=id) ?_ fun h=>?_
 refine io ?_ (lf rfl)
 refine bo (ok103 d a.RepeatEnd 2 8) fun f=>?_
 exact lf rfl
 refine bo (e:=id) ?_ fun j=>?_
 refine io (lf rfl) ?_
 refine bo (ok103 d a.Endings 0 255) fun i=>?_
 exact lf rfl
 exact lf rfl
def Fn108_6 (h:List Zv) (e:Z0) (i:Int):Option (List Zv):=
 (aO (E:=List Zv) (fun(⟨a,f⟩:Int×(List Zv))=>if decide (a<(e.Measures.length:Int))then(lget e.Measures a).bind fun g=>(F136 a g).bind fun b=>(Fn101 b g.ID f e i).bind fun c=>some (.inl ((w64 (a+1)),c))else some (.inr f)) B64 (0,h)).bind fun d=>some d
theorem okn108_6 (d) (e:List Zv) (a:Z0) (b:Int):runR (XD (d+3)) 108 [.ref 1 0,.fn 136 [] []] [(2,.lst 147 3 false (I Zv.g e)),(1,.box (ck a b (.own 2)))] 3 false=(Fn108_6 e a b).map (fun(h:List Zv)=>((.tup [],[(2,.lst 147 3 false (I Zv.g h)),(1,.box (ck a b (.own 2)))],0))):=by
 rw[xd (fn:=p108) rfl]
 refine bz lm ?_
 refine bo (aH (S:=Int×(List Zv)) (enc:=fun⟨i,j⟩=>(Q [(0,.ref 1 0),(1,.fn 136 [] []),(10,.is 22 (I Zm.g a.Measures)),(11,i64 (a.Measures.length:Int)),(12,i64 i)] [(2,.lst 147 3 false (I Zv.g j)),(1,.box (ck a b (.own 2)))])) (encE:=(fun(c:List Zv)=>(xq 0 [] [(2,.lst 147 3 false (I Zv.g c)),(1,.box (ck a b (.own 2)))]))) (fun⟨i,j⟩=>?_) B64 (0,e)) fun c=>?_
 refine io ?_ (lf rfl)
 refine bo rg fun k=>?_
 refine bo (ok136 d i k) fun f=>?_
 refine bo (okn101 (d+1) f k.ID j a b) fun l=>?_
 exact lf rfl
 exact lf rfl
def F252 (a:Int):Option Int:=
 ((if decide (a>=4294967296)then(shrO .u64 a 32).bind fun h=>some (h,32)else some (a,0):Option (Int×Int))).bind fun⟨d,f⟩=>((if decide (d>=65536)then(shrO .u64 d 16).bind fun i=>some (i,(w64 (f+16)))else some (d,f):Option (Int×Int))).bind fun⟨e,g⟩=>((if decide (e>=256)then(shrO .u64 e 8).bind fun j=>some (j,(w64 (g+8)))else some (e,g):Option (Int×Int))).bind fun⟨k,b⟩=>(kM (⟨#[0,1,2,2,3,3,3,3,4,4,4,4,4,4,4,4,5,5,5,5,5,5,5,5,5,5,5,5,5,5,5,5,6,6,6,6,6,6,6,6,6,6,6,6,6,6,6,6,6,6,6,6,6,6,6,6,6,6,6,6,6,6,6,6,7,7,7,7,7,7,7,7,7,7,7,7,7,7,7,7,7,7,7,7,7,7,7,7,7,7,7,7,7,7,7,7,7,7,7,7,7,7,7,7,7,7,7,7,7,7,7,7,7,7,7,7,7,7,7,7,7,7,7,7,7,7,7,7,8,8,8,8,8,8,8,8,8,8,8,8,8,8,8,8,8,8,8,8,8,8,8,8,8,8,8,8,8,8,8,8,8,8,8,8,8,8,8,8,8,8,8,8,8,8,8,8,8,8,8,8,8,8,8,8,8,8,8,8,8,8,8,8,8,8,8,8,8,8,8,8,8,8,8,8,8,8,8,8,8,8,8,8,8,8,8,8,8,8,8,8,8,8,8,8,8,8,8,8,8,8,8,8,8,8,8,8,8,8,8,8,8,8,8,8,8,8,8,8,8,8,8,8,8,8,8,8]⟩:ByteArray) (IntKind.wrap .u8 (k))).bind fun c=>some (w64 (b+(w64 (c))))
theorem ok252 (d) (b:Int):OD (d+1) 252 [.v (.int .u64 b)]=(F252 b).map (fun k=>i64 k):=by
 rw[od (fn:=p252) rfl rfl]
 refine bo (e:=(fun(⟨c,f⟩:Int×Int)=>(nq [(0,.v (.int .u64 c)),(2,i64 f)] []))) ?_ fun⟨c,f⟩=>?_
 refine io ?_ (lf rfl)
 refine bo oi fun l=>?_
 exact lf rfl
 refine bo (e:=(fun(⟨g,h⟩:Int×Int)=>(nq [(0,.v (.int .u64 g)),(2,i64 h)] []))) ?_ fun⟨g,h⟩=>?_
 refine io ?_ (lf rfl)
 refine bo oi fun m=>?_
 exact lf rfl
 refine bo (e:=(fun(⟨i,a⟩:Int×Int)=>(nq [(0,.v (.int .u64 i)),(2,i64 a)] []))) ?_ fun⟨i,a⟩=>?_
 refine io ?_ (lf rfl)
 refine bo oi fun n=>?_
 exact lf rfl
 refine bo oi fun j=>?_
 exact lf rfl
def F241 (a:Int):Option Int:=
 (F252 a).bind fun b=>some b
theorem ok241 (d) (a:Int):OD (d+2) 241 [.v (.int .u64 a)]=(F241 a).map (fun b=>i64 b):=by
 rw[od (fn:=p241) rfl rfl]
 refine bo (ok252 d a) fun c=>?_
 exact lf rfl
def F138 (a:Zg):Option Bool:=
 ((if decide (a.passes>0)then(shlO .i64 1 (w64 (a.passes-1))).bind fun b=>some (a.ending==b)else some false:Option (Bool))).bind fun c=>some c
theorem ok138 (d) (a:Zg):OD (d+1) 138 [.agg (Zg.g a)]=(F138 a).map (fun b=>bv b):=by
 rw[od (fn:=p138) rfl rfl]
 refine bo (e:=id) ?_ fun f=>?_
 refine io ?_ (lf rfl)
 refine bo oi fun c=>?_
 exact lf rfl
 exact lf rfl
def F203 (a:Zg) (b:Zm):Option (Zg×Bool):=
 if b.RepeatStart||(a.body==0)then some (a,false)else if b.Endings !=a.ending then if((a.ending !=0)&&(!a.ended))||((iand .i64 b.Endings a.used)!=0)then some (a,false)else(F241 (IntKind.wrap .u64 (b.Endings))).bind fun k=>if a.passes==0 then if((iand .i64 b.Endings 1)==0)||(decide ((w64 (k-1))>6))then some ((Zg.mk a.started a.body (ior .i64 a.used b.Endings) b.Endings false a.passes),false)else if b.RepeatEnd !=0 then(F138 (Zg.mk a.started a.body (ior .i64 a.used b.Endings) b.Endings false a.passes)).bind fun l=>((if l||((a.passes !=0)&&(b.RepeatEnd !=a.passes))then some true else(F241 (IntKind.wrap .u64 (b.Endings))).bind fun m=>some (decide (m>=b.RepeatEnd)):Option (Bool))).bind fun n=>if n then some ((Zg.mk a.started a.body (ior .i64 a.used b.Endings) b.Endings false a.passes),false)else some ((Zg.mk a.started a.body (ior .i64 a.used b.Endings) b.Endings true b.RepeatEnd),true)else some ((Zg.mk a.started a.body (ior .i64 a.used b.Endings) b.Endings false a.passes),true)else((if decide ((w64 (k-1))>=a.passes)then some true else((if(w64 (k-1))==(w64 (a.passes-1))then(F138 (Zg.mk a.started a.body (ior .i64 a.used b.Endings) b.Endings false a.passes)).bind fun o=>((if !o then some true else(shlO .i64 1 a.passes).bind fun p=>some ((ior .i64 a.used b.Endings)!=(w64 (p-1))):Option (Bool))).bind fun q=>some q else some false:Option (Bool))).bind fun c=>some c:Option (Bool))).bind fun d=>if d then some ((Zg.mk a.started a.body (ior .i64 a.used b.Endings) b.Endings false a.passes),false)else if b.RepeatEnd !=0 then(F138 (Zg.mk a.started a.body (ior .i64 a.used b.Endings) b.Endings false a.passes)).bind fun e=>((if e||((a.passes !=0)&&(b.RepeatEnd !=a.passes))then some true else(F241 (IntKind.wrap .u64 (b.Endings))).bind fun f=>some (decide (f>=b.RepeatEnd)):Option (Bool))).bind fun g=>if g then some ((Zg.mk a.started a.body (ior .i64 a.used b.Endings) b.Endings false a.passes),false)else some ((Zg.mk a.started a.body (ior .i64 a.used b.Endings) b.Endings true b.RepeatEnd),true)else some ((Zg.mk a.started a.body (ior .i64 a.used b.Endings) b.Endings false a.passes),true)else if a.ended then some (a,false)else if b.RepeatEnd !=0 then(F138 a).bind fun h=>((if h||((a.passes !=0)&&(b.RepeatEnd !=a.passes))then some true else(F241 (IntKind.wrap .u64 (a.ending))).bind fun i=>some (decide (i>=b.RepeatEnd)):Option (Bool))).bind fun j=>if j then some (a,false)else some ((Zg.mk a.started a.body a.used a.ending true b.RepeatEnd),true)else some (a,true)
theorem ok203 (d) (a:Zg) (b:Zm):OD (d+3) 203 [.agg (Zg.g a),.agg (Zm.g b)]=(F203 a b).map (fun⟨n,o⟩=>.tup [.agg (Zg.g n),bv o]):=by
 rw[od (fn:=p203) rfl rfl]
 refine bz (gor rfl) ?_
 refine io (lf rfl) ?_
 refine io ?_ ?_
 refine bz (gand rfl) ?_
 refine bz (gor rfl) ?_
 refine io (lf rfl) ?_
 refine bo (ok241 d (IntKind.wrap .u64 (b.Endings))) fun p=>?_
 refine io ?_ ?_
 refine bz (gor rfl) ?_
 refine io (lf rfl) ?_
 refine io ?_ (lf rfl)
 refine bo (ok138 (d+1) (Zg.mk a.started a.body (ior .i64 a.used b.Endings) b.Endings false a.passes)) fun q=>?_
 refine bz (gor (bz (gand rfl) rfl)) ?_
 refine bo (e:=id) ?_ fun s=>?_
 refine io (lf rfl) ?_
 refine bo (ok241 d (IntKind.wrap .u64 (b.Endings))) fun r=>?_
 exact lf rfl
 refine io (lf rfl) (lf rfl)
 refine bo (e:=id) ?_ fun f=>?_
 refine io (lf rfl) ?_
 refine bo (e:=id) ?_ fun c=>?_
 refine io ?_ (lf rfl)
 refine bo (ok138 (d+1) (Zg.mk a.started a.body (ior .i64 a.used b.Endings) b.Endings false a.passes)) fun t=>?_
 refine bo (e:=id) ?_ fun v=>?_
 refine io (lf rfl) ?_
 refine bo oi fun u=>?_
 exact lf rfl
 exact lf rfl
 exact lf rfl
 refine io (lf rfl) ?_
 refine io ?_ (lf rfl)
 refine bo (ok138 (d+1) (Zg.mk a.started a.body (ior .i64 a.used b.Endings) b.Endings false a.passes)) fun h=>?_
 refine bz (gor (bz (gand rfl) rfl)) ?_
 refine bo (e:=id) ?_ fun j=>?_
 refine io (lf rfl) ?_
 refine bo (ok241 d (IntKind.wrap .u64 (b.Endings))) fun i=>?_
 exact lf rfl
 refine io (lf rfl) (lf rfl)
 refine io (lf rfl) ?_
 refine io ?_ (lf rfl)
 refine bo (ok138 (d+1) a) fun k=>?_
 refine bz (gor (bz (gand rfl) rfl)) ?_
 refine bo (e:=id) ?_ fun m=>?_
 refine io (lf rfl) ?_
 refine bo (ok241 d (IntKind.wrap .u64 (a.ending))) fun l=>?_
 exact lf rfl
 refine io (lf rfl) (lf rfl)
def F137 (a:Zg) (b:Zm):Option (Zg×Bool):=
 if b.Endings !=0 then(F203 a b).bind fun⟨e,f⟩=>some (e,f)else if a.ending !=0 then(F138 a).bind fun g=>if !g then some (a,false)else if b.RepeatStart then if false then some ((Zg.mk false 0 0 0 false 0),false)else((if b.RepeatEnd !=0 then some (false,0)else some (true,1):Option (Bool×Int))).bind fun⟨h,i⟩=>some ((Zg.mk h i 0 0 false 0),true)else((if b.RepeatEnd !=0 then some 0 else some 1:Option (Int))).bind fun j=>some ((Zg.mk false j 0 0 false 0),true)else if b.RepeatStart then if a.started then some (a,false)else((if b.RepeatEnd !=0 then some (false,0)else some (true,1):Option (Bool×Int))).bind fun⟨k,c⟩=>some ((Zg.mk k c 0 0 false 0),true)else((if b.RepeatEnd !=0 then some (Zg.mk false 0 0 0 false 0)else some (Zg.mk a.started (w64 (a.body+1)) a.used a.ending a.ended a.passes):Option (Zg))).bind fun d=>some (d,true)
theorem ok137 (d) (f:Zg) (a:Zm):OD (d+4) 137 [.agg (Zg.g f),.agg (Zm.g a)]=(F137 f a).map (fun⟨l,m⟩=>.tup [.agg (Zg.g l),bv m]):=by
 rw[od (fn:=p137) rfl rfl]
 refine io ?_ ?_
 refine bo (ok203 d f a) fun⟨n,o⟩=>?_
 exact lf rfl
 refine io ?_ ?_
 refine bo (ok138 (d+2) f) fun p=>?_
 refine io (lf rfl) ?_
 refine io ?_ ?_
 refine io (lf rfl) ?_
 refine bo (e:=(fun(⟨h,i⟩:Bool×Int)=>(nq [(2,.ref 0 0),(4,.ref 2 0)] [(2,.box [bv false,i64 0,i64 0,i64 0,bv false,i64 0]),(1,.box (Zm.g a)),(0,.box [bv h,i64 i,i64 0,i64 0,bv false,i64 0])]))) ?_ fun⟨h,i⟩=>?_
 refine io (lf rfl) (lf rfl)
 exact lf rfl
 refine bo (e:=(fun(j:Int)=>(nq [(2,.ref 0 0),(4,.ref 2 0)] [(2,.box [bv false,i64 0,i64 0,i64 0,bv false,i64 0]),(1,.box (Zm.g a)),(0,.box [bv false,i64 j,i64 0,i64 0,bv false,i64 0])]))) ?_ fun j=>?_
 refine io (lf rfl) (lf rfl)
 exact lf rfl
 refine io ?_ ?_
 refine io (lf rfl) ?_
 refine bo (e:=(fun(⟨k,b⟩:Bool×Int)=>(nq [(2,.ref 0 0),(4,.ref 2 0)] [(2,.box [bv false,i64 0,i64 0,i64 0,bv false,i64 0]),(1,.box (Zm.g a)),(0,.box [bv k,i64 b,i64 0,i64 0,bv false,i64 0])]))) ?_ fun⟨k,b⟩=>?_
 refine io (lf rfl) (lf rfl)
 exact lf rfl
 refine bo (e:=(fun(c:Zg)=>(nq [(2,.ref 0 0),(4,.ref 2 0)] [(2,.box [bv false,i64 0,i64 0,i64 0,bv false,i64 0]),(1,.box (Zm.g a)),(0,.box (Zg.g c))]))) ?_ fun c=>?_
 refine io (lf rfl) (lf rfl)
 exact lf rfl
def Fn72 (p:List Zv) (a:Z0) (n:Int):Option (List Zv):=
 (Fn108_6 p a n).bind fun e=>if decide ((e.length:Int)>(p.length:Int))then some e else(aO (E:=(Zg×(List Zv))⊕Zg) (fun(⟨o,b⟩:Int×Zg)=>if decide (o<(a.Measures.length:Int))then(lget a.Measures o).bind fun c=>(F137 b c).bind fun⟨d,f⟩=>if !f then(Fn101 true c.ID e a n).bind fun g=>some (.inr (.inl (d,g)))else some (.inl ((w64 (o+1)),d))else some (.inr (.inr b))) B64 (0,(Zg.mk false 0 0 0 false 0))).bind fun h=>(match h with|.inl ⟨x15,x16⟩=>some x16|.inr x17=>((if x17.started&&(x17.ending==0)then some true else((if x17.ending !=0 then(F138 x17).bind fun i=>some (!i)else some false:Option (Bool))).bind fun j=>some j:Option (Bool))).bind fun k=>(lget a.Measures (w64 ((a.Measures.length:Int)-1))).bind fun l=>(Fn101 k l.ID e a n).bind fun m=>some m)
theorem okn72 (d) (k:List Zv) (a:Z0) (b:Int):runR (XD (d+5)) 72 [.ref 1 0] [(2,.lst 147 3 false (I Zv.g k)),(1,.box (ck a b (.own 2)))] 3 false=(Fn72 k a b).map (fun(o:List Zv)=>((.tup [],[(2,.lst 147 3 false (I Zv.g o)),(1,.box (ck a b (.own 2)))],0))):=by
 rw[xd (fn:=p72) rfl]
 refine bz (bW Zv.g k) ?_
 refine bo (okn108_6 (d+1) k a b) fun j=>?_
 refine bz (bW Zv.g j) ?_
 refine io (lf rfl) ?_
 refine bz lm ?_
 refine bo (aH (S:=Int×Zg) (enc:=fun⟨p,c⟩=>(Q [(0,.ref 1 0),(3,.ref 3 0),(26,.is 22 (I Zm.g a.Measures)),(27,i64 (a.Measures.length:Int)),(28,i64 p)] [(3,.box (Zg.g c)),(2,.lst 147 3 false (I Zv.g j)),(1,.box (ck a b (.own 2)))])) (encE:=(fun|.inl ⟨h,i⟩=>(rq [(3,.ref 3 0)] [(3,.box (Zg.g h)),(2,.lst 147 3 false (I Zv.g i)),(1,.box (ck a b (.own 2)))])|.inr x17=>(xq 0 [(0,.ref 1 0),(3,.ref 3 0)] [(3,.box (Zg.g x17)),(2,.lst 147 3 false (I Zv.g j)),(1,.box (ck a b (.own 2)))]))) (fun⟨p,c⟩=>?_) B64 (0,(Zg.mk false 0 0 0 false 0))) fun l=>?_
 refine io ?_ (lf rfl)
 refine bo rg fun f=>?_
 refine bo (ok137 d c f) fun⟨q,r⟩=>?_
 refine io ?_ (lf rfl)
 refine bo (okn101 (d+3) true f.ID j a b) fun s=>?_
 exact lf rfl
 rcases l with⟨h,i⟩|x17
 exact lf rfl
 refine bz (gand rfl) ?_
 refine bo (e:=id) ?_ fun m=>?_
 refine io (lf rfl) ?_
 refine bo (e:=id) ?_ fun u=>?_
 refine io ?_ (lf rfl)
 refine bo (ok138 (d+3) x17) fun t=>?_
 exact lf rfl
 exact lf rfl
 refine bz lm ?_
 refine bo rg fun n=>?_
 refine bo (okn101 (d+3) m n.ID j a b) fun v=>?_
 exact lf rfl
def F140 (a b:Zm):Option Bool:=
 some (((b.Jump !=0)&&(a.Jump !=0))||((iand .i64 b.Labels a.Labels)!=0))
theorem ok140 (d) (a b:Zm):OD (d+1) 140 [.agg (Zm.g a),.ip (Zm.g b)]=(F140 a b).map (fun c=>bv c):=by
 rw[od (fn:=p140) rfl rfl]
 refine bz (gand rfl) ?_
 refine bz (gor rfl) ?_
 exact lf rfl
def F204 (b:List Zm) (c:Zm):Option Int:=
 (aO (E:=Int⊕Unit) (fun(a:Int)=>if decide (a<(b.length:Int))then(lget b a).bind fun d=>(F140 d c).bind fun e=>if e then some (.inr (.inl a))else some (.inl (w64 (a+1)))else some (.inr (.inr ()))) B64 0).bind fun f=>(match f with|.inl x8=>some x8|.inr _=>some (-1))
theorem ok204 (d) (a:List Zm) (b:Zm):OD (d+2) 204 [.is 22 (I Zm.g a),.fn 140 [] [.ip (Zm.g b)]]=(F204 a b).map (fun i=>i64 i):=by
 rw[od (fn:=p204) rfl rfl]
 refine bz lm ?_
 refine bo (aH (S:=Int) (enc:=fun c=>(Q [(0,.is 22 (I Zm.g a)),(1,.fn 140 [] [.ip (Zm.g b)]),(7,i64 (a.length:Int)),(8,i64 c)] [])) (encE:=(fun|.inl e=>(rq [(4,i64 e)] [])|.inr _=>(xq 0 [] []))) (fun c=>?_) B64 0) fun h=>?_
 refine io ?_ (lf rfl)
 refine bo rg fun f=>?_
 refine bo (ok140 d f b) fun j=>?_
 refine io (lf rfl) (lf rfl)
 rcases h with e|_
 exact lf rfl
 exact lf rfl
def F141 (a:List Zm) (b:Zm):Option Bool:=
 (F204 a b).bind fun c=>some (decide (c>=0))
theorem ok141 (d) (a:List Zm) (b:Zm):OD (d+3) 141 [.is 22 (I Zm.g a),.fn 140 [] [.ip (Zm.g b)]]=(F141 a b).map (fun c=>bv c):=by
 rw[od (fn:=p141) rfl rfl]
 refine bo (ok204 d a b) fun e=>?_
 exact lf rfl
def F242 (a:Zm) (b:Int):Option Bool:=
 some ((iand .i64 a.Labels b)!=0)
theorem ok242 (d) (a:Zm) (b:Int):OD (d+1) 242 [.agg (Zm.g a),.ip [i64 b]]=(F242 a b).map (fun c=>bv c):=by
 rw[od (fn:=p242) rfl rfl]
 exact lf rfl
def F204_2 (b:List Zm) (c:Int):Option Int:=
 (aO (E:=Int⊕Unit) (fun(a:Int)=>if decide (a<(b.length:Int))then(lget b a).bind fun d=>(F242 d c).bind fun e=>if e then some (.inr (.inl a))else some (.inl (w64 (a+1)))else some (.inr (.inr ()))) B64 0).bind fun f=>(match f with|.inl x8=>some x8|.inr _=>some (-1))
theorem ok204_2 (d) (a:List Zm) (b:Int):OD (d+2) 204 [.is 22 (I Zm.g a),.fn 242 [] [.ip [i64 b]]]=(F204_2 a b).map (fun i=>i64 i):=by
 rw[od (fn:=p204) rfl rfl]
 refine bz lm ?_
 refine bo (aH (S:=Int) (enc:=fun c=>(Q [(0,.is 22 (I Zm.g a)),(1,.fn 242 [] [.ip [i64 b]]),(7,i64 (a.length:Int)),(8,i64 c)] [])) (encE:=(fun|.inl e=>(rq [(4,i64 e)] [])|.inr _=>(xq 0 [] []))) (fun c=>?_) B64 0) fun h=>?_
 refine io ?_ (lf rfl)
 refine bo rg fun f=>?_
 refine bo (ok242 d f b) fun j=>?_
 refine io (lf rfl) (lf rfl)
 rcases h with e|_
 exact lf rfl
 exact lf rfl
def F206 (a:Zk) (b:Int):Option Int:=
 (F204_2 a.s'.Measures b).bind fun c=>some c
theorem ok206 (d) (a:Zk) (b:Int):OD (d+3) 206 [.ip (Zk.g a),i64 b]=(F206 a b).map (fun c=>i64 c):=by
 rw[od (fn:=p206) rfl rfl]
 refine bo (ok204_2 d a.s'.Measures b) fun e=>?_
 exact lf rfl
def F205 (a:Int) (b:Zk) (c:Int):Option Bool:=
 (F206 b a).bind fun d=>(F103 d 0 c).bind fun e=>some e
theorem ok205 (d) (a:Int) (b:Zk) (c:Int):OD (d+4) 205 [i64 a,.ip [.ip (Zk.g b)],.ip [i64 c]]=(F205 a b c).map (fun f=>bv f):=by
 rw[od (fn:=p205) rfl rfl]
 refine bo (ok206 d b a) fun e=>?_
 refine bo (ok103 (d+2) e 0 c) fun h=>?_
 exact lf rfl
def F142 (b:Zk) (a f:Int):Option Bool:=
 ((if decide (a>=4)then(F205 1 b f).bind fun g=>some (!g)else some false:Option (Bool))).bind fun h=>if h then some false else((if a==2 then some (a==2)else some (a==5):Option (Bool))).bind fun i=>if i then(F205 4 b f).bind fun j=>some j else((if a==3 then some (a==3)else some (a==6):Option (Bool))).bind fun k=>if k then(F205 8 b f).bind fun l=>((if l then(F206 b 2).bind fun c=>(F206 b 8).bind fun d=>some (decide (c>d))else some false:Option (Bool))).bind fun e=>some e else some true
theorem ok142 (d) (a:Zk) (c b:Int):OD (d+5) 142 [.ip (Zk.g a),i64 c,i64 b]=(F142 a c b).map (fun l=>bv l):=by
 rw[od (fn:=p142) rfl rfl]
 refine bo (e:=id) ?_ fun n=>?_
 refine io ?_ (lf rfl)
 refine bo (ok205 d 1 a b) fun m=>?_
 exact lf rfl
 refine io (lf rfl) ?_
 refine bo (e:=(fun(f:Bool)=>(nq [(3,.ref 0 0),(7,.fn 205 [] [.ref 0 0,.ref 1 0]),(16,i64 c),(17,bv f)] [(1,.box [i64 b]),(0,.box [.ip (Zk.g a)])]))) ?_ fun f=>?_
 refine io (lf rfl) (lf rfl)
 refine io ?_ ?_
 refine bo (ok205 d 4 a b) fun o=>?_
 exact lf rfl
 refine bo (e:=(fun(h:Bool)=>(nq [(3,.ref 0 0),(7,.fn 205 [] [.ref 0 0,.ref 1 0]),(22,bv h)] [(1,.box [i64 b]),(0,.box [.ip (Zk.g a)])]))) ?_ fun h=>?_
 refine io (lf rfl) (lf rfl)
 refine io ?_ (lf rfl)
 refine bo (ok205 d 8 a b) fun p=>?_
 refine bo (e:=id) ?_ fun k=>?_
 refine io ?_ (lf rfl)
 refine bo (ok206 (d+1) a 2) fun i=>?_
 refine bo (ok206 (d+1) a 8) fun j=>?_
 exact lf rfl
 exact lf rfl
def F139 (c:Int) (a:Zm) (d:Zk):Option Bool:=
 (F103 a.Jump 0 6).bind fun e=>((if !e then some true else(F103 a.Labels 0 15).bind fun f=>some (!f):Option (Bool))).bind fun g=>if g||(((a.Jump !=0)||(a.Labels !=0))&&((a.RepeatEnd !=0)||(a.Endings !=0)))then some true else(mU d.s'.Measures 0 c).bind fun h=>(F141 h a).bind fun i=>((if i then some true else(F142 d a.Jump c).bind fun j=>some (!j):Option (Bool))).bind fun b=>some b
theorem ok139 (d) (b:Int) (a:Zm) (c:Zk):OD (d+6) 139 [i64 b,.agg (Zm.g a),.ip [.ip (Zk.g c)]]=(F139 b a c).map (fun i=>bv i):=by
 rw[od (fn:=p139) rfl rfl]
 refine bo (ok103 (d+4) a.Jump 0 6) fun j=>?_
 refine bo (e:=id) ?_ fun l=>?_
 refine io (lf rfl) ?_
 refine bo (ok103 (d+4) a.Labels 0 15) fun k=>?_
 exact lf rfl
 refine bz (gor (bz (gor rfl) (bz (gand (bz (gor rfl) rfl)) rfl))) ?_
 refine io (lf rfl) ?_
 refine bo (kT _ _ _ _) fun h=>?_
 refine bo (ok141 (d+2) h a) fun m=>?_
 refine bo (e:=id) ?_ fun f=>?_
 refine io (lf rfl) ?_
 refine bo (ok142 d c a.Jump b) fun n=>?_
 exact lf rfl
 exact lf rfl
def Fn108_7 (i:List Zv) (a:Z0) (g:Int):Option (List Zv):=
 (aO (E:=List Zv) (fun(⟨b,f⟩:Int×(List Zv))=>if decide (b<(a.Measures.length:Int))then(lget a.Measures b).bind fun h=>(F139 b h (Zk.mk a g f)).bind fun c=>(Fn101 c h.ID f a g).bind fun d=>some (.inl ((w64 (b+1)),d))else some (.inr f)) B64 (0,i)).bind fun e=>some e
theorem okn108_7 (d) (f:List Zv) (a:Z0) (b:Int):runR (XD (d+7)) 108 [.ref 1 0,.fn 139 [] [.ref 3 0]] [(3,.box [.ref 1 0]),(2,.lst 147 3 false (I Zv.g f)),(1,.box (ck a b (.own 2)))] 4 false=(Fn108_7 f a b).map (fun(i:List Zv)=>((.tup [],[(3,.box [.ref 1 0]),(2,.lst 147 3 false (I Zv.g i)),(1,.box (ck a b (.own 2)))],0))):=by
 rw[xd (fn:=p108) rfl]
 refine bz lm ?_
 refine bo (aH (S:=Int×(List Zv)) (enc:=fun⟨j,e⟩=>(Q [(0,.ref 1 0),(1,.fn 139 [] [.ref 3 0]),(10,.is 22 (I Zm.g a.Measures)),(11,i64 (a.Measures.length:Int)),(12,i64 j)] [(3,.box [.ref 1 0]),(2,.lst 147 3 false (I Zv.g e)),(1,.box (ck a b (.own 2)))])) (encE:=(fun(c:List Zv)=>(xq 0 [] [(3,.box [.ref 1 0]),(2,.lst 147 3 false (I Zv.g c)),(1,.box (ck a b (.own 2)))]))) (fun⟨j,e⟩=>?_) B64 (0,f)) fun c=>?_
 refine io ?_ (lf rfl)
 refine bo rg fun k=>?_
 refine bo (ok139 d j k (Zk.mk a b e)) fun h=>?_
 refine bo (okn101 (d+5) h k.ID e a b) fun l=>?_
 exact lf rfl
 exact lf rfl
def Fn73 (a:List Zv) (b:Z0) (c:Int):Option (List Zv):=
 (Fn108_7 a b c).bind fun d=>some d
theorem okn73 (d) (c:List Zv) (a:Z0) (b:Int):runR (XD (d+8)) 73 [.ref 1 0] [(2,.lst 147 3 false (I Zv.g c)),(1,.box (ck a b (.own 2)))] 3 false=(Fn73 c a b).map (fun(e:List Zv)=>((.tup [],[(2,.lst 147 3 false (I Zv.g e)),(1,.box (ck a b (.own 2)))],0))):=by
 rw[xd (fn:=p73) rfl]
 refine bo (okn108_7 d c a b) fun f=>?_
 exact lf rfl
def F143 (r:Int) (c:Zm):Option Bool:=
 (F94 c).bind fun⟨m,s⟩=>((if c.Swing !=0 then(F103 c.Swing 50 75).bind fun n=>some (!n)else some false:Option (Bool))).bind fun o=>((if o then some true else(F103 c.Break 0 3).bind fun p=>some (!p):Option (Bool))).bind fun q=>(aO (E:=Bool) (fun(⟨d,a⟩:Bool×Int)=>if decide (a<(c.Tempi.length:Int))then(lget c.Tempi a).bind fun b=>((if d then some true else(F103 b.At 0 (w64 (m-1))).bind fun e=>some (!e):Option (Bool))).bind fun f=>((if f then some true else(F103 b.Micros 1 60000000).bind fun g=>some (!g):Option (Bool))).bind fun h=>((if h then some true else((if decide (a>0)then(lget c.Tempi (w64 (a-1))).bind fun i=>some (decide (b.At<=i.At))else some false:Option (Bool))).bind fun j=>some j:Option (Bool))).bind fun k=>some (.inl (k,(w64 (a+1))))else some (.inr d)) B64 (q,0)).bind fun l=>some l
theorem ok143 (d) (i:Int) (a:Zm):OD (d+5) 143 [i64 i,.agg (Zm.g a)]=(F143 i a).map (fun s=>bv s):=by
 rw[od (fn:=p143) rfl rfl]
 refine bo (ok94 d a) fun⟨j,t⟩=>?_
 refine bo (e:=id) ?_ fun v=>?_
 refine io ?_ (lf rfl)
 refine bo (ok103 (d+3) a.Swing 50 75) fun u=>?_
 exact lf rfl
 refine bo (e:=id) ?_ fun r=>?_
 refine io (lf rfl) ?_
 refine bo (ok103 (d+3) a.Break 0 3) fun w=>?_
 exact lf rfl
 refine bz lm ?_
 refine bo (aH (S:=Bool×Int) (enc:=fun⟨b,c⟩=>(Q [(3,.ref 0 0),(5,i64 j),(7,bv b),(31,.is 3 (I Zt.g a.Tempi)),(32,i64 (a.Tempi.length:Int)),(33,i64 c)] [(0,.box (Zm.g a))])) (encE:=(fun(h:Bool)=>(xq 0 [(7,bv h)] [(0,.box (Zm.g a))]))) (fun⟨b,c⟩=>?_) B64 (r,0)) fun h=>?_
 refine io ?_ (lf rfl)
 refine bo rg fun f=>?_
 refine bo (e:=id) ?_ fun l=>?_
 refine io (lf rfl) ?_
 refine bo (ok103 (d+3) f.At 0 (w64 (j-1))) fun k=>?_
 exact lf rfl
 refine bo (e:=id) ?_ fun n=>?_
 refine io (lf rfl) ?_
 refine bo (ok103 (d+3) f.Micros 1 60000000) fun m=>?_
 exact lf rfl
 refine bo (e:=id) ?_ fun q=>?_
 refine io (lf rfl) ?_
 refine bo (e:=id) ?_ fun p=>?_
 refine io ?_ (lf rfl)
 refine bo rg fun o=>?_
 exact lf rfl
 exact lf rfl
 exact lf rfl
 exact lf rfl
def Fn108_8 (h:List Zv) (e:Z0) (i:Int):Option (List Zv):=
 (aO (E:=List Zv) (fun(⟨a,f⟩:Int×(List Zv))=>if decide (a<(e.Measures.length:Int))then(lget e.Measures a).bind fun g=>(F143 a g).bind fun b=>(Fn101 b g.ID f e i).bind fun c=>some (.inl ((w64 (a+1)),c))else some (.inr f)) B64 (0,h)).bind fun d=>some d
theorem okn108_8 (d) (e:List Zv) (a:Z0) (b:Int):runR (XD (d+6)) 108 [.ref 1 0,.fn 143 [] []] [(2,.lst 147 3 false (I Zv.g e)),(1,.box (ck a b (.own 2)))] 3 false=(Fn108_8 e a b).map (fun(h:List Zv)=>((.tup [],[(2,.lst 147 3 false (I Zv.g h)),(1,.box (ck a b (.own 2)))],0))):=by
 rw[xd (fn:=p108) rfl]
 refine bz lm ?_
 refine bo (aH (S:=Int×(List Zv)) (enc:=fun⟨i,j⟩=>(Q [(0,.ref 1 0),(1,.fn 143 [] []),(10,.is 22 (I Zm.g a.Measures)),(11,i64 (a.Measures.length:Int)),(12,i64 i)] [(2,.lst 147 3 false (I Zv.g j)),(1,.box (ck a b (.own 2)))])) (encE:=(fun(c:List Zv)=>(xq 0 [] [(2,.lst 147 3 false (I Zv.g c)),(1,.box (ck a b (.own 2)))]))) (fun⟨i,j⟩=>?_) B64 (0,e)) fun c=>?_
 refine io ?_ (lf rfl)
 refine bo rg fun k=>?_
 refine bo (ok143 d i k) fun f=>?_
 refine bo (okn101 (d+4) f k.ID j a b) fun l=>?_
 exact lf rfl
 exact lf rfl
def Fn74 (a:List Zv) (b:Z0) (c:Int):Option (List Zv):=
 (Fn108_8 a b c).bind fun d=>some d
theorem okn74 (d) (c:List Zv) (a:Z0) (b:Int):runR (XD (d+7)) 74 [.ref 1 0] [(2,.lst 147 3 false (I Zv.g c)),(1,.box (ck a b (.own 2)))] 3 false=(Fn74 c a b).map (fun(e:List Zv)=>((.tup [],[(2,.lst 147 3 false (I Zv.g e)),(1,.box (ck a b (.own 2)))],0))):=by
 rw[xd (fn:=p74) rfl]
 refine bo (okn108_8 d c a b) fun f=>?_
 exact lf rfl
def F144 (b:Zp) (f:Ze) (c:Zk):Option Bool:=
 (F129 c.s' b).bind fun⟨e,g⟩=>((if !g then some true else(F128 f).bind fun h=>some (!h):Option (Bool))).bind fun i=>if i||(e.Measure==b.Measure)then some false else(lget c.s'.Measures b.Measure).bind fun a=>(lget c.s'.Measures e.Measure).bind fun d=>some ((((((a.RepeatEnd !=0)||(a.Jump !=0))||((iand .i64 a.Labels 12)!=0))||(a.Endings !=d.Endings))||d.RepeatStart)||((iand .i64 d.Labels 3)!=0))
theorem ok144 (d) (a:Zp) (b:Ze) (c:Zk):OD (d+5) 144 [.agg (Zp.g a),.agg (Ze.g b),.ip [.ip (Zk.g c)]]=(F144 a b c).map (fun f=>bv f):=by
 rw[od (fn:=p144) rfl rfl]
 refine bo (ok129 (d+1) c.s' a) fun⟨h,i⟩=>?_
 refine bo (e:=id) ?_ fun k=>?_
 refine io (lf rfl) ?_
 refine bo (ok128 d b) fun j=>?_
 exact lf rfl
 refine bz (gor rfl) ?_
 refine io (lf rfl) ?_
 refine bo rg fun l=>?_
 refine bo rg fun m=>?_
 refine bz (gor rfl) ?_
 refine bz (gor rfl) ?_
 refine bz (gor rfl) ?_
 refine bz (gor rfl) ?_
 refine bz (gor rfl) ?_
 exact lf rfl
def Fn117_5 (u:List Zv) (s:Z0) (t:Int):Option (List Zv):=
 (aO (E:=List Zv) (fun(⟨c,m⟩:Int×(List Zv))=>if decide (c<(s.Measures.length:Int))then(lget s.Measures c).bind fun n=>(aO (E:=List Zv) (fun(⟨d,o⟩:Int×(List Zv))=>if decide (d<(n.Cells.length:Int))then(lget n.Cells d).bind fun p=>(aO (E:=List Zv) (fun(⟨e,q⟩:Int×(List Zv))=>if decide (e<(p.Voices.length:Int))then(lget p.Voices e).bind fun r=>(aO (E:=List Zv) (fun(⟨a,b⟩:Int×(List Zv))=>if decide (a<(r.Events.length:Int))then(lget r.Events a).bind fun f=>(F144 (Zp.mk 4 0 d c e a 0) f (Zk.mk s t b)).bind fun g=>(Fn101 g f.ID b s t).bind fun h=>some (.inl ((w64 (a+1)),h))else some (.inr b)) B64 (0,q)).bind fun i=>some (.inl ((w64 (e+1)),i))else some (.inr q)) B64 (0,o)).bind fun j=>some (.inl ((w64 (d+1)),j))else some (.inr o)) B64 (0,m)).bind fun k=>some (.inl ((w64 (c+1)),k))else some (.inr m)) B64 (0,u)).bind fun l=>some l
theorem okn117_5 (d) (w:List Zv) (c:Z0) (i:Int):runR (XD (d+6)) 117 [.ref 1 0,.fn 144 [] [.ref 3 0]] [(3,.box [.ref 1 0]),(2,.lst 147 3 false (I Zv.g w)),(1,.box (ck c i (.own 2)))] 4 false=(Fn117_5 w c i).map (fun(v:List Zv)=>((.tup [],[(3,.box [.ref 1 0]),(2,.lst 147 3 false (I Zv.g v)),(1,.box (ck c i (.own 2)))],0))):=by
 rw[xd (fn:=p117) rfl]
 refine bz lm ?_
 refine bo (aH (S:=Int×(List Zv)) (enc:=fun⟨b,r⟩=>(Q [(0,.ref 1 0),(1,.fn 144 [] [.ref 3 0]),(16,.is 22 (I Zm.g c.Measures)),(17,i64 (c.Measures.length:Int)),(18,i64 b)] [(3,.box [.ref 1 0]),(2,.lst 147 3 false (I Zv.g r)),(1,.box (ck c i (.own 2)))])) (encE:=(fun(q:List Zv)=>(xq 0 [] [(3,.box [.ref 1 0]),(2,.lst 147 3 false (I Zv.g q)),(1,.box (ck c i (.own 2)))]))) (fun⟨b,r⟩=>?_) B64 (0,w)) fun q=>?_
 refine io ?_ (lf rfl)
 refine bo rg fun a=>?_
 refine bz lm ?_
 refine bo (aH (S:=Int×(List Zv)) (enc:=fun⟨e,s⟩=>(Q [(0,.ref 1 0),(1,.fn 144 [] [.ref 3 0]),(4,i64 b),(16,.is 22 (I Zm.g c.Measures)),(17,i64 (c.Measures.length:Int)),(18,i64 b),(24,.is 2 (I Zw.g a.Cells)),(25,i64 (a.Cells.length:Int)),(26,i64 e)] [(4,.box (Zm.g a)),(3,.box [.ref 1 0]),(2,.lst 147 3 false (I Zv.g s)),(1,.box (ck c i (.own 2)))])) (encE:=(fun(p:List Zv)=>(xq 2 [(0,.ref 1 0),(1,.fn 144 [] [.ref 3 0]),(16,.is 22 (I Zm.g c.Measures)),(17,i64 (c.Measures.length:Int)),(18,i64 b)] [(4,.box (Zm.g a)),(3,.box [.ref 1 0]),(2,.lst 147 3 false (I Zv.g p)),(1,.box (ck c i (.own 2)))]))) (fun⟨e,s⟩=>?_) B64 (0,r)) fun p=>?_
 refine io ?_ (lf rfl)
 refine bo rg fun f=>?_
 refine bz lm ?_
 refine bo (aH (S:=Int×(List Zv)) (enc:=fun⟨j,t⟩=>(Q [(0,.ref 1 0),(1,.fn 144 [] [.ref 3 0]),(4,i64 b),(6,i64 e),(16,.is 22 (I Zm.g c.Measures)),(17,i64 (c.Measures.length:Int)),(18,i64 b),(24,.is 2 (I Zw.g a.Cells)),(25,i64 (a.Cells.length:Int)),(26,i64 e),(32,.is 2 (I Zo.g f.Voices)),(33,i64 (f.Voices.length:Int)),(34,i64 j)] [(5,.box (Zw.g f)),(4,.box (Zm.g a)),(3,.box [.ref 1 0]),(2,.lst 147 3 false (I Zv.g t)),(1,.box (ck c i (.own 2)))])) (encE:=(fun(o:List Zv)=>(xq 4 [(0,.ref 1 0),(1,.fn 144 [] [.ref 3 0]),(4,i64 b),(16,.is 22 (I Zm.g c.Measures)),(17,i64 (c.Measures.length:Int)),(18,i64 b),(24,.is 2 (I Zw.g a.Cells)),(25,i64 (a.Cells.length:Int)),(26,i64 e)] [(5,.box (Zw.g f)),(4,.box (Zm.g a)),(3,.box [.ref 1 0]),(2,.lst 147 3 false (I Zv.g o)),(1,.box (ck c i (.own 2)))]))) (fun⟨j,t⟩=>?_) B64 (0,s)) fun o=>?_
 refine io ?_ (lf rfl)
 refine bo rg fun l=>?_
 refine bz lm ?_
 refine bo (aH (S:=Int×(List Zv)) (enc:=fun⟨k,h⟩=>(Q [(0,.ref 1 0),(1,.fn 144 [] [.ref 3 0]),(4,i64 b),(6,i64 e),(8,i64 j),(16,.is 22 (I Zm.g c.Measures)),(17,i64 (c.Measures.length:Int)),(18,i64 b),(24,.is 2 (I Zw.g a.Cells)),(25,i64 (a.Cells.length:Int)),(26,i64 e),(32,.is 2 (I Zo.g f.Voices)),(33,i64 (f.Voices.length:Int)),(34,i64 j),(40,.is 13 (I Ze.g l.Events)),(41,i64 (l.Events.length:Int)),(42,i64 k)] [(6,.box (Zo.g l)),(5,.box (Zw.g f)),(4,.box (Zm.g a)),(3,.box [.ref 1 0]),(2,.lst 147 3 false (I Zv.g h)),(1,.box (ck c i (.own 2)))])) (encE:=(fun(n:List Zv)=>(xq 6 [(0,.ref 1 0),(1,.fn 144 [] [.ref 3 0]),(4,i64 b),(6,i64 e),(16,.is 22 (I Zm.g c.Measures)),(17,i64 (c.Measures.length:Int)),(18,i64 b),(24,.is 2 (I Zw.g a.Cells)),(25,i64 (a.Cells.length:Int)),(26,i64 e),(32,.is 2 (I Zo.g f.Voices)),(33,i64 (f.Voices.length:Int)),(34,i64 j)] [(6,.box (Zo.g l)),(5,.box (Zw.g f)),(4,.box (Zm.g a)),(3,.box [.ref 1 0]),(2,.lst 147 3 false (I Zv.g n)),(1,.box (ck c i (.own 2)))]))) (fun⟨k,h⟩=>?_) B64 (0,t)) fun n=>?_
 refine io ?_ (lf rfl)
 refine bo rg fun m=>?_
 refine bo (ok144 d (Zp.mk 4 0 e b j k 0) m (Zk.mk c i h)) fun u=>?_
 refine bo (okn101 (d+4) u m.ID h c i) fun x=>?_
 exact lf rfl
 exact lf rfl
 exact lf rfl
 exact lf rfl
 exact lf rfl
def Fn75 (a:List Zv) (b:Z0) (c:Int):Option (List Zv):=
 (Fn117_5 a b c).bind fun d=>some d
theorem okn75 (d) (c:List Zv) (a:Z0) (b:Int):runR (XD (d+7)) 75 [.ref 1 0] [(2,.lst 147 3 false (I Zv.g c)),(1,.box (ck a b (.own 2)))] 3 false=(Fn75 c a b).map (fun(e:List Zv)=>((.tup [],[(2,.lst 147 3 false (I Zv.g e)),(1,.box (ck a b (.own 2)))],0))):=by
 rw[xd (fn:=p75) rfl]
 refine bo (okn117_5 d c a b) fun f=>?_
 exact lf rfl
def F38 (a:Z0):Option (List Zv):=
 ((if decide ((([]:List Zv).length:Int)>0)then((if false then some true else((if false then(lidx ([]:List Zv) 0).bind fun x2=>(lnth ([]:List Zv) x2).bind fun x3=>some (decide (x3.Rule<10))else some false:Option (Bool))).bind fun x4=>some x4:Option (Bool))).bind fun x5=>some x5 else some false:Option (Bool))).bind fun x6=>if x6 then some []else(Fn59 [] a 1).bind fun u=>((if decide ((u.length:Int)>0)then((if true then some true else((if false then(lidx u 0).bind fun x8=>(lnth u x8).bind fun x9=>some (decide (x9.Rule<10))else some false:Option (Bool))).bind fun v=>some v:Option (Bool))).bind fun w=>some w else some false:Option (Bool))).bind fun x=>if x then some u else(Fn60 u a 2).bind fun b=>((if decide ((b.length:Int)>0)then((if false then some true else((if false then(lidx b 0).bind fun y=>(lnth b y).bind fun z=>some (decide (z.Rule<10))else some false:Option (Bool))).bind fun A=>some A:Option (Bool))).bind fun B=>some B else some false:Option (Bool))).bind fun C=>if C then some b else(Fn61 b a 3).bind fun c=>((if decide ((c.length:Int)>0)then((if false then some true else((if false then(lidx c 0).bind fun D=>(lnth c D).bind fun E=>some (decide (E.Rule<10))else some false:Option (Bool))).bind fun F=>some F:Option (Bool))).bind fun G=>some G else some false:Option (Bool))).bind fun H=>if H then some c else(Fn62 c a 4).bind fun d=>((if decide ((d.length:Int)>0)then((if false then some true else((if false then(lidx d 0).bind fun J=>(lnth d J).bind fun K=>some (decide (K.Rule<10))else some false:Option (Bool))).bind fun L=>some L:Option (Bool))).bind fun M=>some M else some false:Option (Bool))).bind fun N=>if N then some d else(Fn63 d a 5).bind fun e=>((if decide ((e.length:Int)>0)then((if false then some true else((if false then(lidx e 0).bind fun O=>(lnth e O).bind fun P=>some (decide (P.Rule<10))else some false:Option (Bool))).bind fun R=>some R:Option (Bool))).bind fun S=>some S else some false:Option (Bool))).bind fun T=>if T then some e else(Fn64 e a 6).bind fun f=>((if decide ((f.length:Int)>0)then((if false then some true else((if false then(lidx f 0).bind fun U=>(lnth f U).bind fun V=>some (decide (V.Rule<10))else some false:Option (Bool))).bind fun W=>some W:Option (Bool))).bind fun X=>some X else some false:Option (Bool))).bind fun Y=>if Y then some f else(Fn65 f a 7).bind fun g=>((if decide ((g.length:Int)>0)then((if false then some true else((if false then(lidx g 0).bind fun Z=>(lnth g Z).bind fun a0=>some (decide (a0.Rule<10))else some false:Option (Bool))).bind fun b0=>some b0:Option (Bool))).bind fun b4=>some b4 else some false:Option (Bool))).bind fun b5=>if b5 then some g else(Fn66 g a 8).bind fun h=>((if decide ((h.length:Int)>0)then((if false then some true else((if false then(lidx h 0).bind fun b6=>(lnth h b6).bind fun b7=>some (decide (b7.Rule<10))else some false:Option (Bool))).bind fun b8=>some b8:Option (Bool))).bind fun b9=>some b9 else some false:Option (Bool))).bind fun d0=>if d0 then some h else(Fn67 h a 9).bind fun i=>((if decide ((i.length:Int)>0)then((if false then some true else((if true then(lidx i 0).bind fun d1=>(lnth i d1).bind fun d2=>some (decide (d2.Rule<10))else some false:Option (Bool))).bind fun d3=>some d3:Option (Bool))).bind fun d4=>some d4 else some false:Option (Bool))).bind fun d5=>if d5 then some i else(Fn68 i a 10).bind fun j=>((if decide ((j.length:Int)>0)then((if false then some true else((if true then(lidx j 0).bind fun d6=>(lnth j d6).bind fun d7=>some (decide (d7.Rule<10))else some false:Option (Bool))).bind fun d8=>some d8:Option (Bool))).bind fun d9=>some d9 else some false:Option (Bool))).bind fun e0=>if e0 then some j else(Fn69 j a 11).bind fun k=>((if decide ((k.length:Int)>0)then((if false then some true else((if true then(lidx k 0).bind fun e1=>(lnth k e1).bind fun e2=>some (decide (e2.Rule<10))else some false:Option (Bool))).bind fun e3=>some e3:Option (Bool))).bind fun e4=>some e4 else some false:Option (Bool))).bind fun e5=>if e5 then some k else(Fn70 k a 12).bind fun l=>((if decide ((l.length:Int)>0)then((if false then some true else((if true then(lidx l 0).bind fun e6=>(lnth l e6).bind fun e7=>some (decide (e7.Rule<10))else some false:Option (Bool))).bind fun e8=>some e8:Option (Bool))).bind fun e9=>some e9 else some false:Option (Bool))).bind fun f0=>if f0 then some l else(Fn71 l a 13).bind fun m=>((if decide ((m.length:Int)>0)then((if false then some true else((if true then(lidx m 0).bind fun f1=>(lnth m f1).bind fun f2=>some (decide (f2.Rule<10))else some false:Option (Bool))).bind fun f4=>some f4:Option (Bool))).bind fun f8=>some f8 else some false:Option (Bool))).bind fun f9=>if f9 then some m else(Fn72 m a 14).bind fun n=>((if decide ((n.length:Int)>0)then((if false then some true else((if true then(lidx n 0).bind fun g1=>(lnth n g1).bind fun g3=>some (decide (g3.Rule<10))else some false:Option (Bool))).bind fun g4=>some g4:Option (Bool))).bind fun g5=>some g5 else some false:Option (Bool))).bind fun g6=>if g6 then some n else(Fn73 n a 15).bind fun o=>((if decide ((o.length:Int)>0)then((if false then some true else((if true then(lidx o 0).bind fun g7=>(lnth o g7).bind fun g8=>some (decide (g8.Rule<10))else some false:Option (Bool))).bind fun g9=>some g9:Option (Bool))).bind fun h0=>some h0 else some false:Option (Bool))).bind fun h2=>if h2 then some o else(Fn74 o a 16).bind fun p=>((if decide ((p.length:Int)>0)then((if false then some true else((if true then(lidx p 0).bind fun h3=>(lnth p h3).bind fun h4=>some (decide (h4.Rule<10))else some false:Option (Bool))).bind fun q=>some q:Option (Bool))).bind fun r=>some r else some false:Option (Bool))).bind fun s=>if s then some p else(Fn75 p a 17).bind fun t=>some t
theorem ok38 (d) (a:Z0):OD (d+25) 38 [.agg (Z0.g a)]=(F38 a).map (fun y0=>.is 3 (I Zv.g y0)):=by
 rw[od (fn:=p38) rfl rfl]
 refine bz (bW Zv.g ([]:List Zv)) ?_
 refine bo (e:=id) ?_ fun x6=>?_
 refine io ?_ (lf rfl)
 refine bo (e:=id) ?_ fun x5=>?_
 refine io (lf rfl) ?_
 refine bo (e:=id) ?_ fun x4=>?_
 refine io ?_ (lf rfl)
 refine bo (aW Zv.g ([]:List Zv) _) fun x2=>?_
 refine bo (bC (A:=Zv) (c:=Zv.g) (g:=fun R=>i64 R.Rule) (fun _=>rfl) ([]:List Zv) _) fun R=>?_
 exact lf rfl
 exact lf rfl
 exact lf rfl
 refine io (lf rfl) ?_
 refine bo (okn59 (d+19) [] a 1) fun L=>?_
 refine bz (bW Zv.g L) ?_
 refine bo (e:=id) ?_ fun V=>?_
 refine io ?_ (lf rfl)
 refine bo (e:=id) ?_ fun U=>?_
 refine io (lf rfl) ?_
 refine bo (e:=id) ?_ fun T=>?_
 refine io ?_ (lf rfl)
 refine bo (aW Zv.g L _) fun x8=>?_
 refine bo (bC (A:=Zv) (c:=Zv.g) (g:=fun S=>i64 S.Rule) (fun _=>rfl) L _) fun S=>?_
 exact lf rfl
 exact lf rfl
 exact lf rfl
 refine io (lf rfl) ?_
 refine bo (okn60 (d+20) L a 2) fun b=>?_
 refine bz (bW Zv.g b) ?_
 refine bo (e:=id) ?_ fun Z=>?_
 refine io ?_ (lf rfl)
 refine bo (e:=id) ?_ fun Y=>?_
 refine io (lf rfl) ?_
 refine bo (e:=id) ?_ fun X=>?_
 refine io ?_ (lf rfl)
 refine bo (aW Zv.g b _) fun W=>?_
 refine bo (bC (A:=Zv) (c:=Zv.g) (g:=fun u=>i64 u.Rule) (fun _=>rfl) b _) fun u=>?_
 exact lf rfl
 exact lf rfl
 exact lf rfl
 refine io (lf rfl) ?_
 refine bo (okn61 (d+21) b a 3) fun f=>?_
 refine bz (bW Zv.g f) ?_
 refine bo (e:=id) ?_ fun b5=>?_
 refine io ?_ (lf rfl)
 refine bo (e:=id) ?_ fun b4=>?_
 refine io (lf rfl) ?_
 refine bo (e:=id) ?_ fun b0=>?_
 refine io ?_ (lf rfl)
 refine bo (aW Zv.g f _) fun a0=>?_
 refine bo (bC (A:=Zv) (c:=Zv.g) (g:=fun v=>i64 v.Rule) (fun _=>rfl) f _) fun v=>?_
 exact lf rfl
 exact lf rfl
 exact lf rfl
 refine io (lf rfl) ?_
 refine bo (okn62 (d+17) f a 4) fun h=>?_
 refine bz (bW Zv.g h) ?_
 refine bo (e:=id) ?_ fun b9=>?_
 refine io ?_ (lf rfl)
 refine bo (e:=id) ?_ fun b8=>?_
 refine io (lf rfl) ?_
 refine bo (e:=id) ?_ fun b7=>?_
 refine io ?_ (lf rfl)
 refine bo (aW Zv.g h _) fun b6=>?_
 refine bo (bC (A:=Zv) (c:=Zv.g) (g:=fun w=>i64 w.Rule) (fun _=>rfl) h _) fun w=>?_
 exact lf rfl
 exact lf rfl
 exact lf rfl
 refine io (lf rfl) ?_
 refine bo (okn63 (d+17) h a 5) fun i=>?_
 refine bz (bW Zv.g i) ?_
 refine bo (e:=id) ?_ fun d3=>?_
 refine io ?_ (lf rfl)
 refine bo (e:=id) ?_ fun d2=>?_
 refine io (lf rfl) ?_
 refine bo (e:=id) ?_ fun d1=>?_
 refine io ?_ (lf rfl)
 refine bo (aW Zv.g i _) fun d0=>?_
 refine bo (bC (A:=Zv) (c:=Zv.g) (g:=fun x=>i64 x.Rule) (fun _=>rfl) i _) fun x=>?_
 exact lf rfl
 exact lf rfl
 exact lf rfl
 refine io (lf rfl) ?_
 refine bo (okn64 d i a 6) fun j=>?_
 refine bz (bW Zv.g j) ?_
 refine bo (e:=id) ?_ fun d7=>?_
 refine io ?_ (lf rfl)
 refine bo (e:=id) ?_ fun d6=>?_
 refine io (lf rfl) ?_
 refine bo (e:=id) ?_ fun d5=>?_
 refine io ?_ (lf rfl)
 refine bo (aW Zv.g j _) fun d4=>?_
 refine bo (bC (A:=Zv) (c:=Zv.g) (g:=fun y=>i64 y.Rule) (fun _=>rfl) j _) fun y=>?_
 exact lf rfl
 exact lf rfl
 exact lf rfl
 refine io (lf rfl) ?_
 refine bo (okn65 d j a 7) fun k=>?_
 refine bz (bW Zv.g k) ?_
 refine bo (e:=id) ?_ fun e1=>?_
 refine io ?_ (lf rfl)
 refine bo (e:=id) ?_ fun e0=>?_
 refine io (lf rfl) ?_
 refine bo (e:=id) ?_ fun d9=>?_
 refine io ?_ (lf rfl)
 refine bo (aW Zv.g k _) fun d8=>?_
 refine bo (bC (A:=Zv) (c:=Zv.g) (g:=fun z=>i64 z.Rule) (fun _=>rfl) k _) fun z=>?_
 exact lf rfl
 exact lf rfl
 exact lf rfl
 refine io (lf rfl) ?_
 refine bo (okn66 (d+13) k a 8) fun l=>?_
 refine bz (bW Zv.g l) ?_
 refine bo (e:=id) ?_ fun e5=>?_
 refine io ?_ (lf rfl)
 refine bo (e:=id) ?_ fun e4=>?_
 refine io (lf rfl) ?_
 refine bo (e:=id) ?_ fun e3=>?_
 refine io ?_ (lf rfl)
 refine bo (aW Zv.g l _) fun e2=>?_
 refine bo (bC (A:=Zv) (c:=Zv.g) (g:=fun B=>i64 B.Rule) (fun _=>rfl) l _) fun B=>?_
 exact lf rfl
 exact lf rfl
 exact lf rfl
 refine io (lf rfl) ?_
 refine bo (okn67 (d+13) l a 9) fun m=>?_
 refine bz (bW Zv.g m) ?_
 refine bo (e:=id) ?_ fun e9=>?_
 refine io ?_ (lf rfl)
 refine bo (e:=id) ?_ fun e8=>?_
 refine io (lf rfl) ?_
 refine bo (e:=id) ?_ fun e7=>?_
 refine io ?_ (lf rfl)
 refine bo (aW Zv.g m _) fun e6=>?_
 refine bo (bC (A:=Zv) (c:=Zv.g) (g:=fun C=>i64 C.Rule) (fun _=>rfl) m _) fun C=>?_
 exact lf rfl
 exact lf rfl
 exact lf rfl
 refine io (lf rfl) ?_
 refine bo (okn68 (d+17) m a 10) fun n=>?_
 refine bz (bW Zv.g n) ?_
 refine bo (e:=id) ?_ fun f4=>?_
 refine io ?_ (lf rfl)
 refine bo (e:=id) ?_ fun f2=>?_
 refine io (lf rfl) ?_
 refine bo (e:=id) ?_ fun f1=>?_
 refine io ?_ (lf rfl)
 refine bo (aW Zv.g n _) fun f0=>?_
 refine bo (bC (A:=Zv) (c:=Zv.g) (g:=fun D=>i64 D.Rule) (fun _=>rfl) n _) fun D=>?_
 exact lf rfl
 exact lf rfl
 exact lf rfl
 refine io (lf rfl) ?_
 refine bo (okn69 (d+21) n a 11) fun o=>?_
 refine bz (bW Zv.g o) ?_
 refine bo (e:=id) ?_ fun g3=>?_
 refine io ?_ (lf rfl)
 refine bo (e:=id) ?_ fun g1=>?_
 refine io (lf rfl) ?_
 refine bo (e:=id) ?_ fun f9=>?_
 refine io ?_ (lf rfl)
 refine bo (aW Zv.g o _) fun f8=>?_
 refine bo (bC (A:=Zv) (c:=Zv.g) (g:=fun E=>i64 E.Rule) (fun _=>rfl) o _) fun E=>?_
 exact lf rfl
 exact lf rfl
 exact lf rfl
 refine io (lf rfl) ?_
 refine bo (okn70 (d+7) o a 12) fun p=>?_
 refine bz (bW Zv.g p) ?_
 refine bo (e:=id) ?_ fun g7=>?_
 refine io ?_ (lf rfl)
 refine bo (e:=id) ?_ fun g6=>?_
 refine io (lf rfl) ?_
 refine bo (e:=id) ?_ fun g5=>?_
 refine io ?_ (lf rfl)
 refine bo (aW Zv.g p _) fun g4=>?_
 refine bo (bC (A:=Zv) (c:=Zv.g) (g:=fun F=>i64 F.Rule) (fun _=>rfl) p _) fun F=>?_
 exact lf rfl
 exact lf rfl
 exact lf rfl
 refine io (lf rfl) ?_
 refine bo (okn71 (d+7) p a 13) fun q=>?_
 refine bz (bW Zv.g q) ?_
 refine bo (e:=id) ?_ fun h2=>?_
 refine io ?_ (lf rfl)
 refine bo (e:=id) ?_ fun h0=>?_
 refine io (lf rfl) ?_
 refine bo (e:=id) ?_ fun g9=>?_
 refine io ?_ (lf rfl)
 refine bo (aW Zv.g q _) fun g8=>?_
 refine bo (bC (A:=Zv) (c:=Zv.g) (g:=fun G=>i64 G.Rule) (fun _=>rfl) q _) fun G=>?_
 exact lf rfl
 exact lf rfl
 exact lf rfl
 refine io (lf rfl) ?_
 refine bo (okn72 (d+19) q a 14) fun r=>?_
 refine bz (bW Zv.g r) ?_
 refine bo (e:=id) ?_ fun h6=>?_
 refine io ?_ (lf rfl)
 refine bo (e:=id) ?_ fun h5=>?_
 refine io (lf rfl) ?_
 refine bo (e:=id) ?_ fun h4=>?_
 refine io ?_ (lf rfl)
 refine bo (aW Zv.g r _) fun h3=>?_
 refine bo (bC (A:=Zv) (c:=Zv.g) (g:=fun H=>i64 H.Rule) (fun _=>rfl) r _) fun H=>?_
 exact lf rfl
 exact lf rfl
 exact lf rfl
 refine io (lf rfl) ?_
 refine bo (okn73 (d+16) r a 15) fun s=>?_
 refine bz (bW Zv.g s) ?_
 refine bo (e:=id) ?_ fun i0=>?_
 refine io ?_ (lf rfl)
 refine bo (e:=id) ?_ fun h9=>?_
 refine io (lf rfl) ?_
 refine bo (e:=id) ?_ fun h8=>?_
 refine io ?_ (lf rfl)
 refine bo (aW Zv.g s _) fun h7=>?_
 refine bo (bC (A:=Zv) (c:=Zv.g) (g:=fun J=>i64 J.Rule) (fun _=>rfl) s _) fun J=>?_
 exact lf rfl
 exact lf rfl
 exact lf rfl
 refine io (lf rfl) ?_
 refine bo (okn74 (d+17) s a 16) fun t=>?_
 refine bz (bW Zv.g t) ?_
 refine bo (e:=id) ?_ fun O=>?_
 refine io ?_ (lf rfl)
 refine bo (e:=id) ?_ fun N=>?_
 refine io (lf rfl) ?_
 refine bo (e:=id) ?_ fun M=>?_
 refine io ?_ (lf rfl)
 refine bo (aW Zv.g t _) fun i1=>?_
 refine bo (bC (A:=Zv) (c:=Zv.g) (g:=fun K=>i64 K.Rule) (fun _=>rfl) t _) fun K=>?_
 exact lf rfl
 exact lf rfl
 exact lf rfl
 refine io (lf rfl) ?_
 refine bo (okn75 (d+17) t a 17) fun P=>?_
 exact lf rfl
end Go.P
namespace Go.P
open Go.Sim (Ex OpK CK)
open K (I Q rq nq xq ck)
def F16 (a:Z0):Option Bool:=
 (F38 a).bind fun b=>some ((b.length:Int)==0)
theorem ok16 (d) (a:Z0):OD (d+26) 16 [.agg (Z0.g a)]=(F16 a).map (fun b=>bv b):=by
 rw[od (fn:=p16) rfl rfl]
 refine bo (ok38 d a) fun c=>?_
 refine bz lm ?_
 exact lf rfl
def Fn36 (a:Z0):Option Unit:=
 some ()
theorem okn36 (d) (a:Z0):runR (XD (d+1)) 36 [.agg (Z0.g a)] [] 1 true=(Fn36 a).map (fun(_:Unit)=>((.fn 58 [] [.ref 1 0],[(1,.box (Z0.g a))],2))):=by
 rw[xd (fn:=p36) rfl]
 exact lf rfl
def F43 (b:Z0):Option (List (Zz×Bool)):=
 (aO (E:=List (Zz×Bool)) (fun(⟨a,c⟩:Int×(List (Zz×Bool)))=>if decide (a<(b.Spanners.length:Int))then(lget b.Spanners a).bind fun d=>some (.inl ((w64 (a+1)),(mput (mput c d.From true) d.To true)))else some (.inr c)) B64 (0,[])).bind fun e=>some e
theorem ok43 (d) (a:Z0):OD (d+1) 43 [.agg (Z0.g a)]=(F43 a).map (fun h=>.im (I (mEnt (eA Zz.g) bv) h)):=by
 rw[od (fn:=p43) rfl rfl]
 refine bz lm ?_
 refine bo (aH (S:=Int×(List (Zz×Bool))) (enc:=fun⟨e,b⟩=>(Q [(3,.map 1),(8,.is 7 (I Zn.g a.Spanners)),(9,i64 (a.Spanners.length:Int)),(10,i64 e)] [(1,.mp (I (mEnt (eA Zz.g) bv) b)),(0,.box (Z0.g a))])) (encE:=(fun(f:List (Zz×Bool))=>(xq 0 [(3,.map 1)] [(1,.mp (I (mEnt (eA Zz.g) bv) f)),(0,.box (Z0.g a))]))) (fun⟨e,b⟩=>?_) B64 (0,[])) fun f=>?_
 refine io ?_ (lf rfl)
 refine bo rg fun c=>?_
 refine bz (eE mW bv b c.From true) ?_
 refine bz (eE mW bv (mput b c.From true) c.To true) ?_
 exact lf rfl
 exact lf rfl
def F76 (a:Zm):Option Bool:=
 some (((!a.RepeatStart)&&(a.RepeatEnd==0))&&(a.Endings==0))
theorem ok76 (d) (a:Zm):OD (d+1) 76 [.ip (Zm.g a)]=(F76 a).map (fun b=>bv b):=by
 rw[od (fn:=p76) rfl rfl]
 refine bz (gand rfl) ?_
 refine bz (gand rfl) ?_
 exact lf rfl
def F83 (a:Zm):Option Bool:=
 (F76 a).bind fun b=>some (!b)
theorem ok83 (d) (a:Zm):OD (d+2) 83 [.fn 76 [] [.ip (Zm.g a)]]=(F83 a).map (fun b=>bv b):=by
 rw[od (fn:=p83) rfl rfl]
 refine bo (ok76 d a) fun c=>?_
 exact lf rfl
def F77 (a:Zm):Option Bool:=
 some ((a.Jump==0)&&(a.Labels==0))
theorem ok77 (d) (a:Zm):OD (d+1) 77 [.ip (Zm.g a)]=(F77 a).map (fun b=>bv b):=by
 rw[od (fn:=p77) rfl rfl]
 refine bz (gand rfl) ?_
 exact lf rfl
def F83_2 (a:Zm):Option Bool:=
 (F77 a).bind fun b=>some (!b)
theorem ok83_2 (d) (a:Zm):OD (d+2) 83 [.fn 77 [] [.ip (Zm.g a)]]=(F83_2 a).map (fun b=>bv b):=by
 rw[od (fn:=p83) rfl rfl]
 refine bo (ok77 d a) fun c=>?_
 exact lf rfl
def F146 (a:Zt):Option Bool:=
 some (a.At !=0)
theorem ok146 (d) (a:Zt):OD (d+1) 146 [.agg (Zt.g a)]=(F146 a).map (fun b=>bv b):=by
 rw[od (fn:=p146) rfl rfl]
 exact lf rfl
def F207 (b:List Zt):Option Int:=
 (aO (E:=Int⊕Unit) (fun(a:Int)=>if decide (a<(b.length:Int))then(lget b a).bind fun c=>(F146 c).bind fun d=>if d then some (.inr (.inl a))else some (.inl (w64 (a+1)))else some (.inr (.inr ()))) B64 0).bind fun e=>(match e with|.inl x7=>some x7|.inr _=>some (-1))
theorem ok207 (d) (a:List Zt):OD (d+2) 207 [.is 3 (I Zt.g a),.fn 146 [] []]=(F207 a).map (fun h=>i64 h):=by
 rw[od (fn:=p207) rfl rfl]
 refine bz lm ?_
 refine bo (aH (S:=Int) (enc:=fun b=>(Q [(0,.is 3 (I Zt.g a)),(1,.fn 146 [] []),(7,i64 (a.length:Int)),(8,i64 b)] [])) (encE:=(fun|.inl c=>(rq [(4,i64 c)] [])|.inr _=>(xq 0 [] []))) (fun b=>?_) B64 0) fun f=>?_
 refine io ?_ (lf rfl)
 refine bo rg fun e=>?_
 refine bo (ok146 d e) fun i=>?_
 refine io (lf rfl) (lf rfl)
 rcases f with c|_
 exact lf rfl
 exact lf rfl
def F145 (a:List Zt):Option Bool:=
 (F207 a).bind fun b=>some (decide (b>=0))
theorem ok145 (d) (a:List Zt):OD (d+3) 145 [.is 3 (I Zt.g a),.fn 146 [] []]=(F145 a).map (fun b=>bv b):=by
 rw[od (fn:=p145) rfl rfl]
 refine bo (ok207 d a) fun c=>?_
 exact lf rfl
def F148 (a:Zc):Option Bool:=
 some (a.At !=0)
theorem ok148 (d) (a:Zc):OD (d+1) 148 [.agg (Zc.g a)]=(F148 a).map (fun b=>bv b):=by
 rw[od (fn:=p148) rfl rfl]
 exact lf rfl
def F208 (b:List Zc):Option Int:=
 (aO (E:=Int⊕Unit) (fun(a:Int)=>if decide (a<(b.length:Int))then(lget b a).bind fun c=>(F148 c).bind fun d=>if d then some (.inr (.inl a))else some (.inl (w64 (a+1)))else some (.inr (.inr ()))) B64 0).bind fun e=>(match e with|.inl x7=>some x7|.inr _=>some (-1))
theorem ok208 (d) (a:List Zc):OD (d+2) 208 [.is 2 (I Zc.g a),.fn 148 [] []]=(F208 a).map (fun h=>i64 h):=by
 rw[od (fn:=p208) rfl rfl]
 refine bz lm ?_
 refine bo (aH (S:=Int) (enc:=fun b=>(Q [(0,.is 2 (I Zc.g a)),(1,.fn 148 [] []),(7,i64 (a.length:Int)),(8,i64 b)] [])) (encE:=(fun|.inl c=>(rq [(4,i64 c)] [])|.inr _=>(xq 0 [] []))) (fun b=>?_) B64 0) fun f=>?_
 refine io ?_ (lf rfl)
 refine bo rg fun e=>?_
 refine bo (ok148 d e) fun i=>?_
 refine io (lf rfl) (lf rfl)
 rcases f with c|_
 exact lf rfl
 exact lf rfl
def F147 (a:List Zc):Option Bool:=
 (F208 a).bind fun b=>some (decide (b>=0))
theorem ok147 (d) (a:List Zc):OD (d+3) 147 [.is 2 (I Zc.g a),.fn 148 [] []]=(F147 a).map (fun b=>bv b):=by
 rw[od (fn:=p147) rfl rfl]
 refine bo (ok208 d a) fun c=>?_
 exact lf rfl
def F79 (a:Zm):Option Bool:=
 (F145 a.Tempi).bind fun f=>(aO (E:=Bool) (fun(⟨e,d⟩:Bool×Int)=>if decide (d<(a.Cells.length:Int))then(lget a.Cells d).bind fun g=>((if e then some true else(F147 g.Clefs).bind fun h=>some h:Option (Bool))).bind fun b=>some (.inl (b,(w64 (d+1))))else some (.inr e)) B64 (f,0)).bind fun c=>some (!c)
theorem ok79 (d) (a:Zm):OD (d+4) 79 [.agg (Zm.g a)]=(F79 a).map (fun k=>bv k):=by
 rw[od (fn:=p79) rfl rfl]
 refine bo (ok145 d a.Tempi) fun i=>?_
 refine bz lm ?_
 refine bo (aH (S:=Bool×Int) (enc:=fun⟨c,f⟩=>(Q [(3,bv c),(10,.is 2 (I Zw.g a.Cells)),(11,i64 (a.Cells.length:Int)),(12,i64 f)] [(0,.box (Zm.g a))])) (encE:=(fun(b:Bool)=>(xq 0 [(3,bv b)] [(0,.box (Zm.g a))]))) (fun⟨c,f⟩=>?_) B64 (i,0)) fun b=>?_
 refine io ?_ (lf rfl)
 refine bo rg fun j=>?_
 refine bo (e:=id) ?_ fun h=>?_
 refine io (lf rfl) ?_
 refine bo (ok147 d j.Clefs) fun l=>?_
 exact lf rfl
 exact lf rfl
 exact lf rfl
def F78 (a:Zm):Option Bool:=
 (F79 a).bind fun b=>some b
theorem ok78 (d) (a:Zm):OD (d+5) 78 [.ip (Zm.g a)]=(F78 a).map (fun b=>bv b):=by
 rw[od (fn:=p78) rfl rfl]
 refine bo (ok79 d a) fun c=>?_
 exact lf rfl
def F83_3 (a:Zm):Option Bool:=
 (F78 a).bind fun b=>some (!b)
theorem ok83_3 (d) (a:Zm):OD (d+6) 83 [.fn 78 [] [.ip (Zm.g a)]]=(F83_3 a).map (fun b=>bv b):=by
 rw[od (fn:=p83) rfl rfl]
 refine bo (ok78 d a) fun c=>?_
 exact lf rfl
def F149 (a:Ze) (b:List (Zz×Bool)):Option Bool:=
 some ((((decide ((a.Heads.length:Int)>0))||(a.Dynamic !=0))||(a.Articulations !=0))||(mget b a.ID false))
theorem ok149 (d) (a:Ze) (b:List (Zz×Bool)):OD (d+1) 149 [.agg (Ze.g a),.ip [.im (I (mEnt (eA Zz.g) bv) b)]]=(F149 a b).map (fun c=>bv c):=by
 rw[od (fn:=p149) rfl rfl]
 refine bz lm ?_
 refine bz (gor rfl) ?_
 refine bz (gor rfl) ?_
 refine bz (gor (bz (kE mW bv b a.ID false) rfl)) ?_
 exact lf rfl
def F209_2 (b:List Ze) (c:List (Zz×Bool)):Option Int:=
 (aO (E:=Int⊕Unit) (fun(a:Int)=>if decide (a<(b.length:Int))then(lget b a).bind fun d=>(F149 d c).bind fun e=>if e then some (.inr (.inl a))else some (.inl (w64 (a+1)))else some (.inr (.inr ()))) B64 0).bind fun f=>(match f with|.inl x8=>some x8|.inr _=>some (-1))
theorem ok209_2 (d) (a:List Ze) (b:List (Zz×Bool)):OD (d+2) 209 [.is 13 (I Ze.g a),.fn 149 [] [.ip [.im (I (mEnt (eA Zz.g) bv) b)]]]=(F209_2 a b).map (fun i=>i64 i):=by
 rw[od (fn:=p209) rfl rfl]
 refine bz lm ?_
 refine bo (aH (S:=Int) (enc:=fun c=>(Q [(0,.is 13 (I Ze.g a)),(1,.fn 149 [] [.ip [.im (I (mEnt (eA Zz.g) bv) b)]]),(7,i64 (a.length:Int)),(8,i64 c)] [])) (encE:=(fun|.inl e=>(rq [(4,i64 e)] [])|.inr _=>(xq 0 [] []))) (fun c=>?_) B64 0) fun h=>?_
 refine io ?_ (lf rfl)
 refine bo rg fun f=>?_
 refine bo (ok149 d f b) fun j=>?_
 refine io (lf rfl) (lf rfl)
 rcases h with e|_
 exact lf rfl
 exact lf rfl
def F150_2 (a:List Ze) (b:List (Zz×Bool)):Option Bool:=
 (F209_2 a b).bind fun c=>some (decide (c>=0))
theorem ok150_2 (d) (a:List Ze) (b:List (Zz×Bool)):OD (d+3) 150 [.is 13 (I Ze.g a),.fn 149 [] [.ip [.im (I (mEnt (eA Zz.g) bv) b)]]]=(F150_2 a b).map (fun c=>bv c):=by
 rw[od (fn:=p150) rfl rfl]
 refine bo (ok209_2 d a b) fun e=>?_
 exact lf rfl
def F81 (h:Zm) (i:List (Zz×Bool)):Option Bool:=
 (aO (E:=Unit⊕Unit) (fun(a:Int)=>if decide (a<(h.Cells.length:Int))then(lget h.Cells a).bind fun c=>(aO (E:=Unit⊕Unit) (fun(b:Int)=>if decide (b<(c.Voices.length:Int))then(lget c.Voices b).bind fun d=>(F150_2 d.Events i).bind fun e=>if e then some (.inr (.inl ()))else some (.inl (w64 (b+1)))else some (.inr (.inr ()))) B64 0).bind fun f=>(match f with|.inl _=>some (.inr (.inl ()))|.inr _=>some (.inl (w64 (a+1))))else some (.inr (.inr ()))) B64 0).bind fun g=>(match g with|.inl _=>some false|.inr _=>some true)
theorem ok81 (d) (a:Zm) (e:List (Zz×Bool)):OD (d+4) 81 [.agg (Zm.g a),.im (I (mEnt (eA Zz.g) bv) e)]=(F81 a e).map (fun l=>bv l):=by
 rw[od (fn:=p81) rfl rfl]
 refine bz lm ?_
 refine bo (aH (S:=Int) (enc:=fun b=>(Q [(5,.fn 149 [] [.ref 1 0]),(12,.is 2 (I Zw.g a.Cells)),(13,i64 (a.Cells.length:Int)),(14,i64 b)] [(1,.box [.im (I (mEnt (eA Zz.g) bv) e)]),(0,.box (Zm.g a))])) (encE:=(fun|.inl _=>(rq [(4,bv false)] [(1,.box [.im (I (mEnt (eA Zz.g) bv) e)]),(0,.box (Zm.g a))])|.inr _=>(xq 0 [] [(1,.box [.im (I (mEnt (eA Zz.g) bv) e)]),(0,.box (Zm.g a))]))) (fun b=>?_) B64 0) fun j=>?_
 refine io ?_ (lf rfl)
 refine bo rg fun c=>?_
 refine bz lm ?_
 refine bo (aH (S:=Int) (enc:=fun f=>(Q [(5,.fn 149 [] [.ref 1 0]),(12,.is 2 (I Zw.g a.Cells)),(13,i64 (a.Cells.length:Int)),(14,i64 b),(19,.is 2 (I Zo.g c.Voices)),(20,i64 (c.Voices.length:Int)),(21,i64 f)] [(2,.box (Zw.g c)),(1,.box [.im (I (mEnt (eA Zz.g) bv) e)]),(0,.box (Zm.g a))])) (encE:=(fun|.inl _=>(rq [(4,bv false),(5,.fn 149 [] [.ref 1 0]),(12,.is 2 (I Zw.g a.Cells)),(13,i64 (a.Cells.length:Int)),(14,i64 b)] [(2,.box (Zw.g c)),(1,.box [.im (I (mEnt (eA Zz.g) bv) e)]),(0,.box (Zm.g a))])|.inr _=>(xq 2 [(5,.fn 149 [] [.ref 1 0]),(12,.is 2 (I Zw.g a.Cells)),(13,i64 (a.Cells.length:Int)),(14,i64 b)] [(2,.box (Zw.g c)),(1,.box [.im (I (mEnt (eA Zz.g) bv) e)]),(0,.box (Zm.g a))]))) (fun f=>?_) B64 0) fun i=>?_
 refine io ?_ (lf rfl)
 refine bo rg fun h=>?_
 refine bo (ok150_2 d h.Events e) fun k=>?_
 refine io (lf rfl) (lf rfl)
 rcases i with _|_
 exact lf rfl
 exact lf rfl
 rcases j with _|_
 exact lf rfl
 exact lf rfl
def F80 (a:Zm) (b:List (Zz×Bool)):Option Bool:=
 (F81 a b).bind fun c=>some c
theorem ok80 (d) (a:Zm) (b:List (Zz×Bool)):OD (d+5) 80 [.ip (Zm.g a),.ip [.im (I (mEnt (eA Zz.g) bv) b)]]=(F80 a b).map (fun c=>bv c):=by
 rw[od (fn:=p80) rfl rfl]
 refine bo (ok81 d a b) fun e=>?_
 exact lf rfl
def F83_4 (a:Zm) (b:List (Zz×Bool)):Option Bool:=
 (F80 a b).bind fun c=>some (!c)
theorem ok83_4 (d) (a:Zm) (b:List (Zz×Bool)):OD (d+6) 83 [.fn 80 [] [.ip (Zm.g a),.ip [.im (I (mEnt (eA Zz.g) bv) b)]]]=(F83_4 a b).map (fun c=>bv c):=by
 rw[od (fn:=p83) rfl rfl]
 refine bo (ok80 d a b) fun e=>?_
 exact lf rfl
def Fn151 (b:List (Zz×Bool)) (a:Zm):Option Int:=
 (F83 a).bind fun c=>if c then some 0 else(F83_2 a).bind fun d=>if d then some 1 else(F83_3 a).bind fun e=>if e then some 2 else(F83_4 a b).bind fun f=>if f then some 3 else some (-1)
theorem okn151 (d) (b:List (Zz×Bool)) (a:Zm):runR (XD (d+7)) 151 [.own 2,.fn 83 [] []] [(2,.fl [.fn 76 [] [.ref 0 0],.fn 77 [] [.ref 0 0],.fn 78 [] [.ref 0 0],.fn 80 [] [.ref 0 0,.ref 1 0]]),(1,.box [.im (I (mEnt (eA Zz.g) bv) b)]),(0,.box (Zm.g a))] 3 false=(Fn151 b a).map (fun(c:Int)=>((i64 c,[(2,.fl [.fn 76 [] [.ref 0 0],.fn 77 [] [.ref 0 0],.fn 78 [] [.ref 0 0],.fn 80 [] [.ref 0 0,.ref 1 0]]),(1,.box [.im (I (mEnt (eA Zz.g) bv) b)]),(0,.box (Zm.g a))],0))):=by
 rw[xd (fn:=p151) rfl]
 refine bo (ok83 (d+4) a) fun e=>?_
 refine io (lf rfl) ?_
 refine bo (ok83_2 (d+4) a) fun f=>?_
 refine io (lf rfl) ?_
 refine bo (ok83_3 d a) fun h=>?_
 refine io (lf rfl) ?_
 refine bo (ok83_4 d a b) fun i=>?_
 refine io (lf rfl) (lf rfl)
def Fn82 (a:List (Zz×Bool)) (b:Zm):Option Bool:=
 (Fn151 a b).bind fun c=>some (decide (c>=0))
theorem okn82 (d) (a:List (Zz×Bool)) (b:Zm):runR (XD (d+8)) 82 [.own 2,.fn 83 [] []] [(2,.fl [.fn 76 [] [.ref 0 0],.fn 77 [] [.ref 0 0],.fn 78 [] [.ref 0 0],.fn 80 [] [.ref 0 0,.ref 1 0]]),(1,.box [.im (I (mEnt (eA Zz.g) bv) a)]),(0,.box (Zm.g b))] 3 false=(Fn82 a b).map (fun(c:Bool)=>((bv c,[(2,.fl [.fn 76 [] [.ref 0 0],.fn 77 [] [.ref 0 0],.fn 78 [] [.ref 0 0],.fn 80 [] [.ref 0 0,.ref 1 0]]),(1,.box [.im (I (mEnt (eA Zz.g) bv) a)]),(0,.box (Zm.g b))],0))):=by
 rw[xd (fn:=p82) rfl]
 refine bo (okn151 d a b) fun e=>?_
 exact lf rfl
def F42 (a:Zm) (b:List (Zz×Bool)):Option Bool:=
 (Fn82 b a).bind fun c=>some (!c)
theorem ok42 (d) (a:Zm) (b:List (Zz×Bool)):OD (d+9) 42 [.agg (Zm.g a),.im (I (mEnt (eA Zz.g) bv) b)]=(F42 a b).map (fun c=>bv c):=by
 rw[od (fn:=p42) rfl rfl]
 refine bo (okn82 d b a) fun e=>?_
 exact lf rfl
def F85 (a:Zw):Option Bool:=
 some (decide ((a.Clefs.length:Int)>0))
theorem ok85 (d) (a:Zw):OD (d+1) 85 [.agg (Zw.g a)]=(F85 a).map (fun b=>bv b):=by
 rw[od (fn:=p85) rfl rfl]
 refine bz lm ?_
 exact lf rfl
def F152_3 (b:List Zw):Option Int:=
 (aO (E:=Int⊕Unit) (fun(a:Int)=>if decide (a<(b.length:Int))then(lget b a).bind fun c=>(F85 c).bind fun d=>if d then some (.inr (.inl a))else some (.inl (w64 (a+1)))else some (.inr (.inr ()))) B64 0).bind fun e=>(match e with|.inl x7=>some x7|.inr _=>some (-1))
theorem ok152_3 (d) (a:List Zw):OD (d+2) 152 [.is 2 (I Zw.g a),.fn 85 [] []]=(F152_3 a).map (fun h=>i64 h):=by
 rw[od (fn:=p152) rfl rfl]
 refine bz lm ?_
 refine bo (aH (S:=Int) (enc:=fun b=>(Q [(0,.is 2 (I Zw.g a)),(1,.fn 85 [] []),(7,i64 (a.length:Int)),(8,i64 b)] [])) (encE:=(fun|.inl c=>(rq [(4,i64 c)] [])|.inr _=>(xq 0 [] []))) (fun b=>?_) B64 0) fun f=>?_
 refine io ?_ (lf rfl)
 refine bo rg fun e=>?_
 refine bo (ok85 d e) fun i=>?_
 refine io (lf rfl) (lf rfl)
 rcases f with c|_
 exact lf rfl
 exact lf rfl
def F84_3 (a:List Zw):Option Bool:=
 (F152_3 a).bind fun b=>some (decide (b>=0))
theorem ok84_3 (d) (a:List Zw):OD (d+3) 84 [.is 2 (I Zw.g a),.fn 85 [] []]=(F84_3 a).map (fun b=>bv b):=by
 rw[od (fn:=p84) rfl rfl]
 refine bo (ok152_3 d a) fun c=>?_
 exact lf rfl
def F45 (d:Z0) (c:Int):Option Bool:=
 if c==0 then some false else(lget d.Measures (w64 (c-1))).bind fun b=>(lget d.Measures c).bind fun a=>(F84_3 a.Cells).bind fun e=>some ((((((((((b.Metre.Count==a.Metre.Count)&&((b.Metre.Unit==a.Metre.Unit)&&((b.Metre.Groups.c0==a.Metre.Groups.c0)&&((b.Metre.Groups.c1==a.Metre.Groups.c1)&&((b.Metre.Groups.c2==a.Metre.Groups.c2)&&((b.Metre.Groups.c3==a.Metre.Groups.c3)&&((b.Metre.Groups.c4==a.Metre.Groups.c4)&&((b.Metre.Groups.c5==a.Metre.Groups.c5)&&true))))))))!=false)&&(b.Length==a.Length))&&(b.Fifths==a.Fifths))&&((a.Tempi.length:Int)==0))&&(!e))&&(a.Swing==0))&&(a.Break==0))&&(a.Rehearsal.toList==(⟨#[]⟩:ByteArray).toList))
theorem ok45 (d) (a:Z0) (b:Int):OD (d+4) 45 [.agg (Z0.g a),i64 b]=(F45 a b).map (fun e=>bv e):=by
 rw[od (fn:=p45) rfl rfl]
 refine io (lf rfl) ?_
 refine bo rg fun f=>?_
 refine bo rg fun c=>?_
 refine bo (ok84_3 d c.Cells) fun h=>?_
 refine bz (gand rfl) ?_
 refine bz (gand rfl) ?_
 refine bz (gand (bz lm rfl)) ?_
 refine bz (gand rfl) ?_
 refine bz (gand rfl) ?_
 refine bz (gand rfl) ?_
 refine bz (gand rfl) ?_
 exact lf rfl
def Fy57_4 (a:Zr) (b:List Zr):Option (List Zr):=
 (lapp false b [a]).bind fun c=>some c
theorem oky57_4 (d) (a:Zr) (b:List Zr):yldR (XD (d+1)) 4 [.agg (Zr.g a)] [(4,.loop 13 [(2,.ref 2 0)] [7] q57_4a q57_4b false none),(3,.lst 39 2 false (I Zr.g b)),(2,.box [.own 3])] 5=(Fy57_4 a b).map (fun(c:List Zr)=>((bv true,[(4,.loop 13 [(2,.ref 2 0)] [7] q57_4a q57_4b false none),(3,.lst 39 2 false (I Zr.g c)),(2,.box [.own 3])],0))):=by
 rw[yd]
 refine bz (okg vY) ?_
 refine bo (aY false Zr.g b [a]) fun e=>?_
 exact lf rfl
def Fn58 (r:List Zr) (g:Z0):Option (List Zr):=
 (F43 g).bind fun s=>(aO (E:=List Zr) (fun(⟨d,e⟩:Int×(List Zr))=>if decide (d<(g.Measures.length:Int))then(aO (E:=Int×Int) (fun(⟨a,f⟩:Int×Int)=>((if decide (a<(g.Measures.length:Int))then(lget g.Measures a).bind fun h=>(F42 h s).bind fun i=>some i else some false:Option (Bool))).bind fun j=>((if j then((if f==0 then some true else(F45 g a).bind fun k=>some k:Option (Bool))).bind fun l=>some l else some false:Option (Bool))).bind fun m=>if m then some (.inl ((w64 (a+1)),(w64 (f+1))))else some (.inr (a,f))) B64 (d,0)).bind fun⟨b,c⟩=>if decide (c>=2)then(Fy57_4 (Zr.mk d c) e).bind fun n=>((if c==0 then some (w64 (b+1))else some b:Option (Int))).bind fun o=>some (.inl (o,n))else((if c==0 then some (w64 (b+1))else some b:Option (Int))).bind fun p=>some (.inl (p,e))else some (.inr e)) B64 (0,r)).bind fun q=>some q
theorem okn58 (d) (o:List Zr) (c:Z0):runR (XD (d+10)) 58 [.yld 4,.ref 1 0] [(4,.loop 13 [(2,.ref 2 0)] [7] q57_4a q57_4b false none),(3,.lst 39 2 false (I Zr.g o)),(2,.box [.own 3]),(1,.box (Z0.g c))] 5 false=(Fn58 o c).map (fun(r:List Zr)=>((.tup [],[(4,.loop 13 [(2,.ref 2 0)] [7] q57_4a q57_4b false none),(3,.lst 39 2 false (I Zr.g r)),(2,.box [.own 3]),(1,.box (Z0.g c))],0))):=by
 rw[xd (fn:=p58) rfl]
 refine bo (ok43 (d+8) c) fun i=>?_
 refine bo (aH (S:=Int×(List Zr)) (enc:=fun⟨a,b⟩=>(Q [(0,.yld 4),(1,.ref 1 0),(3,.im (I (mEnt (eA Zz.g) bv) i)),(4,i64 a)] [(4,.loop 13 [(2,.ref 2 0)] [7] q57_4a q57_4b false none),(3,.lst 39 2 false (I Zr.g b)),(2,.box [.own 3]),(1,.box (Z0.g c))])) (encE:=(fun(n:List Zr)=>(xq 0 [] [(4,.loop 13 [(2,.ref 2 0)] [7] q57_4a q57_4b false none),(3,.lst 39 2 false (I Zr.g n)),(2,.box [.own 3]),(1,.box (Z0.g c))]))) (fun⟨a,b⟩=>?_) B64 (0,o)) fun n=>?_
 refine bz lm ?_
 refine io ?_ (lf rfl)
 refine bo (aH (S:=Int×Int) (enc:=fun⟨h,j⟩=>(Q [(0,.yld 4),(1,.ref 1 0),(3,.im (I (mEnt (eA Zz.g) bv) i)),(4,i64 h),(5,.ref 5 0)] [(5,.box [i64 a,i64 j]),(4,.loop 13 [(2,.ref 2 0)] [7] q57_4a q57_4b false none),(3,.lst 39 2 false (I Zr.g b)),(2,.box [.own 3]),(1,.box (Z0.g c))])) (encE:=(fun(⟨k,f⟩:Int×Int)=>(xq 2 [(0,.yld 4),(1,.ref 1 0),(3,.im (I (mEnt (eA Zz.g) bv) i)),(4,i64 k),(5,.ref 5 0)] [(5,.box [i64 a,i64 f]),(4,.loop 13 [(2,.ref 2 0)] [7] q57_4a q57_4b false none),(3,.lst 39 2 false (I Zr.g b)),(2,.box [.own 3]),(1,.box (Z0.g c))]))) (fun⟨h,j⟩=>?_) B64 (a,0)) fun⟨k,f⟩=>?_
 refine bz lm ?_
 refine bo (e:=id) ?_ fun t=>?_
 refine io ?_ (lf rfl)
 refine bo rg fun p=>?_
 refine bo (ok42 d p i) fun s=>?_
 exact lf rfl
 refine bo (e:=id) ?_ fun w=>?_
 refine io ?_ (lf rfl)
 refine bo (e:=id) ?_ fun v=>?_
 refine io (lf rfl) ?_
 refine bo (ok45 (d+5) c h) fun u=>?_
 exact lf rfl
 exact lf rfl
 refine io (lf rfl) (lf rfl)
 refine io ?_ ?_
 refine bo (oky57_4 (d+8) (Zr.mk a f) b) fun q=>?_
 refine bo (e:=(fun(l:Int)=>(nq [(0,.yld 4),(1,.ref 1 0),(3,.im (I (mEnt (eA Zz.g) bv) i)),(4,i64 l)] [(4,.loop 13 [(2,.ref 2 0)] [7] q57_4a q57_4b false none),(3,.lst 39 2 false (I Zr.g q)),(2,.box [.own 3]),(5,.box [i64 a,i64 f]),(1,.box (Z0.g c))]))) ?_ fun l=>?_
 refine io (lf rfl) (lf rfl)
 exact lf rfl
 refine bo (e:=(fun(m:Int)=>(nq [(0,.yld 4),(1,.ref 1 0),(3,.im (I (mEnt (eA Zz.g) bv) i)),(4,i64 m)] [(5,.box [i64 a,i64 f]),(4,.loop 13 [(2,.ref 2 0)] [7] q57_4a q57_4b false none),(3,.lst 39 2 false (I Zr.g b)),(2,.box [.own 3]),(1,.box (Z0.g c))]))) ?_ fun m=>?_
 refine io (lf rfl) (lf rfl)
 exact lf rfl
 exact lf rfl
def Fn57 (a:Z0):Option (List Zr):=
 (Fn58 [] a).bind fun b=>some b
theorem okn57 (d) (a:Z0):runR (XD (d+11)) 57 [.v (.slice none 0 0),.fn 58 [] [.ref 1 0]] [(1,.box (Z0.g a))] 2 true=(Fn57 a).map (fun(b:List Zr)=>((.own 3,[(3,.lst 39 2 false (I Zr.g b)),(1,.box (Z0.g a))],5))):=by
 rw[xd (fn:=p57) rfl]
 refine bo (okn58 d [] a) fun c=>?_
 exact lf rfl
def Fn35 (a:Z0):Option (List Zr):=
 (Fn57 a).bind fun b=>some b
theorem okn35 (d) (a:Z0):runR (XD (d+12)) 35 [.fn 58 [] [.ref 1 0]] [(1,.box (Z0.g a))] 2 true=(Fn35 a).map (fun(b:List Zr)=>((.own 3,[(3,.lst 39 2 false (I Zr.g b)),(1,.box (Z0.g a))],5))):=by
 rw[xd (fn:=p35) rfl]
 refine bo (okn57 d a) fun c=>?_
 exact lf rfl
def F14 (a:Z0):Option ((List Zr)×Int):=
 (F16 a).bind fun b=>if !b then some ([],24)else(Fn36 a).bind fun _=>(Fn35 a).bind fun c=>some (c,0)
theorem ok14 (d) (a:Z0):OD (d+27) 14 [.agg (Z0.g a)]=(F14 a).map (fun⟨b,c⟩=>.tup [.is 2 (I Zr.g b),i64 c]):=by
 rw[od (fn:=p14) rfl rfl]
 refine bo (ok16 d a) fun e=>?_
 refine io (lf rfl) ?_
 refine bo (okn36 (d+25) a) fun _=>?_
 refine bo (okn35 (d+14) a) fun f=>?_
 exact lf rfl
def Fn36_2 (a:Z0):Option Unit:=
 some ()
theorem okn36_2 (d) (a:Z0):runR (XD (d+1)) 36 [.agg (Z0.g a)] [] 3 true=(Fn36_2 a).map (fun(_:Unit)=>((.fn 58 [] [.ref 3 0],[(3,.box (Z0.g a))],4))):=by
 rw[xd (fn:=p36) rfl]
 exact lf rfl
def Fy57_4_2 (a:Zr) (b:List Zr):Option (List Zr):=
 (lapp false b [a]).bind fun c=>some c
theorem oky57_4_2 (d) (a:Zr) (b:List Zr):yldR (XD (d+1)) 6 [.agg (Zr.g a)] [(6,.loop 13 [(2,.ref 4 0)] [7] q57_4a q57_4b false none),(5,.lst 39 2 false (I Zr.g b)),(4,.box [.own 5])] 7=(Fy57_4_2 a b).map (fun(c:List Zr)=>((bv true,[(6,.loop 13 [(2,.ref 4 0)] [7] q57_4a q57_4b false none),(5,.lst 39 2 false (I Zr.g c)),(4,.box [.own 5])],0))):=by
 rw[yd]
 refine bz (okg vY) ?_
 refine bo (aY false Zr.g b [a]) fun e=>?_
 exact lf rfl
def Fn58_2 (r:List Zr) (g:Z0):Option (List Zr):=
 (F43 g).bind fun s=>(aO (E:=List Zr) (fun(⟨d,e⟩:Int×(List Zr))=>if decide (d<(g.Measures.length:Int))then(aO (E:=Int×Int) (fun(⟨a,f⟩:Int×Int)=>((if decide (a<(g.Measures.length:Int))then(lget g.Measures a).bind fun h=>(F42 h s).bind fun i=>some i else some false:Option (Bool))).bind fun j=>((if j then((if f==0 then some true else(F45 g a).bind fun k=>some k:Option (Bool))).bind fun l=>some l else some false:Option (Bool))).bind fun m=>if m then some (.inl ((w64 (a+1)),(w64 (f+1))))else some (.inr (a,f))) B64 (d,0)).bind fun⟨b,c⟩=>if decide (c>=2)then(Fy57_4_2 (Zr.mk d c) e).bind fun n=>((if c==0 then some (w64 (b+1))else some b:Option (Int))).bind fun o=>some (.inl (o,n))else((if c==0 then some (w64 (b+1))else some b:Option (Int))).bind fun p=>some (.inl (p,e))else some (.inr e)) B64 (0,r)).bind fun q=>some q
theorem okn58_2 (d) (o:List Zr) (c:Z0):runR (XD (d+10)) 58 [.yld 6,.ref 3 0] [(6,.loop 13 [(2,.ref 4 0)] [7] q57_4a q57_4b false none),(5,.lst 39 2 false (I Zr.g o)),(4,.box [.own 5]),(3,.box (Z0.g c))] 7 false=(Fn58_2 o c).map (fun(r:List Zr)=>((.tup [],[(6,.loop 13 [(2,.ref 4 0)] [7] q57_4a q57_4b false none),(5,.lst 39 2 false (I Zr.g r)),(4,.box [.own 5]),(3,.box (Z0.g c))],0))):=by
 rw[xd (fn:=p58) rfl]
 refine bo (ok43 (d+8) c) fun i=>?_
 refine bo (aH (S:=Int×(List Zr)) (enc:=fun⟨a,b⟩=>(Q [(0,.yld 6),(1,.ref 3 0),(3,.im (I (mEnt (eA Zz.g) bv) i)),(4,i64 a)] [(6,.loop 13 [(2,.ref 4 0)] [7] q57_4a q57_4b false none),(5,.lst 39 2 false (I Zr.g b)),(4,.box [.own 5]),(3,.box (Z0.g c))])) (encE:=(fun(n:List Zr)=>(xq 0 [] [(6,.loop 13 [(2,.ref 4 0)] [7] q57_4a q57_4b false none),(5,.lst 39 2 false (I Zr.g n)),(4,.box [.own 5]),(3,.box (Z0.g c))]))) (fun⟨a,b⟩=>?_) B64 (0,o)) fun n=>?_
 refine bz lm ?_
 refine io ?_ (lf rfl)
 refine bo (aH (S:=Int×Int) (enc:=fun⟨h,j⟩=>(Q [(0,.yld 6),(1,.ref 3 0),(3,.im (I (mEnt (eA Zz.g) bv) i)),(4,i64 h),(5,.ref 7 0)] [(7,.box [i64 a,i64 j]),(6,.loop 13 [(2,.ref 4 0)] [7] q57_4a q57_4b false none),(5,.lst 39 2 false (I Zr.g b)),(4,.box [.own 5]),(3,.box (Z0.g c))])) (encE:=(fun(⟨k,f⟩:Int×Int)=>(xq 2 [(0,.yld 6),(1,.ref 3 0),(3,.im (I (mEnt (eA Zz.g) bv) i)),(4,i64 k),(5,.ref 7 0)] [(7,.box [i64 a,i64 f]),(6,.loop 13 [(2,.ref 4 0)] [7] q57_4a q57_4b false none),(5,.lst 39 2 false (I Zr.g b)),(4,.box [.own 5]),(3,.box (Z0.g c))]))) (fun⟨h,j⟩=>?_) B64 (a,0)) fun⟨k,f⟩=>?_
 refine bz lm ?_
 refine bo (e:=id) ?_ fun t=>?_
 refine io ?_ (lf rfl)
 refine bo rg fun p=>?_
 refine bo (ok42 d p i) fun s=>?_
 exact lf rfl
 refine bo (e:=id) ?_ fun w=>?_
 refine io ?_ (lf rfl)
 refine bo (e:=id) ?_ fun v=>?_
 refine io (lf rfl) ?_
 refine bo (ok45 (d+5) c h) fun u=>?_
 exact lf rfl
 exact lf rfl
 refine io (lf rfl) (lf rfl)
 refine io ?_ ?_
 refine bo (oky57_4_2 (d+8) (Zr.mk a f) b) fun q=>?_
 refine bo (e:=(fun(l:Int)=>(nq [(0,.yld 6),(1,.ref 3 0),(3,.im (I (mEnt (eA Zz.g) bv) i)),(4,i64 l)] [(6,.loop 13 [(2,.ref 4 0)] [7] q57_4a q57_4b false none),(5,.lst 39 2 false (I Zr.g q)),(4,.box [.own 5]),(7,.box [i64 a,i64 f]),(3,.box (Z0.g c))]))) ?_ fun l=>?_
 refine io (lf rfl) (lf rfl)
 exact lf rfl
 refine bo (e:=(fun(m:Int)=>(nq [(0,.yld 6),(1,.ref 3 0),(3,.im (I (mEnt (eA Zz.g) bv) i)),(4,i64 m)] [(7,.box [i64 a,i64 f]),(6,.loop 13 [(2,.ref 4 0)] [7] q57_4a q57_4b false none),(5,.lst 39 2 false (I Zr.g b)),(4,.box [.own 5]),(3,.box (Z0.g c))]))) ?_ fun m=>?_
 refine io (lf rfl) (lf rfl)
 exact lf rfl
 exact lf rfl
def Fn57_2 (a:Z0):Option (List Zr):=
 (Fn58_2 [] a).bind fun b=>some b
theorem okn57_2 (d) (a:Z0):runR (XD (d+11)) 57 [.v (.slice none 0 0),.fn 58 [] [.ref 3 0]] [(3,.box (Z0.g a))] 4 true=(Fn57_2 a).map (fun(b:List Zr)=>((.own 5,[(5,.lst 39 2 false (I Zr.g b)),(3,.box (Z0.g a))],7))):=by
 rw[xd (fn:=p57) rfl]
 refine bo (okn58_2 d [] a) fun c=>?_
 exact lf rfl
def Fn35_2 (a:Z0):Option (List Zr):=
 (Fn57_2 a).bind fun b=>some b
theorem okn35_2 (d) (a:Z0):runR (XD (d+12)) 35 [.fn 58 [] [.ref 3 0]] [(3,.box (Z0.g a))] 4 true=(Fn35_2 a).map (fun(b:List Zr)=>((.own 5,[(5,.lst 39 2 false (I Zr.g b)),(3,.box (Z0.g a))],7))):=by
 rw[xd (fn:=p35) rfl]
 refine bo (okn57_2 d a) fun c=>?_
 exact lf rfl
def F40 (a:Zr) (b:Int):Option Bool:=
 some ((decide (b>=a.First))&&(decide ((w64 (b-a.First))<a.Count)))
theorem ok40 (d) (a:Zr) (b:Int):OD (d+1) 40 [.agg (Zr.g a),.ip [i64 b]]=(F40 a b).map (fun c=>bv c):=by
 rw[od (fn:=p40) rfl rfl]
 refine bz (gand rfl) ?_
 exact lf rfl
def F39 (b:List Zr) (c:Int):Option Int:=
 (aO (E:=Int⊕Unit) (fun(a:Int)=>if decide (a<(b.length:Int))then(lget b a).bind fun d=>(F40 d c).bind fun e=>if e then some (.inr (.inl a))else some (.inl (w64 (a+1)))else some (.inr (.inr ()))) B64 0).bind fun f=>(match f with|.inl x8=>some x8|.inr _=>some (-1))
theorem ok39 (d) (a:List Zr) (b:Int):OD (d+2) 39 [.is 2 (I Zr.g a),.fn 40 [] [.ip [i64 b]]]=(F39 a b).map (fun i=>i64 i):=by
 rw[od (fn:=p39) rfl rfl]
 refine bz lm ?_
 refine bo (aH (S:=Int) (enc:=fun c=>(Q [(0,.is 2 (I Zr.g a)),(1,.fn 40 [] [.ip [i64 b]]),(7,i64 (a.length:Int)),(8,i64 c)] [])) (encE:=(fun|.inl e=>(rq [(4,i64 e)] [])|.inr _=>(xq 0 [] []))) (fun c=>?_) B64 0) fun h=>?_
 refine io ?_ (lf rfl)
 refine bo rg fun f=>?_
 refine bo (ok40 d f b) fun j=>?_
 refine io (lf rfl) (lf rfl)
 rcases h with e|_
 exact lf rfl
 exact lf rfl
def F20 (a:List Zr) (c:Int):Option (Zr×Bool):=
 (F39 a c).bind fun b=>if decide (b<0)then some ((Zr.mk 0 0),false)else(lget a b).bind fun d=>some (d,true)
theorem ok20 (d) (a:List Zr) (b:Int):OD (d+3) 20 [.is 2 (I Zr.g a),i64 b]=(F20 a b).map (fun⟨c,e⟩=>.tup [.agg (Zr.g c),bv e]):=by
 rw[od (fn:=p20) rfl rfl]
 refine bo (ok39 d a b) fun f=>?_
 refine io (lf rfl) ?_
 refine bo rg fun h=>?_
 exact lf rfl
def F37 (d:Z0):Option ((List Int)×(List Int)):=
 (Fn36_2 d).bind fun _=>(Fn35_2 d).bind fun l=>(aO (E:=(List Int)×(List Int)) (fun(⟨c,k,a⟩:Int×(List Int)×(List Int))=>if decide (c<(d.Measures.length:Int))then(F20 l c).bind fun⟨e,f⟩=>((if f then some e.Count else some 1:Option (Int))).bind fun b=>(lapp false a [c]).bind fun g=>(lapp false k [b]).bind fun h=>some (.inl ((w64 (c+b)),h,g))else some (.inr (k,a))) B64 (0,[],[])).bind fun⟨i,j⟩=>some (j,i)
theorem ok37 (d) (a:Z0):OD (d+13) 37 [.agg (Z0.g a)]=(F37 a).map (fun⟨p,q⟩=>.tup [.is 1 (I cI p),.is 1 (I cI q)]):=by
 rw[od (fn:=p37) rfl rfl]
 refine bo (okn36_2 (d+11) a) fun _=>?_
 refine bo (okn35_2 d a) fun j=>?_
 refine bo (aH (S:=Int×(List Int)×(List Int)) (enc:=fun⟨i,k,b⟩=>(Q [(1,.ref 0 0),(2,.own 1),(3,.own 2),(4,.own 5),(5,i64 i)] [(5,.lst 39 2 false (I Zr.g j)),(3,.box (Z0.g a)),(2,.lst 3 1 false (I cI k)),(1,.lst 3 1 false (I cI b)),(0,.box (Z0.g a))])) (encE:=(fun(⟨f,h⟩:(List Int)×(List Int))=>(xq 0 [(2,.own 1),(3,.own 2)] [(5,.lst 39 2 false (I Zr.g j)),(3,.box (Z0.g a)),(2,.lst 3 1 false (I cI f)),(1,.lst 3 1 false (I cI h)),(0,.box (Z0.g a))]))) (fun⟨i,k,b⟩=>?_) B64 (0,[],[])) fun⟨f,h⟩=>?_
 refine bz lm ?_
 refine io ?_ (lf rfl)
 refine bo (ok20 (d+9) j i) fun⟨l,m⟩=>?_
 refine bo (e:=(fun(c:Int)=>(nq [(1,.ref 0 0),(2,.own 1),(3,.own 2),(4,.own 5),(5,i64 i),(6,i64 c)] [(7,.box (Zr.g l)),(5,.lst 39 2 false (I Zr.g j)),(3,.box (Z0.g a)),(2,.lst 3 1 false (I cI k)),(1,.lst 3 1 false (I cI b)),(0,.box (Z0.g a))]))) ?_ fun c=>?_
 refine io (lf rfl) (lf rfl)
 refine bo (aY false cI b [i]) fun n=>?_
 refine bo (aY false cI k [c]) fun o=>?_
 exact lf rfl
 exact lf rfl
def F15 (a:Z0):Option ((List Int)×Int):=
 (F16 a).bind fun b=>if !b then some ([],24)else(F37 a).bind fun⟨c,d⟩=>some (c,0)
theorem ok15 (d) (a:Z0):OD (d+27) 15 [.agg (Z0.g a)]=(F15 a).map (fun⟨b,c⟩=>.tup [.is 1 (I cI b),i64 c]):=by
 rw[od (fn:=p15) rfl rfl]
 refine bo (ok16 d a) fun e=>?_
 refine io (lf rfl) ?_
 refine bo (ok37 (d+13) a) fun⟨f,h⟩=>?_
 exact lf rfl
def F12:Option Bool:=
 (some ex40).bind fun f=>(F14 f).bind fun⟨g,i⟩=>(F15 f).bind fun⟨a,j⟩=>((if(i==0)&&((g.length:Int)==1)then(lget g 0).bind fun h=>some (((h.First==1)&&((h.Count==3)&&true))!=false)else some false:Option (Bool))).bind fun k=>((if(k&&(j==0))&&((a.length:Int)==3)then(lget a 0).bind fun l=>some (l==0)else some false:Option (Bool))).bind fun m=>((if m then(lget a 1).bind fun b=>some (b==1)else some false:Option (Bool))).bind fun c=>((if c then(lget a 2).bind fun d=>some (d==4)else some false:Option (Bool))).bind fun e=>some e
theorem ok12 (d):OD (d+28) 12 []=(F12).map (fun h=>bv h):=by
 rw[od (fn:=p12) rfl rfl]
 refine bo (fR1 (d+27)) fun a=>?_
 refine bo (ok14 d a) fun⟨i,j⟩=>?_
 refine bo (ok15 d a) fun⟨k,l⟩=>?_
 refine bz (gand (bz lm rfl)) ?_
 refine bo (e:=id) ?_ fun n=>?_
 refine io ?_ (lf rfl)
 refine bo rg fun m=>?_
 exact lf rfl
 refine bz (gand rfl) ?_
 refine bz (gand (bz lm rfl)) ?_
 refine bo (e:=id) ?_ fun p=>?_
 refine io ?_ (lf rfl)
 refine bo rg fun o=>?_
 exact lf rfl
 refine bo (e:=id) ?_ fun c=>?_
 refine io ?_ (lf rfl)
 refine bo rg fun b=>?_
 exact lf rfl
 refine bo (e:=id) ?_ fun g=>?_
 refine io ?_ (lf rfl)
 refine bo rg fun f=>?_
 exact lf rfl
 exact lf rfl
def F33 (c:Zo):Option Bool:=
 (aO (E:=Unit⊕Unit) (fun(g:Int)=>if decide (g<(c.Events.length:Int))then(lget c.Events g).bind fun b=>if((decide ((b.Heads.length:Int)>12))||(decide ((b.Graces.length:Int)>12)))||(decide ((b.Lyrics.length:Int)>12))then some (.inr (.inl ()))else(aO (E:=Unit⊕Unit) (fun(a:Int)=>if decide (a<(b.Lyrics.length:Int))then(lget b.Lyrics a).bind fun d=>if decide ((d.Text.size:Int)>300)then some (.inr (.inl ()))else some (.inl (w64 (a+1)))else some (.inr (.inr ()))) B64 0).bind fun e=>(match e with|.inl _=>some (.inr (.inl ()))|.inr _=>some (.inl (w64 (g+1))))else some (.inr (.inr ()))) B64 0).bind fun f=>(match f with|.inl _=>some false|.inr _=>some ((decide ((c.Events.length:Int)<=20))&&(decide ((c.Tuplets.length:Int)<=6))))
theorem ok33 (d) (a:Zo):OD (d+1) 33 [.agg (Zo.g a)]=(F33 a).map (fun j=>bv j):=by
 rw[od (fn:=p33) rfl rfl]
 refine bo (aH (S:=Int) (enc:=fun c=>(Q [(1,.ref 0 0),(3,i64 c)] [(0,.box (Zo.g a))])) (encE:=(fun|.inl _=>(rq [(1,.ref 0 0),(2,bv false)] [(0,.box (Zo.g a))])|.inr _=>(xq 0 [(1,.ref 0 0)] [(0,.box (Zo.g a))]))) (fun c=>?_) B64 0) fun f=>?_
 refine bz lm ?_
 refine io ?_ (lf rfl)
 refine bo rg fun h=>?_
 refine bz lm ?_
 refine bz (gor (bz lm rfl)) ?_
 refine bz (gor (bz lm rfl)) ?_
 refine io (lf rfl) ?_
 refine bo (aH (S:=Int) (enc:=fun b=>(Q [(1,.ref 0 0),(3,i64 c),(4,.ref 1 0),(5,i64 b)] [(1,.box (Ze.g h)),(0,.box (Zo.g a))])) (encE:=(fun|.inl _=>(rq [(1,.ref 0 0),(2,bv false),(3,i64 c)] [(1,.box (Ze.g h)),(0,.box (Zo.g a))])|.inr _=>(xq 2 [(1,.ref 0 0),(3,i64 c)] [(1,.box (Ze.g h)),(0,.box (Zo.g a))]))) (fun b=>?_) B64 0) fun e=>?_
 refine bz lm ?_
 refine io ?_ (lf rfl)
 refine bo rg fun i=>?_
 refine io (lf rfl) (lf rfl)
 rcases e with _|_
 exact lf rfl
 exact lf rfl
 rcases f with _|_
 exact lf rfl
 refine bz lm ?_
 refine bz (gand (bz lm rfl)) ?_
 exact lf rfl
def F34 (e:Zo):Option Int:=
 (aO (E:=Int) (fun(⟨c,a⟩:Int×Int)=>if decide (a<(e.Events.length:Int))then(aO (E:=Int) (fun(⟨d,b⟩:Int×Int)=>(lget e.Events a).bind fun f=>if decide (b<(f.Lyrics.length:Int))then(lget e.Events a).bind fun g=>(lget g.Lyrics b).bind fun h=>some (.inl ((w64 (d+(h.Text.size:Int))),(w64 (b+1))))else some (.inr d)) B64 (c,0)).bind fun i=>some (.inl (i,(w64 (a+1))))else some (.inr c)) B64 (0,0)).bind fun j=>some j
theorem ok34 (d) (c:Zo):OD (d+1) 34 [.agg (Zo.g c)]=(F34 c).map (fun m=>i64 m):=by
 rw[od (fn:=p34) rfl rfl]
 refine bo (aH (S:=Int×Int) (enc:=fun⟨b,a⟩=>(Q [(1,.ref 0 0),(3,i64 b),(4,i64 a)] [(0,.box (Zo.g c))])) (encE:=(fun(i:Int)=>(xq 0 [(3,i64 i)] [(0,.box (Zo.g c))]))) (fun⟨b,a⟩=>?_) B64 (0,0)) fun i=>?_
 refine bz lm ?_
 refine io ?_ (lf rfl)
 refine bo (aH (S:=Int×Int) (enc:=fun⟨e,f⟩=>(Q [(1,.ref 0 0),(3,i64 e),(4,i64 a),(5,i64 f)] [(0,.box (Zo.g c))])) (encE:=(fun(h:Int)=>(xq 2 [(1,.ref 0 0),(3,i64 h),(4,i64 a)] [(0,.box (Zo.g c))]))) (fun⟨e,f⟩=>?_) B64 (b,0)) fun h=>?_
 refine bo rg fun j=>?_
 refine bz lm ?_
 refine io ?_ (lf rfl)
 refine bo rg fun k=>?_
 refine bo rg fun l=>?_
 exact lf rfl
 exact lf rfl
 exact lf rfl
def F13 (j:Z0):Option Bool:=
 (aO (E:=Unit⊕Unit) (fun(y:Int)=>if decide (y<(j.Parts.length:Int))then(lget j.Parts y).bind fun B=>((if decide ((B.Staves.length:Int)>5)then some true else(lget j.Parts y).bind fun C=>some (decide ((C.Name.size:Int)>300)):Option (Bool))).bind fun D=>if D then some (.inr (.inl ()))else some (.inl (w64 (y+1)))else some (.inr (.inr ()))) B64 0).bind fun F=>(match F with|.inl _=>some false|.inr _=>(aO (E:=Unit⊕Unit) (fun(⟨z,A,k⟩:Int×Int×Int)=>if decide (k<(j.Measures.length:Int))then(lget j.Measures k).bind fun b=>if((decide ((b.Cells.length:Int)>5))||(decide ((b.Tempi.length:Int)>5)))||(decide ((b.Rehearsal.size:Int)>300))then some (.inr (.inl ()))else(aO (E:=(Int×Int)⊕(Int×Int)) (fun(⟨f,g,a⟩:Int×Int×Int)=>if decide (a<(b.Cells.length:Int))then(lget b.Cells a).bind fun l=>((if decide ((l.Clefs.length:Int)>5)then some true else(lget b.Cells a).bind fun m=>some (decide ((m.Voices.length:Int)>3)):Option (Bool))).bind fun n=>if n then some (.inr (.inl (f,g)))else(aO (E:=(Int×Int)⊕(Int×Int)) (fun(⟨c,d,e⟩:Int×Int×Int)=>(lget b.Cells a).bind fun o=>if decide (e<(o.Voices.length:Int))then(lget b.Cells a).bind fun p=>(lget p.Voices e).bind fun q=>(F33 q).bind fun r=>if !r then some (.inr (.inl (c,d)))else(lget b.Cells a).bind fun s=>(lget s.Voices e).bind fun h=>(lget b.Cells a).bind fun t=>(lget t.Voices e).bind fun u=>(F34 u).bind fun i=>if(decide ((w64 (c+(h.Events.length:Int)))>400))||(decide ((w64 (d+i))>20000))then some (.inr (.inl ((w64 (c+(h.Events.length:Int))),(w64 (d+i)))))else some (.inl ((w64 (c+(h.Events.length:Int))),(w64 (d+i)),(w64 (e+1))))else some (.inr (.inr (c,d)))) B64 (f,g,0)).bind fun v=>(match v with|.inl ⟨x137,x138⟩=>some (.inr (.inl (x137,x138)))|.inr ⟨x139,x140⟩=>some (.inl (x139,x140,(w64 (a+1)))))else some (.inr (.inr (f,g)))) B64 (z,A,0)).bind fun w=>(match w with|.inl ⟨x142,x143⟩=>some (.inr (.inl ()))|.inr ⟨x144,x145⟩=>some (.inl (x144,x145,(w64 (k+1)))))else some (.inr (.inr ()))) B64 (0,0,0)).bind fun x=>(match x with|.inl _=>some false|.inr _=>some (((((decide ((j.Parts.length:Int)<=4))&&(decide ((j.Measures.length:Int)<=10)))&&(decide ((j.Spanners.length:Int)<=10)))&&(decide ((j.Last.length:Int)<=5)))&&(decide ((j.Title.size:Int)<=300)))))
theorem ok13 (d) (c:Z0):OD (d+2) 13 [.agg (Z0.g c)]=(F13 c).map (fun K=>bv K):=by
 rw[od (fn:=p13) rfl rfl]
 refine bo (aH (S:=Int) (enc:=fun H=>(Q [(1,.ref 0 0),(3,i64 0),(4,i64 0),(5,i64 H)] [(0,.box (Z0.g c))])) (encE:=(fun|.inl _=>(rq [(1,.ref 0 0),(2,bv false),(3,i64 0),(4,i64 0)] [(0,.box (Z0.g c))])|.inr _=>(xq 0 [(1,.ref 0 0),(3,i64 0),(4,i64 0)] [(0,.box (Z0.g c))]))) (fun H=>?_) B64 0) fun J=>?_
 refine bz lm ?_
 refine io ?_ (lf rfl)
 refine bo rg fun L=>?_
 refine bz lm ?_
 refine bo (e:=id) ?_ fun N=>?_
 refine io (lf rfl) ?_
 refine bo rg fun M=>?_
 exact lf rfl
 refine io (lf rfl) (lf rfl)
 rcases J with _|_
 exact lf rfl
 refine bo (aH (S:=Int×Int×Int) (enc:=fun⟨q,r,b⟩=>(Q [(1,.ref 0 0),(3,i64 q),(4,i64 r),(6,i64 b)] [(0,.box (Z0.g c))])) (encE:=(fun|.inl _=>(rq [(1,.ref 0 0),(2,bv false)] [(0,.box (Z0.g c))])|.inr _=>(xq 2 [(1,.ref 0 0)] [(0,.box (Z0.g c))]))) (fun⟨q,r,b⟩=>?_) B64 (0,0,0)) fun w=>?_
 refine bz lm ?_
 refine io ?_ (lf rfl)
 refine bo rg fun f=>?_
 refine bz lm ?_
 refine bz (gor (bz lm rfl)) ?_
 refine bz (gor rfl) ?_
 refine io (lf rfl) ?_
 refine bo (aH (S:=Int×Int×Int) (enc:=fun⟨h,i,a⟩=>(Q [(1,.ref 0 0),(3,i64 h),(4,i64 i),(6,i64 b),(7,.ref 1 0),(8,i64 a)] [(1,.box (Zm.g f)),(0,.box (Z0.g c))])) (encE:=(fun|.inl ⟨o,p⟩=>(rq [(1,.ref 0 0),(2,bv false),(3,i64 o),(4,i64 p),(6,i64 b)] [(1,.box (Zm.g f)),(0,.box (Z0.g c))])|.inr ⟨x144,x145⟩=>(xq 4 [(1,.ref 0 0),(3,i64 x144),(4,i64 x145),(6,i64 b)] [(1,.box (Zm.g f)),(0,.box (Z0.g c))]))) (fun⟨h,i,a⟩=>?_) B64 (q,r,0)) fun v=>?_
 refine bz lm ?_
 refine io ?_ (lf rfl)
 refine bo rg fun x=>?_
 refine bz lm ?_
 refine bo (e:=id) ?_ fun z=>?_
 refine io (lf rfl) ?_
 refine bo rg fun y=>?_
 refine bz lm ?_
 exact lf rfl
 refine io (lf rfl) ?_
 refine bo (aH (S:=Int×Int×Int) (enc:=fun⟨j,k,l⟩=>(Q [(1,.ref 0 0),(3,i64 j),(4,i64 k),(6,i64 b),(7,.ref 1 0),(8,i64 a),(9,i64 l)] [(1,.box (Zm.g f)),(0,.box (Z0.g c))])) (encE:=(fun|.inl ⟨m,n⟩=>(rq [(1,.ref 0 0),(2,bv false),(3,i64 m),(4,i64 n),(6,i64 b),(7,.ref 1 0),(8,i64 a)] [(1,.box (Zm.g f)),(0,.box (Z0.g c))])|.inr ⟨x139,x140⟩=>(xq 6 [(1,.ref 0 0),(3,i64 x139),(4,i64 x140),(6,i64 b),(7,.ref 1 0),(8,i64 a)] [(1,.box (Zm.g f)),(0,.box (Z0.g c))]))) (fun⟨j,k,l⟩=>?_) B64 (h,i,0)) fun u=>?_
 refine bo rg fun A=>?_
 refine bz lm ?_
 refine io ?_ (lf rfl)
 refine bo rg fun B=>?_
 refine bo rg fun s=>?_
 refine bo (ok33 d s) fun C=>?_
 refine io (lf rfl) ?_
 refine bo rg fun D=>?_
 refine bo rg fun E=>?_
 refine bz lm ?_
 refine bo rg fun F=>?_
 refine bo rg fun t=>?_
 refine bo (ok34 d t) fun G=>?_
 refine bz (gor rfl) ?_
 refine io (lf rfl) (lf rfl)
 rcases u with⟨m,n⟩|⟨x139,x140⟩
 exact lf rfl
 exact lf rfl
 rcases v with⟨o,p⟩|⟨x144,x145⟩
 exact lf rfl
 exact lf rfl
 rcases w with _|_
 exact lf rfl
 refine bz lm ?_
 refine bz (gand (bz lm rfl)) ?_
 refine bz (gand (bz lm rfl)) ?_
 refine bz (gand (bz lm rfl)) ?_
 refine bz (gand rfl) ?_
 exact lf rfl
def F44 (c:Z0) (a:Zz):Option Bool:=
 (aO (E:=Unit⊕Unit) (fun(b:Int)=>if decide (b<(c.Spanners.length:Int))then(lget c.Spanners b).bind fun e=>((if((e.From.Site==a.Site)&&((e.From.Number==a.Number)&&true))!=false then some true else(lget c.Spanners b).bind fun f=>some (((f.To.Site==a.Site)&&((f.To.Number==a.Number)&&true))!=false):Option (Bool))).bind fun g=>if g then some (.inr (.inl ()))else some (.inl (w64 (b+1)))else some (.inr (.inr ()))) B64 0).bind fun d=>(match d with|.inl _=>some true|.inr _=>some false)
theorem ok44 (d) (a:Z0) (b:Zz):OD (d+1) 44 [.agg (Z0.g a),.agg (Zz.g b)]=(F44 a b).map (fun h=>bv h):=by
 rw[od (fn:=p44) rfl rfl]
 refine bo (aH (S:=Int) (enc:=fun f=>(Q [(2,.ref 0 0),(3,.ref 1 0),(5,i64 f)] [(1,.box (Zz.g b)),(0,.box (Z0.g a))])) (encE:=(fun|.inl _=>(rq [(4,bv true)] [(1,.box (Zz.g b)),(0,.box (Z0.g a))])|.inr _=>(xq 0 [] [(1,.box (Zz.g b)),(0,.box (Z0.g a))]))) (fun f=>?_) B64 0) fun c=>?_
 refine bz lm ?_
 refine io ?_ (lf rfl)
 refine bo rg fun i=>?_
 refine bo (e:=id) ?_ fun k=>?_
 refine io (lf rfl) ?_
 refine bo rg fun j=>?_
 exact lf rfl
 refine io (lf rfl) (lf rfl)
 rcases c with _|_
 exact lf rfl
 exact lf rfl
def F23 (r:Z0) (s:Int):Option Bool:=
 if(decide (s<0))||(decide (s>=(r.Measures.length:Int)))then some false else(lget r.Measures s).bind fun c=>if(((c.RepeatStart||(c.RepeatEnd !=0))||(c.Endings !=0))||(c.Jump !=0))||(c.Labels !=0)then some false else(aO (E:=Unit⊕Unit) (fun(t:Int)=>if decide (t<(c.Tempi.length:Int))then(lget c.Tempi t).bind fun A=>if A.At !=0 then some (.inr (.inl ()))else some (.inl (w64 (t+1)))else some (.inr (.inr ()))) B64 0).bind fun B=>(match B with|.inl _=>some false|.inr _=>(aO (E:=Unit⊕Unit) (fun(b:Int)=>if decide (b<(c.Cells.length:Int))then(aO (E:=Unit⊕Unit) (fun(e:Int)=>(lget c.Cells b).bind fun u=>if decide (e<(u.Clefs.length:Int))then(lget c.Cells b).bind fun v=>(lget v.Clefs e).bind fun w=>if w.At !=0 then some (.inr (.inl ()))else some (.inl (w64 (e+1)))else some (.inr (.inr ()))) B64 0).bind fun x=>(match x with|.inl _=>some (.inr (.inl ()))|.inr _=>(aO (E:=Unit⊕Unit) (fun(f:Int)=>(lget c.Cells b).bind fun y=>if decide (f<(y.Voices.length:Int))then(lget c.Cells b).bind fun z=>(lget z.Voices f).bind fun d=>(aO (E:=Unit⊕Unit) (fun(a:Int)=>if decide (a<(d.Events.length:Int))then(lget d.Events a).bind fun g=>((if decide ((g.Heads.length:Int)>0)then some true else(lget d.Events a).bind fun h=>some (h.Dynamic !=0):Option (Bool))).bind fun i=>((if i then some true else(lget d.Events a).bind fun j=>some (j.Articulations !=0):Option (Bool))).bind fun k=>((if k then some true else(lget d.Events a).bind fun l=>(F44 r l.ID).bind fun m=>some m:Option (Bool))).bind fun n=>if n then some (.inr (.inl ()))else some (.inl (w64 (a+1)))else some (.inr (.inr ()))) B64 0).bind fun o=>(match o with|.inl _=>some (.inr (.inl ()))|.inr _=>some (.inl (w64 (f+1))))else some (.inr (.inr ()))) B64 0).bind fun p=>(match p with|.inl _=>some (.inr (.inl ()))|.inr _=>some (.inl (w64 (b+1)))))else some (.inr (.inr ()))) B64 0).bind fun q=>(match q with|.inl _=>some false|.inr _=>some true))
theorem ok23 (d) (b:Z0) (w:Int):OD (d+2) 23 [.agg (Z0.g b),i64 w]=(F23 b w).map (fun E=>bv E):=by
 rw[od (fn:=p23) rfl rfl]
 refine bz (gor (bz lm rfl)) ?_
 refine io (lf rfl) ?_
 refine bo rg fun c=>?_
 refine bz (gor rfl) ?_
 refine bz (gor rfl) ?_
 refine bz (gor rfl) ?_
 refine bz (gor rfl) ?_
 refine io (lf rfl) ?_
 refine bo (aH (S:=Int) (enc:=fun x=>(Q [(2,.ref 0 0),(5,.ref 1 0),(6,i64 x)] [(1,.box (Zm.g c)),(0,.box (Z0.g b))])) (encE:=(fun|.inl _=>(rq [(2,.ref 0 0),(4,bv false),(5,.ref 1 0)] [(1,.box (Zm.g c)),(0,.box (Z0.g b))])|.inr _=>(xq 0 [(2,.ref 0 0),(5,.ref 1 0)] [(1,.box (Zm.g c)),(0,.box (Z0.g b))]))) (fun x=>?_) B64 0) fun B=>?_
 refine bz lm ?_
 refine io ?_ (lf rfl)
 refine bo rg fun F=>?_
 refine io (lf rfl) (lf rfl)
 rcases B with _|_
 exact lf rfl
 refine bo (aH (S:=Int) (enc:=fun a=>(Q [(2,.ref 0 0),(5,.ref 1 0),(7,i64 a)] [(1,.box (Zm.g c)),(0,.box (Z0.g b))])) (encE:=(fun|.inl _=>(rq [(4,bv false)] [(1,.box (Zm.g c)),(0,.box (Z0.g b))])|.inr _=>(xq 2 [] [(1,.box (Zm.g c)),(0,.box (Z0.g b))]))) (fun a=>?_) B64 0) fun l=>?_
 refine bz lm ?_
 refine io ?_ (lf rfl)
 refine bo (aH (S:=Int) (enc:=fun m=>(Q [(2,.ref 0 0),(5,.ref 1 0),(7,i64 a),(8,i64 m)] [(1,.box (Zm.g c)),(0,.box (Z0.g b))])) (encE:=(fun|.inl _=>(rq [(2,.ref 0 0),(4,bv false),(5,.ref 1 0),(7,i64 a)] [(1,.box (Zm.g c)),(0,.box (Z0.g b))])|.inr _=>(xq 4 [(2,.ref 0 0),(5,.ref 1 0),(7,i64 a)] [(1,.box (Zm.g c)),(0,.box (Z0.g b))]))) (fun m=>?_) B64 0) fun n=>?_
 refine bo rg fun y=>?_
 refine bz lm ?_
 refine io ?_ (lf rfl)
 refine bo rg fun z=>?_
 refine bo rg fun A=>?_
 refine io (lf rfl) (lf rfl)
 rcases n with _|_
 exact lf rfl
 refine bo (aH (S:=Int) (enc:=fun f=>(Q [(2,.ref 0 0),(5,.ref 1 0),(7,i64 a),(9,i64 f)] [(1,.box (Zm.g c)),(0,.box (Z0.g b))])) (encE:=(fun|.inl _=>(rq [(2,.ref 0 0),(4,bv false),(5,.ref 1 0),(7,i64 a)] [(1,.box (Zm.g c)),(0,.box (Z0.g b))])|.inr _=>(xq 6 [(2,.ref 0 0),(5,.ref 1 0),(7,i64 a)] [(1,.box (Zm.g c)),(0,.box (Z0.g b))]))) (fun f=>?_) B64 0) fun k=>?_
 refine bo rg fun C=>?_
 refine bz lm ?_
 refine io ?_ (lf rfl)
 refine bo rg fun D=>?_
 refine bo rg fun o=>?_
 refine bo (aH (S:=Int) (enc:=fun h=>(Q [(2,.ref 0 0),(5,.ref 1 0),(7,i64 a),(9,i64 f),(10,.is 13 (I Ze.g o.Events)),(11,i64 h)] [(1,.box (Zm.g c)),(0,.box (Z0.g b))])) (encE:=(fun|.inl _=>(rq [(2,.ref 0 0),(4,bv false),(5,.ref 1 0),(7,i64 a),(9,i64 f)] [(1,.box (Zm.g c)),(0,.box (Z0.g b))])|.inr _=>(xq 8 [(2,.ref 0 0),(5,.ref 1 0),(7,i64 a),(9,i64 f)] [(1,.box (Zm.g c)),(0,.box (Z0.g b))]))) (fun h=>?_) B64 0) fun j=>?_
 refine bz lm ?_
 refine io ?_ (lf rfl)
 refine bo rg fun p=>?_
 refine bz lm ?_
 refine bo (e:=id) ?_ fun r=>?_
 refine io (lf rfl) ?_
 refine bo rg fun q=>?_
 exact lf rfl
 refine bo (e:=id) ?_ fun t=>?_
 refine io (lf rfl) ?_
 refine bo rg fun s=>?_
 exact lf rfl
 refine bo (e:=id) ?_ fun v=>?_
 refine io (lf rfl) ?_
 refine bo rg fun i=>?_
 refine bo (ok44 d b i.ID) fun u=>?_
 exact lf rfl
 refine io (lf rfl) (lf rfl)
 rcases j with _|_
 exact lf rfl
 exact lf rfl
 rcases k with _|_
 exact lf rfl
 exact lf rfl
 rcases l with _|_
 exact lf rfl
 exact lf rfl
def F25 (d:Z0) (c:Int):Option Bool:=
 if(decide (c<1))||(decide (c>=(d.Measures.length:Int)))then some false else(lget d.Measures (w64 (c-1))).bind fun b=>(lget d.Measures c).bind fun a=>(aO (E:=Unit⊕Unit) (fun(e:Int)=>if decide (e<(a.Cells.length:Int))then(lget a.Cells e).bind fun f=>if decide ((f.Clefs.length:Int)>0)then some (.inr (.inl ()))else some (.inl (w64 (e+1)))else some (.inr (.inr ()))) B64 0).bind fun g=>(match g with|.inl _=>some false|.inr _=>some (((((((((b.Metre.Count==a.Metre.Count)&&((b.Metre.Unit==a.Metre.Unit)&&((b.Metre.Groups.c0==a.Metre.Groups.c0)&&((b.Metre.Groups.c1==a.Metre.Groups.c1)&&((b.Metre.Groups.c2==a.Metre.Groups.c2)&&((b.Metre.Groups.c3==a.Metre.Groups.c3)&&((b.Metre.Groups.c4==a.Metre.Groups.c4)&&((b.Metre.Groups.c5==a.Metre.Groups.c5)&&true))))))))!=false)&&(b.Length==a.Length))&&(b.Fifths==a.Fifths))&&((a.Tempi.length:Int)==0))&&(a.Swing==0))&&(a.Break==0))&&(a.Rehearsal.toList==(⟨#[]⟩:ByteArray).toList)))
theorem ok25 (d) (a:Z0) (e:Int):OD (d+1) 25 [.agg (Z0.g a),i64 e]=(F25 a e).map (fun i=>bv i):=by
 rw[od (fn:=p25) rfl rfl]
 refine bz (gor (bz lm rfl)) ?_
 refine io (lf rfl) ?_
 refine bo rg fun b=>?_
 refine bo rg fun c=>?_
 refine bo (aH (S:=Int) (enc:=fun f=>(Q [(5,.ref 1 0),(6,.ref 2 0),(7,i64 f)] [(2,.box (Zm.g c)),(1,.box (Zm.g b)),(0,.box (Z0.g a))])) (encE:=(fun|.inl _=>(rq [(4,bv false),(5,.ref 1 0),(6,.ref 2 0)] [(2,.box (Zm.g c)),(1,.box (Zm.g b)),(0,.box (Z0.g a))])|.inr _=>(xq 0 [(5,.ref 1 0),(6,.ref 2 0)] [(2,.box (Zm.g c)),(1,.box (Zm.g b)),(0,.box (Z0.g a))]))) (fun f=>?_) B64 0) fun h=>?_
 refine bz lm ?_
 refine io ?_ (lf rfl)
 refine bo rg fun j=>?_
 refine bz lm ?_
 refine io (lf rfl) (lf rfl)
 rcases h with _|_
 exact lf rfl
 refine bz (gand rfl) ?_
 refine bz (gand rfl) ?_
 refine bz (gand (bz lm rfl)) ?_
 refine bz (gand rfl) ?_
 refine bz (gand rfl) ?_
 refine bz (gand rfl) ?_
 exact lf rfl
def F17 (e:Z0):Option (List Zr):=
 (aO (E:=List Zr) (fun(⟨a,c⟩:Int×(List Zr))=>if decide (a<(e.Measures.length:Int))then(aO (E:=Int) (fun(b:Int)=>(F23 e a).bind fun f=>((if f then(F23 e b).bind fun g=>some g else some false:Option (Bool))).bind fun h=>((if h then(F25 e b).bind fun i=>some i else some false:Option (Bool))).bind fun j=>if j then some (.inl (w64 (b+1)))else some (.inr b)) B64 (w64 (a+1))).bind fun d=>((if decide ((w64 (d-a))>=2)then(lapp false c [(Zr.mk a (w64 (d-a)))]).bind fun k=>some k else some c:Option (List Zr))).bind fun l=>some (.inl (d,l))else some (.inr c)) B64 (0,[])).bind fun m=>some m
theorem ok17 (d) (c:Z0):OD (d+3) 17 [.agg (Z0.g c)]=(F17 c).map (fun q=>.is 2 (I Zr.g q)):=by
 rw[od (fn:=p17) rfl rfl]
 refine bo (aH (S:=Int×(List Zr)) (enc:=fun⟨a,b⟩=>(Q [(1,.ref 0 0),(3,.own 1),(4,i64 a)] [(1,.lst 39 2 false (I Zr.g b)),(0,.box (Z0.g c))])) (encE:=(fun(j:List Zr)=>(xq 0 [(3,.own 1)] [(1,.lst 39 2 false (I Zr.g j)),(0,.box (Z0.g c))]))) (fun⟨a,b⟩=>?_) B64 (0,[])) fun j=>?_
 refine bz lm ?_
 refine io ?_ (lf rfl)
 refine bo (aH (S:=Int) (enc:=fun f=>(Q [(1,.ref 0 0),(3,.own 1),(4,i64 a),(5,i64 f)] [(1,.lst 39 2 false (I Zr.g b)),(0,.box (Z0.g c))])) (encE:=(fun(h:Int)=>(xq 2 [(1,.ref 0 0),(3,.own 1),(4,i64 a),(5,i64 h)] [(1,.lst 39 2 false (I Zr.g b)),(0,.box (Z0.g c))]))) (fun f=>?_) B64 (w64 (a+1))) fun h=>?_
 refine bo (ok23 d c a) fun k=>?_
 refine bo (e:=id) ?_ fun m=>?_
 refine io ?_ (lf rfl)
 refine bo (ok23 d c f) fun l=>?_
 exact lf rfl
 refine bo (e:=id) ?_ fun o=>?_
 refine io ?_ (lf rfl)
 refine bo (ok25 (d+1) c f) fun n=>?_
 exact lf rfl
 refine io (lf rfl) (lf rfl)
 refine bo (e:=(fun(i:List Zr)=>(nq [(1,.ref 0 0),(3,.own 1),(5,i64 h)] [(1,.lst 39 2 false (I Zr.g i)),(0,.box (Z0.g c))]))) ?_ fun i=>?_
 refine io ?_ (lf rfl)
 refine bo (aY false Zr.g b [(Zr.mk a (w64 (h-a)))]) fun p=>?_
 exact lf rfl
 exact lf rfl
 exact lf rfl
def F21 (b:List Zr) (h:Int):Option (Zr×Bool):=
 (aO (E:=Zr⊕Unit) (fun(a:Int)=>if decide (a<(b.length:Int))then(lget b a).bind fun i=>((if decide (h>=i.First)then(lget b a).bind fun c=>(lget b a).bind fun d=>some (decide ((w64 (h-c.First))<d.Count))else some false:Option (Bool))).bind fun e=>if e then(lget b a).bind fun f=>some (.inr (.inl f))else some (.inl (w64 (a+1)))else some (.inr (.inr ()))) B64 0).bind fun g=>(match g with|.inl x14=>some (x14,true)|.inr _=>some ((Zr.mk 0 0),false))
theorem ok21 (d) (b:List Zr) (f:Int):OD (d+1) 21 [.is 2 (I Zr.g b),i64 f]=(F21 b f).map (fun⟨m,n⟩=>.tup [.agg (Zr.g m),bv n]):=by
 rw[od (fn:=p21) rfl rfl]
 refine bo (aH (S:=Int) (enc:=fun h=>(Q [(0,.is 2 (I Zr.g b)),(1,i64 f),(4,.ref 0 0),(6,i64 h)] [(0,.box [i64 0,i64 0])])) (encE:=(fun|.inl a=>(rq [(4,.ref 0 0),(5,bv true)] [(0,.box (Zr.g a))])|.inr _=>(xq 0 [(4,.ref 0 0)] [(0,.box [i64 0,i64 0])]))) (fun h=>?_) B64 0) fun c=>?_
 refine bz lm ?_
 refine io ?_ (lf rfl)
 refine bo rg fun o=>?_
 refine bo (e:=id) ?_ fun k=>?_
 refine io ?_ (lf rfl)
 refine bo rg fun i=>?_
 refine bo rg fun j=>?_
 exact lf rfl
 refine io ?_ (lf rfl)
 refine bo rg fun l=>?_
 exact lf rfl
 rcases c with a|_
 exact lf rfl
 exact lf rfl
def F18 (j:Z0):Option ((List Int)×(List Int)):=
 (F17 j).bind fun k=>(aO (E:=(List Int)×(List Int)) (fun(⟨b,h,i⟩:Int×(List Int)×(List Int))=>if decide (b<(j.Measures.length:Int))then(F21 k b).bind fun⟨a,c⟩=>if c&&(a.First !=b)then some (.inl ((w64 (b+1)),h,i))else(lapp false i [b]).bind fun d=>(lapp false h [(if a.Count>1 then a.Count else 1)]).bind fun e=>some (.inl ((w64 (b+1)),e,d))else some (.inr (h,i))) B64 (0,[],[])).bind fun⟨f,g⟩=>some (g,f)
theorem ok18 (d) (a:Z0):OD (d+4) 18 [.agg (Z0.g a)]=(F18 a).map (fun⟨n,o⟩=>.tup [.is 1 (I cI n),.is 1 (I cI o)]):=by
 rw[od (fn:=p18) rfl rfl]
 refine bo (ok17 d a) fun j=>?_
 refine bo (aH (S:=Int×(List Int)×(List Int)) (enc:=fun⟨f,h,i⟩=>(Q [(1,.ref 0 0),(2,.own 1),(3,.own 2),(4,.is 2 (I Zr.g j)),(5,i64 f)] [(2,.lst 3 1 false (I cI h)),(1,.lst 3 1 false (I cI i)),(0,.box (Z0.g a))])) (encE:=(fun(⟨c,e⟩:(List Int)×(List Int))=>(xq 0 [(2,.own 1),(3,.own 2)] [(2,.lst 3 1 false (I cI c)),(1,.lst 3 1 false (I cI e)),(0,.box (Z0.g a))]))) (fun⟨f,h,i⟩=>?_) B64 (0,[],[])) fun⟨c,e⟩=>?_
 refine bz lm ?_
 refine io ?_ (lf rfl)
 refine bo (ok21 (d+2) j f) fun⟨b,k⟩=>?_
 refine bz (gand rfl) ?_
 refine io (lf rfl) ?_
 refine bo (aY false cI i [f]) fun l=>?_
 refine bo (aY false cI h [(if b.Count>1 then b.Count else 1)]) fun m=>?_
 exact lf rfl
 exact lf rfl
end Go.P
namespace Go.P
open Go.Sim (Ex OpK CK)
open K (I Q rq nq xq ck)
def F19 (b c:List Int):Option Bool:=
 if(b.length:Int)!=(c.length:Int)then some false else(aO (E:=Unit⊕Unit) (fun(a:Int)=>if decide (a<(b.length:Int))then(lget b a).bind fun d=>(lget c a).bind fun e=>if d !=e then some (.inr (.inl ()))else some (.inl (w64 (a+1)))else some (.inr (.inr ()))) B64 0).bind fun f=>(match f with|.inl _=>some false|.inr _=>some true)
theorem ok19 (d) (a b:List Int):OD (d+1) 19 [.is 1 (I cI a),.is 1 (I cI b)]=(F19 a b).map (fun f=>bv f):=by
 rw[od (fn:=p19) rfl rfl]
 refine bz lm ?_
 refine bz lm ?_
 refine io (lf rfl) ?_
 refine bo (aH (S:=Int) (enc:=fun c=>(Q [(0,.is 1 (I cI a)),(1,.is 1 (I cI b)),(5,i64 c)] [])) (encE:=(fun|.inl _=>(rq [(4,bv false)] [])|.inr _=>(xq 0 [] []))) (fun c=>?_) B64 0) fun e=>?_
 refine bz lm ?_
 refine io ?_ (lf rfl)
 refine bo rg fun g=>?_
 refine bo rg fun h=>?_
 refine io (lf rfl) (lf rfl)
 rcases e with _|_
 exact lf rfl
 exact lf rfl
def F3 (b:Z0):Option Bool:=
 (F12).bind fun p=>((if !p then some true else(F13 b).bind fun q=>some (!q):Option (Bool))).bind fun r=>if r then(F12).bind fun s=>some s else(F14 b).bind fun⟨f,l⟩=>(F15 b).bind fun⟨m,n⟩=>(F16 b).bind fun g=>if !g then some ((((w64 ((f.length:Int)+(m.length:Int)))==0)&&(l==24))&&(n==24))else(F17 b).bind fun c=>if(f.length:Int)!=(c.length:Int)then some false else(aO (E:=Unit⊕Unit) (fun(a:Int)=>if decide (a<(f.length:Int))then(lget f a).bind fun d=>(lget c a).bind fun e=>if((d.First==e.First)&&((d.Count==e.Count)&&true))!=true then some (.inr (.inl ()))else some (.inl (w64 (a+1)))else some (.inr (.inr ()))) B64 0).bind fun h=>(match h with|.inl _=>some false|.inr _=>(F18 b).bind fun⟨i,o⟩=>((if(l==0)&&(n==0)then(F19 m i).bind fun j=>some j else some false:Option (Bool))).bind fun k=>some k)
theorem ok3 (d) (a:Z0):OD (d+29) 3 [.agg (Z0.g a)]=(F3 a).map (fun s=>bv s):=by
 rw[od (fn:=p3) rfl rfl]
 refine bo (ok12 d) fun t=>?_
 refine bo (e:=id) ?_ fun v=>?_
 refine io (lf rfl) ?_
 refine bo (ok13 (d+26) a) fun u=>?_
 exact lf rfl
 refine io ?_ ?_
 refine bo (ok12 d) fun w=>?_
 exact lf rfl
 refine bo (ok14 (d+1) a) fun⟨r,j⟩=>?_
 refine bo (ok15 (d+1) a) fun⟨c,k⟩=>?_
 refine bo (ok16 (d+2) a) fun l=>?_
 refine io ?_ ?_
 refine bz lm ?_
 refine bz lm ?_
 refine bz (gand rfl) ?_
 refine bz (gand rfl) ?_
 exact lf rfl
 refine bo (ok17 (d+25) a) fun f=>?_
 refine bz lm ?_
 refine bz lm ?_
 refine io (lf rfl) ?_
 refine bo (aH (S:=Int) (enc:=fun b=>(Q [(1,.ref 0 0),(3,.is 2 (I Zr.g r)),(4,i64 j),(5,.is 1 (I cI c)),(6,i64 k),(7,.is 2 (I Zr.g f)),(8,i64 b)] [(0,.box (Z0.g a))])) (encE:=(fun|.inl _=>(rq [(1,.ref 0 0),(2,bv false),(4,i64 j),(5,.is 1 (I cI c)),(6,i64 k)] [(0,.box (Z0.g a))])|.inr _=>(xq 0 [(1,.ref 0 0),(4,i64 j),(5,.is 1 (I cI c)),(6,i64 k)] [(0,.box (Z0.g a))]))) (fun b=>?_) B64 0) fun h=>?_
 refine bz lm ?_
 refine io ?_ (lf rfl)
 refine bo rg fun m=>?_
 refine bo rg fun n=>?_
 refine io (lf rfl) (lf rfl)
 rcases h with _|_
 exact lf rfl
 refine bo (ok18 (d+24) a) fun⟨i,o⟩=>?_
 refine bz (gand rfl) ?_
 refine bo (e:=id) ?_ fun q=>?_
 refine io ?_ (lf rfl)
 refine bo (ok19 (d+27) c i) fun p=>?_
 exact lf rfl
 exact lf rfl
def F41 (a:Z0) (b:Int):Option Bool:=
 (F16 a).bind fun c=>some ((c&&(decide (b>=0)))&&(decide (b<(a.Measures.length:Int))))
theorem ok41 (d) (a:Z0) (b:Int):OD (d+27) 41 [.agg (Z0.g a),i64 b]=(F41 a b).map (fun c=>bv c):=by
 rw[od (fn:=p41) rfl rfl]
 refine bo (ok16 d a) fun e=>?_
 refine bz (gand rfl) ?_
 refine bz (gand (bz lm rfl)) ?_
 exact lf rfl
def F22 (a:Z0) (b:Int):Option Bool:=
 (F41 a b).bind fun c=>((if c then(lget a.Measures b).bind fun d=>(F43 a).bind fun e=>(F42 d e).bind fun f=>some f else some false:Option (Bool))).bind fun g=>some g
theorem ok22 (d) (a:Z0) (b:Int):OD (d+28) 22 [.agg (Z0.g a),i64 b]=(F22 a b).map (fun h=>bv h):=by
 rw[od (fn:=p22) rfl rfl]
 refine bo (ok41 d a b) fun i=>?_
 refine bo (e:=id) ?_ fun k=>?_
 refine io ?_ (lf rfl)
 refine bo rg fun c=>?_
 refine bo (ok43 (d+26) a) fun f=>?_
 refine bo (ok42 (d+18) c f) fun j=>?_
 exact lf rfl
 exact lf rfl
def F24 (a:Z0) (b:Int):Option Bool:=
 (F41 a b).bind fun c=>((if c then(F45 a b).bind fun d=>some d else some false:Option (Bool))).bind fun e=>some e
theorem ok24 (d) (a:Z0) (b:Int):OD (d+28) 24 [.agg (Z0.g a),i64 b]=(F24 a b).map (fun c=>bv c):=by
 rw[od (fn:=p24) rfl rfl]
 refine bo (ok41 d a b) fun f=>?_
 refine bo (e:=id) ?_ fun i=>?_
 refine io ?_ (lf rfl)
 refine bo (ok45 (d+23) a b) fun h=>?_
 exact lf rfl
 exact lf rfl
def F5 (a:Z0) (b:Int):Option Bool:=
 (F12).bind fun i=>((if !i then some true else(F13 a).bind fun j=>some (!j):Option (Bool))).bind fun k=>if k then(F12).bind fun l=>some l else(F16 a).bind fun h=>(F22 a b).bind fun m=>((if h then(F23 a b).bind fun n=>some n else some false:Option (Bool))).bind fun c=>((if(m==c)!=false then(F24 a b).bind fun d=>((if h then(F25 a b).bind fun e=>some e else some false:Option (Bool))).bind fun f=>some ((d==f)!=false)else some false:Option (Bool))).bind fun g=>some g
theorem ok5 (d) (a:Z0) (b:Int):OD (d+29) 5 [.agg (Z0.g a),i64 b]=(F5 a b).map (fun k=>bv k):=by
 rw[od (fn:=p5) rfl rfl]
 refine bo (ok12 d) fun l=>?_
 refine bo (e:=id) ?_ fun n=>?_
 refine io (lf rfl) ?_
 refine bo (ok13 (d+26) a) fun m=>?_
 exact lf rfl
 refine io ?_ ?_
 refine bo (ok12 d) fun o=>?_
 exact lf rfl
 refine bo (ok16 (d+2) a) fun p=>?_
 refine bo (ok22 d a b) fun q=>?_
 refine bo (e:=id) ?_ fun c=>?_
 refine io ?_ (lf rfl)
 refine bo (ok23 (d+26) a b) fun r=>?_
 exact lf rfl
 refine bo (e:=id) ?_ fun j=>?_
 refine io ?_ (lf rfl)
 refine bo (ok24 d a b) fun f=>?_
 refine bo (e:=id) ?_ fun i=>?_
 refine io ?_ (lf rfl)
 refine bo (ok25 (d+27) a b) fun h=>?_
 exact lf rfl
 exact lf rfl
 exact lf rfl
def F6 (c:Z0):Option Bool:=
 (F12).bind fun t=>((if !t then some true else(F13 c).bind fun u=>some (!u):Option (Bool))).bind fun v=>((if v then some true else(F16 c).bind fun w=>some (!w):Option (Bool))).bind fun x=>if x then(F12).bind fun y=>some y else(F14 c).bind fun⟨s,z⟩=>(aO (E:=Unit⊕Unit) (fun(⟨e,d⟩:Int×Int)=>if decide (d<(s.length:Int))then(lget s d).bind fun a=>if((decide (a.First<e))||(decide (a.Count<2)))||(decide ((w64 (a.First+a.Count))>(c.Measures.length:Int)))then some (.inr (.inl ()))else(aO (E:=Unit⊕Unit) (fun(b:Int)=>if decide (b<(w64 (a.First+a.Count)))then(F22 c b).bind fun f=>((if !f then some true else((if decide (b>a.First)then(F24 c b).bind fun g=>some (!g)else some false:Option (Bool))).bind fun h=>some h:Option (Bool))).bind fun i=>if i then some (.inr (.inl ()))else some (.inl (w64 (b+1)))else some (.inr (.inr ()))) B64 a.First).bind fun j=>(match j with|.inl _=>some (.inr (.inl ()))|.inr _=>(F22 c (w64 (a.First-1))).bind fun k=>((if k then(F24 c a.First).bind fun l=>some l else some false:Option (Bool))).bind fun m=>((if m then some true else(F22 c (w64 (a.First+a.Count))).bind fun n=>((if n then(F24 c (w64 (a.First+a.Count))).bind fun o=>some o else some false:Option (Bool))).bind fun p=>some p:Option (Bool))).bind fun q=>if q then some (.inr (.inl ()))else some (.inl ((w64 (a.First+a.Count)),(w64 (d+1)))))else some (.inr (.inr ()))) B64 (0,0)).bind fun r=>(match r with|.inl _=>some false|.inr _=>some (z==0))
theorem ok6 (d) (b:Z0):OD (d+29) 6 [.agg (Z0.g b)]=(F6 b).map (fun x=>bv x):=by
 rw[od (fn:=p6) rfl rfl]
 refine bo (ok12 d) fun y=>?_
 refine bo (e:=id) ?_ fun A=>?_
 refine io (lf rfl) ?_
 refine bo (ok13 (d+26) b) fun z=>?_
 exact lf rfl
 refine bo (e:=id) ?_ fun C=>?_
 refine io (lf rfl) ?_
 refine bo (ok16 (d+2) b) fun B=>?_
 exact lf rfl
 refine io ?_ ?_
 refine bo (ok12 d) fun D=>?_
 exact lf rfl
 refine bo (ok14 (d+1) b) fun⟨j,h⟩=>?_
 refine bo (aH (S:=Int×Int) (enc:=fun⟨i,c⟩=>(Q [(1,.ref 0 0),(3,.is 2 (I Zr.g j)),(4,i64 h),(5,i64 i),(6,i64 c)] [(0,.box (Z0.g b))])) (encE:=(fun|.inl _=>(rq [(2,bv false),(4,i64 h)] [(0,.box (Z0.g b))])|.inr _=>(xq 0 [(4,i64 h)] [(0,.box (Z0.g b))]))) (fun⟨i,c⟩=>?_) B64 (0,0)) fun l=>?_
 refine bz lm ?_
 refine io ?_ (lf rfl)
 refine bo rg fun a=>?_
 refine bz (gor rfl) ?_
 refine bz (gor (bz lm rfl)) ?_
 refine io (lf rfl) ?_
 refine bo (aH (S:=Int) (enc:=fun f=>(Q [(1,.ref 0 0),(3,.is 2 (I Zr.g j)),(4,i64 h),(5,i64 (w64 (a.First+a.Count))),(6,i64 c),(7,.ref 1 0),(8,i64 f)] [(1,.box (Zr.g a)),(0,.box (Z0.g b))])) (encE:=(fun|.inl _=>(rq [(1,.ref 0 0),(2,bv false),(3,.is 2 (I Zr.g j)),(4,i64 h),(5,i64 (w64 (a.First+a.Count))),(6,i64 c),(7,.ref 1 0)] [(1,.box (Zr.g a)),(0,.box (Z0.g b))])|.inr _=>(xq 2 [(1,.ref 0 0),(3,.is 2 (I Zr.g j)),(4,i64 h),(5,i64 (w64 (a.First+a.Count))),(6,i64 c),(7,.ref 1 0)] [(1,.box (Zr.g a)),(0,.box (Z0.g b))]))) (fun f=>?_) B64 a.First) fun k=>?_
 refine io ?_ (lf rfl)
 refine bo (ok22 d b f) fun m=>?_
 refine bo (e:=id) ?_ fun p=>?_
 refine io (lf rfl) ?_
 refine bo (e:=id) ?_ fun o=>?_
 refine io ?_ (lf rfl)
 refine bo (ok24 d b f) fun n=>?_
 exact lf rfl
 exact lf rfl
 refine io (lf rfl) (lf rfl)
 rcases k with _|_
 exact lf rfl
 refine bo (ok22 d b (w64 (a.First-1))) fun q=>?_
 refine bo (e:=id) ?_ fun s=>?_
 refine io ?_ (lf rfl)
 refine bo (ok24 d b a.First) fun r=>?_
 exact lf rfl
 refine bo (e:=id) ?_ fun w=>?_
 refine io (lf rfl) ?_
 refine bo (ok22 d b (w64 (a.First+a.Count))) fun t=>?_
 refine bo (e:=id) ?_ fun v=>?_
 refine io ?_ (lf rfl)
 refine bo (ok24 d b (w64 (a.First+a.Count))) fun u=>?_
 exact lf rfl
 exact lf rfl
 refine io (lf rfl) (lf rfl)
 rcases l with _|_
 exact lf rfl
 exact lf rfl
def F51 (i:Z0):Option (List Int):=
 (aO (E:=List Int) (fun(⟨a,b⟩:Int×(List Int))=>if decide (a<(i.Measures.length:Int))then(lget i.Measures a).bind fun c=>(F94 c).bind fun⟨d,j⟩=>(lidx b a).bind fun e=>(lnth b e).bind fun f=>(lapp false b [(w64 (f+d))]).bind fun g=>some (.inl ((w64 (a+1)),g))else some (.inr b)) B64 (0,[0])).bind fun h=>some h
theorem ok51 (d) (b:Z0):OD (d+5) 51 [.agg (Z0.g b)]=(F51 b).map (fun n=>.is 1 (I cI n)):=by
 rw[od (fn:=p51) rfl rfl]
 refine bz lm ?_
 refine bo (aH (S:=Int×(List Int)) (enc:=fun⟨j,f⟩=>(Q [(3,.own 1),(10,.is 22 (I Zm.g b.Measures)),(11,i64 (b.Measures.length:Int)),(12,i64 j)] [(1,.lst 3 1 false (I cI f)),(0,.box (Z0.g b))])) (encE:=(fun(e:List Int)=>(xq 0 [(3,.own 1)] [(1,.lst 3 1 false (I cI e)),(0,.box (Z0.g b))]))) (fun⟨j,f⟩=>?_) B64 (0,[0])) fun e=>?_
 refine io ?_ (lf rfl)
 refine bo rg fun h=>?_
 refine bo (ok94 d h) fun⟨i,k⟩=>?_
 refine bo (aW cI f _) fun l=>?_
 refine bo (bC (A:=Int) (c:=cI) (g:=fun a=>i64 a) (fun _=>rfl) f _) fun a=>?_
 refine bo (aY false cI f [(w64 (a+i))]) fun m=>?_
 exact lf rfl
 exact lf rfl
def F46 (a:Z0):Option ((List Int)×Int):=
 (F16 a).bind fun b=>if !b then some ([],24)else(F51 a).bind fun c=>some (c,0)
theorem ok46 (d) (a:Z0):OD (d+27) 46 [.agg (Z0.g a)]=(F46 a).map (fun⟨b,c⟩=>.tup [.is 1 (I cI b),i64 c]):=by
 rw[od (fn:=p46) rfl rfl]
 refine bo (ok16 d a) fun e=>?_
 refine io (lf rfl) ?_
 refine bo (ok51 (d+21) a) fun f=>?_
 exact lf rfl
def F26 (b:Z0) (a:Int):Option (Int×Int):=
 (F46 b).bind fun⟨e,c⟩=>if c !=0 then some (0,c)else(F37 b).bind fun⟨d,h⟩=>if(decide (a<0))||(decide (a>=(d.length:Int)))then some (0,2)else(lget d a).bind fun f=>(lget e f).bind fun g=>some (g,0)
theorem ok26 (d) (a:Z0) (b:Int):OD (d+28) 26 [.agg (Z0.g a),i64 b]=(F26 a b).map (fun⟨c,e⟩=>.tup [i64 c,i64 e]):=by
 rw[od (fn:=p26) rfl rfl]
 refine bo (ok46 d a) fun⟨f,h⟩=>?_
 refine io (lf rfl) ?_
 refine bo (ok37 (d+14) a) fun⟨i,j⟩=>?_
 refine bz (gor (bz lm rfl)) ?_
 refine io (lf rfl) ?_
 refine bo rg fun k=>?_
 refine bo rg fun l=>?_
 exact lf rfl
def F47 (a:Zm):Option Int:=
 if a.Length !=0 then some a.Length else(quoO .i64 (w64 (a.Metre.Count*1935360)) a.Metre.Unit).bind fun b=>some b
theorem ok47 (d) (a:Zm):OD (d+1) 47 [.agg (Zm.g a)]=(F47 a).map (fun b=>i64 b):=by
 rw[od (fn:=p47) rfl rfl]
 refine io (lf rfl) ?_
 refine bo oi fun c=>?_
 exact lf rfl
def F27 (h:Z0):Option (List Int):=
 (aO (E:=List Int) (fun(⟨a,b⟩:Int×(List Int))=>if decide (a<(h.Measures.length:Int))then(lidx b a).bind fun i=>(lnth b i).bind fun c=>(lget h.Measures a).bind fun d=>(F47 d).bind fun e=>(lapp false b [(w64 (c+e))]).bind fun f=>some (.inl ((w64 (a+1)),f))else some (.inr b)) B64 (0,[0])).bind fun g=>some g
theorem ok27 (d) (f:Z0):OD (d+2) 27 [.agg (Z0.g f)]=(F27 f).map (fun l=>.is 1 (I cI l)):=by
 rw[od (fn:=p27) rfl rfl]
 refine bo (aH (S:=Int×(List Int)) (enc:=fun⟨j,e⟩=>(Q [(1,.ref 0 0),(3,.own 1),(4,i64 j)] [(1,.lst 3 1 false (I cI e)),(0,.box (Z0.g f))])) (encE:=(fun(b:List Int)=>(xq 0 [(3,.own 1)] [(1,.lst 3 1 false (I cI b)),(0,.box (Z0.g f))]))) (fun⟨j,e⟩=>?_) B64 (0,[0])) fun b=>?_
 refine bz lm ?_
 refine io ?_ (lf rfl)
 refine bo (aW cI e _) fun m=>?_
 refine bo (bC (A:=Int) (c:=cI) (g:=fun a=>i64 a) (fun _=>rfl) e _) fun a=>?_
 refine bo rg fun h=>?_
 refine bo (ok47 d h) fun i=>?_
 refine bo (aY false cI e [(w64 (a+i))]) fun k=>?_
 exact lf rfl
 exact lf rfl
def F7 (a:Z0) (c:Int):Option Bool:=
 (F12).bind fun j=>((if !j then some true else(F13 a).bind fun k=>some (!k):Option (Bool))).bind fun l=>if l then(F12).bind fun m=>some m else(F26 a c).bind fun⟨g,h⟩=>(F16 a).bind fun n=>if !n then some ((g==0)&&(h==24))else(F18 a).bind fun⟨b,i⟩=>if(decide (c<0))||(decide (c>=(b.length:Int)))then some ((g==0)&&(h==2))else(F27 a).bind fun d=>(lget b c).bind fun e=>(lget d e).bind fun f=>some ((g==f)&&(h==0))
theorem ok7 (d) (a:Z0) (b:Int):OD (d+29) 7 [.agg (Z0.g a),i64 b]=(F7 a b).map (fun k=>bv k):=by
 rw[od (fn:=p7) rfl rfl]
 refine bo (ok12 d) fun l=>?_
 refine bo (e:=id) ?_ fun n=>?_
 refine io (lf rfl) ?_
 refine bo (ok13 (d+26) a) fun m=>?_
 exact lf rfl
 refine io ?_ ?_
 refine bo (ok12 d) fun o=>?_
 exact lf rfl
 refine bo (ok26 d a b) fun⟨p,q⟩=>?_
 refine bo (ok16 (d+2) a) fun r=>?_
 refine io ?_ ?_
 refine bz (gand rfl) ?_
 exact lf rfl
 refine bo (ok18 (d+24) a) fun⟨c,f⟩=>?_
 refine bz (gor (bz lm rfl)) ?_
 refine io ?_ ?_
 refine bz (gand rfl) ?_
 exact lf rfl
 refine bo (ok27 (d+26) a) fun h=>?_
 refine bo rg fun i=>?_
 refine bo rg fun j=>?_
 refine bz (gand rfl) ?_
 exact lf rfl
end Go.P
