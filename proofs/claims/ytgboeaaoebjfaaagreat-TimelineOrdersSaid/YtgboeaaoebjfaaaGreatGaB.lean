import Derived.Test.YtgboeaaoebjfaaaGreatGaA
/- A text of the proof. -/
set_option linter.all false
set_option maxRecDepth 100000
set_option maxHeartbeats 2000000
namespace Go.P
open Go.Sim (Ex OpK CK)
open K (I Q rq nq xq ck)
def F200 (a:Zu) (b:Int):Option Bool:=
 some ((decide (b>=a.First))&&(decide ((w64 (b-a.First))<a.Count)))
theorem ok200 {k} (d) (a:Zu) (b:Int):OD k (d+1) 200 [.agg (Zu.g a),i64 b]=(F200 a b).map (fun c=>bv c):=by
 rw[od (fn:=p200) rfl rfl rfl]
 refine bz (gand rfl) ?_
 exact lf rfl
def F201 (c d:Int):Option Int:=
 (aP (E:=Int) (fun(⟨b,a⟩:Int×Int)=>if decide (a>0)then(remO .i64 b a).bind fun e=>some (.inl (a,e))else some (.inr b)) B64 (c,d)).bind fun f=>some f
theorem ok201 {k} (d) (a b:Int):OD k (d+1) 201 [i64 a,i64 b]=(F201 a b).map (fun g=>i64 g):=by
 rw[od (fn:=p201) rfl rfl rfl]
 refine bo (aG (S:=Int×Int) (enc:=fun⟨c,e⟩=>(Q [(0,i64 c),(1,i64 e)] [])) (encE:=(fun(f:Int)=>(xq 0 [(0,i64 f)] []))) (fun⟨c,e⟩=>?_) B64 (a,b)) fun f=>?_
 refine io ?_ (lf rfl)
 refine bo oi fun h=>?_
 exact lf rfl
 exact lf rfl
def F198 (m:List Zu) (n:Int):Option (Int×Int):=
 (aP (E:=Int×Int) (fun(⟨b,c,d⟩:Int×Int×Int)=>if decide (d<(m.length:Int))then(lget m d).bind fun a=>(F200 a n).bind fun f=>((if f then(F201 (w64 (b*a.Normal)) (w64 (c*a.Actual))).bind fun e=>(quoO .i64 (w64 (b*a.Normal)) e).bind fun g=>(quoO .i64 (w64 (c*a.Actual)) e).bind fun h=>some (g,h)else some (b,c):Option (Int×Int))).bind fun⟨i,j⟩=>some (.inl (i,j,(w64 (d+1))))else some (.inr (b,c))) B64 (1,1,0)).bind fun⟨k,l⟩=>some (k,l)
theorem ok198 {k} (d) (h:List Zu) (l:Int):OD k (d+2) 198 [.is 4 (I Zu.g h),i64 l]=(F198 h l).map (fun⟨s,t⟩=>.tup [i64 s,i64 t]):=by
 rw[od (fn:=p198) rfl rfl rfl]
 refine bz lm ?_
 refine bo (aG (S:=Int×Int×Int) (enc:=fun⟨b,c,f⟩=>(Q [(1,i64 l),(4,i64 b),(5,i64 c),(9,.is 4 (I Zu.g h)),(10,i64 (h.length:Int)),(11,i64 f)] [])) (encE:=(fun(⟨m,n⟩:Int×Int)=>(xq 0 [(4,i64 m),(5,i64 n)] []))) (fun⟨b,c,f⟩=>?_) B64 (1,1,0)) fun⟨m,n⟩=>?_
 refine io ?_ (lf rfl)
 refine bo rg fun a=>?_
 refine bo (ok200 d a l) fun o=>?_
 refine bo (e:=(fun(⟨i,j⟩:Int×Int)=>(nq [(1,i64 l),(4,i64 i),(5,i64 j),(9,.is 4 (I Zu.g h)),(10,i64 (h.length:Int)),(11,i64 f)] [(0,.box (Zu.g a))]))) ?_ fun⟨i,j⟩=>?_
 refine io ?_ (lf rfl)
 refine bo (ok201 d (w64 (b*a.Normal)) (w64 (c*a.Actual))) fun p=>?_
 refine bo oi fun q=>?_
 refine bo oi fun r=>?_
 exact lf rfl
 exact lf rfl
 exact lf rfl
def F191 (d:List Zu) (e a:Int):Option (Int×Int):=
 if(decide (a<0))||(decide (a>7741440))then some (0,2)else(F198 d e).bind fun⟨b,c⟩=>(remO .i64 (w64 (a*b)) c).bind fun f=>if f !=0 then some (0,16)else(quoO .i64 (w64 (a*b)) c).bind fun g=>some (g,0)
theorem ok191 {k} (d) (a:List Zu) (b c:Int):OD k (d+3) 191 [.is 4 (I Zu.g a),i64 b,i64 c]=(F191 a b c).map (fun⟨e,f⟩=>.tup [i64 e,i64 f]):=by
 rw[od (fn:=p191) rfl rfl rfl]
 refine bz (gor rfl) ?_
 refine io (lf rfl) ?_
 refine bo (ok198 d a b) fun⟨h,i⟩=>?_
 refine bo oi fun j=>?_
 refine io (lf rfl) ?_
 refine bo oi fun l=>?_
 exact lf rfl
def F187 (i:List Zu) (c:List Int):Option ((List Int)×Int):=
 (F190 i (c.length:Int)).bind fun j=>if j !=0 then some ([],j)else(yR 0 (c.length:Int) 0).bind fun k=>(aP (E:=(Int×(List Int))⊕(List Int)) (fun(⟨d,a⟩:Int×(List Int))=>if decide (d<(c.length:Int))then(lget c d).bind fun e=>(F191 i d e).bind fun⟨f,b⟩=>if b !=0 then some (.inr (.inl (b,a)))else(lapp true a [f]).bind fun g=>some (.inl ((w64 (d+1)),g))else some (.inr (.inr a))) B64 (0,k)).bind fun h=>(match h with|.inl ⟨x15,x16⟩=>some ([],x15)|.inr x17=>some (x17,0))
theorem ok187 {k} (d) (b:List Zu) (f:List Int):OD k (d+4) 187 [.is 4 (I Zu.g b),.is 1 (I cI f)]=(F187 b f).map (fun⟨p,q⟩=>.tup [.is 1 (I cI p),i64 q]):=by
 rw[od (fn:=p187) rfl rfl rfl]
 refine bz lm ?_
 refine bo (ok190 d b (f.length:Int)) fun r=>?_
 refine io (lf rfl) ?_
 refine bz lm ?_
 refine bo (fA cI _ _ 0) fun o=>?_
 refine bz lm ?_
 refine bo (aG (S:=Int×(List Int)) (enc:=fun⟨l,a⟩=>(Q [(0,.is 4 (I Zu.g b)),(7,.own 0),(22,.is 1 (I cI f)),(23,i64 (f.length:Int)),(24,i64 l)] [(0,.lst 3 1 true (I cI a))])) (encE:=(fun|.inl ⟨c,e⟩=>(rq [(4,.is 1 (I cI [])),(5,i64 c),(7,.own 0)] [(0,.lst 3 1 true (I cI e))])|.inr x17=>(xq 0 [(7,.own 0)] [(0,.lst 3 1 true (I cI x17))]))) (fun⟨l,a⟩=>?_) B64 (0,o)) fun j=>?_
 refine io ?_ (lf rfl)
 refine bo rg fun h=>?_
 refine bo (ok191 d b l h) fun⟨i,m⟩=>?_
 refine io (lf rfl) ?_
 refine bo (bD true cI a [i]) fun n=>?_
 exact lf rfl
 rcases j with⟨c,e⟩|x17
 exact lf rfl
 exact lf rfl
def F192 (d:List Zu) (n:Int) (o:List Int):Option (Int×Bool):=
 (lget d n).bind fun m=>(aP (E:=Int⊕Int) (fun(⟨c,a⟩:Int×Int)=>(F195 m).bind fun e=>if decide (a<e)then(eY d (w64 (n+1)) ((d).length)).bind fun f=>(lget o a).bind fun g=>(F191 f a g).bind fun⟨h,i⟩=>if i !=0 then some (.inr (.inl c))else some (.inl ((w64 (c+h)),(w64 (a+1))))else some (.inr (.inr c))) B64 (0,m.First)).bind fun j=>(match j with|.inl x17=>some (0,false)|.inr x18=>(aP (E:=Int⊕Unit) (fun(b:Int)=>if decide (b<=8)then(shrO .i64 3870720 (w64 (b+1))).bind fun k=>if x18==(w64 (m.Actual*k))then some (.inr (.inl b))else some (.inl (w64 (b+1)))else some (.inr (.inr ()))) B64 (-1)).bind fun l=>(match l with|.inl x23=>some (x23,true)|.inr _=>some (0,false)))
theorem ok192 {k} (d) (i:List Zu) (n:Int) (p:List Int):OD k (d+4) 192 [.is 4 (I Zu.g i),i64 n,.is 1 (I cI p)]=(F192 i n p).map (fun⟨u,v⟩=>.tup [i64 u,bv v]):=by
 rw[od (fn:=p192) rfl rfl rfl]
 refine bo rg fun a=>?_
 refine bo (aG (S:=Int×Int) (enc:=fun⟨c,b⟩=>(Q [(0,.is 4 (I Zu.g i)),(1,i64 n),(2,.is 1 (I cI p)),(8,.ref 0 0),(9,i64 c),(10,i64 b)] [(0,.box (Zu.g a))])) (encE:=(fun|.inl e=>(rq [(6,i64 0),(7,bv false),(8,.ref 0 0),(9,i64 e)] [(0,.box (Zu.g a))])|.inr x18=>(xq 0 [(8,.ref 0 0),(9,i64 x18)] [(0,.box (Zu.g a))]))) (fun⟨c,b⟩=>?_) B64 (0,a.First)) fun m=>?_
 refine bo (ok195 (d+2) a) fun q=>?_
 refine io ?_ (lf rfl)
 refine bo (kD _ _ _) fun j=>?_
 refine bo rg fun l=>?_
 refine bo (ok191 d j b l) fun⟨r,s⟩=>?_
 refine io (lf rfl) (lf rfl)
 rcases m with e|x18
 exact lf rfl
 refine bo (aG (S:=Int) (enc:=fun f=>(Q [(8,.ref 0 0),(9,i64 x18),(13,i64 f)] [(0,.box (Zu.g a))])) (encE:=(fun|.inl h=>(rq [(6,i64 h),(7,bv true)] [(0,.box (Zu.g a))])|.inr _=>(xq 2 [] [(0,.box (Zu.g a))]))) (fun f=>?_) B64 (-1)) fun o=>?_
 refine io ?_ (lf rfl)
 refine bo oi fun t=>?_
 refine io (lf rfl) (lf rfl)
 rcases o with h|_
 exact lf rfl
 exact lf rfl
def F188 (b:List Zu) (h:List Int):Option ((List Int)×Int):=
 (F187 b h).bind fun⟨k,i⟩=>if i !=0 then some ([],i)else(yR 0 (b.length:Int) 0).bind fun j=>(aP (E:=(List Int)⊕(List Int)) (fun(⟨g,a⟩:Int×(List Int))=>if decide (g<(b.length:Int))then(F192 b g h).bind fun⟨c,d⟩=>if !d then some (.inr (.inl a))else(lapp true a [c]).bind fun e=>some (.inl ((w64 (g+1)),e))else some (.inr (.inr a))) B64 (0,j)).bind fun f=>(match f with|.inl x14=>some ([],21)|.inr x15=>some (x15,0))
theorem ok188 {k} (d) (b:List Zu) (e:List Int):OD k (d+5) 188 [.is 4 (I Zu.g b),.is 1 (I cI e)]=(F188 b e).map (fun⟨n,o⟩=>.tup [.is 1 (I cI n),i64 o]):=by
 rw[od (fn:=p188) rfl rfl rfl]
 refine bo (ok187 d b e) fun⟨p,q⟩=>?_
 refine io (lf rfl) ?_
 refine bz lm ?_
 refine bo (fA cI _ _ 0) fun m=>?_
 refine bz lm ?_
 refine bo (aG (S:=Int×(List Int)) (enc:=fun⟨i,a⟩=>(Q [(0,.is 4 (I Zu.g b)),(1,.is 1 (I cI e)),(8,.own 0),(25,i64 (b.length:Int)),(26,i64 i)] [(0,.lst 3 1 true (I cI a))])) (encE:=(fun|.inl c=>(rq [(4,.is 1 (I cI [])),(5,i64 21),(8,.own 0)] [(0,.lst 3 1 true (I cI c))])|.inr x15=>(xq 0 [(8,.own 0)] [(0,.lst 3 1 true (I cI x15))]))) (fun⟨i,a⟩=>?_) B64 (0,m)) fun h=>?_
 refine io ?_ (lf rfl)
 refine bo (ok192 d b i e) fun⟨f,j⟩=>?_
 refine io (lf rfl) ?_
 refine bo (bD true cI a [f]) fun l=>?_
 exact lf rfl
 rcases h with c|x15
 exact lf rfl
 exact lf rfl
def F182 (a:Zo):Option ((List Int)×Int):=
 (aP (E:=Int⊕Unit) (fun(c:Int)=>if decide (c<(a.Events.length:Int))then(lget a.Events c).bind fun f=>(F75 f).bind fun g=>if g !=0 then some (.inr (.inl g))else if(f.Kind==3)&&((decide (c>0))||(decide ((a.Events.length:Int)>1)))then some (.inr (.inl 11))else some (.inl (w64 (c+1)))else some (.inr (.inr ()))) B64 0).bind fun j=>(match j with|.inl x7=>some ([],x7)|.inr _=>(F186 a.Events).bind fun h=>(F187 a.Tuplets h).bind fun⟨d,b⟩=>if b !=0 then some ([],b)else(F188 a.Tuplets h).bind fun⟨i,e⟩=>if e !=0 then some ([],21)else some (d,0))
theorem ok182 {k} (d) (a:Zo):OD k (d+11) 182 [.agg (Zo.g a)]=(F182 a).map (fun⟨n,o⟩=>.tup [.is 1 (I cI n),i64 o]):=by
 rw[od (fn:=p182) rfl rfl rfl]
 refine bz lm ?_
 refine bo (aG (S:=Int) (enc:=fun b=>(Q [(1,.ref 0 0),(13,.is 13 (I Ze.g a.Events)),(14,i64 (a.Events.length:Int)),(15,i64 b)] [(0,.box (Zo.g a))])) (encE:=(fun|.inl c=>(rq [(1,.ref 0 0),(2,.is 1 (I cI [])),(3,i64 c)] [(0,.box (Zo.g a))])|.inr _=>(xq 0 [(1,.ref 0 0)] [(0,.box (Zo.g a))]))) (fun b=>?_) B64 0) fun m=>?_
 refine io ?_ (lf rfl)
 refine bo rg fun l=>?_
 refine bo (ok75 (d+2) l) fun p=>?_
 refine io (lf rfl) ?_
 refine bz (gand (bz (gor (bz lm rfl)) rfl)) ?_
 refine io (lf rfl) (lf rfl)
 rcases m with c|_
 exact lf rfl
 refine bo (ok186 d a.Events) fun e=>?_
 refine bo (ok187 (d+6) a.Tuplets e) fun⟨f,h⟩=>?_
 refine io (lf rfl) ?_
 refine bo (ok188 (d+5) a.Tuplets e) fun⟨i,j⟩=>?_
 refine io (lf rfl) (lf rfl)
def F152 (a:Zo) (b:Int):Option ((List Int)×Int):=
 if(decide (b<1))||(decide (b>15482880))then some ([],2)else if decide ((a.Events.length:Int)>128)then some ([],9)else(F181 a).bind fun d=>if d&&((a.Events.length:Int)==1)then(lget a.Events 0).bind fun e=>(F75 e).bind fun c=>if c !=0 then some ([],c)else if decide ((a.Tuplets.length:Int)>0)then some ([],21)else some ([b],0)else(F182 a).bind fun⟨f,g⟩=>some (f,g)
theorem ok152 {k} (d) (a:Zo) (b:Int):OD k (d+12) 152 [.agg (Zo.g a),i64 b]=(F152 a b).map (fun⟨e,f⟩=>.tup [.is 1 (I cI e),i64 f]):=by
 rw[od (fn:=p152) rfl rfl rfl]
 refine bz (gor rfl) ?_
 refine io (lf rfl) ?_
 refine bz lm ?_
 refine io (lf rfl) ?_
 refine bo (ok181 (d+10) a) fun h=>?_
 refine bz (gand (bz lm rfl)) ?_
 refine io ?_ ?_
 refine bo rg fun c=>?_
 refine bo (ok75 (d+3) c) fun i=>?_
 refine io (lf rfl) ?_
 refine bz lm ?_
 refine io (lf rfl) (lf rfl)
 refine bo (ok182 d a) fun⟨j,l⟩=>?_
 exact lf rfl
def F153 (b:List Int):Option Int:=
 (aP (E:=Int) (fun(⟨c,a⟩:Int×Int)=>if decide (a<(b.length:Int))then(lget b a).bind fun d=>some (.inl ((w64 (c+d)),(w64 (a+1))))else some (.inr c)) B64 (0,0)).bind fun e=>some e
theorem ok153 {k} (d) (a:List Int):OD k (d+1) 153 [.is 1 (I cI a)]=(F153 a).map (fun f=>i64 f):=by
 rw[od (fn:=p153) rfl rfl rfl]
 refine bz lm ?_
 refine bo (aG (S:=Int×Int) (enc:=fun⟨b,c⟩=>(Q [(3,i64 b),(6,.is 1 (I cI a)),(7,i64 (a.length:Int)),(8,i64 c)] [])) (encE:=(fun(e:Int)=>(xq 0 [(3,i64 e)] []))) (fun⟨b,c⟩=>?_) B64 (0,0)) fun e=>?_
 refine io ?_ (lf rfl)
 refine bo rg fun g=>?_
 exact lf rfl
 exact lf rfl
def F102 (e:Zo) (b:Int):Option ((List Int)×Int):=
 (F152 e b).bind fun⟨a,c⟩=>((if(c==0)&&(decide ((a.length:Int)>0))then(F153 a).bind fun f=>some (f !=b)else some false:Option (Bool))).bind fun g=>((if g then some 20 else some c:Option (Int))).bind fun d=>if d !=0 then some ([],d)else some (a,0)
theorem ok102 {k} (d) (a:Zo) (b:Int):OD k (d+13) 102 [.agg (Zo.g a),i64 b]=(F102 a b).map (fun⟨h,i⟩=>.tup [.is 1 (I cI h),i64 i]):=by
 rw[od (fn:=p102) rfl rfl rfl]
 refine bo (ok152 d a b) fun⟨c,j⟩=>?_
 refine bz (gand (bz lm rfl)) ?_
 refine bo (e:=id) ?_ fun m=>?_
 refine io ?_ (lf rfl)
 refine bo (ok153 (d+11) c) fun l=>?_
 exact lf rfl
 refine bo (e:=(fun(f:Int)=>(nq [(6,.is 1 (I cI c)),(7,i64 f)] [(0,.box (Zo.g a))]))) ?_ fun f=>?_
 refine io (lf rfl) (lf rfl)
 refine io (lf rfl) (lf rfl)
def F119 (a:Zo) (b:Int):Option Int:=
 (F102 a b).bind fun⟨d,c⟩=>some c
theorem ok119 {k} (d) (a:Zo) (b:Int):OD k (d+14) 119 [.agg (Zo.g a),i64 b]=(F119 a b).map (fun c=>i64 c):=by
 rw[od (fn:=p119) rfl rfl rfl]
 refine bo (ok102 d a b) fun⟨e,f⟩=>?_
 exact lf rfl
def F71 (a:Int):Option Bool:=
 some ((a==11)||(a==20))
theorem ok71 {k} (d) (a:Int):OD k (d+1) 71 [i64 a]=(F71 a).map (fun b=>bv b):=by
 rw[od (fn:=p71) rfl rfl rfl]
 refine bz (gor rfl) ?_
 exact lf rfl
def F117 (a:Zo) (b:Int):Option Bool:=
 (F118 a.Events).bind fun c=>((if !c then(F119 a b).bind fun d=>(F71 d).bind fun e=>some e else some false:Option (Bool))).bind fun f=>some f
theorem ok117 {k} (d) (a:Zo) (b:Int):OD k (d+15) 117 [.agg (Zo.g a),.ip [.fn 113 [] []],.ip [.fn 71 [] []],.ip [i64 b]]=(F117 a b).map (fun f=>bv f):=by
 rw[od (fn:=p117) rfl rfl rfl]
 refine bo (ok118 (d+3) a.Events) fun h=>?_
 refine bo (e:=id) ?_ fun j=>?_
 refine io ?_ (lf rfl)
 refine bo (ok119 d a b) fun c=>?_
 refine bo (ok71 (d+13) c) fun i=>?_
 exact lf rfl
 exact lf rfl
def F160 (b:List Zo) (c:Int):Option Int:=
 (aP (E:=Int⊕Unit) (fun(a:Int)=>if decide (a<(b.length:Int))then(lget b a).bind fun d=>(F117 d c).bind fun e=>if e then some (.inr (.inl a))else some (.inl (w64 (a+1)))else some (.inr (.inr ()))) B64 0).bind fun f=>(match f with|.inl x8=>some x8|.inr _=>some (-1))
theorem ok160 {k} (d) (a:List Zo) (b:Int):OD k (d+16) 160 [.is 2 (I Zo.g a),.fn 117 [] [.ip [.fn 113 [] []],.ip [.fn 71 [] []],.ip [i64 b]]]=(F160 a b).map (fun i=>i64 i):=by
 rw[od (fn:=p160) rfl rfl rfl]
 refine bz lm ?_
 refine bo (aG (S:=Int) (enc:=fun c=>(Q [(0,.is 2 (I Zo.g a)),(1,.fn 117 [] [.ip [.fn 113 [] []],.ip [.fn 71 [] []],.ip [i64 b]]),(7,i64 (a.length:Int)),(8,i64 c)] [])) (encE:=(fun|.inl e=>(rq [(4,i64 e)] [])|.inr _=>(xq 0 [] []))) (fun c=>?_) B64 0) fun h=>?_
 refine io ?_ (lf rfl)
 refine bo rg fun f=>?_
 refine bo (ok117 d f b) fun j=>?_
 refine io (lf rfl) (lf rfl)
 rcases h with e|_
 exact lf rfl
 exact lf rfl
def F116 (a:List Zo) (b:Int):Option Bool:=
 (F160 a b).bind fun c=>some (decide (c>=0))
theorem ok116 {k} (d) (a:List Zo) (b:Int):OD k (d+17) 116 [.is 2 (I Zo.g a),.fn 117 [] [.ip [.fn 113 [] []],.ip [.fn 71 [] []],.ip [i64 b]]]=(F116 a b).map (fun c=>bv c):=by
 rw[od (fn:=p116) rfl rfl rfl]
 refine bo (ok160 d a b) fun e=>?_
 exact lf rfl
def F115 (a:Zw) (b:Int):Option Bool:=
 (F116 a.Voices b).bind fun c=>some c
theorem ok115 {k} (d) (a:Zw) (b:Int):OD k (d+18) 115 [.agg (Zw.g a),.ip [.fn 113 [] []],.ip [.fn 71 [] []],.ip [i64 b]]=(F115 a b).map (fun c=>bv c):=by
 rw[od (fn:=p115) rfl rfl rfl]
 refine bo (ok116 d a.Voices b) fun e=>?_
 exact lf rfl
def F159 (b:List Zw) (c:Int):Option Int:=
 (aP (E:=Int⊕Unit) (fun(a:Int)=>if decide (a<(b.length:Int))then(lget b a).bind fun d=>(F115 d c).bind fun e=>if e then some (.inr (.inl a))else some (.inl (w64 (a+1)))else some (.inr (.inr ()))) B64 0).bind fun f=>(match f with|.inl x8=>some x8|.inr _=>some (-1))
theorem ok159 {k} (d) (a:List Zw) (b:Int):OD k (d+19) 159 [.is 2 (I Zw.g a),.fn 115 [] [.ip [.fn 113 [] []],.ip [.fn 71 [] []],.ip [i64 b]]]=(F159 a b).map (fun i=>i64 i):=by
 rw[od (fn:=p159) rfl rfl rfl]
 refine bz lm ?_
 refine bo (aG (S:=Int) (enc:=fun c=>(Q [(0,.is 2 (I Zw.g a)),(1,.fn 115 [] [.ip [.fn 113 [] []],.ip [.fn 71 [] []],.ip [i64 b]]),(7,i64 (a.length:Int)),(8,i64 c)] [])) (encE:=(fun|.inl e=>(rq [(4,i64 e)] [])|.inr _=>(xq 0 [] []))) (fun c=>?_) B64 0) fun h=>?_
 refine io ?_ (lf rfl)
 refine bo rg fun f=>?_
 refine bo (ok115 d f b) fun j=>?_
 refine io (lf rfl) (lf rfl)
 rcases h with e|_
 exact lf rfl
 exact lf rfl
def F114 (a:List Zw) (b:Int):Option Bool:=
 (F159 a b).bind fun c=>some (decide (c>=0))
theorem ok114 {k} (d) (a:List Zw) (b:Int):OD k (d+20) 114 [.is 2 (I Zw.g a),.fn 115 [] [.ip [.fn 113 [] []],.ip [.fn 71 [] []],.ip [i64 b]]]=(F114 a b).map (fun c=>bv c):=by
 rw[od (fn:=p114) rfl rfl rfl]
 refine bo (ok159 d a b) fun e=>?_
 exact lf rfl
def F112 (e:Int) (a:Zm):Option Bool:=
 (F29 a).bind fun⟨b,c⟩=>if c !=0 then some false else(F114 a.Cells b).bind fun d=>some d
theorem ok112 {k} (d) (b:Int) (a:Zm):OD k (d+21) 112 [i64 b,.agg (Zm.g a),.ip [.fn 71 [] []]]=(F112 b a).map (fun e=>bv e):=by
 rw[od (fn:=p112) rfl rfl rfl]
 refine bo (ok29 (d+16) a) fun⟨c,f⟩=>?_
 refine io (lf rfl) ?_
 refine bo (ok114 d a.Cells c) fun h=>?_
 exact lf rfl
def Fn64_4 (h:List Zv) (e:Z0) (i:Int):Option (List Zv):=
 (aP (E:=List Zv) (fun(⟨a,f⟩:Int×(List Zv))=>if decide (a<(e.Measures.length:Int))then(lget e.Measures a).bind fun g=>(F112 a g).bind fun b=>(Fn57 b g.ID f e i).bind fun c=>some (.inl ((w64 (a+1)),c))else some (.inr f)) B64 (0,h)).bind fun d=>some d
theorem okn64_4 {k} (d) (e:List Zv) (a:Z0) (b:Int):runR (XD k (d+22)) 64 [.ref 1 0,.fn 112 [] [.ref 3 0]] [(3,.box [.fn 71 [] []]),(2,.lst 119 3 false (I Zv.g e)),(1,.box (ck a b (.own 2)))] 4 false=(Fn64_4 e a b).map (fun(h:List Zv)=>((.tup [],[(3,.box [.fn 71 [] []]),(2,.lst 119 3 false (I Zv.g h)),(1,.box (ck a b (.own 2)))],0))):=by
 rw[xd (fn:=p64) rfl]
 refine bz lm ?_
 refine bo (aG (S:=Int×(List Zv)) (enc:=fun⟨i,j⟩=>(Q [(0,.ref 1 0),(1,.fn 112 [] [.ref 3 0]),(10,.is 22 (I Zm.g a.Measures)),(11,i64 (a.Measures.length:Int)),(12,i64 i)] [(3,.box [.fn 71 [] []]),(2,.lst 119 3 false (I Zv.g j)),(1,.box (ck a b (.own 2)))])) (encE:=(fun(c:List Zv)=>(xq 0 [] [(3,.box [.fn 71 [] []]),(2,.lst 119 3 false (I Zv.g c)),(1,.box (ck a b (.own 2)))]))) (fun⟨i,j⟩=>?_) B64 (0,e)) fun c=>?_
 refine io ?_ (lf rfl)
 refine bo rg fun l=>?_
 refine bo (ok112 d i l) fun f=>?_
 refine bo (okn57 (d+20) f l.ID j a b) fun m=>?_
 exact lf rfl
 exact lf rfl
def Fn70 (a:List Zv) (b:Z0) (c:Int):Option (List Zv):=
 (Fn64_4 a b c).bind fun d=>some d
theorem okn70 {k} (d) (c:List Zv) (a:Z0) (b:Int):runR (XD k (d+23)) 70 [.ref 1 0,.fn 71 [] []] [(2,.lst 119 3 false (I Zv.g c)),(1,.box (ck a b (.own 2)))] 3 false=(Fn70 c a b).map (fun(e:List Zv)=>((.tup [],[(2,.lst 119 3 false (I Zv.g e)),(1,.box (ck a b (.own 2)))],0))):=by
 rw[xd (fn:=p70) rfl]
 refine bo (okn64_4 d c a b) fun f=>?_
 exact lf rfl
def Fn39 (a:List Zv) (b:Z0) (c:Int):Option (List Zv):=
 (Fn70 a b c).bind fun d=>some d
theorem okn39 {k} (d) (c:List Zv) (a:Z0) (b:Int):runR (XD k (d+24)) 39 [.ref 1 0] [(2,.lst 119 3 false (I Zv.g c)),(1,.box (ck a b (.own 2)))] 3 false=(Fn39 c a b).map (fun(e:List Zv)=>((.tup [],[(2,.lst 119 3 false (I Zv.g e)),(1,.box (ck a b (.own 2)))],0))):=by
 rw[xd (fn:=p39) rfl]
 refine bo (okn70 d c a b) fun f=>?_
 exact lf rfl
def F72 (a:Int):Option Bool:=
 ((if a !=0 then(F71 a).bind fun b=>some (!b)else some false:Option (Bool))).bind fun c=>some c
theorem ok72 {k} (d) (a:Int):OD k (d+2) 72 [i64 a]=(F72 a).map (fun b=>bv b):=by
 rw[od (fn:=p72) rfl rfl rfl]
 refine bo (e:=id) ?_ fun f=>?_
 refine io ?_ (lf rfl)
 refine bo (ok71 d a) fun c=>?_
 exact lf rfl
 exact lf rfl
def F117_2 (a:Zo) (b:Int):Option Bool:=
 (F118 a.Events).bind fun c=>((if !c then(F119 a b).bind fun d=>(F72 d).bind fun e=>some e else some false:Option (Bool))).bind fun f=>some f
theorem ok117_2 {k} (d) (a:Zo) (b:Int):OD k (d+15) 117 [.agg (Zo.g a),.ip [.fn 113 [] []],.ip [.fn 72 [] []],.ip [i64 b]]=(F117_2 a b).map (fun f=>bv f):=by
 rw[od (fn:=p117) rfl rfl rfl]
 refine bo (ok118 (d+3) a.Events) fun h=>?_
 refine bo (e:=id) ?_ fun j=>?_
 refine io ?_ (lf rfl)
 refine bo (ok119 d a b) fun c=>?_
 refine bo (ok72 (d+12) c) fun i=>?_
 exact lf rfl
 exact lf rfl
def F160_2 (b:List Zo) (c:Int):Option Int:=
 (aP (E:=Int⊕Unit) (fun(a:Int)=>if decide (a<(b.length:Int))then(lget b a).bind fun d=>(F117_2 d c).bind fun e=>if e then some (.inr (.inl a))else some (.inl (w64 (a+1)))else some (.inr (.inr ()))) B64 0).bind fun f=>(match f with|.inl x8=>some x8|.inr _=>some (-1))
theorem ok160_2 {k} (d) (a:List Zo) (b:Int):OD k (d+16) 160 [.is 2 (I Zo.g a),.fn 117 [] [.ip [.fn 113 [] []],.ip [.fn 72 [] []],.ip [i64 b]]]=(F160_2 a b).map (fun i=>i64 i):=by
 rw[od (fn:=p160) rfl rfl rfl]
 refine bz lm ?_
 refine bo (aG (S:=Int) (enc:=fun c=>(Q [(0,.is 2 (I Zo.g a)),(1,.fn 117 [] [.ip [.fn 113 [] []],.ip [.fn 72 [] []],.ip [i64 b]]),(7,i64 (a.length:Int)),(8,i64 c)] [])) (encE:=(fun|.inl e=>(rq [(4,i64 e)] [])|.inr _=>(xq 0 [] []))) (fun c=>?_) B64 0) fun h=>?_
 refine io ?_ (lf rfl)
 refine bo rg fun f=>?_
 refine bo (ok117_2 d f b) fun j=>?_
 refine io (lf rfl) (lf rfl)
 rcases h with e|_
 exact lf rfl
 exact lf rfl
def F116_2 (a:List Zo) (b:Int):Option Bool:=
 (F160_2 a b).bind fun c=>some (decide (c>=0))
theorem ok116_2 {k} (d) (a:List Zo) (b:Int):OD k (d+17) 116 [.is 2 (I Zo.g a),.fn 117 [] [.ip [.fn 113 [] []],.ip [.fn 72 [] []],.ip [i64 b]]]=(F116_2 a b).map (fun c=>bv c):=by
 rw[od (fn:=p116) rfl rfl rfl]
 refine bo (ok160_2 d a b) fun e=>?_
 exact lf rfl
def F115_2 (a:Zw) (b:Int):Option Bool:=
 (F116_2 a.Voices b).bind fun c=>some c
theorem ok115_2 {k} (d) (a:Zw) (b:Int):OD k (d+18) 115 [.agg (Zw.g a),.ip [.fn 113 [] []],.ip [.fn 72 [] []],.ip [i64 b]]=(F115_2 a b).map (fun c=>bv c):=by
 rw[od (fn:=p115) rfl rfl rfl]
 refine bo (ok116_2 d a.Voices b) fun e=>?_
 exact lf rfl
def F159_2 (b:List Zw) (c:Int):Option Int:=
 (aP (E:=Int⊕Unit) (fun(a:Int)=>if decide (a<(b.length:Int))then(lget b a).bind fun d=>(F115_2 d c).bind fun e=>if e then some (.inr (.inl a))else some (.inl (w64 (a+1)))else some (.inr (.inr ()))) B64 0).bind fun f=>(match f with|.inl x8=>some x8|.inr _=>some (-1))
theorem ok159_2 {k} (d) (a:List Zw) (b:Int):OD k (d+19) 159 [.is 2 (I Zw.g a),.fn 115 [] [.ip [.fn 113 [] []],.ip [.fn 72 [] []],.ip [i64 b]]]=(F159_2 a b).map (fun i=>i64 i):=by
 rw[od (fn:=p159) rfl rfl rfl]
 refine bz lm ?_
 refine bo (aG (S:=Int) (enc:=fun c=>(Q [(0,.is 2 (I Zw.g a)),(1,.fn 115 [] [.ip [.fn 113 [] []],.ip [.fn 72 [] []],.ip [i64 b]]),(7,i64 (a.length:Int)),(8,i64 c)] [])) (encE:=(fun|.inl e=>(rq [(4,i64 e)] [])|.inr _=>(xq 0 [] []))) (fun c=>?_) B64 0) fun h=>?_
 refine io ?_ (lf rfl)
 refine bo rg fun f=>?_
 refine bo (ok115_2 d f b) fun j=>?_
 refine io (lf rfl) (lf rfl)
 rcases h with e|_
 exact lf rfl
 exact lf rfl
def F114_2 (a:List Zw) (b:Int):Option Bool:=
 (F159_2 a b).bind fun c=>some (decide (c>=0))
theorem ok114_2 {k} (d) (a:List Zw) (b:Int):OD k (d+20) 114 [.is 2 (I Zw.g a),.fn 115 [] [.ip [.fn 113 [] []],.ip [.fn 72 [] []],.ip [i64 b]]]=(F114_2 a b).map (fun c=>bv c):=by
 rw[od (fn:=p114) rfl rfl rfl]
 refine bo (ok159_2 d a b) fun e=>?_
 exact lf rfl
def F112_2 (e:Int) (a:Zm):Option Bool:=
 (F29 a).bind fun⟨b,c⟩=>if c !=0 then some false else(F114_2 a.Cells b).bind fun d=>some d
theorem ok112_2 {k} (d) (b:Int) (a:Zm):OD k (d+21) 112 [i64 b,.agg (Zm.g a),.ip [.fn 72 [] []]]=(F112_2 b a).map (fun e=>bv e):=by
 rw[od (fn:=p112) rfl rfl rfl]
 refine bo (ok29 (d+16) a) fun⟨c,f⟩=>?_
 refine io (lf rfl) ?_
 refine bo (ok114_2 d a.Cells c) fun h=>?_
 exact lf rfl
def Fn64_5 (h:List Zv) (e:Z0) (i:Int):Option (List Zv):=
 (aP (E:=List Zv) (fun(⟨a,f⟩:Int×(List Zv))=>if decide (a<(e.Measures.length:Int))then(lget e.Measures a).bind fun g=>(F112_2 a g).bind fun b=>(Fn57 b g.ID f e i).bind fun c=>some (.inl ((w64 (a+1)),c))else some (.inr f)) B64 (0,h)).bind fun d=>some d
theorem okn64_5 {k} (d) (e:List Zv) (a:Z0) (b:Int):runR (XD k (d+22)) 64 [.ref 1 0,.fn 112 [] [.ref 3 0]] [(3,.box [.fn 72 [] []]),(2,.lst 119 3 false (I Zv.g e)),(1,.box (ck a b (.own 2)))] 4 false=(Fn64_5 e a b).map (fun(h:List Zv)=>((.tup [],[(3,.box [.fn 72 [] []]),(2,.lst 119 3 false (I Zv.g h)),(1,.box (ck a b (.own 2)))],0))):=by
 rw[xd (fn:=p64) rfl]
 refine bz lm ?_
 refine bo (aG (S:=Int×(List Zv)) (enc:=fun⟨i,j⟩=>(Q [(0,.ref 1 0),(1,.fn 112 [] [.ref 3 0]),(10,.is 22 (I Zm.g a.Measures)),(11,i64 (a.Measures.length:Int)),(12,i64 i)] [(3,.box [.fn 72 [] []]),(2,.lst 119 3 false (I Zv.g j)),(1,.box (ck a b (.own 2)))])) (encE:=(fun(c:List Zv)=>(xq 0 [] [(3,.box [.fn 72 [] []]),(2,.lst 119 3 false (I Zv.g c)),(1,.box (ck a b (.own 2)))]))) (fun⟨i,j⟩=>?_) B64 (0,e)) fun c=>?_
 refine io ?_ (lf rfl)
 refine bo rg fun l=>?_
 refine bo (ok112_2 d i l) fun f=>?_
 refine bo (okn57 (d+20) f l.ID j a b) fun m=>?_
 exact lf rfl
 exact lf rfl
def Fn70_2 (a:List Zv) (b:Z0) (c:Int):Option (List Zv):=
 (Fn64_5 a b c).bind fun d=>some d
theorem okn70_2 {k} (d) (c:List Zv) (a:Z0) (b:Int):runR (XD k (d+23)) 70 [.ref 1 0,.fn 72 [] []] [(2,.lst 119 3 false (I Zv.g c)),(1,.box (ck a b (.own 2)))] 3 false=(Fn70_2 c a b).map (fun(e:List Zv)=>((.tup [],[(2,.lst 119 3 false (I Zv.g e)),(1,.box (ck a b (.own 2)))],0))):=by
 rw[xd (fn:=p70) rfl]
 refine bo (okn64_5 d c a b) fun f=>?_
 exact lf rfl
def Fn40 (a:List Zv) (b:Z0) (c:Int):Option (List Zv):=
 (Fn70_2 a b c).bind fun d=>some d
theorem okn40 {k} (d) (c:List Zv) (a:Z0) (b:Int):runR (XD k (d+24)) 40 [.ref 1 0] [(2,.lst 119 3 false (I Zv.g c)),(1,.box (ck a b (.own 2)))] 3 false=(Fn40 c a b).map (fun(e:List Zv)=>((.tup [],[(2,.lst 119 3 false (I Zv.g e)),(1,.box (ck a b (.own 2)))],0))):=by
 rw[xd (fn:=p40) rfl]
 refine bo (okn70_2 d c a b) fun f=>?_
 exact lf rfl
def F74 (c:Zp) (a:Ze):Option Bool:=
 (F75 a).bind fun b=>some (b !=0)
theorem ok74 {k} (d) (b:Zp) (a:Ze):OD k (d+9) 74 [.agg (Zp.g b),.agg (Ze.g a)]=(F74 b a).map (fun c=>bv c):=by
 rw[od (fn:=p74) rfl rfl rfl]
 refine bo (ok75 d a) fun e=>?_
 exact lf rfl
def Fn73 (t:List Zv) (s:Z0) (u:Int):Option (List Zv):=
 (aP (E:=List Zv) (fun(⟨b,m⟩:Int×(List Zv))=>if decide (b<(s.Measures.length:Int))then(lget s.Measures b).bind fun n=>(aP (E:=List Zv) (fun(⟨c,o⟩:Int×(List Zv))=>if decide (c<(n.Cells.length:Int))then(lget n.Cells c).bind fun p=>(aP (E:=List Zv) (fun(⟨d,q⟩:Int×(List Zv))=>if decide (d<(p.Voices.length:Int))then(lget p.Voices d).bind fun r=>(aP (E:=List Zv) (fun(⟨a,e⟩:Int×(List Zv))=>if decide (a<(r.Events.length:Int))then(lget r.Events a).bind fun f=>(F74 (Zp.mk 4 0 c b d a 0) f).bind fun g=>(Fn57 g f.ID e s u).bind fun h=>some (.inl ((w64 (a+1)),h))else some (.inr e)) B64 (0,q)).bind fun i=>some (.inl ((w64 (d+1)),i))else some (.inr q)) B64 (0,o)).bind fun j=>some (.inl ((w64 (c+1)),j))else some (.inr o)) B64 (0,m)).bind fun k=>some (.inl ((w64 (b+1)),k))else some (.inr m)) B64 (0,t)).bind fun l=>some l
theorem okn73 {k} (d) (x:List Zv) (c:Z0) (i:Int):runR (XD k (d+10)) 73 [.ref 1 0,.fn 74 [] []] [(2,.lst 119 3 false (I Zv.g x)),(1,.box (ck c i (.own 2)))] 3 false=(Fn73 x c i).map (fun(w:List Zv)=>((.tup [],[(2,.lst 119 3 false (I Zv.g w)),(1,.box (ck c i (.own 2)))],0))):=by
 rw[xd (fn:=p73) rfl]
 refine bz lm ?_
 refine bo (aG (S:=Int×(List Zv)) (enc:=fun⟨b,s⟩=>(Q [(0,.ref 1 0),(1,.fn 74 [] []),(16,.is 22 (I Zm.g c.Measures)),(17,i64 (c.Measures.length:Int)),(18,i64 b)] [(2,.lst 119 3 false (I Zv.g s)),(1,.box (ck c i (.own 2)))])) (encE:=(fun(r:List Zv)=>(xq 0 [] [(2,.lst 119 3 false (I Zv.g r)),(1,.box (ck c i (.own 2)))]))) (fun⟨b,s⟩=>?_) B64 (0,x)) fun r=>?_
 refine io ?_ (lf rfl)
 refine bo rg fun a=>?_
 refine bz lm ?_
 refine bo (aG (S:=Int×(List Zv)) (enc:=fun⟨e,t⟩=>(Q [(0,.ref 1 0),(1,.fn 74 [] []),(4,i64 b),(16,.is 22 (I Zm.g c.Measures)),(17,i64 (c.Measures.length:Int)),(18,i64 b),(24,.is 2 (I Zw.g a.Cells)),(25,i64 (a.Cells.length:Int)),(26,i64 e)] [(3,.box (Zm.g a)),(2,.lst 119 3 false (I Zv.g t)),(1,.box (ck c i (.own 2)))])) (encE:=(fun(q:List Zv)=>(xq 2 [(0,.ref 1 0),(1,.fn 74 [] []),(16,.is 22 (I Zm.g c.Measures)),(17,i64 (c.Measures.length:Int)),(18,i64 b)] [(3,.box (Zm.g a)),(2,.lst 119 3 false (I Zv.g q)),(1,.box (ck c i (.own 2)))]))) (fun⟨e,t⟩=>?_) B64 (0,s)) fun q=>?_
 refine io ?_ (lf rfl)
 refine bo rg fun f=>?_
 refine bz lm ?_
 refine bo (aG (S:=Int×(List Zv)) (enc:=fun⟨h,u⟩=>(Q [(0,.ref 1 0),(1,.fn 74 [] []),(4,i64 b),(6,i64 e),(16,.is 22 (I Zm.g c.Measures)),(17,i64 (c.Measures.length:Int)),(18,i64 b),(24,.is 2 (I Zw.g a.Cells)),(25,i64 (a.Cells.length:Int)),(26,i64 e),(32,.is 2 (I Zo.g f.Voices)),(33,i64 (f.Voices.length:Int)),(34,i64 h)] [(4,.box (Zw.g f)),(3,.box (Zm.g a)),(2,.lst 119 3 false (I Zv.g u)),(1,.box (ck c i (.own 2)))])) (encE:=(fun(p:List Zv)=>(xq 4 [(0,.ref 1 0),(1,.fn 74 [] []),(4,i64 b),(16,.is 22 (I Zm.g c.Measures)),(17,i64 (c.Measures.length:Int)),(18,i64 b),(24,.is 2 (I Zw.g a.Cells)),(25,i64 (a.Cells.length:Int)),(26,i64 e)] [(4,.box (Zw.g f)),(3,.box (Zm.g a)),(2,.lst 119 3 false (I Zv.g p)),(1,.box (ck c i (.own 2)))]))) (fun⟨h,u⟩=>?_) B64 (0,t)) fun p=>?_
 refine io ?_ (lf rfl)
 refine bo rg fun m=>?_
 refine bz lm ?_
 refine bo (aG (S:=Int×(List Zv)) (enc:=fun⟨j,l⟩=>(Q [(0,.ref 1 0),(1,.fn 74 [] []),(4,i64 b),(6,i64 e),(8,i64 h),(16,.is 22 (I Zm.g c.Measures)),(17,i64 (c.Measures.length:Int)),(18,i64 b),(24,.is 2 (I Zw.g a.Cells)),(25,i64 (a.Cells.length:Int)),(26,i64 e),(32,.is 2 (I Zo.g f.Voices)),(33,i64 (f.Voices.length:Int)),(34,i64 h),(40,.is 13 (I Ze.g m.Events)),(41,i64 (m.Events.length:Int)),(42,i64 j)] [(5,.box (Zo.g m)),(4,.box (Zw.g f)),(3,.box (Zm.g a)),(2,.lst 119 3 false (I Zv.g l)),(1,.box (ck c i (.own 2)))])) (encE:=(fun(o:List Zv)=>(xq 6 [(0,.ref 1 0),(1,.fn 74 [] []),(4,i64 b),(6,i64 e),(16,.is 22 (I Zm.g c.Measures)),(17,i64 (c.Measures.length:Int)),(18,i64 b),(24,.is 2 (I Zw.g a.Cells)),(25,i64 (a.Cells.length:Int)),(26,i64 e),(32,.is 2 (I Zo.g f.Voices)),(33,i64 (f.Voices.length:Int)),(34,i64 h)] [(5,.box (Zo.g m)),(4,.box (Zw.g f)),(3,.box (Zm.g a)),(2,.lst 119 3 false (I Zv.g o)),(1,.box (ck c i (.own 2)))]))) (fun⟨j,l⟩=>?_) B64 (0,u)) fun o=>?_
 refine io ?_ (lf rfl)
 refine bo rg fun n=>?_
 refine bo (ok74 d (Zp.mk 4 0 e b h j 0) n) fun v=>?_
 refine bo (okn57 (d+8) v n.ID l c i) fun y=>?_
 exact lf rfl
 exact lf rfl
 exact lf rfl
 exact lf rfl
 exact lf rfl
def Fn41 (a:List Zv) (b:Z0) (c:Int):Option (List Zv):=
 (Fn73 a b c).bind fun d=>some d
theorem okn41 {k} (d) (c:List Zv) (a:Z0) (b:Int):runR (XD k (d+11)) 41 [.ref 1 0] [(2,.lst 119 3 false (I Zv.g c)),(1,.box (ck a b (.own 2)))] 3 false=(Fn41 c a b).map (fun(e:List Zv)=>((.tup [],[(2,.lst 119 3 false (I Zv.g e)),(1,.box (ck a b (.own 2)))],0))):=by
 rw[xd (fn:=p41) rfl]
 refine bo (okn73 d c a b) fun f=>?_
 exact lf rfl
def F22 (c:Z0) (d:Int):Option (Int×Int×Int):=
 if decide (d<0)then some (0,0,2)else(aP (E:=(Int×Int)⊕Unit) (fun(⟨b,a⟩:Int×Int)=>if decide (a<(c.Parts.length:Int))then(lget c.Parts a).bind fun e=>if decide (b<(e.Staves.length:Int))then some (.inr (.inl (a,b)))else some (.inl ((w64 (b-(e.Staves.length:Int))),(w64 (a+1))))else some (.inr (.inr ()))) B64 (d,0)).bind fun f=>(match f with|.inl ⟨x7,x8⟩=>some (x7,x8,0)|.inr _=>some (0,0,2))
theorem ok22 {k} (d) (a:Z0) (b:Int):OD k (d+1) 22 [.agg (Z0.g a),i64 b]=(F22 a b).map (fun⟨j,l,m⟩=>.tup [i64 j,i64 l,i64 m]):=by
 rw[od (fn:=p22) rfl rfl rfl]
 refine io (lf rfl) ?_
 refine bz lm ?_
 refine bo (aG (S:=Int×Int) (enc:=fun⟨c,e⟩=>(Q [(1,i64 c),(12,.is 6 (I Zj.g a.Parts)),(13,i64 (a.Parts.length:Int)),(14,i64 e)] [(0,.box (Z0.g a))])) (encE:=(fun|.inl ⟨f,h⟩=>(rq [(4,i64 f),(5,i64 h),(6,i64 0)] [(0,.box (Z0.g a))])|.inr _=>(xq 0 [] [(0,.box (Z0.g a))]))) (fun⟨c,e⟩=>?_) B64 (b,0)) fun i=>?_
 refine io ?_ (lf rfl)
 refine bo rg fun n=>?_
 refine bz lm ?_
 refine io (lf rfl) ?_
 refine bz lm ?_
 exact lf rfl
 rcases i with⟨f,h⟩|_
 exact lf rfl
 exact lf rfl
def F77 (a:Zh) (b:Int):Option Bool:=
 (F54 a).bind fun⟨c,e⟩=>(F59 (w64 (c+b)) 0 127).bind fun d=>some (!d)
theorem ok77 {k} (d) (a:Zh) (b:Int):OD k (d+5) 77 [.agg (Zh.g a),.ip [i64 b]]=(F77 a b).map (fun e=>bv e):=by
 rw[od (fn:=p77) rfl rfl rfl]
 refine bo (ok54 d a) fun⟨c,f⟩=>?_
 refine bo (ok59 (d+3) (w64 (c+b)) 0 127) fun h=>?_
 exact lf rfl
def F79 (a:Zb) (b:Int):Option Bool:=
 (F77 a.Pitch b).bind fun c=>some c
theorem ok79 {k} (d) (a:Zb) (b:Int):OD k (d+6) 79 [.agg (Zb.g a),.ip [.fn 77 [] [.ip [i64 b]]]]=(F79 a b).map (fun c=>bv c):=by
 rw[od (fn:=p79) rfl rfl rfl]
 refine bo (ok77 d a.Pitch b) fun e=>?_
 exact lf rfl
def F129 (b:List Zb) (c:Int):Option Int:=
 (aP (E:=Int⊕Unit) (fun(a:Int)=>if decide (a<(b.length:Int))then(lget b a).bind fun d=>(F79 d c).bind fun e=>if e then some (.inr (.inl a))else some (.inl (w64 (a+1)))else some (.inr (.inr ()))) B64 0).bind fun f=>(match f with|.inl x8=>some x8|.inr _=>some (-1))
theorem ok129 {k} (d) (a:List Zb) (b:Int):OD k (d+7) 129 [.is 5 (I Zb.g a),.fn 79 [] [.ip [.fn 77 [] [.ip [i64 b]]]]]=(F129 a b).map (fun i=>i64 i):=by
 rw[od (fn:=p129) rfl rfl rfl]
 refine bz lm ?_
 refine bo (aG (S:=Int) (enc:=fun c=>(Q [(0,.is 5 (I Zb.g a)),(1,.fn 79 [] [.ip [.fn 77 [] [.ip [i64 b]]]]),(7,i64 (a.length:Int)),(8,i64 c)] [])) (encE:=(fun|.inl e=>(rq [(4,i64 e)] [])|.inr _=>(xq 0 [] []))) (fun c=>?_) B64 0) fun h=>?_
 refine io ?_ (lf rfl)
 refine bo rg fun f=>?_
 refine bo (ok79 d f b) fun j=>?_
 refine io (lf rfl) (lf rfl)
 rcases h with e|_
 exact lf rfl
 exact lf rfl
def F78 (a:List Zb) (b:Int):Option Bool:=
 (F129 a b).bind fun c=>some (decide (c>=0))
theorem ok78 {k} (d) (a:List Zb) (b:Int):OD k (d+8) 78 [.is 5 (I Zb.g a),.fn 79 [] [.ip [.fn 77 [] [.ip [i64 b]]]]]=(F78 a b).map (fun c=>bv c):=by
 rw[od (fn:=p78) rfl rfl rfl]
 refine bo (ok129 d a b) fun e=>?_
 exact lf rfl
def F81 (a:Zd) (b:Int):Option Bool:=
 (F77 a.Pitch b).bind fun c=>some c
theorem ok81 {k} (d) (a:Zd) (b:Int):OD k (d+6) 81 [.agg (Zd.g a),.ip [.fn 77 [] [.ip [i64 b]]]]=(F81 a b).map (fun c=>bv c):=by
 rw[od (fn:=p81) rfl rfl rfl]
 refine bo (ok77 d a.Pitch b) fun e=>?_
 exact lf rfl
def F130 (b:List Zd) (c:Int):Option Int:=
 (aP (E:=Int⊕Unit) (fun(a:Int)=>if decide (a<(b.length:Int))then(lget b a).bind fun d=>(F81 d c).bind fun e=>if e then some (.inr (.inl a))else some (.inl (w64 (a+1)))else some (.inr (.inr ()))) B64 0).bind fun f=>(match f with|.inl x8=>some x8|.inr _=>some (-1))
theorem ok130 {k} (d) (a:List Zd) (b:Int):OD k (d+7) 130 [.is 5 (I Zd.g a),.fn 81 [] [.ip [.fn 77 [] [.ip [i64 b]]]]]=(F130 a b).map (fun i=>i64 i):=by
 rw[od (fn:=p130) rfl rfl rfl]
 refine bz lm ?_
 refine bo (aG (S:=Int) (enc:=fun c=>(Q [(0,.is 5 (I Zd.g a)),(1,.fn 81 [] [.ip [.fn 77 [] [.ip [i64 b]]]]),(7,i64 (a.length:Int)),(8,i64 c)] [])) (encE:=(fun|.inl e=>(rq [(4,i64 e)] [])|.inr _=>(xq 0 [] []))) (fun c=>?_) B64 0) fun h=>?_
 refine io ?_ (lf rfl)
 refine bo rg fun f=>?_
 refine bo (ok81 d f b) fun j=>?_
 refine io (lf rfl) (lf rfl)
 rcases h with e|_
 exact lf rfl
 exact lf rfl
def F80 (a:List Zd) (b:Int):Option Bool:=
 (F130 a b).bind fun c=>some (decide (c>=0))
theorem ok80 {k} (d) (a:List Zd) (b:Int):OD k (d+8) 80 [.is 5 (I Zd.g a),.fn 81 [] [.ip [.fn 77 [] [.ip [i64 b]]]]]=(F80 a b).map (fun c=>bv c):=by
 rw[od (fn:=p80) rfl rfl rfl]
 refine bo (ok130 d a b) fun e=>?_
 exact lf rfl
def F76 (h:Zp) (e:Ze) (f:Zk):Option Bool:=
 (F75 e).bind fun i=>if i !=0 then some false else(F22 f.s' h.Staff).bind fun⟨j,m,k⟩=>((if k==0 then(lget f.s'.Parts j).bind fun l=>some l.Transpose.Semitones else some 0:Option (Int))).bind fun g=>((if f.s'.Written then some (w64 (0-g))else some g:Option (Int))).bind fun a=>(F78 e.Heads a).bind fun b=>((if b then some true else(F80 e.Graces a).bind fun c=>some c:Option (Bool))).bind fun d=>some d
theorem ok76 {k} (d) (c:Zp) (b:Ze) (f:Zk):OD k (d+9) 76 [.agg (Zp.g c),.agg (Ze.g b),.ip [.ip (Zk.g f)]]=(F76 c b f).map (fun m=>bv m):=by
 rw[od (fn:=p76) rfl rfl rfl]
 refine bo (ok75 d b) fun n=>?_
 refine io (lf rfl) ?_
 refine bo (ok22 (d+7) f.s' c.Staff) fun⟨o,p,q⟩=>?_
 refine bo (e:=(fun(h:Int)=>(nq [(2,.ip [.ip (Zk.g f)]),(4,.ref 1 0),(6,.ref 2 0)] [(2,.box [i64 h]),(1,.box (Ze.g b)),(0,.box (Zp.g c))]))) ?_ fun h=>?_
 refine io ?_ (lf rfl)
 refine bo rg fun r=>?_
 exact lf rfl
 refine bo (e:=(fun(a:Int)=>(nq [(4,.ref 1 0),(6,.ref 2 0)] [(2,.box [i64 a]),(1,.box (Ze.g b)),(0,.box (Zp.g c))]))) ?_ fun a=>?_
 refine io (lf rfl) (lf rfl)
 refine bo (ok78 d b.Heads a) fun i=>?_
 refine bo (e:=id) ?_ fun l=>?_
 refine io (lf rfl) ?_
 refine bo (ok80 d b.Graces a) fun j=>?_
 exact lf rfl
 exact lf rfl
def Fn73_2 (u:List Zv) (s:Z0) (t:Int):Option (List Zv):=
 (aP (E:=List Zv) (fun(⟨c,m⟩:Int×(List Zv))=>if decide (c<(s.Measures.length:Int))then(lget s.Measures c).bind fun n=>(aP (E:=List Zv) (fun(⟨d,o⟩:Int×(List Zv))=>if decide (d<(n.Cells.length:Int))then(lget n.Cells d).bind fun p=>(aP (E:=List Zv) (fun(⟨e,q⟩:Int×(List Zv))=>if decide (e<(p.Voices.length:Int))then(lget p.Voices e).bind fun r=>(aP (E:=List Zv) (fun(⟨a,b⟩:Int×(List Zv))=>if decide (a<(r.Events.length:Int))then(lget r.Events a).bind fun f=>(F76 (Zp.mk 4 0 d c e a 0) f (Zk.mk s t b)).bind fun g=>(Fn57 g f.ID b s t).bind fun h=>some (.inl ((w64 (a+1)),h))else some (.inr b)) B64 (0,q)).bind fun i=>some (.inl ((w64 (e+1)),i))else some (.inr q)) B64 (0,o)).bind fun j=>some (.inl ((w64 (d+1)),j))else some (.inr o)) B64 (0,m)).bind fun k=>some (.inl ((w64 (c+1)),k))else some (.inr m)) B64 (0,u)).bind fun l=>some l
theorem okn73_2 {k} (d) (x:List Zv) (c:Z0) (i:Int):runR (XD k (d+10)) 73 [.ref 1 0,.fn 76 [] [.ref 3 0]] [(3,.box [.ref 1 0]),(2,.lst 119 3 false (I Zv.g x)),(1,.box (ck c i (.own 2)))] 4 false=(Fn73_2 x c i).map (fun(w:List Zv)=>((.tup [],[(3,.box [.ref 1 0]),(2,.lst 119 3 false (I Zv.g w)),(1,.box (ck c i (.own 2)))],0))):=by
 rw[xd (fn:=p73) rfl]
 refine bz lm ?_
 refine bo (aG (S:=Int×(List Zv)) (enc:=fun⟨b,s⟩=>(Q [(0,.ref 1 0),(1,.fn 76 [] [.ref 3 0]),(16,.is 22 (I Zm.g c.Measures)),(17,i64 (c.Measures.length:Int)),(18,i64 b)] [(3,.box [.ref 1 0]),(2,.lst 119 3 false (I Zv.g s)),(1,.box (ck c i (.own 2)))])) (encE:=(fun(r:List Zv)=>(xq 0 [] [(3,.box [.ref 1 0]),(2,.lst 119 3 false (I Zv.g r)),(1,.box (ck c i (.own 2)))]))) (fun⟨b,s⟩=>?_) B64 (0,x)) fun r=>?_
 refine io ?_ (lf rfl)
 refine bo rg fun a=>?_
 refine bz lm ?_
 refine bo (aG (S:=Int×(List Zv)) (enc:=fun⟨e,t⟩=>(Q [(0,.ref 1 0),(1,.fn 76 [] [.ref 3 0]),(4,i64 b),(16,.is 22 (I Zm.g c.Measures)),(17,i64 (c.Measures.length:Int)),(18,i64 b),(24,.is 2 (I Zw.g a.Cells)),(25,i64 (a.Cells.length:Int)),(26,i64 e)] [(4,.box (Zm.g a)),(3,.box [.ref 1 0]),(2,.lst 119 3 false (I Zv.g t)),(1,.box (ck c i (.own 2)))])) (encE:=(fun(q:List Zv)=>(xq 2 [(0,.ref 1 0),(1,.fn 76 [] [.ref 3 0]),(16,.is 22 (I Zm.g c.Measures)),(17,i64 (c.Measures.length:Int)),(18,i64 b)] [(4,.box (Zm.g a)),(3,.box [.ref 1 0]),(2,.lst 119 3 false (I Zv.g q)),(1,.box (ck c i (.own 2)))]))) (fun⟨e,t⟩=>?_) B64 (0,s)) fun q=>?_
 refine io ?_ (lf rfl)
 refine bo rg fun f=>?_
 refine bz lm ?_
 refine bo (aG (S:=Int×(List Zv)) (enc:=fun⟨j,u⟩=>(Q [(0,.ref 1 0),(1,.fn 76 [] [.ref 3 0]),(4,i64 b),(6,i64 e),(16,.is 22 (I Zm.g c.Measures)),(17,i64 (c.Measures.length:Int)),(18,i64 b),(24,.is 2 (I Zw.g a.Cells)),(25,i64 (a.Cells.length:Int)),(26,i64 e),(32,.is 2 (I Zo.g f.Voices)),(33,i64 (f.Voices.length:Int)),(34,i64 j)] [(5,.box (Zw.g f)),(4,.box (Zm.g a)),(3,.box [.ref 1 0]),(2,.lst 119 3 false (I Zv.g u)),(1,.box (ck c i (.own 2)))])) (encE:=(fun(p:List Zv)=>(xq 4 [(0,.ref 1 0),(1,.fn 76 [] [.ref 3 0]),(4,i64 b),(16,.is 22 (I Zm.g c.Measures)),(17,i64 (c.Measures.length:Int)),(18,i64 b),(24,.is 2 (I Zw.g a.Cells)),(25,i64 (a.Cells.length:Int)),(26,i64 e)] [(5,.box (Zw.g f)),(4,.box (Zm.g a)),(3,.box [.ref 1 0]),(2,.lst 119 3 false (I Zv.g p)),(1,.box (ck c i (.own 2)))]))) (fun⟨j,u⟩=>?_) B64 (0,t)) fun p=>?_
 refine io ?_ (lf rfl)
 refine bo rg fun m=>?_
 refine bz lm ?_
 refine bo (aG (S:=Int×(List Zv)) (enc:=fun⟨l,h⟩=>(Q [(0,.ref 1 0),(1,.fn 76 [] [.ref 3 0]),(4,i64 b),(6,i64 e),(8,i64 j),(16,.is 22 (I Zm.g c.Measures)),(17,i64 (c.Measures.length:Int)),(18,i64 b),(24,.is 2 (I Zw.g a.Cells)),(25,i64 (a.Cells.length:Int)),(26,i64 e),(32,.is 2 (I Zo.g f.Voices)),(33,i64 (f.Voices.length:Int)),(34,i64 j),(40,.is 13 (I Ze.g m.Events)),(41,i64 (m.Events.length:Int)),(42,i64 l)] [(6,.box (Zo.g m)),(5,.box (Zw.g f)),(4,.box (Zm.g a)),(3,.box [.ref 1 0]),(2,.lst 119 3 false (I Zv.g h)),(1,.box (ck c i (.own 2)))])) (encE:=(fun(o:List Zv)=>(xq 6 [(0,.ref 1 0),(1,.fn 76 [] [.ref 3 0]),(4,i64 b),(6,i64 e),(16,.is 22 (I Zm.g c.Measures)),(17,i64 (c.Measures.length:Int)),(18,i64 b),(24,.is 2 (I Zw.g a.Cells)),(25,i64 (a.Cells.length:Int)),(26,i64 e),(32,.is 2 (I Zo.g f.Voices)),(33,i64 (f.Voices.length:Int)),(34,i64 j)] [(6,.box (Zo.g m)),(5,.box (Zw.g f)),(4,.box (Zm.g a)),(3,.box [.ref 1 0]),(2,.lst 119 3 false (I Zv.g o)),(1,.box (ck c i (.own 2)))]))) (fun⟨l,h⟩=>?_) B64 (0,u)) fun o=>?_
 refine io ?_ (lf rfl)
 refine bo rg fun n=>?_
 refine bo (ok76 d (Zp.mk 4 0 e b j l 0) n (Zk.mk c i h)) fun v=>?_
 refine bo (okn57 (d+8) v n.ID h c i) fun y=>?_
 exact lf rfl
 exact lf rfl
 exact lf rfl
 exact lf rfl
 exact lf rfl
def Fn42 (a:List Zv) (b:Z0) (c:Int):Option (List Zv):=
 (Fn73_2 a b c).bind fun d=>some d
theorem okn42 {k} (d) (c:List Zv) (a:Z0) (b:Int):runR (XD k (d+11)) 42 [.ref 1 0] [(2,.lst 119 3 false (I Zv.g c)),(1,.box (ck a b (.own 2)))] 3 false=(Fn42 c a b).map (fun(e:List Zv)=>((.tup [],[(2,.lst 119 3 false (I Zv.g e)),(1,.box (ck a b (.own 2)))],0))):=by
 rw[xd (fn:=p42) rfl]
 refine bo (okn73_2 d c a b) fun f=>?_
 exact lf rfl
def F131 (a:Zb):Option Bool:=
 some a.Tied
theorem ok131 {k} (d) (a:Zb):OD k (d+1) 131 [.agg (Zb.g a)]=(F131 a).map (fun b=>bv b):=by
 rw[od (fn:=p131) rfl rfl rfl]
 exact lf rfl
def F129_2 (b:List Zb):Option Int:=
 (aP (E:=Int⊕Unit) (fun(a:Int)=>if decide (a<(b.length:Int))then(lget b a).bind fun c=>(F131 c).bind fun d=>if d then some (.inr (.inl a))else some (.inl (w64 (a+1)))else some (.inr (.inr ()))) B64 0).bind fun e=>(match e with|.inl x7=>some x7|.inr _=>some (-1))
theorem ok129_2 {k} (d) (a:List Zb):OD k (d+2) 129 [.is 5 (I Zb.g a),.fn 131 [] []]=(F129_2 a).map (fun h=>i64 h):=by
 rw[od (fn:=p129) rfl rfl rfl]
 refine bz lm ?_
 refine bo (aG (S:=Int) (enc:=fun b=>(Q [(0,.is 5 (I Zb.g a)),(1,.fn 131 [] []),(7,i64 (a.length:Int)),(8,i64 b)] [])) (encE:=(fun|.inl c=>(rq [(4,i64 c)] [])|.inr _=>(xq 0 [] []))) (fun b=>?_) B64 0) fun f=>?_
 refine io ?_ (lf rfl)
 refine bo rg fun e=>?_
 refine bo (ok131 d e) fun i=>?_
 refine io (lf rfl) (lf rfl)
 rcases f with c|_
 exact lf rfl
 exact lf rfl
def F78_2 (a:List Zb):Option Bool:=
 (F129_2 a).bind fun b=>some (decide (b>=0))
theorem ok78_2 {k} (d) (a:List Zb):OD k (d+3) 78 [.is 5 (I Zb.g a),.fn 131 [] []]=(F78_2 a).map (fun b=>bv b):=by
 rw[od (fn:=p78) rfl rfl rfl]
 refine bo (ok129_2 d a) fun c=>?_
 exact lf rfl
def F83 (a:Ze):Option Bool:=
 ((if a.Kind==1 then(F78_2 a.Heads).bind fun b=>some b else some false:Option (Bool))).bind fun c=>some c
theorem ok83 {k} (d) (a:Ze):OD k (d+4) 83 [.agg (Ze.g a)]=(F83 a).map (fun b=>bv b):=by
 rw[od (fn:=p83) rfl rfl rfl]
 refine bo (e:=id) ?_ fun f=>?_
 refine io ?_ (lf rfl)
 refine bo (ok78_2 d a.Heads) fun c=>?_
 exact lf rfl
 exact lf rfl
def F133 (b:Z0) (a c g:Int):Option (List Ze):=
 ((if((decide (a<0))||(decide (a>=(b.Measures.length:Int))))||(decide (c<0))then some true else(lget b.Measures a).bind fun h=>some (decide (c>=(h.Cells.length:Int))):Option (Bool))).bind fun i=>((if i||(decide (g<0))then some true else(lget b.Measures a).bind fun j=>(lget j.Cells c).bind fun k=>some (decide (g>=(k.Voices.length:Int))):Option (Bool))).bind fun l=>if l then some []else(lget b.Measures a).bind fun d=>(lget d.Cells c).bind fun e=>(lget e.Voices g).bind fun f=>some f.Events
theorem ok133 {k} (d) (a:Z0) (b c f:Int):OD k (d+1) 133 [.agg (Z0.g a),i64 b,i64 c,i64 f]=(F133 a b c f).map (fun l=>.is 13 (I Ze.g l)):=by
 rw[od (fn:=p133) rfl rfl rfl]
 refine bz (gor (bz lm rfl)) ?_
 refine bz (gor rfl) ?_
 refine bo (e:=id) ?_ fun n=>?_
 refine io (lf rfl) ?_
 refine bo rg fun m=>?_
 refine bz lm ?_
 exact lf rfl
 refine bz (gor rfl) ?_
 refine bo (e:=id) ?_ fun q=>?_
 refine io (lf rfl) ?_
 refine bo rg fun o=>?_
 refine bo rg fun p=>?_
 refine bz lm ?_
 exact lf rfl
 refine io (lf rfl) ?_
 refine bo rg fun h=>?_
 refine bo rg fun i=>?_
 refine bo rg fun j=>?_
 exact lf rfl
def F132 (b:Z0) (a:Zp):Option Int:=
 if a.Kind !=4 then some 11 else((if decide (a.Event<0)then some true else(F133 b a.Measure a.Staff a.Voice).bind fun c=>some (decide (a.Event>=(c.length:Int))):Option (Bool))).bind fun d=>if d then some 2 else some 0
theorem ok132 {k} (d) (b:Z0) (a:Zp):OD k (d+2) 132 [.agg (Z0.g b),.agg (Zp.g a)]=(F132 b a).map (fun c=>i64 c):=by
 rw[od (fn:=p132) rfl rfl rfl]
 refine io (lf rfl) ?_
 refine bo (e:=id) ?_ fun h=>?_
 refine io (lf rfl) ?_
 refine bo (ok133 d b a.Measure a.Staff a.Voice) fun f=>?_
 refine bz lm ?_
 exact lf rfl
 refine io (lf rfl) (lf rfl)
def F134 (a b:Int) (c d:Int):Option Zp:=
 some (Zp.mk 4 0 b a c d 0)
theorem ok134 {k} (d) (a b:Int) (c e:Int):OD k (d+1) 134 [i64 a,i64 b,i64 c,i64 e]=(F134 a b c e).map (fun f=>.agg (Zp.g f)):=by
 rw[od (fn:=p134) rfl rfl rfl]
 exact lf rfl
def F84 (b:Z0) (a:Zp):Option (Zp×Bool):=
 (F132 b a).bind fun c=>if c !=0 then some ((Zp.mk 0 0 0 0 0 0 0),false)else(F133 b a.Measure a.Staff a.Voice).bind fun d=>if decide ((w64 (a.Event+1))<(d.length:Int))then(F134 a.Measure a.Staff a.Voice (w64 (a.Event+1))).bind fun e=>some (e,true)else(F133 b (w64 (a.Measure+1)) a.Staff a.Voice).bind fun f=>if decide ((f.length:Int)>0)then(F134 (w64 (a.Measure+1)) a.Staff a.Voice 0).bind fun g=>some (g,true)else some ((Zp.mk 0 0 0 0 0 0 0),false)
theorem ok84 {k} (d) (b:Z0) (a:Zp):OD k (d+3) 84 [.agg (Z0.g b),.agg (Zp.g a)]=(F84 b a).map (fun⟨c,e⟩=>.tup [.agg (Zp.g c),bv e]):=by
 rw[od (fn:=p84) rfl rfl rfl]
 refine bo (ok132 d b a) fun f=>?_
 refine io (lf rfl) ?_
 refine bo (ok133 (d+1) b a.Measure a.Staff a.Voice) fun h=>?_
 refine bz lm ?_
 refine io ?_ ?_
 refine bo (ok134 (d+1) a.Measure a.Staff a.Voice (w64 (a.Event+1))) fun i=>?_
 exact lf rfl
 refine bo (ok133 (d+1) b (w64 (a.Measure+1)) a.Staff a.Voice) fun j=>?_
 refine bz lm ?_
 refine io ?_ (lf rfl)
 refine bo (ok134 (d+1) (w64 (a.Measure+1)) a.Staff a.Voice 0) fun l=>?_
 exact lf rfl
def F135 (a:Ze):Option Ze:=
 (tV a.Heads).bind fun b=>(tV a.Graces).bind fun c=>(tV a.Lyrics).bind fun d=>some (Ze.mk a.ID a.Kind a.Value b c a.Articulations a.Ornament a.Dynamic d a.Stem a.Beam)
theorem ok135 {k} (d) (a:Ze):OD k (d+2) 135 [.agg (Ze.g a)]=(F135 a).map (fun b=>.agg (Ze.g b)):=by
 rw[od (fn:=p135) rfl rfl rfl]
 refine bo (kX 170 (d+1) 5 _ _ rfl rfl rfl) fun c=>?_
 refine bo (kX 171 (d+1) 5 _ _ rfl rfl rfl) fun e=>?_
 refine bo (kX 172 (d+1) 2 _ _ rfl rfl rfl) fun f=>?_
 exact lf rfl
def F85 (b:Z0) (a:Zp):Option (Ze×Int):=
 (F132 b a).bind fun c=>if c !=0 then some ((Ze.mk (Zz.mk 0 0) 0 (Za.mk 0 0) [] [] 0 0 0 [] 0 0),c)else(F133 b a.Measure a.Staff a.Voice).bind fun d=>(lget d a.Event).bind fun e=>(F135 e).bind fun f=>some (f,0)
theorem ok85 {k} (d) (b:Z0) (a:Zp):OD k (d+3) 85 [.agg (Z0.g b),.agg (Zp.g a)]=(F85 b a).map (fun⟨e,f⟩=>.tup [.agg (Ze.g e),i64 f]):=by
 rw[od (fn:=p85) rfl rfl rfl]
 refine bo (ok132 d b a) fun h=>?_
 refine io (lf rfl) ?_
 refine bo (ok133 (d+1) b a.Measure a.Staff a.Voice) fun i=>?_
 refine bo rg fun c=>?_
 refine bo (ok135 d c) fun j=>?_
 exact lf rfl
def F136 (a b:Zb):Option Bool:=
 some (((a.Pitch.Step==b.Pitch.Step)&&((a.Pitch.Alter==b.Pitch.Alter)&&((a.Pitch.Octave==b.Pitch.Octave)&&true)))!=false)
theorem ok136 {k} (d) (a b:Zb):OD k (d+1) 136 [.agg (Zb.g a),.ip (Zb.g b)]=(F136 a b).map (fun c=>bv c):=by
 rw[od (fn:=p136) rfl rfl rfl]
 exact lf rfl
def F129_3 (b:List Zb) (c:Zb):Option Int:=
 (aP (E:=Int⊕Unit) (fun(a:Int)=>if decide (a<(b.length:Int))then(lget b a).bind fun d=>(F136 d c).bind fun e=>if e then some (.inr (.inl a))else some (.inl (w64 (a+1)))else some (.inr (.inr ()))) B64 0).bind fun f=>(match f with|.inl x8=>some x8|.inr _=>some (-1))
theorem ok129_3 {k} (d) (a:List Zb) (b:Zb):OD k (d+2) 129 [.is 5 (I Zb.g a),.fn 136 [] [.ip (Zb.g b)]]=(F129_3 a b).map (fun i=>i64 i):=by
 rw[od (fn:=p129) rfl rfl rfl]
 refine bz lm ?_
 refine bo (aG (S:=Int) (enc:=fun c=>(Q [(0,.is 5 (I Zb.g a)),(1,.fn 136 [] [.ip (Zb.g b)]),(7,i64 (a.length:Int)),(8,i64 c)] [])) (encE:=(fun|.inl e=>(rq [(4,i64 e)] [])|.inr _=>(xq 0 [] []))) (fun c=>?_) B64 0) fun h=>?_
 refine io ?_ (lf rfl)
 refine bo rg fun f=>?_
 refine bo (ok136 d f b) fun j=>?_
 refine io (lf rfl) (lf rfl)
 rcases h with e|_
 exact lf rfl
 exact lf rfl
def F78_3 (a:List Zb) (b:Zb):Option Bool:=
 (F129_3 a b).bind fun c=>some (decide (c>=0))
theorem ok78_3 {k} (d) (a:List Zb) (b:Zb):OD k (d+3) 78 [.is 5 (I Zb.g a),.fn 136 [] [.ip (Zb.g b)]]=(F78_3 a b).map (fun c=>bv c):=by
 rw[od (fn:=p78) rfl rfl rfl]
 refine bo (ok129_3 d a b) fun e=>?_
 exact lf rfl
def F86 (a f:Ze):Option Bool:=
 if a.Kind !=1 then some true else(aP (E:=Unit⊕Unit) (fun(e:Int)=>if decide (e<(a.Heads.length:Int))then(lget a.Heads e).bind fun g=>((if g.Tied then((if f.Kind==1 then(F78_3 f.Heads g).bind fun h=>some h else some false:Option (Bool))).bind fun b=>some (!b)else some false:Option (Bool))).bind fun c=>if c then some (.inr (.inl ()))else some (.inl (w64 (e+1)))else some (.inr (.inr ()))) B64 0).bind fun d=>(match d with|.inl _=>some false|.inr _=>some true)
theorem ok86 {k} (d) (a b:Ze):OD k (d+4) 86 [.agg (Ze.g a),.agg (Ze.g b)]=(F86 a b).map (fun l=>bv l):=by
 rw[od (fn:=p86) rfl rfl rfl]
 refine io (lf rfl) ?_
 refine bz lm ?_
 refine bo (aG (S:=Int) (enc:=fun f=>(Q [(3,.ref 1 0),(11,.is 5 (I Zb.g a.Heads)),(12,i64 (a.Heads.length:Int)),(13,i64 f)] [(1,.box (Ze.g b)),(0,.box (Ze.g a))])) (encE:=(fun|.inl _=>(rq [(4,bv false)] [(1,.box (Ze.g b)),(0,.box (Ze.g a))])|.inr _=>(xq 0 [] [(1,.box (Ze.g b)),(0,.box (Ze.g a))]))) (fun f=>?_) B64 0) fun c=>?_
 refine io ?_ (lf rfl)
 refine bo rg fun j=>?_
 refine bo (e:=id) ?_ fun i=>?_
 refine io ?_ (lf rfl)
 refine bo (e:=id) ?_ fun h=>?_
 refine io ?_ (lf rfl)
 refine bo (ok78_3 d b.Heads j) fun m=>?_
 exact lf rfl
 exact lf rfl
 refine io (lf rfl) (lf rfl)
 rcases c with _|_
 exact lf rfl
 exact lf rfl
def F82 (d:Zp) (b:Ze) (c:Zk):Option Bool:=
 (F83 b).bind fun e=>if !e then some false else(F84 c.s' d).bind fun⟨f,g⟩=>(F85 c.s' f).bind fun⟨h,j⟩=>((if !g then some true else(F86 b h).bind fun i=>some (!i):Option (Bool))).bind fun a=>some a
theorem ok82 {k} (d) (c:Zp) (a:Ze) (b:Zk):OD k (d+5) 82 [.agg (Zp.g c),.agg (Ze.g a),.ip [.ip (Zk.g b)]]=(F82 c a b).map (fun j=>bv j):=by
 rw[od (fn:=p82) rfl rfl rfl]
 refine bo (ok83 d a) fun l=>?_
 refine io (lf rfl) ?_
 refine bo (ok84 (d+1) b.s' c) fun⟨h,m⟩=>?_
 refine bo (ok85 (d+1) b.s' h) fun⟨i,n⟩=>?_
 refine bo (e:=id) ?_ fun f=>?_
 refine io (lf rfl) ?_
 refine bo (ok86 d a i) fun o=>?_
 exact lf rfl
 exact lf rfl
def Fn73_3 (u:List Zv) (s:Z0) (t:Int):Option (List Zv):=
 (aP (E:=List Zv) (fun(⟨c,m⟩:Int×(List Zv))=>if decide (c<(s.Measures.length:Int))then(lget s.Measures c).bind fun n=>(aP (E:=List Zv) (fun(⟨d,o⟩:Int×(List Zv))=>if decide (d<(n.Cells.length:Int))then(lget n.Cells d).bind fun p=>(aP (E:=List Zv) (fun(⟨e,q⟩:Int×(List Zv))=>if decide (e<(p.Voices.length:Int))then(lget p.Voices e).bind fun r=>(aP (E:=List Zv) (fun(⟨a,b⟩:Int×(List Zv))=>if decide (a<(r.Events.length:Int))then(lget r.Events a).bind fun f=>(F82 (Zp.mk 4 0 d c e a 0) f (Zk.mk s t b)).bind fun g=>(Fn57 g f.ID b s t).bind fun h=>some (.inl ((w64 (a+1)),h))else some (.inr b)) B64 (0,q)).bind fun i=>some (.inl ((w64 (e+1)),i))else some (.inr q)) B64 (0,o)).bind fun j=>some (.inl ((w64 (d+1)),j))else some (.inr o)) B64 (0,m)).bind fun k=>some (.inl ((w64 (c+1)),k))else some (.inr m)) B64 (0,u)).bind fun l=>some l
theorem okn73_3 {k} (d) (x:List Zv) (c:Z0) (i:Int):runR (XD k (d+6)) 73 [.ref 1 0,.fn 82 [] [.ref 3 0]] [(3,.box [.ref 1 0]),(2,.lst 119 3 false (I Zv.g x)),(1,.box (ck c i (.own 2)))] 4 false=(Fn73_3 x c i).map (fun(w:List Zv)=>((.tup [],[(3,.box [.ref 1 0]),(2,.lst 119 3 false (I Zv.g w)),(1,.box (ck c i (.own 2)))],0))):=by
 rw[xd (fn:=p73) rfl]
 refine bz lm ?_
 refine bo (aG (S:=Int×(List Zv)) (enc:=fun⟨b,s⟩=>(Q [(0,.ref 1 0),(1,.fn 82 [] [.ref 3 0]),(16,.is 22 (I Zm.g c.Measures)),(17,i64 (c.Measures.length:Int)),(18,i64 b)] [(3,.box [.ref 1 0]),(2,.lst 119 3 false (I Zv.g s)),(1,.box (ck c i (.own 2)))])) (encE:=(fun(r:List Zv)=>(xq 0 [] [(3,.box [.ref 1 0]),(2,.lst 119 3 false (I Zv.g r)),(1,.box (ck c i (.own 2)))]))) (fun⟨b,s⟩=>?_) B64 (0,x)) fun r=>?_
 refine io ?_ (lf rfl)
 refine bo rg fun a=>?_
 refine bz lm ?_
 refine bo (aG (S:=Int×(List Zv)) (enc:=fun⟨e,t⟩=>(Q [(0,.ref 1 0),(1,.fn 82 [] [.ref 3 0]),(4,i64 b),(16,.is 22 (I Zm.g c.Measures)),(17,i64 (c.Measures.length:Int)),(18,i64 b),(24,.is 2 (I Zw.g a.Cells)),(25,i64 (a.Cells.length:Int)),(26,i64 e)] [(4,.box (Zm.g a)),(3,.box [.ref 1 0]),(2,.lst 119 3 false (I Zv.g t)),(1,.box (ck c i (.own 2)))])) (encE:=(fun(q:List Zv)=>(xq 2 [(0,.ref 1 0),(1,.fn 82 [] [.ref 3 0]),(16,.is 22 (I Zm.g c.Measures)),(17,i64 (c.Measures.length:Int)),(18,i64 b)] [(4,.box (Zm.g a)),(3,.box [.ref 1 0]),(2,.lst 119 3 false (I Zv.g q)),(1,.box (ck c i (.own 2)))]))) (fun⟨e,t⟩=>?_) B64 (0,s)) fun q=>?_
 refine io ?_ (lf rfl)
 refine bo rg fun f=>?_
 refine bz lm ?_
 refine bo (aG (S:=Int×(List Zv)) (enc:=fun⟨j,u⟩=>(Q [(0,.ref 1 0),(1,.fn 82 [] [.ref 3 0]),(4,i64 b),(6,i64 e),(16,.is 22 (I Zm.g c.Measures)),(17,i64 (c.Measures.length:Int)),(18,i64 b),(24,.is 2 (I Zw.g a.Cells)),(25,i64 (a.Cells.length:Int)),(26,i64 e),(32,.is 2 (I Zo.g f.Voices)),(33,i64 (f.Voices.length:Int)),(34,i64 j)] [(5,.box (Zw.g f)),(4,.box (Zm.g a)),(3,.box [.ref 1 0]),(2,.lst 119 3 false (I Zv.g u)),(1,.box (ck c i (.own 2)))])) (encE:=(fun(p:List Zv)=>(xq 4 [(0,.ref 1 0),(1,.fn 82 [] [.ref 3 0]),(4,i64 b),(16,.is 22 (I Zm.g c.Measures)),(17,i64 (c.Measures.length:Int)),(18,i64 b),(24,.is 2 (I Zw.g a.Cells)),(25,i64 (a.Cells.length:Int)),(26,i64 e)] [(5,.box (Zw.g f)),(4,.box (Zm.g a)),(3,.box [.ref 1 0]),(2,.lst 119 3 false (I Zv.g p)),(1,.box (ck c i (.own 2)))]))) (fun⟨j,u⟩=>?_) B64 (0,t)) fun p=>?_
 refine io ?_ (lf rfl)
 refine bo rg fun m=>?_
 refine bz lm ?_
 refine bo (aG (S:=Int×(List Zv)) (enc:=fun⟨l,h⟩=>(Q [(0,.ref 1 0),(1,.fn 82 [] [.ref 3 0]),(4,i64 b),(6,i64 e),(8,i64 j),(16,.is 22 (I Zm.g c.Measures)),(17,i64 (c.Measures.length:Int)),(18,i64 b),(24,.is 2 (I Zw.g a.Cells)),(25,i64 (a.Cells.length:Int)),(26,i64 e),(32,.is 2 (I Zo.g f.Voices)),(33,i64 (f.Voices.length:Int)),(34,i64 j),(40,.is 13 (I Ze.g m.Events)),(41,i64 (m.Events.length:Int)),(42,i64 l)] [(6,.box (Zo.g m)),(5,.box (Zw.g f)),(4,.box (Zm.g a)),(3,.box [.ref 1 0]),(2,.lst 119 3 false (I Zv.g h)),(1,.box (ck c i (.own 2)))])) (encE:=(fun(o:List Zv)=>(xq 6 [(0,.ref 1 0),(1,.fn 82 [] [.ref 3 0]),(4,i64 b),(6,i64 e),(16,.is 22 (I Zm.g c.Measures)),(17,i64 (c.Measures.length:Int)),(18,i64 b),(24,.is 2 (I Zw.g a.Cells)),(25,i64 (a.Cells.length:Int)),(26,i64 e),(32,.is 2 (I Zo.g f.Voices)),(33,i64 (f.Voices.length:Int)),(34,i64 j)] [(6,.box (Zo.g m)),(5,.box (Zw.g f)),(4,.box (Zm.g a)),(3,.box [.ref 1 0]),(2,.lst 119 3 false (I Zv.g o)),(1,.box (ck c i (.own 2)))]))) (fun⟨l,h⟩=>?_) B64 (0,u)) fun o=>?_
 refine io ?_ (lf rfl)
 refine bo rg fun n=>?_
 refine bo (ok82 d (Zp.mk 4 0 e b j l 0) n (Zk.mk c i h)) fun v=>?_
 refine bo (okn57 (d+4) v n.ID h c i) fun y=>?_
 exact lf rfl
 exact lf rfl
 exact lf rfl
 exact lf rfl
 exact lf rfl
end Go.P
namespace Go.P
open Go.Sim (Ex OpK CK)
open K (I Q rq nq xq ck)
def Fn43 (a:List Zv) (b:Z0) (c:Int):Option (List Zv):=
 (Fn73_3 a b c).bind fun d=>some d
theorem okn43 {k} (d) (c:List Zv) (a:Z0) (b:Int):runR (XD k (d+7)) 43 [.ref 1 0] [(2,.lst 119 3 false (I Zv.g c)),(1,.box (ck a b (.own 2)))] 3 false=(Fn43 c a b).map (fun(e:List Zv)=>((.tup [],[(2,.lst 119 3 false (I Zv.g e)),(1,.box (ck a b (.own 2)))],0))):=by
 rw[xd (fn:=p43) rfl]
 refine bo (okn73_3 d c a b) fun f=>?_
 exact lf rfl
def F137 (a:Ze) (b:Int):Option Bool:=
 ((if decide (b>=(a.Lyrics.length:Int))then some true else(lget a.Lyrics b).bind fun c=>some (((c.Text==(⟨#[]⟩:ByteArray))&&((c.Link==0)&&true))!=false):Option (Bool))).bind fun d=>some d
theorem ok137 {k} (d) (a:Ze) (b:Int):OD k (d+1) 137 [.agg (Ze.g a),i64 b]=(F137 a b).map (fun c=>bv c):=by
 rw[od (fn:=p137) rfl rfl rfl]
 refine bz lm ?_
 refine bo (e:=id) ?_ fun h=>?_
 refine io (lf rfl) ?_
 refine bo rg fun f=>?_
 exact lf rfl
 exact lf rfl
def Fn87 (v P U:Int) (W:List (Zp×Bool)) (X:List Zv) (V:Z0) (Y:Int):Option (List (Zp×Bool)):=
 (aP (E:=Int×Int×Int×Int×Int×Zy×(List (Zp×Bool))) (fun(⟨e,n,o,p,q,r,s,t⟩:Int×Int×Int×Int×Int×Int×Zy×(List (Zp×Bool)))=>if decide (e<(V.Measures.length:Int))then(lget V.Measures e).bind fun u=>((if decide (v>=(u.Cells.length:Int))then some true else(lget u.Cells v).bind fun R=>some (decide (P>=(R.Voices.length:Int))):Option (Bool))).bind fun S=>if S then some (.inl ((w64 (e+1)),n,o,p,q,r,s,t))else(lget u.Cells v).bind fun T=>(lget T.Voices P).bind fun O=>(aP (E:=Int×Int×Int×Int×Int×Zy×(List (Zp×Bool))) (fun(⟨a,f,g,h,i,j,b,c⟩:Int×Int×Int×Int×Int×Int×Zy×(List (Zp×Bool)))=>if decide (a<(O.Events.length:Int))then(lget O.Events a).bind fun k=>(F137 k U).bind fun w=>if w then some (.inl ((w64 (a+1)),f,g,h,i,j,b,c))else(lget k.Lyrics U).bind fun d=>((if(b.Link==1)&&(d.Text.toList==(⟨#[]⟩:ByteArray).toList)then some (mput c (Zp.mk f 0 g h i j 0) true)else some c:Option (List (Zp×Bool)))).bind fun l=>((if((d.Text.toList==(⟨#[]⟩:ByteArray).toList)&&(d.Link==2))&&(b.Link !=2)then some (mput l (Zp.mk 4 0 v e P a 0) true)else some l:Option (List (Zp×Bool)))).bind fun x=>some (.inl ((w64 (a+1)),4,v,e,P,a,d,x))else some (.inr (f,g,h,i,j,b,c))) B64 (0,n,o,p,q,r,s,t)).bind fun⟨y,z,A,B,C,D,F⟩=>some (.inl ((w64 (e+1)),y,z,A,B,C,D,F))else some (.inr (n,o,p,q,r,s,t))) B64 (0,0,0,0,0,0,(Zy.mk (⟨#[]⟩:ByteArray) 0),W)).bind fun⟨G,H,J,K,L,M,m⟩=>((if M.Link==1 then some (mput m (Zp.mk G 0 H J K L 0) true)else some m:Option (List (Zp×Bool)))).bind fun N=>some N
theorem okn87 {k} (d) (y z O:Int) (Z:List (Zp×Bool)) (A:List Zv) (c:Z0) (B:Int):runR (XD k (d+2)) 87 [.ref 1 0,i64 y,i64 z,i64 O,.map 3] [(3,.mp (I (mEnt (eA Zp.g) bv) Z)),(2,.lst 119 3 false (I Zv.g A)),(1,.box (ck c B (.own 2)))] 4 false=(Fn87 y z O Z A c B).map (fun(Y:List (Zp×Bool))=>((.tup [],[(3,.mp (I (mEnt (eA Zp.g) bv) Y)),(2,.lst 119 3 false (I Zv.g A)),(1,.box (ck c B (.own 2)))],0))):=by
 rw[xd (fn:=p87) rfl]
 refine bz lm ?_
 refine bo (aG (S:=Int×Int×Int×Int×Int×Int×Zy×(List (Zp×Bool))) (enc:=fun⟨a,P,R,T,U,V,W,X⟩=>(Q [(1,i64 y),(2,i64 z),(3,i64 O),(4,.map 3),(10,.ref 4 0),(11,.ref 5 0),(22,.is 22 (I Zm.g c.Measures)),(23,i64 (c.Measures.length:Int)),(24,i64 a)] [(5,.box [i64 P,i64 0,i64 R,i64 T,i64 U,i64 V,i64 0]),(4,.box (Zy.g W)),(3,.mp (I (mEnt (eA Zp.g) bv) X)),(2,.lst 119 3 false (I Zv.g A)),(1,.box (ck c B (.own 2)))])) (encE:=(fun(⟨n,o,p,q,r,w,x⟩:Int×Int×Int×Int×Int×Zy×(List (Zp×Bool)))=>(xq 0 [(4,.map 3),(10,.ref 4 0),(11,.ref 5 0)] [(5,.box [i64 n,i64 0,i64 o,i64 p,i64 q,i64 r,i64 0]),(4,.box (Zy.g w)),(3,.mp (I (mEnt (eA Zp.g) bv) x)),(2,.lst 119 3 false (I Zv.g A)),(1,.box (ck c B (.own 2)))]))) (fun⟨a,P,R,T,U,V,W,X⟩=>?_) B64 (0,0,0,0,0,0,(Zy.mk (⟨#[]⟩:ByteArray) 0),Z)) fun⟨n,o,p,q,r,w,x⟩=>?_
 refine io ?_ (lf rfl)
 refine bo rg fun C=>?_
 refine bz lm ?_
 refine bo (e:=id) ?_ fun b4=>?_
 refine io (lf rfl) ?_
 refine bo rg fun b0=>?_
 refine bz lm ?_
 exact lf rfl
 refine io (lf rfl) ?_
 refine bo rg fun b5=>?_
 refine bo rg fun s=>?_
 refine bz lm ?_
 refine bo (aG (S:=Int×Int×Int×Int×Int×Int×Zy×(List (Zp×Bool))) (enc:=fun⟨b,f,h,i,j,l,m,t⟩=>(Q [(1,i64 y),(2,i64 z),(3,i64 O),(4,.map 3),(10,.ref 4 0),(11,.ref 5 0),(12,i64 a),(22,.is 22 (I Zm.g c.Measures)),(23,i64 (c.Measures.length:Int)),(24,i64 a),(54,.is 13 (I Ze.g s.Events)),(55,i64 (s.Events.length:Int)),(56,i64 b)] [(6,.box (Zm.g C)),(5,.box [i64 f,i64 0,i64 h,i64 i,i64 j,i64 l,i64 0]),(4,.box (Zy.g m)),(3,.mp (I (mEnt (eA Zp.g) bv) t)),(2,.lst 119 3 false (I Zv.g A)),(1,.box (ck c B (.own 2)))])) (encE:=(fun(⟨F,G,H,J,K,L,M⟩:Int×Int×Int×Int×Int×Zy×(List (Zp×Bool)))=>(xq 2 [(1,i64 y),(2,i64 z),(3,i64 O),(4,.map 3),(10,.ref 4 0),(11,.ref 5 0),(22,.is 22 (I Zm.g c.Measures)),(23,i64 (c.Measures.length:Int)),(24,i64 a)] [(6,.box (Zm.g C)),(5,.box [i64 F,i64 0,i64 G,i64 H,i64 J,i64 K,i64 0]),(4,.box (Zy.g L)),(3,.mp (I (mEnt (eA Zp.g) bv) M)),(2,.lst 119 3 false (I Zv.g A)),(1,.box (ck c B (.own 2)))]))) (fun⟨b,f,h,i,j,l,m,t⟩=>?_) B64 (0,P,R,T,U,V,W,X)) fun⟨F,G,H,J,K,L,M⟩=>?_
 refine io ?_ (lf rfl)
 refine bo rg fun u=>?_
 refine bo (ok137 d u O) fun a0=>?_
 refine io (lf rfl) ?_
 refine bo rg fun D=>?_
 refine bz (gand rfl) ?_
 refine bo (e:=(fun(v:List (Zp×Bool))=>(nq [(1,i64 y),(2,i64 z),(3,i64 O),(4,.map 3),(10,.ref 4 0),(11,.ref 5 0),(12,i64 a),(16,.ref 8 0),(17,.ref 9 0),(22,.is 22 (I Zm.g c.Measures)),(23,i64 (c.Measures.length:Int)),(24,i64 a),(54,.is 13 (I Ze.g s.Events)),(55,i64 (s.Events.length:Int)),(56,i64 b)] [(9,.box (Zy.g D)),(8,.box [i64 4,i64 0,i64 y,i64 a,i64 z,i64 b,i64 0]),(7,.box (Ze.g u)),(6,.box (Zm.g C)),(5,.box [i64 f,i64 0,i64 h,i64 i,i64 j,i64 l,i64 0]),(4,.box (Zy.g m)),(3,.mp (I (mEnt (eA Zp.g) bv) v)),(2,.lst 119 3 false (I Zv.g A)),(1,.box (ck c B (.own 2)))]))) ?_ fun v=>?_
 refine io ?_ (lf rfl)
 refine bz (iJ dM bv t (Zp.mk f 0 h i j l 0) true) ?_
 exact lf rfl
 refine bz (gand rfl) ?_
 refine bz (gand rfl) ?_
 refine bo (e:=(fun(E:List (Zp×Bool))=>(nq [(1,i64 y),(2,i64 z),(3,i64 O),(4,.map 3),(10,.ref 4 0),(11,.ref 5 0),(12,i64 a),(16,.ref 8 0),(17,.ref 9 0),(22,.is 22 (I Zm.g c.Measures)),(23,i64 (c.Measures.length:Int)),(24,i64 a),(54,.is 13 (I Ze.g s.Events)),(55,i64 (s.Events.length:Int)),(56,i64 b)] [(9,.box (Zy.g D)),(8,.box [i64 4,i64 0,i64 y,i64 a,i64 z,i64 b,i64 0]),(7,.box (Ze.g u)),(6,.box (Zm.g C)),(5,.box [i64 f,i64 0,i64 h,i64 i,i64 j,i64 l,i64 0]),(4,.box (Zy.g m)),(3,.mp (I (mEnt (eA Zp.g) bv) E)),(2,.lst 119 3 false (I Zv.g A)),(1,.box (ck c B (.own 2)))]))) ?_ fun E=>?_
 refine io ?_ (lf rfl)
 refine bz (iJ dM bv v (Zp.mk 4 0 y a z b 0) true) ?_
 exact lf rfl
 exact lf rfl
 exact lf rfl
 refine bo (e:=(fun(N:List (Zp×Bool))=>(nq [] [(5,.box [i64 n,i64 0,i64 o,i64 p,i64 q,i64 r,i64 0]),(4,.box (Zy.g w)),(3,.mp (I (mEnt (eA Zp.g) bv) N)),(2,.lst 119 3 false (I Zv.g A)),(1,.box (ck c B (.own 2)))]))) ?_ fun N=>?_
 refine io ?_ (lf rfl)
 refine bz (iJ dM bv x (Zp.mk n 0 o p q r 0) true) ?_
 exact lf rfl
 exact lf rfl
def F88 (a:Zp) (c:Ze) (b:List (Zp×Bool)):Option Bool:=
 some (mget b a false)
theorem ok88 {k} (d) (a:Zp) (c:Ze) (b:List (Zp×Bool)):OD k (d+1) 88 [.agg (Zp.g a),.agg (Ze.g c),.ip [.im (I (mEnt (eA Zp.g) bv) b)]]=(F88 a c b).map (fun e=>bv e):=by
 rw[od (fn:=p88) rfl rfl rfl]
 refine bz (pN dM bv b a false) ?_
 exact lf rfl
def Fn73_4 (t:List (Zp×Bool)) (u:List Zv) (s:Z0) (v:Int):Option (List Zv):=
 (aP (E:=List Zv) (fun(⟨b,m⟩:Int×(List Zv))=>if decide (b<(s.Measures.length:Int))then(lget s.Measures b).bind fun n=>(aP (E:=List Zv) (fun(⟨c,o⟩:Int×(List Zv))=>if decide (c<(n.Cells.length:Int))then(lget n.Cells c).bind fun p=>(aP (E:=List Zv) (fun(⟨d,q⟩:Int×(List Zv))=>if decide (d<(p.Voices.length:Int))then(lget p.Voices d).bind fun r=>(aP (E:=List Zv) (fun(⟨a,e⟩:Int×(List Zv))=>if decide (a<(r.Events.length:Int))then(lget r.Events a).bind fun f=>(F88 (Zp.mk 4 0 c b d a 0) f t).bind fun g=>(Fn57 g f.ID e s v).bind fun h=>some (.inl ((w64 (a+1)),h))else some (.inr e)) B64 (0,q)).bind fun i=>some (.inl ((w64 (d+1)),i))else some (.inr q)) B64 (0,o)).bind fun j=>some (.inl ((w64 (c+1)),j))else some (.inr o)) B64 (0,m)).bind fun k=>some (.inl ((w64 (b+1)),k))else some (.inr m)) B64 (0,u)).bind fun l=>some l
theorem okn73_4 {k} (d) (i:List (Zp×Bool)) (y:List Zv) (c:Z0) (j:Int):runR (XD k (d+2)) 73 [.ref 1 0,.fn 88 [] [.ref 4 0]] [(4,.box [.map 3]),(3,.mp (I (mEnt (eA Zp.g) bv) i)),(2,.lst 119 3 false (I Zv.g y)),(1,.box (ck c j (.own 2)))] 5 false=(Fn73_4 i y c j).map (fun(x:List Zv)=>((.tup [],[(4,.box [.map 3]),(3,.mp (I (mEnt (eA Zp.g) bv) i)),(2,.lst 119 3 false (I Zv.g x)),(1,.box (ck c j (.own 2)))],0))):=by
 rw[xd (fn:=p73) rfl]
 refine bz lm ?_
 refine bo (aG (S:=Int×(List Zv)) (enc:=fun⟨b,t⟩=>(Q [(0,.ref 1 0),(1,.fn 88 [] [.ref 4 0]),(16,.is 22 (I Zm.g c.Measures)),(17,i64 (c.Measures.length:Int)),(18,i64 b)] [(4,.box [.map 3]),(3,.mp (I (mEnt (eA Zp.g) bv) i)),(2,.lst 119 3 false (I Zv.g t)),(1,.box (ck c j (.own 2)))])) (encE:=(fun(s:List Zv)=>(xq 0 [] [(4,.box [.map 3]),(3,.mp (I (mEnt (eA Zp.g) bv) i)),(2,.lst 119 3 false (I Zv.g s)),(1,.box (ck c j (.own 2)))]))) (fun⟨b,t⟩=>?_) B64 (0,y)) fun s=>?_
 refine io ?_ (lf rfl)
 refine bo rg fun a=>?_
 refine bz lm ?_
 refine bo (aG (S:=Int×(List Zv)) (enc:=fun⟨e,u⟩=>(Q [(0,.ref 1 0),(1,.fn 88 [] [.ref 4 0]),(4,i64 b),(16,.is 22 (I Zm.g c.Measures)),(17,i64 (c.Measures.length:Int)),(18,i64 b),(24,.is 2 (I Zw.g a.Cells)),(25,i64 (a.Cells.length:Int)),(26,i64 e)] [(5,.box (Zm.g a)),(4,.box [.map 3]),(3,.mp (I (mEnt (eA Zp.g) bv) i)),(2,.lst 119 3 false (I Zv.g u)),(1,.box (ck c j (.own 2)))])) (encE:=(fun(r:List Zv)=>(xq 2 [(0,.ref 1 0),(1,.fn 88 [] [.ref 4 0]),(16,.is 22 (I Zm.g c.Measures)),(17,i64 (c.Measures.length:Int)),(18,i64 b)] [(5,.box (Zm.g a)),(4,.box [.map 3]),(3,.mp (I (mEnt (eA Zp.g) bv) i)),(2,.lst 119 3 false (I Zv.g r)),(1,.box (ck c j (.own 2)))]))) (fun⟨e,u⟩=>?_) B64 (0,t)) fun r=>?_
 refine io ?_ (lf rfl)
 refine bo rg fun f=>?_
 refine bz lm ?_
 refine bo (aG (S:=Int×(List Zv)) (enc:=fun⟨h,v⟩=>(Q [(0,.ref 1 0),(1,.fn 88 [] [.ref 4 0]),(4,i64 b),(6,i64 e),(16,.is 22 (I Zm.g c.Measures)),(17,i64 (c.Measures.length:Int)),(18,i64 b),(24,.is 2 (I Zw.g a.Cells)),(25,i64 (a.Cells.length:Int)),(26,i64 e),(32,.is 2 (I Zo.g f.Voices)),(33,i64 (f.Voices.length:Int)),(34,i64 h)] [(6,.box (Zw.g f)),(5,.box (Zm.g a)),(4,.box [.map 3]),(3,.mp (I (mEnt (eA Zp.g) bv) i)),(2,.lst 119 3 false (I Zv.g v)),(1,.box (ck c j (.own 2)))])) (encE:=(fun(q:List Zv)=>(xq 4 [(0,.ref 1 0),(1,.fn 88 [] [.ref 4 0]),(4,i64 b),(16,.is 22 (I Zm.g c.Measures)),(17,i64 (c.Measures.length:Int)),(18,i64 b),(24,.is 2 (I Zw.g a.Cells)),(25,i64 (a.Cells.length:Int)),(26,i64 e)] [(6,.box (Zw.g f)),(5,.box (Zm.g a)),(4,.box [.map 3]),(3,.mp (I (mEnt (eA Zp.g) bv) i)),(2,.lst 119 3 false (I Zv.g q)),(1,.box (ck c j (.own 2)))]))) (fun⟨h,v⟩=>?_) B64 (0,u)) fun q=>?_
 refine io ?_ (lf rfl)
 refine bo rg fun n=>?_
 refine bz lm ?_
 refine bo (aG (S:=Int×(List Zv)) (enc:=fun⟨l,m⟩=>(Q [(0,.ref 1 0),(1,.fn 88 [] [.ref 4 0]),(4,i64 b),(6,i64 e),(8,i64 h),(16,.is 22 (I Zm.g c.Measures)),(17,i64 (c.Measures.length:Int)),(18,i64 b),(24,.is 2 (I Zw.g a.Cells)),(25,i64 (a.Cells.length:Int)),(26,i64 e),(32,.is 2 (I Zo.g f.Voices)),(33,i64 (f.Voices.length:Int)),(34,i64 h),(40,.is 13 (I Ze.g n.Events)),(41,i64 (n.Events.length:Int)),(42,i64 l)] [(7,.box (Zo.g n)),(6,.box (Zw.g f)),(5,.box (Zm.g a)),(4,.box [.map 3]),(3,.mp (I (mEnt (eA Zp.g) bv) i)),(2,.lst 119 3 false (I Zv.g m)),(1,.box (ck c j (.own 2)))])) (encE:=(fun(p:List Zv)=>(xq 6 [(0,.ref 1 0),(1,.fn 88 [] [.ref 4 0]),(4,i64 b),(6,i64 e),(16,.is 22 (I Zm.g c.Measures)),(17,i64 (c.Measures.length:Int)),(18,i64 b),(24,.is 2 (I Zw.g a.Cells)),(25,i64 (a.Cells.length:Int)),(26,i64 e),(32,.is 2 (I Zo.g f.Voices)),(33,i64 (f.Voices.length:Int)),(34,i64 h)] [(7,.box (Zo.g n)),(6,.box (Zw.g f)),(5,.box (Zm.g a)),(4,.box [.map 3]),(3,.mp (I (mEnt (eA Zp.g) bv) i)),(2,.lst 119 3 false (I Zv.g p)),(1,.box (ck c j (.own 2)))]))) (fun⟨l,m⟩=>?_) B64 (0,v)) fun p=>?_
 refine io ?_ (lf rfl)
 refine bo rg fun o=>?_
 refine bo (ok88 d (Zp.mk 4 0 e b h l 0) o i) fun w=>?_
 refine bo (okn57 d w o.ID m c j) fun z=>?_
 exact lf rfl
 exact lf rfl
 exact lf rfl
 exact lf rfl
 exact lf rfl
def Fn44 (m:List Zv) (g:Z0) (n:Int):Option (List Zv):=
 (F21 g).bind fun o=>(aP (E:=List (Zp×Bool)) (fun(⟨a,d⟩:Int×(List (Zp×Bool)))=>if decide (a<o)then(aP (E:=List (Zp×Bool)) (fun(⟨b,e⟩:Int×(List (Zp×Bool)))=>if decide (b<2)then(aP (E:=List (Zp×Bool)) (fun(⟨c,f⟩:Int×(List (Zp×Bool)))=>if decide (c<4)then(Fn87 a b c f m g n).bind fun h=>some (.inl ((w64 (c+1)),h))else some (.inr f)) B64 (0,e)).bind fun i=>some (.inl ((w64 (b+1)),i))else some (.inr e)) B64 (0,d)).bind fun j=>some (.inl ((w64 (a+1)),j))else some (.inr d)) B64 (0,[])).bind fun k=>(Fn73_4 k m g n).bind fun l=>some l
theorem okn44 {k} (d) (f:List Zv) (c:Z0) (e:Int):runR (XD k (d+3)) 44 [.ref 1 0] [(2,.lst 119 3 false (I Zv.g f)),(1,.box (ck c e (.own 2)))] 3 false=(Fn44 f c e).map (fun(q:List Zv)=>((.tup [],[(2,.lst 119 3 false (I Zv.g q)),(1,.box (ck c e (.own 2)))],0))):=by
 rw[xd (fn:=p44) rfl]
 refine bo (ok21 (d+1) c) fun p=>?_
 refine bo (aG (S:=Int×(List (Zp×Bool))) (enc:=fun⟨a,h⟩=>(Q [(0,.ref 1 0),(2,.ref 4 0),(13,i64 p),(14,i64 a)] [(4,.box [.map 3]),(3,.mp (I (mEnt (eA Zp.g) bv) h)),(2,.lst 119 3 false (I Zv.g f)),(1,.box (ck c e (.own 2)))])) (encE:=(fun(m:List (Zp×Bool))=>(xq 0 [(0,.ref 1 0),(2,.ref 4 0)] [(4,.box [.map 3]),(3,.mp (I (mEnt (eA Zp.g) bv) m)),(2,.lst 119 3 false (I Zv.g f)),(1,.box (ck c e (.own 2)))]))) (fun⟨a,h⟩=>?_) B64 (0,[])) fun m=>?_
 refine io ?_ (lf rfl)
 refine bo (aG (S:=Int×(List (Zp×Bool))) (enc:=fun⟨b,i⟩=>(Q [(0,.ref 1 0),(2,.ref 4 0),(4,i64 a),(13,i64 p),(14,i64 a),(17,i64 b)] [(4,.box [.map 3]),(3,.mp (I (mEnt (eA Zp.g) bv) i)),(2,.lst 119 3 false (I Zv.g f)),(1,.box (ck c e (.own 2)))])) (encE:=(fun(o:List (Zp×Bool))=>(xq 2 [(0,.ref 1 0),(2,.ref 4 0),(13,i64 p),(14,i64 a)] [(4,.box [.map 3]),(3,.mp (I (mEnt (eA Zp.g) bv) o)),(2,.lst 119 3 false (I Zv.g f)),(1,.box (ck c e (.own 2)))]))) (fun⟨b,i⟩=>?_) B64 (0,h)) fun o=>?_
 refine io ?_ (lf rfl)
 refine bo (aG (S:=Int×(List (Zp×Bool))) (enc:=fun⟨j,l⟩=>(Q [(0,.ref 1 0),(2,.ref 4 0),(4,i64 a),(5,i64 b),(13,i64 p),(14,i64 a),(17,i64 b),(20,i64 j)] [(4,.box [.map 3]),(3,.mp (I (mEnt (eA Zp.g) bv) l)),(2,.lst 119 3 false (I Zv.g f)),(1,.box (ck c e (.own 2)))])) (encE:=(fun(n:List (Zp×Bool))=>(xq 4 [(0,.ref 1 0),(2,.ref 4 0),(4,i64 a),(13,i64 p),(14,i64 a),(17,i64 b)] [(4,.box [.map 3]),(3,.mp (I (mEnt (eA Zp.g) bv) n)),(2,.lst 119 3 false (I Zv.g f)),(1,.box (ck c e (.own 2)))]))) (fun⟨j,l⟩=>?_) B64 (0,i)) fun n=>?_
 refine io ?_ (lf rfl)
 refine bo (okn87 d a b j l f c e) fun r=>?_
 exact lf rfl
 exact lf rfl
 exact lf rfl
 refine bo (okn73_4 d m f c e) fun s=>?_
 exact lf rfl
def Fn109_2 (a:Z0):Option Unit:=
 some ()
theorem okn109_2 {k} (d) (a:Z0):runR (XD k (d+1)) 109 [.ref 0 0] [(0,.box (Z0.g a))] 4 true=(Fn109_2 a).map (fun(_:Unit)=>((.fn 157 [] [.ref 4 0],[(4,.box [.ref 0 0]),(0,.box (Z0.g a))],5))):=by
 rw[xd (fn:=p109) rfl]
 exact lf rfl
def Fy173_13 (d e:Int) (f g:Int) (h i j:Int) (b:Zj) (k:Bool) (c:Zp) (a:Zz):Option (Unit⊕Unit):=
 if((b.ID.Site==a.Site)&&((b.ID.Number==a.Number)&&true))!=false then some (.inl ())else some (.inr ())
theorem oky173_13 {k} (d) (c e:Int) (f h:Int) (i j l:Int) (n:Zj) (m:Bool) (b:Zp) (a:Zz):yldR (XD k (d+1)) 5 [.agg [i64 c,i64 e,i64 f,i64 h,i64 i,i64 j,i64 l],.ip (Zj.g n)] [(5,.loop 22 [(3,.ref 1 0),(4,.ref 2 0),(5,.ref 3 0)] [13,14] q173_13a q173_13b false none),(3,.box [bv m]),(2,.box (Zp.g b)),(1,.box (Zz.g a))] 6=(Fy173_13 c e f h i j l n m b a).map (fun|.inl _=>((bv false,[(5,.loop 22 [(3,.ref 1 0),(4,.ref 2 0),(5,.ref 3 0)] [13,14] q173_13a q173_13b false (some .ret)),(3,.box [bv true]),(2,.box [i64 c,i64 e,i64 f,i64 h,i64 i,i64 j,i64 l]),(1,.box (Zz.g a))],0))|.inr _=>((bv true,[(5,.loop 22 [(3,.ref 1 0),(4,.ref 2 0),(5,.ref 3 0)] [13,14] q173_13a q173_13b false none),(3,.box [bv m]),(2,.box (Zp.g b)),(1,.box (Zz.g a))],0))):=by
 rw[yd]
 refine bz (okg fS) ?_
 refine io (lf rfl) (lf rfl)
def Fy173_13_2 (d e:Int) (f g:Int) (h i j:Int) (b:Zf) (k:Bool) (c:Zp) (a:Zz):Option (Unit⊕Unit):=
 if((b.ID.Site==a.Site)&&((b.ID.Number==a.Number)&&true))!=false then some (.inl ())else some (.inr ())
theorem oky173_13_2 {k} (d) (c e:Int) (f h:Int) (i j l:Int) (n:Zf) (m:Bool) (b:Zp) (a:Zz):yldR (XD k (d+1)) 5 [.agg [i64 c,i64 e,i64 f,i64 h,i64 i,i64 j,i64 l],.ip (Zf.g n)] [(5,.loop 22 [(3,.ref 1 0),(4,.ref 2 0),(5,.ref 3 0)] [13,14] q173_13a q173_13b false none),(3,.box [bv m]),(2,.box (Zp.g b)),(1,.box (Zz.g a))] 6=(Fy173_13_2 c e f h i j l n m b a).map (fun|.inl _=>((bv false,[(5,.loop 22 [(3,.ref 1 0),(4,.ref 2 0),(5,.ref 3 0)] [13,14] q173_13a q173_13b false (some .ret)),(3,.box [bv true]),(2,.box [i64 c,i64 e,i64 f,i64 h,i64 i,i64 j,i64 l]),(1,.box (Zz.g a))],0))|.inr _=>((bv true,[(5,.loop 22 [(3,.ref 1 0),(4,.ref 2 0),(5,.ref 3 0)] [13,14] q173_13a q173_13b false none),(3,.box [bv m]),(2,.box (Zp.g b)),(1,.box (Zz.g a))],0))):=by
 rw[yd]
 refine bz (okg fS) ?_
 refine io (lf rfl) (lf rfl)
def Fy173_13_3 (d e:Int) (f g:Int) (h i j:Int) (b:Zm) (k:Bool) (c:Zp) (a:Zz):Option (Unit⊕Unit):=
 if((b.ID.Site==a.Site)&&((b.ID.Number==a.Number)&&true))!=false then some (.inl ())else some (.inr ())
theorem oky173_13_3 {k} (d) (c e:Int) (f h:Int) (i j l:Int) (n:Zm) (m:Bool) (b:Zp) (a:Zz):yldR (XD k (d+1)) 5 [.agg [i64 c,i64 e,i64 f,i64 h,i64 i,i64 j,i64 l],.ip (Zm.g n)] [(5,.loop 22 [(3,.ref 1 0),(4,.ref 2 0),(5,.ref 3 0)] [13,14] q173_13a q173_13b false none),(3,.box [bv m]),(2,.box (Zp.g b)),(1,.box (Zz.g a))] 6=(Fy173_13_3 c e f h i j l n m b a).map (fun|.inl _=>((bv false,[(5,.loop 22 [(3,.ref 1 0),(4,.ref 2 0),(5,.ref 3 0)] [13,14] q173_13a q173_13b false (some .ret)),(3,.box [bv true]),(2,.box [i64 c,i64 e,i64 f,i64 h,i64 i,i64 j,i64 l]),(1,.box (Zz.g a))],0))|.inr _=>((bv true,[(5,.loop 22 [(3,.ref 1 0),(4,.ref 2 0),(5,.ref 3 0)] [13,14] q173_13a q173_13b false none),(3,.box [bv m]),(2,.box (Zp.g b)),(1,.box (Zz.g a))],0))):=by
 rw[yd]
 refine bz (okg fS) ?_
 refine io (lf rfl) (lf rfl)
def Fy173_13_4 (d e:Int) (f g:Int) (h i j:Int) (b:Ze) (k:Bool) (c:Zp) (a:Zz):Option (Unit⊕Unit):=
 if((b.ID.Site==a.Site)&&((b.ID.Number==a.Number)&&true))!=false then some (.inl ())else some (.inr ())
theorem oky173_13_4 {k} (d) (c e:Int) (f h:Int) (i j l:Int) (n:Ze) (m:Bool) (b:Zp) (a:Zz):yldR (XD k (d+1)) 5 [.agg [i64 c,i64 e,i64 f,i64 h,i64 i,i64 j,i64 l],.ip (Ze.g n)] [(5,.loop 22 [(3,.ref 1 0),(4,.ref 2 0),(5,.ref 3 0)] [13,14] q173_13a q173_13b false none),(3,.box [bv m]),(2,.box (Zp.g b)),(1,.box (Zz.g a))] 6=(Fy173_13_4 c e f h i j l n m b a).map (fun|.inl _=>((bv false,[(5,.loop 22 [(3,.ref 1 0),(4,.ref 2 0),(5,.ref 3 0)] [13,14] q173_13a q173_13b false (some .ret)),(3,.box [bv true]),(2,.box [i64 c,i64 e,i64 f,i64 h,i64 i,i64 j,i64 l]),(1,.box (Zz.g a))],0))|.inr _=>((bv true,[(5,.loop 22 [(3,.ref 1 0),(4,.ref 2 0),(5,.ref 3 0)] [13,14] q173_13a q173_13b false none),(3,.box [bv m]),(2,.box (Zp.g b)),(1,.box (Zz.g a))],0))):=by
 rw[yd]
 refine bz (okg fS) ?_
 refine io (lf rfl) (lf rfl)
def Fy173_13_5 (d e:Int) (f g:Int) (h i j:Int) (b:Zn) (k:Bool) (c:Zp) (a:Zz):Option (Unit⊕Unit):=
 if((b.ID.Site==a.Site)&&((b.ID.Number==a.Number)&&true))!=false then some (.inl ())else some (.inr ())
theorem oky173_13_5 {k} (d) (c e:Int) (f h:Int) (i j l:Int) (n:Zn) (m:Bool) (b:Zp) (a:Zz):yldR (XD k (d+1)) 5 [.agg [i64 c,i64 e,i64 f,i64 h,i64 i,i64 j,i64 l],.ip (Zn.g n)] [(5,.loop 22 [(3,.ref 1 0),(4,.ref 2 0),(5,.ref 3 0)] [13,14] q173_13a q173_13b false none),(3,.box [bv m]),(2,.box (Zp.g b)),(1,.box (Zz.g a))] 6=(Fy173_13_5 c e f h i j l n m b a).map (fun|.inl _=>((bv false,[(5,.loop 22 [(3,.ref 1 0),(4,.ref 2 0),(5,.ref 3 0)] [13,14] q173_13a q173_13b false (some .ret)),(3,.box [bv true]),(2,.box [i64 c,i64 e,i64 f,i64 h,i64 i,i64 j,i64 l]),(1,.box (Zz.g a))],0))|.inr _=>((bv true,[(5,.loop 22 [(3,.ref 1 0),(4,.ref 2 0),(5,.ref 3 0)] [13,14] q173_13a q173_13b false none),(3,.box [bv m]),(2,.box (Zp.g b)),(1,.box (Zz.g a))],0))):=by
 rw[yd]
 refine bz (okg fS) ?_
 refine io (lf rfl) (lf rfl)
def Fn157_2 (g:Z0) (v:Bool) (F:Zp) (G:Zz):Option (Zp⊕Unit):=
 (aP (E:=(Int×Int×Int)⊕Unit) (fun(⟨H,f⟩:Int×Int)=>if decide (f<(g.Parts.length:Int))then(lget g.Parts f).bind fun J=>(Fy173_13 1 f 0 0 0 0 0 J v F G).bind fun K=>(match K with|.inl _=>some (.inr (.inl (1,f,0)))|.inr _=>(lget g.Parts f).bind fun L=>(aP (E:=(Int×Int)⊕Int) (fun(⟨h,i⟩:Int×Int)=>if decide (i<(L.Staves.length:Int))then(lget g.Parts f).bind fun M=>(lget M.Staves i).bind fun N=>(Fy173_13_2 2 0 h 0 0 0 0 N v F G).bind fun O=>(match O with|.inl _=>some (.inr (.inl (h,h)))|.inr _=>some (.inl ((w64 (h+1)),(w64 (i+1)))))else some (.inr (.inr h))) B64 (H,0)).bind fun P=>(match P with|.inl ⟨x33,x34⟩=>some (.inr (.inl (2,0,x34)))|.inr x35=>some (.inl (x35,(w64 (f+1))))))else some (.inr (.inr ()))) B64 (0,0)).bind fun R=>(match R with|.inl ⟨x37,x38,x39⟩=>some (.inl (Zp.mk x37 x38 x39 0 0 0 0))|.inr _=>(aP (E:=(Int×Int×Int×Int×Int)⊕Unit) (fun(a:Int)=>if decide (a<(g.Measures.length:Int))then(lget g.Measures a).bind fun j=>(Fy173_13_3 3 0 0 a 0 0 0 j v F G).bind fun k=>(match k with|.inl _=>some (.inr (.inl (3,0,a,0,0)))|.inr _=>(lget g.Measures a).bind fun l=>(aP (E:=(Int×Int×Int)⊕Unit) (fun(b:Int)=>if decide (b<(l.Cells.length:Int))then(lget g.Measures a).bind fun m=>(lget m.Cells b).bind fun n=>(aP (E:=(Int×Int)⊕Unit) (fun(c:Int)=>if decide (c<(n.Voices.length:Int))then(lget g.Measures a).bind fun o=>(lget o.Cells b).bind fun p=>(lget p.Voices c).bind fun q=>(aP (E:=Int⊕Unit) (fun(d:Int)=>if decide (d<(q.Events.length:Int))then(lget g.Measures a).bind fun r=>(lget r.Cells b).bind fun s=>(lget s.Voices c).bind fun t=>(lget t.Events d).bind fun u=>(Fy173_13_4 4 0 b a c d 0 u v F G).bind fun w=>(match w with|.inl _=>some (.inr (.inl d))|.inr _=>some (.inl (w64 (d+1))))else some (.inr (.inr ()))) B64 0).bind fun x=>(match x with|.inl x201=>some (.inr (.inl (c,x201)))|.inr _=>some (.inl (w64 (c+1))))else some (.inr (.inr ()))) B64 0).bind fun y=>(match y with|.inl ⟨x203,x204⟩=>some (.inr (.inl (b,x203,x204)))|.inr _=>some (.inl (w64 (b+1))))else some (.inr (.inr ()))) B64 0).bind fun z=>(match z with|.inl ⟨x206,x207,x208⟩=>some (.inr (.inl (4,x206,a,x207,x208)))|.inr _=>some (.inl (w64 (a+1)))))else some (.inr (.inr ()))) B64 0).bind fun A=>(match A with|.inl ⟨x210,x211,x212,x213,x214⟩=>some (.inl (Zp.mk x210 0 x211 x212 x213 x214 0))|.inr _=>(aP (E:=Int⊕Unit) (fun(e:Int)=>if decide (e<(g.Spanners.length:Int))then(lget g.Spanners e).bind fun B=>(Fy173_13_5 5 0 0 0 0 0 e B v F G).bind fun C=>(match C with|.inl _=>some (.inr (.inl e))|.inr _=>some (.inl (w64 (e+1))))else some (.inr (.inr ()))) B64 0).bind fun D=>(match D with|.inl x221=>some (.inl (Zp.mk 5 0 0 0 0 0 x221))|.inr _=>some (.inr ()))))
theorem okn157_2 {k} (d) (c:Z0) (i:Bool) (j:Zp) (e:Zz):runR (XD k (d+2)) 157 [.yld 5,.ref 4 0] [(5,.loop 22 [(3,.ref 1 0),(4,.ref 2 0),(5,.ref 3 0)] [13,14] q173_13a q173_13b false none),(4,.box [.ref 0 0]),(0,.box (Z0.g c)),(3,.box [bv i]),(2,.box (Zp.g j)),(1,.box (Zz.g e))] 6 false=(Fn157_2 c i j e).map (fun|.inl x223=>((.tup [],[(5,.loop 22 [(3,.ref 1 0),(4,.ref 2 0),(5,.ref 3 0)] [13,14] q173_13a q173_13b false (some .ret)),(4,.box [.ref 0 0]),(0,.box (Z0.g c)),(3,.box [bv true]),(2,.box (Zp.g x223)),(1,.box (Zz.g e))],0))|.inr _=>((.tup [],[(5,.loop 22 [(3,.ref 1 0),(4,.ref 2 0),(5,.ref 3 0)] [13,14] q173_13a q173_13b false none),(4,.box [.ref 0 0]),(0,.box (Z0.g c)),(3,.box [bv i]),(2,.box (Zp.g j)),(1,.box (Zz.g e))],0))):=by
 rw[xd (fn:=p157) rfl]
 refine bz lm ?_
 refine bo (aG (S:=Int×Int) (enc:=fun⟨B,l⟩=>(Q [(0,.yld 5),(1,.ref 4 0),(3,i64 B),(15,i64 (c.Parts.length:Int)),(16,i64 l)] [(5,.loop 22 [(3,.ref 1 0),(4,.ref 2 0),(5,.ref 3 0)] [13,14] q173_13a q173_13b false none),(4,.box [.ref 0 0]),(0,.box (Z0.g c)),(3,.box [bv i]),(2,.box (Zp.g j)),(1,.box (Zz.g e))])) (encE:=(fun|.inl ⟨V,W,X⟩=>(rq [(0,.yld 5),(1,.ref 4 0)] [(5,.loop 22 [(3,.ref 1 0),(4,.ref 2 0),(5,.ref 3 0)] [13,14] q173_13a q173_13b false (some .ret)),(4,.box [.ref 0 0]),(0,.box (Z0.g c)),(3,.box [bv true]),(2,.box [i64 V,i64 W,i64 X,i64 0,i64 0,i64 0,i64 0]),(1,.box (Zz.g e))])|.inr _=>(xq 0 [(0,.yld 5),(1,.ref 4 0)] [(5,.loop 22 [(3,.ref 1 0),(4,.ref 2 0),(5,.ref 3 0)] [13,14] q173_13a q173_13b false none),(4,.box [.ref 0 0]),(0,.box (Z0.g c)),(3,.box [bv i]),(2,.box (Zp.g j)),(1,.box (Zz.g e))]))) (fun⟨B,l⟩=>?_) B64 (0,0)) fun b6=>?_
 refine io ?_ (lf rfl)
 refine bo rg fun Y=>?_
 refine bo (oky173_13 d 1 l 0 0 0 0 0 Y i j e) fun Z=>?_
 rcases Z with _|_
 exact lf rfl
 refine bo rg fun a0=>?_
 refine bz lm ?_
 refine bo (aG (S:=Int×Int) (enc:=fun⟨C,R⟩=>(Q [(0,.yld 5),(1,.ref 4 0),(3,i64 C),(4,i64 l),(15,i64 (c.Parts.length:Int)),(16,i64 l),(39,i64 (a0.Staves.length:Int)),(40,i64 R)] [(5,.loop 22 [(3,.ref 1 0),(4,.ref 2 0),(5,.ref 3 0)] [13,14] q173_13a q173_13b false none),(3,.box [bv i]),(2,.box (Zp.g j)),(1,.box (Zz.g e)),(4,.box [.ref 0 0]),(0,.box (Z0.g c))])) (encE:=(fun|.inl ⟨T,U⟩=>(rq [(0,.yld 5),(1,.ref 4 0),(3,i64 T),(15,i64 (c.Parts.length:Int)),(16,i64 l)] [(5,.loop 22 [(3,.ref 1 0),(4,.ref 2 0),(5,.ref 3 0)] [13,14] q173_13a q173_13b false (some .ret)),(3,.box [bv true]),(2,.box [i64 2,i64 0,i64 U,i64 0,i64 0,i64 0,i64 0]),(1,.box (Zz.g e)),(4,.box [.ref 0 0]),(0,.box (Z0.g c))])|.inr x35=>(xq 2 [(0,.yld 5),(1,.ref 4 0),(3,i64 x35),(15,i64 (c.Parts.length:Int)),(16,i64 l)] [(5,.loop 22 [(3,.ref 1 0),(4,.ref 2 0),(5,.ref 3 0)] [13,14] q173_13a q173_13b false none),(3,.box [bv i]),(2,.box (Zp.g j)),(1,.box (Zz.g e)),(4,.box [.ref 0 0]),(0,.box (Z0.g c))]))) (fun⟨C,R⟩=>?_) B64 (B,0)) fun b5=>?_
 refine io ?_ (lf rfl)
 refine bo rg fun d4=>?_
 refine bo rg fun b0=>?_
 refine bo (oky173_13_2 d 2 0 C 0 0 0 0 b0 i j e) fun b4=>?_
 rcases b4 with _|_
 exact lf rfl
 exact lf rfl
 rcases b5 with⟨T,U⟩|x35
 exact lf rfl
 exact lf rfl
 rcases b6 with⟨V,W,X⟩|_
 exact lf rfl
 refine bz lm ?_
 refine bo (aG (S:=Int) (enc:=fun a=>(Q [(0,.yld 5),(1,.ref 4 0),(67,i64 (c.Measures.length:Int)),(68,i64 a)] [(5,.loop 22 [(3,.ref 1 0),(4,.ref 2 0),(5,.ref 3 0)] [13,14] q173_13a q173_13b false none),(4,.box [.ref 0 0]),(0,.box (Z0.g c)),(3,.box [bv i]),(2,.box (Zp.g j)),(1,.box (Zz.g e))])) (encE:=(fun|.inl ⟨v,w,x,y,z⟩=>(rq [(0,.yld 5),(1,.ref 4 0)] [(5,.loop 22 [(3,.ref 1 0),(4,.ref 2 0),(5,.ref 3 0)] [13,14] q173_13a q173_13b false (some .ret)),(4,.box [.ref 0 0]),(0,.box (Z0.g c)),(3,.box [bv true]),(2,.box [i64 v,i64 0,i64 w,i64 x,i64 y,i64 z,i64 0]),(1,.box (Zz.g e))])|.inr _=>(xq 4 [(0,.yld 5),(1,.ref 4 0)] [(5,.loop 22 [(3,.ref 1 0),(4,.ref 2 0),(5,.ref 3 0)] [13,14] q173_13a q173_13b false none),(4,.box [.ref 0 0]),(0,.box (Z0.g c)),(3,.box [bv i]),(2,.box (Zp.g j)),(1,.box (Zz.g e))]))) (fun a=>?_) B64 0) fun M=>?_
 refine io ?_ (lf rfl)
 refine bo rg fun D=>?_
 refine bo (oky173_13_3 d 3 0 0 a 0 0 0 D i j e) fun E=>?_
 rcases E with _|_
 exact lf rfl
 refine bo rg fun h=>?_
 refine bz lm ?_
 refine bo (aG (S:=Int) (enc:=fun b=>(Q [(0,.yld 5),(1,.ref 4 0),(6,i64 a),(67,i64 (c.Measures.length:Int)),(68,i64 a),(91,i64 (h.Cells.length:Int)),(92,i64 b)] [(5,.loop 22 [(3,.ref 1 0),(4,.ref 2 0),(5,.ref 3 0)] [13,14] q173_13a q173_13b false none),(3,.box [bv i]),(2,.box (Zp.g j)),(1,.box (Zz.g e)),(4,.box [.ref 0 0]),(0,.box (Z0.g c))])) (encE:=(fun|.inl ⟨s,t,u⟩=>(rq [(0,.yld 5),(1,.ref 4 0),(67,i64 (c.Measures.length:Int)),(68,i64 a)] [(5,.loop 22 [(3,.ref 1 0),(4,.ref 2 0),(5,.ref 3 0)] [13,14] q173_13a q173_13b false (some .ret)),(3,.box [bv true]),(2,.box [i64 4,i64 0,i64 s,i64 a,i64 t,i64 u,i64 0]),(1,.box (Zz.g e)),(4,.box [.ref 0 0]),(0,.box (Z0.g c))])|.inr _=>(xq 6 [(0,.yld 5),(1,.ref 4 0),(67,i64 (c.Measures.length:Int)),(68,i64 a)] [(5,.loop 22 [(3,.ref 1 0),(4,.ref 2 0),(5,.ref 3 0)] [13,14] q173_13a q173_13b false none),(3,.box [bv i]),(2,.box (Zp.g j)),(1,.box (Zz.g e)),(4,.box [.ref 0 0]),(0,.box (Z0.g c))]))) (fun b=>?_) B64 0) fun L=>?_
 refine io ?_ (lf rfl)
 refine bo rg fun b7=>?_
 refine bo rg fun m=>?_
 refine bz lm ?_
 refine bo (aG (S:=Int) (enc:=fun f=>(Q [(0,.yld 5),(1,.ref 4 0),(6,i64 a),(7,i64 b),(67,i64 (c.Measures.length:Int)),(68,i64 a),(91,i64 (h.Cells.length:Int)),(92,i64 b),(107,i64 (m.Voices.length:Int)),(108,i64 f)] [(5,.loop 22 [(3,.ref 1 0),(4,.ref 2 0),(5,.ref 3 0)] [13,14] q173_13a q173_13b false none),(3,.box [bv i]),(2,.box (Zp.g j)),(1,.box (Zz.g e)),(4,.box [.ref 0 0]),(0,.box (Z0.g c))])) (encE:=(fun|.inl ⟨q,r⟩=>(rq [(0,.yld 5),(1,.ref 4 0),(6,i64 a),(67,i64 (c.Measures.length:Int)),(68,i64 a),(91,i64 (h.Cells.length:Int)),(92,i64 b)] [(5,.loop 22 [(3,.ref 1 0),(4,.ref 2 0),(5,.ref 3 0)] [13,14] q173_13a q173_13b false (some .ret)),(3,.box [bv true]),(2,.box [i64 4,i64 0,i64 b,i64 a,i64 q,i64 r,i64 0]),(1,.box (Zz.g e)),(4,.box [.ref 0 0]),(0,.box (Z0.g c))])|.inr _=>(xq 8 [(0,.yld 5),(1,.ref 4 0),(6,i64 a),(67,i64 (c.Measures.length:Int)),(68,i64 a),(91,i64 (h.Cells.length:Int)),(92,i64 b)] [(5,.loop 22 [(3,.ref 1 0),(4,.ref 2 0),(5,.ref 3 0)] [13,14] q173_13a q173_13b false none),(3,.box [bv i]),(2,.box (Zp.g j)),(1,.box (Zz.g e)),(4,.box [.ref 0 0]),(0,.box (Z0.g c))]))) (fun f=>?_) B64 0) fun K=>?_
 refine io ?_ (lf rfl)
 refine bo rg fun b8=>?_
 refine bo rg fun b9=>?_
 refine bo rg fun F=>?_
 refine bz lm ?_
 refine bo (aG (S:=Int) (enc:=fun n=>(Q [(0,.yld 5),(1,.ref 4 0),(6,i64 a),(7,i64 b),(8,i64 f),(67,i64 (c.Measures.length:Int)),(68,i64 a),(91,i64 (h.Cells.length:Int)),(92,i64 b),(107,i64 (m.Voices.length:Int)),(108,i64 f),(127,i64 (F.Events.length:Int)),(128,i64 n)] [(5,.loop 22 [(3,.ref 1 0),(4,.ref 2 0),(5,.ref 3 0)] [13,14] q173_13a q173_13b false none),(3,.box [bv i]),(2,.box (Zp.g j)),(1,.box (Zz.g e)),(4,.box [.ref 0 0]),(0,.box (Z0.g c))])) (encE:=(fun|.inl p=>(rq [(0,.yld 5),(1,.ref 4 0),(6,i64 a),(7,i64 b),(67,i64 (c.Measures.length:Int)),(68,i64 a),(91,i64 (h.Cells.length:Int)),(92,i64 b),(107,i64 (m.Voices.length:Int)),(108,i64 f)] [(5,.loop 22 [(3,.ref 1 0),(4,.ref 2 0),(5,.ref 3 0)] [13,14] q173_13a q173_13b false (some .ret)),(3,.box [bv true]),(2,.box [i64 4,i64 0,i64 b,i64 a,i64 f,i64 p,i64 0]),(1,.box (Zz.g e)),(4,.box [.ref 0 0]),(0,.box (Z0.g c))])|.inr _=>(xq 10 [(0,.yld 5),(1,.ref 4 0),(6,i64 a),(7,i64 b),(67,i64 (c.Measures.length:Int)),(68,i64 a),(91,i64 (h.Cells.length:Int)),(92,i64 b),(107,i64 (m.Voices.length:Int)),(108,i64 f)] [(5,.loop 22 [(3,.ref 1 0),(4,.ref 2 0),(5,.ref 3 0)] [13,14] q173_13a q173_13b false none),(3,.box [bv i]),(2,.box (Zp.g j)),(1,.box (Zz.g e)),(4,.box [.ref 0 0]),(0,.box (Z0.g c))]))) (fun n=>?_) B64 0) fun J=>?_
 refine io ?_ (lf rfl)
 refine bo rg fun d1=>?_
 refine bo rg fun d2=>?_
 refine bo rg fun d3=>?_
 refine bo rg fun G=>?_
 refine bo (oky173_13_4 d 4 0 b a f n 0 G i j e) fun H=>?_
 rcases H with _|_
 exact lf rfl
 exact lf rfl
 rcases J with p|_
 exact lf rfl
 exact lf rfl
 rcases K with⟨q,r⟩|_
 exact lf rfl
 exact lf rfl
 rcases L with⟨s,t,u⟩|_
 exact lf rfl
 exact lf rfl
 rcases M with⟨v,w,x,y,z⟩|_
 exact lf rfl
 refine bz lm ?_
 refine bo (aG (S:=Int) (enc:=fun o=>(Q [(0,.yld 5),(1,.ref 4 0),(166,i64 (c.Spanners.length:Int)),(167,i64 o)] [(5,.loop 22 [(3,.ref 1 0),(4,.ref 2 0),(5,.ref 3 0)] [13,14] q173_13a q173_13b false none),(4,.box [.ref 0 0]),(0,.box (Z0.g c)),(3,.box [bv i]),(2,.box (Zp.g j)),(1,.box (Zz.g e))])) (encE:=(fun|.inl A=>(rq [] [(5,.loop 22 [(3,.ref 1 0),(4,.ref 2 0),(5,.ref 3 0)] [13,14] q173_13a q173_13b false (some .ret)),(4,.box [.ref 0 0]),(0,.box (Z0.g c)),(3,.box [bv true]),(2,.box [i64 5,i64 0,i64 0,i64 0,i64 0,i64 0,i64 A]),(1,.box (Zz.g e))])|.inr _=>(xq 12 [] [(5,.loop 22 [(3,.ref 1 0),(4,.ref 2 0),(5,.ref 3 0)] [13,14] q173_13a q173_13b false none),(4,.box [.ref 0 0]),(0,.box (Z0.g c)),(3,.box [bv i]),(2,.box (Zp.g j)),(1,.box (Zz.g e))]))) (fun o=>?_) B64 0) fun P=>?_
 refine io ?_ (lf rfl)
 refine bo rg fun N=>?_
 refine bo (oky173_13_5 d 5 0 0 0 0 0 o N i j e) fun O=>?_
 rcases O with _|_
 exact lf rfl
 exact lf rfl
 rcases P with A|_
 exact lf rfl
 exact lf rfl
def F173 (b:Z0) (a:Zz):Option (Zp×Bool):=
 if((a.Site==0)&&((a.Number==0)&&true))!=false then some ((Zp.mk 0 0 0 0 0 0 0),false)else(Fn109_2 b).bind fun _=>(Fn157_2 b false (Zp.mk 0 0 0 0 0 0 0) a).bind fun c=>(match c with|.inl x3=>some (x3,true)|.inr _=>some ((Zp.mk 0 0 0 0 0 0 0),false))
theorem ok173 {k} (d) (a:Z0) (b:Zz):OD k (d+3) 173 [.agg (Z0.g a),.agg (Zz.g b)]=(F173 a b).map (fun⟨e,f⟩=>.tup [.agg (Zp.g e),bv f]):=by
 rw[od (fn:=p173) rfl rfl rfl]
 refine io (lf rfl) ?_
 refine bo (okn109_2 (d+1) a) fun _=>?_
 refine bo (okn157_2 d a false (Zp.mk 0 0 0 0 0 0 0) b) fun c=>?_
 rcases c with h|_
 exact lf rfl
 exact lf rfl
def F103 (c:List Int):Option (List Int):=
 (yR (c.length:Int) (c.length:Int) 0).bind fun k=>(aP (E:=List Int) (fun(⟨b,a⟩:Int×(List Int))=>if decide (b<(c.length:Int))then(lidx a (w64 (b-1))).bind fun d=>(lnth a d).bind fun e=>(lget c (w64 (b-1))).bind fun f=>(lidx a b).bind fun g=>(lput a g (fun j=>(w64 (e+f)))).bind fun h=>some (.inl ((w64 (b+1)),h))else some (.inr a)) B64 (1,k)).bind fun i=>some i
theorem ok103 {k} (d) (h:List Int):OD k (d+1) 103 [.is 1 (I cI h)]=(F103 h).map (fun r=>.is 1 (I cI r)):=by
 rw[od (fn:=p103) rfl rfl rfl]
 refine bz lm ?_
 refine bo (fA cI _ _ 0) fun q=>?_
 refine bo (aG (S:=Int×(List Int)) (enc:=fun⟨j,a⟩=>(Q [(0,.is 1 (I cI h)),(3,.own 0),(4,i64 j)] [(0,.lst 3 1 true (I cI a))])) (encE:=(fun(e:List Int)=>(xq 0 [(3,.own 0)] [(0,.lst 3 1 true (I cI e))]))) (fun⟨j,a⟩=>?_) B64 (1,q)) fun e=>?_
 refine bz lm ?_
 refine io ?_ (lf rfl)
 refine bo (aK cI a _) fun l=>?_
 refine bo (aX (A:=Int) (c:=cI) (g:=fun b=>i64 b) (fun _=>rfl) a _) fun b=>?_
 refine bo rg fun i=>?_
 refine bo (aK cI a _) fun n=>?_
 refine bo (cX (A:=Int) (c:=cI) (m:=1) (f:=fun o=>(w64 (b+i))) (fun _=>⟨rfl,rfl⟩) (mD1 rfl) a _) fun p=>?_
 exact lf rfl
 exact lf rfl
def F53 (b:Zo) (c:Int):Option ((List Int)×Int):=
 (F102 b c).bind fun⟨d,a⟩=>if a !=0 then some ([],a)else(F103 d).bind fun e=>some (e,0)
theorem ok53 {k} (d) (a:Zo) (b:Int):OD k (d+14) 53 [.agg (Zo.g a),i64 b]=(F53 a b).map (fun⟨e,f⟩=>.tup [.is 1 (I cI e),i64 f]):=by
 rw[od (fn:=p53) rfl rfl rfl]
 refine bo (ok102 d a b) fun⟨c,h⟩=>?_
 refine io (lf rfl) ?_
 refine bo (ok103 (d+12) c) fun i=>?_
 exact lf rfl
def F138 (d:Zk) (g:Zz):Option (Zq×Bool):=
 (F173 d.s' g).bind fun⟨a,h⟩=>if(!h)||(a.Kind !=4)then some ((Zq.mk 0 0 0 0),false)else(lget d.s'.Measures a.Measure).bind fun e=>(F29 e).bind fun⟨i,l⟩=>(lget e.Cells a.Staff).bind fun j=>(lget j.Voices a.Voice).bind fun k=>(F53 k i).bind fun⟨b,f⟩=>if decide (a.Event>=(b.length:Int))then some ((Zq.mk 0 0 0 0),false)else(lget b a.Event).bind fun c=>some ((Zq.mk a.Measure c a.Staff a.Voice),true)
theorem ok138 {k} (d) (a:Zk) (b:Zz):OD k (d+15) 138 [.ip (Zk.g a),.agg (Zz.g b)]=(F138 a b).map (fun⟨l,m⟩=>.tup [.agg (Zq.g l),bv m]):=by
 rw[od (fn:=p138) rfl rfl rfl]
 refine bo (ok173 (d+11) a.s' b) fun⟨n,o⟩=>?_
 refine bz (gor rfl) ?_
 refine io (lf rfl) ?_
 refine bo rg fun h=>?_
 refine bo (ok29 (d+10) h) fun⟨i,p⟩=>?_
 refine bo rg fun q=>?_
 refine bo rg fun j=>?_
 refine bo (ok53 d j i) fun⟨c,e⟩=>?_
 refine bz lm ?_
 refine io (lf rfl) ?_
 refine bo rg fun f=>?_
 exact lf rfl
def F183 (a b:Int):Option Bool:=
 some ((decide (a>=0))&&(decide (a<=b)))
theorem ok183 {k} (d) (a b:Int):OD k (d+1) 183 [i64 a,i64 b]=(F183 a b).map (fun c=>bv c):=by
 rw[od (fn:=p183) rfl rfl rfl]
 refine bz (gand rfl) ?_
 exact lf rfl
def F174 (a:Zq):Option Bool:=
 (F183 a.Measure 1023).bind fun b=>((if b then(F183 a.At 4398046511104).bind fun c=>some c else some false:Option (Bool))).bind fun d=>((if d then(F183 a.Staff 127).bind fun e=>some e else some false:Option (Bool))).bind fun f=>((if f then(F183 a.Voice 1).bind fun g=>some g else some false:Option (Bool))).bind fun h=>some h
theorem ok174 {k} (d) (a:Zq):OD k (d+2) 174 [.agg (Zq.g a)]=(F174 a).map (fun b=>bv b):=by
 rw[od (fn:=p174) rfl rfl rfl]
 refine bo (ok183 d a.Measure 1023) fun c=>?_
 refine bo (e:=id) ?_ fun h=>?_
 refine io ?_ (lf rfl)
 refine bo (ok183 d a.At 4398046511104) fun f=>?_
 exact lf rfl
 refine bo (e:=id) ?_ fun j=>?_
 refine io ?_ (lf rfl)
 refine bo (ok183 d a.Staff 127) fun i=>?_
 exact lf rfl
 refine bo (e:=id) ?_ fun m=>?_
 refine io ?_ (lf rfl)
 refine bo (ok183 d a.Voice 1) fun l=>?_
 exact lf rfl
 exact lf rfl
def F175 (a:Int):Option Bool:=
 some ((a==1)||(a==7))
theorem ok175 {k} (d) (a:Int):OD k (d+1) 175 [i64 a]=(F175 a).map (fun b=>bv b):=by
 rw[od (fn:=p175) rfl rfl rfl]
 refine bz (gor rfl) ?_
 exact lf rfl
def F176 (a b:Zq):Option Int:=
 (F11 a.Measure b.Measure).bind fun c=>(F11 a.At b.At).bind fun d=>(F10 [c,d]).bind fun e=>some e
theorem ok176 {k} (d) (a b:Zq):OD k (d+3) 176 [.agg (Zq.g a),.agg (Zq.g b)]=(F176 a b).map (fun f=>i64 f):=by
 rw[od (fn:=p176) rfl rfl rfl]
 refine bo (ok11 d a.Measure b.Measure) fun c=>?_
 refine bo (ok11 d a.At b.At) fun e=>?_
 refine bo (ok10 (d+1) [c,e]) fun h=>?_
 exact lf rfl
def F139 (a:Zs):Option Int:=
 if(decide (a.Kind<1))||(decide (a.Kind>7))then some 11 else(F174 a.From).bind fun b=>((if !b then some true else(F174 a.To).bind fun c=>some (!c):Option (Bool))).bind fun d=>if d then some 2 else((if a.From.Staff !=a.To.Staff then some true else(F175 a.Kind).bind fun e=>some (e&&(a.From.Voice !=a.To.Voice)):Option (Bool))).bind fun f=>if f then some 23 else(F176 a.From a.To).bind fun g=>if decide (g>=0)then some 25 else some 0
theorem ok139 {k} (d) (a:Zs):OD k (d+4) 139 [.agg (Zs.g a)]=(F139 a).map (fun b=>i64 b):=by
 rw[od (fn:=p139) rfl rfl rfl]
 refine bz (gor rfl) ?_
 refine io (lf rfl) ?_
 refine bo (ok174 (d+1) a.From) fun c=>?_
 refine bo (e:=id) ?_ fun h=>?_
 refine io (lf rfl) ?_
 refine bo (ok174 (d+1) a.To) fun f=>?_
 exact lf rfl
 refine io (lf rfl) ?_
 refine bo (e:=id) ?_ fun j=>?_
 refine io (lf rfl) ?_
 refine bo (ok175 (d+2) a.Kind) fun i=>?_
 refine bz (gand rfl) ?_
 exact lf rfl
 refine io (lf rfl) ?_
 refine bo (ok176 d a.From a.To) fun l=>?_
 refine io (lf rfl) (lf rfl)
def Fn89 (p:List Zv) (g:Z0) (q:Int):Option ((List Bool)×(List Zs)):=
 (aP (E:=(List Bool)×(List Zs)) (fun(⟨b,c,d⟩:Int×(List Bool)×(List Zs))=>if decide (b<(g.Spanners.length:Int))then(lget g.Spanners b).bind fun a=>(F138 (Zk.mk g q p) a.From).bind fun⟨e,h⟩=>(F138 (Zk.mk g q p) a.To).bind fun⟨f,i⟩=>(lapp false d [(Zs.mk a.Kind e f)]).bind fun j=>((if(!h)||(!i)then some true else(F139 (Zs.mk a.Kind e f)).bind fun k=>some (k !=0):Option (Bool))).bind fun l=>(lapp false c [l]).bind fun m=>some (.inl ((w64 (b+1)),m,j))else some (.inr (c,d))) B64 (0,[],[])).bind fun⟨n,o⟩=>some (n,o)
theorem okn89 {k} (d) (c:List Zv) (b:Z0) (i:Int):runR (XD k (d+16)) 89 [.ref 1 0] [(2,.lst 119 3 false (I Zv.g c)),(1,.box (ck b i (.own 2)))] 3 true=(Fn89 c b i).map (fun(⟨q,r⟩:(List Bool)×(List Zs))=>((.tup [.own 3,.own 4],[(4,.lst 4 1 false (I cB q)),(3,.lst 173 9 false (I Zs.g r)),(2,.lst 119 3 false (I Zv.g c)),(1,.box (ck b i (.own 2)))],5))):=by
 rw[xd (fn:=p89) rfl]
 refine bz lm ?_
 refine bo (aG (S:=Int×(List Bool)×(List Zs)) (enc:=fun⟨j,f,h⟩=>(Q [(0,.ref 1 0),(4,.own 3),(5,.own 4),(17,.is 7 (I Zn.g b.Spanners)),(18,i64 (b.Spanners.length:Int)),(19,i64 j)] [(4,.lst 4 1 false (I cB f)),(3,.lst 173 9 false (I Zs.g h)),(2,.lst 119 3 false (I Zv.g c)),(1,.box (ck b i (.own 2)))])) (encE:=(fun(⟨n,o⟩:(List Bool)×(List Zs))=>(xq 0 [(4,.own 3),(5,.own 4)] [(4,.lst 4 1 false (I cB n)),(3,.lst 173 9 false (I Zs.g o)),(2,.lst 119 3 false (I Zv.g c)),(1,.box (ck b i (.own 2)))]))) (fun⟨j,f,h⟩=>?_) B64 (0,[],[])) fun⟨n,o⟩=>?_
 refine io ?_ (lf rfl)
 refine bo rg fun a=>?_
 refine bo (ok138 d (Zk.mk b i c) a.From) fun⟨l,s⟩=>?_
 refine bo (ok138 d (Zk.mk b i c) a.To) fun⟨m,t⟩=>?_
 refine bo (bD false Zs.g h [(Zs.mk a.Kind l m)]) fun u=>?_
 refine bz (gor rfl) ?_
 refine bo (e:=id) ?_ fun p=>?_
 refine io (lf rfl) ?_
 refine bo (ok139 (d+11) (Zs.mk a.Kind l m)) fun v=>?_
 exact lf rfl
 refine bo (bD false cB f [p]) fun w=>?_
 exact lf rfl
 exact lf rfl
def Fn45 (i:List Zv) (c:Z0) (j:Int):Option (List Zv):=
 (Fn89 i c j).bind fun⟨k,l⟩=>(aP (E:=List Zv) (fun(⟨a,b⟩:Int×(List Zv))=>if decide (a<(c.Spanners.length:Int))then(lget c.Spanners a).bind fun d=>(lidx k a).bind fun e=>(lnth k e).bind fun f=>(Fn57 f d.ID b c j).bind fun g=>some (.inl ((w64 (a+1)),g))else some (.inr b)) B64 (0,i)).bind fun h=>some h
theorem okn45 {k} (d) (j:List Zv) (a:Z0) (f:Int):runR (XD k (d+17)) 45 [.ref 1 0] [(2,.lst 119 3 false (I Zv.g j)),(1,.box (ck a f (.own 2)))] 3 false=(Fn45 j a f).map (fun(n:List Zv)=>((.tup [],[(2,.lst 119 3 false (I Zv.g n)),(1,.box (ck a f (.own 2)))],0))):=by
 rw[xd (fn:=p45) rfl]
 refine bo (okn89 d j a f) fun⟨l,o⟩=>?_
 refine bz lm ?_
 refine bo (aG (S:=Int×(List Zv)) (enc:=fun⟨h,b⟩=>(Q [(0,.ref 1 0),(3,.own 4),(15,.is 7 (I Zn.g a.Spanners)),(16,i64 (a.Spanners.length:Int)),(17,i64 h)] [(4,.lst 4 1 false (I cB l)),(3,.lst 173 9 false (I Zs.g o)),(2,.lst 119 3 false (I Zv.g b)),(1,.box (ck a f (.own 2)))])) (encE:=(fun(i:List Zv)=>(xq 0 [] [(4,.lst 4 1 false (I cB l)),(3,.lst 173 9 false (I Zs.g o)),(2,.lst 119 3 false (I Zv.g i)),(1,.box (ck a f (.own 2)))]))) (fun⟨h,b⟩=>?_) B64 (0,j)) fun i=>?_
 refine io ?_ (lf rfl)
 refine bo rg fun m=>?_
 refine bo (aK cB l _) fun p=>?_
 refine bo (aX (A:=Bool) (c:=cB) (g:=fun e=>bv e) (fun _=>rfl) l _) fun e=>?_
 refine bo (okn57 (d+15) e m.ID b a f) fun q=>?_
 exact lf rfl
 exact lf rfl
def F177 (a:Int):Option Int:=
 if(decide (a<1))||(decide (a>7))then some 0 else(lget [1,2,2,4,4,6,7] (w64 (a-1))).bind fun b=>some b
theorem ok177 {k} (d) (a:Int):OD k (d+1) 177 [i64 a]=(F177 a).map (fun b=>i64 b):=by
 rw[od (fn:=p177) rfl rfl rfl]
 refine bz (gor rfl) ?_
 refine io (lf rfl) ?_
 refine bo (kW .i64 [1,2,2,4,4,6,7] (w64 (a-1)) rfl) fun c=>?_
 exact lf rfl
def F140 (a b:Zs):Option Bool:=
 (F177 a.Kind).bind fun c=>((if decide (c>0)then(F177 a.Kind).bind fun d=>(F177 b.Kind).bind fun e=>some (d==e)else some false:Option (Bool))).bind fun f=>((if f&&(a.From.Staff==b.From.Staff)then(F175 a.Kind).bind fun g=>some ((!g)||(a.From.Voice==b.From.Voice))else some false:Option (Bool))).bind fun h=>some h
theorem ok140 {k} (d) (a b:Zs):OD k (d+2) 140 [.agg (Zs.g a),.agg (Zs.g b)]=(F140 a b).map (fun c=>bv c):=by
 rw[od (fn:=p140) rfl rfl rfl]
 refine bo (ok177 d a.Kind) fun f=>?_
 refine bo (e:=id) ?_ fun j=>?_
 refine io ?_ (lf rfl)
 refine bo (ok177 d a.Kind) fun h=>?_
 refine bo (ok177 d b.Kind) fun i=>?_
 exact lf rfl
 refine bz (gand rfl) ?_
 refine bo (e:=id) ?_ fun m=>?_
 refine io ?_ (lf rfl)
 refine bo (ok175 d a.Kind) fun l=>?_
 refine bz (gor rfl) ?_
 exact lf rfl
 exact lf rfl
def F144 (a b:Zs):Option Bool:=
 (F176 a.To b.From).bind fun c=>((if decide (c<0)then some true else(F176 b.To a.From).bind fun d=>some (decide (d<0)):Option (Bool))).bind fun e=>some e
theorem ok144 {k} (d) (a b:Zs):OD k (d+4) 144 [.agg (Zs.g a),.agg (Zs.g b)]=(F144 a b).map (fun c=>bv c):=by
 rw[od (fn:=p144) rfl rfl rfl]
 refine bo (ok176 d a.To b.From) fun f=>?_
 refine bo (e:=id) ?_ fun i=>?_
 refine io (lf rfl) ?_
 refine bo (ok176 d b.To a.From) fun h=>?_
 exact lf rfl
 exact lf rfl
def F143 (a b:Zs):Option Bool:=
 (F144 a b).bind fun c=>some (!c)
theorem ok143 {k} (d) (a b:Zs):OD k (d+5) 143 [.agg (Zs.g a),.agg (Zs.g b)]=(F143 a b).map (fun c=>bv c):=by
 rw[od (fn:=p143) rfl rfl rfl]
 refine bo (ok144 d a b) fun e=>?_
 exact lf rfl
def F142 (a b:Zs):Option Bool:=
 (F176 a.To b.From).bind fun c=>((if decide (c<=0)then some true else(F176 b.To a.From).bind fun d=>some (decide (d<=0)):Option (Bool))).bind fun e=>some e
theorem ok142 {k} (d) (a b:Zs):OD k (d+4) 142 [.agg (Zs.g a),.agg (Zs.g b)]=(F142 a b).map (fun c=>bv c):=by
 rw[od (fn:=p142) rfl rfl rfl]
 refine bo (ok176 d a.To b.From) fun f=>?_
 refine bo (e:=id) ?_ fun i=>?_
 refine io (lf rfl) ?_
 refine bo (ok176 d b.To a.From) fun h=>?_
 exact lf rfl
 exact lf rfl
def F141 (a b:Zs):Option Bool:=
 (F142 a b).bind fun c=>some (!c)
theorem ok141 {k} (d) (a b:Zs):OD k (d+5) 141 [.agg (Zs.g a),.agg (Zs.g b)]=(F141 a b).map (fun c=>bv c):=by
 rw[od (fn:=p141) rfl rfl rfl]
 refine bo (ok142 d a b) fun e=>?_
 exact lf rfl
def F178 (a b:Zs):Option Bool:=
 (F176 a.From b.From).bind fun c=>((if decide (c>=0)then(F176 a.To b.To).bind fun d=>some (decide (d<=0))else some false:Option (Bool))).bind fun e=>some e
theorem ok178 {k} (d) (a b:Zs):OD k (d+4) 178 [.agg (Zs.g a),.agg (Zs.g b)]=(F178 a b).map (fun c=>bv c):=by
 rw[od (fn:=p178) rfl rfl rfl]
 refine bo (ok176 d a.From b.From) fun f=>?_
 refine bo (e:=id) ?_ fun i=>?_
 refine io ?_ (lf rfl)
 refine bo (ok176 d a.To b.To) fun h=>?_
 exact lf rfl
 exact lf rfl
def F145 (a b:Zs):Option Bool:=
 (F142 a b).bind fun c=>((if !c then(F178 a b).bind fun d=>(F178 b a).bind fun e=>some ((d==e)!=false)else some false:Option (Bool))).bind fun f=>some f
theorem ok145 {k} (d) (a b:Zs):OD k (d+5) 145 [.agg (Zs.g a),.agg (Zs.g b)]=(F145 a b).map (fun c=>bv c):=by
 rw[od (fn:=p145) rfl rfl rfl]
 refine bo (ok142 d a b) fun f=>?_
 refine bo (e:=id) ?_ fun j=>?_
 refine io ?_ (lf rfl)
 refine bo (ok178 d a b) fun h=>?_
 refine bo (ok178 d b a) fun i=>?_
 exact lf rfl
 exact lf rfl
def F90 (a b:Zs):Option Bool:=
 (F140 a b).bind fun d=>if !d then some false else if(w64 (a.Kind-1))==6 then(F143 a b).bind fun e=>some e else if(w64 (a.Kind-1))==5 then(F141 a b).bind fun f=>some f else if(w64 (a.Kind-1))==4 then(F143 a b).bind fun g=>some g else if(w64 (a.Kind-1))==3 then(F143 a b).bind fun h=>some h else if(w64 (a.Kind-1))==2 then(F141 a b).bind fun i=>some i else if(w64 (a.Kind-1))==1 then(F141 a b).bind fun j=>some j else if(w64 (a.Kind-1))==0 then(F145 a b).bind fun c=>some c else none
theorem ok90 {k} (d) (a b:Zs):OD k (d+6) 90 [.agg (Zs.g a),.agg (Zs.g b)]=(F90 a b).map (fun e=>bv e):=by
 rw[od (fn:=p90) rfl rfl rfl]
 refine bo (ok140 (d+3) a b) fun f=>?_
 refine io (lf rfl) ?_
 refine io ?_ ?_
 refine bo (ok143 d a b) fun h=>?_
 exact lf rfl
 refine io ?_ ?_
 refine bo (ok141 d a b) fun i=>?_
 exact lf rfl
 refine io ?_ ?_
 refine bo (ok143 d a b) fun j=>?_
 exact lf rfl
 refine io ?_ ?_
 refine bo (ok143 d a b) fun l=>?_
 exact lf rfl
 refine io ?_ ?_
 refine bo (ok141 d a b) fun m=>?_
 exact lf rfl
 refine io ?_ ?_
 refine bo (ok141 d a b) fun n=>?_
 exact lf rfl
 refine io ?_ ?_
 refine bo (ok145 d a b) fun c=>?_
 exact lf rfl
 rfl
def Fn46 (w:List Zv) (e:Z0) (x:Int):Option (List Zv):=
 (Fn89 w e x).bind fun⟨f,g⟩=>(aP (E:=List Zv) (fun(⟨a,c⟩:Int×(List Zv))=>if decide (a<(e.Spanners.length:Int))then(lget e.Spanners a).bind fun h=>(aP (E:=Bool) (fun(⟨d,b⟩:Bool×Int)=>((if decide (b<a)then(lidx f a).bind fun i=>(lnth f i).bind fun j=>some (!j)else some false:Option (Bool))).bind fun k=>if k&&(!d)then(lidx f b).bind fun l=>(lnth f l).bind fun m=>((if !m then(lidx g b).bind fun n=>(lnth g n).bind fun o=>(lidx g a).bind fun p=>(lnth g p).bind fun q=>(F90 o q).bind fun r=>some r else some false:Option (Bool))).bind fun s=>some (.inl (s,(w64 (b+1))))else some (.inr d)) B64 (false,0)).bind fun t=>(Fn57 t h.ID c e x).bind fun u=>some (.inl ((w64 (a+1)),u))else some (.inr c)) B64 (0,w)).bind fun v=>some v
theorem okn46 {k} (d) (v:List Zv) (f:Z0) (j:Int):runR (XD k (d+17)) 46 [.ref 1 0] [(2,.lst 119 3 false (I Zv.g v)),(1,.box (ck f j (.own 2)))] 3 false=(Fn46 v f j).map (fun(w:List Zv)=>((.tup [],[(2,.lst 119 3 false (I Zv.g w)),(1,.box (ck f j (.own 2)))],0))):=by
 rw[xd (fn:=p46) rfl]
 refine bo (okn89 d v f j) fun⟨l,n⟩=>?_
 refine bz lm ?_
 refine bo (aG (S:=Int×(List Zv)) (enc:=fun⟨h,i⟩=>(Q [(0,.ref 1 0),(2,.own 3),(3,.own 4),(17,.is 7 (I Zn.g f.Spanners)),(18,i64 (f.Spanners.length:Int)),(19,i64 h)] [(4,.lst 4 1 false (I cB l)),(3,.lst 173 9 false (I Zs.g n)),(2,.lst 119 3 false (I Zv.g i)),(1,.box (ck f j (.own 2)))])) (encE:=(fun(u:List Zv)=>(xq 0 [] [(4,.lst 4 1 false (I cB l)),(3,.lst 173 9 false (I Zs.g n)),(2,.lst 119 3 false (I Zv.g u)),(1,.box (ck f j (.own 2)))]))) (fun⟨h,i⟩=>?_) B64 (0,v)) fun u=>?_
 refine io ?_ (lf rfl)
 refine bo rg fun o=>?_
 refine bo (aG (S:=Bool×Int) (enc:=fun⟨q,r⟩=>(Q [(0,.ref 1 0),(2,.own 3),(3,.own 4),(4,i64 h),(5,.ref 5 0),(6,bv q),(7,i64 r),(17,.is 7 (I Zn.g f.Spanners)),(18,i64 (f.Spanners.length:Int)),(19,i64 h)] [(5,.box (Zn.g o)),(4,.lst 4 1 false (I cB l)),(3,.lst 173 9 false (I Zs.g n)),(2,.lst 119 3 false (I Zv.g i)),(1,.box (ck f j (.own 2)))])) (encE:=(fun(p:Bool)=>(xq 2 [(0,.ref 1 0),(2,.own 3),(3,.own 4),(5,.ref 5 0),(6,bv p),(17,.is 7 (I Zn.g f.Spanners)),(18,i64 (f.Spanners.length:Int)),(19,i64 h)] [(5,.box (Zn.g o)),(4,.lst 4 1 false (I cB l)),(3,.lst 173 9 false (I Zs.g n)),(2,.lst 119 3 false (I Zv.g i)),(1,.box (ck f j (.own 2)))]))) (fun⟨q,r⟩=>?_) B64 (false,0)) fun p=>?_
 refine bo (e:=id) ?_ fun y=>?_
 refine io ?_ (lf rfl)
 refine bo (aK cB l _) fun x=>?_
 refine bo (aX (A:=Bool) (c:=cB) (g:=fun s=>bv s) (fun _=>rfl) l _) fun s=>?_
 exact lf rfl
 refine bz (gand rfl) ?_
 refine io ?_ (lf rfl)
 refine bo (aK cB l _) fun z=>?_
 refine bo (aX (A:=Bool) (c:=cB) (g:=fun t=>bv t) (fun _=>rfl) l _) fun t=>?_
 refine bo (e:=id) ?_ fun E=>?_
 refine io ?_ (lf rfl)
 refine bo (aK Zs.g n _) fun B=>?_
 refine bo (bA (A:=Zs) (c:=Zs.g) (m:=9) (g:=fun a=>[i64 a.Kind,i64 a.From.Measure,i64 a.From.At,i64 a.From.Staff,i64 a.From.Voice,i64 a.To.Measure,i64 a.To.At,i64 a.To.Staff,i64 a.To.Voice]) (fun _=>⟨rfl,rfl⟩) (mD1 rfl) n _) fun a=>?_
 refine bo (aK Zs.g n _) fun C=>?_
 refine bo (bA (A:=Zs) (c:=Zs.g) (m:=9) (g:=fun b=>[i64 b.Kind,i64 b.From.Measure,i64 b.From.At,i64 b.From.Staff,i64 b.From.Voice,i64 b.To.Measure,i64 b.To.At,i64 b.To.Staff,i64 b.To.Voice]) (fun _=>⟨rfl,rfl⟩) (mD1 rfl) n _) fun b=>?_
 refine bo (ok90 (d+10) a b) fun D=>?_
 exact lf rfl
 exact lf rfl
 refine bo (okn57 (d+15) p o.ID i f j) fun F=>?_
 exact lf rfl
 exact lf rfl
end Go.P
namespace Go.P
open Go.Sim (Ex OpK CK)
open K (I Q rq nq xq ck)
def F91 (f:Int) (a:Zm):Option Bool:=
 ((if a.RepeatEnd !=0 then(F59 a.RepeatEnd 2 8).bind fun b=>some (!b)else some false:Option (Bool))).bind fun c=>((if c then some true else(F59 a.Endings 0 255).bind fun d=>some (!d):Option (Bool))).bind fun e=>some e
theorem ok91 {k} (d) (b:Int) (a:Zm):OD k (d+2) 91 [i64 b,.agg (Zm.g a)]=(F91 b a).map (fun c=>bv c):=by
 rw[od (fn:=p91) rfl rfl rfl]
 refine bo (e:=id) ?_ fun h=>?_
 refine io ?_ (lf rfl)
 refine bo (ok59 d a.RepeatEnd 2 8) fun f=>?_
 exact lf rfl
 refine bo (e:=id) ?_ fun j=>?_
 refine io (lf rfl) ?_
 refine bo (ok59 d a.Endings 0 255) fun i=>?_
 exact lf rfl
 exact lf rfl
def Fn64_6 (h:List Zv) (e:Z0) (i:Int):Option (List Zv):=
 (aP (E:=List Zv) (fun(⟨a,f⟩:Int×(List Zv))=>if decide (a<(e.Measures.length:Int))then(lget e.Measures a).bind fun g=>(F91 a g).bind fun b=>(Fn57 b g.ID f e i).bind fun c=>some (.inl ((w64 (a+1)),c))else some (.inr f)) B64 (0,h)).bind fun d=>some d
theorem okn64_6 {k} (d) (e:List Zv) (a:Z0) (b:Int):runR (XD k (d+3)) 64 [.ref 1 0,.fn 91 [] []] [(2,.lst 119 3 false (I Zv.g e)),(1,.box (ck a b (.own 2)))] 3 false=(Fn64_6 e a b).map (fun(h:List Zv)=>((.tup [],[(2,.lst 119 3 false (I Zv.g h)),(1,.box (ck a b (.own 2)))],0))):=by
 rw[xd (fn:=p64) rfl]
 refine bz lm ?_
 refine bo (aG (S:=Int×(List Zv)) (enc:=fun⟨i,j⟩=>(Q [(0,.ref 1 0),(1,.fn 91 [] []),(10,.is 22 (I Zm.g a.Measures)),(11,i64 (a.Measures.length:Int)),(12,i64 i)] [(2,.lst 119 3 false (I Zv.g j)),(1,.box (ck a b (.own 2)))])) (encE:=(fun(c:List Zv)=>(xq 0 [] [(2,.lst 119 3 false (I Zv.g c)),(1,.box (ck a b (.own 2)))]))) (fun⟨i,j⟩=>?_) B64 (0,e)) fun c=>?_
 refine io ?_ (lf rfl)
 refine bo rg fun l=>?_
 refine bo (ok91 d i l) fun f=>?_
 refine bo (okn57 (d+1) f l.ID j a b) fun m=>?_
 exact lf rfl
 exact lf rfl
def F185 (a:Int):Option Int:=
 ((if decide (a>=4294967296)then(shrO .u64 a 32).bind fun h=>some (h,32)else some (a,0):Option (Int×Int))).bind fun⟨d,f⟩=>((if decide (d>=65536)then(shrO .u64 d 16).bind fun i=>some (i,(w64 (f+16)))else some (d,f):Option (Int×Int))).bind fun⟨e,g⟩=>((if decide (e>=256)then(shrO .u64 e 8).bind fun j=>some (j,(w64 (g+8)))else some (e,g):Option (Int×Int))).bind fun⟨k,b⟩=>(pA (⟨#[0,1,2,2,3,3,3,3,4,4,4,4,4,4,4,4,5,5,5,5,5,5,5,5,5,5,5,5,5,5,5,5,6,6,6,6,6,6,6,6,6,6,6,6,6,6,6,6,6,6,6,6,6,6,6,6,6,6,6,6,6,6,6,6,7,7,7,7,7,7,7,7,7,7,7,7,7,7,7,7,7,7,7,7,7,7,7,7,7,7,7,7,7,7,7,7,7,7,7,7,7,7,7,7,7,7,7,7,7,7,7,7,7,7,7,7,7,7,7,7,7,7,7,7,7,7,7,7,8,8,8,8,8,8,8,8,8,8,8,8,8,8,8,8,8,8,8,8,8,8,8,8,8,8,8,8,8,8,8,8,8,8,8,8,8,8,8,8,8,8,8,8,8,8,8,8,8,8,8,8,8,8,8,8,8,8,8,8,8,8,8,8,8,8,8,8,8,8,8,8,8,8,8,8,8,8,8,8,8,8,8,8,8,8,8,8,8,8,8,8,8,8,8,8,8,8,8,8,8,8,8,8,8,8,8,8,8,8,8,8,8,8,8,8,8,8,8,8,8,8,8,8,8,8,8,8]⟩:ByteArray) (IntKind.wrap .u8 (k))).bind fun c=>some (w64 (b+(w64 (c))))
theorem ok185 {k} (d) (b:Int):OD k (d+1) 185 [.v (.int .u64 b)]=(F185 b).map (fun l=>i64 l):=by
 rw[od (fn:=p185) rfl rfl rfl]
 refine bo (e:=(fun(⟨c,f⟩:Int×Int)=>(nq [(0,.v (.int .u64 c)),(2,i64 f)] []))) ?_ fun⟨c,f⟩=>?_
 refine io ?_ (lf rfl)
 refine bo oi fun m=>?_
 exact lf rfl
 refine bo (e:=(fun(⟨g,h⟩:Int×Int)=>(nq [(0,.v (.int .u64 g)),(2,i64 h)] []))) ?_ fun⟨g,h⟩=>?_
 refine io ?_ (lf rfl)
 refine bo oi fun n=>?_
 exact lf rfl
 refine bo (e:=(fun(⟨i,a⟩:Int×Int)=>(nq [(0,.v (.int .u64 i)),(2,i64 a)] []))) ?_ fun⟨i,a⟩=>?_
 refine io ?_ (lf rfl)
 refine bo oi fun o=>?_
 exact lf rfl
 refine bo oi fun j=>?_
 exact lf rfl
def F179 (a:Int):Option Int:=
 (F185 a).bind fun b=>some b
theorem ok179 {k} (d) (a:Int):OD k (d+2) 179 [.v (.int .u64 a)]=(F179 a).map (fun b=>i64 b):=by
 rw[od (fn:=p179) rfl rfl rfl]
 refine bo (ok185 d a) fun c=>?_
 exact lf rfl
def F93 (a:Zg):Option Bool:=
 ((if decide (a.passes>0)then(shlO .i64 1 (w64 (a.passes-1))).bind fun b=>some (a.ending==b)else some false:Option (Bool))).bind fun c=>some c
theorem ok93 {k} (d) (a:Zg):OD k (d+1) 93 [.agg (Zg.g a)]=(F93 a).map (fun b=>bv b):=by
 rw[od (fn:=p93) rfl rfl rfl]
 refine bo (e:=id) ?_ fun f=>?_
 refine io ?_ (lf rfl)
 refine bo oi fun c=>?_
 exact lf rfl
 exact lf rfl
def F146 (a:Zg) (b:Zm):Option (Zg×Bool):=
 if b.RepeatStart||(a.body==0)then some (a,false)else if b.Endings !=a.ending then if((a.ending !=0)&&(!a.ended))||((iand .i64 b.Endings a.used)!=0)then some (a,false)else(F179 (IntKind.wrap .u64 (b.Endings))).bind fun k=>if a.passes==0 then if((iand .i64 b.Endings 1)==0)||(decide ((w64 (k-1))>6))then some ((Zg.mk a.started a.body (ior .i64 a.used b.Endings) b.Endings false a.passes),false)else if b.RepeatEnd !=0 then(F93 (Zg.mk a.started a.body (ior .i64 a.used b.Endings) b.Endings false a.passes)).bind fun l=>((if l||((a.passes !=0)&&(b.RepeatEnd !=a.passes))then some true else(F179 (IntKind.wrap .u64 (b.Endings))).bind fun m=>some (decide (m>=b.RepeatEnd)):Option (Bool))).bind fun n=>if n then some ((Zg.mk a.started a.body (ior .i64 a.used b.Endings) b.Endings false a.passes),false)else some ((Zg.mk a.started a.body (ior .i64 a.used b.Endings) b.Endings true b.RepeatEnd),true)else some ((Zg.mk a.started a.body (ior .i64 a.used b.Endings) b.Endings false a.passes),true)else((if decide ((w64 (k-1))>=a.passes)then some true else((if(w64 (k-1))==(w64 (a.passes-1))then(F93 (Zg.mk a.started a.body (ior .i64 a.used b.Endings) b.Endings false a.passes)).bind fun o=>((if !o then some true else(shlO .i64 1 a.passes).bind fun p=>some ((ior .i64 a.used b.Endings)!=(w64 (p-1))):Option (Bool))).bind fun q=>some q else some false:Option (Bool))).bind fun c=>some c:Option (Bool))).bind fun d=>if d then some ((Zg.mk a.started a.body (ior .i64 a.used b.Endings) b.Endings false a.passes),false)else if b.RepeatEnd !=0 then(F93 (Zg.mk a.started a.body (ior .i64 a.used b.Endings) b.Endings false a.passes)).bind fun e=>((if e||((a.passes !=0)&&(b.RepeatEnd !=a.passes))then some true else(F179 (IntKind.wrap .u64 (b.Endings))).bind fun f=>some (decide (f>=b.RepeatEnd)):Option (Bool))).bind fun g=>if g then some ((Zg.mk a.started a.body (ior .i64 a.used b.Endings) b.Endings false a.passes),false)else some ((Zg.mk a.started a.body (ior .i64 a.used b.Endings) b.Endings true b.RepeatEnd),true)else some ((Zg.mk a.started a.body (ior .i64 a.used b.Endings) b.Endings false a.passes),true)else if a.ended then some (a,false)else if b.RepeatEnd !=0 then(F93 a).bind fun h=>((if h||((a.passes !=0)&&(b.RepeatEnd !=a.passes))then some true else(F179 (IntKind.wrap .u64 (a.ending))).bind fun i=>some (decide (i>=b.RepeatEnd)):Option (Bool))).bind fun j=>if j then some (a,false)else some ((Zg.mk a.started a.body a.used a.ending true b.RepeatEnd),true)else some (a,true)
theorem ok146 {k} (d) (a:Zg) (b:Zm):OD k (d+3) 146 [.agg (Zg.g a),.agg (Zm.g b)]=(F146 a b).map (fun⟨o,p⟩=>.tup [.agg (Zg.g o),bv p]):=by
 rw[od (fn:=p146) rfl rfl rfl]
 refine bz (gor rfl) ?_
 refine io (lf rfl) ?_
 refine io ?_ ?_
 refine bz (gand rfl) ?_
 refine bz (gor rfl) ?_
 refine io (lf rfl) ?_
 refine bo (ok179 d (IntKind.wrap .u64 (b.Endings))) fun q=>?_
 refine io ?_ ?_
 refine bz (gor rfl) ?_
 refine io (lf rfl) ?_
 refine io ?_ (lf rfl)
 refine bo (ok93 (d+1) (Zg.mk a.started a.body (ior .i64 a.used b.Endings) b.Endings false a.passes)) fun r=>?_
 refine bz (gor (bz (gand rfl) rfl)) ?_
 refine bo (e:=id) ?_ fun t=>?_
 refine io (lf rfl) ?_
 refine bo (ok179 d (IntKind.wrap .u64 (b.Endings))) fun s=>?_
 exact lf rfl
 refine io (lf rfl) (lf rfl)
 refine bo (e:=id) ?_ fun f=>?_
 refine io (lf rfl) ?_
 refine bo (e:=id) ?_ fun c=>?_
 refine io ?_ (lf rfl)
 refine bo (ok93 (d+1) (Zg.mk a.started a.body (ior .i64 a.used b.Endings) b.Endings false a.passes)) fun u=>?_
 refine bo (e:=id) ?_ fun w=>?_
 refine io (lf rfl) ?_
 refine bo oi fun v=>?_
 exact lf rfl
 exact lf rfl
 exact lf rfl
 refine io (lf rfl) ?_
 refine io ?_ (lf rfl)
 refine bo (ok93 (d+1) (Zg.mk a.started a.body (ior .i64 a.used b.Endings) b.Endings false a.passes)) fun h=>?_
 refine bz (gor (bz (gand rfl) rfl)) ?_
 refine bo (e:=id) ?_ fun j=>?_
 refine io (lf rfl) ?_
 refine bo (ok179 d (IntKind.wrap .u64 (b.Endings))) fun i=>?_
 exact lf rfl
 refine io (lf rfl) (lf rfl)
 refine io (lf rfl) ?_
 refine io ?_ (lf rfl)
 refine bo (ok93 (d+1) a) fun l=>?_
 refine bz (gor (bz (gand rfl) rfl)) ?_
 refine bo (e:=id) ?_ fun n=>?_
 refine io (lf rfl) ?_
 refine bo (ok179 d (IntKind.wrap .u64 (a.ending))) fun m=>?_
 exact lf rfl
 refine io (lf rfl) (lf rfl)
def F92 (a:Zg) (b:Zm):Option (Zg×Bool):=
 if b.Endings !=0 then(F146 a b).bind fun⟨e,f⟩=>some (e,f)else if a.ending !=0 then(F93 a).bind fun g=>if !g then some (a,false)else if b.RepeatStart then if false then some ((Zg.mk false 0 0 0 false 0),false)else((if b.RepeatEnd !=0 then some (false,0)else some (true,1):Option (Bool×Int))).bind fun⟨h,i⟩=>some ((Zg.mk h i 0 0 false 0),true)else((if b.RepeatEnd !=0 then some 0 else some 1:Option (Int))).bind fun j=>some ((Zg.mk false j 0 0 false 0),true)else if b.RepeatStart then if a.started then some (a,false)else((if b.RepeatEnd !=0 then some (false,0)else some (true,1):Option (Bool×Int))).bind fun⟨k,c⟩=>some ((Zg.mk k c 0 0 false 0),true)else((if b.RepeatEnd !=0 then some (Zg.mk false 0 0 0 false 0)else some (Zg.mk a.started (w64 (a.body+1)) a.used a.ending a.ended a.passes):Option (Zg))).bind fun d=>some (d,true)
theorem ok92 {k} (d) (f:Zg) (a:Zm):OD k (d+4) 92 [.agg (Zg.g f),.agg (Zm.g a)]=(F92 f a).map (fun⟨m,n⟩=>.tup [.agg (Zg.g m),bv n]):=by
 rw[od (fn:=p92) rfl rfl rfl]
 refine io ?_ ?_
 refine bo (ok146 d f a) fun⟨o,p⟩=>?_
 exact lf rfl
 refine io ?_ ?_
 refine bo (ok93 (d+2) f) fun q=>?_
 refine io (lf rfl) ?_
 refine io ?_ ?_
 refine io (lf rfl) ?_
 refine bo (e:=(fun(⟨h,i⟩:Bool×Int)=>(nq [(2,.ref 0 0),(4,.ref 2 0)] [(2,.box [bv false,i64 0,i64 0,i64 0,bv false,i64 0]),(1,.box (Zm.g a)),(0,.box [bv h,i64 i,i64 0,i64 0,bv false,i64 0])]))) ?_ fun⟨h,i⟩=>?_
 refine io (lf rfl) (lf rfl)
 exact lf rfl
 refine bo (e:=(fun(j:Int)=>(nq [(2,.ref 0 0),(4,.ref 2 0)] [(2,.box [bv false,i64 0,i64 0,i64 0,bv false,i64 0]),(1,.box (Zm.g a)),(0,.box [bv false,i64 j,i64 0,i64 0,bv false,i64 0])]))) ?_ fun j=>?_
 refine io (lf rfl) (lf rfl)
 exact lf rfl
 refine io ?_ ?_
 refine io (lf rfl) ?_
 refine bo (e:=(fun(⟨l,b⟩:Bool×Int)=>(nq [(2,.ref 0 0),(4,.ref 2 0)] [(2,.box [bv false,i64 0,i64 0,i64 0,bv false,i64 0]),(1,.box (Zm.g a)),(0,.box [bv l,i64 b,i64 0,i64 0,bv false,i64 0])]))) ?_ fun⟨l,b⟩=>?_
 refine io (lf rfl) (lf rfl)
 exact lf rfl
 refine bo (e:=(fun(c:Zg)=>(nq [(2,.ref 0 0),(4,.ref 2 0)] [(2,.box [bv false,i64 0,i64 0,i64 0,bv false,i64 0]),(1,.box (Zm.g a)),(0,.box (Zg.g c))]))) ?_ fun c=>?_
 refine io (lf rfl) (lf rfl)
 exact lf rfl
def Fn47 (p:List Zv) (a:Z0) (n:Int):Option (List Zv):=
 (Fn64_6 p a n).bind fun e=>if decide ((e.length:Int)>(p.length:Int))then some e else(aP (E:=(Zg×(List Zv))⊕Zg) (fun(⟨o,b⟩:Int×Zg)=>if decide (o<(a.Measures.length:Int))then(lget a.Measures o).bind fun c=>(F92 b c).bind fun⟨d,f⟩=>if !f then(Fn57 true c.ID e a n).bind fun g=>some (.inr (.inl (d,g)))else some (.inl ((w64 (o+1)),d))else some (.inr (.inr b))) B64 (0,(Zg.mk false 0 0 0 false 0))).bind fun h=>(match h with|.inl ⟨x15,x16⟩=>some x16|.inr x17=>((if x17.started&&(x17.ending==0)then some true else((if x17.ending !=0 then(F93 x17).bind fun i=>some (!i)else some false:Option (Bool))).bind fun j=>some j:Option (Bool))).bind fun k=>(lget a.Measures (w64 ((a.Measures.length:Int)-1))).bind fun l=>(Fn57 k l.ID e a n).bind fun m=>some m)
theorem okn47 {k} (d) (l:List Zv) (a:Z0) (b:Int):runR (XD k (d+5)) 47 [.ref 1 0] [(2,.lst 119 3 false (I Zv.g l)),(1,.box (ck a b (.own 2)))] 3 false=(Fn47 l a b).map (fun(p:List Zv)=>((.tup [],[(2,.lst 119 3 false (I Zv.g p)),(1,.box (ck a b (.own 2)))],0))):=by
 rw[xd (fn:=p47) rfl]
 refine bz (bL Zv.g l) ?_
 refine bo (okn64_6 (d+1) l a b) fun j=>?_
 refine bz (bL Zv.g j) ?_
 refine io (lf rfl) ?_
 refine bz lm ?_
 refine bo (aG (S:=Int×Zg) (enc:=fun⟨q,c⟩=>(Q [(0,.ref 1 0),(3,.ref 3 0),(26,.is 22 (I Zm.g a.Measures)),(27,i64 (a.Measures.length:Int)),(28,i64 q)] [(3,.box (Zg.g c)),(2,.lst 119 3 false (I Zv.g j)),(1,.box (ck a b (.own 2)))])) (encE:=(fun|.inl ⟨h,i⟩=>(rq [(3,.ref 3 0)] [(3,.box (Zg.g h)),(2,.lst 119 3 false (I Zv.g i)),(1,.box (ck a b (.own 2)))])|.inr x17=>(xq 0 [(0,.ref 1 0),(3,.ref 3 0)] [(3,.box (Zg.g x17)),(2,.lst 119 3 false (I Zv.g j)),(1,.box (ck a b (.own 2)))]))) (fun⟨q,c⟩=>?_) B64 (0,(Zg.mk false 0 0 0 false 0))) fun m=>?_
 refine io ?_ (lf rfl)
 refine bo rg fun f=>?_
 refine bo (ok92 d c f) fun⟨r,s⟩=>?_
 refine io ?_ (lf rfl)
 refine bo (okn57 (d+3) true f.ID j a b) fun t=>?_
 exact lf rfl
 rcases m with⟨h,i⟩|x17
 exact lf rfl
 refine bz (gand rfl) ?_
 refine bo (e:=id) ?_ fun n=>?_
 refine io (lf rfl) ?_
 refine bo (e:=id) ?_ fun v=>?_
 refine io ?_ (lf rfl)
 refine bo (ok93 (d+3) x17) fun u=>?_
 exact lf rfl
 exact lf rfl
 refine bz lm ?_
 refine bo rg fun o=>?_
 refine bo (okn57 (d+3) n o.ID j a b) fun w=>?_
 exact lf rfl
def F95 (a b:Zm):Option Bool:=
 some (((b.Jump !=0)&&(a.Jump !=0))||((iand .i64 b.Labels a.Labels)!=0))
theorem ok95 {k} (d) (a b:Zm):OD k (d+1) 95 [.agg (Zm.g a),.ip (Zm.g b)]=(F95 a b).map (fun c=>bv c):=by
 rw[od (fn:=p95) rfl rfl rfl]
 refine bz (gand rfl) ?_
 refine bz (gor rfl) ?_
 exact lf rfl
def F147 (b:List Zm) (c:Zm):Option Int:=
 (aP (E:=Int⊕Unit) (fun(a:Int)=>if decide (a<(b.length:Int))then(lget b a).bind fun d=>(F95 d c).bind fun e=>if e then some (.inr (.inl a))else some (.inl (w64 (a+1)))else some (.inr (.inr ()))) B64 0).bind fun f=>(match f with|.inl x8=>some x8|.inr _=>some (-1))
theorem ok147 {k} (d) (a:List Zm) (b:Zm):OD k (d+2) 147 [.is 22 (I Zm.g a),.fn 95 [] [.ip (Zm.g b)]]=(F147 a b).map (fun i=>i64 i):=by
 rw[od (fn:=p147) rfl rfl rfl]
 refine bz lm ?_
 refine bo (aG (S:=Int) (enc:=fun c=>(Q [(0,.is 22 (I Zm.g a)),(1,.fn 95 [] [.ip (Zm.g b)]),(7,i64 (a.length:Int)),(8,i64 c)] [])) (encE:=(fun|.inl e=>(rq [(4,i64 e)] [])|.inr _=>(xq 0 [] []))) (fun c=>?_) B64 0) fun h=>?_
 refine io ?_ (lf rfl)
 refine bo rg fun f=>?_
 refine bo (ok95 d f b) fun j=>?_
 refine io (lf rfl) (lf rfl)
 rcases h with e|_
 exact lf rfl
 exact lf rfl
def F96 (a:List Zm) (b:Zm):Option Bool:=
 (F147 a b).bind fun c=>some (decide (c>=0))
theorem ok96 {k} (d) (a:List Zm) (b:Zm):OD k (d+3) 96 [.is 22 (I Zm.g a),.fn 95 [] [.ip (Zm.g b)]]=(F96 a b).map (fun c=>bv c):=by
 rw[od (fn:=p96) rfl rfl rfl]
 refine bo (ok147 d a b) fun e=>?_
 exact lf rfl
def F180 (a:Zm) (b:Int):Option Bool:=
 some ((iand .i64 a.Labels b)!=0)
theorem ok180 {k} (d) (a:Zm) (b:Int):OD k (d+1) 180 [.agg (Zm.g a),.ip [i64 b]]=(F180 a b).map (fun c=>bv c):=by
 rw[od (fn:=p180) rfl rfl rfl]
 exact lf rfl
def F147_2 (b:List Zm) (c:Int):Option Int:=
 (aP (E:=Int⊕Unit) (fun(a:Int)=>if decide (a<(b.length:Int))then(lget b a).bind fun d=>(F180 d c).bind fun e=>if e then some (.inr (.inl a))else some (.inl (w64 (a+1)))else some (.inr (.inr ()))) B64 0).bind fun f=>(match f with|.inl x8=>some x8|.inr _=>some (-1))
theorem ok147_2 {k} (d) (a:List Zm) (b:Int):OD k (d+2) 147 [.is 22 (I Zm.g a),.fn 180 [] [.ip [i64 b]]]=(F147_2 a b).map (fun i=>i64 i):=by
 rw[od (fn:=p147) rfl rfl rfl]
 refine bz lm ?_
 refine bo (aG (S:=Int) (enc:=fun c=>(Q [(0,.is 22 (I Zm.g a)),(1,.fn 180 [] [.ip [i64 b]]),(7,i64 (a.length:Int)),(8,i64 c)] [])) (encE:=(fun|.inl e=>(rq [(4,i64 e)] [])|.inr _=>(xq 0 [] []))) (fun c=>?_) B64 0) fun h=>?_
 refine io ?_ (lf rfl)
 refine bo rg fun f=>?_
 refine bo (ok180 d f b) fun j=>?_
 refine io (lf rfl) (lf rfl)
 rcases h with e|_
 exact lf rfl
 exact lf rfl
def F149 (a:Zk) (b:Int):Option Int:=
 (F147_2 a.s'.Measures b).bind fun c=>some c
theorem ok149 {k} (d) (a:Zk) (b:Int):OD k (d+3) 149 [.ip (Zk.g a),i64 b]=(F149 a b).map (fun c=>i64 c):=by
 rw[od (fn:=p149) rfl rfl rfl]
 refine bo (ok147_2 d a.s'.Measures b) fun e=>?_
 exact lf rfl
def F148 (a:Int) (b:Zk) (c:Int):Option Bool:=
 (F149 b a).bind fun d=>(F59 d 0 c).bind fun e=>some e
theorem ok148 {k} (d) (a:Int) (b:Zk) (c:Int):OD k (d+4) 148 [i64 a,.ip [.ip (Zk.g b)],.ip [i64 c]]=(F148 a b c).map (fun f=>bv f):=by
 rw[od (fn:=p148) rfl rfl rfl]
 refine bo (ok149 d b a) fun e=>?_
 refine bo (ok59 (d+2) e 0 c) fun h=>?_
 exact lf rfl
def F97 (b:Zk) (a f:Int):Option Bool:=
 ((if decide (a>=4)then(F148 1 b f).bind fun g=>some (!g)else some false:Option (Bool))).bind fun h=>if h then some false else((if a==2 then some (a==2)else some (a==5):Option (Bool))).bind fun i=>if i then(F148 4 b f).bind fun j=>some j else((if a==3 then some (a==3)else some (a==6):Option (Bool))).bind fun k=>if k then(F148 8 b f).bind fun l=>((if l then(F149 b 2).bind fun c=>(F149 b 8).bind fun d=>some (decide (c>d))else some false:Option (Bool))).bind fun e=>some e else some true
theorem ok97 {k} (d) (a:Zk) (c b:Int):OD k (d+5) 97 [.ip (Zk.g a),i64 c,i64 b]=(F97 a c b).map (fun m=>bv m):=by
 rw[od (fn:=p97) rfl rfl rfl]
 refine bo (e:=id) ?_ fun o=>?_
 refine io ?_ (lf rfl)
 refine bo (ok148 d 1 a b) fun n=>?_
 exact lf rfl
 refine io (lf rfl) ?_
 refine bo (e:=(fun(f:Bool)=>(nq [(3,.ref 0 0),(7,.fn 148 [] [.ref 0 0,.ref 1 0]),(16,i64 c),(17,bv f)] [(1,.box [i64 b]),(0,.box [.ip (Zk.g a)])]))) ?_ fun f=>?_
 refine io (lf rfl) (lf rfl)
 refine io ?_ ?_
 refine bo (ok148 d 4 a b) fun p=>?_
 exact lf rfl
 refine bo (e:=(fun(h:Bool)=>(nq [(3,.ref 0 0),(7,.fn 148 [] [.ref 0 0,.ref 1 0]),(22,bv h)] [(1,.box [i64 b]),(0,.box [.ip (Zk.g a)])]))) ?_ fun h=>?_
 refine io (lf rfl) (lf rfl)
 refine io ?_ (lf rfl)
 refine bo (ok148 d 8 a b) fun q=>?_
 refine bo (e:=id) ?_ fun l=>?_
 refine io ?_ (lf rfl)
 refine bo (ok149 (d+1) a 2) fun i=>?_
 refine bo (ok149 (d+1) a 8) fun j=>?_
 exact lf rfl
 exact lf rfl
def F94 (c:Int) (a:Zm) (d:Zk):Option Bool:=
 (F59 a.Jump 0 6).bind fun e=>((if !e then some true else(F59 a.Labels 0 15).bind fun f=>some (!f):Option (Bool))).bind fun g=>if g||(((a.Jump !=0)||(a.Labels !=0))&&((a.RepeatEnd !=0)||(a.Endings !=0)))then some true else(eY d.s'.Measures 0 c).bind fun h=>(F96 h a).bind fun i=>((if i then some true else(F97 d a.Jump c).bind fun j=>some (!j):Option (Bool))).bind fun b=>some b
theorem ok94 {k} (d) (b:Int) (a:Zm) (c:Zk):OD k (d+6) 94 [i64 b,.agg (Zm.g a),.ip [.ip (Zk.g c)]]=(F94 b a c).map (fun i=>bv i):=by
 rw[od (fn:=p94) rfl rfl rfl]
 refine bo (ok59 (d+4) a.Jump 0 6) fun j=>?_
 refine bo (e:=id) ?_ fun m=>?_
 refine io (lf rfl) ?_
 refine bo (ok59 (d+4) a.Labels 0 15) fun l=>?_
 exact lf rfl
 refine bz (gor (bz (gor rfl) (bz (gand (bz (gor rfl) rfl)) rfl))) ?_
 refine io (lf rfl) ?_
 refine bo (eZ _ _ _ _) fun h=>?_
 refine bo (ok96 (d+2) h a) fun n=>?_
 refine bo (e:=id) ?_ fun f=>?_
 refine io (lf rfl) ?_
 refine bo (ok97 d c a.Jump b) fun o=>?_
 exact lf rfl
 exact lf rfl
def Fn64_7 (i:List Zv) (a:Z0) (g:Int):Option (List Zv):=
 (aP (E:=List Zv) (fun(⟨b,f⟩:Int×(List Zv))=>if decide (b<(a.Measures.length:Int))then(lget a.Measures b).bind fun h=>(F94 b h (Zk.mk a g f)).bind fun c=>(Fn57 c h.ID f a g).bind fun d=>some (.inl ((w64 (b+1)),d))else some (.inr f)) B64 (0,i)).bind fun e=>some e
theorem okn64_7 {k} (d) (f:List Zv) (a:Z0) (b:Int):runR (XD k (d+7)) 64 [.ref 1 0,.fn 94 [] [.ref 3 0]] [(3,.box [.ref 1 0]),(2,.lst 119 3 false (I Zv.g f)),(1,.box (ck a b (.own 2)))] 4 false=(Fn64_7 f a b).map (fun(i:List Zv)=>((.tup [],[(3,.box [.ref 1 0]),(2,.lst 119 3 false (I Zv.g i)),(1,.box (ck a b (.own 2)))],0))):=by
 rw[xd (fn:=p64) rfl]
 refine bz lm ?_
 refine bo (aG (S:=Int×(List Zv)) (enc:=fun⟨j,e⟩=>(Q [(0,.ref 1 0),(1,.fn 94 [] [.ref 3 0]),(10,.is 22 (I Zm.g a.Measures)),(11,i64 (a.Measures.length:Int)),(12,i64 j)] [(3,.box [.ref 1 0]),(2,.lst 119 3 false (I Zv.g e)),(1,.box (ck a b (.own 2)))])) (encE:=(fun(c:List Zv)=>(xq 0 [] [(3,.box [.ref 1 0]),(2,.lst 119 3 false (I Zv.g c)),(1,.box (ck a b (.own 2)))]))) (fun⟨j,e⟩=>?_) B64 (0,f)) fun c=>?_
 refine io ?_ (lf rfl)
 refine bo rg fun l=>?_
 refine bo (ok94 d j l (Zk.mk a b e)) fun h=>?_
 refine bo (okn57 (d+5) h l.ID e a b) fun m=>?_
 exact lf rfl
 exact lf rfl
def Fn48 (a:List Zv) (b:Z0) (c:Int):Option (List Zv):=
 (Fn64_7 a b c).bind fun d=>some d
theorem okn48 {k} (d) (c:List Zv) (a:Z0) (b:Int):runR (XD k (d+8)) 48 [.ref 1 0] [(2,.lst 119 3 false (I Zv.g c)),(1,.box (ck a b (.own 2)))] 3 false=(Fn48 c a b).map (fun(e:List Zv)=>((.tup [],[(2,.lst 119 3 false (I Zv.g e)),(1,.box (ck a b (.own 2)))],0))):=by
 rw[xd (fn:=p48) rfl]
 refine bo (okn64_7 d c a b) fun f=>?_
 exact lf rfl
def F98 (r:Int) (c:Zm):Option Bool:=
 (F29 c).bind fun⟨m,s⟩=>((if c.Swing !=0 then(F59 c.Swing 50 75).bind fun n=>some (!n)else some false:Option (Bool))).bind fun o=>((if o then some true else(F59 c.Break 0 3).bind fun p=>some (!p):Option (Bool))).bind fun q=>(aP (E:=Bool) (fun(⟨d,a⟩:Bool×Int)=>if decide (a<(c.Tempi.length:Int))then(lget c.Tempi a).bind fun b=>((if d then some true else(F59 b.At 0 (w64 (m-1))).bind fun e=>some (!e):Option (Bool))).bind fun f=>((if f then some true else(F59 b.Micros 1 60000000).bind fun g=>some (!g):Option (Bool))).bind fun h=>((if h then some true else((if decide (a>0)then(lget c.Tempi (w64 (a-1))).bind fun i=>some (decide (b.At<=i.At))else some false:Option (Bool))).bind fun j=>some j:Option (Bool))).bind fun k=>some (.inl (k,(w64 (a+1))))else some (.inr d)) B64 (q,0)).bind fun l=>some l
theorem ok98 {k} (d) (i:Int) (a:Zm):OD k (d+5) 98 [i64 i,.agg (Zm.g a)]=(F98 i a).map (fun t=>bv t):=by
 rw[od (fn:=p98) rfl rfl rfl]
 refine bo (ok29 d a) fun⟨j,u⟩=>?_
 refine bo (e:=id) ?_ fun w=>?_
 refine io ?_ (lf rfl)
 refine bo (ok59 (d+3) a.Swing 50 75) fun v=>?_
 exact lf rfl
 refine bo (e:=id) ?_ fun s=>?_
 refine io (lf rfl) ?_
 refine bo (ok59 (d+3) a.Break 0 3) fun x=>?_
 exact lf rfl
 refine bz lm ?_
 refine bo (aG (S:=Bool×Int) (enc:=fun⟨b,c⟩=>(Q [(3,.ref 0 0),(5,i64 j),(7,bv b),(31,.is 3 (I Zt.g a.Tempi)),(32,i64 (a.Tempi.length:Int)),(33,i64 c)] [(0,.box (Zm.g a))])) (encE:=(fun(h:Bool)=>(xq 0 [(7,bv h)] [(0,.box (Zm.g a))]))) (fun⟨b,c⟩=>?_) B64 (s,0)) fun h=>?_
 refine io ?_ (lf rfl)
 refine bo rg fun f=>?_
 refine bo (e:=id) ?_ fun m=>?_
 refine io (lf rfl) ?_
 refine bo (ok59 (d+3) f.At 0 (w64 (j-1))) fun l=>?_
 exact lf rfl
 refine bo (e:=id) ?_ fun o=>?_
 refine io (lf rfl) ?_
 refine bo (ok59 (d+3) f.Micros 1 60000000) fun n=>?_
 exact lf rfl
 refine bo (e:=id) ?_ fun r=>?_
 refine io (lf rfl) ?_
 refine bo (e:=id) ?_ fun q=>?_
 refine io ?_ (lf rfl)
 refine bo rg fun p=>?_
 exact lf rfl
 exact lf rfl
 exact lf rfl
 exact lf rfl
def Fn64_8 (h:List Zv) (e:Z0) (i:Int):Option (List Zv):=
 (aP (E:=List Zv) (fun(⟨a,f⟩:Int×(List Zv))=>if decide (a<(e.Measures.length:Int))then(lget e.Measures a).bind fun g=>(F98 a g).bind fun b=>(Fn57 b g.ID f e i).bind fun c=>some (.inl ((w64 (a+1)),c))else some (.inr f)) B64 (0,h)).bind fun d=>some d
theorem okn64_8 {k} (d) (e:List Zv) (a:Z0) (b:Int):runR (XD k (d+6)) 64 [.ref 1 0,.fn 98 [] []] [(2,.lst 119 3 false (I Zv.g e)),(1,.box (ck a b (.own 2)))] 3 false=(Fn64_8 e a b).map (fun(h:List Zv)=>((.tup [],[(2,.lst 119 3 false (I Zv.g h)),(1,.box (ck a b (.own 2)))],0))):=by
 rw[xd (fn:=p64) rfl]
 refine bz lm ?_
 refine bo (aG (S:=Int×(List Zv)) (enc:=fun⟨i,j⟩=>(Q [(0,.ref 1 0),(1,.fn 98 [] []),(10,.is 22 (I Zm.g a.Measures)),(11,i64 (a.Measures.length:Int)),(12,i64 i)] [(2,.lst 119 3 false (I Zv.g j)),(1,.box (ck a b (.own 2)))])) (encE:=(fun(c:List Zv)=>(xq 0 [] [(2,.lst 119 3 false (I Zv.g c)),(1,.box (ck a b (.own 2)))]))) (fun⟨i,j⟩=>?_) B64 (0,e)) fun c=>?_
 refine io ?_ (lf rfl)
 refine bo rg fun l=>?_
 refine bo (ok98 d i l) fun f=>?_
 refine bo (okn57 (d+4) f l.ID j a b) fun m=>?_
 exact lf rfl
 exact lf rfl
def Fn49 (a:List Zv) (b:Z0) (c:Int):Option (List Zv):=
 (Fn64_8 a b c).bind fun d=>some d
theorem okn49 {k} (d) (c:List Zv) (a:Z0) (b:Int):runR (XD k (d+7)) 49 [.ref 1 0] [(2,.lst 119 3 false (I Zv.g c)),(1,.box (ck a b (.own 2)))] 3 false=(Fn49 c a b).map (fun(e:List Zv)=>((.tup [],[(2,.lst 119 3 false (I Zv.g e)),(1,.box (ck a b (.own 2)))],0))):=by
 rw[xd (fn:=p49) rfl]
 refine bo (okn64_8 d c a b) fun f=>?_
 exact lf rfl
def F99 (b:Zp) (f:Ze) (c:Zk):Option Bool:=
 (F84 c.s' b).bind fun⟨e,g⟩=>((if !g then some true else(F83 f).bind fun h=>some (!h):Option (Bool))).bind fun i=>if i||(e.Measure==b.Measure)then some false else(lget c.s'.Measures b.Measure).bind fun a=>(lget c.s'.Measures e.Measure).bind fun d=>some ((((((a.RepeatEnd !=0)||(a.Jump !=0))||((iand .i64 a.Labels 12)!=0))||(a.Endings !=d.Endings))||d.RepeatStart)||((iand .i64 d.Labels 3)!=0))
theorem ok99 {k} (d) (a:Zp) (b:Ze) (c:Zk):OD k (d+5) 99 [.agg (Zp.g a),.agg (Ze.g b),.ip [.ip (Zk.g c)]]=(F99 a b c).map (fun f=>bv f):=by
 rw[od (fn:=p99) rfl rfl rfl]
 refine bo (ok84 (d+1) c.s' a) fun⟨h,i⟩=>?_
 refine bo (e:=id) ?_ fun l=>?_
 refine io (lf rfl) ?_
 refine bo (ok83 d b) fun j=>?_
 exact lf rfl
 refine bz (gor rfl) ?_
 refine io (lf rfl) ?_
 refine bo rg fun m=>?_
 refine bo rg fun n=>?_
 refine bz (gor rfl) ?_
 refine bz (gor rfl) ?_
 refine bz (gor rfl) ?_
 refine bz (gor rfl) ?_
 refine bz (gor rfl) ?_
 exact lf rfl
def Fn73_5 (u:List Zv) (s:Z0) (t:Int):Option (List Zv):=
 (aP (E:=List Zv) (fun(⟨c,m⟩:Int×(List Zv))=>if decide (c<(s.Measures.length:Int))then(lget s.Measures c).bind fun n=>(aP (E:=List Zv) (fun(⟨d,o⟩:Int×(List Zv))=>if decide (d<(n.Cells.length:Int))then(lget n.Cells d).bind fun p=>(aP (E:=List Zv) (fun(⟨e,q⟩:Int×(List Zv))=>if decide (e<(p.Voices.length:Int))then(lget p.Voices e).bind fun r=>(aP (E:=List Zv) (fun(⟨a,b⟩:Int×(List Zv))=>if decide (a<(r.Events.length:Int))then(lget r.Events a).bind fun f=>(F99 (Zp.mk 4 0 d c e a 0) f (Zk.mk s t b)).bind fun g=>(Fn57 g f.ID b s t).bind fun h=>some (.inl ((w64 (a+1)),h))else some (.inr b)) B64 (0,q)).bind fun i=>some (.inl ((w64 (e+1)),i))else some (.inr q)) B64 (0,o)).bind fun j=>some (.inl ((w64 (d+1)),j))else some (.inr o)) B64 (0,m)).bind fun k=>some (.inl ((w64 (c+1)),k))else some (.inr m)) B64 (0,u)).bind fun l=>some l
theorem okn73_5 {k} (d) (x:List Zv) (c:Z0) (i:Int):runR (XD k (d+6)) 73 [.ref 1 0,.fn 99 [] [.ref 3 0]] [(3,.box [.ref 1 0]),(2,.lst 119 3 false (I Zv.g x)),(1,.box (ck c i (.own 2)))] 4 false=(Fn73_5 x c i).map (fun(w:List Zv)=>((.tup [],[(3,.box [.ref 1 0]),(2,.lst 119 3 false (I Zv.g w)),(1,.box (ck c i (.own 2)))],0))):=by
 rw[xd (fn:=p73) rfl]
 refine bz lm ?_
 refine bo (aG (S:=Int×(List Zv)) (enc:=fun⟨b,s⟩=>(Q [(0,.ref 1 0),(1,.fn 99 [] [.ref 3 0]),(16,.is 22 (I Zm.g c.Measures)),(17,i64 (c.Measures.length:Int)),(18,i64 b)] [(3,.box [.ref 1 0]),(2,.lst 119 3 false (I Zv.g s)),(1,.box (ck c i (.own 2)))])) (encE:=(fun(r:List Zv)=>(xq 0 [] [(3,.box [.ref 1 0]),(2,.lst 119 3 false (I Zv.g r)),(1,.box (ck c i (.own 2)))]))) (fun⟨b,s⟩=>?_) B64 (0,x)) fun r=>?_
 refine io ?_ (lf rfl)
 refine bo rg fun a=>?_
 refine bz lm ?_
 refine bo (aG (S:=Int×(List Zv)) (enc:=fun⟨e,t⟩=>(Q [(0,.ref 1 0),(1,.fn 99 [] [.ref 3 0]),(4,i64 b),(16,.is 22 (I Zm.g c.Measures)),(17,i64 (c.Measures.length:Int)),(18,i64 b),(24,.is 2 (I Zw.g a.Cells)),(25,i64 (a.Cells.length:Int)),(26,i64 e)] [(4,.box (Zm.g a)),(3,.box [.ref 1 0]),(2,.lst 119 3 false (I Zv.g t)),(1,.box (ck c i (.own 2)))])) (encE:=(fun(q:List Zv)=>(xq 2 [(0,.ref 1 0),(1,.fn 99 [] [.ref 3 0]),(16,.is 22 (I Zm.g c.Measures)),(17,i64 (c.Measures.length:Int)),(18,i64 b)] [(4,.box (Zm.g a)),(3,.box [.ref 1 0]),(2,.lst 119 3 false (I Zv.g q)),(1,.box (ck c i (.own 2)))]))) (fun⟨e,t⟩=>?_) B64 (0,s)) fun q=>?_
 refine io ?_ (lf rfl)
 refine bo rg fun f=>?_
 refine bz lm ?_
 refine bo (aG (S:=Int×(List Zv)) (enc:=fun⟨j,u⟩=>(Q [(0,.ref 1 0),(1,.fn 99 [] [.ref 3 0]),(4,i64 b),(6,i64 e),(16,.is 22 (I Zm.g c.Measures)),(17,i64 (c.Measures.length:Int)),(18,i64 b),(24,.is 2 (I Zw.g a.Cells)),(25,i64 (a.Cells.length:Int)),(26,i64 e),(32,.is 2 (I Zo.g f.Voices)),(33,i64 (f.Voices.length:Int)),(34,i64 j)] [(5,.box (Zw.g f)),(4,.box (Zm.g a)),(3,.box [.ref 1 0]),(2,.lst 119 3 false (I Zv.g u)),(1,.box (ck c i (.own 2)))])) (encE:=(fun(p:List Zv)=>(xq 4 [(0,.ref 1 0),(1,.fn 99 [] [.ref 3 0]),(4,i64 b),(16,.is 22 (I Zm.g c.Measures)),(17,i64 (c.Measures.length:Int)),(18,i64 b),(24,.is 2 (I Zw.g a.Cells)),(25,i64 (a.Cells.length:Int)),(26,i64 e)] [(5,.box (Zw.g f)),(4,.box (Zm.g a)),(3,.box [.ref 1 0]),(2,.lst 119 3 false (I Zv.g p)),(1,.box (ck c i (.own 2)))]))) (fun⟨j,u⟩=>?_) B64 (0,t)) fun p=>?_
 refine io ?_ (lf rfl)
 refine bo rg fun m=>?_
 refine bz lm ?_
 refine bo (aG (S:=Int×(List Zv)) (enc:=fun⟨l,h⟩=>(Q [(0,.ref 1 0),(1,.fn 99 [] [.ref 3 0]),(4,i64 b),(6,i64 e),(8,i64 j),(16,.is 22 (I Zm.g c.Measures)),(17,i64 (c.Measures.length:Int)),(18,i64 b),(24,.is 2 (I Zw.g a.Cells)),(25,i64 (a.Cells.length:Int)),(26,i64 e),(32,.is 2 (I Zo.g f.Voices)),(33,i64 (f.Voices.length:Int)),(34,i64 j),(40,.is 13 (I Ze.g m.Events)),(41,i64 (m.Events.length:Int)),(42,i64 l)] [(6,.box (Zo.g m)),(5,.box (Zw.g f)),(4,.box (Zm.g a)),(3,.box [.ref 1 0]),(2,.lst 119 3 false (I Zv.g h)),(1,.box (ck c i (.own 2)))])) (encE:=(fun(o:List Zv)=>(xq 6 [(0,.ref 1 0),(1,.fn 99 [] [.ref 3 0]),(4,i64 b),(6,i64 e),(16,.is 22 (I Zm.g c.Measures)),(17,i64 (c.Measures.length:Int)),(18,i64 b),(24,.is 2 (I Zw.g a.Cells)),(25,i64 (a.Cells.length:Int)),(26,i64 e),(32,.is 2 (I Zo.g f.Voices)),(33,i64 (f.Voices.length:Int)),(34,i64 j)] [(6,.box (Zo.g m)),(5,.box (Zw.g f)),(4,.box (Zm.g a)),(3,.box [.ref 1 0]),(2,.lst 119 3 false (I Zv.g o)),(1,.box (ck c i (.own 2)))]))) (fun⟨l,h⟩=>?_) B64 (0,u)) fun o=>?_
 refine io ?_ (lf rfl)
 refine bo rg fun n=>?_
 refine bo (ok99 d (Zp.mk 4 0 e b j l 0) n (Zk.mk c i h)) fun v=>?_
 refine bo (okn57 (d+4) v n.ID h c i) fun y=>?_
 exact lf rfl
 exact lf rfl
 exact lf rfl
 exact lf rfl
 exact lf rfl
def Fn50 (a:List Zv) (b:Z0) (c:Int):Option (List Zv):=
 (Fn73_5 a b c).bind fun d=>some d
theorem okn50 {k} (d) (c:List Zv) (a:Z0) (b:Int):runR (XD k (d+7)) 50 [.ref 1 0] [(2,.lst 119 3 false (I Zv.g c)),(1,.box (ck a b (.own 2)))] 3 false=(Fn50 c a b).map (fun(e:List Zv)=>((.tup [],[(2,.lst 119 3 false (I Zv.g e)),(1,.box (ck a b (.own 2)))],0))):=by
 rw[xd (fn:=p50) rfl]
 refine bo (okn73_5 d c a b) fun f=>?_
 exact lf rfl
def F28 (a:Z0):Option (List Zv):=
 ((if decide ((([]:List Zv).length:Int)>0)then((if false then some true else((if false then(lidx ([]:List Zv) 0).bind fun x2=>(lnth ([]:List Zv) x2).bind fun x3=>some (decide (x3.Rule<10))else some false:Option (Bool))).bind fun x4=>some x4:Option (Bool))).bind fun x5=>some x5 else some false:Option (Bool))).bind fun x6=>if x6 then some []else(Fn34 [] a 1).bind fun u=>((if decide ((u.length:Int)>0)then((if true then some true else((if false then(lidx u 0).bind fun x8=>(lnth u x8).bind fun x9=>some (decide (x9.Rule<10))else some false:Option (Bool))).bind fun v=>some v:Option (Bool))).bind fun w=>some w else some false:Option (Bool))).bind fun x=>if x then some u else(Fn35 u a 2).bind fun b=>((if decide ((b.length:Int)>0)then((if false then some true else((if false then(lidx b 0).bind fun y=>(lnth b y).bind fun z=>some (decide (z.Rule<10))else some false:Option (Bool))).bind fun A=>some A:Option (Bool))).bind fun B=>some B else some false:Option (Bool))).bind fun C=>if C then some b else(Fn36 b a 3).bind fun c=>((if decide ((c.length:Int)>0)then((if false then some true else((if false then(lidx c 0).bind fun D=>(lnth c D).bind fun E=>some (decide (E.Rule<10))else some false:Option (Bool))).bind fun F=>some F:Option (Bool))).bind fun G=>some G else some false:Option (Bool))).bind fun H=>if H then some c else(Fn37 c a 4).bind fun d=>((if decide ((d.length:Int)>0)then((if false then some true else((if false then(lidx d 0).bind fun J=>(lnth d J).bind fun K=>some (decide (K.Rule<10))else some false:Option (Bool))).bind fun L=>some L:Option (Bool))).bind fun M=>some M else some false:Option (Bool))).bind fun N=>if N then some d else(Fn38 d a 5).bind fun e=>((if decide ((e.length:Int)>0)then((if false then some true else((if false then(lidx e 0).bind fun O=>(lnth e O).bind fun P=>some (decide (P.Rule<10))else some false:Option (Bool))).bind fun R=>some R:Option (Bool))).bind fun S=>some S else some false:Option (Bool))).bind fun T=>if T then some e else(Fn39 e a 6).bind fun f=>((if decide ((f.length:Int)>0)then((if false then some true else((if false then(lidx f 0).bind fun U=>(lnth f U).bind fun V=>some (decide (V.Rule<10))else some false:Option (Bool))).bind fun W=>some W:Option (Bool))).bind fun X=>some X else some false:Option (Bool))).bind fun Y=>if Y then some f else(Fn40 f a 7).bind fun g=>((if decide ((g.length:Int)>0)then((if false then some true else((if false then(lidx g 0).bind fun Z=>(lnth g Z).bind fun a0=>some (decide (a0.Rule<10))else some false:Option (Bool))).bind fun b0=>some b0:Option (Bool))).bind fun b4=>some b4 else some false:Option (Bool))).bind fun b5=>if b5 then some g else(Fn41 g a 8).bind fun h=>((if decide ((h.length:Int)>0)then((if false then some true else((if false then(lidx h 0).bind fun b6=>(lnth h b6).bind fun b7=>some (decide (b7.Rule<10))else some false:Option (Bool))).bind fun b8=>some b8:Option (Bool))).bind fun b9=>some b9 else some false:Option (Bool))).bind fun d1=>if d1 then some h else(Fn42 h a 9).bind fun i=>((if decide ((i.length:Int)>0)then((if false then some true else((if true then(lidx i 0).bind fun d2=>(lnth i d2).bind fun d3=>some (decide (d3.Rule<10))else some false:Option (Bool))).bind fun d4=>some d4:Option (Bool))).bind fun d5=>some d5 else some false:Option (Bool))).bind fun d6=>if d6 then some i else(Fn43 i a 10).bind fun j=>((if decide ((j.length:Int)>0)then((if false then some true else((if true then(lidx j 0).bind fun d7=>(lnth j d7).bind fun d8=>some (decide (d8.Rule<10))else some false:Option (Bool))).bind fun d9=>some d9:Option (Bool))).bind fun e0=>some e0 else some false:Option (Bool))).bind fun e1=>if e1 then some j else(Fn44 j a 11).bind fun k=>((if decide ((k.length:Int)>0)then((if false then some true else((if true then(lidx k 0).bind fun e3=>(lnth k e3).bind fun e4=>some (decide (e4.Rule<10))else some false:Option (Bool))).bind fun e5=>some e5:Option (Bool))).bind fun e6=>some e6 else some false:Option (Bool))).bind fun e7=>if e7 then some k else(Fn45 k a 12).bind fun l=>((if decide ((l.length:Int)>0)then((if false then some true else((if true then(lidx l 0).bind fun e8=>(lnth l e8).bind fun e9=>some (decide (e9.Rule<10))else some false:Option (Bool))).bind fun f1=>some f1:Option (Bool))).bind fun f2=>some f2 else some false:Option (Bool))).bind fun f4=>if f4 then some l else(Fn46 l a 13).bind fun m=>((if decide ((m.length:Int)>0)then((if false then some true else((if true then(lidx m 0).bind fun f5=>(lnth m f5).bind fun f6=>some (decide (f6.Rule<10))else some false:Option (Bool))).bind fun f7=>some f7:Option (Bool))).bind fun f8=>some f8 else some false:Option (Bool))).bind fun f9=>if f9 then some m else(Fn47 m a 14).bind fun n=>((if decide ((n.length:Int)>0)then((if false then some true else((if true then(lidx n 0).bind fun g1=>(lnth n g1).bind fun g3=>some (decide (g3.Rule<10))else some false:Option (Bool))).bind fun g4=>some g4:Option (Bool))).bind fun g5=>some g5 else some false:Option (Bool))).bind fun g6=>if g6 then some n else(Fn48 n a 15).bind fun o=>((if decide ((o.length:Int)>0)then((if false then some true else((if true then(lidx o 0).bind fun g7=>(lnth o g7).bind fun g8=>some (decide (g8.Rule<10))else some false:Option (Bool))).bind fun g9=>some g9:Option (Bool))).bind fun h0=>some h0 else some false:Option (Bool))).bind fun h2=>if h2 then some o else(Fn49 o a 16).bind fun p=>((if decide ((p.length:Int)>0)then((if false then some true else((if true then(lidx p 0).bind fun h3=>(lnth p h3).bind fun h4=>some (decide (h4.Rule<10))else some false:Option (Bool))).bind fun q=>some q:Option (Bool))).bind fun r=>some r else some false:Option (Bool))).bind fun s=>if s then some p else(Fn50 p a 17).bind fun t=>some t
theorem ok28 {k} (d) (a:Z0):OD k (d+25) 28 [.agg (Z0.g a)]=(F28 a).map (fun y0=>.is 3 (I Zv.g y0)):=by
 rw[od (fn:=p28) rfl rfl rfl]
 refine bz (bL Zv.g ([]:List Zv)) ?_
 refine bo (e:=id) ?_ fun x6=>?_
 refine io ?_ (lf rfl)
 refine bo (e:=id) ?_ fun x5=>?_
 refine io (lf rfl) ?_
 refine bo (e:=id) ?_ fun x4=>?_
 refine io ?_ (lf rfl)
 refine bo (aK Zv.g ([]:List Zv) _) fun x2=>?_
 refine bo (aX (A:=Zv) (c:=Zv.g) (g:=fun S=>i64 S.Rule) (fun _=>rfl) ([]:List Zv) _) fun S=>?_
 exact lf rfl
 exact lf rfl
 exact lf rfl
 refine io (lf rfl) ?_
 refine bo (okn34 (d+19) [] a 1) fun M=>?_
 refine bz (bL Zv.g M) ?_
 refine bo (e:=id) ?_ fun W=>?_
 refine io ?_ (lf rfl)
 refine bo (e:=id) ?_ fun V=>?_
 refine io (lf rfl) ?_
 refine bo (e:=id) ?_ fun U=>?_
 refine io ?_ (lf rfl)
 refine bo (aK Zv.g M _) fun x8=>?_
 refine bo (aX (A:=Zv) (c:=Zv.g) (g:=fun T=>i64 T.Rule) (fun _=>rfl) M _) fun T=>?_
 exact lf rfl
 exact lf rfl
 exact lf rfl
 refine io (lf rfl) ?_
 refine bo (okn35 (d+20) M a 2) fun b=>?_
 refine bz (bL Zv.g b) ?_
 refine bo (e:=id) ?_ fun a0=>?_
 refine io ?_ (lf rfl)
 refine bo (e:=id) ?_ fun Z=>?_
 refine io (lf rfl) ?_
 refine bo (e:=id) ?_ fun Y=>?_
 refine io ?_ (lf rfl)
 refine bo (aK Zv.g b _) fun X=>?_
 refine bo (aX (A:=Zv) (c:=Zv.g) (g:=fun v=>i64 v.Rule) (fun _=>rfl) b _) fun v=>?_
 exact lf rfl
 exact lf rfl
 exact lf rfl
 refine io (lf rfl) ?_
 refine bo (okn36 (d+21) b a 3) fun f=>?_
 refine bz (bL Zv.g f) ?_
 refine bo (e:=id) ?_ fun b6=>?_
 refine io ?_ (lf rfl)
 refine bo (e:=id) ?_ fun b5=>?_
 refine io (lf rfl) ?_
 refine bo (e:=id) ?_ fun b4=>?_
 refine io ?_ (lf rfl)
 refine bo (aK Zv.g f _) fun b0=>?_
 refine bo (aX (A:=Zv) (c:=Zv.g) (g:=fun w=>i64 w.Rule) (fun _=>rfl) f _) fun w=>?_
 exact lf rfl
 exact lf rfl
 exact lf rfl
 refine io (lf rfl) ?_
 refine bo (okn37 (d+17) f a 4) fun h=>?_
 refine bz (bL Zv.g h) ?_
 refine bo (e:=id) ?_ fun d1=>?_
 refine io ?_ (lf rfl)
 refine bo (e:=id) ?_ fun b9=>?_
 refine io (lf rfl) ?_
 refine bo (e:=id) ?_ fun b8=>?_
 refine io ?_ (lf rfl)
 refine bo (aK Zv.g h _) fun b7=>?_
 refine bo (aX (A:=Zv) (c:=Zv.g) (g:=fun x=>i64 x.Rule) (fun _=>rfl) h _) fun x=>?_
 exact lf rfl
 exact lf rfl
 exact lf rfl
 refine io (lf rfl) ?_
 refine bo (okn38 (d+17) h a 5) fun i=>?_
 refine bz (bL Zv.g i) ?_
 refine bo (e:=id) ?_ fun d5=>?_
 refine io ?_ (lf rfl)
 refine bo (e:=id) ?_ fun d4=>?_
 refine io (lf rfl) ?_
 refine bo (e:=id) ?_ fun d3=>?_
 refine io ?_ (lf rfl)
 refine bo (aK Zv.g i _) fun d2=>?_
 refine bo (aX (A:=Zv) (c:=Zv.g) (g:=fun y=>i64 y.Rule) (fun _=>rfl) i _) fun y=>?_
 exact lf rfl
 exact lf rfl
 exact lf rfl
 refine io (lf rfl) ?_
 refine bo (okn39 d i a 6) fun j=>?_
 refine bz (bL Zv.g j) ?_
 refine bo (e:=id) ?_ fun d9=>?_
 refine io ?_ (lf rfl)
 refine bo (e:=id) ?_ fun d8=>?_
 refine io (lf rfl) ?_
 refine bo (e:=id) ?_ fun d7=>?_
 refine io ?_ (lf rfl)
 refine bo (aK Zv.g j _) fun d6=>?_
 refine bo (aX (A:=Zv) (c:=Zv.g) (g:=fun z=>i64 z.Rule) (fun _=>rfl) j _) fun z=>?_
 exact lf rfl
 exact lf rfl
 exact lf rfl
 refine io (lf rfl) ?_
 refine bo (okn40 d j a 7) fun l=>?_
 refine bz (bL Zv.g l) ?_
 refine bo (e:=id) ?_ fun e4=>?_
 refine io ?_ (lf rfl)
 refine bo (e:=id) ?_ fun e3=>?_
 refine io (lf rfl) ?_
 refine bo (e:=id) ?_ fun e1=>?_
 refine io ?_ (lf rfl)
 refine bo (aK Zv.g l _) fun e0=>?_
 refine bo (aX (A:=Zv) (c:=Zv.g) (g:=fun B=>i64 B.Rule) (fun _=>rfl) l _) fun B=>?_
 exact lf rfl
 exact lf rfl
 exact lf rfl
 refine io (lf rfl) ?_
 refine bo (okn41 (d+13) l a 8) fun m=>?_
 refine bz (bL Zv.g m) ?_
 refine bo (e:=id) ?_ fun e8=>?_
 refine io ?_ (lf rfl)
 refine bo (e:=id) ?_ fun e7=>?_
 refine io (lf rfl) ?_
 refine bo (e:=id) ?_ fun e6=>?_
 refine io ?_ (lf rfl)
 refine bo (aK Zv.g m _) fun e5=>?_
 refine bo (aX (A:=Zv) (c:=Zv.g) (g:=fun C=>i64 C.Rule) (fun _=>rfl) m _) fun C=>?_
 exact lf rfl
 exact lf rfl
 exact lf rfl
 refine io (lf rfl) ?_
 refine bo (okn42 (d+13) m a 9) fun n=>?_
 refine bz (bL Zv.g n) ?_
 refine bo (e:=id) ?_ fun f4=>?_
 refine io ?_ (lf rfl)
 refine bo (e:=id) ?_ fun f2=>?_
 refine io (lf rfl) ?_
 refine bo (e:=id) ?_ fun f1=>?_
 refine io ?_ (lf rfl)
 refine bo (aK Zv.g n _) fun e9=>?_
 refine bo (aX (A:=Zv) (c:=Zv.g) (g:=fun D=>i64 D.Rule) (fun _=>rfl) n _) fun D=>?_
 exact lf rfl
 exact lf rfl
 exact lf rfl
 refine io (lf rfl) ?_
 refine bo (okn43 (d+17) n a 10) fun o=>?_
 refine bz (bL Zv.g o) ?_
 refine bo (e:=id) ?_ fun f8=>?_
 refine io ?_ (lf rfl)
 refine bo (e:=id) ?_ fun f7=>?_
 refine io (lf rfl) ?_
 refine bo (e:=id) ?_ fun f6=>?_
 refine io ?_ (lf rfl)
 refine bo (aK Zv.g o _) fun f5=>?_
 refine bo (aX (A:=Zv) (c:=Zv.g) (g:=fun E=>i64 E.Rule) (fun _=>rfl) o _) fun E=>?_
 exact lf rfl
 exact lf rfl
 exact lf rfl
 refine io (lf rfl) ?_
 refine bo (okn44 (d+21) o a 11) fun p=>?_
 refine bz (bL Zv.g p) ?_
 refine bo (e:=id) ?_ fun g4=>?_
 refine io ?_ (lf rfl)
 refine bo (e:=id) ?_ fun g3=>?_
 refine io (lf rfl) ?_
 refine bo (e:=id) ?_ fun g1=>?_
 refine io ?_ (lf rfl)
 refine bo (aK Zv.g p _) fun f9=>?_
 refine bo (aX (A:=Zv) (c:=Zv.g) (g:=fun F=>i64 F.Rule) (fun _=>rfl) p _) fun F=>?_
 exact lf rfl
 exact lf rfl
 exact lf rfl
 refine io (lf rfl) ?_
 refine bo (okn45 (d+7) p a 12) fun q=>?_
 refine bz (bL Zv.g q) ?_
 refine bo (e:=id) ?_ fun g8=>?_
 refine io ?_ (lf rfl)
 refine bo (e:=id) ?_ fun g7=>?_
 refine io (lf rfl) ?_
 refine bo (e:=id) ?_ fun g6=>?_
 refine io ?_ (lf rfl)
 refine bo (aK Zv.g q _) fun g5=>?_
 refine bo (aX (A:=Zv) (c:=Zv.g) (g:=fun G=>i64 G.Rule) (fun _=>rfl) q _) fun G=>?_
 exact lf rfl
 exact lf rfl
 exact lf rfl
 refine io (lf rfl) ?_
 refine bo (okn46 (d+7) q a 13) fun r=>?_
 refine bz (bL Zv.g r) ?_
 refine bo (e:=id) ?_ fun h3=>?_
 refine io ?_ (lf rfl)
 refine bo (e:=id) ?_ fun h2=>?_
 refine io (lf rfl) ?_
 refine bo (e:=id) ?_ fun h0=>?_
 refine io ?_ (lf rfl)
 refine bo (aK Zv.g r _) fun g9=>?_
 refine bo (aX (A:=Zv) (c:=Zv.g) (g:=fun H=>i64 H.Rule) (fun _=>rfl) r _) fun H=>?_
 exact lf rfl
 exact lf rfl
 exact lf rfl
 refine io (lf rfl) ?_
 refine bo (okn47 (d+19) r a 14) fun s=>?_
 refine bz (bL Zv.g s) ?_
 refine bo (e:=id) ?_ fun h7=>?_
 refine io ?_ (lf rfl)
 refine bo (e:=id) ?_ fun h6=>?_
 refine io (lf rfl) ?_
 refine bo (e:=id) ?_ fun h5=>?_
 refine io ?_ (lf rfl)
 refine bo (aK Zv.g s _) fun h4=>?_
 refine bo (aX (A:=Zv) (c:=Zv.g) (g:=fun J=>i64 J.Rule) (fun _=>rfl) s _) fun J=>?_
 exact lf rfl
 exact lf rfl
 exact lf rfl
 refine io (lf rfl) ?_
 refine bo (okn48 (d+16) s a 15) fun t=>?_
 refine bz (bL Zv.g t) ?_
 refine bo (e:=id) ?_ fun i1=>?_
 refine io ?_ (lf rfl)
 refine bo (e:=id) ?_ fun i0=>?_
 refine io (lf rfl) ?_
 refine bo (e:=id) ?_ fun h9=>?_
 refine io ?_ (lf rfl)
 refine bo (aK Zv.g t _) fun h8=>?_
 refine bo (aX (A:=Zv) (c:=Zv.g) (g:=fun K=>i64 K.Rule) (fun _=>rfl) t _) fun K=>?_
 exact lf rfl
 exact lf rfl
 exact lf rfl
 refine io (lf rfl) ?_
 refine bo (okn49 (d+17) t a 16) fun u=>?_
 refine bz (bL Zv.g u) ?_
 refine bo (e:=id) ?_ fun P=>?_
 refine io ?_ (lf rfl)
 refine bo (e:=id) ?_ fun O=>?_
 refine io (lf rfl) ?_
 refine bo (e:=id) ?_ fun N=>?_
 refine io ?_ (lf rfl)
 refine bo (aK Zv.g u _) fun i2=>?_
 refine bo (aX (A:=Zv) (c:=Zv.g) (g:=fun L=>i64 L.Rule) (fun _=>rfl) u _) fun L=>?_
 exact lf rfl
 exact lf rfl
 exact lf rfl
 refine io (lf rfl) ?_
 refine bo (okn50 (d+17) u a 17) fun R=>?_
 exact lf rfl
def F19 (a:Z0):Option Bool:=
 (F28 a).bind fun b=>some ((b.length:Int)==0)
theorem ok19 {k} (d) (a:Z0):OD k (d+26) 19 [.agg (Z0.g a)]=(F19 a).map (fun b=>bv b):=by
 rw[od (fn:=p19) rfl rfl rfl]
 refine bo (ok28 d a) fun c=>?_
 refine bz lm ?_
 exact lf rfl
end Go.P
