import Derived.Test.YtgboeaaoebjfaaaGreatLpA
/- A text of the proof. -/
set_option linter.all false
namespace Go.P
open Go.Sim (AV AO Hp Ent upd St IC IX Ex OpK CK Wf Out doOp Tab exec Foot wanted put)
section
variable {R:Type} {C:Cx} {n:Nat} {h:Heap} {lim:Nat} {s:Hp}
theorem rB:∀{e:Env} {i:Nat} {v:PV},eget e i=some v->(i,v)∈e
 |[],i,v,h=>by simp[eget]at h
 |(j,w)::r,i,v,h=>by
  simp only[eget]at h
  split at h
  .rename_i a;subst a;cases h;simp
  .exact oL1 _ (rB h)
theorem wW:∀{h:Heap} {i:Nat} {v:PObj},hget h i=some v->(i,v)∈h
 |[],i,v,h=>by simp[hget]at h
 |(j,w)::r,i,v,h=>by
  simp only[hget]at h
  split at h
  .rename_i a;subst a;cases h;simp
  .exact oL1 _ (wW h)
theorem vJ {p:Nat->Bool} {xs:List PV} {ys:List AV} {d:Nat} (h:LR (RV C) xs ys) (hp:xs.all (jD p d)=true):LR (RV (resP C p)) xs ys:=
 ⟨h.1,fun j x y a b=>qZ (h.2 j x y a b) (mB1.1 hp x (mE1 a))⟩
theorem eV1 {p:Nat->Bool} {L:Nat->Option AO} {nS:Nat} {o:PObj} {pl:Pl} (m:uZ p o=true) (h:ObjR C L lim nS o pl):ObjR (resP C p) L lim nS o pl:=by
 cases o with
 |box cs=>
  cases pl with
  |nil=>exact h
  |atp id ver e len=>
   obtain⟨h1,h2,ty,esz,row,c,j⟩:=h
   exact⟨h1,h2,ty,esz,row,c,vJ j m⟩
 |lst ty e g rows=>cases pl<;>exact h
 |lz ty e dp rows=>cases pl<;>exact h
 |mp es=>cases pl<;>exact h
 |fl fs=>
  cases pl with
  |nil=>exact h
  |atp id ver e len=>
   obtain⟨h1,h2,c,j,ty,els,k,l,n⟩:=h
   refine⟨h1,h2,c,j,ty,els,k,l,fun i f row a b=>vJ (d:=4) (n i f row a b) ?_⟩
   have:=mB1.1 m f (mE1 a)
   simp[this]
 |loop N e ps a b busy fin=>
  cases pl with
  |nil=>exact h
  |atp id ver e' len=>
   obtain⟨h1,h2,st,pend,tmps,c,j,k,l⟩:=h
   refine⟨h1,h2,st,pend,tmps,c,j,fun i v hv=>?_,l⟩
   obtain⟨y,q,r⟩:=k i v hv
   exact⟨y,q,qZ r (mB1.1 m _ (rB hv))⟩
theorem lL {p:Nat->Bool}:∀{h:Heap},eG p h=true->∀{k:Nat} {o:PObj},hget h k=some o->uZ p o=true
 |[],_,k,o,h=>by simp[hget]at h
 |(j,o')::r,hp,k,o,h=>by
  simp only[eG,lU1]at hp
  simp only[hget]at h
  split at h
  .cases h;exact hp.1
  .exact lL hp.2 h
theorem kV:∀{h:Heap} {k:Nat},hget h k≠none->k∈nH h
 |[],k,h=>by simp[hget]at h
 |(j,o)::r,k,h=>by
  simp only[hget]at h
  simp only[nH,mL1]
  split at h
  .rename_i e;exact .inl e.symm
  .exact .inr (kV h)
theorem nT {a:Heap}:∀{ks:List Nat},subH a ks=true->∀k∈ks,hget a k≠none
 |[],_,k,hk=>by simp at hk
 |j::r,h,k,hk=>by
  unfold subH at h
  cases hh:hasK a j with
  |false=>rw[hh]at h;cases h
  |true=>
   rw[hh,mF1]at h
   rcases mL1.1 hk with rfl|hk
   .rw [rA]at hh
    cases hg:hget a k with
    |none=>rw[hg]at hh;cases hh
    |some o=>simp
   .exact nT h k hk
theorem tN {hs:Heap}:∀{a:Heap},newH hs n a=true->∀{k:Nat},hget a k≠none->hget hs k≠none\/n<=k
 |[],_,k,hk=>by simp[hget]at hk
 |(j,o)::r,h,k,hk=>by
  unfold newH at h
  cases b:(hasK hs j||Nat.ble n j)with
  |false=>rw[b]at h;cases h
  |true=>
   rw[b,mF1]at h
   simp only[hget]at hk
   split at hk
   .rename_i e
    subst e
    simp only[mP1,rA,Nat.ble_eq]at b
    rcases b with b|b
    .left;intro e;rw[e]at b;cases b
    .exact .inr b
   .exact tN h hk
theorem eH {h:Heap} {k:Nat}:hasK h k=true↔hget h k≠none:=by
 rw[rA];cases hget h k<;>simp
theorem Mem.part {hs:Heap} (g:Mem C n h lim s) (f:∀k o,hget hs k=some o->hget h k=some o) (m:eG (hasK hs) hs=true):Mem (resP C (hasK hs)) n hs lim s:=by
 have j:∀k,hget hs k≠none->hget h k≠none:=fun k hk=>by
  cases hc:hget hs k with
  |none=>exact absurd hc hk
  |some o=>rw[f k o hc];simp
 have i:∀k pl,resP C (hasK hs) k=some pl->C k=some pl:=fun k pl hk=>by
  simp only[resP]at hk
  split at hk
  .exact hk
  .cases hk
 refine⟨⟨fun k o hk=>?_,fun k k' id v e l v' e' l' a b c d=>g.hr.inj k k' id v e l v' e' l' (j k a) (j k' b) (i _ _ c) (i _ _ d),fun id o p=>?_⟩,fun k pl hk=>g.dom k pl (i k pl hk),g.wf,g.lim⟩
 .obtain ⟨pl,h1,h2⟩:=g.hr.ob k o (f k o hk)
  refine⟨pl,?_,eV1 (lL m hk) h2⟩
  simp only[resP]
  rw[mA1 (eH.2 (by rw[hk];simp))]
  exact h1
 .obtain ⟨z1,z2,z3,z4⟩:=g.hr.zr id o p
  exact⟨z1,z2,fun k v e l a b=>z3 k v e l (j k a) (i _ _ b),z4⟩
theorem kB {hs:Heap}:∀{a:Heap},oldH hs a=true->∀{k:Nat},hget a k≠none->hget hs k≠none
 |[],_,k,hk=>by simp[hget]at hk
 |(j,o)::r,h,k,hk=>by
  unfold oldH at h
  cases hh:hasK hs j with
  |false=>rw[hh]at h;cases h
  |true=>
   rw[hh,mF1]at h
   simp only[hget]at hk
   split at hk
   .rename_i e;subst e;exact eH.1 hh
   .exact kB h hk
theorem wX:∀(h:Heap) (m:Nat),m<=bnd h m
 |[],m=>lW1 _
 |(k,o)::r,m=>by
  unfold bnd
  cases hb:Nat.blt k m with
  |true=>rw[mF1];exact wX r m
  |false=>
   rw[mT1]
   have:=wX r (k+1)
   have h2:¬k<m:=fun a=>by rw[<-nU1,hb]at a;cases a
   omega
theorem rC:∀(h:Heap) (m k:Nat),hget h k≠none->k<bnd h m
 |[],m,k,hk=>by simp[hget]at hk
 |(j,o)::r,m,k,hk=>by
  simp only[hget]at hk
  unfold bnd
  cases hb:Nat.blt j m with
  |true=>
   rw[mF1]
   split at hk
   .rename_i e
    rw[nU1]at hb
    have:=wX r m
    omega
   .exact rC r m k hk
  |false=>
   rw[mT1]
   split at hk
   .have:=wX r (j+1);omega
   .exact rC r (j+1) k hk
theorem vK {P:AV->Hp->Prop} {run:Heap->Nat->(PV->Heap->Nat->Option (PV×Heap×Nat))->Option (PV×Heap×Nat)} {xs:List PV} {ys:List AV} {e:Env} {t:List AV} {kill:List Nat} {nw:Bool} {K:PV->Env->Heap->Nat->Option R} {r:R}
  (E:Mem C n h lim s) (he:EnvR C e t) (hx:LR (RV C) xs ys)
  (b6:∀(hs:Heap) (C0:Cx) (m:Nat) (K':PV->Heap->Nat->Option (PV×Heap×Nat)) (r':PV×Heap×Nat),Mem C0 m hs lim s->LR (RV C0) xs ys->run hs m K'=some r'->
   ∃v h' n' C' y s',K' v h' n'=some r'/\RV C' v y/\Mem C' n' h' lim s'/\m<=n'/\Fr C0 hs s C' h' s'/\P y s')
  (hk:inK run nw xs e h n kill K=some r):
  ∃v e' h' n' C' y s',K v e' h' n'=some r/\RV C' v y/\(∀i w,eget e' i=some w->∃z,t[i]? =some z/\RV C' w z/\i∉kill)/\Mem C' n' h' lim s'/\n<=n'/\Fr C h s C' h' s'/\P y s':=by
 unfold inK at hk
 obtain⟨d8,hk⟩:=cL (dC 5) _ _ _ _ hk
 obtain⟨ns,hk⟩:=bZ _ _ _ _ _ hk
 obtain⟨hs,T,hk,u⟩:=kA hk
 cases hch:(xs.all (jD (hasK hs) 5)&&eG (hasK hs) hs)with
 |false=>rw[hch]at hk;exact aB hk
 |true=>
 rw[hch,mF1,aU,lT1]at hk
 obtain⟨r',hq,hk⟩:=hk
 simp only[lU1]at hch
 have G:∀k o,hget hs k=some o->hget h k=some o:=fun k o f=>by
  rw[(u k).1]at f
  split at f
  .exact f
  .cases f
 have b7:∀{k},hget hs k≠none->k<n:=fun{k} hk=>by
  cases hc:hget hs k with
  |none=>exact absurd hc hk
  |some o=>obtain⟨pl,p1,_⟩:=E.hr.ob k o (G k o hc);exact E.dom k pl p1
 have F:=E.part G hch.2
 have b9:Mem (resP C (hasK hs)) (bif nw then n else bnd hs 0) hs lim s:=⟨F.hr,(fun k pl j=>by
  cases nw with
  |true=>exact F.dom k pl j
  |false=>
   simp only[resP]at j
   split at j
   .rename_i O;exact rC hs 0 k (eH.1 O)
   .cases j),F.wf,F.lim⟩
 obtain⟨v,h',n',C',y,s',w1,w2,w3,w4,w5,w6⟩:=b6 hs _ _ _ r' b9 (vJ hx hch.1) hq
 unfold retK at w1
 obtain⟨d7,w1⟩:=cL (dC 5) _ _ _ _ w1
 obtain⟨d9,w1⟩:=bZ _ _ _ _ _ w1
 obtain⟨h2,_,w1,U⟩:=kA w1
 cases hch2:(subH h2 (nH hs)&&(bif nw then newH hs (bif nw then n else bnd hs 0) h2 else oldH hs h2)&&(jD (hasK h2) 5 v&&eG (hasK h2) h2))with
 |false=>rw[hch2]at w1;exact aB w1
 |true=>
 rw[hch2,mF1]at w1
 cases w1
 simp only[lU1]at hch2
 obtain⟨⟨c1,c2⟩,c3,c4⟩:=hch2
 have d2:∀{k},hget hs k≠none->hget h2 k≠none:=fun{k} hk=>nT c1 k (kV hk)
 have V:∀{k},hget h2 k≠none->hget hs k≠none\/n<=k:=fun{k} S=>by
  cases nw with
  |true=>exact tN c2 S
  |false=>exact .inl (kB c2 S)
 have A:∀k o,hget h2 k=some o->hget h' k=some o:=fun k o f=>by
  rw[(U k).1]at f
  split at f
  .exact f
  .cases f
 have d1:=w3.part A c4
 rw[dY1]at hk
 simp only[tM,bY]at hk
 obtain⟨e',H,hk,k1,k2,k3⟩:=kU hk
 obtain⟨hc,hk,k4⟩:=tL hk
 let C3:Cx:=⟨fun k=>if hasK h2 k then C' k else C k,C'.z⟩
 let C1:Cx:=⟨fun k=>if k<n then C3 k else none,C'.z⟩
 have c3in:∀{k},hget h2 k≠none->C3 k=C' k:=fun{k} hk=>mA1 (eH.2 hk)
 have c3out:∀{k},hget h2 k=none->C3 k=C k:=fun{k} hk=>lY1 (fun O=>eH.1 O hk)
 have S:∀{k},hget h k≠none->k<n:=fun{k} hk=>by
  cases hc:hget h k with
  |none=>exact absurd hc hk
  |some o=>obtain⟨pl,p1,_⟩:=E.hr.ob k o hc;exact E.dom k pl p1
 have d5:∀{k},hget hs k≠none->hget h k≠none:=fun{k} hk=>by
  cases hc:hget hs k with
  |none=>exact absurd hc hk
  |some o=>rw[G k o hc];simp
 have rs:∀{k},hget hs k≠none->resP C (hasK hs) k=C k:=fun{k} hk=>by simp only[resP];rw[mA1 (eH.2 hk)]
 have d6:∀{k pl},resP C (hasK hs) k=some pl->C k=some pl:=fun{k pl} hk=>by
  simp only[resP]at hk
  split at hk
  .exact hk
  .cases hk
 have Y:∀{k pl},resP C' (hasK h2) k=some pl->C3 k=some pl:=fun{k pl} hk=>by
  simp only[resP]at hk
  split at hk
  .rename_i O;rw[c3in (eH.1 O)];exact hk
  .cases hk
 have Z:Dif h2 C C1:=⟨fun k=>(by
  by_cases b0:k<n
  .have e1:C1 k=C3 k:=mA1 b0
   rw[e1]
   by_cases g:hget h2 k=none
   .exact .inl (c3out g)
   .rw [c3in g]
    rcases V g with hq|hq
    .cases hc2:hget hs k with
     |none=>exact absurd hc2 hq
     |some o=>
      obtain⟨o',q1,q2⟩:=w5.kd k o hc2
      have q3:hget h2 k=some o':=by
       cases hc3:hget h2 k with
       |none=>exact absurd hc3 g
       |some o2=>rw[A k o2 hc3]at q1;exact q1
      cases hb:dG o' with
      |true=>left;rw[(q2 hb).2,rs hq]
      |false=>
       right
       exact⟨o',wW q3,hb⟩
    .omega
  .left
   have:C1 k=none:=lY1 b0
   rw[this,dZ1 E (by omega)]),w5.zl⟩
 have c13:C1.le C3:=⟨fun k pl hk=>(by
  simp only[C1]at hk
  split at hk
  .exact hk
  .cases hk),fun _ _ h=>h⟩
 have M:∀{k o'},hget H k=some o'->∃o,hget h k=some o/\hget hs k=none/\hget h2 k=none/\dG o'=dG o/\∀{L:Nat->Option AO} {lim nS:Nat} {pl:Pl},ObjR C L lim nS o pl->ObjR C1 L lim nS o' pl:=fun{k o'} f=>by
  obtain⟨o,q1,q2,q3⟩:=k3 k o' f
  rw[(u k).2]at q1
  split at q1
  .cases q1
  .rename_i W
   have h1:hget hs k=none:=by rw[(u k).1,lY1 W]
   refine⟨o,q1,h1,?_,q2,fun d4=>q3 Z d4⟩
   cases hc2:hget h2 k with
   |none=>rfl
   |some o2=>
    rcases V (k:=k) (by rw[hc2];simp)with q|q
    .exact absurd h1 q
    .have:=S (k:=k) (by rw[q1];simp);omega
 have N:∀{k},hget hc k≠none->hget h2 k≠none\/(hget h2 k=none/\hget H k≠none):=fun{k} hk=>by
  rw[k4 k]at hk
  cases hc2:hget h2 k with
  |none=>right;refine⟨rfl,?_⟩;rw[hc2]at hk;simpa using hk
  |some o=>left;simp
 have p:∀{k},hget H k≠none->hget h k≠none/\hget hs k=none/\hget h2 k=none:=fun{k} hk=>by
  cases hc2:hget H k with
  |none=>exact absurd hc2 hk
  |some o'=>obtain⟨o,q1,q2,q3,_⟩:=M hc2;exact⟨by rw[q1];simp,q2,q3⟩
 have J:∀{k},hget h2 k≠none->hget h' k≠none:=fun{k} hk=>by
  cases hc2:hget h2 k with
  |none=>exact absurd hc2 hk
  |some o=>rw[A k o hc2];simp
 have B:∀{id},Own (resP C (hasK hs)) hs id->∃k v e l,hget hs k≠none/\hget h k≠none/\C k=some (.atp id v e l):=fun{id} T=>by
  obtain⟨k,v,e,l,q1,q2⟩:=T
  exact⟨k,v,e,l,q1,d5 q1,d6 q2⟩
 have D:∀{k id v e l},hget h k≠none->hget hs k=none->C k=some (.atp id v e l)->¬Own (resP C (hasK hs)) hs id:=fun{k id v e l} a b c T=>by
  obtain⟨k',v',e',l',q1,q2,q3⟩:=B T
  have:=E.hr.inj k k' id _ _ _ _ _ _ a q2 c q3
  subst this
  exact q1 b
 have b8:∀{k k' id v e l v' e' l'},hget h2 k≠none->hget H k'≠none->C3 k=some (.atp id v e l)->C3 k'=some (.atp id v' e' l')->False:=fun{k k' id v e l v' e' l'} a b c d=>by
  obtain⟨b1,b2,b3⟩:=p b
  rw[c3in a]at c
  rw[c3out b3]at d
  have x:=(E.hr.lt b1 d).2
  exact D b1 b2 d (w5.own id x ⟨k,v,e,l,J a,c⟩)
 refine⟨v,e',hc,_,C3,y,s',hk,(qZ w2 c3).mono ⟨fun _ _ O=>Y O,fun _ _ h=>h⟩,fun i w hw=>?_,⟨⟨fun k o f=>?_,fun k k' id v e l v' e' l' a b c d=>?_,fun id o hz=>?_⟩,fun k pl j=>?_,w3.wf,w3.lim⟩,?_,⟨w5.sk,w5.n,fun id x hn=>w5.keep id x (fun T=>hn ?_),fun id x T=>?_,fun k o f=>?_,w5.zl,fun id x hz=>?_⟩,w6⟩
 .obtain ⟨v0,q1,q2⟩:=k1 i w hw
  obtain⟨z,p1,p2,p3⟩:=he.edel kill i v0 q1
  exact⟨z,p1,(q2 Z p2).mono c13,p3⟩
 .rw [k4 k]at f
  cases hc2:hget h2 k with
  |some o2=>
   rw[hc2]at f
   cases f
   obtain⟨pl,q1,q2⟩:=d1.hr.ob k _ hc2
   exact⟨pl,Y q1,q2.mono (lW1 _) ⟨fun _ _ O=>Y O,fun _ _ h=>h⟩ (fun _ _ _ _ _=>rfl)⟩
  |none=>
   rw[hc2]at f
   obtain⟨o0,q1,q2,q3,q4,q5⟩:=M (by simpa using f)
   obtain⟨pl,p1,p2⟩:=E.hr.ob k o0 q1
   refine⟨pl,by rw[c3out hc2];exact p1,(q5 p2).mono w5.n c13 (fun id v e l hp=>?_)⟩
   subst hp
   exact w5.keep id p2.lt.2 (D (by rw[q1];simp) q2 p1)
 .rcases N a with a|⟨a1,a⟩<;>rcases N b with b|⟨b1,b⟩
  .rw [c3in a]at c
   rw[c3in b]at d
   exact w3.hr.inj k k' id v e l v' e' l' (J a) (J b) c d
  .exact (b8 a b c d).elim
  .exact (b8 b a d c).elim
  .rw [c3out a1]at c
   rw[c3out b1]at d
   exact E.hr.inj k k' id v e l v' e' l' (p a).1 (p b).1 c d
 .obtain ⟨z1,z2,z3,z4⟩:=w3.hr.zr id o hz
  refine⟨z1,z2,fun k v e l a b=>?_,z4⟩
  rcases N a with a|⟨a1,a⟩
  .rw [c3in a]at b
   exact z3 k v e l (J a) b
  .rw [c3out a1]at b
   obtain⟨b1,b2,b3⟩:=p a
   have x:=(E.hr.lt b1 b).2
   rcases w5.zn id x (by rw[show C'.z id=some o from hz];simp)with X|X
   .cases hz1:C.z id with
    |none=>exact X hz1
    |some o1=>exact(E.hr.zr id o1 hz1).2.2.1 k v e l b1 b
   .exact D b1 b2 b X
 .cases nw with
  |true=>
   simp only[mF1]at w4 ⊢
   by_cases g:hget h2 k=none
   .rw [c3out g]at j
    have:=E.dom k pl j
    omega
   .rw [c3in g]at j
    exact w3.dom k pl j
  |false=>
   simp only[mT1]
   by_cases g:hget h2 k=none
   .rw [c3out g]at j
    exact E.dom k pl j
   .exact b7 (kB c2 g)
 .cases nw with
  |true=>exact w4
  |false=>exact lW1 _
 .obtain ⟨k,v,e,l,q1,q2,q3⟩:=B T
  exact⟨k,v,e,l,q2,q3⟩
 .obtain ⟨k,v,e,l,q1,q2⟩:=T
  rcases N q1 with a|⟨a1,a⟩
  .rw [c3in a]at q2
   obtain⟨k,v,e,l,p1,p2,p3⟩:=B (w5.own id x ⟨k,v,e,l,J a,q2⟩)
   exact⟨k,v,e,l,p2,p3⟩
  .rw [c3out a1]at q2
   exact⟨k,v,e,l,(p a).1,q2⟩
 .rw [k4 k]
  by_cases W:hget hs k=none
  .have b4:¬mem k ns=true:=fun d3=>by
    rw[(u k).1,mA1 d3,f]at W
    cases W
   have a0:hget T k=some o:=by rw[(u k).2,lY1 b4];exact f
   cases hc2:hget H k with
   |none=>rw[(k2 k).1 hc2]at a0;cases a0
   |some o'=>
    obtain⟨o0,q1,q2,q3,q4,_⟩:=M hc2
    rw[f]at q1
    cases q1
    exact⟨o',by rw[q3];rfl,fun hb=>⟨by rw[<-q4];exact hb,c3out q3⟩⟩
  .cases hc2:hget hs k with
   |none=>exact absurd hc2 W
   |some o0=>
    have b5:=G k o0 hc2
    rw[f]at b5
    cases b5
    obtain⟨o',q1,q2⟩:=w5.kd k o hc2
    have g:=d2 W
    cases hc3:hget h2 k with
    |none=>exact absurd hc3 g
    |some o2=>
     have:=A k o2 hc3
     rw[q1]at this
     cases this
     exact⟨o',rfl,fun hb=>⟨(q2 hb).1,by rw[c3in g,(q2 hb).2,rs W]⟩⟩
 .rcases w5.zn id x hz with h1|h1
  .exact .inl h1
  .obtain ⟨k,v,e,l,q1,q2,q3⟩:=B h1
   exact .inr ⟨k,v,e,l,q2,q3⟩
def fxo:PObj->PObj
 |.lst ty e g rows=>.lst (ty+4294967296) e g rows
 |o=>o
def vL:PObj->Bool
 |.lst .. =>true
 |_=>false
theorem kP1 (ty:Nat):isFx (ty+4294967296)=true:=by
 unfold isFx;rw[Nat.ble_eq];omega
theorem iD1 {ty:Nat}:rty (ty+4294967296)=ty:=by
 unfold rty;rw[kP1,mF1];omega
theorem gD1 {ty:Nat} (h:isFx ty=false):rty ty=ty:=by
 unfold rty;rw[h,mT1]
theorem iE1 {ty:Nat} (h:isFx ty=true):rty ty=ty-4294967296:=by
 unfold rty;rw[h,mF1]
theorem bL1 {L:Nat->Option AO} {nS ty ty' e:Nat} {g:Bool} {rows:List (List PV)} {pl:Pl} (a:ObjR C L lim nS (.lst ty e g rows) pl) (b:rty ty'=rty ty):ObjR C L lim nS (.lst ty' e g rows) pl:=by
 cases pl with
 |nil=>exact a
 |atp id ver e' len=>
  obtain⟨a1,a2,a3,a4,els,a5,a6⟩:=a
  exact⟨a1,a2,a3,a4,els,by rw[b];exact a5,a6⟩
theorem rD:∀{h:Heap} {K:Heap->Option R} {r:R},fxHK h K=some r->∃h1,K h1=some r/\∀k,hget h1 k=(hget h k).map fxo/\∀ty e g rows,hget h k=some (.lst ty e g rows)->isFx ty=false
 |[],K,r,hk=>⟨[],hk,fun k=>⟨rfl,fun _ _ _ _ h=>by simp[hget]at h⟩⟩
 |(j,o)::t,K,r,hk=>by
  unfold fxHK at hk
  have other:vL o=false->fxHK t (fun r=>K ((j,o)::r))=some r->∃h1,K h1=some r/\∀k,hget h1 k=(hget ((j,o)::t) k).map fxo/\∀ty e g rows,hget ((j,o)::t) k=some (.lst ty e g rows)->isFx ty=false:=by
   intro hl hk
   obtain⟨h1,q1,q2⟩:=rD hk
   refine⟨_,q1,fun k=>?_⟩
   by_cases e:j=k
   .simp only[hget,mA1 e,mQ1]
    refine⟨?_,fun _ _ _ _ h=>?_⟩
    .cases o<;>first|rfl|simp[vL]at hl
    .cases h;simp[vL]at hl
   .simp only[hget,lY1 e]
    exact q2 k
  cases o with
  |lst ty e g rows=>
   cases hfx:isFx ty with
   |true=>simp only[hfx,mF1]at hk;exact aB hk
   |false=>
    simp only[hfx,mT1]at hk
    obtain⟨h1,q1,q2⟩:=rD hk
    refine⟨_,q1,fun k=>?_⟩
    by_cases c:j=k
    .simp only[hget,mA1 c,mQ1]
     exact⟨rfl,fun _ _ _ _ h=>by cases h;exact hfx⟩
    .simp only[hget,lY1 c]
     exact q2 k
  |box cs=>exact other rfl hk
  |mp es=>exact other rfl hk
  |fl fs=>exact other rfl hk
  |loop N e ps a b busy fin=>exact other rfl hk
  |lz ty e dp rows=>exact aB hk
def UnR (h:Heap) (k:Nat) (b c:PObj):Prop:=∃a,hget h k=some a/\
 ((∃ty e g rows,b=.lst ty e g rows/\isFx ty=true/\isFx (ty-4294967296)=false/\c=.lst (ty-4294967296) e g rows)\/(c=b/\vL a=false))
theorem tO:∀{h h2:Heap} {K:Heap->Option R} {r:R},sU h h2 K=some r->∃c,K c=some r/\∀k,(hget c k=none↔hget h2 k=none)/\∀d,hget c k=some d->∃f,hget h2 k=some f/\UnR h k f d
 |h,[],K,r,hk=>⟨[],hk,fun k=>⟨Iff.rfl,fun _ h=>by simp[hget]at h⟩⟩
 |h,(j,o)::t,K,r,hk=>by
  unfold sU at hk
  rw[dA,lT1]at hk
  obtain⟨i,h0,hk⟩:=hk
  have step:∀d,UnR h j o d->sU h t (fun r=>K ((j,d)::r))=some r->∃c,K c=some r/\∀k,(hget c k=none↔hget ((j,o)::t) k=none)/\∀d,hget c k=some d->∃f,hget ((j,o)::t) k=some f/\UnR h k f d:=by
   intro d m hk
   obtain⟨c,q1,q2⟩:=tO hk
   refine⟨_,q1,fun k=>?_⟩
   by_cases e:j=k
   .subst e
    simp only[hget,mA1]
    exact⟨by simp,fun n l=>⟨o,rfl,by cases l;exact m⟩⟩
   .simp only[hget,lY1 e]
    exact q2 k
  have no:vL i=false->vL o=false->sU h t (fun r=>K ((j,o)::r))=some r->∃c,K c=some r/\∀k,(hget c k=none↔hget ((j,o)::t) k=none)/\∀d,hget c k=some d->∃f,hget ((j,o)::t) k=some f/\UnR h k f d:=
   fun hl _ hk=>step o ⟨i,h0,.inr ⟨rfl,hl⟩⟩ hk
  cases i with
  |lst ty0 e0 g0 rows0=>
   cases o with
   |lst ty e g rows=>
    cases hfx:(isFx ty&& !(isFx (ty-4294967296)))with
    |false=>simp only[hfx,mT1]at hk;exact aB hk
    |true=>
     simp only[hfx,mF1]at hk
     simp only[lU1,mO1]at hfx
     exact step _ ⟨_,h0,.inl ⟨ty,e,g,rows,rfl,hfx.1,hfx.2,rfl⟩⟩ hk
   |_=>exact aB hk
  |box cs=>cases o with
   |lst ty e g rows=>exact aB hk
   |lz ty e dp rows=>exact aB hk
   |_=>exact no rfl rfl hk
  |mp es=>cases o with
   |lst ty e g rows=>exact aB hk
   |lz ty e dp rows=>exact aB hk
   |_=>exact no rfl rfl hk
  |fl fs=>cases o with
   |lst ty e g rows=>exact aB hk
   |lz ty e dp rows=>exact aB hk
   |_=>exact no rfl rfl hk
  |loop N e ps a b busy fin=>cases o with
   |lst ty e g rows=>exact aB hk
   |lz ty e dp rows=>exact aB hk
   |_=>exact no rfl rfl hk
  |lz ty0 e0 dp0 rows0=>cases o with
   |lst ty e g rows=>exact aB hk
   |lz ty e dp rows=>exact aB hk
   |_=>exact no rfl rfl hk
theorem eW1 {fx:Bool} {P:AV->Hp->Prop} {run:Heap->Nat->(PV->Heap->Nat->Option (PV×Heap×Nat))->Option (PV×Heap×Nat)} {xs:List PV} {ys:List AV} {e:Env} {t:List AV} {kill:List Nat} {nw:Bool} {K:PV->Env->Heap->Nat->Option R} {r:R}
  (q:Mem C n h lim s) (he:EnvR C e t) (N:LR (RV C) xs ys)
  (p:∀(hs:Heap) (C0:Cx) (m:Nat) (K':PV->Heap->Nat->Option (PV×Heap×Nat)) (r':PV×Heap×Nat),Mem C0 m hs lim s->LR (RV C0) xs ys->run hs m K'=some r'->
   ∃v h' n' C' y s',K' v h' n'=some r'/\RV C' v y/\Mem C' n' h' lim s'/\m<=n'/\Fr C0 hs s C' h' s'/\P y s')
  (hk:inKX fx run nw xs e h n kill K=some r):
  ∃v e' h' n' C' y s',K v e' h' n'=some r/\RV C' v y/\(∀i w,eget e' i=some w->∃z,t[i]? =some z/\RV C' w z/\i∉kill)/\Mem C' n' h' lim s'/\n<=n'/\Fr C h s C' h' s'/\P y s':=by
 cases fx with
 |false=>exact vK q he N p hk
 |true=>
  have hk:fxHK h (fun h1=>inK run nw xs e h1 n kill fun v e h2 n=>sU h h2 fun u=>K v e u n)=some r:=hk
  obtain⟨h1,hk,j⟩:=rD hk
  have c:∀{k},hget h1 k≠none->hget h k≠none:=fun{k} hk A=>hk (by rw[(j k).1,A];rfl)
  have H:Mem C n h1 lim s:=by
   refine⟨⟨fun k po hp=>?_,fun k k' i v1 F J v2 e2 L a1 a2 a3 a4=>q.hr.inj k k' i v1 F J v2 e2 L (c a1) (c a2) a3 a4,fun id o B=>?_⟩,q.dom,q.wf,q.lim⟩
   .rw [(j k).1]at hp
    cases hh:hget h k with
    |none=>rw[hh]at hp;cases hp
    |some o=>
     rw[hh]at hp
     cases hp
     obtain⟨pl,p1,p2⟩:=q.hr.ob k o hh
     refine⟨pl,p1,?_⟩
     cases o with
     |lst ty e g rows=>exact bL1 p2 (iD1.trans (gD1 ((j k).2 _ _ _ _ hh)).symm)
     |_=>exact p2
   .obtain ⟨z1,z2,z3,z4⟩:=q.hr.zr id o B
    exact⟨z1,z2,fun k v e l a b=>z3 k v e l (c a) b,z4⟩
  obtain⟨v,e',h',n',C',y,s',q1,q2,q3,q4,q5,q6,q7⟩:=vK H he N p hk
  obtain⟨u,W,E⟩:=tO q1
  have d:∀{k},hget u k≠none->hget h' k≠none:=fun{k} hk A=>hk ((E k).1.2 A)
  refine⟨v,e',u,n',C',y,s',W,q2,q3,⟨⟨fun k D G=>?_,fun k k' i v1 F J v2 e2 L a1 a2 a3 a4=>q4.hr.inj k k' i v1 F J v2 e2 L (d a1) (d a2) a3 a4,fun id o B=>?_⟩,q4.dom,q4.wf,q4.lim⟩,q5,⟨q6.sk,q6.n,fun id f A=>q6.keep id f (fun⟨k,v,e,l,b1,b2⟩=>A ⟨k,v,e,l,c b1,b2⟩),fun id f ⟨k,v,e,l,b1,b2⟩=>?_,fun k o x=>?_,q6.zl,fun id f B=>?_⟩,q7⟩
  .obtain ⟨O,b1,U,b2,b3⟩:=(E k).2 D G
   obtain⟨pl,p1,p2⟩:=q4.hr.ob k O b1
   refine⟨pl,p1,?_⟩
   rcases b3 with⟨ty,e,g,rows,rfl,c1,c2,rfl⟩|⟨rfl,_⟩
   .exact bL1 p2 ((gD1 c2).trans (iE1 c1).symm)
   .exact p2
  .obtain ⟨z1,z2,z3,z4⟩:=q4.hr.zr id o B
   exact⟨z1,z2,fun k v e l a b=>z3 k v e l (d a) b,z4⟩
  .obtain ⟨k,v,e,l,S,T⟩:=q6.own id f ⟨k,v,e,l,d b1,b2⟩
   exact⟨k,v,e,l,c S,T⟩
  .obtain ⟨O,M,X⟩:=q6.kd k (fxo o) (by rw[(j k).1,x];rfl)
   cases hc:hget u k with
   |none=>rw[(E k).1.1 hc]at M;cases M
   |some D=>
    refine⟨D,rfl,fun hb=>?_⟩
    obtain⟨V,b1,U,b2,b3⟩:=(E k).2 D hc
    rw[M]at b1
    cases b1
    rw[x]at b2
    cases b2
    rcases b3 with⟨ty,e,g,rows,rfl,c1,c2,rfl⟩|⟨rfl,hl⟩
    .rw [dG,c2]at hb;cases hb
    .obtain ⟨Y,Z⟩:=X hb
     refine⟨?_,Z⟩
     cases o with
     |lst ty e g rows=>simp[vL]at hl
     |_=>exact Y
  .rcases q6.zn id f B with h1|⟨k,v,e,l,b1,b2⟩
   .exact .inl h1
   .exact .inr ⟨k,v,e,l,c b1,b2⟩
end
end Go.P
namespace Go.P
open Go.Sim (AV AO Hp Ent upd St IC IX Ex OpK CK Wf Out doOp Tab exec Foot wanted put)
section
variable {R:Type} {T:Tab} {O:Orc} {X:NX} {dr:Nat}
theorem bM1 {C:Cx}:∀{es:List (Option Nat)} {cs:List PV} {ys:List AV} {K:List PV->Option R} {r:R},LR (RV C) cs ys->laxK es cs K=some r->∃cs',K cs'=some r/\LR (RV C) cs' ys
 |[],[],ys,K,r,hl,h=>⟨[],h,hl⟩
 |o::os,x::xs,ys,K,r,hl,h=>by
  obtain⟨y,c,rfl,h1,h2⟩:=hl.inv_cons
  unfold laxK at h
  obtain⟨cs',a,b⟩:=bM1 h2 h
  cases o with
  |none=>exact⟨_,a,.cons h1 b⟩
  |some e=>
   simp only at a
   split at a
   .have:=rv_v h1
    subst this
    exact⟨_,a,.cons (.cl .isn) b⟩
   .exact aB a
 |[],_::_,_,_,_,_,h=>by unfold laxK at h;exact aB h
 |_::_,[],_,_,_,_,h=>by unfold laxK at h;exact aB h
theorem iF1 {C:Cx} {n:Nat} {h:Heap} {lim:Nat} {s:Hp} (u:Mem C n h lim s) {k id ver e len:Nat} {cs cs2:List PV} {ty e':Nat} {g:Bool} (hk:hget h k=some (.box cs)) (w:C k=some (.atp id ver e len))
  (x:∀row,LR (RV C) cs row->LR (RV (ext C n .nil)) cs2 row):
  Mem (ext C n .nil) (n+1) ((n,kR ty e' g)::hset h k (.box cs2)) lim s/\Fr C h s (ext C n .nil) ((n,kR ty e' g)::hset h k (.box cs2)) s:=by
 obtain⟨r,t⟩:=aT1 u (ty:=ty) (e:=e') (g:=g)
 have B:n≠k:=by have:=u.dom _ _ w;omega
 have m:∀j,hget ((n,kR ty e' g)::hset h k (.box cs2)) j≠none->hget ((n,kR ty e' g)::h) j≠none:=fun j f=>by
  simp only[hget]at f ⊢
  split
  .simp
  .rename_i h1
   rw[lY1 h1,cQ]at f
   split at f
   .rename_i h2;obtain⟨rfl,_⟩:=h2;rw[hk];simp
   .exact f
 refine⟨⟨⟨fun j o f=>?_,fun j A i v1 p y v2 e2 H a b c d=>r.hr.inj j A i v1 p y v2 e2 H (m j a) (m A b) c d,fun i o E=>?_⟩,r.dom,r.wf,r.lim⟩,⟨t.sk,t.n,t.keep,fun i hi D=>?_,fun j o f=>?_,t.zl,t.zn⟩⟩
 .simp only[hget]at f
  split at f
  .rename_i h1;exact r.hr.ob j o (by simp[hget,h1];simpa using f)
  .rename_i h1
   rw[cQ]at f
   split at f
   .rename_i h2
    obtain⟨rfl,_⟩:=h2
    cases f
    obtain⟨pl,q1,q2⟩:=u.hr.ob _ _ hk
    rw[w]at q1
    cases q1
    obtain⟨p1,p2,z,esz,row,p3,p4⟩:=q2
    exact⟨_,(gJ u .nil).1 _ _ w,p1,p2,z,esz,row,p3,x row p4⟩
   .exact r.hr.ob j o (by simp[hget,h1,f])
 .obtain ⟨z1,z2,z3,z4⟩:=r.hr.zr i o E
  exact⟨z1,z2,fun j v e l a b=>z3 j v e l (m j a) b,z4⟩
 .obtain ⟨j,v1,p,y,F,G⟩:=D
  exact t.own i hi ⟨j,v1,p,y,m j F,G⟩
 .obtain ⟨o',q1,q2⟩:=t.kd j o f
  have q:n≠j:=fun p=>by rw[nJ u (by omega)]at f;cases f
  by_cases p:j=k
  .subst p
   rw[hk]at f
   cases f
   exact⟨.box cs2,by simp[hget,q,cQ,hk],fun _=>⟨rfl,by simp[ext,Ne.symm q]⟩⟩
  .refine ⟨o',?_,q2⟩
   simpa[hget,q,cQ,p]using q1
structure NOK (T:Tab) (X:NX):Prop where
 run:∀{R:Type} (f:FuncId) (xs:List PV) (h:Heap) (n:Nat) (K:PV->Heap->Nat->Option R) (r:R) (C:Cx) (s:Hp) (lim:Nat) (ys:List AV),
  X.is f=true->X.run f xs h n K=some r->LR (RV C) xs ys->Mem C n h lim s->
  ∃v h' n' C' y s',K v h' n'=some r/\RV C' v y/\Mem C' n' h' lim s'/\n<=n'/\Fr C h s C' h' s'/\(∃ifn,T f=some ifn/\ifn.pure=false/\ifn.frz=false)/\∃D,∀d,D<=d->Sim.callF T (exec T d) lim f ys s=some (y,s')
 yld:∀{R:Type} (k:Nat) (xs:List PV) (h:Heap) (n:Nat) (K:PV->Heap->Nat->Option R) (r:R) (C:Cx) (s:Hp) (lim:Nat) (ys:List AV) (id ver e len:Nat),
  X.yld k xs h n K=some r->LR (RV C) xs ys->C k=some (.atp id ver e len)->Mem C n h lim s->
  ∃v h' n' C' y s',K v h' n'=some r/\RV C' v y/\Mem C' n' h' lim s'/\n<=n'/\Fr C h s C' h' s'/\∃D,∀d,D<=d->Sim.round (exec T d) lim id ys s=some (y,s')
theorem lZ:∀{h:List Ent} {id:Nat} {o:AO},Sim.look h id=some o->upd h id o=h
 |[],_,_,h=>by simp[Sim.look]at h
 |.mark::r,id,o,h=>by simp only[Sim.look]at h;simp only[Sim.upd,lZ h]
 |.ob i o'::r,id,o,h=>by
  simp only[Sim.look]at h
  simp only[Sim.upd]
  split at h
  .rename_i e;cases h;simp[e]
  .rename_i e;rw[lY1 e,lZ h]
theorem bN1:∀{xs:List IX} {t ys:List AV},Sim.evs t xs=some ys->ys.length=xs.length
 |[],t,ys,h=>by simp only[Sim.evs,lZ1]at h;subst h;rfl
 |x::xs,t,ys,h=>by
  simp only[Sim.evs]at h
  split at h
  .rename_i a as c b;cases h;simp[bN1 b]
  .cases h
theorem eX1 {C:Cx} {n:Nat} {h:Heap} {lim:Nat} {s:Hp} {ty:TypeId} {zero:List Value} {as:List PV} {ys:List AV} (o:Mem C n h lim s) (k:LR (RV C) as ys) (r:zero.length=1) (hf:as.all isFn=true):
  ∃C' out,doOp (Sim.look s.h) lim s.n (.buildSl ty 1 as.length zero (List.range as.length)) ys=some out/\RV C' (.own n) out.v/\Mem C' (n+1) ((n,.fl as)::h) lim (out.apply s)/\C.le C'/\Fr C h s C' ((n,.fl as)::h) (out.apply s):=by
 have hc:∀(j:Nat) (y:AV),ys[j]? =some y->y.cells=some [y]:=fun j y hy=>by
  have q:j<as.length:=by rw[k.1];exact(lX1.1 hy).1
  have hv:=k.2 j as[j] y (by simp) hy
  have l:=mB1.1 hf as[j] (by simp)
  cases ha:as[j]with
  |fn f a b=>rw[ha]at hv;obtain⟨a',b',rfl,_⟩:=qQ hv;rfl
  |_=>rw[ha]at l;simp[isFn]at l
 have hlen:=k.1
 have p:(Sim.zeroRow zero).length=1:=by simp[Sim.zeroRow,r]
 have d:=nN 1 as.length 0 ((List.range as.length).flatMap fun _=>Sim.zeroRow zero) ys (ys.map fun y=>[y]) (by rw[qT,p,List.length_range];simp) hlen.symm (by simp[hlen]) (fun j x k=>⟨[x],hc j x k,rfl,by simp[k]⟩)
 simp only[pE1,List.take_zero,List.nil_append]at d
 have g:=hS1 1 (ys.map fun y=>[y]) (fun c hc=>by simp at hc;obtain⟨y,_,rfl⟩:=hc;rfl)
 rw[oU1,<-hlen]at g
 have m:=gJ o (.atp s.n 0 1 as.length)
 obtain⟨u,w,z⟩:=lG o (po:=.fl as) (ao:=.arr false ty 1 0 (ys.map fun y=>[y])) (ver:=0) (e:=1) (len:=as.length)
  ⟨o.lim,by omega,rfl,rfl,ty,_,by rw[bX,mA1 rfl],by simp[hlen],fun i f row a b=>by
   simp only[mZ1,lV1]at b
   obtain⟨y,hy,rfl⟩:=b
   exact .cons ((k.2 i f y a hy).mono m) .nil⟩
 refine⟨_,{v:=.sl 1 s.n 0 0 as.length none,new:=some (.arr false ty 1 0 (ys.map fun y=>[y]))},?_,.own (iS C n _),u,m,w⟩
 have:doOp (Sim.look s.h) lim s.n (.buildSl ty 1 as.length zero (List.range as.length)) ys=(Sim.fillParts ((List.range as.length).flatMap fun _=>Sim.zeroRow zero) ((List.range as.length).map fun i=>(i*1,1)) ys).map fun cs=>
  {v:=.sl 1 s.n 0 0 as.length none,new:=some (.arr false ty 1 0 ((List.range as.length).map fun i=>(cs.drop (i*1)).take 1))}:=by
  rcases ys with _|⟨a,_|⟨b,_|⟨c,t⟩⟩⟩<;>rfl
 rw[<-List.range_eq_range']at d
 rw[this,d]
 simp only[mQ1]
 rw[g]
theorem bG (hO:∀f xs v,O f xs=some v->FnOK T f xs v) (hX:NOK T X) (x:dr=0\/dr=3\/dr=4) {N lim:Nat} {R:Type}:∀(ops:POs) (u F:List Nat) (l:Bool) (g:Option (Nat×Bool)) (C:Cx) (n:Nat) (h:Heap) (e:Env) (t:List AV) (s:Hp) (K:Env->Heap->Nat->Option R) (r:R),
  opsK O X dr ops e h n K=some r->EnvR C e t->Mem C n h lim s->t.length=N->okO N u l F ops=true->GOK g t->GIn g u->
  ∃e' h' n' C' A s' fs,K e' h' n'=some r/\Tr T X.is dr lim (erO g ops) {t:=t,s:=s} fs {t:=A,s:=s'}/\EnvR C' e' A/\Mem C' n' h' lim s'/\A.length=N/\n<=n'/\Fr C h s C' h' s'/\∀(i:Nat),i∉dsts ops []->A[i]? =t[i]?
 |.nil,u,F,l,g,C,n,h,e,t,s,K,r,hk,he,hM,hN,ho,hg,hgi=>⟨e,h,n,C,t,s,[],by unfold opsK at hk;exact hk,.nil,he,hM,hN,lW1 _,.refl _ _ _,fun _ _=>rfl⟩
 |.op d k xs kl rs,u,F,l,g,C,n,h,e,t,s,K,r,hk,he,hM,hN,ho,hg,hgi=>by
  simp only[okO,lU1,mO1,dW,nU1]at ho
  obtain⟨⟨⟨o1,o2⟩,o3⟩,o4⟩:=ho
  have hd:d<t.length:=by omega
  have a0:d∉u:=by simpa using o2
  have back:∀{y:AV} {A:List AV},(∀(i:Nat),i∉dsts rs []->A[i]? =(t.set d y)[i]?)->∀(i:Nat),i∉dsts (.op d k xs kl rs) []->A[i]? =t[i]? :=fun hb i hi=>by
   simp only[dsts,mL1,pJ1]at hi
   rw[hb i hi.2,mM1 (Ne.symm hi.1)]
  unfold opsK at hk
  rw[eB,lT1]at hk
  obtain⟨vs,b8,hk⟩:=hk
  obtain⟨ys,h1,h2⟩:=fF he o3 b8
  have d7:∀{f:FuncId} {xs':List PV} {zs:List AV},sT O f xs' h (fun v=>delK e (d::kl) fun e=>opsK O X dr rs ((d,v)::e) h n K)=some r->LR (RV C) xs' zs->eO k=true->3<=cls X.is dr k->
    ((∃ifn,T f=some ifn/\ifn.pure=true)->Sim.foot T k ys={all:=1})->(∀(d:Nat) (s:Hp),Sim.step T (exec T d) lim k ys s=Sim.callF T (exec T d) lim f zs s)->
    ∃e' h' n' C' A s' fs,K e' h' n'=some r/\Tr T X.is dr lim (erO g (.op d k xs kl rs)) {t:=t,s:=s} fs {t:=A,s:=s'}/\EnvR C' e' A/\Mem C' n' h' lim s'/\A.length=N/\n<=n'/\Fr C h s C' h' s'/\∀(i:Nat),i∉dsts (.op d k xs kl rs) []->A[i]? =t[i]? :=by
   intro f xs' zs hk hz hc g7 hf g9
   obtain⟨v,y,q,h4,h5,D,h6⟩:=wS (lim:=lim) hO hM hk hz
   simp only[bY]at q
   have B:EnvR C ((d,v)::edel e (d::kl)) (t.set d y):=.put hd (.cl h4) (fun i w hw=>by
    obtain⟨z,p1,p2,p3⟩:=he.edel (d::kl) i w hw
    exact⟨z,p1,p2,fun e1=>p3 (by simp[e1])⟩)
   obtain⟨e2,e5,H,C2,Z,Y,fs,J,L,M,S,U,r6,V,W⟩:=bG hO hX x rs u (d::F) l g C n h _ _ s K r q B hM (by simpa using hN) o4 (hg.set hgi a0) hgi
   exact⟨e2,e5,H,C2,Z,Y,_,J,.call (o:=⟨some d,k,xs.map eX,g⟩) hg.wanted h1 hc g7 (hf h5) ⟨D,fun d hd m=>by rw[g9];exact h6 d hd m⟩ L,M,S,U,r6,V,back W⟩
  have ncall:∀{run:Heap->Nat->(PV->Heap->Nat->Option (PV×Heap×Nat))->Option (PV×Heap×Nat)} {xs':List PV} {zs:List AV} {P:AV->Hp->Prop} {nw fx:Bool},LR (RV C) xs' zs->
    (∀(hs:Heap) (C0:Cx) (m:Nat) (K':PV->Heap->Nat->Option (PV×Heap×Nat)) (r':PV×Heap×Nat),Mem C0 m hs lim s->LR (RV C0) xs' zs->run hs m K'=some r'->
     ∃v h' n' C' y s',K' v h' n'=some r'/\RV C' v y/\Mem C' n' h' lim s'/\m<=n'/\Fr C0 hs s C' h' s'/\P y s')->
    (∀y s',P y s'->(Sim.foot T k ys).all=2/\(dr≠0->cls X.is dr k=4)/\∃D,∀d,D<=d->Sim.step T (exec T d) lim k ys s=some (y,s'))->
    inKX fx run nw xs' e h n (d::kl) (fun v e h n=>opsK O X dr rs ((d,v)::e) h n K)=some r->
    ∃e' h' n' C' A s' fs,K e' h' n'=some r/\Tr T X.is dr lim (erO g (.op d k xs kl rs)) {t:=t,s:=s} fs {t:=A,s:=s'}/\EnvR C' e' A/\Mem C' n' h' lim s'/\A.length=N/\n<=n'/\Fr C h s C' h' s'/\∀(i:Nat),i∉dsts (.op d k xs kl rs) []->A[i]? =t[i]? :=by
   intro run xs' zs P nw fx hz f6 hP hk
   obtain⟨v,e',h',n',C',y,s',q1,q2,q3,q4,q5,q6,q7⟩:=eW1 hM he hz f6 hk
   obtain⟨p1,p2,p3⟩:=hP y s' q7
   have B:EnvR C' ((d,v)::e') (t.set d y):=.put hd q2 (fun i w hw=>by
    obtain⟨z,p1,p2,p3⟩:=q3 i w hw
    exact⟨z,p1,p2,fun e1=>p3 (by simp[e1])⟩)
   obtain⟨e2,e5,H,C2,Z,Y,fs,J,L,M,S,U,r6,V,W⟩:=bG hO hX x rs u (d::F) l g C' n' h' _ _ s' K r q1 B q4 (by simpa using hN) o4 (hg.set hgi a0) hgi
   exact⟨e2,e5,H,C2,Z,Y,_,J,.ncall (o:=⟨some d,k,xs.map eX,g⟩) hg.wanted h1 p1 p2 p3 L,M,S,U,by omega,q6.trans V,back W⟩
  split at hk
  .rename_i ty es b zero x1 x2
   obtain⟨y1,d1,rfl,p1,p2⟩:=h2.inv_cons
   obtain⟨y2,f7,rfl,p3,p4⟩:=p2.inv_cons
   have:=p4.inv_nil
   subst this
   obtain⟨C',e',h',out,q1,q2,q3,q4,q5⟩:=iB1 hM (b:=b) (zero:=zero) he hd p1 p3 hk
   obtain⟨e2,q,H,C2,Z,Y,fs,J,L,M,S,U,r6,V,W⟩:=bG hO hX x rs u (d::F) l g C' n h' e' _ _ K r q1 q4 q3 (by simpa using hN) o4 (hg.set hgi a0) hgi
   exact⟨e2,q,H,C2,Z,Y,_,J,.op (o:=⟨some d,_,xs.map eX,g⟩) hg.wanted h1 rfl q2 L,M,S,U,r6,q5.trans V,back W⟩
  .rename_i es k0 kd hi
   obtain⟨y1,d1,rfl,p1,p2⟩:=h2.inv_cons
   obtain⟨y2,f7,rfl,p3,p4⟩:=p2.inv_cons
   have:=p4.inv_nil
   subst this
   obtain⟨C',e',h',out,q1,q2,q3,q4,q5⟩:=bJ1 hM he hd p1 p3 hk
   obtain⟨e2,q,H,C2,Z,Y,fs,J,L,M,S,U,r6,V,W⟩:=bG hO hX x rs u (d::F) l g C' n h' e' _ _ K r q1 q4 q3 (by simpa using hN) o4 (hg.set hgi a0) hgi
   exact⟨e2,q,H,C2,Z,Y,_,J,.op (o:=⟨some d,_,xs.map eX,g⟩) hg.wanted h1 rfl q2 L,M,S,U,r6,q5.trans V,back W⟩
  .rename_i f
   cases hX1:X.is f with
   |true=>
    rw[hX1,mF1]at hk
    refine ncall (P:=fun y s'=>(∃ifn,T f=some ifn/\ifn.pure=false/\ifn.frz=false)/\∃D,∀d,D<=d->Sim.callF T (exec T d) lim f ys s=some (y,s')) h2 (fun hs C0 m K' r' d2 d6 hr=>hX.run f vs hs m K' r' C0 s lim ys hX1 hr d6 d2) (fun y s' hp=>⟨?_,fun _=>by simp[cls,hX1],hp.2⟩) hk
    obtain⟨⟨ifn,w1,w2,w3⟩,_⟩:=hp
    simp[Sim.foot,w1,w2,w3]
   |false=>
    rw[hX1,mT1]at hk
    refine d7 hk h2 rfl (by simp[cls,hX1]) (fun⟨ifn,w1,w2⟩=>?_) (fun d s=>rfl)
    simp[Sim.foot,w1,w2]
  .rename_i k0 as
   obtain⟨y1,d1,rfl,p1,p2⟩:=h2.inv_cons
   obtain⟨id,ver,e1,len,hC,rfl⟩:=wN p1
   by_cases q:dr=3
   .rw [q]at hk;exact aB hk
   .rw [aS,mK1 q,mT1]at hk
    refine ncall (fx:=false) (P:=fun y s'=>∃D,∀d,D<=d->Sim.round (exec T d) lim id d1 s=some (y,s')) (xs':=.yld k0::as) (zs:=.fn (.yield id) [] []::d1) h2 (fun hs C0 m K' r' d2 d6 hr=>?_) (fun y s' hp=>⟨rfl,fun h0=>by simp only[cls];rw[mA1 (by omega)],hp⟩) hk
    obtain⟨y1,f7,e2,p3,p4⟩:=d6.inv_cons
    cases e2
    obtain⟨id',i2,e',i1,f9,e3⟩:=wN p3
    cases e3
    exact hX.yld k0 as hs m K' r' C0 s lim _ _ _ _ _ hr p4 f9 d2
  .rename_i f first cap as
   obtain⟨y1,d1,rfl,p1,p2⟩:=h2.inv_cons
   obtain⟨a',b',rfl,p3,p4⟩:=qQ p1
   have hz:=(p3.append p2).append p4
   cases hX1:X.is f with
   |true=>
    rw[hX1,mF1]at hk
    by_cases q:dr=3
    .rw [q]at hk;exact aB hk
    .rw [aS,mK1 q,mT1]at hk
     refine ncall (fx:=false) (P:=fun y s'=>(∃ifn,T f=some ifn/\ifn.pure=false/\ifn.frz=false)/\∃D,∀d,D<=d->Sim.callF T (exec T d) lim f (a'++d1++b') s=some (y,s')) hz (fun hs C0 m K' r' d2 d6 hr=>hX.run f _ hs m K' r' C0 s lim _ hX1 hr d6 d2) (fun y s' hp=>⟨?_,fun h0=>by simp only[cls];rw[mA1 (by omega)],hp.2⟩) hk
     obtain⟨⟨ifn,w1,w2,w3⟩,_⟩:=hp
     simp[Sim.foot,w1,w2,w3]
   |false=>
    rw[hX1,mT1]at hk
    refine d7 hk hz rfl (by simp only[cls];split<;>omega) (fun⟨ifn,w1,w2⟩=>?_) (fun d s=>rfl)
    simp[Sim.foot,w1,w2]
  .obtain ⟨v,h',n',C',y,s',q1,q2,q3,q4,q5,q6,q7,q8⟩:=bK1 (dr:=dr) hO hM h2 hk
   simp only[bY]at q1
   have B:EnvR C' ((d,v)::edel e (d::kl)) (t.set d y):=.put hd q2 (fun i w hw=>by
    obtain⟨z,p1,p2,p3⟩:=(he.mono q4).edel (d::kl) i w hw
    exact⟨z,p1,p2,fun e1=>p3 (by simp[e1])⟩)
   obtain⟨e2,q,H,C2,Z,Y,fs,J,L,M,S,U,r6,V,W⟩:=bG hO hX x rs u (d::F) l g C' n' h' _ _ _ K r q1 B q3 (by simpa using hN) o4 (hg.set hgi a0) hgi
   obtain⟨f,hf⟩:=q8 ⟨some d,k,xs.map eX,g⟩ _ t fs _ rfl hg.wanted h1 L
   exact⟨e2,q,H,C2,Z,Y,_,J,hf,M,S,U,by omega,q6.trans V,back W⟩
 |.sto k xs kl rs,u,F,l,g,C,n,h,e,t,s,K,r,hk,he,hM,hN,ho,hg,hgi=>by
  simp only[okO,lU1]at ho
  obtain⟨o3,o4⟩:=ho
  unfold opsK at hk
  rw[eB,lT1]at hk
  obtain⟨vs,b8,hk⟩:=hk
  obtain⟨ys,h1,h2⟩:=fF he o3 b8
  obtain⟨v,h',n',C',out,q1,q2,q3,q4,q5,q6,q7,q8⟩:=wP hM h2 hk
  simp only[bY]at q1
  have B:EnvR C' (edel e kl) t:=fun i w hw=>by
   obtain⟨z,p1,p2,p3⟩:=(he.mono q5).edel kl i w hw
   exact⟨z,p1,p2⟩
  obtain⟨e2,q,H,C2,Z,Y,fs,J,L,M,S,U,r6,V,W⟩:=bG hO hX x rs u F l g C' n' h' _ t _ K r q1 B q4 hN o4 hg hgi
  refine⟨e2,q,H,C2,Z,Y,_,J,.op (o:=⟨none,k,xs.map eX,g⟩) hg.wanted h1 ?_ q2 L,M,S,U,by omega,q7.trans V,fun i hi=>W i (by simpa only[dsts]using hi)⟩
  cases k with
  |callF f=>unfold bP at hk;rcases vs with _|⟨a,_|⟨b,_|⟨c,_|⟨d,t⟩⟩⟩⟩<;>exact aB hk
  |callV=>unfold bP at hk;rcases vs with _|⟨a,_|⟨b,_|⟨c,_|⟨d,t⟩⟩⟩⟩<;>exact aB hk
  |_=>rfl
 |.ifx d c w bd x' kl rs,u,F,l,g,C,n,h,e,t,s,K,r,hk,he,hM,hN,ho,hg,hgi=>by
  simp only[okO,lU1,mO1,dW,nU1]at ho
  obtain⟨⟨⟨⟨⟨o1,o2⟩,o3⟩,o4⟩,o5⟩,o6⟩:=ho
  have a0:d∉u:=by simpa using o2
  unfold opsK at hk
  rw[cV,lT1]at hk
  obtain⟨cv,e7,hk⟩:=hk
  split at hk
  .rename_i cb
   rw[aU,lT1]at hk
   obtain⟨y,hy,hk⟩:=hk
   rw[bY]at hk
   obtain⟨cy,b5,e6⟩:=he c _ e7
   rw[rv_v e6]at b5
   obtain⟨fs,t1,s1,p1,p2,p3,p4,zs,p5,p6⟩:=tK (T:=T) (O:=O) (X:=X) (dr:=dr) hM hN o5 o3 b5 hy (fun hb g6=>lY hO bd (c::u) [] (some (c,w)) C n h e t s x' y hb he hM hN o5 o3 g6 (fun c' w' e=>by cases e;simp))
   have d3:GOK g t1:=by
    cases g with
    |none=>trivial
    |some p=>
     obtain⟨c',w'⟩:=p
     simp only[GOK]at hg ⊢
     rw[p3 c' (fun hi=>cC bd o5 c' hi (by simp[hgi c' w' rfl]))]
     exact hg
   have hd:d<t1.length:=by omega
   have B:EnvR C ((d,.v (.bool y))::edel e (d::dsts bd kl)) (t1.set d (.v (.bool y))):=.put hd (.cl (.v _)) (fun i w hw=>by
    obtain⟨z,q1,q2,q3⟩:=he.edel (d::dsts bd kl) i w hw
    have e9:i∉dsts bd []:=fun hi=>q3 (by simp[(bB bd kl i).2 (.inl hi)])
    exact⟨z,by rw[p3 i e9];exact q1,q2,fun e1=>q3 (by simp[e1])⟩)
   obtain⟨e2,q,H,C2,Z,Y,f8,J,L,M,S,U,r6,V,W⟩:=bG hO hX x rs u (d::F) l g C n h _ (t1.set d (.v (.bool y))) s1 K r hk B (hM.grow p4) (by simpa using p2) o6 (d3.set hgi a0) hgi
   refine⟨e2,q,H,C2,Z,Y,_,J,p1.append (.op (o:=⟨some d,.pick,_,g⟩) d3.wanted p5 rfl p6 L),M,S,U,r6,p4.fr.trans V,fun i hi=>?_⟩
   simp only[dsts,mL1,bB bd (dsts rs []) i,pJ1]at hi
   rw[W i hi.2.2,mM1 (Ne.symm hi.1),p3 i hi.2.1]
  .exact aB hk
 |.ifn d c w bd x' kl rs,u,F,l,g,C,n,h,e,t,s,K,r,hk,he,hM,hN,ho,hg,hgi=>by
  simp only[okO,lU1,mO1,dW,nU1]at ho
  obtain⟨⟨⟨⟨⟨o1,o2⟩,o3⟩,o4⟩,o5⟩,o6⟩:=ho
  have a0:d∉u:=by simpa using o2
  unfold opsK at hk
  rw[cV,lT1]at hk
  obtain⟨cv,e7,hk⟩:=hk
  split at hk
  .rename_i cb
   simp only[jT]at hk
   obtain⟨cy,b5,e6⟩:=he c _ e7
   rw[rv_v e6]at b5
   have f4:∀t1:List AV,(∀(i:Nat),i∉dsts bd []->t1[i]? =t[i]?)->t1[c]? =some (.v (.bool cb)):=fun t1 h7=>by
    rw[h7 c (fun hi=>cC bd o5 c hi (by simp))]
    exact b5
   have tail:∀{y:PV} {z:AV} {e1:Env} {h1:Heap} {n1:Nat} {C1:Cx} {t1:List AV} {s1:Hp} {e4:List Foot} {zs:List AV},delK e1 (d::dsts bd kl) (fun e=>opsK O X dr rs ((d,y)::e) h1 n1 K)=some r->RV C1 y z->Tr T X.is dr lim (erO (some (c,w)) bd) {t:=t,s:=s} e4 {t:=t1,s:=s1}->
     EnvR C1 (edel e1 (d::dsts bd kl)) t1->Mem C1 n1 h1 lim s1->t1.length=N->n<=n1->Fr C h s C1 h1 s1->(∀(i:Nat),i∉dsts bd []->t1[i]? =t[i]?)->
     Sim.evs t1 (if w then[.t c,eX x',.c (.v (.bool false))]else[.t c,.c (.v (.bool true)),eX x'])=some zs->doOp (Sim.look s1.h) lim s1.n .pick zs=some {v:=z}->
     ∃e' h' n' C' A s' fs,K e' h' n'=some r/\Tr T X.is dr lim (erO g (.ifn d c w bd x' kl rs)) {t:=t,s:=s} fs {t:=A,s:=s'}/\EnvR C' e' A/\Mem C' n' h' lim s'/\A.length=N/\n<=n'/\Fr C h s C' h' s'/\∀(i:Nat),i∉dsts (.ifn d c w bd x' kl rs) []->A[i]? =t[i]? :=by
    intro y z e1 h1 n1 C1 t1 s1 e4 zs hk i0 h8 d8 g1 g3 i3 g5 G g4 f1
    rw[bY]at hk
    have hd:d<t1.length:=by omega
    have d3:GOK g t1:=by
     cases g with
     |none=>trivial
     |some p=>
      obtain⟨c',w'⟩:=p
      simp only[GOK]at hg ⊢
      rw[G c' (fun hi=>cC bd o5 c' hi (by simp[hgi c' w' rfl]))]
      exact hg
    have B:EnvR C1 ((d,y)::edel e1 (d::dsts bd kl)) (t1.set d z):=.put hd i0 (fun i w hw=>by
     obtain⟨z',q1,q2⟩:=d8 i w hw
     refine⟨z',q1,q2,fun e2=>?_⟩
     rw[nI,mA1 (by simp[e2])]at hw
     cases hw)
    obtain⟨e2,q,H,C2,Z,Y,f8,J,L,M,S,U,r6,V,W⟩:=bG hO hX x rs u (d::F) l g C1 n1 h1 _ (t1.set d z) s1 K r hk B g1 (by simpa using g3) o6 (d3.set hgi a0) hgi
    refine⟨e2,q,H,C2,Z,Y,_,J,h8.append (.op (o:=⟨some d,.pick,_,g⟩) d3.wanted g4 rfl f1 L),M,S,U,by omega,g5.trans V,fun i hi=>?_⟩
    simp only[dsts,mL1,bB bd (dsts rs []) i,pJ1]at hi
    rw[W i hi.2.2,mM1 (Ne.symm hi.1),G i hi.2.1]
   have run:cb=w->opsK O X dr bd e h n (fun e h n=>evsK e [x'] fun vs=>match vs with
     |[y]=>delK e (d::dsts bd kl) fun e=>opsK O X dr rs ((d,y)::e) h n K
     |_=>none)=some r->∃e' h' n' C' A s' fs,K e' h' n'=some r/\Tr T X.is dr lim (erO g (.ifn d c w bd x' kl rs)) {t:=t,s:=s} fs {t:=A,s:=s'}/\EnvR C' e' A/\Mem C' n' h' lim s'/\A.length=N/\n<=n'/\Fr C h s C' h' s'/\∀(i:Nat),i∉dsts (.ifn d c w bd x' kl rs) []->A[i]? =t[i]? :=by
    intro e8 hk
    obtain⟨e1,h1,n1,C1,t1,s1,e4,q1,q2,q3,q4,q5,q6,q7,q8⟩:=bG hO hX x bd (c::u) [] true (some (c,w)) C n h e t s _ r hk he hM hN o5 (by rw[<-e8];exact b5) (fun c' w' e=>by cases e;simp)
    rw[eB,lT1]at q1
    obtain⟨vs,b8,q1⟩:=q1
    obtain⟨ys,q,h4⟩:=fF q3 (xs:=[x']) (by simpa using o3) b8
    split at q1
    .rename_i y
     obtain⟨z,_,rfl,h5,h6⟩:=h4.inv_cons
     rw[h6.inv_nil]at q
     have hz:(eX x').ev t1=some z:=by
      simp only[nV1,pF1,Sim.evs]at q
      split at q
      .rename_i a b ha hb;simp only[lZ1,oV1]at q;rw[<-q.1];exact ha
      .cases q
     have hc:=f4 t1 q8
     cases w with
     |true=>
      subst e8
      exact tail q1 h5 q2 (fun i w hw=>by obtain⟨z',p1,p2,_⟩:=q3.edel _ i w hw;exact⟨z',p1,p2⟩) q4 q5 q6 q7 q8 (evs3 (a:=.v (.bool true)) (b:=z) (c:=.v (.bool false)) hc hz rfl) rfl
     |false=>
      subst e8
      exact tail q1 h5 q2 (fun i w hw=>by obtain⟨z',p1,p2,_⟩:=q3.edel _ i w hw;exact⟨z',p1,p2⟩) q4 q5 q6 q7 q8 (evs3 (a:=.v (.bool false)) (b:=.v (.bool true)) (c:=z) hc rfl hz) rfl
    .exact aB q1
   have skip:cb≠w->(delK e (d::dsts bd kl) fun e=>opsK O X dr rs ((d,.v (.bool (!w)))::e) h n K)=some r->∃e' h' n' C' A s' fs,K e' h' n'=some r/\Tr T X.is dr lim (erO g (.ifn d c w bd x' kl rs)) {t:=t,s:=s} fs {t:=A,s:=s'}/\EnvR C' e' A/\Mem C' n' h' lim s'/\A.length=N/\n<=n'/\Fr C h s C' h' s'/\∀(i:Nat),i∉dsts (.ifn d c w bd x' kl rs) []->A[i]? =t[i]? :=by
    intro g8 hk
    obtain⟨fs,t1,k1,k2,k3,k4⟩:=cJ (T:=T) (NF:=X.is) (dr:=dr) (lim:=lim) (s:=s) (some (c,w)) bd (c::u) [] t o5 (fun c' w' e=>by cases e;simp) (by simp[Sim.wanted,b5,g8]) (fun c hc=>by simp at hc)
    obtain⟨z,hz⟩:=qY (c:=0) (i:=0) (k2.trans hN) o3
    have d8:EnvR C (edel e (d::dsts bd kl)) t1:=fun i v hv=>by
     obtain⟨z,q1,q2,q3⟩:=he.edel (d::dsts bd kl) i v hv
     have e9:i∉dsts bd []:=fun hi=>q3 (by simp[(bB bd kl i).2 (.inl hi)])
     exact⟨z,by rw[k3 i e9];exact q1,q2⟩
    have hc:=f4 t1 k3
    cases w with
    |true=>
     have:cb=false:=by cases cb<;>simp_all
     subst this
     exact tail hk (.cl (.v (.bool false))) k1 d8 hM (k2.trans hN) (lW1 _) (.refl _ _ _) k3 (evs3 (a:=.v (.bool false)) (b:=z) (c:=.v (.bool false)) hc hz rfl) rfl
    |false=>
     have:cb=true:=by cases cb<;>simp_all
     subst this
     exact tail hk (.cl (.v (.bool true))) k1 d8 hM (k2.trans hN) (lW1 _) (.refl _ _ _) k3 (evs3 (a:=.v (.bool true)) (b:=.v (.bool true)) (c:=z) hc rfl hz) rfl
   cases w with
   |true=>
    rw[mF1]at hk
    cases cb with
    |true=>exact run rfl hk
    |false=>exact skip (by simp) hk
   |false=>
    rw[mT1]at hk
    cases cb with
    |true=>exact skip (by simp) hk
    |false=>exact run rfl hk
  .exact aB hk
 |.mkfl d ty zero xs kl rs,u,F,l,g,C,n,h,e,t,s,K,r,hk,he,hM,hN,ho,hg,hgi=>by
  simp only[okO,lU1,mO1,dW,nU1]at ho
  obtain⟨⟨⟨o1,o2⟩,o3⟩,o4⟩:=ho
  have hd:d<t.length:=by omega
  have a0:d∉u:=by simpa using o2
  unfold opsK at hk
  rw[eB,lT1]at hk
  obtain⟨vs,b8,hk⟩:=hk
  obtain⟨ys,h1,h2⟩:=fF he o3 b8
  cases hc:(Nat.beq zero.length 1&&vs.all isFn)with
  |false=>rw[hc]at hk;exact aB hk
  |true=>
  rw[hc,mF1,bY]at hk
  simp only[lU1,aS,mU1]at hc
  obtain⟨C',out,q1,q2,q3,q4,q5⟩:=eX1 (ty:=ty) hM h2 hc.1 hc.2
  have hlen:vs.length=xs.length:=by
   have:=h2.1
   have q:ys.length=xs.length:=(bN1 h1).trans (by simp)
   omega
  rw[hlen]at q1
  have B:EnvR C' ((d,.own n)::edel e (d::kl)) (t.set d out.v):=.put hd q2 (fun i w hw=>by
   obtain⟨z,p1,p2,p3⟩:=(he.mono q4).edel (d::kl) i w hw
   exact⟨z,p1,p2,fun e1=>p3 (by simp[e1])⟩)
  obtain⟨e2,q,H,C2,Z,Y,fs,J,L,M,S,U,r6,V,W⟩:=bG hO hX x rs u (d::F) l g C' (n+1) _ _ _ _ K r hk B q3 (by simpa using hN) o4 (hg.set hgi a0) hgi
  refine⟨e2,q,H,C2,Z,Y,_,J,.op (o:=⟨some d,.buildSl ty 1 xs.length zero (List.range xs.length),xs.map eX,g⟩) hg.wanted h1 rfl q1 L,M,S,U,by omega,q5.trans V,fun i hi=>?_⟩
  simp only[dsts,mL1,pJ1]at hi
  rw[W i hi.2,mM1 (Ne.symm hi.1)]
 |.lax d es rs,u,F,l,g,C,n,h,e,t,s,K,r,hk,he,hM,hN,ho,hg,hgi=>by
  simp only[okO]at ho
  unfold opsK at hk
  rw[cV,lT1]at hk
  obtain⟨v,hv,hk⟩:=hk
  obtain⟨y,b4,E⟩:=he d _ hv
  have e0:∀v',RV C v' y->EnvR C ((d,v')::edel e [d]) t:=fun v' hv' i w hw=>by
   simp only[eget]at hw
   split at hw
   .rename_i e1;subst e1;cases hw;exact⟨y,b4,hv'⟩
   .obtain ⟨z,q1,q2,_⟩:=he.edel [d] i w hw
    exact⟨z,q1,q2⟩
  split at hk
  .rename_i s'
   rw[bY]at hk
   rw[rv_v E]at e0
   exact bG hO hX x rs u F l g C n h _ t s K r hk (e0 _ (.cl .isn)) hM hN ho hg hgi
  .rename_i cs
   obtain⟨cs',h1,h2⟩:∃cs',y=.agg cs'/\LR (RV C) cs cs':=gK E
   subst h1
   obtain⟨cs2,q1,q2⟩:=bM1 h2 hk
   rw[bY]at q1
   exact bG hO hX x rs u F l g C n h _ t s K r q1 (e0 _ (.agg q2.1 q2.2)) hM hN ho hg hgi
  .exact aB hk
 |.own d ty es g' rs,u,F,l,g,C,n,h,e,t,s,K,r,hk,he,hM,hN,ho,hg,hgi=>by
  simp only[okO]at ho
  unfold opsK at hk
  rw[cV,lT1]at hk
  obtain⟨v,hv,hk⟩:=hk
  obtain⟨y,b4,E⟩:=he d _ hv
  split at hk
  .rw [bY]at hk
   have hy:=rv_v E
   subst hy
   obtain⟨m1,m2⟩:=aT1 hM (ty:=ty) (e:=es) (g:=g')
   have d9:=gJ hM .nil
   have B:EnvR (ext C n .nil) ((d,.own n)::edel e [d]) t:=fun i w hw=>by
    simp only[eget]at hw
    split at hw
    .rename_i e1;subst e1;cases hw;exact⟨_,b4,.ownn (by simp[ext]) rfl⟩
    .obtain ⟨z,q1,q2,_⟩:=he.edel [d] i w hw
     exact⟨z,q1,q2.mono d9⟩
   obtain⟨e2,q,H,C2,Z,Y,fs,J,L,M,S,U,r6,V,W⟩:=bG hO hX x rs u F l g _ (n+1) _ _ t s K r hk B m1 hN ho hg hgi
   exact⟨e2,q,H,C2,Z,Y,fs,J,L,M,S,U,by omega,m2.trans V,W⟩
  .exact aB hk
 |.laxc d j es rs,u,F,l,g,C,n,h,e,t,s,K,r,hk,he,hM,hN,ho,hg,hgi=>by
  simp only[okO]at ho
  unfold opsK at hk
  rw[cV,lT1]at hk
  obtain⟨v,hv,hk⟩:=hk
  obtain⟨y,b4,E⟩:=he d _ hv
  split at hk
  .rename_i k o0
   rw[dA,lT1]at hk
   obtain⟨ob,b0,hk⟩:=hk
   split at hk
   .rename_i cs
    obtain⟨id,ver,e1,l1,hC,rfl⟩:=fP E
    obtain⟨hj,hk⟩:=bK _ _ _ _ hk
    .split at hk
     .rename_i tl b7
      obtain⟨f2,hk⟩:=dX _ _ _ _ _ hk
      .have hk:=bS _ _ _ _ _ hk
       have b6:cs[j]? =some (.v (.slice none 0 0)):=by
        have:(cs.drop j)[0]? =some (.v (.slice none 0 0)):=by rw[b7];rfl
        simpa using this
       obtain⟨f5,b9,esz,row,hL,hl⟩:=nL hM b0 hC
       have d4:=(hM.hr.lt (by rw[b0];simp) hC)
       obtain⟨m1,m2⟩:=nK hM (po':=.box (Sim.setL cs j [.is es []])) (ao:=.arr true b9 esz ver [row]) b0 hC ⟨d4.1,d4.2,b9,esz,row,by rw[Sim.look_upd,mA1 ⟨rfl,by rw[hL];rfl⟩],by
        refine⟨by rw[<-hl.1];simp[Sim.setL],fun i a b ha hb=>?_⟩
        simp only[Sim.setL]at ha
        rw[mN1]at ha
        split at ha
        .rename_i e2
         subst e2
         split at ha
         .cases ha
          have:=rv_v (hl.2 j _ _ b6 hb)
          subst this
          exact .cl .isn
         .cases ha
        .exact hl.2 i a b ha hb⟩ rfl
       have G:({h:=upd s.h id (.arr true b9 esz ver [row]),n:=s.n}:Hp)=s:=by
        rw[lZ hL]
       rw[G]at m1 m2
       obtain⟨e2,q,H,C2,Z,Y,fs,J,L,M,S,U,r6,V,W⟩:=bG hO hX x rs u F l g _ n _ _ t s K r hk he m1 hN ho hg hgi
       exact⟨e2,q,H,C2,Z,Y,fs,J,L,M,S,U,by omega,m2.trans V,W⟩
     .exact aB hk
   .exact aB hk
  .exact aB hk
 |.ownc d j ty es g' rs,u,F,l,g,C,n,h,e,t,s,K,r,hk,he,hM,hN,ho,hg,hgi=>by
  simp only[okO]at ho
  unfold opsK at hk
  rw[cV,lT1]at hk
  obtain⟨v,hv,hk⟩:=hk
  obtain⟨y,b4,E⟩:=he d _ hv
  split at hk
  .rename_i k o0
   rw[dA,lT1]at hk
   obtain⟨ob,b0,hk⟩:=hk
   split at hk
   .rename_i cs
    obtain⟨id,ver,e1,l1,hC,rfl⟩:=fP E
    obtain⟨hj,hk⟩:=bK _ _ _ _ hk
    .split at hk
     .rename_i tl b7
      obtain⟨hset,hk⟩:=dX _ _ _ _ _ hk
      .have hk:=bS _ _ _ _ _ hk
       have d9:=gJ hM .nil
       have b6:cs[j]? =some (.v (.slice none 0 0)):=by
        have:(cs.drop j)[0]? =some (.v (.slice none 0 0)):=by rw[b7];rfl
        simpa using this
       obtain⟨m1,m2⟩:=iF1 (ty:=ty) (e':=es) (g:=g') (cs2:=Sim.setL cs j [.own n]) hM b0 hC (fun row d5=>by
        refine⟨by rw[<-d5.1];simp[Sim.setL],fun i a b ha hb=>?_⟩
        simp only[Sim.setL]at ha
        rw[mN1]at ha
        split at ha
        .rename_i e2
         subst e2
         split at ha
         .cases ha
          have:=rv_v (d5.2 j _ _ b6 hb)
          subst this
          exact .ownn (by simp[ext]) rfl
         .cases ha
        .exact (d5.2 i a b ha hb).mono d9)
       obtain⟨e2,q,H,C2,Z,Y,fs,J,L,M,S,U,r6,V,W⟩:=bG hO hX x rs u F l g _ (n+1) _ _ t s K r hk (he.mono d9) m1 hN ho hg hgi
       exact⟨e2,q,H,C2,Z,Y,fs,J,L,M,S,U,by omega,m2.trans V,W⟩
     .exact aB hk
   .exact aB hk
  .exact aB hk
 |.fz d j rs,u,F,l,g,C,n,h,e,t,s,K,r,hk,he,hM,hN,ho,hg,hgi=>by
  simp only[okO]at ho
  unfold opsK at hk
  rw[cV,lT1]at hk
  obtain⟨v,hv,hk⟩:=hk
  obtain⟨y,b4,E⟩:=he d _ hv
  have fin:∀{m k v0 y0},sV v0=some (m,k)->RV C v0 y0->((j=none/\y=y0)\/∃i cs',j=some i/\y=.agg cs'/\cs'[i]? =some y0)->fzK e h d m k j (fun e h=>opsK O X dr rs e h n K)=some r->
    ∃e' h' n' C' A s' fs,K e' h' n'=some r/\Tr T X.is dr lim (erO g rs) {t:=t,s:=s} fs {t:=A,s:=s'}/\EnvR C' e' A/\Mem C' n' h' lim s'/\A.length=N/\n<=n'/\Fr C h s C' h' s'/\∀(i:Nat),i∉dsts rs []->A[i]? =t[i]? :=fun{m k v0 y0} hn h9 hj hk=>by
   obtain⟨C',e',h',q1,q2,q3,q4⟩:=iC1 hM he hv b4 E hn h9 hj hk
   obtain⟨e2,q,H,C2,Z,Y,fs,J,L,M,S,U,r6,V,W⟩:=bG hO hX x rs u F l g C' n _ _ t s K r q1 q3 q2 hN ho hg hgi
   exact⟨e2,q,H,C2,Z,Y,fs,J,L,M,S,U,r6,q4.trans V,W⟩
  cases j with
  |none=>
   simp only at hk
   split at hk
   .rename_i m k hn
    exact fin hn E (.inl ⟨rfl,rfl⟩) hk
   .exact aB hk
  |some j=>
   simp only at hk
   cases v with
   |agg cs=>
    obtain⟨cs',rfl,hl⟩:=gK E
    obtain⟨hj,hk⟩:=bK _ _ _ _ hk
    split at hk
    .rename_i c tl b7
     have b6:cs[j]? =some c:=by
      have:(cs.drop j)[0]? =some c:=by rw[b7];rfl
      simpa using this
     obtain⟨y0,k1,k2⟩:=hl.get b6
     split at hk
     .rename_i m k hn
      exact fin hn k2 (.inr ⟨j,cs',rfl,rfl,k1⟩) hk
     .exact aB hk
    .exact aB hk
   |_=>exact aB hk
 |.laxm d j rs,u,F,l,g,C,n,h,e,t,s,K,r,hk,he,hM,hN,ho,hg,hgi=>by
  simp only[okO]at ho
  unfold opsK at hk
  rw[cV,lT1]at hk
  obtain⟨v,hv,hk⟩:=hk
  obtain⟨y,b4,E⟩:=he d _ hv
  split at hk
  .rw [bY]at hk
   have hy:=rv_v E
   subst hy
   have B:EnvR C ((d,.zm [])::edel e [d]) t:=fun i w hw=>by
    simp only[eget]at hw
    split at hw
    .rename_i e1;subst e1;cases hw;exact⟨_,b4,.zm0⟩
    .obtain ⟨z,q1,q2,_⟩:=he.edel [d] i w hw
     exact⟨z,q1,q2⟩
   exact bG hO hX x rs u F l g C n h _ t s K r hk B hM hN ho hg hgi
  .rename_i j k o
   rw[dA,lT1]at hk
   obtain⟨ob,b0,hk⟩:=hk
   split at hk
   .rename_i cs
    obtain⟨id,ver,e1,l1,hC,rfl⟩:=fP E
    obtain⟨hj,hk⟩:=bK _ _ _ _ hk
    .split at hk
     .rename_i tl b7
      obtain⟨f2,hk⟩:=dX _ _ _ _ _ hk
      .have hk:=bS _ _ _ _ _ hk
       have b6:cs[j]? =some (.v (.map none)):=by
        have:(cs.drop j)[0]? =some (.v (.map none)):=by rw[b7];rfl
        simpa using this
       obtain⟨f5,b9,esz,row,hL,hl⟩:=nL hM b0 hC
       have d4:=(hM.hr.lt (by rw[b0];simp) hC)
       obtain⟨m1,m2⟩:=nK hM (po':=.box (Sim.setL cs j [.zm []])) (ao:=.arr true b9 esz ver [row]) b0 hC ⟨d4.1,d4.2,b9,esz,row,by rw[Sim.look_upd,mA1 ⟨rfl,by rw[hL];rfl⟩],by
        refine⟨by rw[<-hl.1];simp[Sim.setL],fun i a b ha hb=>?_⟩
        simp only[Sim.setL]at ha
        rw[mN1]at ha
        split at ha
        .rename_i e2
         subst e2
         split at ha
         .cases ha
          have:=rv_v (hl.2 j _ _ b6 hb)
          subst this
          exact .zm0
         .cases ha
        .exact hl.2 i a b ha hb⟩ rfl
       have G:({h:=upd s.h id (.arr true b9 esz ver [row]),n:=s.n}:Hp)=s:=by
        rw[lZ hL]
       rw[G]at m1 m2
       obtain⟨e2,q,H,C2,Z,Y,fs,J,L,M,S,U,r6,V,W⟩:=bG hO hX x rs u F l g _ n _ _ t s K r hk he m1 hN ho hg hgi
       exact⟨e2,q,H,C2,Z,Y,fs,J,L,M,S,U,by omega,m2.trans V,W⟩
     .exact aB hk
   .exact aB hk
  .exact aB hk
end
end Go.P
namespace Go.P
open Go.Sim (AV AO Hp Ent upd St IC IX Ex OpK CK Wf Out doOp Tab exec Foot wanted put popMark)
def rest (C:Cx) (n:Nat):Cx:=⟨fun k=>if k<n then C k else none,C.z⟩
theorem iI {C:Cx} {n:Nat} {x:PV} {y:AV} (h:RV C x y):∀{d:Nat},lO n d x=true->RV (rest C n) x y:=by
 have lt:∀{k d:Nat} {pl:Pl},C k=some pl->Nat.blt k n=true->rest C n k=some pl:=fun h1 h2=>by
  simp only[nU1]at h2
  simp[rest,h2,h1]
 induction h with
 |cl h=>intro d hb;exact .cl h
 |undef=>intro d hb;exact .undef
 |ref h=>intro d hb;cases d with
  |zero=>cases hb
  |succ d=>exact .ref (lt (d:=0) h hb)
 |own h=>intro d hb;cases d with
  |zero=>cases hb
  |succ d=>exact .own (lt (d:=0) h hb)
 |ownn h hy=>intro d hb;cases d with
  |zero=>cases hb
  |succ d=>exact .ownn (lt (d:=0) h hb) hy
 |el h=>intro d hb;cases d with
  |zero=>cases hb
  |succ d=>exact .el (lt (d:=0) h hb)
 |map h=>intro d hb;cases d with
  |zero=>cases hb
  |succ d=>exact .map (lt (d:=0) h hb)
 |yld h=>intro d hb;cases d with
  |zero=>cases hb
  |succ d=>exact .yld (lt (d:=0) h hb)
 |fn h1 h2 v1 v2 i1 i2=>intro d hb;cases d with
  |zero=>cases hb
  |succ d=>
   simp only[lO,lU1]at hb
   exact .fn h1 h2 (fun j x y a hy=>i1 j x y a hy (mB1.1 hb.1 x (mE1 a))) (fun j x y a hy=>i2 j x y a hy (mB1.1 hb.2 x (mE1 a)))
 |agg hl hc ih=>intro d hb;cases d with
  |zero=>cases hb
  |succ d=>exact .agg hl (fun j x y a hy=>ih j x y a hy (mB1.1 hb x (mE1 a)))
 |tup hl hc ih=>intro d hb;cases d with
  |zero=>cases hb
  |succ d=>exact .tup hl (fun j x y a hy=>ih j x y a hy (mB1.1 hb x (mE1 a)))
 |zs h=>intro d hb;exact .zs h
 |zm h he=>intro d hb;exact .zm h he
 |zm0=>intro d hb;exact .zm0
section
variable {R:Type}
theorem wY:∀(e:Env) (i:Nat) (K:PV->Option R) (D:Option R),dV1 e i K D=match eget e i with|some v=>K v|none=>D
 |[],_,_,_=>rfl
 |(j,v)::r,i,K,D=>by
  simp only[dV1,eget,aS]
  by_cases h:j=i<;>simp[h,wY r i K D]
theorem nU {e:Env} {n:Nat}:∀{is:List Nat} {K:Env->Option R} {r:R},aP1 e is n K=some r->∃e',K e'=some r/\∀i v,eget e' i=some v->eget e i=some v/\lO n 4 v=true
 |[],K,r,h=>⟨[],h,fun i v h=>by simp[eget]at h⟩
 |i::is,K,r,h=>by
  unfold aP1 at h
  rw[wY]at h
  cases hv:eget e i with
  |none=>rw[hv]at h;exact nU h
  |some v=>
   rw[hv]at h
   simp only at h
   cases hb:lO n 4 v with
   |false=>rw[hb]at h;exact aB h
   |true=>
    rw[hb,mF1]at h
    obtain⟨e',h1,h2⟩:=nU h
    refine⟨_,h1,fun j w hw=>?_⟩
    simp only[eget]at hw
    split at hw
    .rename_i a;subst a;cases hw;exact⟨hv,hb⟩
    .exact h2 j w hw
theorem tP {h:Heap} {n:Nat}:∀{r:Heap} {K:Heap->Option R} {x:R},dW1 r h n K=some x->∃h',K h'=some x/\∀k,(hget r k=none->hget h' k=none)/\(hget r k≠none->∃o,hget h' k=some o/\hget h k=some o/\lW n o=true)
 |[],K,x,hk=>⟨[],hk,fun k=>⟨fun _=>rfl,fun h=>absurd rfl h⟩⟩
 |(j,o)::r,K,x,hk=>by
  unfold dW1 at hk
  rw[dA,lT1]at hk
  obtain⟨o',b,hk⟩:=hk
  cases hb:lW n o' with
  |false=>rw[hb]at hk;exact aB hk
  |true=>
   rw[hb,mF1]at hk
   obtain⟨h',h1,h2⟩:=tP hk
   refine⟨_,h1,fun k=>?_⟩
   simp only[hget]
   by_cases a:j=k
   .subst a
    simp only[mW1]
    exact⟨fun h=>(by cases h),fun _=>⟨o',rfl,b,hb⟩⟩
   .simp only[lY1 a]
    exact h2 k
variable {C0 C:Cx} {n0 n:Nat} {h0 h:Heap} {e:Env} {t:List AV} {s0 s:Hp} {lim:Nat}
theorem gZ (hd:∀k,hget h0 k≠none->k<n0) (z:Mem C n h lim s) (he:EnvR C e t) {keep:List Nat} {K:PSt->Option R} {r:R} (hk:gV keep h0 n0 e h K=some r):
  ∃st,K st=some r/\EnvR (rest C n0) st.e t/\Mem (rest C n0) n0 st.h lim s/\(∀k o,hget st.h k=some o->hget h k=some o)/\(∀k,hget h0 k=none↔hget st.h k=none):=by
 unfold gV at hk
 obtain⟨e',hk,h1⟩:=nU hk
 obtain⟨h',hk,h2⟩:=tP hk
 have p:∀k o,hget h' k=some o->hget h k=some o/\lW n0 o=true/\k<n0:=fun k o m=>by
  by_cases u:hget h0 k=none
  .rw [(h2 k).1 u]at m;cases m
  .obtain ⟨o',q1,q2,q3⟩:=(h2 k).2 u
   rw[m]at q1
   cases q1
   exact⟨q2,q3,hd k u⟩
 have hr:∀k pl,rest C n0 k=some pl->C k=some pl/\k<n0:=fun k pl hk=>by
  simp only[rest]at hk
  split at hk
  .rename_i E;exact⟨hk,E⟩
  .cases hk
 refine⟨_,hk,fun i v hv=>?_,⟨⟨fun k o D=>?_,fun k k' id v e l v' e' l' a b c d=>?_,fun id o u=>?_⟩,fun k pl hk=>(hr k pl hk).2,z.wf,z.lim⟩,fun k o m=>(p k o m).1,fun k=>⟨(h2 k).1,fun u=>?_⟩⟩
 .obtain ⟨q1,q2⟩:=h1 i v hv
  obtain⟨y,p1,p2⟩:=he i v q1
  exact⟨y,p1,iI p2 q2⟩
 .obtain ⟨q1,q2,q3⟩:=p k o D
  obtain⟨pl,p1,p2⟩:=z.hr.ob k o q1
  refine⟨pl,by simp[rest,q3,p1],?_⟩
  cases o with
  |box cs=>
   cases pl with
   |nil=>exact p2
   |atp id ver e len=>
    obtain⟨a1,a2,ty,esz,row,a3,a4⟩:=p2
    exact⟨a1,a2,ty,esz,row,a3,a4.1,fun j x y w hy=>iI (a4.2 j x y w hy) (mB1.1 q2 x (mE1 w))⟩
  |lst ty e g rows=>cases pl<;>exact p2
  |lz ty e dp rows=>cases pl<;>exact p2
  |mp es=>cases pl<;>exact p2
  |fl fs=>
   cases pl with
   |nil=>exact p2
   |atp id ver e len=>
    obtain⟨a1,a2,a3,a4,ty,els,a5,a6,a7⟩:=p2
    refine⟨a1,a2,a3,a4,ty,els,a5,a6,fun i f row hf q=>?_⟩
    have B:=mB1.1 q2 f (mE1 hf)
    refine⟨(a7 i f row hf q).1,fun j x y w hy=>?_⟩
    cases j with
    |zero=>simp at w;subst w;exact iI ((a7 i f row hf q).2 0 f y rfl hy) B
    |succ j=>simp at w
  |loop N' e ps a b busy fin=>
   cases pl with
   |nil=>exact p2
   |atp id ver e' len=>
    obtain⟨a1,a2,st,pend,tmps,a3,a4,a5,a6⟩:=p2
    refine⟨a1,a2,st,pend,tmps,a3,a4,fun i v hv=>?_,a6⟩
    obtain⟨y,G,H⟩:=a5 i v hv
    exact⟨y,G,iI H (mB1.1 q2 _ (rB hv))⟩
 .have F:∀k,hget h' k≠none->hget h k≠none:=fun k hk=>by
   cases m:hget h' k with
   |none=>exact absurd m hk
   |some o=>rw[(p k o m).1];simp
  exact z.hr.inj k k' id v e l v' e' l' (F k a) (F k' b) (hr _ _ c).1 (hr _ _ d).1
 .obtain ⟨z1,z2,z3,z4⟩:=z.hr.zr id o u
  refine⟨z1,z2,fun k v e l a b=>z3 k v e l ?_ (hr _ _ b).1,z4⟩
  cases m:hget h' k with
  |none=>exact absurd m a
  |some o=>rw[(p k o m).1];simp
 .by_cases A:hget h0 k=none
  .exact A
  .obtain ⟨o,q1,_⟩:=(h2 k).2 A
   rw[u]at q1
   cases q1
theorem Fr.canon {h1 hc:Heap} (c:Mem C0 n0 h1 lim s0) (hf:Fr C0 h1 s0 C h s) (a:∀k o,hget hc k=some o->hget h k=some o) (b:∀k,hget h1 k=none↔hget hc k=none):Fr C0 h1 s0 (rest C n0) hc s:=by
 refine⟨hf.sk,hf.n,hf.keep,fun id f d=>hf.own id f ?_,fun k o hk=>?_,hf.zl,hf.zn⟩
 .obtain ⟨k,v,e,l,q1,q2⟩:=d
  refine⟨k,v,e,l,?_,?_⟩
  .cases d:hget hc k with
   |none=>exact absurd d q1
   |some o=>rw[a k o d];simp
  .simp only[rest]at q2
   split at q2
   .exact q2
   .cases q2
 .obtain ⟨o',q1,q2⟩:=hf.kd k o hk
  have g:k<n0:=by
   obtain⟨pl,p1,_⟩:=c.hr.ob k o hk
   exact c.dom k pl p1
  cases hz:hget hc k with
  |none=>rw[(b k).2 hz]at hk;cases hk
  |some o2=>
   have:=a k o2 hz
   rw[q1]at this
   cases this
   exact⟨o',rfl,fun hb=>⟨(q2 hb).1,by simp[rest,g,(q2 hb).2]⟩⟩
theorem cK:∀{h:List Ent} {id:Nat} {o:AO},Sim.look h id=some o->(∀ty e v els,o≠.arr true ty e v els)->Sim.look (popMark h) id=some o
 |[],id,o,h,_=>by simp[Sim.look]at h
 |.mark::r,id,o,h,_=>h
 |.ob i o'::r,id,o,h,hne=>by
  simp only[Sim.look]at h
  simp only[popMark]
  split at h
  .rename_i a
   cases h
   split
   .exact absurd rfl (hne _ _ _ _)
   .simp [Sim.look,a]
  .rename_i a
   have ih:=cK h hne
   split
   .exact ih
   .simp [Sim.look,a,ih]
theorem Mem.pop {C1:Cx} {h1 hc:Heap} {f:Hp} (l:Mem C0 n0 h1 lim s0) (d:Mem C1 n0 hc lim f) (hf:Fr C0 h1 {h:=.mark::s0.h,n:=s0.n} C1 hc f) (c:∀k,hget h1 k=none↔hget hc k=none):
  Mem C1 n0 hc lim {h:=popMark f.h,n:=f.n}/\Fr C0 h1 s0 C1 hc {h:=popMark f.h,n:=f.n}:=by
 obtain⟨p1,p2⟩:=hf.sk.pop
 refine⟨⟨⟨fun k o hk=>?_,d.hr.inj,fun id o j=>?_⟩,d.dom,d.wf.pop,d.lim⟩,⟨p1,hf.n,fun id i p=>?_,hf.own,hf.kd,hf.zl,hf.zn⟩⟩
 .obtain ⟨pl,q1,q2⟩:=d.hr.ob k o hk
  refine⟨pl,q1,?_⟩
  cases o with
  |box cs=>
   cases pl with
   |nil=>exact q2
   |atp id ver e len=>
    obtain⟨a1,a2,ty,esz,row,a3,a4⟩:=q2
    have m:id<s0.n:=by
     cases j:hget h1 k with
     |none=>rw[(c k).1 j]at hk;cases hk
     |some o0=>
      obtain⟨o',w1,w2⟩:=hf.kd k o0 j
      rw[hk]at w1
      cases w1
      obtain⟨_,w3⟩:=w2 rfl
      rw[q1]at w3
      exact(l.hr.lt (by rw[j];simp) w3.symm).2
    exact⟨a1,a2,ty,esz,row,by rw[p2 id m];exact a3,a4⟩
  |lst ty e g rows=>
   cases pl with
   |nil=>exact q2
   |atp id ver e' len=>
    obtain⟨a1,a2,a3,a4,els,a5,a6⟩:=q2
    exact⟨a1,a2,a3,a4,els,cK a5 (fun _ _ _ _ e=>by cases e),a6⟩
  |lz ty e dp rows=>
   cases pl with
   |nil=>exact q2
   |atp id ver e' len=>
    obtain⟨a1,a2,a3,a4,a7,els,a5,a6⟩:=q2
    exact⟨a1,a2,a3,a4,a7,els,cK a5 (fun _ _ _ _ e=>by cases e),a6⟩
  |mp es=>
   cases pl with
   |nil=>exact q2
   |atp id ver e' len=>
    obtain⟨a1,a2,es',a3,a4⟩:=q2
    exact⟨a1,a2,es',cK a3 (fun _ _ _ _ e=>by cases e),a4⟩
  |fl fs=>
   cases pl with
   |nil=>exact q2
   |atp id ver e' len=>
    obtain⟨a1,a2,a3,a4,ty,els,a5,a6⟩:=q2
    exact⟨a1,a2,a3,a4,ty,els,cK a5 (fun _ _ _ _ e=>by cases e),a6⟩
  |loop N' e ps a b busy fin=>
   cases pl with
   |nil=>exact q2
   |atp id ver e' len=>
    obtain⟨a1,a2,st,pend,tmps,a3,a4⟩:=q2
    exact⟨a1,a2,st,pend,tmps,cK a3 (fun _ _ _ _ e=>by cases e),a4⟩
 .obtain ⟨z1,z2,z3,z4⟩:=d.hr.zr id o j
  exact⟨cK z1 (fun _ _ _ _ e=>by subst e;cases z4),z2,z3,z4⟩
 .rw [p2 id i]
  exact hf.keep id i p
end
end Go.P
namespace Go.P
open Go.Sim (AV AO Hp Ent upd St IC IX Ex OpK CK Wf Out doOp Tab exec Foot wanted put popMark)
def okP (NF:FuncId->Bool) (N:Nat) (rd:Bool):PC->Bool
 |.reg ops=>okO N [] false [] ops
 |.regD dr ops before=>(Nat.beq dr 3||Nat.beq dr 4)&&okO N [] false [] ops&&wQ ((erO none ops).map fun o=>cls NF dr o.k) before
 |.regX dr ops before ex=>(Nat.beq dr 3||Nat.beq dr 4)&&okO N [] false [] ops&&eN1 ((erO none ops).map fun o=>cls NF dr o.k) before ex&&ex.all (exOK (erO none ops))
 |.seq a b=>okP NF N rd a&&okP NF N rd b
 |.cond c a b=>okX N c&&okP NF N rd a&&okP NF N rd b
 |.condJ _ c a b=>okX N c&&okP NF N rd a&&okP NF N rd b
 |.condL c a b=>okX N c&&okP NF N rd a&&okP NF N rd b
 |.block _ c=>okP NF N rd c
 |.loop _ _ c=>okP NF N rd c
 |.loopU _ _ c=>okP NF N rd c
 |.rangeF N' _ f _ _ _=> !rd&&Nat.beq N' N&&okX N f
 |_=>true
def okL (NF:FuncId->Bool) (N:Nat) (ps:List Nat) (a b:PC):Bool:=ps.all (fun p=>Nat.blt p N)&&okP NF N true a&&okP NF N true b
theorem nV:∀{ops:POs} {g:Option (Nat×Bool)},sX ops=true->erO g ops=[]
 |.nil,g,_=>rfl
 |.lax _ _ r,g,h=>nV (ops:=r) h
 |.own _ _ _ _ r,g,h=>nV (ops:=r) h
 |.ownc _ _ _ _ _ r,g,h=>nV (ops:=r) h
 |.laxc _ _ _ r,g,h=>nV (ops:=r) h
 |.fz _ _ r,g,h=>nV (ops:=r) h
 |.laxm _ _ r,g,h=>nV (ops:=r) h
section
variable {T:Tab} {O:Orc} {X:NX}
def Res {R:Type} (T:Tab) (N lim:Nat) (rd:Bool) (c:IC) (C:Cx) (n:Nat) (h:Heap) (t:List AV) (s:Hp) (K:Ex->Env->Heap->Nat->Option R) (r:R):Prop:=
 ∃x e' h' n' C' a s',K x e' h' n'=some r/\EnvR C' e' a/\Mem C' n' h' lim s'/\a.length=N/\n<=n'/\Fr C h s C' h' s'/\∃D,∀d,D<=d->exec T d lim rd c {t:=t,s:=s}=some (x,{t:=a,s:=s'})
variable {R:Type} {N lim:Nat} {rd:Bool}
theorem Tr.nil_inv {NF:FuncId->Bool} {dr:Nat} {σ τ:St} {fs:List Foot} (h:Tr T NF dr lim [] σ fs τ):τ=σ:=by cases h;rfl
theorem wZ {C:Cx} {x:PV} {a:AV} (h:RV C x a) (hf:free x=true):Sim.idOf a=[]:=by
 cases h with
 |cl h=>cases h<;>first|rfl|simp[free]at hf
 |_=>simp[free]at hf
theorem gE1 {C:Cx} {x:PV} {a:AV} {k i:Nat} (h:RV C x a) (hk:qO x=some k) (hi:i∈Sim.idOf a):∃v e l,C k=some (.atp i v e l):=by
 cases h with
 |cl h=>cases h<;>simp[qO]at hk
 |ownn h hy=>subst hy;simp[Sim.idOf]at hi
 |ref h=>simp[qO]at hk;simp[Sim.idOf]at hi;subst hk;subst hi;exact⟨_,_,_,h⟩
 |own h=>simp[qO]at hk;simp[Sim.idOf]at hi;subst hk;subst hi;exact⟨_,_,_,h⟩
 |el h=>simp[qO]at hk;simp[Sim.idOf]at hi;subst hk;subst hi;exact⟨_,_,_,h⟩
 |map h=>simp[qO]at hk;simp[Sim.idOf]at hi;subst hk;subst hi;exact⟨_,_,_,h⟩
 |_=>simp[qO]at hk
theorem eY1 {C:Cx} {e:Env} {t:List AV} {n lim:Nat} {h:Heap} {s:Hp} (he:EnvR C e t) (o:Mem C n h lim s) {p:Nat×Nat×Nat×Nat}
  (hp:(match eget e p.2.2.1,eget e p.2.2.2 with|some x,some y=>aQ1 h x y|_,_=>false)=true):eO1 {t:=t,s:=s} p:=by
 split at hp
 .rename_i x y r hy
  obtain⟨a,q,g⟩:=he _ _ r
  obtain⟨b,hb,j⟩:=he _ _ hy
  refine⟨a,b,q,hb,fun i hi d=>?_⟩
  unfold aQ1 at hp
  simp only[mP1]at hp
  rcases hp with(hp|hp)|hp
  .rw [wZ g hp]at hi;simp at hi
  .rw [wZ j hp]at d;simp at d
  .split at hp
   .rename_i k k' h1 h2
    simp only[lU1,mO1,aS,nF1]at hp
    obtain⟨⟨f,hk⟩,c⟩:=hp
    obtain⟨v,m,l,c1⟩:=gE1 g h1 hi
    obtain⟨v',e2,l',c2⟩:=gE1 j h2 d
    exact f (o.hr.inj k k' i v m l v' e2 l' (fun h=>by rw[h]at hk;cases hk) (fun h=>by rw[h]at c;cases c) c1 c2)
   .cases hp
 .cases hp
theorem iG1 {a b:IC} {C:Cx} {n:Nat} {h:Heap} {t:List AV} {s:Hp} {K:Ex->Env->Heap->Nat->Option R} {r:R} {v:PC}
  (y:Res T N lim rd a C n h t s (fun x e h n=>match x with|.normal=>dF O X v e h n K|.exit i=>K (.exit i) e h n|.ret=>K .ret e h n) r)
  (hb:∀C n h e t s,dF O X v e h n K=some r->EnvR C e t->Mem C n h lim s->t.length=N->Res T N lim rd b C n h t s K r):
  Res T N lim rd (.seq a b) C n h t s K r:=by
 obtain⟨x,f,h1,p,C1,u,q,g,j,k,l,w,m,D,o⟩:=y
 cases x with
 |normal=>
  obtain⟨E,e2,h2,z,C2,B,A,q1,q2,q3,q4,q5,q6,D2,q7⟩:=hb C1 p h1 f u q g j k l
  refine⟨E,e2,h2,z,C2,B,A,q1,q2,q3,q4,by omega,m.trans q6,D+D2+1,fun d hd=>?_⟩
  obtain⟨d,rfl⟩:∃c,d=c+1:=⟨d-1,by omega⟩
  simp only[exec,o d (by omega)]
  exact q7 d (by omega)
 |exit i=>
  refine⟨.exit i,f,h1,p,C1,u,q,g,j,k,l,w,m,D+1,fun d hd=>?_⟩
  obtain⟨d,rfl⟩:∃c,d=c+1:=⟨d-1,by omega⟩
  simp only[exec,o d (by omega)]
 |ret=>
  refine⟨.ret,f,h1,p,C1,u,q,g,j,k,l,w,m,D+1,fun d hd=>?_⟩
  obtain⟨d,rfl⟩:∃c,d=c+1:=⟨d-1,by omega⟩
  simp only[exec,o d (by omega)]
theorem rE {c:IX} {a b:IC} {C:Cx} {n:Nat} {h:Heap} {t:List AV} {s:Hp} {K:Ex->Env->Heap->Nat->Option R} {r:R} {v:Bool} (hc:c.ev t=some (.v (.bool v)))
  (g:Res T N lim rd (if v then a else b) C n h t s K r):Res T N lim rd (.cond c a b) C n h t s K r:=by
 obtain⟨x,f,h1,q,C1,w,u,i,j,k,l,m,o,D,p⟩:=g
 refine⟨x,f,h1,q,C1,w,u,i,j,k,l,m,o,D+1,fun d hd=>?_⟩
 obtain⟨d,rfl⟩:∃e,d=e+1:=⟨d-1,by omega⟩
 simp only[exec,hc]
 exact p d (by omega)
theorem vM {C:Cx} {e:Env} {t:List AV} {c:PX} {vs:List PV} (he:EnvR C e t) (g:okX N c=true) (a:evs e [c]=some vs) {v:Bool} (hv:vs=[.v (.bool v)]):(eX c).ev t=some (.v (.bool v)):=by
 obtain⟨ys,h1,h2⟩:=fF he (xs:=[c]) (by simpa using g) a
 subst hv
 obtain⟨y,_,rfl,b,d⟩:=h2.inv_cons
 rw[d.inv_nil,rv_v b]at h1
 simp only[nV1,pF1,Sim.evs]at h1
 split at h1
 .rename_i f hb
  cases h1
  exact f
 .cases h1
theorem xA {c:IC} {w:PC} {keep kx:List Nat} {n:Nat} {h0:Heap} (hd:∀k,hget h0 k≠none->k<n)
  (hb:∀{R':Type} (K':Ex->Env->Heap->Nat->Option R') (r':R') C n h e t s,dF O X w e h n K'=some r'->EnvR C e t->Mem C n h lim s->t.length=N->Res T N lim rd c C n h t s K' r'):
  ∀(k:Nat) (st:PSt) (C:Cx) (t:List AV) (s:Hp) (x:Ex) (st':PSt),
   aP (fun s:PSt=>dF O X w s.e s.h n fun x e' h' _=>gV (lk x keep kx) h0 n e' h' fun s'=>some (match x with|.normal=>(.inl s':PSt⊕(Ex×PSt))|x=>.inr (x,s'))) k st=some (x,st')->
   EnvR C st.e t->Mem C n st.h lim s->t.length=N->(∀k,hget h0 k=none↔hget st.h k=none)->
   ∃C' j s',EnvR C' st'.e j/\Mem C' n st'.h lim s'/\j.length=N/\Fr C st.h s C' st'.h s'/\∃D,∀d,D<=d->exec T d lim rd (.loop c) {t:=t,s:=s}=some (x,{t:=j,s:=s'})
 |0,st,C,t,s,x,st',h,_,_,_,_=>by simp[aP]at h
 |k+1,st,C,t,s,x,st',h,he,hM,hN,hkeys=>by
  simp only[aP,lT1]at h
  obtain⟨q,z,h⟩:=h
  have b:Mem C n st.h lim {h:=.mark::s.h,n:=s.n}:=⟨⟨hM.hr.ob,hM.hr.inj,hM.hr.zr⟩,hM.dom,hM.wf,hM.lim⟩
  obtain⟨H,J,h1,L,C1,v,M,B,E,F,o,K,G,D,p⟩:=hb _ q C n st.h st.e t _ z he b hN
  have y:∀k,hget st.h k≠none->k<n:=fun k hk=>hd k (fun A=>hk ((hkeys k).1 A))
  obtain⟨g,w1,w2,w3,w4,w5⟩:=gZ hd F E B
  have l:∀k,hget st.h k=none↔hget g.h k=none:=fun k=>(hkeys k).symm.trans (w5 k)
  have m:=Fr.canon b G w4 l
  obtain⟨r,u⟩:=Mem.pop hM w3 m l
  cases H with
  |normal=>
   simp only[lZ1]at w1
   subst w1
   simp only at h
   obtain⟨C',j,s',p1,p2,p3,p4,D2,p5⟩:=xA hd hb k g _ v _ x st' h w2 r o w5
   refine⟨C',j,s',p1,p2,p3,u.trans p4,D+D2+1,fun d f=>?_⟩
   obtain⟨d,rfl⟩:∃a,d=a+1:=⟨d-1,by omega⟩
   rw[exec]
   simp only[p d (by omega)]
   exact p5 d (by omega)
  |exit i=>
   simp only[lZ1]at w1
   subst w1
   simp only[lZ1,mJ1]at h
   obtain⟨rfl,rfl⟩:=h
   refine⟨_,v,_,w2,r,o,u,D+1,fun d f=>?_⟩
   obtain⟨d,rfl⟩:∃a,d=a+1:=⟨d-1,by omega⟩
   rw[exec]
   simp only[p d (by omega)]
  |ret=>
   simp only[lZ1]at w1
   subst w1
   simp only[lZ1,mJ1]at h
   obtain⟨rfl,rfl⟩:=h
   refine⟨_,v,_,w2,r,o,u,D+1,fun d f=>?_⟩
   obtain⟨d,rfl⟩:∃a,d=a+1:=⟨d-1,by omega⟩
   rw[exec]
   simp only[p d (by omega)]
theorem tQ {c:IC} {w:PC} {keep:List Nat} {n:Nat} {h0:Heap} (hd:∀k,hget h0 k≠none->k<n)
  (hb:∀{R':Type} (K':Ex->Env->Heap->Nat->Option R') (r':R') C n h e t s,dF O X w e h n K'=some r'->EnvR C e t->Mem C n h lim s->t.length=N->Res T N lim rd c C n h t s K' r'):
  ∀(k:Nat) (st:PSt) (C:Cx) (t:List AV) (s:Hp) (K:Ex->PSt->Option R) (r:R),
   sW (fun e h K=>dF O X w e h n fun x e h _=>K x e h) (fun e' h' K=>gV keep h0 n e' h' K) k st K=some r->
   EnvR C st.e t->Mem C n st.h lim s->t.length=N->(∀k,hget h0 k=none↔hget st.h k=none)->
   ∃x st' C' j s',K x st'=some r/\EnvR C' st'.e j/\Mem C' n st'.h lim s'/\j.length=N/\Fr C st.h s C' st'.h s'/\∃D,∀d,D<=d->exec T d lim rd (.loop c) {t:=t,s:=s}=some (x,{t:=j,s:=s'})
 |0,st,C,t,s,K,r,h,_,_,_,_=>by simp[sW]at h
 |k+1,st,C,t,s,K,r,hq,he,hM,hN,hkeys=>by
  simp only[sW]at hq
  have f:Mem C n st.h lim {h:=.mark::s.h,n:=s.n}:=⟨⟨hM.hr.ob,hM.hr.inj,hM.hr.zr⟩,hM.dom,hM.wf,hM.lim⟩
  obtain⟨G,H,h1,L,C1,v,M,A,B,E,o,J,F,D,p⟩:=hb _ r C n st.h st.e t _ hq he f hN
  have y:∀k,hget st.h k≠none->k<n:=fun k hk=>hd k (fun z=>hk ((hkeys k).1 z))
  obtain⟨a,w1,w2,w3,w4,w5⟩:=gZ hd E B A
  have l:∀k,hget st.h k=none↔hget a.h k=none:=fun k=>(hkeys k).symm.trans (w5 k)
  have m:=Fr.canon f F w4 l
  obtain⟨q,u⟩:=Mem.pop hM w3 m l
  cases G with
  |normal=>
   obtain⟨x,st',C',j,s',p0,p1,p2,p3,p4,D2,p5⟩:=tQ hd hb k a _ v _ K r w1 w2 q o w5
   refine⟨x,st',C',j,s',p0,p1,p2,p3,u.trans p4,D+D2+1,fun d g=>?_⟩
   obtain⟨d,rfl⟩:∃b,d=b+1:=⟨d-1,by omega⟩
   rw[exec]
   simp only[p d (by omega)]
   exact p5 d (by omega)
  |exit i=>
   refine⟨.exit i,a,_,v,_,w1,w2,q,o,u,D+1,fun d g=>?_⟩
   obtain⟨d,rfl⟩:∃b,d=b+1:=⟨d-1,by omega⟩
   rw[exec]
   simp only[p d (by omega)]
  |ret=>
   refine⟨.ret,a,_,v,_,w1,w2,q,o,u,D+1,fun d g=>?_⟩
   obtain⟨d,rfl⟩:∃b,d=b+1:=⟨d-1,by omega⟩
   rw[exec]
   simp only[p d (by omega)]
def hdel:Heap->Nat->Heap
 |[],_=>[]
 |(j,o)::r,k=>if j=k then hdel r k else(j,o)::hdel r k
theorem xB:∀(h:Heap) (k:Nat) (K:Heap->Option R),aN1 h k K=K (hdel h k)
 |[],_,_=>rfl
 |(j,o)::r,k,K=>by
  simp only[aN1,hdel,aS]
  by_cases e:j=k<;>simp[e,xB r k]
theorem hJ:∀(h:Heap) (k j:Nat),hget (hdel h k) j=if j=k then none else hget h j
 |[],k,j=>by simp[hdel,hget]
 |(i,o)::r,k,j=>by
  have ih:=hJ r k j
  simp only[hdel]
  by_cases e:i=k
  .subst e
   rw[mA1 rfl,ih]
   by_cases e2:j=i
   .simp [e2]
   .simp [e2,hget,Ne.symm e2]
  .rw [lY1 e]
   simp only[hget]
   by_cases e2:i=j
   .subst e2;simp[e]
   .simp only[lY1 e2,ih]
theorem pL {e:Env}:∀{is:List Nat} {K:Env->Option R} {r:R},dX1 e is K=some r->∃e',K e'=some r/\∀i v,eget e' i=some v->eget e i=some v
 |[],K,r,h=>⟨[],h,fun i v h=>by simp[eget]at h⟩
 |i::is,K,r,h=>by
  unfold dX1 at h
  rw[cV,lT1]at h
  obtain⟨v,hv,h⟩:=h
  obtain⟨e',h1,h2⟩:=pL h
  refine⟨_,h1,fun j w hw=>?_⟩
  simp only[eget]at hw
  split at hw
  .rename_i a;subst a;cases hw;exact hv
  .exact h2 j w hw
theorem rF {C:Cx} {n:Nat} {h:Heap} {lim:Nat} {s:Hp} (f:Mem C n h lim s) {k id ver e len N:Nat} {c:Env} {ps:List Nat} {a b:PC} {busy:Bool} {fin:Option Ex} (hg:hget h k=some (.loop N c ps a b busy fin)) (d:C k=some (.atp id ver e len)):
  lim<=id/\∃st pend tmps,Sim.look s.h id=some (.loop st pend tmps ps (erC a) (erC b))/\tmps.length=N/\EnvR C c tmps/\StR busy fin st pend:=by
 obtain⟨pl,h1,h2⟩:=f.hr.ob k _ hg
 rw[d]at h1
 cases h1
 exact⟨h2.1,h2.2.2⟩
theorem bU (G:∀f xs v,O f xs=some v->FnOK T f xs v) (E:NOK T X):∀(c:PC) {R:Type} (K:Ex->Env->Heap->Nat->Option R) (r:R) (C:Cx) (n:Nat) (h:Heap) (e:Env) (t:List AV) (s:Hp),dF O X c e h n K=some r->EnvR C e t->Mem C n h lim s->t.length=N->
  okP X.is N rd c=true->Res T N lim rd (erC c) C n h t s K r
 |.skip,R,K,r,C,n,h,e,t,s,hk,he,j,w,u=>⟨.normal,e,h,n,C,t,s,hk,he,j,w,lW1 _,.refl _ _ _,1,fun d hd=>by
   obtain⟨d,rfl⟩:∃F,d=F+1:=⟨d-1,by omega⟩
   simp only[erC,exec]⟩
 |.exit i,R,K,r,C,n,h,e,t,s,hk,he,j,w,u=>⟨.exit i,e,h,n,C,t,s,hk,he,j,w,lW1 _,.refl _ _ _,1,fun d hd=>by
   obtain⟨d,rfl⟩:∃F,d=F+1:=⟨d-1,by omega⟩
   simp only[erC,exec]⟩
 |.ret,R,K,r,C,n,h,e,t,s,hk,he,j,w,u=>⟨.ret,e,h,n,C,t,s,hk,he,j,w,lW1 _,.refl _ _ _,1,fun d hd=>by
   obtain⟨d,rfl⟩:∃F,d=F+1:=⟨d-1,by omega⟩
   simp only[erC,exec]⟩
 |.reg ops,R,K,r,C,n,h,e,t,s,hk,he,j,w,u=>by
  obtain⟨e',h',n',C',U,s',fs,q1,q2,q3,q4,q5,q6,q7,_⟩:=bG G E (.inl rfl) ops [] [] false none C n h e t s _ r hk he j w u trivial (fun _ _ e=>by cases e)
  obtain⟨D,hD⟩:=q2.run
  refine⟨.normal,e',h',n',C',U,s',q1,q3,q4,q5,q6,q7,D+1,fun d hd=>?_⟩
  obtain⟨d,rfl⟩:∃F,d=F+1:=⟨d-1,by omega⟩
  simp only[erC,exec,hD d (by omega),mQ1]
 |.regD dr ops before,R,K,r,C,n,h,e,t,s,hk,he,j,w,u=>by
  simp only[okP,lU1,mP1,aS,mU1]at u
  obtain⟨e',h',n',C',U,s',fs,q1,q2,q3,q4,q5,q6,q7,_⟩:=bG G E (.inr u.1.1) ops [] [] false none C n h e t s _ r hk he j w u.1.2 trivial (fun _ _ e=>by cases e)
  obtain⟨D,hD⟩:=q2.draw (by omega) u.2
  refine⟨.normal,e',h',n',C',U,s',q1,q3,q4,q5,q6,q7,D+1,fun d hd=>?_⟩
  obtain⟨d,rfl⟩:∃F,d=F+1:=⟨d-1,by omega⟩
  obtain⟨gs,g1,g2⟩:=hD d (by omega)
  simp only[erC,exec,g1,g2,mW1]
 |.dead _,R,K,r,C,n,h,e,t,s,hk,he,j,w,u=>nomatch hk
 |.regX dr ops before ex,R,K,r,C,n,h,e,t,s,hk,he,j,w,u=>by
  simp only[okP,lU1,mP1,aS,mU1]at u
  obtain⟨⟨⟨d2,d6⟩,b6⟩,d4⟩:=u
  unfold dF at hk
  obtain⟨e',h',n',C',U,s',fs,q1,q2,q3,q4,q5,q6,q7,_⟩:=bG G E (.inr d2) ops [] [] false none C n h e t s _ r hk he j w d6 trivial (fun _ _ e=>by cases e)
  cases hb:exB e' h' ex with
  |false=>rw[hb]at q1;cases q1
  |true=>
   rw[hb]at q1
   obtain⟨D,hD⟩:=q2.drawX (by omega) b6 d4 (fun p hp=>eY1 q3 q4 (mB1.1 hb p hp))
   refine⟨.normal,e',h',n',C',U,s',q1,q3,q4,q5,q6,q7,D+1,fun d hd=>?_⟩
   obtain⟨d,rfl⟩:∃F,d=F+1:=⟨d-1,by omega⟩
   obtain⟨gs,g1,g2⟩:=hD d (by omega)
   simp only[erC,exec,g1,g2,mW1]
 |.seq a b,R,K,r,C,n,h,e,t,s,hk,he,j,w,u=>by
  simp only[okP,lU1]at u
  have ha:=bU G E a _ r C n h e t s hk he j w u.1
  have hb:=fun C n h e t s hk he j w=>bU G E b K r C n h e t s hk he j w u.2
  have b0:=iG1 ha hb
  unfold erC
  split
  .rename_i ops
   split
   .rename_i a0
    simp only[lU1]at a0
    obtain⟨e',h',n',C',U,s',fs,q1,q2,q3,q4,q5,q6,q7,_⟩:=bG G E (.inl rfl) ops [] [] false none C n h e t s _ r hk he j w u.1 trivial (fun _ _ e=>by cases e)
    rw[nV a0.1]at q2
    have:=q2.nil_inv
    cases this
    obtain⟨x2,e2,h2,n2,C2,t2,s2,w1,w2,w3,w4,w5,w6,D2,w7⟩:=hb C' n' h' e' t s q1 q3 q4 w
    exact⟨x2,e2,h2,n2,C2,t2,s2,w1,w2,w3,w4,by omega,q7.trans w6,D2,w7⟩
   .exact b0
  .exact b0
 |.cond c a b,R,K,r,C,n,h,e,t,s,hk,he,j,w,u=>by
  simp only[okP,lU1]at u
  unfold dF at hk
  rw[eB,lT1]at hk
  obtain⟨vs,H,hk⟩:=hk
  split at hk
  .rename_i v
   rw[jT]at hk
   refine rE (vM he u.1.1 H rfl) ?_
   cases v with
   |true=>exact bU G E a K r C n h e t s hk he j w u.1.2
   |false=>exact bU G E b K r C n h e t s hk he j w u.2
  .exact aB hk
 |.condJ keep c a b,R,K,r,C,n,h,e,t,s,hk,he,j,w,u=>by
  simp only[okP,lU1]at u
  unfold dF at hk
  rw[eB,lT1]at hk
  obtain⟨vs,H,hk⟩:=hk
  split at hk
  .rename_i v
   rw[aU,lT1]at hk
   obtain⟨q,hq,hk⟩:=hk
   rw[jT]at hq
   refine rE (vM he u.1.1 H rfl) ?_
   have fin:∀{c:IC},Res T N lim rd c C n h t s (fun x e' h' _=>gV keep h n e' h' fun s=>some (x,s)) q->Res T N lim rd c C n h t s K r:=by
    intro c b7
    obtain⟨x1,J,h1,n1,C1,t1,s1,Y,k2,k3,k4,k5,k6,D,k7⟩:=b7
    obtain⟨S,w1,w2,w3,w4,w5⟩:=gZ (fun k hk=>by
     cases L:hget h k with
     |none=>exact absurd L hk
     |some o=>obtain⟨pl,p1,_⟩:=j.hr.ob k o L;exact j.dom k pl p1) k3 k2 Y
    cases w1
    exact⟨x1,S.e,S.h,n,_,t1,s1,hk,w2,w3,k4,lW1 _,Fr.canon j k6 w4 w5,D,k7⟩
   cases v with
   |true=>exact fin (bU G E a _ q C n h e t s hq he j w u.1.2)
   |false=>exact fin (bU G E b _ q C n h e t s hq he j w u.2)
  .exact aB hk
 |.condL c a b,R,K,r,C,n,h,e,t,s,hk,he,j,w,u=>by
  simp only[okP,lU1]at u
  unfold dF at hk
  rw[eB,lT1]at hk
  obtain⟨vs,H,hk⟩:=hk
  split at hk
  .rename_i v
   refine rE (vM he u.1.1 H rfl) ?_
   cases v with
   |true=>exact bU G E a K r C n h e t s hk he j w u.1.2
   |false=>exact bU G E b K r C n h e t s hk he j w u.2
  .exact aB hk
 |.loopU m keep c,R,K,r,C,n,h,e,t,s,hk,he,j,w,u=>by
  unfold dF at hk
  have hd:∀k,hget h k≠none->k<n:=fun k hk=>by
   cases L:hget h k with
   |none=>exact absurd L hk
   |some o=>obtain⟨pl,p1,_⟩:=j.hr.ob k o L;exact j.dom k pl p1
  obtain⟨S,w1,w2,w3,w4,w5⟩:=gZ hd j he hk
  obtain⟨x,st',C',U,s',p0,p1,p2,p3,p4,D,p5⟩:=tQ (T:=T) (rd:=rd) (N:=N) (lim:=lim) hd (fun K' r' C n h e t s hk he j w=>bU G E c K' r' C n h e t s hk he j w u) m S _ t s _ r w1 w2 w3 w w5
  exact⟨x,st'.e,st'.h,n,C',U,s',p0,p1,p2,p3,lW1 _,(Fr.canon j (.refl _ _ _) w4 w5).trans p4,D,p5⟩
 |.rangeF N' keep f ps a b,R,K,r,C,n,h,e,t,s,hk,he,j,w,u=>by
  simp only[okP,lU1,mO1,aS,mU1]at u
  obtain⟨⟨rfl,rfl⟩,u⟩:=u
  unfold dF at hk
  rw[eB,lT1]at hk
  obtain⟨vs,H,hk⟩:=hk
  obtain⟨ys,h1,h2⟩:=fF he (xs:=[f]) (by simpa using u) H
  split at hk
  .rename_i g first cap
   obtain⟨y,_,rfl,h3,h4⟩:=h2.inv_cons
   rw[h4.inv_nil]at h1
   obtain⟨a',b',rfl,h5,h6⟩:=qQ h3
   have hf:(eX f).ev t=some (.fn (.func g) a' b'):=by
    simp only[nV1,pF1,Sim.evs]at h1
    split at h1
    .rename_i ha hb;simp only[lZ1,oV1]at h1;rw[<-h1.1];exact ha
    .cases h1
   cases hX1:X.is g with
   |false=>rw[hX1]at hk;exact aB hk
   |true=>
   rw[hX1,mF1]at hk
   obtain⟨e0,hk,d3⟩:=pL hk
   have V:=gJ j (.atp s.n 0 0 0)
   obtain⟨m1,m2,m3⟩:=lG j (po:=.loop N' e0 ps a b false none) (ao:=.loop .ready none t ps (erC a) (erC b)) (ver:=0) (e:=0) (len:=0)
    ⟨j.lim,by omega,_,_,t,by rw[bX,mA1 rfl],w,fun i v hv=>(he i v (d3 i v hv)).imp fun y hy=>⟨hy.1,hy.2.mono V⟩,rfl,rfl⟩
   have hx:LR (RV (ext C n (.atp s.n 0 0 0))) (first++[.yld n]++cap) (a'++[.fn (.yield s.n) [] []]++b'):=
    ((h5.mono fun _ _ h=>h.mono V).append (.cons (.yld (iS C n _)) .nil)).append (h6.mono fun _ _ h=>h.mono V)
   obtain⟨v,e',h',n',C',y,s',q1,q2,q3,q4,q5,q6,q7⟩:=vK (P:=fun y s'=>∃D,∀d,D<=d->Sim.callF T (exec T d) lim g (a'++[.fn (.yield s.n) [] []]++b') _=some (y,s')) m1 (he.mono V) hx
    (fun hs C0 m K' r' d1 d7 hr=>by
     obtain⟨v,h',n',C',y,s',w1,w2,w3,w4,w5,w6,w7⟩:=E.run g _ hs m K' r' C0 _ lim _ hX1 hr d7 d1
     exact⟨v,h',n',C',y,s',w1,w2,w3,w4,w5,w7⟩) hk
   rw[dA,lT1]at q1
   obtain⟨ob,W,q1⟩:=q1
   obtain⟨o',z1,z2⟩:=q6.kd n (.loop N' e0 ps a b false none) (by simp[hget])
   rw[W]at z1
   cases z1
   split at q1
   .rename_i N2 e2 M a2 b2 fin
    have b4:C' n=some (.atp s.n 0 0 0):=by
     have:=(z2 rfl).2
     rw[iS]at this
     exact this
    obtain⟨_,st,pend,tmps,g1,g2,g3,g4⟩:=rF q4 W b4
    rw[xB]at q1
    obtain⟨D,hD⟩:=q7
    have d8:n<n':=by omega
    have b9:Mem C' n' (hdel h' n) lim {h:=upd s'.h s.n (.loop .exhausted pend tmps M (erC a2) (erC b2)),n:=s'.n}:=by
     have nn:∀{k},hget (hdel h' n) k≠none->hget h' k≠none:=fun{k} hk=>by
      rw[hJ]at hk
      split at hk
      .exact absurd rfl hk
      .exact hk
     refine⟨⟨fun k o A=>?_,fun k k' id v e l v' e' l' a b c d=>q4.hr.inj k k' id v e l v' e' l' (nn a) (nn b) c d,fun id o L=>?_⟩,q4.dom,q4.wf.upd _ _,q4.lim⟩
     .rw [hJ]at A
      split at A
      .cases A
      .rename_i d5
       obtain⟨pl,p1,p2⟩:=q4.hr.ob k o A
       refine⟨pl,p1,p2.mono (lW1 _) (.refl _) (fun id v e l hp=>?_)⟩
       subst hp
       rw[Sim.look_upd]
       rw[lY1 (fun J=>d5 (q4.hr.inj k n s.n _ _ _ _ _ _ (by rw[A];simp) (by rw[W];simp) (by rw[<-J.1];exact p1) b4))]
     .obtain ⟨z1,z2,z3,z4⟩:=q4.hr.zr id o L
      refine⟨?_,z2,fun k v e l a b=>z3 k v e l (nn a) b,z4⟩
      rw[Sim.look_upd,lY1 (fun J=>z3 n 0 0 0 (by rw[W];simp) (by rw[J.1];exact b4))]
      exact z1
    have B:=m2.trans q6
    have b8:Fr C h s C' (hdel h' n) {h:=upd s'.h s.n (.loop .exhausted pend tmps M (erC a2) (erC b2)),n:=s'.n}:=by
     refine⟨B.sk.trans (.upd _ _ _ _) B.n,B.n,fun id b5 hn=>?_,fun id b5 hn=>B.own id b5 ?_,fun k o A=>?_,B.zl,B.zn⟩
     .rw [Sim.look_upd,lY1 (by omega)]
      exact B.keep id b5 hn
     .obtain ⟨k,v,e,l,p1,p2⟩:=hn
      refine⟨k,v,e,l,?_,p2⟩
      rw[hJ]at p1
      split at p1
      .exact absurd rfl p1
      .exact p1
     .obtain ⟨o',p1,p2⟩:=B.kd k o A
      refine⟨o',?_,p2⟩
      rw[hJ,lY1 (fun J=>?_)]
      .exact p1
      .subst J
       rw[nJ j (lW1 _)]at A
       cases A
    have Z:∀x,K x e' (hdel h' n) n'=some r->st≠.busy->(match pend with
       |none=>some (Ex.normal,({t:=t,s:={h:=upd s'.h s.n (.loop .exhausted pend tmps M (erC a2) (erC b2)),n:=s'.n}}:St))
       |some .ret=>some (.ret,{t:=t,s:={h:=upd s'.h s.n (.loop .exhausted pend tmps M (erC a2) (erC b2)),n:=s'.n}})
       |some (.exit id)=>some (.exit id,{t:=t,s:={h:=upd s'.h s.n (.loop .exhausted pend tmps M (erC a2) (erC b2)),n:=s'.n}})
       |_=>none)=some (x,{t:=t,s:={h:=upd s'.h s.n (.loop .exhausted pend tmps M (erC a2) (erC b2)),n:=s'.n}})->
      Res T N' lim false (erC (.rangeF N' keep f ps a b)) C n h t s K r:=by
     intro x hK b6 hx
     refine⟨x,e',hdel h' n,n',C',t,_,hK,fun i v hv=>(q3 i v hv).imp fun z L=>⟨L.1,L.2.1⟩,b9,w,by omega,b8,D+1,fun d hd=>?_⟩
     obtain⟨d,rfl⟩:∃F,d=F+1:=⟨d-1,by omega⟩
     simp only[erC,exec,hf,hD d (by omega),g1,Sim.endRound,mG1,nI1]
     rw[lY1 b6]
     exact hx
    split at q1
    .obtain ⟨rfl,rfl⟩:=g4
     exact Z _ q1 (by simp) rfl
    .obtain ⟨rfl,rfl⟩:=g4
     exact Z _ q1 (by simp) rfl
    .obtain ⟨rfl,rfl⟩:=g4
     exact Z _ q1 (by simp) rfl
    .exact aB q1
   .exact aB q1
  .exact aB hk
 |.block id c,R,K,r,C,n,h,e,t,s,hk,he,j,w,u=>by
  unfold dF at hk
  obtain⟨x1,J,h1,n1,C1,t1,s1,Y,k2,k3,k4,k5,k6,D,k7⟩:=bU G E c _ r C n h e t s hk he j w u
  have Z:∀(x:Ex),(∀d,D<=d->(match exec T d lim rd (erC c) {t:=t,s:=s}with|some (.exit i,σ)=>if i=id then some (.normal,σ)else some (.exit i,σ)|r=>r)=some (x,{t:=t1,s:=s1}))->K x J h1 n1=some r->Res T N lim rd (erC (.block id c)) C n h t s K r:=by
   intro x hx hK
   refine⟨x,J,h1,n1,C1,t1,s1,hK,k2,k3,k4,k5,k6,D+1,fun d hd=>?_⟩
   obtain⟨d,rfl⟩:∃F,d=F+1:=⟨d-1,by omega⟩
   rw[erC,exec]
   exact hx d (by omega)
  cases x1 with
  |normal=>exact Z .normal (fun d hd=>by rw[k7 d hd]) Y
  |ret=>exact Z .ret (fun d hd=>by rw[k7 d hd]) Y
  |exit i=>
   simp only[aS]at Y
   by_cases J:i=id
   .subst J
    simp only[oR1,mF1]at Y
    exact Z .normal (fun d hd=>by rw[k7 d hd];simp) Y
   .simp only[mK1 J,mT1]at Y
    exact Z (.exit i) (fun d hd=>by rw[k7 d hd];simp[J]) Y
 |.loop keep kx c,R,K,r,C,n,h,e,t,s,hk,he,j,w,u=>by
  unfold dF at hk
  have hd:∀k,hget h k≠none->k<n:=fun k hk=>by
   cases L:hget h k with
   |none=>exact absurd L hk
   |some o=>obtain⟨pl,p1,_⟩:=j.hr.ob k o L;exact j.dom k pl p1
  obtain⟨S,w1,w2,w3,w4,w5⟩:=gZ hd j he hk
  rw[aU,lT1]at w1
  obtain⟨⟨x,st'⟩,hq,hK⟩:=w1
  obtain⟨C',U,s',p1,p2,p3,p4,D,p5⟩:=xA (T:=T) (rd:=rd) (N:=N) (lim:=lim) hd (fun K' r' C n h e t s hk he j w=>bU G E c K' r' C n h e t s hk he j w u) B64 S _ t s x st' hq w2 w3 w w5
  exact⟨x,st'.e,st'.h,n,C',U,s',hK,p1,p2,p3,lW1 _,(Fr.canon j (.refl _ _ _) w4 w5).trans p4,D,p5⟩
end
end Go.P
namespace Go.P
open Go.Sim (AV AO Hp Ent upd St IC IX Ex OpK CK Wf Out doOp Tab exec Foot wanted put popMark mapO fzI fzM fzC fz1 fz)
open Go.Sim (RV IFn)
structure PFn where
 ntmps:Nat
 res:List Sim.RV
 code:PC
 frz:Bool
 deriving Inhabited
noncomputable section
variable {R:Type}
def bO1:List PV->Nat->(Env->Option R)->Option R
 |[],_,K=>K []
 |x::xs,i,K=>fV x fun x=>bO1 xs (i+1) fun e=>K ((i,x)::e)
def resK (e:Env) (h:Heap) (n:Nat):List Sim.RV->(List PV->Option R)->Option R
 |[],K=>K []
 |.tmp i::rs,K=>getK e i fun v=>resK e h n rs fun vs=>K (v::vs)
 |.cellS i::rs,K=>getK e i fun p=>bP .loadS [p] h n fun v _ _=>resK e h n rs fun vs=>K (v::vs)
 |.cellA i m::rs,K=>getK e i fun p=>bP (.loadA m) [p] h n fun v _ _=>resK e h n rs fun vs=>K (v::vs)
def rzIK (h:Heap):Nat->PV->(PV->Option R)->Option R
 |0,_,_=>none
 |d+1,x,K=>match x with
  |.own k=>hK h k fun ob=>match ob with
   |.lst _ e _ rows=>K (.is e rows)
   |.lz _ e dp rows=>bif Nat.ble dp (d+1)then K (.is e rows)else none
   |_=>none
  |.zs dp e rows=>bif Nat.ble dp (d+2)then K (.is e rows)else none
  |.ref k o=>hK h k fun ob=>match ob with
   |.box cs=>dQ o cs fun cs=>mapK (rzIK h d) cs fun cs=>K (.ip cs)
   |_=>none
  |.v x=>K (.v x)
  |.is e rows=>K (.is e rows)
  |.ip cs=>K (.ip cs)
  |_=>none
def rzCK (h:Heap) (x:PV) (K:PV->Option R):Option R:=match x with
 |.fn f [] []=>K (.fn f [] [])
 |x=>rzIK h 4 x K
def rzCs (h:Heap):List PV->(List PV->Option R)->Option R
 |[],K=>K []
 |x::xs,K=>rzCK h x fun x=>rzCs h xs fun xs=>K (x::xs)
def rz1K (h:Heap) (x:PV) (K:PV->Option R):Option R:=match x with
 |.agg cs=>rzCs h cs fun cs=>K (.agg cs)
 |x=>rzCK h x K
def rz1s (h:Heap):List PV->(List PV->Option R)->Option R
 |[],K=>K []
 |x::xs,K=>rz1K h x fun x=>rz1s h xs fun xs=>K (x::xs)
def rzK (h:Heap) (x:PV) (K:PV->Option R):Option R:=match x with
 |.tup vs=>rz1s h vs fun vs=>K (.tup vs)
 |.map k=>hK h k fun ob=>match ob with
  |.mp es=>K (.im es)
  |_=>none
 |x=>rz1K h x K
def rG (C:Orc) (X:NX) (fn:PFn) (xs:List PV) (K:PV->Option R):Option R:=
 bif Nat.ble xs.length fn.ntmps then bO1 xs 0 fun e=>dF C X fn.code e [] 0 fun x e h n=>match x with
  |.exit _=>none
  |_=>resK e h n fn.res fun vs=>match vs with
   |[v]=>rzK h v K
   |vs=>rzK h (.tup vs) K
 else none
def runK (C:Orc) (X:NX) (fn:PFn) (xs:List PV) (h:Heap) (n:Nat) (K:PV->Heap->Nat->Option R):Option R:=
 bif Nat.ble xs.length fn.ntmps then bO1 xs 0 fun e=>dF C X fn.code e h n fun x e h n=>match x with
  |.exit _=>none
  |_=>resK e h n fn.res fun vs=>match vs with
   |[v]=>K v h n
   |vs=>K (.tup vs) h n
 else none
def putE:Env->List Nat->List PV->(Env->Option R)->Option R
 |e,[],[],K=>K e
 |e,p::ps,x::xs,K=>delK e [p] fun e=>putE ((p,x)::e) ps xs K
 |_,_,_,_=>none
def okG (NF:FuncId->Bool) (N:Nat) (ps:List Nat) (a b:PC):Option Unit:=if okL NF N ps a b=true then some ()else none
def yldK (C:Orc) (X:NX) (k:Nat) (xs:List PV) (h:Heap) (n:Nat) (K:PV->Heap->Nat->Option R):Option R:=
 hK h k fun ob=>match ob with
 |.loop N e ps a b false none=>bC (okG X.is N ps a b) fun _=>putE e ps xs fun e=>dF C X a e h n fun x e h n=>match x with
  |.normal=>hK h k fun ob=>match ob with
   |.loop N e' ps a b' false none=>eM h k (.loop N e' ps a b' true none) fun h=>dF C X b e h n fun x _ h n=>hK h k fun ob=>match ob with
    |.loop N e' ps a b' _ _=>match x with
     |.normal=>eM h k (.loop N e' ps a b' false none) fun h=>K (.v (.bool true)) h n
     |.exit i=>eM h k (.loop N e' ps a b' false (some (.exit i))) fun h=>K (.v (.bool false)) h n
     |.ret=>eM h k (.loop N e' ps a b' false (some .ret)) fun h=>K (.v (.bool false)) h n
    |_=>none
   |_=>none
  |_=>none
 |_=>none
abbrev PTab:=Nat->Option PFn
abbrev NRun:=FuncId->List PV->Heap->Nat->Option (PV×Heap×Nat)
structure NB where
 nw:FuncId->Bool
 run:NRun:=fun _ _ _ _=>none
def OX (B:Orc) (NF:FuncId->Bool) (NW:NB) (P:PTab):Nat->Orc×NX
 |0=>(fun f xs=>bif NF f then none else B f xs,⟨NF,NW.nw,fun _ _ _ _ _=>none,fun _ _ _ _ _=>none⟩)
 |d+1=>(fun f xs=>bif NF f then none else match P f with
   |some fn=>bif fn.frz then rG (OX B NF NW P d).1 (OX B NF NW P d).2 fn xs some else(rG (OX B NF NW P d).1 (OX B NF NW P d).2 fn xs some).bind fun v=>bif gndP 4 v then none else some v
   |none=>B f xs,
  ⟨NF,NW.nw,fun f xs h n K=>match P f with
   |some fn=>runK (OX B NF NW P d).1 (OX B NF NW P d).2 fn xs h n K
   |none=>(NW.run f xs h n).bind fun r=>K r.1 r.2.1 r.2.2,fun k xs h n K=>yldK (OX B NF NW P d).1 (OX B NF NW P d).2 k xs h n K⟩)
def Od (B:Orc) (NF:FuncId->Bool) (NW:NB) (P:PTab) (d:Nat):Orc:=(OX B NF NW P d).1
def Xd (B:Orc) (NF:FuncId->Bool) (NW:NB) (P:PTab) (d:Nat):NX:=(OX B NF NW P d).2
end
def toI (n:Bool) (fn:PFn):IFn:={ntmps:=fn.ntmps,res:=fn.res,body:=erC fn.code,pure:= !n,frz:= !n&&fn.frz}
section
variable {R:Type}
def tR:List PV->Nat->Env
 |[],_=>[]
 |x::xs,i=>(i,x)::tR xs (i+1)
theorem rH:∀(xs:List PV) (i:Nat) (K:Env->Option R),bO1 xs i K=K (tR xs i)
 |[],i,K=>rfl
 |x::xs,i,K=>by simp[bO1,dY1,tR,rH xs]
theorem nW:∀(xs:List PV) (i j:Nat) (v:PV),eget (tR xs i) j=some v->i<=j/\xs[j-i]? =some v
 |[],i,j,v,h=>by simp[tR,eget]at h
 |x::xs,i,j,v,h=>by
  simp only[tR,eget]at h
  split at h
  .rename_i e;subst e;cases h;simp
  .obtain ⟨h1,h2⟩:=nW xs (i+1) j v h
   refine⟨by omega,?_⟩
   rw[show j-i=(j-(i+1))+1 by omega]
   simpa using h2
variable {C:Cx} {n:Nat} {h:Heap} {lim:Nat} {s:Hp} {e:Env} {t:List AV}
theorem xC {k:OpK} {y:AV} {K:PV->Heap->Nat->Option R} {r:R} (hs:yL C n h s k [y] K r):
  ∃w z,K w h n=some r/\(doOp (Sim.look s.h) 0 0 k [y]).map (·.v)=some z/\RV C w z:=by
 obtain⟨w,z,h1,h2,a⟩:=hs
 exact⟨w,z,a,by rw[h1 0 0];rfl,h2⟩
theorem nX (b:Mem C n h lim s) (he:EnvR C e t):∀{g:List Sim.RV} {K:List PV->Option R} {r:R},resK e h n g K=some r->
  ∃vs a,K vs=some r/\mapO (Sim.readRes (Sim.look s.h) t) g=some a/\LR (RV C) vs a
 |[],K,r,hk=>⟨[],[],hk,rfl,.nil⟩
 |.tmp i::g,K,r,hk=>by
  unfold resK at hk
  rw[cV,lT1]at hk
  obtain⟨v,hv,hk⟩:=hk
  obtain⟨y,h1,h2⟩:=he i v hv
  obtain⟨vs,a,c,d,f⟩:=nX b he hk
  exact⟨_,y::a,c,by simp[mapO,Sim.readRes,h1,d],.cons h2 f⟩
 |.cellS i::g,K,r,hk=>by
  unfold resK at hk
  rw[cV,lT1]at hk
  obtain⟨v,hv,hk⟩:=hk
  obtain⟨y,h1,h2⟩:=he i v hv
  obtain⟨w,z,q1,q2,q3⟩:=xC (pG b (.cons h2 .nil) hk)
  obtain⟨vs,a,c,d,f⟩:=nX b he q1
  exact⟨_,z::a,c,by simp only[mapO,Sim.readRes,h1,q2,d],.cons q3 f⟩
 |.cellA i m::g,K,r,hk=>by
  unfold resK at hk
  rw[cV,lT1]at hk
  obtain⟨v,hv,hk⟩:=hk
  obtain⟨y,h1,h2⟩:=he i v hv
  obtain⟨w,z,q1,q2,q3⟩:=xC (pH b (.cons h2 .nil) hk)
  obtain⟨vs,a,c,d,f⟩:=nX b he q1
  exact⟨_,z::a,c,by simp only[mapO,Sim.readRes,h1,q2,d],.cons q3 f⟩
theorem iH1 {L:Nat->Option AO} {d id ver e o:Nat} {bx:Bool} {ty:TypeId} {esz:Nat} {els:List (List AV)} {row cs:List AV} (a:L id=some (.arr bx ty esz ver els)) (hr:els[e]? =some row) (hc:mapO (fzI L 0 d) (row.drop o)=some cs):fzI L 0 (d+1) (.ptr id ver e o)=some (.ip cs):=by
 simp[fzI,a,hr,hc]
theorem bP1 (i:Mem C n h lim s):∀(d:Nat) (x:PV) (y:AV) (K:PV->Option R) (r:R),rzIK h d x K=some r->RV C x y->∃B z,K B=some r/\fzI (Sim.look s.h) 0 (d+2) y=some z/\RC false B z
 |0,x,y,K,r,hk,_=>by unfold rzIK at hk;exact aB hk
 |d+1,x,y,K,r,hk,hv=>by
  unfold rzIK at hk
  cases x with
  |own k=>
   simp only[dA,lT1]at hk
   obtain⟨ob,hg,hk⟩:=hk
   cases ob with
   |lst ty e g rows=>
    rcases gY hv with⟨id,ver,D,len,c,rfl⟩|⟨c,rfl⟩
    .obtain ⟨_,rfl,hlen,els,p,hr,u,_⟩:=eU i hg c
     subst hlen
     exact⟨_,_,hk,eP1 (d:=d+1) (nR1 _) p hr u,hr.is⟩
    .have:=gH i hg c
     subst this
     exact⟨_,_,hk,rfl,.isn⟩
   |lz ty e dp rows=>
    cases hb:Nat.ble dp (d+1)with
    |false=>simp only[hb,mT1]at hk;exact aB hk
    |true=>
    simp only[hb,mF1]at hk
    have hb:=mD1 hb
    rcases gY hv with⟨id,ver,D,len,c,rfl⟩|⟨c,rfl⟩
    .obtain ⟨_,_,rfl,hlen,_,els,p,hr⟩:=tB i hg c
     subst hlen
     obtain⟨A,m,j⟩:=kL1 (n0:=0) (f:=d+2) (fun id o w=>⟨nR1 _,(i.hr.zr id o w).1⟩) (by omega) (nR1 _) p hr
     exact⟨_,_,hk,m,j.is⟩
    .have:=pF i hg c
     subst this
     exact⟨_,_,hk,rfl,.isn⟩
   |_=>exact aB hk
  |zs dp e rows=>
   cases hb:Nat.ble dp (d+2)with
   |false=>simp only[hb,mT1]at hk;exact aB hk
   |true=>
   simp only[hb,mF1]at hk
   have hb:=mD1 hb
   obtain⟨z,m,j⟩:=eQ1 (L:=Sim.look s.h) (n0:=0) (fun id o w=>⟨nR1 _,(i.hr.zr id o w).1⟩) dp (d+3) (by omega) _ _ (yJ hv)
   exact⟨_,_,hk,m,j.weak⟩
  |ref k o=>
   simp only[dA,lT1]at hk
   obtain⟨ob,hg,hk⟩:=hk
   cases ob with
   |box cs=>
    obtain⟨m,j⟩:=bK _ _ _ _ hk
    obtain⟨id,ver,e,len,c,rfl⟩:=fP hv
    obtain⟨_,ty,esz,row,p,hl⟩:=nL i hg c
    have l:∀(xs:List PV) (ys:List AV) (K:List PV->Option R) (r:R),mapK (rzIK h d) xs K=some r->LR (RV C) xs ys->
      ∃xs' b,K xs'=some r/\mapO (fzI (Sim.look s.h) 0 (d+2)) ys=some b/\LR (RC false) xs' b:=by
     intro xs
     induction xs with
     |nil=>
      intro ys K r hk hl
      rw[hl.inv_nil]
      unfold mapK at hk
      exact⟨[],[],hk,rfl,.nil⟩
     |cons a as ih=>
      intro ys K r hk hl
      obtain⟨y,b,rfl,h1,h2⟩:=hl.inv_cons
      unfold mapK at hk
      obtain⟨a',b',m,j,E⟩:=bP1 i d a y _ r hk h1
      obtain⟨q,t,q1,q2,q3⟩:=ih b _ r m h2
      exact⟨a'::q,b'::t,q1,by simp only[mapO,j,q2],.cons E q3⟩
    obtain⟨xs',b,q1,q2,q3⟩:=l _ _ _ r j (hl.drop o)
    refine⟨_,.ip b,q1,?_,.ip q3.1 q3.2⟩
    exact iH1 p rfl q2
   |_=>exact aB hk
  |v x=>
   rw[rv_v hv]
   exact⟨_,_,hk,rfl,.v x⟩
  |is e rows=>
   rcases tA hv with⟨rows',rfl,hr⟩|⟨rfl,rfl⟩
   .exact ⟨_,_,hk,rfl,hr.is⟩
   .exact ⟨_,_,hk,rfl,.isn⟩
  |ip cs=>
   obtain⟨cs',rfl,hl⟩:=vC hv
   exact⟨_,_,hk,rfl,.ip hl.1 hl.2⟩
  |_=>exact aB hk
theorem bQ1 {L:Nat->Option AO} {y c:AV} (h:fzI L 0 6 y=some c):fzC L 0 y=some c:=by
 cases y with
 |sl=>simp only[fzC,Nat.not_lt_zero,nI1];exact h
 |ptr=>simp only[fzC,Nat.not_lt_zero,nI1];exact h
 |map=>simp[fzI]at h
 |fn v a b=>simp[fzI]at h
 |_=>exact h
theorem bR1 {L:Nat->Option AO} {y a:AV} (h:fzC L 0 y=some a) (hy:∀cs,y≠.agg cs):fz1 L 0 y=some a:=by
 cases y with
 |agg cs=>exact absurd rfl (hy cs)
 |_=>exact h
theorem eZ1 {L:Nat->Option AO} {y a:AV} (h:fz1 L 0 y=some a) (hy:∀cs,y≠.tup cs) (b:∀id,y≠.map id):fz L 0 y=some a:=by
 cases y with
 |tup cs=>exact absurd rfl (hy cs)
 |map id=>exact absurd rfl (b id)
 |_=>exact h
theorem bS1 (d:Mem C n h lim s) {x:PV} {y:AV} {K:PV->Option R} {r:R} (hk:rzCK h x K=some r) (hv:RV C x y):∃a b,K a=some r/\fzC (Sim.look s.h) 0 y=some b/\RC false a b:=by
 unfold rzCK at hk
 split at hk
 .rename_i f
  obtain⟨a',b',rfl,h1,h2⟩:=qQ hv
  rw[h1.inv_nil,h2.inv_nil]
  exact⟨_,_,hk,rfl,.fn rfl rfl (fun j x y h=>by simp at h) (fun j x y h=>by simp at h)⟩
 .obtain ⟨a,b,h1,h2,c⟩:=bP1 d 4 x y K r hk hv
  exact⟨a,b,h1,bQ1 h2,c⟩
theorem xD (d:Mem C n h lim s):∀{xs:List PV} {ys:List AV} {K:List PV->Option R} {r:R},rzCs h xs K=some r->LR (RV C) xs ys->∃xs' a,K xs'=some r/\mapO (fzC (Sim.look s.h) 0) ys=some a/\LR (RC false) xs' a
 |[],ys,K,r,hk,hl=>by rw[hl.inv_nil];exact⟨[],[],hk,rfl,.nil⟩
 |x::xs,ys,K,r,hk,hl=>by
  obtain⟨y,a,rfl,h1,h2⟩:=hl.inv_cons
  unfold rzCs at hk
  obtain⟨a',b',e,f,g⟩:=bS1 d hk h1
  obtain⟨b,c,q1,q2,q3⟩:=xD d e h2
  exact⟨a'::b,b'::c,q1,by simp only[mapO,f,q2],.cons g q3⟩
theorem bT1 {x:PV} {y:AV} (hv:RV C x y) (a:∀cs,x≠.agg cs) (b:x≠.undef):∀cs,y≠.agg cs:=by
 intro cs hy
 subst hy
 cases hv with
 |cl h=>cases h;exact a _ rfl
 |undef=>exact b rfl
 |ownn _ hy=>cases hy
 |agg=>exact a _ rfl
 |zs h=>rcases yK h with(⟨_,h,_⟩|⟨_,h⟩)|⟨_,_,_,_,_,_,h,_⟩<;>cases h
theorem bU1 {x:PV} {y:AV} (hv:RV C x y) (a:∀cs,x≠.tup cs) (b:x≠.undef):∀cs,y≠.tup cs:=by
 intro cs hy
 subst hy
 cases hv with
 |cl h=>cases h;exact a _ rfl
 |undef=>exact b rfl
 |ownn _ hy=>cases hy
 |tup=>exact a _ rfl
 |zs h=>rcases yK h with(⟨_,h,_⟩|⟨_,h⟩)|⟨_,_,_,_,_,_,h,_⟩<;>cases h
theorem bV1 {x:PV} {y:AV} (hv:RV C x y) (b:∀k,x≠.map k) (c:∀es,x≠.zm es) (a:x≠.undef):∀id,y≠.map id:=by
 intro id hy
 subst hy
 cases hv with
 |cl h=>cases h
 |undef=>exact a rfl
 |ownn _ hy=>cases hy
 |map=>exact b _ rfl
 |zs h=>rcases yK h with(⟨_,h,_⟩|⟨_,h⟩)|⟨_,_,_,_,_,_,h,_⟩<;>cases h
 |zm=>exact c _ rfl
theorem bW1 (d:Mem C n h lim s) {x:PV} {y:AV} {K:PV->Option R} {r:R} (hk:rz1K h x K=some r) (hv:RV C x y):∃a b,K a=some r/\fz1 (Sim.look s.h) 0 y=some b/\RC false a b:=by
 unfold rz1K at hk
 split at hk
 .rename_i cs
  obtain⟨cs',rfl,hl⟩:=gK hv
  obtain⟨xs',c,j,k,f⟩:=xD d hk hl
  exact⟨_,.agg c,j,by simp only[fz1,k,mQ1],.agg f.1 f.2⟩
 .rename_i i
  obtain⟨a,b,h1,h2,g⟩:=bS1 d hk hv
  by_cases e:x=.undef
  .subst e;exact aB hk
  .exact ⟨a,b,h1,bR1 h2 (bT1 hv i e),g⟩
theorem xE (d:Mem C n h lim s):∀{xs:List PV} {ys:List AV} {K:List PV->Option R} {r:R},rz1s h xs K=some r->LR (RV C) xs ys->∃xs' a,K xs'=some r/\mapO (fz1 (Sim.look s.h) 0) ys=some a/\LR (RC false) xs' a
 |[],ys,K,r,hk,hl=>by rw[hl.inv_nil];exact⟨[],[],hk,rfl,.nil⟩
 |x::xs,ys,K,r,hk,hl=>by
  obtain⟨y,a,rfl,h1,h2⟩:=hl.inv_cons
  unfold rz1s at hk
  obtain⟨a',b',e,f,g⟩:=bW1 d hk h1
  obtain⟨b,c,q1,q2,q3⟩:=xE d e h2
  exact⟨a'::b,b'::c,q1,by simp only[mapO,f,q2],.cons g q3⟩
theorem gF1 (c:Mem C n h lim s) {x:PV} {y:AV} {K:PV->Option R} {r:R} (hk:rzK h x K=some r) (hv:RV C x y):∃a b,K a=some r/\fz (Sim.look s.h) 0 y=some b/\RC false a b:=by
 unfold rzK at hk
 split at hk
 .rename_i vs
  obtain⟨cs',rfl,hl⟩:=aU1 hv
  obtain⟨xs',f,p,q,g⟩:=xE c hk hl
  exact⟨_,.tup f,p,by simp only[fz,q,mQ1],.tup g.1 g.2⟩
 .rename_i k
  rw[dA,lT1]at hk
  obtain⟨ob,hg,hk⟩:=hk
  cases ob with
  |mp es=>
   obtain⟨id,ver,e,len,j,rfl⟩:=pD hv
   obtain⟨_,es',l,he⟩:=aV1 c hg j
   refine⟨_,.im es',hk,?_,he.er.im⟩
   simp only[fz,Nat.not_lt_zero,nI1,l]
   exact congrArg (Option.map AV.im) (gA1 he)
  |_=>exact aB hk
 .rename_i o m
  obtain⟨a,b,h1,h2,i⟩:=bW1 c hk hv
  by_cases d:x=.undef
  .subst d;exact aB hk
  .exact ⟨a,b,h1,eZ1 h2 (bU1 hv o d) (bV1 hv m (fun es he=>by subst he;exact aB hk) d),i⟩
variable {T:Tab} {O:Orc} {X:NX}
theorem xF (B:∀f xs v,O f xs=some v->FnOK T f xs v) (C:NOK T X) {fn:PFn} (m:okP X.is fn.ntmps false fn.code=true) {xs:List PV} {ys:List AV} {v:PV} (hl:LR (RC false) xs ys) (hk:rG O X fn xs some=some v):
  ∃D,∀d,D<=d->∃w s' y,Sim.body (exec T d) 0 (toI false fn) ys {h:=[],n:=0}=some (w,s')/\Sim.fz (Sim.look s'.h) 0 w=some y/\RC false v y:=by
 unfold rG at hk
 cases c:Nat.ble xs.length fn.ntmps with
 |false=>rw[c]at hk;exact aB hk
 |true=>
  rw[c,mF1,rH]at hk
  have c:xs.length<=fn.ntmps:=by simpa[Nat.ble_eq]using c
  have hlen:=hl.1
  have A:Mem ⟨fun _=>none,fun _=>none⟩ 0 [] 0 ({h:=[],n:=0}:Hp):=⟨⟨fun k po h=>by simp[hget]at h,fun k k' id v e l v' e' l' a=>absurd rfl a,fun id o h=>by cases h⟩,fun k pl h=>(by cases h),trivial,lW1 _⟩
  have he:EnvR ⟨fun _=>none,fun _=>none⟩ (tR xs 0) (ys++List.replicate (fn.ntmps-ys.length) .undef):=fun i v hv=>by
   obtain⟨_,h2⟩:=nW xs 0 i v hv
   obtain⟨y,r,z⟩:=hl.get (by simpa using h2)
   exact⟨y,by rw[oI1 (lX1.1 r).1];exact r,.cl z⟩
  obtain⟨x,e',h',n',C',H,s',q1,q2,q3,q4,q5,q6,D,q7⟩:=bU (T:=T) (rd:=false) (lim:=0) (N:=fn.ntmps) B C fn.code _ v _ 0 [] _ (ys++List.replicate (fn.ntmps-ys.length) .undef) _ hk he A (by simp;omega) m
  have fin:(∀i,x≠.exit i)->(resK e' h' n' fn.res fun vs=>match vs with|[v]=>rzK h' v some|vs=>rzK h' (.tup vs) some)=some v->
    ∃D,∀d,D<=d->∃w s' y,Sim.body (exec T d) 0 (toI false fn) ys {h:=[],n:=0}=some (w,s')/\Sim.fz (Sim.look s'.h) 0 w=some y/\RC false v y:=by
   intro E hr
   obtain⟨vs,u,p,s,g⟩:=nX q3 q2 hr
   obtain⟨w,y,p1,p2,p3⟩:∃w y,Sim.results (Sim.look s'.h) H fn.res=some w/\Sim.fz (Sim.look s'.h) 0 w=some y/\RC false v y:=by
    split at p
    .rename_i v1
     obtain⟨w,J,rfl,F,G⟩:=g.inv_cons
     have:=G.inv_nil
     subst this
     obtain⟨K,q,z1,z2,z3⟩:=gF1 q3 p F
     cases z1
     exact⟨w,q,by simp only[Sim.results,s],z2,z3⟩
    .rename_i j
     obtain⟨K,q,z1,z2,z3⟩:=gF1 q3 p (y:=.tup u) (.tup g.1 g.2)
     cases z1
     refine⟨.tup u,q,?_,z2,z3⟩
     simp only[Sim.results,s]
     split
     .rename_i w hw
      cases hw
      have:=g.1
      rcases vs with _|⟨a,_|⟨b,t⟩⟩<;>simp at this
      exact absurd rfl (j a)
     .rename_i h1 h2;cases h2;rfl
     .rename_i h1;cases h1
   refine⟨D,fun d hd=>⟨w,s',y,?_,p2,p3⟩⟩
   simp only[Sim.body,toI,q7 d hd]
   cases x with
   |exit i=>exact absurd rfl (E i)
   |normal=>simp only[p1,mQ1]
   |ret=>simp only[p1,mQ1]
  cases x with
  |exit i=>exact aB q1
  |normal=>exact fin (fun i h=>by cases h) q1
  |ret=>exact fin (fun i h=>by cases h) q1
theorem bX1 (q:∀f xs v,O f xs=some v->FnOK T f xs v) (u:NOK T X) {fn:PFn} (j:okP X.is fn.ntmps false fn.code=true) {xs:List PV} {ys:List AV} {h:Heap} {n:Nat} {K:PV->Heap->Nat->Option R} {r:R} {C:Cx} {s:Hp} {lim:Nat}
  (hk:runK O X fn xs h n K=some r) (hl:LR (RV C) xs ys) (p:Mem C n h lim s):
  ∃v h' n' C' y s',K v h' n'=some r/\RV C' v y/\Mem C' n' h' lim s'/\n<=n'/\Fr C h s C' h' s'/\∃D,∀d,D<=d->Sim.body (exec T d) lim (toI true fn) ys s=some (y,s'):=by
 unfold runK at hk
 cases c:Nat.ble xs.length fn.ntmps with
 |false=>rw[c]at hk;exact aB hk
 |true=>
  rw[c,mF1,rH]at hk
  have c:xs.length<=fn.ntmps:=by simpa[Nat.ble_eq]using c
  have hlen:=hl.1
  have he:EnvR C (tR xs 0) (ys++List.replicate (fn.ntmps-ys.length) .undef):=fun i v hv=>by
   obtain⟨_,h2⟩:=nW xs 0 i v hv
   obtain⟨y,l,o⟩:=hl.get (by simpa using h2)
   exact⟨y,by rw[oI1 (lX1.1 l).1];exact l,o⟩
  obtain⟨x,e',h',n',C',E,s',q1,q2,q3,q4,q5,q6,D,q7⟩:=bU (T:=T) (rd:=false) (lim:=lim) (N:=fn.ntmps) q u fn.code _ r _ n h _ (ys++List.replicate (fn.ntmps-ys.length) .undef) s hk he p (by simp;omega) j
  have fin:(∀i,x≠.exit i)->(resK e' h' n' fn.res fun vs=>match vs with|[v]=>K v h' n'|vs=>K (.tup vs) h' n')=some r->
    ∃v h' n' C' y s',K v h' n'=some r/\RV C' v y/\Mem C' n' h' lim s'/\n<=n'/\Fr C h s C' h' s'/\∃D,∀d,D<=d->Sim.body (exec T d) lim (toI true fn) ys s=some (y,s'):=by
   intro z hr
   obtain⟨vs,F,k,m,e⟩:=nX q3 q2 hr
   obtain⟨v,w,p1,p2,p3⟩:∃v w,K v h' n'=some r/\Sim.results (Sim.look s'.h) E fn.res=some w/\RV C' v w:=by
    split at k
    .rename_i v1
     obtain⟨w,G,rfl,A,B⟩:=e.inv_cons
     have:=B.inv_nil
     subst this
     exact⟨v1,w,k,by simp only[Sim.results,m],A⟩
    .rename_i g
     refine⟨.tup vs,.tup F,k,?_,.tup e.1 e.2⟩
     simp only[Sim.results,m]
     split
     .rename_i w hw
      cases hw
      have:=e.1
      rcases vs with _|⟨a,_|⟨b,t⟩⟩<;>simp at this
      exact absurd rfl (g a)
     .rename_i h1 h2;cases h2;rfl
     .rename_i h1;cases h1
   refine⟨v,h',n',C',w,s',p1,p3,q3,q5,q6,D,fun d hd=>?_⟩
   simp only[Sim.body,toI,q7 d hd]
   cases x with
   |exit i=>exact absurd rfl (z i)
   |normal=>simp only[p2,mQ1]
   |ret=>simp only[p2,mQ1]
  cases x with
  |exit i=>exact aB q1
  |normal=>exact fin (fun i h=>by cases h) q1
  |ret=>exact fin (fun i h=>by cases h) q1
theorem xG {C:Cx}:∀{ps:List Nat} {xs:List PV} {ys:List AV} {e:Env} {t:List AV} {K:Env->Option R} {r:R},putE e ps xs K=some r->EnvR C e t->LR (RV C) xs ys->ps.all (fun p=>Nat.blt p t.length)=true->
  ∃e',K e'=some r/\EnvR C e' (Sim.putAll t ps ys)/\ps.length=ys.length/\(Sim.putAll t ps ys).length=t.length
 |[],[],ys,e,t,K,r,hk,he,hl,_=>by
  rw[hl.inv_nil]
  exact⟨e,by unfold putE at hk;exact hk,he,rfl,rfl⟩
 |p::ps,x::xs,ys,e,t,K,r,hk,he,hl,hp=>by
  obtain⟨y,h,rfl,h1,h2⟩:=hl.inv_cons
  unfold putE at hk
  rw[bY]at hk
  simp only[nQ1,lU1,nU1]at hp
  have a:EnvR C ((p,x)::edel e [p]) (t.set p y):=.put hp.1 h1 (fun i w hw=>by
   obtain⟨z,p1,p2,p3⟩:=he.edel [p] i w hw
   exact⟨z,p1,p2,fun b=>p3 (by simp[b])⟩)
  obtain⟨e2,c,d,f,g⟩:=xG hk a h2 (by simpa using hp.2)
  exact⟨e2,c,d,by simp[f],by simpa[Sim.putAll]using g⟩
 |[],_::_,_,_,_,_,_,hk,_,_,_=>by unfold putE at hk;exact aB hk
 |_::_,[],_,_,_,_,_,hk,_,_,_=>by unfold putE at hk;exact aB hk
theorem iI1 (hO:∀f xs v,O f xs=some v->FnOK T f xs v) (hX:NOK T X) {k:Nat} {xs:List PV} {ys:List AV} {h:Heap} {n:Nat} {K:PV->Heap->Nat->Option R} {r:R} {C:Cx} {s:Hp} {lim id ver e1 len:Nat}
  (hk:yldK O X k xs h n K=some r) (hl:LR (RV C) xs ys) (hC:C k=some (.atp id ver e1 len)) (hM:Mem C n h lim s):
  ∃v h' n' C' y s',K v h' n'=some r/\RV C' v y/\Mem C' n' h' lim s'/\n<=n'/\Fr C h s C' h' s'/\∃D,∀d,D<=d->Sim.round (exec T d) lim id ys s=some (y,s'):=by
 unfold yldK at hk
 rw[dA,lT1]at hk
 obtain⟨ob,L,hk⟩:=hk
 split at hk
 .rename_i N e ps a b
  rw[aU,lT1]at hk
  obtain⟨_,o,hk⟩:=hk
  unfold okG at o
  split at o
  .rename_i g
   unfold okL at g
   rw[lU1,lU1]at g
   have o1:=g.1.1
   have o2:=g.1.2
   have o3:=g.2
   clear o g
   obtain⟨J,st,pend,tmps,g1,g2,g3,g4⟩:=rF hM L hC
   obtain⟨rfl,rfl⟩:=g4
   subst g2
   obtain⟨e2,hk,he,W,Y⟩:=xG hk g3 hl o1
   obtain⟨x,e',h1,n1,C1,t1,P,q1,q2,q3,q4,q5,q6,D1,q7⟩:=bU (T:=T) (rd:=true) (lim:=lim) (N:=tmps.length) hO hX a _ r _ n h _ _ s hk he hM Y o2
   cases x with
   |exit i=>exact aB q1
   |ret=>exact aB q1
   |normal=>
   simp only[dA,lT1]at q1
   obtain⟨p,l,q1⟩:=q1
   have place:∀{C1:Cx} {h1:Heap} {P:Hp} {p:PObj},Fr C h s C1 h1 P->hget h1 k=some p->dG p=true->C1 k=some (.atp id ver e1 len):=fun{C1 h1 P p} hf hg hb=>by
    obtain⟨o',p1,p2⟩:=hf.kd k _ L
    rw[hg]at p1
    cases p1
    rw[(p2 hb).2,hC]
   split at q1
   .rename_i N2 V E a2 b2
    have z:=place q6 l rfl
    obtain⟨_,st,pend,j,w1,w2,w3,w4⟩:=rF q3 l z
    obtain⟨rfl,rfl⟩:=w4
    subst w2
    have q1:=bS _ _ _ _ _ q1
    have u:=(q3.hr.lt (by rw[l];simp) z)
    obtain⟨m1,m2⟩:=nK q3 (po':=.loop j.length V E a2 b2 true none) (ao:=.loop .busy none j E (erC a2) (erC b2)) l z ⟨u.1,u.2,.busy,none,j,by rw[Sim.look_upd,mA1 ⟨rfl,by rw[w1];rfl⟩],rfl,w3,rfl⟩ rfl
    obtain⟨x2,e3,h2,n2,C2,t2,S,z1,z2,z3,z4,z5,z6,D2,z7⟩:=bU (T:=T) (rd:=true) (lim:=lim) (N:=tmps.length) hO hX b _ r _ n1 _ _ _ _ q1 q2 m1 q4 o3
    simp only[lT1]at z1
    obtain⟨b4,m,z1⟩:=z1
    have G:=(q6.trans m2).trans z6
    split at z1
    .rename_i N3 F q a3 b3 U b0
     have A:=place G m rfl
     obtain⟨_,b5,a0,c,v1,v2,v3,v4⟩:=rF z3 m A
     subst v2
     have w:=(z3.hr.lt (by rw[m];simp) A)
     have fin:∀(fn:Option Ex) (st:LoopState) (B:Option IC) (bv:Bool),StR false fn st B->(eM h2 k (.loop c.length F q a3 b3 false fn) fun h=>K (.v (.bool bv)) h n2)=some r->
       (∀s',Sim.endRound id S st B=some s'->∀d,D2<=d->(match exec T d lim true (erC b) {t:=t1,s:={h:=upd P.h id (.loop .busy none j E (erC a2) (erC b2)),n:=P.n}}with
        |some (.normal,τ)=>(Sim.endRound id τ.s .ready none).map fun s=>(AV.bool true,s)
        |some (.ret,τ)=>(Sim.endRound id τ.s .done (some .ret)).map fun s=>(AV.bool false,s)
        |some (.exit i,τ)=>(Sim.endRound id τ.s .done (some (.exit i))).map fun s=>(AV.bool false,s)
        |none=>none)=some (AV.bool bv,s'))->
       ∃v h' n' C' y s',K v h' n'=some r/\RV C' v y/\Mem C' n' h' lim s'/\n<=n'/\Fr C h s C' h' s'/\∃D,∀d,D<=d->Sim.round (exec T d) lim id ys s=some (y,s'):=by
      intro fn st B bv Z hk M
      have hk:=bS _ _ _ _ _ hk
      obtain⟨m3,m4⟩:=nK z3 (po':=.loop c.length F q a3 b3 false fn) (ao:=.loop st B c q (erC a3) (erC b3)) m A ⟨w.1,w.2,st,B,c,by rw[Sim.look_upd,mA1 ⟨rfl,by rw[v1];rfl⟩],rfl,v3,Z⟩ rfl
      refine⟨_,_,_,_,.v (.bool bv),_,hk,.cl (.v _),m3,by omega,G.trans m4,D1+D2,fun d hd=>?_⟩
      have H:Sim.endRound id S st B=some {h:=upd S.h id (.loop st B c q (erC a3) (erC b3)),n:=S.n}:=by simp only[Sim.endRound,v1]
      simp only[Sim.round,g1]
      rw[mA1 ⟨J,W⟩,q7 d (by omega)]
      simp only[w1]
      exact M _ H d (by omega)
     cases x2 with
     |normal=>exact fin none .ready none true ⟨rfl,rfl⟩ z1 (fun s' hs' d hd=>by rw[z7 d hd];simp only[hs',mQ1])
     |exit i=>exact fin (some (.exit i)) .done (some (.exit i)) false ⟨rfl,rfl⟩ z1 (fun s' hs' d hd=>by rw[z7 d hd];simp only[hs',mQ1])
     |ret=>exact fin (some .ret) .done (some .ret) false ⟨rfl,rfl⟩ z1 (fun s' hs' d hd=>by rw[z7 d hd];simp only[hs',mQ1])
    .exact aB z1
   .exact aB q1
  .cases o
 .exact aB hk
theorem bY1 {B:Orc} {NF:FuncId->Bool} {NW:NB} {P:PTab} (d:Nat):(OX B NF NW P d).2.is=NF:=by cases d<;>rfl
theorem vN {f:FuncId} {ifn:IFn} {ys:List AV} {v:PV} (b:T.memo f ys=none) (h:∃D,∀d,D<=d->∃w s' y,Sim.body (exec T d) 0 ifn ys {h:=[],n:=0}=some (w,s')/\Sim.fz (Sim.look s'.h) 0 w=some y/\RC false v y):
  ∃D,∀d,D<=d->∃y,Sim.runP T (exec T d) f ifn ys=some y/\RC false v y:=by
 obtain⟨D,a⟩:=h
 refine⟨D,fun d hd=>?_⟩
 obtain⟨w,s',y,c,e,g⟩:=a d hd
 exact⟨y,by simp only[Sim.runP,b,c,e],g⟩
def NBOK (T:Tab) (NF:FuncId->Bool) (P:PTab) (run:NRun):Prop:=∀(f:FuncId) (xs:List PV) (h:Heap) (n:Nat) (v:PV) (h':Heap) (n':Nat) (C:Cx) (s:Hp) (lim:Nat) (ys:List AV),
 NF f=true->P f=none->run f xs h n=some (v,h',n')->LR (RV C) xs ys->Mem C n h lim s->
 ∃C' y s',RV C' v y/\Mem C' n' h' lim s'/\n<=n'/\Fr C h s C' h' s'/\(∃ifn,T f=some ifn/\ifn.pure=false/\ifn.frz=false)/\∃D,∀d,D<=d->Sim.callF T (exec T d) lim f ys s=some (y,s')
theorem iJ1 {B:Orc} {NF:FuncId->Bool} {NW:NB} {P:PTab} (l:∀f xs v,NF f=false->B f xs=some v->FnOK T f xs v) (p:NBOK T NF P NW.run) (m:∀f fn,P f=some fn->T f=some (toI (NF f) fn)/\okP NF fn.ntmps false fn.code=true/\∀ys,T.memo f ys=none):
  ∀d,(∀f xs v,(OX B NF NW P d).1 f xs=some v->FnOK T f xs v)/\NOK T (OX B NF NW P d).2
 |0=>⟨fun f xs v h=>by
   simp only[OX]at h
   cases hn:NF f with
   |true=>rw[hn]at h;exact aB h
   |false=>rw[hn]at h;exact l f xs v hn h,⟨fun f xs h n K r C s lim ys c hk=>by simp[OX]at hk,fun k xs h n K r C s lim ys id ver e len hk=>by simp[OX]at hk⟩⟩
 |d+1=>by
  obtain⟨g,i⟩:=iJ1 l p m d
  refine⟨fun f xs v h=>?_,⟨fun f xs h n K r C s lim ys c hk hl b=>?_,fun k xs h n K r C s lim ys id ver e len hk hl t b=>?_⟩⟩
  .simp only[OX]at h
   cases hn:NF f with
   |true=>rw[hn]at h;exact aB h
   |false=>
    rw[hn,mT1]at h
    split at h
    .rename_i fn a
     obtain⟨h1,h2,j⟩:=m f fn a
     rw[hn]at h1
     cases hz:fn.frz with
     |true=>
      rw[hz,mF1]at h
      exact⟨toI false fn,h1,rfl,fun _=>by simp[toI,hz],fun ys hl=>vN (j ys) (xF g i (by rw[bY1];exact h2) hl h)⟩
     |false=>
      rw[hz,mT1,lT1]at h
      obtain⟨v',h,hg⟩:=h
      cases hq:gndP 4 v' with
      |true=>rw[hq]at hg;exact aB hg
      |false=>
       rw[hq]at hg
       cases hg
       exact⟨toI false fn,h1,rfl,fun q=>(by rw[hq]at q;cases q),fun ys hl=>vN (j ys) (xF g i (by rw[bY1];exact h2) hl h)⟩
    .exact l f xs v hn h
  .simp only[OX]at c hk
   split at hk
   .rename_i fn a
    obtain⟨h1,h2,j⟩:=m f fn a
    rw[c]at h1
    obtain⟨v,h',n',C',y,s',p1,p2,p3,p4,p5,D,p6⟩:=bX1 g i (by rw[bY1];exact h2) hk hl b
    refine⟨v,h',n',C',y,s',p1,p2,p3,p4,p5,⟨_,h1,rfl,rfl⟩,D,fun d hd=>?_⟩
    simp only[Sim.callF,h1]
    exact p6 d hd
   .rename_i a
    rw[lT1]at hk
    obtain⟨⟨v,h',n'⟩,o,hk⟩:=hk
    obtain⟨C',y,s',p2,p3,p4,p5,p6,p7⟩:=p f xs h n v h' n' C s lim ys c a o hl b
    exact⟨v,h',n',C',y,s',hk,p2,p3,p4,p5,p6,p7⟩
  .simp only[OX]at hk
   exact iI1 g i hk hl t b
theorem kQ1 {B:Orc} {NF:FuncId->Bool} {NW:NB} {P:PTab} (a:∀f xs v,NF f=false->B f xs=some v->FnOK T f xs v) (b:NBOK T NF P NW.run) (c:∀f fn,P f=some fn->T f=some (toI (NF f) fn)/\okP NF fn.ntmps false fn.code=true/\∀ys,T.memo f ys=none) (d:Nat) (f:FuncId) (xs:List PV) (v:PV) (h:Od B NF NW P d f xs=some v):FnOK T f xs v:=(iJ1 a b c d).1 f xs v h
theorem lJ1 {B:Orc} {NF:FuncId->Bool} {NW:NB} {P:PTab} {f:FuncId} {fn:PFn} (a:NF f=false) (h:P f=some fn) (b:fn.frz=true) (d:Nat) (xs:List PV):Od B NF NW P (d+1) f xs=rG (Od B NF NW P d) (Xd B NF NW P d) fn xs some:=by
 simp only[Od,Xd,OX,h,a,b,mT1,mF1]
theorem kR1 {B:Orc} {NF:FuncId->Bool} {NW:NB} {P:PTab} {f:FuncId} {fn:PFn} (b:NF f=false) (h:P f=some fn) (c:fn.frz=false) (d:Nat) (xs:List PV) {A:Type} {F:Option A} {enc:A->PV} (hg:∀y,gndP 4 (enc y)=false) (hb:rG (Od B NF NW P d) (Xd B NF NW P d) fn xs some=F.map enc):Od B NF NW P (d+1) f xs=F.map enc:=by
 have a:rG (OX B NF NW P d).1 (OX B NF NW P d).2 fn xs some=F.map enc:=hb
 simp only[Od,OX,h,b,c,mT1,a]
 cases F with
 |none=>rfl
 |some y=>simp[hg]
theorem lK1 {R:Type} {B:Orc} {NF:FuncId->Bool} {NW:NB} {P:PTab} {f:FuncId} {fn:PFn} (h:P f=some fn) (d:Nat) (xs:List PV) (a:Heap) (n:Nat) (K:PV->Heap->Nat->Option R):(Xd B NF NW P (d+1)).run f xs a n K=runK (Od B NF NW P d) (Xd B NF NW P d) fn xs a n K:=by
 simp only[Od,Xd,OX,h]
theorem iK1 {R:Type} {B:Orc} {NF:FuncId->Bool} {NW:NB} {P:PTab} {f:FuncId} (h:P f=none) (d:Nat) (xs:List PV) (a:Heap) (n:Nat) (K:PV->Heap->Nat->Option R):(Xd B NF NW P (d+1)).run f xs a n K=(NW.run f xs a n).bind fun r=>K r.1 r.2.1 r.2.2:=by
 simp only[Xd,OX,h]
theorem bZ1 {B:Orc} {NF:FuncId->Bool} {NW:NB} {P:PTab} {f:FuncId} (a:NF f=false) (h:P f=none) (d:Nat) (xs:List PV):Od B NF NW P d f xs=B f xs:=by
 cases d with
 |zero=>simp only[Od,OX,a,mT1]
 |succ d=>simp only[Od,OX,h,a,mT1]
theorem fA1 {C0 C':Cx} {h h' h2:Heap} {n n' lim:Nat} {s s':Hp} {v v':PV} {y:AV} (g:Mem C0 n h lim s) (hv:RV C' v y) (t:Mem C' n' h' lim s') (hf:Fr C0 h s C' h' s') (hk:retK h false n v h' n'=some (v',h2,0)):
  RV (resP C' (hasK h2)) v' y/\Mem (resP C' (hasK h2)) n h2 lim s'/\Fr C0 h s (resP C' (hasK h2)) h2 s':=by
 unfold retK at hk
 obtain⟨q,w1⟩:=cL (dC 5) _ _ _ _ hk
 obtain⟨x,w1⟩:=bZ _ _ _ _ _ w1
 obtain⟨b,_,w1,d⟩:=kA w1
 cases hch2:(subH b (nH h)&&(bif false then newH h n b else oldH h b)&&(jD (hasK b) 5 v&&eG (hasK b) b))with
 |false=>rw[hch2]at w1;exact aB w1
 |true=>
 rw[hch2,mF1]at w1
 cases w1
 simp only[lU1,mT1]at hch2
 obtain⟨⟨c1,c2⟩,c3,c4⟩:=hch2
 have a:∀k o,hget h2 k=some o->hget h' k=some o:=fun k o c=>by
  rw[(d k).1]at c
  split at c
  .exact c
  .cases c
 have p:∀{k},hget h k≠none->hget h2 k≠none:=fun{k} hk=>nT c1 k (kV hk)
 have j:∀{k},hget h2 k≠none->hget h' k≠none:=fun{k} hk=>by
  cases hc2:hget h2 k with
  |none=>exact absurd hc2 hk
  |some o=>rw[a k o hc2];simp
 have f:=t.part a c4
 have r:∀{k pl},resP C' (hasK h2) k=some pl->C' k=some pl/\hget h2 k≠none:=fun{k pl} hk=>by
  simp only[resP]at hk
  split at hk
  .rename_i u;exact⟨hk,eH.1 u⟩
  .cases hk
 refine⟨qZ hv c3,⟨f.hr,fun k pl hk=>?_,f.wf,f.lim⟩,⟨hf.sk,hf.n,hf.keep,fun id m w=>?_,fun k o hk=>?_,hf.zl,hf.zn⟩⟩
 .have:=kB c2 (r hk).2
  cases hc:hget h k with
  |none=>exact absurd hc this
  |some o=>obtain⟨pl,p1,_⟩:=g.hr.ob k o hc;exact g.dom k pl p1
 .obtain ⟨k,v,e,l,q1,q2⟩:=w
  exact hf.own id m ⟨k,v,e,l,j q1,(r q2).1⟩
 .obtain ⟨o',q1,q2⟩:=hf.kd k o hk
  have i:=p (k:=k) (by rw[hk];simp)
  cases hc:hget h2 k with
  |none=>exact absurd hc i
  |some o2=>
   have:=a k o2 hc
   rw[q1]at this
   cases this
   refine⟨o',rfl,fun hb=>⟨(q2 hb).1,?_⟩⟩
   simp only[resP]
   rw[mA1 (eH.2 i)]
   exact(q2 hb).2
end
def kC (cl:Nat->Option (Nat×Nat)):NRun:=fun f xs h n=>match xs,h with
 |[.is e rows],[]=>(cl f).bind fun p=>bif Nat.beq p.2 e&&Nat.ble rows.length 1073741824 then some (.own n,[(n,.lst p.1 e true rows)],n+1)else none
 |_,_=>none
end Go.P
namespace Go.P
open Go.Sim (AV Hp Tab exec)
section
variable {T:Tab}
noncomputable def pM {A B:Type} (f0 n0:Nat) (xs:A->List PV) (h:A->Heap) (h':A->B->Heap) (G:A->Option B):NRun:=fun f x c n=>
 open Classical in if q:f=f0/\n=n0/\∃a,x=xs a/\c=h a then(G q.2.2.choose).map fun b=>(.tup [],h' q.2.2.choose b,n)else none
theorem cA1 {A B:Type} {f0 n0:Nat} {xs:A->List PV} {h:A->Heap} {h':A->B->Heap} {G:A->Option B} (hi:∀a b,xs a=xs b->h a=h b->a=b) (a:A):
  pM f0 n0 xs h h' G f0 (xs a) (h a) n0=(G a).map fun b=>(.tup [],h' a b,n0):=by
 have q:f0=f0/\n0=n0/\∃b,xs a=xs b/\h a=h b:=⟨rfl,rfl,a,rfl,rfl⟩
 unfold pM
 rw[dif_pos q,show q.2.2.choose=a from(hi _ _ q.2.2.choose_spec.1 q.2.2.choose_spec.2).symm]
theorem nY {A B:Type} {f0 n0:Nat} {xs:A->List PV} {h:A->Heap} {h':A->B->Heap} {G:A->Option B} {f:FuncId} {x:List PV} {c:Heap} {n:Nat} {r:PV×Heap×Nat} (hk:pM f0 n0 xs h h' G f x c n=some r):
  f=f0/\n=n0/\∃a b,x=xs a/\c=h a/\G a=some b/\r=(.tup [],h' a b,n0):=by
 unfold pM at hk
 split at hk
 .rename_i q
  obtain⟨b,hb,he⟩:=lV1.1 hk
  exact⟨q.1,q.2.1,_,b,q.2.2.choose_spec.1,q.2.2.choose_spec.2,hb,by rw[<-he];exact congrArg (fun m=>((.tup []:PV),h' q.2.2.choose b,m)) q.2.1⟩
 .cases hk
def fB1 (a b:NRun):NRun:=fun f x h n=>match a f x h n with|some r=>some r|none=>b f x h n
theorem cB1 {NF:FuncId->Bool} {P:PTab} {a b:NRun} (c:NBOK T NF P a) (hb:NBOK T NF P b):NBOK T NF P (fB1 a b):=by
 intro f xs h n v h' n' C s lim ys h1 h2 hk
 unfold fB1 at hk
 split at hk
 .rename_i r hr
  cases hk
  exact c f xs h n v h' n' C s lim ys h1 h2 hr
 .exact hb f xs h n v h' n' C s lim ys h1 h2 hk
theorem cC1 {O:Orc} {X:NX} {NF:FuncId->Bool} {P:PTab} {run:NRun} {f0:FuncId} {fn:PFn} (c:∀f xs v,O f xs=some v->FnOK T f xs v) (e:NOK T X)
  (b:T f0=some (toI true fn)) (hp:okP X.is fn.ntmps false fn.code=true)
  (hr:∀f xs h n v h' n',run f xs h n=some (v,h',n')->f=f0/\n'=n/\runK O X fn xs h n (retK h false n)=some (v,h',0)):NBOK T NF P run:=by
 intro f xs h n v h' n' C s lim ys hf _ hk hl a
 obtain⟨rfl,rfl,hd⟩:=hr f xs h n v h' n' hk
 obtain⟨v1,h1,k,C1,y,s',q1,q2,q3,q4,q5,D,q6⟩:=bX1 c e hp hd hl a
 obtain⟨g,i,j⟩:=fA1 a q2 q3 q5 q1
 exact⟨_,y,s',g,i,lW1 _,j,⟨_,b,rfl,rfl⟩,D,fun d hd=>by
  simp only[Sim.callF,b]
  exact q6 d hd⟩
end
end Go.P
namespace Go.P
open Go.Sim (Ex OpK CK)
theorem iL1 {α β γ δ:Type} {X:Option γ} {Y:Option α} {e:α->γ} {K:γ->Option δ} {F:α->Option β} {enc:β->δ} (h:X=Y.map e) (hk:∀y,K (e y)=(F y).map enc):bC X K=(Y.bind F).map enc:=by
 rw[aU];subst h;cases Y<;>simp[hk]
theorem lL1 {β γ:Type} {b:Bool} {X Y:Option γ} {FX FY:Option β} {enc:β->γ} (a:X=FX.map enc) (hy:Y=FY.map enc):ifK b X Y=(if b then FX else FY).map enc:=by
 rw[jT];subst a hy;cases b<;>rfl
theorem aG {S E S' E':Type} {enc:S->S'} {encE:E->E'} {B:S'->Option (S'⊕E')} {F:S->Option (S⊕E)} (h:∀s,B (enc s)=(F s).map (Sum.map enc encE)):∀(n:Nat) (s:S),aP B n (enc s)=(aP F n s).map encE
 |0,s=>rfl
 |n+1,s=>by
  simp only[aP,h]
  cases F s with
  |none=>rfl
  |some r=>
   cases r with
   |inl s'=>exact aG h n s'
   |inr e=>rfl
def lget {A:Type} (l:List A) (i:Int):Option A:=if 0<=i then l[i.toNat]? else none
theorem yQ {A:Type} (f:A->List PV) (l:List A) (i:Int):oZ (l.map f) i=(lget l i).map f:=by
 unfold oZ lget
 split<;>simp
def i64 (n:Int):PV:=.v (.int .i64 n)
def bv (b:Bool):PV:=.v (.bool b)
end Go.P
namespace Go.P
open Go.Sim (Ex OpK CK maxRoom)
def w64 (n:Int):Int:=IntKind.wrap .i64 n
def eA {A:Type} (f:A->List PV) (x:A):PV:=.agg (f x)
def cI (n:Int):List PV:=[i64 n]
def iM1 (b:UInt8):List PV:=[.v (.int .u8 (b.toNat:Int))]
def cB (b:Bool):List PV:=[bv b]
def mEnt {K V:Type} (f:K->PV) (g:V->PV) (p:K×V):PV×PV:=(f p.1,g p.2)
section
variable {γ δ:Type}
theorem lM1 {X:Option γ} {x:γ} {K:γ->Option δ} {r:Option δ} (h:X=some x) (hk:K x=r):bC X K=r:=by
 rw[aU,h];exact hk
theorem gand {b x:Bool} {X:Option Bool} (h:X=some x):ifK b X (some false)=some (b&&x):=by
 rw[jT,h];cases b<;>rfl
theorem gor {b x:Bool} {X:Option Bool} (h:X=some x):ifK b (some true) X=some (b||x):=by
 rw[jT,h];cases b<;>rfl
theorem oid {A:Type} (x:Option A):x=x.map id:=by simp
end
section
variable {A:Type}
theorem bL (c:A->List PV) (l:List A):some (l.map c).length=some l.length:=by simp
def lidx (l:List A) (i:Int):Option Nat:=uY l.length i
theorem aK (c:A->List PV) (l:List A) (i:Int):uY (l.map c).length i=(lidx l i).map id:=by simp[lidx]
def lnth (l:List A) (i:Nat):Option A:=l[i]?
theorem aX {c:A->List PV} {o:Nat} {g:A->PV} (h:∀x,(c x)[o]? =some (g x)) (l:List A) (i:Nat):sP (l.map c) i o=(lnth l i).map g:=by
 unfold sP lnth
 rw[mZ1]
 cases l[i]? with
 |none=>rfl
 |some x=>exact h x
theorem bA {c:A->List PV} {o n m:Nat} {g:A->List PV} (h:∀x,(c x).length=m/\((c x).drop o).take n=g x) (a:o+n<=m) (l:List A) (i:Nat):nA (l.map c) i o n=(lnth l i).map g:=by
 unfold nA lnth
 rw[mZ1]
 cases l[i]? with
 |none=>rfl
 |some x=>simp[(h x).1,(h x).2,a]
def lput (l:List A) (i:Nat) (f:A->A):Option (List A):=(l[i]?).map fun x=>l.set i (f x)
theorem cX {c:A->List PV} {o:Nat} {cs:List PV} {f:A->A} {m:Nat} (h:∀x,(c x).length=m/\Sim.setL (c x) o cs=c (f x)) (a:o+cs.length<=m) (l:List A) (i:Nat):sO (l.map c) i o cs=(lput l i f).map (List.map c):=by
 unfold sO lput
 rw[mZ1]
 cases l[i]? with
 |none=>rfl
 |some x=>simp[(h x).1,(h x).2,a]
def eY (l:List A) (a b:Int):Option (List A):=if 0<=a/\a<=b/\b<=l.length then some ((l.drop a.toNat).take (b.toNat-a.toNat))else none
theorem eZ (f:A->List PV) (l:List A) (a b:Int):iE (l.map f) a b=(eY l a b).map (List.map f):=by
 unfold iE eY
 simp only[oU1]
 split
 .simp [List.map_take,List.map_drop]
 .rfl
theorem kD (f:A->List PV) (l:List A) (a:Int):iE (l.map f) a (l.map f).length=(eY l a l.length).map (List.map f):=by
 rw[eZ,oU1]
def cD1 (l:List A) (h:Int):Option (List A):=if 0<=h/\h<=l.length then some (l.take h.toNat)else none
theorem rI (f:A->List PV) (l:List A) (h:Int):jV (l.map f) h=(cD1 l h).map (List.map f):=by
 unfold jV cD1
 simp only[oU1]
 split
 .simp [List.map_take]
 .rfl
def lapp (g:Bool) (l m:List A):Option (List A):=if l.length+m.length<=maxRoom/\(g=true->m.length<=1)then some (l++m)else none
theorem bD (g:Bool) (f:A->List PV) (l m:List A):appRows g (l.map f) (m.map f)=(lapp g l m).map (List.map f):=by
 unfold appRows lapp
 simp only[oU1]
 split
 .simp
 .rfl
def yR (l c:Int) (z:A):Option (List A):=if 0<=l/\l<=c/\c<=maxRoom then some (List.replicate l.toNat z)else none
theorem fA (f:A->List PV) (l c:Int) (z:A):jW l c (f z)=(yR l c z).map (List.map f):=by
 unfold jW yR
 split
 .simp
 .rfl
theorem kW (k:IntKind) (l:List Int) (i:Int) {n:Nat} (h:l.length=n):nB (l.map fun x=>PV.v (.int k x)) i n 1=(lget l i).map (fun x=>PV.v (.int k x)):=by
 subst h
 unfold nB lget
 by_cases h0:0<=i
 .by_cases h1:i<l.length
  .simp [h0,h1]
  .rw [lY1 (by omega),mA1 h0,oX1 (by omega)];rfl
 .rw [lY1 (by omega),lY1 h0];rfl
theorem xH {c:A->List PV} {e:Nat} (hc:∀x,(c x).length=e):∀(l:List A) (j:Nat),j<l.length->((l.flatMap c).drop (j*e)).take e=((l[j]?).map c).getD []/\(j+1)*e<=(l.flatMap c).length
 |[],j,h=>by simp at h
 |x::l,0,h=>by
  have:=hc x
  constructor
  .simp [<-this]
  .simp [<-this]
 |x::l,j+1,h=>by
  have a:=hc x
  obtain⟨h1,h2⟩:=xH hc l j (by simpa using h)
  constructor
  .rw [List.flatMap_cons,show(j+1)*e=(c x).length+j*e by rw[a,nN1];omega,<-oD1,List.drop_left]
   simpa using h1
  .rw [List.flatMap_cons,nM1,a]
   rw[show(j+1+1)*e=e+(j+1)*e by rw[nN1 (j+1) 1 e];omega]
   omega
theorem vO (c:A->List PV) (l:List A) (i:Int) {n e:Nat} (h:l.length=n) (hc:∀x,(c x).length=e) {cs:List PV} (a:cs=l.flatMap c):jU cs i n e=(lget l i).map c:=by
 subst h a
 unfold jU lget
 by_cases h0:0<=i
 .by_cases h1:i<l.length
  .obtain ⟨h2,b⟩:=xH hc l i.toNat (by omega)
   rw[mA1 ⟨h0,h1,b⟩,h2,mA1 h0]
   rw[nL1 (by omega)]
   rfl
  .rw [lY1 (by omega),mA1 h0,oX1 (by omega)];rfl
 .rw [lY1 (by omega),lY1 h0];rfl
end
def shlO (k:IntKind) (a b:Int):Option Int:=if b<0 then none else some (k.wrap (a*2^min b.toNat k.bits))
def shrO (k:IntKind) (a b:Int):Option Int:=if b<0 then none else some (a.fdiv (2^min b.toNat k.bits))
def quoO (k:IntKind) (a b:Int):Option Int:=if b=0 then none else some (k.wrap (a.tdiv b))
def remO (k:IntKind) (a b:Int):Option Int:=if b=0 then none else some (a.tmod b)
def iand (k:IntKind) (a b:Int):Int:=k.wrap (BitVec.ofInt k.bits a&&&BitVec.ofInt k.bits b).toNat
def ior (k:IntKind) (a b:Int):Int:=k.wrap (BitVec.ofInt k.bits a|||BitVec.ofInt k.bits b).toNat
structure cE1 {K:Type} [DecidableEq K] (ek:K->PV) (agg:Bool) (ks:List CK):Prop where
 ok:∀a,pC agg ks (ek a)=true
 eq:∀a b,pB agg ks (ek a) (ek b)=some (decide (a=b))
section
variable {K V:Type} [DecidableEq K] {ek:K->PV} {agg:Bool} {ks:List CK}
def vP (k:K):List (K×V)->Nat->Option (Nat×V)
 |[],_=>none
 |p::r,i=>if k=p.1 then some (i,p.2)else vP k r (i+1)
def mget (l:List (K×V)) (k:K) (z:V):V:=match vP k l 0 with|some p=>p.2|none=>z
def mput (l:List (K×V)) (k:K) (x:V):List (K×V):=match vP k l 0 with|some p=>l.set p.1 (k,x)|none=>l++[(k,x)]
theorem nZ (h:cE1 ek agg ks) (ev:V->PV) (k:K):∀(l:List (K×V)) (i:Nat),qM agg ks (ek k) (l.map (mEnt ek ev)) i=some ((vP k l i).map fun p=>(p.1,ev p.2))
 |[],i=>rfl
 |p::r,i=>by
  simp only[nV1,mEnt,qM,h.eq,vP]
  by_cases e:k=p.1
  .simp [e]
  .simp only[e,decide_false,lY1 e]
   exact nZ h ev k r (i+1)
theorem pN (h:cE1 ek agg ks) (ev:V->PV) (l:List (K×V)) (k:K) (z:V):nD agg ks (ev z) (ek k) (l.map (mEnt ek ev))=some (ev (mget l k z)):=by
 unfold nD mget
 rw[h.ok,mA1 rfl,nZ h]
 cases vP k l 0<;>rfl
theorem iJ (h:cE1 ek agg ks) (ev:V->PV) (l:List (K×V)) (k:K) (x:V):sQ agg ks (ek k) (ev x) (l.map (mEnt ek ev))=some ((mput l k x).map (mEnt ek ev)):=by
 unfold sQ mput
 rw[h.ok,mA1 rfl,nZ h]
 cases vP k l 0 with
 |none=>simp[mEnt]
 |some p=>simp[mEnt,List.map_set]
end
end Go.P
namespace Go.P
open Go.Sim (Ex OpK CK maxRoom)
section
variable {A β γ δ:Type} {f:A->List PV} {l m:List A} {i:Int}
theorem rg:oZ (l.map f) i=(lget l i).map f:=yQ f l i
theorem lm:some (l.map f).length=some l.length:=bL f l
theorem im:uY (l.map f).length i=(lidx l i).map id:=aK f l i
theorem lf {x:γ} {y:β} {enc:β->γ} (h:x=enc y):some x=(some y).map enc:=by subst h;rfl
theorem bo {α:Type} {X:Option γ} {Y:Option α} {e:α->γ} {K:γ->Option δ} {F:α->Option β} {enc:β->δ} (h:X=Y.map e) (hk:∀y,K (e y)=(F y).map enc):bC X K=(Y.bind F).map enc:=iL1 h hk
theorem bz {X:Option γ} {x:γ} {K:γ->Option δ} {r:Option δ} (h:X=some x) (hk:K x=r):bC X K=r:=lM1 h hk
theorem io {b:Bool} {X Y:Option γ} {FX FY:Option β} {enc:β->γ} (a:X=FX.map enc) (hy:Y=FY.map enc):ifK b X Y=(if b then FX else FY).map enc:=lL1 a hy
theorem oi {x:Option A}:x=x.map id:=oid x
end
end Go.P
set_option maxRecDepth 100000
namespace Go.P
open Go.Sim (AV AO Hp IFn IC IX Ex Tab exec)
def dK (ty esz k:Nat) (zero:List Value):IFn:={ntmps:=8,res:=[.tmp 2],pure:=true,frz:=false,body:=(
  .seq (.reg [⟨some 2,.mov,[.c (.v (.slice none 0 0))],none⟩])
   (.seq (.seq (.reg [⟨some 3,.mov,[.t 0],none⟩,⟨some 4,.eqNil false 0,[.t 3,.c (.v (.slice none 0 0))],none⟩])
     (.cond (.t 4) (.seq (.reg [⟨some 2,.mov,[.c (.v (.slice none 0 0))],none⟩]) .ret) .skip))
   (.seq (.reg [⟨some 5,.buildSl ty esz 0 zero [],[],none⟩,⟨some 6,.mov,[.t 0],none⟩,⟨some 7,.append ty esz k zero false,[.t 5,.t 6],none⟩,⟨some 2,.mov,[.t 7],none⟩]) .ret)))}
section
variable {T:Tab} (ty esz k:Nat) (zero:List Value) (d:Nat)
theorem cF1:Sim.body (exec T (d+8)) 0 (dK ty esz k zero) [.v (.slice none 0 0)] {h:=[],n:=0}=some (.v (.slice none 0 0),{h:=[],n:=0}):=rfl
theorem iN1:∃s,Sim.body (exec T (d+8)) 0 (dK ty esz k zero) [.is esz []] {h:=[],n:=0}=some (.sl esz 0 0 0 0 none,s)/\Sim.look s.h 0=some (.arr false ty esz 0 []):=by
 simp[Sim.body,exec,dK,Sim.runOps,Sim.wanted,Sim.evs,Sim.IX.ev,Sim.step,Sim.doOp,Sim.put,Sim.isNilv,Sim.appRows,Sim.rowsOf,Sim.appendTo,Sim.fillParts,Sim.look,Sim.results,Sim.mapO,Sim.readRes,Sim.Out.apply]
theorem iO1 (r:List AV) (a:List (List AV)) (h:(r::a).length<=1073741824):∃s,Sim.body (exec T (d+8)) 0 (dK ty esz k zero) [.is esz (r::a)] {h:=[],n:=0}=some (.sl esz 0 1 0 (r::a).length none,s)/\Sim.look s.h 0=some (.arr false ty esz 1 (r::a)):=by
 have b:Sim.maxRoom=1073741824:=rfl
 simp only[nH1]at h
 simp[Sim.body,exec,dK,Sim.runOps,Sim.wanted,Sim.evs,Sim.IX.ev,Sim.step,Sim.doOp,Sim.put,Sim.isNilv,Sim.appRows,Sim.rowsOf,Sim.appendTo,Sim.fillParts,Sim.look,Sim.results,Sim.mapO,Sim.readRes,Sim.Out.apply,b,h]
 rfl
theorem rJ {f:FuncId} {ty esz k:Nat} {zero:List Value} (i:T f=some (dK ty esz k zero)) (j:∀ys,T.memo f ys=none) {rows:List (List PV)} (hl:rows.length<=1073741824):FnOK T f [.is esz rows] (.is esz rows):=by
 refine⟨_,i,rfl,fun h=>(by cases h),fun ys hy=>vN (j ys) ⟨8,fun d hd=>?_⟩⟩
 obtain⟨d,rfl⟩:∃g,d=g+8:=⟨d-8,by omega⟩
 obtain⟨y,l,rfl,h1,h2⟩:=hy.inv_cons
 rw[h2.inv_nil]
 rcases tA (C:=⟨fun _=>none,fun _=>none⟩) (.cl h1)with⟨rows',rfl,hr⟩|⟨rfl,rfl⟩
 .cases rows' with
  |nil=>
   have:rows=[]:=oT1 hr.1
   subst this
   obtain⟨s,a,e2⟩:=iN1 (T:=T) ty esz k zero d
   exact⟨_,_,_,a,eP1 (d:=4) (rows:=[]) (nR1 _) e2 .nil (lW1 _),h1⟩
  |cons r rs=>
   obtain⟨s,a,e2⟩:=iO1 (T:=T) ty esz k zero d r rs (by rw[<-hr.1];exact hl)
   have b:(r::rs).length=rows.length:=hr.1.symm
   rw[b]at a
   have e:(r::rs).take rows.length=r::rs:=by rw[<-b,pA1]
   have c:=eP1 (n0:=0) (L:=Sim.look s.h) (d:=4) (rows:=rows) (id:=0) (nR1 _) e2 (by rw[e];exact hr) (by omega)
   rw[e]at c
   exact⟨_,_,_,a,c,h1⟩
 .exact ⟨_,_,_,cF1 ty esz k zero d,rfl,.isn⟩
theorem yS (lim:Nat) (s:Hp):Sim.body (exec T (d+8)) lim {dK ty esz k zero with pure:=false} [.v (.slice none 0 0)] s=some (.v (.slice none 0 0),s):=rfl
theorem fC1 {lim:Nat} {s:Hp} (hl:lim<=s.n):Sim.body (exec T (d+8)) lim {dK ty esz k zero with pure:=false} [.is esz []] s=some (.sl esz s.n 0 0 0 none,⟨.ob s.n (.arr false ty esz 0 [])::s.h,s.n+1⟩):=by
 simp[Sim.body,exec,dK,Sim.runOps,Sim.wanted,Sim.evs,Sim.IX.ev,Sim.step,Sim.doOp,Sim.put,Sim.isNilv,Sim.appRows,Sim.rowsOf,Sim.appendTo,Sim.fillParts,Sim.look,Sim.results,Sim.mapO,Sim.readRes,Sim.Out.apply]
theorem fD1 {lim:Nat} {s:Hp} (hl:lim<=s.n) (r:List AV) (a:List (List AV)) (h:(r::a).length<=1073741824):Sim.body (exec T (d+8)) lim {dK ty esz k zero with pure:=false} [.is esz (r::a)] s=some (.sl esz s.n 1 0 (r::a).length none,⟨.ob s.n (.arr false ty esz 1 (r::a))::s.h,s.n+1⟩):=by
 have b:Sim.maxRoom=1073741824:=rfl
 simp only[nH1]at h
 simp[Sim.body,exec,dK,Sim.runOps,Sim.wanted,Sim.evs,Sim.IX.ev,Sim.step,Sim.doOp,Sim.put,Sim.isNilv,Sim.appRows,Sim.rowsOf,Sim.appendTo,Sim.fillParts,Sim.look,Sim.results,Sim.mapO,Sim.readRes,Sim.Out.apply,Sim.upd,b,h,hl]
end
theorem cG1 {T:Tab} {NF:FuncId->Bool} {P:PTab} {cl:Nat->Option (Nat×Nat)} (q:∀f p,cl f=some p->isFx p.1=false/\Nat.ble 4294967296 p.2=false/\∃k zero,T f=some {dK p.1 p.2 k zero with pure:=false}):NBOK T NF P (kC cl):=by
 intro f xs h n v h' n' C s lim ys _ _ hk hl b
 unfold kC at hk
 split at hk
 .rename_i e rows
  rw[lT1]at hk
  obtain⟨⟨ty,e2⟩,hc,hk⟩:=hk
  simp only at hk
  by_cases he:(Nat.beq e2 e&&Nat.ble rows.length 1073741824)=true
  .rw [he,mF1]at hk
   cases hk
   simp only[lU1,Nat.ble_eq]at he
   obtain⟨h1,t⟩:=he
   have:=mI1 h1
   subst this
   obtain⟨hfx,hs,k,zero,a⟩:=q f _ hc
   simp only at hfx hs a
   have o:rty ty=ty:=by simp[rty,hfx]
   obtain⟨y,u,rfl,a1,a2⟩:=hl.inv_cons
   rw[a2.inv_nil]
   have nilc:rows=[]->y=.v (.slice none 0 0)->∃C' c s',RV C' (.own n) c/\Mem C' (n+1) [(n,.lst ty e2 true rows)] lim s'/\n<=n+1/\Fr C [] s C' [(n,.lst ty e2 true rows)] s'/\(∃ifn,T f=some ifn/\ifn.pure=false/\ifn.frz=false)/\∃D,∀d,D<=d->Sim.callF T (exec T d) lim f [y] s=some (c,s'):=by
    rintro rfl rfl
    obtain⟨i,j⟩:=aT1 b (ty:=ty) (e:=e2) (g:=true)
    have m:kR ty e2 true=.lst ty e2 true []:=by unfold kR;rw[hs];rfl
    rw[m]at i j
    refine⟨_,_,s,.ownn (C:=ext C n .nil) (iS C n .nil) rfl,i,by omega,j,⟨_,a,rfl,rfl⟩,8,fun d hd=>?_⟩
    obtain⟨d,rfl⟩:∃l,d=l+8:=⟨d-8,by omega⟩
    simp only[Sim.callF,a]
    exact yS (T:=T) ty e2 k zero d lim s
   rcases tA a1 with⟨rows',rfl,hr⟩|⟨hr,hy⟩
   .have fin:∀(ver:Nat),(∀d,Sim.body (exec T (d+8)) lim {dK ty e2 k zero with pure:=false} [.is e2 rows'] s=some (.sl e2 s.n ver 0 rows.length none,⟨.ob s.n (.arr false ty e2 ver rows')::s.h,s.n+1⟩))->
      ∃C' c s',RV C' (.own n) c/\Mem C' (n+1) [(n,.lst ty e2 true rows)] lim s'/\n<=n+1/\Fr C [] s C' [(n,.lst ty e2 true rows)] s'/\(∃ifn,T f=some ifn/\ifn.pure=false/\ifn.frz=false)/\∃D,∀d,D<=d->Sim.callF T (exec T d) lim f [.is e2 rows'] s=some (c,s'):=by
     intro ver hb
     obtain⟨i,j,w⟩:=lG b (po:=.lst ty e2 true rows) (ao:=.arr false ty e2 ver rows') (ver:=ver) (e:=e2) (len:=rows.length) ⟨b.lim,by omega,rfl,rfl,rows',by rw[bX,mA1 rfl,o],by rw[mV1 (by rw[hr.1];exact lW1 _)];exact hr,by rw[hr.1];exact lW1 _,fun h=>by cases h⟩
     refine⟨_,_,_,.own (iS C n _),i,by omega,j,⟨_,a,rfl,rfl⟩,8,fun d hd=>?_⟩
     obtain⟨d,rfl⟩:∃l,d=l+8:=⟨d-8,by omega⟩
     simp only[Sim.callF,a]
     exact hb d
    cases rows' with
    |nil=>
     have:rows=[]:=oT1 hr.1
     subst this
     exact fin 0 fun d=>fC1 (T:=T) ty e2 k zero d b.lim
    |cons r rs=>exact fin 1 fun d=>by rw[hr.1];exact fD1 (T:=T) ty e2 k zero d b.lim r rs (by rw[<-hr.1];exact t)
   .exact nilc hr hy
  .simp only[nX1]at he
   rw[he]at hk
   exact aB hk
 .cases hk
end Go.P
namespace Go.P
open Go.Sim
section
variable {P:Program} {D:Nat} {t:TypeId} {cs:List AV}
theorem lt62 {n:Nat} (h:n<=maxLen):n<9223372036854775808:=Nat.lt_of_le_of_lt h (by decide)
theorem rInt {k:IntKind} (a:P.underlying t=some (.int k)) (h:TyC P D t cs):∃n,LR (RC false) [.v (.int k n)] cs:=by
 cases D with
 |zero=>exact h.elim
 |succ D=>
  unfold TyC at h
  rw[a]at h
  obtain⟨n,rfl,_⟩:=h
  exact⟨n,.cons (.v _) .nil⟩
theorem rSl {A:Type} {B:A->Prop} {c:A->List PV} {e:TypeId} {m:Nat} (g:P.underlying t=some (.slice e)) (f:P.cellsOf e=m) (a:∀D row,TyC P D e row->∃x:A,B x/\LR (RC false) (c x) row) (hp:∀x,(c x).all cW=true) (h:TyC P D t cs):
  ∃l:List A,(l.length<=maxLen/\∀x∈l,B x)/\LR (RC false) [.is m (l.map c)] cs:=by
 cases D with
 |zero=>exact h.elim
 |succ D=>
  unfold TyC at h
  rw[g]at h
  rcases h with rfl|⟨els,rfl,hl,h⟩
  .exact ⟨[],⟨nR1 _,fun x d=>(List.not_mem_nil d).elim⟩,.cons .isn .nil⟩
  .rw [f]
   have:∃l:List A,l.length=els.length/\(∀x∈l,B x)/\RR (l.map c) els:=by
    clear hl
    induction els with
    |nil=>exact⟨[],rfl,fun x d=>(List.not_mem_nil d).elim,.nil⟩
    |cons row els ih=>
     obtain⟨l,h1,h2,b⟩:=ih (fun row a=>h row (by simp[a]))
     obtain⟨x,i,j⟩:=a D row (h row (by simp)).2
     refine⟨x::l,by simp[h1],fun y hy=>?_,.cons ?_ b⟩
     .rcases mL1.1 hy with rfl|hy
      .exact i
      .exact h2 y hy
     .exact (LR.closed (C:=⟨fun _=>none,fun _=>none⟩) j).plain (hp x)
   obtain⟨l,h1,h2,b⟩:=this
   exact⟨l,⟨by omega,h2⟩,.cons b.is .nil⟩
theorem cH1 {fs:Array Field} (a:P.underlying t=some (.struct fs)) (h:TyC P D t cs):∃D',TyFs (TyC P D') P fs.toList cs:=by
 cases D with
 |zero=>exact h.elim
 |succ D=>
  unfold TyC at h
  rw[a]at h
  exact⟨D,h⟩
end
end Go.P
namespace Go.P
open Go.Sim
theorem fE1 {T:Tab} {f:FuncId} {xs:List PV} (h:FnOK T f xs (bv true)) {ys:List AV} (hl:LR (RC false) xs ys) (hc:ys.all (closed 4)=true):∃d s,callF T (exec T d) 0 f ys {h:=[],n:=0}=some (.v (.bool true),s):=by
 obtain⟨ifn,h1,h2,g,a⟩:=h
 obtain⟨D,b⟩:=a ys hl
 obtain⟨y,c,e⟩:=b D (lW1 _)
 cases e
 exact⟨D,_,by simp only[callF,h1,h2,mW1,hc,c,mQ1];rfl⟩
theorem tS {x:PV} {y:AV} {d:Nat} (h:RC false x y) (hp:cW x=true):closed (d+1) y=true:=by
 cases h<;>first|rfl|simp[cW]at hp
def valB:Value->Value->Bool
 |.int k a,.int k' b=>decide (k=k')&&decide (a=b)
 |.bool a,.bool b=>decide (a=b)
 |.string a,.string b=>decide (a=b)
 |.slice none 0 0,.slice none 0 0=>true
 |_,_=>false
theorem iP1 {x y:Value} (h:valB x y=true):x=y:=by
 unfold valB at h
 split at h<;>simp_all
def allB {α β:Type} (f:α->β->Bool):List α->List β->Bool
 |[],[]=>true
 |a::as,b::bs=>f a b&&allB f as bs
 |_,_=>false
theorem hU {α β:Type} {f:α->β->Bool}:∀{xs:List α} {ys:List β},allB f xs ys=true->xs.length=ys.length/\∀(j:Nat) (x:α) (y:β),xs[j]? =some x->ys[j]? =some y->f x y=true
 |[],[],_=>⟨rfl,fun j x y h=>by simp at h⟩
 |[],b::bs,h=>by simp[allB]at h
 |a::as,[],h=>by simp[allB]at h
 |a::as,b::bs,h=>by
  simp only[allB,lU1]at h
  obtain⟨h1,h2⟩:=h
  have ih:=hU h2
  refine⟨by simp[ih.1],fun j x y c hy=>?_⟩
  cases j with
  |zero=>simp at c hy;subst c;subst hy;exact h1
  |succ j=>simp at c hy;exact ih.2 j x y c hy
def rcB:Nat->PV->AV->Bool
 |0,_,_=>false
 |d+1,x,y=>match x,y with
  |.v x,.v y=>valB x y
  |.is e rows,.is e' rows'=>decide (e=e')&&allB (allB (rcB d)) rows rows'
  |.is _ [],.v (.slice none 0 0)=>true
  |_,_=>false
theorem gG1:∀(d:Nat) {x:PV} {y:AV} (p:Bool),rcB d x y=true->RC p x y
 |0,x,y,p,h=>by simp[rcB]at h
 |d+1,x,y,p,h=>by
  unfold rcB at h
  split at h
  .rw [iP1 h];exact .v _
  .simp only[lU1,mU1]at h
   obtain⟨rfl,h⟩:=h
   have h1:=hU h
   refine .is h1.1 (fun i r r' hr a=>(hU (h1.2 i r r' hr a)).1) (fun i r r' j x y hr a b hy=>gG1 d true ((hU (h1.2 i r r' hr a)).2 j x y b hy))
  .exact .isn
  .cases h
end Go.P
namespace Go.P
open Go.Sim
theorem fF1 {Q:Program} {T:Tab} (e:dZ Q T) (a:Q.follows .mixedOrders=true) {f:FuncId} {xs:List PV} {ys:List AV} {b:Bool} (h:FnOK T f xs (bv b)) (hl:LR (RC false) xs ys) (hc:ys.all (closed 4)=true):fZ Q f ys (.v (.bool b)):=by
 obtain⟨fn,h1,h2,_,c⟩:=h
 obtain⟨D,d⟩:=c ys hl
 obtain⟨y,g,i⟩:=d D (lW1 _)
 cases i
 exact qK e a h1 h2 hc g
theorem fG1 {T:Tab} {f:FuncId} {fn:IFn} {b:Bool} (a:T f=some fn) (hp:fn.pure=true) (e:fn.frz=true) (c:T.memo f []=some (.v (.bool b))):FnOK T f [] (bv b):=
 ⟨fn,a,hp,fun _=>e,fun ys hy=>⟨0,fun d _=>⟨_,by rw[hy.inv_nil];simp only[runP,c],.v _⟩⟩⟩
def kS1:Nat->PV->AV
 |0,_=>.es
 |d+1,x=>match x with
  |.v x=>.v x
  |.is _ []=>.v (.slice none 0 0)
  |.is e rows=>.is e (rows.map fun r=>r.map (kS1 d))
  |_=>.es
def fH1 (d:Nat) (xs:List PV):List AV:=xs.map (kS1 d)
theorem iQ1 {cells:List PV} {d:Nat} (h:allB (rcB 12) cells (fH1 d cells)=true):LR (RC false) [.agg cells] [.agg (fH1 d cells)]:=by
 have:=hU h
 exact .cons (.agg this.1 (fun j x y a hy=>gG1 12 false (this.2 j x y a hy))) (.nil)
end Go.P
