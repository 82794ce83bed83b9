import Derived.Test.YtfdbgfhnlgbonaaGreatLpB
/- A text of the proof. -/
set_option linter.all false
namespace Go.P
open Go.Sim (AV AO Hp fQ upd St IC IX Ex gC CK Wf Out doOp jW exec Foot wanted put popMark)
variable {C:Cx} {R:Type} {h:aJ} {lim n:Nat} {s:Hp} {t:aA AV}
def zF (NF:FuncId->Bool) (N:Nat) (rd:Bool):PC->Bool
 |.reg ops=>jL N [] false [] ops
 |.regD dr ops before=>(Nat.beq dr 3||Nat.beq dr 4||(Nat.ble 5 dr&&dR1 ((oX none ops).map fun o=>kR NF dr o.k)))&&jL N [] false [] ops&&Kz ((oX none ops).map fun o=>kR NF dr o.k) before
 |.regX dr ops before ex=>((Nat.beq dr 3||Nat.beq dr 4)&&ex.all (fun p=> !(Nat.beq p.2.2.1 999999))||(Nat.ble 6 dr&&dR1 ((oX none ops).map fun o=>kR NF dr o.k)&&ex.all fun p=> !(Nat.beq (((oX none ops).map fun o=>kR NF dr o.k).getD p.1 7) 7)))&&jL N [] false [] ops&&Wd ((oX none ops).map fun o=>kR NF dr o.k) before ex&&ex.all (Yu (oX none ops))
 |.seq a b=>zF NF N rd a&&zF NF N rd b
 |.cond c a b=>Mu N c&&zF NF N rd a&&zF NF N rd b
 |.condJ _ c a b=>Mu N c&&zF NF N rd a&&zF NF N rd b
 |.condL c a b=>Mu N c&&zF NF N rd a&&zF NF N rd b
 |.block _ c=>zF NF N rd c
 |.loop _ _ c=>zF NF N rd c
 |.loopU _ _ c=>zF NF N rd c
 |.rangeF N' _ f _ _ _=>Nat.beq N' N&&Mu N f
 |_=>true
def okL (NF:FuncId->Bool) (N:Nat) (ps:aA Nat) (a b:PC):Bool:=ps.all (fun p=>Nat.blt p N)&&zF NF N true a&&zF NF N true b
def pD:∀{ops} {g},sL ops=true->oX g ops=[]
 |.nil,g,_=>rfl
 |.lax _ _ r,g,h=>pD (ops:=r) h
 |.own _ _ _ _ r,g,h=>pD (ops:=r) h
 |.ownc _ _ _ _ _ r,g,h=>pD (ops:=r) h
 |.laxc _ _ _ r,g,h=>pD (ops:=r) h
 |.fz _ _ r,g,h=>pD (ops:=r) h
 |.laxm _ _ r,g,h=>pD (ops:=r) h
 |.gc _ r,g,h=>pD (ops:=r) h
 |.tre _ _ _ r,g,h=>pD (ops:=r) h
 |.up _ r,g,h=>pD (ops:=r) h
section
variable {T:jW} {O:zE} {X:NX}
def Res (T:jW) (N lim:Nat) (rd:Bool) (c:IC) (C:Cx) (n:Nat) (h:aJ) (t:aA AV) (s:Hp) (K:Ex->eQ->aJ->Nat->aB R) (r:R):Prop:=
 ∃x e' h' n' C' a s',K x e' h' n'=some r/\dQ C' e' a/\cM C' n' h' lim s'/\a.length=N/\n<=n'/\Fr C h s C' h' s'/\∃D,∀d,D<=d->exec T d lim rd c {t:=t,s:=s}=some (x,{t:=a,s:=s'})
variable {N:Nat} {rd:Bool}
def Tr.nil_inv {NF} {dr} {σ τ} {fs} (h:Tr T NF dr lim [] σ fs τ):τ=σ:=by cases h;rfl
def Qb {C} {x} {a} (h:RV C x a) (hf:cZ1 x=true):Sim.idOf a=[]:=by
 cases h with
 |cl h=>cases h<;>first|rfl|simp[cZ1]at hf
 |_=>simp[cZ1]at hf
def eX1 {C} {x} {a} {k i} (h:RV C x a) (hk:yA x=some k) (hi:i∈Sim.idOf a):∃v e l,C k=some (.atp i v e l):=by
 cases h with
 |cl h=>cases h<;>simp[yA]at hk
 |ownn h hy=>subst hy;simp[Sim.idOf]at hi
 |ref h=>simp[yA]at hk;simp[Sim.idOf]at hi;subst hk;subst hi;exact⟨_,_,_,h⟩
 |own h=>simp[yA]at hk;simp[Sim.idOf]at hi;subst hk;subst hi;exact⟨_,_,_,h⟩
 |el h=>simp[yA]at hk;simp[Sim.idOf]at hi;subst hk;subst hi;exact⟨_,_,_,h⟩
 |map h=>simp[yA]at hk;simp[Sim.idOf]at hi;subst hk;subst hi;exact⟨_,_,_,h⟩
 |_=>simp[yA]at hk
def eY1 {C} {e} {t} {n lim} {h} {s} (he:dQ C e t) (o:cM C n h lim s) {p}
  (hp:(match eH e p.2.2.1,eH e p.2.2.2 with|some x,some y=>Sy h x y|_,_=>false)=true):Pn {t:=t,s:=s} p:=by
 split at hp;rename_i x y r hy;obtain⟨a,q,g⟩:=he _ _ r;obtain⟨b,hb,j⟩:=he _ _ hy;refine⟨a,b,q,hb,fun i hi d=>?_⟩;unfold Sy at hp;simp only[zN2]at hp;rcases hp with(hp|hp)|hp;rw[Qb g hp]at hi;simp at hi;rw[Qb j hp]at d;simp at d;split at hp;rename_i k k' h1 h2;simp only[yS2,zK2,aW,aA3]at hp;obtain⟨⟨f,hk⟩,c⟩:=hp;obtain⟨v,m,l,c1⟩:=eX1 g h1 hi;obtain⟨v',e2,l',c2⟩:=eX1 j h2 d;exact f (o.hr.inj k k' i v m l v' e2 l' (fun h=>by rw[h]at hk;cases hk) (fun h=>by rw[h]at c;cases c) c1 c2);cases hp;cases hp
theorem Bm {h} {k} (hb:Kt h k=true):∃cs,aG h k=some (.box cs):=by
 unfold Kt at hb;split at hb
 grind
 cases hb
def kZ1 {a b:IC} {K:Ex->eQ->aJ->Nat->aB R} {r:R} {v:PC}
  (y:Res T N lim rd a C n h t s (fun x e h n=>match x with|.normal=>iL O X v e h n K|.exit i=>K (.exit i) e h n|.ret=>K .ret e h n) r)
  (hb:∀C n h e t s,iL O X v e h n K=some r->dQ C e t->cM C n h lim s->t.length=N->Res T N lim rd b C n h t s K r):
  Res T N lim rd (.seq a b) C n h t s K r:=by
 obtain⟨x,f,h1,p,C1,u,q,g,j,k,l,w,m,D,o⟩:=y;cases x with
 |normal=>
  obtain⟨E,e2,h2,z,C2,B,A,q1,q2,q3,q4,q5,q6,D2,q7⟩:=hb C1 p h1 f u q g j k l;refine⟨E,e2,h2,z,C2,B,A,q1,q2,q3,q4,by omega,m.trans q6,D+D2+1,fun d hd=>?_⟩;obtain⟨d,rfl⟩:∃c,d=c+1:=⟨d-1,by omega⟩
  simp only[exec,o d (by omega)];exact q7 d (by omega)
 |exit i=>
  refine⟨.exit i,f,h1,p,C1,u,q,g,j,k,l,w,m,D+1,fun d hd=>?_⟩;obtain⟨d,rfl⟩:∃c,d=c+1:=⟨d-1,by omega⟩
  simp only[exec,o d (by omega)]
 |ret=>
  refine⟨.ret,f,h1,p,C1,u,q,g,j,k,l,w,m,D+1,fun d hd=>?_⟩;obtain⟨d,rfl⟩:∃c,d=c+1:=⟨d-1,by omega⟩
  simp only[exec,o d (by omega)]
def Gj {c:IX} {a b:IC} {K:Ex->eQ->aJ->Nat->aB R} {r:R} {v:Bool} (hc:c.ev t=some (.v (.bool v)))
  (g:Res T N lim rd (if v then a else b) C n h t s K r):Res T N lim rd (.cond c a b) C n h t s K r:=by
 obtain⟨x,f,h1,q,C1,w,u,i,j,k,l,m,o,D,p⟩:=g;refine⟨x,f,h1,q,C1,w,u,i,j,k,l,m,o,D+1,fun d hd=>?_⟩;obtain⟨d,rfl⟩:∃e,d=e+1:=⟨d-1,by omega⟩
 simp only[exec,hc];exact p d (by omega)
theorem Lk {C} {e} {t} {c} {vs} (he:dQ C e t) (f:Mu N c=true) (a:evs e [c]=some vs) {v} (hv:vs=[.v (.bool v)]):(eX c).ev t=some (.v (.bool v)):=by
 obtain⟨ys,h1,h2⟩:=kU he (xs:=[c]) (by simpa using f) a;subst hv;obtain⟨y,_,rfl,b,d⟩:=h2.inv_cons;rw[d.inv_nil,gT b]at h1;simp only[bQ3,cX3,Sim.evs]at h1;split at h1
 grind
 cases h1
def Qc {c} {pc} {keep kx} {n} {h0} (hd:∀k,aG h0 k≠none->k<n)
  (hb:∀{R'} (K':Ex->eQ->aJ->Nat->aB R') (r':R') C n h e t s,iL O X pc e h n K'=some r'->dQ C e t->cM C n h lim s->t.length=N->Res T N lim rd c C n h t s K' r'):
  ∀k st C t s x st',
   aQ (fun s:Mt=>iL O X pc s.e s.h n fun x e' h' _=>oW (lk x keep kx) h0 n e' h' fun s'=>some (match x with|.normal=>(.inl s':Mt⊕(Ex×Mt))|x=>.inr (x,s'))) k st=some (x,st')->
   dQ C st.e t->cM C n st.h lim s->t.length=N->(∀k,aG h0 k=none↔aG st.h k=none)->
   ∃C' j s',dQ C' st'.e j/\cM C' n st'.h lim s'/\j.length=N/\Fr C st.h s C' st'.h s'/\∃D,∀d,D<=d->exec T d lim rd (.loop c) {t:=t,s:=s}=some (x,{t:=j,s:=s'})
 |0,st,C,t,s,x,st',h,_,_,_,_=>by simp[aQ]at h
 |k+1,st,C,t,s,x,st',h,he,hM,hN,hkeys=>by
  simp only[aQ,yR2]at h
  obtain⟨q,y,h⟩:=h
  have b:cM C n st.h lim {h:=.mark::s.h,n:=s.n}:=⟨⟨hM.hr.ob,hM.hr.inj,hM.hr.zr,hM.hr.wn,hM.hr.wb,hM.hr.wz⟩,hM.dom,hM.wf,hM.lim⟩
  obtain⟨G,H,h1,K,C1,v,L,A,B,E,o,J,F,D,p⟩:=hb _ q C n st.h st.e t _ y he b hN
  have w:∀k,aG st.h k≠none->k<n:=fun k hk=>hd k (fun z=>hk ((hkeys k).1 z))
  obtain⟨g,w1,w2,w3,w4,w5⟩:=qU hd E B A
  have l:∀k,aG st.h k=none↔aG g.h k=none:=fun k=>(hkeys k).symm.trans (w5 k)
  have m:=Fr.canon b F w4 l
  obtain⟨r,u⟩:=cM.pop hM w3 m l
  cases G with
  |normal=>
   simp only[yZ2]at w1
   subst w1
   simp only at h
   obtain⟨C',j,s',p1,p2,p3,p4,D2,p5⟩:=Qc hd hb k g _ v _ x st' h w2 r o w5
   refine⟨C',j,s',p1,p2,p3,u.trans p4,D+D2+1,fun d f=>?_⟩
   obtain⟨d,rfl⟩:∃a,d=a+1:=⟨d-1,by omega⟩
   rw[exec]
   simp only[p d (by omega)]
   exact p5 d (by omega)
  |exit i=>
   simp only[yZ2]at w1
   subst w1
   simp only[yZ2,zU2]at h
   obtain⟨rfl,rfl⟩:=h
   refine⟨_,v,_,w2,r,o,u,D+1,fun d f=>?_⟩
   obtain⟨d,rfl⟩:∃a,d=a+1:=⟨d-1,by omega⟩
   rw[exec]
   simp only[p d (by omega)]
  |ret=>
   simp only[yZ2]at w1
   subst w1
   simp only[yZ2,zU2]at h
   obtain⟨rfl,rfl⟩:=h
   refine⟨_,v,_,w2,r,o,u,D+1,fun d f=>?_⟩
   obtain⟨d,rfl⟩:∃a,d=a+1:=⟨d-1,by omega⟩
   rw[exec]
   simp only[p d (by omega)]
def Jk {c} {pc} {keep} {n} {h0} (hd:∀k,aG h0 k≠none->k<n)
  (hb:∀{R'} (K':Ex->eQ->aJ->Nat->aB R') (r':R') C n h e t s,iL O X pc e h n K'=some r'->dQ C e t->cM C n h lim s->t.length=N->Res T N lim rd c C n h t s K' r'):
  ∀(k:Nat) (st:Mt) (C:Cx) (t:aA AV) (s:Hp) (K:Ex->Mt->aB R) (r:R),
   Fg (fun e h K=>iL O X pc e h n fun x e h _=>K x e h) (fun e' h' K=>oW keep h0 n e' h' K) k st K=some r->
   dQ C st.e t->cM C n st.h lim s->t.length=N->(∀k,aG h0 k=none↔aG st.h k=none)->
   ∃x st' C' j s',K x st'=some r/\dQ C' st'.e j/\cM C' n st'.h lim s'/\j.length=N/\Fr C st.h s C' st'.h s'/\∃D,∀d,D<=d->exec T d lim rd (.loop c) {t:=t,s:=s}=some (x,{t:=j,s:=s'})
 |0,st,C,t,s,K,r,h,_,_,_,_=>by simp[Fg]at h
 |k+1,st,C,t,s,K,r,hq,he,hM,hN,hkeys=>by
  simp only[Fg]at hq
  have f:cM C n st.h lim {h:=.mark::s.h,n:=s.n}:=⟨⟨hM.hr.ob,hM.hr.inj,hM.hr.zr,hM.hr.wn,hM.hr.wb,hM.hr.wz⟩,hM.dom,hM.wf,hM.lim⟩
  obtain⟨F,G,h1,J,C1,v,L,z,A,B,o,H,E,D,p⟩:=hb _ r C n st.h st.e t _ hq he f hN
  have w:∀k,aG st.h k≠none->k<n:=fun k hk=>hd k (fun y=>hk ((hkeys k).1 y))
  obtain⟨a,w1,w2,w3,w4,w5⟩:=qU hd B A z
  have l:∀k,aG st.h k=none↔aG a.h k=none:=fun k=>(hkeys k).symm.trans (w5 k)
  have m:=Fr.canon f E w4 l
  obtain⟨q,u⟩:=cM.pop hM w3 m l
  cases F with
  |normal=>
   obtain⟨x,st',C',j,s',p0,p1,p2,p3,p4,D2,p5⟩:=Jk hd hb k a _ v _ K r w1 w2 q o w5
   refine⟨x,st',C',j,s',p0,p1,p2,p3,u.trans p4,D+D2+1,fun d g=>?_⟩
   obtain⟨d,rfl⟩:∃b,d=b+1:=⟨d-1,by omega⟩
   rw[exec]
   simp only[p d (by omega)]
   exact p5 d (by omega)
  |exit i=>
   refine⟨.exit i,a,_,v,_,w1,w2,q,o,u,D+1,fun d g=>?_⟩
   obtain⟨d,rfl⟩:∃b,d=b+1:=⟨d-1,by omega⟩
   rw[exec]
   simp only[p d (by omega)]
  |ret=>
   refine⟨.ret,a,_,v,_,w1,w2,q,o,u,D+1,fun d g=>?_⟩
   obtain⟨d,rfl⟩:∃b,d=b+1:=⟨d-1,by omega⟩
   rw[exec]
   simp only[p d (by omega)]
def Bx:aJ->Nat->aJ
 |[],_=>[]
 |(j,o)::r,k=>if j=k then Bx r k else(j,o)::Bx r k
def Qd:∀(h:aJ) (k:Nat) (K:aJ->aB R),Oz h k K=K (Bx h k)
 |[],_,_=>rfl
 |(j,o)::r,k,K=>by
  simp only[Oz,Bx,aW]
  by_cases e:j=k<;>simp[e,Qd r k]
def qV:∀h k j,aG (Bx h k) j=if j=k then none else aG h j
 |[],k,j=>by simp[Bx,aG]
 |(i,o)::r,k,j=>by
  have ih:=qV r k j
  simp only[Bx]
  by_cases e:i=k
  subst e
  rw[yY2 rfl,ih]
  by_cases e2:j=i
  simp[e2]
  simp[e2,aG,Ne.symm e2]
  rw[zB2 e]
  simp only[aG]
  by_cases e2:i=j
  subst e2;simp[e]
  simp only[zB2 e2,ih]
def Gk {e}:∀{is:aA Nat} {K:eQ->aB R} {r:R},Vr e is K=some r->∃e',K e'=some r/\∀i v,eH e' i=some v->eH e i=some v
 |[],K,r,h=>⟨[],h,fun i v h=>by simp[eH]at h⟩
 |i::is,K,r,h=>by
  unfold Vr at h
  rw[iO,yR2]at h
  obtain⟨v,hv,h⟩:=h
  obtain⟨e',h1,h2⟩:=Gk h
  refine⟨_,h1,fun j w hw=>?_⟩
  simp only[eH]at hw
  split at hw
  rename_i a;subst a;cases hw;exact hv
  exact h2 j w hw
def Cm {C} {n} {h} {lim} {s} (d:cM C n h lim s) {k id ver e len N} {e0} {ps} {a b} {busy} {fin} (hg:aG h k=some (.loop N e0 ps a b busy fin)) (c:C k=some (.atp id ver e len)):
  lim<=id/\∃st pend tmps,Sim.look s.h id=some (.loop st pend tmps ps (mC a) (mC b))/\tmps.length=N/\dQ C e0 tmps/\StR busy fin st pend:=by
 obtain⟨pl,h1,h2⟩:=d.hr.ob k _ hg;rw[c]at h1;cases h1;exact⟨h2.1,h2.2.2⟩
def gE (H:∀f xs v,O f xs=some v->rX T f xs v) (F:NOK T X):∀(c:PC) {R:Type} (K:Ex->eQ->aJ->Nat->aB R) (r:R) (C:Cx) (n:Nat) (h:aJ) (e:eQ) (t:aA AV) (s:Hp),iL O X c e h n K=some r->dQ C e t->cM C n h lim s->t.length=N->
  zF X.is N rd c=true->Res T N lim rd (mC c) C n h t s K r
 |.skip,R,K,r,C,n,h,e,t,s,hk,he,j,w,u=>⟨.normal,e,h,n,C,t,s,hk,he,j,w,yX2 _,.refl _ _ _,1,fun d hd=>by
   obtain⟨d,rfl⟩:∃L,d=L+1:=⟨d-1,by omega⟩
   simp only[mC,exec]⟩
 |.exit i,R,K,r,C,n,h,e,t,s,hk,he,j,w,u=>⟨.exit i,e,h,n,C,t,s,hk,he,j,w,yX2 _,.refl _ _ _,1,fun d hd=>by
   obtain⟨d,rfl⟩:∃L,d=L+1:=⟨d-1,by omega⟩
   simp only[mC,exec]⟩
 |.ret,R,K,r,C,n,h,e,t,s,hk,he,j,w,u=>⟨.ret,e,h,n,C,t,s,hk,he,j,w,yX2 _,.refl _ _ _,1,fun d hd=>by
   obtain⟨d,rfl⟩:∃L,d=L+1:=⟨d-1,by omega⟩
   simp only[mC,exec]⟩
 |.reg ops,R,K,r,C,n,h,e,t,s,hk,he,j,w,u=>by
  obtain⟨e',h',n',C',t',s',fs,q1,q2,q3,q4,q5,q6,q7,_⟩:=cX H F (.inl rfl) ops [] [] false none C n h e t s _ r hk he j w u trivial (fun _ _ e=>by cases e)
  obtain⟨D,hD⟩:=q2.run rfl
  refine⟨.normal,e',h',n',C',t',s',q1,q3,q4,q5,q6,q7,D+1,fun d hd=>?_⟩
  obtain⟨d,rfl⟩:∃L,d=L+1:=⟨d-1,by omega⟩
  simp only[mC,exec,hD d (by omega),zW2]
 |.regD dr ops before,R,K,r,C,n,h,e,t,s,hk,he,j,w,u=>by
  simp only[zF,yS2,zN2,aW,zD2,bY3]at u
  have U:dr=0\/dr=3\/dr=4\/5<=dr:=by rcases u.1.1 with(h|h)|h<;>simp[h]
  obtain⟨e',h',n',C',t',s',fs,q1,q2,q3,q4,q5,q6,q7,_⟩:=cX H F U ops [] [] false none C n h e t s _ r hk he j w u.1.2 trivial (fun _ _ e=>by cases e)
  obtain⟨D,hD⟩:=q2.draw (by rcases u.1.1 with(h|h)|h<;>omega) u.2 (fun h5=>by
   rcases u.1.1 with(h|h)|h
   .omega
   .omega
   .exact h.2)
  refine⟨.normal,e',h',n',C',t',s',q1,q3,q4,q5,q6,q7,D+1,fun d hd=>?_⟩
  obtain⟨d,rfl⟩:∃L,d=L+1:=⟨d-1,by omega⟩
  obtain⟨gs,g1,g2⟩:=hD d (by omega)
  simp only[mC,exec,g1,g2,zT2]
 |.dead _,R,K,r,C,n,h,e,t,s,hk,he,j,w,u=>nomatch hk
 |.regX dr ops before ex,R,K,r,C,n,h,e,t,s,hk,he,j,w,u=>by
  simp only[zF,yS2,zN2,aW,zD2,bY3]at u
  obtain⟨⟨⟨U,d7⟩,b5⟩,d5⟩:=u
  unfold iL at hk
  have b7:dr=0\/dr=3\/dr=4\/5<=dr:=by rcases U with⟨h|h,_⟩|⟨⟨h,_⟩,_⟩<;>omega
  obtain⟨e',h',n',C',t',s',fs,q1,q2,q3,q4,q5,q6,q7,_⟩:=cX H F b7 ops [] [] false none C n h e t s _ r hk he j w d7 trivial (fun _ _ e=>by cases e)
  cases hb:exB h e' h' ex with
  |false=>rw[hb]at q1;cases q1
  |true=>
   rw[hb]at q1
   obtain⟨D,hD⟩:=q2.drawX (by rcases U with⟨h|h,_⟩|⟨⟨h,_⟩,_⟩<;>omega) b5 d5 (fun p hp=>by
    have hb:=yW2.1 hb p hp
    cases hm:Nat.beq p.2.2.1 999999 with
    |true=>
     rw[hm,zE2]at hb
     rw[yY2 (zM2 hm)]
     have h5:5<=dr/\((oX none ops).map fun o=>kR X.is dr o.k)[p.1]? ≠some 7:=by
      rcases U with⟨_,h⟩|⟨⟨h,_⟩,h7⟩
      .have:=yW2.1 h p hp
       rw[zM2 hm]at this;simp at this
      .refine ⟨by omega,fun hc=>?_⟩
       have:=yW2.1 h7 p hp;rw[List.getD_eq_getElem?_getD,hc]at this;simp at this
     refine⟨h5,?_⟩;split at hb
     .rename_i k o hk
      simp only[yS2]at hb;obtain⟨z,S,rz⟩:=q3 _ _ hk;obtain⟨id,ver,A,len,hC,rfl⟩:=kH rz;refine⟨_,S,fun x hx=>?_⟩;simp only[Sim.idOf,zF2,cS3,or_false]at hx;subst hx;obtain⟨cs0,b6⟩:=Bm hb.1;obtain⟨d9,d3⟩:=Bm hb.2;obtain⟨o',J,k2⟩:=q7.kd k _ b6;rw[d3]at J;cases J;have:=(k2 rfl).2;rw[hC]at this;exact(j.hr.lt (by rw[b6];simp) this.symm).2
     .cases hb
    |false=>
     rw[hm,zP2]at hb;rw[zB2 (fun h=>by rw[h]at hm;cases hm)];exact eY1 q3 q4 hb) (fun h5=>by
    rcases U with⟨h|h,_⟩|⟨⟨_,h⟩,_⟩
    .omega
    .omega
    .exact h)
   refine⟨.normal,e',h',n',C',t',s',q1,q3,q4,q5,q6,q7,D+1,fun d hd=>?_⟩;obtain⟨d,rfl⟩:∃L,d=L+1:=⟨d-1,by omega⟩
   obtain⟨gs,g1,g2⟩:=hD d (by omega);simp only[mC,exec,g1,g2,zT2]
 |.seq a b,R,K,r,C,n,h,e,t,s,hk,he,j,w,u=>by
  simp only[zF,yS2]at u;have ha:=gE H F a _ r C n h e t s hk he j w u.1;have hb:=fun C n h e t s hk he j w=>gE H F b K r C n h e t s hk he j w u.2;have Z:=kZ1 ha hb;unfold mC;split
  .rename_i ops
   split
   .rename_i G
    simp only[yS2]at G;obtain⟨e',h',n',C',t',s',fs,q1,q2,q3,q4,q5,q6,q7,_⟩:=cX H F (.inl rfl) ops [] [] false none C n h e t s _ r hk he j w u.1 trivial (fun _ _ e=>by cases e);rw[pD G.1]at q2;have:=q2.nil_inv;cases this;obtain⟨x2,e2,h2,n2,C2,t2,s2,w1,w2,w3,w4,w5,w6,D2,w7⟩:=hb C' n' h' e' t s q1 q3 q4 w;exact⟨x2,e2,h2,n2,C2,t2,s2,w1,w2,w3,w4,by omega,q7.trans w6,D2,w7⟩
   .exact Z
  .split
   .rename_i ops
    split
    .rename_i G
     simp only[yS2]at G;obtain⟨x1,A,h1,n1,C1,t1,s1,J,k2,k3,k4,k5,k6,k7⟩:=ha;cases x1 with
     |normal=>
      obtain⟨e',h',n',C',t',s',fs,q1,q2,q3,q4,q5,q6,q7,_⟩:=cX H F (.inl rfl) ops [] [] false none C1 n1 h1 A t1 s1 _ r J k2 k3 k4 u.2 trivial (fun _ _ e=>by cases e);rw[pD G.1]at q2;have:=q2.nil_inv;cases this;exact⟨.normal,e',h',n',C',t1,s1,q1,q3,q4,k4,by omega,k6.trans q7,k7⟩
     |exit i=>exact⟨.exit i,A,h1,n1,C1,t1,s1,J,k2,k3,k4,k5,k6,k7⟩
     |ret=>exact⟨.ret,A,h1,n1,C1,t1,s1,J,k2,k3,k4,k5,k6,k7⟩
    .exact Z
   .exact Z
 |.cond c a b,R,K,r,C,n,h,e,t,s,hk,he,j,w,u=>by
  simp only[zF,yS2]at u;unfold iL at hk;rw[jN,yR2]at hk;obtain⟨vs,M,hk⟩:=hk;split at hk
  .rename_i v
   rw[rQ]at hk;refine Gj (Lk he u.1.1 M rfl) ?_;cases v with
   |true=>exact gE H F a K r C n h e t s hk he j w u.1.2
   |false=>exact gE H F b K r C n h e t s hk he j w u.2
  .exact aD hk
 |.condJ keep c a b,R,K,r,C,n,h,e,t,s,hk,he,j,w,u=>by
  simp only[zF,yS2]at u;unfold iL at hk;rw[jN,yR2]at hk;obtain⟨vs,M,hk⟩:=hk;split at hk
  .rename_i v
   rw[bJ,yR2]at hk;obtain⟨q,hq,hk⟩:=hk;rw[rQ]at hq;refine Gj (Lk he u.1.1 M rfl) ?_
   have fin:∀{c:IC},Res T N lim rd c C n h t s (fun x e' h' _=>oW keep h n e' h' fun s=>some (x,s)) q->Res T N lim rd c C n h t s K r:=by
    intro c b8;obtain⟨x1,A,h1,n1,C1,t1,s1,J,k2,k3,k4,k5,k6,D,k7⟩:=b8
    obtain⟨W,w1,w2,w3,w4,w5⟩:=qU (fun k hk=>by
     cases S:aG h k with
     |none=>exact absurd S hk
     |some o=>obtain⟨pl,p1,_⟩:=j.hr.ob k o S;exact j.dom k pl p1) k3 k2 J
    cases w1;exact⟨x1,W.e,W.h,n,_,t1,s1,hk,w2,w3,k4,yX2 _,Fr.canon j k6 w4 w5,D,k7⟩
   cases v with
   |true=>exact fin (gE H F a _ q C n h e t s hq he j w u.1.2)
   |false=>exact fin (gE H F b _ q C n h e t s hq he j w u.2)
  .exact aD hk
 |.condL c a b,R,K,r,C,n,h,e,t,s,hk,he,j,w,u=>by
  simp only[zF,yS2]at u;unfold iL at hk;rw[jN,yR2]at hk;obtain⟨vs,M,hk⟩:=hk;split at hk
  .rename_i v
   refine Gj (Lk he u.1.1 M rfl) ?_;cases v with
   |true=>exact gE H F a K r C n h e t s hk he j w u.1.2
   |false=>exact gE H F b K r C n h e t s hk he j w u.2
  .exact aD hk
 |.loopU m keep c,R,K,r,C,n,h,e,t,s,hk,he,j,w,u=>by
  unfold iL at hk
  have hd:∀k,aG h k≠none->k<n:=fun k hk=>by
   cases S:aG h k with
   |none=>exact absurd S hk
   |some o=>obtain⟨pl,p1,_⟩:=j.hr.ob k o S;exact j.dom k pl p1
  obtain⟨W,w1,w2,w3,w4,w5⟩:=qU hd j he hk;obtain⟨x,st',C',t',s',p0,p1,p2,p3,p4,D,p5⟩:=Jk (T:=T) (rd:=rd) (N:=N) (lim:=lim) hd (fun K' r' C n h e t s hk he j w=>gE H F c K' r' C n h e t s hk he j w u) m W _ t s _ r w1 w2 w3 w w5;exact⟨x,st'.e,st'.h,n,C',t',s',p0,p1,p2,p3,yX2 _,(Fr.canon j (.refl _ _ _) w4 w5).trans p4,D,p5⟩
 |.rangeF N' keep f ps a b,R,K,r,C,n,h,e,t,s,hk,he,j,w,u=>by
  simp only[zF,yS2,zK2,aW,zD2]at u;obtain⟨rfl,u⟩:=u;unfold iL at hk;rw[jN,yR2]at hk;obtain⟨vs,M,hk⟩:=hk;obtain⟨ys,h1,h2⟩:=kU he (xs:=[f]) (by simpa using u) M;split at hk
  .rename_i g first cap
   obtain⟨y,_,rfl,h3,h4⟩:=h2.inv_cons;rw[h4.inv_nil]at h1;obtain⟨a',b',rfl,h5,h6⟩:=sM h3
   have hf:(eX f).ev t=some (.fn (.func g) a' b'):=by
    simp only[bQ3,cX3,Sim.evs]at h1;split at h1
    .rename_i ha hb;simp only[yZ2,List.cons.injEq]at h1;rw[<-h1.1];exact ha
    .cases h1
   cases hX1:X.is g with
   |false=>rw[hX1]at hk;exact aD hk
   |true=>
   rw[hX1,zE2]at hk;obtain⟨e0,hk,d4⟩:=Gk hk;have b0:=mO j (.atp s.n 0 0 0)
   obtain⟨m1,m2,m3⟩:=qA j (po:=.loop N' e0 ps a b false none) (ao:=.loop .ready none t ps (mC a) (mC b)) (ver:=0) (e:=0) (len:=0)
    ⟨j.lim,by omega,_,_,t,by rw[eK,yY2 rfl],w,fun i v hv=>(he i v (d4 i v hv)).imp fun y hy=>⟨hy.1,hy.2.mono b0⟩,rfl,rfl⟩
   have hx:LR (RV (ext C n (.atp s.n 0 0 0))) (first++[.yld n]++cap) (a'++[.fn (.yield s.n) [] []]++b'):=
    ((h5.mono fun _ _ h=>h.mono b0).append (.cons (.yld (mP C n _)) .nil)).append (h6.mono fun _ _ h=>h.mono b0)
   obtain⟨v,e',h',n',C',y,s',q1,q2,q3,q4,q5,q6,q7⟩:=yL (P:=fun y s'=>∃D,∀d,D<=d->Sim.callF T (exec T d) lim g (a'++[.fn (.yield s.n) [] []]++b') _=some (y,s')) m1 (he.mono b0) hx
    (fun hs C0 m K' r' d2 d8 hr=>by
     obtain⟨v,h',n',C',y,s',w1,w2,w3,w4,w5,w6,w7⟩:=F.run g _ hs m K' r' C0 _ lim _ hX1 hr d8 d2;exact⟨v,h',n',C',y,s',w1,w2,w3,w4,w5,w7⟩) hk
   rw[gH,yR2]at q1;obtain⟨ob,Y,q1⟩:=q1;obtain⟨o',z1,z2⟩:=q6.kd n (.loop N' e0 ps a b false none) (by simp[aG]);rw[Y]at z1;cases z1;split at q1
   .rename_i N2 e2 V a2 b2 fin
    have a0:C' n=some (.atp s.n 0 0 0):=by
     have:=(z2 rfl).2;rw[mP]at this;exact this
    obtain⟨_,st,pend,tmps,g1,g2,g3,g4⟩:=Cm q4 Y a0;rw[Qd]at q1;obtain⟨D,hD⟩:=q7;have e3:n<n':=by omega
    have d0:cM C' n' (Bx h' n) lim {h:=upd s'.h s.n (.loop .exhausted pend tmps V (mC a2) (mC b2)),n:=s'.n}:=by
     have nn:∀{k},aG (Bx h' n) k≠none->aG h' k≠none:=fun{k} hk=>by
      rw[qV]at hk;split at hk
      .exact absurd rfl hk
      .exact hk
     refine⟨⟨fun k o B=>?_,fun k k' id v e l v' e' l' a b c d=>q4.hr.inj k k' id v e l v' e' l' (nn a) (nn b) c d,fun id o S=>?_,fun k id v e l a b=>q4.hr.wn k id v e l (nn a) b,q4.hr.wb,q4.hr.wz⟩,q4.dom,q4.wf.upd _ _,q4.lim⟩
     .rw [qV]at B
      split at B
      .cases B
      .rename_i d6
       obtain⟨pl,p1,p2⟩:=q4.hr.ob k o B
       refine⟨pl,p1,p2.mono (yX2 _) (.refl _) (fun id v e l hp=>?_) (fun o sl u=>⟨u,by
        rw[Sim.look_upd,zB2 (fun A=>?_)];have:=q4.hr.wn n s.n _ _ _ (by rw[Y];simp) a0;rw[<-A.1,u]at this;cases this⟩)⟩
       subst hp;rw[Sim.look_upd];rw[zB2 (fun A=>d6 (q4.hr.inj k n s.n _ _ _ _ _ _ (by rw[B];simp) (by rw[Y];simp) (by rw[<-A.1];exact p1) a0))]
     .obtain ⟨z1,z2,z3,z4⟩:=q4.hr.zr id o S
      refine⟨?_,z2,fun k v e l a b=>z3 k v e l (nn a) b,z4⟩;rw[Sim.look_upd,zB2 (fun A=>z3 n 0 0 0 (by rw[Y];simp) (by rw[A.1];exact a0))];exact z1
    have E:=m2.trans q6
    have b9:Fr C h s C' (Bx h' n) {h:=upd s'.h s.n (.loop .exhausted pend tmps V (mC a2) (mC b2)),n:=s'.n}:=by
     refine⟨E.sk.trans (.upd _ _ _ _) E.n,E.n,fun id b4 hn=>?_,fun id b4 hn=>E.own id b4 ?_,fun k o B=>?_,E.zl,E.zn⟩
     .rw [Sim.look_upd,zB2 (by omega)]
      exact E.keep id b4 hn
     .rcases hn with⟨k,v,e,l,p1,p2⟩|hn
      .refine .inl ⟨k,v,e,l,?_,p2⟩
       rw[qV]at p1;split at p1
       .exact absurd rfl p1
       .exact p1
      .exact .inr hn
     .obtain ⟨o',p1,p2⟩:=E.kd k o B
      refine⟨o',?_,p2⟩;rw[qV,zB2 (fun A=>?_)]
      .exact p1
      .subst A
       rw[uF j (yX2 _)]at B;cases B
    have go:∀x,K x e' (Bx h' n) n'=some r->st≠.busy->(match pend with
       |none=>some (Ex.normal,({t:=t,s:={h:=upd s'.h s.n (.loop .exhausted pend tmps V (mC a2) (mC b2)),n:=s'.n}}:St))
       |some .ret=>some (.ret,{t:=t,s:={h:=upd s'.h s.n (.loop .exhausted pend tmps V (mC a2) (mC b2)),n:=s'.n}})
       |some (.exit id)=>some (.exit id,{t:=t,s:={h:=upd s'.h s.n (.loop .exhausted pend tmps V (mC a2) (mC b2)),n:=s'.n}})
       |_=>none)=some (x,{t:=t,s:={h:=upd s'.h s.n (.loop .exhausted pend tmps V (mC a2) (mC b2)),n:=s'.n}})->
      Res T N' lim rd (mC (.rangeF N' keep f ps a b)) C n h t s K r:=by
     intro x hK b5 hx;refine⟨x,e',Bx h' n,n',C',t,_,hK,fun i v hv=>(q3 i v hv).imp fun z S=>⟨S.1,S.2.1⟩,d0,w,by omega,b9,D+1,fun d hd=>?_⟩;obtain⟨d,rfl⟩:∃L,d=L+1:=⟨d-1,by omega⟩
     simp only[mC,exec,hf,hD d (by omega),g1,Sim.endRound,zG2,aL3];rw[zB2 b5];exact hx
    split at q1
    .obtain ⟨rfl,rfl⟩:=g4
     exact go _ q1 (by simp) rfl
    .obtain ⟨rfl,rfl⟩:=g4
     exact go _ q1 (by simp) rfl
    .obtain ⟨rfl,rfl⟩:=g4
     exact go _ q1 (by simp) rfl
    .exact aD q1
   .exact aD q1
  .exact aD hk
 |.block id c,R,K,r,C,n,h,e,t,s,hk,he,j,w,u=>by
  unfold iL at hk;obtain⟨x1,A,h1,n1,C1,t1,s1,J,k2,k3,k4,k5,k6,D,k7⟩:=gE H F c _ r C n h e t s hk he j w u
  have go:∀(x:Ex),(∀d,D<=d->(match exec T d lim rd (mC c) {t:=t,s:=s}with|some (.exit i,σ)=>if i=id then some (.normal,σ)else some (.exit i,σ)|r=>r)=some (x,{t:=t1,s:=s1}))->K x A h1 n1=some r->Res T N lim rd (mC (.block id c)) C n h t s K r:=by
   intro x hx hK;refine⟨x,A,h1,n1,C1,t1,s1,hK,k2,k3,k4,k5,k6,D+1,fun d hd=>?_⟩;obtain⟨d,rfl⟩:∃L,d=L+1:=⟨d-1,by omega⟩
   rw[mC,exec];exact hx d (by omega)
  cases x1 with
  |normal=>exact go .normal (fun d hd=>by rw[k7 d hd]) J
  |ret=>exact go .ret (fun d hd=>by rw[k7 d hd]) J
  |exit i=>
   simp only[aW]at J;by_cases A:i=id
   .subst A
    simp only[aS3,zE2]at J;exact go .normal (fun d hd=>by rw[k7 d hd];simp) J
   .simp only[zO2 A,zP2]at J
    exact go (.exit i) (fun d hd=>by rw[k7 d hd];simp[A]) J
 |.loop keep kx c,R,K,r,C,n,h,e,t,s,hk,he,j,w,u=>by
  unfold iL at hk
  have hd:∀k,aG h k≠none->k<n:=fun k hk=>by
   cases S:aG h k with
   |none=>exact absurd S hk
   |some o=>obtain⟨pl,p1,_⟩:=j.hr.ob k o S;exact j.dom k pl p1
  obtain⟨W,w1,w2,w3,w4,w5⟩:=qU hd j he hk;rw[bJ,yR2]at w1;obtain⟨⟨x,st'⟩,hq,hK⟩:=w1;obtain⟨C',t',s',p1,p2,p3,p4,D,p5⟩:=Qc (T:=T) (rd:=rd) (N:=N) (lim:=lim) hd (fun K' r' C n h e t s hk he j w=>gE H F c K' r' C n h e t s hk he j w u) cQ W _ t s x st' hq w2 w3 w w5;exact⟨x,st'.e,st'.h,n,C',t',s',hK,p1,p2,p3,yX2 _,(Fr.canon j (.refl _ _ _) w4 w5).trans p4,D,p5⟩
end
end Go.P
namespace Go.P
open Go.Sim (AV AO Hp fQ upd St IC IX Ex gC CK Wf Out doOp jW exec Foot wanted put popMark mapO oB Rn fzC fz1 fz)
open Go.Sim (RV IFn)
variable {C:Cx} {R:Type} {h:aJ} {id k len lim n ver:Nat} {s:Hp} {v x:PV} {xs:aA PV} {y:AV} {ys:aA AV}
structure cE where
 ntmps:Nat
 res:List Sim.RV
 code:PC
 frz:Bool
 deriving Inhabited
noncomputable section
def Qe:aA PV->Nat->(eQ->aB R)->aB R
 |[],_,K=>K []
 |x::xs,i,K=>fV x fun x=>Qe xs (i+1) fun e=>K ((i,x)::e)
def Gl (e:eQ) (h:aJ) (n:Nat):aA Sim.RV->(aA PV->aB R)->aB R
 |[],K=>K []
 |.tmp i::rs,K=>rR e i fun v=>Gl e h n rs fun vs=>K (v::vs)
 |.cellS i::rs,K=>rR e i fun p=>fE .loadS [p] h n fun v _ _=>Gl e h n rs fun vs=>K (v::vs)
 |.cellA i m::rs,K=>rR e i fun p=>fE (.loadA m) [p] h n fun v _ _=>Gl e h n rs fun vs=>K (v::vs)
def Qf (h:aJ):Nat->PV->(PV->aB R)->aB R
 |0,_,_=>none
 |d+1,x,K=>match x with
  |.own k=>hK h k fun ob=>match ob with
   |.lst _ e _ rows=>K (.is e rows)
   |.lz _ e dp rows=>bif Nat.ble dp (d+1)then K (.is e rows)else none
   |.tr t rows hs=>match hs with
    |[]=>match t with|.nd ty e ks=>bif xP (d+1) (.nd ty e ks)then K (.is e rows)else none
    |_=>none
   |_=>none
  |.zs dp e rows=>bif Nat.ble dp (d+2)then K (.is e rows)else none
  |.zt _ e rows=>K (.is e rows)
  |.ref k o=>hK h k fun ob=>match ob with
   |.box cs=>iX o cs fun cs=>vC (Qf h d) cs fun cs=>K (.ip cs)
   |_=>none
  |.v x=>K (.v x)
  |.is e rows=>K (.is e rows)
  |.ip cs=>K (.ip cs)
  |_=>none
def lA1 (h:aJ) (x:PV) (K:PV->aB R):aB R:=match x with
 |.fn f [] cap=>vC (Qf h 4) cap fun c=>K (.fn f [] c)
 |x=>Qf h 4 x K
def lB1 (h:aJ):aA PV->(aA PV->aB R)->aB R
 |[],K=>K []
 |x::xs,K=>lA1 h x fun x=>lB1 h xs fun xs=>K (x::xs)
def lC1 (h:aJ) (x:PV) (K:PV->aB R):aB R:=match x with
 |.agg cs=>lB1 h cs fun cs=>K (.agg cs)
 |x=>lA1 h x K
def lD1 (h:aJ):aA PV->(aA PV->aB R)->aB R
 |[],K=>K []
 |x::xs,K=>lC1 h x fun x=>lD1 h xs fun xs=>K (x::xs)
def rzK (h:aJ) (x:PV) (K:PV->aB R):aB R:=match x with
 |.tup vs=>lD1 h vs fun vs=>K (.tup vs)
 |.map k=>hK h k fun ob=>match ob with
  |.mp es=>K (.im es)
  |_=>none
 |x=>lC1 h x K
def Gm (C:zE) (X:NX) (fn:cE) (xs:aA PV) (K:PV->aB R):aB R:=
 bif Nat.ble xs.length fn.ntmps then Qe xs 0 fun e=>iL C X fn.code e [] 0 fun x e h n=>match x with
  |.exit _=>none
  |_=>Gl e h n fn.res fun vs=>match vs with
   |[v]=>rzK h v K
   |vs=>rzK h (.tup vs) K
 else none
def eZ1 (C:zE) (X:NX) (fn:cE) (xs:aA PV) (h:aJ) (n:Nat) (K:PV->aJ->Nat->aB R):aB R:=
 bif Nat.ble xs.length fn.ntmps then Qe xs 0 fun e=>iL C X fn.code e h n fun x e h n=>match x with
  |.exit _=>none
  |_=>Gl e h n fn.res fun vs=>match vs with
   |[v]=>K v h n
   |vs=>K (.tup vs) h n
 else none
def Hh:eQ->aA Nat->aA PV->(eQ->aB R)->aB R
 |e,[],[],K=>K e
 |e,p::ps,x::xs,K=>iY e [p] fun e=>Hh ((p,x)::e) ps xs K
 |_,_,_,_=>none
def okG (NF:FuncId->Bool) (N:Nat) (ps:aA Nat) (a b:PC):aB Unit:=if okL NF N ps a b=true then some ()else none
def lE1 (C:zE) (X:NX) (k:Nat) (xs:aA PV) (h:aJ) (n:Nat) (K:PV->aJ->Nat->aB R):aB R:=
 hK h k fun ob=>match ob with
 |.loop N e ps a b false none=>bP (okG X.is N ps a b) fun _=>Hh e ps xs fun e=>iL C X a e h n fun x e h n=>match x with
  |.normal=>hK h k fun ob=>match ob with
   |.loop N e' ps a b' false none=>gA h k (.loop N e' ps a b' true none) fun h=>iL C X b e h n fun x _ h n=>hK h k fun ob=>match ob with
    |.loop N e' ps a b' _ _=>match x with
     |.normal=>gA h k (.loop N e' ps a b' false none) fun h=>K (.v (.bool true)) h n
     |.exit i=>gA h k (.loop N e' ps a b' false (some (.exit i))) fun h=>K (.v (.bool false)) h n
     |.ret=>gA h k (.loop N e' ps a b' false (some .ret)) fun h=>K (.v (.bool false)) h n
    |_=>none
   |_=>none
  |_=>none
 |_=>none
abbrev wL:=Nat->aB cE
abbrev Tl:=FuncId->aA PV->aJ->Nat->aB (PV×aJ×Nat)
structure NB where
 nw:FuncId->Bool
 xw:FuncId->Bool:=fun _=>false
 run:Tl:=fun _ _ _ _=>none
def OX (B:zE) (NF:FuncId->Bool) (NW:NB) (P:wL):Nat->zE×NX
 |0=>(fun f xs=>bif NF f then none else B f xs,⟨NF,NW.nw,NW.xw,fun _ _ _ _ _=>none,fun _ _ _ _ _=>none⟩)
 |d+1=>(fun f xs=>bif NF f then none else match P f with
   |some fn=>bif fn.frz then Gm (OX B NF NW P d).1 (OX B NF NW P d).2 fn xs some else(Gm (OX B NF NW P d).1 (OX B NF NW P d).2 fn xs some).bind fun v=>bif zV 4 v then none else some v
   |none=>B f xs,
  ⟨NF,NW.nw,NW.xw,fun f xs h n K=>match P f with
   |some fn=>eZ1 (OX B NF NW P d).1 (OX B NF NW P d).2 fn xs h n K
   |none=>(NW.run f xs h n).bind fun r=>K r.1 r.2.1 r.2.2,fun k xs h n K=>lE1 (OX B NF NW P d).1 (OX B NF NW P d).2 k xs h n K⟩)
def Od (B:zE) (NF:FuncId->Bool) (NW:NB) (P:wL) (d:Nat):zE:=(OX B NF NW P d).1
def Xd (B:zE) (NF:FuncId->Bool) (NW:NB) (P:wL) (d:Nat):NX:=(OX B NF NW P d).2
end
def Tm (n x:Bool) (fn:cE):IFn:={ntmps:=fn.ntmps,res:=fn.res,body:=mC fn.code,pure:= !n,frz:=bif n then x else fn.frz}
section
def Bn:aA PV->Nat->eQ
 |[],_=>[]
 |x::xs,i=>(i,x)::Bn xs (i+1)
def Gn:∀(xs:aA PV) (i:Nat) (K:eQ->aB R),Qe xs i K=K (Bn xs i)
 |[],i,K=>rfl
 |x::xs,i,K=>by simp[Qe,Pc,Bn,Gn xs]
def Aj:∀xs i j v,eH (Bn xs i) j=some v->i<=j/\xs[j-i]? =some v
 |[],i,j,v,h=>by simp[Bn,eH]at h
 |x::xs,i,j,v,h=>by
  simp only[Bn,eH]at h
  split at h
  rename_i e;subst e;cases h;simp
  obtain⟨h1,h2⟩:=Aj xs (i+1) j v h
  refine⟨by omega,?_⟩
  rw[show j-i=(j-(i+1))+1 by omega]
  simpa using h2
variable {e:eQ} {t:List AV}
def Qg {k:gC} {K:PV->aJ->Nat->aB R} {r:R} (hs:Fm C n h s k [y] K r):
  ∃w z,K w h n=some r/\(doOp (Sim.look s.h) 0 0 k [y]).map (·.v)=some z/\RV C w z:=by
 obtain⟨w,z,h1,h2,a⟩:=hs;exact⟨w,z,a,by rw[h1 0 0];rfl,h2⟩
def yQ (b:cM C n h lim s) (he:dQ C e t):∀{g:aA Sim.RV} {K:aA PV->aB R} {r:R},Gl e h n g K=some r->
  ∃vs a,K vs=some r/\mapO (Sim.readRes (Sim.look s.h) t) g=some a/\LR (RV C) vs a
 |[],K,r,hk=>⟨[],[],hk,rfl,.nil⟩
 |.tmp i::g,K,r,hk=>by
  unfold Gl at hk
  rw[iO,yR2]at hk
  obtain⟨v,hv,hk⟩:=hk
  obtain⟨y,h1,h2⟩:=he i v hv
  obtain⟨vs,a,c,d,f⟩:=yQ b he hk
  exact⟨_,y::a,c,by simp[mapO,Sim.readRes,h1,d],.cons h2 f⟩
 |.cellS i::g,K,r,hk=>by
  unfold Gl at hk
  rw[iO,yR2]at hk
  obtain⟨v,hv,hk⟩:=hk
  obtain⟨y,h1,h2⟩:=he i v hv
  obtain⟨w,z,q1,q2,q3⟩:=Qg (Fo b (.cons h2 .nil) hk)
  obtain⟨vs,a,c,d,f⟩:=yQ b he q1
  exact⟨_,z::a,c,by simp only[mapO,Sim.readRes,h1,q2,d],.cons q3 f⟩
 |.cellA i m::g,K,r,hk=>by
  unfold Gl at hk
  rw[iO,yR2]at hk
  obtain⟨v,hv,hk⟩:=hk
  obtain⟨y,h1,h2⟩:=he i v hv
  obtain⟨w,z,q1,q2,q3⟩:=Qg (Fp b (.cons h2 .nil) hk)
  obtain⟨vs,a,c,d,f⟩:=yQ b he q1
  exact⟨_,z::a,c,by simp only[mapO,Sim.readRes,h1,q2,d],.cons q3 f⟩
def lF1 {L} {d id ver e o} {bx} {ty} {esz} {els} {row cs} (a:L id=some (.arr bx ty esz ver els)) (hr:els[e]? =some row) (hc:mapO (oB L 0 d) (row.drop o)=some cs):oB L 0 (d+1) (.ptr id ver e o)=some (.ip cs):=by
 simp[oB,a,hr,hc]
def Ll (l:cM C n h lim s):∀(d:Nat) (x:PV) (y:AV) (K:PV->aB R) (r:R),Qf h d x K=some r->RV C x y->∃H D,K H=some r/\oB (Sim.look s.h) 0 (d+2) y=some D/\RC false H D
 |0,x,y,K,r,hk,_=>by unfold Qf at hk;exact aD hk
 |d+1,x,y,K,r,hk,hv=>by
  unfold Qf at hk
  cases x with
  |own k=>
   simp only[gH,yR2]at hk
   obtain⟨ob,hg,hk⟩:=hk
   cases ob with
   |lst ty e g rows=>
    rcases fA hv with⟨id,ver,G,len,i,rfl⟩|⟨i,rfl⟩
    obtain⟨_,rfl,hlen,els,q,hr,u,_⟩:=lC l hg i
    subst hlen
    exact⟨_,_,hk,We (d:=d+1) (aB3 _) q hr u.1,hr.is⟩
    have:=mE l hg i
    subst this
    exact⟨_,_,hk,rfl,.isn⟩
   |lz ty e dp rows=>
    cases hb:Nat.ble dp (d+1)with
    |false=>simp only[hb,zP2]at hk;exact aD hk
    |true=>
    simp only[hb,zE2]at hk
    have hb:=zH2 hb
    rcases fA hv with⟨id,ver,G,len,i,rfl⟩|⟨i,rfl⟩
    obtain⟨_,_,rfl,hlen,_,els,q,hr⟩:=Bh l hg i
    subst hlen
    obtain⟨z,p,m⟩:=rS1 (n0:=0) (f:=d+2) (fun id o B=>⟨aB3 _,(l.hr.zr id o B).1⟩) (by omega) (aB3 _) q hr
    exact⟨_,_,hk,p,m.is⟩
    have:=Aa l hg i
    subst this
    exact⟨_,_,hk,rfl,.isn⟩
   |tr t rows hs=>
    obtain⟨ty,e,ks⟩:=t
    cases hs with
    |cons a b=>exact aD hk
    |nil=>
    cases hb:xP (d+1) (.nd ty e ks)with
    |false=>simp only[hb,zP2]at hk;exact aD hk
    |true=>
    simp only[hb,zE2]at hk
    rcases fA hv with⟨id,ver,G,len,i,rfl⟩|⟨i,rfl⟩
    obtain⟨A,_,rfl,hlen,_,els,M,q,u,hr⟩:=kZ l hg i
    subst hlen
    obtain⟨z,p,m⟩:=rT1 (n0:=0) (f:=d+1) (aB3 _) A hb q u.1 hr
    exact⟨_,_,hk,p,m.is⟩
    have:=(qB l hg i).1
    subst this
    exact⟨_,_,hk,rfl,.isn⟩
   |_=>exact aD hk
  |zs dp e rows=>
   cases hb:Nat.ble dp (d+2)with
   |false=>simp only[hb,zP2]at hk;exact aD hk
   |true=>
   simp only[hb,zE2]at hk
   have hb:=zH2 hb
   obtain⟨D,p,m⟩:=Iy (L:=Sim.look s.h) (n0:=0) (fun id o B=>⟨aB3 _,(l.hr.zr id o B).1⟩) dp (d+3) (by omega) _ _ (tO hv)
   exact⟨_,_,hk,p,m.weak⟩
  |zt c e rows=>
   obtain⟨D,p,m⟩:=Iy (L:=Sim.look s.h) (n0:=0) (fun id o B=>⟨aB3 _,(l.hr.zr id o B).1⟩) 2 (d+3) (by omega) _ _ (Fj hv).rz
   exact⟨_,_,hk,p,m.weak⟩
  |ref k o=>
   simp only[gH,yR2]at hk
   obtain⟨ob,hg,hk⟩:=hk
   cases ob with
   |box cs=>
    obtain⟨p,m⟩:=dZ _ _ _ _ hk
    obtain⟨id,ver,e,len,i,rfl⟩:=kH hv
    obtain⟨_,ty,esz,row,q,hl⟩:=wB l hg i
    have w:∀(xs:aA PV) (ys:aA AV) (K:aA PV->aB R) (r:R),vC (Qf h d) xs K=some r->LR (RV C) xs ys->
      ∃xs' j,K xs'=some r/\mapO (oB (Sim.look s.h) 0 (d+2)) ys=some j/\LR (RC false) xs' j:=by
     intro xs
     induction xs with
     |nil=>
      intro ys K r hk hl;rw[hl.inv_nil];unfold vC at hk;exact⟨[],[],hk,rfl,.nil⟩
     |cons a as ih=>
      intro ys K r hk hl;obtain⟨y,j,rfl,h1,h2⟩:=hl.inv_cons;unfold vC at hk;obtain⟨a',b',p,m,J⟩:=Ll l d a y _ r hk h1;obtain⟨E,F,q1,q2,q3⟩:=ih j _ r p h2;exact⟨a'::E,b'::F,q1,by simp only[mapO,m,q2],.cons J q3⟩
    obtain⟨xs',j,q1,q2,q3⟩:=w _ _ _ r m (hl.drop o);refine⟨_,.ip j,q1,?_,.ip q3.1 q3.2⟩;exact lF1 q rfl q2
   |_=>exact aD hk
  |v x=>
   rw[gT hv];exact⟨_,_,hk,rfl,.v x⟩
  |is e rows=>
   rcases tM hv with⟨rows',rfl,hr⟩|⟨rfl,rfl⟩
   exact⟨_,_,hk,rfl,hr.is⟩;exact⟨_,_,hk,rfl,.isn⟩
  |ip cs=>
   obtain⟨cs',rfl,hl⟩:=yC hv;exact⟨_,_,hk,rfl,.ip hl.1 hl.2⟩
  |_=>exact aD hk
def Zd {L} {y y'} (h:oB L 0 6 y=some y'):fzC L 0 y=some y':=by
 cases y with
 |sl=>simp only[fzC,Nat.not_lt_zero,aL3];exact h
 |ptr=>simp only[fzC,Nat.not_lt_zero,aL3];exact h
 |map=>simp[oB]at h
 |fn v a b=>simp[oB]at h
 |_=>exact h
def Ze {L} {y y'} (h:fzC L 0 y=some y') (hy:∀cs,y≠.agg cs):fz1 L 0 y=some y':=by
 cases y with
 |agg cs=>exact absurd rfl (hy cs)
 |_=>exact h
def fA1 {L} {y y'} (h:fz1 L 0 y=some y') (hy:∀cs,y≠.tup cs) (a:∀id,y≠.map id):fz L 0 y=some y':=by
 cases y with
 |tup cs=>exact absurd rfl (hy cs)
 |map id=>exact absurd rfl (a id)
 |_=>exact h
def Qh (f:cM C n h lim s) (d:Nat):∀(xs:aA PV) (ys:aA AV) (K:aA PV->aB R) (r:R),vC (Qf h d) xs K=some r->LR (RV C) xs ys->
  ∃xs' b,K xs'=some r/\mapO (oB (Sim.look s.h) 0 (d+2)) ys=some b/\LR (RC false) xs' b
 |[],ys,K,r,hk,hl=>by
  rw[hl.inv_nil]
  unfold vC at hk
  exact⟨[],[],hk,rfl,.nil⟩
 |a::as,ys,K,r,hk,hl=>by
  obtain⟨y,b,rfl,h1,h2⟩:=hl.inv_cons
  unfold vC at hk
  obtain⟨a',b',g,i,j⟩:=Ll f d a y _ r hk h1
  obtain⟨c,e,q1,q2,q3⟩:=Qh f d as b _ r g h2
  exact⟨a'::c,b'::e,q1,by simp only[mapO,i,q2],.cons j q3⟩
def Wr (d:cM C n h lim s) {K:PV->aB R} {r:R} (hk:lA1 h x K=some r) (hv:RV C x y):∃a b,K a=some r/\fzC (Sim.look s.h) 0 y=some b/\RC false a b:=by
 unfold lA1 at hk;split at hk;rename_i f cap;obtain⟨a',b',rfl,h1,h2⟩:=sM hv;rw[h1.inv_nil];obtain⟨xs',c,q1,q2,q3⟩:=Qh d 4 _ _ _ r hk h2;exact⟨.fn f [] xs',.fn (.func f) [] c,q1,by simp only[fzC,q2,zW2],.fn rfl q3.1 (fun j x y h=>by simp at h) q3.2⟩;obtain⟨a,b,h1,h2,e⟩:=Ll d 4 x y K r hk hv;exact⟨a,b,h1,Zd h2,e⟩
def Qi (d:cM C n h lim s):∀{xs:aA PV} {ys:aA AV} {K:aA PV->aB R} {r:R},lB1 h xs K=some r->LR (RV C) xs ys->∃xs' a,K xs'=some r/\mapO (fzC (Sim.look s.h) 0) ys=some a/\LR (RC false) xs' a
 |[],ys,K,r,hk,hl=>by rw[hl.inv_nil];exact⟨[],[],hk,rfl,.nil⟩
 |x::xs,ys,K,r,hk,hl=>by
  obtain⟨y,a,rfl,h1,h2⟩:=hl.inv_cons
  unfold lB1 at hk
  obtain⟨a',b',e,f,g⟩:=Wr d hk h1
  obtain⟨b,c,q1,q2,q3⟩:=Qi d e h2
  exact⟨a'::b,b'::c,q1,by simp only[mapO,f,q2],.cons g q3⟩
def Zf {x} {y} (hv:RV C x y) (a:∀cs,x≠.agg cs) (b:x≠.undef):∀cs,y≠.agg cs:=by
 intro cs hy;subst hy;cases hv with
 |cl h=>cases h;exact a _ rfl
 |undef=>exact b rfl
 |ownn _ hy=>cases hy
 |agg=>exact a _ rfl
 |zs h=>rcases yD h with(⟨_,h,_⟩|⟨_,h⟩)|⟨_,_,_,_,_,_,h,_⟩<;>cases h
 |zp h=>rcases h with⟨_,h,_⟩|⟨_,_,_,_,_,_,_,_,h,_⟩<;>cases h
 |zt h=>rcases h with⟨_,h⟩|⟨_,_,_,_,h,_⟩<;>cases h
def Zg {x} {y} (hv:RV C x y) (a:∀cs,x≠.tup cs) (b:x≠.undef):∀cs,y≠.tup cs:=by
 intro cs hy;subst hy;cases hv with
 |cl h=>cases h;exact a _ rfl
 |undef=>exact b rfl
 |ownn _ hy=>cases hy
 |tup=>exact a _ rfl
 |zs h=>rcases yD h with(⟨_,h,_⟩|⟨_,h⟩)|⟨_,_,_,_,_,_,h,_⟩<;>cases h
 |zp h=>rcases h with⟨_,h,_⟩|⟨_,_,_,_,_,_,_,_,h,_⟩<;>cases h
 |zt h=>rcases h with⟨_,h⟩|⟨_,_,_,_,h,_⟩<;>cases h
def Zh {x} {y} (hv:RV C x y) (b:∀k,x≠.map k) (c:∀es,x≠.zm es) (a:x≠.undef):∀id,y≠.map id:=by
 intro id hy;subst hy;cases hv with
 |cl h=>cases h
 |undef=>exact a rfl
 |ownn _ hy=>cases hy
 |map=>exact b _ rfl
 |zs h=>rcases yD h with(⟨_,h,_⟩|⟨_,h⟩)|⟨_,_,_,_,_,_,h,_⟩<;>cases h
 |zp h=>rcases h with⟨_,h,_⟩|⟨_,_,_,_,_,_,_,_,h,_⟩<;>cases h
 |zt h=>rcases h with⟨_,h⟩|⟨_,_,_,_,h,_⟩<;>cases h
 |zm=>exact c _ rfl
def Ws (d:cM C n h lim s) {K:PV->aB R} {r:R} (hk:lC1 h x K=some r) (hv:RV C x y):∃a b,K a=some r/\fz1 (Sim.look s.h) 0 y=some b/\RC false a b:=by
 unfold lC1 at hk;split at hk;rename_i cs;obtain⟨cs',rfl,hl⟩:=mD hv;obtain⟨xs',c,j,k,f⟩:=Qi d hk hl;exact⟨_,.agg c,j,by simp only[fz1,k,zW2],.agg f.1 f.2⟩;rename_i i;obtain⟨a,b,h1,h2,g⟩:=Wr d hk hv;by_cases e:x=.undef;subst e;exact aD hk;exact⟨a,b,h1,Ze h2 (Zf hv i e),g⟩
def Qj (d:cM C n h lim s):∀{xs:aA PV} {ys:aA AV} {K:aA PV->aB R} {r:R},lD1 h xs K=some r->LR (RV C) xs ys->∃xs' a,K xs'=some r/\mapO (fz1 (Sim.look s.h) 0) ys=some a/\LR (RC false) xs' a
 |[],ys,K,r,hk,hl=>by rw[hl.inv_nil];exact⟨[],[],hk,rfl,.nil⟩
 |x::xs,ys,K,r,hk,hl=>by
  obtain⟨y,a,rfl,h1,h2⟩:=hl.inv_cons
  unfold lD1 at hk
  obtain⟨a',b',e,f,g⟩:=Ws d hk h1
  obtain⟨b,c,q1,q2,q3⟩:=Qj d e h2
  exact⟨a'::b,b'::c,q1,by simp only[mapO,f,q2],.cons g q3⟩
def fB1 (c:cM C n h lim s) {K:PV->aB R} {r:R} (hk:rzK h x K=some r) (hv:RV C x y):∃a b,K a=some r/\fz (Sim.look s.h) 0 y=some b/\RC false a b:=by
 unfold rzK at hk;split at hk;rename_i vs;obtain⟨cs',rfl,hl⟩:=wA hv;obtain⟨xs',f,p,q,g⟩:=Qj c hk hl;exact⟨_,.tup f,p,by simp only[fz,q,zW2],.tup g.1 g.2⟩;rename_i k;rw[gH,yR2]at hk;obtain⟨ob,hg,hk⟩:=hk;cases ob with
 |mp es=>
  obtain⟨id,ver,e,len,j,rfl⟩:=zY hv;obtain⟨_,es',l,he⟩:=Pe c hg j;refine⟨_,.im es',hk,?_,he.er.im⟩;simp only[fz,Nat.not_lt_zero,aL3,l];exact congrArg (Option.map AV.im) (dZ1 he)
 |_=>exact aD hk
 rename_i o m;obtain⟨a,b,h1,h2,i⟩:=Ws c hk hv;by_cases d:x=.undef;subst d;exact aD hk;exact⟨a,b,h1,fA1 h2 (Zg hv o d) (Zh hv m (fun es he=>by subst he;exact aD hk) d),i⟩
variable {T:jW} {O:zE} {X:NX}
theorem Qk (u:∀f xs v,O f xs=some v->rX T f xs v) (z:NOK T X) {fn:cE} (j:zF X.is fn.ntmps false fn.code=true) (hl:LR (RC false) xs ys) (hk:Gm O X fn xs some=some v):
  ∃D,∀d,D<=d->∃w s' y,Sim.body (exec T d) 0 (Tm false false fn) ys {h:=[],n:=0}=some (w,s')/\Sim.fz (Sim.look s'.h) 0 w=some y/\RC false v y:=by
 unfold Gm at hk;cases c:Nat.ble xs.length fn.ntmps with
 |false=>rw[c]at hk;exact aD hk
 |true=>
  rw[c,zE2,Gn]at hk;have c:xs.length<=fn.ntmps:=by simpa[bY3]using c
  have hlen:=hl.1;have s:cM ⟨fun _=>none,fun _=>none,fun _=>none⟩ 0 [] 0 ({h:=[],n:=0}:Hp):=⟨⟨fun k po h=>by simp[aG]at h,fun k k' id v e l v' e' l' a=>absurd rfl a,fun id o h=>(by cases h),fun k id v e l a=>absurd rfl a,fun id sl h=>(by cases h),fun id o h=>(by cases h)⟩,fun k pl h=>(by cases h),trivial,yX2 _⟩
  have he:dQ ⟨fun _=>none,fun _=>none,fun _=>none⟩ (Bn xs 0) (ys++List.replicate (fn.ntmps-ys.length) .undef):=fun i v hv=>by
   obtain⟨_,h2⟩:=Aj xs 0 i v hv;obtain⟨y,p,r⟩:=hl.get (by simpa using h2);exact⟨y,by rw[bS3 (yT2.1 p).1];exact p,.cl r⟩
  obtain⟨x,e',h',n',C',E,s',q1,q2,q3,q4,q5,q6,D,q7⟩:=gE (T:=T) (rd:=false) (lim:=0) (N:=fn.ntmps) u z fn.code _ v _ 0 [] _ (ys++List.replicate (fn.ntmps-ys.length) .undef) _ hk he s (by simp;omega) j
  have fin:(∀i,x≠.exit i)->(Gl e' h' n' fn.res fun vs=>match vs with|[v]=>rzK h' v some|vs=>rzK h' (.tup vs) some)=some v->
    ∃D,∀d,D<=d->∃w s' y,Sim.body (exec T d) 0 (Tm false false fn) ys {h:=[],n:=0}=some (w,s')/\Sim.fz (Sim.look s'.h) 0 w=some y/\RC false v y:=by
   intro A hr;obtain⟨vs,q,r1,r2,r3⟩:=yQ q3 q2 hr
   obtain⟨w,y,p1,p2,p3⟩:∃w y,Sim.results (Sim.look s'.h) E fn.res=some w/\Sim.fz (Sim.look s'.h) 0 w=some y/\RC false v y:=by
    split at r1;rename_i v1;obtain⟨w,F,rfl,B,C⟩:=r3.inv_cons;have:=C.inv_nil;subst this;obtain⟨G,m,z1,z2,z3⟩:=fB1 q3 r1 B;cases z1;exact⟨w,m,by simp only[Sim.results,r2],z2,z3⟩;rename_i g;obtain⟨G,m,z1,z2,z3⟩:=fB1 q3 r1 (y:=.tup q) (.tup r3.1 r3.2);cases z1;refine⟨.tup q,m,?_,z2,z3⟩;simp only[Sim.results,r2];split;rename_i w hw;cases hw;have:=r3.1;rcases vs with _|⟨a,_|⟨b,t⟩⟩<;>simp at this;exact absurd rfl (g a)
    grind
    grind
   refine⟨D,fun d hd=>⟨w,s',y,?_,p2,p3⟩⟩;simp only[Sim.body,Tm,q7 d hd];cases x with
   |exit i=>exact absurd rfl (A i)
   |normal=>simp only[p1,zW2]
   |ret=>simp only[p1,zW2]
  cases x with
  |exit i=>exact aD q1
  |normal=>exact fin (fun i h=>by cases h) q1
  |ret=>exact fin (fun i h=>by cases h) q1
theorem lG1 {k:Bool} (o:∀f xs v,O f xs=some v->rX T f xs v) (p:NOK T X) {fn:cE} (g:zF X.is fn.ntmps false fn.code=true) {K:PV->aJ->Nat->aB R} {r:R}
  (hk:eZ1 O X fn xs h n K=some r) (hl:LR (RV C) xs ys) (m:cM C n h lim s):
  ∃v h' n' C' y s',K v h' n'=some r/\RV C' v y/\cM C' n' h' lim s'/\n<=n'/\Fr C h s C' h' s'/\∃D,∀d,D<=d->Sim.body (exec T d) lim (Tm true k fn) ys s=some (y,s'):=by
 unfold eZ1 at hk;cases c:Nat.ble xs.length fn.ntmps with
 |false=>rw[c]at hk;exact aD hk
 |true=>
  rw[c,zE2,Gn]at hk;have c:xs.length<=fn.ntmps:=by simpa[bY3]using c
  have hlen:=hl.1
  have he:dQ C (Bn xs 0) (ys++List.replicate (fn.ntmps-ys.length) .undef):=fun i v hv=>by
   obtain⟨_,h2⟩:=Aj xs 0 i v hv;obtain⟨y,j,l⟩:=hl.get (by simpa using h2);exact⟨y,by rw[bS3 (yT2.1 j).1];exact j,l⟩
  obtain⟨x,e',h',n',C',A,s',q1,q2,q3,q4,q5,q6,D,q7⟩:=gE (T:=T) (rd:=false) (lim:=lim) (N:=fn.ntmps) o p fn.code _ r _ n h _ (ys++List.replicate (fn.ntmps-ys.length) .undef) s hk he m (by simp;omega) g
  have fin:(∀i,x≠.exit i)->(Gl e' h' n' fn.res fun vs=>match vs with|[v]=>K v h' n'|vs=>K (.tup vs) h' n')=some r->
    ∃v h' n' C' y s',K v h' n'=some r/\RV C' v y/\cM C' n' h' lim s'/\n<=n'/\Fr C h s C' h' s'/\∃D,∀d,D<=d->Sim.body (exec T d) lim (Tm true k fn) ys s=some (y,s'):=by
   intro q hr;obtain⟨vs,B,r1,r2,r3⟩:=yQ q3 q2 hr
   obtain⟨v,w,p1,p2,p3⟩:∃v w,K v h' n'=some r/\Sim.results (Sim.look s'.h) A fn.res=some w/\RV C' v w:=by
    split at r1;rename_i v1;obtain⟨w,E,rfl,u,z⟩:=r3.inv_cons;have:=z.inv_nil;subst this;exact⟨v1,w,r1,by simp only[Sim.results,r2],u⟩;rename_i e;refine⟨.tup vs,.tup B,r1,?_,.tup r3.1 r3.2⟩;simp only[Sim.results,r2];split;rename_i w hw;cases hw;have:=r3.1;rcases vs with _|⟨a,_|⟨b,t⟩⟩<;>simp at this;exact absurd rfl (e a)
    grind
    grind
   refine⟨v,h',n',C',w,s',p1,p3,q3,q5,q6,D,fun d hd=>?_⟩;simp only[Sim.body,Tm,q7 d hd];cases x with
   |exit i=>exact absurd rfl (q i)
   |normal=>simp only[p2,zW2]
   |ret=>simp only[p2,zW2]
  cases x with
  |exit i=>exact aD q1
  |normal=>exact fin (fun i h=>by cases h) q1
  |ret=>exact fin (fun i h=>by cases h) q1
def Ql {C}:∀{ps:aA Nat} {xs:aA PV} {ys:aA AV} {e:eQ} {t:aA AV} {K:eQ->aB R} {r:R},Hh e ps xs K=some r->dQ C e t->LR (RV C) xs ys->ps.all (fun p=>Nat.blt p t.length)=true->
  ∃e',K e'=some r/\dQ C e' (Sim.putAll t ps ys)/\ps.length=ys.length/\(Sim.putAll t ps ys).length=t.length
 |[],[],ys,e,t,K,r,hk,he,hl,_=>by
  rw[hl.inv_nil]
  exact⟨e,by unfold Hh at hk;exact hk,he,rfl,rfl⟩
 |p::ps,x::xs,ys,e,t,K,r,hk,he,hl,hp=>by
  obtain⟨y,h,rfl,h1,h2⟩:=hl.inv_cons
  unfold Hh at hk
  rw[eI]at hk
  simp only[aR3,yS2,bB3]at hp
  have a:dQ C ((p,x)::edel e [p]) (t.set p y):=.put hp.1 h1 (fun i w hw=>by
   obtain⟨z,p1,p2,p3⟩:=he.edel [p] i w hw
   exact⟨z,p1,p2,fun b=>p3 (by simp[b])⟩)
  obtain⟨e2,c,d,f,g⟩:=Ql hk a h2 (by simpa using hp.2)
  exact⟨e2,c,d,by simp[f],by simpa[Sim.putAll]using g⟩
 |[],_::_,_,_,_,_,_,hk,_,_,_=>by unfold Hh at hk;exact aD hk
 |_::_,[],_,_,_,_,_,hk,_,_,_=>by unfold Hh at hk;exact aD hk
def lH1 (hO:∀f xs v,O f xs=some v->rX T f xs v) (hX:NOK T X) {K:PV->aJ->Nat->aB R} {r:R} {e1:Nat}
  (hk:lE1 O X k xs h n K=some r) (hl:LR (RV C) xs ys) (hC:C k=some (.atp id ver e1 len)) (hM:cM C n h lim s):
  ∃v h' n' C' y s',K v h' n'=some r/\RV C' v y/\cM C' n' h' lim s'/\n<=n'/\Fr C h s C' h' s'/\∃D,∀d,D<=d->Sim.round (exec T d) lim id ys s=some (y,s'):=by
 unfold lE1 at hk;rw[gH,yR2]at hk;obtain⟨ob,M,hk⟩:=hk;split at hk
 .rename_i N e ps a b
  rw[bJ,yR2]at hk;obtain⟨_,p,hk⟩:=hk;unfold okG at p;split at p
  .rename_i g
   unfold okL at g;rw[yS2,yS2]at g;have o1:=g.1.1;have o2:=g.1.2;have o3:=g.2;clear p g;obtain⟨L,st,pend,tmps,g1,g2,g3,g4⟩:=Cm hM M hC;obtain⟨rfl,rfl⟩:=g4;subst g2;obtain⟨e2,hk,he,Y,Z⟩:=Ql hk g3 hl o1;obtain⟨x,e',h1,n1,C1,t1,S,q1,q2,q3,q4,q5,q6,D1,q7⟩:=gE (T:=T) (rd:=true) (lim:=lim) (N:=tmps.length) hO hX a _ r _ n h _ _ s hk he hM Z o2;cases x with
   |exit i=>exact aD q1
   |ret=>exact aD q1
   |normal=>
   simp only[gH,yR2]at q1;obtain⟨q,l,q1⟩:=q1
   have place:∀{C1:Cx} {h1:aJ} {S:Hp} {q:cS},Fr C h s C1 h1 S->aG h1 k=some q->gB q=true->C1 k=some (.atp id ver e1 len):=fun{C1 h1 S q} hf hg hb=>by
    obtain⟨o',p1,p2⟩:=hf.kd k _ M;rw[hg]at p1;cases p1;rw[(p2 hb).2,hC]
   split at q1
   .rename_i N2 W F a2 b2
    have A:=place q6 l rfl;obtain⟨_,st,pend,j,w1,w2,w3,w4⟩:=Cm q3 l A;obtain⟨rfl,rfl⟩:=w4;subst w2;have q1:=dB _ _ _ _ _ q1;have w:=(q3.hr.lt (by rw[l];simp) A)
    obtain⟨m1,m2⟩:=rT q3 (po':=.loop j.length W F a2 b2 true none) (ao:=.loop .busy none j F (mC a2) (mC b2)) l A ⟨w.1,w.2,.busy,none,j,by rw[Sim.look_upd,yY2 ⟨rfl,by rw[w1];rfl⟩],rfl,w3,rfl⟩ rfl;obtain⟨x2,e3,h2,n2,C2,t2,U,z1,z2,z3,z4,z5,z6,D2,z7⟩:=gE (T:=T) (rd:=true) (lim:=lim) (N:=tmps.length) hO hX b _ r _ n1 _ _ _ _ q1 q2 m1 q4 o3;simp only[yR2]at z1;obtain⟨b5,m,z1⟩:=z1;have H:=(q6.trans m2).trans z6;split at z1
    .rename_i N3 G u a3 b3 V b4
     have B:=place H m rfl;obtain⟨_,b6,b0,c,v1,v2,v3,v4⟩:=Cm z3 m B;subst v2;have z:=(z3.hr.lt (by rw[m];simp) B)
     have fin:∀(fn:aB Ex) (st:LoopState) (E:aB IC) (bv:Bool),StR false fn st E->(gA h2 k (.loop c.length G u a3 b3 false fn) fun h=>K (.v (.bool bv)) h n2)=some r->
       (∀s',Sim.endRound id U st E=some s'->∀d,D2<=d->(match exec T d lim true (mC b) {t:=t1,s:={h:=upd S.h id (.loop .busy none j F (mC a2) (mC b2)),n:=S.n}}with
        |some (.normal,τ)=>(Sim.endRound id τ.s .ready none).map fun s=>(AV.bool true,s)
        |some (.ret,τ)=>(Sim.endRound id τ.s .done (some .ret)).map fun s=>(AV.bool false,s)
        |some (.exit i,τ)=>(Sim.endRound id τ.s .done (some (.exit i))).map fun s=>(AV.bool false,s)
        |none=>none)=some (AV.bool bv,s'))->
       ∃v h' n' C' y s',K v h' n'=some r/\RV C' v y/\cM C' n' h' lim s'/\n<=n'/\Fr C h s C' h' s'/\∃D,∀d,D<=d->Sim.round (exec T d) lim id ys s=some (y,s'):=by
      intro fn st E bv a0 hk P;have hk:=dB _ _ _ _ _ hk;obtain⟨m3,m4⟩:=rT z3 (po':=.loop c.length G u a3 b3 false fn) (ao:=.loop st E c u (mC a3) (mC b3)) m B ⟨z.1,z.2,st,E,c,by rw[Sim.look_upd,yY2 ⟨rfl,by rw[v1];rfl⟩],rfl,v3,a0⟩ rfl;refine⟨_,_,_,_,.v (.bool bv),_,hk,.cl (.v _),m3,by omega,H.trans m4,D1+D2,fun d hd=>?_⟩;have J:Sim.endRound id U st E=some {h:=upd U.h id (.loop st E c u (mC a3) (mC b3)),n:=U.n}:=by simp only[Sim.endRound,v1]
      simp only[Sim.round,g1];rw[yY2 ⟨L,Y⟩,q7 d (by omega)];simp only[w1];exact P _ J d (by omega)
     cases x2 with
     |normal=>exact fin none .ready none true ⟨rfl,rfl⟩ z1 (fun s' o d hd=>by rw[z7 d hd];simp only[o,zW2])
     |exit i=>exact fin (some (.exit i)) .done (some (.exit i)) false ⟨rfl,rfl⟩ z1 (fun s' o d hd=>by rw[z7 d hd];simp only[o,zW2])
     |ret=>exact fin (some .ret) .done (some .ret) false ⟨rfl,rfl⟩ z1 (fun s' o d hd=>by rw[z7 d hd];simp only[o,zW2])
    .exact aD z1
   .exact aD q1
  .cases p
 .exact aD hk
def Wt {B} {NF} {NW} {P} (d:Nat):(OX B NF NW P d).2.is=NF:=by cases d<;>rfl
def Lm {f} {ifn} {ys} {v} (b:T.memo f ys=none) (h:∃D,∀d,D<=d->∃w s' y,Sim.body (exec T d) 0 ifn ys {h:=[],n:=0}=some (w,s')/\Sim.fz (Sim.look s'.h) 0 w=some y/\RC false v y):
  ∃D,∀d,D<=d->∃y,Sim.runP T (exec T d) f ifn ys=some y/\RC false v y:=by
 obtain⟨D,a⟩:=h;refine⟨D,fun d hd=>?_⟩;obtain⟨w,s',y,c,e,g⟩:=a d hd;exact⟨y,by simp only[Sim.runP,b,c,e],g⟩
def Qm (T:jW) (NF xw:FuncId->Bool) (P:wL) (run:Tl):Prop:=∀(f:FuncId) (xs:aA PV) (h:aJ) (n:Nat) (v:PV) (h':aJ) (n':Nat) (C:Cx) (s:Hp) (lim:Nat) (ys:aA AV),
 NF f=true->P f=none->run f xs h n=some (v,h',n')->LR (RV C) xs ys->cM C n h lim s->
 ∃C' y s',RV C' v y/\cM C' n' h' lim s'/\n<=n'/\Fr C h s C' h' s'/\(∃ifn,T f=some ifn/\ifn.pure=false/\ifn.frz=xw f)/\∃D,∀d,D<=d->Sim.callF T (exec T d) lim f ys s=some (y,s')
def rX1 {B:zE} {NF:FuncId->Bool} {NW:NB} {P:wL} (l:∀f xs v,NF f=false->B f xs=some v->rX T f xs v) (p:Qm T NF NW.xw P NW.run) (m:∀f fn,P f=some fn->T f=some (Tm (NF f) (NW.xw f) fn)/\zF NF fn.ntmps false fn.code=true/\∀ys,T.memo f ys=none):
  ∀d,(∀f xs v,(OX B NF NW P d).1 f xs=some v->rX T f xs v)/\NOK T (OX B NF NW P d).2
 |0=>⟨fun f xs v h=>by
   simp only[OX]at h
   cases hn:NF f with
   |true=>rw[hn]at h;exact aD h
   |false=>rw[hn]at h;exact l f xs v hn h,⟨fun f xs h n K r C s lim ys c hk=>by simp[OX]at hk,fun k xs h n K r C s lim ys id ver e len hk=>by simp[OX]at hk⟩⟩
 |d+1=>by
  obtain⟨g,i⟩:=rX1 l p m d
  refine⟨fun f xs v h=>?_,⟨fun f xs h n K r C s lim ys c hk hl b=>?_,fun k xs h n K r C s lim ys id ver e len hk hl t b=>?_⟩⟩
  simp only[OX]at h
  cases hn:NF f with
  |true=>rw[hn]at h;exact aD h
  |false=>
   rw[hn,zP2]at h
   split at h
   rename_i fn a
   obtain⟨h1,h2,j⟩:=m f fn a
   rw[hn]at h1
   cases hz:fn.frz with
   |true=>
    rw[hz,zE2]at h
    exact⟨Tm false _ fn,h1,rfl,fun _=>by simp[Tm,hz],fun ys hl=>Lm (j ys) (Qk g i (by rw[Wt];exact h2) hl h)⟩
   |false=>
    rw[hz,zP2,yR2]at h
    obtain⟨v',h,hg⟩:=h
    cases hq:zV 4 v' with
    |true=>rw[hq]at hg;exact aD hg
    |false=>
     rw[hq]at hg
     cases hg
     exact⟨Tm false _ fn,h1,rfl,fun q=>(by rw[hq]at q;cases q),fun ys hl=>Lm (j ys) (Qk g i (by rw[Wt];exact h2) hl h)⟩
   exact l f xs v hn h
  simp only[OX]at c hk
  split at hk
  rename_i fn a
  obtain⟨h1,h2,j⟩:=m f fn a
  rw[c]at h1
  obtain⟨v,h',n',C',y,s',p1,p2,p3,p4,p5,D,p6⟩:=lG1 g i (by rw[Wt];exact h2) hk hl b
  refine⟨v,h',n',C',y,s',p1,p2,p3,p4,p5,⟨_,h1,rfl,rfl⟩,D,fun d hd=>?_⟩
  simp only[Sim.callF,h1]
  exact p6 d hd
  rename_i a
  rw[yR2]at hk
  obtain⟨⟨v,h',n'⟩,o,hk⟩:=hk
  obtain⟨C',y,s',p2,p3,p4,p5,p6,p7⟩:=p f xs h n v h' n' C s lim ys c a o hl b
  exact⟨v,h',n',C',y,s',hk,p2,p3,p4,p5,p6,p7⟩
  simp only[OX]at hk
  exact lH1 g i hk hl t b
def rY1 {B} {NF} {NW} {P} (a:∀f xs v,NF f=false->B f xs=some v->rX T f xs v) (b:Qm T NF NW.xw P NW.run) (c:∀f fn,P f=some fn->T f=some (Tm (NF f) (NW.xw f) fn)/\zF NF fn.ntmps false fn.code=true/\∀ys,T.memo f ys=none) (d:Nat) (f:FuncId) (xs:aA PV) (v:PV) (h:Od B NF NW P d f xs=some v):rX T f xs v:=(rX1 a b c d).1 f xs v h
def yE1 {B} {NF} {NW} {P} {f} {fn} (hn:NF f=false) (h:P f=some fn) (a:fn.frz=true) (d:Nat) (xs:aA PV):Od B NF NW P (d+1) f xs=Gm (Od B NF NW P d) (Xd B NF NW P d) fn xs some:=by
 simp only[Od,Xd,OX,h,hn,a,zP2,zE2]
def yF1 {R} {B} {NF} {NW} {P} {f} {fn} (h:P f=some fn) (d:Nat) (xs:aA PV) (a:aJ) (n:Nat) (K:PV->aJ->Nat->aB R):(Xd B NF NW P (d+1)).run f xs a n K=eZ1 (Od B NF NW P d) (Xd B NF NW P d) fn xs a n K:=by
 simp only[Od,Xd,OX,h]
def Ln {R} {B} {NF} {NW} {P} {f} (h:P f=none) (d:Nat) (xs:aA PV) (a:aJ) (n:Nat) (K:PV->aJ->Nat->aB R):(Xd B NF NW P (d+1)).run f xs a n K=(NW.run f xs a n).bind fun r=>K r.1 r.2.1 r.2.2:=by
 simp only[Xd,OX,h]
def Wu {B} {NF} {NW} {P} {f} (hn:NF f=false) (h:P f=none) (d:Nat) (xs:aA PV):Od B NF NW P d f xs=B f xs:=by
 cases d with
 |zero=>simp only[Od,OX,hn,zP2]
 |succ d=>simp only[Od,OX,h,hn,zP2]
end
def qW (cl:Nat->aB (Nat×Nat)):Tl:=fun f xs h n=>match xs,h with
 |[.is e rows],[]=>(cl f).bind fun p=>bif Nat.beq p.2 e&&Nat.ble rows.length 1073741824 then some (.own n,[(n,.lst p.1 e true rows)],n+1)else none
 |_,_=>none
end Go.P
namespace Go.P
open Go.Sim (AV Hp jW exec)
section
variable {T:jW}
def Jl (a b:Tl):Tl:=fun f x h n=>match a f x h n with|some r=>some r|none=>b f x h n
def lI1 {NF xw} {P} {a b} (c:Qm T NF xw P a) (hb:Qm T NF xw P b):Qm T NF xw P (Jl a b):=by
 intro f xs h n v h' n' C s lim ys h1 h2 hk;unfold Jl at hk;split at hk;rename_i r hr;cases hk;exact c f xs h n v h' n' C s lim ys h1 h2 hr;exact hb f xs h n v h' n' C s lim ys h1 h2 hk
end
end Go.P
namespace Go.P
open Go.Sim (Ex gC CK)
variable {A α β γ δ:Type}
def lJ1 {X:aB γ} {Y:aB α} {e:α->γ} {K:γ->aB δ} {F:α->aB β} {enc:β->δ} (h:X=Y.map e) (hk:∀y,K (e y)=(F y).map enc):bP X K=(Y.bind F).map enc:=by
 rw[bJ];subst h;cases Y<;>simp[hk]
def yG1 {b:Bool} {X Y:aB γ} {FX FY:aB β} {enc:β->γ} (a:X=FX.map enc) (hy:Y=FY.map enc):Ms b X Y=(if b then FX else FY).map enc:=by
 rw[rQ];subst a hy;cases b<;>rfl
def xK {S E S' E':Type} {enc:S->S'} {a:E->E'} {B:S'->aB (S'⊕E')} {F:S->aB (S⊕E)} (h:∀s,B (enc s)=(F s).map (Sum.map enc a)):∀n s,aQ B n (enc s)=(aQ F n s).map a
 |0,s=>rfl
 |n+1,s=>by
  simp only[aQ,h]
  cases F s with
  |none=>rfl
  |some r=>
   cases r with
   |inl s'=>exact xK h n s'
   |inr e=>rfl
def bE (l:aA A) (i:Int):aB A:=if 0<=i then l[i.toNat]? else none
def Tn {A} (f:A->aA PV) (l:aA A) (i:Int):mM (l.map f) i=(bE l i).map f:=by
 unfold mM bE;split<;>simp
def i64 (n:Int):PV:=.v (.int .i64 n)
def bv (b:Bool):PV:=.v (.bool b)
end Go.P
namespace Go.P
open Go.Sim (Ex gC CK maxRoom)
variable {A K γ δ:Type}
def bN (n:Int):Int:=IntKind.wrap .i64 n
def eA (f:A->aA PV) (x:A):PV:=.agg (f x)
def cI (n:Int):aA PV:=[i64 n]
def yH1 (b:UInt8):aA PV:=[.v (.int .u8 (b.toNat:Int))]
def cB (b:Bool):aA PV:=[bv b]
def dL {V:Type} (f:K->PV) (g:V->PV) (p:K×V):PV×PV:=(f p.1,g p.2)
section
def yI1 {X:aB γ} {x:γ} {K:γ->aB δ} {r:aB δ} (h:X=some x) (hk:K x=r):bP X K=r:=by
 rw[bJ,h];exact hk
def jD {b x} {X} (h:X=some x):Ms b X (some false)=some (b&&x):=by
 rw[rQ,h];cases b<;>rfl
def jH {b x} {X} (h:X=some x):Ms b (some true) X=some (b||x):=by
 rw[rQ,h];cases b<;>rfl
def oid {A} (x:aB A):x=x.map id:=by simp
end
section
def eP (c:A->aA PV) (l:aA A):some (l.map c).length=some l.length:=by simp
def gU (l:aA A) (i:Int):aB Nat:=sI l.length i
def bR (c:A->aA PV) (l:aA A) (i:Int):sI (l.map c).length i=(gU l i).map id:=by simp[gU]
def fZ (l:aA A) (i:Nat):aB A:=l[i]?
def cV {c} {o} {g} (h:∀x,(c x)[o]? =some (g x)) (l:aA A) (i:Nat):lB (l.map c) i o=(fZ l i).map g:=by
 unfold lB fZ;rw[aJ3];cases l[i]? with
 |none=>rfl
 |some x=>exact h x
def lM {c} {o n m} {g} (h:∀x,(c x).length=m/\((c x).drop o).take n=g x) (hn:o+n<=m) (l:aA A) (i:Nat):lZ (l.map c) i o n=(fZ l i).map g:=by
 unfold lZ fZ;rw[aJ3];cases l[i]? with
 |none=>rfl
 |some x=>simp[(h x).1,(h x).2,hn]
def nV (l:aA A) (i:Nat) (f:A->A):aB (aA A):=(l[i]?).map fun x=>l.set i (f x)
def jE {c} {o} {cs} {f} {m} (h:∀x,(c x).length=m/\Sim.setL (c x) o cs=c (f x)) (hn:o+cs.length<=m) (l:aA A) (i:Nat):oS (l.map c) i o cs=(nV l i f).map (List.map c):=by
 unfold oS nV;rw[aJ3];cases l[i]? with
 |none=>rfl
 |some x=>simp[(h x).1,(h x).2,hn]
def mG (l:aA A) (a b:Int):aB (aA A):=if 0<=a/\a<=b/\b<=l.length then some ((l.drop a.toNat).take (b.toNat-a.toNat))else none
def nW (f:A->aA PV) (l:aA A) (a b:Int):qL (l.map f) a b=(mG l a b).map (List.map f):=by
 unfold qL mG;simp only[bI3];split;simp_all;rfl
def Hi (f:A->aA PV) (l:aA A) (a:Int):qL (l.map f) a (l.map f).length=(mG l a l.length).map (List.map f):=by
 rw[nW,bI3]
def Ak (l:aA A) (h:Int):aB (aA A):=if 0<=h/\h<=l.length then some (l.take h.toNat)else none
def vN (f:A->aA PV) (l:aA A) (h:Int):uE (l.map f) h=(Ak l h).map (List.map f):=by
 unfold uE Ak;simp only[bI3];split;simp[List.map_take];rfl
def mK (g:Bool) (l m:aA A):aB (aA A):=if l.length+m.length<=maxRoom/\(g=true->m.length<=1)then some (l++m)else none
def dA (g:Bool) (f:A->aA PV) (l m:aA A):appRows g (l.map f) (m.map f)=(mK g l m).map (List.map f):=by
 unfold appRows mK;simp only[bI3];split;simp;rfl
def Bo (l c:Int) (z:A):aB (aA A):=if 0<=l/\l<=c/\c<=maxRoom then some (List.replicate l.toNat z)else none
def nX (f:A->aA PV) (l c:Int) (z:A):oT l c (f z)=(Bo l c z).map (List.map f):=by
 unfold oT Bo;split;simp;rfl
def Gp (i:Nat):Oo i i=some ():=yY2 rfl
def Qn (c:Int):aB Unit:=if 0<=c/\c<=maxRoom then some ()else none
theorem uM (c:Int) (z:aA PV):oT 0 c z=(Qn c).map fun _=>[]:=by
 unfold oT Qn;by_cases h:0<=c/\c<=maxRoom
 grind
 grind
def lK1 (l:aA A) (lo:Int) (z:A):aB (aA A):=if 0<=lo/\lo<=l.length then some (l.take lo.toNat++List.replicate (l.length-lo.toNat) z)else none
def Qo (f:A->aA PV) (l:aA A) (lo:Int) (z:A):xY (l.map f) lo (f z)=(lK1 l lo z).map (List.map f):=by
 unfold xY lK1;simp only[bI3];split;simp[List.map_take];rfl
theorem wM (k:IntKind) (l:aA Int) (i:Int) {n} (h:l.length=n):xQ (l.map fun x=>PV.v (.int k x)) i n 1=(bE l i).map (fun x=>PV.v (.int k x)):=by
 subst h;unfold xQ bE;by_cases h0:0<=i
 grind
 grind
def Qp {c:A->aA PV} {e:Nat} (hc:∀x,(c x).length=e):∀(l:aA A) (j:Nat),j<l.length->((l.flatMap c).drop (j*e)).take e=((l[j]?).map c).getD []/\(j+1)*e<=(l.flatMap c).length
 |[],j,h=>by simp at h
 |x::l,0,h=>by
  have:=hc x
  constructor
  simp[<-this]
  simp[<-this]
 |x::l,j+1,h=>by
  have a:=hc x
  obtain⟨h1,h2⟩:=Qp hc l j (by simpa using h)
  constructor
  rw[cL3,show(j+1)*e=(c x).length+j*e by rw[a,aX3];omega,<-bU3,List.drop_left]
  simpa using h1
  rw[cL3,aU3,a]
  rw[show(j+1+1)*e=e+(j+1)*e by rw[aX3 (j+1) 1 e];omega]
  omega
theorem Qq (c:A->aA PV) (l:aA A) (i:Int) {n e} (h:l.length=n) (hc:∀x,(c x).length=e) {cs} (a:cs=l.flatMap c):tK cs i n e=(bE l i).map c:=by
 subst h a;unfold tK bE;by_cases h0:0<=i;by_cases h1:i<l.length;obtain⟨h2,b⟩:=Qp hc l i.toNat (by omega)
 rw[yY2 ⟨h0,h1,b⟩,h2,yY2 h0];rw[zY2 (by omega)];rfl
 grind
 grind
end
def lL1 (k:IntKind) (a b:Int):aB Int:=if b<0 then none else some (k.wrap (a*2^min b.toNat k.bits))
def Tp (k:IntKind) (a b:Int):aB Int:=if b<0 then none else some (a.fdiv (2^min b.toNat k.bits))
def Tq (k:IntKind) (a b:Int):aB Int:=if b=0 then none else some (k.wrap (a.tdiv b))
def fC1 (k:IntKind) (a b:Int):aB Int:=if b=0 then none else some (a.tmod b)
def Qr (k:IntKind) (a b:Int):Int:=k.wrap (BitVec.ofInt k.bits a&&&BitVec.ofInt k.bits b).toNat
def Ts (k:IntKind) (a b:Int):Int:=k.wrap (BitVec.ofInt k.bits a|||BitVec.ofInt k.bits b).toNat
structure Qs {K:Type} [DecidableEq K] (ek:K->PV) (agg:Bool) (ks:List CK):Prop where
 ok:∀a,zU agg ks (ek a)=true
 eq:∀a b,zT agg ks (ek a) (ek b)=some (decide (a=b))
section
variable {V:Type} [DecidableEq K] {ek:K->PV} {agg:Bool} {ks:List CK}
def pQ (k:K):aA (K×V)->Nat->aB (Nat×V)
 |[],_=>none
 |p::r,i=>if k=p.1 then some (i,p.2)else pQ k r (i+1)
def sR (l:aA (K×V)) (k:K) (z:V):V:=match pQ k l 0 with|some p=>p.2|none=>z
def tS (l:aA (K×V)) (k:K) (x:V):aA (K×V):=match pQ k l 0 with|some p=>l.set p.1 (k,x)|none=>l++[(k,x)]
def Al (h:Qs ek agg ks) (ev:V->PV) (k:K):∀l i,xS agg ks (ek k) (l.map (dL ek ev)) i=some ((pQ k l i).map fun p=>(p.1,ev p.2))
 |[],i=>rfl
 |p::r,i=>by
  simp only[bQ3,dL,xS,h.eq,pQ]
  by_cases e:k=p.1
  simp[e]
  simp only[e,bM3,zB2 e]
  exact Al h ev k r (i+1)
def pE (h:Qs ek agg ks) (ev:V->PV) (l:aA (K×V)) (k:K) (z:V):vX agg ks (ev z) (ek k) (l.map (dL ek ev))=some (ev (sR l k z)):=by
 unfold vX sR;rw[h.ok,yY2 rfl,Al h];cases pQ k l 0<;>rfl
def iV (h:Qs ek agg ks) (ev:V->PV) (l:aA (K×V)) (k:K) (x:V):Ey agg ks (ek k) (ev x) (l.map (dL ek ev))=some ((tS l k x).map (dL ek ev)):=by
 unfold Ey tS;rw[h.ok,yY2 rfl,Al h];cases pQ k l 0 with
 |none=>simp[dL]
 |some p=>simp[dL,List.map_set]
end
end Go.P
namespace Go.P
open Go.Sim (Ex gC CK maxRoom)
variable {A α β γ δ:Type} {b:Bool} {j k:Nat}
section
variable {f:A->List PV} {l m:List A} {i:Int}
def rg:mM (l.map f) i=(bE l i).map f:=Tn f l i
def lm:some (l.map f).length=some l.length:=eP f l
def im:sI (l.map f).length i=(gU l i).map id:=bR f l i
def lf {x:γ} {y:β} {enc:β->γ} (h:x=enc y):some x=(some y).map enc:=by subst h;rfl
def bo {X:aB γ} {Y:aB α} {e:α->γ} {K:γ->aB δ} {F:α->aB β} {enc:β->δ} (h:X=Y.map e) (hk:∀y,K (e y)=(F y).map enc:=by intro _;rfl):bP X K=(Y.bind F).map enc:=lJ1 h hk
def boE {X:aB γ} {Y:aB α} {e:α->γ} {K:γ->aB δ} {F:α->aB β} {enc:β->δ} (h:X=Y.map e) (hk:∀y,Y=some y->K (e y)=(F y).map enc):bP X K=(Y.bind F).map enc:=by
 subst h;rw[bJ];cases Y with
 |none=>rfl
 |some y=>exact hk y rfl
def ixE {X Y:aB Nat} {y:Nat} (h:X=Y.map id) (h2:Y=some y):X=some y:=by rw[h,h2];rfl
def ixP {i:Int} {l m:aA A} {g:A->A} (h:gU l i=some j) (hl:nV l k g=some m):gU m i=some j:=by
 unfold nV at hl;cases hx:l[k]? with
 |none=>rw[hx]at hl;cases hl
 |some x=>rw[hx]at hl;cases hl;rw[<-h];unfold gU;rw[bX3]
def bz {X:aB γ} {x:γ} {K:γ->aB δ} {r:aB δ} (h:X=some x) (hk:K x=r:=by rfl):bP X K=r:=yI1 h hk
def io {X Y:aB γ} {FX FY:aB β} {enc:β->γ} (a:X=FX.map enc:=by rfl) (hy:Y=FY.map enc:=by rfl):Ms b X Y=(if b then FX else FY).map enc:=yG1 a hy
def be {X Y:aB γ} {K:γ->aB δ} {F:γ->aB β} {enc:β->δ} (h:X=Y.map id) (hk:∀y,K y=(F y).map enc:=by intro _;rfl):bP X K=(Y.bind F).map enc:=bo (e:=id) h hk
def bl {K:Nat->aB δ} {r:aB δ} (hk:K l.length=r:=by rfl):bP (some (l.map f).length) K=r:=bz lm hk
def iy {X Y:aB γ} {FX FY:aB β} {enc:β->γ} (hy:Y=FY.map enc) (a:X=FX.map enc:=by rfl):Ms b X Y=(if b then FX else FY).map enc:=io a hy
def dX {S E S' E'} (enc:S->S') (a:E->E') {B} {F} (h:∀s,B (enc s)=(F s).map (Sum.map enc a)) (s:S):aQ B cQ (enc s)=(aQ F cQ s).map a:=xK h cQ s
def oi {x:aB A}:x=x.map id:=oid x
end
end Go.P
set_option maxRecDepth 100000
namespace Go.P
open Go.Sim (AV AO Hp IFn IC IX Ex jW exec)
def dG (ty esz k:Nat) (zero:aA Value):IFn:={ntmps:=8,res:=[.tmp 2],pure:=true,frz:=false,body:=(
  .seq (.reg [⟨some 2,.mov,[.c (.v (.slice none 0 0))],none⟩])
   (.seq (.seq (.reg [⟨some 3,.mov,[.t 0],none⟩,⟨some 4,.eqNil false 0,[.t 3,.c (.v (.slice none 0 0))],none⟩])
     (.cond (.t 4) (.seq (.reg [⟨some 2,.mov,[.c (.v (.slice none 0 0))],none⟩]) .ret) .skip))
   (.seq (.reg [⟨some 5,.buildSl ty esz 0 zero [],[],none⟩,⟨some 6,.mov,[.t 0],none⟩,⟨some 7,.append ty esz k zero false,[.t 5,.t 6],none⟩,⟨some 2,.mov,[.t 7],none⟩]) .ret)))}
section
variable {T:jW} (ty esz k:Nat) (zero:List Value) (d:Nat)
def Zi:Sim.body (exec T (d+8)) 0 (dG ty esz k zero) [.v (.slice none 0 0)] {h:=[],n:=0}=some (.v (.slice none 0 0),{h:=[],n:=0}):=rfl
def lM1:∃s,Sim.body (exec T (d+8)) 0 (dG ty esz k zero) [.is esz []] {h:=[],n:=0}=some (.sl esz 0 0 0 0 none,s)/\Sim.look s.h 0=some (.arr false ty esz 0 []):=by
 simp[Sim.body,exec,dG,Sim.runOps,Sim.wanted,Sim.evs,Sim.IX.ev,Sim.step,Sim.doOp,Sim.put,Sim.isNilv,Sim.appRows,Sim.rowsOf,Sim.appendTo,Sim.fillParts,Sim.look,Sim.results,Sim.mapO,Sim.readRes,Sim.Out.apply]
def lN1 (r:aA AV) (a:aA (aA AV)) (h:(r::a).length<=1073741824):∃s,Sim.body (exec T (d+8)) 0 (dG ty esz k zero) [.is esz (r::a)] {h:=[],n:=0}=some (.sl esz 0 1 0 (r::a).length none,s)/\Sim.look s.h 0=some (.arr false ty esz 1 (r::a)):=by
 have b:Sim.maxRoom=1073741824:=rfl;simp only[zZ2]at h;simp[Sim.body,exec,dG,Sim.runOps,Sim.wanted,Sim.evs,Sim.IX.ev,Sim.step,Sim.doOp,Sim.put,Sim.isNilv,Sim.appRows,Sim.rowsOf,Sim.appendTo,Sim.fillParts,Sim.look,Sim.results,Sim.mapO,Sim.readRes,Sim.Out.apply,b,h];rfl
def pF {f} {ty esz k} {zero} (i:T f=some (dG ty esz k zero)) (j:∀ys,T.memo f ys=none) {rows} (hl:rows.length<=1073741824):rX T f [.is esz rows] (.is esz rows):=by
 refine⟨_,i,rfl,fun h=>(by cases h),fun ys hy=>Lm (j ys) ⟨8,fun d hd=>?_⟩⟩;obtain⟨d,rfl⟩:∃g,d=g+8:=⟨d-8,by omega⟩
 obtain⟨y,l,rfl,h1,h2⟩:=hy.inv_cons;rw[h2.inv_nil];rcases tM (C:=⟨fun _=>none,fun _=>none,fun _=>none⟩) (.cl h1)with⟨rows',rfl,hr⟩|⟨rfl,rfl⟩
 cases rows' with
 |nil=>
  have:rows=[]:=aW3 hr.1;subst this;obtain⟨s,a,e2⟩:=lM1 (T:=T) ty esz k zero d;exact⟨_,_,_,a,We (d:=4) (rows:=[]) (aB3 _) e2 .nil (yX2 _),h1⟩
 |cons r rs=>
  obtain⟨s,a,e2⟩:=lN1 (T:=T) ty esz k zero d r rs (by rw[<-hr.1];exact hl);have b:(r::rs).length=rows.length:=hr.1.symm;rw[b]at a;have e:(r::rs).take rows.length=r::rs:=by rw[<-b,bP3]
  have c:=We (n0:=0) (L:=Sim.look s.h) (d:=4) (rows:=rows) (id:=0) (aB3 _) e2 (by rw[e];exact hr) (by omega);rw[e]at c;exact⟨_,_,_,a,c,h1⟩
 exact⟨_,_,_,Zi ty esz k zero d,rfl,.isn⟩
def wN (lim:Nat) (b:Bool) (s:Hp):Sim.body (exec T (d+8)) lim {dG ty esz k zero with pure:=false,frz:=b} [.v (.slice none 0 0)] s=some (.v (.slice none 0 0),s):=rfl
def Qt {lim} {b} {s} (hl:lim<=s.n):Sim.body (exec T (d+8)) lim {dG ty esz k zero with pure:=false,frz:=b} [.is esz []] s=some (.sl esz s.n 0 0 0 none,⟨.ob s.n (.arr false ty esz 0 [])::s.h,s.n+1⟩):=by
 simp[Sim.body,exec,dG,Sim.runOps,Sim.wanted,Sim.evs,Sim.IX.ev,Sim.step,Sim.doOp,Sim.put,Sim.isNilv,Sim.appRows,Sim.rowsOf,Sim.appendTo,Sim.fillParts,Sim.look,Sim.results,Sim.mapO,Sim.readRes,Sim.Out.apply]
def Qu {lim} {b} {s} (hl:lim<=s.n) (r:aA AV) (a:aA (aA AV)) (h:(r::a).length<=1073741824):Sim.body (exec T (d+8)) lim {dG ty esz k zero with pure:=false,frz:=b} [.is esz (r::a)] s=some (.sl esz s.n 1 0 (r::a).length none,⟨.ob s.n (.arr false ty esz 1 (r::a))::s.h,s.n+1⟩):=by
 have c:Sim.maxRoom=1073741824:=rfl;simp only[zZ2]at h;simp[Sim.body,exec,dG,Sim.runOps,Sim.wanted,Sim.evs,Sim.IX.ev,Sim.step,Sim.doOp,Sim.put,Sim.isNilv,Sim.appRows,Sim.rowsOf,Sim.appendTo,Sim.fillParts,Sim.look,Sim.results,Sim.mapO,Sim.readRes,Sim.Out.apply,Sim.upd,c,h,hl]
end
def Zj {T} {NF xw} {P} {cl} (t:∀f p,cl f=some p->dY p.1=false/\Nat.ble 4294967296 p.2=false/\∃k zero,T f=some {dG p.1 p.2 k zero with pure:=false,frz:=xw f}):Qm T NF xw P (qW cl):=by
 intro f xs h n v h' n' C s lim ys _ _ hk hl b;unfold qW at hk;split at hk;rename_i e rows;rw[yR2]at hk;obtain⟨⟨ty,e2⟩,hc,hk⟩:=hk;simp only at hk;by_cases he:(Nat.beq e2 e&&Nat.ble rows.length 1073741824)=true;rw[he,zE2]at hk;cases hk;simp only[yS2,bY3]at he;obtain⟨h1,hn⟩:=he;have:=zM2 h1;subst this;obtain⟨c,hs,k,zero,a⟩:=t f _ hc;simp only at c hs a;have q:zD ty=ty:=by simp[zD,c]
 obtain⟨y,u,rfl,a1,a2⟩:=hl.inv_cons;rw[a2.inv_nil]
 have nilc:rows=[]->y=.v (.slice none 0 0)->∃C' i s',RV C' (.own n) i/\cM C' (n+1) [(n,.lst ty e2 true rows)] lim s'/\n<=n+1/\Fr C [] s C' [(n,.lst ty e2 true rows)] s'/\(∃ifn,T f=some ifn/\ifn.pure=false/\ifn.frz=xw f)/\∃D,∀d,D<=d->Sim.callF T (exec T d) lim f [y] s=some (i,s'):=by
  rintro rfl rfl;obtain⟨j,l⟩:=Kv b (ty:=ty) (e:=e2) (g:=true);have o:oV ty e2 true=.lst ty e2 true []:=by unfold oV;rw[hs];rfl
  rw[o]at j l;refine⟨_,_,s,.ownn (C:=ext C n .nil) (mP C n .nil) rfl,j,by omega,l,⟨_,a,rfl,rfl⟩,8,fun d hd=>?_⟩;obtain⟨d,rfl⟩:∃m,d=m+8:=⟨d-8,by omega⟩
  simp only[Sim.callF,a];exact wN (T:=T) ty e2 k zero d lim (xw f) s
 rcases tM a1 with⟨rows',rfl,hr⟩|⟨hr,hy⟩
 have fin:∀ver,(∀d,Sim.body (exec T (d+8)) lim {dG ty e2 k zero with pure:=false,frz:=xw f} [.is e2 rows'] s=some (.sl e2 s.n ver 0 rows.length none,⟨.ob s.n (.arr false ty e2 ver rows')::s.h,s.n+1⟩))->
   ∃C' i s',RV C' (.own n) i/\cM C' (n+1) [(n,.lst ty e2 true rows)] lim s'/\n<=n+1/\Fr C [] s C' [(n,.lst ty e2 true rows)] s'/\(∃ifn,T f=some ifn/\ifn.pure=false/\ifn.frz=xw f)/\∃D,∀d,D<=d->Sim.callF T (exec T d) lim f [.is e2 rows'] s=some (i,s'):=by
  intro ver hb;obtain⟨j,l,w⟩:=qA b (po:=.lst ty e2 true rows) (ao:=.arr false ty e2 ver rows') (ver:=ver) (e:=e2) (len:=rows.length) ⟨b.lim,by omega,rfl,rfl,rows',by rw[eK,yY2 rfl,q],by rw[aK3 (by rw[hr.1];exact yX2 _)];exact hr,⟨by rw[hr.1];exact yX2 _,.exact (by rw[hr.1];exact yX2 _)⟩,fun h=>by cases h⟩;refine⟨_,_,_,.own (mP C n _),j,by omega,l,⟨_,a,rfl,rfl⟩,8,fun d hd=>?_⟩;obtain⟨d,rfl⟩:∃m,d=m+8:=⟨d-8,by omega⟩
  simp only[Sim.callF,a];exact hb d
 cases rows' with
 |nil=>
  have:rows=[]:=aW3 hr.1;subst this;exact fin 0 fun d=>Qt (T:=T) ty e2 k zero d b.lim
 |cons r rs=>exact fin 1 fun d=>by rw[hr.1];exact Qu (T:=T) ty e2 k zero d b.lim r rs (by rw[<-hr.1];exact hn)
 exact nilc hr hy;simp only[bA3]at he;rw[he]at hk;exact aD hk;cases hk
end Go.P
namespace Go.P
open Go.Sim (AV AO Hp fQ upd IFn IC IX Ex jW exec)
section
variable {T:jW} (ty esz k:Nat) (zero:List Value) (d:Nat)
def fD1 {lim} {b bx} {s} {id ver len ty'} {els} (hl:lim<=s.n) (f:id<s.n) (e:Sim.look s.h id=some (.arr bx ty' esz ver els)) (c:len<=els.length) (hr:len<=1073741824):
  Sim.body (exec T (d+8)) lim {dG ty esz k zero with pure:=false,frz:=b} [.sl esz id ver 0 len none] s=some (.sl esz s.n (if len=0 then 0 else 1) 0 len none,⟨.ob s.n (.arr false ty esz (if len=0 then 0 else 1) (els.take len))::s.h,s.n+1⟩):=by
 have g:Sim.maxRoom=1073741824:=rfl;have a:¬s.n=id:=by omega
 cases hn:els.take len with
 |nil=>
  have h0:len=0:=by
   have:=congrArg List.length hn;rw[cH3]at this;simp only[zJ2]at this;omega
  subst h0;simp[Sim.body,exec,dG,Sim.runOps,Sim.wanted,Sim.evs,Sim.IX.ev,Sim.step,Sim.doOp,Sim.put,Sim.isNilv,Sim.appRows,Sim.rowsOf,Sim.appendTo,Sim.fillParts,Sim.look,Sim.results,Sim.mapO,Sim.readRes,Sim.Out.apply,a,e]
 |cons r rs=>
  have hlen:(r::rs).length=len:=by rw[<-hn];simp;omega
  simp only[zZ2]at hlen;have h0:¬len=0:=by omega
  simp[Sim.body,exec,dG,Sim.runOps,Sim.wanted,Sim.evs,Sim.IX.ev,Sim.step,Sim.doOp,Sim.put,Sim.isNilv,Sim.appRows,Sim.rowsOf,Sim.appendTo,Sim.fillParts,Sim.look,Sim.results,Sim.mapO,Sim.readRes,Sim.Out.apply,Sim.upd,g,hl,a,e,c,hn,hlen,hr,h0]
end
def oE (cl:Nat->aB (Nat×Nat)):Tl:=fun f xs h n=>match xs,h with
 |[.own k],[(k',.tr (.nd ty e ks) rows [])]=>(cl f).bind fun p=>bif Nat.beq k k'&&(Nat.beq p.1 ty&&(Nat.beq p.2 e&&Nat.ble rows.length 1073741824))then some (.own k,[(k,.tr (.nd ty e ks) rows [])],n)else none
 |[.zs dp e rows],[]=>(cl f).bind fun p=>bif Nat.beq p.2 e&&(Nat.ble rows.length 1073741824&&Nat.ble dp 1)then some (.own n,[(n,.lst p.1 e true rows)],n+1)else none
 |_,_=>none
def Zk {T} {NF xw} {P} {cl} (hT:∀f p,cl f=some p->dY p.1=false/\Nat.ble 4294967296 p.2=false/\∃k zero,T f=some {dG p.1 p.2 k zero with pure:=false,frz:=xw f}):Qm T NF xw P (oE cl):=by
 intro f xs h n v h' n' C s lim ys _ _ hk hl t;unfold oE at hk;split at hk;rename_i k k' ty e ks rows;rw[yR2]at hk;obtain⟨⟨ty2,e2⟩,hc,hk⟩:=hk;simp only at hk;by_cases he:(Nat.beq k k'&&(Nat.beq ty2 ty&&(Nat.beq e2 e&&Nat.ble rows.length 1073741824)))=true;rw[he,zE2]at hk;cases hk;simp only[yS2,bY3,aW,zD2,zK2,aA3]at he;obtain⟨rfl,rfl,rfl,A⟩:=he;obtain⟨N,hs,U,zero,m⟩:=hT f _ hc;simp only at N hs m;have a0:zD ty2=ty2:=by simp[zD,N]
 obtain⟨y,d7,rfl,a1,a2⟩:=hl.inv_cons;rw[a2.inv_nil];have hg:aG [(k,cS.tr (.nd ty2 e2 ks) rows [])] k=some (.tr (.nd ty2 e2 ks) rows []):=by simp[aG]
 rcases fA a1 with⟨G,b7,H,d9,K,rfl⟩|⟨K,rfl⟩
 obtain⟨d4,X,rfl,d3,W,E,d2,b8,⟨Y,d8⟩,d6⟩:=kZ t hg K;subst d3;have d0:aG [(k,cS.tr (.nd ty2 H ks) rows [])] k≠none:=by rw[hg];simp
 have b6:C.w G=none:=t.hr.wn k G _ _ _ d0 K
 obtain⟨ver,hb⟩:∃ver,∀d,Sim.body (exec T (d+8)) lim {dG ty2 H U zero with pure:=false,frz:=xw f} [.sl H G b7 0 rows.length none] s=some (.sl H s.n ver 0 rows.length none,⟨.ob s.n (.arr false ty2 H ver (E.take rows.length))::s.h,s.n+1⟩):=
  ⟨_,fun d=>fD1 (T:=T) ty2 H U zero d t.lim X b8 Y A⟩
 have u:∀i,i<s.n->Sim.look (.ob s.n (.arr false ty2 H ver (E.take rows.length))::s.h) i=Sim.look s.h i:=fun i hi=>by rw[eK,zB2 (by omega)]
 obtain⟨C',S⟩:∃C':Cx,C'=⟨fun j=>if j=k then some (.atp s.n ver H rows.length)else C j,C.z,fun o=>match C.w o with|some (p,i,j)=>if p=G then some (s.n,i,j)else some (p,i,j)|none=>none⟩:=⟨_,rfl⟩
 have M:C' k=some (.atp s.n ver H rows.length):=by rw[S];exact yY2 rfl
 have Z:∀j,j≠k->C' j=C j:=fun j F=>by rw[S];exact zB2 F
 have V:C'.z=C.z:=by rw[S]
 have hw:∀o,C'.w o=match C.w o with|some (p,i,j)=>if p=G then some (s.n,i,j)else some (p,i,j)|none=>none:=fun o=>by rw[S]
 have b5:∀{o sl},C'.w o=some sl->∃O,C.w o=some O/\(sl.1=s.n\/sl.1=O.1):=fun{o sl} b=>by
  rw[hw]at b;split at b;rename_i p i j J;split at b;cases b;exact⟨_,J,.inl rfl⟩;cases b;exact⟨_,J,.inr rfl⟩;cases b
 have b0:∀{o},C.w o=none->C'.w o=none:=fun{o} b=>by rw[hw,b]
 have q:∀{j},aG [(k,cS.tr (.nd ty2 H ks) rows [])] j≠none->j=k:=fun{j} F=>by
  simp only[aG]at F;split at F;rename_i J;exact J.symm;exact absurd rfl F
 refine⟨C',.sl H s.n ver 0 rows.length none,⟨.ob s.n (.arr false ty2 H ver (E.take rows.length))::s.h,s.n+1⟩,.own M,⟨⟨fun j po F=>?_,fun j j' i v1 e1 l1 v2 e2 l2 b1 b2 _ _=>(q b1).trans (q b2).symm,fun i o b=>?_,fun j i v e l b1 b2=>?_,fun i sl b=>?_,fun i o b=>b0 (t.hr.wz i o (by rw[<-V];exact b))⟩,fun j pl F=>?_,⟨by simp,t.wf⟩,by show lim<=s.n+1;have:=t.lim;omega⟩,yX2 _,
  ⟨.new _ _ _,by show s.n<=s.n+1;omega,fun i hi _=>u i hi,fun i hi b=>?_,fun j o F=>?_,fun i o b=>by rw[V];exact b,fun i hi b=>.inl (by rw[<-V];exact b)⟩,⟨_,m,rfl,rfl⟩,8,fun d hd=>?_⟩
 obtain rfl:=q (by rw[F];simp);rw[hg]at F;cases F;refine⟨_,M,t.lim,by show s.n<s.n+1;omega,rfl,rfl,W,E.take rows.length,d2,by rw[eK,yY2 rfl],⟨by simp;omega,.exact (by simp;omega)⟩,fun i r r' c1 c2=>?_⟩
 have c2':E[i]? =some r':=by
  rw[zR2]at c2;split at c2;exact c2;cases c2
 obtain⟨g1,g2⟩:=d6 i r r' c1 c2';refine⟨g1,fun j a c g3 g4=>?_⟩;have:=g2 j a c g3 g4;unfold TC at this ⊢;cases hkd:eZ ks j with
 |none=>rw[hkd]at this;exact this
 |some t0=>
  rw[hkd]at this;rcases this with⟨⟨x,hx⟩,_⟩|⟨_,this⟩
  cases hx;refine .inr ⟨(fun⟨x,hx⟩=>(by cases hx)),eL.move (w:=C.w) (L:=Sim.look s.h) (by show s.n<=s.n+1;omega) (B:=fun x=>x=G) (fun x hx=>by rw[hx];exact b6) (fun o sl b hn=>?_) (fun o b=>?_) this⟩;obtain⟨p,a,c⟩:=sl;refine⟨?_,u o (t.hr.wb o _ b).1⟩;rw[hw,b];exact zB2 hn;refine⟨?_,u o (t.hr.wb o _ b).1⟩;rw[hw,b];exact yY2 rfl
 obtain⟨z1,z2,z3,z4⟩:=t.hr.zr i o (by rw[<-V];exact b);refine⟨(u i z2).trans z1,by show i<s.n+1;omega,fun j v e l b1 b2=>?_,z4⟩;obtain rfl:=q b1;rw[M]at b2;cases b2;omega;obtain rfl:=q b1;rw[M]at b2;cases b2;refine b0 ?_;cases J:C.w s.n with
 |none=>rfl
 |some sl=>have:=(t.hr.wb s.n sl J).1;omega
 obtain⟨O,b1,b2⟩:=b5 b;obtain⟨b3,b4⟩:=t.hr.wb i O b1;exact⟨by show i<s.n+1;omega,by show sl.1<s.n+1;rcases b2 with b2|b2<;>omega⟩;by_cases J:j=k;subst J;exact t.dom j _ K;rw[Z j J]at F;exact t.dom j pl F;rcases b with⟨j,v,e,l,b1,b2⟩|b;obtain rfl:=q b1;rw[M]at b2;cases b2;omega;cases J:C'.w i with
 |none=>exact absurd J b
 |some sl=>
  obtain⟨O,b1,_⟩:=b5 J;exact .inr (by rw[b1];simp)
 exact⟨o,F,fun b9=>by
  obtain rfl:=q (by rw[F];simp);rw[hg]at F;cases F;cases b9⟩
 obtain⟨d,rfl⟩:∃R,d=R+8:=⟨d-8,by omega⟩
 simp only[Sim.callF,m];exact hb d;refine⟨C,_,s,.ownn K rfl,t,yX2 _,.refl _ _ _,⟨_,m,rfl,rfl⟩,8,fun d hd=>?_⟩;obtain⟨d,rfl⟩:∃R,d=R+8:=⟨d-8,by omega⟩
 simp only[Sim.callF,m];exact wN (T:=T) ty2 e2 U zero d lim (xw f) s;simp only[bA3]at he;rw[he]at hk;exact aD hk;rename_i dp e rows;rw[yR2]at hk;obtain⟨⟨ty,e2⟩,hc,hk⟩:=hk;simp only at hk;by_cases he:(Nat.beq e2 e&&(Nat.ble rows.length 1073741824&&Nat.ble dp 1))=true;rw[he,zE2]at hk;cases hk;simp only[yS2,bY3,aW,zD2]at he;obtain⟨rfl,A,e0⟩:=he;obtain⟨N,hs,U,zero,m⟩:=hT f _ hc;simp only at N hs m;have a0:zD ty=ty:=by simp[zD,N]
 obtain⟨y,d7,rfl,a1,a2⟩:=hl.inv_cons;rw[a2.inv_nil];have d5:oV ty e2 true=.lst ty e2 true []:=by unfold oV;rw[hs];rfl
 have fin:∀ver rows',RR rows rows'->(∀d,Sim.body (exec T (d+8)) lim {dG ty e2 U zero with pure:=false,frz:=xw f} [y] s=some (.sl e2 s.n ver 0 rows.length none,⟨.ob s.n (.arr false ty e2 ver rows')::s.h,s.n+1⟩))->
   ∃C' y' s',RV C' (.own n) y'/\cM C' (n+1) [(n,.lst ty e2 true rows)] lim s'/\n<=n+1/\Fr C [] s C' [(n,.lst ty e2 true rows)] s'/\(∃ifn,T f=some ifn/\ifn.pure=false/\ifn.frz=xw f)/\∃D,∀d,D<=d->Sim.callF T (exec T d) lim f [y] s=some (y',s'):=by
  intro ver rows' hr hb;obtain⟨m1,m2,m3⟩:=qA t (po:=.lst ty e2 true rows) (ao:=.arr false ty e2 ver rows') (ver:=ver) (e:=e2) (len:=rows.length) ⟨t.lim,by omega,rfl,rfl,rows',by rw[eK,yY2 rfl,a0],by rw[aK3 (by rw[hr.1];exact yX2 _)];exact hr,⟨by rw[hr.1];exact yX2 _,.exact (by rw[hr.1];exact yX2 _)⟩,fun h=>by cases h⟩;refine⟨_,_,_,.own (mP C n _),m1,by omega,m2,⟨_,m,rfl,rfl⟩,8,fun d hd=>?_⟩;obtain⟨d,rfl⟩:∃R,d=R+8:=⟨d-8,by omega⟩
  simp only[Sim.callF,m];exact hb d
 have nilc:rows=[]->y=.v (.slice none 0 0)->∃C' y' s',RV C' (.own n) y'/\cM C' (n+1) [(n,.lst ty e2 true rows)] lim s'/\n<=n+1/\Fr C [] s C' [(n,.lst ty e2 true rows)] s'/\(∃ifn,T f=some ifn/\ifn.pure=false/\ifn.frz=xw f)/\∃D,∀d,D<=d->Sim.callF T (exec T d) lim f [y] s=some (y',s'):=by
  rintro rfl rfl;obtain⟨m1,m2⟩:=Kv t (ty:=ty) (e:=e2) (g:=true);rw[d5]at m1 m2;refine⟨_,_,s,.ownn (C:=ext C n .nil) (mP C n .nil) rfl,m1,by omega,m2,⟨_,m,rfl,rfl⟩,8,fun d hd=>?_⟩;obtain⟨d,rfl⟩:∃R,d=R+8:=⟨d-8,by omega⟩
  simp only[Sim.callF,m];exact wN (T:=T) ty e2 U zero d lim (xw f) s
 rcases yD (tO a1)with(⟨rows',rfl,hr⟩|⟨hr,hy⟩)|⟨R,id,ver,ty',els,rfl,rfl,V,hle,hr⟩
 cases rows' with
 |nil=>
  have:rows=[]:=aW3 hr.1;subst this;exact fin 0 [] hr fun d=>Qt (T:=T) ty e2 U zero d t.lim
 |cons r rs=>exact fin 1 _ hr fun d=>by rw[hr.1];exact Qu (T:=T) ty e2 U zero d t.lim r rs (by rw[<-hr.1];exact A)
 exact nilc hr hy;obtain⟨z1,z2,_⟩:=t.hr.zr id _ V;obtain rfl:R=0:=by omega
 exact fin _ (els.take rows.length) ⟨hr.1,fun i r r' c1 c2=>hr.2 i r r' c1 c2⟩ fun d=>fD1 (T:=T) ty e2 U zero d t.lim z2 z1 hle A;simp only[bA3]at he;rw[he]at hk;exact aD hk;cases hk
end Go.P
namespace Go.P
open Go.Sim
variable {A α:Type}
section
variable {P:Program} {D:Nat} {t:TypeId} {cs:List AV}
def rZ {n} (h:n<=maxLen):n<9223372036854775808:=Nat.lt_of_le_of_lt h (by decide)
def iQ {k} (a:P.underlying t=some (.int k)) (h:nG P D t cs):∃n,LR (RC false) [.v (.int k n)] cs:=by
 cases D with
 |zero=>exact h.elim
 |succ D=>
  unfold nG at h;rw[a]at h;obtain⟨n,rfl,_⟩:=h;exact⟨n,.cons (.v _) .nil⟩
def Qv (a:P.underlying t=some .bool) (h:nG P D t cs):∃n,LR (RC false) [.v (.bool n)] cs:=by
 cases D with
 |zero=>exact h.elim
 |succ D=>
  unfold nG at h;rw[a]at h;obtain⟨n,rfl⟩:=h;exact⟨n,.cons (.v _) .nil⟩
def lO1 (a:P.underlying t=some .string) (h:nG P D t cs):∃s:ByteArray,s.size<=maxLen/\LR (RC false) [.v (.string s)] cs:=by
 cases D with
 |zero=>exact h.elim
 |succ D=>
  unfold nG at h;rw[a]at h;obtain⟨s,rfl,hs⟩:=h;exact⟨s,hs,.cons (.v _) .nil⟩
def Tt {B:A->Prop} {c:A->aA PV} {e:TypeId} {m:Nat} (g:P.underlying t=some (.slice e)) (f:P.cellsOf e=m) (a:∀D row,nG P D e row->∃x:A,B x/\LR (RC false) (c x) row) (hp:∀x,(c x).all gZ=true) (h:nG P D t cs):
  ∃l:aA A,(l.length<=maxLen/\∀x∈l,B x)/\LR (RC false) [.is m (l.map c)] cs:=by
 cases D with
 |zero=>exact h.elim
 |succ D=>
  unfold nG at h;rw[g]at h;rcases h with rfl|⟨els,rfl,hl,h⟩
  exact⟨[],⟨aB3 _,fun x d=>(cS3 d).elim⟩,.cons .isn .nil⟩;rw[f]
  have:∃l:aA A,l.length=els.length/\(∀x∈l,B x)/\RR (l.map c) els:=by
   clear hl
   induction els with
   |nil=>exact⟨[],rfl,fun x d=>(cS3 d).elim,.nil⟩
   |cons row els ih=>
    obtain⟨l,h1,h2,b⟩:=ih (fun row a=>h row (by simp[a]));obtain⟨x,i,j⟩:=a D row (h row (by simp)).2;refine⟨x::l,by simp[h1],fun y hy=>?_,.cons ?_ b⟩;rcases zF2.1 hy with rfl|hy;exact i;exact h2 y hy;exact(LR.closed (C:=⟨fun _=>none,fun _=>none,fun _=>none⟩) j).plain (hp x)
  obtain⟨l,h1,h2,b⟩:=this;exact⟨l,⟨by omega,h2⟩,.cons b.is .nil⟩
def hJ {fs} (a:P.underlying t=some (.struct fs)) (h:nG P D t cs):∃D',jR1 (nG P D') P fs.toList cs:=by
 cases D with
 |zero=>exact h.elim
 |succ D=>
  unfold nG at h;rw[a]at h;exact⟨D,h⟩
def iP2 {n} {e} (b:P.underlying t=some (.array n e)) (h:nG P D t cs):∃(D':Nat) (rows:aA (aA AV)),cs=rows.flatten/\rows.length=n/\∀row∈rows,row.length=P.cellsOf e/\nG P D' e row:=by
 cases D with
 |zero=>exact h.elim
 |succ D=>
  unfold nG at h;rw[b]at h;obtain⟨rows,h1,h2,a⟩:=h;exact⟨D,rows,h1,h2,a⟩
def yJ1 {l:aA α} (h:l.length=6):∃a b c d e f,l=[a,b,c,d,e,f]:=by
 rcases l with _|⟨a,_|⟨b,_|⟨c,_|⟨d,_|⟨e,_|⟨f,_|⟨g,l⟩⟩⟩⟩⟩⟩⟩<;>simp at h;exact⟨a,b,c,d,e,f,rfl⟩
end
end Go.P
namespace Go.P
open Go.Sim
def fE1 {T} {f} {xs} (h:rX T f xs (bv true)) {ys} (hl:LR (RC false) xs ys) (hc:ys.all (closed 4)=true):∃d s,callF T (exec T d) 0 f ys {h:=[],n:=0}=some (.v (.bool true),s):=by
 obtain⟨ifn,h1,h2,g,a⟩:=h;obtain⟨D,b⟩:=a ys hl;obtain⟨y,c,e⟩:=b D (yX2 _);cases e;exact⟨D,_,by simp only[callF,h1,h2,zT2,hc,c,zW2];rfl⟩
def yR {x} {y} {d} (h:RC false x y) (hp:gZ x=true):closed (d+1) y=true:=by
 cases h<;>first|rfl|simp[gZ]at hp
def Tu {xs} {ys} (h:LR (RC false) xs ys) (hp:xs.all gZ=true):closed 4 (.agg ys)=true:=by
 unfold closed;rw[yW2];intro y hy;obtain⟨j,b⟩:=zL2.1 hy;have a:j<xs.length:=by rw[h.1];exact(yT2.1 b).1
 have c:xs[j]? =some xs[j]:=zY2 a;exact yR (h.2 j _ _ c b) (yW2.1 hp _ (bO3 a))
def vB1:Value->Value->Bool
 |.int k a,.int k' b=>decide (k=k')&&decide (a=b)
 |.bool a,.bool b=>decide (a=b)
 |.string a,.string b=>decide (a=b)
 |.slice none 0 0,.slice none 0 0=>true
 |_,_=>false
def lP1 {x y} (h:vB1 x y=true):x=y:=by
 unfold vB1 at h;split at h<;>simp_all
def Qw {α β:Type} (f:α->β->Bool):aA α->aA β->Bool
 |[],[]=>true
 |a::as,b::bs=>f a b&&Qw f as bs
 |_,_=>false
def qX {α β} {f}:∀{xs:aA α} {ys:aA β},Qw f xs ys=true->xs.length=ys.length/\∀(j:Nat) (x:α) (y:β),xs[j]? =some x->ys[j]? =some y->f x y=true
 |[],[],_=>⟨rfl,fun j x y h=>by simp at h⟩
 |[],b::bs,h=>by simp[Qw]at h
 |a::as,[],h=>by simp[Qw]at h
 |a::as,b::bs,h=>by
  simp only[Qw,yS2]at h
  obtain⟨h1,h2⟩:=h
  have ih:=qX h2
  refine⟨by simp[ih.1],fun j x y c hy=>?_⟩
  cases j with
  |zero=>simp at c hy;subst c;subst hy;exact h1
  |succ j=>simp at c hy;exact ih.2 j x y c hy
def rcB:Nat->PV->AV->Bool
 |0,_,_=>false
 |d+1,x,y=>match x,y with
  |.v x,.v y=>vB1 x y
  |.is e rows,.is e' rows'=>decide (e=e')&&Qw (Qw (rcB d)) rows rows'
  |.is _ [],.v (.slice none 0 0)=>true
  |_,_=>false
def fF1:∀(d:Nat) {x:PV} {y:AV} (p:Bool),rcB d x y=true->RC p x y
 |0,x,y,p,h=>by simp[rcB]at h
 |d+1,x,y,p,h=>by
  unfold rcB at h
  split at h
  rw[lP1 h];exact .v _
  simp only[yS2,zD2]at h
  obtain⟨rfl,h⟩:=h
  have h1:=qX h
  refine .is h1.1 (fun i r r' hr a=>(qX (h1.2 i r r' hr a)).1) (fun i r r' j x y hr a b hy=>fF1 d true ((qX (h1.2 i r r' hr a)).2 j x y b hy))
  exact .isn
  cases h
end Go.P
namespace Go.P
open Go.Sim (IC IX AV gC nH)
section
variable {R:Type}
def fN (s:Nat) (K:Nat->R):R:=match s with
 |0=>K 0
 |n+1=>K (n+1)
def num:Nat->Nat->(Nat->Nat->R)->R
 |0,s,K=>K 0 s
 |k+1,s,K=>bif Nat.ble 8 (s%16)then fN (s/16) fun t=>num k t fun n t=>K (s%16-8+8*n) t else fN (s/16) fun t=>K (s%16) t
def yL1:Nat->Nat->(aA Nat->Nat->R)->R
 |0,s,K=>K [] s
 |k+1,s,K=>num 16 s fun n t=>fN n fun n=>yL1 k t fun l u=>K (n::l) u
def sD (s:Nat) (K:aA Nat->Nat->R):R:=num 16 s fun n t=>yL1 n t K
def Wv:Nat->Nat->(aA (aA Nat)->Nat->R)->R
 |0,s,K=>K [] s
 |k+1,s,K=>sD s fun n t=>Wv k t fun l u=>K (n::l) u
def uV:AV->PV
 |.v x=>.v x
 |.fn (.func f) _ _=>.fn f [] []
 |.agg cs=>.agg (cs.map fun c=>match c with|.v x=>.v x|_=>.undef)
 |_=>.undef
def uX:IX->PX
 |.t i=>.t i
 |.c x=>.c (uV x)
def fG1:aA PX->aA Nat
 |[]=>[]
 |.t i::xs=>i::fG1 xs
 |_::xs=>fG1 xs
def kil (h:Nat) (xs:aA PX) (s:Nat) (K:aA Nat->Nat->R):R:=match h with
 |0=>K [] s
 |1=>K (fG1 xs) s
 |_=>sD s K
def tdL:Nat->Nat->aA Nat->(aA (Nat×TD)->jJ)->(aA (Nat×TD)->aA Nat->jJ)->jJ
 |_,0,l,_,K=>K [] l
 |n+1,c+1,j::a::b::k::l,E,K=>tdL n k l E fun ks l=>tdL n c l E fun r l=>K ((j,.nd a b ks)::r) l
 |_,_,_,E,_=>E []
def tdK (l:aA Nat) (K:TD->jJ):jJ:=tdL 16 1 (0::l) (fun _=>.nil) fun r _=>match r with
 |(_,t)::_=>K t
 |[]=>.nil
def iS2:Nat->aB Nat
 |0=>none
 |n+1=>some n
def mrk:aA Nat->jJ->jJ
 |9::d::j::l,r=>tdK l fun t=>.tre d (iS2 j) t r
 |[11,m],r=>.up m r
 |10::l,r=>.gc l r
 |[0,d,ty,e,g],r=>.own d ty e (Nat.beq g 1) r
 |[1,d],r=>.fz d none r
 |[2,d,j],r=>.fz d (some j) r
 |[3,d],r=>.laxm d none r
 |[4,d,j],r=>.laxm d (some j) r
 |[5,d,e],r=>.lax d [some e] r
 |[6,d,j,ty,e,g],r=>.ownc d j ty e (Nat.beq g 1) r
 |[7,d,j,e],r=>.laxc d j e r
 |[8,d,m,j,e],r=>.lax d ((List.range m).map fun q=>bif Nat.beq q j then some e else none) r
 |_,r=>r
def fH1:aA (aA Nat)->jJ->jJ
 |[],r=>r
 |m::ms,r=>mrk m (fH1 ms r)
def opO (d:aB Nat) (k:gC) (xs:aA PX) (l:aA Nat) (r:jJ):jJ:=match d with
 |some d=>.op d k xs l r
 |none=>.sto k xs l r
def pie (f:aA Sim.Op1->Nat->(jJ->Nat->R)->R) (h:Nat) (os:aA Sim.Op1) (s:Nat) (K:(jJ->jJ)->aA Sim.Op1->Nat->R):R:=num 16 s fun k s=>f (os.take k) s fun b s=>match os.drop k with
 |[]=>K (fun r=>r) [] s
 |o::os=>match o.dst,o.xs with
  |some d,[.t c,x,y]=>kil (s%16) [.t c] (s/16) fun l s=>match y with
   |.c (.v (.bool false))=>K (bif Nat.beq h 5 then .ifx d c true b (uX x) l else .ifn d c true b (uX x) l) os s
   |_=>K (bif Nat.beq h 5 then .ifx d c false b (uX y) l else .ifn d c false b (uX y) l) os s
  |_,_=>K (fun r=>r) [] s
def its:Nat->aA Sim.Op1->Nat->(jJ->Nat->R)->R
 |0,_,s,K=>K .nil s
 |_,[],s,K=>K .nil s
 |n+1,o::os,s,K=>match s%16 with
  |3=>sD (s/16) fun l s=>its n os s fun r s=>(match o.k,o.dst with
   |.buildSl ty _ _ z _,some d=>K (.mkfl d ty z (o.xs.map uX) l r) s
   |_,_=>K .nil s)
  |4=>kil (s/16%16) (o.xs.map uX) (s/256) fun l s=>num 16 s fun m s=>Wv m s fun b s=>its n os s fun r s=>K (opO o.dst o.k (o.xs.map uX) l (fH1 b r)) s
  |7=>sD (s/16) fun l s=>sD s fun q s=>num 16 s fun m s=>Wv m s fun b s=>its n os s fun r s=>(match o.k,o.dst with
   |.buildSl _ _ m z ps,some d=>K (tdK q fun t=>.bst d t m z ps (o.xs.map uX) l (fH1 b r)) s
   |_,_=>K .nil s)
  |8=>sD (s/16) fun l s=>sD s fun js s=>num 16 s fun m s=>Wv m s fun b s=>its n os s fun r s=>(match o.k,o.dst,o.xs with
   |.loadS,some d,[x]=>K (.opn d none (uX x) l js (fH1 b r)) s
   |.loadA i,some d,[x]=>K (.opn d (some i) (uX x) l js (fH1 b r)) s
   |_,_,_=>K .nil s)
  |5=>pie (its n) 5 (o::os) (s/16) fun a os s=>its n os s fun r s=>K (a r) s
  |6=>pie (its n) 6 (o::os) (s/16) fun a os s=>its n os s fun r s=>K (a r) s
  |h=>fN (s/16) fun t=>kil h (o.xs.map uX) t fun l s=>its n os s fun r s=>K (opO o.dst o.k (o.xs.map uX) l r) s
def rZ1:aA Nat->aA (Nat×Nat×Nat×Nat)
 |a::b::c::d::r=>(a,b,c,d)::rZ1 r
 |_=>[]
def gcB (m:Nat) (c:IC) (l:aA Nat) (x:PC):PC:=match c with
 |.reg _=>.seq (.seq (.reg (.gc (List.range m) .nil)) x) (.reg (.gc l .nil))
 |.regD _ _=>.seq (.seq (.reg (.gc (List.range m) .nil)) x) (.reg (.gc l .nil))
 |_=>.seq x (.reg (.gc l .nil))
def yN1 (g:Bool) (x:PC) (s:Nat) (K:PC->Nat->R):R:=bif g then(bif Nat.beq (s%16) 0 then fN (s/16) fun s=>K x s else sD (s/16) fun l s=>K (.seq (.reg (.gc l .nil)) x) s)else K x s
def Mv (m:Nat) (g:Bool):IC->Nat->(PC->Nat->R)->R
 |.skip,s,K=>K .skip s
 |.reg ops,s,K=>its ops.length ops s fun b s=>K (.reg b) s
 |.regD ops bf,s,K=>num 16 s fun dr s=>its ops.length ops s fun b s=>sD s fun q s=>(match q with
  |[]=>K (.regD dr b bf) s
  |q=>K (.regX dr b bf (rZ1 q)) s)
 |.seq a b,s,K=>Mv m g a s fun x s=>Mv m g b s fun y s=>K (.seq x y) s
 |.cond c a b,s,K=>match s%16 with
  |1=>sD (s/16) fun l s=>Mv m g a s fun x s=>Mv m g b s fun y s=>K (.condJ l (uX c) x y) s
  |2=>fN (s/16) fun s=>Mv m g a s fun x s=>Mv m g b s fun y s=>K (.condL (uX c) x y) s
  |3=>sD (s/16) fun l s=>Mv m g a s fun x s=>Mv m g b s fun y s=>K (.condJ l (uX c) (gcB m a l x) (gcB m b l y)) s
  |_=>fN (s/16) fun s=>Mv m g a s fun x s=>Mv m g b s fun y s=>K (.cond (uX c) x y) s
 |.block id c,s,K=>Mv m g c s fun x s=>K (.block id x) s
 |.loop c,s,K=>match s%16 with
  |1=>num 16 (s/16) fun n s=>sD s fun l s=>Mv m g c s fun x s=>K (.loopU n l x) s
  |2=>sD (s/16) fun l s=>sD s fun d s=>Mv m g c s fun x s=>K (.loop l d (gcB m c l x)) s
  |3=>sD (s/16) fun l s=>sD s fun d s=>Mv m g c s fun x s=>K (.seq (.reg (.gc l .nil)) (.loop l d (gcB m c l x))) s
  |_=>sD (s/16) fun l s=>sD s fun d s=>Mv m g c s fun x s=>K (.loop l d x) s
 |.rangeF _ _ _ _,s,K=>K .skip s
 |.exit id,s,K=>yN1 g (.exit id) s K
 |.ret,s,K=>yN1 g .ret s K
def iT2 (m:Nat) (c:IC) (s:Nat) (K:PC->R):R:=bif Nat.beq (s%16) 15 then fN (s/16) fun s=>bif Nat.beq (s%16) 0 then fN (s/16) fun s=>Mv m true c s fun x _=>K x else sD (s/16) fun l s=>Mv m true c s fun x _=>K (gcB m c l x)else Mv m false c s fun x _=>K x
def anF (P:Program) (f s:Nat) (z:Bool):cE:=match P.funcs[f]? with
 |some fn=>match fn.body with
  |some c=>match Sim.comp P c,Sim.mapO (Sim.compRes P) fn.results.toList with
   |some ic,some rs=>iT2 fn.ntmps ic s fun c=>⟨fn.ntmps,rs,c,z⟩
   |_,_=>default
  |none=>default
 |none=>default
end
end Go.P
namespace Go.P
open Go.Sim
def fJ1 {Q} {T} (e:jT Q T) (a:Q.follows .mixedOrders=true) {f} {xs} {ys} {b} (h:rX T f xs (bv b)) (hl:LR (RC false) xs ys) (hc:ys.all (closed 4)=true):nR Q f ys (.v (.bool b)):=by
 obtain⟨fn,h1,h2,_,c⟩:=h;obtain⟨D,d⟩:=c ys hl;obtain⟨y,g,i⟩:=d D (yX2 _);cases i;exact Ew e a h1 h2 hc g
def fK1 {T} {f} {fn} {b} (a:T f=some fn) (hp:fn.pure=true) (e:fn.frz=true) (c:T.memo f []=some (.v (.bool b))):rX T f [] (bv b):=
 ⟨fn,a,hp,fun _=>e,fun ys hy=>⟨0,fun d _=>⟨_,by rw[hy.inv_nil];simp only[runP,c],.v _⟩⟩⟩
def sA1:Nat->PV->AV
 |0,_=>.es
 |d+1,x=>match x with
  |.v x=>.v x
  |.is _ []=>.v (.slice none 0 0)
  |.is e rows=>.is e (rows.map fun r=>r.map (sA1 d))
  |_=>.es
def Ww (d:Nat) (xs:aA PV):aA AV:=xs.map (sA1 d)
def lQ1 {cells} {d} (h:Qw (rcB 12) cells (Ww d cells)=true):LR (RC false) [.agg cells] [.agg (Ww d cells)]:=by
 have:=qX h;exact .cons (.agg this.1 (fun j x y a hy=>fF1 12 false (this.2 j x y a hy))) (.nil)
end Go.P
