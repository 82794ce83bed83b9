import Derived.Test.YtlmhifhgadmigaaGreatLpA
/- A text of the proof. -/
set_option linter.all false
namespace Go.P
open Go.Sim (AV AO Hp eO upd St IC IX Ex dQ CK Wf Out doOp gA exec Foot wanted put)
section
variable {R:Type} {T:gA} {O:qN} {X:NX} {dr:Nat}
theorem Lc {C:Cx}:∀{es:aA (aB Nat)} {cs:aA PV} {ys:aA AV} {K:aA PV->aB R} {r:R},LR (RV C) cs ys->Nc es cs K=some r->∃cs',K cs'=some r/\LR (RV C) cs' ys
 |[],[],ys,K,r,hl,h=>⟨[],h,hl⟩
 |o::os,x::xs,ys,K,r,hl,h=>by
  obtain⟨y,c,rfl,h1,h2⟩:=hl.inv_cons
  unfold Nc at h
  obtain⟨cs',a,b⟩:=Lc h2 h
  cases o with
  |none=>exact⟨_,a,.cons h1 b⟩
  |some e=>
   simp only at a
   split at a
   have:=dY h1
   subst this
   exact⟨_,a,.cons (.cl .isn) b⟩
   exact aD a
 |[],_::_,_,_,_,_,h=>by unfold Nc at h;exact aD h
 |_::_,[],_,_,_,_,h=>by unfold Nc at h;exact aD h
theorem Xg {C:Cx} {n:Nat} {h:aN} {lim:Nat} {s:Hp} (u:cA C n h lim s) {k id ver e len:Nat} {cs cs2:aA PV} {ty e':Nat} {g:Bool} (hk:aK h k=some (.box cs)) (w:C k=some (.atp id ver e len))
  (x:∀row,LR (RV C) cs row->LR (RV (ext C n .nil)) cs2 row):
  cA (ext C n .nil) (n+1) ((n,kZ ty e' g)::dW h k (.box cs2)) lim s/\Fr C h s (ext C n .nil) ((n,kZ ty e' g)::dW h k (.box cs2)) s:=by
 obtain⟨r,t⟩:=Ik u (ty:=ty) (e:=e') (g:=g);have B:n≠k:=by have:=u.dom _ _ w;omega
 have m:∀j,aK ((n,kZ ty e' g)::dW h k (.box cs2)) j≠none->aK ((n,kZ ty e' g)::h) j≠none:=fun j f=>by
  simp only[aK]at f ⊢;split;simp;rename_i h1;rw[jU2 h1,eS]at f;split at f
  grind
  exact f
 refine⟨⟨⟨fun j o f=>?_,fun j A i v1 p y v2 e2 H a b c d=>r.hr.inj j A i v1 p y v2 e2 H (m j a) (m A b) c d,fun i o E=>?_⟩,r.dom,r.wf,r.lim⟩,⟨t.sk,t.n,t.keep,fun i hi D=>?_,fun j o f=>?_,t.zl,t.zn⟩⟩;simp only[aK]at f;split at f;rename_i h1;exact r.hr.ob j o (by simp[aK,h1];simpa using f);rename_i h1;rw[eS]at f;split at f;rename_i h2;obtain⟨rfl,_⟩:=h2;cases f;obtain⟨pl,q1,q2⟩:=u.hr.ob _ _ hk;rw[w]at q1;cases q1;obtain⟨p1,p2,z,esz,row,p3,p4⟩:=q2;exact⟨_,(iO u .nil).1 _ _ w,p1,p2,z,esz,row,p3,x row p4⟩;exact r.hr.ob j o (by simp[aK,h1,f]);obtain⟨z1,z2,z3,z4⟩:=r.hr.zr i o E;exact⟨z1,z2,fun j v e l a b=>z3 j v e l (m j a) b,z4⟩;obtain⟨j,v1,p,y,F,G⟩:=D;exact t.own i hi ⟨j,v1,p,y,m j F,G⟩;obtain⟨o',q1,q2⟩:=t.kd j o f;have q:n≠j:=fun p=>by rw[sA u (by omega)]at f;cases f
 by_cases p:j=k;subst p;rw[hk]at f;cases f;exact⟨.box cs2,by simp[aK,q,eS,hk],fun _=>⟨rfl,by simp[ext,Ne.symm q]⟩⟩;refine⟨o',?_,q2⟩;simpa[aK,q,eS,p]using q1
structure NOK (T:gA) (X:NX):Prop where
 run:∀{R:Type} (f:FuncId) (xs:List PV) (h:aN) (n:Nat) (K:PV->aN->Nat->Option R) (r:R) (C:Cx) (s:Hp) (lim:Nat) (ys:List AV),
  X.is f=true->X.run f xs h n K=some r->LR (RV C) xs ys->cA C n h lim s->
  ∃v h' n' C' y s',K v h' n'=some r/\RV C' v y/\cA C' n' h' lim s'/\n<=n'/\Fr C h s C' h' s'/\(∃ifn,T f=some ifn/\ifn.pure=false/\ifn.frz=false)/\∃D,∀d,D<=d->Sim.callF T (exec T d) lim f ys s=some (y,s')
 yld:∀{R:Type} (k:Nat) (xs:List PV) (h:aN) (n:Nat) (K:PV->aN->Nat->Option R) (r:R) (C:Cx) (s:Hp) (lim:Nat) (ys:List AV) (id ver e len:Nat),
  X.yld k xs h n K=some r->LR (RV C) xs ys->C k=some (.atp id ver e len)->cA C n h lim s->
  ∃v h' n' C' y s',K v h' n'=some r/\RV C' v y/\cA C' n' h' lim s'/\n<=n'/\Fr C h s C' h' s'/\∃D,∀d,D<=d->Sim.round (exec T d) lim id ys s=some (y,s')
theorem qX:∀{h:aA eO} {id:Nat} {o:AO},Sim.look h id=some o->upd h id o=h
 |[],_,_,h=>by simp[Sim.look]at h
 |.mark::r,id,o,h=>by simp only[Sim.look]at h;simp only[Sim.upd,qX h]
 |.ob i o'::r,id,o,h=>by
  simp only[Sim.look]at h
  simp only[Sim.upd]
  split at h
  grind
  rename_i e;rw[jU2 e,qX h]
theorem Ld:∀{xs:aA IX} {t ys:aA AV},Sim.evs t xs=some ys->ys.length=xs.length
 |[],t,ys,h=>by simp only[Sim.evs,jT2]at h;subst h;rfl
 |x::xs,t,ys,h=>by
  simp only[Sim.evs]at h
  split at h
  rename_i a as c b;cases h;simp[Ld b]
  cases h
theorem Sv {C:Cx} {n:Nat} {h:aN} {lim:Nat} {s:Hp} {ty:TypeId} {zero:aA Value} {as:aA PV} {ys:aA AV} (o:cA C n h lim s) (k:LR (RV C) as ys) (r:zero.length=1) (hf:as.all Wp=true):
  ∃C' out,doOp (Sim.look s.h) lim s.n (.buildSl ty 1 as.length zero (List.range as.length)) ys=some out/\RV C' (.own n) out.v/\cA C' (n+1) ((n,.fl as)::h) lim (out.apply s)/\C.le C'/\Fr C h s C' ((n,.fl as)::h) (out.apply s):=by
 have hc:∀(j:Nat) (y:AV),ys[j]? =some y->y.cells=some [y]:=fun j y hy=>by
  have q:j<as.length:=by rw[k.1];exact(jP2.1 hy).1
  have hv:=k.2 j as[j] y (by simp) hy;have l:=jV2.1 hf as[j] (by simp);cases ha:as[j]with
  |fn f a b=>rw[ha]at hv;obtain⟨a',b',rfl,_⟩:=tN hv;rfl
  |_=>rw[ha]at l;simp[Wp]at l
 have hlen:=k.1;have p:(Sim.zeroRow zero).length=1:=by simp[Sim.zeroRow,r]
 have d:=sG 1 as.length 0 ((List.range as.length).flatMap fun _=>Sim.zeroRow zero) ys (ys.map fun y=>[y]) (by rw[wQ,p,List.length_range];simp) hlen.symm (by simp[hlen]) (fun j x k=>⟨[x],hc j x k,rfl,by simp[k]⟩);simp only[nA2,List.take_zero,List.nil_append]at d;have g:=Rz 1 (ys.map fun y=>[y]) (fun c hc=>by simp at hc;obtain⟨y,_,rfl⟩:=hc;rfl);rw[mQ2,<-hlen]at g;have m:=iO o (.atp s.n 0 1 as.length)
 obtain⟨u,w,z⟩:=nE o (po:=.fl as) (ao:=.arr false ty 1 0 (ys.map fun y=>[y])) (ver:=0) (e:=1) (len:=as.length)
  ⟨o.lim,by omega,rfl,rfl,ty,_,by rw[dM,jX2 rfl],by simp[hlen],fun i f row a b=>by
   simp only[kV2,jQ2]at b;obtain⟨y,hy,rfl⟩:=b;exact .cons ((k.2 i f y a hy).mono m) .nil⟩
 refine⟨_,{v:=.sl 1 s.n 0 0 as.length none,new:=some (.arr false ty 1 0 (ys.map fun y=>[y]))},?_,.own (kQ C n _),u,m,w⟩
 have:doOp (Sim.look s.h) lim s.n (.buildSl ty 1 as.length zero (List.range as.length)) ys=(Sim.fillParts ((List.range as.length).flatMap fun _=>Sim.zeroRow zero) ((List.range as.length).map fun i=>(i*1,1)) ys).map fun cs=>
  {v:=.sl 1 s.n 0 0 as.length none,new:=some (.arr false ty 1 0 ((List.range as.length).map fun i=>(cs.drop (i*1)).take 1))}:=by
  rcases ys with _|⟨a,_|⟨b,_|⟨c,t⟩⟩⟩<;>rfl
 rw[<-List.range_eq_range']at d;rw[this,d];simp only[kL2];rw[g]
theorem cL (hO:∀f xs v,O f xs=some v->lC T f xs v) (hX:NOK T X) (x:dr=0\/dr=3\/dr=4) {N lim:Nat} {R:Type}:∀(ops:fU) (u F:aA Nat) (l:Bool) (g:aB (Nat×Bool)) (C:Cx) (n:Nat) (h:aN) (e:dS) (t:aA AV) (s:Hp) (K:dS->aN->Nat->aB R) (r:R),
  cO O X dr ops e h n K=some r->cP C e t->cA C n h lim s->t.length=N->iB N u l F ops=true->Gv g t->GIn g u->
  ∃e' h' n' C' A s' fs,K e' h' n'=some r/\Tr T X.is dr lim (nU g ops) {t:=t,s:=s} fs {t:=A,s:=s'}/\cP C' e' A/\cA C' n' h' lim s'/\A.length=N/\n<=n'/\Fr C h s C' h' s'/\∀(i:Nat),i∉bT ops []->A[i]? =t[i]?
 |.nil,u,F,l,g,C,n,h,e,t,s,K,r,hk,he,hM,hN,ho,hg,hgi=>⟨e,h,n,C,t,s,[],by unfold cO at hk;exact hk,.nil,he,hM,hN,jR2 _,.refl _ _ _,fun _ _=>rfl⟩
 |.op d k xs kl rs,u,F,l,g,C,n,h,e,t,s,K,r,hk,he,hM,hN,ho,hg,hgi=>by
  simp only[iB,jO2,kH2,fP,lW2]at ho
  obtain⟨⟨⟨o1,o2⟩,o3⟩,o4⟩:=ho
  have hd:d<t.length:=by omega
  have a0:d∉u:=by simpa using o2
  have back:∀{y:AV} {A:aA AV},(∀(i:Nat),i∉bT rs []->A[i]? =(t.set d y)[i]?)->∀(i:Nat),i∉bT (.op d k xs kl rs) []->A[i]? =t[i]? :=fun hb i hi=>by
   simp only[bT,kM2,mJ2]at hi
   rw[hb i hi.2,kK2 (Ne.symm hi.1)]
  unfold cO at hk
  rw[gF,jN2]at hk
  obtain⟨vs,b8,hk⟩:=hk
  obtain⟨ys,h1,h2⟩:=iG he o3 b8
  have d7:∀{f:FuncId} {xs':aA PV} {zs:aA AV},tK O f xs' h (fun v=>gE e (d::kl) fun e=>cO O X dr rs ((d,v)::e) h n K)=some r->LR (RV C) xs' zs->gK k=true->3<=jU X.is dr k->
    ((∃ifn,T f=some ifn/\ifn.pure=true)->Sim.foot T k ys={all:=1})->(∀(d:Nat) (s:Hp),Sim.step T (exec T d) lim k ys s=Sim.callF T (exec T d) lim f zs s)->
    ∃e' h' n' C' A s' fs,K e' h' n'=some r/\Tr T X.is dr lim (nU g (.op d k xs kl rs)) {t:=t,s:=s} fs {t:=A,s:=s'}/\cP C' e' A/\cA C' n' h' lim s'/\A.length=N/\n<=n'/\Fr C h s C' h' s'/\∀(i:Nat),i∉bT (.op d k xs kl rs) []->A[i]? =t[i]? :=by
   intro f xs' zs hk hz hc g7 hf g9;obtain⟨v,y,q,h4,h5,D,h6⟩:=Ff (lim:=lim) hO hM hk hz;simp only[dL]at q
   have B:cP C ((d,v)::edel e (d::kl)) (t.set d y):=.put hd (.cl h4) (fun i w hw=>by
    obtain⟨z,p1,p2,p3⟩:=he.edel (d::kl) i w hw;exact⟨z,p1,p2,fun e1=>p3 (by simp[e1])⟩)
   obtain⟨e2,e5,H,C2,Z,Y,fs,J,L,M,S,U,r6,V,W⟩:=cL hO hX x rs u (d::F) l g C n h _ _ s K r q B hM (by simpa using hN) o4 (hg.set hgi a0) hgi;exact⟨e2,e5,H,C2,Z,Y,_,J,.call (o:=⟨some d,k,xs.map eX,g⟩) hg.wanted h1 hc g7 (hf h5) ⟨D,fun d hd m=>by rw[g9];exact h6 d hd m⟩ L,M,S,U,r6,V,back W⟩
  have ncall:∀{run:aN->Nat->(PV->aN->Nat->aB (PV×aN×Nat))->aB (PV×aN×Nat)} {xs':aA PV} {zs:aA AV} {P:AV->Hp->Prop} {nw fx:Bool},LR (RV C) xs' zs->
    (∀(hs:aN) (C0:Cx) (m:Nat) (K':PV->aN->Nat->aB (PV×aN×Nat)) (r':PV×aN×Nat),cA C0 m hs lim s->LR (RV C0) xs' zs->run hs m K'=some r'->
     ∃v h' n' C' y s',K' v h' n'=some r'/\RV C' v y/\cA C' n' h' lim s'/\m<=n'/\Fr C0 hs s C' h' s'/\P y s')->
    (∀y s',P y s'->(Sim.foot T k ys).all=2/\(dr≠0->jU X.is dr k=4)/\∃D,∀d,D<=d->Sim.step T (exec T d) lim k ys s=some (y,s'))->
    fS1 fx run nw xs' e h n (d::kl) (fun v e h n=>cO O X dr rs ((d,v)::e) h n K)=some r->
    ∃e' h' n' C' A s' fs,K e' h' n'=some r/\Tr T X.is dr lim (nU g (.op d k xs kl rs)) {t:=t,s:=s} fs {t:=A,s:=s'}/\cP C' e' A/\cA C' n' h' lim s'/\A.length=N/\n<=n'/\Fr C h s C' h' s'/\∀(i:Nat),i∉bT (.op d k xs kl rs) []->A[i]? =t[i]? :=by
   intro run xs' zs P nw fx hz f6 hP hk;obtain⟨v,e',h',n',C',y,s',q1,q2,q3,q4,q5,q6,q7⟩:=Su hM he hz f6 hk;obtain⟨p1,p2,p3⟩:=hP y s' q7
   have B:cP C' ((d,v)::e') (t.set d y):=.put hd q2 (fun i w hw=>by
    obtain⟨z,p1,p2,p3⟩:=q3 i w hw;exact⟨z,p1,p2,fun e1=>p3 (by simp[e1])⟩)
   obtain⟨e2,e5,H,C2,Z,Y,fs,J,L,M,S,U,r6,V,W⟩:=cL hO hX x rs u (d::F) l g C' n' h' _ _ s' K r q1 B q4 (by simpa using hN) o4 (hg.set hgi a0) hgi;exact⟨e2,e5,H,C2,Z,Y,_,J,.ncall (o:=⟨some d,k,xs.map eX,g⟩) hg.wanted h1 p1 p2 p3 L,M,S,U,by omega,q6.trans V,back W⟩
  split at hk;rename_i ty es b zero x1 x2;obtain⟨y1,d1,rfl,p1,p2⟩:=h2.inv_cons;obtain⟨y2,f7,rfl,p3,p4⟩:=p2.inv_cons;have:=p4.inv_nil;subst this;obtain⟨C',e',h',out,q1,q2,q3,q4,q5⟩:=Xb hM (b:=b) (zero:=zero) he hd p1 p3 hk;obtain⟨e2,q,H,C2,Z,Y,fs,J,L,M,S,U,r6,V,W⟩:=cL hO hX x rs u (d::F) l g C' n h' e' _ _ K r q1 q4 q3 (by simpa using hN) o4 (hg.set hgi a0) hgi;exact⟨e2,q,H,C2,Z,Y,_,J,.op (o:=⟨some d,_,xs.map eX,g⟩) hg.wanted h1 rfl q2 L,M,S,U,r6,q5.trans V,back W⟩;rename_i es k0 kd hi;obtain⟨y1,d1,rfl,p1,p2⟩:=h2.inv_cons;obtain⟨y2,f7,rfl,p3,p4⟩:=p2.inv_cons;have:=p4.inv_nil;subst this;obtain⟨C',e',h',out,q1,q2,q3,q4,q5⟩:=No hM he hd p1 p3 hk;obtain⟨e2,q,H,C2,Z,Y,fs,J,L,M,S,U,r6,V,W⟩:=cL hO hX x rs u (d::F) l g C' n h' e' _ _ K r q1 q4 q3 (by simpa using hN) o4 (hg.set hgi a0) hgi;exact⟨e2,q,H,C2,Z,Y,_,J,.op (o:=⟨some d,_,xs.map eX,g⟩) hg.wanted h1 rfl q2 L,M,S,U,r6,q5.trans V,back W⟩;rename_i f;cases hX1:X.is f with
  |true=>
   rw[hX1,kD2]at hk;refine ncall (P:=fun y s'=>(∃ifn,T f=some ifn/\ifn.pure=false/\ifn.frz=false)/\∃D,∀d,D<=d->Sim.callF T (exec T d) lim f ys s=some (y,s')) h2 (fun hs C0 m K' r' d2 d6 hr=>hX.run f vs hs m K' r' C0 s lim ys hX1 hr d6 d2) (fun y s' hp=>⟨?_,fun _=>by simp[jU,hX1],hp.2⟩) hk;obtain⟨⟨ifn,w1,w2,w3⟩,_⟩:=hp;simp[Sim.foot,w1,w2,w3]
  |false=>
   rw[hX1,kQ2]at hk;refine d7 hk h2 rfl (by simp[jU,hX1]) (fun⟨ifn,w1,w2⟩=>?_) (fun d s=>rfl);simp[Sim.foot,w1,w2]
  rename_i k0 as;obtain⟨y1,d1,rfl,p1,p2⟩:=h2.inv_cons;obtain⟨id,ver,e1,len,hC,rfl⟩:=Bc p1;by_cases q:dr=3;rw[q]at hk;exact aD hk;rw[bG,lH2 q,kQ2]at hk;refine ncall (fx:=false) (P:=fun y s'=>∃D,∀d,D<=d->Sim.round (exec T d) lim id d1 s=some (y,s')) (xs':=.yld k0::as) (zs:=.fn (.yield id) [] []::d1) h2 (fun hs C0 m K' r' d2 d6 hr=>?_) (fun y s' hp=>⟨rfl,fun h0=>by simp only[jU];rw[jX2 (by omega)],hp⟩) hk;obtain⟨y1,f7,e2,p3,p4⟩:=d6.inv_cons;cases e2;obtain⟨id',i2,e',i1,f9,e3⟩:=Bc p3;cases e3;exact hX.yld k0 as hs m K' r' C0 s lim _ _ _ _ _ hr p4 f9 d2;rename_i f first cap as
  obtain⟨y1,d1,rfl,p1,p2⟩:=h2.inv_cons;obtain⟨a',b',rfl,p3,p4⟩:=tN p1;have hz:=(p3.append p2).append p4;cases hX1:X.is f with
  |true=>
   rw[hX1,kD2]at hk;by_cases q:dr=3;rw[q]at hk;exact aD hk;rw[bG,lH2 q,kQ2]at hk;refine ncall (fx:=false) (P:=fun y s'=>(∃ifn,T f=some ifn/\ifn.pure=false/\ifn.frz=false)/\∃D,∀d,D<=d->Sim.callF T (exec T d) lim f (a'++d1++b') s=some (y,s')) hz (fun hs C0 m K' r' d2 d6 hr=>hX.run f _ hs m K' r' C0 s lim _ hX1 hr d6 d2) (fun y s' hp=>⟨?_,fun h0=>by simp only[jU];rw[jX2 (by omega)],hp.2⟩) hk;obtain⟨⟨ifn,w1,w2,w3⟩,_⟩:=hp;simp[Sim.foot,w1,w2,w3]
  |false=>
   rw[hX1,kQ2]at hk;refine d7 hk hz rfl (by simp only[jU];split<;>omega) (fun⟨ifn,w1,w2⟩=>?_) (fun d s=>rfl);simp[Sim.foot,w1,w2]
  obtain⟨v,h',n',C',y,s',q1,q2,q3,q4,q5,q6,q7,q8⟩:=La (dr:=dr) hO hM h2 hk;simp only[dL]at q1
  have B:cP C' ((d,v)::edel e (d::kl)) (t.set d y):=.put hd q2 (fun i w hw=>by
   obtain⟨z,p1,p2,p3⟩:=(he.mono q4).edel (d::kl) i w hw;exact⟨z,p1,p2,fun e1=>p3 (by simp[e1])⟩)
  obtain⟨e2,q,H,C2,Z,Y,fs,J,L,M,S,U,r6,V,W⟩:=cL hO hX x rs u (d::F) l g C' n' h' _ _ _ K r q1 B q3 (by simpa using hN) o4 (hg.set hgi a0) hgi;obtain⟨f,hf⟩:=q8 ⟨some d,k,xs.map eX,g⟩ _ t fs _ rfl hg.wanted h1 L;exact⟨e2,q,H,C2,Z,Y,_,J,hf,M,S,U,by omega,q6.trans V,back W⟩
 |.sto k xs kl rs,u,F,l,g,C,n,h,e,t,s,K,r,hk,he,hM,hN,ho,hg,hgi=>by
  simp only[iB,jO2]at ho;obtain⟨o3,o4⟩:=ho;unfold cO at hk;rw[gF,jN2]at hk;obtain⟨vs,b8,hk⟩:=hk;obtain⟨ys,h1,h2⟩:=iG he o3 b8;obtain⟨v,h',n',C',out,q1,q2,q3,q4,q5,q6,q7,q8⟩:=Fd hM h2 hk;simp only[dL]at q1
  have B:cP C' (edel e kl) t:=fun i w hw=>by
   obtain⟨z,p1,p2,p3⟩:=(he.mono q5).edel kl i w hw;exact⟨z,p1,p2⟩
  obtain⟨e2,q,H,C2,Z,Y,fs,J,L,M,S,U,r6,V,W⟩:=cL hO hX x rs u F l g C' n' h' _ t _ K r q1 B q4 hN o4 hg hgi;refine⟨e2,q,H,C2,Z,Y,_,J,.op (o:=⟨none,k,xs.map eX,g⟩) hg.wanted h1 ?_ q2 L,M,S,U,by omega,q7.trans V,fun i hi=>W i (by simpa only[bT]using hi)⟩;cases k with
  |callF f=>unfold cM at hk;rcases vs with _|⟨a,_|⟨b,_|⟨c,_|⟨d,t⟩⟩⟩⟩<;>exact aD hk
  |callV=>unfold cM at hk;rcases vs with _|⟨a,_|⟨b,_|⟨c,_|⟨d,t⟩⟩⟩⟩<;>exact aD hk
  |_=>rfl
 |.ifx d c w bd x' kl rs,u,F,l,g,C,n,h,e,t,s,K,r,hk,he,hM,hN,ho,hg,hgi=>by
  simp only[iB,jO2,kH2,fP,lW2]at ho;obtain⟨⟨⟨⟨⟨o1,o2⟩,o3⟩,o4⟩,o5⟩,o6⟩:=ho;have a0:d∉u:=by simpa using o2
  unfold cO at hk;rw[eP,jN2]at hk;obtain⟨cv,e7,hk⟩:=hk;split at hk;rename_i cb;rw[bL,jN2]at hk;obtain⟨y,hy,hk⟩:=hk;rw[dL]at hk;obtain⟨cy,b5,e6⟩:=he c _ e7;rw[dY e6]at b5;obtain⟨fs,t1,s1,p1,p2,p3,p4,zs,p5,p6⟩:=zV (T:=T) (O:=O) (X:=X) (dr:=dr) hM hN o5 o3 b5 hy (fun hb g6=>qV hO bd (c::u) [] (some (c,w)) C n h e t s x' y hb he hM hN o5 o3 g6 (fun c' w' e=>by cases e;simp))
  have d3:Gv g t1:=by
   cases g with
   |none=>trivial
   |some p=>
    obtain⟨c',w'⟩:=p;simp only[Gv]at hg ⊢;rw[p3 c' (fun hi=>dR bd o5 c' hi (by simp[hgi c' w' rfl]))];exact hg
  have hd:d<t1.length:=by omega
  have B:cP C ((d,.v (.bool y))::edel e (d::bT bd kl)) (t1.set d (.v (.bool y))):=.put hd (.cl (.v _)) (fun i w hw=>by
   obtain⟨z,q1,q2,q3⟩:=he.edel (d::bT bd kl) i w hw;have e9:i∉bT bd []:=fun hi=>q3 (by simp[(cD bd kl i).2 (.inl hi)]);exact⟨z,by rw[p3 i e9];exact q1,q2,fun e1=>q3 (by simp[e1])⟩)
  obtain⟨e2,q,H,C2,Z,Y,f8,J,L,M,S,U,r6,V,W⟩:=cL hO hX x rs u (d::F) l g C n h _ (t1.set d (.v (.bool y))) s1 K r hk B (hM.grow p4) (by simpa using p2) o6 (d3.set hgi a0) hgi;refine⟨e2,q,H,C2,Z,Y,_,J,p1.append (.op (o:=⟨some d,.pick,_,g⟩) d3.wanted p5 rfl p6 L),M,S,U,r6,p4.fr.trans V,fun i hi=>?_⟩;simp only[bT,kM2,cD bd (bT rs []) i,mJ2]at hi;rw[W i hi.2.2,kK2 (Ne.symm hi.1),p3 i hi.2.1];exact aD hk
 |.ifn d c w bd x' kl rs,u,F,l,g,C,n,h,e,t,s,K,r,hk,he,hM,hN,ho,hg,hgi=>by
  simp only[iB,jO2,kH2,fP,lW2]at ho;obtain⟨⟨⟨⟨⟨o1,o2⟩,o3⟩,o4⟩,o5⟩,o6⟩:=ho;have a0:d∉u:=by simpa using o2
  unfold cO at hk;rw[eP,jN2]at hk;obtain⟨cv,e7,hk⟩:=hk;split at hk;rename_i cb;simp only[lT]at hk;obtain⟨cy,b5,e6⟩:=he c _ e7;rw[dY e6]at b5
  have f3:∀t1:aA AV,(∀(i:Nat),i∉bT bd []->t1[i]? =t[i]?)->t1[c]? =some (.v (.bool cb)):=fun t1 h7=>by
   rw[h7 c (fun hi=>dR bd o5 c hi (by simp))];exact b5
  have tail:∀{y:PV} {z:AV} {e1:dS} {h1:aN} {n1:Nat} {C1:Cx} {t1:aA AV} {s1:Hp} {e4:aA Foot} {zs:aA AV},gE e1 (d::bT bd kl) (fun e=>cO O X dr rs ((d,y)::e) h1 n1 K)=some r->RV C1 y z->Tr T X.is dr lim (nU (some (c,w)) bd) {t:=t,s:=s} e4 {t:=t1,s:=s1}->
    cP C1 (edel e1 (d::bT bd kl)) t1->cA C1 n1 h1 lim s1->t1.length=N->n<=n1->Fr C h s C1 h1 s1->(∀(i:Nat),i∉bT bd []->t1[i]? =t[i]?)->
    Sim.evs t1 (if w then[.t c,eX x',.c (.v (.bool false))]else[.t c,.c (.v (.bool true)),eX x'])=some zs->doOp (Sim.look s1.h) lim s1.n .pick zs=some {v:=z}->
    ∃e' h' n' C' A s' fs,K e' h' n'=some r/\Tr T X.is dr lim (nU g (.ifn d c w bd x' kl rs)) {t:=t,s:=s} fs {t:=A,s:=s'}/\cP C' e' A/\cA C' n' h' lim s'/\A.length=N/\n<=n'/\Fr C h s C' h' s'/\∀(i:Nat),i∉bT (.ifn d c w bd x' kl rs) []->A[i]? =t[i]? :=by
   intro y z e1 h1 n1 C1 t1 s1 e4 zs hk i0 h8 d8 g1 g3 i3 g5 G g4 f1;rw[dL]at hk;have hd:d<t1.length:=by omega
   have d3:Gv g t1:=by
    cases g with
    |none=>trivial
    |some p=>
     obtain⟨c',w'⟩:=p;simp only[Gv]at hg ⊢;rw[G c' (fun hi=>dR bd o5 c' hi (by simp[hgi c' w' rfl]))];exact hg
   have B:cP C1 ((d,y)::edel e1 (d::bT bd kl)) (t1.set d z):=.put hd i0 (fun i w hw=>by
    obtain⟨z',q1,q2⟩:=d8 i w hw;refine⟨z',q1,q2,fun e2=>?_⟩;rw[rZ,jX2 (by simp[e2])]at hw;cases hw)
   obtain⟨e2,q,H,C2,Z,Y,f8,J,L,M,S,U,r6,V,W⟩:=cL hO hX x rs u (d::F) l g C1 n1 h1 _ (t1.set d z) s1 K r hk B g1 (by simpa using g3) o6 (d3.set hgi a0) hgi;refine⟨e2,q,H,C2,Z,Y,_,J,h8.append (.op (o:=⟨some d,.pick,_,g⟩) d3.wanted g4 rfl f1 L),M,S,U,by omega,g5.trans V,fun i hi=>?_⟩;simp only[bT,kM2,cD bd (bT rs []) i,mJ2]at hi;rw[W i hi.2.2,kK2 (Ne.symm hi.1),G i hi.2.1]
  have run:cb=w->cO O X dr bd e h n (fun e h n=>mX e [x'] fun vs=>match vs with
    |[y]=>gE e (d::bT bd kl) fun e=>cO O X dr rs ((d,y)::e) h n K
    |_=>none)=some r->∃e' h' n' C' A s' fs,K e' h' n'=some r/\Tr T X.is dr lim (nU g (.ifn d c w bd x' kl rs)) {t:=t,s:=s} fs {t:=A,s:=s'}/\cP C' e' A/\cA C' n' h' lim s'/\A.length=N/\n<=n'/\Fr C h s C' h' s'/\∀(i:Nat),i∉bT (.ifn d c w bd x' kl rs) []->A[i]? =t[i]? :=by
   intro e8 hk;obtain⟨e1,h1,n1,C1,t1,s1,e4,q1,q2,q3,q4,q5,q6,q7,q8⟩:=cL hO hX x bd (c::u) [] true (some (c,w)) C n h e t s _ r hk he hM hN o5 (by rw[<-e8];exact b5) (fun c' w' e=>by cases e;simp);rw[gF,jN2]at q1;obtain⟨vs,b8,q1⟩:=q1;obtain⟨ys,q,h4⟩:=iG q3 (xs:=[x']) (by simpa using o3) b8;split at q1;rename_i y;obtain⟨z,_,rfl,h5,h6⟩:=h4.inv_cons;rw[h6.inv_nil]at q
   have hz:(eX x').ev t1=some z:=by
    simp only[lZ2,nB2,Sim.evs]at q;split at q;rename_i a b ha hb;simp only[jT2,mW2]at q;rw[<-q.1];exact ha;cases q
   have hc:=f3 t1 q8;cases w with
   |true=>
    subst e8;exact tail q1 h5 q2 (fun i w hw=>by obtain⟨z',p1,p2,_⟩:=q3.edel _ i w hw;exact⟨z',p1,p2⟩) q4 q5 q6 q7 q8 (Fj (a:=.v (.bool true)) (b:=z) (c:=.v (.bool false)) hc hz rfl) rfl
   |false=>
    subst e8;exact tail q1 h5 q2 (fun i w hw=>by obtain⟨z',p1,p2,_⟩:=q3.edel _ i w hw;exact⟨z',p1,p2⟩) q4 q5 q6 q7 q8 (Fj (a:=.v (.bool false)) (b:=.v (.bool true)) (c:=z) hc rfl hz) rfl
   exact aD q1
  have skip:cb≠w->(gE e (d::bT bd kl) fun e=>cO O X dr rs ((d,.v (.bool (!w)))::e) h n K)=some r->∃e' h' n' C' A s' fs,K e' h' n'=some r/\Tr T X.is dr lim (nU g (.ifn d c w bd x' kl rs)) {t:=t,s:=s} fs {t:=A,s:=s'}/\cP C' e' A/\cA C' n' h' lim s'/\A.length=N/\n<=n'/\Fr C h s C' h' s'/\∀(i:Nat),i∉bT (.ifn d c w bd x' kl rs) []->A[i]? =t[i]? :=by
   intro g8 hk;obtain⟨fs,t1,k1,k2,k3,k4⟩:=dZ (T:=T) (NF:=X.is) (dr:=dr) (lim:=lim) (s:=s) (some (c,w)) bd (c::u) [] t o5 (fun c' w' e=>by cases e;simp) (by simp[Sim.wanted,b5,g8]) (fun c hc=>by simp at hc);obtain⟨z,hz⟩:=wW (c:=0) (i:=0) (k2.trans hN) o3
   have d8:cP C (edel e (d::bT bd kl)) t1:=fun i v hv=>by
    obtain⟨z,q1,q2,q3⟩:=he.edel (d::bT bd kl) i v hv;have e9:i∉bT bd []:=fun hi=>q3 (by simp[(cD bd kl i).2 (.inl hi)]);exact⟨z,by rw[k3 i e9];exact q1,q2⟩
   have hc:=f3 t1 k3;cases w with
   |true=>
    have:cb=false:=by cases cb<;>simp_all
    subst this;exact tail hk (.cl (.v (.bool false))) k1 d8 hM (k2.trans hN) (jR2 _) (.refl _ _ _) k3 (Fj (a:=.v (.bool false)) (b:=z) (c:=.v (.bool false)) hc hz rfl) rfl
   |false=>
    have:cb=true:=by cases cb<;>simp_all
    subst this;exact tail hk (.cl (.v (.bool true))) k1 d8 hM (k2.trans hN) (jR2 _) (.refl _ _ _) k3 (Fj (a:=.v (.bool true)) (b:=.v (.bool true)) (c:=z) hc rfl hz) rfl
  cases w with
  |true=>
   rw[kD2]at hk;cases cb with
   |true=>exact run rfl hk
   |false=>exact skip (by simp) hk
  |false=>
   rw[kQ2]at hk;cases cb with
   |true=>exact skip (by simp) hk
   |false=>exact run rfl hk
  exact aD hk
 |.mkfl d ty zero xs kl rs,u,F,l,g,C,n,h,e,t,s,K,r,hk,he,hM,hN,ho,hg,hgi=>by
  simp only[iB,jO2,kH2,fP,lW2]at ho;obtain⟨⟨⟨o1,o2⟩,o3⟩,o4⟩:=ho;have hd:d<t.length:=by omega
  have a0:d∉u:=by simpa using o2
  unfold cO at hk;rw[gF,jN2]at hk;obtain⟨vs,b8,hk⟩:=hk;obtain⟨ys,h1,h2⟩:=iG he o3 b8;cases hc:(Nat.beq zero.length 1&&vs.all Wp)with
  |false=>rw[hc]at hk;exact aD hk
  |true=>
  rw[hc,kD2,dL]at hk;simp only[jO2,bG,jY2]at hc;obtain⟨C',out,q1,q2,q3,q4,q5⟩:=Sv (ty:=ty) hM h2 hc.1 hc.2
  have hlen:vs.length=xs.length:=by
   have:=h2.1;have q:ys.length=xs.length:=(Ld h1).trans (by simp);omega
  rw[hlen]at q1
  have B:cP C' ((d,.own n)::edel e (d::kl)) (t.set d out.v):=.put hd q2 (fun i w hw=>by
   obtain⟨z,p1,p2,p3⟩:=(he.mono q4).edel (d::kl) i w hw;exact⟨z,p1,p2,fun e1=>p3 (by simp[e1])⟩)
  obtain⟨e2,q,H,C2,Z,Y,fs,J,L,M,S,U,r6,V,W⟩:=cL hO hX x rs u (d::F) l g C' (n+1) _ _ _ _ K r hk B q3 (by simpa using hN) o4 (hg.set hgi a0) hgi;refine⟨e2,q,H,C2,Z,Y,_,J,.op (o:=⟨some d,.buildSl ty 1 xs.length zero (List.range xs.length),xs.map eX,g⟩) hg.wanted h1 rfl q1 L,M,S,U,by omega,q5.trans V,fun i hi=>?_⟩;simp only[bT,kM2,mJ2]at hi;rw[W i hi.2,kK2 (Ne.symm hi.1)]
 |.lax d es rs,u,F,l,g,C,n,h,e,t,s,K,r,hk,he,hM,hN,ho,hg,hgi=>by
  simp only[iB]at ho;unfold cO at hk;rw[eP,jN2]at hk;obtain⟨v,hv,hk⟩:=hk;obtain⟨y,b4,E⟩:=he d _ hv
  have e0:∀v',RV C v' y->cP C ((d,v')::edel e [d]) t:=fun v' hv' i w hw=>by
   simp only[dK]at hw;split at hw;rename_i e1;subst e1;cases hw;exact⟨y,b4,hv'⟩;obtain⟨z,q1,q2,_⟩:=he.edel [d] i w hw;exact⟨z,q1,q2⟩
  split at hk;rename_i s';rw[dL]at hk;rw[dY E]at e0;exact cL hO hX x rs u F l g C n h _ t s K r hk (e0 _ (.cl .isn)) hM hN ho hg hgi;rename_i cs;obtain⟨cs',h1,h2⟩:∃cs',y=.agg cs'/\LR (RV C) cs cs':=kP E;subst h1;obtain⟨cs2,q1,q2⟩:=Lc h2 hk;rw[dL]at q1;exact cL hO hX x rs u F l g C n h _ t s K r q1 (e0 _ (.agg q2.1 q2.2)) hM hN ho hg hgi;exact aD hk
 |.own d ty es g' rs,u,F,l,g,C,n,h,e,t,s,K,r,hk,he,hM,hN,ho,hg,hgi=>by
  simp only[iB]at ho;unfold cO at hk;rw[eP,jN2]at hk;obtain⟨v,hv,hk⟩:=hk;obtain⟨y,b4,E⟩:=he d _ hv;split at hk;rw[dL]at hk;have hy:=dY E;subst hy;obtain⟨m1,m2⟩:=Ik hM (ty:=ty) (e:=es) (g:=g');have d9:=iO hM .nil
  have B:cP (ext C n .nil) ((d,.own n)::edel e [d]) t:=fun i w hw=>by
   simp only[dK]at hw;split at hw;rename_i e1;subst e1;cases hw;exact⟨_,b4,.ownn (by simp[ext]) rfl⟩;obtain⟨z,q1,q2,_⟩:=he.edel [d] i w hw;exact⟨z,q1,q2.mono d9⟩
  obtain⟨e2,q,H,C2,Z,Y,fs,J,L,M,S,U,r6,V,W⟩:=cL hO hX x rs u F l g _ (n+1) _ _ t s K r hk B m1 hN ho hg hgi;exact⟨e2,q,H,C2,Z,Y,fs,J,L,M,S,U,by omega,m2.trans V,W⟩;exact aD hk
 |.laxc d j es rs,u,F,l,g,C,n,h,e,t,s,K,r,hk,he,hM,hN,ho,hg,hgi=>by
  simp only[iB]at ho;unfold cO at hk;rw[eP,jN2]at hk;obtain⟨v,hv,hk⟩:=hk;obtain⟨y,b4,E⟩:=he d _ hv;split at hk;rename_i k o0;rw[dX,jN2]at hk;obtain⟨ob,b0,hk⟩:=hk;split at hk;rename_i cs;obtain⟨id,ver,e1,l1,hC,rfl⟩:=iP E;obtain⟨hj,hk⟩:=dG _ _ _ _ hk;split at hk;rename_i tl b7;obtain⟨f2,hk⟩:=gR _ _ _ _ _ hk;have hk:=dH _ _ _ _ _ hk
  have b6:cs[j]? =some (.v (.slice none 0 0)):=by
   have:(cs.drop j)[0]? =some (.v (.slice none 0 0)):=by rw[b7];rfl
   simpa using this
  obtain⟨f5,b9,esz,row,hL,hl⟩:=pC hM b0 hC;have d4:=(hM.hr.lt (by rw[b0];simp) hC)
  obtain⟨m1,m2⟩:=pB hM (po':=.box (Sim.setL cs j [.is es []])) (ao:=.arr true b9 esz ver [row]) b0 hC ⟨d4.1,d4.2,b9,esz,row,by rw[Sim.look_upd,jX2 ⟨rfl,by rw[hL];rfl⟩],by
   refine⟨by rw[<-hl.1];simp[Sim.setL],fun i a b ha hb=>?_⟩;simp only[Sim.setL]at ha;rw[kN2]at ha;split at ha;rename_i e2;subst e2;split at ha;cases ha;have:=dY (hl.2 j _ _ b6 hb);subst this;exact .cl .isn;cases ha;exact hl.2 i a b ha hb⟩ rfl
  have G:({h:=upd s.h id (.arr true b9 esz ver [row]),n:=s.n}:Hp)=s:=by
   rw[qX hL]
  rw[G]at m1 m2;obtain⟨e2,q,H,C2,Z,Y,fs,J,L,M,S,U,r6,V,W⟩:=cL hO hX x rs u F l g _ n _ _ t s K r hk he m1 hN ho hg hgi;exact⟨e2,q,H,C2,Z,Y,fs,J,L,M,S,U,by omega,m2.trans V,W⟩;exact aD hk;exact aD hk;exact aD hk
 |.ownc d j ty es g' rs,u,F,l,g,C,n,h,e,t,s,K,r,hk,he,hM,hN,ho,hg,hgi=>by
  simp only[iB]at ho;unfold cO at hk;rw[eP,jN2]at hk;obtain⟨v,hv,hk⟩:=hk;obtain⟨y,b4,E⟩:=he d _ hv;split at hk;rename_i k o0;rw[dX,jN2]at hk;obtain⟨ob,b0,hk⟩:=hk;split at hk;rename_i cs;obtain⟨id,ver,e1,l1,hC,rfl⟩:=iP E;obtain⟨hj,hk⟩:=dG _ _ _ _ hk;split at hk;rename_i tl b7;obtain⟨dW,hk⟩:=gR _ _ _ _ _ hk;have hk:=dH _ _ _ _ _ hk;have d9:=iO hM .nil
  have b6:cs[j]? =some (.v (.slice none 0 0)):=by
   have:(cs.drop j)[0]? =some (.v (.slice none 0 0)):=by rw[b7];rfl
   simpa using this
  obtain⟨m1,m2⟩:=Xg (ty:=ty) (e':=es) (g:=g') (cs2:=Sim.setL cs j [.own n]) hM b0 hC (fun row d5=>by
   refine⟨by rw[<-d5.1];simp[Sim.setL],fun i a b ha hb=>?_⟩;simp only[Sim.setL]at ha;rw[kN2]at ha;split at ha;rename_i e2;subst e2;split at ha;cases ha;have:=dY (d5.2 j _ _ b6 hb);subst this;exact .ownn (by simp[ext]) rfl;cases ha;exact(d5.2 i a b ha hb).mono d9)
  obtain⟨e2,q,H,C2,Z,Y,fs,J,L,M,S,U,r6,V,W⟩:=cL hO hX x rs u F l g _ (n+1) _ _ t s K r hk (he.mono d9) m1 hN ho hg hgi;exact⟨e2,q,H,C2,Z,Y,fs,J,L,M,S,U,by omega,m2.trans V,W⟩;exact aD hk;exact aD hk;exact aD hk
 |.fz d j rs,u,F,l,g,C,n,h,e,t,s,K,r,hk,he,hM,hN,ho,hg,hgi=>by
  simp only[iB]at ho;unfold cO at hk;rw[eP,jN2]at hk;obtain⟨v,hv,hk⟩:=hk;obtain⟨y,b4,E⟩:=he d _ hv
  have fin:∀{m k v0 y0},wG v0=some (m,k)->RV C v0 y0->((j=none/\y=y0)\/∃i cs',j=some i/\y=.agg cs'/\cs'[i]? =some y0)->fzK e h d m k j (fun e h=>cO O X dr rs e h n K)=some r->
    ∃e' h' n' C' A s' fs,K e' h' n'=some r/\Tr T X.is dr lim (nU g rs) {t:=t,s:=s} fs {t:=A,s:=s'}/\cP C' e' A/\cA C' n' h' lim s'/\A.length=N/\n<=n'/\Fr C h s C' h' s'/\∀(i:Nat),i∉bT rs []->A[i]? =t[i]? :=fun{m k v0 y0} hn h9 hj hk=>by
   obtain⟨C',e',h',q1,q2,q3,q4⟩:=Xc hM he hv b4 E hn h9 hj hk;obtain⟨e2,q,H,C2,Z,Y,fs,J,L,M,S,U,r6,V,W⟩:=cL hO hX x rs u F l g C' n _ _ t s K r q1 q3 q2 hN ho hg hgi;exact⟨e2,q,H,C2,Z,Y,fs,J,L,M,S,U,r6,q4.trans V,W⟩
  cases j with
  |none=>
   simp only at hk;split at hk;rename_i m k hn;exact fin hn E (.inl ⟨rfl,rfl⟩) hk;exact aD hk
  |some j=>
   simp only at hk;cases v with
   |agg cs=>
    obtain⟨cs',rfl,hl⟩:=kP E;obtain⟨hj,hk⟩:=dG _ _ _ _ hk;split at hk;rename_i c tl b7
    have b6:cs[j]? =some c:=by
     have:(cs.drop j)[0]? =some c:=by rw[b7];rfl
     simpa using this
    obtain⟨y0,k1,k2⟩:=hl.get b6;split at hk;rename_i m k hn;exact fin hn k2 (.inr ⟨j,cs',rfl,rfl,k1⟩) hk;exact aD hk;exact aD hk
   |_=>exact aD hk
 |.laxm d j rs,u,F,l,g,C,n,h,e,t,s,K,r,hk,he,hM,hN,ho,hg,hgi=>by
  simp only[iB]at ho;unfold cO at hk;rw[eP,jN2]at hk;obtain⟨v,hv,hk⟩:=hk;obtain⟨y,b4,E⟩:=he d _ hv;split at hk;rw[dL]at hk;have hy:=dY E;subst hy
  have B:cP C ((d,.zm [])::edel e [d]) t:=fun i w hw=>by
   simp only[dK]at hw;split at hw;rename_i e1;subst e1;cases hw;exact⟨_,b4,.zm0⟩;obtain⟨z,q1,q2,_⟩:=he.edel [d] i w hw;exact⟨z,q1,q2⟩
  exact cL hO hX x rs u F l g C n h _ t s K r hk B hM hN ho hg hgi;rename_i j k o;rw[dX,jN2]at hk;obtain⟨ob,b0,hk⟩:=hk;split at hk;rename_i cs;obtain⟨id,ver,e1,l1,hC,rfl⟩:=iP E;obtain⟨hj,hk⟩:=dG _ _ _ _ hk;split at hk;rename_i tl b7;obtain⟨f2,hk⟩:=gR _ _ _ _ _ hk;have hk:=dH _ _ _ _ _ hk
  have b6:cs[j]? =some (.v (.map none)):=by
   have:(cs.drop j)[0]? =some (.v (.map none)):=by rw[b7];rfl
   simpa using this
  obtain⟨f5,b9,esz,row,hL,hl⟩:=pC hM b0 hC;have d4:=(hM.hr.lt (by rw[b0];simp) hC)
  obtain⟨m1,m2⟩:=pB hM (po':=.box (Sim.setL cs j [.zm []])) (ao:=.arr true b9 esz ver [row]) b0 hC ⟨d4.1,d4.2,b9,esz,row,by rw[Sim.look_upd,jX2 ⟨rfl,by rw[hL];rfl⟩],by
   refine⟨by rw[<-hl.1];simp[Sim.setL],fun i a b ha hb=>?_⟩;simp only[Sim.setL]at ha;rw[kN2]at ha;split at ha;rename_i e2;subst e2;split at ha;cases ha;have:=dY (hl.2 j _ _ b6 hb);subst this;exact .zm0;cases ha;exact hl.2 i a b ha hb⟩ rfl
  have G:({h:=upd s.h id (.arr true b9 esz ver [row]),n:=s.n}:Hp)=s:=by
   rw[qX hL]
  rw[G]at m1 m2;obtain⟨e2,q,H,C2,Z,Y,fs,J,L,M,S,U,r6,V,W⟩:=cL hO hX x rs u F l g _ n _ _ t s K r hk he m1 hN ho hg hgi;exact⟨e2,q,H,C2,Z,Y,fs,J,L,M,S,U,by omega,m2.trans V,W⟩;exact aD hk;exact aD hk;exact aD hk
end
end Go.P
namespace Go.P
open Go.Sim (AV AO Hp eO upd St IC IX Ex dQ CK Wf Out doOp gA exec Foot wanted put popMark)
def bV (C:Cx) (n:Nat):Cx:=⟨fun k=>if k<n then C k else none,C.z⟩
theorem mA {C:Cx} {n:Nat} {x:PV} {y:AV} (h:RV C x y):∀{d:Nat},mD n d x=true->RV (bV C n) x y:=by
 have lt:∀{k d:Nat} {pl:Pl},C k=some pl->Nat.blt k n=true->bV C n k=some pl:=fun h1 h2=>by
  simp only[lW2]at h2;simp[bV,h2,h1]
 induction h with
 |cl h=>intro d hb;exact .cl h
 |undef=>intro d hb;exact .undef
 |ref h=>intro d hb;cases d with
  |zero=>cases hb
  |succ d=>exact .ref (lt (d:=0) h hb)
 |own h=>intro d hb;cases d with
  |zero=>cases hb
  |succ d=>exact .own (lt (d:=0) h hb)
 |ownn h hy=>intro d hb;cases d with
  |zero=>cases hb
  |succ d=>exact .ownn (lt (d:=0) h hb) hy
 |el h=>intro d hb;cases d with
  |zero=>cases hb
  |succ d=>exact .el (lt (d:=0) h hb)
 |map h=>intro d hb;cases d with
  |zero=>cases hb
  |succ d=>exact .map (lt (d:=0) h hb)
 |yld h=>intro d hb;cases d with
  |zero=>cases hb
  |succ d=>exact .yld (lt (d:=0) h hb)
 |fn h1 h2 v1 v2 i1 i2=>intro d hb;cases d with
  |zero=>cases hb
  |succ d=>
   simp only[mD,jO2]at hb;exact .fn h1 h2 (fun j x y a hy=>i1 j x y a hy (jV2.1 hb.1 x (kA2 a))) (fun j x y a hy=>i2 j x y a hy (jV2.1 hb.2 x (kA2 a)))
 |agg hl hc ih=>intro d hb;cases d with
  |zero=>cases hb
  |succ d=>exact .agg hl (fun j x y a hy=>ih j x y a hy (jV2.1 hb x (kA2 a)))
 |tup hl hc ih=>intro d hb;cases d with
  |zero=>cases hb
  |succ d=>exact .tup hl (fun j x y a hy=>ih j x y a hy (jV2.1 hb x (kA2 a)))
 |zs h=>intro d hb;exact .zs h
 |zm h he=>intro d hb;exact .zm h he
 |zm0=>intro d hb;exact .zm0
section
variable {R:Type}
theorem Fl:∀(e:dS) (i:Nat) (K:PV->aB R) (D:aB R),Km e i K D=match dK e i with|some v=>K v|none=>D
 |[],_,_,_=>rfl
 |(j,v)::r,i,K,D=>by
  simp only[Km,dK,bG]
  by_cases h:j=i<;>simp[h,Fl r i K D]
theorem sJ {e:dS} {n:Nat}:∀{is:aA Nat} {K:dS->aB R} {r:R},Ey e is n K=some r->∃e',K e'=some r/\∀i v,dK e' i=some v->dK e i=some v/\mD n 4 v=true
 |[],K,r,h=>⟨[],h,fun i v h=>by simp[dK]at h⟩
 |i::is,K,r,h=>by
  unfold Ey at h
  rw[Fl]at h
  cases hv:dK e i with
  |none=>rw[hv]at h;exact sJ h
  |some v=>
   rw[hv]at h
   simp only at h
   cases hb:mD n 4 v with
   |false=>rw[hb]at h;exact aD h
   |true=>
    rw[hb,kD2]at h
    obtain⟨e',h1,h2⟩:=sJ h
    refine⟨_,h1,fun j w hw=>?_⟩
    simp only[dK]at hw
    split at hw
    grind
    exact h2 j w hw
theorem Ab {h:aN} {n:Nat}:∀{r:aN} {K:aN->aB R} {x:R},Kn r h n K=some x->∃h',K h'=some x/\∀k,(aK r k=none->aK h' k=none)/\(aK r k≠none->∃o,aK h' k=some o/\aK h k=some o/\qO n o=true)
 |[],K,x,hk=>⟨[],hk,fun k=>⟨fun _=>rfl,fun h=>absurd rfl h⟩⟩
 |(j,o)::r,K,x,hk=>by
  unfold Kn at hk
  rw[dX,jN2]at hk
  obtain⟨o',b,hk⟩:=hk
  cases hb:qO n o' with
  |false=>rw[hb]at hk;exact aD hk
  |true=>
   rw[hb,kD2]at hk
   obtain⟨h',h1,h2⟩:=Ab hk
   refine⟨_,h1,fun k=>?_⟩
   simp only[aK]
   by_cases a:j=k
   grind
   grind
variable {C0 C:Cx} {n0 n:Nat} {h0 h:aN} {e:dS} {t:List AV} {s0 s:Hp} {lim:Nat}
theorem lD (hd:∀k,aK h0 k≠none->k<n0) (w:cA C n h lim s) (he:cP C e t) {keep:aA Nat} {K:Ez->aB R} {r:R} (hk:jQ keep h0 n0 e h K=some r):
  ∃st,K st=some r/\cP (bV C n0) st.e t/\cA (bV C n0) n0 st.h lim s/\(∀k o,aK st.h k=some o->aK h k=some o)/\(∀k,aK h0 k=none↔aK st.h k=none):=by
 unfold jQ at hk;obtain⟨e',hk,h1⟩:=sJ hk;obtain⟨h',hk,h2⟩:=Ab hk;have m:∀k o,aK h' k=some o->aK h k=some o/\qO n0 o=true/\k<n0:=fun k o p=>by grind
 have hr:∀k pl,bV C n0 k=some pl->C k=some pl/\k<n0:=fun k pl hk=>by
  simp only[bV]at hk;split at hk
  grind
  cases hk
 refine⟨_,hk,fun i v hv=>?_,⟨⟨fun k o A=>?_,fun k k' id v e l v' e' l' a b c d=>?_,fun id o B=>?_⟩,fun k pl hk=>(hr k pl hk).2,w.wf,w.lim⟩,fun k o p=>(m k o p).1,fun k=>⟨(h2 k).1,fun B=>?_⟩⟩;obtain⟨q1,q2⟩:=h1 i v hv;obtain⟨y,p1,p2⟩:=he i v q1;exact⟨y,p1,mA p2 q2⟩;obtain⟨q1,q2,q3⟩:=m k o A;obtain⟨pl,p1,p2⟩:=w.hr.ob k o q1;refine⟨pl,by simp[bV,q3,p1],?_⟩;cases o with
 |box cs=>
  cases pl with
  |nil=>exact p2
  |atp id ver e len=>
   obtain⟨a1,a2,ty,esz,row,a3,a4⟩:=p2;exact⟨a1,a2,ty,esz,row,a3,a4.1,fun j x y u hy=>mA (a4.2 j x y u hy) (jV2.1 q2 x (kA2 u))⟩
 |lst ty e g rows=>cases pl<;>exact p2
 |lz ty e dp rows=>cases pl<;>exact p2
 |mp es=>cases pl<;>exact p2
 |fl fs=>
  cases pl with
  |nil=>exact p2
  |atp id ver e len=>
   obtain⟨a1,a2,a3,a4,ty,els,a5,a6,a7⟩:=p2;refine⟨a1,a2,a3,a4,ty,els,a5,a6,fun i f row hf q=>?_⟩;have z:=jV2.1 q2 f (kA2 hf);refine⟨(a7 i f row hf q).1,fun j x y u hy=>?_⟩;cases j with
   |zero=>simp at u;subst u;exact mA ((a7 i f row hf q).2 0 f y rfl hy) z
   |succ j=>simp at u
 |loop N' e ps a b busy fin=>
  cases pl with
  |nil=>exact p2
  |atp id ver e' len=>
   obtain⟨a1,a2,st,pend,tmps,a3,a4,a5,a6⟩:=p2;refine⟨a1,a2,st,pend,tmps,a3,a4,fun i v hv=>?_,a6⟩;obtain⟨y,E,F⟩:=a5 i v hv;exact⟨y,E,mA F (jV2.1 q2 _ (wY hv))⟩
 have D:∀k,aK h' k≠none->aK h k≠none:=fun k hk=>by
  cases p:aK h' k with
  |none=>exact absurd p hk
  |some o=>rw[(m k o p).1];simp
 exact w.hr.inj k k' id v e l v' e' l' (D k a) (D k' b) (hr _ _ c).1 (hr _ _ d).1;obtain⟨z1,z2,z3,z4⟩:=w.hr.zr id o B;refine⟨z1,z2,fun k v e l a b=>z3 k v e l ?_ (hr _ _ b).1,z4⟩;cases p:aK h' k with
 |none=>exact absurd p a
 |some o=>rw[(m k o p).1];simp
 grind
theorem Fr.canon {h1 hc:aN} (c:cA C0 n0 h1 lim s0) (hf:Fr C0 h1 s0 C h s) (a:∀k o,aK hc k=some o->aK h k=some o) (b:∀k,aK h1 k=none↔aK hc k=none):Fr C0 h1 s0 (bV C n0) hc s:=by
 refine⟨hf.sk,hf.n,hf.keep,fun id f d=>hf.own id f ?_,fun k o hk=>?_,hf.zl,hf.zn⟩;obtain⟨k,v,e,l,q1,q2⟩:=d;refine⟨k,v,e,l,?_,?_⟩;cases d:aK hc k with
 |none=>exact absurd d q1
 |some o=>rw[a k o d];simp
 simp only[bV]at q2;split at q2;exact q2;cases q2;obtain⟨o',q1,q2⟩:=hf.kd k o hk
 have g:k<n0:=by
  obtain⟨pl,p1,_⟩:=c.hr.ob k o hk;exact c.dom k pl p1
 cases hz:aK hc k with
 |none=>rw[(b k).2 hz]at hk;cases hk
 |some o2=>
  have:=a k o2 hz;rw[q1]at this;cases this;exact⟨o',rfl,fun hb=>⟨(q2 hb).1,by simp[bV,g,(q2 hb).2]⟩⟩
theorem eM:∀{h:aA eO} {id:Nat} {o:AO},Sim.look h id=some o->(∀ty e v els,o≠.arr true ty e v els)->Sim.look (popMark h) id=some o
 |[],id,o,h,_=>by simp[Sim.look]at h
 |.mark::r,id,o,h,_=>h
 |.ob i o'::r,id,o,h,hne=>by
  simp only[Sim.look]at h
  simp only[popMark]
  split at h
  rename_i a
  cases h
  split
  grind
  simp[Sim.look,a]
  rename_i a
  have ih:=eM h hne
  split
  exact ih
  simp[Sim.look,a,ih]
theorem cA.pop {C1:Cx} {h1 hc:aN} {f:Hp} (l:cA C0 n0 h1 lim s0) (d:cA C1 n0 hc lim f) (hf:Fr C0 h1 {h:=.mark::s0.h,n:=s0.n} C1 hc f) (c:∀k,aK h1 k=none↔aK hc k=none):
  cA C1 n0 hc lim {h:=popMark f.h,n:=f.n}/\Fr C0 h1 s0 C1 hc {h:=popMark f.h,n:=f.n}:=by
 obtain⟨p1,p2⟩:=hf.sk.pop;refine⟨⟨⟨fun k o hk=>?_,d.hr.inj,fun id o j=>?_⟩,d.dom,d.wf.pop,d.lim⟩,⟨p1,hf.n,fun id i p=>?_,hf.own,hf.kd,hf.zl,hf.zn⟩⟩;obtain⟨pl,q1,q2⟩:=d.hr.ob k o hk;refine⟨pl,q1,?_⟩;cases o with
 |box cs=>
  cases pl with
  |nil=>exact q2
  |atp id ver e len=>
   obtain⟨a1,a2,ty,esz,row,a3,a4⟩:=q2
   have m:id<s0.n:=by
    cases j:aK h1 k with
    |none=>rw[(c k).1 j]at hk;cases hk
    |some o0=>
     obtain⟨o',w1,w2⟩:=hf.kd k o0 j;rw[hk]at w1;cases w1;obtain⟨_,w3⟩:=w2 rfl;rw[q1]at w3;exact(l.hr.lt (by rw[j];simp) w3.symm).2
   exact⟨a1,a2,ty,esz,row,by rw[p2 id m];exact a3,a4⟩
 |lst ty e g rows=>
  cases pl with
  |nil=>exact q2
  |atp id ver e' len=>
   obtain⟨a1,a2,a3,a4,els,a5,a6⟩:=q2;exact⟨a1,a2,a3,a4,els,eM a5 (fun _ _ _ _ e=>by cases e),a6⟩
 |lz ty e dp rows=>
  cases pl with
  |nil=>exact q2
  |atp id ver e' len=>
   obtain⟨a1,a2,a3,a4,a7,els,a5,a6⟩:=q2;exact⟨a1,a2,a3,a4,a7,els,eM a5 (fun _ _ _ _ e=>by cases e),a6⟩
 |mp es=>
  cases pl with
  |nil=>exact q2
  |atp id ver e' len=>
   obtain⟨a1,a2,es',a3,a4⟩:=q2;exact⟨a1,a2,es',eM a3 (fun _ _ _ _ e=>by cases e),a4⟩
 |fl fs=>
  cases pl with
  |nil=>exact q2
  |atp id ver e' len=>
   obtain⟨a1,a2,a3,a4,ty,els,a5,a6⟩:=q2;exact⟨a1,a2,a3,a4,ty,els,eM a5 (fun _ _ _ _ e=>by cases e),a6⟩
 |loop N' e ps a b busy fin=>
  cases pl with
  |nil=>exact q2
  |atp id ver e' len=>
   obtain⟨a1,a2,st,pend,tmps,a3,a4⟩:=q2;exact⟨a1,a2,st,pend,tmps,eM a3 (fun _ _ _ _ e=>by cases e),a4⟩
 obtain⟨z1,z2,z3,z4⟩:=d.hr.zr id o j;exact⟨eM z1 (fun _ _ _ _ e=>by subst e;cases z4),z2,z3,z4⟩;rw[p2 id i];exact hf.keep id i p
end
end Go.P
namespace Go.P
open Go.Sim (AV AO Hp eO upd St IC IX Ex dQ CK Wf Out doOp gA exec Foot wanted put popMark)
def qY (NF:FuncId->Bool) (N:Nat) (rd:Bool):PC->Bool
 |.reg ops=>iB N [] false [] ops
 |.regD dr ops before=>(Nat.beq dr 3||Nat.beq dr 4)&&iB N [] false [] ops&&Be ((nU none ops).map fun o=>jU NF dr o.k) before
 |.regX dr ops before ex=>(Nat.beq dr 3||Nat.beq dr 4)&&iB N [] false [] ops&&Ku ((nU none ops).map fun o=>jU NF dr o.k) before ex&&ex.all (Nk (nU none ops))
 |.seq a b=>qY NF N rd a&&qY NF N rd b
 |.cond c a b=>It N c&&qY NF N rd a&&qY NF N rd b
 |.condJ _ c a b=>It N c&&qY NF N rd a&&qY NF N rd b
 |.condL c a b=>It N c&&qY NF N rd a&&qY NF N rd b
 |.block _ c=>qY NF N rd c
 |.loop _ _ c=>qY NF N rd c
 |.loopU _ _ c=>qY NF N rd c
 |.rangeF N' _ f _ _ _=> !rd&&Nat.beq N' N&&It N f
 |_=>true
def okL (NF:FuncId->Bool) (N:Nat) (ps:aA Nat) (a b:PC):Bool:=ps.all (fun p=>Nat.blt p N)&&qY NF N true a&&qY NF N true b
theorem pG:∀{ops:fU} {g:aB (Nat×Bool)},tM ops=true->nU g ops=[]
 |.nil,g,_=>rfl
 |.lax _ _ r,g,h=>pG (ops:=r) h
 |.own _ _ _ _ r,g,h=>pG (ops:=r) h
 |.ownc _ _ _ _ _ r,g,h=>pG (ops:=r) h
 |.laxc _ _ _ r,g,h=>pG (ops:=r) h
 |.fz _ _ r,g,h=>pG (ops:=r) h
 |.laxm _ _ r,g,h=>pG (ops:=r) h
section
variable {T:gA} {O:qN} {X:NX}
def Pr {R:Type} (T:gA) (N lim:Nat) (rd:Bool) (c:IC) (C:Cx) (n:Nat) (h:aN) (t:aA AV) (s:Hp) (K:Ex->dS->aN->Nat->aB R) (r:R):Prop:=
 ∃x e' h' n' C' a s',K x e' h' n'=some r/\cP C' e' a/\cA C' n' h' lim s'/\a.length=N/\n<=n'/\Fr C h s C' h' s'/\∃D,∀d,D<=d->exec T d lim rd c {t:=t,s:=s}=some (x,{t:=a,s:=s'})
variable {R:Type} {N lim:Nat} {rd:Bool}
theorem Tr.nil_inv {NF:FuncId->Bool} {dr:Nat} {σ τ:St} {fs:aA Foot} (h:Tr T NF dr lim [] σ fs τ):τ=σ:=by cases h;rfl
theorem Fm {C:Cx} {x:PV} {a:AV} (h:RV C x a) (hf:Rm x=true):Sim.idOf a=[]:=by
 cases h with
 |cl h=>cases h<;>first|rfl|simp[Rm]at hf
 |_=>simp[Rm]at hf
theorem Sw {C:Cx} {x:PV} {a:AV} {k i:Nat} (h:RV C x a) (hk:qP x=some k) (hi:i∈Sim.idOf a):∃v e l,C k=some (.atp i v e l):=by
 cases h with
 |cl h=>cases h<;>simp[qP]at hk
 |ownn h hy=>subst hy;simp[Sim.idOf]at hi
 |ref h=>simp[qP]at hk;simp[Sim.idOf]at hi;subst hk;subst hi;exact⟨_,_,_,h⟩
 |own h=>simp[qP]at hk;simp[Sim.idOf]at hi;subst hk;subst hi;exact⟨_,_,_,h⟩
 |el h=>simp[qP]at hk;simp[Sim.idOf]at hi;subst hk;subst hi;exact⟨_,_,_,h⟩
 |map h=>simp[qP]at hk;simp[Sim.idOf]at hi;subst hk;subst hi;exact⟨_,_,_,h⟩
 |_=>simp[qP]at hk
theorem Sx {C:Cx} {e:dS} {t:aA AV} {n lim:Nat} {h:aN} {s:Hp} (he:cP C e t) (o:cA C n h lim s) {p:Nat×Nat×Nat×Nat}
  (hp:(match dK e p.2.2.1,dK e p.2.2.2 with|some x,some y=>Ij h x y|_,_=>false)=true):Kv {t:=t,s:=s} p:=by
 split at hp;rename_i x y r hy;obtain⟨a,q,g⟩:=he _ _ r;obtain⟨b,hb,j⟩:=he _ _ hy;refine⟨a,b,q,hb,fun i hi d=>?_⟩;unfold Ij at hp;simp only[kE2]at hp;rcases hp with(hp|hp)|hp;rw[Fm g hp]at hi;simp at hi;rw[Fm j hp]at d;simp at d;split at hp;rename_i k k' h1 h2;simp only[jO2,kH2,bG,lB2]at hp;obtain⟨⟨f,hk⟩,c⟩:=hp;obtain⟨v,m,l,c1⟩:=Sw g h1 hi;obtain⟨v',e2,l',c2⟩:=Sw j h2 d;exact f (o.hr.inj k k' i v m l v' e2 l' (fun h=>by rw[h]at hk;cases hk) (fun h=>by rw[h]at c;cases c) c1 c2);cases hp;cases hp
theorem Xh {a b:IC} {C:Cx} {n:Nat} {h:aN} {t:aA AV} {s:Hp} {K:Ex->dS->aN->Nat->aB R} {r:R} {v:PC}
  (y:Pr T N lim rd a C n h t s (fun x e h n=>match x with|.normal=>eD O X v e h n K|.exit i=>K (.exit i) e h n|.ret=>K .ret e h n) r)
  (hb:∀C n h e t s,eD O X v e h n K=some r->cP C e t->cA C n h lim s->t.length=N->Pr T N lim rd b C n h t s K r):
  Pr T N lim rd (.seq a b) C n h t s K r:=by
 obtain⟨x,f,h1,p,C1,u,q,g,j,k,l,w,m,D,o⟩:=y;cases x with
 |normal=>
  obtain⟨E,e2,h2,z,C2,B,A,q1,q2,q3,q4,q5,q6,D2,q7⟩:=hb C1 p h1 f u q g j k l;refine⟨E,e2,h2,z,C2,B,A,q1,q2,q3,q4,by omega,m.trans q6,D+D2+1,fun d hd=>?_⟩;obtain⟨d,rfl⟩:∃c,d=c+1:=⟨d-1,by omega⟩
  simp only[exec,o d (by omega)];exact q7 d (by omega)
 |exit i=>
  refine⟨.exit i,f,h1,p,C1,u,q,g,j,k,l,w,m,D+1,fun d hd=>?_⟩;obtain⟨d,rfl⟩:∃c,d=c+1:=⟨d-1,by omega⟩
  simp only[exec,o d (by omega)]
 |ret=>
  refine⟨.ret,f,h1,p,C1,u,q,g,j,k,l,w,m,D+1,fun d hd=>?_⟩;obtain⟨d,rfl⟩:∃c,d=c+1:=⟨d-1,by omega⟩
  simp only[exec,o d (by omega)]
theorem xB {c:IX} {a b:IC} {C:Cx} {n:Nat} {h:aN} {t:aA AV} {s:Hp} {K:Ex->dS->aN->Nat->aB R} {r:R} {v:Bool} (hc:c.ev t=some (.v (.bool v)))
  (g:Pr T N lim rd (if v then a else b) C n h t s K r):Pr T N lim rd (.cond c a b) C n h t s K r:=by
 obtain⟨x,f,h1,q,C1,w,u,i,j,k,l,m,o,D,p⟩:=g;refine⟨x,f,h1,q,C1,w,u,i,j,k,l,m,o,D+1,fun d hd=>?_⟩;obtain⟨d,rfl⟩:∃e,d=e+1:=⟨d-1,by omega⟩
 simp only[exec,hc];exact p d (by omega)
theorem Bm {C:Cx} {e:dS} {t:aA AV} {c:PX} {vs:aA PV} (he:cP C e t) (f:It N c=true) (a:evs e [c]=some vs) {v:Bool} (hv:vs=[.v (.bool v)]):(eX c).ev t=some (.v (.bool v)):=by
 obtain⟨ys,h1,h2⟩:=iG he (xs:=[c]) (by simpa using f) a;subst hv;obtain⟨y,_,rfl,b,d⟩:=h2.inv_cons;rw[d.inv_nil,dY b]at h1;simp only[lZ2,nB2,Sim.evs]at h1;split at h1
 grind
 cases h1
theorem Fo {c:IC} {w:PC} {keep kx:aA Nat} {n:Nat} {h0:aN} (hd:∀k,aK h0 k≠none->k<n)
  (hb:∀{R':Type} (K':Ex->dS->aN->Nat->aB R') (r':R') C n h e t s,eD O X w e h n K'=some r'->cP C e t->cA C n h lim s->t.length=N->Pr T N lim rd c C n h t s K' r'):
  ∀(k:Nat) (st:Ez) (C:Cx) (t:aA AV) (s:Hp) (x:Ex) (st':Ez),
   aR (fun s:Ez=>eD O X w s.e s.h n fun x e' h' _=>jQ (lk x keep kx) h0 n e' h' fun s'=>some (match x with|.normal=>(.inl s':Ez⊕(Ex×Ez))|x=>.inr (x,s'))) k st=some (x,st')->
   cP C st.e t->cA C n st.h lim s->t.length=N->(∀k,aK h0 k=none↔aK st.h k=none)->
   ∃C' j s',cP C' st'.e j/\cA C' n st'.h lim s'/\j.length=N/\Fr C st.h s C' st'.h s'/\∃D,∀d,D<=d->exec T d lim rd (.loop c) {t:=t,s:=s}=some (x,{t:=j,s:=s'})
 |0,st,C,t,s,x,st',h,_,_,_,_=>by simp[aR]at h
 |k+1,st,C,t,s,x,st',h,he,hM,hN,hkeys=>by
  simp only[aR,jN2]at h
  obtain⟨q,z,h⟩:=h
  have b:cA C n st.h lim {h:=.mark::s.h,n:=s.n}:=⟨⟨hM.hr.ob,hM.hr.inj,hM.hr.zr⟩,hM.dom,hM.wf,hM.lim⟩
  obtain⟨H,J,h1,L,C1,v,M,B,E,F,o,K,G,D,p⟩:=hb _ q C n st.h st.e t _ z he b hN
  have y:∀k,aK st.h k≠none->k<n:=fun k hk=>hd k (fun A=>hk ((hkeys k).1 A))
  obtain⟨g,w1,w2,w3,w4,w5⟩:=lD hd F E B
  have l:∀k,aK st.h k=none↔aK g.h k=none:=fun k=>(hkeys k).symm.trans (w5 k)
  have m:=Fr.canon b G w4 l
  obtain⟨r,u⟩:=cA.pop hM w3 m l
  cases H with
  |normal=>
   simp only[jT2]at w1
   subst w1
   simp only at h
   obtain⟨C',j,s',p1,p2,p3,p4,D2,p5⟩:=Fo hd hb k g _ v _ x st' h w2 r o w5
   refine⟨C',j,s',p1,p2,p3,u.trans p4,D+D2+1,fun d f=>?_⟩
   obtain⟨d,rfl⟩:∃a,d=a+1:=⟨d-1,by omega⟩
   rw[exec]
   simp only[p d (by omega)]
   exact p5 d (by omega)
  |exit i=>
   simp only[jT2]at w1
   subst w1
   simp only[jT2,kF2]at h
   obtain⟨rfl,rfl⟩:=h
   refine⟨_,v,_,w2,r,o,u,D+1,fun d f=>?_⟩
   obtain⟨d,rfl⟩:∃a,d=a+1:=⟨d-1,by omega⟩
   rw[exec]
   simp only[p d (by omega)]
  |ret=>
   simp only[jT2]at w1
   subst w1
   simp only[jT2,kF2]at h
   obtain⟨rfl,rfl⟩:=h
   refine⟨_,v,_,w2,r,o,u,D+1,fun d f=>?_⟩
   obtain⟨d,rfl⟩:∃a,d=a+1:=⟨d-1,by omega⟩
   rw[exec]
   simp only[p d (by omega)]
theorem Ac {c:IC} {w:PC} {keep:aA Nat} {n:Nat} {h0:aN} (hd:∀k,aK h0 k≠none->k<n)
  (hb:∀{R':Type} (K':Ex->dS->aN->Nat->aB R') (r':R') C n h e t s,eD O X w e h n K'=some r'->cP C e t->cA C n h lim s->t.length=N->Pr T N lim rd c C n h t s K' r'):
  ∀(k:Nat) (st:Ez) (C:Cx) (t:aA AV) (s:Hp) (K:Ex->Ez->aB R) (r:R),
   wH (fun e h K=>eD O X w e h n fun x e h _=>K x e h) (fun e' h' K=>jQ keep h0 n e' h' K) k st K=some r->
   cP C st.e t->cA C n st.h lim s->t.length=N->(∀k,aK h0 k=none↔aK st.h k=none)->
   ∃x st' C' j s',K x st'=some r/\cP C' st'.e j/\cA C' n st'.h lim s'/\j.length=N/\Fr C st.h s C' st'.h s'/\∃D,∀d,D<=d->exec T d lim rd (.loop c) {t:=t,s:=s}=some (x,{t:=j,s:=s'})
 |0,st,C,t,s,K,r,h,_,_,_,_=>by simp[wH]at h
 |k+1,st,C,t,s,K,r,hq,he,hM,hN,hkeys=>by
  simp only[wH]at hq
  have f:cA C n st.h lim {h:=.mark::s.h,n:=s.n}:=⟨⟨hM.hr.ob,hM.hr.inj,hM.hr.zr⟩,hM.dom,hM.wf,hM.lim⟩
  obtain⟨G,H,h1,L,C1,v,M,A,B,E,o,J,F,D,p⟩:=hb _ r C n st.h st.e t _ hq he f hN
  have y:∀k,aK st.h k≠none->k<n:=fun k hk=>hd k (fun z=>hk ((hkeys k).1 z))
  obtain⟨a,w1,w2,w3,w4,w5⟩:=lD hd E B A
  have l:∀k,aK st.h k=none↔aK a.h k=none:=fun k=>(hkeys k).symm.trans (w5 k)
  have m:=Fr.canon f F w4 l
  obtain⟨q,u⟩:=cA.pop hM w3 m l
  cases G with
  |normal=>
   obtain⟨x,st',C',j,s',p0,p1,p2,p3,p4,D2,p5⟩:=Ac hd hb k a _ v _ K r w1 w2 q o w5
   refine⟨x,st',C',j,s',p0,p1,p2,p3,u.trans p4,D+D2+1,fun d g=>?_⟩
   obtain⟨d,rfl⟩:∃b,d=b+1:=⟨d-1,by omega⟩
   rw[exec]
   simp only[p d (by omega)]
   exact p5 d (by omega)
  |exit i=>
   refine⟨.exit i,a,_,v,_,w1,w2,q,o,u,D+1,fun d g=>?_⟩
   obtain⟨d,rfl⟩:∃b,d=b+1:=⟨d-1,by omega⟩
   rw[exec]
   simp only[p d (by omega)]
  |ret=>
   refine⟨.ret,a,_,v,_,w1,w2,q,o,u,D+1,fun d g=>?_⟩
   obtain⟨d,rfl⟩:∃b,d=b+1:=⟨d-1,by omega⟩
   rw[exec]
   simp only[p d (by omega)]
def tX:aN->Nat->aN
 |[],_=>[]
 |(j,o)::r,k=>if j=k then tX r k else(j,o)::tX r k
theorem Fp:∀(h:aN) (k:Nat) (K:aN->aB R),Ev h k K=K (tX h k)
 |[],_,_=>rfl
 |(j,o)::r,k,K=>by
  simp only[Ev,tX,bG]
  by_cases e:j=k<;>simp[e,Fp r k]
theorem lE:∀(h:aN) (k j:Nat),aK (tX h k) j=if j=k then none else aK h j
 |[],k,j=>by simp[tX,aK]
 |(i,o)::r,k,j=>by
  have ih:=lE r k j
  simp only[tX]
  by_cases e:i=k
  subst e
  rw[jX2 rfl,ih]
  by_cases e2:j=i
  simp[e2]
  simp[e2,aK,Ne.symm e2]
  rw[jU2 e]
  simp only[aK]
  by_cases e2:i=j
  subst e2;simp[e]
  grind
theorem xC {e:dS}:∀{is:aA Nat} {K:dS->aB R} {r:R},Ko e is K=some r->∃e',K e'=some r/\∀i v,dK e' i=some v->dK e i=some v
 |[],K,r,h=>⟨[],h,fun i v h=>by simp[dK]at h⟩
 |i::is,K,r,h=>by
  unfold Ko at h
  rw[eP,jN2]at h
  obtain⟨v,hv,h⟩:=h
  obtain⟨e',h1,h2⟩:=xC h
  refine⟨_,h1,fun j w hw=>?_⟩
  simp only[dK]at hw
  split at hw
  grind
  exact h2 j w hw
theorem uK {C:Cx} {n:Nat} {h:aN} {lim:Nat} {s:Hp} (f:cA C n h lim s) {k id ver e len N:Nat} {c:dS} {ps:aA Nat} {a b:PC} {busy:Bool} {fin:aB Ex} (hg:aK h k=some (.loop N c ps a b busy fin)) (d:C k=some (.atp id ver e len)):
  lim<=id/\∃st pend tmps,Sim.look s.h id=some (.loop st pend tmps ps (hZ a) (hZ b))/\tmps.length=N/\cP C c tmps/\StR busy fin st pend:=by
 obtain⟨pl,h1,h2⟩:=f.hr.ob k _ hg;rw[d]at h1;cases h1;exact⟨h2.1,h2.2.2⟩
theorem dI (G:∀f xs v,O f xs=some v->lC T f xs v) (E:NOK T X):∀(c:PC) {R:Type} (K:Ex->dS->aN->Nat->aB R) (r:R) (C:Cx) (n:Nat) (h:aN) (e:dS) (t:aA AV) (s:Hp),eD O X c e h n K=some r->cP C e t->cA C n h lim s->t.length=N->
  qY X.is N rd c=true->Pr T N lim rd (hZ c) C n h t s K r
 |.skip,R,K,r,C,n,h,e,t,s,hk,he,j,w,u=>⟨.normal,e,h,n,C,t,s,hk,he,j,w,jR2 _,.refl _ _ _,1,fun d hd=>by
   obtain⟨d,rfl⟩:∃F,d=F+1:=⟨d-1,by omega⟩
   simp only[hZ,exec]⟩
 |.exit i,R,K,r,C,n,h,e,t,s,hk,he,j,w,u=>⟨.exit i,e,h,n,C,t,s,hk,he,j,w,jR2 _,.refl _ _ _,1,fun d hd=>by
   obtain⟨d,rfl⟩:∃F,d=F+1:=⟨d-1,by omega⟩
   simp only[hZ,exec]⟩
 |.ret,R,K,r,C,n,h,e,t,s,hk,he,j,w,u=>⟨.ret,e,h,n,C,t,s,hk,he,j,w,jR2 _,.refl _ _ _,1,fun d hd=>by
   obtain⟨d,rfl⟩:∃F,d=F+1:=⟨d-1,by omega⟩
   simp only[hZ,exec]⟩
 |.reg ops,R,K,r,C,n,h,e,t,s,hk,he,j,w,u=>by
  obtain⟨e',h',n',C',U,s',fs,q1,q2,q3,q4,q5,q6,q7,_⟩:=cL G E (.inl rfl) ops [] [] false none C n h e t s _ r hk he j w u trivial (fun _ _ e=>by cases e)
  obtain⟨D,hD⟩:=q2.run
  refine⟨.normal,e',h',n',C',U,s',q1,q3,q4,q5,q6,q7,D+1,fun d hd=>?_⟩
  obtain⟨d,rfl⟩:∃F,d=F+1:=⟨d-1,by omega⟩
  simp only[hZ,exec,hD d (by omega),kL2]
 |.regD dr ops before,R,K,r,C,n,h,e,t,s,hk,he,j,w,u=>by
  simp only[qY,jO2,kE2,bG,jY2]at u
  obtain⟨e',h',n',C',U,s',fs,q1,q2,q3,q4,q5,q6,q7,_⟩:=cL G E (.inr u.1.1) ops [] [] false none C n h e t s _ r hk he j w u.1.2 trivial (fun _ _ e=>by cases e)
  obtain⟨D,hD⟩:=q2.draw (by omega) u.2
  refine⟨.normal,e',h',n',C',U,s',q1,q3,q4,q5,q6,q7,D+1,fun d hd=>?_⟩
  obtain⟨d,rfl⟩:∃F,d=F+1:=⟨d-1,by omega⟩
  obtain⟨gs,g1,g2⟩:=hD d (by omega)
  simp only[hZ,exec,g1,g2,kR2]
 |.dead _,R,K,r,C,n,h,e,t,s,hk,he,j,w,u=>nomatch hk
 |.regX dr ops before ex,R,K,r,C,n,h,e,t,s,hk,he,j,w,u=>by
  simp only[qY,jO2,kE2,bG,jY2]at u
  obtain⟨⟨⟨d2,d6⟩,b6⟩,d4⟩:=u
  unfold eD at hk
  obtain⟨e',h',n',C',U,s',fs,q1,q2,q3,q4,q5,q6,q7,_⟩:=cL G E (.inr d2) ops [] [] false none C n h e t s _ r hk he j w d6 trivial (fun _ _ e=>by cases e)
  cases hb:exB e' h' ex with
  |false=>rw[hb]at q1;cases q1
  |true=>
   rw[hb]at q1
   obtain⟨D,hD⟩:=q2.drawX (by omega) b6 d4 (fun p hp=>Sx q3 q4 (jV2.1 hb p hp))
   refine⟨.normal,e',h',n',C',U,s',q1,q3,q4,q5,q6,q7,D+1,fun d hd=>?_⟩
   obtain⟨d,rfl⟩:∃F,d=F+1:=⟨d-1,by omega⟩
   obtain⟨gs,g1,g2⟩:=hD d (by omega)
   simp only[hZ,exec,g1,g2,kR2]
 |.seq a b,R,K,r,C,n,h,e,t,s,hk,he,j,w,u=>by
  simp only[qY,jO2]at u
  have ha:=dI G E a _ r C n h e t s hk he j w u.1
  have hb:=fun C n h e t s hk he j w=>dI G E b K r C n h e t s hk he j w u.2
  have b0:=Xh ha hb
  unfold hZ
  split
  .rename_i ops
   split
   .rename_i a0
    simp only[jO2]at a0
    obtain⟨e',h',n',C',U,s',fs,q1,q2,q3,q4,q5,q6,q7,_⟩:=cL G E (.inl rfl) ops [] [] false none C n h e t s _ r hk he j w u.1 trivial (fun _ _ e=>by cases e)
    rw[pG a0.1]at q2
    have:=q2.nil_inv
    cases this
    obtain⟨x2,e2,h2,n2,C2,t2,s2,w1,w2,w3,w4,w5,w6,D2,w7⟩:=hb C' n' h' e' t s q1 q3 q4 w
    exact⟨x2,e2,h2,n2,C2,t2,s2,w1,w2,w3,w4,by omega,q7.trans w6,D2,w7⟩
   .exact b0
  .exact b0
 |.cond c a b,R,K,r,C,n,h,e,t,s,hk,he,j,w,u=>by
  simp only[qY,jO2]at u
  unfold eD at hk
  rw[gF,jN2]at hk
  obtain⟨vs,H,hk⟩:=hk
  split at hk
  .rename_i v
   rw[lT]at hk
   refine xB (Bm he u.1.1 H rfl) ?_
   cases v with
   |true=>exact dI G E a K r C n h e t s hk he j w u.1.2
   |false=>exact dI G E b K r C n h e t s hk he j w u.2
  .exact aD hk
 |.condJ keep c a b,R,K,r,C,n,h,e,t,s,hk,he,j,w,u=>by
  simp only[qY,jO2]at u
  unfold eD at hk
  rw[gF,jN2]at hk
  obtain⟨vs,H,hk⟩:=hk
  split at hk
  .rename_i v
   rw[bL,jN2]at hk
   obtain⟨q,hq,hk⟩:=hk
   rw[lT]at hq
   refine xB (Bm he u.1.1 H rfl) ?_
   have fin:∀{c:IC},Pr T N lim rd c C n h t s (fun x e' h' _=>jQ keep h n e' h' fun s=>some (x,s)) q->Pr T N lim rd c C n h t s K r:=by
    intro c b7;obtain⟨x1,J,h1,n1,C1,t1,s1,Y,k2,k3,k4,k5,k6,D,k7⟩:=b7
    obtain⟨S,w1,w2,w3,w4,w5⟩:=lD (fun k hk=>by
     cases L:aK h k with
     |none=>exact absurd L hk
     |some o=>obtain⟨pl,p1,_⟩:=j.hr.ob k o L;exact j.dom k pl p1) k3 k2 Y
    cases w1;exact⟨x1,S.e,S.h,n,_,t1,s1,hk,w2,w3,k4,jR2 _,Fr.canon j k6 w4 w5,D,k7⟩
   cases v with
   |true=>exact fin (dI G E a _ q C n h e t s hq he j w u.1.2)
   |false=>exact fin (dI G E b _ q C n h e t s hq he j w u.2)
  .exact aD hk
 |.condL c a b,R,K,r,C,n,h,e,t,s,hk,he,j,w,u=>by
  simp only[qY,jO2]at u;unfold eD at hk;rw[gF,jN2]at hk;obtain⟨vs,H,hk⟩:=hk;split at hk
  .rename_i v
   refine xB (Bm he u.1.1 H rfl) ?_;cases v with
   |true=>exact dI G E a K r C n h e t s hk he j w u.1.2
   |false=>exact dI G E b K r C n h e t s hk he j w u.2
  .exact aD hk
 |.loopU m keep c,R,K,r,C,n,h,e,t,s,hk,he,j,w,u=>by
  unfold eD at hk
  have hd:∀k,aK h k≠none->k<n:=fun k hk=>by
   cases L:aK h k with
   |none=>exact absurd L hk
   |some o=>obtain⟨pl,p1,_⟩:=j.hr.ob k o L;exact j.dom k pl p1
  obtain⟨S,w1,w2,w3,w4,w5⟩:=lD hd j he hk;obtain⟨x,st',C',U,s',p0,p1,p2,p3,p4,D,p5⟩:=Ac (T:=T) (rd:=rd) (N:=N) (lim:=lim) hd (fun K' r' C n h e t s hk he j w=>dI G E c K' r' C n h e t s hk he j w u) m S _ t s _ r w1 w2 w3 w w5;exact⟨x,st'.e,st'.h,n,C',U,s',p0,p1,p2,p3,jR2 _,(Fr.canon j (.refl _ _ _) w4 w5).trans p4,D,p5⟩
 |.rangeF N' keep f ps a b,R,K,r,C,n,h,e,t,s,hk,he,j,w,u=>by
  simp only[qY,jO2,kH2,bG,jY2]at u;obtain⟨⟨rfl,rfl⟩,u⟩:=u;unfold eD at hk;rw[gF,jN2]at hk;obtain⟨vs,H,hk⟩:=hk;obtain⟨ys,h1,h2⟩:=iG he (xs:=[f]) (by simpa using u) H;split at hk
  .rename_i g first cap
   obtain⟨y,_,rfl,h3,h4⟩:=h2.inv_cons;rw[h4.inv_nil]at h1;obtain⟨a',b',rfl,h5,h6⟩:=tN h3
   have hf:(eX f).ev t=some (.fn (.func g) a' b'):=by
    simp only[lZ2,nB2,Sim.evs]at h1;split at h1
    .rename_i ha hb;simp only[jT2,mW2]at h1;rw[<-h1.1];exact ha
    .cases h1
   cases hX1:X.is g with
   |false=>rw[hX1]at hk;exact aD hk
   |true=>
   rw[hX1,kD2]at hk;obtain⟨e0,hk,d3⟩:=xC hk;have V:=iO j (.atp s.n 0 0 0)
   obtain⟨m1,m2,m3⟩:=nE j (po:=.loop N' e0 ps a b false none) (ao:=.loop .ready none t ps (hZ a) (hZ b)) (ver:=0) (e:=0) (len:=0)
    ⟨j.lim,by omega,_,_,t,by rw[dM,jX2 rfl],w,fun i v hv=>(he i v (d3 i v hv)).imp fun y hy=>⟨hy.1,hy.2.mono V⟩,rfl,rfl⟩
   have hx:LR (RV (ext C n (.atp s.n 0 0 0))) (first++[.yld n]++cap) (a'++[.fn (.yield s.n) [] []]++b'):=
    ((h5.mono fun _ _ h=>h.mono V).append (.cons (.yld (kQ C n _)) .nil)).append (h6.mono fun _ _ h=>h.mono V)
   obtain⟨v,e',h',n',C',y,s',q1,q2,q3,q4,q5,q6,q7⟩:=Bl (P:=fun y s'=>∃D,∀d,D<=d->Sim.callF T (exec T d) lim g (a'++[.fn (.yield s.n) [] []]++b') _=some (y,s')) m1 (he.mono V) hx
    (fun hs C0 m K' r' d1 d7 hr=>by
     obtain⟨v,h',n',C',y,s',w1,w2,w3,w4,w5,w6,w7⟩:=E.run g _ hs m K' r' C0 _ lim _ hX1 hr d7 d1;exact⟨v,h',n',C',y,s',w1,w2,w3,w4,w5,w7⟩) hk
   rw[dX,jN2]at q1;obtain⟨ob,W,q1⟩:=q1;obtain⟨o',z1,z2⟩:=q6.kd n (.loop N' e0 ps a b false none) (by simp[aK]);rw[W]at z1;cases z1;split at q1
   .rename_i N2 e2 M a2 b2 fin
    have b4:C' n=some (.atp s.n 0 0 0):=by
     have:=(z2 rfl).2;rw[kQ]at this;exact this
    obtain⟨_,st,pend,tmps,g1,g2,g3,g4⟩:=uK q4 W b4;rw[Fp]at q1;obtain⟨D,hD⟩:=q7;have d8:n<n':=by omega
    have b9:cA C' n' (tX h' n) lim {h:=upd s'.h s.n (.loop .exhausted pend tmps M (hZ a2) (hZ b2)),n:=s'.n}:=by
     have nn:∀{k},aK (tX h' n) k≠none->aK h' k≠none:=fun{k} hk=>by
      rw[lE]at hk;split at hk
      .exact absurd rfl hk
      .exact hk
     refine⟨⟨fun k o A=>?_,fun k k' id v e l v' e' l' a b c d=>q4.hr.inj k k' id v e l v' e' l' (nn a) (nn b) c d,fun id o L=>?_⟩,q4.dom,q4.wf.upd _ _,q4.lim⟩
     .rw [lE]at A
      split at A
      .cases A
      .rename_i d5
       obtain⟨pl,p1,p2⟩:=q4.hr.ob k o A;refine⟨pl,p1,p2.mono (jR2 _) (.refl _) (fun id v e l hp=>?_)⟩;subst hp;rw[Sim.look_upd];rw[jU2 (fun J=>d5 (q4.hr.inj k n s.n _ _ _ _ _ _ (by rw[A];simp) (by rw[W];simp) (by rw[<-J.1];exact p1) b4))]
     .obtain ⟨z1,z2,z3,z4⟩:=q4.hr.zr id o L
      refine⟨?_,z2,fun k v e l a b=>z3 k v e l (nn a) b,z4⟩;rw[Sim.look_upd,jU2 (fun J=>z3 n 0 0 0 (by rw[W];simp) (by rw[J.1];exact b4))];exact z1
    have B:=m2.trans q6
    have b8:Fr C h s C' (tX h' n) {h:=upd s'.h s.n (.loop .exhausted pend tmps M (hZ a2) (hZ b2)),n:=s'.n}:=by
     refine⟨B.sk.trans (.upd _ _ _ _) B.n,B.n,fun id b5 hn=>?_,fun id b5 hn=>B.own id b5 ?_,fun k o A=>?_,B.zl,B.zn⟩
     .rw [Sim.look_upd,jU2 (by omega)]
      exact B.keep id b5 hn
     .obtain ⟨k,v,e,l,p1,p2⟩:=hn
      refine⟨k,v,e,l,?_,p2⟩;rw[lE]at p1;split at p1
      .exact absurd rfl p1
      .exact p1
     .obtain ⟨o',p1,p2⟩:=B.kd k o A
      refine⟨o',?_,p2⟩;rw[lE,jU2 (fun J=>?_)]
      .exact p1
      .subst J
       rw[sA j (jR2 _)]at A;cases A
    have Z:∀x,K x e' (tX h' n) n'=some r->st≠.busy->(match pend with
       |none=>some (Ex.normal,({t:=t,s:={h:=upd s'.h s.n (.loop .exhausted pend tmps M (hZ a2) (hZ b2)),n:=s'.n}}:St))
       |some .ret=>some (.ret,{t:=t,s:={h:=upd s'.h s.n (.loop .exhausted pend tmps M (hZ a2) (hZ b2)),n:=s'.n}})
       |some (.exit id)=>some (.exit id,{t:=t,s:={h:=upd s'.h s.n (.loop .exhausted pend tmps M (hZ a2) (hZ b2)),n:=s'.n}})
       |_=>none)=some (x,{t:=t,s:={h:=upd s'.h s.n (.loop .exhausted pend tmps M (hZ a2) (hZ b2)),n:=s'.n}})->
      Pr T N' lim false (hZ (.rangeF N' keep f ps a b)) C n h t s K r:=by
     intro x hK b6 hx;refine⟨x,e',tX h' n,n',C',t,_,hK,fun i v hv=>(q3 i v hv).imp fun z L=>⟨L.1,L.2.1⟩,b9,w,by omega,b8,D+1,fun d hd=>?_⟩;obtain⟨d,rfl⟩:∃F,d=F+1:=⟨d-1,by omega⟩
     simp only[hZ,exec,hf,hD d (by omega),g1,Sim.endRound,kB2,kU2];rw[jU2 b6];exact hx
    split at q1
    .obtain ⟨rfl,rfl⟩:=g4
     exact Z _ q1 (by simp) rfl
    .obtain ⟨rfl,rfl⟩:=g4
     exact Z _ q1 (by simp) rfl
    .obtain ⟨rfl,rfl⟩:=g4
     exact Z _ q1 (by simp) rfl
    .exact aD q1
   .exact aD q1
  .exact aD hk
 |.block id c,R,K,r,C,n,h,e,t,s,hk,he,j,w,u=>by
  unfold eD at hk;obtain⟨x1,J,h1,n1,C1,t1,s1,Y,k2,k3,k4,k5,k6,D,k7⟩:=dI G E c _ r C n h e t s hk he j w u
  have Z:∀(x:Ex),(∀d,D<=d->(match exec T d lim rd (hZ c) {t:=t,s:=s}with|some (.exit i,σ)=>if i=id then some (.normal,σ)else some (.exit i,σ)|r=>r)=some (x,{t:=t1,s:=s1}))->K x J h1 n1=some r->Pr T N lim rd (hZ (.block id c)) C n h t s K r:=by
   intro x hx hK;refine⟨x,J,h1,n1,C1,t1,s1,hK,k2,k3,k4,k5,k6,D+1,fun d hd=>?_⟩;obtain⟨d,rfl⟩:∃F,d=F+1:=⟨d-1,by omega⟩
   rw[hZ,exec];exact hx d (by omega)
  cases x1 with
  |normal=>exact Z .normal (fun d hd=>by rw[k7 d hd]) Y
  |ret=>exact Z .ret (fun d hd=>by rw[k7 d hd]) Y
  |exit i=>
   simp only[bG]at Y;by_cases J:i=id
   .subst J
    simp only[lL2,kD2]at Y;exact Z .normal (fun d hd=>by rw[k7 d hd];simp) Y
   .simp only[lH2 J,kQ2]at Y
    exact Z (.exit i) (fun d hd=>by rw[k7 d hd];simp[J]) Y
 |.loop keep kx c,R,K,r,C,n,h,e,t,s,hk,he,j,w,u=>by
  unfold eD at hk
  have hd:∀k,aK h k≠none->k<n:=fun k hk=>by
   cases L:aK h k with
   |none=>exact absurd L hk
   |some o=>obtain⟨pl,p1,_⟩:=j.hr.ob k o L;exact j.dom k pl p1
  obtain⟨S,w1,w2,w3,w4,w5⟩:=lD hd j he hk;rw[bL,jN2]at w1;obtain⟨⟨x,st'⟩,hq,hK⟩:=w1;obtain⟨C',U,s',p1,p2,p3,p4,D,p5⟩:=Fo (T:=T) (rd:=rd) (N:=N) (lim:=lim) hd (fun K' r' C n h e t s hk he j w=>dI G E c K' r' C n h e t s hk he j w u) aY S _ t s x st' hq w2 w3 w w5;exact⟨x,st'.e,st'.h,n,C',U,s',hK,p1,p2,p3,jR2 _,(Fr.canon j (.refl _ _ _) w4 w5).trans p4,D,p5⟩
end
end Go.P
namespace Go.P
open Go.Sim (AV AO Hp eO upd St IC IX Ex dQ CK Wf Out doOp gA exec Foot wanted put popMark mapO lI Gt Pn xT fz)
open Go.Sim (RV IFn)
structure bK where
 ntmps:Nat
 res:List Sim.RV
 code:PC
 frz:Bool
 deriving Inhabited
noncomputable section
variable {R:Type}
def Fq:aA PV->Nat->(dS->aB R)->aB R
 |[],_,K=>K []
 |x::xs,i,K=>fV x fun x=>Fq xs (i+1) fun e=>K ((i,x)::e)
def xD (e:dS) (h:aN) (n:Nat):aA Sim.RV->(aA PV->aB R)->aB R
 |[],K=>K []
 |.tmp i::rs,K=>mF e i fun v=>xD e h n rs fun vs=>K (v::vs)
 |.cellS i::rs,K=>mF e i fun p=>cM .loadS [p] h n fun v _ _=>xD e h n rs fun vs=>K (v::vs)
 |.cellA i m::rs,K=>mF e i fun p=>cM (.loadA m) [p] h n fun v _ _=>xD e h n rs fun vs=>K (v::vs)
def Fs (h:aN):Nat->PV->(PV->aB R)->aB R
 |0,_,_=>none
 |d+1,x,K=>match x with
  |.own k=>hK h k fun ob=>match ob with
   |.lst _ e _ rows=>K (.is e rows)
   |.lz _ e dp rows=>bif Nat.ble dp (d+1)then K (.is e rows)else none
   |_=>none
  |.zs dp e rows=>bif Nat.ble dp (d+2)then K (.is e rows)else none
  |.ref k o=>hK h k fun ob=>match ob with
   |.box cs=>fM o cs fun cs=>oF (Fs h d) cs fun cs=>K (.ip cs)
   |_=>none
  |.v x=>K (.v x)
  |.is e rows=>K (.is e rows)
  |.ip cs=>K (.ip cs)
  |_=>none
def Xi (h:aN) (x:PV) (K:PV->aB R):aB R:=match x with
 |.fn f [] cap=>oF (Fs h 4) cap fun c=>K (.fn f [] c)
 |x=>Fs h 4 x K
def Xj (h:aN):aA PV->(aA PV->aB R)->aB R
 |[],K=>K []
 |x::xs,K=>Xi h x fun x=>Xj h xs fun xs=>K (x::xs)
def Xk (h:aN) (x:PV) (K:PV->aB R):aB R:=match x with
 |.agg cs=>Xj h cs fun cs=>K (.agg cs)
 |x=>Xi h x K
def Xl (h:aN):aA PV->(aA PV->aB R)->aB R
 |[],K=>K []
 |x::xs,K=>Xk h x fun x=>Xl h xs fun xs=>K (x::xs)
def rzK (h:aN) (x:PV) (K:PV->aB R):aB R:=match x with
 |.tup vs=>Xl h vs fun vs=>K (.tup vs)
 |.map k=>hK h k fun ob=>match ob with
  |.mp es=>K (.im es)
  |_=>none
 |x=>Xk h x K
def xE (C:qN) (X:NX) (fn:bK) (xs:aA PV) (K:PV->aB R):aB R:=
 bif Nat.ble xs.length fn.ntmps then Fq xs 0 fun e=>eD C X fn.code e [] 0 fun x e h n=>match x with
  |.exit _=>none
  |_=>xD e h n fn.res fun vs=>match vs with
   |[v]=>rzK h v K
   |vs=>rzK h (.tup vs) K
 else none
def Iu (C:qN) (X:NX) (fn:bK) (xs:aA PV) (h:aN) (n:Nat) (K:PV->aN->Nat->aB R):aB R:=
 bif Nat.ble xs.length fn.ntmps then Fq xs 0 fun e=>eD C X fn.code e h n fun x e h n=>match x with
  |.exit _=>none
  |_=>xD e h n fn.res fun vs=>match vs with
   |[v]=>K v h n
   |vs=>K (.tup vs) h n
 else none
def yE:dS->aA Nat->aA PV->(dS->aB R)->aB R
 |e,[],[],K=>K e
 |e,p::ps,x::xs,K=>gE e [p] fun e=>yE ((p,x)::e) ps xs K
 |_,_,_,_=>none
def okG (NF:FuncId->Bool) (N:Nat) (ps:aA Nat) (a b:PC):aB Unit:=if okL NF N ps a b=true then some ()else none
def Xm (C:qN) (X:NX) (k:Nat) (xs:aA PV) (h:aN) (n:Nat) (K:PV->aN->Nat->aB R):aB R:=
 hK h k fun ob=>match ob with
 |.loop N e ps a b false none=>bS (okG X.is N ps a b) fun _=>yE e ps xs fun e=>eD C X a e h n fun x e h n=>match x with
  |.normal=>hK h k fun ob=>match ob with
   |.loop N e' ps a b' false none=>fO h k (.loop N e' ps a b' true none) fun h=>eD C X b e h n fun x _ h n=>hK h k fun ob=>match ob with
    |.loop N e' ps a b' _ _=>match x with
     |.normal=>fO h k (.loop N e' ps a b' false none) fun h=>K (.v (.bool true)) h n
     |.exit i=>fO h k (.loop N e' ps a b' false (some (.exit i))) fun h=>K (.v (.bool false)) h n
     |.ret=>fO h k (.loop N e' ps a b' false (some .ret)) fun h=>K (.v (.bool false)) h n
    |_=>none
   |_=>none
  |_=>none
 |_=>none
abbrev pH:=Nat->aB bK
abbrev Ft:=FuncId->aA PV->aN->Nat->aB (PV×aN×Nat)
structure NB where
 nw:FuncId->Bool
 run:Ft:=fun _ _ _ _=>none
def OX (B:qN) (NF:FuncId->Bool) (NW:NB) (P:pH):Nat->qN×NX
 |0=>(fun f xs=>bif NF f then none else B f xs,⟨NF,NW.nw,fun _ _ _ _ _=>none,fun _ _ _ _ _=>none⟩)
 |d+1=>(fun f xs=>bif NF f then none else match P f with
   |some fn=>bif fn.frz then xE (OX B NF NW P d).1 (OX B NF NW P d).2 fn xs some else(xE (OX B NF NW P d).1 (OX B NF NW P d).2 fn xs some).bind fun v=>bif rY 4 v then none else some v
   |none=>B f xs,
  ⟨NF,NW.nw,fun f xs h n K=>match P f with
   |some fn=>Iu (OX B NF NW P d).1 (OX B NF NW P d).2 fn xs h n K
   |none=>(NW.run f xs h n).bind fun r=>K r.1 r.2.1 r.2.2,fun k xs h n K=>Xm (OX B NF NW P d).1 (OX B NF NW P d).2 k xs h n K⟩)
def Od (B:qN) (NF:FuncId->Bool) (NW:NB) (P:pH) (d:Nat):qN:=(OX B NF NW P d).1
def Xd (B:qN) (NF:FuncId->Bool) (NW:NB) (P:pH) (d:Nat):NX:=(OX B NF NW P d).2
end
def Gw (n:Bool) (fn:bK):IFn:={ntmps:=fn.ntmps,res:=fn.res,body:=hZ fn.code,pure:= !n,frz:= !n&&fn.frz}
section
variable {R:Type}
def tS:aA PV->Nat->dS
 |[],_=>[]
 |x::xs,i=>(i,x)::tS xs (i+1)
theorem xF:∀(xs:aA PV) (i:Nat) (K:dS->aB R),Fq xs i K=K (tS xs i)
 |[],i,K=>rfl
 |x::xs,i,K=>by simp[Fq,Kq,tS,xF xs]
theorem sK:∀(xs:aA PV) (i j:Nat) (v:PV),dK (tS xs i) j=some v->i<=j/\xs[j-i]? =some v
 |[],i,j,v,h=>by simp[tS,dK]at h
 |x::xs,i,j,v,h=>by
  simp only[tS,dK]at h
  split at h
  grind
  obtain⟨h1,h2⟩:=sK xs (i+1) j v h
  refine⟨by omega,?_⟩
  rw[show j-i=(j-(i+1))+1 by omega]
  simpa using h2
variable {C:Cx} {n:Nat} {h:aN} {lim:Nat} {s:Hp} {e:dS} {t:List AV}
theorem Fu {k:dQ} {y:AV} {K:PV->aN->Nat->aB R} {r:R} (hs:zN C n h s k [y] K r):
  ∃w z,K w h n=some r/\(doOp (Sim.look s.h) 0 0 k [y]).map (·.v)=some z/\RV C w z:=by
 obtain⟨w,z,h1,h2,a⟩:=hs;exact⟨w,z,a,by rw[h1 0 0];rfl,h2⟩
theorem qZ (b:cA C n h lim s) (he:cP C e t):∀{g:aA Sim.RV} {K:aA PV->aB R} {r:R},xD e h n g K=some r->
  ∃vs a,K vs=some r/\mapO (Sim.readRes (Sim.look s.h) t) g=some a/\LR (RV C) vs a
 |[],K,r,hk=>⟨[],[],hk,rfl,.nil⟩
 |.tmp i::g,K,r,hk=>by
  unfold xD at hk
  rw[eP,jN2]at hk
  obtain⟨v,hv,hk⟩:=hk
  obtain⟨y,h1,h2⟩:=he i v hv
  obtain⟨vs,a,c,d,f⟩:=qZ b he hk
  exact⟨_,y::a,c,by simp[mapO,Sim.readRes,h1,d],.cons h2 f⟩
 |.cellS i::g,K,r,hk=>by
  unfold xD at hk
  rw[eP,jN2]at hk
  obtain⟨v,hv,hk⟩:=hk
  obtain⟨y,h1,h2⟩:=he i v hv
  obtain⟨w,z,q1,q2,q3⟩:=Fu (wN b (.cons h2 .nil) hk)
  obtain⟨vs,a,c,d,f⟩:=qZ b he q1
  exact⟨_,z::a,c,by simp only[mapO,Sim.readRes,h1,q2,d],.cons q3 f⟩
 |.cellA i m::g,K,r,hk=>by
  unfold xD at hk
  rw[eP,jN2]at hk
  obtain⟨v,hv,hk⟩:=hk
  obtain⟨y,h1,h2⟩:=he i v hv
  obtain⟨w,z,q1,q2,q3⟩:=Fu (wO b (.cons h2 .nil) hk)
  obtain⟨vs,a,c,d,f⟩:=qZ b he q1
  exact⟨_,z::a,c,by simp only[mapO,Sim.readRes,h1,q2,d],.cons q3 f⟩
theorem Xn {L:Nat->aB AO} {d id ver e o:Nat} {bx:Bool} {ty:TypeId} {esz:Nat} {els:aA (aA AV)} {row cs:aA AV} (a:L id=some (.arr bx ty esz ver els)) (hr:els[e]? =some row) (hc:mapO (lI L 0 d) (row.drop o)=some cs):lI L 0 (d+1) (.ptr id ver e o)=some (.ip cs):=by
 simp[lI,a,hr,hc]
theorem Bn (i:cA C n h lim s):∀(d:Nat) (x:PV) (y:AV) (K:PV->aB R) (r:R),Fs h d x K=some r->RV C x y->∃B z,K B=some r/\lI (Sim.look s.h) 0 (d+2) y=some z/\RC false B z
 |0,x,y,K,r,hk,_=>by unfold Fs at hk;exact aD hk
 |d+1,x,y,K,r,hk,hv=>by
  unfold Fs at hk
  cases x with
  |own k=>
   simp only[dX,jN2]at hk
   obtain⟨ob,hg,hk⟩:=hk
   cases ob with
   |lst ty e g rows=>
    rcases kE hv with⟨id,ver,D,len,c,rfl⟩|⟨c,rfl⟩
    obtain⟨_,rfl,hlen,els,p,hr,u,_⟩:=gZ i hg c
    subst hlen
    exact⟨_,_,hk,Kw (d:=d+1) (kS2 _) p hr u,hr.is⟩
    have:=iX i hg c
    subst this
    exact⟨_,_,hk,rfl,.isn⟩
   |lz ty e dp rows=>
    cases hb:Nat.ble dp (d+1)with
    |false=>simp only[hb,kQ2]at hk;exact aD hk
    |true=>
    simp only[hb,kD2]at hk
    have hb:=jZ2 hb
    rcases kE hv with⟨id,ver,D,len,c,rfl⟩|⟨c,rfl⟩
    obtain⟨_,_,rfl,hlen,_,els,p,hr⟩:=tO i hg c
    subst hlen
    obtain⟨A,m,j⟩:=dQ1 (n0:=0) (f:=d+2) (fun id o w=>⟨kS2 _,(i.hr.zr id o w).1⟩) (by omega) (kS2 _) p hr
    exact⟨_,_,hk,m,j.is⟩
    have:=sF i hg c
    subst this
    exact⟨_,_,hk,rfl,.isn⟩
   |_=>exact aD hk
  |zs dp e rows=>
   cases hb:Nat.ble dp (d+2)with
   |false=>simp only[hb,kQ2]at hk;exact aD hk
   |true=>
   simp only[hb,kD2]at hk
   have hb:=jZ2 hb
   obtain⟨z,m,j⟩:=Kx (L:=Sim.look s.h) (n0:=0) (fun id o w=>⟨kS2 _,(i.hr.zr id o w).1⟩) dp (d+3) (by omega) _ _ (zL hv)
   exact⟨_,_,hk,m,j.weak⟩
  |ref k o=>
   simp only[dX,jN2]at hk
   obtain⟨ob,hg,hk⟩:=hk
   cases ob with
   |box cs=>
    obtain⟨m,j⟩:=dG _ _ _ _ hk
    obtain⟨id,ver,e,len,c,rfl⟩:=iP hv
    obtain⟨_,ty,esz,row,p,hl⟩:=pC i hg c
    have l:∀(xs:aA PV) (ys:aA AV) (K:aA PV->aB R) (r:R),oF (Fs h d) xs K=some r->LR (RV C) xs ys->
      ∃xs' b,K xs'=some r/\mapO (lI (Sim.look s.h) 0 (d+2)) ys=some b/\LR (RC false) xs' b:=by
     intro xs
     induction xs with
     |nil=>
      intro ys K r hk hl;rw[hl.inv_nil];unfold oF at hk;exact⟨[],[],hk,rfl,.nil⟩
     |cons a as ih=>
      intro ys K r hk hl;obtain⟨y,b,rfl,h1,h2⟩:=hl.inv_cons;unfold oF at hk;obtain⟨a',b',m,j,E⟩:=Bn i d a y _ r hk h1;obtain⟨q,t,q1,q2,q3⟩:=ih b _ r m h2;exact⟨a'::q,b'::t,q1,by simp only[mapO,j,q2],.cons E q3⟩
    obtain⟨xs',b,q1,q2,q3⟩:=l _ _ _ r j (hl.drop o);refine⟨_,.ip b,q1,?_,.ip q3.1 q3.2⟩;exact Xn p rfl q2
   |_=>exact aD hk
  |v x=>
   rw[dY hv];exact⟨_,_,hk,rfl,.v x⟩
  |is e rows=>
   rcases wJ hv with⟨rows',rfl,hr⟩|⟨rfl,rfl⟩
   exact⟨_,_,hk,rfl,hr.is⟩;exact⟨_,_,hk,rfl,.isn⟩
  |ip cs=>
   obtain⟨cs',rfl,hl⟩:=zK hv;exact⟨_,_,hk,rfl,.ip hl.1 hl.2⟩
  |_=>exact aD hk
theorem Np {L:Nat->aB AO} {y c:AV} (h:lI L 0 6 y=some c):Pn L 0 y=some c:=by
 cases y with
 |sl=>simp only[Pn,Nat.not_lt_zero,kU2];exact h
 |ptr=>simp only[Pn,Nat.not_lt_zero,kU2];exact h
 |map=>simp[lI]at h
 |fn v a b=>simp[lI]at h
 |_=>exact h
theorem Nq {L:Nat->aB AO} {y a:AV} (h:Pn L 0 y=some a) (hy:∀cs,y≠.agg cs):xT L 0 y=some a:=by
 cases y with
 |agg cs=>exact absurd rfl (hy cs)
 |_=>exact h
theorem Sy {L:Nat->aB AO} {y a:AV} (h:xT L 0 y=some a) (hy:∀cs,y≠.tup cs) (b:∀id,y≠.map id):fz L 0 y=some a:=by
 cases y with
 |tup cs=>exact absurd rfl (hy cs)
 |map id=>exact absurd rfl (b id)
 |_=>exact h
theorem Fv (f:cA C n h lim s) (d:Nat):∀(xs:aA PV) (ys:aA AV) (K:aA PV->aB R) (r:R),oF (Fs h d) xs K=some r->LR (RV C) xs ys->
  ∃xs' b,K xs'=some r/\mapO (lI (Sim.look s.h) 0 (d+2)) ys=some b/\LR (RC false) xs' b
 |[],ys,K,r,hk,hl=>by
  rw[hl.inv_nil]
  unfold oF at hk
  exact⟨[],[],hk,rfl,.nil⟩
 |a::as,ys,K,r,hk,hl=>by
  obtain⟨y,b,rfl,h1,h2⟩:=hl.inv_cons
  unfold oF at hk
  obtain⟨a',b',g,i,j⟩:=Bn f d a y _ r hk h1
  obtain⟨c,e,q1,q2,q3⟩:=Fv f d as b _ r g h2
  exact⟨a'::c,b'::e,q1,by simp only[mapO,i,q2],.cons j q3⟩
theorem Le (d:cA C n h lim s) {x:PV} {y:AV} {K:PV->aB R} {r:R} (hk:Xi h x K=some r) (hv:RV C x y):∃a b,K a=some r/\Pn (Sim.look s.h) 0 y=some b/\RC false a b:=by
 unfold Xi at hk;split at hk;rename_i f cap;obtain⟨a',b',rfl,h1,h2⟩:=tN hv;rw[h1.inv_nil];obtain⟨xs',c,q1,q2,q3⟩:=Fv d 4 _ _ _ r hk h2;exact⟨.fn f [] xs',.fn (.func f) [] c,q1,by simp only[Pn,q2,kL2],.fn rfl q3.1 (fun j x y h=>by simp at h) q3.2⟩;obtain⟨a,b,h1,h2,e⟩:=Bn d 4 x y K r hk hv;exact⟨a,b,h1,Np h2,e⟩
theorem Fw (d:cA C n h lim s):∀{xs:aA PV} {ys:aA AV} {K:aA PV->aB R} {r:R},Xj h xs K=some r->LR (RV C) xs ys->∃xs' a,K xs'=some r/\mapO (Pn (Sim.look s.h) 0) ys=some a/\LR (RC false) xs' a
 |[],ys,K,r,hk,hl=>by rw[hl.inv_nil];exact⟨[],[],hk,rfl,.nil⟩
 |x::xs,ys,K,r,hk,hl=>by
  obtain⟨y,a,rfl,h1,h2⟩:=hl.inv_cons
  unfold Xj at hk
  obtain⟨a',b',e,f,g⟩:=Le d hk h1
  obtain⟨b,c,q1,q2,q3⟩:=Fw d e h2
  exact⟨a'::b,b'::c,q1,by simp only[mapO,f,q2],.cons g q3⟩
theorem Nr {x:PV} {y:AV} (hv:RV C x y) (a:∀cs,x≠.agg cs) (b:x≠.undef):∀cs,y≠.agg cs:=by
 intro cs hy;subst hy;cases hv with
 |cl h=>cases h;exact a _ rfl
 |undef=>exact b rfl
 |ownn _ hy=>cases hy
 |agg=>exact a _ rfl
 |zs h=>rcases zM h with(⟨_,h,_⟩|⟨_,h⟩)|⟨_,_,_,_,_,_,h,_⟩<;>cases h
theorem Ns {x:PV} {y:AV} (hv:RV C x y) (a:∀cs,x≠.tup cs) (b:x≠.undef):∀cs,y≠.tup cs:=by
 intro cs hy;subst hy;cases hv with
 |cl h=>cases h;exact a _ rfl
 |undef=>exact b rfl
 |ownn _ hy=>cases hy
 |tup=>exact a _ rfl
 |zs h=>rcases zM h with(⟨_,h,_⟩|⟨_,h⟩)|⟨_,_,_,_,_,_,h,_⟩<;>cases h
theorem Nt {x:PV} {y:AV} (hv:RV C x y) (b:∀k,x≠.map k) (c:∀es,x≠.zm es) (a:x≠.undef):∀id,y≠.map id:=by
 intro id hy;subst hy;cases hv with
 |cl h=>cases h
 |undef=>exact a rfl
 |ownn _ hy=>cases hy
 |map=>exact b _ rfl
 |zs h=>rcases zM h with(⟨_,h,_⟩|⟨_,h⟩)|⟨_,_,_,_,_,_,h,_⟩<;>cases h
 |zm=>exact c _ rfl
theorem Lf (d:cA C n h lim s) {x:PV} {y:AV} {K:PV->aB R} {r:R} (hk:Xk h x K=some r) (hv:RV C x y):∃a b,K a=some r/\xT (Sim.look s.h) 0 y=some b/\RC false a b:=by
 unfold Xk at hk;split at hk;rename_i cs;obtain⟨cs',rfl,hl⟩:=kP hv;obtain⟨xs',c,j,k,f⟩:=Fw d hk hl;exact⟨_,.agg c,j,by simp only[xT,k,kL2],.agg f.1 f.2⟩;rename_i i;obtain⟨a,b,h1,h2,g⟩:=Le d hk hv;by_cases e:x=.undef;subst e;exact aD hk;exact⟨a,b,h1,Nq h2 (Nr hv i e),g⟩
theorem Fx (d:cA C n h lim s):∀{xs:aA PV} {ys:aA AV} {K:aA PV->aB R} {r:R},Xl h xs K=some r->LR (RV C) xs ys->∃xs' a,K xs'=some r/\mapO (xT (Sim.look s.h) 0) ys=some a/\LR (RC false) xs' a
 |[],ys,K,r,hk,hl=>by rw[hl.inv_nil];exact⟨[],[],hk,rfl,.nil⟩
 |x::xs,ys,K,r,hk,hl=>by
  obtain⟨y,a,rfl,h1,h2⟩:=hl.inv_cons
  unfold Xl at hk
  obtain⟨a',b',e,f,g⟩:=Lf d hk h1
  obtain⟨b,c,q1,q2,q3⟩:=Fx d e h2
  exact⟨a'::b,b'::c,q1,by simp only[mapO,f,q2],.cons g q3⟩
theorem Sz (c:cA C n h lim s) {x:PV} {y:AV} {K:PV->aB R} {r:R} (hk:rzK h x K=some r) (hv:RV C x y):∃a b,K a=some r/\fz (Sim.look s.h) 0 y=some b/\RC false a b:=by
 unfold rzK at hk;split at hk;rename_i vs;obtain⟨cs',rfl,hl⟩:=Il hv;obtain⟨xs',f,p,q,g⟩:=Fx c hk hl;exact⟨_,.tup f,p,by simp only[fz,q,kL2],.tup g.1 g.2⟩;rename_i k;rw[dX,jN2]at hk;obtain⟨ob,hg,hk⟩:=hk;cases ob with
 |mp es=>
  obtain⟨id,ver,e,len,j,rfl⟩:=sB hv;obtain⟨_,es',l,he⟩:=Fa c hg j;refine⟨_,.im es',hk,?_,he.er.im⟩;simp only[fz,Nat.not_lt_zero,kU2,l];exact congrArg (Option.map AV.im) (Si he)
 |_=>exact aD hk
 rename_i o m;obtain⟨a,b,h1,h2,i⟩:=Lf c hk hv;by_cases d:x=.undef;subst d;exact aD hk;exact⟨a,b,h1,Sy h2 (Ns hv o d) (Nt hv m (fun es he=>by subst he;exact aD hk) d),i⟩
variable {T:gA} {O:qN} {X:NX}
theorem Fy (B:∀f xs v,O f xs=some v->lC T f xs v) (C:NOK T X) {fn:bK} (m:qY X.is fn.ntmps false fn.code=true) {xs:aA PV} {ys:aA AV} {v:PV} (hl:LR (RC false) xs ys) (hk:xE O X fn xs some=some v):
  ∃D,∀d,D<=d->∃w s' y,Sim.body (exec T d) 0 (Gw false fn) ys {h:=[],n:=0}=some (w,s')/\Sim.fz (Sim.look s'.h) 0 w=some y/\RC false v y:=by
 unfold xE at hk;cases c:Nat.ble xs.length fn.ntmps with
 |false=>rw[c]at hk;exact aD hk
 |true=>
  rw[c,kD2,xF]at hk;have c:xs.length<=fn.ntmps:=by simpa[Nat.ble_eq]using c
  have hlen:=hl.1;have A:cA ⟨fun _=>none,fun _=>none⟩ 0 [] 0 ({h:=[],n:=0}:Hp):=⟨⟨fun k po h=>by simp[aK]at h,fun k k' id v e l v' e' l' a=>absurd rfl a,fun id o h=>by cases h⟩,fun k pl h=>(by cases h),trivial,jR2 _⟩
  have he:cP ⟨fun _=>none,fun _=>none⟩ (tS xs 0) (ys++List.replicate (fn.ntmps-ys.length) .undef):=fun i v hv=>by
   obtain⟨_,h2⟩:=sK xs 0 i v hv;obtain⟨y,r,z⟩:=hl.get (by simpa using h2);exact⟨y,by rw[mK2 (jP2.1 r).1];exact r,.cl z⟩
  obtain⟨x,e',h',n',C',H,s',q1,q2,q3,q4,q5,q6,D,q7⟩:=dI (T:=T) (rd:=false) (lim:=0) (N:=fn.ntmps) B C fn.code _ v _ 0 [] _ (ys++List.replicate (fn.ntmps-ys.length) .undef) _ hk he A (by simp;omega) m
  have fin:(∀i,x≠.exit i)->(xD e' h' n' fn.res fun vs=>match vs with|[v]=>rzK h' v some|vs=>rzK h' (.tup vs) some)=some v->
    ∃D,∀d,D<=d->∃w s' y,Sim.body (exec T d) 0 (Gw false fn) ys {h:=[],n:=0}=some (w,s')/\Sim.fz (Sim.look s'.h) 0 w=some y/\RC false v y:=by
   intro E hr;obtain⟨vs,u,p,s,g⟩:=qZ q3 q2 hr
   obtain⟨w,y,p1,p2,p3⟩:∃w y,Sim.results (Sim.look s'.h) H fn.res=some w/\Sim.fz (Sim.look s'.h) 0 w=some y/\RC false v y:=by
    split at p;rename_i v1;obtain⟨w,J,rfl,F,G⟩:=g.inv_cons;have:=G.inv_nil;subst this;obtain⟨K,q,z1,z2,z3⟩:=Sz q3 p F;cases z1;exact⟨w,q,by simp only[Sim.results,s],z2,z3⟩;rename_i j;obtain⟨K,q,z1,z2,z3⟩:=Sz q3 p (y:=.tup u) (.tup g.1 g.2);cases z1;refine⟨.tup u,q,?_,z2,z3⟩;simp only[Sim.results,s];split;rename_i w hw;cases hw;have:=g.1;rcases vs with _|⟨a,_|⟨b,t⟩⟩<;>simp at this;exact absurd rfl (j a)
    grind
    grind
   refine⟨D,fun d hd=>⟨w,s',y,?_,p2,p3⟩⟩;simp only[Sim.body,Gw,q7 d hd];cases x with
   |exit i=>exact absurd rfl (E i)
   |normal=>simp only[p1,kL2]
   |ret=>simp only[p1,kL2]
  cases x with
  |exit i=>exact aD q1
  |normal=>exact fin (fun i h=>by cases h) q1
  |ret=>exact fin (fun i h=>by cases h) q1
theorem Lg (q:∀f xs v,O f xs=some v->lC T f xs v) (u:NOK T X) {fn:bK} (j:qY X.is fn.ntmps false fn.code=true) {xs:aA PV} {ys:aA AV} {h:aN} {n:Nat} {K:PV->aN->Nat->aB R} {r:R} {C:Cx} {s:Hp} {lim:Nat}
  (hk:Iu O X fn xs h n K=some r) (hl:LR (RV C) xs ys) (p:cA C n h lim s):
  ∃v h' n' C' y s',K v h' n'=some r/\RV C' v y/\cA C' n' h' lim s'/\n<=n'/\Fr C h s C' h' s'/\∃D,∀d,D<=d->Sim.body (exec T d) lim (Gw true fn) ys s=some (y,s'):=by
 unfold Iu at hk;cases c:Nat.ble xs.length fn.ntmps with
 |false=>rw[c]at hk;exact aD hk
 |true=>
  rw[c,kD2,xF]at hk;have c:xs.length<=fn.ntmps:=by simpa[Nat.ble_eq]using c
  have hlen:=hl.1
  have he:cP C (tS xs 0) (ys++List.replicate (fn.ntmps-ys.length) .undef):=fun i v hv=>by
   obtain⟨_,h2⟩:=sK xs 0 i v hv;obtain⟨y,l,o⟩:=hl.get (by simpa using h2);exact⟨y,by rw[mK2 (jP2.1 l).1];exact l,o⟩
  obtain⟨x,e',h',n',C',E,s',q1,q2,q3,q4,q5,q6,D,q7⟩:=dI (T:=T) (rd:=false) (lim:=lim) (N:=fn.ntmps) q u fn.code _ r _ n h _ (ys++List.replicate (fn.ntmps-ys.length) .undef) s hk he p (by simp;omega) j
  have fin:(∀i,x≠.exit i)->(xD e' h' n' fn.res fun vs=>match vs with|[v]=>K v h' n'|vs=>K (.tup vs) h' n')=some r->
    ∃v h' n' C' y s',K v h' n'=some r/\RV C' v y/\cA C' n' h' lim s'/\n<=n'/\Fr C h s C' h' s'/\∃D,∀d,D<=d->Sim.body (exec T d) lim (Gw true fn) ys s=some (y,s'):=by
   intro z hr;obtain⟨vs,F,k,m,e⟩:=qZ q3 q2 hr
   obtain⟨v,w,p1,p2,p3⟩:∃v w,K v h' n'=some r/\Sim.results (Sim.look s'.h) E fn.res=some w/\RV C' v w:=by
    split at k;rename_i v1;obtain⟨w,G,rfl,A,B⟩:=e.inv_cons;have:=B.inv_nil;subst this;exact⟨v1,w,k,by simp only[Sim.results,m],A⟩;rename_i g;refine⟨.tup vs,.tup F,k,?_,.tup e.1 e.2⟩;simp only[Sim.results,m];split;rename_i w hw;cases hw;have:=e.1;rcases vs with _|⟨a,_|⟨b,t⟩⟩<;>simp at this;exact absurd rfl (g a)
    grind
    grind
   refine⟨v,h',n',C',w,s',p1,p3,q3,q5,q6,D,fun d hd=>?_⟩;simp only[Sim.body,Gw,q7 d hd];cases x with
   |exit i=>exact absurd rfl (z i)
   |normal=>simp only[p2,kL2]
   |ret=>simp only[p2,kL2]
  cases x with
  |exit i=>exact aD q1
  |normal=>exact fin (fun i h=>by cases h) q1
  |ret=>exact fin (fun i h=>by cases h) q1
theorem Fz {C:Cx}:∀{ps:aA Nat} {xs:aA PV} {ys:aA AV} {e:dS} {t:aA AV} {K:dS->aB R} {r:R},yE e ps xs K=some r->cP C e t->LR (RV C) xs ys->ps.all (fun p=>Nat.blt p t.length)=true->
  ∃e',K e'=some r/\cP C e' (Sim.putAll t ps ys)/\ps.length=ys.length/\(Sim.putAll t ps ys).length=t.length
 |[],[],ys,e,t,K,r,hk,he,hl,_=>by
  rw[hl.inv_nil]
  exact⟨e,by unfold yE at hk;exact hk,he,rfl,rfl⟩
 |p::ps,x::xs,ys,e,t,K,r,hk,he,hl,hp=>by
  obtain⟨y,h,rfl,h1,h2⟩:=hl.inv_cons
  unfold yE at hk
  rw[dL]at hk
  simp only[lO2,jO2,lW2]at hp
  have a:cP C ((p,x)::edel e [p]) (t.set p y):=.put hp.1 h1 (fun i w hw=>by
   obtain⟨z,p1,p2,p3⟩:=he.edel [p] i w hw
   exact⟨z,p1,p2,fun b=>p3 (by simp[b])⟩)
  obtain⟨e2,c,d,f,g⟩:=Fz hk a h2 (by simpa using hp.2)
  exact⟨e2,c,d,by simp[f],by simpa[Sim.putAll]using g⟩
 |[],_::_,_,_,_,_,_,hk,_,_,_=>by unfold yE at hk;exact aD hk
 |_::_,[],_,_,_,_,_,hk,_,_,_=>by unfold yE at hk;exact aD hk
theorem Xo (hO:∀f xs v,O f xs=some v->lC T f xs v) (hX:NOK T X) {k:Nat} {xs:aA PV} {ys:aA AV} {h:aN} {n:Nat} {K:PV->aN->Nat->aB R} {r:R} {C:Cx} {s:Hp} {lim id ver e1 len:Nat}
  (hk:Xm O X k xs h n K=some r) (hl:LR (RV C) xs ys) (hC:C k=some (.atp id ver e1 len)) (hM:cA C n h lim s):
  ∃v h' n' C' y s',K v h' n'=some r/\RV C' v y/\cA C' n' h' lim s'/\n<=n'/\Fr C h s C' h' s'/\∃D,∀d,D<=d->Sim.round (exec T d) lim id ys s=some (y,s'):=by
 unfold Xm at hk;rw[dX,jN2]at hk;obtain⟨ob,L,hk⟩:=hk;split at hk
 .rename_i N e ps a b
  rw[bL,jN2]at hk;obtain⟨_,o,hk⟩:=hk;unfold okG at o;split at o
  .rename_i g
   unfold okL at g;rw[jO2,jO2]at g;have o1:=g.1.1;have o2:=g.1.2;have o3:=g.2;clear o g;obtain⟨J,st,pend,tmps,g1,g2,g3,g4⟩:=uK hM L hC;obtain⟨rfl,rfl⟩:=g4;subst g2;obtain⟨e2,hk,he,W,Y⟩:=Fz hk g3 hl o1;obtain⟨x,e',h1,n1,C1,t1,P,q1,q2,q3,q4,q5,q6,D1,q7⟩:=dI (T:=T) (rd:=true) (lim:=lim) (N:=tmps.length) hO hX a _ r _ n h _ _ s hk he hM Y o2;cases x with
   |exit i=>exact aD q1
   |ret=>exact aD q1
   |normal=>
   simp only[dX,jN2]at q1;obtain⟨p,l,q1⟩:=q1
   have place:∀{C1:Cx} {h1:aN} {P:Hp} {p:fG},Fr C h s C1 h1 P->aK h1 k=some p->eE p=true->C1 k=some (.atp id ver e1 len):=fun{C1 h1 P p} hf hg hb=>by
    obtain⟨o',p1,p2⟩:=hf.kd k _ L;rw[hg]at p1;cases p1;rw[(p2 hb).2,hC]
   split at q1
   .rename_i N2 V E a2 b2
    have z:=place q6 l rfl;obtain⟨_,st,pend,j,w1,w2,w3,w4⟩:=uK q3 l z;obtain⟨rfl,rfl⟩:=w4;subst w2;have q1:=dH _ _ _ _ _ q1;have u:=(q3.hr.lt (by rw[l];simp) z)
    obtain⟨m1,m2⟩:=pB q3 (po':=.loop j.length V E a2 b2 true none) (ao:=.loop .busy none j E (hZ a2) (hZ b2)) l z ⟨u.1,u.2,.busy,none,j,by rw[Sim.look_upd,jX2 ⟨rfl,by rw[w1];rfl⟩],rfl,w3,rfl⟩ rfl;obtain⟨x2,e3,h2,n2,C2,t2,S,z1,z2,z3,z4,z5,z6,D2,z7⟩:=dI (T:=T) (rd:=true) (lim:=lim) (N:=tmps.length) hO hX b _ r _ n1 _ _ _ _ q1 q2 m1 q4 o3;simp only[jN2]at z1;obtain⟨b4,m,z1⟩:=z1;have G:=(q6.trans m2).trans z6;split at z1
    .rename_i N3 F q a3 b3 U b0
     have A:=place G m rfl;obtain⟨_,b5,a0,c,v1,v2,v3,v4⟩:=uK z3 m A;subst v2;have w:=(z3.hr.lt (by rw[m];simp) A)
     have fin:∀(fn:aB Ex) (st:LoopState) (B:aB IC) (bv:Bool),StR false fn st B->(fO h2 k (.loop c.length F q a3 b3 false fn) fun h=>K (.v (.bool bv)) h n2)=some r->
       (∀s',Sim.endRound id S st B=some s'->∀d,D2<=d->(match exec T d lim true (hZ b) {t:=t1,s:={h:=upd P.h id (.loop .busy none j E (hZ a2) (hZ b2)),n:=P.n}}with
        |some (.normal,τ)=>(Sim.endRound id τ.s .ready none).map fun s=>(AV.bool true,s)
        |some (.ret,τ)=>(Sim.endRound id τ.s .done (some .ret)).map fun s=>(AV.bool false,s)
        |some (.exit i,τ)=>(Sim.endRound id τ.s .done (some (.exit i))).map fun s=>(AV.bool false,s)
        |none=>none)=some (AV.bool bv,s'))->
       ∃v h' n' C' y s',K v h' n'=some r/\RV C' v y/\cA C' n' h' lim s'/\n<=n'/\Fr C h s C' h' s'/\∃D,∀d,D<=d->Sim.round (exec T d) lim id ys s=some (y,s'):=by
      intro fn st B bv Z hk M;have hk:=dH _ _ _ _ _ hk;obtain⟨m3,m4⟩:=pB z3 (po':=.loop c.length F q a3 b3 false fn) (ao:=.loop st B c q (hZ a3) (hZ b3)) m A ⟨w.1,w.2,st,B,c,by rw[Sim.look_upd,jX2 ⟨rfl,by rw[v1];rfl⟩],rfl,v3,Z⟩ rfl;refine⟨_,_,_,_,.v (.bool bv),_,hk,.cl (.v _),m3,by omega,G.trans m4,D1+D2,fun d hd=>?_⟩;have H:Sim.endRound id S st B=some {h:=upd S.h id (.loop st B c q (hZ a3) (hZ b3)),n:=S.n}:=by simp only[Sim.endRound,v1]
      simp only[Sim.round,g1];rw[jX2 ⟨J,W⟩,q7 d (by omega)];simp only[w1];exact M _ H d (by omega)
     cases x2 with
     |normal=>exact fin none .ready none true ⟨rfl,rfl⟩ z1 (fun s' hs' d hd=>by rw[z7 d hd];simp only[hs',kL2])
     |exit i=>exact fin (some (.exit i)) .done (some (.exit i)) false ⟨rfl,rfl⟩ z1 (fun s' hs' d hd=>by rw[z7 d hd];simp only[hs',kL2])
     |ret=>exact fin (some .ret) .done (some .ret) false ⟨rfl,rfl⟩ z1 (fun s' hs' d hd=>by rw[z7 d hd];simp only[hs',kL2])
    .exact aD z1
   .exact aD q1
  .cases o
 .exact aD hk
theorem Ga {B:qN} {NF:FuncId->Bool} {NW:NB} {P:pH} (d:Nat):(OX B NF NW P d).2.is=NF:=by cases d<;>rfl
theorem Bo {f:FuncId} {ifn:IFn} {ys:aA AV} {v:PV} (b:T.memo f ys=none) (h:∃D,∀d,D<=d->∃w s' y,Sim.body (exec T d) 0 ifn ys {h:=[],n:=0}=some (w,s')/\Sim.fz (Sim.look s'.h) 0 w=some y/\RC false v y):
  ∃D,∀d,D<=d->∃y,Sim.runP T (exec T d) f ifn ys=some y/\RC false v y:=by
 obtain⟨D,a⟩:=h;refine⟨D,fun d hd=>?_⟩;obtain⟨w,s',y,c,e,g⟩:=a d hd;exact⟨y,by simp only[Sim.runP,b,c,e],g⟩
def yF (T:gA) (NF:FuncId->Bool) (P:pH) (run:Ft):Prop:=∀(f:FuncId) (xs:aA PV) (h:aN) (n:Nat) (v:PV) (h':aN) (n':Nat) (C:Cx) (s:Hp) (lim:Nat) (ys:aA AV),
 NF f=true->P f=none->run f xs h n=some (v,h',n')->LR (RV C) xs ys->cA C n h lim s->
 ∃C' y s',RV C' v y/\cA C' n' h' lim s'/\n<=n'/\Fr C h s C' h' s'/\(∃ifn,T f=some ifn/\ifn.pure=false/\ifn.frz=false)/\∃D,∀d,D<=d->Sim.callF T (exec T d) lim f ys s=some (y,s')
theorem Ta {B:qN} {NF:FuncId->Bool} {NW:NB} {P:pH} (l:∀f xs v,NF f=false->B f xs=some v->lC T f xs v) (p:yF T NF P NW.run) (m:∀f fn,P f=some fn->T f=some (Gw (NF f) fn)/\qY NF fn.ntmps false fn.code=true/\∀ys,T.memo f ys=none):
  ∀d,(∀f xs v,(OX B NF NW P d).1 f xs=some v->lC T f xs v)/\NOK T (OX B NF NW P d).2
 |0=>⟨fun f xs v h=>by
   simp only[OX]at h
   cases hn:NF f with
   |true=>rw[hn]at h;exact aD h
   |false=>rw[hn]at h;exact l f xs v hn h,⟨fun f xs h n K r C s lim ys c hk=>by simp[OX]at hk,fun k xs h n K r C s lim ys id ver e len hk=>by simp[OX]at hk⟩⟩
 |d+1=>by
  obtain⟨g,i⟩:=Ta l p m d
  refine⟨fun f xs v h=>?_,⟨fun f xs h n K r C s lim ys c hk hl b=>?_,fun k xs h n K r C s lim ys id ver e len hk hl t b=>?_⟩⟩
  simp only[OX]at h
  cases hn:NF f with
  |true=>rw[hn]at h;exact aD h
  |false=>
   rw[hn,kQ2]at h
   split at h
   rename_i fn a
   obtain⟨h1,h2,j⟩:=m f fn a
   rw[hn]at h1
   cases hz:fn.frz with
   |true=>
    rw[hz,kD2]at h
    exact⟨Gw false fn,h1,rfl,fun _=>by simp[Gw,hz],fun ys hl=>Bo (j ys) (Fy g i (by rw[Ga];exact h2) hl h)⟩
   |false=>
    rw[hz,kQ2,jN2]at h
    obtain⟨v',h,hg⟩:=h
    cases hq:rY 4 v' with
    |true=>rw[hq]at hg;exact aD hg
    |false=>
     rw[hq]at hg
     cases hg
     exact⟨Gw false fn,h1,rfl,fun q=>(by rw[hq]at q;cases q),fun ys hl=>Bo (j ys) (Fy g i (by rw[Ga];exact h2) hl h)⟩
   exact l f xs v hn h
  simp only[OX]at c hk
  split at hk
  rename_i fn a
  obtain⟨h1,h2,j⟩:=m f fn a
  rw[c]at h1
  obtain⟨v,h',n',C',y,s',p1,p2,p3,p4,p5,D,p6⟩:=Lg g i (by rw[Ga];exact h2) hk hl b
  refine⟨v,h',n',C',y,s',p1,p2,p3,p4,p5,⟨_,h1,rfl,rfl⟩,D,fun d hd=>?_⟩
  simp only[Sim.callF,h1]
  exact p6 d hd
  rename_i a
  rw[jN2]at hk
  obtain⟨⟨v,h',n'⟩,o,hk⟩:=hk
  obtain⟨C',y,s',p2,p3,p4,p5,p6,p7⟩:=p f xs h n v h' n' C s lim ys c a o hl b
  exact⟨v,h',n',C',y,s',hk,p2,p3,p4,p5,p6,p7⟩
  simp only[OX]at hk
  exact Xo g i hk hl t b
theorem dS1 {B:qN} {NF:FuncId->Bool} {NW:NB} {P:pH} (a:∀f xs v,NF f=false->B f xs=some v->lC T f xs v) (b:yF T NF P NW.run) (c:∀f fn,P f=some fn->T f=some (Gw (NF f) fn)/\qY NF fn.ntmps false fn.code=true/\∀ys,T.memo f ys=none) (d:Nat) (f:FuncId) (xs:aA PV) (v:PV) (h:Od B NF NW P d f xs=some v):lC T f xs v:=(Ta a b c d).1 f xs v h
theorem kE1 {B:qN} {NF:FuncId->Bool} {NW:NB} {P:pH} {f:FuncId} {fn:bK} (a:NF f=false) (h:P f=some fn) (b:fn.frz=true) (d:Nat) (xs:aA PV):Od B NF NW P (d+1) f xs=xE (Od B NF NW P d) (Xd B NF NW P d) fn xs some:=by
 simp only[Od,Xd,OX,h,a,b,kQ2,kD2]
theorem kF1 {R:Type} {B:qN} {NF:FuncId->Bool} {NW:NB} {P:pH} {f:FuncId} {fn:bK} (h:P f=some fn) (d:Nat) (xs:aA PV) (a:aN) (n:Nat) (K:PV->aN->Nat->aB R):(Xd B NF NW P (d+1)).run f xs a n K=Iu (Od B NF NW P d) (Xd B NF NW P d) fn xs a n K:=by
 simp only[Od,Xd,OX,h]
theorem Xp {R:Type} {B:qN} {NF:FuncId->Bool} {NW:NB} {P:pH} {f:FuncId} (h:P f=none) (d:Nat) (xs:aA PV) (a:aN) (n:Nat) (K:PV->aN->Nat->aB R):(Xd B NF NW P (d+1)).run f xs a n K=(NW.run f xs a n).bind fun r=>K r.1 r.2.1 r.2.2:=by
 simp only[Xd,OX,h]
theorem Lh {B:qN} {NF:FuncId->Bool} {NW:NB} {P:pH} {f:FuncId} (a:NF f=false) (h:P f=none) (d:Nat) (xs:aA PV):Od B NF NW P d f xs=B f xs:=by
 cases d with
 |zero=>simp only[Od,OX,a,kQ2]
 |succ d=>simp only[Od,OX,h,a,kQ2]
theorem Tb {C0 C':Cx} {h h' h2:aN} {n n' lim:Nat} {s s':Hp} {v v':PV} {y:AV} (d:cA C0 n h lim s) (hv:RV C' v y) (r:cA C' n' h' lim s') (hf:Fr C0 h s C' h' s') (hk:yD h false n v h' n'=some (v',h2,0)):
  RV (iR C' (fX h2)) v' y/\cA (iR C' (fX h2)) n h2 lim s'/\Fr C0 h s (iR C' (fX h2)) h2 s':=by
 unfold yD at hk;obtain⟨p,w1⟩:=eL (fQ 5) _ _ _ _ hk;obtain⟨x,w1⟩:=dV _ _ _ _ _ w1;obtain⟨a,_,w1,g⟩:=nW w1;cases hch2:(Na a (pA h)&&(bif false then Mz h n a else Nb h a)&&(jP (fX a) 5 v&&gY (fX a) a))with
 |false=>rw[hch2]at w1;exact aD w1
 |true=>
 rw[hch2,kD2]at w1;cases w1;simp only[jO2,kQ2]at hch2;obtain⟨⟨c1,c2⟩,c3,c4⟩:=hch2;have b:∀k o,aK h2 k=some o->aK h' k=some o:=fun k o u=>by grind
 have m:∀{k},aK h k≠none->aK h2 k≠none:=fun{k} hk=>sI c1 k (pF hk);have i:∀{k},aK h2 k≠none->aK h' k≠none:=fun{k} hk=>by grind
 have c:=r.part b c4
 have q:∀{k pl},iR C' (fX h2) k=some pl->C' k=some pl/\aK h2 k≠none:=fun{k pl} hk=>by
  simp only[iR]at hk;split at hk;rename_i t;exact⟨hk,hJ.1 t⟩;cases hk
 refine⟨uI hv c3,⟨c.hr,fun k pl hk=>?_,c.wf,c.lim⟩,⟨hf.sk,hf.n,hf.keep,fun id j w=>?_,fun k o hk=>?_,hf.zl,hf.zn⟩⟩;have:=nX c2 (q hk).2;cases hc:aK h k with
 |none=>exact absurd hc this
 |some o=>obtain⟨pl,p1,_⟩:=d.hr.ob k o hc;exact d.dom k pl p1
 obtain⟨k,v,e,l,q1,q2⟩:=w;exact hf.own id j ⟨k,v,e,l,i q1,(q q2).1⟩;obtain⟨o',q1,q2⟩:=hf.kd k o hk;have f:=m (k:=k) (by rw[hk];simp);cases hc:aK h2 k with
 |none=>exact absurd hc f
 |some o2=>
  have:=b k o2 hc;rw[q1]at this;cases this;refine⟨o',rfl,fun hb=>⟨(q2 hb).1,?_⟩⟩;simp only[iR];rw[jX2 (hJ.2 f)];exact(q2 hb).2
end
def nI (cl:Nat->aB (Nat×Nat)):Ft:=fun f xs h n=>match xs,h with
 |[.is e rows],[]=>(cl f).bind fun p=>bif Nat.beq p.2 e&&Nat.ble rows.length 1073741824 then some (.own n,[(n,.lst p.1 e true rows)],n+1)else none
 |_,_=>none
end Go.P
namespace Go.P
open Go.Sim (AV Hp gA exec)
section
variable {T:gA}
noncomputable def sL {A B:Type} (f0 n0:Nat) (xs:A->aA PV) (h:A->aN) (h':A->B->aN) (G:A->aB B):Ft:=fun f x c n=>
 open Classical in if q:f=f0/\n=n0/\∃a,x=xs a/\c=h a then(G q.2.2.choose).map fun b=>(.tup [],h' q.2.2.choose b,n)else none
theorem Nu {A B:Type} {f0 n0:Nat} {xs:A->aA PV} {h:A->aN} {h':A->B->aN} {G:A->aB B} (hi:∀a b,xs a=xs b->h a=h b->a=b) (a:A):
  sL f0 n0 xs h h' G f0 (xs a) (h a) n0=(G a).map fun b=>(.tup [],h' a b,n0):=by
 have q:f0=f0/\n0=n0/\∃b,xs a=xs b/\h a=h b:=⟨rfl,rfl,a,rfl,rfl⟩
 unfold sL;rw[dif_pos q,show q.2.2.choose=a from(hi _ _ q.2.2.choose_spec.1 q.2.2.choose_spec.2).symm]
theorem tT {A B:Type} {f0 n0:Nat} {xs:A->aA PV} {h:A->aN} {h':A->B->aN} {G:A->aB B} {f:FuncId} {x:aA PV} {c:aN} {n:Nat} {r:PV×aN×Nat} (hk:sL f0 n0 xs h h' G f x c n=some r):
  f=f0/\n=n0/\∃a b,x=xs a/\c=h a/\G a=some b/\r=(.tup [],h' a b,n0):=by
 unfold sL at hk;split at hk;rename_i q;obtain⟨b,hb,he⟩:=jQ2.1 hk;exact⟨q.1,q.2.1,_,b,q.2.2.choose_spec.1,q.2.2.choose_spec.2,hb,by rw[<-he];exact congrArg (fun m=>((.tup []:PV),h' q.2.2.choose b,m)) q.2.1⟩;cases hk
def Li (a b:Ft):Ft:=fun f x h n=>match a f x h n with|some r=>some r|none=>b f x h n
theorem Lj {NF:FuncId->Bool} {P:pH} {a b:Ft} (c:yF T NF P a) (hb:yF T NF P b):yF T NF P (Li a b):=by
 intro f xs h n v h' n' C s lim ys h1 h2 hk;unfold Li at hk;split at hk;rename_i r hr;cases hk;exact c f xs h n v h' n' C s lim ys h1 h2 hr;exact hb f xs h n v h' n' C s lim ys h1 h2 hk
theorem Nv {O:qN} {X:NX} {NF:FuncId->Bool} {P:pH} {run:Ft} {f0:FuncId} {fn:bK} (c:∀f xs v,O f xs=some v->lC T f xs v) (e:NOK T X)
  (b:T f0=some (Gw true fn)) (hp:qY X.is fn.ntmps false fn.code=true)
  (hr:∀f xs h n v h' n',run f xs h n=some (v,h',n')->f=f0/\n'=n/\Iu O X fn xs h n (yD h false n)=some (v,h',0)):yF T NF P run:=by
 intro f xs h n v h' n' C s lim ys hf _ hk hl a;obtain⟨rfl,rfl,hd⟩:=hr f xs h n v h' n' hk;obtain⟨v1,h1,k,C1,y,s',q1,q2,q3,q4,q5,D,q6⟩:=Lg c e hp hd hl a;obtain⟨g,i,j⟩:=Tb a q2 q3 q5 q1
 exact⟨_,y,s',g,i,jR2 _,j,⟨_,b,rfl,rfl⟩,D,fun d hd=>by
  simp only[Sim.callF,b];exact q6 d hd⟩
end
end Go.P
namespace Go.P
open Go.Sim (Ex dQ CK)
theorem Xq {α β γ δ:Type} {X:aB γ} {Y:aB α} {e:α->γ} {K:γ->aB δ} {F:α->aB β} {enc:β->δ} (h:X=Y.map e) (hk:∀y,K (e y)=(F y).map enc):bS X K=(Y.bind F).map enc:=by
 rw[bL];subst h;cases Y<;>simp[hk]
theorem kG1 {β γ:Type} {b:Bool} {X Y:aB γ} {FX FY:aB β} {enc:β->γ} (a:X=FX.map enc) (hy:Y=FY.map enc):Gu b X Y=(if b then FX else FY).map enc:=by
 rw[lT];subst a hy;cases b<;>rfl
theorem aJ {S E S' E':Type} {enc:S->S'} {encE:E->E'} {B:S'->aB (S'⊕E')} {F:S->aB (S⊕E)} (h:∀s,B (enc s)=(F s).map (Sum.map enc encE)):∀(n:Nat) (s:S),aR B n (enc s)=(aR F n s).map encE
 |0,s=>rfl
 |n+1,s=>by
  simp only[aR,h]
  cases F s with
  |none=>rfl
  |some r=>
   cases r with
   |inl s'=>exact aJ h n s'
   |inr e=>rfl
def aT {A:Type} (l:aA A) (i:Int):aB A:=if 0<=i then l[i.toNat]? else none
theorem Iv {A:Type} (f:A->aA PV) (l:aA A) (i:Int):rW (l.map f) i=(aT l i).map f:=by
 unfold rW aT;split<;>simp
def i64 (n:Int):PV:=.v (.int .i64 n)
def bv (b:Bool):PV:=.v (.bool b)
end Go.P
namespace Go.P
open Go.Sim (Ex dQ CK maxRoom)
def aU (n:Int):Int:=IntKind.wrap .i64 n
def eA {A:Type} (f:A->aA PV) (x:A):PV:=.agg (f x)
def cI (n:Int):aA PV:=[i64 n]
def Tc (b:UInt8):aA PV:=[.v (.int .u8 (b.toNat:Int))]
def cB (b:Bool):aA PV:=[bv b]
def dD {K V:Type} (f:K->PV) (g:V->PV) (p:K×V):PV×PV:=(f p.1,g p.2)
section
variable {γ δ:Type}
theorem kH1 {X:aB γ} {x:γ} {K:γ->aB δ} {r:aB δ} (h:X=some x) (hk:K x=r):bS X K=r:=by
 rw[bL,h];exact hk
theorem eN {b x:Bool} {X:aB Bool} (h:X=some x):Gu b X (some false)=some (b&&x):=by
 rw[lT,h];cases b<;>rfl
theorem eU {b x:Bool} {X:aB Bool} (h:X=some x):Gu b (some true) X=some (b||x):=by
 rw[lT,h];cases b<;>rfl
theorem oid {A:Type} (x:aB A):x=x.map id:=by simp
end
section
variable {A:Type}
theorem cJ (c:A->aA PV) (l:aA A):some (l.map c).length=some l.length:=by simp
def cE (l:aA A) (i:Int):aB Nat:=qI l.length i
theorem aW (c:A->aA PV) (l:aA A) (i:Int):qI (l.map c).length i=(cE l i).map id:=by simp[cE]
def cX (l:aA A) (i:Nat):aB A:=l[i]?
theorem bY {c:A->aA PV} {o:Nat} {g:A->PV} (h:∀x,(c x)[o]? =some (g x)) (l:aA A) (i:Nat):wB (l.map c) i o=(cX l i).map g:=by
 unfold wB cX;rw[kV2];cases l[i]? with
 |none=>rfl
 |some x=>exact h x
theorem bW {c:A->aA PV} {o n m:Nat} {g:A->aA PV} (h:∀x,(c x).length=m/\((c x).drop o).take n=g x) (a:o+n<=m) (l:aA A) (i:Nat):qJ (l.map c) i o n=(cX l i).map g:=by
 unfold qJ cX;rw[kV2];cases l[i]? with
 |none=>rfl
 |some x=>simp[(h x).1,(h x).2,a]
def kT (l:aA A) (i:Nat) (f:A->A):aB (aA A):=(l[i]?).map fun x=>l.set i (f x)
theorem eT {c:A->aA PV} {o:Nat} {cs:aA PV} {f:A->A} {m:Nat} (h:∀x,(c x).length=m/\Sim.setL (c x) o cs=c (f x)) (a:o+cs.length<=m) (l:aA A) (i:Nat):wA (l.map c) i o cs=(kT l i f).map (List.map c):=by
 unfold wA kT;rw[kV2];cases l[i]? with
 |none=>rfl
 |some x=>simp[(h x).1,(h x).2,a]
def kU (l:aA A) (a b:Int):aB (aA A):=if 0<=a/\a<=b/\b<=l.length then some ((l.drop a.toNat).take (b.toNat-a.toNat))else none
theorem rA (f:A->aA PV) (l:aA A) (a b:Int):kY (l.map f) a b=(kU l a b).map (List.map f):=by
 unfold kY kU;simp only[mQ2];split;simp_all;rfl
theorem oO (f:A->aA PV) (l:aA A) (a:Int):kY (l.map f) a (l.map f).length=(kU l a l.length).map (List.map f):=by
 rw[rA,mQ2]
def xG (l:aA A) (h:Int):aB (aA A):=if 0<=h/\h<=l.length then some (l.take h.toNat)else none
theorem yG (f:A->aA PV) (l:aA A) (h:Int):nR (l.map f) h=(xG l h).map (List.map f):=by
 unfold nR xG;simp only[mQ2];split;simp[List.map_take];rfl
def jR (g:Bool) (l m:aA A):aB (aA A):=if l.length+m.length<=maxRoom/\(g=true->m.length<=1)then some (l++m)else none
theorem cC (g:Bool) (f:A->aA PV) (l m:aA A):appRows g (l.map f) (m.map f)=(jR g l m).map (List.map f):=by
 unfold appRows jR;simp only[mQ2];split;simp;rfl
def tU (l c:Int) (z:A):aB (aA A):=if 0<=l/\l<=c/\c<=maxRoom then some (List.replicate l.toNat z)else none
theorem jA (f:A->aA PV) (l c:Int) (z:A):nB l c (f z)=(tU l c z).map (List.map f):=by
 unfold nB tU;split;simp;rfl
theorem pI (k:IntKind) (l:aA Int) (i:Int) {n:Nat} (h:l.length=n):qK (l.map fun x=>PV.v (.int k x)) i n 1=(aT l i).map (fun x=>PV.v (.int k x)):=by
 subst h;unfold qK aT;by_cases h0:0<=i
 grind
 grind
theorem Gb {c:A->aA PV} {e:Nat} (hc:∀x,(c x).length=e):∀(l:aA A) (j:Nat),j<l.length->((l.flatMap c).drop (j*e)).take e=((l[j]?).map c).getD []/\(j+1)*e<=(l.flatMap c).length
 |[],j,h=>by simp at h
 |x::l,0,h=>by grind
 |x::l,j+1,h=>by
  have a:=hc x
  obtain⟨h1,h2⟩:=Gb hc l j (by simpa using h)
  constructor
  rw[List.flatMap_cons,show(j+1)*e=(c x).length+j*e by rw[a,lP2];omega,<-mF2,List.drop_left]
  simpa using h1
  grind
theorem Gc (c:A->aA PV) (l:aA A) (i:Int) {n e:Nat} (h:l.length=n) (hc:∀x,(c x).length=e) {cs:aA PV} (a:cs=l.flatMap c):nA cs i n e=(aT l i).map c:=by
 subst h a;unfold nA aT;by_cases h0:0<=i;by_cases h1:i<l.length;obtain⟨h2,b⟩:=Gb hc l i.toNat (by omega)
 rw[jX2 ⟨h0,h1,b⟩,h2,jX2 h0];rw[lF2 (by omega)];rfl
 grind
 grind
end
def Xr (k:IntKind) (a b:Int):aB Int:=if b<0 then none else some (k.wrap (a*2^min b.toNat k.bits))
def rB (k:IntKind) (a b:Int):aB Int:=if b<0 then none else some (a.fdiv (2^min b.toNat k.bits))
def yH (k:IntKind) (a b:Int):aB Int:=if b=0 then none else some (k.wrap (a.tdiv b))
def Td (k:IntKind) (a b:Int):aB Int:=if b=0 then none else some (a.tmod b)
def Bp (k:IntKind) (a b:Int):Int:=k.wrap (BitVec.ofInt k.bits a&&&BitVec.ofInt k.bits b).toNat
def Iw (k:IntKind) (a b:Int):Int:=k.wrap (BitVec.ofInt k.bits a|||BitVec.ofInt k.bits b).toNat
structure xH {K:Type} [DecidableEq K] (ek:K->PV) (agg:Bool) (ks:List CK):Prop where
 ok:∀a,rX agg ks (ek a)=true
 eq:∀a b,oY agg ks (ek a) (ek b)=some (decide (a=b))
section
variable {K V:Type} [DecidableEq K] {ek:K->PV} {agg:Bool} {ks:List CK}
def mE (k:K):aA (K×V)->Nat->aB (Nat×V)
 |[],_=>none
 |p::r,i=>if k=p.1 then some (i,p.2)else mE k r (i+1)
def yI (l:aA (K×V)) (k:K) (z:V):V:=match mE k l 0 with|some p=>p.2|none=>z
def Nw (l:aA (K×V)) (k:K):Bool:=(mE k l 0).isSome
def Bq (l:aA (K×V)) (k:K) (x:V):aA (K×V):=match mE k l 0 with|some p=>l.set p.1 (k,x)|none=>l++[(k,x)]
theorem nY (h:xH ek agg ks) (ev:V->PV) (k:K):∀(l:aA (K×V)) (i:Nat),qL agg ks (ek k) (l.map (dD ek ev)) i=some ((mE k l i).map fun p=>(p.1,ev p.2))
 |[],i=>rfl
 |p::r,i=>by
  simp only[lZ2,dD,qL,h.eq,mE]
  by_cases e:k=p.1
  simp[e]
  simp only[e,lV2,jU2 e]
  exact nY h ev k r (i+1)
theorem xI (h:xH ek agg ks) (ev:V->PV) (l:aA (K×V)) (k:K) (z:V):oZ agg ks (ev z) (ek k) (l.map (dD ek ev))=some (ev (yI l k z)):=by
 unfold oZ yI;rw[h.ok,jX2 rfl,nY h];cases mE k l 0<;>rfl
theorem Gd (h:xH ek agg ks) (ev:V->PV) (l:aA (K×V)) (k:K) (z:V):lU agg ks (ev z) (ek k) (l.map (dD ek ev))=some (ev (yI l k z),Nw l k):=by
 unfold lU yI Nw;rw[h.ok,jX2 rfl,nY h];cases mE k l 0<;>rfl
theorem jS (h:xH ek agg ks) (ev:V->PV) (l:aA (K×V)) (k:K) (x:V):wC agg ks (ek k) (ev x) (l.map (dD ek ev))=some ((Bq l k x).map (dD ek ev)):=by
 unfold wC Bq;rw[h.ok,jX2 rfl,nY h];cases mE k l 0 with
 |none=>simp[dD]
 |some p=>simp[dD,List.map_set]
end
end Go.P
namespace Go.P
open Go.Sim (Ex dQ CK maxRoom)
section
variable {A β γ δ:Type} {f:A->List PV} {l m:List A} {i:Int}
theorem rg:rW (l.map f) i=(aT l i).map f:=Iv f l i
theorem lm:some (l.map f).length=some l.length:=cJ f l
theorem im:qI (l.map f).length i=(cE l i).map id:=aW f l i
theorem lf {x:γ} {y:β} {enc:β->γ} (h:x=enc y):some x=(some y).map enc:=by subst h;rfl
theorem bo {α:Type} {X:aB γ} {Y:aB α} {e:α->γ} {K:γ->aB δ} {F:α->aB β} {enc:β->δ} (h:X=Y.map e) (hk:∀y,K (e y)=(F y).map enc):bS X K=(Y.bind F).map enc:=Xq h hk
theorem bz {X:aB γ} {x:γ} {K:γ->aB δ} {r:aB δ} (h:X=some x) (hk:K x=r):bS X K=r:=kH1 h hk
theorem io {b:Bool} {X Y:aB γ} {FX FY:aB β} {enc:β->γ} (a:X=FX.map enc) (hy:Y=FY.map enc):Gu b X Y=(if b then FX else FY).map enc:=kG1 a hy
theorem oi {x:aB A}:x=x.map id:=oid x
end
end Go.P
set_option maxRecDepth 100000
namespace Go.P
open Go.Sim (AV AO Hp IFn IC IX Ex gA exec)
def fB (ty esz k:Nat) (zero:aA Value):IFn:={ntmps:=8,res:=[.tmp 2],pure:=true,frz:=false,body:=(
  .seq (.reg [⟨some 2,.mov,[.c (.v (.slice none 0 0))],none⟩])
   (.seq (.seq (.reg [⟨some 3,.mov,[.t 0],none⟩,⟨some 4,.eqNil false 0,[.t 3,.c (.v (.slice none 0 0))],none⟩])
     (.cond (.t 4) (.seq (.reg [⟨some 2,.mov,[.c (.v (.slice none 0 0))],none⟩]) .ret) .skip))
   (.seq (.reg [⟨some 5,.buildSl ty esz 0 zero [],[],none⟩,⟨some 6,.mov,[.t 0],none⟩,⟨some 7,.append ty esz k zero false,[.t 5,.t 6],none⟩,⟨some 2,.mov,[.t 7],none⟩]) .ret)))}
section
variable {T:gA} (ty esz k:Nat) (zero:List Value) (d:Nat)
theorem Nx:Sim.body (exec T (d+8)) 0 (fB ty esz k zero) [.v (.slice none 0 0)] {h:=[],n:=0}=some (.v (.slice none 0 0),{h:=[],n:=0}):=rfl
theorem Xt:∃s,Sim.body (exec T (d+8)) 0 (fB ty esz k zero) [.is esz []] {h:=[],n:=0}=some (.sl esz 0 0 0 0 none,s)/\Sim.look s.h 0=some (.arr false ty esz 0 []):=by
 simp[Sim.body,exec,fB,Sim.runOps,Sim.wanted,Sim.evs,Sim.IX.ev,Sim.step,Sim.doOp,Sim.put,Sim.isNilv,Sim.appRows,Sim.rowsOf,Sim.appendTo,Sim.fillParts,Sim.look,Sim.results,Sim.mapO,Sim.readRes,Sim.Out.apply]
theorem Xu (r:aA AV) (a:aA (aA AV)) (h:(r::a).length<=1073741824):∃s,Sim.body (exec T (d+8)) 0 (fB ty esz k zero) [.is esz (r::a)] {h:=[],n:=0}=some (.sl esz 0 1 0 (r::a).length none,s)/\Sim.look s.h 0=some (.arr false ty esz 1 (r::a)):=by
 have b:Sim.maxRoom=1073741824:=rfl;simp only[lD2]at h;simp[Sim.body,exec,fB,Sim.runOps,Sim.wanted,Sim.evs,Sim.IX.ev,Sim.step,Sim.doOp,Sim.put,Sim.isNilv,Sim.appRows,Sim.rowsOf,Sim.appendTo,Sim.fillParts,Sim.look,Sim.results,Sim.mapO,Sim.readRes,Sim.Out.apply,b,h];rfl
theorem xJ {f:FuncId} {ty esz k:Nat} {zero:aA Value} (i:T f=some (fB ty esz k zero)) (j:∀ys,T.memo f ys=none) {rows:aA (aA PV)} (hl:rows.length<=1073741824):lC T f [.is esz rows] (.is esz rows):=by
 refine⟨_,i,rfl,fun h=>(by cases h),fun ys hy=>Bo (j ys) ⟨8,fun d hd=>?_⟩⟩;obtain⟨d,rfl⟩:∃g,d=g+8:=⟨d-8,by omega⟩
 obtain⟨y,l,rfl,h1,h2⟩:=hy.inv_cons;rw[h2.inv_nil];rcases wJ (C:=⟨fun _=>none,fun _=>none⟩) (.cl h1)with⟨rows',rfl,hr⟩|⟨rfl,rfl⟩
 cases rows' with
 |nil=>
  have:rows=[]:=mP2 hr.1;subst this;obtain⟨s,a,e2⟩:=Xt (T:=T) ty esz k zero d;exact⟨_,_,_,a,Kw (d:=4) (rows:=[]) (kS2 _) e2 .nil (jR2 _),h1⟩
 |cons r rs=>
  obtain⟨s,a,e2⟩:=Xu (T:=T) ty esz k zero d r rs (by rw[<-hr.1];exact hl);have b:(r::rs).length=rows.length:=hr.1.symm;rw[b]at a;have e:(r::rs).take rows.length=r::rs:=by rw[<-b,lX2]
  have c:=Kw (n0:=0) (L:=Sim.look s.h) (d:=4) (rows:=rows) (id:=0) (kS2 _) e2 (by rw[e];exact hr) (by omega);rw[e]at c;exact⟨_,_,_,a,c,h1⟩
 exact⟨_,_,_,Nx ty esz k zero d,rfl,.isn⟩
theorem Ix (lim:Nat) (s:Hp):Sim.body (exec T (d+8)) lim {fB ty esz k zero with pure:=false} [.v (.slice none 0 0)] s=some (.v (.slice none 0 0),s):=rfl
theorem Te {lim:Nat} {s:Hp} (hl:lim<=s.n):Sim.body (exec T (d+8)) lim {fB ty esz k zero with pure:=false} [.is esz []] s=some (.sl esz s.n 0 0 0 none,⟨.ob s.n (.arr false ty esz 0 [])::s.h,s.n+1⟩):=by
 simp[Sim.body,exec,fB,Sim.runOps,Sim.wanted,Sim.evs,Sim.IX.ev,Sim.step,Sim.doOp,Sim.put,Sim.isNilv,Sim.appRows,Sim.rowsOf,Sim.appendTo,Sim.fillParts,Sim.look,Sim.results,Sim.mapO,Sim.readRes,Sim.Out.apply]
theorem Tf {lim:Nat} {s:Hp} (hl:lim<=s.n) (r:aA AV) (a:aA (aA AV)) (h:(r::a).length<=1073741824):Sim.body (exec T (d+8)) lim {fB ty esz k zero with pure:=false} [.is esz (r::a)] s=some (.sl esz s.n 1 0 (r::a).length none,⟨.ob s.n (.arr false ty esz 1 (r::a))::s.h,s.n+1⟩):=by
 have b:Sim.maxRoom=1073741824:=rfl;simp only[lD2]at h;simp[Sim.body,exec,fB,Sim.runOps,Sim.wanted,Sim.evs,Sim.IX.ev,Sim.step,Sim.doOp,Sim.put,Sim.isNilv,Sim.appRows,Sim.rowsOf,Sim.appendTo,Sim.fillParts,Sim.look,Sim.results,Sim.mapO,Sim.readRes,Sim.Out.apply,Sim.upd,b,h,hl]
end
theorem Ny {T:gA} {NF:FuncId->Bool} {P:pH} {cl:Nat->aB (Nat×Nat)} (q:∀f p,cl f=some p->fE p.1=false/\Nat.ble 4294967296 p.2=false/\∃k zero,T f=some {fB p.1 p.2 k zero with pure:=false}):yF T NF P (nI cl):=by
 intro f xs h n v h' n' C s lim ys _ _ hk hl b;unfold nI at hk;split at hk;rename_i e rows;rw[jN2]at hk;obtain⟨⟨ty,e2⟩,hc,hk⟩:=hk;simp only at hk;by_cases he:(Nat.beq e2 e&&Nat.ble rows.length 1073741824)=true;rw[he,kD2]at hk;cases hk;simp only[jO2,Nat.ble_eq]at he;obtain⟨h1,t⟩:=he;have:=kG2 h1;subst this;obtain⟨hfx,hs,k,zero,a⟩:=q f _ hc;simp only at hfx hs a;have o:xU ty=ty:=by simp[xU,hfx]
 obtain⟨y,u,rfl,a1,a2⟩:=hl.inv_cons;rw[a2.inv_nil]
 have nilc:rows=[]->y=.v (.slice none 0 0)->∃C' c s',RV C' (.own n) c/\cA C' (n+1) [(n,.lst ty e2 true rows)] lim s'/\n<=n+1/\Fr C [] s C' [(n,.lst ty e2 true rows)] s'/\(∃ifn,T f=some ifn/\ifn.pure=false/\ifn.frz=false)/\∃D,∀d,D<=d->Sim.callF T (exec T d) lim f [y] s=some (c,s'):=by
  rintro rfl rfl;obtain⟨i,j⟩:=Ik b (ty:=ty) (e:=e2) (g:=true);have m:kZ ty e2 true=.lst ty e2 true []:=by unfold kZ;rw[hs];rfl
  rw[m]at i j;refine⟨_,_,s,.ownn (C:=ext C n .nil) (kQ C n .nil) rfl,i,by omega,j,⟨_,a,rfl,rfl⟩,8,fun d hd=>?_⟩;obtain⟨d,rfl⟩:∃l,d=l+8:=⟨d-8,by omega⟩
  simp only[Sim.callF,a];exact Ix (T:=T) ty e2 k zero d lim s
 rcases wJ a1 with⟨rows',rfl,hr⟩|⟨hr,hy⟩
 have fin:∀(ver:Nat),(∀d,Sim.body (exec T (d+8)) lim {fB ty e2 k zero with pure:=false} [.is e2 rows'] s=some (.sl e2 s.n ver 0 rows.length none,⟨.ob s.n (.arr false ty e2 ver rows')::s.h,s.n+1⟩))->
   ∃C' c s',RV C' (.own n) c/\cA C' (n+1) [(n,.lst ty e2 true rows)] lim s'/\n<=n+1/\Fr C [] s C' [(n,.lst ty e2 true rows)] s'/\(∃ifn,T f=some ifn/\ifn.pure=false/\ifn.frz=false)/\∃D,∀d,D<=d->Sim.callF T (exec T d) lim f [.is e2 rows'] s=some (c,s'):=by
  intro ver hb;obtain⟨i,j,w⟩:=nE b (po:=.lst ty e2 true rows) (ao:=.arr false ty e2 ver rows') (ver:=ver) (e:=e2) (len:=rows.length) ⟨b.lim,by omega,rfl,rfl,rows',by rw[dM,jX2 rfl,o],by rw[kW2 (by rw[hr.1];exact jR2 _)];exact hr,by rw[hr.1];exact jR2 _,fun h=>by cases h⟩;refine⟨_,_,_,.own (kQ C n _),i,by omega,j,⟨_,a,rfl,rfl⟩,8,fun d hd=>?_⟩;obtain⟨d,rfl⟩:∃l,d=l+8:=⟨d-8,by omega⟩
  simp only[Sim.callF,a];exact hb d
 cases rows' with
 |nil=>
  have:rows=[]:=mP2 hr.1;subst this;exact fin 0 fun d=>Te (T:=T) ty e2 k zero d b.lim
 |cons r rs=>exact fin 1 fun d=>by rw[hr.1];exact Tf (T:=T) ty e2 k zero d b.lim r rs (by rw[<-hr.1];exact t)
 exact nilc hr hy
 grind
 cases hk
end Go.P
namespace Go.P
open Go.Sim
section
variable {P:Program} {D:Nat} {t:TypeId} {cs:List AV}
theorem mG {n:Nat} (h:n<=maxLen):n<9223372036854775808:=jS2 h (by decide)
theorem eJ {k:IntKind} (a:P.underlying t=some (.int k)) (h:iL P D t cs):∃n,LR (RC false) [.v (.int k n)] cs:=by
 cases D with
 |zero=>exact h.elim
 |succ D=>
  unfold iL at h;rw[a]at h;obtain⟨n,rfl,_⟩:=h;exact⟨n,.cons (.v _) .nil⟩
theorem Ge (a:P.underlying t=some .bool) (h:iL P D t cs):∃n,LR (RC false) [.v (.bool n)] cs:=by
 cases D with
 |zero=>exact h.elim
 |succ D=>
  unfold iL at h;rw[a]at h;obtain⟨n,rfl⟩:=h;exact⟨n,.cons (.v _) .nil⟩
theorem Xv (a:P.underlying t=some .string) (h:iL P D t cs):∃s:ByteArray,s.size<=maxLen/\LR (RC false) [.v (.string s)] cs:=by
 cases D with
 |zero=>exact h.elim
 |succ D=>
  unfold iL at h;rw[a]at h;obtain⟨s,rfl,hs⟩:=h;exact⟨s,hs,.cons (.v _) .nil⟩
theorem Lk {A:Type} {B:A->Prop} {c:A->aA PV} {e:TypeId} {m:Nat} (g:P.underlying t=some (.slice e)) (f:P.cellsOf e=m) (a:∀D row,iL P D e row->∃x:A,B x/\LR (RC false) (c x) row) (hp:∀x,(c x).all eF=true) (h:iL P D t cs):
  ∃l:aA A,(l.length<=maxLen/\∀x∈l,B x)/\LR (RC false) [.is m (l.map c)] cs:=by
 cases D with
 |zero=>exact h.elim
 |succ D=>
  unfold iL at h;rw[g]at h;rcases h with rfl|⟨els,rfl,hl,h⟩
  exact⟨[],⟨kS2 _,fun x d=>(List.not_mem_nil d).elim⟩,.cons .isn .nil⟩;rw[f]
  have:∃l:aA A,l.length=els.length/\(∀x∈l,B x)/\RR (l.map c) els:=by
   clear hl
   induction els with
   |nil=>exact⟨[],rfl,fun x d=>(List.not_mem_nil d).elim,.nil⟩
   |cons row els ih=>
    obtain⟨l,h1,h2,b⟩:=ih (fun row a=>h row (by simp[a]));obtain⟨x,j,i⟩:=a D row (h row (by simp)).2;refine⟨x::l,by simp[h1],fun y hy=>?_,.cons ?_ b⟩
    grind
    exact(LR.closed (C:=⟨fun _=>none,fun _=>none⟩) i).plain (hp x)
  obtain⟨l,h1,h2,b⟩:=this;exact⟨l,⟨by omega,h2⟩,.cons b.is .nil⟩
theorem dT {fs:Array Field} (a:P.underlying t=some (.struct fs)) (h:iL P D t cs):∃D',Wk (iL P D') P fs.toList cs:=by
 cases D with
 |zero=>exact h.elim
 |succ D=>
  unfold iL at h;rw[a]at h;exact⟨D,h⟩
theorem uC1 {n:Nat} {e:TypeId} (b:P.underlying t=some (.array n e)) (h:iL P D t cs):∃(D':Nat) (rows:aA (aA AV)),cs=rows.flatten/\rows.length=n/\∀row∈rows,row.length=P.cellsOf e/\iL P D' e row:=by
 cases D with
 |zero=>exact h.elim
 |succ D=>
  unfold iL at h;rw[b]at h;obtain⟨rows,h1,h2,a⟩:=h;exact⟨D,rows,h1,h2,a⟩
theorem kI1 {α:Type} {l:aA α} (h:l.length=6):∃a b c d e f,l=[a,b,c,d,e,f]:=by
 rcases l with _|⟨a,_|⟨b,_|⟨c,_|⟨d,_|⟨e,_|⟨f,_|⟨g,l⟩⟩⟩⟩⟩⟩⟩<;>simp at h;exact⟨a,b,c,d,e,f,rfl⟩
end
end Go.P
namespace Go.P
open Go.Sim
theorem Tg {T:gA} {f:FuncId} {xs:aA PV} (h:lC T f xs (bv true)) {ys:aA AV} (hl:LR (RC false) xs ys) (hc:ys.all (closed 4)=true):∃d s,callF T (exec T d) 0 f ys {h:=[],n:=0}=some (.v (.bool true),s):=by
 obtain⟨ifn,h1,h2,g,a⟩:=h;obtain⟨D,b⟩:=a ys hl;obtain⟨y,c,e⟩:=b D (jR2 _);cases e;exact⟨D,_,by simp only[callF,h1,h2,kR2,hc,c,kL2];rfl⟩
theorem Br {x:PV} {y:AV} {d:Nat} (h:RC false x y) (hp:eF x=true):closed (d+1) y=true:=by
 cases h<;>first|rfl|simp[eF]at hp
theorem Iy {xs:aA PV} {ys:aA AV} (h:LR (RC false) xs ys) (hp:xs.all eF=true):closed 4 (.agg ys)=true:=by
 unfold closed;rw[jV2];intro y hy;obtain⟨j,b⟩:=kJ2.1 hy;have a:j<xs.length:=by rw[h.1];exact(jP2.1 b).1
 have c:xs[j]? =some xs[j]:=lF2 a;exact Br (h.2 j _ _ c b) (jV2.1 hp _ (mE2 a))
def gK1:Value->Value->Bool
 |.int k a,.int k' b=>decide (k=k')&&decide (a=b)
 |.bool a,.bool b=>decide (a=b)
 |.string a,.string b=>decide (a=b)
 |.slice none 0 0,.slice none 0 0=>true
 |_,_=>false
theorem Xw {x y:Value} (h:gK1 x y=true):x=y:=by
 unfold gK1 at h;split at h<;>simp_all
def Gf {α β:Type} (f:α->β->Bool):aA α->aA β->Bool
 |[],[]=>true
 |a::as,b::bs=>f a b&&Gf f as bs
 |_,_=>false
theorem lF {α β:Type} {f:α->β->Bool}:∀{xs:aA α} {ys:aA β},Gf f xs ys=true->xs.length=ys.length/\∀(j:Nat) (x:α) (y:β),xs[j]? =some x->ys[j]? =some y->f x y=true
 |[],[],_=>⟨rfl,fun j x y h=>by simp at h⟩
 |[],b::bs,h=>by simp[Gf]at h
 |a::as,[],h=>by simp[Gf]at h
 |a::as,b::bs,h=>by
  simp only[Gf,jO2]at h
  obtain⟨h1,h2⟩:=h
  have ih:=lF h2
  refine⟨by simp[ih.1],fun j x y c hy=>?_⟩
  cases j with
  |zero=>simp at c hy;subst c;subst hy;exact h1
  |succ j=>simp at c hy;exact ih.2 j x y c hy
def rcB:Nat->PV->AV->Bool
 |0,_,_=>false
 |d+1,x,y=>match x,y with
  |.v x,.v y=>gK1 x y
  |.is e rows,.is e' rows'=>decide (e=e')&&Gf (Gf (rcB d)) rows rows'
  |.is _ [],.v (.slice none 0 0)=>true
  |_,_=>false
theorem Th:∀(d:Nat) {x:PV} {y:AV} (p:Bool),rcB d x y=true->RC p x y
 |0,x,y,p,h=>by simp[rcB]at h
 |d+1,x,y,p,h=>by
  unfold rcB at h
  split at h
  rw[Xw h];exact .v _
  simp only[jO2,jY2]at h
  obtain⟨rfl,h⟩:=h
  have h1:=lF h
  refine .is h1.1 (fun i r r' hr a=>(lF (h1.2 i r r' hr a)).1) (fun i r r' j x y hr a b hy=>Th d true ((lF (h1.2 i r r' hr a)).2 j x y b hy))
  exact .isn
  cases h
end Go.P
namespace Go.P
open Go.Sim (IC IX AV dQ iM)
section
variable {R:Type}
def fN (s:Nat) (K:Nat->R):R:=match s with
 |0=>K 0
 |n+1=>K (n+1)
def num:Nat->Nat->(Nat->Nat->R)->R
 |0,s,K=>K 0 s
 |k+1,s,K=>bif Nat.ble 8 (s%16)then fN (s/16) fun t=>num k t fun n t=>K (s%16-8+8*n) t else fN (s/16) fun t=>K (s%16) t
def kK1:Nat->Nat->(aA Nat->Nat->R)->R
 |0,s,K=>K [] s
 |k+1,s,K=>num 16 s fun n t=>fN n fun n=>kK1 k t fun l u=>K (n::l) u
def Gg (s:Nat) (K:aA Nat->Nat->R):R:=num 16 s fun n t=>kK1 n t K
def dT1:Nat->Nat->(aA (aA Nat)->Nat->R)->R
 |0,s,K=>K [] s
 |k+1,s,K=>Gg s fun n t=>dT1 k t fun l u=>K (n::l) u
def uV:AV->PV
 |.v x=>.v x
 |.fn (.func f) _ _=>.fn f [] []
 |.agg cs=>.agg (cs.map fun c=>match c with|.v x=>.v x|_=>.undef)
 |_=>.undef
def uX:IX->PX
 |.t i=>.t i
 |.c x=>.c (uV x)
def Ti:aA PX->aA Nat
 |[]=>[]
 |.t i::xs=>i::Ti xs
 |_::xs=>Ti xs
def kil (h:Nat) (xs:aA PX) (s:Nat) (K:aA Nat->Nat->R):R:=match h with
 |0=>K [] s
 |1=>K (Ti xs) s
 |_=>Gg s K
def mrk:aA Nat->fU->fU
 |[0,d,ty,e,g],r=>.own d ty e (Nat.beq g 1) r
 |[1,d],r=>.fz d none r
 |[2,d,j],r=>.fz d (some j) r
 |[3,d],r=>.laxm d none r
 |[4,d,j],r=>.laxm d (some j) r
 |[5,d,e],r=>.lax d [some e] r
 |[6,d,j,ty,e,g],r=>.ownc d j ty e (Nat.beq g 1) r
 |[7,d,j,e],r=>.laxc d j e r
 |[8,d,m,j,e],r=>.lax d ((List.range m).map fun q=>bif Nat.beq q j then some e else none) r
 |_,r=>r
def kL1:aA (aA Nat)->fU->fU
 |[],r=>r
 |m::ms,r=>mrk m (kL1 ms r)
def opO (d:aB Nat) (k:dQ) (xs:aA PX) (l:aA Nat) (r:fU):fU:=match d with
 |some d=>.op d k xs l r
 |none=>.sto k xs l r
def pie (f:aA Sim.Op1->Nat->(fU->Nat->R)->R) (h:Nat) (os:aA Sim.Op1) (s:Nat) (K:(fU->fU)->aA Sim.Op1->Nat->R):R:=num 16 s fun k s=>f (os.take k) s fun b s=>match os.drop k with
 |[]=>K (fun r=>r) [] s
 |o::os=>match o.dst,o.xs with
  |some d,[.t c,x,y]=>kil (s%16) [.t c] (s/16) fun l s=>match y with
   |.c (.v (.bool false))=>K (bif Nat.beq h 5 then .ifx d c true b (uX x) l else .ifn d c true b (uX x) l) os s
   |_=>K (bif Nat.beq h 5 then .ifx d c false b (uX y) l else .ifn d c false b (uX y) l) os s
  |_,_=>K (fun r=>r) [] s
def Xx:Nat->aA Sim.Op1->Nat->(fU->Nat->R)->R
 |0,_,s,K=>K .nil s
 |_,[],s,K=>K .nil s
 |n+1,o::os,s,K=>match s%16 with
  |3=>Gg (s/16) fun l s=>Xx n os s fun r s=>(match o.k,o.dst with
   |.buildSl ty _ _ z _,some d=>K (.mkfl d ty z (o.xs.map uX) l r) s
   |_,_=>K .nil s)
  |4=>kil (s/16%16) (o.xs.map uX) (s/256) fun l s=>num 16 s fun m s=>dT1 m s fun b s=>Xx n os s fun r s=>K (opO o.dst o.k (o.xs.map uX) l (kL1 b r)) s
  |5=>pie (Xx n) 5 (o::os) (s/16) fun a os s=>Xx n os s fun r s=>K (a r) s
  |6=>pie (Xx n) 6 (o::os) (s/16) fun a os s=>Xx n os s fun r s=>K (a r) s
  |h=>fN (s/16) fun t=>kil h (o.xs.map uX) t fun l s=>Xx n os s fun r s=>K (opO o.dst o.k (o.xs.map uX) l r) s
def dU1:aA Nat->aA (Nat×Nat×Nat×Nat)
 |a::b::c::d::r=>(a,b,c,d)::dU1 r
 |_=>[]
def Ps:IC->Nat->(PC->Nat->R)->R
 |.skip,s,K=>K .skip s
 |.reg ops,s,K=>Xx ops.length ops s fun b s=>K (.reg b) s
 |.regD ops bf,s,K=>num 16 s fun dr s=>Xx ops.length ops s fun b s=>Gg s fun q s=>(match q with
  |[]=>K (.regD dr b bf) s
  |q=>K (.regX dr b bf (dU1 q)) s)
 |.seq a b,s,K=>Ps a s fun x s=>Ps b s fun y s=>K (.seq x y) s
 |.cond c a b,s,K=>match s%16 with
  |1=>Gg (s/16) fun l s=>Ps a s fun x s=>Ps b s fun y s=>K (.condJ l (uX c) x y) s
  |2=>fN (s/16) fun s=>Ps a s fun x s=>Ps b s fun y s=>K (.condL (uX c) x y) s
  |_=>fN (s/16) fun s=>Ps a s fun x s=>Ps b s fun y s=>K (.cond (uX c) x y) s
 |.block id c,s,K=>Ps c s fun x s=>K (.block id x) s
 |.loop c,s,K=>match s%16 with
  |1=>num 16 (s/16) fun m s=>Gg s fun l s=>Ps c s fun x s=>K (.loopU m l x) s
  |_=>Gg (s/16) fun l s=>Gg s fun d s=>Ps c s fun x s=>K (.loop l d x) s
 |.rangeF _ _ _ _,s,K=>K .skip s
 |.exit id,s,K=>K (.exit id) s
 |.ret,s,K=>K .ret s
def anF (P:Program) (f s:Nat) (z:Bool):bK:=match P.funcs[f]? with
 |some fn=>match fn.body with
  |some c=>match Sim.comp P c,Sim.mapO (Sim.compRes P) fn.results.toList with
   |some ic,some rs=>Ps ic s fun c _=>⟨fn.ntmps,rs,c,z⟩
   |_,_=>default
  |none=>default
 |none=>default
end
end Go.P
namespace Go.P
open Go.Sim
theorem Tj {Q:Program} {T:gA} (e:fC Q T) (a:Q.follows .mixedOrders=true) {f:FuncId} {xs:aA PV} {ys:aA AV} {b:Bool} (h:lC T f xs (bv b)) (hl:LR (RC false) xs ys) (hc:ys.all (closed 4)=true):iV Q f ys (.v (.bool b)):=by
 obtain⟨fn,h1,h2,_,c⟩:=h;obtain⟨D,d⟩:=c ys hl;obtain⟨y,g,i⟩:=d D (jR2 _);cases i;exact vZ e a h1 h2 hc g
theorem Tk {T:gA} {f:FuncId} {fn:IFn} {b:Bool} (a:T f=some fn) (hp:fn.pure=true) (e:fn.frz=true) (c:T.memo f []=some (.v (.bool b))):lC T f [] (bv b):=
 ⟨fn,a,hp,fun _=>e,fun ys hy=>⟨0,fun d _=>⟨_,by rw[hy.inv_nil];simp only[runP,c],.v _⟩⟩⟩
def dV1:Nat->PV->AV
 |0,_=>.es
 |d+1,x=>match x with
  |.v x=>.v x
  |.is _ []=>.v (.slice none 0 0)
  |.is e rows=>.is e (rows.map fun r=>r.map (dV1 d))
  |_=>.es
def Ll (d:Nat) (xs:aA PV):aA AV:=xs.map (dV1 d)
theorem Xy {cells:aA PV} {d:Nat} (h:Gf (rcB 12) cells (Ll d cells)=true):LR (RC false) [.agg cells] [.agg (Ll d cells)]:=by
 have:=lF h;exact .cons (.agg this.1 (fun j x y a hy=>Th 12 false (this.2 j x y a hy))) (.nil)
end Go.P
