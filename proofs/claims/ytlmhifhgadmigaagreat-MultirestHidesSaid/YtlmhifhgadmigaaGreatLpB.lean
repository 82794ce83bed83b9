import Derived.Test.YtlmhifhgadmigaaGreatLpA
/- A text of the proof. -/
set_option linter.all false
namespace Go.P
open Go.Sim (AV AO Hp eY upd St IC IX Ex dW CK Wf Out doOp gH exec Foot wanted put)
section
variable {R:Type} {T:gH} {O:rL} {X:NX} {dr:Nat}
theorem Nl {C:Cx}:∀{es:aA (aB Nat)} {cs:aA PV} {ys:aA AV} {K:aA PV->aB R} {r:R},LR (RV C) cs ys->Pv es cs K=some r->∃cs',K cs'=some r/\LR (RV C) cs' ys
 |[],[],ys,K,r,hl,h=>⟨[],h,hl⟩
 |o::os,x::xs,ys,K,r,hl,h=>by
  obtain⟨y,c,rfl,h1,h2⟩:=hl.inv_cons
  unfold Pv at h
  obtain⟨cs',a,b⟩:=Nl h2 h
  cases o with
  |none=>exact⟨_,a,.cons h1 b⟩
  |some e=>
   simp only at a
   split at a
   have:=eQ h1
   subst this
   exact⟨_,a,.cons (.cl .isn) b⟩
   exact aD a
 |[],_::_,_,_,_,_,h=>by unfold Pv at h;exact aD h
 |_::_,[],_,_,_,_,h=>by unfold Pv at h;exact aD h
theorem aH1 {C:Cx} {n:Nat} {h:aQ} {lim:Nat} {s:Hp} (u:cG C n h lim s) {k id ver e len:Nat} {cs cs2:aA PV} {ty e':Nat} {g:Bool} (hk:aL h k=some (.box cs)) (w:C k=some (.atp id ver e len))
  (x:∀row,LR (RV C) cs row->LR (RV (ext C n .nil)) cs2 row):
  cG (ext C n .nil) (n+1) ((n,lN ty e' g)::eF h k (.box cs2)) lim s/\Fr C h s (ext C n .nil) ((n,lN ty e' g)::eF h k (.box cs2)) s:=by
 obtain⟨r,t⟩:=Ke u (ty:=ty) (e:=e') (g:=g);have B:n≠k:=by have:=u.dom _ _ w;omega
 have m:∀j,aL ((n,lN ty e' g)::eF h k (.box cs2)) j≠none->aL ((n,lN ty e' g)::h) j≠none:=fun j f=>by
  simp only[aL]at f ⊢;split;simp;rename_i h1;rw[pT2 h1,fC]at f;split at f
  grind
  exact f
 refine⟨⟨⟨fun j o f=>?_,fun j A i v1 p y v2 e2 H a b c d=>r.hr.inj j A i v1 p y v2 e2 H (m j a) (m A b) c d,fun i o E=>?_⟩,r.dom,r.wf,r.lim⟩,⟨t.sk,t.n,t.keep,fun i hi D=>?_,fun j o f=>?_,t.zl,t.zn⟩⟩;simp only[aL]at f;split at f;rename_i h1;exact r.hr.ob j o (by simp[aL,h1];simpa using f);rename_i h1;rw[fC]at f;split at f;rename_i h2;obtain⟨rfl,_⟩:=h2;cases f;obtain⟨pl,q1,q2⟩:=u.hr.ob _ _ hk;rw[w]at q1;cases q1;obtain⟨p1,p2,z,esz,row,p3,p4⟩:=q2;exact⟨_,(iV u .nil).1 _ _ w,p1,p2,z,esz,row,p3,x row p4⟩;exact r.hr.ob j o (by simp[aL,h1,f]);obtain⟨z1,z2,z3,z4⟩:=r.hr.zr i o E;exact⟨z1,z2,fun j v e l a b=>z3 j v e l (m j a) b,z4⟩;obtain⟨j,v1,p,y,F,G⟩:=D;exact t.own i hi ⟨j,v1,p,y,m j F,G⟩;obtain⟨o',q1,q2⟩:=t.kd j o f;have q:n≠j:=fun p=>by rw[tC u (by omega)]at f;cases f
 by_cases p:j=k;subst p;rw[hk]at f;cases f;exact⟨.box cs2,by simp[aL,q,fC,hk],fun _=>⟨rfl,by simp[ext,Ne.symm q]⟩⟩;refine⟨o',?_,q2⟩;simpa[aL,q,fC,p]using q1
structure NOK (T:gH) (X:NX):Prop where
 run:∀{R:Type} (f:FuncId) (xs:List PV) (h:aQ) (n:Nat) (K:PV->aQ->Nat->Option R) (r:R) (C:Cx) (s:Hp) (lim:Nat) (ys:List AV),
  X.is f=true->X.run f xs h n K=some r->LR (RV C) xs ys->cG C n h lim s->
  ∃v h' n' C' y s',K v h' n'=some r/\RV C' v y/\cG C' n' h' lim s'/\n<=n'/\Fr C h s C' h' s'/\(∃ifn,T f=some ifn/\ifn.pure=false/\ifn.frz=false)/\∃D,∀d,D<=d->Sim.callF T (exec T d) lim f ys s=some (y,s')
 yld:∀{R:Type} (k:Nat) (xs:List PV) (h:aQ) (n:Nat) (K:PV->aQ->Nat->Option R) (r:R) (C:Cx) (s:Hp) (lim:Nat) (ys:List AV) (id ver e len:Nat),
  X.yld k xs h n K=some r->LR (RV C) xs ys->C k=some (.atp id ver e len)->cG C n h lim s->
  ∃v h' n' C' y s',K v h' n'=some r/\RV C' v y/\cG C' n' h' lim s'/\n<=n'/\Fr C h s C' h' s'/\∃D,∀d,D<=d->Sim.round (exec T d) lim id ys s=some (y,s')
theorem rV:∀{h:aA eY} {id:Nat} {o:AO},Sim.look h id=some o->upd h id o=h
 |[],_,_,h=>by simp[Sim.look]at h
 |.mark::r,id,o,h=>by simp only[Sim.look]at h;simp only[Sim.upd,rV h]
 |.ob i o'::r,id,o,h=>by
  simp only[Sim.look]at h
  simp only[Sim.upd]
  split at h
  grind
  rename_i e;rw[pT2 e,rV h]
theorem Nm:∀{xs:aA IX} {t ys:aA AV},Sim.evs t xs=some ys->ys.length=xs.length
 |[],t,ys,h=>by simp only[Sim.evs,pV2]at h;subst h;rfl
 |x::xs,t,ys,h=>by
  simp only[Sim.evs]at h
  split at h
  rename_i a as c b;cases h;simp[Nm b]
  cases h
theorem Vn {C:Cx} {n:Nat} {h:aQ} {lim:Nat} {s:Hp} {ty:TypeId} {zero:aA Value} {as:aA PV} {ys:aA AV} (o:cG C n h lim s) (k:LR (RV C) as ys) (r:zero.length=1) (hf:as.all Zr=true):
  ∃C' out,doOp (Sim.look s.h) lim s.n (.buildSl ty 1 as.length zero (List.range as.length)) ys=some out/\RV C' (.own n) out.v/\cG C' (n+1) ((n,.fl as)::h) lim (out.apply s)/\C.le C'/\Fr C h s C' ((n,.fl as)::h) (out.apply s):=by
 have hc:∀(j:Nat) (y:AV),ys[j]? =some y->y.cells=some [y]:=fun j y hy=>by
  have q:j<as.length:=by rw[k.1];exact(pO2.1 hy).1
  have hv:=k.2 j as[j] y (by simp) hy;have l:=pX2.1 hf as[j] (by simp);cases ha:as[j]with
  |fn f a b=>rw[ha]at hv;obtain⟨a',b',rfl,_⟩:=uN hv;rfl
  |_=>rw[ha]at l;simp[Zr]at l
 have hlen:=k.1;have p:(Sim.zeroRow zero).length=1:=by simp[Sim.zeroRow,r]
 have d:=tG 1 as.length 0 ((List.range as.length).flatMap fun _=>Sim.zeroRow zero) ys (ys.map fun y=>[y]) (by rw[xW,p,List.length_range];simp) hlen.symm (by simp[hlen]) (fun j x k=>⟨[x],hc j x k,rfl,by simp[k]⟩);simp only[tI2,List.take_zero,List.nil_append]at d;have g:=Uv 1 (ys.map fun y=>[y]) (fun c hc=>by simp at hc;obtain⟨y,_,rfl⟩:=hc;rfl);rw[sG2,<-hlen]at g;have m:=iV o (.atp s.n 0 1 as.length)
 obtain⟨u,w,z⟩:=nU o (po:=.fl as) (ao:=.arr false ty 1 0 (ys.map fun y=>[y])) (ver:=0) (e:=1) (len:=as.length)
  ⟨o.lim,by omega,rfl,rfl,ty,_,by rw[dT,pW2 rfl],by simp[hlen],fun i f row a b=>by
   simp only[qU2,pP2]at b;obtain⟨y,hy,rfl⟩:=b;exact .cons ((k.2 i f y a hy).mono m) .nil⟩
 refine⟨_,{v:=.sl 1 s.n 0 0 as.length none,new:=some (.arr false ty 1 0 (ys.map fun y=>[y]))},?_,.own (lG C n _),u,m,w⟩
 have:doOp (Sim.look s.h) lim s.n (.buildSl ty 1 as.length zero (List.range as.length)) ys=(Sim.fillParts ((List.range as.length).flatMap fun _=>Sim.zeroRow zero) ((List.range as.length).map fun i=>(i*1,1)) ys).map fun cs=>
  {v:=.sl 1 s.n 0 0 as.length none,new:=some (.arr false ty 1 0 ((List.range as.length).map fun i=>(cs.drop (i*1)).take 1))}:=by
  rcases ys with _|⟨a,_|⟨b,_|⟨c,t⟩⟩⟩<;>rfl
 rw[<-List.range_eq_range']at d;rw[this,d];simp only[qR2];rw[g]
theorem cS (hO:∀f xs v,O f xs=some v->lQ T f xs v) (hX:NOK T X) (x:dr=0\/dr=3\/dr=4) {N lim:Nat} {R:Type}:∀(ops:gC) (u F:aA Nat) (l:Bool) (g:aB (Nat×Bool)) (C:Cx) (n:Nat) (h:aQ) (e:dY) (t:aA AV) (s:Hp) (K:dY->aQ->Nat->aB R) (r:R),
  cU O X dr ops e h n K=some r->cV C e t->cG C n h lim s->t.length=N->iJ N u l F ops=true->It g t->GIn g u->
  ∃e' h' n' C' A s' fs,K e' h' n'=some r/\Tr T X.is dr lim (oL g ops) {t:=t,s:=s} fs {t:=A,s:=s'}/\cV C' e' A/\cG C' n' h' lim s'/\A.length=N/\n<=n'/\Fr C h s C' h' s'/\∀(i:Nat),i∉bV ops []->A[i]? =t[i]?
 |.nil,u,F,l,g,C,n,h,e,t,s,K,r,hk,he,hM,hN,ho,hg,hgi=>⟨e,h,n,C,t,s,[],by unfold cU at hk;exact hk,.nil,he,hM,hN,pQ2 _,.refl _ _ _,fun _ _=>rfl⟩
 |.op d k xs kl rs,u,F,l,g,C,n,h,e,t,s,K,r,hk,he,hM,hN,ho,hg,hgi=>by
  simp only[iJ,pN2,qH2,fZ,rY2]at ho
  obtain⟨⟨⟨o1,o2⟩,o3⟩,o4⟩:=ho
  have hd:d<t.length:=by omega
  have a0:d∉u:=by simpa using o2
  have back:∀{y:AV} {A:aA AV},(∀(i:Nat),i∉bV rs []->A[i]? =(t.set d y)[i]?)->∀(i:Nat),i∉bV (.op d k xs kl rs) []->A[i]? =t[i]? :=fun hb i hi=>by
   simp only[bV,qI2,sI2]at hi
   rw[hb i hi.2,qM2 (Ne.symm hi.1)]
  unfold cU at hk
  rw[gM,pM2]at hk
  obtain⟨vs,b8,hk⟩:=hk
  obtain⟨ys,h1,h2⟩:=iN he o3 b8
  have d7:∀{f:FuncId} {xs':aA PV} {zs:aA AV},uK O f xs' h (fun v=>gL e (d::kl) fun e=>cU O X dr rs ((d,v)::e) h n K)=some r->LR (RV C) xs' zs->gR k=true->3<=kI X.is dr k->
    ((∃ifn,T f=some ifn/\ifn.pure=true)->Sim.foot T k ys={all:=1})->(∀(d:Nat) (s:Hp),Sim.step T (exec T d) lim k ys s=Sim.callF T (exec T d) lim f zs s)->
    ∃e' h' n' C' A s' fs,K e' h' n'=some r/\Tr T X.is dr lim (oL g (.op d k xs kl rs)) {t:=t,s:=s} fs {t:=A,s:=s'}/\cV C' e' A/\cG C' n' h' lim s'/\A.length=N/\n<=n'/\Fr C h s C' h' s'/\∀(i:Nat),i∉bV (.op d k xs kl rs) []->A[i]? =t[i]? :=by
   intro f xs' zs hk hz hc g7 hf g9;obtain⟨v,y,q,h4,h5,D,h6⟩:=Gy (lim:=lim) hO hM hk hz;simp only[dR]at q
   have B:cV C ((d,v)::edel e (d::kl)) (t.set d y):=.put hd (.cl h4) (fun i w hw=>by
    obtain⟨z,p1,p2,p3⟩:=he.edel (d::kl) i w hw;exact⟨z,p1,p2,fun e1=>p3 (by simp[e1])⟩)
   obtain⟨e2,e5,H,C2,Z,Y,fs,J,L,M,S,U,r6,V,W⟩:=cS hO hX x rs u (d::F) l g C n h _ _ s K r q B hM (by simpa using hN) o4 (hg.set hgi a0) hgi;exact⟨e2,e5,H,C2,Z,Y,_,J,.call (o:=⟨some d,k,xs.map eX,g⟩) hg.wanted h1 hc g7 (hf h5) ⟨D,fun d hd m=>by rw[g9];exact h6 d hd m⟩ L,M,S,U,r6,V,back W⟩
  have ncall:∀{run:aQ->Nat->(PV->aQ->Nat->aB (PV×aQ×Nat))->aB (PV×aQ×Nat)} {xs':aA PV} {zs:aA AV} {P:AV->Hp->Prop} {nw fx:Bool},LR (RV C) xs' zs->
    (∀(hs:aQ) (C0:Cx) (m:Nat) (K':PV->aQ->Nat->aB (PV×aQ×Nat)) (r':PV×aQ×Nat),cG C0 m hs lim s->LR (RV C0) xs' zs->run hs m K'=some r'->
     ∃v h' n' C' y s',K' v h' n'=some r'/\RV C' v y/\cG C' n' h' lim s'/\m<=n'/\Fr C0 hs s C' h' s'/\P y s')->
    (∀y s',P y s'->(Sim.foot T k ys).all=2/\(dr≠0->kI X.is dr k=4)/\∃D,∀d,D<=d->Sim.step T (exec T d) lim k ys s=some (y,s'))->
    jG1 fx run nw xs' e h n (d::kl) (fun v e h n=>cU O X dr rs ((d,v)::e) h n K)=some r->
    ∃e' h' n' C' A s' fs,K e' h' n'=some r/\Tr T X.is dr lim (oL g (.op d k xs kl rs)) {t:=t,s:=s} fs {t:=A,s:=s'}/\cV C' e' A/\cG C' n' h' lim s'/\A.length=N/\n<=n'/\Fr C h s C' h' s'/\∀(i:Nat),i∉bV (.op d k xs kl rs) []->A[i]? =t[i]? :=by
   intro run xs' zs P nw fx hz f6 hP hk;obtain⟨v,e',h',n',C',y,s',q1,q2,q3,q4,q5,q6,q7⟩:=Vm hM he hz f6 hk;obtain⟨p1,p2,p3⟩:=hP y s' q7
   have B:cV C' ((d,v)::e') (t.set d y):=.put hd q2 (fun i w hw=>by
    obtain⟨z,p1,p2,p3⟩:=q3 i w hw;exact⟨z,p1,p2,fun e1=>p3 (by simp[e1])⟩)
   obtain⟨e2,e5,H,C2,Z,Y,fs,J,L,M,S,U,r6,V,W⟩:=cS hO hX x rs u (d::F) l g C' n' h' _ _ s' K r q1 B q4 (by simpa using hN) o4 (hg.set hgi a0) hgi;exact⟨e2,e5,H,C2,Z,Y,_,J,.ncall (o:=⟨some d,k,xs.map eX,g⟩) hg.wanted h1 p1 p2 p3 L,M,S,U,by omega,q6.trans V,back W⟩
  split at hk;rename_i ty es b zero x1 x2;obtain⟨y1,d1,rfl,p1,p2⟩:=h2.inv_cons;obtain⟨y2,f7,rfl,p3,p4⟩:=p2.inv_cons;have:=p4.inv_nil;subst this;obtain⟨C',e',h',out,q1,q2,q3,q4,q5⟩:=aD1 hM (b:=b) (zero:=zero) he hd p1 p3 hk;obtain⟨e2,q,H,C2,Z,Y,fs,J,L,M,S,U,r6,V,W⟩:=cS hO hX x rs u (d::F) l g C' n h' e' _ _ K r q1 q4 q3 (by simpa using hN) o4 (hg.set hgi a0) hgi;exact⟨e2,q,H,C2,Z,Y,_,J,.op (o:=⟨some d,_,xs.map eX,g⟩) hg.wanted h1 rfl q2 L,M,S,U,r6,q5.trans V,back W⟩;rename_i es k0 kd hi;obtain⟨y1,d1,rfl,p1,p2⟩:=h2.inv_cons;obtain⟨y2,f7,rfl,p3,p4⟩:=p2.inv_cons;have:=p4.inv_nil;subst this;obtain⟨C',e',h',out,q1,q2,q3,q4,q5⟩:=Qg hM he hd p1 p3 hk;obtain⟨e2,q,H,C2,Z,Y,fs,J,L,M,S,U,r6,V,W⟩:=cS hO hX x rs u (d::F) l g C' n h' e' _ _ K r q1 q4 q3 (by simpa using hN) o4 (hg.set hgi a0) hgi;exact⟨e2,q,H,C2,Z,Y,_,J,.op (o:=⟨some d,_,xs.map eX,g⟩) hg.wanted h1 rfl q2 L,M,S,U,r6,q5.trans V,back W⟩;rename_i f;cases hX1:X.is f with
  |true=>
   rw[hX1,qD2]at hk;refine ncall (P:=fun y s'=>(∃ifn,T f=some ifn/\ifn.pure=false/\ifn.frz=false)/\∃D,∀d,D<=d->Sim.callF T (exec T d) lim f ys s=some (y,s')) h2 (fun hs C0 m K' r' d2 d6 hr=>hX.run f vs hs m K' r' C0 s lim ys hX1 hr d6 d2) (fun y s' hp=>⟨?_,fun _=>by simp[kI,hX1],hp.2⟩) hk;obtain⟨⟨ifn,w1,w2,w3⟩,_⟩:=hp;simp[Sim.foot,w1,w2,w3]
  |false=>
   rw[hX1,qS2]at hk;refine d7 hk h2 rfl (by simp[kI,hX1]) (fun⟨ifn,w1,w2⟩=>?_) (fun d s=>rfl);simp[Sim.foot,w1,w2]
  rename_i k0 as;obtain⟨y1,d1,rfl,p1,p2⟩:=h2.inv_cons;obtain⟨id,ver,e1,len,hC,rfl⟩:=Cu p1;by_cases q:dr=3;rw[q]at hk;exact aD hk;rw[bJ,qW2 q,qS2]at hk;refine ncall (fx:=false) (P:=fun y s'=>∃D,∀d,D<=d->Sim.round (exec T d) lim id d1 s=some (y,s')) (xs':=.yld k0::as) (zs:=.fn (.yield id) [] []::d1) h2 (fun hs C0 m K' r' d2 d6 hr=>?_) (fun y s' hp=>⟨rfl,fun h0=>by simp only[kI];rw[pW2 (by omega)],hp⟩) hk;obtain⟨y1,f7,e2,p3,p4⟩:=d6.inv_cons;cases e2;obtain⟨id',i2,e',i1,f9,e3⟩:=Cu p3;cases e3;exact hX.yld k0 as hs m K' r' C0 s lim _ _ _ _ _ hr p4 f9 d2;rename_i f first cap as
  obtain⟨y1,d1,rfl,p1,p2⟩:=h2.inv_cons;obtain⟨a',b',rfl,p3,p4⟩:=uN p1;have hz:=(p3.append p2).append p4;cases hX1:X.is f with
  |true=>
   rw[hX1,qD2]at hk;by_cases q:dr=3;rw[q]at hk;exact aD hk;rw[bJ,qW2 q,qS2]at hk;refine ncall (fx:=false) (P:=fun y s'=>(∃ifn,T f=some ifn/\ifn.pure=false/\ifn.frz=false)/\∃D,∀d,D<=d->Sim.callF T (exec T d) lim f (a'++d1++b') s=some (y,s')) hz (fun hs C0 m K' r' d2 d6 hr=>hX.run f _ hs m K' r' C0 s lim _ hX1 hr d6 d2) (fun y s' hp=>⟨?_,fun h0=>by simp only[kI];rw[pW2 (by omega)],hp.2⟩) hk;obtain⟨⟨ifn,w1,w2,w3⟩,_⟩:=hp;simp[Sim.foot,w1,w2,w3]
  |false=>
   rw[hX1,qS2]at hk;refine d7 hk hz rfl (by simp only[kI];split<;>omega) (fun⟨ifn,w1,w2⟩=>?_) (fun d s=>rfl);simp[Sim.foot,w1,w2]
  obtain⟨v,h',n',C',y,s',q1,q2,q3,q4,q5,q6,q7,q8⟩:=Nj (dr:=dr) hO hM h2 hk;simp only[dR]at q1
  have B:cV C' ((d,v)::edel e (d::kl)) (t.set d y):=.put hd q2 (fun i w hw=>by
   obtain⟨z,p1,p2,p3⟩:=(he.mono q4).edel (d::kl) i w hw;exact⟨z,p1,p2,fun e1=>p3 (by simp[e1])⟩)
  obtain⟨e2,q,H,C2,Z,Y,fs,J,L,M,S,U,r6,V,W⟩:=cS hO hX x rs u (d::F) l g C' n' h' _ _ _ K r q1 B q3 (by simpa using hN) o4 (hg.set hgi a0) hgi;obtain⟨f,hf⟩:=q8 ⟨some d,k,xs.map eX,g⟩ _ t fs _ rfl hg.wanted h1 L;exact⟨e2,q,H,C2,Z,Y,_,J,hf,M,S,U,by omega,q6.trans V,back W⟩
 |.sto k xs kl rs,u,F,l,g,C,n,h,e,t,s,K,r,hk,he,hM,hN,ho,hg,hgi=>by
  simp only[iJ,pN2]at ho;obtain⟨o3,o4⟩:=ho;unfold cU at hk;rw[gM,pM2]at hk;obtain⟨vs,b8,hk⟩:=hk;obtain⟨ys,h1,h2⟩:=iN he o3 b8;obtain⟨v,h',n',C',out,q1,q2,q3,q4,q5,q6,q7,q8⟩:=Gw hM h2 hk;simp only[dR]at q1
  have B:cV C' (edel e kl) t:=fun i w hw=>by
   obtain⟨z,p1,p2,p3⟩:=(he.mono q5).edel kl i w hw;exact⟨z,p1,p2⟩
  obtain⟨e2,q,H,C2,Z,Y,fs,J,L,M,S,U,r6,V,W⟩:=cS hO hX x rs u F l g C' n' h' _ t _ K r q1 B q4 hN o4 hg hgi;refine⟨e2,q,H,C2,Z,Y,_,J,.op (o:=⟨none,k,xs.map eX,g⟩) hg.wanted h1 ?_ q2 L,M,S,U,by omega,q7.trans V,fun i hi=>W i (by simpa only[bV]using hi)⟩;cases k with
  |callF f=>unfold dB at hk;rcases vs with _|⟨a,_|⟨b,_|⟨c,_|⟨d,t⟩⟩⟩⟩<;>exact aD hk
  |callV=>unfold dB at hk;rcases vs with _|⟨a,_|⟨b,_|⟨c,_|⟨d,t⟩⟩⟩⟩<;>exact aD hk
  |_=>rfl
 |.ifx d c w bd x' kl rs,u,F,l,g,C,n,h,e,t,s,K,r,hk,he,hM,hN,ho,hg,hgi=>by
  simp only[iJ,pN2,qH2,fZ,rY2]at ho;obtain⟨⟨⟨⟨⟨o1,o2⟩,o3⟩,o4⟩,o5⟩,o6⟩:=ho;have a0:d∉u:=by simpa using o2
  unfold cU at hk;rw[eZ,pM2]at hk;obtain⟨cv,e7,hk⟩:=hk;split at hk;rename_i cb;rw[bO,pM2]at hk;obtain⟨y,hy,hk⟩:=hk;rw[dR]at hk;obtain⟨cy,b5,e6⟩:=he c _ e7;rw[eQ e6]at b5;obtain⟨fs,t1,s1,p1,p2,p3,p4,zs,p5,p6⟩:=Bg (T:=T) (O:=O) (X:=X) (dr:=dr) hM hN o5 o3 b5 hy (fun hb g6=>rT hO bd (c::u) [] (some (c,w)) C n h e t s x' y hb he hM hN o5 o3 g6 (fun c' w' e=>by cases e;simp))
  have d3:It g t1:=by
   cases g with
   |none=>trivial
   |some p=>
    obtain⟨c',w'⟩:=p;simp only[It]at hg ⊢;rw[p3 c' (fun hi=>dX bd o5 c' hi (by simp[hgi c' w' rfl]))];exact hg
  have hd:d<t1.length:=by omega
  have B:cV C ((d,.v (.bool y))::edel e (d::bV bd kl)) (t1.set d (.v (.bool y))):=.put hd (.cl (.v _)) (fun i w hw=>by
   obtain⟨z,q1,q2,q3⟩:=he.edel (d::bV bd kl) i w hw;have e9:i∉bV bd []:=fun hi=>q3 (by simp[(cJ bd kl i).2 (.inl hi)]);exact⟨z,by rw[p3 i e9];exact q1,q2,fun e1=>q3 (by simp[e1])⟩)
  obtain⟨e2,q,H,C2,Z,Y,f8,J,L,M,S,U,r6,V,W⟩:=cS hO hX x rs u (d::F) l g C n h _ (t1.set d (.v (.bool y))) s1 K r hk B (hM.grow p4) (by simpa using p2) o6 (d3.set hgi a0) hgi;refine⟨e2,q,H,C2,Z,Y,_,J,p1.append (.op (o:=⟨some d,.pick,_,g⟩) d3.wanted p5 rfl p6 L),M,S,U,r6,p4.fr.trans V,fun i hi=>?_⟩;simp only[bV,qI2,cJ bd (bV rs []) i,sI2]at hi;rw[W i hi.2.2,qM2 (Ne.symm hi.1),p3 i hi.2.1];exact aD hk
 |.ifn d c w bd x' kl rs,u,F,l,g,C,n,h,e,t,s,K,r,hk,he,hM,hN,ho,hg,hgi=>by
  simp only[iJ,pN2,qH2,fZ,rY2]at ho;obtain⟨⟨⟨⟨⟨o1,o2⟩,o3⟩,o4⟩,o5⟩,o6⟩:=ho;have a0:d∉u:=by simpa using o2
  unfold cU at hk;rw[eZ,pM2]at hk;obtain⟨cv,e7,hk⟩:=hk;split at hk;rename_i cb;simp only[mJ]at hk;obtain⟨cy,b5,e6⟩:=he c _ e7;rw[eQ e6]at b5
  have f4:∀t1:aA AV,(∀(i:Nat),i∉bV bd []->t1[i]? =t[i]?)->t1[c]? =some (.v (.bool cb)):=fun t1 h7=>by
   rw[h7 c (fun hi=>dX bd o5 c hi (by simp))];exact b5
  have tail:∀{y:PV} {z:AV} {e1:dY} {h1:aQ} {n1:Nat} {C1:Cx} {t1:aA AV} {s1:Hp} {e4:aA Foot} {zs:aA AV},gL e1 (d::bV bd kl) (fun e=>cU O X dr rs ((d,y)::e) h1 n1 K)=some r->RV C1 y z->Tr T X.is dr lim (oL (some (c,w)) bd) {t:=t,s:=s} e4 {t:=t1,s:=s1}->
    cV C1 (edel e1 (d::bV bd kl)) t1->cG C1 n1 h1 lim s1->t1.length=N->n<=n1->Fr C h s C1 h1 s1->(∀(i:Nat),i∉bV bd []->t1[i]? =t[i]?)->
    Sim.evs t1 (if w then[.t c,eX x',.c (.v (.bool false))]else[.t c,.c (.v (.bool true)),eX x'])=some zs->doOp (Sim.look s1.h) lim s1.n .pick zs=some {v:=z}->
    ∃e' h' n' C' A s' fs,K e' h' n'=some r/\Tr T X.is dr lim (oL g (.ifn d c w bd x' kl rs)) {t:=t,s:=s} fs {t:=A,s:=s'}/\cV C' e' A/\cG C' n' h' lim s'/\A.length=N/\n<=n'/\Fr C h s C' h' s'/\∀(i:Nat),i∉bV (.ifn d c w bd x' kl rs) []->A[i]? =t[i]? :=by
   intro y z e1 h1 n1 C1 t1 s1 e4 zs hk i0 h8 d8 g1 g3 i3 g5 G g4 f1;rw[dR]at hk;have hd:d<t1.length:=by omega
   have d3:It g t1:=by
    cases g with
    |none=>trivial
    |some p=>
     obtain⟨c',w'⟩:=p;simp only[It]at hg ⊢;rw[G c' (fun hi=>dX bd o5 c' hi (by simp[hgi c' w' rfl]))];exact hg
   have B:cV C1 ((d,y)::edel e1 (d::bV bd kl)) (t1.set d z):=.put hd i0 (fun i w hw=>by
    obtain⟨z',q1,q2⟩:=d8 i w hw;refine⟨z',q1,q2,fun e2=>?_⟩;rw[tB,pW2 (by simp[e2])]at hw;cases hw)
   obtain⟨e2,q,H,C2,Z,Y,f8,J,L,M,S,U,r6,V,W⟩:=cS hO hX x rs u (d::F) l g C1 n1 h1 _ (t1.set d z) s1 K r hk B g1 (by simpa using g3) o6 (d3.set hgi a0) hgi;refine⟨e2,q,H,C2,Z,Y,_,J,h8.append (.op (o:=⟨some d,.pick,_,g⟩) d3.wanted g4 rfl f1 L),M,S,U,by omega,g5.trans V,fun i hi=>?_⟩;simp only[bV,qI2,cJ bd (bV rs []) i,sI2]at hi;rw[W i hi.2.2,qM2 (Ne.symm hi.1),G i hi.2.1]
  have run:cb=w->cU O X dr bd e h n (fun e h n=>nM e [x'] fun vs=>match vs with
    |[y]=>gL e (d::bV bd kl) fun e=>cU O X dr rs ((d,y)::e) h n K
    |_=>none)=some r->∃e' h' n' C' A s' fs,K e' h' n'=some r/\Tr T X.is dr lim (oL g (.ifn d c w bd x' kl rs)) {t:=t,s:=s} fs {t:=A,s:=s'}/\cV C' e' A/\cG C' n' h' lim s'/\A.length=N/\n<=n'/\Fr C h s C' h' s'/\∀(i:Nat),i∉bV (.ifn d c w bd x' kl rs) []->A[i]? =t[i]? :=by
   intro e8 hk;obtain⟨e1,h1,n1,C1,t1,s1,e4,q1,q2,q3,q4,q5,q6,q7,q8⟩:=cS hO hX x bd (c::u) [] true (some (c,w)) C n h e t s _ r hk he hM hN o5 (by rw[<-e8];exact b5) (fun c' w' e=>by cases e;simp);rw[gM,pM2]at q1;obtain⟨vs,b8,q1⟩:=q1;obtain⟨ys,q,h4⟩:=iN q3 (xs:=[x']) (by simpa using o3) b8;split at q1;rename_i y;obtain⟨z,_,rfl,h5,h6⟩:=h4.inv_cons;rw[h6.inv_nil]at q
   have hz:(eX x').ev t1=some z:=by
    simp only[sC2,tJ2,Sim.evs]at q;split at q;rename_i a b ha hb;simp only[pV2,tF2]at q;rw[<-q.1];exact ha;cases q
   have hc:=f4 t1 q8;cases w with
   |true=>
    subst e8;exact tail q1 h5 q2 (fun i w hw=>by obtain⟨z',p1,p2,_⟩:=q3.edel _ i w hw;exact⟨z',p1,p2⟩) q4 q5 q6 q7 q8 (Hc (a:=.v (.bool true)) (b:=z) (c:=.v (.bool false)) hc hz rfl) rfl
   |false=>
    subst e8;exact tail q1 h5 q2 (fun i w hw=>by obtain⟨z',p1,p2,_⟩:=q3.edel _ i w hw;exact⟨z',p1,p2⟩) q4 q5 q6 q7 q8 (Hc (a:=.v (.bool false)) (b:=.v (.bool true)) (c:=z) hc rfl hz) rfl
   exact aD q1
  have skip:cb≠w->(gL e (d::bV bd kl) fun e=>cU O X dr rs ((d,.v (.bool (!w)))::e) h n K)=some r->∃e' h' n' C' A s' fs,K e' h' n'=some r/\Tr T X.is dr lim (oL g (.ifn d c w bd x' kl rs)) {t:=t,s:=s} fs {t:=A,s:=s'}/\cV C' e' A/\cG C' n' h' lim s'/\A.length=N/\n<=n'/\Fr C h s C' h' s'/\∀(i:Nat),i∉bV (.ifn d c w bd x' kl rs) []->A[i]? =t[i]? :=by
   intro g8 hk;obtain⟨fs,t1,k1,k2,k3,k4⟩:=eH (T:=T) (NF:=X.is) (dr:=dr) (lim:=lim) (s:=s) (some (c,w)) bd (c::u) [] t o5 (fun c' w' e=>by cases e;simp) (by simp[Sim.wanted,b5,g8]) (fun c hc=>by simp at hc);obtain⟨z,hz⟩:=yC (c:=0) (i:=0) (k2.trans hN) o3
   have d8:cV C (edel e (d::bV bd kl)) t1:=fun i v hv=>by
    obtain⟨z,q1,q2,q3⟩:=he.edel (d::bV bd kl) i v hv;have e9:i∉bV bd []:=fun hi=>q3 (by simp[(cJ bd kl i).2 (.inl hi)]);exact⟨z,by rw[k3 i e9];exact q1,q2⟩
   have hc:=f4 t1 k3;cases w with
   |true=>
    have:cb=false:=by cases cb<;>simp_all
    subst this;exact tail hk (.cl (.v (.bool false))) k1 d8 hM (k2.trans hN) (pQ2 _) (.refl _ _ _) k3 (Hc (a:=.v (.bool false)) (b:=z) (c:=.v (.bool false)) hc hz rfl) rfl
   |false=>
    have:cb=true:=by cases cb<;>simp_all
    subst this;exact tail hk (.cl (.v (.bool true))) k1 d8 hM (k2.trans hN) (pQ2 _) (.refl _ _ _) k3 (Hc (a:=.v (.bool true)) (b:=.v (.bool true)) (c:=z) hc rfl hz) rfl
  cases w with
  |true=>
   rw[qD2]at hk;cases cb with
   |true=>exact run rfl hk
   |false=>exact skip (by simp) hk
  |false=>
   rw[qS2]at hk;cases cb with
   |true=>exact skip (by simp) hk
   |false=>exact run rfl hk
  exact aD hk
 |.mkfl d ty zero xs kl rs,u,F,l,g,C,n,h,e,t,s,K,r,hk,he,hM,hN,ho,hg,hgi=>by
  simp only[iJ,pN2,qH2,fZ,rY2]at ho;obtain⟨⟨⟨o1,o2⟩,o3⟩,o4⟩:=ho;have hd:d<t.length:=by omega
  have a0:d∉u:=by simpa using o2
  unfold cU at hk;rw[gM,pM2]at hk;obtain⟨vs,b8,hk⟩:=hk;obtain⟨ys,h1,h2⟩:=iN he o3 b8;cases hc:(Nat.beq zero.length 1&&vs.all Zr)with
  |false=>rw[hc]at hk;exact aD hk
  |true=>
  rw[hc,qD2,dR]at hk;simp only[pN2,bJ,pU2]at hc;obtain⟨C',out,q1,q2,q3,q4,q5⟩:=Vn (ty:=ty) hM h2 hc.1 hc.2
  have hlen:vs.length=xs.length:=by
   have:=h2.1;have q:ys.length=xs.length:=(Nm h1).trans (by simp);omega
  rw[hlen]at q1
  have B:cV C' ((d,.own n)::edel e (d::kl)) (t.set d out.v):=.put hd q2 (fun i w hw=>by
   obtain⟨z,p1,p2,p3⟩:=(he.mono q4).edel (d::kl) i w hw;exact⟨z,p1,p2,fun e1=>p3 (by simp[e1])⟩)
  obtain⟨e2,q,H,C2,Z,Y,fs,J,L,M,S,U,r6,V,W⟩:=cS hO hX x rs u (d::F) l g C' (n+1) _ _ _ _ K r hk B q3 (by simpa using hN) o4 (hg.set hgi a0) hgi;refine⟨e2,q,H,C2,Z,Y,_,J,.op (o:=⟨some d,.buildSl ty 1 xs.length zero (List.range xs.length),xs.map eX,g⟩) hg.wanted h1 rfl q1 L,M,S,U,by omega,q5.trans V,fun i hi=>?_⟩;simp only[bV,qI2,sI2]at hi;rw[W i hi.2,qM2 (Ne.symm hi.1)]
 |.lax d es rs,u,F,l,g,C,n,h,e,t,s,K,r,hk,he,hM,hN,ho,hg,hgi=>by
  simp only[iJ]at ho;unfold cU at hk;rw[eZ,pM2]at hk;obtain⟨v,hv,hk⟩:=hk;obtain⟨y,b4,E⟩:=he d _ hv
  have e0:∀v',RV C v' y->cV C ((d,v')::edel e [d]) t:=fun v' hv' i w hw=>by
   simp only[dQ]at hw;split at hw;rename_i e1;subst e1;cases hw;exact⟨y,b4,hv'⟩;obtain⟨z,q1,q2,_⟩:=he.edel [d] i w hw;exact⟨z,q1,q2⟩
  split at hk;rename_i s';rw[dR]at hk;rw[eQ E]at e0;exact cS hO hX x rs u F l g C n h _ t s K r hk (e0 _ (.cl .isn)) hM hN ho hg hgi;rename_i cs;obtain⟨cs',h1,h2⟩:∃cs',y=.agg cs'/\LR (RV C) cs cs':=lF E;subst h1;obtain⟨cs2,q1,q2⟩:=Nl h2 hk;rw[dR]at q1;exact cS hO hX x rs u F l g C n h _ t s K r q1 (e0 _ (.agg q2.1 q2.2)) hM hN ho hg hgi;exact aD hk
 |.own d ty es g' rs,u,F,l,g,C,n,h,e,t,s,K,r,hk,he,hM,hN,ho,hg,hgi=>by
  simp only[iJ]at ho;unfold cU at hk;rw[eZ,pM2]at hk;obtain⟨v,hv,hk⟩:=hk;obtain⟨y,b4,E⟩:=he d _ hv;split at hk;rw[dR]at hk;have hy:=eQ E;subst hy;obtain⟨m1,m2⟩:=Ke hM (ty:=ty) (e:=es) (g:=g');have d9:=iV hM .nil
  have B:cV (ext C n .nil) ((d,.own n)::edel e [d]) t:=fun i w hw=>by
   simp only[dQ]at hw;split at hw;rename_i e1;subst e1;cases hw;exact⟨_,b4,.ownn (by simp[ext]) rfl⟩;obtain⟨z,q1,q2,_⟩:=he.edel [d] i w hw;exact⟨z,q1,q2.mono d9⟩
  obtain⟨e2,q,H,C2,Z,Y,fs,J,L,M,S,U,r6,V,W⟩:=cS hO hX x rs u F l g _ (n+1) _ _ t s K r hk B m1 hN ho hg hgi;exact⟨e2,q,H,C2,Z,Y,fs,J,L,M,S,U,by omega,m2.trans V,W⟩;exact aD hk
 |.laxc d j es rs,u,F,l,g,C,n,h,e,t,s,K,r,hk,he,hM,hN,ho,hg,hgi=>by
  simp only[iJ]at ho;unfold cU at hk;rw[eZ,pM2]at hk;obtain⟨v,hv,hk⟩:=hk;obtain⟨y,b4,E⟩:=he d _ hv;split at hk;rename_i k o0;rw[eG,pM2]at hk;obtain⟨ob,b0,hk⟩:=hk;split at hk;rename_i cs;obtain⟨id,ver,e1,l1,hC,rfl⟩:=iW E;obtain⟨hj,hk⟩:=dL _ _ _ _ hk;split at hk;rename_i tl b7;obtain⟨f2,hk⟩:=gY _ _ _ _ _ hk;have hk:=dM _ _ _ _ _ hk
  have b6:cs[j]? =some (.v (.slice none 0 0)):=by
   have:(cs.drop j)[0]? =some (.v (.slice none 0 0)):=by rw[b7];rfl
   simpa using this
  obtain⟨f5,b9,esz,row,hL,hl⟩:=pW hM b0 hC;have d4:=(hM.hr.lt (by rw[b0];simp) hC)
  obtain⟨m1,m2⟩:=pV hM (po':=.box (Sim.setL cs j [.is es []])) (ao:=.arr true b9 esz ver [row]) b0 hC ⟨d4.1,d4.2,b9,esz,row,by rw[Sim.look_upd,pW2 ⟨rfl,by rw[hL];rfl⟩],by
   refine⟨by rw[<-hl.1];simp[Sim.setL],fun i a b ha hb=>?_⟩;simp only[Sim.setL]at ha;rw[qK2]at ha;split at ha;rename_i e2;subst e2;split at ha;cases ha;have:=eQ (hl.2 j _ _ b6 hb);subst this;exact .cl .isn;cases ha;exact hl.2 i a b ha hb⟩ rfl
  have G:({h:=upd s.h id (.arr true b9 esz ver [row]),n:=s.n}:Hp)=s:=by
   rw[rV hL]
  rw[G]at m1 m2;obtain⟨e2,q,H,C2,Z,Y,fs,J,L,M,S,U,r6,V,W⟩:=cS hO hX x rs u F l g _ n _ _ t s K r hk he m1 hN ho hg hgi;exact⟨e2,q,H,C2,Z,Y,fs,J,L,M,S,U,by omega,m2.trans V,W⟩;exact aD hk;exact aD hk;exact aD hk
 |.ownc d j ty es g' rs,u,F,l,g,C,n,h,e,t,s,K,r,hk,he,hM,hN,ho,hg,hgi=>by
  simp only[iJ]at ho;unfold cU at hk;rw[eZ,pM2]at hk;obtain⟨v,hv,hk⟩:=hk;obtain⟨y,b4,E⟩:=he d _ hv;split at hk;rename_i k o0;rw[eG,pM2]at hk;obtain⟨ob,b0,hk⟩:=hk;split at hk;rename_i cs;obtain⟨id,ver,e1,l1,hC,rfl⟩:=iW E;obtain⟨hj,hk⟩:=dL _ _ _ _ hk;split at hk;rename_i tl b7;obtain⟨eF,hk⟩:=gY _ _ _ _ _ hk;have hk:=dM _ _ _ _ _ hk;have d9:=iV hM .nil
  have b6:cs[j]? =some (.v (.slice none 0 0)):=by
   have:(cs.drop j)[0]? =some (.v (.slice none 0 0)):=by rw[b7];rfl
   simpa using this
  obtain⟨m1,m2⟩:=aH1 (ty:=ty) (e':=es) (g:=g') (cs2:=Sim.setL cs j [.own n]) hM b0 hC (fun row d5=>by
   refine⟨by rw[<-d5.1];simp[Sim.setL],fun i a b ha hb=>?_⟩;simp only[Sim.setL]at ha;rw[qK2]at ha;split at ha;rename_i e2;subst e2;split at ha;cases ha;have:=eQ (d5.2 j _ _ b6 hb);subst this;exact .ownn (by simp[ext]) rfl;cases ha;exact(d5.2 i a b ha hb).mono d9)
  obtain⟨e2,q,H,C2,Z,Y,fs,J,L,M,S,U,r6,V,W⟩:=cS hO hX x rs u F l g _ (n+1) _ _ t s K r hk (he.mono d9) m1 hN ho hg hgi;exact⟨e2,q,H,C2,Z,Y,fs,J,L,M,S,U,by omega,m2.trans V,W⟩;exact aD hk;exact aD hk;exact aD hk
 |.fz d j rs,u,F,l,g,C,n,h,e,t,s,K,r,hk,he,hM,hN,ho,hg,hgi=>by
  simp only[iJ]at ho;unfold cU at hk;rw[eZ,pM2]at hk;obtain⟨v,hv,hk⟩:=hk;obtain⟨y,b4,E⟩:=he d _ hv
  have fin:∀{m k v0 y0},xN v0=some (m,k)->RV C v0 y0->((j=none/\y=y0)\/∃i cs',j=some i/\y=.agg cs'/\cs'[i]? =some y0)->fzK e h d m k j (fun e h=>cU O X dr rs e h n K)=some r->
    ∃e' h' n' C' A s' fs,K e' h' n'=some r/\Tr T X.is dr lim (oL g rs) {t:=t,s:=s} fs {t:=A,s:=s'}/\cV C' e' A/\cG C' n' h' lim s'/\A.length=N/\n<=n'/\Fr C h s C' h' s'/\∀(i:Nat),i∉bV rs []->A[i]? =t[i]? :=fun{m k v0 y0} hn h9 hj hk=>by
   obtain⟨C',e',h',q1,q2,q3,q4⟩:=aE1 hM he hv b4 E hn h9 hj hk;obtain⟨e2,q,H,C2,Z,Y,fs,J,L,M,S,U,r6,V,W⟩:=cS hO hX x rs u F l g C' n _ _ t s K r q1 q3 q2 hN ho hg hgi;exact⟨e2,q,H,C2,Z,Y,fs,J,L,M,S,U,r6,q4.trans V,W⟩
  cases j with
  |none=>
   simp only at hk;split at hk;rename_i m k hn;exact fin hn E (.inl ⟨rfl,rfl⟩) hk;exact aD hk
  |some j=>
   simp only at hk;cases v with
   |agg cs=>
    obtain⟨cs',rfl,hl⟩:=lF E;obtain⟨hj,hk⟩:=dL _ _ _ _ hk;split at hk;rename_i c tl b7
    have b6:cs[j]? =some c:=by
     have:(cs.drop j)[0]? =some c:=by rw[b7];rfl
     simpa using this
    obtain⟨y0,k1,k2⟩:=hl.get b6;split at hk;rename_i m k hn;exact fin hn k2 (.inr ⟨j,cs',rfl,rfl,k1⟩) hk;exact aD hk;exact aD hk
   |_=>exact aD hk
 |.laxm d j rs,u,F,l,g,C,n,h,e,t,s,K,r,hk,he,hM,hN,ho,hg,hgi=>by
  simp only[iJ]at ho;unfold cU at hk;rw[eZ,pM2]at hk;obtain⟨v,hv,hk⟩:=hk;obtain⟨y,b4,E⟩:=he d _ hv;split at hk;rw[dR]at hk;have hy:=eQ E;subst hy
  have B:cV C ((d,.zm [])::edel e [d]) t:=fun i w hw=>by
   simp only[dQ]at hw;split at hw;rename_i e1;subst e1;cases hw;exact⟨_,b4,.zm0⟩;obtain⟨z,q1,q2,_⟩:=he.edel [d] i w hw;exact⟨z,q1,q2⟩
  exact cS hO hX x rs u F l g C n h _ t s K r hk B hM hN ho hg hgi;rename_i j k o;rw[eG,pM2]at hk;obtain⟨ob,b0,hk⟩:=hk;split at hk;rename_i cs;obtain⟨id,ver,e1,l1,hC,rfl⟩:=iW E;obtain⟨hj,hk⟩:=dL _ _ _ _ hk;split at hk;rename_i tl b7;obtain⟨f2,hk⟩:=gY _ _ _ _ _ hk;have hk:=dM _ _ _ _ _ hk
  have b6:cs[j]? =some (.v (.map none)):=by
   have:(cs.drop j)[0]? =some (.v (.map none)):=by rw[b7];rfl
   simpa using this
  obtain⟨f5,b9,esz,row,hL,hl⟩:=pW hM b0 hC;have d4:=(hM.hr.lt (by rw[b0];simp) hC)
  obtain⟨m1,m2⟩:=pV hM (po':=.box (Sim.setL cs j [.zm []])) (ao:=.arr true b9 esz ver [row]) b0 hC ⟨d4.1,d4.2,b9,esz,row,by rw[Sim.look_upd,pW2 ⟨rfl,by rw[hL];rfl⟩],by
   refine⟨by rw[<-hl.1];simp[Sim.setL],fun i a b ha hb=>?_⟩;simp only[Sim.setL]at ha;rw[qK2]at ha;split at ha;rename_i e2;subst e2;split at ha;cases ha;have:=eQ (hl.2 j _ _ b6 hb);subst this;exact .zm0;cases ha;exact hl.2 i a b ha hb⟩ rfl
  have G:({h:=upd s.h id (.arr true b9 esz ver [row]),n:=s.n}:Hp)=s:=by
   rw[rV hL]
  rw[G]at m1 m2;obtain⟨e2,q,H,C2,Z,Y,fs,J,L,M,S,U,r6,V,W⟩:=cS hO hX x rs u F l g _ n _ _ t s K r hk he m1 hN ho hg hgi;exact⟨e2,q,H,C2,Z,Y,fs,J,L,M,S,U,by omega,m2.trans V,W⟩;exact aD hk;exact aD hk;exact aD hk
end
end Go.P
namespace Go.P
open Go.Sim (AV AO Hp eY upd St IC IX Ex dW CK Wf Out doOp gH exec Foot wanted put popMark)
def bY (C:Cx) (n:Nat):Cx:=⟨fun k=>if k<n then C k else none,C.z⟩
theorem mQ {C:Cx} {n:Nat} {x:PV} {y:AV} (h:RV C x y):∀{d:Nat},mT n d x=true->RV (bY C n) x y:=by
 have lt:∀{k d:Nat} {pl:Pl},C k=some pl->Nat.blt k n=true->bY C n k=some pl:=fun h1 h2=>by
  simp only[rY2]at h2;simp[bY,h2,h1]
 induction h with
 |cl h=>intro d hb;exact .cl h
 |undef=>intro d hb;exact .undef
 |ref h=>intro d hb;cases d with
  |zero=>cases hb
  |succ d=>exact .ref (lt (d:=0) h hb)
 |own h=>intro d hb;cases d with
  |zero=>cases hb
  |succ d=>exact .own (lt (d:=0) h hb)
 |ownn h hy=>intro d hb;cases d with
  |zero=>cases hb
  |succ d=>exact .ownn (lt (d:=0) h hb) hy
 |el h=>intro d hb;cases d with
  |zero=>cases hb
  |succ d=>exact .el (lt (d:=0) h hb)
 |map h=>intro d hb;cases d with
  |zero=>cases hb
  |succ d=>exact .map (lt (d:=0) h hb)
 |yld h=>intro d hb;cases d with
  |zero=>cases hb
  |succ d=>exact .yld (lt (d:=0) h hb)
 |fn h1 h2 v1 v2 i1 i2=>intro d hb;cases d with
  |zero=>cases hb
  |succ d=>
   simp only[mT,pN2]at hb;exact .fn h1 h2 (fun j x y a hy=>i1 j x y a hy (pX2.1 hb.1 x (pZ2 a))) (fun j x y a hy=>i2 j x y a hy (pX2.1 hb.2 x (pZ2 a)))
 |agg hl hc ih=>intro d hb;cases d with
  |zero=>cases hb
  |succ d=>exact .agg hl (fun j x y a hy=>ih j x y a hy (pX2.1 hb x (pZ2 a)))
 |tup hl hc ih=>intro d hb;cases d with
  |zero=>cases hb
  |succ d=>exact .tup hl (fun j x y a hy=>ih j x y a hy (pX2.1 hb x (pZ2 a)))
 |zs h=>intro d hb;exact .zs h
 |zm h he=>intro d hb;exact .zm h he
 |zm0=>intro d hb;exact .zm0
section
variable {R:Type}
theorem Hf:∀(e:dY) (i:Nat) (K:PV->aB R) (D:aB R),Ms e i K D=match dQ e i with|some v=>K v|none=>D
 |[],_,_,_=>rfl
 |(j,v)::r,i,K,D=>by
  simp only[Ms,dQ,bJ]
  by_cases h:j=i<;>simp[h,Hf r i K D]
theorem tK {e:dY} {n:Nat}:∀{is:aA Nat} {K:dY->aB R} {r:R},Gr e is n K=some r->∃e',K e'=some r/\∀i v,dQ e' i=some v->dQ e i=some v/\mT n 4 v=true
 |[],K,r,h=>⟨[],h,fun i v h=>by simp[dQ]at h⟩
 |i::is,K,r,h=>by
  unfold Gr at h
  rw[Hf]at h
  cases hv:dQ e i with
  |none=>rw[hv]at h;exact tK h
  |some v=>
   rw[hv]at h
   simp only at h
   cases hb:mT n 4 v with
   |false=>rw[hb]at h;exact aD h
   |true=>
    rw[hb,qD2]at h
    obtain⟨e',h1,h2⟩:=tK h
    refine⟨_,h1,fun j w hw=>?_⟩
    simp only[dQ]at hw
    split at hw
    grind
    exact h2 j w hw
theorem Bn {h:aQ} {n:Nat}:∀{r:aQ} {K:aQ->aB R} {x:R},Mt r h n K=some x->∃h',K h'=some x/\∀k,(aL r k=none->aL h' k=none)/\(aL r k≠none->∃o,aL h' k=some o/\aL h k=some o/\rM n o=true)
 |[],K,x,hk=>⟨[],hk,fun k=>⟨fun _=>rfl,fun h=>absurd rfl h⟩⟩
 |(j,o)::r,K,x,hk=>by
  unfold Mt at hk
  rw[eG,pM2]at hk
  obtain⟨o',b,hk⟩:=hk
  cases hb:rM n o' with
  |false=>rw[hb]at hk;exact aD hk
  |true=>
   rw[hb,qD2]at hk
   obtain⟨h',h1,h2⟩:=Bn hk
   refine⟨_,h1,fun k=>?_⟩
   simp only[aL]
   by_cases a:j=k
   grind
   grind
variable {C0 C:Cx} {n0 n:Nat} {h0 h:aQ} {e:dY} {t:List AV} {s0 s:Hp} {lim:Nat}
theorem lR (hd:∀k,aL h0 k≠none->k<n0) (w:cG C n h lim s) (he:cV C e t) {keep:aA Nat} {K:Gs->aB R} {r:R} (hk:kD keep h0 n0 e h K=some r):
  ∃st,K st=some r/\cV (bY C n0) st.e t/\cG (bY C n0) n0 st.h lim s/\(∀k o,aL st.h k=some o->aL h k=some o)/\(∀k,aL h0 k=none↔aL st.h k=none):=by
 unfold kD at hk;obtain⟨e',hk,h1⟩:=tK hk;obtain⟨h',hk,h2⟩:=Bn hk;have m:∀k o,aL h' k=some o->aL h k=some o/\rM n0 o=true/\k<n0:=fun k o p=>by grind
 have hr:∀k pl,bY C n0 k=some pl->C k=some pl/\k<n0:=fun k pl hk=>by
  simp only[bY]at hk;split at hk
  grind
  cases hk
 refine⟨_,hk,fun i v hv=>?_,⟨⟨fun k o A=>?_,fun k k' id v e l v' e' l' a b c d=>?_,fun id o B=>?_⟩,fun k pl hk=>(hr k pl hk).2,w.wf,w.lim⟩,fun k o p=>(m k o p).1,fun k=>⟨(h2 k).1,fun B=>?_⟩⟩;obtain⟨q1,q2⟩:=h1 i v hv;obtain⟨y,p1,p2⟩:=he i v q1;exact⟨y,p1,mQ p2 q2⟩;obtain⟨q1,q2,q3⟩:=m k o A;obtain⟨pl,p1,p2⟩:=w.hr.ob k o q1;refine⟨pl,by simp[bY,q3,p1],?_⟩;cases o with
 |box cs=>
  cases pl with
  |nil=>exact p2
  |atp id ver e len=>
   obtain⟨a1,a2,ty,esz,row,a3,a4⟩:=p2;exact⟨a1,a2,ty,esz,row,a3,a4.1,fun j x y u hy=>mQ (a4.2 j x y u hy) (pX2.1 q2 x (pZ2 u))⟩
 |lst ty e g rows=>cases pl<;>exact p2
 |lz ty e dp rows=>cases pl<;>exact p2
 |mp es=>cases pl<;>exact p2
 |fl fs=>
  cases pl with
  |nil=>exact p2
  |atp id ver e len=>
   obtain⟨a1,a2,a3,a4,ty,els,a5,a6,a7⟩:=p2;refine⟨a1,a2,a3,a4,ty,els,a5,a6,fun i f row hf q=>?_⟩;have z:=pX2.1 q2 f (pZ2 hf);refine⟨(a7 i f row hf q).1,fun j x y u hy=>?_⟩;cases j with
   |zero=>simp at u;subst u;exact mQ ((a7 i f row hf q).2 0 f y rfl hy) z
   |succ j=>simp at u
 |loop N' e ps a b busy fin=>
  cases pl with
  |nil=>exact p2
  |atp id ver e' len=>
   obtain⟨a1,a2,st,pend,tmps,a3,a4,a5,a6⟩:=p2;refine⟨a1,a2,st,pend,tmps,a3,a4,fun i v hv=>?_,a6⟩;obtain⟨y,E,F⟩:=a5 i v hv;exact⟨y,E,mQ F (pX2.1 q2 _ (yE hv))⟩
 have D:∀k,aL h' k≠none->aL h k≠none:=fun k hk=>by
  cases p:aL h' k with
  |none=>exact absurd p hk
  |some o=>rw[(m k o p).1];simp
 exact w.hr.inj k k' id v e l v' e' l' (D k a) (D k' b) (hr _ _ c).1 (hr _ _ d).1;obtain⟨z1,z2,z3,z4⟩:=w.hr.zr id o B;refine⟨z1,z2,fun k v e l a b=>z3 k v e l ?_ (hr _ _ b).1,z4⟩;cases p:aL h' k with
 |none=>exact absurd p a
 |some o=>rw[(m k o p).1];simp
 grind
theorem Fr.canon {h1 hc:aQ} (c:cG C0 n0 h1 lim s0) (hf:Fr C0 h1 s0 C h s) (a:∀k o,aL hc k=some o->aL h k=some o) (b:∀k,aL h1 k=none↔aL hc k=none):Fr C0 h1 s0 (bY C n0) hc s:=by
 refine⟨hf.sk,hf.n,hf.keep,fun id f d=>hf.own id f ?_,fun k o hk=>?_,hf.zl,hf.zn⟩;obtain⟨k,v,e,l,q1,q2⟩:=d;refine⟨k,v,e,l,?_,?_⟩;cases d:aL hc k with
 |none=>exact absurd d q1
 |some o=>rw[a k o d];simp
 simp only[bY]at q2;split at q2;exact q2;cases q2;obtain⟨o',q1,q2⟩:=hf.kd k o hk
 have g:k<n0:=by
  obtain⟨pl,p1,_⟩:=c.hr.ob k o hk;exact c.dom k pl p1
 cases hz:aL hc k with
 |none=>rw[(b k).2 hz]at hk;cases hk
 |some o2=>
  have:=a k o2 hz;rw[q1]at this;cases this;exact⟨o',rfl,fun hb=>⟨(q2 hb).1,by simp[bY,g,(q2 hb).2]⟩⟩
theorem eW:∀{h:aA eY} {id:Nat} {o:AO},Sim.look h id=some o->(∀ty e v els,o≠.arr true ty e v els)->Sim.look (popMark h) id=some o
 |[],id,o,h,_=>by simp[Sim.look]at h
 |.mark::r,id,o,h,_=>h
 |.ob i o'::r,id,o,h,hne=>by
  simp only[Sim.look]at h
  simp only[popMark]
  split at h
  rename_i a
  cases h
  split
  grind
  simp[Sim.look,a]
  rename_i a
  have ih:=eW h hne
  split
  exact ih
  simp[Sim.look,a,ih]
theorem cG.pop {C1:Cx} {h1 hc:aQ} {f:Hp} (l:cG C0 n0 h1 lim s0) (d:cG C1 n0 hc lim f) (hf:Fr C0 h1 {h:=.mark::s0.h,n:=s0.n} C1 hc f) (c:∀k,aL h1 k=none↔aL hc k=none):
  cG C1 n0 hc lim {h:=popMark f.h,n:=f.n}/\Fr C0 h1 s0 C1 hc {h:=popMark f.h,n:=f.n}:=by
 obtain⟨p1,p2⟩:=hf.sk.pop;refine⟨⟨⟨fun k o hk=>?_,d.hr.inj,fun id o j=>?_⟩,d.dom,d.wf.pop,d.lim⟩,⟨p1,hf.n,fun id i p=>?_,hf.own,hf.kd,hf.zl,hf.zn⟩⟩;obtain⟨pl,q1,q2⟩:=d.hr.ob k o hk;refine⟨pl,q1,?_⟩;cases o with
 |box cs=>
  cases pl with
  |nil=>exact q2
  |atp id ver e len=>
   obtain⟨a1,a2,ty,esz,row,a3,a4⟩:=q2
   have m:id<s0.n:=by
    cases j:aL h1 k with
    |none=>rw[(c k).1 j]at hk;cases hk
    |some o0=>
     obtain⟨o',w1,w2⟩:=hf.kd k o0 j;rw[hk]at w1;cases w1;obtain⟨_,w3⟩:=w2 rfl;rw[q1]at w3;exact(l.hr.lt (by rw[j];simp) w3.symm).2
   exact⟨a1,a2,ty,esz,row,by rw[p2 id m];exact a3,a4⟩
 |lst ty e g rows=>
  cases pl with
  |nil=>exact q2
  |atp id ver e' len=>
   obtain⟨a1,a2,a3,a4,els,a5,a6⟩:=q2;exact⟨a1,a2,a3,a4,els,eW a5 (fun _ _ _ _ e=>by cases e),a6⟩
 |lz ty e dp rows=>
  cases pl with
  |nil=>exact q2
  |atp id ver e' len=>
   obtain⟨a1,a2,a3,a4,a7,els,a5,a6⟩:=q2;exact⟨a1,a2,a3,a4,a7,els,eW a5 (fun _ _ _ _ e=>by cases e),a6⟩
 |mp es=>
  cases pl with
  |nil=>exact q2
  |atp id ver e' len=>
   obtain⟨a1,a2,es',a3,a4⟩:=q2;exact⟨a1,a2,es',eW a3 (fun _ _ _ _ e=>by cases e),a4⟩
 |fl fs=>
  cases pl with
  |nil=>exact q2
  |atp id ver e' len=>
   obtain⟨a1,a2,a3,a4,ty,els,a5,a6⟩:=q2;exact⟨a1,a2,a3,a4,ty,els,eW a5 (fun _ _ _ _ e=>by cases e),a6⟩
 |loop N' e ps a b busy fin=>
  cases pl with
  |nil=>exact q2
  |atp id ver e' len=>
   obtain⟨a1,a2,st,pend,tmps,a3,a4⟩:=q2;exact⟨a1,a2,st,pend,tmps,eW a3 (fun _ _ _ _ e=>by cases e),a4⟩
 obtain⟨z1,z2,z3,z4⟩:=d.hr.zr id o j;exact⟨eW z1 (fun _ _ _ _ e=>by subst e;cases z4),z2,z3,z4⟩;rw[p2 id i];exact hf.keep id i p
end
end Go.P
namespace Go.P
open Go.Sim (AV AO Hp eY upd St IC IX Ex dW CK Wf Out doOp gH exec Foot wanted put popMark)
def rW (NF:FuncId->Bool) (N:Nat) (rd:Bool):PC->Bool
 |.reg ops=>iJ N [] false [] ops
 |.regD dr ops before=>(Nat.beq dr 3||Nat.beq dr 4)&&iJ N [] false [] ops&&Cw ((oL none ops).map fun o=>kI NF dr o.k) before
 |.regX dr ops before ex=>(Nat.beq dr 3||Nat.beq dr 4)&&iJ N [] false [] ops&&Nc ((oL none ops).map fun o=>kI NF dr o.k) before ex&&ex.all (Qc (oL none ops))
 |.seq a b=>rW NF N rd a&&rW NF N rd b
 |.cond c a b=>Km N c&&rW NF N rd a&&rW NF N rd b
 |.condJ _ c a b=>Km N c&&rW NF N rd a&&rW NF N rd b
 |.condL c a b=>Km N c&&rW NF N rd a&&rW NF N rd b
 |.block _ c=>rW NF N rd c
 |.loop _ _ c=>rW NF N rd c
 |.loopU _ _ c=>rW NF N rd c
 |.rangeF N' _ f _ _ _=> !rd&&Nat.beq N' N&&Km N f
 |_=>true
def okL (NF:FuncId->Bool) (N:Nat) (ps:aA Nat) (a b:PC):Bool:=ps.all (fun p=>Nat.blt p N)&&rW NF N true a&&rW NF N true b
theorem qA:∀{ops:gC} {g:aB (Nat×Bool)},uM ops=true->oL g ops=[]
 |.nil,g,_=>rfl
 |.lax _ _ r,g,h=>qA (ops:=r) h
 |.own _ _ _ _ r,g,h=>qA (ops:=r) h
 |.ownc _ _ _ _ _ r,g,h=>qA (ops:=r) h
 |.laxc _ _ _ r,g,h=>qA (ops:=r) h
 |.fz _ _ r,g,h=>qA (ops:=r) h
 |.laxm _ _ r,g,h=>qA (ops:=r) h
section
variable {T:gH} {O:rL} {X:NX}
def Sl {R:Type} (T:gH) (N lim:Nat) (rd:Bool) (c:IC) (C:Cx) (n:Nat) (h:aQ) (t:aA AV) (s:Hp) (K:Ex->dY->aQ->Nat->aB R) (r:R):Prop:=
 ∃x e' h' n' C' a s',K x e' h' n'=some r/\cV C' e' a/\cG C' n' h' lim s'/\a.length=N/\n<=n'/\Fr C h s C' h' s'/\∃D,∀d,D<=d->exec T d lim rd c {t:=t,s:=s}=some (x,{t:=a,s:=s'})
variable {R:Type} {N lim:Nat} {rd:Bool}
theorem Tr.nil_inv {NF:FuncId->Bool} {dr:Nat} {σ τ:St} {fs:aA Foot} (h:Tr T NF dr lim [] σ fs τ):τ=σ:=by cases h;rfl
theorem Hg {C:Cx} {x:PV} {a:AV} (h:RV C x a) (hf:Ui x=true):Sim.idOf a=[]:=by
 cases h with
 |cl h=>cases h<;>first|rfl|simp[Ui]at hf
 |_=>simp[Ui]at hf
theorem Vo {C:Cx} {x:PV} {a:AV} {k i:Nat} (h:RV C x a) (hk:rN x=some k) (hi:i∈Sim.idOf a):∃v e l,C k=some (.atp i v e l):=by
 cases h with
 |cl h=>cases h<;>simp[rN]at hk
 |ownn h hy=>subst hy;simp[Sim.idOf]at hi
 |ref h=>simp[rN]at hk;simp[Sim.idOf]at hi;subst hk;subst hi;exact⟨_,_,_,h⟩
 |own h=>simp[rN]at hk;simp[Sim.idOf]at hi;subst hk;subst hi;exact⟨_,_,_,h⟩
 |el h=>simp[rN]at hk;simp[Sim.idOf]at hi;subst hk;subst hi;exact⟨_,_,_,h⟩
 |map h=>simp[rN]at hk;simp[Sim.idOf]at hi;subst hk;subst hi;exact⟨_,_,_,h⟩
 |_=>simp[rN]at hk
theorem Vp {C:Cx} {e:dY} {t:aA AV} {n lim:Nat} {h:aQ} {s:Hp} (he:cV C e t) (o:cG C n h lim s) {p:Nat×Nat×Nat×Nat}
  (hp:(match dQ e p.2.2.1,dQ e p.2.2.2 with|some x,some y=>Kd h x y|_,_=>false)=true):Nd {t:=t,s:=s} p:=by
 split at hp;rename_i x y r hy;obtain⟨a,q,g⟩:=he _ _ r;obtain⟨b,hb,j⟩:=he _ _ hy;refine⟨a,b,q,hb,fun i hi d=>?_⟩;unfold Kd at hp;simp only[qC2]at hp;rcases hp with(hp|hp)|hp;rw[Hg g hp]at hi;simp at hi;rw[Hg j hp]at d;simp at d;split at hp;rename_i k k' h1 h2;simp only[pN2,qH2,bJ,rC2]at hp;obtain⟨⟨f,hk⟩,c⟩:=hp;obtain⟨v,m,l,c1⟩:=Vo g h1 hi;obtain⟨v',e2,l',c2⟩:=Vo j h2 d;exact f (o.hr.inj k k' i v m l v' e2 l' (fun h=>by rw[h]at hk;cases hk) (fun h=>by rw[h]at c;cases c) c1 c2);cases hp;cases hp
theorem aI1 {a b:IC} {C:Cx} {n:Nat} {h:aQ} {t:aA AV} {s:Hp} {K:Ex->dY->aQ->Nat->aB R} {r:R} {v:PC}
  (y:Sl T N lim rd a C n h t s (fun x e h n=>match x with|.normal=>eL O X v e h n K|.exit i=>K (.exit i) e h n|.ret=>K .ret e h n) r)
  (hb:∀C n h e t s,eL O X v e h n K=some r->cV C e t->cG C n h lim s->t.length=N->Sl T N lim rd b C n h t s K r):
  Sl T N lim rd (.seq a b) C n h t s K r:=by
 obtain⟨x,f,h1,p,C1,u,q,g,j,k,l,w,m,D,o⟩:=y;cases x with
 |normal=>
  obtain⟨E,e2,h2,z,C2,B,A,q1,q2,q3,q4,q5,q6,D2,q7⟩:=hb C1 p h1 f u q g j k l;refine⟨E,e2,h2,z,C2,B,A,q1,q2,q3,q4,by omega,m.trans q6,D+D2+1,fun d hd=>?_⟩;obtain⟨d,rfl⟩:∃c,d=c+1:=⟨d-1,by omega⟩
  simp only[exec,o d (by omega)];exact q7 d (by omega)
 |exit i=>
  refine⟨.exit i,f,h1,p,C1,u,q,g,j,k,l,w,m,D+1,fun d hd=>?_⟩;obtain⟨d,rfl⟩:∃c,d=c+1:=⟨d-1,by omega⟩
  simp only[exec,o d (by omega)]
 |ret=>
  refine⟨.ret,f,h1,p,C1,u,q,g,j,k,l,w,m,D+1,fun d hd=>?_⟩;obtain⟨d,rfl⟩:∃c,d=c+1:=⟨d-1,by omega⟩
  simp only[exec,o d (by omega)]
theorem yH {c:IX} {a b:IC} {C:Cx} {n:Nat} {h:aQ} {t:aA AV} {s:Hp} {K:Ex->dY->aQ->Nat->aB R} {r:R} {v:Bool} (hc:c.ev t=some (.v (.bool v)))
  (g:Sl T N lim rd (if v then a else b) C n h t s K r):Sl T N lim rd (.cond c a b) C n h t s K r:=by
 obtain⟨x,f,h1,q,C1,w,u,i,j,k,l,m,o,D,p⟩:=g;refine⟨x,f,h1,q,C1,w,u,i,j,k,l,m,o,D+1,fun d hd=>?_⟩;obtain⟨d,rfl⟩:∃e,d=e+1:=⟨d-1,by omega⟩
 simp only[exec,hc];exact p d (by omega)
theorem De {C:Cx} {e:dY} {t:aA AV} {c:PX} {vs:aA PV} (he:cV C e t) (f:Km N c=true) (a:evs e [c]=some vs) {v:Bool} (hv:vs=[.v (.bool v)]):(eX c).ev t=some (.v (.bool v)):=by
 obtain⟨ys,h1,h2⟩:=iN he (xs:=[c]) (by simpa using f) a;subst hv;obtain⟨y,_,rfl,b,d⟩:=h2.inv_cons;rw[d.inv_nil,eQ b]at h1;simp only[sC2,tJ2,Sim.evs]at h1;split at h1
 grind
 cases h1
theorem Hh {c:IC} {w:PC} {keep kx:aA Nat} {n:Nat} {h0:aQ} (hd:∀k,aL h0 k≠none->k<n)
  (hb:∀{R':Type} (K':Ex->dY->aQ->Nat->aB R') (r':R') C n h e t s,eL O X w e h n K'=some r'->cV C e t->cG C n h lim s->t.length=N->Sl T N lim rd c C n h t s K' r'):
  ∀(k:Nat) (st:Gs) (C:Cx) (t:aA AV) (s:Hp) (x:Ex) (st':Gs),
   aR (fun s:Gs=>eL O X w s.e s.h n fun x e' h' _=>kD (lk x keep kx) h0 n e' h' fun s'=>some (match x with|.normal=>(.inl s':Gs⊕(Ex×Gs))|x=>.inr (x,s'))) k st=some (x,st')->
   cV C st.e t->cG C n st.h lim s->t.length=N->(∀k,aL h0 k=none↔aL st.h k=none)->
   ∃C' j s',cV C' st'.e j/\cG C' n st'.h lim s'/\j.length=N/\Fr C st.h s C' st'.h s'/\∃D,∀d,D<=d->exec T d lim rd (.loop c) {t:=t,s:=s}=some (x,{t:=j,s:=s'})
 |0,st,C,t,s,x,st',h,_,_,_,_=>by simp[aR]at h
 |k+1,st,C,t,s,x,st',h,he,hM,hN,hkeys=>by
  simp only[aR,pM2]at h
  obtain⟨q,z,h⟩:=h
  have b:cG C n st.h lim {h:=.mark::s.h,n:=s.n}:=⟨⟨hM.hr.ob,hM.hr.inj,hM.hr.zr⟩,hM.dom,hM.wf,hM.lim⟩
  obtain⟨x1,H,h1,K,C1,v,L,B,E,F,o,J,G,D,p⟩:=hb _ q C n st.h st.e t _ z he b hN
  have y:∀k,aL st.h k≠none->k<n:=fun k hk=>hd k (fun A=>hk ((hkeys k).1 A))
  obtain⟨g,w1,w2,w3,w4,w5⟩:=lR hd F E B
  have l:∀k,aL st.h k=none↔aL g.h k=none:=fun k=>(hkeys k).symm.trans (w5 k)
  have m:=Fr.canon b G w4 l
  obtain⟨r,u⟩:=cG.pop hM w3 m l
  cases x1 with
  |normal=>
   simp only[pV2]at w1
   subst w1
   simp only at h
   obtain⟨C',j,s',p1,p2,p3,p4,D2,p5⟩:=Hh hd hb k g _ v _ x st' h w2 r o w5
   refine⟨C',j,s',p1,p2,p3,u.trans p4,D+D2+1,fun d f=>?_⟩
   obtain⟨d,rfl⟩:∃a,d=a+1:=⟨d-1,by omega⟩
   rw[exec]
   simp only[p d (by omega)]
   exact p5 d (by omega)
  |exit i=>
   simp only[pV2]at w1
   subst w1
   simp only[pV2,qE2]at h
   obtain⟨rfl,rfl⟩:=h
   refine⟨_,v,_,w2,r,o,u,D+1,fun d f=>?_⟩
   obtain⟨d,rfl⟩:∃a,d=a+1:=⟨d-1,by omega⟩
   rw[exec]
   simp only[p d (by omega)]
  |ret=>
   simp only[pV2]at w1
   subst w1
   simp only[pV2,qE2]at h
   obtain⟨rfl,rfl⟩:=h
   refine⟨_,v,_,w2,r,o,u,D+1,fun d f=>?_⟩
   obtain⟨d,rfl⟩:∃a,d=a+1:=⟨d-1,by omega⟩
   rw[exec]
   simp only[p d (by omega)]
theorem Bo {c:IC} {w:PC} {keep:aA Nat} {n:Nat} {h0:aQ} (hd:∀k,aL h0 k≠none->k<n)
  (hb:∀{R':Type} (K':Ex->dY->aQ->Nat->aB R') (r':R') C n h e t s,eL O X w e h n K'=some r'->cV C e t->cG C n h lim s->t.length=N->Sl T N lim rd c C n h t s K' r'):
  ∀(k:Nat) (st:Gs) (C:Cx) (t:aA AV) (s:Hp) (K:Ex->Gs->aB R) (r:R),
   xO (fun e h K=>eL O X w e h n fun x e h _=>K x e h) (fun e' h' K=>kD keep h0 n e' h' K) k st K=some r->
   cV C st.e t->cG C n st.h lim s->t.length=N->(∀k,aL h0 k=none↔aL st.h k=none)->
   ∃x st' C' j s',K x st'=some r/\cV C' st'.e j/\cG C' n st'.h lim s'/\j.length=N/\Fr C st.h s C' st'.h s'/\∃D,∀d,D<=d->exec T d lim rd (.loop c) {t:=t,s:=s}=some (x,{t:=j,s:=s'})
 |0,st,C,t,s,K,r,h,_,_,_,_=>by simp[xO]at h
 |k+1,st,C,t,s,K,r,hq,he,hM,hN,hkeys=>by
  simp only[xO]at hq
  have f:cG C n st.h lim {h:=.mark::s.h,n:=s.n}:=⟨⟨hM.hr.ob,hM.hr.inj,hM.hr.zr⟩,hM.dom,hM.wf,hM.lim⟩
  obtain⟨x1,G,h1,J,C1,v,L,A,B,E,o,H,F,D,p⟩:=hb _ r C n st.h st.e t _ hq he f hN
  have y:∀k,aL st.h k≠none->k<n:=fun k hk=>hd k (fun z=>hk ((hkeys k).1 z))
  obtain⟨a,w1,w2,w3,w4,w5⟩:=lR hd E B A
  have l:∀k,aL st.h k=none↔aL a.h k=none:=fun k=>(hkeys k).symm.trans (w5 k)
  have m:=Fr.canon f F w4 l
  obtain⟨q,u⟩:=cG.pop hM w3 m l
  cases x1 with
  |normal=>
   obtain⟨x,st',C',j,s',p0,p1,p2,p3,p4,D2,p5⟩:=Bo hd hb k a _ v _ K r w1 w2 q o w5
   refine⟨x,st',C',j,s',p0,p1,p2,p3,u.trans p4,D+D2+1,fun d g=>?_⟩
   obtain⟨d,rfl⟩:∃b,d=b+1:=⟨d-1,by omega⟩
   rw[exec]
   simp only[p d (by omega)]
   exact p5 d (by omega)
  |exit i=>
   refine⟨.exit i,a,_,v,_,w1,w2,q,o,u,D+1,fun d g=>?_⟩
   obtain⟨d,rfl⟩:∃b,d=b+1:=⟨d-1,by omega⟩
   rw[exec]
   simp only[p d (by omega)]
  |ret=>
   refine⟨.ret,a,_,v,_,w1,w2,q,o,u,D+1,fun d g=>?_⟩
   obtain⟨d,rfl⟩:∃b,d=b+1:=⟨d-1,by omega⟩
   rw[exec]
   simp only[p d (by omega)]
def uY:aQ->Nat->aQ
 |[],_=>[]
 |(j,o)::r,k=>if j=k then uY r k else(j,o)::uY r k
theorem Hi:∀(h:aQ) (k:Nat) (K:aQ->aB R),Gp h k K=K (uY h k)
 |[],_,_=>rfl
 |(j,o)::r,k,K=>by
  simp only[Gp,uY,bJ]
  by_cases e:j=k<;>simp[e,Hi r k]
theorem lS:∀(h:aQ) (k j:Nat),aL (uY h k) j=if j=k then none else aL h j
 |[],k,j=>by simp[uY,aL]
 |(i,o)::r,k,j=>by
  have ih:=lS r k j
  simp only[uY]
  by_cases e:i=k
  subst e
  rw[pW2 rfl,ih]
  by_cases e2:j=i
  simp[e2]
  simp[e2,aL,Ne.symm e2]
  rw[pT2 e]
  simp only[aL]
  by_cases e2:i=j
  subst e2;simp[e]
  grind
theorem yI {e:dY}:∀{is:aA Nat} {K:dY->aB R} {r:R},Mu e is K=some r->∃e',K e'=some r/\∀i v,dQ e' i=some v->dQ e i=some v
 |[],K,r,h=>⟨[],h,fun i v h=>by simp[dQ]at h⟩
 |i::is,K,r,h=>by
  unfold Mu at h
  rw[eZ,pM2]at h
  obtain⟨v,hv,h⟩:=h
  obtain⟨e',h1,h2⟩:=yI h
  refine⟨_,h1,fun j w hw=>?_⟩
  simp only[dQ]at hw
  split at hw
  grind
  exact h2 j w hw
theorem vN {C:Cx} {n:Nat} {h:aQ} {lim:Nat} {s:Hp} (f:cG C n h lim s) {k id ver e len N:Nat} {c:dY} {ps:aA Nat} {a b:PC} {busy:Bool} {fin:aB Ex} (hg:aL h k=some (.loop N c ps a b busy fin)) (d:C k=some (.atp id ver e len)):
  lim<=id/\∃st pend tmps,Sim.look s.h id=some (.loop st pend tmps ps (iG a) (iG b))/\tmps.length=N/\cV C c tmps/\StR busy fin st pend:=by
 obtain⟨pl,h1,h2⟩:=f.hr.ob k _ hg;rw[d]at h1;cases h1;exact⟨h2.1,h2.2.2⟩
theorem dN (G:∀f xs v,O f xs=some v->lQ T f xs v) (E:NOK T X):∀(c:PC) {R:Type} (K:Ex->dY->aQ->Nat->aB R) (r:R) (C:Cx) (n:Nat) (h:aQ) (e:dY) (t:aA AV) (s:Hp),eL O X c e h n K=some r->cV C e t->cG C n h lim s->t.length=N->
  rW X.is N rd c=true->Sl T N lim rd (iG c) C n h t s K r
 |.skip,R,K,r,C,n,h,e,t,s,hk,he,j,w,u=>⟨.normal,e,h,n,C,t,s,hk,he,j,w,pQ2 _,.refl _ _ _,1,fun d hd=>by
   obtain⟨d,rfl⟩:∃F,d=F+1:=⟨d-1,by omega⟩
   simp only[iG,exec]⟩
 |.exit i,R,K,r,C,n,h,e,t,s,hk,he,j,w,u=>⟨.exit i,e,h,n,C,t,s,hk,he,j,w,pQ2 _,.refl _ _ _,1,fun d hd=>by
   obtain⟨d,rfl⟩:∃F,d=F+1:=⟨d-1,by omega⟩
   simp only[iG,exec]⟩
 |.ret,R,K,r,C,n,h,e,t,s,hk,he,j,w,u=>⟨.ret,e,h,n,C,t,s,hk,he,j,w,pQ2 _,.refl _ _ _,1,fun d hd=>by
   obtain⟨d,rfl⟩:∃F,d=F+1:=⟨d-1,by omega⟩
   simp only[iG,exec]⟩
 |.reg ops,R,K,r,C,n,h,e,t,s,hk,he,j,w,u=>by
  obtain⟨e',h',n',C',U,s',fs,q1,q2,q3,q4,q5,q6,q7,_⟩:=cS G E (.inl rfl) ops [] [] false none C n h e t s _ r hk he j w u trivial (fun _ _ e=>by cases e)
  obtain⟨D,hD⟩:=q2.run
  refine⟨.normal,e',h',n',C',U,s',q1,q3,q4,q5,q6,q7,D+1,fun d hd=>?_⟩
  obtain⟨d,rfl⟩:∃F,d=F+1:=⟨d-1,by omega⟩
  simp only[iG,exec,hD d (by omega),qR2]
 |.regD dr ops before,R,K,r,C,n,h,e,t,s,hk,he,j,w,u=>by
  simp only[rW,pN2,qC2,bJ,pU2]at u
  obtain⟨e',h',n',C',U,s',fs,q1,q2,q3,q4,q5,q6,q7,_⟩:=cS G E (.inr u.1.1) ops [] [] false none C n h e t s _ r hk he j w u.1.2 trivial (fun _ _ e=>by cases e)
  obtain⟨D,hD⟩:=q2.draw (by omega) u.2
  refine⟨.normal,e',h',n',C',U,s',q1,q3,q4,q5,q6,q7,D+1,fun d hd=>?_⟩
  obtain⟨d,rfl⟩:∃F,d=F+1:=⟨d-1,by omega⟩
  obtain⟨gs,g1,g2⟩:=hD d (by omega)
  simp only[iG,exec,g1,g2,qQ2]
 |.dead _,R,K,r,C,n,h,e,t,s,hk,he,j,w,u=>nomatch hk
 |.regX dr ops before ex,R,K,r,C,n,h,e,t,s,hk,he,j,w,u=>by
  simp only[rW,pN2,qC2,bJ,pU2]at u
  obtain⟨⟨⟨d2,d6⟩,b6⟩,d4⟩:=u
  unfold eL at hk
  obtain⟨e',h',n',C',U,s',fs,q1,q2,q3,q4,q5,q6,q7,_⟩:=cS G E (.inr d2) ops [] [] false none C n h e t s _ r hk he j w d6 trivial (fun _ _ e=>by cases e)
  cases hb:exB e' h' ex with
  |false=>rw[hb]at q1;cases q1
  |true=>
   rw[hb]at q1
   obtain⟨D,hD⟩:=q2.drawX (by omega) b6 d4 (fun p hp=>Vp q3 q4 (pX2.1 hb p hp))
   refine⟨.normal,e',h',n',C',U,s',q1,q3,q4,q5,q6,q7,D+1,fun d hd=>?_⟩
   obtain⟨d,rfl⟩:∃F,d=F+1:=⟨d-1,by omega⟩
   obtain⟨gs,g1,g2⟩:=hD d (by omega)
   simp only[iG,exec,g1,g2,qQ2]
 |.seq a b,R,K,r,C,n,h,e,t,s,hk,he,j,w,u=>by
  simp only[rW,pN2]at u
  have ha:=dN G E a _ r C n h e t s hk he j w u.1
  have hb:=fun C n h e t s hk he j w=>dN G E b K r C n h e t s hk he j w u.2
  have b0:=aI1 ha hb
  unfold iG
  split
  .rename_i ops
   split
   .rename_i a0
    simp only[pN2]at a0
    obtain⟨e',h',n',C',U,s',fs,q1,q2,q3,q4,q5,q6,q7,_⟩:=cS G E (.inl rfl) ops [] [] false none C n h e t s _ r hk he j w u.1 trivial (fun _ _ e=>by cases e)
    rw[qA a0.1]at q2
    have:=q2.nil_inv
    cases this
    obtain⟨x2,e2,h2,n2,C2,t2,s2,w1,w2,w3,w4,w5,w6,D2,w7⟩:=hb C' n' h' e' t s q1 q3 q4 w
    exact⟨x2,e2,h2,n2,C2,t2,s2,w1,w2,w3,w4,by omega,q7.trans w6,D2,w7⟩
   .exact b0
  .exact b0
 |.cond c a b,R,K,r,C,n,h,e,t,s,hk,he,j,w,u=>by
  simp only[rW,pN2]at u
  unfold eL at hk
  rw[gM,pM2]at hk
  obtain⟨vs,H,hk⟩:=hk
  split at hk
  .rename_i v
   rw[mJ]at hk
   refine yH (De he u.1.1 H rfl) ?_
   cases v with
   |true=>exact dN G E a K r C n h e t s hk he j w u.1.2
   |false=>exact dN G E b K r C n h e t s hk he j w u.2
  .exact aD hk
 |.condJ keep c a b,R,K,r,C,n,h,e,t,s,hk,he,j,w,u=>by
  simp only[rW,pN2]at u
  unfold eL at hk
  rw[gM,pM2]at hk
  obtain⟨vs,H,hk⟩:=hk
  split at hk
  .rename_i v
   rw[bO,pM2]at hk
   obtain⟨q,hq,hk⟩:=hk
   rw[mJ]at hq
   refine yH (De he u.1.1 H rfl) ?_
   have fin:∀{c:IC},Sl T N lim rd c C n h t s (fun x e' h' _=>kD keep h n e' h' fun s=>some (x,s)) q->Sl T N lim rd c C n h t s K r:=by
    intro c b7;obtain⟨x1,J,h1,n1,C1,t1,s1,Y,k2,k3,k4,k5,k6,D,k7⟩:=b7
    obtain⟨S,w1,w2,w3,w4,w5⟩:=lR (fun k hk=>by
     cases L:aL h k with
     |none=>exact absurd L hk
     |some o=>obtain⟨pl,p1,_⟩:=j.hr.ob k o L;exact j.dom k pl p1) k3 k2 Y
    cases w1;exact⟨x1,S.e,S.h,n,_,t1,s1,hk,w2,w3,k4,pQ2 _,Fr.canon j k6 w4 w5,D,k7⟩
   cases v with
   |true=>exact fin (dN G E a _ q C n h e t s hq he j w u.1.2)
   |false=>exact fin (dN G E b _ q C n h e t s hq he j w u.2)
  .exact aD hk
 |.condL c a b,R,K,r,C,n,h,e,t,s,hk,he,j,w,u=>by
  simp only[rW,pN2]at u;unfold eL at hk;rw[gM,pM2]at hk;obtain⟨vs,H,hk⟩:=hk;split at hk
  .rename_i v
   refine yH (De he u.1.1 H rfl) ?_;cases v with
   |true=>exact dN G E a K r C n h e t s hk he j w u.1.2
   |false=>exact dN G E b K r C n h e t s hk he j w u.2
  .exact aD hk
 |.loopU m keep c,R,K,r,C,n,h,e,t,s,hk,he,j,w,u=>by
  unfold eL at hk
  have hd:∀k,aL h k≠none->k<n:=fun k hk=>by
   cases L:aL h k with
   |none=>exact absurd L hk
   |some o=>obtain⟨pl,p1,_⟩:=j.hr.ob k o L;exact j.dom k pl p1
  obtain⟨S,w1,w2,w3,w4,w5⟩:=lR hd j he hk;obtain⟨x,st',C',U,s',p0,p1,p2,p3,p4,D,p5⟩:=Bo (T:=T) (rd:=rd) (N:=N) (lim:=lim) hd (fun K' r' C n h e t s hk he j w=>dN G E c K' r' C n h e t s hk he j w u) m S _ t s _ r w1 w2 w3 w w5;exact⟨x,st'.e,st'.h,n,C',U,s',p0,p1,p2,p3,pQ2 _,(Fr.canon j (.refl _ _ _) w4 w5).trans p4,D,p5⟩
 |.rangeF N' keep f ps a b,R,K,r,C,n,h,e,t,s,hk,he,j,w,u=>by
  simp only[rW,pN2,qH2,bJ,pU2]at u;obtain⟨⟨rfl,rfl⟩,u⟩:=u;unfold eL at hk;rw[gM,pM2]at hk;obtain⟨vs,H,hk⟩:=hk;obtain⟨ys,h1,h2⟩:=iN he (xs:=[f]) (by simpa using u) H;split at hk
  .rename_i g first cap
   obtain⟨y,_,rfl,h3,h4⟩:=h2.inv_cons;rw[h4.inv_nil]at h1;obtain⟨a',b',rfl,h5,h6⟩:=uN h3
   have hf:(eX f).ev t=some (.fn (.func g) a' b'):=by
    simp only[sC2,tJ2,Sim.evs]at h1;split at h1
    .rename_i ha hb;simp only[pV2,tF2]at h1;rw[<-h1.1];exact ha
    .cases h1
   cases hX1:X.is g with
   |false=>rw[hX1]at hk;exact aD hk
   |true=>
   rw[hX1,qD2]at hk;obtain⟨e0,hk,d3⟩:=yI hk;have V:=iV j (.atp s.n 0 0 0)
   obtain⟨m1,m2,m3⟩:=nU j (po:=.loop N' e0 ps a b false none) (ao:=.loop .ready none t ps (iG a) (iG b)) (ver:=0) (e:=0) (len:=0)
    ⟨j.lim,by omega,_,_,t,by rw[dT,pW2 rfl],w,fun i v hv=>(he i v (d3 i v hv)).imp fun y hy=>⟨hy.1,hy.2.mono V⟩,rfl,rfl⟩
   have hx:LR (RV (ext C n (.atp s.n 0 0 0))) (first++[.yld n]++cap) (a'++[.fn (.yield s.n) [] []]++b'):=
    ((h5.mono fun _ _ h=>h.mono V).append (.cons (.yld (lG C n _)) .nil)).append (h6.mono fun _ _ h=>h.mono V)
   obtain⟨v,e',h',n',C',y,s',q1,q2,q3,q4,q5,q6,q7⟩:=Dd (P:=fun y s'=>∃D,∀d,D<=d->Sim.callF T (exec T d) lim g (a'++[.fn (.yield s.n) [] []]++b') _=some (y,s')) m1 (he.mono V) hx
    (fun hs C0 m K' r' d1 d7 hr=>by
     obtain⟨v,h',n',C',y,s',w1,w2,w3,w4,w5,w6,w7⟩:=E.run g _ hs m K' r' C0 _ lim _ hX1 hr d7 d1;exact⟨v,h',n',C',y,s',w1,w2,w3,w4,w5,w7⟩) hk
   rw[eG,pM2]at q1;obtain⟨ob,W,q1⟩:=q1;obtain⟨o',z1,z2⟩:=q6.kd n (.loop N' e0 ps a b false none) (by simp[aL]);rw[W]at z1;cases z1;split at q1
   .rename_i N2 e2 M a2 b2 fin
    have b4:C' n=some (.atp s.n 0 0 0):=by
     have:=(z2 rfl).2;rw[lG]at this;exact this
    obtain⟨_,st,pend,tmps,g1,g2,g3,g4⟩:=vN q4 W b4;rw[Hi]at q1;obtain⟨D,hD⟩:=q7;have d8:n<n':=by omega
    have b9:cG C' n' (uY h' n) lim {h:=upd s'.h s.n (.loop .exhausted pend tmps M (iG a2) (iG b2)),n:=s'.n}:=by
     have nn:∀{k},aL (uY h' n) k≠none->aL h' k≠none:=fun{k} hk=>by
      rw[lS]at hk;split at hk
      .exact absurd rfl hk
      .exact hk
     refine⟨⟨fun k o A=>?_,fun k k' id v e l v' e' l' a b c d=>q4.hr.inj k k' id v e l v' e' l' (nn a) (nn b) c d,fun id o L=>?_⟩,q4.dom,q4.wf.upd _ _,q4.lim⟩
     .rw [lS]at A
      split at A
      .cases A
      .rename_i d5
       obtain⟨pl,p1,p2⟩:=q4.hr.ob k o A;refine⟨pl,p1,p2.mono (pQ2 _) (.refl _) (fun id v e l hp=>?_)⟩;subst hp;rw[Sim.look_upd];rw[pT2 (fun J=>d5 (q4.hr.inj k n s.n _ _ _ _ _ _ (by rw[A];simp) (by rw[W];simp) (by rw[<-J.1];exact p1) b4))]
     .obtain ⟨z1,z2,z3,z4⟩:=q4.hr.zr id o L
      refine⟨?_,z2,fun k v e l a b=>z3 k v e l (nn a) b,z4⟩;rw[Sim.look_upd,pT2 (fun J=>z3 n 0 0 0 (by rw[W];simp) (by rw[J.1];exact b4))];exact z1
    have B:=m2.trans q6
    have b8:Fr C h s C' (uY h' n) {h:=upd s'.h s.n (.loop .exhausted pend tmps M (iG a2) (iG b2)),n:=s'.n}:=by
     refine⟨B.sk.trans (.upd _ _ _ _) B.n,B.n,fun id b5 hn=>?_,fun id b5 hn=>B.own id b5 ?_,fun k o A=>?_,B.zl,B.zn⟩
     .rw [Sim.look_upd,pT2 (by omega)]
      exact B.keep id b5 hn
     .obtain ⟨k,v,e,l,p1,p2⟩:=hn
      refine⟨k,v,e,l,?_,p2⟩;rw[lS]at p1;split at p1
      .exact absurd rfl p1
      .exact p1
     .obtain ⟨o',p1,p2⟩:=B.kd k o A
      refine⟨o',?_,p2⟩;rw[lS,pT2 (fun J=>?_)]
      .exact p1
      .subst J
       rw[tC j (pQ2 _)]at A;cases A
    have Z:∀x,K x e' (uY h' n) n'=some r->st≠.busy->(match pend with
       |none=>some (Ex.normal,({t:=t,s:={h:=upd s'.h s.n (.loop .exhausted pend tmps M (iG a2) (iG b2)),n:=s'.n}}:St))
       |some .ret=>some (.ret,{t:=t,s:={h:=upd s'.h s.n (.loop .exhausted pend tmps M (iG a2) (iG b2)),n:=s'.n}})
       |some (.exit id)=>some (.exit id,{t:=t,s:={h:=upd s'.h s.n (.loop .exhausted pend tmps M (iG a2) (iG b2)),n:=s'.n}})
       |_=>none)=some (x,{t:=t,s:={h:=upd s'.h s.n (.loop .exhausted pend tmps M (iG a2) (iG b2)),n:=s'.n}})->
      Sl T N' lim false (iG (.rangeF N' keep f ps a b)) C n h t s K r:=by
     intro x hK b6 hx;refine⟨x,e',uY h' n,n',C',t,_,hK,fun i v hv=>(q3 i v hv).imp fun z L=>⟨L.1,L.2.1⟩,b9,w,by omega,b8,D+1,fun d hd=>?_⟩;obtain⟨d,rfl⟩:∃F,d=F+1:=⟨d-1,by omega⟩
     simp only[iG,exec,hf,hD d (by omega),g1,Sim.endRound,qA2,qX2];rw[pT2 b6];exact hx
    split at q1
    .obtain ⟨rfl,rfl⟩:=g4
     exact Z _ q1 (by simp) rfl
    .obtain ⟨rfl,rfl⟩:=g4
     exact Z _ q1 (by simp) rfl
    .obtain ⟨rfl,rfl⟩:=g4
     exact Z _ q1 (by simp) rfl
    .exact aD q1
   .exact aD q1
  .exact aD hk
 |.block id c,R,K,r,C,n,h,e,t,s,hk,he,j,w,u=>by
  unfold eL at hk;obtain⟨x1,J,h1,n1,C1,t1,s1,Y,k2,k3,k4,k5,k6,D,k7⟩:=dN G E c _ r C n h e t s hk he j w u
  have Z:∀(x:Ex),(∀d,D<=d->(match exec T d lim rd (iG c) {t:=t,s:=s}with|some (.exit i,σ)=>if i=id then some (.normal,σ)else some (.exit i,σ)|r=>r)=some (x,{t:=t1,s:=s1}))->K x J h1 n1=some r->Sl T N lim rd (iG (.block id c)) C n h t s K r:=by
   intro x hx hK;refine⟨x,J,h1,n1,C1,t1,s1,hK,k2,k3,k4,k5,k6,D+1,fun d hd=>?_⟩;obtain⟨d,rfl⟩:∃F,d=F+1:=⟨d-1,by omega⟩
   rw[iG,exec];exact hx d (by omega)
  cases x1 with
  |normal=>exact Z .normal (fun d hd=>by rw[k7 d hd]) Y
  |ret=>exact Z .ret (fun d hd=>by rw[k7 d hd]) Y
  |exit i=>
   simp only[bJ]at Y;by_cases J:i=id
   .subst J
    simp only[rG2,qD2]at Y;exact Z .normal (fun d hd=>by rw[k7 d hd];simp) Y
   .simp only[qW2 J,qS2]at Y
    exact Z (.exit i) (fun d hd=>by rw[k7 d hd];simp[J]) Y
 |.loop keep kx c,R,K,r,C,n,h,e,t,s,hk,he,j,w,u=>by
  unfold eL at hk
  have hd:∀k,aL h k≠none->k<n:=fun k hk=>by
   cases L:aL h k with
   |none=>exact absurd L hk
   |some o=>obtain⟨pl,p1,_⟩:=j.hr.ob k o L;exact j.dom k pl p1
  obtain⟨S,w1,w2,w3,w4,w5⟩:=lR hd j he hk;rw[bO,pM2]at w1;obtain⟨⟨x,st'⟩,hq,hK⟩:=w1;obtain⟨C',U,s',p1,p2,p3,p4,D,p5⟩:=Hh (T:=T) (rd:=rd) (N:=N) (lim:=lim) hd (fun K' r' C n h e t s hk he j w=>dN G E c K' r' C n h e t s hk he j w u) bC S _ t s x st' hq w2 w3 w w5;exact⟨x,st'.e,st'.h,n,C',U,s',hK,p1,p2,p3,pQ2 _,(Fr.canon j (.refl _ _ _) w4 w5).trans p4,D,p5⟩
end
end Go.P
namespace Go.P
open Go.Sim (AV AO Hp eY upd St IC IX Ex dW CK Wf Out doOp gH exec Foot wanted put popMark mapO lY Ir Sf zC fz)
open Go.Sim (RV IFn)
structure bL where
 ntmps:Nat
 res:List Sim.RV
 code:PC
 frz:Bool
 deriving Inhabited
noncomputable section
variable {R:Type}
def Hj:aA PV->Nat->(dY->aB R)->aB R
 |[],_,K=>K []
 |x::xs,i,K=>fV x fun x=>Hj xs (i+1) fun e=>K ((i,x)::e)
def yJ (e:dY) (h:aQ) (n:Nat):aA Sim.RV->(aA PV->aB R)->aB R
 |[],K=>K []
 |.tmp i::rs,K=>mU e i fun v=>yJ e h n rs fun vs=>K (v::vs)
 |.cellS i::rs,K=>mU e i fun p=>dB .loadS [p] h n fun v _ _=>yJ e h n rs fun vs=>K (v::vs)
 |.cellA i m::rs,K=>mU e i fun p=>dB (.loadA m) [p] h n fun v _ _=>yJ e h n rs fun vs=>K (v::vs)
def Hk (h:aQ):Nat->PV->(PV->aB R)->aB R
 |0,_,_=>none
 |d+1,x,K=>match x with
  |.own k=>hK h k fun ob=>match ob with
   |.lst _ e _ rows=>K (.is e rows)
   |.lz _ e dp rows=>bif Nat.ble dp (d+1)then K (.is e rows)else none
   |_=>none
  |.zs dp e rows=>bif Nat.ble dp (d+2)then K (.is e rows)else none
  |.ref k o=>hK h k fun ob=>match ob with
   |.box cs=>fX o cs fun cs=>oY (Hk h d) cs fun cs=>K (.ip cs)
   |_=>none
  |.v x=>K (.v x)
  |.is e rows=>K (.is e rows)
  |.ip cs=>K (.ip cs)
  |_=>none
def aJ1 (h:aQ) (x:PV) (K:PV->aB R):aB R:=match x with
 |.fn f [] cap=>oY (Hk h 4) cap fun c=>K (.fn f [] c)
 |x=>Hk h 4 x K
def aK1 (h:aQ):aA PV->(aA PV->aB R)->aB R
 |[],K=>K []
 |x::xs,K=>aJ1 h x fun x=>aK1 h xs fun xs=>K (x::xs)
def aL1 (h:aQ) (x:PV) (K:PV->aB R):aB R:=match x with
 |.agg cs=>aK1 h cs fun cs=>K (.agg cs)
 |x=>aJ1 h x K
def aM1 (h:aQ):aA PV->(aA PV->aB R)->aB R
 |[],K=>K []
 |x::xs,K=>aL1 h x fun x=>aM1 h xs fun xs=>K (x::xs)
def rzK (h:aQ) (x:PV) (K:PV->aB R):aB R:=match x with
 |.tup vs=>aM1 h vs fun vs=>K (.tup vs)
 |.map k=>hK h k fun ob=>match ob with
  |.mp es=>K (.im es)
  |_=>none
 |x=>aL1 h x K
def yK (C:rL) (X:NX) (fn:bL) (xs:aA PV) (K:PV->aB R):aB R:=
 bif Nat.ble xs.length fn.ntmps then Hj xs 0 fun e=>eL C X fn.code e [] 0 fun x e h n=>match x with
  |.exit _=>none
  |_=>yJ e h n fn.res fun vs=>match vs with
   |[v]=>rzK h v K
   |vs=>rzK h (.tup vs) K
 else none
def Kn (C:rL) (X:NX) (fn:bL) (xs:aA PV) (h:aQ) (n:Nat) (K:PV->aQ->Nat->aB R):aB R:=
 bif Nat.ble xs.length fn.ntmps then Hj xs 0 fun e=>eL C X fn.code e h n fun x e h n=>match x with
  |.exit _=>none
  |_=>yJ e h n fn.res fun vs=>match vs with
   |[v]=>K v h n
   |vs=>K (.tup vs) h n
 else none
def zN:dY->aA Nat->aA PV->(dY->aB R)->aB R
 |e,[],[],K=>K e
 |e,p::ps,x::xs,K=>gL e [p] fun e=>zN ((p,x)::e) ps xs K
 |_,_,_,_=>none
def okG (NF:FuncId->Bool) (N:Nat) (ps:aA Nat) (a b:PC):aB Unit:=if okL NF N ps a b=true then some ()else none
def aN1 (C:rL) (X:NX) (k:Nat) (xs:aA PV) (h:aQ) (n:Nat) (K:PV->aQ->Nat->aB R):aB R:=
 hK h k fun ob=>match ob with
 |.loop N e ps a b false none=>bU (okG X.is N ps a b) fun _=>zN e ps xs fun e=>eL C X a e h n fun x e h n=>match x with
  |.normal=>hK h k fun ob=>match ob with
   |.loop N e' ps a b' false none=>fY h k (.loop N e' ps a b' true none) fun h=>eL C X b e h n fun x _ h n=>hK h k fun ob=>match ob with
    |.loop N e' ps a b' _ _=>match x with
     |.normal=>fY h k (.loop N e' ps a b' false none) fun h=>K (.v (.bool true)) h n
     |.exit i=>fY h k (.loop N e' ps a b' false (some (.exit i))) fun h=>K (.v (.bool false)) h n
     |.ret=>fY h k (.loop N e' ps a b' false (some .ret)) fun h=>K (.v (.bool false)) h n
    |_=>none
   |_=>none
  |_=>none
 |_=>none
abbrev qB:=Nat->aB bL
abbrev Hl:=FuncId->aA PV->aQ->Nat->aB (PV×aQ×Nat)
structure NB where
 nw:FuncId->Bool
 run:Hl:=fun _ _ _ _=>none
def OX (B:rL) (NF:FuncId->Bool) (NW:NB) (P:qB):Nat->rL×NX
 |0=>(fun f xs=>bif NF f then none else B f xs,⟨NF,NW.nw,fun _ _ _ _ _=>none,fun _ _ _ _ _=>none⟩)
 |d+1=>(fun f xs=>bif NF f then none else match P f with
   |some fn=>bif fn.frz then yK (OX B NF NW P d).1 (OX B NF NW P d).2 fn xs some else(yK (OX B NF NW P d).1 (OX B NF NW P d).2 fn xs some).bind fun v=>bif sZ 4 v then none else some v
   |none=>B f xs,
  ⟨NF,NW.nw,fun f xs h n K=>match P f with
   |some fn=>Kn (OX B NF NW P d).1 (OX B NF NW P d).2 fn xs h n K
   |none=>(NW.run f xs h n).bind fun r=>K r.1 r.2.1 r.2.2,fun k xs h n K=>aN1 (OX B NF NW P d).1 (OX B NF NW P d).2 k xs h n K⟩)
def Od (B:rL) (NF:FuncId->Bool) (NW:NB) (P:qB) (d:Nat):rL:=(OX B NF NW P d).1
def Xd (B:rL) (NF:FuncId->Bool) (NW:NB) (P:qB) (d:Nat):NX:=(OX B NF NW P d).2
end
def Iu (n:Bool) (fn:bL):IFn:={ntmps:=fn.ntmps,res:=fn.res,body:=iG fn.code,pure:= !n,frz:= !n&&fn.frz}
section
variable {R:Type}
def uS:aA PV->Nat->dY
 |[],_=>[]
 |x::xs,i=>(i,x)::uS xs (i+1)
theorem yL:∀(xs:aA PV) (i:Nat) (K:dY->aB R),Hj xs i K=K (uS xs i)
 |[],i,K=>rfl
 |x::xs,i,K=>by simp[Hj,Mw,uS,yL xs]
theorem tL:∀(xs:aA PV) (i j:Nat) (v:PV),dQ (uS xs i) j=some v->i<=j/\xs[j-i]? =some v
 |[],i,j,v,h=>by simp[uS,dQ]at h
 |x::xs,i,j,v,h=>by
  simp only[uS,dQ]at h
  split at h
  grind
  obtain⟨h1,h2⟩:=tL xs (i+1) j v h
  refine⟨by omega,?_⟩
  rw[show j-i=(j-(i+1))+1 by omega]
  simpa using h2
variable {C:Cx} {n:Nat} {h:aQ} {lim:Nat} {s:Hp} {e:dY} {t:List AV}
theorem Hm {k:dW} {y:AV} {K:PV->aQ->Nat->aB R} {r:R} (hs:Ay C n h s k [y] K r):
  ∃w z,K w h n=some r/\(doOp (Sim.look s.h) 0 0 k [y]).map (·.v)=some z/\RV C w z:=by
 obtain⟨w,z,h1,h2,a⟩:=hs;exact⟨w,z,a,by rw[h1 0 0];rfl,h2⟩
theorem rX (b:cG C n h lim s) (he:cV C e t):∀{g:aA Sim.RV} {K:aA PV->aB R} {r:R},yJ e h n g K=some r->
  ∃vs a,K vs=some r/\mapO (Sim.readRes (Sim.look s.h) t) g=some a/\LR (RV C) vs a
 |[],K,r,hk=>⟨[],[],hk,rfl,.nil⟩
 |.tmp i::g,K,r,hk=>by
  unfold yJ at hk
  rw[eZ,pM2]at hk
  obtain⟨v,hv,hk⟩:=hk
  obtain⟨y,h1,h2⟩:=he i v hv
  obtain⟨vs,a,c,d,f⟩:=rX b he hk
  exact⟨_,y::a,c,by simp[mapO,Sim.readRes,h1,d],.cons h2 f⟩
 |.cellS i::g,K,r,hk=>by
  unfold yJ at hk
  rw[eZ,pM2]at hk
  obtain⟨v,hv,hk⟩:=hk
  obtain⟨y,h1,h2⟩:=he i v hv
  obtain⟨w,z,q1,q2,q3⟩:=Hm (xU b (.cons h2 .nil) hk)
  obtain⟨vs,a,c,d,f⟩:=rX b he q1
  exact⟨_,z::a,c,by simp only[mapO,Sim.readRes,h1,q2,d],.cons q3 f⟩
 |.cellA i m::g,K,r,hk=>by
  unfold yJ at hk
  rw[eZ,pM2]at hk
  obtain⟨v,hv,hk⟩:=hk
  obtain⟨y,h1,h2⟩:=he i v hv
  obtain⟨w,z,q1,q2,q3⟩:=Hm (xV b (.cons h2 .nil) hk)
  obtain⟨vs,a,c,d,f⟩:=rX b he q1
  exact⟨_,z::a,c,by simp only[mapO,Sim.readRes,h1,q2,d],.cons q3 f⟩
theorem aO1 {L:Nat->aB AO} {d id ver e o:Nat} {bx:Bool} {ty:TypeId} {esz:Nat} {els:aA (aA AV)} {row cs:aA AV} (a:L id=some (.arr bx ty esz ver els)) (hr:els[e]? =some row) (hc:mapO (lY L 0 d) (row.drop o)=some cs):lY L 0 (d+1) (.ptr id ver e o)=some (.ip cs):=by
 simp[lY,a,hr,hc]
theorem Df (i:cG C n h lim s):∀(d:Nat) (x:PV) (y:AV) (K:PV->aB R) (r:R),Hk h d x K=some r->RV C x y->∃B z,K B=some r/\lY (Sim.look s.h) 0 (d+2) y=some z/\RC false B z
 |0,x,y,K,r,hk,_=>by unfold Hk at hk;exact aD hk
 |d+1,x,y,K,r,hk,hv=>by
  unfold Hk at hk
  cases x with
  |own k=>
   simp only[eG,pM2]at hk
   obtain⟨ob,hg,hk⟩:=hk
   cases ob with
   |lst ty e g rows=>
    rcases kS hv with⟨id,ver,D,len,c,rfl⟩|⟨c,rfl⟩
    obtain⟨_,rfl,hlen,els,p,hr,u,_⟩:=iB i hg c
    subst hlen
    exact⟨_,_,hk,Nf (d:=d+1) (qJ2 _) p hr u,hr.is⟩
    have:=jI i hg c
    subst this
    exact⟨_,_,hk,rfl,.isn⟩
   |lz ty e dp rows=>
    cases hb:Nat.ble dp (d+1)with
    |false=>simp only[hb,qS2]at hk;exact aD hk
    |true=>
    simp only[hb,qD2]at hk
    have hb:=pY2 hb
    rcases kS hv with⟨id,ver,D,len,c,rfl⟩|⟨c,rfl⟩
    obtain⟨_,_,rfl,hlen,_,els,p,hr⟩:=uO i hg c
    subst hlen
    obtain⟨A,m,j⟩:=gY1 (n0:=0) (f:=d+2) (fun id o w=>⟨qJ2 _,(i.hr.zr id o w).1⟩) (by omega) (qJ2 _) p hr
    exact⟨_,_,hk,m,j.is⟩
    have:=tF i hg c
    subst this
    exact⟨_,_,hk,rfl,.isn⟩
   |_=>exact aD hk
  |zs dp e rows=>
   cases hb:Nat.ble dp (d+2)with
   |false=>simp only[hb,qS2]at hk;exact aD hk
   |true=>
   simp only[hb,qD2]at hk
   have hb:=pY2 hb
   obtain⟨z,m,j⟩:=Ng (L:=Sim.look s.h) (n0:=0) (fun id o w=>⟨qJ2 _,(i.hr.zr id o w).1⟩) dp (d+3) (by omega) _ _ (Aw hv)
   exact⟨_,_,hk,m,j.weak⟩
  |ref k o=>
   simp only[eG,pM2]at hk
   obtain⟨ob,hg,hk⟩:=hk
   cases ob with
   |box cs=>
    obtain⟨m,j⟩:=dL _ _ _ _ hk
    obtain⟨id,ver,e,len,c,rfl⟩:=iW hv
    obtain⟨_,ty,esz,row,p,hl⟩:=pW i hg c
    have l:∀(xs:aA PV) (ys:aA AV) (K:aA PV->aB R) (r:R),oY (Hk h d) xs K=some r->LR (RV C) xs ys->
      ∃xs' b,K xs'=some r/\mapO (lY (Sim.look s.h) 0 (d+2)) ys=some b/\LR (RC false) xs' b:=by
     intro xs
     induction xs with
     |nil=>
      intro ys K r hk hl;rw[hl.inv_nil];unfold oY at hk;exact⟨[],[],hk,rfl,.nil⟩
     |cons a as ih=>
      intro ys K r hk hl;obtain⟨y,b,rfl,h1,h2⟩:=hl.inv_cons;unfold oY at hk;obtain⟨a',b',m,j,E⟩:=Df i d a y _ r hk h1;obtain⟨q,t,q1,q2,q3⟩:=ih b _ r m h2;exact⟨a'::q,b'::t,q1,by simp only[mapO,j,q2],.cons E q3⟩
    obtain⟨xs',b,q1,q2,q3⟩:=l _ _ _ r j (hl.drop o);refine⟨_,.ip b,q1,?_,.ip q3.1 q3.2⟩;exact aO1 p rfl q2
   |_=>exact aD hk
  |v x=>
   rw[eQ hv];exact⟨_,_,hk,rfl,.v x⟩
  |is e rows=>
   rcases xQ hv with⟨rows',rfl,hr⟩|⟨rfl,rfl⟩
   exact⟨_,_,hk,rfl,hr.is⟩;exact⟨_,_,hk,rfl,.isn⟩
  |ip cs=>
   obtain⟨cs',rfl,hl⟩:=Av hv;exact⟨_,_,hk,rfl,.ip hl.1 hl.2⟩
  |_=>exact aD hk
theorem Qh {L:Nat->aB AO} {y c:AV} (h:lY L 0 6 y=some c):Sf L 0 y=some c:=by
 cases y with
 |sl=>simp only[Sf,tE2,qX2];exact h
 |ptr=>simp only[Sf,tE2,qX2];exact h
 |map=>simp[lY]at h
 |fn v a b=>simp[lY]at h
 |_=>exact h
theorem Qi {L:Nat->aB AO} {y a:AV} (h:Sf L 0 y=some a) (hy:∀cs,y≠.agg cs):zC L 0 y=some a:=by
 cases y with
 |agg cs=>exact absurd rfl (hy cs)
 |_=>exact h
theorem Vq {L:Nat->aB AO} {y a:AV} (h:zC L 0 y=some a) (hy:∀cs,y≠.tup cs) (b:∀id,y≠.map id):fz L 0 y=some a:=by
 cases y with
 |tup cs=>exact absurd rfl (hy cs)
 |map id=>exact absurd rfl (b id)
 |_=>exact h
theorem Hn (f:cG C n h lim s) (d:Nat):∀(xs:aA PV) (ys:aA AV) (K:aA PV->aB R) (r:R),oY (Hk h d) xs K=some r->LR (RV C) xs ys->
  ∃xs' b,K xs'=some r/\mapO (lY (Sim.look s.h) 0 (d+2)) ys=some b/\LR (RC false) xs' b
 |[],ys,K,r,hk,hl=>by
  rw[hl.inv_nil]
  unfold oY at hk
  exact⟨[],[],hk,rfl,.nil⟩
 |a::as,ys,K,r,hk,hl=>by
  obtain⟨y,b,rfl,h1,h2⟩:=hl.inv_cons
  unfold oY at hk
  obtain⟨a',b',g,i,j⟩:=Df f d a y _ r hk h1
  obtain⟨c,e,q1,q2,q3⟩:=Hn f d as b _ r g h2
  exact⟨a'::c,b'::e,q1,by simp only[mapO,i,q2],.cons j q3⟩
theorem Nn (d:cG C n h lim s) {x:PV} {y:AV} {K:PV->aB R} {r:R} (hk:aJ1 h x K=some r) (hv:RV C x y):∃a b,K a=some r/\Sf (Sim.look s.h) 0 y=some b/\RC false a b:=by
 unfold aJ1 at hk;split at hk;rename_i f cap;obtain⟨a',b',rfl,h1,h2⟩:=uN hv;rw[h1.inv_nil];obtain⟨xs',c,q1,q2,q3⟩:=Hn d 4 _ _ _ r hk h2;exact⟨.fn f [] xs',.fn (.func f) [] c,q1,by simp only[Sf,q2,qR2],.fn rfl q3.1 (fun j x y h=>by simp at h) q3.2⟩;obtain⟨a,b,h1,h2,e⟩:=Df d 4 x y K r hk hv;exact⟨a,b,h1,Qh h2,e⟩
theorem Ho (d:cG C n h lim s):∀{xs:aA PV} {ys:aA AV} {K:aA PV->aB R} {r:R},aK1 h xs K=some r->LR (RV C) xs ys->∃xs' a,K xs'=some r/\mapO (Sf (Sim.look s.h) 0) ys=some a/\LR (RC false) xs' a
 |[],ys,K,r,hk,hl=>by rw[hl.inv_nil];exact⟨[],[],hk,rfl,.nil⟩
 |x::xs,ys,K,r,hk,hl=>by
  obtain⟨y,a,rfl,h1,h2⟩:=hl.inv_cons
  unfold aK1 at hk
  obtain⟨a',b',e,f,g⟩:=Nn d hk h1
  obtain⟨b,c,q1,q2,q3⟩:=Ho d e h2
  exact⟨a'::b,b'::c,q1,by simp only[mapO,f,q2],.cons g q3⟩
theorem Qj {x:PV} {y:AV} (hv:RV C x y) (a:∀cs,x≠.agg cs) (b:x≠.undef):∀cs,y≠.agg cs:=by
 intro cs hy;subst hy;cases hv with
 |cl h=>cases h;exact a _ rfl
 |undef=>exact b rfl
 |ownn _ hy=>cases hy
 |agg=>exact a _ rfl
 |zs h=>rcases Ax h with(⟨_,h,_⟩|⟨_,h⟩)|⟨_,_,_,_,_,_,h,_⟩<;>cases h
theorem Qk {x:PV} {y:AV} (hv:RV C x y) (a:∀cs,x≠.tup cs) (b:x≠.undef):∀cs,y≠.tup cs:=by
 intro cs hy;subst hy;cases hv with
 |cl h=>cases h;exact a _ rfl
 |undef=>exact b rfl
 |ownn _ hy=>cases hy
 |tup=>exact a _ rfl
 |zs h=>rcases Ax h with(⟨_,h,_⟩|⟨_,h⟩)|⟨_,_,_,_,_,_,h,_⟩<;>cases h
theorem Ql {x:PV} {y:AV} (hv:RV C x y) (b:∀k,x≠.map k) (c:∀es,x≠.zm es) (a:x≠.undef):∀id,y≠.map id:=by
 intro id hy;subst hy;cases hv with
 |cl h=>cases h
 |undef=>exact a rfl
 |ownn _ hy=>cases hy
 |map=>exact b _ rfl
 |zs h=>rcases Ax h with(⟨_,h,_⟩|⟨_,h⟩)|⟨_,_,_,_,_,_,h,_⟩<;>cases h
 |zm=>exact c _ rfl
theorem No (d:cG C n h lim s) {x:PV} {y:AV} {K:PV->aB R} {r:R} (hk:aL1 h x K=some r) (hv:RV C x y):∃a b,K a=some r/\zC (Sim.look s.h) 0 y=some b/\RC false a b:=by
 unfold aL1 at hk;split at hk;rename_i cs;obtain⟨cs',rfl,hl⟩:=lF hv;obtain⟨xs',c,j,k,f⟩:=Ho d hk hl;exact⟨_,.agg c,j,by simp only[zC,k,qR2],.agg f.1 f.2⟩;rename_i i;obtain⟨a,b,h1,h2,g⟩:=Nn d hk hv;by_cases e:x=.undef;subst e;exact aD hk;exact⟨a,b,h1,Qi h2 (Qj hv i e),g⟩
theorem Hq (d:cG C n h lim s):∀{xs:aA PV} {ys:aA AV} {K:aA PV->aB R} {r:R},aM1 h xs K=some r->LR (RV C) xs ys->∃xs' a,K xs'=some r/\mapO (zC (Sim.look s.h) 0) ys=some a/\LR (RC false) xs' a
 |[],ys,K,r,hk,hl=>by rw[hl.inv_nil];exact⟨[],[],hk,rfl,.nil⟩
 |x::xs,ys,K,r,hk,hl=>by
  obtain⟨y,a,rfl,h1,h2⟩:=hl.inv_cons
  unfold aM1 at hk
  obtain⟨a',b',e,f,g⟩:=No d hk h1
  obtain⟨b,c,q1,q2,q3⟩:=Hq d e h2
  exact⟨a'::b,b'::c,q1,by simp only[mapO,f,q2],.cons g q3⟩
theorem Vr (c:cG C n h lim s) {x:PV} {y:AV} {K:PV->aB R} {r:R} (hk:rzK h x K=some r) (hv:RV C x y):∃a b,K a=some r/\fz (Sim.look s.h) 0 y=some b/\RC false a b:=by
 unfold rzK at hk;split at hk;rename_i vs;obtain⟨cs',rfl,hl⟩:=Kf hv;obtain⟨xs',f,p,q,g⟩:=Hq c hk hl;exact⟨_,.tup f,p,by simp only[fz,q,qR2],.tup g.1 g.2⟩;rename_i k;rw[eG,pM2]at hk;obtain⟨ob,hg,hk⟩:=hk;cases ob with
 |mp es=>
  obtain⟨id,ver,e,len,j,rfl⟩:=tD hv;obtain⟨_,es',l,he⟩:=Gt c hg j;refine⟨_,.im es',hk,?_,he.er.im⟩;simp only[fz,tE2,qX2,l];exact congrArg (Option.map AV.im) (Vc he)
 |_=>exact aD hk
 rename_i o m;obtain⟨a,b,h1,h2,i⟩:=No c hk hv;by_cases d:x=.undef;subst d;exact aD hk;exact⟨a,b,h1,Vq h2 (Qk hv o d) (Ql hv m (fun es he=>by subst he;exact aD hk) d),i⟩
variable {T:gH} {O:rL} {X:NX}
theorem Hr (B:∀f xs v,O f xs=some v->lQ T f xs v) (C:NOK T X) {fn:bL} (m:rW X.is fn.ntmps false fn.code=true) {xs:aA PV} {ys:aA AV} {v:PV} (hl:LR (RC false) xs ys) (hk:yK O X fn xs some=some v):
  ∃D,∀d,D<=d->∃w s' y,Sim.body (exec T d) 0 (Iu false fn) ys {h:=[],n:=0}=some (w,s')/\Sim.fz (Sim.look s'.h) 0 w=some y/\RC false v y:=by
 unfold yK at hk;cases c:Nat.ble xs.length fn.ntmps with
 |false=>rw[c]at hk;exact aD hk
 |true=>
  rw[c,qD2,yL]at hk;have c:xs.length<=fn.ntmps:=by simpa[Nat.ble_eq]using c
  have hlen:=hl.1;have A:cG ⟨fun _=>none,fun _=>none⟩ 0 [] 0 ({h:=[],n:=0}:Hp):=⟨⟨fun k po h=>by simp[aL]at h,fun k k' id v e l v' e' l' a=>absurd rfl a,fun id o h=>by cases h⟩,fun k pl h=>(by cases h),trivial,pQ2 _⟩
  have he:cV ⟨fun _=>none,fun _=>none⟩ (uS xs 0) (ys++List.replicate (fn.ntmps-ys.length) .undef):=fun i v hv=>by
   obtain⟨_,h2⟩:=tL xs 0 i v hv;obtain⟨y,r,z⟩:=hl.get (by simpa using h2);exact⟨y,by rw[rV2 (pO2.1 r).1];exact r,.cl z⟩
  obtain⟨x,e',h',n',C',H,s',q1,q2,q3,q4,q5,q6,D,q7⟩:=dN (T:=T) (rd:=false) (lim:=0) (N:=fn.ntmps) B C fn.code _ v _ 0 [] _ (ys++List.replicate (fn.ntmps-ys.length) .undef) _ hk he A (by simp;omega) m
  have fin:(∀i,x≠.exit i)->(yJ e' h' n' fn.res fun vs=>match vs with|[v]=>rzK h' v some|vs=>rzK h' (.tup vs) some)=some v->
    ∃D,∀d,D<=d->∃w s' y,Sim.body (exec T d) 0 (Iu false fn) ys {h:=[],n:=0}=some (w,s')/\Sim.fz (Sim.look s'.h) 0 w=some y/\RC false v y:=by
   intro E hr;obtain⟨vs,u,p,s,g⟩:=rX q3 q2 hr
   obtain⟨w,y,p1,p2,p3⟩:∃w y,Sim.results (Sim.look s'.h) H fn.res=some w/\Sim.fz (Sim.look s'.h) 0 w=some y/\RC false v y:=by
    split at p;rename_i v1;obtain⟨w,J,rfl,F,G⟩:=g.inv_cons;have:=G.inv_nil;subst this;obtain⟨K,q,z1,z2,z3⟩:=Vr q3 p F;cases z1;exact⟨w,q,by simp only[Sim.results,s],z2,z3⟩;rename_i j;obtain⟨K,q,z1,z2,z3⟩:=Vr q3 p (y:=.tup u) (.tup g.1 g.2);cases z1;refine⟨.tup u,q,?_,z2,z3⟩;simp only[Sim.results,s];split;rename_i w hw;cases hw;have:=g.1;rcases vs with _|⟨a,_|⟨b,t⟩⟩<;>simp at this;exact absurd rfl (j a)
    grind
    grind
   refine⟨D,fun d hd=>⟨w,s',y,?_,p2,p3⟩⟩;simp only[Sim.body,Iu,q7 d hd];cases x with
   |exit i=>exact absurd rfl (E i)
   |normal=>simp only[p1,qR2]
   |ret=>simp only[p1,qR2]
  cases x with
  |exit i=>exact aD q1
  |normal=>exact fin (fun i h=>by cases h) q1
  |ret=>exact fin (fun i h=>by cases h) q1
theorem Np (q:∀f xs v,O f xs=some v->lQ T f xs v) (u:NOK T X) {fn:bL} (j:rW X.is fn.ntmps false fn.code=true) {xs:aA PV} {ys:aA AV} {h:aQ} {n:Nat} {K:PV->aQ->Nat->aB R} {r:R} {C:Cx} {s:Hp} {lim:Nat}
  (hk:Kn O X fn xs h n K=some r) (hl:LR (RV C) xs ys) (p:cG C n h lim s):
  ∃v h' n' C' y s',K v h' n'=some r/\RV C' v y/\cG C' n' h' lim s'/\n<=n'/\Fr C h s C' h' s'/\∃D,∀d,D<=d->Sim.body (exec T d) lim (Iu true fn) ys s=some (y,s'):=by
 unfold Kn at hk;cases c:Nat.ble xs.length fn.ntmps with
 |false=>rw[c]at hk;exact aD hk
 |true=>
  rw[c,qD2,yL]at hk;have c:xs.length<=fn.ntmps:=by simpa[Nat.ble_eq]using c
  have hlen:=hl.1
  have he:cV C (uS xs 0) (ys++List.replicate (fn.ntmps-ys.length) .undef):=fun i v hv=>by
   obtain⟨_,h2⟩:=tL xs 0 i v hv;obtain⟨y,l,o⟩:=hl.get (by simpa using h2);exact⟨y,by rw[rV2 (pO2.1 l).1];exact l,o⟩
  obtain⟨x,e',h',n',C',E,s',q1,q2,q3,q4,q5,q6,D,q7⟩:=dN (T:=T) (rd:=false) (lim:=lim) (N:=fn.ntmps) q u fn.code _ r _ n h _ (ys++List.replicate (fn.ntmps-ys.length) .undef) s hk he p (by simp;omega) j
  have fin:(∀i,x≠.exit i)->(yJ e' h' n' fn.res fun vs=>match vs with|[v]=>K v h' n'|vs=>K (.tup vs) h' n')=some r->
    ∃v h' n' C' y s',K v h' n'=some r/\RV C' v y/\cG C' n' h' lim s'/\n<=n'/\Fr C h s C' h' s'/\∃D,∀d,D<=d->Sim.body (exec T d) lim (Iu true fn) ys s=some (y,s'):=by
   intro z hr;obtain⟨vs,F,k,m,e⟩:=rX q3 q2 hr
   obtain⟨v,w,p1,p2,p3⟩:∃v w,K v h' n'=some r/\Sim.results (Sim.look s'.h) E fn.res=some w/\RV C' v w:=by
    split at k;rename_i v1;obtain⟨w,G,rfl,A,B⟩:=e.inv_cons;have:=B.inv_nil;subst this;exact⟨v1,w,k,by simp only[Sim.results,m],A⟩;rename_i g;refine⟨.tup vs,.tup F,k,?_,.tup e.1 e.2⟩;simp only[Sim.results,m];split;rename_i w hw;cases hw;have:=e.1;rcases vs with _|⟨a,_|⟨b,t⟩⟩<;>simp at this;exact absurd rfl (g a)
    grind
    grind
   refine⟨v,h',n',C',w,s',p1,p3,q3,q5,q6,D,fun d hd=>?_⟩;simp only[Sim.body,Iu,q7 d hd];cases x with
   |exit i=>exact absurd rfl (z i)
   |normal=>simp only[p2,qR2]
   |ret=>simp only[p2,qR2]
  cases x with
  |exit i=>exact aD q1
  |normal=>exact fin (fun i h=>by cases h) q1
  |ret=>exact fin (fun i h=>by cases h) q1
theorem Ht {C:Cx}:∀{ps:aA Nat} {xs:aA PV} {ys:aA AV} {e:dY} {t:aA AV} {K:dY->aB R} {r:R},zN e ps xs K=some r->cV C e t->LR (RV C) xs ys->ps.all (fun p=>Nat.blt p t.length)=true->
  ∃e',K e'=some r/\cV C e' (Sim.putAll t ps ys)/\ps.length=ys.length/\(Sim.putAll t ps ys).length=t.length
 |[],[],ys,e,t,K,r,hk,he,hl,_=>by
  rw[hl.inv_nil]
  exact⟨e,by unfold zN at hk;exact hk,he,rfl,rfl⟩
 |p::ps,x::xs,ys,e,t,K,r,hk,he,hl,hp=>by
  obtain⟨y,h,rfl,h1,h2⟩:=hl.inv_cons
  unfold zN at hk
  rw[dR]at hk
  simp only[rR2,pN2,rY2]at hp
  have a:cV C ((p,x)::edel e [p]) (t.set p y):=.put hp.1 h1 (fun i w hw=>by
   obtain⟨z,p1,p2,p3⟩:=he.edel [p] i w hw
   exact⟨z,p1,p2,fun b=>p3 (by simp[b])⟩)
  obtain⟨e2,c,d,f,g⟩:=Ht hk a h2 (by simpa using hp.2)
  exact⟨e2,c,d,by simp[f],by simpa[Sim.putAll]using g⟩
 |[],_::_,_,_,_,_,_,hk,_,_,_=>by unfold zN at hk;exact aD hk
 |_::_,[],_,_,_,_,_,hk,_,_,_=>by unfold zN at hk;exact aD hk
theorem aP1 (hO:∀f xs v,O f xs=some v->lQ T f xs v) (hX:NOK T X) {k:Nat} {xs:aA PV} {ys:aA AV} {h:aQ} {n:Nat} {K:PV->aQ->Nat->aB R} {r:R} {C:Cx} {s:Hp} {lim id ver e1 len:Nat}
  (hk:aN1 O X k xs h n K=some r) (hl:LR (RV C) xs ys) (hC:C k=some (.atp id ver e1 len)) (hM:cG C n h lim s):
  ∃v h' n' C' y s',K v h' n'=some r/\RV C' v y/\cG C' n' h' lim s'/\n<=n'/\Fr C h s C' h' s'/\∃D,∀d,D<=d->Sim.round (exec T d) lim id ys s=some (y,s'):=by
 unfold aN1 at hk;rw[eG,pM2]at hk;obtain⟨ob,L,hk⟩:=hk;split at hk
 .rename_i N e ps a b
  rw[bO,pM2]at hk;obtain⟨_,o,hk⟩:=hk;unfold okG at o;split at o
  .rename_i g
   unfold okL at g;rw[pN2,pN2]at g;have o1:=g.1.1;have o2:=g.1.2;have o3:=g.2;clear o g;obtain⟨J,st,pend,tmps,g1,g2,g3,g4⟩:=vN hM L hC;obtain⟨rfl,rfl⟩:=g4;subst g2;obtain⟨e2,hk,he,W,Y⟩:=Ht hk g3 hl o1;obtain⟨x,e',h1,n1,C1,t1,P,q1,q2,q3,q4,q5,q6,D1,q7⟩:=dN (T:=T) (rd:=true) (lim:=lim) (N:=tmps.length) hO hX a _ r _ n h _ _ s hk he hM Y o2;cases x with
   |exit i=>exact aD q1
   |ret=>exact aD q1
   |normal=>
   simp only[eG,pM2]at q1;obtain⟨p,l,q1⟩:=q1
   have place:∀{C1:Cx} {h1:aQ} {P:Hp} {p:fP},Fr C h s C1 h1 P->aL h1 k=some p->eM p=true->C1 k=some (.atp id ver e1 len):=fun{C1 h1 P p} hf hg hb=>by
    obtain⟨o',p1,p2⟩:=hf.kd k _ L;rw[hg]at p1;cases p1;rw[(p2 hb).2,hC]
   split at q1
   .rename_i N2 V E a2 b2
    have z:=place q6 l rfl;obtain⟨_,st,pend,j,w1,w2,w3,w4⟩:=vN q3 l z;obtain⟨rfl,rfl⟩:=w4;subst w2;have q1:=dM _ _ _ _ _ q1;have u:=(q3.hr.lt (by rw[l];simp) z)
    obtain⟨m1,m2⟩:=pV q3 (po':=.loop j.length V E a2 b2 true none) (ao:=.loop .busy none j E (iG a2) (iG b2)) l z ⟨u.1,u.2,.busy,none,j,by rw[Sim.look_upd,pW2 ⟨rfl,by rw[w1];rfl⟩],rfl,w3,rfl⟩ rfl;obtain⟨x2,e3,h2,n2,C2,t2,S,z1,z2,z3,z4,z5,z6,D2,z7⟩:=dN (T:=T) (rd:=true) (lim:=lim) (N:=tmps.length) hO hX b _ r _ n1 _ _ _ _ q1 q2 m1 q4 o3;simp only[pM2]at z1;obtain⟨b4,m,z1⟩:=z1;have G:=(q6.trans m2).trans z6;split at z1
    .rename_i N3 F q a3 b3 U b0
     have A:=place G m rfl;obtain⟨_,b5,a0,c,v1,v2,v3,v4⟩:=vN z3 m A;subst v2;have w:=(z3.hr.lt (by rw[m];simp) A)
     have fin:∀(fn:aB Ex) (st:LoopState) (B:aB IC) (bv:Bool),StR false fn st B->(fY h2 k (.loop c.length F q a3 b3 false fn) fun h=>K (.v (.bool bv)) h n2)=some r->
       (∀s',Sim.endRound id S st B=some s'->∀d,D2<=d->(match exec T d lim true (iG b) {t:=t1,s:={h:=upd P.h id (.loop .busy none j E (iG a2) (iG b2)),n:=P.n}}with
        |some (.normal,τ)=>(Sim.endRound id τ.s .ready none).map fun s=>(AV.bool true,s)
        |some (.ret,τ)=>(Sim.endRound id τ.s .done (some .ret)).map fun s=>(AV.bool false,s)
        |some (.exit i,τ)=>(Sim.endRound id τ.s .done (some (.exit i))).map fun s=>(AV.bool false,s)
        |none=>none)=some (AV.bool bv,s'))->
       ∃v h' n' C' y s',K v h' n'=some r/\RV C' v y/\cG C' n' h' lim s'/\n<=n'/\Fr C h s C' h' s'/\∃D,∀d,D<=d->Sim.round (exec T d) lim id ys s=some (y,s'):=by
      intro fn st B bv Z hk M;have hk:=dM _ _ _ _ _ hk;obtain⟨m3,m4⟩:=pV z3 (po':=.loop c.length F q a3 b3 false fn) (ao:=.loop st B c q (iG a3) (iG b3)) m A ⟨w.1,w.2,st,B,c,by rw[Sim.look_upd,pW2 ⟨rfl,by rw[v1];rfl⟩],rfl,v3,Z⟩ rfl;refine⟨_,_,_,_,.v (.bool bv),_,hk,.cl (.v _),m3,by omega,G.trans m4,D1+D2,fun d hd=>?_⟩;have H:Sim.endRound id S st B=some {h:=upd S.h id (.loop st B c q (iG a3) (iG b3)),n:=S.n}:=by simp only[Sim.endRound,v1]
      simp only[Sim.round,g1];rw[pW2 ⟨J,W⟩,q7 d (by omega)];simp only[w1];exact M _ H d (by omega)
     cases x2 with
     |normal=>exact fin none .ready none true ⟨rfl,rfl⟩ z1 (fun s' hs' d hd=>by rw[z7 d hd];simp only[hs',qR2])
     |exit i=>exact fin (some (.exit i)) .done (some (.exit i)) false ⟨rfl,rfl⟩ z1 (fun s' hs' d hd=>by rw[z7 d hd];simp only[hs',qR2])
     |ret=>exact fin (some .ret) .done (some .ret) false ⟨rfl,rfl⟩ z1 (fun s' hs' d hd=>by rw[z7 d hd];simp only[hs',qR2])
    .exact aD z1
   .exact aD q1
  .cases o
 .exact aD hk
theorem Hu {B:rL} {NF:FuncId->Bool} {NW:NB} {P:qB} (d:Nat):(OX B NF NW P d).2.is=NF:=by cases d<;>rfl
theorem Dg {f:FuncId} {ifn:IFn} {ys:aA AV} {v:PV} (b:T.memo f ys=none) (h:∃D,∀d,D<=d->∃w s' y,Sim.body (exec T d) 0 ifn ys {h:=[],n:=0}=some (w,s')/\Sim.fz (Sim.look s'.h) 0 w=some y/\RC false v y):
  ∃D,∀d,D<=d->∃y,Sim.runP T (exec T d) f ifn ys=some y/\RC false v y:=by
 obtain⟨D,a⟩:=h;refine⟨D,fun d hd=>?_⟩;obtain⟨w,s',y,c,e,g⟩:=a d hd;exact⟨y,by simp only[Sim.runP,b,c,e],g⟩
def zO (T:gH) (NF:FuncId->Bool) (P:qB) (run:Hl):Prop:=∀(f:FuncId) (xs:aA PV) (h:aQ) (n:Nat) (v:PV) (h':aQ) (n':Nat) (C:Cx) (s:Hp) (lim:Nat) (ys:aA AV),
 NF f=true->P f=none->run f xs h n=some (v,h',n')->LR (RV C) xs ys->cG C n h lim s->
 ∃C' y s',RV C' v y/\cG C' n' h' lim s'/\n<=n'/\Fr C h s C' h' s'/\(∃ifn,T f=some ifn/\ifn.pure=false/\ifn.frz=false)/\∃D,∀d,D<=d->Sim.callF T (exec T d) lim f ys s=some (y,s')
theorem Vt {B:rL} {NF:FuncId->Bool} {NW:NB} {P:qB} (l:∀f xs v,NF f=false->B f xs=some v->lQ T f xs v) (p:zO T NF P NW.run) (m:∀f fn,P f=some fn->T f=some (Iu (NF f) fn)/\rW NF fn.ntmps false fn.code=true/\∀ys,T.memo f ys=none):
  ∀d,(∀f xs v,(OX B NF NW P d).1 f xs=some v->lQ T f xs v)/\NOK T (OX B NF NW P d).2
 |0=>⟨fun f xs v h=>by
   simp only[OX]at h
   cases hn:NF f with
   |true=>rw[hn]at h;exact aD h
   |false=>rw[hn]at h;exact l f xs v hn h,⟨fun f xs h n K r C s lim ys c hk=>by simp[OX]at hk,fun k xs h n K r C s lim ys id ver e len hk=>by simp[OX]at hk⟩⟩
 |d+1=>by
  obtain⟨g,i⟩:=Vt l p m d
  refine⟨fun f xs v h=>?_,⟨fun f xs h n K r C s lim ys c hk hl b=>?_,fun k xs h n K r C s lim ys id ver e len hk hl t b=>?_⟩⟩
  simp only[OX]at h
  cases hn:NF f with
  |true=>rw[hn]at h;exact aD h
  |false=>
   rw[hn,qS2]at h
   split at h
   rename_i fn a
   obtain⟨h1,h2,j⟩:=m f fn a
   rw[hn]at h1
   cases hz:fn.frz with
   |true=>
    rw[hz,qD2]at h
    exact⟨Iu false fn,h1,rfl,fun _=>by simp[Iu,hz],fun ys hl=>Dg (j ys) (Hr g i (by rw[Hu];exact h2) hl h)⟩
   |false=>
    rw[hz,qS2,pM2]at h
    obtain⟨v',h,hg⟩:=h
    cases hq:sZ 4 v' with
    |true=>rw[hq]at hg;exact aD hg
    |false=>
     rw[hq]at hg
     cases hg
     exact⟨Iu false fn,h1,rfl,fun q=>(by rw[hq]at q;cases q),fun ys hl=>Dg (j ys) (Hr g i (by rw[Hu];exact h2) hl h)⟩
   exact l f xs v hn h
  simp only[OX]at c hk
  split at hk
  rename_i fn a
  obtain⟨h1,h2,j⟩:=m f fn a
  rw[c]at h1
  obtain⟨v,h',n',C',y,s',p1,p2,p3,p4,p5,D,p6⟩:=Np g i (by rw[Hu];exact h2) hk hl b
  refine⟨v,h',n',C',y,s',p1,p2,p3,p4,p5,⟨_,h1,rfl,rfl⟩,D,fun d hd=>?_⟩
  simp only[Sim.callF,h1]
  exact p6 d hd
  rename_i a
  rw[pM2]at hk
  obtain⟨⟨v,h',n'⟩,o,hk⟩:=hk
  obtain⟨C',y,s',p2,p3,p4,p5,p6,p7⟩:=p f xs h n v h' n' C s lim ys c a o hl b
  exact⟨v,h',n',C',y,s',hk,p2,p3,p4,p5,p6,p7⟩
  simp only[OX]at hk
  exact aP1 g i hk hl t b
theorem hA1 {B:rL} {NF:FuncId->Bool} {NW:NB} {P:qB} (a:∀f xs v,NF f=false->B f xs=some v->lQ T f xs v) (b:zO T NF P NW.run) (c:∀f fn,P f=some fn->T f=some (Iu (NF f) fn)/\rW NF fn.ntmps false fn.code=true/\∀ys,T.memo f ys=none) (d:Nat) (f:FuncId) (xs:aA PV) (v:PV) (h:Od B NF NW P d f xs=some v):lQ T f xs v:=(Vt a b c d).1 f xs v h
theorem oW1 {B:rL} {NF:FuncId->Bool} {NW:NB} {P:qB} {f:FuncId} {fn:bL} (a:NF f=false) (h:P f=some fn) (b:fn.frz=true) (d:Nat) (xs:aA PV):Od B NF NW P (d+1) f xs=yK (Od B NF NW P d) (Xd B NF NW P d) fn xs some:=by
 simp only[Od,Xd,OX,h,a,b,qS2,qD2]
theorem oX1 {R:Type} {B:rL} {NF:FuncId->Bool} {NW:NB} {P:qB} {f:FuncId} {fn:bL} (h:P f=some fn) (d:Nat) (xs:aA PV) (a:aQ) (n:Nat) (K:PV->aQ->Nat->aB R):(Xd B NF NW P (d+1)).run f xs a n K=Kn (Od B NF NW P d) (Xd B NF NW P d) fn xs a n K:=by
 simp only[Od,Xd,OX,h]
theorem aQ1 {R:Type} {B:rL} {NF:FuncId->Bool} {NW:NB} {P:qB} {f:FuncId} (h:P f=none) (d:Nat) (xs:aA PV) (a:aQ) (n:Nat) (K:PV->aQ->Nat->aB R):(Xd B NF NW P (d+1)).run f xs a n K=(NW.run f xs a n).bind fun r=>K r.1 r.2.1 r.2.2:=by
 simp only[Xd,OX,h]
theorem Nq {B:rL} {NF:FuncId->Bool} {NW:NB} {P:qB} {f:FuncId} (a:NF f=false) (h:P f=none) (d:Nat) (xs:aA PV):Od B NF NW P d f xs=B f xs:=by
 cases d with
 |zero=>simp only[Od,OX,a,qS2]
 |succ d=>simp only[Od,OX,h,a,qS2]
theorem Vu {C0 C':Cx} {h h' h2:aQ} {n n' lim:Nat} {s s':Hp} {v v':PV} {y:AV} (d:cG C0 n h lim s) (hv:RV C' v y) (r:cG C' n' h' lim s') (hf:Fr C0 h s C' h' s') (hk:zM h false n v h' n'=some (v',h2,0)):
  RV (iY C' (gE h2)) v' y/\cG (iY C' (gE h2)) n h2 lim s'/\Fr C0 h s (iY C' (gE h2)) h2 s':=by
 unfold zM at hk;obtain⟨p,w1⟩:=eU (gA 5) _ _ _ _ hk;obtain⟨x,w1⟩:=eE _ _ _ _ _ w1;obtain⟨a,_,w1,g⟩:=oN w1;cases hch2:(Pt a (pU h)&&(bif false then Ps h n a else Pu h a)&&(kC (gE a) 5 v&&iA (gE a) a))with
 |false=>rw[hch2]at w1;exact aD w1
 |true=>
 rw[hch2,qD2]at w1;cases w1;simp only[pN2,qS2]at hch2;obtain⟨⟨c1,c2⟩,c3,c4⟩:=hch2;have b:∀k o,aL h2 k=some o->aL h' k=some o:=fun k o u=>by grind
 have m:∀{k},aL h k≠none->aL h2 k≠none:=fun{k} hk=>tJ c1 k (pZ hk);have i:∀{k},aL h2 k≠none->aL h' k≠none:=fun{k} hk=>by grind
 have c:=r.part b c4
 have q:∀{k pl},iY C' (gE h2) k=some pl->C' k=some pl/\aL h2 k≠none:=fun{k pl} hk=>by
  simp only[iY]at hk;split at hk;rename_i t;exact⟨hk,iC.1 t⟩;cases hk
 refine⟨vL hv c3,⟨c.hr,fun k pl hk=>?_,c.wf,c.lim⟩,⟨hf.sk,hf.n,hf.keep,fun id j w=>?_,fun k o hk=>?_,hf.zl,hf.zn⟩⟩;have:=oO c2 (q hk).2;cases hc:aL h k with
 |none=>exact absurd hc this
 |some o=>obtain⟨pl,p1,_⟩:=d.hr.ob k o hc;exact d.dom k pl p1
 obtain⟨k,v,e,l,q1,q2⟩:=w;exact hf.own id j ⟨k,v,e,l,i q1,(q q2).1⟩;obtain⟨o',q1,q2⟩:=hf.kd k o hk;have f:=m (k:=k) (by rw[hk];simp);cases hc:aL h2 k with
 |none=>exact absurd hc f
 |some o2=>
  have:=b k o2 hc;rw[q1]at this;cases this;refine⟨o',rfl,fun hb=>⟨(q2 hb).1,?_⟩⟩;simp only[iY];rw[pW2 (iC.2 f)];exact(q2 hb).2
end
def nY (cl:Nat->aB (Nat×Nat)):Hl:=fun f xs h n=>match xs,h with
 |[.is e rows],[]=>(cl f).bind fun p=>bif Nat.beq p.2 e&&Nat.ble rows.length 1073741824 then some (.own n,[(n,.lst p.1 e true rows)],n+1)else none
 |_,_=>none
end Go.P
namespace Go.P
open Go.Sim (AV Hp gH exec)
section
variable {T:gH}
noncomputable def tM {A B:Type} (f0 n0:Nat) (xs:A->aA PV) (h:A->aQ) (h':A->B->aQ) (G:A->aB B):Hl:=fun f x c n=>
 open Classical in if q:f=f0/\n=n0/\∃a,x=xs a/\c=h a then(G q.2.2.choose).map fun b=>(.tup [],h' q.2.2.choose b,n)else none
theorem Qm {A B:Type} {f0 n0:Nat} {xs:A->aA PV} {h:A->aQ} {h':A->B->aQ} {G:A->aB B} (hi:∀a b,xs a=xs b->h a=h b->a=b) (a:A):
  tM f0 n0 xs h h' G f0 (xs a) (h a) n0=(G a).map fun b=>(.tup [],h' a b,n0):=by
 have q:f0=f0/\n0=n0/\∃b,xs a=xs b/\h a=h b:=⟨rfl,rfl,a,rfl,rfl⟩
 unfold tM;rw[dif_pos q,show q.2.2.choose=a from(hi _ _ q.2.2.choose_spec.1 q.2.2.choose_spec.2).symm]
theorem uT {A B:Type} {f0 n0:Nat} {xs:A->aA PV} {h:A->aQ} {h':A->B->aQ} {G:A->aB B} {f:FuncId} {x:aA PV} {c:aQ} {n:Nat} {r:PV×aQ×Nat} (hk:tM f0 n0 xs h h' G f x c n=some r):
  f=f0/\n=n0/\∃a b,x=xs a/\c=h a/\G a=some b/\r=(.tup [],h' a b,n0):=by
 unfold tM at hk;split at hk;rename_i q;obtain⟨b,hb,he⟩:=pP2.1 hk;exact⟨q.1,q.2.1,_,b,q.2.2.choose_spec.1,q.2.2.choose_spec.2,hb,by rw[<-he];exact congrArg (fun m=>((.tup []:PV),h' q.2.2.choose b,m)) q.2.1⟩;cases hk
def Nr (a b:Hl):Hl:=fun f x h n=>match a f x h n with|some r=>some r|none=>b f x h n
theorem Ns {NF:FuncId->Bool} {P:qB} {a b:Hl} (c:zO T NF P a) (hb:zO T NF P b):zO T NF P (Nr a b):=by
 intro f xs h n v h' n' C s lim ys h1 h2 hk;unfold Nr at hk;split at hk;rename_i r hr;cases hk;exact c f xs h n v h' n' C s lim ys h1 h2 hr;exact hb f xs h n v h' n' C s lim ys h1 h2 hk
theorem Qn {O:rL} {X:NX} {NF:FuncId->Bool} {P:qB} {run:Hl} {f0:FuncId} {fn:bL} (c:∀f xs v,O f xs=some v->lQ T f xs v) (e:NOK T X)
  (b:T f0=some (Iu true fn)) (hp:rW X.is fn.ntmps false fn.code=true)
  (hr:∀f xs h n v h' n',run f xs h n=some (v,h',n')->f=f0/\n'=n/\Kn O X fn xs h n (zM h false n)=some (v,h',0)):zO T NF P run:=by
 intro f xs h n v h' n' C s lim ys hf _ hk hl a;obtain⟨rfl,rfl,hd⟩:=hr f xs h n v h' n' hk;obtain⟨v1,h1,k,C1,y,s',q1,q2,q3,q4,q5,D,q6⟩:=Np c e hp hd hl a;obtain⟨g,i,j⟩:=Vu a q2 q3 q5 q1
 exact⟨_,y,s',g,i,pQ2 _,j,⟨_,b,rfl,rfl⟩,D,fun d hd=>by
  simp only[Sim.callF,b];exact q6 d hd⟩
end
end Go.P
namespace Go.P
open Go.Sim (Ex dW CK)
theorem aR1 {α β γ δ:Type} {X:aB γ} {Y:aB α} {e:α->γ} {K:γ->aB δ} {F:α->aB β} {enc:β->δ} (h:X=Y.map e) (hk:∀y,K (e y)=(F y).map enc):bU X K=(Y.bind F).map enc:=by
 rw[bO];subst h;cases Y<;>simp[hk]
theorem oY1 {β γ:Type} {b:Bool} {X Y:aB γ} {FX FY:aB β} {enc:β->γ} (a:X=FX.map enc) (hy:Y=FY.map enc):Is b X Y=(if b then FX else FY).map enc:=by
 rw[mJ];subst a hy;cases b<;>rfl
theorem aK {S E S' E':Type} {enc:S->S'} {encE:E->E'} {B:S'->aB (S'⊕E')} {F:S->aB (S⊕E)} (h:∀s,B (enc s)=(F s).map (Sum.map enc encE)):∀(n:Nat) (s:S),aR B n (enc s)=(aR F n s).map encE
 |0,s=>rfl
 |n+1,s=>by
  simp only[aR,h]
  cases F s with
  |none=>rfl
  |some r=>
   cases r with
   |inl s'=>exact aK h n s'
   |inr e=>rfl
def aT {A:Type} (l:aA A) (i:Int):aB A:=if 0<=i then l[i.toNat]? else none
theorem Ko {A:Type} (f:A->aA PV) (l:aA A) (i:Int):sX (l.map f) i=(aT l i).map f:=by
 unfold sX aT;split<;>simp
def i64 (n:Int):PV:=.v (.int .i64 n)
def bv (b:Bool):PV:=.v (.bool b)
end Go.P
namespace Go.P
open Go.Sim (Ex dW CK maxRoom)
def aW (n:Int):Int:=IntKind.wrap .i64 n
def eA {A:Type} (f:A->aA PV) (x:A):PV:=.agg (f x)
def cI (n:Int):aA PV:=[i64 n]
def Vv (b:UInt8):aA PV:=[.v (.int .u8 (b.toNat:Int))]
def cB (b:Bool):aA PV:=[bv b]
def cE {K V:Type} (f:K->PV) (g:V->PV) (p:K×V):PV×PV:=(f p.1,g p.2)
section
variable {γ δ:Type}
theorem oZ1 {X:aB γ} {x:γ} {K:γ->aB δ} {r:aB δ} (h:X=some x) (hk:K x=r):bU X K=r:=by
 rw[bO,h];exact hk
theorem dO {b x:Bool} {X:aB Bool} (h:X=some x):Is b X (some false)=some (b&&x):=by
 rw[mJ,h];cases b<;>rfl
theorem fF {b x:Bool} {X:aB Bool} (h:X=some x):Is b (some true) X=some (b||x):=by
 rw[mJ,h];cases b<;>rfl
theorem oid {A:Type} (x:aB A):x=x.map id:=by simp
end
section
variable {A:Type}
theorem cQ (c:A->aA PV) (l:aA A):some (l.map c).length=some l.length:=by simp
def cK (l:aA A) (i:Int):aB Nat:=rG l.length i
theorem aY (c:A->aA PV) (l:aA A) (i:Int):rG (l.map c).length i=(cK l i).map id:=by simp[cK]
def dG (l:aA A) (i:Nat):aB A:=l[i]?
theorem cC {c:A->aA PV} {o:Nat} {g:A->PV} (h:∀x,(c x)[o]? =some (g x)) (l:aA A) (i:Nat):xI (l.map c) i o=(dG l i).map g:=by
 unfold xI dG;rw[qU2];cases l[i]? with
 |none=>rfl
 |some x=>exact h x
theorem bZ {c:A->aA PV} {o n m:Nat} {g:A->aA PV} (h:∀x,(c x).length=m/\((c x).drop o).take n=g x) (a:o+n<=m) (l:aA A) (i:Nat):rH (l.map c) i o n=(dG l i).map g:=by
 unfold rH dG;rw[qU2];cases l[i]? with
 |none=>rfl
 |some x=>simp[(h x).1,(h x).2,a]
def iZ (l:aA A) (i:Nat) (f:A->A):aB (aA A):=(l[i]?).map fun x=>l.set i (f x)
theorem fE {c:A->aA PV} {o:Nat} {cs:aA PV} {f:A->A} {m:Nat} (h:∀x,(c x).length=m/\Sim.setL (c x) o cs=c (f x)) (a:o+cs.length<=m) (l:aA A) (i:Nat):xH (l.map c) i o cs=(iZ l i f).map (List.map c):=by
 unfold xH iZ;rw[qU2];cases l[i]? with
 |none=>rfl
 |some x=>simp[(h x).1,(h x).2,a]
def qC (l:aA A) (a b:Int):aB (aA A):=if 0<=a/\a<=b/\b<=l.length then some ((l.drop a.toNat).take (b.toNat-a.toNat))else none
theorem rY (f:A->aA PV) (l:aA A) (a b:Int):lM (l.map f) a b=(qC l a b).map (List.map f):=by
 unfold lM qC;simp only[sG2];split;simp_all;rfl
theorem zP (f:A->aA PV) (l:aA A) (a:Int):lM (l.map f) a (l.map f).length=(qC l a l.length).map (List.map f):=by
 rw[rY,sG2]
def yM (l:aA A) (h:Int):aB (aA A):=if 0<=h/\h<=l.length then some (l.take h.toNat)else none
theorem zQ (f:A->aA PV) (l:aA A) (h:Int):oJ (l.map f) h=(yM l h).map (List.map f):=by
 unfold oJ yM;simp only[sG2];split;simp[List.map_take];rfl
def jA (g:Bool) (l m:aA A):aB (aA A):=if l.length+m.length<=maxRoom/\(g=true->m.length<=1)then some (l++m)else none
theorem bX (g:Bool) (f:A->aA PV) (l m:aA A):appRows g (l.map f) (m.map f)=(jA g l m).map (List.map f):=by
 unfold appRows jA;simp only[sG2];split;simp;rfl
def uU (l c:Int) (z:A):aB (aA A):=if 0<=l/\l<=c/\c<=maxRoom then some (List.replicate l.toNat z)else none
theorem jL (f:A->aA PV) (l c:Int) (z:A):nQ l c (f z)=(uU l c z).map (List.map f):=by
 unfold nQ uU;split;simp;rfl
theorem qD (k:IntKind) (l:aA Int) (i:Int) {n:Nat} (h:l.length=n):rI (l.map fun x=>PV.v (.int k x)) i n 1=(aT l i).map (fun x=>PV.v (.int k x)):=by
 subst h;unfold rI aT;by_cases h0:0<=i
 grind
 grind
theorem Hv {c:A->aA PV} {e:Nat} (hc:∀x,(c x).length=e):∀(l:aA A) (j:Nat),j<l.length->((l.flatMap c).drop (j*e)).take e=((l[j]?).map c).getD []/\(j+1)*e<=(l.flatMap c).length
 |[],j,h=>by simp at h
 |x::l,0,h=>by grind
 |x::l,j+1,h=>by
  have a:=hc x
  obtain⟨h1,h2⟩:=Hv hc l j (by simpa using h)
  constructor
  rw[List.flatMap_cons,show(j+1)*e=(c x).length+j*e by rw[a,rS2];omega,<-sJ2,List.drop_left]
  simpa using h1
  grind
theorem Hw (c:A->aA PV) (l:aA A) (i:Int) {n e:Nat} (h:l.length=n) (hc:∀x,(c x).length=e) {cs:aA PV} (a:cs=l.flatMap c):nP cs i n e=(aT l i).map c:=by
 subst h a;unfold nP aT;by_cases h0:0<=i;by_cases h1:i<l.length;obtain⟨h2,b⟩:=Hv hc l i.toNat (by omega)
 rw[pW2 ⟨h0,h1,b⟩,h2,pW2 h0];rw[qN2 (by omega)];rfl
 grind
 grind
end
def aS1 (k:IntKind) (a b:Int):aB Int:=if b<0 then none else some (k.wrap (a*2^min b.toNat k.bits))
def rZ (k:IntKind) (a b:Int):aB Int:=if b<0 then none else some (a.fdiv (2^min b.toNat k.bits))
def zR (k:IntKind) (a b:Int):aB Int:=if b=0 then none else some (k.wrap (a.tdiv b))
def Vw (k:IntKind) (a b:Int):aB Int:=if b=0 then none else some (a.tmod b)
def Dh (k:IntKind) (a b:Int):Int:=k.wrap (BitVec.ofInt k.bits a&&&BitVec.ofInt k.bits b).toNat
def Kp (k:IntKind) (a b:Int):Int:=k.wrap (BitVec.ofInt k.bits a|||BitVec.ofInt k.bits b).toNat
structure yN {K:Type} [DecidableEq K] (ek:K->PV) (agg:Bool) (ks:List CK):Prop where
 ok:∀a,sY agg ks (ek a)=true
 eq:∀a b,pS agg ks (ek a) (ek b)=some (decide (a=b))
section
variable {K V:Type} [DecidableEq K] {ek:K->PV} {agg:Bool} {ks:List CK}
def iD (k:K):aA (K×V)->Nat->aB (Nat×V)
 |[],_=>none
 |p::r,i=>if k=p.1 then some (i,p.2)else iD k r (i+1)
def kE (l:aA (K×V)) (k:K) (z:V):V:=match iD k l 0 with|some p=>p.2|none=>z
def Qo (l:aA (K×V)) (k:K):Bool:=(iD k l 0).isSome
def oZ (l:aA (K×V)) (k:K) (x:V):aA (K×V):=match iD k l 0 with|some p=>l.set p.1 (k,x)|none=>l++[(k,x)]
theorem oP (h:yN ek agg ks) (ev:V->PV) (k:K):∀(l:aA (K×V)) (i:Nat),rJ agg ks (ek k) (l.map (cE ek ev)) i=some ((iD k l i).map fun p=>(p.1,ev p.2))
 |[],i=>rfl
 |p::r,i=>by
  simp only[sC2,cE,rJ,h.eq,iD]
  by_cases e:k=p.1
  simp[e]
  simp only[e,rQ2,pT2 e]
  exact oP h ev k r (i+1)
theorem qE (h:yN ek agg ks) (ev:V->PV) (l:aA (K×V)) (k:K) (z:V):pT agg ks (ev z) (ek k) (l.map (cE ek ev))=some (ev (kE l k z)):=by
 unfold pT kE;rw[h.ok,pW2 rfl,oP h];cases iD k l 0<;>rfl
theorem Hx (h:yN ek agg ks) (ev:V->PV) (l:aA (K×V)) (k:K) (z:V):mK agg ks (ev z) (ek k) (l.map (cE ek ev))=some (ev (kE l k z),Qo l k):=by
 unfold mK kE Qo;rw[h.ok,pW2 rfl,oP h];cases iD k l 0<;>rfl
theorem gS (h:yN ek agg ks) (ev:V->PV) (l:aA (K×V)) (k:K) (x:V):xJ agg ks (ek k) (ev x) (l.map (cE ek ev))=some ((oZ l k x).map (cE ek ev)):=by
 unfold xJ oZ;rw[h.ok,pW2 rfl,oP h];cases iD k l 0 with
 |none=>simp[cE]
 |some p=>simp[cE,List.map_set]
end
end Go.P
namespace Go.P
open Go.Sim (Ex dW CK maxRoom)
section
variable {A β γ δ:Type} {f:A->List PV} {l m:List A} {i:Int}
theorem rg:sX (l.map f) i=(aT l i).map f:=Ko f l i
theorem lm:some (l.map f).length=some l.length:=cQ f l
theorem im:rG (l.map f).length i=(cK l i).map id:=aY f l i
theorem lf {x:γ} {y:β} {enc:β->γ} (h:x=enc y):some x=(some y).map enc:=by subst h;rfl
theorem bo {α:Type} {X:aB γ} {Y:aB α} {e:α->γ} {K:γ->aB δ} {F:α->aB β} {enc:β->δ} (h:X=Y.map e) (hk:∀y,K (e y)=(F y).map enc):bU X K=(Y.bind F).map enc:=aR1 h hk
theorem bz {X:aB γ} {x:γ} {K:γ->aB δ} {r:aB δ} (h:X=some x) (hk:K x=r):bU X K=r:=oZ1 h hk
theorem io {b:Bool} {X Y:aB γ} {FX FY:aB β} {enc:β->γ} (a:X=FX.map enc) (hy:Y=FY.map enc):Is b X Y=(if b then FX else FY).map enc:=oY1 a hy
theorem oi {x:aB A}:x=x.map id:=oid x
end
end Go.P
set_option maxRecDepth 100000
namespace Go.P
open Go.Sim (AV AO Hp IFn IC IX Ex gH exec)
def fK (ty esz k:Nat) (zero:aA Value):IFn:={ntmps:=8,res:=[.tmp 2],pure:=true,frz:=false,body:=(
  .seq (.reg [⟨some 2,.mov,[.c (.v (.slice none 0 0))],none⟩])
   (.seq (.seq (.reg [⟨some 3,.mov,[.t 0],none⟩,⟨some 4,.eqNil false 0,[.t 3,.c (.v (.slice none 0 0))],none⟩])
     (.cond (.t 4) (.seq (.reg [⟨some 2,.mov,[.c (.v (.slice none 0 0))],none⟩]) .ret) .skip))
   (.seq (.reg [⟨some 5,.buildSl ty esz 0 zero [],[],none⟩,⟨some 6,.mov,[.t 0],none⟩,⟨some 7,.append ty esz k zero false,[.t 5,.t 6],none⟩,⟨some 2,.mov,[.t 7],none⟩]) .ret)))}
section
variable {T:gH} (ty esz k:Nat) (zero:List Value) (d:Nat)
theorem Qp:Sim.body (exec T (d+8)) 0 (fK ty esz k zero) [.v (.slice none 0 0)] {h:=[],n:=0}=some (.v (.slice none 0 0),{h:=[],n:=0}):=rfl
theorem aT1:∃s,Sim.body (exec T (d+8)) 0 (fK ty esz k zero) [.is esz []] {h:=[],n:=0}=some (.sl esz 0 0 0 0 none,s)/\Sim.look s.h 0=some (.arr false ty esz 0 []):=by
 simp[Sim.body,exec,fK,Sim.runOps,Sim.wanted,Sim.evs,Sim.IX.ev,Sim.step,Sim.doOp,Sim.put,Sim.isNilv,Sim.appRows,Sim.rowsOf,Sim.appendTo,Sim.fillParts,Sim.look,Sim.results,Sim.mapO,Sim.readRes,Sim.Out.apply]
theorem aU1 (r:aA AV) (a:aA (aA AV)) (h:(r::a).length<=1073741824):∃s,Sim.body (exec T (d+8)) 0 (fK ty esz k zero) [.is esz (r::a)] {h:=[],n:=0}=some (.sl esz 0 1 0 (r::a).length none,s)/\Sim.look s.h 0=some (.arr false ty esz 1 (r::a)):=by
 have b:Sim.maxRoom=1073741824:=rfl;simp only[rB2]at h;simp[Sim.body,exec,fK,Sim.runOps,Sim.wanted,Sim.evs,Sim.IX.ev,Sim.step,Sim.doOp,Sim.put,Sim.isNilv,Sim.appRows,Sim.rowsOf,Sim.appendTo,Sim.fillParts,Sim.look,Sim.results,Sim.mapO,Sim.readRes,Sim.Out.apply,b,h];rfl
theorem yO {f:FuncId} {ty esz k:Nat} {zero:aA Value} (i:T f=some (fK ty esz k zero)) (j:∀ys,T.memo f ys=none) {rows:aA (aA PV)} (hl:rows.length<=1073741824):lQ T f [.is esz rows] (.is esz rows):=by
 refine⟨_,i,rfl,fun h=>(by cases h),fun ys hy=>Dg (j ys) ⟨8,fun d hd=>?_⟩⟩;obtain⟨d,rfl⟩:∃g,d=g+8:=⟨d-8,by omega⟩
 obtain⟨y,l,rfl,h1,h2⟩:=hy.inv_cons;rw[h2.inv_nil];rcases xQ (C:=⟨fun _=>none,fun _=>none⟩) (.cl h1)with⟨rows',rfl,hr⟩|⟨rfl,rfl⟩
 cases rows' with
 |nil=>
  have:rows=[]:=sV2 hr.1;subst this;obtain⟨s,a,e2⟩:=aT1 (T:=T) ty esz k zero d;exact⟨_,_,_,a,Nf (d:=4) (rows:=[]) (qJ2 _) e2 .nil (pQ2 _),h1⟩
 |cons r rs=>
  obtain⟨s,a,e2⟩:=aU1 (T:=T) ty esz k zero d r rs (by rw[<-hr.1];exact hl);have b:(r::rs).length=rows.length:=hr.1.symm;rw[b]at a;have e:(r::rs).take rows.length=r::rs:=by rw[<-b,rU2]
  have c:=Nf (n0:=0) (L:=Sim.look s.h) (d:=4) (rows:=rows) (id:=0) (qJ2 _) e2 (by rw[e];exact hr) (by omega);rw[e]at c;exact⟨_,_,_,a,c,h1⟩
 exact⟨_,_,_,Qp ty esz k zero d,rfl,.isn⟩
theorem Kq (lim:Nat) (s:Hp):Sim.body (exec T (d+8)) lim {fK ty esz k zero with pure:=false} [.v (.slice none 0 0)] s=some (.v (.slice none 0 0),s):=rfl
theorem Vx {lim:Nat} {s:Hp} (hl:lim<=s.n):Sim.body (exec T (d+8)) lim {fK ty esz k zero with pure:=false} [.is esz []] s=some (.sl esz s.n 0 0 0 none,⟨.ob s.n (.arr false ty esz 0 [])::s.h,s.n+1⟩):=by
 simp[Sim.body,exec,fK,Sim.runOps,Sim.wanted,Sim.evs,Sim.IX.ev,Sim.step,Sim.doOp,Sim.put,Sim.isNilv,Sim.appRows,Sim.rowsOf,Sim.appendTo,Sim.fillParts,Sim.look,Sim.results,Sim.mapO,Sim.readRes,Sim.Out.apply]
theorem Vy {lim:Nat} {s:Hp} (hl:lim<=s.n) (r:aA AV) (a:aA (aA AV)) (h:(r::a).length<=1073741824):Sim.body (exec T (d+8)) lim {fK ty esz k zero with pure:=false} [.is esz (r::a)] s=some (.sl esz s.n 1 0 (r::a).length none,⟨.ob s.n (.arr false ty esz 1 (r::a))::s.h,s.n+1⟩):=by
 have b:Sim.maxRoom=1073741824:=rfl;simp only[rB2]at h;simp[Sim.body,exec,fK,Sim.runOps,Sim.wanted,Sim.evs,Sim.IX.ev,Sim.step,Sim.doOp,Sim.put,Sim.isNilv,Sim.appRows,Sim.rowsOf,Sim.appendTo,Sim.fillParts,Sim.look,Sim.results,Sim.mapO,Sim.readRes,Sim.Out.apply,Sim.upd,b,h,hl]
end
theorem Qq {T:gH} {NF:FuncId->Bool} {P:qB} {cl:Nat->aB (Nat×Nat)} (q:∀f p,cl f=some p->fM p.1=false/\Nat.ble 4294967296 p.2=false/\∃k zero,T f=some {fK p.1 p.2 k zero with pure:=false}):zO T NF P (nY cl):=by
 intro f xs h n v h' n' C s lim ys _ _ hk hl b;unfold nY at hk;split at hk;rename_i e rows;rw[pM2]at hk;obtain⟨⟨ty,e2⟩,hc,hk⟩:=hk;simp only at hk;by_cases he:(Nat.beq e2 e&&Nat.ble rows.length 1073741824)=true;rw[he,qD2]at hk;cases hk;simp only[pN2,Nat.ble_eq]at he;obtain⟨h1,t⟩:=he;have:=qF2 h1;subst this;obtain⟨hfx,hs,k,zero,a⟩:=q f _ hc;simp only at hfx hs a;have o:zD ty=ty:=by simp[zD,hfx]
 obtain⟨y,u,rfl,a1,a2⟩:=hl.inv_cons;rw[a2.inv_nil]
 have nilc:rows=[]->y=.v (.slice none 0 0)->∃C' c s',RV C' (.own n) c/\cG C' (n+1) [(n,.lst ty e2 true rows)] lim s'/\n<=n+1/\Fr C [] s C' [(n,.lst ty e2 true rows)] s'/\(∃ifn,T f=some ifn/\ifn.pure=false/\ifn.frz=false)/\∃D,∀d,D<=d->Sim.callF T (exec T d) lim f [y] s=some (c,s'):=by
  rintro rfl rfl;obtain⟨i,j⟩:=Ke b (ty:=ty) (e:=e2) (g:=true);have m:lN ty e2 true=.lst ty e2 true []:=by unfold lN;rw[hs];rfl
  rw[m]at i j;refine⟨_,_,s,.ownn (C:=ext C n .nil) (lG C n .nil) rfl,i,by omega,j,⟨_,a,rfl,rfl⟩,8,fun d hd=>?_⟩;obtain⟨d,rfl⟩:∃l,d=l+8:=⟨d-8,by omega⟩
  simp only[Sim.callF,a];exact Kq (T:=T) ty e2 k zero d lim s
 rcases xQ a1 with⟨rows',rfl,hr⟩|⟨hr,hy⟩
 have fin:∀(ver:Nat),(∀d,Sim.body (exec T (d+8)) lim {fK ty e2 k zero with pure:=false} [.is e2 rows'] s=some (.sl e2 s.n ver 0 rows.length none,⟨.ob s.n (.arr false ty e2 ver rows')::s.h,s.n+1⟩))->
   ∃C' c s',RV C' (.own n) c/\cG C' (n+1) [(n,.lst ty e2 true rows)] lim s'/\n<=n+1/\Fr C [] s C' [(n,.lst ty e2 true rows)] s'/\(∃ifn,T f=some ifn/\ifn.pure=false/\ifn.frz=false)/\∃D,∀d,D<=d->Sim.callF T (exec T d) lim f [.is e2 rows'] s=some (c,s'):=by
  intro ver hb;obtain⟨i,j,w⟩:=nU b (po:=.lst ty e2 true rows) (ao:=.arr false ty e2 ver rows') (ver:=ver) (e:=e2) (len:=rows.length) ⟨b.lim,by omega,rfl,rfl,rows',by rw[dT,pW2 rfl,o],by rw[qV2 (by rw[hr.1];exact pQ2 _)];exact hr,by rw[hr.1];exact pQ2 _,fun h=>by cases h⟩;refine⟨_,_,_,.own (lG C n _),i,by omega,j,⟨_,a,rfl,rfl⟩,8,fun d hd=>?_⟩;obtain⟨d,rfl⟩:∃l,d=l+8:=⟨d-8,by omega⟩
  simp only[Sim.callF,a];exact hb d
 cases rows' with
 |nil=>
  have:rows=[]:=sV2 hr.1;subst this;exact fin 0 fun d=>Vx (T:=T) ty e2 k zero d b.lim
 |cons r rs=>exact fin 1 fun d=>by rw[hr.1];exact Vy (T:=T) ty e2 k zero d b.lim r rs (by rw[<-hr.1];exact t)
 exact nilc hr hy
 grind
 cases hk
end Go.P
namespace Go.P
open Go.Sim
section
variable {P:Program} {D:Nat} {t:TypeId} {cs:List AV}
theorem mV {n:Nat} (h:n<=maxLen):n<9223372036854775808:=pR2 h (by decide)
theorem eS {k:IntKind} (a:P.underlying t=some (.int k)) (h:iS P D t cs):∃n,LR (RC false) [.v (.int k n)] cs:=by
 cases D with
 |zero=>exact h.elim
 |succ D=>
  unfold iS at h;rw[a]at h;obtain⟨n,rfl,_⟩:=h;exact⟨n,.cons (.v _) .nil⟩
theorem Hy (a:P.underlying t=some .bool) (h:iS P D t cs):∃n,LR (RC false) [.v (.bool n)] cs:=by
 cases D with
 |zero=>exact h.elim
 |succ D=>
  unfold iS at h;rw[a]at h;obtain⟨n,rfl⟩:=h;exact⟨n,.cons (.v _) .nil⟩
theorem aV1 (a:P.underlying t=some .string) (h:iS P D t cs):∃s:ByteArray,s.size<=maxLen/\LR (RC false) [.v (.string s)] cs:=by
 cases D with
 |zero=>exact h.elim
 |succ D=>
  unfold iS at h;rw[a]at h;obtain⟨s,rfl,hs⟩:=h;exact⟨s,hs,.cons (.v _) .nil⟩
theorem Nt {A:Type} {B:A->Prop} {c:A->aA PV} {e:TypeId} {m:Nat} (g:P.underlying t=some (.slice e)) (f:P.cellsOf e=m) (a:∀D row,iS P D e row->∃x:A,B x/\LR (RC false) (c x) row) (hp:∀x,(c x).all eO=true) (h:iS P D t cs):
  ∃l:aA A,(l.length<=maxLen/\∀x∈l,B x)/\LR (RC false) [.is m (l.map c)] cs:=by
 cases D with
 |zero=>exact h.elim
 |succ D=>
  unfold iS at h;rw[g]at h;rcases h with rfl|⟨els,rfl,hl,h⟩
  exact⟨[],⟨qJ2 _,fun x d=>(sU2 d).elim⟩,.cons .isn .nil⟩;rw[f]
  have:∃l:aA A,l.length=els.length/\(∀x∈l,B x)/\RR (l.map c) els:=by
   clear hl
   induction els with
   |nil=>exact⟨[],rfl,fun x d=>(sU2 d).elim,.nil⟩
   |cons row els ih=>
    obtain⟨l,h1,h2,b⟩:=ih (fun row a=>h row (by simp[a]));obtain⟨x,j,i⟩:=a D row (h row (by simp)).2;refine⟨x::l,by simp[h1],fun y hy=>?_,.cons ?_ b⟩
    grind
    exact(LR.closed (C:=⟨fun _=>none,fun _=>none⟩) i).plain (hp x)
  obtain⟨l,h1,h2,b⟩:=this;exact⟨l,⟨by omega,h2⟩,.cons b.is .nil⟩
theorem eC {fs:Array Field} (a:P.underlying t=some (.struct fs)) (h:iS P D t cs):∃D',Zm (iS P D') P fs.toList cs:=by
 cases D with
 |zero=>exact h.elim
 |succ D=>
  unfold iS at h;rw[a]at h;exact⟨D,h⟩
theorem zJ1 {n:Nat} {e:TypeId} (b:P.underlying t=some (.array n e)) (h:iS P D t cs):∃(D':Nat) (rows:aA (aA AV)),cs=rows.flatten/\rows.length=n/\∀row∈rows,row.length=P.cellsOf e/\iS P D' e row:=by
 cases D with
 |zero=>exact h.elim
 |succ D=>
  unfold iS at h;rw[b]at h;obtain⟨rows,h1,h2,a⟩:=h;exact⟨D,rows,h1,h2,a⟩
theorem pA1 {α:Type} {l:aA α} (h:l.length=6):∃a b c d e f,l=[a,b,c,d,e,f]:=by
 rcases l with _|⟨a,_|⟨b,_|⟨c,_|⟨d,_|⟨e,_|⟨f,_|⟨g,l⟩⟩⟩⟩⟩⟩⟩<;>simp at h;exact⟨a,b,c,d,e,f,rfl⟩
end
end Go.P
namespace Go.P
open Go.Sim
theorem Vz {T:gH} {f:FuncId} {xs:aA PV} (h:lQ T f xs (bv true)) {ys:aA AV} (hl:LR (RC false) xs ys) (hc:ys.all (closed 4)=true):∃d s,callF T (exec T d) 0 f ys {h:=[],n:=0}=some (.v (.bool true),s):=by
 obtain⟨ifn,h1,h2,g,a⟩:=h;obtain⟨D,b⟩:=a ys hl;obtain⟨y,c,e⟩:=b D (pQ2 _);cases e;exact⟨D,_,by simp only[callF,h1,h2,qQ2,hc,c,qR2];rfl⟩
theorem Di {x:PV} {y:AV} {d:Nat} (h:RC false x y) (hp:eO x=true):closed (d+1) y=true:=by
 cases h<;>first|rfl|simp[eO]at hp
theorem Kr {xs:aA PV} {ys:aA AV} (h:LR (RC false) xs ys) (hp:xs.all eO=true):closed 4 (.agg ys)=true:=by
 unfold closed;rw[pX2];intro y hy;obtain⟨j,b⟩:=qG2.1 hy;have a:j<xs.length:=by rw[h.1];exact(pO2.1 b).1
 have c:xs[j]? =some xs[j]:=qN2 a;exact Di (h.2 j _ _ c b) (pX2.1 hp _ (sA2 a))
def jZ1:Value->Value->Bool
 |.int k a,.int k' b=>decide (k=k')&&decide (a=b)
 |.bool a,.bool b=>decide (a=b)
 |.string a,.string b=>decide (a=b)
 |.slice none 0 0,.slice none 0 0=>true
 |_,_=>false
theorem aW1 {x y:Value} (h:jZ1 x y=true):x=y:=by
 unfold jZ1 at h;split at h<;>simp_all
def Hz {α β:Type} (f:α->β->Bool):aA α->aA β->Bool
 |[],[]=>true
 |a::as,b::bs=>f a b&&Hz f as bs
 |_,_=>false
theorem lT {α β:Type} {f:α->β->Bool}:∀{xs:aA α} {ys:aA β},Hz f xs ys=true->xs.length=ys.length/\∀(j:Nat) (x:α) (y:β),xs[j]? =some x->ys[j]? =some y->f x y=true
 |[],[],_=>⟨rfl,fun j x y h=>by simp at h⟩
 |[],b::bs,h=>by simp[Hz]at h
 |a::as,[],h=>by simp[Hz]at h
 |a::as,b::bs,h=>by
  simp only[Hz,pN2]at h
  obtain⟨h1,h2⟩:=h
  have ih:=lT h2
  refine⟨by simp[ih.1],fun j x y c hy=>?_⟩
  cases j with
  |zero=>simp at c hy;subst c;subst hy;exact h1
  |succ j=>simp at c hy;exact ih.2 j x y c hy
def rcB:Nat->PV->AV->Bool
 |0,_,_=>false
 |d+1,x,y=>match x,y with
  |.v x,.v y=>jZ1 x y
  |.is e rows,.is e' rows'=>decide (e=e')&&Hz (Hz (rcB d)) rows rows'
  |.is _ [],.v (.slice none 0 0)=>true
  |_,_=>false
theorem Wa:∀(d:Nat) {x:PV} {y:AV} (p:Bool),rcB d x y=true->RC p x y
 |0,x,y,p,h=>by simp[rcB]at h
 |d+1,x,y,p,h=>by
  unfold rcB at h
  split at h
  rw[aW1 h];exact .v _
  simp only[pN2,pU2]at h
  obtain⟨rfl,h⟩:=h
  have h1:=lT h
  refine .is h1.1 (fun i r r' hr a=>(lT (h1.2 i r r' hr a)).1) (fun i r r' j x y hr a b hy=>Wa d true ((lT (h1.2 i r r' hr a)).2 j x y b hy))
  exact .isn
  cases h
end Go.P
namespace Go.P
open Go.Sim (IC IX AV dW iT)
section
variable {R:Type}
def fN (s:Nat) (K:Nat->R):R:=match s with
 |0=>K 0
 |n+1=>K (n+1)
def num:Nat->Nat->(Nat->Nat->R)->R
 |0,s,K=>K 0 s
 |k+1,s,K=>bif Nat.ble 8 (s%16)then fN (s/16) fun t=>num k t fun n t=>K (s%16-8+8*n) t else fN (s/16) fun t=>K (s%16) t
def pC1:Nat->Nat->(aA Nat->Nat->R)->R
 |0,s,K=>K [] s
 |k+1,s,K=>num 16 s fun n t=>fN n fun n=>pC1 k t fun l u=>K (n::l) u
def Ia (s:Nat) (K:aA Nat->Nat->R):R:=num 16 s fun n t=>pC1 n t K
def hB1:Nat->Nat->(aA (aA Nat)->Nat->R)->R
 |0,s,K=>K [] s
 |k+1,s,K=>Ia s fun n t=>hB1 k t fun l u=>K (n::l) u
def uV:AV->PV
 |.v x=>.v x
 |.fn (.func f) _ _=>.fn f [] []
 |.agg cs=>.agg (cs.map fun c=>match c with|.v x=>.v x|_=>.undef)
 |_=>.undef
def uX:IX->PX
 |.t i=>.t i
 |.c x=>.c (uV x)
def Wb:aA PX->aA Nat
 |[]=>[]
 |.t i::xs=>i::Wb xs
 |_::xs=>Wb xs
def kil (h:Nat) (xs:aA PX) (s:Nat) (K:aA Nat->Nat->R):R:=match h with
 |0=>K [] s
 |1=>K (Wb xs) s
 |_=>Ia s K
def mrk:aA Nat->gC->gC
 |[0,d,ty,e,g],r=>.own d ty e (Nat.beq g 1) r
 |[1,d],r=>.fz d none r
 |[2,d,j],r=>.fz d (some j) r
 |[3,d],r=>.laxm d none r
 |[4,d,j],r=>.laxm d (some j) r
 |[5,d,e],r=>.lax d [some e] r
 |[6,d,j,ty,e,g],r=>.ownc d j ty e (Nat.beq g 1) r
 |[7,d,j,e],r=>.laxc d j e r
 |[8,d,m,j,e],r=>.lax d ((List.range m).map fun q=>bif Nat.beq q j then some e else none) r
 |_,r=>r
def pD1:aA (aA Nat)->gC->gC
 |[],r=>r
 |m::ms,r=>mrk m (pD1 ms r)
def opO (d:aB Nat) (k:dW) (xs:aA PX) (l:aA Nat) (r:gC):gC:=match d with
 |some d=>.op d k xs l r
 |none=>.sto k xs l r
def pie (f:aA Sim.Op1->Nat->(gC->Nat->R)->R) (h:Nat) (os:aA Sim.Op1) (s:Nat) (K:(gC->gC)->aA Sim.Op1->Nat->R):R:=num 16 s fun k s=>f (os.take k) s fun b s=>match os.drop k with
 |[]=>K (fun r=>r) [] s
 |o::os=>match o.dst,o.xs with
  |some d,[.t c,x,y]=>kil (s%16) [.t c] (s/16) fun l s=>match y with
   |.c (.v (.bool false))=>K (bif Nat.beq h 5 then .ifx d c true b (uX x) l else .ifn d c true b (uX x) l) os s
   |_=>K (bif Nat.beq h 5 then .ifx d c false b (uX y) l else .ifn d c false b (uX y) l) os s
  |_,_=>K (fun r=>r) [] s
def its:Nat->aA Sim.Op1->Nat->(gC->Nat->R)->R
 |0,_,s,K=>K .nil s
 |_,[],s,K=>K .nil s
 |n+1,o::os,s,K=>match s%16 with
  |3=>Ia (s/16) fun l s=>its n os s fun r s=>(match o.k,o.dst with
   |.buildSl ty _ _ z _,some d=>K (.mkfl d ty z (o.xs.map uX) l r) s
   |_,_=>K .nil s)
  |4=>kil (s/16%16) (o.xs.map uX) (s/256) fun l s=>num 16 s fun m s=>hB1 m s fun b s=>its n os s fun r s=>K (opO o.dst o.k (o.xs.map uX) l (pD1 b r)) s
  |5=>pie (its n) 5 (o::os) (s/16) fun a os s=>its n os s fun r s=>K (a r) s
  |6=>pie (its n) 6 (o::os) (s/16) fun a os s=>its n os s fun r s=>K (a r) s
  |h=>fN (s/16) fun t=>kil h (o.xs.map uX) t fun l s=>its n os s fun r s=>K (opO o.dst o.k (o.xs.map uX) l r) s
def hD1:aA Nat->aA (Nat×Nat×Nat×Nat)
 |a::b::c::d::r=>(a,b,c,d)::hD1 r
 |_=>[]
def Sm:IC->Nat->(PC->Nat->R)->R
 |.skip,s,K=>K .skip s
 |.reg ops,s,K=>its ops.length ops s fun b s=>K (.reg b) s
 |.regD ops bf,s,K=>num 16 s fun dr s=>its ops.length ops s fun b s=>Ia s fun q s=>(match q with
  |[]=>K (.regD dr b bf) s
  |q=>K (.regX dr b bf (hD1 q)) s)
 |.seq a b,s,K=>Sm a s fun x s=>Sm b s fun y s=>K (.seq x y) s
 |.cond c a b,s,K=>match s%16 with
  |1=>Ia (s/16) fun l s=>Sm a s fun x s=>Sm b s fun y s=>K (.condJ l (uX c) x y) s
  |2=>fN (s/16) fun s=>Sm a s fun x s=>Sm b s fun y s=>K (.condL (uX c) x y) s
  |_=>fN (s/16) fun s=>Sm a s fun x s=>Sm b s fun y s=>K (.cond (uX c) x y) s
 |.block id c,s,K=>Sm c s fun x s=>K (.block id x) s
 |.loop c,s,K=>match s%16 with
  |1=>num 16 (s/16) fun m s=>Ia s fun l s=>Sm c s fun x s=>K (.loopU m l x) s
  |_=>Ia (s/16) fun l s=>Ia s fun d s=>Sm c s fun x s=>K (.loop l d x) s
 |.rangeF _ _ _ _,s,K=>K .skip s
 |.exit id,s,K=>K (.exit id) s
 |.ret,s,K=>K .ret s
def anF (P:Program) (f s:Nat) (z:Bool):bL:=match P.funcs[f]? with
 |some fn=>match fn.body with
  |some c=>match Sim.comp P c,Sim.mapO (Sim.compRes P) fn.results.toList with
   |some ic,some rs=>Sm ic s fun c _=>⟨fn.ntmps,rs,c,z⟩
   |_,_=>default
  |none=>default
 |none=>default
end
end Go.P
namespace Go.P
open Go.Sim
theorem Wc {Q:Program} {T:gH} (e:fL Q T) (a:Q.follows .mixedOrders=true) {f:FuncId} {xs:aA PV} {ys:aA AV} {b:Bool} (h:lQ T f xs (bv b)) (hl:LR (RC false) xs ys) (hc:ys.all (closed 4)=true):jG Q f ys (.v (.bool b)):=by
 obtain⟨fn,h1,h2,_,c⟩:=h;obtain⟨D,d⟩:=c ys hl;obtain⟨y,g,i⟩:=d D (pQ2 _);cases i;exact xG e a h1 h2 hc g
theorem Wd {T:gH} {f:FuncId} {fn:IFn} {b:Bool} (a:T f=some fn) (hp:fn.pure=true) (e:fn.frz=true) (c:T.memo f []=some (.v (.bool b))):lQ T f [] (bv b):=
 ⟨fn,a,hp,fun _=>e,fun ys hy=>⟨0,fun d _=>⟨_,by rw[hy.inv_nil];simp only[runP,c],.v _⟩⟩⟩
def hF1:Nat->PV->AV
 |0,_=>.es
 |d+1,x=>match x with
  |.v x=>.v x
  |.is _ []=>.v (.slice none 0 0)
  |.is e rows=>.is e (rows.map fun r=>r.map (hF1 d))
  |_=>.es
def Nu (d:Nat) (xs:aA PV):aA AV:=xs.map (hF1 d)
theorem aY1 {cells:aA PV} {d:Nat} (h:Hz (rcB 12) cells (Nu d cells)=true):LR (RC false) [.agg cells] [.agg (Nu d cells)]:=by
 have:=lT h;exact .cons (.agg this.1 (fun j x y a hy=>Wa 12 false (this.2 j x y a hy))) (.nil)
end Go.P
