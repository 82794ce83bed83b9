import Derived.Test.YtcbmkpbljlaghaaGreatLpA
/- A text of the proof. -/
set_option linter.all false
namespace Go.P
open Go.Sim (AV AO Hp eN upd St IC IX Ex dQ CK Wf Out doOp gB exec Foot wanted put)
section
variable {R:Type} {T:gB} {O:qR} {X:NX} {dr:Nat}
theorem Lv {C:Cx}:∀{es:aA (aB Nat)} {cs:aA PV} {ys:aA AV} {K:aA PV->aB R} {r:R},LR (RV C) cs ys->Oe es cs K=some r->∃cs',K cs'=some r/\LR (RV C) cs' ys
 |[],[],ys,K,r,hl,h=>⟨[],h,hl⟩
 |o::os,x::xs,ys,K,r,hl,h=>by
  obtain⟨y,c,rfl,h1,h2⟩:=hl.inv_cons
  unfold Oe at h
  obtain⟨cs',a,b⟩:=Lv h2 h
  cases o with
  |none=>exact⟨_,a,.cons h1 b⟩
  |some e=>
   simp only at a
   split at a
   have:=eD h1
   subst this
   exact⟨_,a,.cons (.cl .isn) b⟩
   exact aD a
 |[],_::_,_,_,_,_,h=>by unfold Oe at h;exact aD h
 |_::_,[],_,_,_,_,h=>by unfold Oe at h;exact aD h
theorem Yi {C:Cx} {n:Nat} {h:aN} {lim:Nat} {s:Hp} (u:cD C n h lim s) {k id ver e len:Nat} {cs cs2:aA PV} {ty e':Nat} {g:Bool} (hk:aK h k=some (.box cs)) (w:C k=some (.atp id ver e len))
  (x:∀row,LR (RV C) cs row->LR (RV (ext C n .nil)) cs2 row):
  cD (ext C n .nil) (n+1) ((n,lB ty e' g)::dX h k (.box cs2)) lim s/\Fr C h s (ext C n .nil) ((n,lB ty e' g)::dX h k (.box cs2)) s:=by
 obtain⟨r,t⟩:=Jc u (ty:=ty) (e:=e') (g:=g);have B:n≠k:=by have:=u.dom _ _ w;omega
 have m:∀j,aK ((n,lB ty e' g)::dX h k (.box cs2)) j≠none->aK ((n,lB ty e' g)::h) j≠none:=fun j f=>by
  simp only[aK]at f ⊢;split;simp;rename_i h1;rw[kR2 h1,eS]at f;split at f
  grind
  exact f
 refine⟨⟨⟨fun j o f=>?_,fun j A i v1 p y v2 e2 H a b c d=>r.hr.inj j A i v1 p y v2 e2 H (m j a) (m A b) c d,fun i o E=>?_⟩,r.dom,r.wf,r.lim⟩,⟨t.sk,t.n,t.keep,fun i hi D=>?_,fun j o f=>?_,t.zl,t.zn⟩⟩;simp only[aK]at f;split at f;rename_i h1;exact r.hr.ob j o (by simp[aK,h1];simpa using f);rename_i h1;rw[eS]at f;split at f;rename_i h2;obtain⟨rfl,_⟩:=h2;cases f;obtain⟨pl,q1,q2⟩:=u.hr.ob _ _ hk;rw[w]at q1;cases q1;obtain⟨p1,p2,z,esz,row,p3,p4⟩:=q2;exact⟨_,(iR u .nil).1 _ _ w,p1,p2,z,esz,row,p3,x row p4⟩;exact r.hr.ob j o (by simp[aK,h1,f]);obtain⟨z1,z2,z3,z4⟩:=r.hr.zr i o E;exact⟨z1,z2,fun j v e l a b=>z3 j v e l (m j a) b,z4⟩;obtain⟨j,v1,p,y,F,G⟩:=D;exact t.own i hi ⟨j,v1,p,y,m j F,G⟩;obtain⟨o',q1,q2⟩:=t.kd j o f;have q:n≠j:=fun p=>by rw[sI u (by omega)]at f;cases f
 by_cases p:j=k;subst p;rw[hk]at f;cases f;exact⟨.box cs2,by simp[aK,q,eS,hk],fun _=>⟨rfl,by simp[ext,Ne.symm q]⟩⟩;refine⟨o',?_,q2⟩;simpa[aK,q,eS,p]using q1
structure NOK (T:gB) (X:NX):Prop where
 run:∀{R:Type} (f:FuncId) (xs:List PV) (h:aN) (n:Nat) (K:PV->aN->Nat->Option R) (r:R) (C:Cx) (s:Hp) (lim:Nat) (ys:List AV),
  X.is f=true->X.run f xs h n K=some r->LR (RV C) xs ys->cD C n h lim s->
  ∃v h' n' C' y s',K v h' n'=some r/\RV C' v y/\cD C' n' h' lim s'/\n<=n'/\Fr C h s C' h' s'/\(∃ifn,T f=some ifn/\ifn.pure=false/\ifn.frz=false)/\∃D,∀d,D<=d->Sim.callF T (exec T d) lim f ys s=some (y,s')
 yld:∀{R:Type} (k:Nat) (xs:List PV) (h:aN) (n:Nat) (K:PV->aN->Nat->Option R) (r:R) (C:Cx) (s:Hp) (lim:Nat) (ys:List AV) (id ver e len:Nat),
  X.yld k xs h n K=some r->LR (RV C) xs ys->C k=some (.atp id ver e len)->cD C n h lim s->
  ∃v h' n' C' y s',K v h' n'=some r/\RV C' v y/\cD C' n' h' lim s'/\n<=n'/\Fr C h s C' h' s'/\∃D,∀d,D<=d->Sim.round (exec T d) lim id ys s=some (y,s')
theorem rB:∀{h:aA eN} {id:Nat} {o:AO},Sim.look h id=some o->upd h id o=h
 |[],_,_,h=>by simp[Sim.look]at h
 |.mark::r,id,o,h=>by simp only[Sim.look]at h;simp only[Sim.upd,rB h]
 |.ob i o'::r,id,o,h=>by
  simp only[Sim.look]at h
  simp only[Sim.upd]
  split at h
  grind
  rename_i e;rw[kR2 e,rB h]
theorem Lw:∀{xs:aA IX} {t ys:aA AV},Sim.evs t xs=some ys->ys.length=xs.length
 |[],t,ys,h=>by simp only[Sim.evs,kS2]at h;subst h;rfl
 |x::xs,t,ys,h=>by
  simp only[Sim.evs]at h
  split at h
  rename_i a as c b;cases h;simp[Lw b]
  cases h
theorem Tq {C:Cx} {n:Nat} {h:aN} {lim:Nat} {s:Hp} {ty:TypeId} {zero:aA Value} {as:aA PV} {ys:aA AV} (o:cD C n h lim s) (k:LR (RV C) as ys) (r:zero.length=1) (hf:as.all Xr=true):
  ∃C' out,doOp (Sim.look s.h) lim s.n (.buildSl ty 1 as.length zero (List.range as.length)) ys=some out/\RV C' (.own n) out.v/\cD C' (n+1) ((n,.fl as)::h) lim (out.apply s)/\C.le C'/\Fr C h s C' ((n,.fl as)::h) (out.apply s):=by
 have hc:∀(j:Nat) (y:AV),ys[j]? =some y->y.cells=some [y]:=fun j y hy=>by
  have q:j<as.length:=by rw[k.1];exact(kM2.1 hy).1
  have hv:=k.2 j as[j] y (by simp) hy;have l:=kU2.1 hf as[j] (by simp);cases ha:as[j]with
  |fn f a b=>rw[ha]at hv;obtain⟨a',b',rfl,_⟩:=tU hv;rfl
  |_=>rw[ha]at l;simp[Xr]at l
 have hlen:=k.1;have p:(Sim.zeroRow zero).length=1:=by simp[Sim.zeroRow,r]
 have d:=sM 1 as.length 0 ((List.range as.length).flatMap fun _=>Sim.zeroRow zero) ys (ys.map fun y=>[y]) (by rw[xA,p,List.length_range];simp) hlen.symm (by simp[hlen]) (fun j x k=>⟨[x],hc j x k,rfl,by simp[k]⟩);simp only[nX2,List.take_zero,List.nil_append]at d;have g:=Sx 1 (ys.map fun y=>[y]) (fun c hc=>by simp at hc;obtain⟨y,_,rfl⟩:=hc;rfl);rw[nM2,<-hlen]at g;have m:=iR o (.atp s.n 0 1 as.length)
 obtain⟨u,w,z⟩:=nP o (po:=.fl as) (ao:=.arr false ty 1 0 (ys.map fun y=>[y])) (ver:=0) (e:=1) (len:=as.length)
  ⟨o.lim,by omega,rfl,rfl,ty,_,by rw[dN,kT2 rfl],by simp[hlen],fun i f row a b=>by
   simp only[lS2,kN2]at b;obtain⟨y,hy,rfl⟩:=b;exact .cons ((k.2 i f y a hy).mono m) .nil⟩
 refine⟨_,{v:=.sl 1 s.n 0 0 as.length none,new:=some (.arr false ty 1 0 (ys.map fun y=>[y]))},?_,.own (kT C n _),u,m,w⟩
 have:doOp (Sim.look s.h) lim s.n (.buildSl ty 1 as.length zero (List.range as.length)) ys=(Sim.fillParts ((List.range as.length).flatMap fun _=>Sim.zeroRow zero) ((List.range as.length).map fun i=>(i*1,1)) ys).map fun cs=>
  {v:=.sl 1 s.n 0 0 as.length none,new:=some (.arr false ty 1 0 ((List.range as.length).map fun i=>(cs.drop (i*1)).take 1))}:=by
  rcases ys with _|⟨a,_|⟨b,_|⟨c,t⟩⟩⟩<;>rfl
 rw[<-List.range_eq_range']at d;rw[this,d];simp only[lK2];rw[g]
theorem cM (hO:∀f xs v,O f xs=some v->lE T f xs v) (hX:NOK T X) (x:dr=0\/dr=3\/dr=4) {N lim:Nat} {R:Type}:∀(ops:fW) (u F:aA Nat) (l:Bool) (g:aB (Nat×Bool)) (C:Cx) (n:Nat) (h:aN) (e:dU) (t:aA AV) (s:Hp) (K:dU->aN->Nat->aB R) (r:R),
  cO O X dr ops e h n K=some r->cP C e t->cD C n h lim s->t.length=N->iD N u l F ops=true->Hm g t->GIn g u->
  ∃e' h' n' C' A s' fs,K e' h' n'=some r/\Tr T X.is dr lim (oD g ops) {t:=t,s:=s} fs {t:=A,s:=s'}/\cP C' e' A/\cD C' n' h' lim s'/\A.length=N/\n<=n'/\Fr C h s C' h' s'/\∀(i:Nat),i∉bT ops []->A[i]? =t[i]?
 |.nil,u,F,l,g,C,n,h,e,t,s,K,r,hk,he,hM,hN,ho,hg,hgi=>⟨e,h,n,C,t,s,[],by unfold cO at hk;exact hk,.nil,he,hM,hN,kO2 _,.refl _ _ _,fun _ _=>rfl⟩
 |.op d k xs kl rs,u,F,l,g,C,n,h,e,t,s,K,r,hk,he,hM,hN,ho,hg,hgi=>by
  simp only[iD,kL2,lE2,fQ,mR2]at ho
  obtain⟨⟨⟨o1,o2⟩,o3⟩,o4⟩:=ho
  have hd:d<t.length:=by omega
  have a0:d∉u:=by simpa using o2
  have back:∀{y:AV} {A:aA AV},(∀(i:Nat),i∉bT rs []->A[i]? =(t.set d y)[i]?)->∀(i:Nat),i∉bT (.op d k xs kl rs) []->A[i]? =t[i]? :=fun hb i hi=>by
   simp only[bT,lF2,nI2]at hi
   rw[hb i hi.2,lI2 (Ne.symm hi.1)]
  unfold cO at hk
  rw[gG,kK2]at hk
  obtain⟨vs,b8,hk⟩:=hk
  obtain⟨ys,h1,h2⟩:=iK he o3 b8
  have d7:∀{f:FuncId} {xs':aA PV} {zs:aA AV},tR O f xs' h (fun v=>gF e (d::kl) fun e=>cO O X dr rs ((d,v)::e) h n K)=some r->LR (RV C) xs' zs->gK k=true->3<=jX X.is dr k->
    ((∃ifn,T f=some ifn/\ifn.pure=true)->Sim.foot T k ys={all:=1})->(∀(d:Nat) (s:Hp),Sim.step T (exec T d) lim k ys s=Sim.callF T (exec T d) lim f zs s)->
    ∃e' h' n' C' A s' fs,K e' h' n'=some r/\Tr T X.is dr lim (oD g (.op d k xs kl rs)) {t:=t,s:=s} fs {t:=A,s:=s'}/\cP C' e' A/\cD C' n' h' lim s'/\A.length=N/\n<=n'/\Fr C h s C' h' s'/\∀(i:Nat),i∉bT (.op d k xs kl rs) []->A[i]? =t[i]? :=by
   intro f xs' zs hk hz hc g7 hf g9;obtain⟨v,y,q,h4,h5,D,h6⟩:=Fo (lim:=lim) hO hM hk hz;simp only[dM]at q
   have B:cP C ((d,v)::edel e (d::kl)) (t.set d y):=.put hd (.cl h4) (fun i w hw=>by
    obtain⟨z,p1,p2,p3⟩:=he.edel (d::kl) i w hw;exact⟨z,p1,p2,fun e1=>p3 (by simp[e1])⟩)
   obtain⟨e2,e5,H,C2,Z,Y,fs,J,L,M,S,U,r6,V,W⟩:=cM hO hX x rs u (d::F) l g C n h _ _ s K r q B hM (by simpa using hN) o4 (hg.set hgi a0) hgi;exact⟨e2,e5,H,C2,Z,Y,_,J,.call (o:=⟨some d,k,xs.map eX,g⟩) hg.wanted h1 hc g7 (hf h5) ⟨D,fun d hd m=>by rw[g9];exact h6 d hd m⟩ L,M,S,U,r6,V,back W⟩
  have ncall:∀{run:aN->Nat->(PV->aN->Nat->aB (PV×aN×Nat))->aB (PV×aN×Nat)} {xs':aA PV} {zs:aA AV} {P:AV->Hp->Prop} {nw fx:Bool},LR (RV C) xs' zs->
    (∀(hs:aN) (C0:Cx) (m:Nat) (K':PV->aN->Nat->aB (PV×aN×Nat)) (r':PV×aN×Nat),cD C0 m hs lim s->LR (RV C0) xs' zs->run hs m K'=some r'->
     ∃v h' n' C' y s',K' v h' n'=some r'/\RV C' v y/\cD C' n' h' lim s'/\m<=n'/\Fr C0 hs s C' h' s'/\P y s')->
    (∀y s',P y s'->(Sim.foot T k ys).all=2/\(dr≠0->jX X.is dr k=4)/\∃D,∀d,D<=d->Sim.step T (exec T d) lim k ys s=some (y,s'))->
    gQ1 fx run nw xs' e h n (d::kl) (fun v e h n=>cO O X dr rs ((d,v)::e) h n K)=some r->
    ∃e' h' n' C' A s' fs,K e' h' n'=some r/\Tr T X.is dr lim (oD g (.op d k xs kl rs)) {t:=t,s:=s} fs {t:=A,s:=s'}/\cP C' e' A/\cD C' n' h' lim s'/\A.length=N/\n<=n'/\Fr C h s C' h' s'/\∀(i:Nat),i∉bT (.op d k xs kl rs) []->A[i]? =t[i]? :=by
   intro run xs' zs P nw fx hz f6 hP hk;obtain⟨v,e',h',n',C',y,s',q1,q2,q3,q4,q5,q6,q7⟩:=Tp hM he hz f6 hk;obtain⟨p1,p2,p3⟩:=hP y s' q7
   have B:cP C' ((d,v)::e') (t.set d y):=.put hd q2 (fun i w hw=>by
    obtain⟨z,p1,p2,p3⟩:=q3 i w hw;exact⟨z,p1,p2,fun e1=>p3 (by simp[e1])⟩)
   obtain⟨e2,e5,H,C2,Z,Y,fs,J,L,M,S,U,r6,V,W⟩:=cM hO hX x rs u (d::F) l g C' n' h' _ _ s' K r q1 B q4 (by simpa using hN) o4 (hg.set hgi a0) hgi;exact⟨e2,e5,H,C2,Z,Y,_,J,.ncall (o:=⟨some d,k,xs.map eX,g⟩) hg.wanted h1 p1 p2 p3 L,M,S,U,by omega,q6.trans V,back W⟩
  split at hk;rename_i ty es b zero x1 x2;obtain⟨y1,d1,rfl,p1,p2⟩:=h2.inv_cons;obtain⟨y2,f7,rfl,p3,p4⟩:=p2.inv_cons;have:=p4.inv_nil;subst this;obtain⟨C',e',h',out,q1,q2,q3,q4,q5⟩:=Ye hM (b:=b) (zero:=zero) he hd p1 p3 hk;obtain⟨e2,q,H,C2,Z,Y,fs,J,L,M,S,U,r6,V,W⟩:=cM hO hX x rs u (d::F) l g C' n h' e' _ _ K r q1 q4 q3 (by simpa using hN) o4 (hg.set hgi a0) hgi;exact⟨e2,q,H,C2,Z,Y,_,J,.op (o:=⟨some d,_,xs.map eX,g⟩) hg.wanted h1 rfl q2 L,M,S,U,r6,q5.trans V,back W⟩;rename_i es k0 kd hi;obtain⟨y1,d1,rfl,p1,p2⟩:=h2.inv_cons;obtain⟨y2,f7,rfl,p3,p4⟩:=p2.inv_cons;have:=p4.inv_nil;subst this;obtain⟨C',e',h',out,q1,q2,q3,q4,q5⟩:=Ov hM he hd p1 p3 hk;obtain⟨e2,q,H,C2,Z,Y,fs,J,L,M,S,U,r6,V,W⟩:=cM hO hX x rs u (d::F) l g C' n h' e' _ _ K r q1 q4 q3 (by simpa using hN) o4 (hg.set hgi a0) hgi;exact⟨e2,q,H,C2,Z,Y,_,J,.op (o:=⟨some d,_,xs.map eX,g⟩) hg.wanted h1 rfl q2 L,M,S,U,r6,q5.trans V,back W⟩;rename_i f;cases hX1:X.is f with
  |true=>
   rw[hX1,lA2]at hk;refine ncall (P:=fun y s'=>(∃ifn,T f=some ifn/\ifn.pure=false/\ifn.frz=false)/\∃D,∀d,D<=d->Sim.callF T (exec T d) lim f ys s=some (y,s')) h2 (fun hs C0 m K' r' d2 d6 hr=>hX.run f vs hs m K' r' C0 s lim ys hX1 hr d6 d2) (fun y s' hp=>⟨?_,fun _=>by simp[jX,hX1],hp.2⟩) hk;obtain⟨⟨ifn,w1,w2,w3⟩,_⟩:=hp;simp[Sim.foot,w1,w2,w3]
  |false=>
   rw[hX1,lN2]at hk;refine d7 hk h2 rfl (by simp[jX,hX1]) (fun⟨ifn,w1,w2⟩=>?_) (fun d s=>rfl);simp[Sim.foot,w1,w2]
  rename_i k0 as;obtain⟨y1,d1,rfl,p1,p2⟩:=h2.inv_cons;obtain⟨id,ver,e1,len,hC,rfl⟩:=Bo p1;by_cases q:dr=3;rw[q]at hk;exact aD hk;rw[bG,mC2 q,lN2]at hk;refine ncall (fx:=false) (P:=fun y s'=>∃D,∀d,D<=d->Sim.round (exec T d) lim id d1 s=some (y,s')) (xs':=.yld k0::as) (zs:=.fn (.yield id) [] []::d1) h2 (fun hs C0 m K' r' d2 d6 hr=>?_) (fun y s' hp=>⟨rfl,fun h0=>by simp only[jX];rw[kT2 (by omega)],hp⟩) hk;obtain⟨y1,f7,e2,p3,p4⟩:=d6.inv_cons;cases e2;obtain⟨id',i2,e',i1,f9,e3⟩:=Bo p3;cases e3;exact hX.yld k0 as hs m K' r' C0 s lim _ _ _ _ _ hr p4 f9 d2;rename_i f first cap as
  obtain⟨y1,d1,rfl,p1,p2⟩:=h2.inv_cons;obtain⟨a',b',rfl,p3,p4⟩:=tU p1;have hz:=(p3.append p2).append p4;cases hX1:X.is f with
  |true=>
   rw[hX1,lA2]at hk;by_cases q:dr=3;rw[q]at hk;exact aD hk;rw[bG,mC2 q,lN2]at hk;refine ncall (fx:=false) (P:=fun y s'=>(∃ifn,T f=some ifn/\ifn.pure=false/\ifn.frz=false)/\∃D,∀d,D<=d->Sim.callF T (exec T d) lim f (a'++d1++b') s=some (y,s')) hz (fun hs C0 m K' r' d2 d6 hr=>hX.run f _ hs m K' r' C0 s lim _ hX1 hr d6 d2) (fun y s' hp=>⟨?_,fun h0=>by simp only[jX];rw[kT2 (by omega)],hp.2⟩) hk;obtain⟨⟨ifn,w1,w2,w3⟩,_⟩:=hp;simp[Sim.foot,w1,w2,w3]
  |false=>
   rw[hX1,lN2]at hk;refine d7 hk hz rfl (by simp only[jX];split<;>omega) (fun⟨ifn,w1,w2⟩=>?_) (fun d s=>rfl);simp[Sim.foot,w1,w2]
  obtain⟨v,h',n',C',y,s',q1,q2,q3,q4,q5,q6,q7,q8⟩:=Lt (dr:=dr) hO hM h2 hk;simp only[dM]at q1
  have B:cP C' ((d,v)::edel e (d::kl)) (t.set d y):=.put hd q2 (fun i w hw=>by
   obtain⟨z,p1,p2,p3⟩:=(he.mono q4).edel (d::kl) i w hw;exact⟨z,p1,p2,fun e1=>p3 (by simp[e1])⟩)
  obtain⟨e2,q,H,C2,Z,Y,fs,J,L,M,S,U,r6,V,W⟩:=cM hO hX x rs u (d::F) l g C' n' h' _ _ _ K r q1 B q3 (by simpa using hN) o4 (hg.set hgi a0) hgi;obtain⟨f,hf⟩:=q8 ⟨some d,k,xs.map eX,g⟩ _ t fs _ rfl hg.wanted h1 L;exact⟨e2,q,H,C2,Z,Y,_,J,hf,M,S,U,by omega,q6.trans V,back W⟩
 |.sto k xs kl rs,u,F,l,g,C,n,h,e,t,s,K,r,hk,he,hM,hN,ho,hg,hgi=>by
  simp only[iD,kL2]at ho;obtain⟨o3,o4⟩:=ho;unfold cO at hk;rw[gG,kK2]at hk;obtain⟨vs,b8,hk⟩:=hk;obtain⟨ys,h1,h2⟩:=iK he o3 b8;obtain⟨v,h',n',C',out,q1,q2,q3,q4,q5,q6,q7,q8⟩:=Fl hM h2 hk;simp only[dM]at q1
  have B:cP C' (edel e kl) t:=fun i w hw=>by
   obtain⟨z,p1,p2,p3⟩:=(he.mono q5).edel kl i w hw;exact⟨z,p1,p2⟩
  obtain⟨e2,q,H,C2,Z,Y,fs,J,L,M,S,U,r6,V,W⟩:=cM hO hX x rs u F l g C' n' h' _ t _ K r q1 B q4 hN o4 hg hgi;refine⟨e2,q,H,C2,Z,Y,_,J,.op (o:=⟨none,k,xs.map eX,g⟩) hg.wanted h1 ?_ q2 L,M,S,U,by omega,q7.trans V,fun i hi=>W i (by simpa only[bT]using hi)⟩;cases k with
  |callF f=>unfold cS at hk;rcases vs with _|⟨a,_|⟨b,_|⟨c,_|⟨d,t⟩⟩⟩⟩<;>exact aD hk
  |callV=>unfold cS at hk;rcases vs with _|⟨a,_|⟨b,_|⟨c,_|⟨d,t⟩⟩⟩⟩<;>exact aD hk
  |_=>rfl
 |.ifx d c w bd x' kl rs,u,F,l,g,C,n,h,e,t,s,K,r,hk,he,hM,hN,ho,hg,hgi=>by
  simp only[iD,kL2,lE2,fQ,mR2]at ho;obtain⟨⟨⟨⟨⟨o1,o2⟩,o3⟩,o4⟩,o5⟩,o6⟩:=ho;have a0:d∉u:=by simpa using o2
  unfold cO at hk;rw[eO,kK2]at hk;obtain⟨cv,e7,hk⟩:=hk;split at hk;rename_i cb;rw[bO,kK2]at hk;obtain⟨y,hy,hk⟩:=hk;rw[dM]at hk;obtain⟨cy,b5,e6⟩:=he c _ e7;rw[eD e6]at b5;obtain⟨fs,t1,s1,p1,p2,p3,p4,zs,p5,p6⟩:=Ae (T:=T) (O:=O) (X:=X) (dr:=dr) hM hN o5 o3 b5 hy (fun hb g6=>qZ hO bd (c::u) [] (some (c,w)) C n h e t s x' y hb he hM hN o5 o3 g6 (fun c' w' e=>by cases e;simp))
  have d3:Hm g t1:=by
   cases g with
   |none=>trivial
   |some p=>
    obtain⟨c',w'⟩:=p;simp only[Hm]at hg ⊢;rw[p3 c' (fun hi=>dS bd o5 c' hi (by simp[hgi c' w' rfl]))];exact hg
  have hd:d<t1.length:=by omega
  have B:cP C ((d,.v (.bool y))::edel e (d::bT bd kl)) (t1.set d (.v (.bool y))):=.put hd (.cl (.v _)) (fun i w hw=>by
   obtain⟨z,q1,q2,q3⟩:=he.edel (d::bT bd kl) i w hw;have e9:i∉bT bd []:=fun hi=>q3 (by simp[(cE bd kl i).2 (.inl hi)]);exact⟨z,by rw[p3 i e9];exact q1,q2,fun e1=>q3 (by simp[e1])⟩)
  obtain⟨e2,q,H,C2,Z,Y,f8,J,L,M,S,U,r6,V,W⟩:=cM hO hX x rs u (d::F) l g C n h _ (t1.set d (.v (.bool y))) s1 K r hk B (hM.grow p4) (by simpa using p2) o6 (d3.set hgi a0) hgi;refine⟨e2,q,H,C2,Z,Y,_,J,p1.append (.op (o:=⟨some d,.pick,_,g⟩) d3.wanted p5 rfl p6 L),M,S,U,r6,p4.fr.trans V,fun i hi=>?_⟩;simp only[bT,lF2,cE bd (bT rs []) i,nI2]at hi;rw[W i hi.2.2,lI2 (Ne.symm hi.1),p3 i hi.2.1];exact aD hk
 |.ifn d c w bd x' kl rs,u,F,l,g,C,n,h,e,t,s,K,r,hk,he,hM,hN,ho,hg,hgi=>by
  simp only[iD,kL2,lE2,fQ,mR2]at ho;obtain⟨⟨⟨⟨⟨o1,o2⟩,o3⟩,o4⟩,o5⟩,o6⟩:=ho;have a0:d∉u:=by simpa using o2
  unfold cO at hk;rw[eO,kK2]at hk;obtain⟨cv,e7,hk⟩:=hk;split at hk;rename_i cb;simp only[lV]at hk;obtain⟨cy,b5,e6⟩:=he c _ e7;rw[eD e6]at b5
  have f4:∀t1:aA AV,(∀(i:Nat),i∉bT bd []->t1[i]? =t[i]?)->t1[c]? =some (.v (.bool cb)):=fun t1 h7=>by
   rw[h7 c (fun hi=>dS bd o5 c hi (by simp))];exact b5
  have tail:∀{y:PV} {z:AV} {e1:dU} {h1:aN} {n1:Nat} {C1:Cx} {t1:aA AV} {s1:Hp} {e4:aA Foot} {zs:aA AV},gF e1 (d::bT bd kl) (fun e=>cO O X dr rs ((d,y)::e) h1 n1 K)=some r->RV C1 y z->Tr T X.is dr lim (oD (some (c,w)) bd) {t:=t,s:=s} e4 {t:=t1,s:=s1}->
    cP C1 (edel e1 (d::bT bd kl)) t1->cD C1 n1 h1 lim s1->t1.length=N->n<=n1->Fr C h s C1 h1 s1->(∀(i:Nat),i∉bT bd []->t1[i]? =t[i]?)->
    Sim.evs t1 (if w then[.t c,eX x',.c (.v (.bool false))]else[.t c,.c (.v (.bool true)),eX x'])=some zs->doOp (Sim.look s1.h) lim s1.n .pick zs=some {v:=z}->
    ∃e' h' n' C' A s' fs,K e' h' n'=some r/\Tr T X.is dr lim (oD g (.ifn d c w bd x' kl rs)) {t:=t,s:=s} fs {t:=A,s:=s'}/\cP C' e' A/\cD C' n' h' lim s'/\A.length=N/\n<=n'/\Fr C h s C' h' s'/\∀(i:Nat),i∉bT (.ifn d c w bd x' kl rs) []->A[i]? =t[i]? :=by
   intro y z e1 h1 n1 C1 t1 s1 e4 zs hk i0 h8 d8 g1 g3 i3 g5 G g4 f1;rw[dM]at hk;have hd:d<t1.length:=by omega
   have d3:Hm g t1:=by
    cases g with
    |none=>trivial
    |some p=>
     obtain⟨c',w'⟩:=p;simp only[Hm]at hg ⊢;rw[G c' (fun hi=>dS bd o5 c' hi (by simp[hgi c' w' rfl]))];exact hg
   have B:cP C1 ((d,y)::edel e1 (d::bT bd kl)) (t1.set d z):=.put hd i0 (fun i w hw=>by
    obtain⟨z',q1,q2⟩:=d8 i w hw;refine⟨z',q1,q2,fun e2=>?_⟩;rw[sH,kT2 (by simp[e2])]at hw;cases hw)
   obtain⟨e2,q,H,C2,Z,Y,f8,J,L,M,S,U,r6,V,W⟩:=cM hO hX x rs u (d::F) l g C1 n1 h1 _ (t1.set d z) s1 K r hk B g1 (by simpa using g3) o6 (d3.set hgi a0) hgi;refine⟨e2,q,H,C2,Z,Y,_,J,h8.append (.op (o:=⟨some d,.pick,_,g⟩) d3.wanted g4 rfl f1 L),M,S,U,by omega,g5.trans V,fun i hi=>?_⟩;simp only[bT,lF2,cE bd (bT rs []) i,nI2]at hi;rw[W i hi.2.2,lI2 (Ne.symm hi.1),G i hi.2.1]
  have run:cb=w->cO O X dr bd e h n (fun e h n=>nH e [x'] fun vs=>match vs with
    |[y]=>gF e (d::bT bd kl) fun e=>cO O X dr rs ((d,y)::e) h n K
    |_=>none)=some r->∃e' h' n' C' A s' fs,K e' h' n'=some r/\Tr T X.is dr lim (oD g (.ifn d c w bd x' kl rs)) {t:=t,s:=s} fs {t:=A,s:=s'}/\cP C' e' A/\cD C' n' h' lim s'/\A.length=N/\n<=n'/\Fr C h s C' h' s'/\∀(i:Nat),i∉bT (.ifn d c w bd x' kl rs) []->A[i]? =t[i]? :=by
   intro e8 hk;obtain⟨e1,h1,n1,C1,t1,s1,e4,q1,q2,q3,q4,q5,q6,q7,q8⟩:=cM hO hX x bd (c::u) [] true (some (c,w)) C n h e t s _ r hk he hM hN o5 (by rw[<-e8];exact b5) (fun c' w' e=>by cases e;simp);rw[gG,kK2]at q1;obtain⟨vs,b8,q1⟩:=q1;obtain⟨ys,q,h4⟩:=iK q3 (xs:=[x']) (by simpa using o3) b8;split at q1;rename_i y;obtain⟨z,_,rfl,h5,h6⟩:=h4.inv_cons;rw[h6.inv_nil]at q
   have hz:(eX x').ev t1=some z:=by
    simp only[mV2,nY2,Sim.evs]at q;split at q;rename_i a b ha hb;simp only[kS2,nT2]at q;rw[<-q.1];exact ha;cases q
   have hc:=f4 t1 q8;cases w with
   |true=>
    subst e8;exact tail q1 h5 q2 (fun i w hw=>by obtain⟨z',p1,p2,_⟩:=q3.edel _ i w hw;exact⟨z',p1,p2⟩) q4 q5 q6 q7 q8 (Ft (a:=.v (.bool true)) (b:=z) (c:=.v (.bool false)) hc hz rfl) rfl
   |false=>
    subst e8;exact tail q1 h5 q2 (fun i w hw=>by obtain⟨z',p1,p2,_⟩:=q3.edel _ i w hw;exact⟨z',p1,p2⟩) q4 q5 q6 q7 q8 (Ft (a:=.v (.bool false)) (b:=.v (.bool true)) (c:=z) hc rfl hz) rfl
   exact aD q1
  have skip:cb≠w->(gF e (d::bT bd kl) fun e=>cO O X dr rs ((d,.v (.bool (!w)))::e) h n K)=some r->∃e' h' n' C' A s' fs,K e' h' n'=some r/\Tr T X.is dr lim (oD g (.ifn d c w bd x' kl rs)) {t:=t,s:=s} fs {t:=A,s:=s'}/\cP C' e' A/\cD C' n' h' lim s'/\A.length=N/\n<=n'/\Fr C h s C' h' s'/\∀(i:Nat),i∉bT (.ifn d c w bd x' kl rs) []->A[i]? =t[i]? :=by
   intro g8 hk;obtain⟨fs,t1,k1,k2,k3,k4⟩:=dZ (T:=T) (NF:=X.is) (dr:=dr) (lim:=lim) (s:=s) (some (c,w)) bd (c::u) [] t o5 (fun c' w' e=>by cases e;simp) (by simp[Sim.wanted,b5,g8]) (fun c hc=>by simp at hc);obtain⟨z,hz⟩:=xG (c:=0) (i:=0) (k2.trans hN) o3
   have d8:cP C (edel e (d::bT bd kl)) t1:=fun i v hv=>by
    obtain⟨z,q1,q2,q3⟩:=he.edel (d::bT bd kl) i v hv;have e9:i∉bT bd []:=fun hi=>q3 (by simp[(cE bd kl i).2 (.inl hi)]);exact⟨z,by rw[k3 i e9];exact q1,q2⟩
   have hc:=f4 t1 k3;cases w with
   |true=>
    have:cb=false:=by cases cb<;>simp_all
    subst this;exact tail hk (.cl (.v (.bool false))) k1 d8 hM (k2.trans hN) (kO2 _) (.refl _ _ _) k3 (Ft (a:=.v (.bool false)) (b:=z) (c:=.v (.bool false)) hc hz rfl) rfl
   |false=>
    have:cb=true:=by cases cb<;>simp_all
    subst this;exact tail hk (.cl (.v (.bool true))) k1 d8 hM (k2.trans hN) (kO2 _) (.refl _ _ _) k3 (Ft (a:=.v (.bool true)) (b:=.v (.bool true)) (c:=z) hc rfl hz) rfl
  cases w with
  |true=>
   rw[lA2]at hk;cases cb with
   |true=>exact run rfl hk
   |false=>exact skip (by simp) hk
  |false=>
   rw[lN2]at hk;cases cb with
   |true=>exact skip (by simp) hk
   |false=>exact run rfl hk
  exact aD hk
 |.mkfl d ty zero xs kl rs,u,F,l,g,C,n,h,e,t,s,K,r,hk,he,hM,hN,ho,hg,hgi=>by
  simp only[iD,kL2,lE2,fQ,mR2]at ho;obtain⟨⟨⟨o1,o2⟩,o3⟩,o4⟩:=ho;have hd:d<t.length:=by omega
  have a0:d∉u:=by simpa using o2
  unfold cO at hk;rw[gG,kK2]at hk;obtain⟨vs,b8,hk⟩:=hk;obtain⟨ys,h1,h2⟩:=iK he o3 b8;cases hc:(Nat.beq zero.length 1&&vs.all Xr)with
  |false=>rw[hc]at hk;exact aD hk
  |true=>
  rw[hc,lA2,dM]at hk;simp only[kL2,bG,kV2]at hc;obtain⟨C',out,q1,q2,q3,q4,q5⟩:=Tq (ty:=ty) hM h2 hc.1 hc.2
  have hlen:vs.length=xs.length:=by
   have:=h2.1;have q:ys.length=xs.length:=(Lw h1).trans (by simp);omega
  rw[hlen]at q1
  have B:cP C' ((d,.own n)::edel e (d::kl)) (t.set d out.v):=.put hd q2 (fun i w hw=>by
   obtain⟨z,p1,p2,p3⟩:=(he.mono q4).edel (d::kl) i w hw;exact⟨z,p1,p2,fun e1=>p3 (by simp[e1])⟩)
  obtain⟨e2,q,H,C2,Z,Y,fs,J,L,M,S,U,r6,V,W⟩:=cM hO hX x rs u (d::F) l g C' (n+1) _ _ _ _ K r hk B q3 (by simpa using hN) o4 (hg.set hgi a0) hgi;refine⟨e2,q,H,C2,Z,Y,_,J,.op (o:=⟨some d,.buildSl ty 1 xs.length zero (List.range xs.length),xs.map eX,g⟩) hg.wanted h1 rfl q1 L,M,S,U,by omega,q5.trans V,fun i hi=>?_⟩;simp only[bT,lF2,nI2]at hi;rw[W i hi.2,lI2 (Ne.symm hi.1)]
 |.lax d es rs,u,F,l,g,C,n,h,e,t,s,K,r,hk,he,hM,hN,ho,hg,hgi=>by
  simp only[iD]at ho;unfold cO at hk;rw[eO,kK2]at hk;obtain⟨v,hv,hk⟩:=hk;obtain⟨y,b4,E⟩:=he d _ hv
  have e0:∀v',RV C v' y->cP C ((d,v')::edel e [d]) t:=fun v' hv' i w hw=>by
   simp only[dL]at hw;split at hw;rename_i e1;subst e1;cases hw;exact⟨y,b4,hv'⟩;obtain⟨z,q1,q2,_⟩:=he.edel [d] i w hw;exact⟨z,q1,q2⟩
  split at hk;rename_i s';rw[dM]at hk;rw[eD E]at e0;exact cM hO hX x rs u F l g C n h _ t s K r hk (e0 _ (.cl .isn)) hM hN ho hg hgi;rename_i cs;obtain⟨cs',h1,h2⟩:∃cs',y=.agg cs'/\LR (RV C) cs cs':=kS E;subst h1;obtain⟨cs2,q1,q2⟩:=Lv h2 hk;rw[dM]at q1;exact cM hO hX x rs u F l g C n h _ t s K r q1 (e0 _ (.agg q2.1 q2.2)) hM hN ho hg hgi;exact aD hk
 |.own d ty es g' rs,u,F,l,g,C,n,h,e,t,s,K,r,hk,he,hM,hN,ho,hg,hgi=>by
  simp only[iD]at ho;unfold cO at hk;rw[eO,kK2]at hk;obtain⟨v,hv,hk⟩:=hk;obtain⟨y,b4,E⟩:=he d _ hv;split at hk;rw[dM]at hk;have hy:=eD E;subst hy;obtain⟨m1,m2⟩:=Jc hM (ty:=ty) (e:=es) (g:=g');have d9:=iR hM .nil
  have B:cP (ext C n .nil) ((d,.own n)::edel e [d]) t:=fun i w hw=>by
   simp only[dL]at hw;split at hw;rename_i e1;subst e1;cases hw;exact⟨_,b4,.ownn (by simp[ext]) rfl⟩;obtain⟨z,q1,q2,_⟩:=he.edel [d] i w hw;exact⟨z,q1,q2.mono d9⟩
  obtain⟨e2,q,H,C2,Z,Y,fs,J,L,M,S,U,r6,V,W⟩:=cM hO hX x rs u F l g _ (n+1) _ _ t s K r hk B m1 hN ho hg hgi;exact⟨e2,q,H,C2,Z,Y,fs,J,L,M,S,U,by omega,m2.trans V,W⟩;exact aD hk
 |.laxc d j es rs,u,F,l,g,C,n,h,e,t,s,K,r,hk,he,hM,hN,ho,hg,hgi=>by
  simp only[iD]at ho;unfold cO at hk;rw[eO,kK2]at hk;obtain⟨v,hv,hk⟩:=hk;obtain⟨y,b4,E⟩:=he d _ hv;split at hk;rename_i k o0;rw[dY,kK2]at hk;obtain⟨ob,b0,hk⟩:=hk;split at hk;rename_i cs;obtain⟨id,ver,e1,l1,hC,rfl⟩:=iS E;obtain⟨hj,hk⟩:=dH _ _ _ _ hk;split at hk;rename_i tl b7;obtain⟨f2,hk⟩:=gQ _ _ _ _ _ hk;have hk:=dI _ _ _ _ _ hk
  have b6:cs[j]? =some (.v (.slice none 0 0)):=by
   have:(cs.drop j)[0]? =some (.v (.slice none 0 0)):=by rw[b7];rfl
   simpa using this
  obtain⟨f5,b9,esz,row,hL,hl⟩:=pG hM b0 hC;have d4:=(hM.hr.lt (by rw[b0];simp) hC)
  obtain⟨m1,m2⟩:=pF hM (po':=.box (Sim.setL cs j [.is es []])) (ao:=.arr true b9 esz ver [row]) b0 hC ⟨d4.1,d4.2,b9,esz,row,by rw[Sim.look_upd,kT2 ⟨rfl,by rw[hL];rfl⟩],by
   refine⟨by rw[<-hl.1];simp[Sim.setL],fun i a b ha hb=>?_⟩;simp only[Sim.setL]at ha;rw[lL2]at ha;split at ha;rename_i e2;subst e2;split at ha;cases ha;have:=eD (hl.2 j _ _ b6 hb);subst this;exact .cl .isn;cases ha;exact hl.2 i a b ha hb⟩ rfl
  have G:({h:=upd s.h id (.arr true b9 esz ver [row]),n:=s.n}:Hp)=s:=by
   rw[rB hL]
  rw[G]at m1 m2;obtain⟨e2,q,H,C2,Z,Y,fs,J,L,M,S,U,r6,V,W⟩:=cM hO hX x rs u F l g _ n _ _ t s K r hk he m1 hN ho hg hgi;exact⟨e2,q,H,C2,Z,Y,fs,J,L,M,S,U,by omega,m2.trans V,W⟩;exact aD hk;exact aD hk;exact aD hk
 |.ownc d j ty es g' rs,u,F,l,g,C,n,h,e,t,s,K,r,hk,he,hM,hN,ho,hg,hgi=>by
  simp only[iD]at ho;unfold cO at hk;rw[eO,kK2]at hk;obtain⟨v,hv,hk⟩:=hk;obtain⟨y,b4,E⟩:=he d _ hv;split at hk;rename_i k o0;rw[dY,kK2]at hk;obtain⟨ob,b0,hk⟩:=hk;split at hk;rename_i cs;obtain⟨id,ver,e1,l1,hC,rfl⟩:=iS E;obtain⟨hj,hk⟩:=dH _ _ _ _ hk;split at hk;rename_i tl b7;obtain⟨dX,hk⟩:=gQ _ _ _ _ _ hk;have hk:=dI _ _ _ _ _ hk;have d9:=iR hM .nil
  have b6:cs[j]? =some (.v (.slice none 0 0)):=by
   have:(cs.drop j)[0]? =some (.v (.slice none 0 0)):=by rw[b7];rfl
   simpa using this
  obtain⟨m1,m2⟩:=Yi (ty:=ty) (e':=es) (g:=g') (cs2:=Sim.setL cs j [.own n]) hM b0 hC (fun row d5=>by
   refine⟨by rw[<-d5.1];simp[Sim.setL],fun i a b ha hb=>?_⟩;simp only[Sim.setL]at ha;rw[lL2]at ha;split at ha;rename_i e2;subst e2;split at ha;cases ha;have:=eD (d5.2 j _ _ b6 hb);subst this;exact .ownn (by simp[ext]) rfl;cases ha;exact(d5.2 i a b ha hb).mono d9)
  obtain⟨e2,q,H,C2,Z,Y,fs,J,L,M,S,U,r6,V,W⟩:=cM hO hX x rs u F l g _ (n+1) _ _ t s K r hk (he.mono d9) m1 hN ho hg hgi;exact⟨e2,q,H,C2,Z,Y,fs,J,L,M,S,U,by omega,m2.trans V,W⟩;exact aD hk;exact aD hk;exact aD hk
 |.fz d j rs,u,F,l,g,C,n,h,e,t,s,K,r,hk,he,hM,hN,ho,hg,hgi=>by
  simp only[iD]at ho;unfold cO at hk;rw[eO,kK2]at hk;obtain⟨v,hv,hk⟩:=hk;obtain⟨y,b4,E⟩:=he d _ hv
  have fin:∀{m k v0 y0},wR v0=some (m,k)->RV C v0 y0->((j=none/\y=y0)\/∃i cs',j=some i/\y=.agg cs'/\cs'[i]? =some y0)->fzK e h d m k j (fun e h=>cO O X dr rs e h n K)=some r->
    ∃e' h' n' C' A s' fs,K e' h' n'=some r/\Tr T X.is dr lim (oD g rs) {t:=t,s:=s} fs {t:=A,s:=s'}/\cP C' e' A/\cD C' n' h' lim s'/\A.length=N/\n<=n'/\Fr C h s C' h' s'/\∀(i:Nat),i∉bT rs []->A[i]? =t[i]? :=fun{m k v0 y0} hn h9 hj hk=>by
   obtain⟨C',e',h',q1,q2,q3,q4⟩:=Yf hM he hv b4 E hn h9 hj hk;obtain⟨e2,q,H,C2,Z,Y,fs,J,L,M,S,U,r6,V,W⟩:=cM hO hX x rs u F l g C' n _ _ t s K r q1 q3 q2 hN ho hg hgi;exact⟨e2,q,H,C2,Z,Y,fs,J,L,M,S,U,r6,q4.trans V,W⟩
  cases j with
  |none=>
   simp only at hk;split at hk;rename_i m k hn;exact fin hn E (.inl ⟨rfl,rfl⟩) hk;exact aD hk
  |some j=>
   simp only at hk;cases v with
   |agg cs=>
    obtain⟨cs',rfl,hl⟩:=kS E;obtain⟨hj,hk⟩:=dH _ _ _ _ hk;split at hk;rename_i c tl b7
    have b6:cs[j]? =some c:=by
     have:(cs.drop j)[0]? =some c:=by rw[b7];rfl
     simpa using this
    obtain⟨y0,k1,k2⟩:=hl.get b6;split at hk;rename_i m k hn;exact fin hn k2 (.inr ⟨j,cs',rfl,rfl,k1⟩) hk;exact aD hk;exact aD hk
   |_=>exact aD hk
 |.laxm d j rs,u,F,l,g,C,n,h,e,t,s,K,r,hk,he,hM,hN,ho,hg,hgi=>by
  simp only[iD]at ho;unfold cO at hk;rw[eO,kK2]at hk;obtain⟨v,hv,hk⟩:=hk;obtain⟨y,b4,E⟩:=he d _ hv;split at hk;rw[dM]at hk;have hy:=eD E;subst hy
  have B:cP C ((d,.zm [])::edel e [d]) t:=fun i w hw=>by
   simp only[dL]at hw;split at hw;rename_i e1;subst e1;cases hw;exact⟨_,b4,.zm0⟩;obtain⟨z,q1,q2,_⟩:=he.edel [d] i w hw;exact⟨z,q1,q2⟩
  exact cM hO hX x rs u F l g C n h _ t s K r hk B hM hN ho hg hgi;rename_i j k o;rw[dY,kK2]at hk;obtain⟨ob,b0,hk⟩:=hk;split at hk;rename_i cs;obtain⟨id,ver,e1,l1,hC,rfl⟩:=iS E;obtain⟨hj,hk⟩:=dH _ _ _ _ hk;split at hk;rename_i tl b7;obtain⟨f2,hk⟩:=gQ _ _ _ _ _ hk;have hk:=dI _ _ _ _ _ hk
  have b6:cs[j]? =some (.v (.map none)):=by
   have:(cs.drop j)[0]? =some (.v (.map none)):=by rw[b7];rfl
   simpa using this
  obtain⟨f5,b9,esz,row,hL,hl⟩:=pG hM b0 hC;have d4:=(hM.hr.lt (by rw[b0];simp) hC)
  obtain⟨m1,m2⟩:=pF hM (po':=.box (Sim.setL cs j [.zm []])) (ao:=.arr true b9 esz ver [row]) b0 hC ⟨d4.1,d4.2,b9,esz,row,by rw[Sim.look_upd,kT2 ⟨rfl,by rw[hL];rfl⟩],by
   refine⟨by rw[<-hl.1];simp[Sim.setL],fun i a b ha hb=>?_⟩;simp only[Sim.setL]at ha;rw[lL2]at ha;split at ha;rename_i e2;subst e2;split at ha;cases ha;have:=eD (hl.2 j _ _ b6 hb);subst this;exact .zm0;cases ha;exact hl.2 i a b ha hb⟩ rfl
  have G:({h:=upd s.h id (.arr true b9 esz ver [row]),n:=s.n}:Hp)=s:=by
   rw[rB hL]
  rw[G]at m1 m2;obtain⟨e2,q,H,C2,Z,Y,fs,J,L,M,S,U,r6,V,W⟩:=cM hO hX x rs u F l g _ n _ _ t s K r hk he m1 hN ho hg hgi;exact⟨e2,q,H,C2,Z,Y,fs,J,L,M,S,U,by omega,m2.trans V,W⟩;exact aD hk;exact aD hk;exact aD hk
end
end Go.P
namespace Go.P
open Go.Sim (AV AO Hp eN upd St IC IX Ex dQ CK Wf Out doOp gB exec Foot wanted put popMark)
def bW (C:Cx) (n:Nat):Cx:=⟨fun k=>if k<n then C k else none,C.z⟩
theorem mD {C:Cx} {n:Nat} {x:PV} {y:AV} (h:RV C x y):∀{d:Nat},mO n d x=true->RV (bW C n) x y:=by
 have lt:∀{k d:Nat} {pl:Pl},C k=some pl->Nat.blt k n=true->bW C n k=some pl:=fun h1 h2=>by
  simp only[mR2]at h2;simp[bW,h2,h1]
 induction h with
 |cl h=>intro d hb;exact .cl h
 |undef=>intro d hb;exact .undef
 |ref h=>intro d hb;cases d with
  |zero=>cases hb
  |succ d=>exact .ref (lt (d:=0) h hb)
 |own h=>intro d hb;cases d with
  |zero=>cases hb
  |succ d=>exact .own (lt (d:=0) h hb)
 |ownn h hy=>intro d hb;cases d with
  |zero=>cases hb
  |succ d=>exact .ownn (lt (d:=0) h hb) hy
 |el h=>intro d hb;cases d with
  |zero=>cases hb
  |succ d=>exact .el (lt (d:=0) h hb)
 |map h=>intro d hb;cases d with
  |zero=>cases hb
  |succ d=>exact .map (lt (d:=0) h hb)
 |yld h=>intro d hb;cases d with
  |zero=>cases hb
  |succ d=>exact .yld (lt (d:=0) h hb)
 |fn h1 h2 v1 v2 i1 i2=>intro d hb;cases d with
  |zero=>cases hb
  |succ d=>
   simp only[mO,kL2]at hb;exact .fn h1 h2 (fun j x y a hy=>i1 j x y a hy (kU2.1 hb.1 x (kY2 a))) (fun j x y a hy=>i2 j x y a hy (kU2.1 hb.2 x (kY2 a)))
 |agg hl hc ih=>intro d hb;cases d with
  |zero=>cases hb
  |succ d=>exact .agg hl (fun j x y a hy=>ih j x y a hy (kU2.1 hb x (kY2 a)))
 |tup hl hc ih=>intro d hb;cases d with
  |zero=>cases hb
  |succ d=>exact .tup hl (fun j x y a hy=>ih j x y a hy (kU2.1 hb x (kY2 a)))
 |zs h=>intro d hb;exact .zs h
 |zm h he=>intro d hb;exact .zm h he
 |zm0=>intro d hb;exact .zm0
section
variable {R:Type}
theorem Fv:∀(e:dU) (i:Nat) (K:PV->aB R) (D:aB R),Lf e i K D=match dL e i with|some v=>K v|none=>D
 |[],_,_,_=>rfl
 |(j,v)::r,i,K,D=>by
  simp only[Lf,dL,bG]
  by_cases h:j=i<;>simp[h,Fv r i K D]
theorem sP {e:dU} {n:Nat}:∀{is:aA Nat} {K:dU->aB R} {r:R},Ff e is n K=some r->∃e',K e'=some r/\∀i v,dL e' i=some v->dL e i=some v/\mO n 4 v=true
 |[],K,r,h=>⟨[],h,fun i v h=>by simp[dL]at h⟩
 |i::is,K,r,h=>by
  unfold Ff at h
  rw[Fv]at h
  cases hv:dL e i with
  |none=>rw[hv]at h;exact sP h
  |some v=>
   rw[hv]at h
   simp only at h
   cases hb:mO n 4 v with
   |false=>rw[hb]at h;exact aD h
   |true=>
    rw[hb,lA2]at h
    obtain⟨e',h1,h2⟩:=sP h
    refine⟨_,h1,fun j w hw=>?_⟩
    simp only[dL]at hw
    split at hw
    grind
    exact h2 j w hw
theorem Ak {h:aN} {n:Nat}:∀{r:aN} {K:aN->aB R} {x:R},Lg r h n K=some x->∃h',K h'=some x/\∀k,(aK r k=none->aK h' k=none)/\(aK r k≠none->∃o,aK h' k=some o/\aK h k=some o/\qS n o=true)
 |[],K,x,hk=>⟨[],hk,fun k=>⟨fun _=>rfl,fun h=>absurd rfl h⟩⟩
 |(j,o)::r,K,x,hk=>by
  unfold Lg at hk
  rw[dY,kK2]at hk
  obtain⟨o',b,hk⟩:=hk
  cases hb:qS n o' with
  |false=>rw[hb]at hk;exact aD hk
  |true=>
   rw[hb,lA2]at hk
   obtain⟨h',h1,h2⟩:=Ak hk
   refine⟨_,h1,fun k=>?_⟩
   simp only[aK]
   by_cases a:j=k
   grind
   grind
variable {C0 C:Cx} {n0 n:Nat} {h0 h:aN} {e:dU} {t:List AV} {s0 s:Hp} {lim:Nat}
theorem lF (hd:∀k,aK h0 k≠none->k<n0) (w:cD C n h lim s) (he:cP C e t) {keep:aA Nat} {K:Fg->aB R} {r:R} (hk:jU keep h0 n0 e h K=some r):
  ∃st,K st=some r/\cP (bW C n0) st.e t/\cD (bW C n0) n0 st.h lim s/\(∀k o,aK st.h k=some o->aK h k=some o)/\(∀k,aK h0 k=none↔aK st.h k=none):=by
 unfold jU at hk;obtain⟨e',hk,h1⟩:=sP hk;obtain⟨h',hk,h2⟩:=Ak hk;have m:∀k o,aK h' k=some o->aK h k=some o/\qS n0 o=true/\k<n0:=fun k o p=>by grind
 have hr:∀k pl,bW C n0 k=some pl->C k=some pl/\k<n0:=fun k pl hk=>by
  simp only[bW]at hk;split at hk
  grind
  cases hk
 refine⟨_,hk,fun i v hv=>?_,⟨⟨fun k o A=>?_,fun k k' id v e l v' e' l' a b c d=>?_,fun id o B=>?_⟩,fun k pl hk=>(hr k pl hk).2,w.wf,w.lim⟩,fun k o p=>(m k o p).1,fun k=>⟨(h2 k).1,fun B=>?_⟩⟩;obtain⟨q1,q2⟩:=h1 i v hv;obtain⟨y,p1,p2⟩:=he i v q1;exact⟨y,p1,mD p2 q2⟩;obtain⟨q1,q2,q3⟩:=m k o A;obtain⟨pl,p1,p2⟩:=w.hr.ob k o q1;refine⟨pl,by simp[bW,q3,p1],?_⟩;cases o with
 |box cs=>
  cases pl with
  |nil=>exact p2
  |atp id ver e len=>
   obtain⟨a1,a2,ty,esz,row,a3,a4⟩:=p2;exact⟨a1,a2,ty,esz,row,a3,a4.1,fun j x y u hy=>mD (a4.2 j x y u hy) (kU2.1 q2 x (kY2 u))⟩
 |lst ty e g rows=>cases pl<;>exact p2
 |lz ty e dp rows=>cases pl<;>exact p2
 |mp es=>cases pl<;>exact p2
 |fl fs=>
  cases pl with
  |nil=>exact p2
  |atp id ver e len=>
   obtain⟨a1,a2,a3,a4,ty,els,a5,a6,a7⟩:=p2;refine⟨a1,a2,a3,a4,ty,els,a5,a6,fun i f row hf q=>?_⟩;have z:=kU2.1 q2 f (kY2 hf);refine⟨(a7 i f row hf q).1,fun j x y u hy=>?_⟩;cases j with
   |zero=>simp at u;subst u;exact mD ((a7 i f row hf q).2 0 f y rfl hy) z
   |succ j=>simp at u
 |loop N' e ps a b busy fin=>
  cases pl with
  |nil=>exact p2
  |atp id ver e' len=>
   obtain⟨a1,a2,st,pend,tmps,a3,a4,a5,a6⟩:=p2;refine⟨a1,a2,st,pend,tmps,a3,a4,fun i v hv=>?_,a6⟩;obtain⟨y,E,F⟩:=a5 i v hv;exact⟨y,E,mD F (kU2.1 q2 _ (xI hv))⟩
 have D:∀k,aK h' k≠none->aK h k≠none:=fun k hk=>by
  cases p:aK h' k with
  |none=>exact absurd p hk
  |some o=>rw[(m k o p).1];simp
 exact w.hr.inj k k' id v e l v' e' l' (D k a) (D k' b) (hr _ _ c).1 (hr _ _ d).1;obtain⟨z1,z2,z3,z4⟩:=w.hr.zr id o B;refine⟨z1,z2,fun k v e l a b=>z3 k v e l ?_ (hr _ _ b).1,z4⟩;cases p:aK h' k with
 |none=>exact absurd p a
 |some o=>rw[(m k o p).1];simp
 grind
theorem Fr.canon {h1 hc:aN} (c:cD C0 n0 h1 lim s0) (hf:Fr C0 h1 s0 C h s) (a:∀k o,aK hc k=some o->aK h k=some o) (b:∀k,aK h1 k=none↔aK hc k=none):Fr C0 h1 s0 (bW C n0) hc s:=by
 refine⟨hf.sk,hf.n,hf.keep,fun id f d=>hf.own id f ?_,fun k o hk=>?_,hf.zl,hf.zn⟩;obtain⟨k,v,e,l,q1,q2⟩:=d;refine⟨k,v,e,l,?_,?_⟩;cases d:aK hc k with
 |none=>exact absurd d q1
 |some o=>rw[a k o d];simp
 simp only[bW]at q2;split at q2;exact q2;cases q2;obtain⟨o',q1,q2⟩:=hf.kd k o hk
 have g:k<n0:=by
  obtain⟨pl,p1,_⟩:=c.hr.ob k o hk;exact c.dom k pl p1
 cases hz:aK hc k with
 |none=>rw[(b k).2 hz]at hk;cases hk
 |some o2=>
  have:=a k o2 hz;rw[q1]at this;cases this;exact⟨o',rfl,fun hb=>⟨(q2 hb).1,by simp[bW,g,(q2 hb).2]⟩⟩
theorem eL:∀{h:aA eN} {id:Nat} {o:AO},Sim.look h id=some o->(∀ty e v els,o≠.arr true ty e v els)->Sim.look (popMark h) id=some o
 |[],id,o,h,_=>by simp[Sim.look]at h
 |.mark::r,id,o,h,_=>h
 |.ob i o'::r,id,o,h,hne=>by
  simp only[Sim.look]at h
  simp only[popMark]
  split at h
  rename_i a
  cases h
  split
  grind
  simp[Sim.look,a]
  rename_i a
  have ih:=eL h hne
  split
  exact ih
  simp[Sim.look,a,ih]
theorem cD.pop {C1:Cx} {h1 hc:aN} {f:Hp} (l:cD C0 n0 h1 lim s0) (d:cD C1 n0 hc lim f) (hf:Fr C0 h1 {h:=.mark::s0.h,n:=s0.n} C1 hc f) (c:∀k,aK h1 k=none↔aK hc k=none):
  cD C1 n0 hc lim {h:=popMark f.h,n:=f.n}/\Fr C0 h1 s0 C1 hc {h:=popMark f.h,n:=f.n}:=by
 obtain⟨p1,p2⟩:=hf.sk.pop;refine⟨⟨⟨fun k o hk=>?_,d.hr.inj,fun id o j=>?_⟩,d.dom,d.wf.pop,d.lim⟩,⟨p1,hf.n,fun id i p=>?_,hf.own,hf.kd,hf.zl,hf.zn⟩⟩;obtain⟨pl,q1,q2⟩:=d.hr.ob k o hk;refine⟨pl,q1,?_⟩;cases o with
 |box cs=>
  cases pl with
  |nil=>exact q2
  |atp id ver e len=>
   obtain⟨a1,a2,ty,esz,row,a3,a4⟩:=q2
   have m:id<s0.n:=by
    cases j:aK h1 k with
    |none=>rw[(c k).1 j]at hk;cases hk
    |some o0=>
     obtain⟨o',w1,w2⟩:=hf.kd k o0 j;rw[hk]at w1;cases w1;obtain⟨_,w3⟩:=w2 rfl;rw[q1]at w3;exact(l.hr.lt (by rw[j];simp) w3.symm).2
   exact⟨a1,a2,ty,esz,row,by rw[p2 id m];exact a3,a4⟩
 |lst ty e g rows=>
  cases pl with
  |nil=>exact q2
  |atp id ver e' len=>
   obtain⟨a1,a2,a3,a4,els,a5,a6⟩:=q2;exact⟨a1,a2,a3,a4,els,eL a5 (fun _ _ _ _ e=>by cases e),a6⟩
 |lz ty e dp rows=>
  cases pl with
  |nil=>exact q2
  |atp id ver e' len=>
   obtain⟨a1,a2,a3,a4,a7,els,a5,a6⟩:=q2;exact⟨a1,a2,a3,a4,a7,els,eL a5 (fun _ _ _ _ e=>by cases e),a6⟩
 |mp es=>
  cases pl with
  |nil=>exact q2
  |atp id ver e' len=>
   obtain⟨a1,a2,es',a3,a4⟩:=q2;exact⟨a1,a2,es',eL a3 (fun _ _ _ _ e=>by cases e),a4⟩
 |fl fs=>
  cases pl with
  |nil=>exact q2
  |atp id ver e' len=>
   obtain⟨a1,a2,a3,a4,ty,els,a5,a6⟩:=q2;exact⟨a1,a2,a3,a4,ty,els,eL a5 (fun _ _ _ _ e=>by cases e),a6⟩
 |loop N' e ps a b busy fin=>
  cases pl with
  |nil=>exact q2
  |atp id ver e' len=>
   obtain⟨a1,a2,st,pend,tmps,a3,a4⟩:=q2;exact⟨a1,a2,st,pend,tmps,eL a3 (fun _ _ _ _ e=>by cases e),a4⟩
 obtain⟨z1,z2,z3,z4⟩:=d.hr.zr id o j;exact⟨eL z1 (fun _ _ _ _ e=>by subst e;cases z4),z2,z3,z4⟩;rw[p2 id i];exact hf.keep id i p
end
end Go.P
namespace Go.P
open Go.Sim (AV AO Hp eN upd St IC IX Ex dQ CK Wf Out doOp gB exec Foot wanted put popMark)
def rC (NF:FuncId->Bool) (N:Nat) (rd:Bool):PC->Bool
 |.reg ops=>iD N [] false [] ops
 |.regD dr ops before=>(Nat.beq dr 3||Nat.beq dr 4)&&iD N [] false [] ops&&Bq ((oD none ops).map fun o=>jX NF dr o.k) before
 |.regX dr ops before ex=>(Nat.beq dr 3||Nat.beq dr 4)&&iD N [] false [] ops&&Ln ((oD none ops).map fun o=>jX NF dr o.k) before ex&&ex.all (Oo (oD none ops))
 |.seq a b=>rC NF N rd a&&rC NF N rd b
 |.cond c a b=>Jk N c&&rC NF N rd a&&rC NF N rd b
 |.condJ _ c a b=>Jk N c&&rC NF N rd a&&rC NF N rd b
 |.condL c a b=>Jk N c&&rC NF N rd a&&rC NF N rd b
 |.block _ c=>rC NF N rd c
 |.loop _ _ c=>rC NF N rd c
 |.loopU _ _ c=>rC NF N rd c
 |.rangeF N' _ f _ _ _=> !rd&&Nat.beq N' N&&Jk N f
 |_=>true
def okL (NF:FuncId->Bool) (N:Nat) (ps:aA Nat) (a b:PC):Bool:=ps.all (fun p=>Nat.blt p N)&&rC NF N true a&&rC NF N true b
theorem pK:∀{ops:fW} {g:aB (Nat×Bool)},tT ops=true->oD g ops=[]
 |.nil,g,_=>rfl
 |.lax _ _ r,g,h=>pK (ops:=r) h
 |.own _ _ _ _ r,g,h=>pK (ops:=r) h
 |.ownc _ _ _ _ _ r,g,h=>pK (ops:=r) h
 |.laxc _ _ _ r,g,h=>pK (ops:=r) h
 |.fz _ _ r,g,h=>pK (ops:=r) h
 |.laxm _ _ r,g,h=>pK (ops:=r) h
section
variable {T:gB} {O:qR} {X:NX}
def Ql {R:Type} (T:gB) (N lim:Nat) (rd:Bool) (c:IC) (C:Cx) (n:Nat) (h:aN) (t:aA AV) (s:Hp) (K:Ex->dU->aN->Nat->aB R) (r:R):Prop:=
 ∃x e' h' n' C' a s',K x e' h' n'=some r/\cP C' e' a/\cD C' n' h' lim s'/\a.length=N/\n<=n'/\Fr C h s C' h' s'/\∃D,∀d,D<=d->exec T d lim rd c {t:=t,s:=s}=some (x,{t:=a,s:=s'})
variable {R:Type} {N lim:Nat} {rd:Bool}
theorem Tr.nil_inv {NF:FuncId->Bool} {dr:Nat} {σ τ:St} {fs:aA Foot} (h:Tr T NF dr lim [] σ fs τ):τ=σ:=by cases h;rfl
theorem Fw {C:Cx} {x:PV} {a:AV} (h:RV C x a) (hf:Si x=true):Sim.idOf a=[]:=by
 cases h with
 |cl h=>cases h<;>first|rfl|simp[Si]at hf
 |_=>simp[Si]at hf
theorem Ts {C:Cx} {x:PV} {a:AV} {k i:Nat} (h:RV C x a) (hk:qT x=some k) (hi:i∈Sim.idOf a):∃v e l,C k=some (.atp i v e l):=by
 cases h with
 |cl h=>cases h<;>simp[qT]at hk
 |ownn h hy=>subst hy;simp[Sim.idOf]at hi
 |ref h=>simp[qT]at hk;simp[Sim.idOf]at hi;subst hk;subst hi;exact⟨_,_,_,h⟩
 |own h=>simp[qT]at hk;simp[Sim.idOf]at hi;subst hk;subst hi;exact⟨_,_,_,h⟩
 |el h=>simp[qT]at hk;simp[Sim.idOf]at hi;subst hk;subst hi;exact⟨_,_,_,h⟩
 |map h=>simp[qT]at hk;simp[Sim.idOf]at hi;subst hk;subst hi;exact⟨_,_,_,h⟩
 |_=>simp[qT]at hk
theorem Tt {C:Cx} {e:dU} {t:aA AV} {n lim:Nat} {h:aN} {s:Hp} (he:cP C e t) (o:cD C n h lim s) {p:Nat×Nat×Nat×Nat}
  (hp:(match dL e p.2.2.1,dL e p.2.2.2 with|some x,some y=>Jb h x y|_,_=>false)=true):Lo {t:=t,s:=s} p:=by
 split at hp;rename_i x y r hy;obtain⟨a,q,g⟩:=he _ _ r;obtain⟨b,hb,j⟩:=he _ _ hy;refine⟨a,b,q,hb,fun i hi d=>?_⟩;unfold Jb at hp;simp only[lB2]at hp;rcases hp with(hp|hp)|hp;rw[Fw g hp]at hi;simp at hi;rw[Fw j hp]at d;simp at d;split at hp;rename_i k k' h1 h2;simp only[kL2,lE2,bG,lY2]at hp;obtain⟨⟨f,hk⟩,c⟩:=hp;obtain⟨v,m,l,c1⟩:=Ts g h1 hi;obtain⟨v',e2,l',c2⟩:=Ts j h2 d;exact f (o.hr.inj k k' i v m l v' e2 l' (fun h=>by rw[h]at hk;cases hk) (fun h=>by rw[h]at c;cases c) c1 c2);cases hp;cases hp
theorem Yj {a b:IC} {C:Cx} {n:Nat} {h:aN} {t:aA AV} {s:Hp} {K:Ex->dU->aN->Nat->aB R} {r:R} {v:PC}
  (y:Ql T N lim rd a C n h t s (fun x e h n=>match x with|.normal=>eF O X v e h n K|.exit i=>K (.exit i) e h n|.ret=>K .ret e h n) r)
  (hb:∀C n h e t s,eF O X v e h n K=some r->cP C e t->cD C n h lim s->t.length=N->Ql T N lim rd b C n h t s K r):
  Ql T N lim rd (.seq a b) C n h t s K r:=by
 obtain⟨x,f,h1,p,C1,u,q,g,j,k,l,w,m,D,o⟩:=y;cases x with
 |normal=>
  obtain⟨E,e2,h2,z,C2,B,A,q1,q2,q3,q4,q5,q6,D2,q7⟩:=hb C1 p h1 f u q g j k l;refine⟨E,e2,h2,z,C2,B,A,q1,q2,q3,q4,by omega,m.trans q6,D+D2+1,fun d hd=>?_⟩;obtain⟨d,rfl⟩:∃c,d=c+1:=⟨d-1,by omega⟩
  simp only[exec,o d (by omega)];exact q7 d (by omega)
 |exit i=>
  refine⟨.exit i,f,h1,p,C1,u,q,g,j,k,l,w,m,D+1,fun d hd=>?_⟩;obtain⟨d,rfl⟩:∃c,d=c+1:=⟨d-1,by omega⟩
  simp only[exec,o d (by omega)]
 |ret=>
  refine⟨.ret,f,h1,p,C1,u,q,g,j,k,l,w,m,D+1,fun d hd=>?_⟩;obtain⟨d,rfl⟩:∃c,d=c+1:=⟨d-1,by omega⟩
  simp only[exec,o d (by omega)]
theorem xL {c:IX} {a b:IC} {C:Cx} {n:Nat} {h:aN} {t:aA AV} {s:Hp} {K:Ex->dU->aN->Nat->aB R} {r:R} {v:Bool} (hc:c.ev t=some (.v (.bool v)))
  (g:Ql T N lim rd (if v then a else b) C n h t s K r):Ql T N lim rd (.cond c a b) C n h t s K r:=by
 obtain⟨x,f,h1,q,C1,w,u,i,j,k,l,m,o,D,p⟩:=g;refine⟨x,f,h1,q,C1,w,u,i,j,k,l,m,o,D+1,fun d hd=>?_⟩;obtain⟨d,rfl⟩:∃e,d=e+1:=⟨d-1,by omega⟩
 simp only[exec,hc];exact p d (by omega)
theorem Bx {C:Cx} {e:dU} {t:aA AV} {c:PX} {vs:aA PV} (he:cP C e t) (f:Jk N c=true) (a:evs e [c]=some vs) {v:Bool} (hv:vs=[.v (.bool v)]):(eX c).ev t=some (.v (.bool v)):=by
 obtain⟨ys,h1,h2⟩:=iK he (xs:=[c]) (by simpa using f) a;subst hv;obtain⟨y,_,rfl,b,d⟩:=h2.inv_cons;rw[d.inv_nil,eD b]at h1;simp only[mV2,nY2,Sim.evs]at h1;split at h1
 grind
 cases h1
theorem Fx {c:IC} {w:PC} {keep kx:aA Nat} {n:Nat} {h0:aN} (hd:∀k,aK h0 k≠none->k<n)
  (hb:∀{R':Type} (K':Ex->dU->aN->Nat->aB R') (r':R') C n h e t s,eF O X w e h n K'=some r'->cP C e t->cD C n h lim s->t.length=N->Ql T N lim rd c C n h t s K' r'):
  ∀(k:Nat) (st:Fg) (C:Cx) (t:aA AV) (s:Hp) (x:Ex) (st':Fg),
   aQ (fun s:Fg=>eF O X w s.e s.h n fun x e' h' _=>jU (lk x keep kx) h0 n e' h' fun s'=>some (match x with|.normal=>(.inl s':Fg⊕(Ex×Fg))|x=>.inr (x,s'))) k st=some (x,st')->
   cP C st.e t->cD C n st.h lim s->t.length=N->(∀k,aK h0 k=none↔aK st.h k=none)->
   ∃C' j s',cP C' st'.e j/\cD C' n st'.h lim s'/\j.length=N/\Fr C st.h s C' st'.h s'/\∃D,∀d,D<=d->exec T d lim rd (.loop c) {t:=t,s:=s}=some (x,{t:=j,s:=s'})
 |0,st,C,t,s,x,st',h,_,_,_,_=>by simp[aQ]at h
 |k+1,st,C,t,s,x,st',h,he,hM,hN,hkeys=>by
  simp only[aQ,kK2]at h
  obtain⟨q,z,h⟩:=h
  have b:cD C n st.h lim {h:=.mark::s.h,n:=s.n}:=⟨⟨hM.hr.ob,hM.hr.inj,hM.hr.zr⟩,hM.dom,hM.wf,hM.lim⟩
  obtain⟨H,J,h1,L,C1,v,M,B,E,F,o,K,G,D,p⟩:=hb _ q C n st.h st.e t _ z he b hN
  have y:∀k,aK st.h k≠none->k<n:=fun k hk=>hd k (fun A=>hk ((hkeys k).1 A))
  obtain⟨g,w1,w2,w3,w4,w5⟩:=lF hd F E B
  have l:∀k,aK st.h k=none↔aK g.h k=none:=fun k=>(hkeys k).symm.trans (w5 k)
  have m:=Fr.canon b G w4 l
  obtain⟨r,u⟩:=cD.pop hM w3 m l
  cases H with
  |normal=>
   simp only[kS2]at w1
   subst w1
   simp only at h
   obtain⟨C',j,s',p1,p2,p3,p4,D2,p5⟩:=Fx hd hb k g _ v _ x st' h w2 r o w5
   refine⟨C',j,s',p1,p2,p3,u.trans p4,D+D2+1,fun d f=>?_⟩
   obtain⟨d,rfl⟩:∃a,d=a+1:=⟨d-1,by omega⟩
   rw[exec]
   simp only[p d (by omega)]
   exact p5 d (by omega)
  |exit i=>
   simp only[kS2]at w1
   subst w1
   simp only[kS2,lC2]at h
   obtain⟨rfl,rfl⟩:=h
   refine⟨_,v,_,w2,r,o,u,D+1,fun d f=>?_⟩
   obtain⟨d,rfl⟩:∃a,d=a+1:=⟨d-1,by omega⟩
   rw[exec]
   simp only[p d (by omega)]
  |ret=>
   simp only[kS2]at w1
   subst w1
   simp only[kS2,lC2]at h
   obtain⟨rfl,rfl⟩:=h
   refine⟨_,v,_,w2,r,o,u,D+1,fun d f=>?_⟩
   obtain⟨d,rfl⟩:∃a,d=a+1:=⟨d-1,by omega⟩
   rw[exec]
   simp only[p d (by omega)]
theorem Al {c:IC} {w:PC} {keep:aA Nat} {n:Nat} {h0:aN} (hd:∀k,aK h0 k≠none->k<n)
  (hb:∀{R':Type} (K':Ex->dU->aN->Nat->aB R') (r':R') C n h e t s,eF O X w e h n K'=some r'->cP C e t->cD C n h lim s->t.length=N->Ql T N lim rd c C n h t s K' r'):
  ∀(k:Nat) (st:Fg) (C:Cx) (t:aA AV) (s:Hp) (K:Ex->Fg->aB R) (r:R),
   wS (fun e h K=>eF O X w e h n fun x e h _=>K x e h) (fun e' h' K=>jU keep h0 n e' h' K) k st K=some r->
   cP C st.e t->cD C n st.h lim s->t.length=N->(∀k,aK h0 k=none↔aK st.h k=none)->
   ∃x st' C' j s',K x st'=some r/\cP C' st'.e j/\cD C' n st'.h lim s'/\j.length=N/\Fr C st.h s C' st'.h s'/\∃D,∀d,D<=d->exec T d lim rd (.loop c) {t:=t,s:=s}=some (x,{t:=j,s:=s'})
 |0,st,C,t,s,K,r,h,_,_,_,_=>by simp[wS]at h
 |k+1,st,C,t,s,K,r,hq,he,hM,hN,hkeys=>by
  simp only[wS]at hq
  have f:cD C n st.h lim {h:=.mark::s.h,n:=s.n}:=⟨⟨hM.hr.ob,hM.hr.inj,hM.hr.zr⟩,hM.dom,hM.wf,hM.lim⟩
  obtain⟨G,H,h1,L,C1,v,M,A,B,E,o,J,F,D,p⟩:=hb _ r C n st.h st.e t _ hq he f hN
  have y:∀k,aK st.h k≠none->k<n:=fun k hk=>hd k (fun z=>hk ((hkeys k).1 z))
  obtain⟨a,w1,w2,w3,w4,w5⟩:=lF hd E B A
  have l:∀k,aK st.h k=none↔aK a.h k=none:=fun k=>(hkeys k).symm.trans (w5 k)
  have m:=Fr.canon f F w4 l
  obtain⟨q,u⟩:=cD.pop hM w3 m l
  cases G with
  |normal=>
   obtain⟨x,st',C',j,s',p0,p1,p2,p3,p4,D2,p5⟩:=Al hd hb k a _ v _ K r w1 w2 q o w5
   refine⟨x,st',C',j,s',p0,p1,p2,p3,u.trans p4,D+D2+1,fun d g=>?_⟩
   obtain⟨d,rfl⟩:∃b,d=b+1:=⟨d-1,by omega⟩
   rw[exec]
   simp only[p d (by omega)]
   exact p5 d (by omega)
  |exit i=>
   refine⟨.exit i,a,_,v,_,w1,w2,q,o,u,D+1,fun d g=>?_⟩
   obtain⟨d,rfl⟩:∃b,d=b+1:=⟨d-1,by omega⟩
   rw[exec]
   simp only[p d (by omega)]
  |ret=>
   refine⟨.ret,a,_,v,_,w1,w2,q,o,u,D+1,fun d g=>?_⟩
   obtain⟨d,rfl⟩:∃b,d=b+1:=⟨d-1,by omega⟩
   rw[exec]
   simp only[p d (by omega)]
def uF:aN->Nat->aN
 |[],_=>[]
 |(j,o)::r,k=>if j=k then uF r k else(j,o)::uF r k
theorem Fy:∀(h:aN) (k:Nat) (K:aN->aB R),Fd h k K=K (uF h k)
 |[],_,_=>rfl
 |(j,o)::r,k,K=>by
  simp only[Fd,uF,bG]
  by_cases e:j=k<;>simp[e,Fy r k]
theorem lG:∀(h:aN) (k j:Nat),aK (uF h k) j=if j=k then none else aK h j
 |[],k,j=>by simp[uF,aK]
 |(i,o)::r,k,j=>by
  have ih:=lG r k j
  simp only[uF]
  by_cases e:i=k
  subst e
  rw[kT2 rfl,ih]
  by_cases e2:j=i
  simp[e2]
  simp[e2,aK,Ne.symm e2]
  rw[kR2 e]
  simp only[aK]
  by_cases e2:i=j
  subst e2;simp[e]
  grind
theorem xM {e:dU}:∀{is:aA Nat} {K:dU->aB R} {r:R},Lh e is K=some r->∃e',K e'=some r/\∀i v,dL e' i=some v->dL e i=some v
 |[],K,r,h=>⟨[],h,fun i v h=>by simp[dL]at h⟩
 |i::is,K,r,h=>by
  unfold Lh at h
  rw[eO,kK2]at h
  obtain⟨v,hv,h⟩:=h
  obtain⟨e',h1,h2⟩:=xM h
  refine⟨_,h1,fun j w hw=>?_⟩
  simp only[dL]at hw
  split at hw
  grind
  exact h2 j w hw
theorem uT {C:Cx} {n:Nat} {h:aN} {lim:Nat} {s:Hp} (f:cD C n h lim s) {k id ver e len N:Nat} {c:dU} {ps:aA Nat} {a b:PC} {busy:Bool} {fin:aB Ex} (hg:aK h k=some (.loop N c ps a b busy fin)) (d:C k=some (.atp id ver e len)):
  lim<=id/\∃st pend tmps,Sim.look s.h id=some (.loop st pend tmps ps (iB a) (iB b))/\tmps.length=N/\cP C c tmps/\StR busy fin st pend:=by
 obtain⟨pl,h1,h2⟩:=f.hr.ob k _ hg;rw[d]at h1;cases h1;exact⟨h2.1,h2.2.2⟩
theorem dJ (G:∀f xs v,O f xs=some v->lE T f xs v) (E:NOK T X):∀(c:PC) {R:Type} (K:Ex->dU->aN->Nat->aB R) (r:R) (C:Cx) (n:Nat) (h:aN) (e:dU) (t:aA AV) (s:Hp),eF O X c e h n K=some r->cP C e t->cD C n h lim s->t.length=N->
  rC X.is N rd c=true->Ql T N lim rd (iB c) C n h t s K r
 |.skip,R,K,r,C,n,h,e,t,s,hk,he,j,w,u=>⟨.normal,e,h,n,C,t,s,hk,he,j,w,kO2 _,.refl _ _ _,1,fun d hd=>by
   obtain⟨d,rfl⟩:∃F,d=F+1:=⟨d-1,by omega⟩
   simp only[iB,exec]⟩
 |.exit i,R,K,r,C,n,h,e,t,s,hk,he,j,w,u=>⟨.exit i,e,h,n,C,t,s,hk,he,j,w,kO2 _,.refl _ _ _,1,fun d hd=>by
   obtain⟨d,rfl⟩:∃F,d=F+1:=⟨d-1,by omega⟩
   simp only[iB,exec]⟩
 |.ret,R,K,r,C,n,h,e,t,s,hk,he,j,w,u=>⟨.ret,e,h,n,C,t,s,hk,he,j,w,kO2 _,.refl _ _ _,1,fun d hd=>by
   obtain⟨d,rfl⟩:∃F,d=F+1:=⟨d-1,by omega⟩
   simp only[iB,exec]⟩
 |.reg ops,R,K,r,C,n,h,e,t,s,hk,he,j,w,u=>by
  obtain⟨e',h',n',C',U,s',fs,q1,q2,q3,q4,q5,q6,q7,_⟩:=cM G E (.inl rfl) ops [] [] false none C n h e t s _ r hk he j w u trivial (fun _ _ e=>by cases e)
  obtain⟨D,hD⟩:=q2.run
  refine⟨.normal,e',h',n',C',U,s',q1,q3,q4,q5,q6,q7,D+1,fun d hd=>?_⟩
  obtain⟨d,rfl⟩:∃F,d=F+1:=⟨d-1,by omega⟩
  simp only[iB,exec,hD d (by omega),lK2]
 |.regD dr ops before,R,K,r,C,n,h,e,t,s,hk,he,j,w,u=>by
  simp only[rC,kL2,lB2,bG,kV2]at u
  obtain⟨e',h',n',C',U,s',fs,q1,q2,q3,q4,q5,q6,q7,_⟩:=cM G E (.inr u.1.1) ops [] [] false none C n h e t s _ r hk he j w u.1.2 trivial (fun _ _ e=>by cases e)
  obtain⟨D,hD⟩:=q2.draw (by omega) u.2
  refine⟨.normal,e',h',n',C',U,s',q1,q3,q4,q5,q6,q7,D+1,fun d hd=>?_⟩
  obtain⟨d,rfl⟩:∃F,d=F+1:=⟨d-1,by omega⟩
  obtain⟨gs,g1,g2⟩:=hD d (by omega)
  simp only[iB,exec,g1,g2,lO2]
 |.dead _,R,K,r,C,n,h,e,t,s,hk,he,j,w,u=>nomatch hk
 |.regX dr ops before ex,R,K,r,C,n,h,e,t,s,hk,he,j,w,u=>by
  simp only[rC,kL2,lB2,bG,kV2]at u
  obtain⟨⟨⟨d2,d6⟩,b6⟩,d4⟩:=u
  unfold eF at hk
  obtain⟨e',h',n',C',U,s',fs,q1,q2,q3,q4,q5,q6,q7,_⟩:=cM G E (.inr d2) ops [] [] false none C n h e t s _ r hk he j w d6 trivial (fun _ _ e=>by cases e)
  cases hb:exB e' h' ex with
  |false=>rw[hb]at q1;cases q1
  |true=>
   rw[hb]at q1
   obtain⟨D,hD⟩:=q2.drawX (by omega) b6 d4 (fun p hp=>Tt q3 q4 (kU2.1 hb p hp))
   refine⟨.normal,e',h',n',C',U,s',q1,q3,q4,q5,q6,q7,D+1,fun d hd=>?_⟩
   obtain⟨d,rfl⟩:∃F,d=F+1:=⟨d-1,by omega⟩
   obtain⟨gs,g1,g2⟩:=hD d (by omega)
   simp only[iB,exec,g1,g2,lO2]
 |.seq a b,R,K,r,C,n,h,e,t,s,hk,he,j,w,u=>by
  simp only[rC,kL2]at u
  have ha:=dJ G E a _ r C n h e t s hk he j w u.1
  have hb:=fun C n h e t s hk he j w=>dJ G E b K r C n h e t s hk he j w u.2
  have b0:=Yj ha hb
  unfold iB
  split
  .rename_i ops
   split
   .rename_i a0
    simp only[kL2]at a0
    obtain⟨e',h',n',C',U,s',fs,q1,q2,q3,q4,q5,q6,q7,_⟩:=cM G E (.inl rfl) ops [] [] false none C n h e t s _ r hk he j w u.1 trivial (fun _ _ e=>by cases e)
    rw[pK a0.1]at q2
    have:=q2.nil_inv
    cases this
    obtain⟨x2,e2,h2,n2,C2,t2,s2,w1,w2,w3,w4,w5,w6,D2,w7⟩:=hb C' n' h' e' t s q1 q3 q4 w
    exact⟨x2,e2,h2,n2,C2,t2,s2,w1,w2,w3,w4,by omega,q7.trans w6,D2,w7⟩
   .exact b0
  .exact b0
 |.cond c a b,R,K,r,C,n,h,e,t,s,hk,he,j,w,u=>by
  simp only[rC,kL2]at u
  unfold eF at hk
  rw[gG,kK2]at hk
  obtain⟨vs,H,hk⟩:=hk
  split at hk
  .rename_i v
   rw[lV]at hk
   refine xL (Bx he u.1.1 H rfl) ?_
   cases v with
   |true=>exact dJ G E a K r C n h e t s hk he j w u.1.2
   |false=>exact dJ G E b K r C n h e t s hk he j w u.2
  .exact aD hk
 |.condJ keep c a b,R,K,r,C,n,h,e,t,s,hk,he,j,w,u=>by
  simp only[rC,kL2]at u
  unfold eF at hk
  rw[gG,kK2]at hk
  obtain⟨vs,H,hk⟩:=hk
  split at hk
  .rename_i v
   rw[bO,kK2]at hk
   obtain⟨q,hq,hk⟩:=hk
   rw[lV]at hq
   refine xL (Bx he u.1.1 H rfl) ?_
   have fin:∀{c:IC},Ql T N lim rd c C n h t s (fun x e' h' _=>jU keep h n e' h' fun s=>some (x,s)) q->Ql T N lim rd c C n h t s K r:=by
    intro c b7;obtain⟨x1,J,h1,n1,C1,t1,s1,Y,k2,k3,k4,k5,k6,D,k7⟩:=b7
    obtain⟨S,w1,w2,w3,w4,w5⟩:=lF (fun k hk=>by
     cases L:aK h k with
     |none=>exact absurd L hk
     |some o=>obtain⟨pl,p1,_⟩:=j.hr.ob k o L;exact j.dom k pl p1) k3 k2 Y
    cases w1;exact⟨x1,S.e,S.h,n,_,t1,s1,hk,w2,w3,k4,kO2 _,Fr.canon j k6 w4 w5,D,k7⟩
   cases v with
   |true=>exact fin (dJ G E a _ q C n h e t s hq he j w u.1.2)
   |false=>exact fin (dJ G E b _ q C n h e t s hq he j w u.2)
  .exact aD hk
 |.condL c a b,R,K,r,C,n,h,e,t,s,hk,he,j,w,u=>by
  simp only[rC,kL2]at u;unfold eF at hk;rw[gG,kK2]at hk;obtain⟨vs,H,hk⟩:=hk;split at hk
  .rename_i v
   refine xL (Bx he u.1.1 H rfl) ?_;cases v with
   |true=>exact dJ G E a K r C n h e t s hk he j w u.1.2
   |false=>exact dJ G E b K r C n h e t s hk he j w u.2
  .exact aD hk
 |.loopU m keep c,R,K,r,C,n,h,e,t,s,hk,he,j,w,u=>by
  unfold eF at hk
  have hd:∀k,aK h k≠none->k<n:=fun k hk=>by
   cases L:aK h k with
   |none=>exact absurd L hk
   |some o=>obtain⟨pl,p1,_⟩:=j.hr.ob k o L;exact j.dom k pl p1
  obtain⟨S,w1,w2,w3,w4,w5⟩:=lF hd j he hk;obtain⟨x,st',C',U,s',p0,p1,p2,p3,p4,D,p5⟩:=Al (T:=T) (rd:=rd) (N:=N) (lim:=lim) hd (fun K' r' C n h e t s hk he j w=>dJ G E c K' r' C n h e t s hk he j w u) m S _ t s _ r w1 w2 w3 w w5;exact⟨x,st'.e,st'.h,n,C',U,s',p0,p1,p2,p3,kO2 _,(Fr.canon j (.refl _ _ _) w4 w5).trans p4,D,p5⟩
 |.rangeF N' keep f ps a b,R,K,r,C,n,h,e,t,s,hk,he,j,w,u=>by
  simp only[rC,kL2,lE2,bG,kV2]at u;obtain⟨⟨rfl,rfl⟩,u⟩:=u;unfold eF at hk;rw[gG,kK2]at hk;obtain⟨vs,H,hk⟩:=hk;obtain⟨ys,h1,h2⟩:=iK he (xs:=[f]) (by simpa using u) H;split at hk
  .rename_i g first cap
   obtain⟨y,_,rfl,h3,h4⟩:=h2.inv_cons;rw[h4.inv_nil]at h1;obtain⟨a',b',rfl,h5,h6⟩:=tU h3
   have hf:(eX f).ev t=some (.fn (.func g) a' b'):=by
    simp only[mV2,nY2,Sim.evs]at h1;split at h1
    .rename_i ha hb;simp only[kS2,nT2]at h1;rw[<-h1.1];exact ha
    .cases h1
   cases hX1:X.is g with
   |false=>rw[hX1]at hk;exact aD hk
   |true=>
   rw[hX1,lA2]at hk;obtain⟨e0,hk,d3⟩:=xM hk;have V:=iR j (.atp s.n 0 0 0)
   obtain⟨m1,m2,m3⟩:=nP j (po:=.loop N' e0 ps a b false none) (ao:=.loop .ready none t ps (iB a) (iB b)) (ver:=0) (e:=0) (len:=0)
    ⟨j.lim,by omega,_,_,t,by rw[dN,kT2 rfl],w,fun i v hv=>(he i v (d3 i v hv)).imp fun y hy=>⟨hy.1,hy.2.mono V⟩,rfl,rfl⟩
   have hx:LR (RV (ext C n (.atp s.n 0 0 0))) (first++[.yld n]++cap) (a'++[.fn (.yield s.n) [] []]++b'):=
    ((h5.mono fun _ _ h=>h.mono V).append (.cons (.yld (kT C n _)) .nil)).append (h6.mono fun _ _ h=>h.mono V)
   obtain⟨v,e',h',n',C',y,s',q1,q2,q3,q4,q5,q6,q7⟩:=Bw (P:=fun y s'=>∃D,∀d,D<=d->Sim.callF T (exec T d) lim g (a'++[.fn (.yield s.n) [] []]++b') _=some (y,s')) m1 (he.mono V) hx
    (fun hs C0 m K' r' d1 d7 hr=>by
     obtain⟨v,h',n',C',y,s',w1,w2,w3,w4,w5,w6,w7⟩:=E.run g _ hs m K' r' C0 _ lim _ hX1 hr d7 d1;exact⟨v,h',n',C',y,s',w1,w2,w3,w4,w5,w7⟩) hk
   rw[dY,kK2]at q1;obtain⟨ob,W,q1⟩:=q1;obtain⟨o',z1,z2⟩:=q6.kd n (.loop N' e0 ps a b false none) (by simp[aK]);rw[W]at z1;cases z1;split at q1
   .rename_i N2 e2 M a2 b2 fin
    have b4:C' n=some (.atp s.n 0 0 0):=by
     have:=(z2 rfl).2;rw[kT]at this;exact this
    obtain⟨_,st,pend,tmps,g1,g2,g3,g4⟩:=uT q4 W b4;rw[Fy]at q1;obtain⟨D,hD⟩:=q7;have d8:n<n':=by omega
    have b9:cD C' n' (uF h' n) lim {h:=upd s'.h s.n (.loop .exhausted pend tmps M (iB a2) (iB b2)),n:=s'.n}:=by
     have nn:∀{k},aK (uF h' n) k≠none->aK h' k≠none:=fun{k} hk=>by
      rw[lG]at hk;split at hk
      .exact absurd rfl hk
      .exact hk
     refine⟨⟨fun k o A=>?_,fun k k' id v e l v' e' l' a b c d=>q4.hr.inj k k' id v e l v' e' l' (nn a) (nn b) c d,fun id o L=>?_⟩,q4.dom,q4.wf.upd _ _,q4.lim⟩
     .rw [lG]at A
      split at A
      .cases A
      .rename_i d5
       obtain⟨pl,p1,p2⟩:=q4.hr.ob k o A;refine⟨pl,p1,p2.mono (kO2 _) (.refl _) (fun id v e l hp=>?_)⟩;subst hp;rw[Sim.look_upd];rw[kR2 (fun J=>d5 (q4.hr.inj k n s.n _ _ _ _ _ _ (by rw[A];simp) (by rw[W];simp) (by rw[<-J.1];exact p1) b4))]
     .obtain ⟨z1,z2,z3,z4⟩:=q4.hr.zr id o L
      refine⟨?_,z2,fun k v e l a b=>z3 k v e l (nn a) b,z4⟩;rw[Sim.look_upd,kR2 (fun J=>z3 n 0 0 0 (by rw[W];simp) (by rw[J.1];exact b4))];exact z1
    have B:=m2.trans q6
    have b8:Fr C h s C' (uF h' n) {h:=upd s'.h s.n (.loop .exhausted pend tmps M (iB a2) (iB b2)),n:=s'.n}:=by
     refine⟨B.sk.trans (.upd _ _ _ _) B.n,B.n,fun id b5 hn=>?_,fun id b5 hn=>B.own id b5 ?_,fun k o A=>?_,B.zl,B.zn⟩
     .rw [Sim.look_upd,kR2 (by omega)]
      exact B.keep id b5 hn
     .obtain ⟨k,v,e,l,p1,p2⟩:=hn
      refine⟨k,v,e,l,?_,p2⟩;rw[lG]at p1;split at p1
      .exact absurd rfl p1
      .exact p1
     .obtain ⟨o',p1,p2⟩:=B.kd k o A
      refine⟨o',?_,p2⟩;rw[lG,kR2 (fun J=>?_)]
      .exact p1
      .subst J
       rw[sI j (kO2 _)]at A;cases A
    have Z:∀x,K x e' (uF h' n) n'=some r->st≠.busy->(match pend with
       |none=>some (Ex.normal,({t:=t,s:={h:=upd s'.h s.n (.loop .exhausted pend tmps M (iB a2) (iB b2)),n:=s'.n}}:St))
       |some .ret=>some (.ret,{t:=t,s:={h:=upd s'.h s.n (.loop .exhausted pend tmps M (iB a2) (iB b2)),n:=s'.n}})
       |some (.exit id)=>some (.exit id,{t:=t,s:={h:=upd s'.h s.n (.loop .exhausted pend tmps M (iB a2) (iB b2)),n:=s'.n}})
       |_=>none)=some (x,{t:=t,s:={h:=upd s'.h s.n (.loop .exhausted pend tmps M (iB a2) (iB b2)),n:=s'.n}})->
      Ql T N' lim false (iB (.rangeF N' keep f ps a b)) C n h t s K r:=by
     intro x hK b6 hx;refine⟨x,e',uF h' n,n',C',t,_,hK,fun i v hv=>(q3 i v hv).imp fun z L=>⟨L.1,L.2.1⟩,b9,w,by omega,b8,D+1,fun d hd=>?_⟩;obtain⟨d,rfl⟩:∃F,d=F+1:=⟨d-1,by omega⟩
     simp only[iB,exec,hf,hD d (by omega),g1,Sim.endRound,kX2,lQ2];rw[kR2 b6];exact hx
    split at q1
    .obtain ⟨rfl,rfl⟩:=g4
     exact Z _ q1 (by simp) rfl
    .obtain ⟨rfl,rfl⟩:=g4
     exact Z _ q1 (by simp) rfl
    .obtain ⟨rfl,rfl⟩:=g4
     exact Z _ q1 (by simp) rfl
    .exact aD q1
   .exact aD q1
  .exact aD hk
 |.block id c,R,K,r,C,n,h,e,t,s,hk,he,j,w,u=>by
  unfold eF at hk;obtain⟨x1,J,h1,n1,C1,t1,s1,Y,k2,k3,k4,k5,k6,D,k7⟩:=dJ G E c _ r C n h e t s hk he j w u
  have Z:∀(x:Ex),(∀d,D<=d->(match exec T d lim rd (iB c) {t:=t,s:=s}with|some (.exit i,σ)=>if i=id then some (.normal,σ)else some (.exit i,σ)|r=>r)=some (x,{t:=t1,s:=s1}))->K x J h1 n1=some r->Ql T N lim rd (iB (.block id c)) C n h t s K r:=by
   intro x hx hK;refine⟨x,J,h1,n1,C1,t1,s1,hK,k2,k3,k4,k5,k6,D+1,fun d hd=>?_⟩;obtain⟨d,rfl⟩:∃F,d=F+1:=⟨d-1,by omega⟩
   rw[iB,exec];exact hx d (by omega)
  cases x1 with
  |normal=>exact Z .normal (fun d hd=>by rw[k7 d hd]) Y
  |ret=>exact Z .ret (fun d hd=>by rw[k7 d hd]) Y
  |exit i=>
   simp only[bG]at Y;by_cases J:i=id
   .subst J
    simp only[mH2,lA2]at Y;exact Z .normal (fun d hd=>by rw[k7 d hd];simp) Y
   .simp only[mC2 J,lN2]at Y
    exact Z (.exit i) (fun d hd=>by rw[k7 d hd];simp[J]) Y
 |.loop keep kx c,R,K,r,C,n,h,e,t,s,hk,he,j,w,u=>by
  unfold eF at hk
  have hd:∀k,aK h k≠none->k<n:=fun k hk=>by
   cases L:aK h k with
   |none=>exact absurd L hk
   |some o=>obtain⟨pl,p1,_⟩:=j.hr.ob k o L;exact j.dom k pl p1
  obtain⟨S,w1,w2,w3,w4,w5⟩:=lF hd j he hk;rw[bO,kK2]at w1;obtain⟨⟨x,st'⟩,hq,hK⟩:=w1;obtain⟨C',U,s',p1,p2,p3,p4,D,p5⟩:=Fx (T:=T) (rd:=rd) (N:=N) (lim:=lim) hd (fun K' r' C n h e t s hk he j w=>dJ G E c K' r' C n h e t s hk he j w u) aY S _ t s x st' hq w2 w3 w w5;exact⟨x,st'.e,st'.h,n,C',U,s',hK,p1,p2,p3,kO2 _,(Fr.canon j (.refl _ _ _) w4 w5).trans p4,D,p5⟩
end
end Go.P
namespace Go.P
open Go.Sim (AV AO Hp eN upd St IC IX Ex dQ CK Wf Out doOp gB exec Foot wanted put popMark mapO lK Hk Qh yC fz)
open Go.Sim (RV IFn)
structure bM where
 ntmps:Nat
 res:List Sim.RV
 code:PC
 frz:Bool
 deriving Inhabited
noncomputable section
variable {R:Type}
def Fz:aA PV->Nat->(dU->aB R)->aB R
 |[],_,K=>K []
 |x::xs,i,K=>fV x fun x=>Fz xs (i+1) fun e=>K ((i,x)::e)
def xN (e:dU) (h:aN) (n:Nat):aA Sim.RV->(aA PV->aB R)->aB R
 |[],K=>K []
 |.tmp i::rs,K=>mQ e i fun v=>xN e h n rs fun vs=>K (v::vs)
 |.cellS i::rs,K=>mQ e i fun p=>cS .loadS [p] h n fun v _ _=>xN e h n rs fun vs=>K (v::vs)
 |.cellA i m::rs,K=>mQ e i fun p=>cS (.loadA m) [p] h n fun v _ _=>xN e h n rs fun vs=>K (v::vs)
def Ga (h:aN):Nat->PV->(PV->aB R)->aB R
 |0,_,_=>none
 |d+1,x,K=>match x with
  |.own k=>hK h k fun ob=>match ob with
   |.lst _ e _ rows=>K (.is e rows)
   |.lz _ e dp rows=>bif Nat.ble dp (d+1)then K (.is e rows)else none
   |_=>none
  |.zs dp e rows=>bif Nat.ble dp (d+2)then K (.is e rows)else none
  |.ref k o=>hK h k fun ob=>match ob with
   |.box cs=>fO o cs fun cs=>oL (Ga h d) cs fun cs=>K (.ip cs)
   |_=>none
  |.v x=>K (.v x)
  |.is e rows=>K (.is e rows)
  |.ip cs=>K (.ip cs)
  |_=>none
def Yk (h:aN) (x:PV) (K:PV->aB R):aB R:=match x with
 |.fn f [] cap=>oL (Ga h 4) cap fun c=>K (.fn f [] c)
 |x=>Ga h 4 x K
def Yl (h:aN):aA PV->(aA PV->aB R)->aB R
 |[],K=>K []
 |x::xs,K=>Yk h x fun x=>Yl h xs fun xs=>K (x::xs)
def Ym (h:aN) (x:PV) (K:PV->aB R):aB R:=match x with
 |.agg cs=>Yl h cs fun cs=>K (.agg cs)
 |x=>Yk h x K
def Yn (h:aN):aA PV->(aA PV->aB R)->aB R
 |[],K=>K []
 |x::xs,K=>Ym h x fun x=>Yn h xs fun xs=>K (x::xs)
def rzK (h:aN) (x:PV) (K:PV->aB R):aB R:=match x with
 |.tup vs=>Yn h vs fun vs=>K (.tup vs)
 |.map k=>hK h k fun ob=>match ob with
  |.mp es=>K (.im es)
  |_=>none
 |x=>Ym h x K
def xO (C:qR) (X:NX) (fn:bM) (xs:aA PV) (K:PV->aB R):aB R:=
 bif Nat.ble xs.length fn.ntmps then Fz xs 0 fun e=>eF C X fn.code e [] 0 fun x e h n=>match x with
  |.exit _=>none
  |_=>xN e h n fn.res fun vs=>match vs with
   |[v]=>rzK h v K
   |vs=>rzK h (.tup vs) K
 else none
def Jl (C:qR) (X:NX) (fn:bM) (xs:aA PV) (h:aN) (n:Nat) (K:PV->aN->Nat->aB R):aB R:=
 bif Nat.ble xs.length fn.ntmps then Fz xs 0 fun e=>eF C X fn.code e h n fun x e h n=>match x with
  |.exit _=>none
  |_=>xN e h n fn.res fun vs=>match vs with
   |[v]=>K v h n
   |vs=>K (.tup vs) h n
 else none
def yN:dU->aA Nat->aA PV->(dU->aB R)->aB R
 |e,[],[],K=>K e
 |e,p::ps,x::xs,K=>gF e [p] fun e=>yN ((p,x)::e) ps xs K
 |_,_,_,_=>none
def okG (NF:FuncId->Bool) (N:Nat) (ps:aA Nat) (a b:PC):aB Unit:=if okL NF N ps a b=true then some ()else none
def Yo (C:qR) (X:NX) (k:Nat) (xs:aA PV) (h:aN) (n:Nat) (K:PV->aN->Nat->aB R):aB R:=
 hK h k fun ob=>match ob with
 |.loop N e ps a b false none=>bS (okG X.is N ps a b) fun _=>yN e ps xs fun e=>eF C X a e h n fun x e h n=>match x with
  |.normal=>hK h k fun ob=>match ob with
   |.loop N e' ps a b' false none=>fP h k (.loop N e' ps a b' true none) fun h=>eF C X b e h n fun x _ h n=>hK h k fun ob=>match ob with
    |.loop N e' ps a b' _ _=>match x with
     |.normal=>fP h k (.loop N e' ps a b' false none) fun h=>K (.v (.bool true)) h n
     |.exit i=>fP h k (.loop N e' ps a b' false (some (.exit i))) fun h=>K (.v (.bool false)) h n
     |.ret=>fP h k (.loop N e' ps a b' false (some .ret)) fun h=>K (.v (.bool false)) h n
    |_=>none
   |_=>none
  |_=>none
 |_=>none
abbrev pL:=Nat->aB bM
abbrev Gb:=FuncId->aA PV->aN->Nat->aB (PV×aN×Nat)
structure NB where
 nw:FuncId->Bool
 run:Gb:=fun _ _ _ _=>none
def OX (B:qR) (NF:FuncId->Bool) (NW:NB) (P:pL):Nat->qR×NX
 |0=>(fun f xs=>bif NF f then none else B f xs,⟨NF,NW.nw,fun _ _ _ _ _=>none,fun _ _ _ _ _=>none⟩)
 |d+1=>(fun f xs=>bif NF f then none else match P f with
   |some fn=>bif fn.frz then xO (OX B NF NW P d).1 (OX B NF NW P d).2 fn xs some else(xO (OX B NF NW P d).1 (OX B NF NW P d).2 fn xs some).bind fun v=>bif sG 4 v then none else some v
   |none=>B f xs,
  ⟨NF,NW.nw,fun f xs h n K=>match P f with
   |some fn=>Jl (OX B NF NW P d).1 (OX B NF NW P d).2 fn xs h n K
   |none=>(NW.run f xs h n).bind fun r=>K r.1 r.2.1 r.2.2,fun k xs h n K=>Yo (OX B NF NW P d).1 (OX B NF NW P d).2 k xs h n K⟩)
def Od (B:qR) (NF:FuncId->Bool) (NW:NB) (P:pL) (d:Nat):qR:=(OX B NF NW P d).1
def Xd (B:qR) (NF:FuncId->Bool) (NW:NB) (P:pL) (d:Nat):NX:=(OX B NF NW P d).2
end
def Hn (n:Bool) (fn:bM):IFn:={ntmps:=fn.ntmps,res:=fn.res,body:=iB fn.code,pure:= !n,frz:= !n&&fn.frz}
section
variable {R:Type}
def tZ:aA PV->Nat->dU
 |[],_=>[]
 |x::xs,i=>(i,x)::tZ xs (i+1)
theorem xP:∀(xs:aA PV) (i:Nat) (K:dU->aB R),Fz xs i K=K (tZ xs i)
 |[],i,K=>rfl
 |x::xs,i,K=>by simp[Fz,Lj,tZ,xP xs]
theorem sQ:∀(xs:aA PV) (i j:Nat) (v:PV),dL (tZ xs i) j=some v->i<=j/\xs[j-i]? =some v
 |[],i,j,v,h=>by simp[tZ,dL]at h
 |x::xs,i,j,v,h=>by
  simp only[tZ,dL]at h
  split at h
  grind
  obtain⟨h1,h2⟩:=sQ xs (i+1) j v h
  refine⟨by omega,?_⟩
  rw[show j-i=(j-(i+1))+1 by omega]
  simpa using h2
variable {C:Cx} {n:Nat} {h:aN} {lim:Nat} {s:Hp} {e:dU} {t:List AV}
theorem Gc {k:dQ} {y:AV} {K:PV->aN->Nat->aB R} {r:R} (hs:zW C n h s k [y] K r):
  ∃w z,K w h n=some r/\(doOp (Sim.look s.h) 0 0 k [y]).map (·.v)=some z/\RV C w z:=by
 obtain⟨w,z,h1,h2,a⟩:=hs;exact⟨w,z,a,by rw[h1 0 0];rfl,h2⟩
theorem rD (b:cD C n h lim s) (he:cP C e t):∀{g:aA Sim.RV} {K:aA PV->aB R} {r:R},xN e h n g K=some r->
  ∃vs a,K vs=some r/\mapO (Sim.readRes (Sim.look s.h) t) g=some a/\LR (RV C) vs a
 |[],K,r,hk=>⟨[],[],hk,rfl,.nil⟩
 |.tmp i::g,K,r,hk=>by
  unfold xN at hk
  rw[eO,kK2]at hk
  obtain⟨v,hv,hk⟩:=hk
  obtain⟨y,h1,h2⟩:=he i v hv
  obtain⟨vs,a,c,d,f⟩:=rD b he hk
  exact⟨_,y::a,c,by simp[mapO,Sim.readRes,h1,d],.cons h2 f⟩
 |.cellS i::g,K,r,hk=>by
  unfold xN at hk
  rw[eO,kK2]at hk
  obtain⟨v,hv,hk⟩:=hk
  obtain⟨y,h1,h2⟩:=he i v hv
  obtain⟨w,z,q1,q2,q3⟩:=Gc (wY b (.cons h2 .nil) hk)
  obtain⟨vs,a,c,d,f⟩:=rD b he q1
  exact⟨_,z::a,c,by simp only[mapO,Sim.readRes,h1,q2,d],.cons q3 f⟩
 |.cellA i m::g,K,r,hk=>by
  unfold xN at hk
  rw[eO,kK2]at hk
  obtain⟨v,hv,hk⟩:=hk
  obtain⟨y,h1,h2⟩:=he i v hv
  obtain⟨w,z,q1,q2,q3⟩:=Gc (wZ b (.cons h2 .nil) hk)
  obtain⟨vs,a,c,d,f⟩:=rD b he q1
  exact⟨_,z::a,c,by simp only[mapO,Sim.readRes,h1,q2,d],.cons q3 f⟩
theorem Yp {L:Nat->aB AO} {d id ver e o:Nat} {bx:Bool} {ty:TypeId} {esz:Nat} {els:aA (aA AV)} {row cs:aA AV} (a:L id=some (.arr bx ty esz ver els)) (hr:els[e]? =some row) (hc:mapO (lK L 0 d) (row.drop o)=some cs):lK L 0 (d+1) (.ptr id ver e o)=some (.ip cs):=by
 simp[lK,a,hr,hc]
theorem Bz (i:cD C n h lim s):∀(d:Nat) (x:PV) (y:AV) (K:PV->aB R) (r:R),Ga h d x K=some r->RV C x y->∃B z,K B=some r/\lK (Sim.look s.h) 0 (d+2) y=some z/\RC false B z
 |0,x,y,K,r,hk,_=>by unfold Ga at hk;exact aD hk
 |d+1,x,y,K,r,hk,hv=>by
  unfold Ga at hk
  cases x with
  |own k=>
   simp only[dY,kK2]at hk
   obtain⟨ob,hg,hk⟩:=hk
   cases ob with
   |lst ty e g rows=>
    rcases kH hv with⟨id,ver,D,len,c,rfl⟩|⟨c,rfl⟩
    obtain⟨_,rfl,hlen,els,p,hr,u,_⟩:=gZ i hg c
    subst hlen
    exact⟨_,_,hk,Lp (d:=d+1) (lP2 _) p hr u,hr.is⟩
    have:=jB i hg c
    subst this
    exact⟨_,_,hk,rfl,.isn⟩
   |lz ty e dp rows=>
    cases hb:Nat.ble dp (d+1)with
    |false=>simp only[hb,lN2]at hk;exact aD hk
    |true=>
    simp only[hb,lA2]at hk
    have hb:=kW2 hb
    rcases kH hv with⟨id,ver,D,len,c,rfl⟩|⟨c,rfl⟩
    obtain⟨_,_,rfl,hlen,_,els,p,hr⟩:=tV i hg c
    subst hlen
    obtain⟨A,m,j⟩:=eR1 (n0:=0) (f:=d+2) (fun id o w=>⟨lP2 _,(i.hr.zr id o w).1⟩) (by omega) (lP2 _) p hr
    exact⟨_,_,hk,m,j.is⟩
    have:=sL i hg c
    subst this
    exact⟨_,_,hk,rfl,.isn⟩
   |_=>exact aD hk
  |zs dp e rows=>
   cases hb:Nat.ble dp (d+2)with
   |false=>simp only[hb,lN2]at hk;exact aD hk
   |true=>
   simp only[hb,lA2]at hk
   have hb:=kW2 hb
   obtain⟨z,m,j⟩:=Lq (L:=Sim.look s.h) (n0:=0) (fun id o w=>⟨lP2 _,(i.hr.zr id o w).1⟩) dp (d+3) (by omega) _ _ (zU hv)
   exact⟨_,_,hk,m,j.weak⟩
  |ref k o=>
   simp only[dY,kK2]at hk
   obtain⟨ob,hg,hk⟩:=hk
   cases ob with
   |box cs=>
    obtain⟨m,j⟩:=dH _ _ _ _ hk
    obtain⟨id,ver,e,len,c,rfl⟩:=iS hv
    obtain⟨_,ty,esz,row,p,hl⟩:=pG i hg c
    have l:∀(xs:aA PV) (ys:aA AV) (K:aA PV->aB R) (r:R),oL (Ga h d) xs K=some r->LR (RV C) xs ys->
      ∃xs' b,K xs'=some r/\mapO (lK (Sim.look s.h) 0 (d+2)) ys=some b/\LR (RC false) xs' b:=by
     intro xs
     induction xs with
     |nil=>
      intro ys K r hk hl;rw[hl.inv_nil];unfold oL at hk;exact⟨[],[],hk,rfl,.nil⟩
     |cons a as ih=>
      intro ys K r hk hl;obtain⟨y,b,rfl,h1,h2⟩:=hl.inv_cons;unfold oL at hk;obtain⟨a',b',m,j,E⟩:=Bz i d a y _ r hk h1;obtain⟨q,t,q1,q2,q3⟩:=ih b _ r m h2;exact⟨a'::q,b'::t,q1,by simp only[mapO,j,q2],.cons E q3⟩
    obtain⟨xs',b,q1,q2,q3⟩:=l _ _ _ r j (hl.drop o);refine⟨_,.ip b,q1,?_,.ip q3.1 q3.2⟩;exact Yp p rfl q2
   |_=>exact aD hk
  |v x=>
   rw[eD hv];exact⟨_,_,hk,rfl,.v x⟩
  |is e rows=>
   rcases wU hv with⟨rows',rfl,hr⟩|⟨rfl,rfl⟩
   exact⟨_,_,hk,rfl,hr.is⟩;exact⟨_,_,hk,rfl,.isn⟩
  |ip cs=>
   obtain⟨cs',rfl,hl⟩:=zT hv;exact⟨_,_,hk,rfl,.ip hl.1 hl.2⟩
  |_=>exact aD hk
theorem Ow {L:Nat->aB AO} {y c:AV} (h:lK L 0 6 y=some c):Qh L 0 y=some c:=by
 cases y with
 |sl=>simp only[Qh,Nat.not_lt_zero,lQ2];exact h
 |ptr=>simp only[Qh,Nat.not_lt_zero,lQ2];exact h
 |map=>simp[lK]at h
 |fn v a b=>simp[lK]at h
 |_=>exact h
theorem Ox {L:Nat->aB AO} {y a:AV} (h:Qh L 0 y=some a) (hy:∀cs,y≠.agg cs):yC L 0 y=some a:=by
 cases y with
 |agg cs=>exact absurd rfl (hy cs)
 |_=>exact h
theorem Tu {L:Nat->aB AO} {y a:AV} (h:yC L 0 y=some a) (hy:∀cs,y≠.tup cs) (b:∀id,y≠.map id):fz L 0 y=some a:=by
 cases y with
 |tup cs=>exact absurd rfl (hy cs)
 |map id=>exact absurd rfl (b id)
 |_=>exact h
theorem Gd (f:cD C n h lim s) (d:Nat):∀(xs:aA PV) (ys:aA AV) (K:aA PV->aB R) (r:R),oL (Ga h d) xs K=some r->LR (RV C) xs ys->
  ∃xs' b,K xs'=some r/\mapO (lK (Sim.look s.h) 0 (d+2)) ys=some b/\LR (RC false) xs' b
 |[],ys,K,r,hk,hl=>by
  rw[hl.inv_nil]
  unfold oL at hk
  exact⟨[],[],hk,rfl,.nil⟩
 |a::as,ys,K,r,hk,hl=>by
  obtain⟨y,b,rfl,h1,h2⟩:=hl.inv_cons
  unfold oL at hk
  obtain⟨a',b',g,i,j⟩:=Bz f d a y _ r hk h1
  obtain⟨c,e,q1,q2,q3⟩:=Gd f d as b _ r g h2
  exact⟨a'::c,b'::e,q1,by simp only[mapO,i,q2],.cons j q3⟩
theorem Lx (d:cD C n h lim s) {x:PV} {y:AV} {K:PV->aB R} {r:R} (hk:Yk h x K=some r) (hv:RV C x y):∃a b,K a=some r/\Qh (Sim.look s.h) 0 y=some b/\RC false a b:=by
 unfold Yk at hk;split at hk;rename_i f cap;obtain⟨a',b',rfl,h1,h2⟩:=tU hv;rw[h1.inv_nil];obtain⟨xs',c,q1,q2,q3⟩:=Gd d 4 _ _ _ r hk h2;exact⟨.fn f [] xs',.fn (.func f) [] c,q1,by simp only[Qh,q2,lK2],.fn rfl q3.1 (fun j x y h=>by simp at h) q3.2⟩;obtain⟨a,b,h1,h2,e⟩:=Bz d 4 x y K r hk hv;exact⟨a,b,h1,Ow h2,e⟩
theorem Ge (d:cD C n h lim s):∀{xs:aA PV} {ys:aA AV} {K:aA PV->aB R} {r:R},Yl h xs K=some r->LR (RV C) xs ys->∃xs' a,K xs'=some r/\mapO (Qh (Sim.look s.h) 0) ys=some a/\LR (RC false) xs' a
 |[],ys,K,r,hk,hl=>by rw[hl.inv_nil];exact⟨[],[],hk,rfl,.nil⟩
 |x::xs,ys,K,r,hk,hl=>by
  obtain⟨y,a,rfl,h1,h2⟩:=hl.inv_cons
  unfold Yl at hk
  obtain⟨a',b',e,f,g⟩:=Lx d hk h1
  obtain⟨b,c,q1,q2,q3⟩:=Ge d e h2
  exact⟨a'::b,b'::c,q1,by simp only[mapO,f,q2],.cons g q3⟩
theorem Oy {x:PV} {y:AV} (hv:RV C x y) (a:∀cs,x≠.agg cs) (b:x≠.undef):∀cs,y≠.agg cs:=by
 intro cs hy;subst hy;cases hv with
 |cl h=>cases h;exact a _ rfl
 |undef=>exact b rfl
 |ownn _ hy=>cases hy
 |agg=>exact a _ rfl
 |zs h=>rcases zV h with(⟨_,h,_⟩|⟨_,h⟩)|⟨_,_,_,_,_,_,h,_⟩<;>cases h
theorem Oz {x:PV} {y:AV} (hv:RV C x y) (a:∀cs,x≠.tup cs) (b:x≠.undef):∀cs,y≠.tup cs:=by
 intro cs hy;subst hy;cases hv with
 |cl h=>cases h;exact a _ rfl
 |undef=>exact b rfl
 |ownn _ hy=>cases hy
 |tup=>exact a _ rfl
 |zs h=>rcases zV h with(⟨_,h,_⟩|⟨_,h⟩)|⟨_,_,_,_,_,_,h,_⟩<;>cases h
theorem Pa {x:PV} {y:AV} (hv:RV C x y) (b:∀k,x≠.map k) (c:∀es,x≠.zm es) (a:x≠.undef):∀id,y≠.map id:=by
 intro id hy;subst hy;cases hv with
 |cl h=>cases h
 |undef=>exact a rfl
 |ownn _ hy=>cases hy
 |map=>exact b _ rfl
 |zs h=>rcases zV h with(⟨_,h,_⟩|⟨_,h⟩)|⟨_,_,_,_,_,_,h,_⟩<;>cases h
 |zm=>exact c _ rfl
theorem Ly (d:cD C n h lim s) {x:PV} {y:AV} {K:PV->aB R} {r:R} (hk:Ym h x K=some r) (hv:RV C x y):∃a b,K a=some r/\yC (Sim.look s.h) 0 y=some b/\RC false a b:=by
 unfold Ym at hk;split at hk;rename_i cs;obtain⟨cs',rfl,hl⟩:=kS hv;obtain⟨xs',c,j,k,f⟩:=Ge d hk hl;exact⟨_,.agg c,j,by simp only[yC,k,lK2],.agg f.1 f.2⟩;rename_i i;obtain⟨a,b,h1,h2,g⟩:=Lx d hk hv;by_cases e:x=.undef;subst e;exact aD hk;exact⟨a,b,h1,Ox h2 (Oy hv i e),g⟩
theorem Gf (d:cD C n h lim s):∀{xs:aA PV} {ys:aA AV} {K:aA PV->aB R} {r:R},Yn h xs K=some r->LR (RV C) xs ys->∃xs' a,K xs'=some r/\mapO (yC (Sim.look s.h) 0) ys=some a/\LR (RC false) xs' a
 |[],ys,K,r,hk,hl=>by rw[hl.inv_nil];exact⟨[],[],hk,rfl,.nil⟩
 |x::xs,ys,K,r,hk,hl=>by
  obtain⟨y,a,rfl,h1,h2⟩:=hl.inv_cons
  unfold Yn at hk
  obtain⟨a',b',e,f,g⟩:=Ly d hk h1
  obtain⟨b,c,q1,q2,q3⟩:=Gf d e h2
  exact⟨a'::b,b'::c,q1,by simp only[mapO,f,q2],.cons g q3⟩
theorem Tv (c:cD C n h lim s) {x:PV} {y:AV} {K:PV->aB R} {r:R} (hk:rzK h x K=some r) (hv:RV C x y):∃a b,K a=some r/\fz (Sim.look s.h) 0 y=some b/\RC false a b:=by
 unfold rzK at hk;split at hk;rename_i vs;obtain⟨cs',rfl,hl⟩:=Jd hv;obtain⟨xs',f,p,q,g⟩:=Gf c hk hl;exact⟨_,.tup f,p,by simp only[fz,q,lK2],.tup g.1 g.2⟩;rename_i k;rw[dY,kK2]at hk;obtain⟨ob,hg,hk⟩:=hk;cases ob with
 |mp es=>
  obtain⟨id,ver,e,len,j,rfl⟩:=sJ hv;obtain⟨_,es',l,he⟩:=Fh c hg j;refine⟨_,.im es',hk,?_,he.er.im⟩;simp only[fz,Nat.not_lt_zero,lQ2,l];exact congrArg (Option.map AV.im) (Te he)
 |_=>exact aD hk
 rename_i o m;obtain⟨a,b,h1,h2,i⟩:=Ly c hk hv;by_cases d:x=.undef;subst d;exact aD hk;exact⟨a,b,h1,Tu h2 (Oz hv o d) (Pa hv m (fun es he=>by subst he;exact aD hk) d),i⟩
variable {T:gB} {O:qR} {X:NX}
theorem Gg (B:∀f xs v,O f xs=some v->lE T f xs v) (C:NOK T X) {fn:bM} (m:rC X.is fn.ntmps false fn.code=true) {xs:aA PV} {ys:aA AV} {v:PV} (hl:LR (RC false) xs ys) (hk:xO O X fn xs some=some v):
  ∃D,∀d,D<=d->∃w s' y,Sim.body (exec T d) 0 (Hn false fn) ys {h:=[],n:=0}=some (w,s')/\Sim.fz (Sim.look s'.h) 0 w=some y/\RC false v y:=by
 unfold xO at hk;cases c:Nat.ble xs.length fn.ntmps with
 |false=>rw[c]at hk;exact aD hk
 |true=>
  rw[c,lA2,xP]at hk;have c:xs.length<=fn.ntmps:=by simpa[Nat.ble_eq]using c
  have hlen:=hl.1;have A:cD ⟨fun _=>none,fun _=>none⟩ 0 [] 0 ({h:=[],n:=0}:Hp):=⟨⟨fun k po h=>by simp[aK]at h,fun k k' id v e l v' e' l' a=>absurd rfl a,fun id o h=>by cases h⟩,fun k pl h=>(by cases h),trivial,kO2 _⟩
  have he:cP ⟨fun _=>none,fun _=>none⟩ (tZ xs 0) (ys++List.replicate (fn.ntmps-ys.length) .undef):=fun i v hv=>by
   obtain⟨_,h2⟩:=sQ xs 0 i v hv;obtain⟨y,r,z⟩:=hl.get (by simpa using h2);exact⟨y,by rw[nR2 (kM2.1 r).1];exact r,.cl z⟩
  obtain⟨x,e',h',n',C',H,s',q1,q2,q3,q4,q5,q6,D,q7⟩:=dJ (T:=T) (rd:=false) (lim:=0) (N:=fn.ntmps) B C fn.code _ v _ 0 [] _ (ys++List.replicate (fn.ntmps-ys.length) .undef) _ hk he A (by simp;omega) m
  have fin:(∀i,x≠.exit i)->(xN e' h' n' fn.res fun vs=>match vs with|[v]=>rzK h' v some|vs=>rzK h' (.tup vs) some)=some v->
    ∃D,∀d,D<=d->∃w s' y,Sim.body (exec T d) 0 (Hn false fn) ys {h:=[],n:=0}=some (w,s')/\Sim.fz (Sim.look s'.h) 0 w=some y/\RC false v y:=by
   intro E hr;obtain⟨vs,u,p,s,g⟩:=rD q3 q2 hr
   obtain⟨w,y,p1,p2,p3⟩:∃w y,Sim.results (Sim.look s'.h) H fn.res=some w/\Sim.fz (Sim.look s'.h) 0 w=some y/\RC false v y:=by
    split at p;rename_i v1;obtain⟨w,J,rfl,F,G⟩:=g.inv_cons;have:=G.inv_nil;subst this;obtain⟨K,q,z1,z2,z3⟩:=Tv q3 p F;cases z1;exact⟨w,q,by simp only[Sim.results,s],z2,z3⟩;rename_i j;obtain⟨K,q,z1,z2,z3⟩:=Tv q3 p (y:=.tup u) (.tup g.1 g.2);cases z1;refine⟨.tup u,q,?_,z2,z3⟩;simp only[Sim.results,s];split;rename_i w hw;cases hw;have:=g.1;rcases vs with _|⟨a,_|⟨b,t⟩⟩<;>simp at this;exact absurd rfl (j a)
    grind
    grind
   refine⟨D,fun d hd=>⟨w,s',y,?_,p2,p3⟩⟩;simp only[Sim.body,Hn,q7 d hd];cases x with
   |exit i=>exact absurd rfl (E i)
   |normal=>simp only[p1,lK2]
   |ret=>simp only[p1,lK2]
  cases x with
  |exit i=>exact aD q1
  |normal=>exact fin (fun i h=>by cases h) q1
  |ret=>exact fin (fun i h=>by cases h) q1
theorem Lz (q:∀f xs v,O f xs=some v->lE T f xs v) (u:NOK T X) {fn:bM} (j:rC X.is fn.ntmps false fn.code=true) {xs:aA PV} {ys:aA AV} {h:aN} {n:Nat} {K:PV->aN->Nat->aB R} {r:R} {C:Cx} {s:Hp} {lim:Nat}
  (hk:Jl O X fn xs h n K=some r) (hl:LR (RV C) xs ys) (p:cD C n h lim s):
  ∃v h' n' C' y s',K v h' n'=some r/\RV C' v y/\cD C' n' h' lim s'/\n<=n'/\Fr C h s C' h' s'/\∃D,∀d,D<=d->Sim.body (exec T d) lim (Hn true fn) ys s=some (y,s'):=by
 unfold Jl at hk;cases c:Nat.ble xs.length fn.ntmps with
 |false=>rw[c]at hk;exact aD hk
 |true=>
  rw[c,lA2,xP]at hk;have c:xs.length<=fn.ntmps:=by simpa[Nat.ble_eq]using c
  have hlen:=hl.1
  have he:cP C (tZ xs 0) (ys++List.replicate (fn.ntmps-ys.length) .undef):=fun i v hv=>by
   obtain⟨_,h2⟩:=sQ xs 0 i v hv;obtain⟨y,l,o⟩:=hl.get (by simpa using h2);exact⟨y,by rw[nR2 (kM2.1 l).1];exact l,o⟩
  obtain⟨x,e',h',n',C',E,s',q1,q2,q3,q4,q5,q6,D,q7⟩:=dJ (T:=T) (rd:=false) (lim:=lim) (N:=fn.ntmps) q u fn.code _ r _ n h _ (ys++List.replicate (fn.ntmps-ys.length) .undef) s hk he p (by simp;omega) j
  have fin:(∀i,x≠.exit i)->(xN e' h' n' fn.res fun vs=>match vs with|[v]=>K v h' n'|vs=>K (.tup vs) h' n')=some r->
    ∃v h' n' C' y s',K v h' n'=some r/\RV C' v y/\cD C' n' h' lim s'/\n<=n'/\Fr C h s C' h' s'/\∃D,∀d,D<=d->Sim.body (exec T d) lim (Hn true fn) ys s=some (y,s'):=by
   intro z hr;obtain⟨vs,F,k,m,e⟩:=rD q3 q2 hr
   obtain⟨v,w,p1,p2,p3⟩:∃v w,K v h' n'=some r/\Sim.results (Sim.look s'.h) E fn.res=some w/\RV C' v w:=by
    split at k;rename_i v1;obtain⟨w,G,rfl,A,B⟩:=e.inv_cons;have:=B.inv_nil;subst this;exact⟨v1,w,k,by simp only[Sim.results,m],A⟩;rename_i g;refine⟨.tup vs,.tup F,k,?_,.tup e.1 e.2⟩;simp only[Sim.results,m];split;rename_i w hw;cases hw;have:=e.1;rcases vs with _|⟨a,_|⟨b,t⟩⟩<;>simp at this;exact absurd rfl (g a)
    grind
    grind
   refine⟨v,h',n',C',w,s',p1,p3,q3,q5,q6,D,fun d hd=>?_⟩;simp only[Sim.body,Hn,q7 d hd];cases x with
   |exit i=>exact absurd rfl (z i)
   |normal=>simp only[p2,lK2]
   |ret=>simp only[p2,lK2]
  cases x with
  |exit i=>exact aD q1
  |normal=>exact fin (fun i h=>by cases h) q1
  |ret=>exact fin (fun i h=>by cases h) q1
theorem Gi {C:Cx}:∀{ps:aA Nat} {xs:aA PV} {ys:aA AV} {e:dU} {t:aA AV} {K:dU->aB R} {r:R},yN e ps xs K=some r->cP C e t->LR (RV C) xs ys->ps.all (fun p=>Nat.blt p t.length)=true->
  ∃e',K e'=some r/\cP C e' (Sim.putAll t ps ys)/\ps.length=ys.length/\(Sim.putAll t ps ys).length=t.length
 |[],[],ys,e,t,K,r,hk,he,hl,_=>by
  rw[hl.inv_nil]
  exact⟨e,by unfold yN at hk;exact hk,he,rfl,rfl⟩
 |p::ps,x::xs,ys,e,t,K,r,hk,he,hl,hp=>by
  obtain⟨y,h,rfl,h1,h2⟩:=hl.inv_cons
  unfold yN at hk
  rw[dM]at hk
  simp only[mJ2,kL2,mR2]at hp
  have a:cP C ((p,x)::edel e [p]) (t.set p y):=.put hp.1 h1 (fun i w hw=>by
   obtain⟨z,p1,p2,p3⟩:=he.edel [p] i w hw
   exact⟨z,p1,p2,fun b=>p3 (by simp[b])⟩)
  obtain⟨e2,c,d,f,g⟩:=Gi hk a h2 (by simpa using hp.2)
  exact⟨e2,c,d,by simp[f],by simpa[Sim.putAll]using g⟩
 |[],_::_,_,_,_,_,_,hk,_,_,_=>by unfold yN at hk;exact aD hk
 |_::_,[],_,_,_,_,_,hk,_,_,_=>by unfold yN at hk;exact aD hk
theorem Yq (hO:∀f xs v,O f xs=some v->lE T f xs v) (hX:NOK T X) {k:Nat} {xs:aA PV} {ys:aA AV} {h:aN} {n:Nat} {K:PV->aN->Nat->aB R} {r:R} {C:Cx} {s:Hp} {lim id ver e1 len:Nat}
  (hk:Yo O X k xs h n K=some r) (hl:LR (RV C) xs ys) (hC:C k=some (.atp id ver e1 len)) (hM:cD C n h lim s):
  ∃v h' n' C' y s',K v h' n'=some r/\RV C' v y/\cD C' n' h' lim s'/\n<=n'/\Fr C h s C' h' s'/\∃D,∀d,D<=d->Sim.round (exec T d) lim id ys s=some (y,s'):=by
 unfold Yo at hk;rw[dY,kK2]at hk;obtain⟨ob,L,hk⟩:=hk;split at hk
 .rename_i N e ps a b
  rw[bO,kK2]at hk;obtain⟨_,o,hk⟩:=hk;unfold okG at o;split at o
  .rename_i g
   unfold okL at g;rw[kL2,kL2]at g;have o1:=g.1.1;have o2:=g.1.2;have o3:=g.2;clear o g;obtain⟨J,st,pend,tmps,g1,g2,g3,g4⟩:=uT hM L hC;obtain⟨rfl,rfl⟩:=g4;subst g2;obtain⟨e2,hk,he,W,Y⟩:=Gi hk g3 hl o1;obtain⟨x,e',h1,n1,C1,t1,P,q1,q2,q3,q4,q5,q6,D1,q7⟩:=dJ (T:=T) (rd:=true) (lim:=lim) (N:=tmps.length) hO hX a _ r _ n h _ _ s hk he hM Y o2;cases x with
   |exit i=>exact aD q1
   |ret=>exact aD q1
   |normal=>
   simp only[dY,kK2]at q1;obtain⟨p,l,q1⟩:=q1
   have place:∀{C1:Cx} {h1:aN} {P:Hp} {p:fH},Fr C h s C1 h1 P->aK h1 k=some p->eG p=true->C1 k=some (.atp id ver e1 len):=fun{C1 h1 P p} hf hg hb=>by
    obtain⟨o',p1,p2⟩:=hf.kd k _ L;rw[hg]at p1;cases p1;rw[(p2 hb).2,hC]
   split at q1
   .rename_i N2 V E a2 b2
    have z:=place q6 l rfl;obtain⟨_,st,pend,j,w1,w2,w3,w4⟩:=uT q3 l z;obtain⟨rfl,rfl⟩:=w4;subst w2;have q1:=dI _ _ _ _ _ q1;have u:=(q3.hr.lt (by rw[l];simp) z)
    obtain⟨m1,m2⟩:=pF q3 (po':=.loop j.length V E a2 b2 true none) (ao:=.loop .busy none j E (iB a2) (iB b2)) l z ⟨u.1,u.2,.busy,none,j,by rw[Sim.look_upd,kT2 ⟨rfl,by rw[w1];rfl⟩],rfl,w3,rfl⟩ rfl;obtain⟨x2,e3,h2,n2,C2,t2,S,z1,z2,z3,z4,z5,z6,D2,z7⟩:=dJ (T:=T) (rd:=true) (lim:=lim) (N:=tmps.length) hO hX b _ r _ n1 _ _ _ _ q1 q2 m1 q4 o3;simp only[kK2]at z1;obtain⟨b4,m,z1⟩:=z1;have G:=(q6.trans m2).trans z6;split at z1
    .rename_i N3 F q a3 b3 U b0
     have A:=place G m rfl;obtain⟨_,b5,a0,c,v1,v2,v3,v4⟩:=uT z3 m A;subst v2;have w:=(z3.hr.lt (by rw[m];simp) A)
     have fin:∀(fn:aB Ex) (st:LoopState) (B:aB IC) (bv:Bool),StR false fn st B->(fP h2 k (.loop c.length F q a3 b3 false fn) fun h=>K (.v (.bool bv)) h n2)=some r->
       (∀s',Sim.endRound id S st B=some s'->∀d,D2<=d->(match exec T d lim true (iB b) {t:=t1,s:={h:=upd P.h id (.loop .busy none j E (iB a2) (iB b2)),n:=P.n}}with
        |some (.normal,τ)=>(Sim.endRound id τ.s .ready none).map fun s=>(AV.bool true,s)
        |some (.ret,τ)=>(Sim.endRound id τ.s .done (some .ret)).map fun s=>(AV.bool false,s)
        |some (.exit i,τ)=>(Sim.endRound id τ.s .done (some (.exit i))).map fun s=>(AV.bool false,s)
        |none=>none)=some (AV.bool bv,s'))->
       ∃v h' n' C' y s',K v h' n'=some r/\RV C' v y/\cD C' n' h' lim s'/\n<=n'/\Fr C h s C' h' s'/\∃D,∀d,D<=d->Sim.round (exec T d) lim id ys s=some (y,s'):=by
      intro fn st B bv Z hk M;have hk:=dI _ _ _ _ _ hk;obtain⟨m3,m4⟩:=pF z3 (po':=.loop c.length F q a3 b3 false fn) (ao:=.loop st B c q (iB a3) (iB b3)) m A ⟨w.1,w.2,st,B,c,by rw[Sim.look_upd,kT2 ⟨rfl,by rw[v1];rfl⟩],rfl,v3,Z⟩ rfl;refine⟨_,_,_,_,.v (.bool bv),_,hk,.cl (.v _),m3,by omega,G.trans m4,D1+D2,fun d hd=>?_⟩;have H:Sim.endRound id S st B=some {h:=upd S.h id (.loop st B c q (iB a3) (iB b3)),n:=S.n}:=by simp only[Sim.endRound,v1]
      simp only[Sim.round,g1];rw[kT2 ⟨J,W⟩,q7 d (by omega)];simp only[w1];exact M _ H d (by omega)
     cases x2 with
     |normal=>exact fin none .ready none true ⟨rfl,rfl⟩ z1 (fun s' hs' d hd=>by rw[z7 d hd];simp only[hs',lK2])
     |exit i=>exact fin (some (.exit i)) .done (some (.exit i)) false ⟨rfl,rfl⟩ z1 (fun s' hs' d hd=>by rw[z7 d hd];simp only[hs',lK2])
     |ret=>exact fin (some .ret) .done (some .ret) false ⟨rfl,rfl⟩ z1 (fun s' hs' d hd=>by rw[z7 d hd];simp only[hs',lK2])
    .exact aD z1
   .exact aD q1
  .cases o
 .exact aD hk
theorem Gj {B:qR} {NF:FuncId->Bool} {NW:NB} {P:pL} (d:Nat):(OX B NF NW P d).2.is=NF:=by cases d<;>rfl
theorem Ca {f:FuncId} {ifn:IFn} {ys:aA AV} {v:PV} (b:T.memo f ys=none) (h:∃D,∀d,D<=d->∃w s' y,Sim.body (exec T d) 0 ifn ys {h:=[],n:=0}=some (w,s')/\Sim.fz (Sim.look s'.h) 0 w=some y/\RC false v y):
  ∃D,∀d,D<=d->∃y,Sim.runP T (exec T d) f ifn ys=some y/\RC false v y:=by
 obtain⟨D,a⟩:=h;refine⟨D,fun d hd=>?_⟩;obtain⟨w,s',y,c,e,g⟩:=a d hd;exact⟨y,by simp only[Sim.runP,b,c,e],g⟩
def yO (T:gB) (NF:FuncId->Bool) (P:pL) (run:Gb):Prop:=∀(f:FuncId) (xs:aA PV) (h:aN) (n:Nat) (v:PV) (h':aN) (n':Nat) (C:Cx) (s:Hp) (lim:Nat) (ys:aA AV),
 NF f=true->P f=none->run f xs h n=some (v,h',n')->LR (RV C) xs ys->cD C n h lim s->
 ∃C' y s',RV C' v y/\cD C' n' h' lim s'/\n<=n'/\Fr C h s C' h' s'/\(∃ifn,T f=some ifn/\ifn.pure=false/\ifn.frz=false)/\∃D,∀d,D<=d->Sim.callF T (exec T d) lim f ys s=some (y,s')
theorem Tw {B:qR} {NF:FuncId->Bool} {NW:NB} {P:pL} (l:∀f xs v,NF f=false->B f xs=some v->lE T f xs v) (p:yO T NF P NW.run) (m:∀f fn,P f=some fn->T f=some (Hn (NF f) fn)/\rC NF fn.ntmps false fn.code=true/\∀ys,T.memo f ys=none):
  ∀d,(∀f xs v,(OX B NF NW P d).1 f xs=some v->lE T f xs v)/\NOK T (OX B NF NW P d).2
 |0=>⟨fun f xs v h=>by
   simp only[OX]at h
   cases hn:NF f with
   |true=>rw[hn]at h;exact aD h
   |false=>rw[hn]at h;exact l f xs v hn h,⟨fun f xs h n K r C s lim ys c hk=>by simp[OX]at hk,fun k xs h n K r C s lim ys id ver e len hk=>by simp[OX]at hk⟩⟩
 |d+1=>by
  obtain⟨g,i⟩:=Tw l p m d
  refine⟨fun f xs v h=>?_,⟨fun f xs h n K r C s lim ys c hk hl b=>?_,fun k xs h n K r C s lim ys id ver e len hk hl t b=>?_⟩⟩
  simp only[OX]at h
  cases hn:NF f with
  |true=>rw[hn]at h;exact aD h
  |false=>
   rw[hn,lN2]at h
   split at h
   rename_i fn a
   obtain⟨h1,h2,j⟩:=m f fn a
   rw[hn]at h1
   cases hz:fn.frz with
   |true=>
    rw[hz,lA2]at h
    exact⟨Hn false fn,h1,rfl,fun _=>by simp[Hn,hz],fun ys hl=>Ca (j ys) (Gg g i (by rw[Gj];exact h2) hl h)⟩
   |false=>
    rw[hz,lN2,kK2]at h
    obtain⟨v',h,hg⟩:=h
    cases hq:sG 4 v' with
    |true=>rw[hq]at hg;exact aD hg
    |false=>
     rw[hq]at hg
     cases hg
     exact⟨Hn false fn,h1,rfl,fun q=>(by rw[hq]at q;cases q),fun ys hl=>Ca (j ys) (Gg g i (by rw[Gj];exact h2) hl h)⟩
   exact l f xs v hn h
  simp only[OX]at c hk
  split at hk
  rename_i fn a
  obtain⟨h1,h2,j⟩:=m f fn a
  rw[c]at h1
  obtain⟨v,h',n',C',y,s',p1,p2,p3,p4,p5,D,p6⟩:=Lz g i (by rw[Gj];exact h2) hk hl b
  refine⟨v,h',n',C',y,s',p1,p2,p3,p4,p5,⟨_,h1,rfl,rfl⟩,D,fun d hd=>?_⟩
  simp only[Sim.callF,h1]
  exact p6 d hd
  rename_i a
  rw[kK2]at hk
  obtain⟨⟨v,h',n'⟩,o,hk⟩:=hk
  obtain⟨C',y,s',p2,p3,p4,p5,p6,p7⟩:=p f xs h n v h' n' C s lim ys c a o hl b
  exact⟨v,h',n',C',y,s',hk,p2,p3,p4,p5,p6,p7⟩
  simp only[OX]at hk
  exact Yq g i hk hl t b
theorem eT1 {B:qR} {NF:FuncId->Bool} {NW:NB} {P:pL} (a:∀f xs v,NF f=false->B f xs=some v->lE T f xs v) (b:yO T NF P NW.run) (c:∀f fn,P f=some fn->T f=some (Hn (NF f) fn)/\rC NF fn.ntmps false fn.code=true/\∀ys,T.memo f ys=none) (d:Nat) (f:FuncId) (xs:aA PV) (v:PV) (h:Od B NF NW P d f xs=some v):lE T f xs v:=(Tw a b c d).1 f xs v h
theorem lN1 {B:qR} {NF:FuncId->Bool} {NW:NB} {P:pL} {f:FuncId} {fn:bM} (a:NF f=false) (h:P f=some fn) (b:fn.frz=true) (d:Nat) (xs:aA PV):Od B NF NW P (d+1) f xs=xO (Od B NF NW P d) (Xd B NF NW P d) fn xs some:=by
 simp only[Od,Xd,OX,h,a,b,lN2,lA2]
theorem lO1 {R:Type} {B:qR} {NF:FuncId->Bool} {NW:NB} {P:pL} {f:FuncId} {fn:bM} (h:P f=some fn) (d:Nat) (xs:aA PV) (a:aN) (n:Nat) (K:PV->aN->Nat->aB R):(Xd B NF NW P (d+1)).run f xs a n K=Jl (Od B NF NW P d) (Xd B NF NW P d) fn xs a n K:=by
 simp only[Od,Xd,OX,h]
theorem Yr {R:Type} {B:qR} {NF:FuncId->Bool} {NW:NB} {P:pL} {f:FuncId} (h:P f=none) (d:Nat) (xs:aA PV) (a:aN) (n:Nat) (K:PV->aN->Nat->aB R):(Xd B NF NW P (d+1)).run f xs a n K=(NW.run f xs a n).bind fun r=>K r.1 r.2.1 r.2.2:=by
 simp only[Xd,OX,h]
theorem Ma {B:qR} {NF:FuncId->Bool} {NW:NB} {P:pL} {f:FuncId} (a:NF f=false) (h:P f=none) (d:Nat) (xs:aA PV):Od B NF NW P d f xs=B f xs:=by
 cases d with
 |zero=>simp only[Od,OX,a,lN2]
 |succ d=>simp only[Od,OX,h,a,lN2]
theorem Tx {C0 C':Cx} {h h' h2:aN} {n n' lim:Nat} {s s':Hp} {v v':PV} {y:AV} (d:cD C0 n h lim s) (hv:RV C' v y) (r:cD C' n' h' lim s') (hf:Fr C0 h s C' h' s') (hk:yM h false n v h' n'=some (v',h2,0)):
  RV (iU C' (fY h2)) v' y/\cD (iU C' (fY h2)) n h2 lim s'/\Fr C0 h s (iU C' (fY h2)) h2 s':=by
 unfold yM at hk;obtain⟨p,w1⟩:=eK (fR 5) _ _ _ _ hk;obtain⟨x,w1⟩:=dW _ _ _ _ _ w1;obtain⟨a,_,w1,g⟩:=oF w1;cases hch2:(Oa a (pE h)&&(bif false then Nz h n a else Oc h a)&&(jT (fY a) 5 v&&gY (fY a) a))with
 |false=>rw[hch2]at w1;exact aD w1
 |true=>
 rw[hch2,lA2]at w1;cases w1;simp only[kL2,lN2]at hch2;obtain⟨⟨c1,c2⟩,c3,c4⟩:=hch2;have b:∀k o,aK h2 k=some o->aK h' k=some o:=fun k o u=>by grind
 have m:∀{k},aK h k≠none->aK h2 k≠none:=fun{k} hk=>sO c1 k (pJ hk);have i:∀{k},aK h2 k≠none->aK h' k≠none:=fun{k} hk=>by grind
 have c:=r.part b c4
 have q:∀{k pl},iU C' (fY h2) k=some pl->C' k=some pl/\aK h2 k≠none:=fun{k pl} hk=>by
  simp only[iU]at hk;split at hk;rename_i t;exact⟨hk,hJ.1 t⟩;cases hk
 refine⟨uR hv c3,⟨c.hr,fun k pl hk=>?_,c.wf,c.lim⟩,⟨hf.sk,hf.n,hf.keep,fun id j w=>?_,fun k o hk=>?_,hf.zl,hf.zn⟩⟩;have:=oG c2 (q hk).2;cases hc:aK h k with
 |none=>exact absurd hc this
 |some o=>obtain⟨pl,p1,_⟩:=d.hr.ob k o hc;exact d.dom k pl p1
 obtain⟨k,v,e,l,q1,q2⟩:=w;exact hf.own id j ⟨k,v,e,l,i q1,(q q2).1⟩;obtain⟨o',q1,q2⟩:=hf.kd k o hk;have f:=m (k:=k) (by rw[hk];simp);cases hc:aK h2 k with
 |none=>exact absurd hc f
 |some o2=>
  have:=b k o2 hc;rw[q1]at this;cases this;refine⟨o',rfl,fun hb=>⟨(q2 hb).1,?_⟩⟩;simp only[iU];rw[kT2 (hJ.2 f)];exact(q2 hb).2
end
def nU (cl:Nat->aB (Nat×Nat)):Gb:=fun f xs h n=>match xs,h with
 |[.is e rows],[]=>(cl f).bind fun p=>bif Nat.beq p.2 e&&Nat.ble rows.length 1073741824 then some (.own n,[(n,.lst p.1 e true rows)],n+1)else none
 |_,_=>none
end Go.P
namespace Go.P
open Go.Sim (AV Hp gB exec)
section
variable {T:gB}
noncomputable def sR {A B:Type} (f0 n0:Nat) (xs:A->aA PV) (h:A->aN) (h':A->B->aN) (G:A->aB B):Gb:=fun f x c n=>
 open Classical in if q:f=f0/\n=n0/\∃a,x=xs a/\c=h a then(G q.2.2.choose).map fun b=>(.tup [],h' q.2.2.choose b,n)else none
theorem Pb {A B:Type} {f0 n0:Nat} {xs:A->aA PV} {h:A->aN} {h':A->B->aN} {G:A->aB B} (hi:∀a b,xs a=xs b->h a=h b->a=b) (a:A):
  sR f0 n0 xs h h' G f0 (xs a) (h a) n0=(G a).map fun b=>(.tup [],h' a b,n0):=by
 have q:f0=f0/\n0=n0/\∃b,xs a=xs b/\h a=h b:=⟨rfl,rfl,a,rfl,rfl⟩
 unfold sR;rw[dif_pos q,show q.2.2.choose=a from(hi _ _ q.2.2.choose_spec.1 q.2.2.choose_spec.2).symm]
theorem uA {A B:Type} {f0 n0:Nat} {xs:A->aA PV} {h:A->aN} {h':A->B->aN} {G:A->aB B} {f:FuncId} {x:aA PV} {c:aN} {n:Nat} {r:PV×aN×Nat} (hk:sR f0 n0 xs h h' G f x c n=some r):
  f=f0/\n=n0/\∃a b,x=xs a/\c=h a/\G a=some b/\r=(.tup [],h' a b,n0):=by
 unfold sR at hk;split at hk;rename_i q;obtain⟨b,hb,he⟩:=kN2.1 hk;exact⟨q.1,q.2.1,_,b,q.2.2.choose_spec.1,q.2.2.choose_spec.2,hb,by rw[<-he];exact congrArg (fun m=>((.tup []:PV),h' q.2.2.choose b,m)) q.2.1⟩;cases hk
def Mb (a b:Gb):Gb:=fun f x h n=>match a f x h n with|some r=>some r|none=>b f x h n
theorem Mc {NF:FuncId->Bool} {P:pL} {a b:Gb} (c:yO T NF P a) (hb:yO T NF P b):yO T NF P (Mb a b):=by
 intro f xs h n v h' n' C s lim ys h1 h2 hk;unfold Mb at hk;split at hk;rename_i r hr;cases hk;exact c f xs h n v h' n' C s lim ys h1 h2 hr;exact hb f xs h n v h' n' C s lim ys h1 h2 hk
theorem Pc {O:qR} {X:NX} {NF:FuncId->Bool} {P:pL} {run:Gb} {f0:FuncId} {fn:bM} (c:∀f xs v,O f xs=some v->lE T f xs v) (e:NOK T X)
  (b:T f0=some (Hn true fn)) (hp:rC X.is fn.ntmps false fn.code=true)
  (hr:∀f xs h n v h' n',run f xs h n=some (v,h',n')->f=f0/\n'=n/\Jl O X fn xs h n (yM h false n)=some (v,h',0)):yO T NF P run:=by
 intro f xs h n v h' n' C s lim ys hf _ hk hl a;obtain⟨rfl,rfl,hd⟩:=hr f xs h n v h' n' hk;obtain⟨v1,h1,k,C1,y,s',q1,q2,q3,q4,q5,D,q6⟩:=Lz c e hp hd hl a;obtain⟨g,i,j⟩:=Tx a q2 q3 q5 q1
 exact⟨_,y,s',g,i,kO2 _,j,⟨_,b,rfl,rfl⟩,D,fun d hd=>by
  simp only[Sim.callF,b];exact q6 d hd⟩
end
end Go.P
namespace Go.P
open Go.Sim (Ex dQ CK)
theorem Yt {α β γ δ:Type} {X:aB γ} {Y:aB α} {e:α->γ} {K:γ->aB δ} {F:α->aB β} {enc:β->δ} (h:X=Y.map e) (hk:∀y,K (e y)=(F y).map enc):bS X K=(Y.bind F).map enc:=by
 rw[bO];subst h;cases Y<;>simp[hk]
theorem lP1 {β γ:Type} {b:Bool} {X Y:aB γ} {FX FY:aB β} {enc:β->γ} (a:X=FX.map enc) (hy:Y=FY.map enc):Hl b X Y=(if b then FX else FY).map enc:=by
 rw[lV];subst a hy;cases b<;>rfl
theorem aJ {S E S' E':Type} {enc:S->S'} {encE:E->E'} {B:S'->aB (S'⊕E')} {F:S->aB (S⊕E)} (h:∀s,B (enc s)=(F s).map (Sum.map enc encE)):∀(n:Nat) (s:S),aQ B n (enc s)=(aQ F n s).map encE
 |0,s=>rfl
 |n+1,s=>by
  simp only[aQ,h]
  cases F s with
  |none=>rfl
  |some r=>
   cases r with
   |inl s'=>exact aJ h n s'
   |inr e=>rfl
def aR {A:Type} (l:aA A) (i:Int):aB A:=if 0<=i then l[i.toNat]? else none
theorem Jm {A:Type} (f:A->aA PV) (l:aA A) (i:Int):sD (l.map f) i=(aR l i).map f:=by
 unfold sD aR;split<;>simp
def i64 (n:Int):PV:=.v (.int .i64 n)
def bv (b:Bool):PV:=.v (.bool b)
end Go.P
namespace Go.P
open Go.Sim (Ex dQ CK maxRoom)
def aU (n:Int):Int:=IntKind.wrap .i64 n
def eA {A:Type} (f:A->aA PV) (x:A):PV:=.agg (f x)
def cI (n:Int):aA PV:=[i64 n]
def Ty (b:UInt8):aA PV:=[.v (.int .u8 (b.toNat:Int))]
def cB (b:Bool):aA PV:=[bv b]
def cZ {K V:Type} (f:K->PV) (g:V->PV) (p:K×V):PV×PV:=(f p.1,g p.2)
section
variable {γ δ:Type}
theorem lQ1 {X:aB γ} {x:γ} {K:γ->aB δ} {r:aB δ} (h:X=some x) (hk:K x=r):bS X K=r:=by
 rw[bO,h];exact hk
theorem eM {b x:Bool} {X:aB Bool} (h:X=some x):Hl b X (some false)=some (b&&x):=by
 rw[lV,h];cases b<;>rfl
theorem fA {b x:Bool} {X:aB Bool} (h:X=some x):Hl b (some true) X=some (b||x):=by
 rw[lV,h];cases b<;>rfl
theorem oid {A:Type} (x:aB A):x=x.map id:=by simp
end
section
variable {A:Type}
theorem cK (c:A->aA PV) (l:aA A):some (l.map c).length=some l.length:=by simp
def cF (l:aA A) (i:Int):aB Nat:=oS l.length i
theorem aW (c:A->aA PV) (l:aA A) (i:Int):oS (l.map c).length i=(cF l i).map id:=by simp[cF]
def dA (l:aA A) (i:Nat):aB A:=l[i]?
theorem bY {c:A->aA PV} {o:Nat} {g:A->PV} (h:∀x,(c x)[o]? =some (g x)) (l:aA A) (i:Nat):wM (l.map c) i o=(dA l i).map g:=by
 unfold wM dA;rw[lS2];cases l[i]? with
 |none=>rfl
 |some x=>exact h x
theorem bX {c:A->aA PV} {o n m:Nat} {g:A->aA PV} (h:∀x,(c x).length=m/\((c x).drop o).take n=g x) (a:o+n<=m) (l:aA A) (i:Nat):qN (l.map c) i o n=(dA l i).map g:=by
 unfold qN dA;rw[lS2];cases l[i]? with
 |none=>rfl
 |some x=>simp[(h x).1,(h x).2,a]
def kW (l:aA A) (i:Nat) (f:A->A):aB (aA A):=(l[i]?).map fun x=>l.set i (f x)
theorem eT {c:A->aA PV} {o:Nat} {cs:aA PV} {f:A->A} {m:Nat} (h:∀x,(c x).length=m/\Sim.setL (c x) o cs=c (f x)) (a:o+cs.length<=m) (l:aA A) (i:Nat):wL (l.map c) i o cs=(kW l i f).map (List.map c):=by
 unfold wL kW;rw[lS2];cases l[i]? with
 |none=>rfl
 |some x=>simp[(h x).1,(h x).2,a]
def mE (l:aA A) (a b:Int):aB (aA A):=if 0<=a/\a<=b/\b<=l.length then some ((l.drop a.toNat).take (b.toNat-a.toNat))else none
theorem mF (f:A->aA PV) (l:aA A) (a b:Int):lA (l.map f) a b=(mE l a b).map (List.map f):=by
 unfold lA mE;simp only[nM2];split;simp_all;rfl
theorem yP (f:A->aA PV) (l:aA A) (a:Int):lA (l.map f) a (l.map f).length=(mE l a l.length).map (List.map f):=by
 rw[mF,nM2]
def xQ (l:aA A) (h:Int):aB (aA A):=if 0<=h/\h<=l.length then some (l.take h.toNat)else none
theorem yQ (f:A->aA PV) (l:aA A) (h:Int):oC (l.map f) h=(xQ l h).map (List.map f):=by
 unfold oC xQ;simp only[nM2];split;simp[List.map_take];rfl
def iF (g:Bool) (l m:aA A):aB (aA A):=if l.length+m.length<=maxRoom/\(g=true->m.length<=1)then some (l++m)else none
theorem bV (g:Bool) (f:A->aA PV) (l m:aA A):appRows g (l.map f) (m.map f)=(iF g l m).map (List.map f):=by
 unfold appRows iF;simp only[nM2];split;simp;rfl
def uB (l c:Int) (z:A):aB (aA A):=if 0<=l/\l<=c/\c<=maxRoom then some (List.replicate l.toNat z)else none
theorem jE (f:A->aA PV) (l c:Int) (z:A):nL l c (f z)=(uB l c z).map (List.map f):=by
 unfold nL uB;split;simp;rfl
theorem pM (k:IntKind) (l:aA Int) (i:Int) {n:Nat} (h:l.length=n):qO (l.map fun x=>PV.v (.int k x)) i n 1=(aR l i).map (fun x=>PV.v (.int k x)):=by
 subst h;unfold qO aR;by_cases h0:0<=i
 grind
 grind
theorem Gk {c:A->aA PV} {e:Nat} (hc:∀x,(c x).length=e):∀(l:aA A) (j:Nat),j<l.length->((l.flatMap c).drop (j*e)).take e=((l[j]?).map c).getD []/\(j+1)*e<=(l.flatMap c).length
 |[],j,h=>by simp at h
 |x::l,0,h=>by grind
 |x::l,j+1,h=>by
  have a:=hc x
  obtain⟨h1,h2⟩:=Gk hc l j (by simpa using h)
  constructor
  rw[List.flatMap_cons,show(j+1)*e=(c x).length+j*e by rw[a,mK2];omega,<-nC2,List.drop_left]
  simpa using h1
  grind
theorem Gl (c:A->aA PV) (l:aA A) (i:Int) {n e:Nat} (h:l.length=n) (hc:∀x,(c x).length=e) {cs:aA PV} (a:cs=l.flatMap c):nK cs i n e=(aR l i).map c:=by
 subst h a;unfold nK aR;by_cases h0:0<=i;by_cases h1:i<l.length;obtain⟨h2,b⟩:=Gk hc l i.toNat (by omega)
 rw[kT2 ⟨h0,h1,b⟩,h2,kT2 h0];rw[lV2 (by omega)];rfl
 grind
 grind
end
def Yu (k:IntKind) (a b:Int):aB Int:=if b<0 then none else some (k.wrap (a*2^min b.toNat k.bits))
def rE (k:IntKind) (a b:Int):aB Int:=if b<0 then none else some (a.fdiv (2^min b.toNat k.bits))
def Gm (k:IntKind) (a b:Int):aB Int:=if b=0 then none else some (k.wrap (a.tdiv b))
def Tz (k:IntKind) (a b:Int):aB Int:=if b=0 then none else some (a.tmod b)
def Gn (k:IntKind) (a b:Int):Int:=k.wrap (BitVec.ofInt k.bits a&&&BitVec.ofInt k.bits b).toNat
def Jn (k:IntKind) (a b:Int):Int:=k.wrap (BitVec.ofInt k.bits a|||BitVec.ofInt k.bits b).toNat
structure uC {K:Type} [DecidableEq K] (ek:K->PV) (agg:Bool) (ks:List CK):Prop where
 ok:∀a,sF agg ks (ek a)=true
 eq:∀a b,nM agg ks (ek a) (ek b)=some (decide (a=b))
section
variable {K V:Type} [DecidableEq K] {ek:K->PV} {agg:Bool} {ks:List CK}
def hU (k:K):aA (K×V)->Nat->aB (Nat×V)
 |[],_=>none
 |p::r,i=>if k=p.1 then some (i,p.2)else hU k r (i+1)
def lH (l:aA (K×V)) (k:K) (z:V):V:=match hU k l 0 with|some p=>p.2|none=>z
def Pd (l:aA (K×V)) (k:K):Bool:=(hU k l 0).isSome
def rF (l:aA (K×V)) (k:K) (x:V):aA (K×V):=match hU k l 0 with|some p=>l.set p.1 (k,x)|none=>l++[(k,x)]
theorem oH (h:uC ek agg ks) (ev:V->PV) (k:K):∀(l:aA (K×V)) (i:Nat),qP agg ks (ek k) (l.map (cZ ek ev)) i=some ((hU k l i).map fun p=>(p.1,ev p.2))
 |[],i=>rfl
 |p::r,i=>by
  simp only[mV2,cZ,qP,h.eq,hU]
  by_cases e:k=p.1
  simp[e]
  simp only[e,mQ2,kR2 e]
  exact oH h ev k r (i+1)
theorem mG (h:uC ek agg ks) (ev:V->PV) (l:aA (K×V)) (k:K) (z:V):pD agg ks (ev z) (ek k) (l.map (cZ ek ev))=some (ev (lH l k z)):=by
 unfold pD lH;rw[h.ok,kT2 rfl,oH h];cases hU k l 0<;>rfl
theorem Gp (h:uC ek agg ks) (ev:V->PV) (l:aA (K×V)) (k:K) (z:V):lX agg ks (ev z) (ek k) (l.map (cZ ek ev))=some (ev (lH l k z),Pd l k):=by
 unfold lX lH Pd;rw[h.ok,kT2 rfl,oH h];cases hU k l 0<;>rfl
theorem iG (h:uC ek agg ks) (ev:V->PV) (l:aA (K×V)) (k:K) (x:V):wN agg ks (ek k) (ev x) (l.map (cZ ek ev))=some ((rF l k x).map (cZ ek ev)):=by
 unfold wN rF;rw[h.ok,kT2 rfl,oH h];cases hU k l 0 with
 |none=>simp[cZ]
 |some p=>simp[cZ,List.map_set]
end
end Go.P
namespace Go.P
open Go.Sim (Ex dQ CK maxRoom)
section
variable {A β γ δ:Type} {f:A->List PV} {l m:List A} {i:Int}
theorem rg:sD (l.map f) i=(aR l i).map f:=Jm f l i
theorem lm:some (l.map f).length=some l.length:=cK f l
theorem im:oS (l.map f).length i=(cF l i).map id:=aW f l i
theorem lf {x:γ} {y:β} {enc:β->γ} (h:x=enc y):some x=(some y).map enc:=by subst h;rfl
theorem bo {α:Type} {X:aB γ} {Y:aB α} {e:α->γ} {K:γ->aB δ} {F:α->aB β} {enc:β->δ} (h:X=Y.map e) (hk:∀y,K (e y)=(F y).map enc):bS X K=(Y.bind F).map enc:=Yt h hk
theorem bz {X:aB γ} {x:γ} {K:γ->aB δ} {r:aB δ} (h:X=some x) (hk:K x=r):bS X K=r:=lQ1 h hk
theorem io {b:Bool} {X Y:aB γ} {FX FY:aB β} {enc:β->γ} (a:X=FX.map enc) (hy:Y=FY.map enc):Hl b X Y=(if b then FX else FY).map enc:=lP1 a hy
theorem oi {x:aB A}:x=x.map id:=oid x
end
end Go.P
set_option maxRecDepth 100000
namespace Go.P
open Go.Sim (AV AO Hp IFn IC IX Ex gB exec)
def fC (ty esz k:Nat) (zero:aA Value):IFn:={ntmps:=8,res:=[.tmp 2],pure:=true,frz:=false,body:=(
  .seq (.reg [⟨some 2,.mov,[.c (.v (.slice none 0 0))],none⟩])
   (.seq (.seq (.reg [⟨some 3,.mov,[.t 0],none⟩,⟨some 4,.eqNil false 0,[.t 3,.c (.v (.slice none 0 0))],none⟩])
     (.cond (.t 4) (.seq (.reg [⟨some 2,.mov,[.c (.v (.slice none 0 0))],none⟩]) .ret) .skip))
   (.seq (.reg [⟨some 5,.buildSl ty esz 0 zero [],[],none⟩,⟨some 6,.mov,[.t 0],none⟩,⟨some 7,.append ty esz k zero false,[.t 5,.t 6],none⟩,⟨some 2,.mov,[.t 7],none⟩]) .ret)))}
section
variable {T:gB} (ty esz k:Nat) (zero:List Value) (d:Nat)
theorem Pe:Sim.body (exec T (d+8)) 0 (fC ty esz k zero) [.v (.slice none 0 0)] {h:=[],n:=0}=some (.v (.slice none 0 0),{h:=[],n:=0}):=rfl
theorem Yv:∃s,Sim.body (exec T (d+8)) 0 (fC ty esz k zero) [.is esz []] {h:=[],n:=0}=some (.sl esz 0 0 0 0 none,s)/\Sim.look s.h 0=some (.arr false ty esz 0 []):=by
 simp[Sim.body,exec,fC,Sim.runOps,Sim.wanted,Sim.evs,Sim.IX.ev,Sim.step,Sim.doOp,Sim.put,Sim.isNilv,Sim.appRows,Sim.rowsOf,Sim.appendTo,Sim.fillParts,Sim.look,Sim.results,Sim.mapO,Sim.readRes,Sim.Out.apply]
theorem Yw (r:aA AV) (a:aA (aA AV)) (h:(r::a).length<=1073741824):∃s,Sim.body (exec T (d+8)) 0 (fC ty esz k zero) [.is esz (r::a)] {h:=[],n:=0}=some (.sl esz 0 1 0 (r::a).length none,s)/\Sim.look s.h 0=some (.arr false ty esz 1 (r::a)):=by
 have b:Sim.maxRoom=1073741824:=rfl;simp only[mA2]at h;simp[Sim.body,exec,fC,Sim.runOps,Sim.wanted,Sim.evs,Sim.IX.ev,Sim.step,Sim.doOp,Sim.put,Sim.isNilv,Sim.appRows,Sim.rowsOf,Sim.appendTo,Sim.fillParts,Sim.look,Sim.results,Sim.mapO,Sim.readRes,Sim.Out.apply,b,h];rfl
theorem xR {f:FuncId} {ty esz k:Nat} {zero:aA Value} (i:T f=some (fC ty esz k zero)) (j:∀ys,T.memo f ys=none) {rows:aA (aA PV)} (hl:rows.length<=1073741824):lE T f [.is esz rows] (.is esz rows):=by
 refine⟨_,i,rfl,fun h=>(by cases h),fun ys hy=>Ca (j ys) ⟨8,fun d hd=>?_⟩⟩;obtain⟨d,rfl⟩:∃g,d=g+8:=⟨d-8,by omega⟩
 obtain⟨y,l,rfl,h1,h2⟩:=hy.inv_cons;rw[h2.inv_nil];rcases wU (C:=⟨fun _=>none,fun _=>none⟩) (.cl h1)with⟨rows',rfl,hr⟩|⟨rfl,rfl⟩
 cases rows' with
 |nil=>
  have:rows=[]:=nL2 hr.1;subst this;obtain⟨s,a,e2⟩:=Yv (T:=T) ty esz k zero d;exact⟨_,_,_,a,Lp (d:=4) (rows:=[]) (lP2 _) e2 .nil (kO2 _),h1⟩
 |cons r rs=>
  obtain⟨s,a,e2⟩:=Yw (T:=T) ty esz k zero d r rs (by rw[<-hr.1];exact hl);have b:(r::rs).length=rows.length:=hr.1.symm;rw[b]at a;have e:(r::rs).take rows.length=r::rs:=by rw[<-b,nB2]
  have c:=Lp (n0:=0) (L:=Sim.look s.h) (d:=4) (rows:=rows) (id:=0) (lP2 _) e2 (by rw[e];exact hr) (by omega);rw[e]at c;exact⟨_,_,_,a,c,h1⟩
 exact⟨_,_,_,Pe ty esz k zero d,rfl,.isn⟩
theorem Jo (lim:Nat) (s:Hp):Sim.body (exec T (d+8)) lim {fC ty esz k zero with pure:=false} [.v (.slice none 0 0)] s=some (.v (.slice none 0 0),s):=rfl
theorem Ua {lim:Nat} {s:Hp} (hl:lim<=s.n):Sim.body (exec T (d+8)) lim {fC ty esz k zero with pure:=false} [.is esz []] s=some (.sl esz s.n 0 0 0 none,⟨.ob s.n (.arr false ty esz 0 [])::s.h,s.n+1⟩):=by
 simp[Sim.body,exec,fC,Sim.runOps,Sim.wanted,Sim.evs,Sim.IX.ev,Sim.step,Sim.doOp,Sim.put,Sim.isNilv,Sim.appRows,Sim.rowsOf,Sim.appendTo,Sim.fillParts,Sim.look,Sim.results,Sim.mapO,Sim.readRes,Sim.Out.apply]
theorem Ub {lim:Nat} {s:Hp} (hl:lim<=s.n) (r:aA AV) (a:aA (aA AV)) (h:(r::a).length<=1073741824):Sim.body (exec T (d+8)) lim {fC ty esz k zero with pure:=false} [.is esz (r::a)] s=some (.sl esz s.n 1 0 (r::a).length none,⟨.ob s.n (.arr false ty esz 1 (r::a))::s.h,s.n+1⟩):=by
 have b:Sim.maxRoom=1073741824:=rfl;simp only[mA2]at h;simp[Sim.body,exec,fC,Sim.runOps,Sim.wanted,Sim.evs,Sim.IX.ev,Sim.step,Sim.doOp,Sim.put,Sim.isNilv,Sim.appRows,Sim.rowsOf,Sim.appendTo,Sim.fillParts,Sim.look,Sim.results,Sim.mapO,Sim.readRes,Sim.Out.apply,Sim.upd,b,h,hl]
end
theorem Pf {T:gB} {NF:FuncId->Bool} {P:pL} {cl:Nat->aB (Nat×Nat)} (q:∀f p,cl f=some p->fF p.1=false/\Nat.ble 4294967296 p.2=false/\∃k zero,T f=some {fC p.1 p.2 k zero with pure:=false}):yO T NF P (nU cl):=by
 intro f xs h n v h' n' C s lim ys _ _ hk hl b;unfold nU at hk;split at hk;rename_i e rows;rw[kK2]at hk;obtain⟨⟨ty,e2⟩,hc,hk⟩:=hk;simp only at hk;by_cases he:(Nat.beq e2 e&&Nat.ble rows.length 1073741824)=true;rw[he,lA2]at hk;cases hk;simp only[kL2,Nat.ble_eq]at he;obtain⟨h1,t⟩:=he;have:=lD2 h1;subst this;obtain⟨hfx,hs,k,zero,a⟩:=q f _ hc;simp only at hfx hs a;have o:yD ty=ty:=by simp[yD,hfx]
 obtain⟨y,u,rfl,a1,a2⟩:=hl.inv_cons;rw[a2.inv_nil]
 have nilc:rows=[]->y=.v (.slice none 0 0)->∃C' c s',RV C' (.own n) c/\cD C' (n+1) [(n,.lst ty e2 true rows)] lim s'/\n<=n+1/\Fr C [] s C' [(n,.lst ty e2 true rows)] s'/\(∃ifn,T f=some ifn/\ifn.pure=false/\ifn.frz=false)/\∃D,∀d,D<=d->Sim.callF T (exec T d) lim f [y] s=some (c,s'):=by
  rintro rfl rfl;obtain⟨i,j⟩:=Jc b (ty:=ty) (e:=e2) (g:=true);have m:lB ty e2 true=.lst ty e2 true []:=by unfold lB;rw[hs];rfl
  rw[m]at i j;refine⟨_,_,s,.ownn (C:=ext C n .nil) (kT C n .nil) rfl,i,by omega,j,⟨_,a,rfl,rfl⟩,8,fun d hd=>?_⟩;obtain⟨d,rfl⟩:∃l,d=l+8:=⟨d-8,by omega⟩
  simp only[Sim.callF,a];exact Jo (T:=T) ty e2 k zero d lim s
 rcases wU a1 with⟨rows',rfl,hr⟩|⟨hr,hy⟩
 have fin:∀(ver:Nat),(∀d,Sim.body (exec T (d+8)) lim {fC ty e2 k zero with pure:=false} [.is e2 rows'] s=some (.sl e2 s.n ver 0 rows.length none,⟨.ob s.n (.arr false ty e2 ver rows')::s.h,s.n+1⟩))->
   ∃C' c s',RV C' (.own n) c/\cD C' (n+1) [(n,.lst ty e2 true rows)] lim s'/\n<=n+1/\Fr C [] s C' [(n,.lst ty e2 true rows)] s'/\(∃ifn,T f=some ifn/\ifn.pure=false/\ifn.frz=false)/\∃D,∀d,D<=d->Sim.callF T (exec T d) lim f [.is e2 rows'] s=some (c,s'):=by
  intro ver hb;obtain⟨i,j,w⟩:=nP b (po:=.lst ty e2 true rows) (ao:=.arr false ty e2 ver rows') (ver:=ver) (e:=e2) (len:=rows.length) ⟨b.lim,by omega,rfl,rfl,rows',by rw[dN,kT2 rfl,o],by rw[lT2 (by rw[hr.1];exact kO2 _)];exact hr,by rw[hr.1];exact kO2 _,fun h=>by cases h⟩;refine⟨_,_,_,.own (kT C n _),i,by omega,j,⟨_,a,rfl,rfl⟩,8,fun d hd=>?_⟩;obtain⟨d,rfl⟩:∃l,d=l+8:=⟨d-8,by omega⟩
  simp only[Sim.callF,a];exact hb d
 cases rows' with
 |nil=>
  have:rows=[]:=nL2 hr.1;subst this;exact fin 0 fun d=>Ua (T:=T) ty e2 k zero d b.lim
 |cons r rs=>exact fin 1 fun d=>by rw[hr.1];exact Ub (T:=T) ty e2 k zero d b.lim r rs (by rw[<-hr.1];exact t)
 exact nilc hr hy
 grind
 cases hk
end Go.P
namespace Go.P
open Go.Sim
section
variable {P:Program} {D:Nat} {t:TypeId} {cs:List AV}
theorem mH {n:Nat} (h:n<=maxLen):n<9223372036854775808:=kP2 h (by decide)
theorem eE {k:IntKind} (a:P.underlying t=some (.int k)) (h:iN P D t cs):∃n,LR (RC false) [.v (.int k n)] cs:=by
 cases D with
 |zero=>exact h.elim
 |succ D=>
  unfold iN at h;rw[a]at h;obtain⟨n,rfl,_⟩:=h;exact⟨n,.cons (.v _) .nil⟩
theorem Gq (a:P.underlying t=some .bool) (h:iN P D t cs):∃n,LR (RC false) [.v (.bool n)] cs:=by
 cases D with
 |zero=>exact h.elim
 |succ D=>
  unfold iN at h;rw[a]at h;obtain⟨n,rfl⟩:=h;exact⟨n,.cons (.v _) .nil⟩
theorem Yx (a:P.underlying t=some .string) (h:iN P D t cs):∃s:ByteArray,s.size<=maxLen/\LR (RC false) [.v (.string s)] cs:=by
 cases D with
 |zero=>exact h.elim
 |succ D=>
  unfold iN at h;rw[a]at h;obtain⟨s,rfl,hs⟩:=h;exact⟨s,hs,.cons (.v _) .nil⟩
theorem Jp {A:Type} {B:A->Prop} {c:A->aA PV} {e:TypeId} {m:Nat} (g:P.underlying t=some (.slice e)) (f:P.cellsOf e=m) (a:∀D row,iN P D e row->∃x:A,B x/\LR (RC false) (c x) row) (hp:∀x,(c x).all eH=true) (h:iN P D t cs):
  ∃l:aA A,(l.length<=maxLen/\∀x∈l,B x)/\LR (RC false) [.is m (l.map c)] cs:=by
 cases D with
 |zero=>exact h.elim
 |succ D=>
  unfold iN at h;rw[g]at h;rcases h with rfl|⟨els,rfl,hl,h⟩
  exact⟨[],⟨lP2 _,fun x d=>(List.not_mem_nil d).elim⟩,.cons .isn .nil⟩;rw[f]
  have:∃l:aA A,l.length=els.length/\(∀x∈l,B x)/\RR (l.map c) els:=by
   clear hl
   induction els with
   |nil=>exact⟨[],rfl,fun x d=>(List.not_mem_nil d).elim,.nil⟩
   |cons row els ih=>
    obtain⟨l,h1,h2,b⟩:=ih (fun row a=>h row (by simp[a]));obtain⟨x,j,i⟩:=a D row (h row (by simp)).2;refine⟨x::l,by simp[h1],fun y hy=>?_,.cons ?_ b⟩
    grind
    exact(LR.closed (C:=⟨fun _=>none,fun _=>none⟩) i).plain (hp x)
  obtain⟨l,h1,h2,b⟩:=this;exact⟨l,⟨by omega,h2⟩,.cons b.is .nil⟩
theorem dT {fs:Array Field} (a:P.underlying t=some (.struct fs)) (h:iN P D t cs):∃D',Xl (iN P D') P fs.toList cs:=by
 cases D with
 |zero=>exact h.elim
 |succ D=>
  unfold iN at h;rw[a]at h;exact⟨D,h⟩
theorem uV1 {n:Nat} {e:TypeId} (b:P.underlying t=some (.array n e)) (h:iN P D t cs):∃(D':Nat) (rows:aA (aA AV)),cs=rows.flatten/\rows.length=n/\∀row∈rows,row.length=P.cellsOf e/\iN P D' e row:=by
 cases D with
 |zero=>exact h.elim
 |succ D=>
  unfold iN at h;rw[b]at h;obtain⟨rows,h1,h2,a⟩:=h;exact⟨D,rows,h1,h2,a⟩
theorem lR1 {α:Type} {l:aA α} (h:l.length=6):∃a b c d e f,l=[a,b,c,d,e,f]:=by
 rcases l with _|⟨a,_|⟨b,_|⟨c,_|⟨d,_|⟨e,_|⟨f,_|⟨g,l⟩⟩⟩⟩⟩⟩⟩<;>simp at h;exact⟨a,b,c,d,e,f,rfl⟩
end
end Go.P
namespace Go.P
open Go.Sim
theorem Uc {T:gB} {f:FuncId} {xs:aA PV} (h:lE T f xs (bv true)) {ys:aA AV} (hl:LR (RC false) xs ys) (hc:ys.all (closed 4)=true):∃d s,callF T (exec T d) 0 f ys {h:=[],n:=0}=some (.v (.bool true),s):=by
 obtain⟨ifn,h1,h2,g,a⟩:=h;obtain⟨D,b⟩:=a ys hl;obtain⟨y,c,e⟩:=b D (kO2 _);cases e;exact⟨D,_,by simp only[callF,h1,h2,lO2,hc,c,lK2];rfl⟩
theorem rG {x:PV} {y:AV} {d:Nat} (h:RC false x y) (hp:eH x=true):closed (d+1) y=true:=by
 cases h<;>first|rfl|simp[eH]at hp
theorem Jq {xs:aA PV} {ys:aA AV} (h:LR (RC false) xs ys) (hp:xs.all eH=true):closed 4 (.agg ys)=true:=by
 unfold closed;rw[kU2];intro y hy;obtain⟨j,b⟩:=lH2.1 hy;have a:j<xs.length:=by rw[h.1];exact(kM2.1 b).1
 have c:xs[j]? =some xs[j]:=lV2 a;exact rG (h.2 j _ _ c b) (kU2.1 hp _ (mT2 a))
def hL1:Value->Value->Bool
 |.int k a,.int k' b=>decide (k=k')&&decide (a=b)
 |.bool a,.bool b=>decide (a=b)
 |.string a,.string b=>decide (a=b)
 |.slice none 0 0,.slice none 0 0=>true
 |_,_=>false
theorem Yy {x y:Value} (h:hL1 x y=true):x=y:=by
 unfold hL1 at h;split at h<;>simp_all
def Gr {α β:Type} (f:α->β->Bool):aA α->aA β->Bool
 |[],[]=>true
 |a::as,b::bs=>f a b&&Gr f as bs
 |_,_=>false
theorem lI {α β:Type} {f:α->β->Bool}:∀{xs:aA α} {ys:aA β},Gr f xs ys=true->xs.length=ys.length/\∀(j:Nat) (x:α) (y:β),xs[j]? =some x->ys[j]? =some y->f x y=true
 |[],[],_=>⟨rfl,fun j x y h=>by simp at h⟩
 |[],b::bs,h=>by simp[Gr]at h
 |a::as,[],h=>by simp[Gr]at h
 |a::as,b::bs,h=>by
  simp only[Gr,kL2]at h
  obtain⟨h1,h2⟩:=h
  have ih:=lI h2
  refine⟨by simp[ih.1],fun j x y c hy=>?_⟩
  cases j with
  |zero=>simp at c hy;subst c;subst hy;exact h1
  |succ j=>simp at c hy;exact ih.2 j x y c hy
def rcB:Nat->PV->AV->Bool
 |0,_,_=>false
 |d+1,x,y=>match x,y with
  |.v x,.v y=>hL1 x y
  |.is e rows,.is e' rows'=>decide (e=e')&&Gr (Gr (rcB d)) rows rows'
  |.is _ [],.v (.slice none 0 0)=>true
  |_,_=>false
theorem Ud:∀(d:Nat) {x:PV} {y:AV} (p:Bool),rcB d x y=true->RC p x y
 |0,x,y,p,h=>by simp[rcB]at h
 |d+1,x,y,p,h=>by
  unfold rcB at h
  split at h
  rw[Yy h];exact .v _
  simp only[kL2,kV2]at h
  obtain⟨rfl,h⟩:=h
  have h1:=lI h
  refine .is h1.1 (fun i r r' hr a=>(lI (h1.2 i r r' hr a)).1) (fun i r r' j x y hr a b hy=>Ud d true ((lI (h1.2 i r r' hr a)).2 j x y b hy))
  exact .isn
  cases h
end Go.P
namespace Go.P
open Go.Sim (IC IX AV dQ iP)
section
variable {R:Type}
def fN (s:Nat) (K:Nat->R):R:=match s with
 |0=>K 0
 |n+1=>K (n+1)
def num:Nat->Nat->(Nat->Nat->R)->R
 |0,s,K=>K 0 s
 |k+1,s,K=>bif Nat.ble 8 (s%16)then fN (s/16) fun t=>num k t fun n t=>K (s%16-8+8*n) t else fN (s/16) fun t=>K (s%16) t
def lT1:Nat->Nat->(aA Nat->Nat->R)->R
 |0,s,K=>K [] s
 |k+1,s,K=>num 16 s fun n t=>fN n fun n=>lT1 k t fun l u=>K (n::l) u
def Gs (s:Nat) (K:aA Nat->Nat->R):R:=num 16 s fun n t=>lT1 n t K
def eU1:Nat->Nat->(aA (aA Nat)->Nat->R)->R
 |0,s,K=>K [] s
 |k+1,s,K=>Gs s fun n t=>eU1 k t fun l u=>K (n::l) u
def uV:AV->PV
 |.v x=>.v x
 |.fn (.func f) _ _=>.fn f [] []
 |.agg cs=>.agg (cs.map fun c=>match c with|.v x=>.v x|_=>.undef)
 |_=>.undef
def uX:IX->PX
 |.t i=>.t i
 |.c x=>.c (uV x)
def Ue:aA PX->aA Nat
 |[]=>[]
 |.t i::xs=>i::Ue xs
 |_::xs=>Ue xs
def kil (h:Nat) (xs:aA PX) (s:Nat) (K:aA Nat->Nat->R):R:=match h with
 |0=>K [] s
 |1=>K (Ue xs) s
 |_=>Gs s K
def mrk:aA Nat->fW->fW
 |[0,d,ty,e,g],r=>.own d ty e (Nat.beq g 1) r
 |[1,d],r=>.fz d none r
 |[2,d,j],r=>.fz d (some j) r
 |[3,d],r=>.laxm d none r
 |[4,d,j],r=>.laxm d (some j) r
 |[5,d,e],r=>.lax d [some e] r
 |[6,d,j,ty,e,g],r=>.ownc d j ty e (Nat.beq g 1) r
 |[7,d,j,e],r=>.laxc d j e r
 |[8,d,m,j,e],r=>.lax d ((List.range m).map fun q=>bif Nat.beq q j then some e else none) r
 |_,r=>r
def lU1:aA (aA Nat)->fW->fW
 |[],r=>r
 |m::ms,r=>mrk m (lU1 ms r)
def opO (d:aB Nat) (k:dQ) (xs:aA PX) (l:aA Nat) (r:fW):fW:=match d with
 |some d=>.op d k xs l r
 |none=>.sto k xs l r
def pie (f:aA Sim.Op1->Nat->(fW->Nat->R)->R) (h:Nat) (os:aA Sim.Op1) (s:Nat) (K:(fW->fW)->aA Sim.Op1->Nat->R):R:=num 16 s fun k s=>f (os.take k) s fun b s=>match os.drop k with
 |[]=>K (fun r=>r) [] s
 |o::os=>match o.dst,o.xs with
  |some d,[.t c,x,y]=>kil (s%16) [.t c] (s/16) fun l s=>match y with
   |.c (.v (.bool false))=>K (bif Nat.beq h 5 then .ifx d c true b (uX x) l else .ifn d c true b (uX x) l) os s
   |_=>K (bif Nat.beq h 5 then .ifx d c false b (uX y) l else .ifn d c false b (uX y) l) os s
  |_,_=>K (fun r=>r) [] s
def Yz:Nat->aA Sim.Op1->Nat->(fW->Nat->R)->R
 |0,_,s,K=>K .nil s
 |_,[],s,K=>K .nil s
 |n+1,o::os,s,K=>match s%16 with
  |3=>Gs (s/16) fun l s=>Yz n os s fun r s=>(match o.k,o.dst with
   |.buildSl ty _ _ z _,some d=>K (.mkfl d ty z (o.xs.map uX) l r) s
   |_,_=>K .nil s)
  |4=>kil (s/16%16) (o.xs.map uX) (s/256) fun l s=>num 16 s fun m s=>eU1 m s fun b s=>Yz n os s fun r s=>K (opO o.dst o.k (o.xs.map uX) l (lU1 b r)) s
  |5=>pie (Yz n) 5 (o::os) (s/16) fun a os s=>Yz n os s fun r s=>K (a r) s
  |6=>pie (Yz n) 6 (o::os) (s/16) fun a os s=>Yz n os s fun r s=>K (a r) s
  |h=>fN (s/16) fun t=>kil h (o.xs.map uX) t fun l s=>Yz n os s fun r s=>K (opO o.dst o.k (o.xs.map uX) l r) s
def eV1:aA Nat->aA (Nat×Nat×Nat×Nat)
 |a::b::c::d::r=>(a,b,c,d)::eV1 r
 |_=>[]
def Qm:IC->Nat->(PC->Nat->R)->R
 |.skip,s,K=>K .skip s
 |.reg ops,s,K=>Yz ops.length ops s fun b s=>K (.reg b) s
 |.regD ops bf,s,K=>num 16 s fun dr s=>Yz ops.length ops s fun b s=>Gs s fun q s=>(match q with
  |[]=>K (.regD dr b bf) s
  |q=>K (.regX dr b bf (eV1 q)) s)
 |.seq a b,s,K=>Qm a s fun x s=>Qm b s fun y s=>K (.seq x y) s
 |.cond c a b,s,K=>match s%16 with
  |1=>Gs (s/16) fun l s=>Qm a s fun x s=>Qm b s fun y s=>K (.condJ l (uX c) x y) s
  |2=>fN (s/16) fun s=>Qm a s fun x s=>Qm b s fun y s=>K (.condL (uX c) x y) s
  |_=>fN (s/16) fun s=>Qm a s fun x s=>Qm b s fun y s=>K (.cond (uX c) x y) s
 |.block id c,s,K=>Qm c s fun x s=>K (.block id x) s
 |.loop c,s,K=>match s%16 with
  |1=>num 16 (s/16) fun m s=>Gs s fun l s=>Qm c s fun x s=>K (.loopU m l x) s
  |_=>Gs (s/16) fun l s=>Gs s fun d s=>Qm c s fun x s=>K (.loop l d x) s
 |.rangeF _ _ _ _,s,K=>K .skip s
 |.exit id,s,K=>K (.exit id) s
 |.ret,s,K=>K .ret s
def anF (P:Program) (f s:Nat) (z:Bool):bM:=match P.funcs[f]? with
 |some fn=>match fn.body with
  |some c=>match Sim.comp P c,Sim.mapO (Sim.compRes P) fn.results.toList with
   |some ic,some rs=>Qm ic s fun c _=>⟨fn.ntmps,rs,c,z⟩
   |_,_=>default
  |none=>default
 |none=>default
end
end Go.P
namespace Go.P
open Go.Sim
theorem Uf {Q:Program} {T:gB} (e:fE Q T) (a:Q.follows .mixedOrders=true) {f:FuncId} {xs:aA PV} {ys:aA AV} {b:Bool} (h:lE T f xs (bv b)) (hl:LR (RC false) xs ys) (hc:ys.all (closed 4)=true):iZ Q f ys (.v (.bool b)):=by
 obtain⟨fn,h1,h2,_,c⟩:=h;obtain⟨D,d⟩:=c ys hl;obtain⟨y,g,i⟩:=d D (kO2 _);cases i;exact wK e a h1 h2 hc g
theorem Ug {T:gB} {f:FuncId} {fn:IFn} {b:Bool} (a:T f=some fn) (hp:fn.pure=true) (e:fn.frz=true) (c:T.memo f []=some (.v (.bool b))):lE T f [] (bv b):=
 ⟨fn,a,hp,fun _=>e,fun ys hy=>⟨0,fun d _=>⟨_,by rw[hy.inv_nil];simp only[runP,c],.v _⟩⟩⟩
def eW1:Nat->PV->AV
 |0,_=>.es
 |d+1,x=>match x with
  |.v x=>.v x
  |.is _ []=>.v (.slice none 0 0)
  |.is e rows=>.is e (rows.map fun r=>r.map (eW1 d))
  |_=>.es
def Md (d:Nat) (xs:aA PV):aA AV:=xs.map (eW1 d)
theorem Za {cells:aA PV} {d:Nat} (h:Gr (rcB 12) cells (Md d cells)=true):LR (RC false) [.agg cells] [.agg (Md d cells)]:=by
 have:=lI h;exact .cons (.agg this.1 (fun j x y a hy=>Ud 12 false (this.2 j x y a hy))) (.nil)
end Go.P
