import Derived.Test.YtcbmkpbljlaghaaGreatLpA
/- A text of the proof. -/
set_option linter.all false
namespace Go.P
open Go.Sim (AV AO Hp gP upd St IC IX Ex fC CK Wf Out doOp jA exec Foot wanted put)
section
variable {R:Type} {T:jA} {O:tW} {X:NX} {dr:Nat}
theorem Tk {C:Cx}:∀{es:aA (aB Nat)} {cs:aA PV} {ys:aA AV} {K:aA PV->aB R} {r:R},LR (RV C) cs ys->Vx es cs K=some r->∃cs',K cs'=some r/\LR (RV C) cs' ys
 |[],[],ys,K,r,hl,h=>⟨[],h,hl⟩
 |o::os,x::xs,ys,K,r,hl,h=>by
  obtain⟨y,c,rfl,h1,h2⟩:=hl.inv_cons
  unfold Vx at h
  obtain⟨cs',a,b⟩:=Tk h2 h
  cases o with
  |none=>exact⟨_,a,.cons h1 b⟩
  |some e=>
   simp only at a
   split at a
   have:=gG h1
   subst this
   exact⟨_,a,.cons (.cl .isn) b⟩
   exact aE a
 |[],_::_,_,_,_,_,h=>by unfold Vx at h;exact aE h
 |_::_,[],_,_,_,_,h=>by unfold Vx at h;exact aE h
theorem iH1 {C:Cx} {n:Nat} {h:bC} {lim:Nat} {s:Hp} (u:cY C n h lim s) {k id ver e len:Nat} {cs cs2:aA PV} {ty e':Nat} {g:Bool} (hk:aO h k=some (.box cs)) (w:C k=some (.atp id ver e len))
  (x:∀row,LR (RV C) cs row->LR (RV (ext C n .nil)) cs2 row):
  cY (ext C n .nil) (n+1) ((n,oE ty e' g)::fR h k (.box cs2)) lim s/\Fr C h s (ext C n .nil) ((n,oE ty e' g)::fR h k (.box cs2)) s:=by
 obtain⟨r,t⟩:=Py u (ty:=ty) (e:=e') (g:=g);have B:n≠k:=by have:=u.dom _ _ w;omega
 have m:∀j,aO ((n,oE ty e' g)::fR h k (.box cs2)) j≠none->aO ((n,oE ty e' g)::h) j≠none:=fun j f=>by
  simp only[aO]at f ⊢;split;simp;rename_i h1;rw[wN2 h1,gU]at f;split at f
  grind
  exact f
 refine⟨⟨⟨fun j o f=>?_,fun j A i v1 p y v2 e2 H a b c d=>r.hr.inj j A i v1 p y v2 e2 H (m j a) (m A b) c d,fun i o E=>?_⟩,r.dom,r.wf,r.lim⟩,⟨t.sk,t.n,t.keep,fun i hi D=>?_,fun j o f=>?_,t.zl,t.zn⟩⟩;simp only[aO]at f;split at f;rename_i h1;exact r.hr.ob j o (by simp[aO,h1];simpa using f);rename_i h1;rw[gU]at f;split at f;rename_i h2;obtain⟨rfl,_⟩:=h2;cases f;obtain⟨pl,q1,q2⟩:=u.hr.ob _ _ hk;rw[w]at q1;cases q1;obtain⟨p1,p2,z,esz,row,p3,p4⟩:=q2;exact⟨_,(lL u .nil).1 _ _ w,p1,p2,z,esz,row,p3,x row p4⟩;exact r.hr.ob j o (by simp[aO,h1,f]);obtain⟨z1,z2,z3,z4⟩:=r.hr.zr i o E;exact⟨z1,z2,fun j v e l a b=>z3 j v e l (m j a) b,z4⟩;obtain⟨j,v1,p,y,F,G⟩:=D;exact t.own i hi ⟨j,v1,p,y,m j F,G⟩;obtain⟨o',q1,q2⟩:=t.kd j o f;have q:n≠j:=fun p=>by rw[wR u (by omega)]at f;cases f
 by_cases p:j=k;subst p;rw[hk]at f;cases f;exact⟨.box cs2,by simp[aO,q,gU,hk],fun _=>⟨rfl,by simp[ext,Ne.symm q]⟩⟩;refine⟨o',?_,q2⟩;simpa[aO,q,gU,p]using q1
structure NOK (T:jA) (X:NX):Prop where
 run:∀{R:Type} (f:FuncId) (xs:List PV) (h:bC) (n:Nat) (K:PV->bC->Nat->Option R) (r:R) (C:Cx) (s:Hp) (lim:Nat) (ys:List AV),
  X.is f=true->X.run f xs h n K=some r->LR (RV C) xs ys->cY C n h lim s->
  ∃v h' n' C' y s',K v h' n'=some r/\RV C' v y/\cY C' n' h' lim s'/\n<=n'/\Fr C h s C' h' s'/\(∃ifn,T f=some ifn/\ifn.pure=false/\ifn.frz=false)/\∃D,∀d,D<=d->Sim.callF T (exec T d) lim f ys s=some (y,s')
 yld:∀{R:Type} (k:Nat) (xs:List PV) (h:bC) (n:Nat) (K:PV->bC->Nat->Option R) (r:R) (C:Cx) (s:Hp) (lim:Nat) (ys:List AV) (id ver e len:Nat),
  X.yld k xs h n K=some r->LR (RV C) xs ys->C k=some (.atp id ver e len)->cY C n h lim s->
  ∃v h' n' C' y s',K v h' n'=some r/\RV C' v y/\cY C' n' h' lim s'/\n<=n'/\Fr C h s C' h' s'/\∃D,∀d,D<=d->Sim.round (exec T d) lim id ys s=some (y,s')
theorem vH:∀{h:aA gP} {id:Nat} {o:AO},Sim.look h id=some o->upd h id o=h
 |[],_,_,h=>by simp[Sim.look]at h
 |.mark::r,id,o,h=>by simp only[Sim.look]at h;simp only[Sim.upd,vH h]
 |.ob i o'::r,id,o,h=>by
  simp only[Sim.look]at h
  simp only[Sim.upd]
  split at h
  grind
  rename_i e;rw[wN2 e,vH h]
theorem Tl:∀{xs:aA IX} {t ys:aA AV},Sim.evs t xs=some ys->ys.length=xs.length
 |[],t,ys,h=>by simp only[Sim.evs,wP2]at h;subst h;rfl
 |x::xs,t,ys,h=>by
  simp only[Sim.evs]at h
  split at h
  rename_i a as c b;cases h;simp[Tl b]
  cases h
theorem bR1 {C:Cx} {n:Nat} {h:bC} {lim:Nat} {s:Hp} {ty:TypeId} {zero:aA Value} {as:aA PV} {ys:aA AV} (o:cY C n h lim s) (k:LR (RV C) as ys) (r:zero.length=1) (hf:as.all hQ1=true):
  ∃C' out,doOp (Sim.look s.h) lim s.n (.buildSl ty 1 as.length zero (List.range as.length)) ys=some out/\RV C' (.own n) out.v/\cY C' (n+1) ((n,.fl as)::h) lim (out.apply s)/\C.le C'/\Fr C h s C' ((n,.fl as)::h) (out.apply s):=by
 have hc:∀(j:Nat) (y:AV),ys[j]? =some y->y.cells=some [y]:=fun j y hy=>by
  have q:j<as.length:=by rw[k.1];exact(wI2.1 hy).1
  have hv:=k.2 j as[j] y (by simp) hy;have l:=wR2.1 hf as[j] (by simp);cases ha:as[j]with
  |fn f a b=>rw[ha]at hv;obtain⟨a',b',rfl,_⟩:=yI hv;rfl
  |_=>rw[ha]at l;simp[hQ1]at l
 have hlen:=k.1;have p:(Sim.zeroRow zero).length=1:=by simp[Sim.zeroRow,r]
 have d:=wV 1 as.length 0 ((List.range as.length).flatMap fun _=>Sim.zeroRow zero) ys (ys.map fun y=>[y]) (by rw[Bz,p,List.length_range];simp) hlen.symm (by simp[hlen]) (fun j x k=>⟨[x],hc j x k,rfl,by simp[k]⟩);simp only[aG3,List.take_zero,aB3]at d;have g:=aZ1 1 (ys.map fun y=>[y]) (fun c hc=>by simp at hc;obtain⟨y,_,rfl⟩:=hc;rfl);rw[zG2,<-hlen]at g;have m:=lL o (.atp s.n 0 1 as.length)
 obtain⟨u,w,z⟩:=qY o (po:=.fl as) (ao:=.arr false ty 1 0 (ys.map fun y=>[y])) (ver:=0) (e:=1) (len:=as.length)
  ⟨o.lim,by omega,rfl,rfl,ty,_,by rw[eZ,wO2 rfl],by simp[hlen],fun i f row a b=>by
   simp only[xN2,wM2]at b;obtain⟨y,hy,rfl⟩:=b;exact .cons ((k.2 i f y a hy).mono m) .nil⟩
 refine⟨_,{v:=.sl 1 s.n 0 0 as.length none,new:=some (.arr false ty 1 0 (ys.map fun y=>[y]))},?_,.own (nU C n _),u,m,w⟩
 have:doOp (Sim.look s.h) lim s.n (.buildSl ty 1 as.length zero (List.range as.length)) ys=(Sim.fillParts ((List.range as.length).flatMap fun _=>Sim.zeroRow zero) ((List.range as.length).map fun i=>(i*1,1)) ys).map fun cs=>
  {v:=.sl 1 s.n 0 0 as.length none,new:=some (.arr false ty 1 0 ((List.range as.length).map fun i=>(cs.drop (i*1)).take 1))}:=by
  rcases ys with _|⟨a,_|⟨b,_|⟨c,t⟩⟩⟩<;>rfl
 rw[<-List.range_eq_range']at d;rw[this,d];simp only[xP2];rw[g]
theorem dN (V:∀f xs v,O f xs=some v->oH T f xs v) (W:NOK T X) (u:dr=0\/dr=3\/dr=4) {N lim:Nat} {R:Type}:∀(ops:iT) (q E:aA Nat) (l:Bool) (g:aB (Nat×Bool)) (C:Cx) (n:Nat) (h:bC) (e:fH) (t:aA AV) (s:Hp) (K:fH->bC->Nat->aB R) (r:R),
  dR O X dr ops e h n K=some r->dT C e t->cY C n h lim s->t.length=N->kU N q l E ops=true->Oe g t->GIn g q->
  ∃e' h' n' C' x s' fs,K e' h' n'=some r/\Tr T X.is dr lim (rR g ops) {t:=t,s:=s} fs {t:=x,s:=s'}/\dT C' e' x/\cY C' n' h' lim s'/\x.length=N/\n<=n'/\Fr C h s C' h' s'/\∀(i:Nat),i∉cR ops []->x[i]? =t[i]?
 |.nil,q,E,l,g,C,n,h,e,t,s,K,r,hk,he,hM,hN,ho,hg,hgi=>⟨e,h,n,C,t,s,[],by unfold dR at hk;exact hk,.nil,he,hM,hN,wK2 _,.refl _ _ _,fun _ _=>rfl⟩
 |.op d k xs kl rs,q,E,l,g,C,n,h,e,t,s,K,r,hk,he,hM,hN,ho,hg,hgi=>by
  simp only[kU,wL2,xG2,iN,zB2]at ho
  obtain⟨⟨⟨o1,o2⟩,o3⟩,o4⟩:=ho
  have hd:d<t.length:=by omega
  have U:d∉q:=by simpa using o2
  have back:∀{y:AV} {x:aA AV},(∀(i:Nat),i∉cR rs []->x[i]? =(t.set d y)[i]?)->∀(i:Nat),i∉cR (.op d k xs kl rs) []->x[i]? =t[i]? :=fun hb i hi=>by
   simp only[cR,xF2,zK2]at hi
   rw[hb i hi.2,xL2 (Ne.symm hi.1)]
  unfold dR at hk
  rw[jL,wH2]at hk
  obtain⟨vs,b5,hk⟩:=hk
  obtain⟨ys,h1,h2⟩:=lC he o3 b5
  have d4:∀{f:FuncId} {xs':aA PV} {zs:aA AV},yF O f xs' h (fun v=>jF e (d::kl) fun e=>dR O X dr rs ((d,v)::e) h n K)=some r->LR (RV C) xs' zs->jQ k=true->3<=mW X.is dr k->
    ((∃ifn,T f=some ifn/\ifn.pure=true)->Sim.foot T k ys={all:=1})->(∀(d:Nat) (s:Hp),Sim.step T (exec T d) lim k ys s=Sim.callF T (exec T d) lim f zs s)->
    ∃e' h' n' C' x s' fs,K e' h' n'=some r/\Tr T X.is dr lim (rR g (.op d k xs kl rs)) {t:=t,s:=s} fs {t:=x,s:=s'}/\dT C' e' x/\cY C' n' h' lim s'/\x.length=N/\n<=n'/\Fr C h s C' h' s'/\∀(i:Nat),i∉cR (.op d k xs kl rs) []->x[i]? =t[i]? :=by
   intro f xs' zs hk hz hc g4 hf g6;obtain⟨v,y,h3,h4,h5,D,h6⟩:=Lx (lim:=lim) V hM hk hz;simp only[eY]at h3
   have A:dT C ((d,v)::edel e (d::kl)) (t.set d y):=.put hd (.cl h4) (fun i w hw=>by
    obtain⟨z,p1,p2,p3⟩:=he.edel (d::kl) i w hw;exact⟨z,p1,p2,fun L=>p3 (by simp[L])⟩)
   obtain⟨e2,d9,G,C2,J,H,fs,r1,r2,r3,r4,r5,r6,r7,r8⟩:=dN V W u rs q (d::E) l g C n h _ _ s K r h3 A hM (by simpa using hN) o4 (hg.set hgi U) hgi;exact⟨e2,d9,G,C2,J,H,_,r1,.call (o:=⟨some d,k,xs.map eX,g⟩) hg.wanted h1 hc g4 (hf h5) ⟨D,fun d hd m=>by rw[g6];exact h6 d hd m⟩ r2,r3,r4,r5,r6,r7,back r8⟩
  have ncall:∀{run:bC->Nat->(PV->bC->Nat->aB (PV×bC×Nat))->aB (PV×bC×Nat)} {xs':aA PV} {zs:aA AV} {P:AV->Hp->Prop} {nw fx:Bool},LR (RV C) xs' zs->
    (∀(hs:bC) (C0:Cx) (m:Nat) (K':PV->bC->Nat->aB (PV×bC×Nat)) (r':PV×bC×Nat),cY C0 m hs lim s->LR (RV C0) xs' zs->run hs m K'=some r'->
     ∃v h' n' C' y s',K' v h' n'=some r'/\RV C' v y/\cY C' n' h' lim s'/\m<=n'/\Fr C0 hs s C' h' s'/\P y s')->
    (∀y s',P y s'->(Sim.foot T k ys).all=2/\(dr≠0->mW X.is dr k=4)/\∃D,∀d,D<=d->Sim.step T (exec T d) lim k ys s=some (y,s'))->
    rE1 fx run nw xs' e h n (d::kl) (fun v e h n=>dR O X dr rs ((d,v)::e) h n K)=some r->
    ∃e' h' n' C' x s' fs,K e' h' n'=some r/\Tr T X.is dr lim (rR g (.op d k xs kl rs)) {t:=t,s:=s} fs {t:=x,s:=s'}/\dT C' e' x/\cY C' n' h' lim s'/\x.length=N/\n<=n'/\Fr C h s C' h' s'/\∀(i:Nat),i∉cR (.op d k xs kl rs) []->x[i]? =t[i]? :=by
   intro run xs' zs P nw fx hz f2 hP hk;obtain⟨v,e',h',n',C',y,s',q1,q2,q3,q4,q5,q6,q7⟩:=bQ1 hM he hz f2 hk;obtain⟨p1,p2,p3⟩:=hP y s' q7
   have A:dT C' ((d,v)::e') (t.set d y):=.put hd q2 (fun i w hw=>by
    obtain⟨z,p1,p2,p3⟩:=q3 i w hw;exact⟨z,p1,p2,fun L=>p3 (by simp[L])⟩)
   obtain⟨e2,d9,G,C2,J,H,fs,r1,r2,r3,r4,r5,r6,r7,r8⟩:=dN V W u rs q (d::E) l g C' n' h' _ _ s' K r q1 A q4 (by simpa using hN) o4 (hg.set hgi U) hgi;exact⟨e2,d9,G,C2,J,H,_,r1,.ncall (o:=⟨some d,k,xs.map eX,g⟩) hg.wanted h1 p1 p2 p3 r2,r3,r4,r5,by omega,q6.trans r7,back r8⟩
  split at hk;rename_i ty es b zero x1 x2;obtain⟨y1,b7,rfl,p1,p2⟩:=h2.inv_cons;obtain⟨y2,f3,rfl,p3,p4⟩:=p2.inv_cons;have:=p4.inv_nil;subst this;obtain⟨C',e',h',out,q1,q2,q3,q4,q5⟩:=iD1 hM (b:=b) (zero:=zero) he hd p1 p3 hk;obtain⟨e2,h3,G,C2,J,H,fs,r1,r2,r3,r4,r5,r6,r7,r8⟩:=dN V W u rs q (d::E) l g C' n h' e' _ _ K r q1 q4 q3 (by simpa using hN) o4 (hg.set hgi U) hgi;exact⟨e2,h3,G,C2,J,H,_,r1,.op (o:=⟨some d,_,xs.map eX,g⟩) hg.wanted h1 rfl q2 r2,r3,r4,r5,r6,q5.trans r7,back r8⟩;rename_i es k0 kd hi;obtain⟨y1,b7,rfl,p1,p2⟩:=h2.inv_cons;obtain⟨y2,f3,rfl,p3,p4⟩:=p2.inv_cons;have:=p4.inv_nil;subst this;obtain⟨C',e',h',out,q1,q2,q3,q4,q5⟩:=Wj hM he hd p1 p3 hk;obtain⟨e2,h3,G,C2,J,H,fs,r1,r2,r3,r4,r5,r6,r7,r8⟩:=dN V W u rs q (d::E) l g C' n h' e' _ _ K r q1 q4 q3 (by simpa using hN) o4 (hg.set hgi U) hgi;exact⟨e2,h3,G,C2,J,H,_,r1,.op (o:=⟨some d,_,xs.map eX,g⟩) hg.wanted h1 rfl q2 r2,r3,r4,r5,r6,q5.trans r7,back r8⟩;rename_i f;cases hX1:X.is f with
  |true=>
   rw[hX1,wZ2]at hk;refine ncall (P:=fun y s'=>(∃ifn,T f=some ifn/\ifn.pure=false/\ifn.frz=false)/\∃D,∀d,D<=d->Sim.callF T (exec T d) lim f ys s=some (y,s')) h2 (fun hs C0 m K' r' b8 d3 hr=>W.run f vs hs m K' r' C0 s lim ys hX1 hr d3 b8) (fun y s' hp=>⟨?_,fun _=>by simp[mW,hX1],hp.2⟩) hk;obtain⟨⟨ifn,w1,w2,w3⟩,_⟩:=hp;simp[Sim.foot,w1,w2,w3]
  |false=>
   rw[hX1,xO2]at hk;refine d4 hk h2 rfl (by simp[mW,hX1]) (fun⟨ifn,w1,w2⟩=>?_) (fun d s=>rfl);simp[Sim.foot,w1,w2]
  rename_i k0 as;obtain⟨y1,b7,rfl,p1,p2⟩:=h2.inv_cons;obtain⟨id,ver,L,len,hC,rfl⟩:=Hy p1;by_cases h3:dr=3;rw[h3]at hk;exact aE hk;rw[bZ,yC2 h3,xO2]at hk;refine ncall (fx:=false) (P:=fun y s'=>∃D,∀d,D<=d->Sim.round (exec T d) lim id b7 s=some (y,s')) (xs':=.yld k0::as) (zs:=.fn (.yield id) [] []::b7) h2 (fun hs C0 m K' r' b8 d3 hr=>?_) (fun y s' hp=>⟨rfl,fun h0=>by simp only[mW];rw[wO2 (by omega)],hp⟩) hk;obtain⟨y1,f3,e2,p3,p4⟩:=d3.inv_cons;cases e2;obtain⟨id',h9,e',h8,f6,e3⟩:=Hy p3;cases e3;exact W.yld k0 as hs m K' r' C0 s lim _ _ _ _ _ hr p4 f6 b8;rename_i f first cap as
  obtain⟨y1,b7,rfl,p1,p2⟩:=h2.inv_cons;obtain⟨a',b',rfl,p3,p4⟩:=yI p1;have hz:=(p3.append p2).append p4;cases hX1:X.is f with
  |true=>
   rw[hX1,wZ2]at hk;by_cases h3:dr=3;rw[h3]at hk;exact aE hk;rw[bZ,yC2 h3,xO2]at hk;refine ncall (fx:=false) (P:=fun y s'=>(∃ifn,T f=some ifn/\ifn.pure=false/\ifn.frz=false)/\∃D,∀d,D<=d->Sim.callF T (exec T d) lim f (a'++b7++b') s=some (y,s')) hz (fun hs C0 m K' r' b8 d3 hr=>W.run f _ hs m K' r' C0 s lim _ hX1 hr d3 b8) (fun y s' hp=>⟨?_,fun h0=>by simp only[mW];rw[wO2 (by omega)],hp.2⟩) hk;obtain⟨⟨ifn,w1,w2,w3⟩,_⟩:=hp;simp[Sim.foot,w1,w2,w3]
  |false=>
   rw[hX1,xO2]at hk;refine d4 hk hz rfl (by simp only[mW];split<;>omega) (fun⟨ifn,w1,w2⟩=>?_) (fun d s=>rfl);simp[Sim.foot,w1,w2]
  obtain⟨v,h',n',C',y,s',q1,q2,q3,q4,q5,q6,q7,q8⟩:=Th (dr:=dr) V hM h2 hk;simp only[eY]at q1
  have A:dT C' ((d,v)::edel e (d::kl)) (t.set d y):=.put hd q2 (fun i w hw=>by
   obtain⟨z,p1,p2,p3⟩:=(he.mono q4).edel (d::kl) i w hw;exact⟨z,p1,p2,fun L=>p3 (by simp[L])⟩)
  obtain⟨e2,h3,G,C2,J,H,fs,r1,r2,r3,r4,r5,r6,r7,r8⟩:=dN V W u rs q (d::E) l g C' n' h' _ _ _ K r q1 A q3 (by simpa using hN) o4 (hg.set hgi U) hgi;obtain⟨f,hf⟩:=q8 ⟨some d,k,xs.map eX,g⟩ _ t fs _ rfl hg.wanted h1 r2;exact⟨e2,h3,G,C2,J,H,_,r1,hf,r3,r4,r5,by omega,q6.trans r7,back r8⟩
 |.sto k xs kl rs,q,E,l,g,C,n,h,e,t,s,K,r,hk,he,hM,hN,ho,hg,hgi=>by
  simp only[kU,wL2]at ho;obtain⟨o3,o4⟩:=ho;unfold dR at hk;rw[jL,wH2]at hk;obtain⟨vs,b5,hk⟩:=hk;obtain⟨ys,h1,h2⟩:=lC he o3 b5;obtain⟨v,h',n',C',out,q1,q2,q3,q4,q5,q6,q7,q8⟩:=Lv hM h2 hk;simp only[eY]at q1
  have A:dT C' (edel e kl) t:=fun i w hw=>by
   obtain⟨z,p1,p2,p3⟩:=(he.mono q5).edel kl i w hw;exact⟨z,p1,p2⟩
  obtain⟨e2,h3,G,C2,J,H,fs,r1,r2,r3,r4,r5,r6,r7,r8⟩:=dN V W u rs q E l g C' n' h' _ t _ K r q1 A q4 hN o4 hg hgi;refine⟨e2,h3,G,C2,J,H,_,r1,.op (o:=⟨none,k,xs.map eX,g⟩) hg.wanted h1 ?_ q2 r2,r3,r4,r5,by omega,q7.trans r7,fun i hi=>r8 i (by simpa only[cR]using hi)⟩;cases k with
  |callF f=>unfold eC at hk;rcases vs with _|⟨a,_|⟨b,_|⟨c,_|⟨d,t⟩⟩⟩⟩<;>exact aE hk
  |callV=>unfold eC at hk;rcases vs with _|⟨a,_|⟨b,_|⟨c,_|⟨d,t⟩⟩⟩⟩<;>exact aE hk
  |_=>rfl
 |.ifx d c w bd x' kl rs,q,E,l,g,C,n,h,e,t,s,K,r,hk,he,hM,hN,ho,hg,hgi=>by
  simp only[kU,wL2,xG2,iN,zB2]at ho;obtain⟨⟨⟨⟨⟨o1,o2⟩,o3⟩,o4⟩,o5⟩,o6⟩:=ho;have U:d∉q:=by simpa using o2
  unfold dR at hk;rw[gQ,wH2]at hk;obtain⟨cv,e4,hk⟩:=hk;split at hk;rename_i cb;rw[cH,wH2]at hk;obtain⟨y,hy,hk⟩:=hk;rw[eY]at hk;obtain⟨cy,a0,e0⟩:=he c _ e4;rw[gG e0]at a0;obtain⟨fs,S,s1,p1,p2,p3,p4,zs,p5,p6⟩:=Gk (T:=T) (O:=O) (X:=X) (dr:=dr) hM hN o5 o3 a0 hy (fun hb g3=>vF V bd (c::q) [] (some (c,w)) C n h e t s x' y hb he hM hN o5 o3 g3 (fun c' w' e=>by cases e;simp))
  have b9:Oe g S:=by
   cases g with
   |none=>trivial
   |some p=>
    obtain⟨c',w'⟩:=p;simp only[Oe]at hg ⊢;rw[p3 c' (fun hi=>fE bd o5 c' hi (by simp[hgi c' w' rfl]))];exact hg
  have hd:d<S.length:=by omega
  have A:dT C ((d,.v (.bool y))::edel e (d::cR bd kl)) (S.set d (.v (.bool y))):=.put hd (.cl (.v _)) (fun i w hw=>by
   obtain⟨z,q1,q2,q3⟩:=he.edel (d::cR bd kl) i w hw;have e6:i∉cR bd []:=fun hi=>q3 (by simp[(dC bd kl i).2 (.inl hi)]);exact⟨z,by rw[p3 i e6];exact q1,q2,fun L=>q3 (by simp[L])⟩)
  obtain⟨e2,h3,G,C2,J,H,f5,r1,r2,r3,r4,r5,r6,r7,r8⟩:=dN V W u rs q (d::E) l g C n h _ (S.set d (.v (.bool y))) s1 K r hk A (hM.grow p4) (by simpa using p2) o6 (b9.set hgi U) hgi;refine⟨e2,h3,G,C2,J,H,_,r1,p1.append (.op (o:=⟨some d,.pick,_,g⟩) b9.wanted p5 rfl p6 r2),r3,r4,r5,r6,p4.fr.trans r7,fun i hi=>?_⟩;simp only[cR,xF2,dC bd (cR rs []) i,zK2]at hi;rw[r8 i hi.2.2,xL2 (Ne.symm hi.1),p3 i hi.2.1];exact aE hk
 |.ifn d c w bd x' kl rs,q,E,l,g,C,n,h,e,t,s,K,r,hk,he,hM,hN,ho,hg,hgi=>by
  simp only[kU,wL2,xG2,iN,zB2]at ho;obtain⟨⟨⟨⟨⟨o1,o2⟩,o3⟩,o4⟩,o5⟩,o6⟩:=ho;have U:d∉q:=by simpa using o2
  unfold dR at hk;rw[gQ,wH2]at hk;obtain⟨cv,e4,hk⟩:=hk;split at hk;rename_i cb;simp only[oZ]at hk;obtain⟨cy,a0,e0⟩:=he c _ e4;rw[gG e0]at a0
  have e9:∀S:aA AV,(∀(i:Nat),i∉cR bd []->S[i]? =t[i]?)->S[c]? =some (.v (.bool cb)):=fun S g7=>by
   rw[g7 c (fun hi=>fE bd o5 c hi (by simp))];exact a0
  have tail:∀{y:PV} {z:AV} {L:fH} {h1:bC} {n1:Nat} {C1:Cx} {S:aA AV} {s1:Hp} {d8:aA Foot} {zs:aA AV},jF L (d::cR bd kl) (fun e=>dR O X dr rs ((d,y)::e) h1 n1 K)=some r->RV C1 y z->Tr T X.is dr lim (rR (some (c,w)) bd) {t:=t,s:=s} d8 {t:=S,s:=s1}->
    dT C1 (edel L (d::cR bd kl)) S->cY C1 n1 h1 lim s1->S.length=N->n<=n1->Fr C h s C1 h1 s1->(∀(i:Nat),i∉cR bd []->S[i]? =t[i]?)->
    Sim.evs S (if w then[.t c,eX x',.c (.v (.bool false))]else[.t c,.c (.v (.bool true)),eX x'])=some zs->doOp (Sim.look s1.h) lim s1.n .pick zs=some {v:=z}->
    ∃e' h' n' C' x s' fs,K e' h' n'=some r/\Tr T X.is dr lim (rR g (.ifn d c w bd x' kl rs)) {t:=t,s:=s} fs {t:=x,s:=s'}/\dT C' e' x/\cY C' n' h' lim s'/\x.length=N/\n<=n'/\Fr C h s C' h' s'/\∀(i:Nat),i∉cR (.ifn d c w bd x' kl rs) []->x[i]? =t[i]? :=by
   intro y z L h1 n1 C1 S s1 d8 zs hk h7 g8 d5 f7 f8 i0 g1 F f9 e7;rw[eY]at hk;have hd:d<S.length:=by omega
   have b9:Oe g S:=by
    cases g with
    |none=>trivial
    |some p=>
     obtain⟨c',w'⟩:=p;simp only[Oe]at hg ⊢;rw[F c' (fun hi=>fE bd o5 c' hi (by simp[hgi c' w' rfl]))];exact hg
   have A:dT C1 ((d,y)::edel L (d::cR bd kl)) (S.set d z):=.put hd h7 (fun i w hw=>by
    obtain⟨z',q1,q2⟩:=d5 i w hw;refine⟨z',q1,q2,fun e2=>?_⟩;rw[wQ,wO2 (by simp[e2])]at hw;cases hw)
   obtain⟨e2,h3,G,C2,J,H,f5,r1,r2,r3,r4,r5,r6,r7,r8⟩:=dN V W u rs q (d::E) l g C1 n1 h1 _ (S.set d z) s1 K r hk A f7 (by simpa using f8) o6 (b9.set hgi U) hgi;refine⟨e2,h3,G,C2,J,H,_,r1,g8.append (.op (o:=⟨some d,.pick,_,g⟩) b9.wanted f9 rfl e7 r2),r3,r4,r5,by omega,g1.trans r7,fun i hi=>?_⟩;simp only[cR,xF2,dC bd (cR rs []) i,zK2]at hi;rw[r8 i hi.2.2,xL2 (Ne.symm hi.1),F i hi.2.1]
  have run:cb=w->dR O X dr bd e h n (fun e h n=>qP e [x'] fun vs=>match vs with
    |[y]=>jF e (d::cR bd kl) fun e=>dR O X dr rs ((d,y)::e) h n K
    |_=>none)=some r->∃e' h' n' C' x s' fs,K e' h' n'=some r/\Tr T X.is dr lim (rR g (.ifn d c w bd x' kl rs)) {t:=t,s:=s} fs {t:=x,s:=s'}/\dT C' e' x/\cY C' n' h' lim s'/\x.length=N/\n<=n'/\Fr C h s C' h' s'/\∀(i:Nat),i∉cR (.ifn d c w bd x' kl rs) []->x[i]? =t[i]? :=by
   intro e5 hk;obtain⟨L,h1,n1,C1,S,s1,d8,q1,q2,q3,q4,q5,q6,q7,q8⟩:=dN V W u bd (c::q) [] true (some (c,w)) C n h e t s _ r hk he hM hN o5 (by rw[<-e5];exact a0) (fun c' w' e=>by cases e;simp);rw[jL,wH2]at q1;obtain⟨vs,b5,q1⟩:=q1;obtain⟨ys,h3,h4⟩:=lC q3 (xs:=[x']) (by simpa using o3) b5;split at q1;rename_i y;obtain⟨z,_,rfl,h5,h6⟩:=h4.inv_cons;rw[h6.inv_nil]at h3
   have hz:(eX x').ev S=some z:=by
    simp only[yY2,aH3,Sim.evs]at h3;split at h3;rename_i a b M hb;simp only[wP2,aC3]at h3;rw[<-h3.1];exact M;cases h3
   have hc:=e9 S q8;cases w with
   |true=>
    subst e5;exact tail q1 h5 q2 (fun i w hw=>by obtain⟨z',p1,p2,_⟩:=q3.edel _ i w hw;exact⟨z',p1,p2⟩) q4 q5 q6 q7 q8 (Mb (a:=.v (.bool true)) (b:=z) (c:=.v (.bool false)) hc hz rfl) rfl
   |false=>
    subst e5;exact tail q1 h5 q2 (fun i w hw=>by obtain⟨z',p1,p2,_⟩:=q3.edel _ i w hw;exact⟨z',p1,p2⟩) q4 q5 q6 q7 q8 (Mb (a:=.v (.bool false)) (b:=.v (.bool true)) (c:=z) hc rfl hz) rfl
   exact aE q1
  have skip:cb≠w->(jF e (d::cR bd kl) fun e=>dR O X dr rs ((d,.v (.bool (!w)))::e) h n K)=some r->∃e' h' n' C' x s' fs,K e' h' n'=some r/\Tr T X.is dr lim (rR g (.ifn d c w bd x' kl rs)) {t:=t,s:=s} fs {t:=x,s:=s'}/\dT C' e' x/\cY C' n' h' lim s'/\x.length=N/\n<=n'/\Fr C h s C' h' s'/\∀(i:Nat),i∉cR (.ifn d c w bd x' kl rs) []->x[i]? =t[i]? :=by
   intro g5 hk;obtain⟨fs,S,k1,k2,k3,k4⟩:=fU (T:=T) (NF:=X.is) (dr:=dr) (lim:=lim) (s:=s) (some (c,w)) bd (c::q) [] t o5 (fun c' w' e=>by cases e;simp) (by simp[Sim.wanted,a0,g5]) (fun c hc=>by simp at hc);obtain⟨z,hz⟩:=Cf (c:=0) (i:=0) (k2.trans hN) o3
   have d5:dT C (edel e (d::cR bd kl)) S:=fun i v hv=>by
    obtain⟨z,q1,q2,q3⟩:=he.edel (d::cR bd kl) i v hv;have e6:i∉cR bd []:=fun hi=>q3 (by simp[(dC bd kl i).2 (.inl hi)]);exact⟨z,by rw[k3 i e6];exact q1,q2⟩
   have hc:=e9 S k3;cases w with
   |true=>
    have:cb=false:=by cases cb<;>simp_all
    subst this;exact tail hk (.cl (.v (.bool false))) k1 d5 hM (k2.trans hN) (wK2 _) (.refl _ _ _) k3 (Mb (a:=.v (.bool false)) (b:=z) (c:=.v (.bool false)) hc hz rfl) rfl
   |false=>
    have:cb=true:=by cases cb<;>simp_all
    subst this;exact tail hk (.cl (.v (.bool true))) k1 d5 hM (k2.trans hN) (wK2 _) (.refl _ _ _) k3 (Mb (a:=.v (.bool true)) (b:=.v (.bool true)) (c:=z) hc rfl hz) rfl
  cases w with
  |true=>
   rw[wZ2]at hk;cases cb with
   |true=>exact run rfl hk
   |false=>exact skip (by simp) hk
  |false=>
   rw[xO2]at hk;cases cb with
   |true=>exact skip (by simp) hk
   |false=>exact run rfl hk
  exact aE hk
 |.mkfl d ty zero xs kl rs,q,E,l,g,C,n,h,e,t,s,K,r,hk,he,hM,hN,ho,hg,hgi=>by
  simp only[kU,wL2,xG2,iN,zB2]at ho;obtain⟨⟨⟨o1,o2⟩,o3⟩,o4⟩:=ho;have hd:d<t.length:=by omega
  have U:d∉q:=by simpa using o2
  unfold dR at hk;rw[jL,wH2]at hk;obtain⟨vs,b5,hk⟩:=hk;obtain⟨ys,h1,h2⟩:=lC he o3 b5;cases hc:(Nat.beq zero.length 1&&vs.all hQ1)with
  |false=>rw[hc]at hk;exact aE hk
  |true=>
  rw[hc,wZ2,eY]at hk;simp only[wL2,bZ,wS2]at hc;obtain⟨C',out,q1,q2,q3,q4,q5⟩:=bR1 (ty:=ty) hM h2 hc.1 hc.2
  have hlen:vs.length=xs.length:=by
   have:=h2.1;have h3:ys.length=xs.length:=(Tl h1).trans (by simp);omega
  rw[hlen]at q1
  have A:dT C' ((d,.own n)::edel e (d::kl)) (t.set d out.v):=.put hd q2 (fun i w hw=>by
   obtain⟨z,p1,p2,p3⟩:=(he.mono q4).edel (d::kl) i w hw;exact⟨z,p1,p2,fun L=>p3 (by simp[L])⟩)
  obtain⟨e2,h3,G,C2,J,H,fs,r1,r2,r3,r4,r5,r6,r7,r8⟩:=dN V W u rs q (d::E) l g C' (n+1) _ _ _ _ K r hk A q3 (by simpa using hN) o4 (hg.set hgi U) hgi;refine⟨e2,h3,G,C2,J,H,_,r1,.op (o:=⟨some d,.buildSl ty 1 xs.length zero (List.range xs.length),xs.map eX,g⟩) hg.wanted h1 rfl q1 r2,r3,r4,r5,by omega,q5.trans r7,fun i hi=>?_⟩;simp only[cR,xF2,zK2]at hi;rw[r8 i hi.2,xL2 (Ne.symm hi.1)]
 |.lax d es rs,q,E,l,g,C,n,h,e,t,s,K,r,hk,he,hM,hN,ho,hg,hgi=>by
  simp only[kU]at ho;unfold dR at hk;rw[gQ,wH2]at hk;obtain⟨v,hv,hk⟩:=hk;obtain⟨y,Z,B⟩:=he d _ hv
  have d7:∀v',RV C v' y->dT C ((d,v')::edel e [d]) t:=fun v' hv' i w hw=>by
   simp only[eW]at hw;split at hw;rename_i L;subst L;cases hw;exact⟨y,Z,hv'⟩;obtain⟨z,q1,q2,_⟩:=he.edel [d] i w hw;exact⟨z,q1,q2⟩
  split at hk;rename_i s';rw[eY]at hk;rw[gG B]at d7;exact dN V W u rs q E l g C n h _ t s K r hk (d7 _ (.cl .isn)) hM hN ho hg hgi;rename_i cs;obtain⟨cs',h1,h2⟩:∃cs',y=.agg cs'/\LR (RV C) cs cs':=nT B;subst h1;obtain⟨cs2,q1,q2⟩:=Tk h2 hk;rw[eY]at q1;exact dN V W u rs q E l g C n h _ t s K r q1 (d7 _ (.agg q2.1 q2.2)) hM hN ho hg hgi;exact aE hk
 |.own d ty es g' rs,q,E,l,g,C,n,h,e,t,s,K,r,hk,he,hM,hN,ho,hg,hgi=>by
  simp only[kU]at ho;unfold dR at hk;rw[gQ,wH2]at hk;obtain⟨v,hv,hk⟩:=hk;obtain⟨y,Z,B⟩:=he d _ hv;split at hk;rw[eY]at hk;have hy:=gG B;subst hy;obtain⟨m1,m2⟩:=Py hM (ty:=ty) (e:=es) (g:=g');have d6:=lL hM .nil
  have A:dT (ext C n .nil) ((d,.own n)::edel e [d]) t:=fun i w hw=>by
   simp only[eW]at hw;split at hw;rename_i L;subst L;cases hw;exact⟨_,Z,.ownn (by simp[ext]) rfl⟩;obtain⟨z,q1,q2,_⟩:=he.edel [d] i w hw;exact⟨z,q1,q2.mono d6⟩
  obtain⟨e2,h3,G,C2,J,H,fs,r1,r2,r3,r4,r5,r6,r7,r8⟩:=dN V W u rs q E l g _ (n+1) _ _ t s K r hk A m1 hN ho hg hgi;exact⟨e2,h3,G,C2,J,H,fs,r1,r2,r3,r4,r5,by omega,m2.trans r7,r8⟩;exact aE hk
 |.laxc d j es rs,q,E,l,g,C,n,h,e,t,s,K,r,hk,he,hM,hN,ho,hg,hgi=>by
  simp only[kU]at ho;unfold dR at hk;rw[gQ,wH2]at hk;obtain⟨v,hv,hk⟩:=hk;obtain⟨y,Z,B⟩:=he d _ hv;split at hk;rename_i k o0;rw[fS,wH2]at hk;obtain⟨ob,Y,hk⟩:=hk;split at hk;rename_i cs;obtain⟨id,ver,L,l1,hC,rfl⟩:=lM B;obtain⟨hj,hk⟩:=eP _ _ _ _ hk;split at hk;rename_i tl b4;obtain⟨e8,hk⟩:=jX _ _ _ _ _ hk;have hk:=eQ _ _ _ _ _ hk
  have b0:cs[j]? =some (.v (.slice none 0 0)):=by
   have:(cs.drop j)[0]? =some (.v (.slice none 0 0)):=by rw[b4];rfl
   simpa using this
  obtain⟨f1,b6,esz,row,hL,hl⟩:=tF hM Y hC;have d1:=(hM.hr.lt (by rw[Y];simp) hC)
  obtain⟨m1,m2⟩:=tE hM (po':=.box (Sim.setL cs j [.is es []])) (ao:=.arr true b6 esz ver [row]) Y hC ⟨d1.1,d1.2,b6,esz,row,by rw[Sim.look_upd,wO2 ⟨rfl,by rw[hL];rfl⟩],by
   refine⟨by rw[<-hl.1];simp[Sim.setL],fun i a b M hb=>?_⟩;simp only[Sim.setL]at M;rw[xH2]at M;split at M;rename_i e2;subst e2;split at M;cases M;have:=gG (hl.2 j _ _ b0 hb);subst this;exact .cl .isn;cases M;exact hl.2 i a b M hb⟩ rfl
  have F:({h:=upd s.h id (.arr true b6 esz ver [row]),n:=s.n}:Hp)=s:=by
   rw[vH hL]
  rw[F]at m1 m2;obtain⟨e2,h3,G,C2,J,H,fs,r1,r2,r3,r4,r5,r6,r7,r8⟩:=dN V W u rs q E l g _ n _ _ t s K r hk he m1 hN ho hg hgi;exact⟨e2,h3,G,C2,J,H,fs,r1,r2,r3,r4,r5,by omega,m2.trans r7,r8⟩;exact aE hk;exact aE hk;exact aE hk
 |.ownc d j ty es g' rs,q,E,l,g,C,n,h,e,t,s,K,r,hk,he,hM,hN,ho,hg,hgi=>by
  simp only[kU]at ho;unfold dR at hk;rw[gQ,wH2]at hk;obtain⟨v,hv,hk⟩:=hk;obtain⟨y,Z,B⟩:=he d _ hv;split at hk;rename_i k o0;rw[fS,wH2]at hk;obtain⟨ob,Y,hk⟩:=hk;split at hk;rename_i cs;obtain⟨id,ver,L,l1,hC,rfl⟩:=lM B;obtain⟨hj,hk⟩:=eP _ _ _ _ hk;split at hk;rename_i tl b4;obtain⟨fR,hk⟩:=jX _ _ _ _ _ hk;have hk:=eQ _ _ _ _ _ hk;have d6:=lL hM .nil
  have b0:cs[j]? =some (.v (.slice none 0 0)):=by
   have:(cs.drop j)[0]? =some (.v (.slice none 0 0)):=by rw[b4];rfl
   simpa using this
  obtain⟨m1,m2⟩:=iH1 (ty:=ty) (e':=es) (g:=g') (cs2:=Sim.setL cs j [.own n]) hM Y hC (fun row d2=>by
   refine⟨by rw[<-d2.1];simp[Sim.setL],fun i a b M hb=>?_⟩;simp only[Sim.setL]at M;rw[xH2]at M;split at M;rename_i e2;subst e2;split at M;cases M;have:=gG (d2.2 j _ _ b0 hb);subst this;exact .ownn (by simp[ext]) rfl;cases M;exact(d2.2 i a b M hb).mono d6)
  obtain⟨e2,h3,G,C2,J,H,fs,r1,r2,r3,r4,r5,r6,r7,r8⟩:=dN V W u rs q E l g _ (n+1) _ _ t s K r hk (he.mono d6) m1 hN ho hg hgi;exact⟨e2,h3,G,C2,J,H,fs,r1,r2,r3,r4,r5,by omega,m2.trans r7,r8⟩;exact aE hk;exact aE hk;exact aE hk
 |.fz d j rs,q,E,l,g,C,n,h,e,t,s,K,r,hk,he,hM,hN,ho,hg,hgi=>by
  simp only[kU]at ho;unfold dR at hk;rw[gQ,wH2]at hk;obtain⟨v,hv,hk⟩:=hk;obtain⟨y,Z,B⟩:=he d _ hv
  have fin:∀{m k v0 y0},Bp v0=some (m,k)->RV C v0 y0->((j=none/\y=y0)\/∃i cs',j=some i/\y=.agg cs'/\cs'[i]? =some y0)->fzK e h d m k j (fun e h=>dR O X dr rs e h n K)=some r->
    ∃e' h' n' C' x s' fs,K e' h' n'=some r/\Tr T X.is dr lim (rR g rs) {t:=t,s:=s} fs {t:=x,s:=s'}/\dT C' e' x/\cY C' n' h' lim s'/\x.length=N/\n<=n'/\Fr C h s C' h' s'/\∀(i:Nat),i∉cR rs []->x[i]? =t[i]? :=fun{m k v0 y0} hn g9 hj hk=>by
   obtain⟨C',e',h',q1,q2,q3,q4⟩:=iE1 hM he hv Z B hn g9 hj hk;obtain⟨e2,h3,G,C2,J,H,fs,r1,r2,r3,r4,r5,r6,r7,r8⟩:=dN V W u rs q E l g C' n _ _ t s K r q1 q3 q2 hN ho hg hgi;exact⟨e2,h3,G,C2,J,H,fs,r1,r2,r3,r4,r5,r6,q4.trans r7,r8⟩
  cases j with
  |none=>
   simp only at hk;split at hk;rename_i m k hn;exact fin hn B (.inl ⟨rfl,rfl⟩) hk;exact aE hk
  |some j=>
   simp only at hk;cases v with
   |agg cs=>
    obtain⟨cs',rfl,hl⟩:=nT B;obtain⟨hj,hk⟩:=eP _ _ _ _ hk;split at hk;rename_i c tl b4
    have b0:cs[j]? =some c:=by
     have:(cs.drop j)[0]? =some c:=by rw[b4];rfl
     simpa using this
    obtain⟨y0,k1,k2⟩:=hl.get b0;split at hk;rename_i m k hn;exact fin hn k2 (.inr ⟨j,cs',rfl,rfl,k1⟩) hk;exact aE hk;exact aE hk
   |_=>exact aE hk
 |.laxm d j rs,q,E,l,g,C,n,h,e,t,s,K,r,hk,he,hM,hN,ho,hg,hgi=>by
  simp only[kU]at ho;unfold dR at hk;rw[gQ,wH2]at hk;obtain⟨v,hv,hk⟩:=hk;obtain⟨y,Z,B⟩:=he d _ hv;split at hk;rw[eY]at hk;have hy:=gG B;subst hy
  have A:dT C ((d,.zm [])::edel e [d]) t:=fun i w hw=>by
   simp only[eW]at hw;split at hw;rename_i L;subst L;cases hw;exact⟨_,Z,.zm0⟩;obtain⟨z,q1,q2,_⟩:=he.edel [d] i w hw;exact⟨z,q1,q2⟩
  exact dN V W u rs q E l g C n h _ t s K r hk A hM hN ho hg hgi;rename_i j k o;rw[fS,wH2]at hk;obtain⟨ob,Y,hk⟩:=hk;split at hk;rename_i cs;obtain⟨id,ver,L,l1,hC,rfl⟩:=lM B;obtain⟨hj,hk⟩:=eP _ _ _ _ hk;split at hk;rename_i tl b4;obtain⟨e8,hk⟩:=jX _ _ _ _ _ hk;have hk:=eQ _ _ _ _ _ hk
  have b0:cs[j]? =some (.v (.map none)):=by
   have:(cs.drop j)[0]? =some (.v (.map none)):=by rw[b4];rfl
   simpa using this
  obtain⟨f1,b6,esz,row,hL,hl⟩:=tF hM Y hC;have d1:=(hM.hr.lt (by rw[Y];simp) hC)
  obtain⟨m1,m2⟩:=tE hM (po':=.box (Sim.setL cs j [.zm []])) (ao:=.arr true b6 esz ver [row]) Y hC ⟨d1.1,d1.2,b6,esz,row,by rw[Sim.look_upd,wO2 ⟨rfl,by rw[hL];rfl⟩],by
   refine⟨by rw[<-hl.1];simp[Sim.setL],fun i a b M hb=>?_⟩;simp only[Sim.setL]at M;rw[xH2]at M;split at M;rename_i e2;subst e2;split at M;cases M;have:=gG (hl.2 j _ _ b0 hb);subst this;exact .zm0;cases M;exact hl.2 i a b M hb⟩ rfl
  have F:({h:=upd s.h id (.arr true b6 esz ver [row]),n:=s.n}:Hp)=s:=by
   rw[vH hL]
  rw[F]at m1 m2;obtain⟨e2,h3,G,C2,J,H,fs,r1,r2,r3,r4,r5,r6,r7,r8⟩:=dN V W u rs q E l g _ n _ _ t s K r hk he m1 hN ho hg hgi;exact⟨e2,h3,G,C2,J,H,fs,r1,r2,r3,r4,r5,by omega,m2.trans r7,r8⟩;exact aE hk;exact aE hk;exact aE hk
end
end Go.P
namespace Go.P
open Go.Sim (AV AO Hp gP upd St IC IX Ex fC CK Wf Out doOp jA exec Foot wanted put popMark)
def cU (C:Cx) (n:Nat):Cx:=⟨fun k=>if k<n then C k else none,C.z⟩
theorem pH {C:Cx} {n:Nat} {x:PV} {y:AV} (h:RV C x y):∀{d:Nat},pR n d x=true->RV (cU C n) x y:=by
 have lt:∀{k d:Nat} {pl:Pl},C k=some pl->Nat.blt k n=true->cU C n k=some pl:=fun h1 h2=>by
  simp only[zB2]at h2;simp[cU,h2,h1]
 induction h with
 |cl h=>intro d hb;exact .cl h
 |undef=>intro d hb;exact .undef
 |ref h=>intro d hb;cases d with
  |zero=>cases hb
  |succ d=>exact .ref (lt (d:=0) h hb)
 |own h=>intro d hb;cases d with
  |zero=>cases hb
  |succ d=>exact .own (lt (d:=0) h hb)
 |ownn h hy=>intro d hb;cases d with
  |zero=>cases hb
  |succ d=>exact .ownn (lt (d:=0) h hb) hy
 |el h=>intro d hb;cases d with
  |zero=>cases hb
  |succ d=>exact .el (lt (d:=0) h hb)
 |map h=>intro d hb;cases d with
  |zero=>cases hb
  |succ d=>exact .map (lt (d:=0) h hb)
 |yld h=>intro d hb;cases d with
  |zero=>cases hb
  |succ d=>exact .yld (lt (d:=0) h hb)
 |fn h1 h2 v1 v2 i1 i2=>intro d hb;cases d with
  |zero=>cases hb
  |succ d=>
   simp only[pR,wL2]at hb;exact .fn h1 h2 (fun j x y a hy=>i1 j x y a hy (wR2.1 hb.1 x (wT2 a))) (fun j x y a hy=>i2 j x y a hy (wR2.1 hb.2 x (wT2 a)))
 |agg hl hc ih=>intro d hb;cases d with
  |zero=>cases hb
  |succ d=>exact .agg hl (fun j x y a hy=>ih j x y a hy (wR2.1 hb x (wT2 a)))
 |tup hl hc ih=>intro d hb;cases d with
  |zero=>cases hb
  |succ d=>exact .tup hl (fun j x y a hy=>ih j x y a hy (wR2.1 hb x (wT2 a)))
 |zs h=>intro d hb;exact .zs h
 |zm h he=>intro d hb;exact .zm h he
 |zm0=>intro d hb;exact .zm0
section
variable {R:Type}
theorem Md:∀(e:fH) (i:Nat) (K:PV->aB R) (D:aB R),Sr e i K D=match eW e i with|some v=>K v|none=>D
 |[],_,_,_=>rfl
 |(j,v)::r,i,K,D=>by
  simp only[Sr,eW,bZ]
  by_cases h:j=i<;>simp[h,Md r i K D]
theorem wY {e:fH} {n:Nat}:∀{is:aA Nat} {K:fH->aB R} {r:R},Lq e is n K=some r->∃e',K e'=some r/\∀i v,eW e' i=some v->eW e i=some v/\pR n 4 v=true
 |[],K,r,h=>⟨[],h,fun i v h=>by simp[eW]at h⟩
 |i::is,K,r,h=>by
  unfold Lq at h
  rw[Md]at h
  cases hv:eW e i with
  |none=>rw[hv]at h;exact wY h
  |some v=>
   rw[hv]at h
   simp only at h
   cases hb:pR n 4 v with
   |false=>rw[hb]at h;exact aE h
   |true=>
    rw[hb,wZ2]at h
    obtain⟨e',h1,h2⟩:=wY h
    refine⟨_,h1,fun j w hw=>?_⟩
    simp only[eW]at hw
    split at hw
    grind
    exact h2 j w hw
theorem Gr {h:bC} {n:Nat}:∀{r:bC} {K:bC->aB R} {x:R},Ss r h n K=some x->∃h',K h'=some x/\∀k,(aO r k=none->aO h' k=none)/\(aO r k≠none->∃o,aO h' k=some o/\aO h k=some o/\uW n o=true)
 |[],K,x,hk=>⟨[],hk,fun k=>⟨fun _=>rfl,fun h=>absurd rfl h⟩⟩
 |(j,o)::r,K,x,hk=>by
  unfold Ss at hk
  rw[fS,wH2]at hk
  obtain⟨o',b,hk⟩:=hk
  cases hb:uW n o' with
  |false=>rw[hb]at hk;exact aE hk
  |true=>
   rw[hb,wZ2]at hk
   obtain⟨h',h1,h2⟩:=Gr hk
   refine⟨_,h1,fun k=>?_⟩
   simp only[aO]
   by_cases a:j=k
   grind
   grind
variable {C0 C:Cx} {n0 n:Nat} {h0 h:bC} {e:fH} {t:List AV} {s0 s:Hp} {lim:Nat}
theorem oI (hd:∀k,aO h0 k≠none->k<n0) (w:cY C n h lim s) (he:dT C e t) {keep:aA Nat} {K:Lr->aB R} {r:R} (hk:mS keep h0 n0 e h K=some r):
  ∃st,K st=some r/\dT (cU C n0) st.e t/\cY (cU C n0) n0 st.h lim s/\(∀k o,aO st.h k=some o->aO h k=some o)/\(∀k,aO h0 k=none↔aO st.h k=none):=by
 unfold mS at hk;obtain⟨e',hk,h1⟩:=wY hk;obtain⟨h',hk,h2⟩:=Gr hk;have m:∀k o,aO h' k=some o->aO h k=some o/\uW n0 o=true/\k<n0:=fun k o p=>by grind
 have hr:∀k pl,cU C n0 k=some pl->C k=some pl/\k<n0:=fun k pl hk=>by
  simp only[cU]at hk;split at hk
  grind
  cases hk
 refine⟨_,hk,fun i v hv=>?_,⟨⟨fun k o A=>?_,fun k k' id v e l v' e' l' a b c d=>?_,fun id o B=>?_⟩,fun k pl hk=>(hr k pl hk).2,w.wf,w.lim⟩,fun k o p=>(m k o p).1,fun k=>⟨(h2 k).1,fun B=>?_⟩⟩;obtain⟨q1,q2⟩:=h1 i v hv;obtain⟨y,p1,p2⟩:=he i v q1;exact⟨y,p1,pH p2 q2⟩;obtain⟨q1,q2,q3⟩:=m k o A;obtain⟨pl,p1,p2⟩:=w.hr.ob k o q1;refine⟨pl,by simp[cU,q3,p1],?_⟩;cases o with
 |box cs=>
  cases pl with
  |nil=>exact p2
  |atp id ver e len=>
   obtain⟨a1,a2,ty,esz,row,a3,a4⟩:=p2;exact⟨a1,a2,ty,esz,row,a3,a4.1,fun j x y u hy=>pH (a4.2 j x y u hy) (wR2.1 q2 x (wT2 u))⟩
 |lst ty e g rows=>cases pl<;>exact p2
 |lz ty e dp rows=>cases pl<;>exact p2
 |mp es=>cases pl<;>exact p2
 |fl fs=>
  cases pl with
  |nil=>exact p2
  |atp id ver e len=>
   obtain⟨a1,a2,a3,a4,ty,els,a5,a6,a7⟩:=p2;refine⟨a1,a2,a3,a4,ty,els,a5,a6,fun i f row hf q=>?_⟩;have z:=wR2.1 q2 f (wT2 hf);refine⟨(a7 i f row hf q).1,fun j x y u hy=>?_⟩;cases j with
   |zero=>simp at u;subst u;exact pH ((a7 i f row hf q).2 0 f y rfl hy) z
   |succ j=>simp at u
 |loop N' e ps a b busy fin=>
  cases pl with
  |nil=>exact p2
  |atp id ver e' len=>
   obtain⟨a1,a2,st,pend,tmps,a3,a4,a5,a6⟩:=p2;refine⟨a1,a2,st,pend,tmps,a3,a4,fun i v hv=>?_,a6⟩;obtain⟨y,E,F⟩:=a5 i v hv;exact⟨y,E,pH F (wR2.1 q2 _ (Ci hv))⟩
 have D:∀k,aO h' k≠none->aO h k≠none:=fun k hk=>by
  cases p:aO h' k with
  |none=>exact absurd p hk
  |some o=>rw[(m k o p).1];simp
 exact w.hr.inj k k' id v e l v' e' l' (D k a) (D k' b) (hr _ _ c).1 (hr _ _ d).1;obtain⟨z1,z2,z3,z4⟩:=w.hr.zr id o B;refine⟨z1,z2,fun k v e l a b=>z3 k v e l ?_ (hr _ _ b).1,z4⟩;cases p:aO h' k with
 |none=>exact absurd p a
 |some o=>rw[(m k o p).1];simp
 grind
theorem Fr.canon {h1 hc:bC} (c:cY C0 n0 h1 lim s0) (hf:Fr C0 h1 s0 C h s) (a:∀k o,aO hc k=some o->aO h k=some o) (b:∀k,aO h1 k=none↔aO hc k=none):Fr C0 h1 s0 (cU C n0) hc s:=by
 refine⟨hf.sk,hf.n,hf.keep,fun id f d=>hf.own id f ?_,fun k o hk=>?_,hf.zl,hf.zn⟩;obtain⟨k,v,e,l,q1,q2⟩:=d;refine⟨k,v,e,l,?_,?_⟩;cases d:aO hc k with
 |none=>exact absurd d q1
 |some o=>rw[a k o d];simp
 simp only[cU]at q2;split at q2;exact q2;cases q2;obtain⟨o',q1,q2⟩:=hf.kd k o hk
 have g:k<n0:=by
  obtain⟨pl,p1,_⟩:=c.hr.ob k o hk;exact c.dom k pl p1
 cases hz:aO hc k with
 |none=>rw[(b k).2 hz]at hk;cases hk
 |some o2=>
  have:=a k o2 hz;rw[q1]at this;cases this;exact⟨o',rfl,fun hb=>⟨(q2 hb).1,by simp[cU,g,(q2 hb).2]⟩⟩
theorem gL:∀{h:aA gP} {id:Nat} {o:AO},Sim.look h id=some o->(∀ty e v els,o≠.arr true ty e v els)->Sim.look (popMark h) id=some o
 |[],id,o,h,_=>by simp[Sim.look]at h
 |.mark::r,id,o,h,_=>h
 |.ob i o'::r,id,o,h,hne=>by
  simp only[Sim.look]at h
  simp only[popMark]
  split at h
  rename_i a
  cases h
  split
  grind
  simp[Sim.look,a]
  rename_i a
  have ih:=gL h hne
  split
  exact ih
  simp[Sim.look,a,ih]
theorem cY.pop {C1:Cx} {h1 hc:bC} {f:Hp} (l:cY C0 n0 h1 lim s0) (d:cY C1 n0 hc lim f) (hf:Fr C0 h1 {h:=.mark::s0.h,n:=s0.n} C1 hc f) (c:∀k,aO h1 k=none↔aO hc k=none):
  cY C1 n0 hc lim {h:=popMark f.h,n:=f.n}/\Fr C0 h1 s0 C1 hc {h:=popMark f.h,n:=f.n}:=by
 obtain⟨p1,p2⟩:=hf.sk.pop;refine⟨⟨⟨fun k o hk=>?_,d.hr.inj,fun id o j=>?_⟩,d.dom,d.wf.pop,d.lim⟩,⟨p1,hf.n,fun id i p=>?_,hf.own,hf.kd,hf.zl,hf.zn⟩⟩;obtain⟨pl,q1,q2⟩:=d.hr.ob k o hk;refine⟨pl,q1,?_⟩;cases o with
 |box cs=>
  cases pl with
  |nil=>exact q2
  |atp id ver e len=>
   obtain⟨a1,a2,ty,esz,row,a3,a4⟩:=q2
   have m:id<s0.n:=by
    cases j:aO h1 k with
    |none=>rw[(c k).1 j]at hk;cases hk
    |some o0=>
     obtain⟨o',w1,w2⟩:=hf.kd k o0 j;rw[hk]at w1;cases w1;obtain⟨_,w3⟩:=w2 rfl;rw[q1]at w3;exact(l.hr.lt (by rw[j];simp) w3.symm).2
   exact⟨a1,a2,ty,esz,row,by rw[p2 id m];exact a3,a4⟩
 |lst ty e g rows=>
  cases pl with
  |nil=>exact q2
  |atp id ver e' len=>
   obtain⟨a1,a2,a3,a4,els,a5,a6⟩:=q2;exact⟨a1,a2,a3,a4,els,gL a5 (fun _ _ _ _ e=>by cases e),a6⟩
 |lz ty e dp rows=>
  cases pl with
  |nil=>exact q2
  |atp id ver e' len=>
   obtain⟨a1,a2,a3,a4,a7,els,a5,a6⟩:=q2;exact⟨a1,a2,a3,a4,a7,els,gL a5 (fun _ _ _ _ e=>by cases e),a6⟩
 |mp es=>
  cases pl with
  |nil=>exact q2
  |atp id ver e' len=>
   obtain⟨a1,a2,es',a3,a4⟩:=q2;exact⟨a1,a2,es',gL a3 (fun _ _ _ _ e=>by cases e),a4⟩
 |fl fs=>
  cases pl with
  |nil=>exact q2
  |atp id ver e' len=>
   obtain⟨a1,a2,a3,a4,ty,els,a5,a6⟩:=q2;exact⟨a1,a2,a3,a4,ty,els,gL a5 (fun _ _ _ _ e=>by cases e),a6⟩
 |loop N' e ps a b busy fin=>
  cases pl with
  |nil=>exact q2
  |atp id ver e' len=>
   obtain⟨a1,a2,st,pend,tmps,a3,a4⟩:=q2;exact⟨a1,a2,st,pend,tmps,gL a3 (fun _ _ _ _ e=>by cases e),a4⟩
 obtain⟨z1,z2,z3,z4⟩:=d.hr.zr id o j;exact⟨gL z1 (fun _ _ _ _ e=>by subst e;cases z4),z2,z3,z4⟩;rw[p2 id i];exact hf.keep id i p
end
end Go.P
namespace Go.P
open Go.Sim (AV AO Hp gP upd St IC IX Ex fC CK Wf Out doOp jA exec Foot wanted put popMark)
def vI (NF:FuncId->Bool) (N:Nat) (rd:Bool):PC->Bool
 |.reg ops=>kU N [] false [] ops
 |.regD dr ops before=>(Nat.beq dr 3||Nat.beq dr 4)&&kU N [] false [] ops&&Ia ((rR none ops).map fun o=>mW NF dr o.k) before
 |.regX dr ops before ex=>(Nat.beq dr 3||Nat.beq dr 4)&&kU N [] false [] ops&&Tb ((rR none ops).map fun o=>mW NF dr o.k) before ex&&ex.all (We (rR none ops))
 |.seq a b=>vI NF N rd a&&vI NF N rd b
 |.cond c a b=>Qg N c&&vI NF N rd a&&vI NF N rd b
 |.condJ _ c a b=>Qg N c&&vI NF N rd a&&vI NF N rd b
 |.condL c a b=>Qg N c&&vI NF N rd a&&vI NF N rd b
 |.block _ c=>vI NF N rd c
 |.loop _ _ c=>vI NF N rd c
 |.loopU _ _ c=>vI NF N rd c
 |.rangeF N' _ f _ _ _=> !rd&&Nat.beq N' N&&Qg N f
 |_=>true
def okL (NF:FuncId->Bool) (N:Nat) (ps:aA Nat) (a b:PC):Bool:=ps.all (fun p=>Nat.blt p N)&&vI NF N true a&&vI NF N true b
theorem tK:∀{ops:iT} {g:aB (Nat×Bool)},yH ops=true->rR g ops=[]
 |.nil,g,_=>rfl
 |.lax _ _ r,g,h=>tK (ops:=r) h
 |.own _ _ _ _ r,g,h=>tK (ops:=r) h
 |.ownc _ _ _ _ _ r,g,h=>tK (ops:=r) h
 |.laxc _ _ _ r,g,h=>tK (ops:=r) h
 |.fz _ _ r,g,h=>tK (ops:=r) h
 |.laxm _ _ r,g,h=>tK (ops:=r) h
section
variable {T:jA} {O:tW} {X:NX}
def Yp {R:Type} (T:jA) (N lim:Nat) (rd:Bool) (c:IC) (C:Cx) (n:Nat) (h:bC) (t:aA AV) (s:Hp) (K:Ex->fH->bC->Nat->aB R) (r:R):Prop:=
 ∃x e' h' n' C' a s',K x e' h' n'=some r/\dT C' e' a/\cY C' n' h' lim s'/\a.length=N/\n<=n'/\Fr C h s C' h' s'/\∃D,∀d,D<=d->exec T d lim rd c {t:=t,s:=s}=some (x,{t:=a,s:=s'})
variable {R:Type} {N lim:Nat} {rd:Bool}
theorem Tr.nil_inv {NF:FuncId->Bool} {dr:Nat} {σ τ:St} {fs:aA Foot} (h:Tr T NF dr lim [] σ fs τ):τ=σ:=by cases h;rfl
theorem Me {C:Cx} {x:PV} {a:AV} (h:RV C x a) (hf:aM1 x=true):Sim.idOf a=[]:=by
 cases h with
 |cl h=>cases h<;>first|rfl|simp[aM1]at hf
 |_=>simp[aM1]at hf
theorem bS1 {C:Cx} {x:PV} {a:AV} {k i:Nat} (h:RV C x a) (hk:uZ x=some k) (hi:i∈Sim.idOf a):∃v e l,C k=some (.atp i v e l):=by
 cases h with
 |cl h=>cases h<;>simp[uZ]at hk
 |ownn h hy=>subst hy;simp[Sim.idOf]at hi
 |ref h=>simp[uZ]at hk;simp[Sim.idOf]at hi;subst hk;subst hi;exact⟨_,_,_,h⟩
 |own h=>simp[uZ]at hk;simp[Sim.idOf]at hi;subst hk;subst hi;exact⟨_,_,_,h⟩
 |el h=>simp[uZ]at hk;simp[Sim.idOf]at hi;subst hk;subst hi;exact⟨_,_,_,h⟩
 |map h=>simp[uZ]at hk;simp[Sim.idOf]at hi;subst hk;subst hi;exact⟨_,_,_,h⟩
 |_=>simp[uZ]at hk
theorem bT1 {C:Cx} {e:fH} {t:aA AV} {n lim:Nat} {h:bC} {s:Hp} (he:dT C e t) (o:cY C n h lim s) {p:Nat×Nat×Nat×Nat}
  (hp:(match eW e p.2.2.1,eW e p.2.2.2 with|some x,some y=>Px h x y|_,_=>false)=true):Tc {t:=t,s:=s} p:=by
 split at hp;rename_i x y r hy;obtain⟨a,q,g⟩:=he _ _ r;obtain⟨b,hb,j⟩:=he _ _ hy;refine⟨a,b,q,hb,fun i hi d=>?_⟩;unfold Px at hp;simp only[wY2]at hp;rcases hp with(hp|hp)|hp;rw[Me g hp]at hi;simp at hi;rw[Me j hp]at d;simp at d;split at hp;rename_i k k' h1 h2;simp only[wL2,xG2,bZ,xT2]at hp;obtain⟨⟨f,hk⟩,c⟩:=hp;obtain⟨v,m,l,c1⟩:=bS1 g h1 hi;obtain⟨v',e2,l',c2⟩:=bS1 j h2 d;exact f (o.hr.inj k k' i v m l v' e2 l' (fun h=>by rw[h]at hk;cases hk) (fun h=>by rw[h]at c;cases c) c1 c2);cases hp;cases hp
theorem iI1 {a b:IC} {C:Cx} {n:Nat} {h:bC} {t:aA AV} {s:Hp} {K:Ex->fH->bC->Nat->aB R} {r:R} {v:PC}
  (y:Yp T N lim rd a C n h t s (fun x e h n=>match x with|.normal=>gA O X v e h n K|.exit i=>K (.exit i) e h n|.ret=>K .ret e h n) r)
  (hb:∀C n h e t s,gA O X v e h n K=some r->dT C e t->cY C n h lim s->t.length=N->Yp T N lim rd b C n h t s K r):
  Yp T N lim rd (.seq a b) C n h t s K r:=by
 obtain⟨x,f,h1,p,C1,u,q,g,j,k,l,w,m,D,o⟩:=y;cases x with
 |normal=>
  obtain⟨x2,e2,h2,z,C2,B,A,q1,q2,q3,q4,q5,q6,D2,q7⟩:=hb C1 p h1 f u q g j k l;refine⟨x2,e2,h2,z,C2,B,A,q1,q2,q3,q4,by omega,m.trans q6,D+D2+1,fun d hd=>?_⟩;obtain⟨d,rfl⟩:∃c,d=c+1:=⟨d-1,by omega⟩
  simp only[exec,o d (by omega)];exact q7 d (by omega)
 |exit i=>
  refine⟨.exit i,f,h1,p,C1,u,q,g,j,k,l,w,m,D+1,fun d hd=>?_⟩;obtain⟨d,rfl⟩:∃c,d=c+1:=⟨d-1,by omega⟩
  simp only[exec,o d (by omega)]
 |ret=>
  refine⟨.ret,f,h1,p,C1,u,q,g,j,k,l,w,m,D+1,fun d hd=>?_⟩;obtain⟨d,rfl⟩:∃c,d=c+1:=⟨d-1,by omega⟩
  simp only[exec,o d (by omega)]
theorem Cl {c:IX} {a b:IC} {C:Cx} {n:Nat} {h:bC} {t:aA AV} {s:Hp} {K:Ex->fH->bC->Nat->aB R} {r:R} {v:Bool} (hc:c.ev t=some (.v (.bool v)))
  (g:Yp T N lim rd (if v then a else b) C n h t s K r):Yp T N lim rd (.cond c a b) C n h t s K r:=by
 obtain⟨x,f,h1,q,C1,w,u,i,j,k,l,m,o,D,p⟩:=g;refine⟨x,f,h1,q,C1,w,u,i,j,k,l,m,o,D+1,fun d hd=>?_⟩;obtain⟨d,rfl⟩:∃e,d=e+1:=⟨d-1,by omega⟩
 simp only[exec,hc];exact p d (by omega)
theorem Ij {C:Cx} {e:fH} {t:aA AV} {c:PX} {vs:aA PV} (he:dT C e t) (b:Qg N c=true) (a:evs e [c]=some vs) {v:Bool} (hv:vs=[.v (.bool v)]):(eX c).ev t=some (.v (.bool v)):=by
 obtain⟨ys,h1,h2⟩:=lC he (xs:=[c]) (by simpa using b) a;subst hv;obtain⟨y,_,rfl,h3,h4⟩:=h2.inv_cons;rw[h4.inv_nil,gG h3]at h1;simp only[yY2,aH3,Sim.evs]at h1;split at h1
 grind
 cases h1
theorem Mf {c:IC} {w:PC} {keep kx:aA Nat} {n:Nat} {h0:bC} (hd:∀k,aO h0 k≠none->k<n)
  (hb:∀{R':Type} (K':Ex->fH->bC->Nat->aB R') (r':R') C n h e t s,gA O X w e h n K'=some r'->dT C e t->cY C n h lim s->t.length=N->Yp T N lim rd c C n h t s K' r'):
  ∀(k:Nat) (st:Lr) (C:Cx) (t:aA AV) (s:Hp) (x:Ex) (st':Lr),
   aZ (fun s:Lr=>gA O X w s.e s.h n fun x e' h' _=>mS (lk x keep kx) h0 n e' h' fun s'=>some (match x with|.normal=>(.inl s':Lr⊕(Ex×Lr))|x=>.inr (x,s'))) k st=some (x,st')->
   dT C st.e t->cY C n st.h lim s->t.length=N->(∀k,aO h0 k=none↔aO st.h k=none)->
   ∃C' j s',dT C' st'.e j/\cY C' n st'.h lim s'/\j.length=N/\Fr C st.h s C' st'.h s'/\∃D,∀d,D<=d->exec T d lim rd (.loop c) {t:=t,s:=s}=some (x,{t:=j,s:=s'})
 |0,st,C,t,s,x,st',h,_,_,_,_=>by simp[aZ]at h
 |k+1,st,C,t,s,x,st',h,he,hM,hN,hkeys=>by
  simp only[aZ,wH2]at h
  obtain⟨q,z,h⟩:=h
  have b:cY C n st.h lim {h:=.mark::s.h,n:=s.n}:=⟨⟨hM.hr.ob,hM.hr.inj,hM.hr.zr⟩,hM.dom,hM.wf,hM.lim⟩
  obtain⟨x1,H,h1,K,C1,v,L,B,E,F,o,J,G,D,p⟩:=hb _ q C n st.h st.e t _ z he b hN
  have y:∀k,aO st.h k≠none->k<n:=fun k hk=>hd k (fun A=>hk ((hkeys k).1 A))
  obtain⟨g,w1,w2,w3,w4,w5⟩:=oI hd F E B
  have l:∀k,aO st.h k=none↔aO g.h k=none:=fun k=>(hkeys k).symm.trans (w5 k)
  have m:=Fr.canon b G w4 l
  obtain⟨r,u⟩:=cY.pop hM w3 m l
  cases x1 with
  |normal=>
   simp only[wP2]at w1
   subst w1
   simp only at h
   obtain⟨C',j,s',p1,p2,p3,p4,D2,p5⟩:=Mf hd hb k g _ v _ x st' h w2 r o w5
   refine⟨C',j,s',p1,p2,p3,u.trans p4,D+D2+1,fun d f=>?_⟩
   obtain⟨d,rfl⟩:∃a,d=a+1:=⟨d-1,by omega⟩
   rw[exec]
   simp only[p d (by omega)]
   exact p5 d (by omega)
  |exit i=>
   simp only[wP2]at w1
   subst w1
   simp only[wP2,xC2]at h
   obtain⟨rfl,rfl⟩:=h
   refine⟨_,v,_,w2,r,o,u,D+1,fun d f=>?_⟩
   obtain⟨d,rfl⟩:∃a,d=a+1:=⟨d-1,by omega⟩
   rw[exec]
   simp only[p d (by omega)]
  |ret=>
   simp only[wP2]at w1
   subst w1
   simp only[wP2,xC2]at h
   obtain⟨rfl,rfl⟩:=h
   refine⟨_,v,_,w2,r,o,u,D+1,fun d f=>?_⟩
   obtain⟨d,rfl⟩:∃a,d=a+1:=⟨d-1,by omega⟩
   rw[exec]
   simp only[p d (by omega)]
theorem Gs {c:IC} {w:PC} {keep:aA Nat} {n:Nat} {h0:bC} (hd:∀k,aO h0 k≠none->k<n)
  (hb:∀{R':Type} (K':Ex->fH->bC->Nat->aB R') (r':R') C n h e t s,gA O X w e h n K'=some r'->dT C e t->cY C n h lim s->t.length=N->Yp T N lim rd c C n h t s K' r'):
  ∀(k:Nat) (st:Lr) (C:Cx) (t:aA AV) (s:Hp) (K:Ex->Lr->aB R) (r:R),
   Bq (fun e h K=>gA O X w e h n fun x e h _=>K x e h) (fun e' h' K=>mS keep h0 n e' h' K) k st K=some r->
   dT C st.e t->cY C n st.h lim s->t.length=N->(∀k,aO h0 k=none↔aO st.h k=none)->
   ∃x st' C' j s',K x st'=some r/\dT C' st'.e j/\cY C' n st'.h lim s'/\j.length=N/\Fr C st.h s C' st'.h s'/\∃D,∀d,D<=d->exec T d lim rd (.loop c) {t:=t,s:=s}=some (x,{t:=j,s:=s'})
 |0,st,C,t,s,K,r,h,_,_,_,_=>by simp[Bq]at h
 |k+1,st,C,t,s,K,r,hq,he,hM,hN,hkeys=>by
  simp only[Bq]at hq
  have f:cY C n st.h lim {h:=.mark::s.h,n:=s.n}:=⟨⟨hM.hr.ob,hM.hr.inj,hM.hr.zr⟩,hM.dom,hM.wf,hM.lim⟩
  obtain⟨x1,G,h1,J,C1,v,L,A,B,E,o,H,F,D,p⟩:=hb _ r C n st.h st.e t _ hq he f hN
  have y:∀k,aO st.h k≠none->k<n:=fun k hk=>hd k (fun z=>hk ((hkeys k).1 z))
  obtain⟨a,w1,w2,w3,w4,w5⟩:=oI hd E B A
  have l:∀k,aO st.h k=none↔aO a.h k=none:=fun k=>(hkeys k).symm.trans (w5 k)
  have m:=Fr.canon f F w4 l
  obtain⟨q,u⟩:=cY.pop hM w3 m l
  cases x1 with
  |normal=>
   obtain⟨x,st',C',j,s',p0,p1,p2,p3,p4,D2,p5⟩:=Gs hd hb k a _ v _ K r w1 w2 q o w5
   refine⟨x,st',C',j,s',p0,p1,p2,p3,u.trans p4,D+D2+1,fun d g=>?_⟩
   obtain⟨d,rfl⟩:∃b,d=b+1:=⟨d-1,by omega⟩
   rw[exec]
   simp only[p d (by omega)]
   exact p5 d (by omega)
  |exit i=>
   refine⟨.exit i,a,_,v,_,w1,w2,q,o,u,D+1,fun d g=>?_⟩
   obtain⟨d,rfl⟩:∃b,d=b+1:=⟨d-1,by omega⟩
   rw[exec]
   simp only[p d (by omega)]
  |ret=>
   refine⟨.ret,a,_,v,_,w1,w2,q,o,u,D+1,fun d g=>?_⟩
   obtain⟨d,rfl⟩:∃b,d=b+1:=⟨d-1,by omega⟩
   rw[exec]
   simp only[p d (by omega)]
def yS:bC->Nat->bC
 |[],_=>[]
 |(j,o)::r,k=>if j=k then yS r k else(j,o)::yS r k
theorem Mh:∀(h:bC) (k:Nat) (K:bC->aB R),Lo h k K=K (yS h k)
 |[],_,_=>rfl
 |(j,o)::r,k,K=>by
  simp only[Lo,yS,bZ]
  by_cases e:j=k<;>simp[e,Mh r k]
theorem oK:∀(h:bC) (k j:Nat),aO (yS h k) j=if j=k then none else aO h j
 |[],k,j=>by simp[yS,aO]
 |(i,o)::r,k,j=>by
  have ih:=oK r k j
  simp only[yS]
  by_cases e:i=k
  subst e
  rw[wO2 rfl,ih]
  by_cases e2:j=i
  simp[e2]
  simp[e2,aO,Ne.symm e2]
  rw[wN2 e]
  simp only[aO]
  by_cases e2:i=j
  subst e2;simp[e]
  grind
theorem Cm {e:fH}:∀{is:aA Nat} {K:fH->aB R} {r:R},Su e is K=some r->∃e',K e'=some r/\∀i v,eW e' i=some v->eW e i=some v
 |[],K,r,h=>⟨[],h,fun i v h=>by simp[eW]at h⟩
 |i::is,K,r,h=>by
  unfold Su at h
  rw[gQ,wH2]at h
  obtain⟨v,hv,h⟩:=h
  obtain⟨e',h1,h2⟩:=Cm h
  refine⟨_,h1,fun j w hw=>?_⟩
  simp only[eW]at hw
  split at hw
  grind
  exact h2 j w hw
theorem zG {C:Cx} {n:Nat} {h:bC} {lim:Nat} {s:Hp} (f:cY C n h lim s) {k id ver e len N:Nat} {c:fH} {ps:aA Nat} {a b:PC} {busy:Bool} {fin:aB Ex} (hg:aO h k=some (.loop N c ps a b busy fin)) (d:C k=some (.atp id ver e len)):
  lim<=id/\∃st pend tmps,Sim.look s.h id=some (.loop st pend tmps ps (kR a) (kR b))/\tmps.length=N/\dT C c tmps/\StR busy fin st pend:=by
 obtain⟨pl,h1,h2⟩:=f.hr.ob k _ hg;rw[d]at h1;cases h1;exact⟨h2.1,h2.2.2⟩
theorem eR (G:∀f xs v,O f xs=some v->oH T f xs v) (E:NOK T X):∀(c:PC) {R:Type} (K:Ex->fH->bC->Nat->aB R) (r:R) (C:Cx) (n:Nat) (h:bC) (e:fH) (t:aA AV) (s:Hp),gA O X c e h n K=some r->dT C e t->cY C n h lim s->t.length=N->
  vI X.is N rd c=true->Yp T N lim rd (kR c) C n h t s K r
 |.skip,R,K,r,C,n,h,e,t,s,hk,he,j,w,u=>⟨.normal,e,h,n,C,t,s,hk,he,j,w,wK2 _,.refl _ _ _,1,fun d hd=>by
   obtain⟨d,rfl⟩:∃F,d=F+1:=⟨d-1,by omega⟩
   simp only[kR,exec]⟩
 |.exit i,R,K,r,C,n,h,e,t,s,hk,he,j,w,u=>⟨.exit i,e,h,n,C,t,s,hk,he,j,w,wK2 _,.refl _ _ _,1,fun d hd=>by
   obtain⟨d,rfl⟩:∃F,d=F+1:=⟨d-1,by omega⟩
   simp only[kR,exec]⟩
 |.ret,R,K,r,C,n,h,e,t,s,hk,he,j,w,u=>⟨.ret,e,h,n,C,t,s,hk,he,j,w,wK2 _,.refl _ _ _,1,fun d hd=>by
   obtain⟨d,rfl⟩:∃F,d=F+1:=⟨d-1,by omega⟩
   simp only[kR,exec]⟩
 |.reg ops,R,K,r,C,n,h,e,t,s,hk,he,j,w,u=>by
  obtain⟨e',h',n',C',U,s',fs,q1,q2,q3,q4,q5,q6,q7,_⟩:=dN G E (.inl rfl) ops [] [] false none C n h e t s _ r hk he j w u trivial (fun _ _ e=>by cases e)
  obtain⟨D,hD⟩:=q2.run
  refine⟨.normal,e',h',n',C',U,s',q1,q3,q4,q5,q6,q7,D+1,fun d hd=>?_⟩
  obtain⟨d,rfl⟩:∃F,d=F+1:=⟨d-1,by omega⟩
  simp only[kR,exec,hD d (by omega),xP2]
 |.regD dr ops before,R,K,r,C,n,h,e,t,s,hk,he,j,w,u=>by
  simp only[vI,wL2,wY2,bZ,wS2]at u
  obtain⟨e',h',n',C',U,s',fs,q1,q2,q3,q4,q5,q6,q7,_⟩:=dN G E (.inr u.1.1) ops [] [] false none C n h e t s _ r hk he j w u.1.2 trivial (fun _ _ e=>by cases e)
  obtain⟨D,hD⟩:=q2.draw (by omega) u.2
  refine⟨.normal,e',h',n',C',U,s',q1,q3,q4,q5,q6,q7,D+1,fun d hd=>?_⟩
  obtain⟨d,rfl⟩:∃F,d=F+1:=⟨d-1,by omega⟩
  obtain⟨gs,g1,g2⟩:=hD d (by omega)
  simp only[kR,exec,g1,g2,xM2]
 |.dead _,R,K,r,C,n,h,e,t,s,hk,he,j,w,u=>nomatch hk
 |.regX dr ops before ex,R,K,r,C,n,h,e,t,s,hk,he,j,w,u=>by
  simp only[vI,wL2,wY2,bZ,wS2]at u
  obtain⟨⟨⟨d2,d6⟩,b6⟩,d4⟩:=u
  unfold gA at hk
  obtain⟨e',h',n',C',U,s',fs,q1,q2,q3,q4,q5,q6,q7,_⟩:=dN G E (.inr d2) ops [] [] false none C n h e t s _ r hk he j w d6 trivial (fun _ _ e=>by cases e)
  cases hb:exB e' h' ex with
  |false=>rw[hb]at q1;cases q1
  |true=>
   rw[hb]at q1
   obtain⟨D,hD⟩:=q2.drawX (by omega) b6 d4 (fun p hp=>bT1 q3 q4 (wR2.1 hb p hp))
   refine⟨.normal,e',h',n',C',U,s',q1,q3,q4,q5,q6,q7,D+1,fun d hd=>?_⟩
   obtain⟨d,rfl⟩:∃F,d=F+1:=⟨d-1,by omega⟩
   obtain⟨gs,g1,g2⟩:=hD d (by omega)
   simp only[kR,exec,g1,g2,xM2]
 |.seq a b,R,K,r,C,n,h,e,t,s,hk,he,j,w,u=>by
  simp only[vI,wL2]at u
  have ha:=eR G E a _ r C n h e t s hk he j w u.1
  have hb:=fun C n h e t s hk he j w=>eR G E b K r C n h e t s hk he j w u.2
  have b0:=iI1 ha hb
  unfold kR
  split
  .rename_i ops
   split
   .rename_i a0
    simp only[wL2]at a0
    obtain⟨e',h',n',C',U,s',fs,q1,q2,q3,q4,q5,q6,q7,_⟩:=dN G E (.inl rfl) ops [] [] false none C n h e t s _ r hk he j w u.1 trivial (fun _ _ e=>by cases e)
    rw[tK a0.1]at q2
    have:=q2.nil_inv
    cases this
    obtain⟨x2,e2,h2,n2,C2,t2,s2,w1,w2,w3,w4,w5,w6,D2,w7⟩:=hb C' n' h' e' t s q1 q3 q4 w
    exact⟨x2,e2,h2,n2,C2,t2,s2,w1,w2,w3,w4,by omega,q7.trans w6,D2,w7⟩
   .exact b0
  .exact b0
 |.cond c a b,R,K,r,C,n,h,e,t,s,hk,he,j,w,u=>by
  simp only[vI,wL2]at u
  unfold gA at hk
  rw[jL,wH2]at hk
  obtain⟨vs,H,hk⟩:=hk
  split at hk
  .rename_i v
   rw[oZ]at hk
   refine Cl (Ij he u.1.1 H rfl) ?_
   cases v with
   |true=>exact eR G E a K r C n h e t s hk he j w u.1.2
   |false=>exact eR G E b K r C n h e t s hk he j w u.2
  .exact aE hk
 |.condJ keep c a b,R,K,r,C,n,h,e,t,s,hk,he,j,w,u=>by
  simp only[vI,wL2]at u
  unfold gA at hk
  rw[jL,wH2]at hk
  obtain⟨vs,H,hk⟩:=hk
  split at hk
  .rename_i v
   rw[cH,wH2]at hk
   obtain⟨q,hq,hk⟩:=hk
   rw[oZ]at hq
   refine Cl (Ij he u.1.1 H rfl) ?_
   have fin:∀{c:IC},Yp T N lim rd c C n h t s (fun x e' h' _=>mS keep h n e' h' fun s=>some (x,s)) q->Yp T N lim rd c C n h t s K r:=by
    intro c b7;obtain⟨x1,J,h1,n1,C1,t1,s1,Y,k2,k3,k4,k5,k6,D,k7⟩:=b7
    obtain⟨S,w1,w2,w3,w4,w5⟩:=oI (fun k hk=>by
     cases L:aO h k with
     |none=>exact absurd L hk
     |some o=>obtain⟨pl,p1,_⟩:=j.hr.ob k o L;exact j.dom k pl p1) k3 k2 Y
    cases w1;exact⟨x1,S.e,S.h,n,_,t1,s1,hk,w2,w3,k4,wK2 _,Fr.canon j k6 w4 w5,D,k7⟩
   cases v with
   |true=>exact fin (eR G E a _ q C n h e t s hq he j w u.1.2)
   |false=>exact fin (eR G E b _ q C n h e t s hq he j w u.2)
  .exact aE hk
 |.condL c a b,R,K,r,C,n,h,e,t,s,hk,he,j,w,u=>by
  simp only[vI,wL2]at u;unfold gA at hk;rw[jL,wH2]at hk;obtain⟨vs,H,hk⟩:=hk;split at hk
  .rename_i v
   refine Cl (Ij he u.1.1 H rfl) ?_;cases v with
   |true=>exact eR G E a K r C n h e t s hk he j w u.1.2
   |false=>exact eR G E b K r C n h e t s hk he j w u.2
  .exact aE hk
 |.loopU m keep c,R,K,r,C,n,h,e,t,s,hk,he,j,w,u=>by
  unfold gA at hk
  have hd:∀k,aO h k≠none->k<n:=fun k hk=>by
   cases L:aO h k with
   |none=>exact absurd L hk
   |some o=>obtain⟨pl,p1,_⟩:=j.hr.ob k o L;exact j.dom k pl p1
  obtain⟨S,w1,w2,w3,w4,w5⟩:=oI hd j he hk;obtain⟨x,st',C',U,s',p0,p1,p2,p3,p4,D,p5⟩:=Gs (T:=T) (rd:=rd) (N:=N) (lim:=lim) hd (fun K' r' C n h e t s hk he j w=>eR G E c K' r' C n h e t s hk he j w u) m S _ t s _ r w1 w2 w3 w w5;exact⟨x,st'.e,st'.h,n,C',U,s',p0,p1,p2,p3,wK2 _,(Fr.canon j (.refl _ _ _) w4 w5).trans p4,D,p5⟩
 |.rangeF N' keep f ps a b,R,K,r,C,n,h,e,t,s,hk,he,j,w,u=>by
  simp only[vI,wL2,xG2,bZ,wS2]at u;obtain⟨⟨rfl,rfl⟩,u⟩:=u;unfold gA at hk;rw[jL,wH2]at hk;obtain⟨vs,H,hk⟩:=hk;obtain⟨ys,h1,h2⟩:=lC he (xs:=[f]) (by simpa using u) H;split at hk
  .rename_i g first cap
   obtain⟨y,_,rfl,h3,h4⟩:=h2.inv_cons;rw[h4.inv_nil]at h1;obtain⟨a',b',rfl,h5,h6⟩:=yI h3
   have hf:(eX f).ev t=some (.fn (.func g) a' b'):=by
    simp only[yY2,aH3,Sim.evs]at h1;split at h1
    .rename_i ha hb;simp only[wP2,aC3]at h1;rw[<-h1.1];exact ha
    .cases h1
   cases hX1:X.is g with
   |false=>rw[hX1]at hk;exact aE hk
   |true=>
   rw[hX1,wZ2]at hk;obtain⟨e0,hk,d3⟩:=Cm hk;have V:=lL j (.atp s.n 0 0 0)
   obtain⟨m1,m2,m3⟩:=qY j (po:=.loop N' e0 ps a b false none) (ao:=.loop .ready none t ps (kR a) (kR b)) (ver:=0) (e:=0) (len:=0)
    ⟨j.lim,by omega,_,_,t,by rw[eZ,wO2 rfl],w,fun i v hv=>(he i v (d3 i v hv)).imp fun y hy=>⟨hy.1,hy.2.mono V⟩,rfl,rfl⟩
   have hx:LR (RV (ext C n (.atp s.n 0 0 0))) (first++[.yld n]++cap) (a'++[.fn (.yield s.n) [] []]++b'):=
    ((h5.mono fun _ _ h=>h.mono V).append (.cons (.yld (nU C n _)) .nil)).append (h6.mono fun _ _ h=>h.mono V)
   obtain⟨v,e',h',n',C',y,s',q1,q2,q3,q4,q5,q6,q7⟩:=Ii (P:=fun y s'=>∃D,∀d,D<=d->Sim.callF T (exec T d) lim g (a'++[.fn (.yield s.n) [] []]++b') _=some (y,s')) m1 (he.mono V) hx
    (fun hs C0 m K' r' d1 d7 hr=>by
     obtain⟨v,h',n',C',y,s',w1,w2,w3,w4,w5,w6,w7⟩:=E.run g _ hs m K' r' C0 _ lim _ hX1 hr d7 d1;exact⟨v,h',n',C',y,s',w1,w2,w3,w4,w5,w7⟩) hk
   rw[fS,wH2]at q1;obtain⟨ob,W,q1⟩:=q1;obtain⟨o',z1,z2⟩:=q6.kd n (.loop N' e0 ps a b false none) (by simp[aO]);rw[W]at z1;cases z1;split at q1
   .rename_i N2 e2 M a2 b2 fin
    have b4:C' n=some (.atp s.n 0 0 0):=by
     have:=(z2 rfl).2;rw[nU]at this;exact this
    obtain⟨_,st,pend,tmps,g1,g2,g3,g4⟩:=zG q4 W b4;rw[Mh]at q1;obtain⟨D,hD⟩:=q7;have d8:n<n':=by omega
    have b9:cY C' n' (yS h' n) lim {h:=upd s'.h s.n (.loop .exhausted pend tmps M (kR a2) (kR b2)),n:=s'.n}:=by
     have nn:∀{k},aO (yS h' n) k≠none->aO h' k≠none:=fun{k} hk=>by
      rw[oK]at hk;split at hk
      .exact absurd rfl hk
      .exact hk
     refine⟨⟨fun k o A=>?_,fun k k' id v e l v' e' l' a b c d=>q4.hr.inj k k' id v e l v' e' l' (nn a) (nn b) c d,fun id o L=>?_⟩,q4.dom,q4.wf.upd _ _,q4.lim⟩
     .rw [oK]at A
      split at A
      .cases A
      .rename_i d5
       obtain⟨pl,p1,p2⟩:=q4.hr.ob k o A;refine⟨pl,p1,p2.mono (wK2 _) (.refl _) (fun id v e l hp=>?_)⟩;subst hp;rw[Sim.look_upd];rw[wN2 (fun J=>d5 (q4.hr.inj k n s.n _ _ _ _ _ _ (by rw[A];simp) (by rw[W];simp) (by rw[<-J.1];exact p1) b4))]
     .obtain ⟨z1,z2,z3,z4⟩:=q4.hr.zr id o L
      refine⟨?_,z2,fun k v e l a b=>z3 k v e l (nn a) b,z4⟩;rw[Sim.look_upd,wN2 (fun J=>z3 n 0 0 0 (by rw[W];simp) (by rw[J.1];exact b4))];exact z1
    have B:=m2.trans q6
    have b8:Fr C h s C' (yS h' n) {h:=upd s'.h s.n (.loop .exhausted pend tmps M (kR a2) (kR b2)),n:=s'.n}:=by
     refine⟨B.sk.trans (.upd _ _ _ _) B.n,B.n,fun id b5 hn=>?_,fun id b5 hn=>B.own id b5 ?_,fun k o A=>?_,B.zl,B.zn⟩
     .rw [Sim.look_upd,wN2 (by omega)]
      exact B.keep id b5 hn
     .obtain ⟨k,v,e,l,p1,p2⟩:=hn
      refine⟨k,v,e,l,?_,p2⟩;rw[oK]at p1;split at p1
      .exact absurd rfl p1
      .exact p1
     .obtain ⟨o',p1,p2⟩:=B.kd k o A
      refine⟨o',?_,p2⟩;rw[oK,wN2 (fun J=>?_)]
      .exact p1
      .subst J
       rw[wR j (wK2 _)]at A;cases A
    have Z:∀x,K x e' (yS h' n) n'=some r->st≠.busy->(match pend with
       |none=>some (Ex.normal,({t:=t,s:={h:=upd s'.h s.n (.loop .exhausted pend tmps M (kR a2) (kR b2)),n:=s'.n}}:St))
       |some .ret=>some (.ret,{t:=t,s:={h:=upd s'.h s.n (.loop .exhausted pend tmps M (kR a2) (kR b2)),n:=s'.n}})
       |some (.exit id)=>some (.exit id,{t:=t,s:={h:=upd s'.h s.n (.loop .exhausted pend tmps M (kR a2) (kR b2)),n:=s'.n}})
       |_=>none)=some (x,{t:=t,s:={h:=upd s'.h s.n (.loop .exhausted pend tmps M (kR a2) (kR b2)),n:=s'.n}})->
      Yp T N' lim false (kR (.rangeF N' keep f ps a b)) C n h t s K r:=by
     intro x hK b6 hx;refine⟨x,e',yS h' n,n',C',t,_,hK,fun i v hv=>(q3 i v hv).imp fun z L=>⟨L.1,L.2.1⟩,b9,w,by omega,b8,D+1,fun d hd=>?_⟩;obtain⟨d,rfl⟩:∃F,d=F+1:=⟨d-1,by omega⟩
     simp only[kR,exec,hf,hD d (by omega),g1,Sim.endRound,wU2,xQ2];rw[wN2 b6];exact hx
    split at q1
    .obtain ⟨rfl,rfl⟩:=g4
     exact Z _ q1 (by simp) rfl
    .obtain ⟨rfl,rfl⟩:=g4
     exact Z _ q1 (by simp) rfl
    .obtain ⟨rfl,rfl⟩:=g4
     exact Z _ q1 (by simp) rfl
    .exact aE q1
   .exact aE q1
  .exact aE hk
 |.block id c,R,K,r,C,n,h,e,t,s,hk,he,j,w,u=>by
  unfold gA at hk;obtain⟨x1,J,h1,n1,C1,t1,s1,Y,k2,k3,k4,k5,k6,D,k7⟩:=eR G E c _ r C n h e t s hk he j w u
  have Z:∀(x:Ex),(∀d,D<=d->(match exec T d lim rd (kR c) {t:=t,s:=s}with|some (.exit i,σ)=>if i=id then some (.normal,σ)else some (.exit i,σ)|r=>r)=some (x,{t:=t1,s:=s1}))->K x J h1 n1=some r->Yp T N lim rd (kR (.block id c)) C n h t s K r:=by
   intro x hx hK;refine⟨x,J,h1,n1,C1,t1,s1,hK,k2,k3,k4,k5,k6,D+1,fun d hd=>?_⟩;obtain⟨d,rfl⟩:∃F,d=F+1:=⟨d-1,by omega⟩
   rw[kR,exec];exact hx d (by omega)
  cases x1 with
  |normal=>exact Z .normal (fun d hd=>by rw[k7 d hd]) Y
  |ret=>exact Z .ret (fun d hd=>by rw[k7 d hd]) Y
  |exit i=>
   simp only[bZ]at Y;by_cases J:i=id
   .subst J
    simp only[yO2,wZ2]at Y;exact Z .normal (fun d hd=>by rw[k7 d hd];simp) Y
   .simp only[yC2 J,xO2]at Y
    exact Z (.exit i) (fun d hd=>by rw[k7 d hd];simp[J]) Y
 |.loop keep kx c,R,K,r,C,n,h,e,t,s,hk,he,j,w,u=>by
  unfold gA at hk
  have hd:∀k,aO h k≠none->k<n:=fun k hk=>by
   cases L:aO h k with
   |none=>exact absurd L hk
   |some o=>obtain⟨pl,p1,_⟩:=j.hr.ob k o L;exact j.dom k pl p1
  obtain⟨S,w1,w2,w3,w4,w5⟩:=oI hd j he hk;rw[cH,wH2]at w1;obtain⟨⟨x,st'⟩,hq,hK⟩:=w1;obtain⟨C',U,s',p1,p2,p3,p4,D,p5⟩:=Mf (T:=T) (rd:=rd) (N:=N) (lim:=lim) hd (fun K' r' C n h e t s hk he j w=>eR G E c K' r' C n h e t s hk he j w u) bN S _ t s x st' hq w2 w3 w w5;exact⟨x,st'.e,st'.h,n,C',U,s',hK,p1,p2,p3,wK2 _,(Fr.canon j (.refl _ _ _) w4 w5).trans p4,D,p5⟩
end
end Go.P
namespace Go.P
open Go.Sim (AV AO Hp gP upd St IC IX Ex fC CK Wf Out doOp jA exec Foot wanted put popMark mapO oO Oc Ym Dw fz)
open Go.Sim (RV IFn)
structure cD where
 ntmps:Nat
 res:List Sim.RV
 code:PC
 frz:Bool
 deriving Inhabited
noncomputable section
variable {R:Type}
def Mi:aA PV->Nat->(fH->aB R)->aB R
 |[],_,K=>K []
 |x::xs,i,K=>fV x fun x=>Mi xs (i+1) fun e=>K ((i,x)::e)
def Cn (e:fH) (h:bC) (n:Nat):aA Sim.RV->(aA PV->aB R)->aB R
 |[],K=>K []
 |.tmp i::rs,K=>pW e i fun v=>Cn e h n rs fun vs=>K (v::vs)
 |.cellS i::rs,K=>pW e i fun p=>eC .loadS [p] h n fun v _ _=>Cn e h n rs fun vs=>K (v::vs)
 |.cellA i m::rs,K=>pW e i fun p=>eC (.loadA m) [p] h n fun v _ _=>Cn e h n rs fun vs=>K (v::vs)
def Mj (h:bC):Nat->PV->(PV->aB R)->aB R
 |0,_,_=>none
 |d+1,x,K=>match x with
  |.own k=>hK h k fun ob=>match ob with
   |.lst _ e _ rows=>K (.is e rows)
   |.lz _ e dp rows=>bif Nat.ble dp (d+1)then K (.is e rows)else none
   |_=>none
  |.zs dp e rows=>bif Nat.ble dp (d+2)then K (.is e rows)else none
  |.ref k o=>hK h k fun ob=>match ob with
   |.box cs=>iL o cs fun cs=>sD (Mj h d) cs fun cs=>K (.ip cs)
   |_=>none
  |.v x=>K (.v x)
  |.is e rows=>K (.is e rows)
  |.ip cs=>K (.ip cs)
  |_=>none
def iJ1 (h:bC) (x:PV) (K:PV->aB R):aB R:=match x with
 |.fn f [] cap=>sD (Mj h 4) cap fun c=>K (.fn f [] c)
 |x=>Mj h 4 x K
def iK1 (h:bC):aA PV->(aA PV->aB R)->aB R
 |[],K=>K []
 |x::xs,K=>iJ1 h x fun x=>iK1 h xs fun xs=>K (x::xs)
def iL1 (h:bC) (x:PV) (K:PV->aB R):aB R:=match x with
 |.agg cs=>iK1 h cs fun cs=>K (.agg cs)
 |x=>iJ1 h x K
def iM1 (h:bC):aA PV->(aA PV->aB R)->aB R
 |[],K=>K []
 |x::xs,K=>iL1 h x fun x=>iM1 h xs fun xs=>K (x::xs)
def rzK (h:bC) (x:PV) (K:PV->aB R):aB R:=match x with
 |.tup vs=>iM1 h vs fun vs=>K (.tup vs)
 |.map k=>hK h k fun ob=>match ob with
  |.mp es=>K (.im es)
  |_=>none
 |x=>iL1 h x K
def sO (C:tW) (X:NX) (fn:cD) (xs:aA PV) (K:PV->aB R):aB R:=
 bif Nat.ble xs.length fn.ntmps then Mi xs 0 fun e=>gA C X fn.code e [] 0 fun x e h n=>match x with
  |.exit _=>none
  |_=>Cn e h n fn.res fun vs=>match vs with
   |[v]=>rzK h v K
   |vs=>rzK h (.tup vs) K
 else none
def Qh (C:tW) (X:NX) (fn:cD) (xs:aA PV) (h:bC) (n:Nat) (K:PV->bC->Nat->aB R):aB R:=
 bif Nat.ble xs.length fn.ntmps then Mi xs 0 fun e=>gA C X fn.code e h n fun x e h n=>match x with
  |.exit _=>none
  |_=>Cn e h n fn.res fun vs=>match vs with
   |[v]=>K v h n
   |vs=>K (.tup vs) h n
 else none
def Ei:fH->aA Nat->aA PV->(fH->aB R)->aB R
 |e,[],[],K=>K e
 |e,p::ps,x::xs,K=>jF e [p] fun e=>Ei ((p,x)::e) ps xs K
 |_,_,_,_=>none
def okG (NF:FuncId->Bool) (N:Nat) (ps:aA Nat) (a b:PC):aB Unit:=if okL NF N ps a b=true then some ()else none
def iN1 (C:tW) (X:NX) (k:Nat) (xs:aA PV) (h:bC) (n:Nat) (K:PV->bC->Nat->aB R):aB R:=
 hK h k fun ob=>match ob with
 |.loop N e ps a b false none=>cQ (okG X.is N ps a b) fun _=>Ei e ps xs fun e=>gA C X a e h n fun x e h n=>match x with
  |.normal=>hK h k fun ob=>match ob with
   |.loop N e' ps a b' false none=>iM h k (.loop N e' ps a b' true none) fun h=>gA C X b e h n fun x _ h n=>hK h k fun ob=>match ob with
    |.loop N e' ps a b' _ _=>match x with
     |.normal=>iM h k (.loop N e' ps a b' false none) fun h=>K (.v (.bool true)) h n
     |.exit i=>iM h k (.loop N e' ps a b' false (some (.exit i))) fun h=>K (.v (.bool false)) h n
     |.ret=>iM h k (.loop N e' ps a b' false (some .ret)) fun h=>K (.v (.bool false)) h n
    |_=>none
   |_=>none
  |_=>none
 |_=>none
abbrev sF:=Nat->aB cD
abbrev Mk:=FuncId->aA PV->bC->Nat->aB (PV×bC×Nat)
structure NB where
 nw:FuncId->Bool
 run:Mk:=fun _ _ _ _=>none
def OX (B:tW) (NF:FuncId->Bool) (NW:NB) (P:sF):Nat->tW×NX
 |0=>(fun f xs=>bif NF f then none else B f xs,⟨NF,NW.nw,fun _ _ _ _ _=>none,fun _ _ _ _ _=>none⟩)
 |d+1=>(fun f xs=>bif NF f then none else match P f with
   |some fn=>bif fn.frz then sO (OX B NF NW P d).1 (OX B NF NW P d).2 fn xs some else(sO (OX B NF NW P d).1 (OX B NF NW P d).2 fn xs some).bind fun v=>bif tC 4 v then none else some v
   |none=>B f xs,
  ⟨NF,NW.nw,fun f xs h n K=>match P f with
   |some fn=>Qh (OX B NF NW P d).1 (OX B NF NW P d).2 fn xs h n K
   |none=>(NW.run f xs h n).bind fun r=>K r.1 r.2.1 r.2.2,fun k xs h n K=>iN1 (OX B NF NW P d).1 (OX B NF NW P d).2 k xs h n K⟩)
def Od (B:tW) (NF:FuncId->Bool) (NW:NB) (P:sF) (d:Nat):tW:=(OX B NF NW P d).1
def Xd (B:tW) (NF:FuncId->Bool) (NW:NB) (P:sF) (d:Nat):NX:=(OX B NF NW P d).2
end
def Of (n:Bool) (fn:cD):IFn:={ntmps:=fn.ntmps,res:=fn.res,body:=kR fn.code,pure:= !n,frz:= !n&&fn.frz}
section
variable {R:Type}
def yN:aA PV->Nat->fH
 |[],_=>[]
 |x::xs,i=>(i,x)::yN xs (i+1)
theorem Co:∀(xs:aA PV) (i:Nat) (K:fH->aB R),Mi xs i K=K (yN xs i)
 |[],i,K=>rfl
 |x::xs,i,K=>by simp[Mi,Sw,yN,Co xs]
theorem wZ:∀(xs:aA PV) (i j:Nat) (v:PV),eW (yN xs i) j=some v->i<=j/\xs[j-i]? =some v
 |[],i,j,v,h=>by simp[yN,eW]at h
 |x::xs,i,j,v,h=>by
  simp only[yN,eW]at h
  split at h
  grind
  obtain⟨h1,h2⟩:=wZ xs (i+1) j v h
  refine⟨by omega,?_⟩
  rw[show j-i=(j-(i+1))+1 by omega]
  simpa using h2
variable {C:Cx} {n:Nat} {h:bC} {lim:Nat} {s:Hp} {e:fH} {t:List AV}
theorem Ml {k:fC} {y:AV} {K:PV->bC->Nat->aB R} {r:R} (hs:Gb C n h s k [y] K r):
  ∃w z,K w h n=some r/\(doOp (Sim.look s.h) 0 0 k [y]).map (·.v)=some z/\RV C w z:=by
 obtain⟨w,z,h1,h2,h3⟩:=hs;exact⟨w,z,h3,by rw[h1 0 0];rfl,h2⟩
theorem vJ (b:cY C n h lim s) (he:dT C e t):∀{g:aA Sim.RV} {K:aA PV->aB R} {r:R},Cn e h n g K=some r->
  ∃vs a,K vs=some r/\mapO (Sim.readRes (Sim.look s.h) t) g=some a/\LR (RV C) vs a
 |[],K,r,hk=>⟨[],[],hk,rfl,.nil⟩
 |.tmp i::g,K,r,hk=>by
  unfold Cn at hk
  rw[gQ,wH2]at hk
  obtain⟨v,hv,hk⟩:=hk
  obtain⟨y,h1,h2⟩:=he i v hv
  obtain⟨vs,a,c,d,f⟩:=vJ b he hk
  exact⟨_,y::a,c,by simp[mapO,Sim.readRes,h1,d],.cons h2 f⟩
 |.cellS i::g,K,r,hk=>by
  unfold Cn at hk
  rw[gQ,wH2]at hk
  obtain⟨v,hv,hk⟩:=hk
  obtain⟨y,h1,h2⟩:=he i v hv
  obtain⟨w,z,q1,q2,q3⟩:=Ml (Bw b (.cons h2 .nil) hk)
  obtain⟨vs,a,c,d,f⟩:=vJ b he q1
  exact⟨_,z::a,c,by simp only[mapO,Sim.readRes,h1,q2,d],.cons q3 f⟩
 |.cellA i m::g,K,r,hk=>by
  unfold Cn at hk
  rw[gQ,wH2]at hk
  obtain⟨v,hv,hk⟩:=hk
  obtain⟨y,h1,h2⟩:=he i v hv
  obtain⟨w,z,q1,q2,q3⟩:=Ml (Bx b (.cons h2 .nil) hk)
  obtain⟨vs,a,c,d,f⟩:=vJ b he q1
  exact⟨_,z::a,c,by simp only[mapO,Sim.readRes,h1,q2,d],.cons q3 f⟩
theorem iO1 {L:Nat->aB AO} {d id ver e o:Nat} {bx:Bool} {ty:TypeId} {esz:Nat} {els:aA (aA AV)} {row cs:aA AV} (a:L id=some (.arr bx ty esz ver els)) (hr:els[e]? =some row) (hc:mapO (oO L 0 d) (row.drop o)=some cs):oO L 0 (d+1) (.ptr id ver e o)=some (.ip cs):=by
 simp[oO,a,hr,hc]
theorem Ik (i:cY C n h lim s):∀(d:Nat) (x:PV) (y:AV) (K:PV->aB R) (r:R),Mj h d x K=some r->RV C x y->∃B z,K B=some r/\oO (Sim.look s.h) 0 (d+2) y=some z/\RC false B z
 |0,x,y,K,r,hk,_=>by unfold Mj at hk;exact aE hk
 |d+1,x,y,K,r,hk,hv=>by
  unfold Mj at hk
  cases x with
  |own k=>
   simp only[fS,wH2]at hk
   obtain⟨ob,hg,hk⟩:=hk
   cases ob with
   |lst ty e g rows=>
    rcases nG hv with⟨id,ver,D,len,c,rfl⟩|⟨c,rfl⟩
    obtain⟨_,rfl,hlen,els,p,hr,u,_⟩:=kJ i hg c
    subst hlen
    exact⟨_,_,hk,Td (d:=d+1) (xA2 _) p hr u,hr.is⟩
    have:=lX i hg c
    subst this
    exact⟨_,_,hk,rfl,.isn⟩
   |lz ty e dp rows=>
    cases hb:Nat.ble dp (d+1)with
    |false=>simp only[hb,xO2]at hk;exact aE hk
    |true=>
    simp only[hb,wZ2]at hk
    have hb:=wV2 hb
    rcases nG hv with⟨id,ver,D,len,c,rfl⟩|⟨c,rfl⟩
    obtain⟨_,_,rfl,hlen,_,els,p,hr⟩:=yJ i hg c
    subst hlen
    obtain⟨A,m,j⟩:=oR1 (n0:=0) (f:=d+2) (fun id o w=>⟨xA2 _,(i.hr.zr id o w).1⟩) (by omega) (xA2 _) p hr
    exact⟨_,_,hk,m,j.is⟩
    have:=wU i hg c
    subst this
    exact⟨_,_,hk,rfl,.isn⟩
   |_=>exact aE hk
  |zs dp e rows=>
   cases hb:Nat.ble dp (d+2)with
   |false=>simp only[hb,xO2]at hk;exact aE hk
   |true=>
   simp only[hb,wZ2]at hk
   have hb:=wV2 hb
   obtain⟨z,m,j⟩:=Te (L:=Sim.look s.h) (n0:=0) (fun id o w=>⟨xA2 _,(i.hr.zr id o w).1⟩) dp (d+3) (by omega) _ _ (Fz hv)
   exact⟨_,_,hk,m,j.weak⟩
  |ref k o=>
   simp only[fS,wH2]at hk
   obtain⟨ob,hg,hk⟩:=hk
   cases ob with
   |box cs=>
    obtain⟨m,j⟩:=eP _ _ _ _ hk
    obtain⟨id,ver,e,len,c,rfl⟩:=lM hv
    obtain⟨_,ty,esz,row,p,hl⟩:=tF i hg c
    have l:∀(xs:aA PV) (ys:aA AV) (K:aA PV->aB R) (r:R),sD (Mj h d) xs K=some r->LR (RV C) xs ys->
      ∃xs' b,K xs'=some r/\mapO (oO (Sim.look s.h) 0 (d+2)) ys=some b/\LR (RC false) xs' b:=by
     intro xs
     induction xs with
     |nil=>
      intro ys K r hk hl;rw[hl.inv_nil];unfold sD at hk;exact⟨[],[],hk,rfl,.nil⟩
     |cons a as ih=>
      intro ys K r hk hl;obtain⟨y,b,rfl,h1,h2⟩:=hl.inv_cons;unfold sD at hk;obtain⟨a',b',m,j,E⟩:=Ik i d a y _ r hk h1;obtain⟨q,t,q1,q2,q3⟩:=ih b _ r m h2;exact⟨a'::q,b'::t,q1,by simp only[mapO,j,q2],.cons E q3⟩
    obtain⟨xs',b,q1,q2,q3⟩:=l _ _ _ r j (hl.drop o);refine⟨_,.ip b,q1,?_,.ip q3.1 q3.2⟩;exact iO1 p rfl q2
   |_=>exact aE hk
  |v x=>
   rw[gG hv];exact⟨_,_,hk,rfl,.v x⟩
  |is e rows=>
   rcases Bs hv with⟨rows',rfl,hr⟩|⟨rfl,rfl⟩
   exact⟨_,_,hk,rfl,hr.is⟩;exact⟨_,_,hk,rfl,.isn⟩
  |ip cs=>
   obtain⟨cs',rfl,hl⟩:=Fy hv;exact⟨_,_,hk,rfl,.ip hl.1 hl.2⟩
  |_=>exact aE hk
theorem Wk {L:Nat->aB AO} {y c:AV} (h:oO L 0 6 y=some c):Ym L 0 y=some c:=by
 cases y with
 |sl=>simp only[Ym,Nat.not_lt_zero,xQ2];exact h
 |ptr=>simp only[Ym,Nat.not_lt_zero,xQ2];exact h
 |map=>simp[oO]at h
 |fn v a b=>simp[oO]at h
 |_=>exact h
theorem Wl {L:Nat->aB AO} {y a:AV} (h:Ym L 0 y=some a) (hy:∀cs,y≠.agg cs):Dw L 0 y=some a:=by
 cases y with
 |agg cs=>exact absurd rfl (hy cs)
 |_=>exact h
theorem bU1 {L:Nat->aB AO} {y a:AV} (h:Dw L 0 y=some a) (hy:∀cs,y≠.tup cs) (b:∀id,y≠.map id):fz L 0 y=some a:=by
 cases y with
 |tup cs=>exact absurd rfl (hy cs)
 |map id=>exact absurd rfl (b id)
 |_=>exact h
theorem Mn (f:cY C n h lim s) (d:Nat):∀(xs:aA PV) (ys:aA AV) (K:aA PV->aB R) (r:R),sD (Mj h d) xs K=some r->LR (RV C) xs ys->
  ∃xs' b,K xs'=some r/\mapO (oO (Sim.look s.h) 0 (d+2)) ys=some b/\LR (RC false) xs' b
 |[],ys,K,r,hk,hl=>by
  rw[hl.inv_nil]
  unfold sD at hk
  exact⟨[],[],hk,rfl,.nil⟩
 |a::as,ys,K,r,hk,hl=>by
  obtain⟨y,b,rfl,h1,h2⟩:=hl.inv_cons
  unfold sD at hk
  obtain⟨a',b',g,i,j⟩:=Ik f d a y _ r hk h1
  obtain⟨c,e,q1,q2,q3⟩:=Mn f d as b _ r g h2
  exact⟨a'::c,b'::e,q1,by simp only[mapO,i,q2],.cons j q3⟩
theorem Tm (d:cY C n h lim s) {x:PV} {y:AV} {K:PV->aB R} {r:R} (hk:iJ1 h x K=some r) (hv:RV C x y):∃a b,K a=some r/\Ym (Sim.look s.h) 0 y=some b/\RC false a b:=by
 unfold iJ1 at hk;split at hk;rename_i f cap;obtain⟨a',b',rfl,h1,h2⟩:=yI hv;rw[h1.inv_nil];obtain⟨xs',c,q1,q2,q3⟩:=Mn d 4 _ _ _ r hk h2;exact⟨.fn f [] xs',.fn (.func f) [] c,q1,by simp only[Ym,q2,xP2],.fn rfl q3.1 (fun j x y h=>by simp at h) q3.2⟩;obtain⟨a,b,h1,h2,h3⟩:=Ik d 4 x y K r hk hv;exact⟨a,b,h1,Wk h2,h3⟩
theorem Mo (d:cY C n h lim s):∀{xs:aA PV} {ys:aA AV} {K:aA PV->aB R} {r:R},iK1 h xs K=some r->LR (RV C) xs ys->∃xs' a,K xs'=some r/\mapO (Ym (Sim.look s.h) 0) ys=some a/\LR (RC false) xs' a
 |[],ys,K,r,hk,hl=>by rw[hl.inv_nil];exact⟨[],[],hk,rfl,.nil⟩
 |x::xs,ys,K,r,hk,hl=>by
  obtain⟨y,a,rfl,h1,h2⟩:=hl.inv_cons
  unfold iK1 at hk
  obtain⟨a',b',e,f,g⟩:=Tm d hk h1
  obtain⟨b,c,q1,q2,q3⟩:=Mo d e h2
  exact⟨a'::b,b'::c,q1,by simp only[mapO,f,q2],.cons g q3⟩
theorem Wm {x:PV} {y:AV} (hv:RV C x y) (a:∀cs,x≠.agg cs) (b:x≠.undef):∀cs,y≠.agg cs:=by
 intro cs hy;subst hy;cases hv with
 |cl h=>cases h;exact a _ rfl
 |undef=>exact b rfl
 |ownn _ hy=>cases hy
 |agg=>exact a _ rfl
 |zs h=>rcases Ga h with(⟨_,h,_⟩|⟨_,h⟩)|⟨_,_,_,_,_,_,h,_⟩<;>cases h
theorem Wn {x:PV} {y:AV} (hv:RV C x y) (a:∀cs,x≠.tup cs) (b:x≠.undef):∀cs,y≠.tup cs:=by
 intro cs hy;subst hy;cases hv with
 |cl h=>cases h;exact a _ rfl
 |undef=>exact b rfl
 |ownn _ hy=>cases hy
 |tup=>exact a _ rfl
 |zs h=>rcases Ga h with(⟨_,h,_⟩|⟨_,h⟩)|⟨_,_,_,_,_,_,h,_⟩<;>cases h
theorem Wo {x:PV} {y:AV} (hv:RV C x y) (b:∀k,x≠.map k) (c:∀es,x≠.zm es) (a:x≠.undef):∀id,y≠.map id:=by
 intro id hy;subst hy;cases hv with
 |cl h=>cases h
 |undef=>exact a rfl
 |ownn _ hy=>cases hy
 |map=>exact b _ rfl
 |zs h=>rcases Ga h with(⟨_,h,_⟩|⟨_,h⟩)|⟨_,_,_,_,_,_,h,_⟩<;>cases h
 |zm=>exact c _ rfl
theorem Tn (d:cY C n h lim s) {x:PV} {y:AV} {K:PV->aB R} {r:R} (hk:iL1 h x K=some r) (hv:RV C x y):∃a b,K a=some r/\Dw (Sim.look s.h) 0 y=some b/\RC false a b:=by
 unfold iL1 at hk;split at hk;rename_i cs;obtain⟨cs',rfl,hl⟩:=nT hv;obtain⟨xs',c,i,j,f⟩:=Mo d hk hl;exact⟨_,.agg c,i,by simp only[Dw,j,xP2],.agg f.1 f.2⟩;rename_i g;obtain⟨a,b,h1,h2,h3⟩:=Tm d hk hv;by_cases e:x=.undef;subst e;exact aE hk;exact⟨a,b,h1,Wl h2 (Wm hv g e),h3⟩
theorem Mp (d:cY C n h lim s):∀{xs:aA PV} {ys:aA AV} {K:aA PV->aB R} {r:R},iM1 h xs K=some r->LR (RV C) xs ys->∃xs' a,K xs'=some r/\mapO (Dw (Sim.look s.h) 0) ys=some a/\LR (RC false) xs' a
 |[],ys,K,r,hk,hl=>by rw[hl.inv_nil];exact⟨[],[],hk,rfl,.nil⟩
 |x::xs,ys,K,r,hk,hl=>by
  obtain⟨y,a,rfl,h1,h2⟩:=hl.inv_cons
  unfold iM1 at hk
  obtain⟨a',b',e,f,g⟩:=Tn d hk h1
  obtain⟨b,c,q1,q2,q3⟩:=Mp d e h2
  exact⟨a'::b,b'::c,q1,by simp only[mapO,f,q2],.cons g q3⟩
theorem bV1 (c:cY C n h lim s) {x:PV} {y:AV} {K:PV->aB R} {r:R} (hk:rzK h x K=some r) (hv:RV C x y):∃a b,K a=some r/\fz (Sim.look s.h) 0 y=some b/\RC false a b:=by
 unfold rzK at hk;split at hk;rename_i vs;obtain⟨cs',rfl,hl⟩:=Pz hv;obtain⟨xs',f,o,p,g⟩:=Mp c hk hl;exact⟨_,.tup f,o,by simp only[fz,p,xP2],.tup g.1 g.2⟩;rename_i k;rw[fS,wH2]at hk;obtain⟨ob,hg,hk⟩:=hk;cases ob with
 |mp es=>
  obtain⟨id,ver,e,len,i,rfl⟩:=wS hv;obtain⟨_,es',j,he⟩:=Ls c hg i;refine⟨_,.im es',hk,?_,he.er.im⟩;simp only[fz,Nat.not_lt_zero,xQ2,j];exact congrArg (Option.map AV.im) (bG1 he)
 |_=>exact aE hk
 rename_i m l;obtain⟨a,b,h1,h2,h3⟩:=Tn c hk hv;by_cases d:x=.undef;subst d;exact aE hk;exact⟨a,b,h1,bU1 h2 (Wn hv m d) (Wo hv l (fun es he=>by subst he;exact aE hk) d),h3⟩
variable {T:jA} {O:tW} {X:NX}
theorem Mq (r:∀f xs v,O f xs=some v->oH T f xs v) (s:NOK T X) {fn:cD} (j:vI X.is fn.ntmps false fn.code=true) {xs:aA PV} {ys:aA AV} {v:PV} (hl:LR (RC false) xs ys) (hk:sO O X fn xs some=some v):
  ∃D,∀d,D<=d->∃w s' y,Sim.body (exec T d) 0 (Of false fn) ys {h:=[],n:=0}=some (w,s')/\Sim.fz (Sim.look s'.h) 0 w=some y/\RC false v y:=by
 unfold sO at hk;cases c:Nat.ble xs.length fn.ntmps with
 |false=>rw[c]at hk;exact aE hk
 |true=>
  rw[c,wZ2,Co]at hk;have c:xs.length<=fn.ntmps:=by simpa[Nat.ble_eq]using c
  have hlen:=hl.1;have q:cY ⟨fun _=>none,fun _=>none⟩ 0 [] 0 ({h:=[],n:=0}:Hp):=⟨⟨fun k po h=>by simp[aO]at h,fun k k' id v e l v' e' l' a=>absurd rfl a,fun id o h=>by cases h⟩,fun k pl h=>(by cases h),trivial,wK2 _⟩
  have he:dT ⟨fun _=>none,fun _=>none⟩ (yN xs 0) (ys++List.replicate (fn.ntmps-ys.length) .undef):=fun i v hv=>by
   obtain⟨_,h2⟩:=wZ xs 0 i v hv;obtain⟨y,h3,h4⟩:=hl.get (by simpa using h2);exact⟨y,by rw[yE2 (wI2.1 h3).1];exact h3,.cl h4⟩
  obtain⟨x,e',h',n',C',B,s',q1,q2,q3,q4,q5,q6,D,q7⟩:=eR (T:=T) (rd:=false) (lim:=0) (N:=fn.ntmps) r s fn.code _ v _ 0 [] _ (ys++List.replicate (fn.ntmps-ys.length) .undef) _ hk he q (by simp;omega) j
  have fin:(∀i,x≠.exit i)->(Cn e' h' n' fn.res fun vs=>match vs with|[v]=>rzK h' v some|vs=>rzK h' (.tup vs) some)=some v->
    ∃D,∀d,D<=d->∃w s' y,Sim.body (exec T d) 0 (Of false fn) ys {h:=[],n:=0}=some (w,s')/\Sim.fz (Sim.look s'.h) 0 w=some y/\RC false v y:=by
   intro u hr;obtain⟨vs,p,r1,r2,r3⟩:=vJ q3 q2 hr
   obtain⟨w,y,p1,p2,p3⟩:∃w y,Sim.results (Sim.look s'.h) B fn.res=some w/\Sim.fz (Sim.look s'.h) 0 w=some y/\RC false v y:=by
    split at r1;rename_i v1;obtain⟨w,C,rfl,z,A⟩:=r3.inv_cons;have:=A.inv_nil;subst this;obtain⟨E,m,z1,z2,z3⟩:=bV1 q3 r1 z;cases z1;exact⟨w,m,by simp only[Sim.results,r2],z2,z3⟩;rename_i g;obtain⟨E,m,z1,z2,z3⟩:=bV1 q3 r1 (y:=.tup p) (.tup r3.1 r3.2);cases z1;refine⟨.tup p,m,?_,z2,z3⟩;simp only[Sim.results,r2];split;rename_i w hw;cases hw;have:=r3.1;rcases vs with _|⟨a,_|⟨b,t⟩⟩<;>simp at this;exact absurd rfl (g a)
    grind
    grind
   refine⟨D,fun d hd=>⟨w,s',y,?_,p2,p3⟩⟩;simp only[Sim.body,Of,q7 d hd];cases x with
   |exit i=>exact absurd rfl (u i)
   |normal=>simp only[p1,xP2]
   |ret=>simp only[p1,xP2]
  cases x with
  |exit i=>exact aE q1
  |normal=>exact fin (fun i h=>by cases h) q1
  |ret=>exact fin (fun i h=>by cases h) q1
theorem Tp (k:∀f xs v,O f xs=some v->oH T f xs v) (l:NOK T X) {fn:cD} (g:vI X.is fn.ntmps false fn.code=true) {xs:aA PV} {ys:aA AV} {h:bC} {n:Nat} {K:PV->bC->Nat->aB R} {r:R} {C:Cx} {s:Hp} {lim:Nat}
  (hk:Qh O X fn xs h n K=some r) (hl:LR (RV C) xs ys) (j:cY C n h lim s):
  ∃v h' n' C' y s',K v h' n'=some r/\RV C' v y/\cY C' n' h' lim s'/\n<=n'/\Fr C h s C' h' s'/\∃D,∀d,D<=d->Sim.body (exec T d) lim (Of true fn) ys s=some (y,s'):=by
 unfold Qh at hk;cases c:Nat.ble xs.length fn.ntmps with
 |false=>rw[c]at hk;exact aE hk
 |true=>
  rw[c,wZ2,Co]at hk;have c:xs.length<=fn.ntmps:=by simpa[Nat.ble_eq]using c
  have hlen:=hl.1
  have he:dT C (yN xs 0) (ys++List.replicate (fn.ntmps-ys.length) .undef):=fun i v hv=>by
   obtain⟨_,h2⟩:=wZ xs 0 i v hv;obtain⟨y,h3,h4⟩:=hl.get (by simpa using h2);exact⟨y,by rw[yE2 (wI2.1 h3).1];exact h3,h4⟩
  obtain⟨x,e',h',n',C',q,s',q1,q2,q3,q4,q5,q6,D,q7⟩:=eR (T:=T) (rd:=false) (lim:=lim) (N:=fn.ntmps) k l fn.code _ r _ n h _ (ys++List.replicate (fn.ntmps-ys.length) .undef) s hk he j (by simp;omega) g
  have fin:(∀i,x≠.exit i)->(Cn e' h' n' fn.res fun vs=>match vs with|[v]=>K v h' n'|vs=>K (.tup vs) h' n')=some r->
    ∃v h' n' C' y s',K v h' n'=some r/\RV C' v y/\cY C' n' h' lim s'/\n<=n'/\Fr C h s C' h' s'/\∃D,∀d,D<=d->Sim.body (exec T d) lim (Of true fn) ys s=some (y,s'):=by
   intro m hr;obtain⟨vs,u,r1,r2,r3⟩:=vJ q3 q2 hr
   obtain⟨v,w,p1,p2,p3⟩:∃v w,K v h' n'=some r/\Sim.results (Sim.look s'.h) q fn.res=some w/\RV C' v w:=by
    split at r1;rename_i v1;obtain⟨w,z,rfl,o,p⟩:=r3.inv_cons;have:=p.inv_nil;subst this;exact⟨v1,w,r1,by simp only[Sim.results,r2],o⟩;rename_i e;refine⟨.tup vs,.tup u,r1,?_,.tup r3.1 r3.2⟩;simp only[Sim.results,r2];split;rename_i w hw;cases hw;have:=r3.1;rcases vs with _|⟨a,_|⟨b,t⟩⟩<;>simp at this;exact absurd rfl (e a)
    grind
    grind
   refine⟨v,h',n',C',w,s',p1,p3,q3,q5,q6,D,fun d hd=>?_⟩;simp only[Sim.body,Of,q7 d hd];cases x with
   |exit i=>exact absurd rfl (m i)
   |normal=>simp only[p2,xP2]
   |ret=>simp only[p2,xP2]
  cases x with
  |exit i=>exact aE q1
  |normal=>exact fin (fun i h=>by cases h) q1
  |ret=>exact fin (fun i h=>by cases h) q1
theorem Mr {C:Cx}:∀{ps:aA Nat} {xs:aA PV} {ys:aA AV} {e:fH} {t:aA AV} {K:fH->aB R} {r:R},Ei e ps xs K=some r->dT C e t->LR (RV C) xs ys->ps.all (fun p=>Nat.blt p t.length)=true->
  ∃e',K e'=some r/\dT C e' (Sim.putAll t ps ys)/\ps.length=ys.length/\(Sim.putAll t ps ys).length=t.length
 |[],[],ys,e,t,K,r,hk,he,hl,_=>by
  rw[hl.inv_nil]
  exact⟨e,by unfold Ei at hk;exact hk,he,rfl,rfl⟩
 |p::ps,x::xs,ys,e,t,K,r,hk,he,hl,hp=>by
  obtain⟨y,h,rfl,h1,h2⟩:=hl.inv_cons
  unfold Ei at hk
  rw[eY]at hk
  simp only[yS2,wL2,zB2]at hp
  have a:dT C ((p,x)::edel e [p]) (t.set p y):=.put hp.1 h1 (fun i w hw=>by
   obtain⟨z,p1,p2,p3⟩:=he.edel [p] i w hw
   exact⟨z,p1,p2,fun b=>p3 (by simp[b])⟩)
  obtain⟨e2,c,d,f,g⟩:=Mr hk a h2 (by simpa using hp.2)
  exact⟨e2,c,d,by simp[f],by simpa[Sim.putAll]using g⟩
 |[],_::_,_,_,_,_,_,hk,_,_,_=>by unfold Ei at hk;exact aE hk
 |_::_,[],_,_,_,_,_,hk,_,_,_=>by unfold Ei at hk;exact aE hk
theorem iP1 (hO:∀f xs v,O f xs=some v->oH T f xs v) (hX:NOK T X) {k:Nat} {xs:aA PV} {ys:aA AV} {h:bC} {n:Nat} {K:PV->bC->Nat->aB R} {r:R} {C:Cx} {s:Hp} {lim id ver e1 len:Nat}
  (hk:iN1 O X k xs h n K=some r) (hl:LR (RV C) xs ys) (hC:C k=some (.atp id ver e1 len)) (hM:cY C n h lim s):
  ∃v h' n' C' y s',K v h' n'=some r/\RV C' v y/\cY C' n' h' lim s'/\n<=n'/\Fr C h s C' h' s'/\∃D,∀d,D<=d->Sim.round (exec T d) lim id ys s=some (y,s'):=by
 unfold iN1 at hk;rw[fS,wH2]at hk;obtain⟨ob,L,hk⟩:=hk;split at hk
 .rename_i N e ps a b
  rw[cH,wH2]at hk;obtain⟨_,o,hk⟩:=hk;unfold okG at o;split at o
  .rename_i g
   unfold okL at g;rw[wL2,wL2]at g;have o1:=g.1.1;have o2:=g.1.2;have o3:=g.2;clear o g;obtain⟨J,st,pend,tmps,g1,g2,g3,g4⟩:=zG hM L hC;obtain⟨rfl,rfl⟩:=g4;subst g2;obtain⟨e2,hk,he,W,Y⟩:=Mr hk g3 hl o1;obtain⟨x,e',h1,n1,C1,t1,P,q1,q2,q3,q4,q5,q6,D1,q7⟩:=eR (T:=T) (rd:=true) (lim:=lim) (N:=tmps.length) hO hX a _ r _ n h _ _ s hk he hM Y o2;cases x with
   |exit i=>exact aE q1
   |ret=>exact aE q1
   |normal=>
   simp only[fS,wH2]at q1;obtain⟨p,l,q1⟩:=q1
   have place:∀{C1:Cx} {h1:bC} {P:Hp} {p:fQ},Fr C h s C1 h1 P->aO h1 k=some p->gB p=true->C1 k=some (.atp id ver e1 len):=fun{C1 h1 P p} hf hg hb=>by
    obtain⟨o',p1,p2⟩:=hf.kd k _ L;rw[hg]at p1;cases p1;rw[(p2 hb).2,hC]
   split at q1
   .rename_i N2 V E a2 b2
    have z:=place q6 l rfl;obtain⟨_,st,pend,j,w1,w2,w3,w4⟩:=zG q3 l z;obtain⟨rfl,rfl⟩:=w4;subst w2;have q1:=eQ _ _ _ _ _ q1;have u:=(q3.hr.lt (by rw[l];simp) z)
    obtain⟨m1,m2⟩:=tE q3 (po':=.loop j.length V E a2 b2 true none) (ao:=.loop .busy none j E (kR a2) (kR b2)) l z ⟨u.1,u.2,.busy,none,j,by rw[Sim.look_upd,wO2 ⟨rfl,by rw[w1];rfl⟩],rfl,w3,rfl⟩ rfl;obtain⟨x2,e3,h2,n2,C2,t2,S,z1,z2,z3,z4,z5,z6,D2,z7⟩:=eR (T:=T) (rd:=true) (lim:=lim) (N:=tmps.length) hO hX b _ r _ n1 _ _ _ _ q1 q2 m1 q4 o3;simp only[wH2]at z1;obtain⟨b4,m,z1⟩:=z1;have G:=(q6.trans m2).trans z6;split at z1
    .rename_i N3 F q a3 b3 U b0
     have A:=place G m rfl;obtain⟨_,b5,a0,c,v1,v2,v3,v4⟩:=zG z3 m A;subst v2;have w:=(z3.hr.lt (by rw[m];simp) A)
     have fin:∀(fn:aB Ex) (st:LoopState) (B:aB IC) (bv:Bool),StR false fn st B->(iM h2 k (.loop c.length F q a3 b3 false fn) fun h=>K (.v (.bool bv)) h n2)=some r->
       (∀s',Sim.endRound id S st B=some s'->∀d,D2<=d->(match exec T d lim true (kR b) {t:=t1,s:={h:=upd P.h id (.loop .busy none j E (kR a2) (kR b2)),n:=P.n}}with
        |some (.normal,τ)=>(Sim.endRound id τ.s .ready none).map fun s=>(AV.bool true,s)
        |some (.ret,τ)=>(Sim.endRound id τ.s .done (some .ret)).map fun s=>(AV.bool false,s)
        |some (.exit i,τ)=>(Sim.endRound id τ.s .done (some (.exit i))).map fun s=>(AV.bool false,s)
        |none=>none)=some (AV.bool bv,s'))->
       ∃v h' n' C' y s',K v h' n'=some r/\RV C' v y/\cY C' n' h' lim s'/\n<=n'/\Fr C h s C' h' s'/\∃D,∀d,D<=d->Sim.round (exec T d) lim id ys s=some (y,s'):=by
      intro fn st B bv Z hk M;have hk:=eQ _ _ _ _ _ hk;obtain⟨m3,m4⟩:=tE z3 (po':=.loop c.length F q a3 b3 false fn) (ao:=.loop st B c q (kR a3) (kR b3)) m A ⟨w.1,w.2,st,B,c,by rw[Sim.look_upd,wO2 ⟨rfl,by rw[v1];rfl⟩],rfl,v3,Z⟩ rfl;refine⟨_,_,_,_,.v (.bool bv),_,hk,.cl (.v _),m3,by omega,G.trans m4,D1+D2,fun d hd=>?_⟩;have H:Sim.endRound id S st B=some {h:=upd S.h id (.loop st B c q (kR a3) (kR b3)),n:=S.n}:=by simp only[Sim.endRound,v1]
      simp only[Sim.round,g1];rw[wO2 ⟨J,W⟩,q7 d (by omega)];simp only[w1];exact M _ H d (by omega)
     cases x2 with
     |normal=>exact fin none .ready none true ⟨rfl,rfl⟩ z1 (fun s' hs' d hd=>by rw[z7 d hd];simp only[hs',xP2])
     |exit i=>exact fin (some (.exit i)) .done (some (.exit i)) false ⟨rfl,rfl⟩ z1 (fun s' hs' d hd=>by rw[z7 d hd];simp only[hs',xP2])
     |ret=>exact fin (some .ret) .done (some .ret) false ⟨rfl,rfl⟩ z1 (fun s' hs' d hd=>by rw[z7 d hd];simp only[hs',xP2])
    .exact aE z1
   .exact aE q1
  .cases o
 .exact aE hk
theorem Ms {B:tW} {NF:FuncId->Bool} {NW:NB} {P:sF} (d:Nat):(OX B NF NW P d).2.is=NF:=by cases d<;>rfl
theorem Il {f:FuncId} {ifn:IFn} {ys:aA AV} {v:PV} (b:T.memo f ys=none) (h:∃D,∀d,D<=d->∃w s' y,Sim.body (exec T d) 0 ifn ys {h:=[],n:=0}=some (w,s')/\Sim.fz (Sim.look s'.h) 0 w=some y/\RC false v y):
  ∃D,∀d,D<=d->∃y,Sim.runP T (exec T d) f ifn ys=some y/\RC false v y:=by
 obtain⟨D,a⟩:=h;refine⟨D,fun d hd=>?_⟩;obtain⟨w,s',y,c,e,g⟩:=a d hd;exact⟨y,by simp only[Sim.runP,b,c,e],g⟩
def Ej (T:jA) (NF:FuncId->Bool) (P:sF) (run:Mk):Prop:=∀(f:FuncId) (xs:aA PV) (h:bC) (n:Nat) (v:PV) (h':bC) (n':Nat) (C:Cx) (s:Hp) (lim:Nat) (ys:aA AV),
 NF f=true->P f=none->run f xs h n=some (v,h',n')->LR (RV C) xs ys->cY C n h lim s->
 ∃C' y s',RV C' v y/\cY C' n' h' lim s'/\n<=n'/\Fr C h s C' h' s'/\(∃ifn,T f=some ifn/\ifn.pure=false/\ifn.frz=false)/\∃D,∀d,D<=d->Sim.callF T (exec T d) lim f ys s=some (y,s')
theorem bW1 {B:tW} {NF:FuncId->Bool} {NW:NB} {P:sF} (l:∀f xs v,NF f=false->B f xs=some v->oH T f xs v) (p:Ej T NF P NW.run) (m:∀f fn,P f=some fn->T f=some (Of (NF f) fn)/\vI NF fn.ntmps false fn.code=true/\∀ys,T.memo f ys=none):
  ∀d,(∀f xs v,(OX B NF NW P d).1 f xs=some v->oH T f xs v)/\NOK T (OX B NF NW P d).2
 |0=>⟨fun f xs v h=>by
   simp only[OX]at h
   cases hn:NF f with
   |true=>rw[hn]at h;exact aE h
   |false=>rw[hn]at h;exact l f xs v hn h,⟨fun f xs h n K r C s lim ys c hk=>by simp[OX]at hk,fun k xs h n K r C s lim ys id ver e len hk=>by simp[OX]at hk⟩⟩
 |d+1=>by
  obtain⟨g,i⟩:=bW1 l p m d
  refine⟨fun f xs v h=>?_,⟨fun f xs h n K r C s lim ys c hk hl b=>?_,fun k xs h n K r C s lim ys id ver e len hk hl t b=>?_⟩⟩
  simp only[OX]at h
  cases hn:NF f with
  |true=>rw[hn]at h;exact aE h
  |false=>
   rw[hn,xO2]at h
   split at h
   rename_i fn a
   obtain⟨h1,h2,j⟩:=m f fn a
   rw[hn]at h1
   cases hz:fn.frz with
   |true=>
    rw[hz,wZ2]at h
    exact⟨Of false fn,h1,rfl,fun _=>by simp[Of,hz],fun ys hl=>Il (j ys) (Mq g i (by rw[Ms];exact h2) hl h)⟩
   |false=>
    rw[hz,xO2,wH2]at h
    obtain⟨v',h,hg⟩:=h
    cases hq:tC 4 v' with
    |true=>rw[hq]at hg;exact aE hg
    |false=>
     rw[hq]at hg
     cases hg
     exact⟨Of false fn,h1,rfl,fun q=>(by rw[hq]at q;cases q),fun ys hl=>Il (j ys) (Mq g i (by rw[Ms];exact h2) hl h)⟩
   exact l f xs v hn h
  simp only[OX]at c hk
  split at hk
  rename_i fn a
  obtain⟨h1,h2,j⟩:=m f fn a
  rw[c]at h1
  obtain⟨v,h',n',C',y,s',p1,p2,p3,p4,p5,D,p6⟩:=Tp g i (by rw[Ms];exact h2) hk hl b
  refine⟨v,h',n',C',y,s',p1,p2,p3,p4,p5,⟨_,h1,rfl,rfl⟩,D,fun d hd=>?_⟩
  simp only[Sim.callF,h1]
  exact p6 d hd
  rename_i a
  rw[wH2]at hk
  obtain⟨⟨v,h',n'⟩,o,hk⟩:=hk
  obtain⟨C',y,s',p2,p3,p4,p5,p6,p7⟩:=p f xs h n v h' n' C s lim ys c a o hl b
  exact⟨v,h',n',C',y,s',hk,p2,p3,p4,p5,p6,p7⟩
  simp only[OX]at hk
  exact iP1 g i hk hl t b
theorem oU1 {B:tW} {NF:FuncId->Bool} {NW:NB} {P:sF} (a:∀f xs v,NF f=false->B f xs=some v->oH T f xs v) (b:Ej T NF P NW.run) (c:∀f fn,P f=some fn->T f=some (Of (NF f) fn)/\vI NF fn.ntmps false fn.code=true/\∀ys,T.memo f ys=none) (d:Nat) (f:FuncId) (xs:aA PV) (v:PV) (h:Od B NF NW P d f xs=some v):oH T f xs v:=(bW1 a b c d).1 f xs v h
theorem wM1 {B:tW} {NF:FuncId->Bool} {NW:NB} {P:sF} {f:FuncId} {fn:cD} (a:NF f=false) (h:P f=some fn) (b:fn.frz=true) (d:Nat) (xs:aA PV):Od B NF NW P (d+1) f xs=sO (Od B NF NW P d) (Xd B NF NW P d) fn xs some:=by
 simp only[Od,Xd,OX,h,a,b,xO2,wZ2]
theorem rW1 {B:tW} {NF:FuncId->Bool} {NW:NB} {P:sF} {f:FuncId} {fn:cD} (b:NF f=false) (h:P f=some fn) (c:fn.frz=false) (d:Nat) (xs:aA PV) {A:Type} {F:aB A} {enc:A->PV} (hg:∀y,tC 4 (enc y)=false) (hb:sO (Od B NF NW P d) (Xd B NF NW P d) fn xs some=F.map enc):Od B NF NW P (d+1) f xs=F.map enc:=by
 have a:sO (OX B NF NW P d).1 (OX B NF NW P d).2 fn xs some=F.map enc:=hb;simp only[Od,OX,h,b,c,xO2,a];cases F with
 |none=>rfl
 |some y=>simp[hg]
theorem wN1 {R:Type} {B:tW} {NF:FuncId->Bool} {NW:NB} {P:sF} {f:FuncId} {fn:cD} (h:P f=some fn) (d:Nat) (xs:aA PV) (a:bC) (n:Nat) (K:PV->bC->Nat->aB R):(Xd B NF NW P (d+1)).run f xs a n K=Qh (Od B NF NW P d) (Xd B NF NW P d) fn xs a n K:=by
 simp only[Od,Xd,OX,h]
theorem iQ1 {R:Type} {B:tW} {NF:FuncId->Bool} {NW:NB} {P:sF} {f:FuncId} (h:P f=none) (d:Nat) (xs:aA PV) (a:bC) (n:Nat) (K:PV->bC->Nat->aB R):(Xd B NF NW P (d+1)).run f xs a n K=(NW.run f xs a n).bind fun r=>K r.1 r.2.1 r.2.2:=by
 simp only[Xd,OX,h]
theorem Tq {B:tW} {NF:FuncId->Bool} {NW:NB} {P:sF} {f:FuncId} (a:NF f=false) (h:P f=none) (d:Nat) (xs:aA PV):Od B NF NW P d f xs=B f xs:=by
 cases d with
 |zero=>simp only[Od,OX,a,xO2]
 |succ d=>simp only[Od,OX,h,a,xO2]
theorem bX1 {C0 C':Cx} {h h' h2:bC} {n n' lim:Nat} {s s':Hp} {v v':PV} {y:AV} (d:cY C0 n h lim s) (hv:RV C' v y) (r:cY C' n' h' lim s') (hf:Fr C0 h s C' h' s') (hk:Eh h false n v h' n'=some (v',h2,0)):
  RV (lO C' (iV h2)) v' y/\cY (lO C' (iV h2)) n h2 lim s'/\Fr C0 h s (lO C' (iV h2)) h2 s':=by
 unfold Eh at hk;obtain⟨p,w1⟩:=gK (iO 5) _ _ _ _ hk;obtain⟨x,w1⟩:=fP _ _ _ _ _ w1;obtain⟨a,_,w1,g⟩:=rT w1;cases hch2:(Vv a (tD h)&&(bif false then Vu h n a else Vw h a)&&(mR (iV a) 5 v&&kI (iV a) a))with
 |false=>rw[hch2]at w1;exact aE w1
 |true=>
 rw[hch2,wZ2]at w1;cases w1;simp only[wL2,xO2]at hch2;obtain⟨⟨c1,c2⟩,c3,c4⟩:=hch2;have b:∀k o,aO h2 k=some o->aO h' k=some o:=fun k o u=>by grind
 have m:∀{k},aO h k≠none->aO h2 k≠none:=fun{k} hk=>wX c1 k (tJ hk);have i:∀{k},aO h2 k≠none->aO h' k≠none:=fun{k} hk=>by grind
 have c:=r.part b c4
 have q:∀{k pl},lO C' (iV h2) k=some pl->C' k=some pl/\aO h2 k≠none:=fun{k pl} hk=>by
  simp only[lO]at hk;split at hk;rename_i t;exact⟨hk,kK.1 t⟩;cases hk
 refine⟨zE hv c3,⟨c.hr,fun k pl hk=>?_,c.wf,c.lim⟩,⟨hf.sk,hf.n,hf.keep,fun id j w=>?_,fun k o hk=>?_,hf.zl,hf.zn⟩⟩;have:=rU c2 (q hk).2;cases hc:aO h k with
 |none=>exact absurd hc this
 |some o=>obtain⟨pl,p1,_⟩:=d.hr.ob k o hc;exact d.dom k pl p1
 obtain⟨k,v,e,l,q1,q2⟩:=w;exact hf.own id j ⟨k,v,e,l,i q1,(q q2).1⟩;obtain⟨o',q1,q2⟩:=hf.kd k o hk;have f:=m (k:=k) (by rw[hk];simp);cases hc:aO h2 k with
 |none=>exact absurd hc f
 |some o2=>
  have:=b k o2 hc;rw[q1]at this;cases this;refine⟨o',rfl,fun hb=>⟨(q2 hb).1,?_⟩⟩;simp only[lO];rw[wO2 (kK.2 f)];exact(q2 hb).2
end
def rC (cl:Nat->aB (Nat×Nat)):Mk:=fun f xs h n=>match xs,h with
 |[.is e rows],[]=>(cl f).bind fun p=>bif Nat.beq p.2 e&&Nat.ble rows.length 1073741824 then some (.own n,[(n,.lst p.1 e true rows)],n+1)else none
 |_,_=>none
end Go.P
namespace Go.P
open Go.Sim (AV Hp jA exec)
section
variable {T:jA}
noncomputable def xA {A B:Type} (f0 n0:Nat) (xs:A->aA PV) (h:A->bC) (h':A->B->bC) (G:A->aB B):Mk:=fun f x c n=>
 open Classical in if q:f=f0/\n=n0/\∃a,x=xs a/\c=h a then(G q.2.2.choose).map fun b=>(.tup [],h' q.2.2.choose b,n)else none
theorem Wp {A B:Type} {f0 n0:Nat} {xs:A->aA PV} {h:A->bC} {h':A->B->bC} {G:A->aB B} (hi:∀a b,xs a=xs b->h a=h b->a=b) (a:A):
  xA f0 n0 xs h h' G f0 (xs a) (h a) n0=(G a).map fun b=>(.tup [],h' a b,n0):=by
 have q:f0=f0/\n0=n0/\∃b,xs a=xs b/\h a=h b:=⟨rfl,rfl,a,rfl,rfl⟩
 unfold xA;rw[dif_pos q,show q.2.2.choose=a from(hi _ _ q.2.2.choose_spec.1 q.2.2.choose_spec.2).symm]
theorem yO {A B:Type} {f0 n0:Nat} {xs:A->aA PV} {h:A->bC} {h':A->B->bC} {G:A->aB B} {f:FuncId} {x:aA PV} {c:bC} {n:Nat} {r:PV×bC×Nat} (hk:xA f0 n0 xs h h' G f x c n=some r):
  f=f0/\n=n0/\∃a b,x=xs a/\c=h a/\G a=some b/\r=(.tup [],h' a b,n0):=by
 unfold xA at hk;split at hk;rename_i q;obtain⟨b,hb,he⟩:=wM2.1 hk;exact⟨q.1,q.2.1,_,b,q.2.2.choose_spec.1,q.2.2.choose_spec.2,hb,by rw[<-he];exact congrArg (fun m=>((.tup []:PV),h' q.2.2.choose b,m)) q.2.1⟩;cases hk
def Ts (a b:Mk):Mk:=fun f x h n=>match a f x h n with|some r=>some r|none=>b f x h n
theorem Tt {NF:FuncId->Bool} {P:sF} {a b:Mk} (c:Ej T NF P a) (hb:Ej T NF P b):Ej T NF P (Ts a b):=by
 intro f xs h n v h' n' C s lim ys h1 h2 hk;unfold Ts at hk;split at hk;rename_i r hr;cases hk;exact c f xs h n v h' n' C s lim ys h1 h2 hr;exact hb f xs h n v h' n' C s lim ys h1 h2 hk
theorem Wq {O:tW} {X:NX} {NF:FuncId->Bool} {P:sF} {run:Mk} {f0:FuncId} {fn:cD} (c:∀f xs v,O f xs=some v->oH T f xs v) (e:NOK T X)
  (b:T f0=some (Of true fn)) (hp:vI X.is fn.ntmps false fn.code=true)
  (hr:∀f xs h n v h' n',run f xs h n=some (v,h',n')->f=f0/\n'=n/\Qh O X fn xs h n (Eh h false n)=some (v,h',0)):Ej T NF P run:=by
 intro f xs h n v h' n' C s lim ys hf _ hk hl a;obtain⟨rfl,rfl,hd⟩:=hr f xs h n v h' n' hk;obtain⟨v1,h1,g,C1,y,s',q1,q2,q3,q4,q5,D,q6⟩:=Tp c e hp hd hl a;obtain⟨r1,r2,r3⟩:=bX1 a q2 q3 q5 q1
 exact⟨_,y,s',r1,r2,wK2 _,r3,⟨_,b,rfl,rfl⟩,D,fun d hd=>by
  simp only[Sim.callF,b];exact q6 d hd⟩
end
end Go.P
namespace Go.P
open Go.Sim (Ex fC CK)
theorem iR1 {α β γ δ:Type} {X:aB γ} {Y:aB α} {e:α->γ} {K:γ->aB δ} {F:α->aB β} {enc:β->δ} (h:X=Y.map e) (hk:∀y,K (e y)=(F y).map enc):cQ X K=(Y.bind F).map enc:=by
 rw[cH];subst h;cases Y<;>simp[hk]
theorem wO1 {β γ:Type} {b:Bool} {X Y:aB γ} {FX FY:aB β} {enc:β->γ} (a:X=FX.map enc) (hy:Y=FY.map enc):Lj b X Y=(if b then FX else FY).map enc:=by
 rw[oZ];subst a hy;cases b<;>rfl
theorem aL {S E S' E':Type} {enc:S->S'} {encE:E->E'} {B:S'->aB (S'⊕E')} {F:S->aB (S⊕E)} (h:∀s,B (enc s)=(F s).map (Sum.map enc encE)):∀(n:Nat) (s:S),aZ B n (enc s)=(aZ F n s).map encE
 |0,s=>rfl
 |n+1,s=>by
  simp only[aZ,h]
  cases F s with
  |none=>rfl
  |some r=>
   cases r with
   |inl s'=>exact aL h n s'
   |inr e=>rfl
def bB {A:Type} (l:aA A) (i:Int):aB A:=if 0<=i then l[i.toNat]? else none
theorem Qi {A:Type} (f:A->aA PV) (l:aA A) (i:Int):tA (l.map f) i=(bB l i).map f:=by
 unfold tA bB;split<;>simp
def i64 (n:Int):PV:=.v (.int .i64 n)
def bv (b:Bool):PV:=.v (.bool b)
end Go.P
namespace Go.P
open Go.Sim (Ex fC CK maxRoom)
def bF (n:Int):Int:=IntKind.wrap .i64 n
def eA {A:Type} (f:A->aA PV) (x:A):PV:=.agg (f x)
def cI (n:Int):aA PV:=[i64 n]
def bY1 (b:UInt8):aA PV:=[.v (.int .u8 (b.toNat:Int))]
def cB (b:Bool):aA PV:=[bv b]
def cF {K V:Type} (f:K->PV) (g:V->PV) (p:K×V):PV×PV:=(f p.1,g p.2)
section
variable {γ δ:Type}
theorem wP1 {X:aB γ} {x:γ} {K:γ->aB δ} {r:aB δ} (h:X=some x) (hk:K x=r):cQ X K=r:=by
 rw[cH,h];exact hk
theorem fW {b x:Bool} {X:aB Bool} (h:X=some x):Lj b X (some false)=some (b&&x):=by
 rw[oZ,h];cases b<;>rfl
theorem gM {b x:Bool} {X:aB Bool} (h:X=some x):Lj b (some true) X=some (b||x):=by
 rw[oZ,h];cases b<;>rfl
theorem oid {A:Type} (x:aB A):x=x.map id:=by simp
end
section
variable {A:Type}
theorem dE (c:A->aA PV) (l:aA A):some (l.map c).length=some l.length:=by simp
def dA (l:aA A) (i:Int):aB Nat:=qR l.length i
theorem bM (c:A->aA PV) (l:aA A) (i:Int):qR (l.map c).length i=(dA l i).map id:=by simp[dA]
def eL (l:aA A) (i:Nat):aB A:=l[i]?
theorem cV {c:A->aA PV} {o:Nat} {g:A->PV} (h:∀x,(c x)[o]? =some (g x)) (l:aA A) (i:Nat):Bj (l.map c) i o=(eL l i).map g:=by
 unfold Bj eL;rw[xN2];cases l[i]? with
 |none=>rfl
 |some x=>exact h x
theorem cS {c:A->aA PV} {o n m:Nat} {g:A->aA PV} (h:∀x,(c x).length=m/\((c x).drop o).take n=g x) (a:o+n<=m) (l:aA A) (i:Nat):uR (l.map c) i o n=(eL l i).map g:=by
 unfold uR eL;rw[xN2];cases l[i]? with
 |none=>rfl
 |some x=>simp[(h x).1,(h x).2,a]
def lP (l:aA A) (i:Nat) (f:A->A):aB (aA A):=(l[i]?).map fun x=>l.set i (f x)
theorem gV {c:A->aA PV} {o:Nat} {cs:aA PV} {f:A->A} {m:Nat} (h:∀x,(c x).length=m/\Sim.setL (c x) o cs=c (f x)) (a:o+cs.length<=m) (l:aA A) (i:Nat):Bi (l.map c) i o cs=(lP l i f).map (List.map c):=by
 unfold Bi lP;rw[xN2];cases l[i]? with
 |none=>rfl
 |some x=>simp[(h x).1,(h x).2,a]
def pI (l:aA A) (a b:Int):aB (aA A):=if 0<=a/\a<=b/\b<=l.length then some ((l.drop a.toNat).take (b.toNat-a.toNat))else none
theorem vK (f:A->aA PV) (l:aA A) (a b:Int):oD (l.map f) a b=(pI l a b).map (List.map f):=by
 unfold oD pI;simp only[zG2];split;simp_all;rfl
theorem Ek (f:A->aA PV) (l:aA A) (a:Int):oD (l.map f) a (l.map f).length=(pI l a l.length).map (List.map f):=by
 rw[vK,zG2]
def Cp (l:aA A) (h:Int):aB (aA A):=if 0<=h/\h<=l.length then some (l.take h.toNat)else none
theorem El (f:A->aA PV) (l:aA A) (h:Int):rQ (l.map f) h=(Cp l h).map (List.map f):=by
 unfold rQ Cp;simp only[zG2];split;simp[List.map_take];rfl
def iP (g:Bool) (l m:aA A):aB (aA A):=if l.length+m.length<=maxRoom/\(g=true->m.length<=1)then some (l++m)else none
theorem cG (g:Bool) (f:A->aA PV) (l m:aA A):appRows g (l.map f) (m.map f)=(iP g l m).map (List.map f):=by
 unfold appRows iP;simp only[zG2];split;simp;rfl
def yP (l c:Int) (z:A):aB (aA A):=if 0<=l/\l<=c/\c<=maxRoom then some (List.replicate l.toNat z)else none
theorem mA (f:A->aA PV) (l c:Int) (z:A):qU l c (f z)=(yP l c z).map (List.map f):=by
 unfold qU yP;split;simp;rfl
theorem tL (k:IntKind) (l:aA Int) (i:Int) {n:Nat} (h:l.length=n):uS (l.map fun x=>PV.v (.int k x)) i n 1=(bB l i).map (fun x=>PV.v (.int k x)):=by
 subst h;unfold uS bB;by_cases h0:0<=i
 grind
 grind
theorem Mt {c:A->aA PV} {e:Nat} (hc:∀x,(c x).length=e):∀(l:aA A) (j:Nat),j<l.length->((l.flatMap c).drop (j*e)).take e=((l[j]?).map c).getD []/\(j+1)*e<=(l.flatMap c).length
 |[],j,h=>by simp at h
 |x::l,0,h=>by grind
 |x::l,j+1,h=>by
  have a:=hc x
  obtain⟨h1,h2⟩:=Mt hc l j (by simpa using h)
  constructor
  rw[zF2,show(j+1)*e=(c x).length+j*e by rw[a,yT2];omega,<-zL2,List.drop_left]
  simpa using h1
  grind
theorem Mu (c:A->aA PV) (l:aA A) (i:Int) {n e:Nat} (h:l.length=n) (hc:∀x,(c x).length=e) {cs:aA PV} (a:cs=l.flatMap c):qT cs i n e=(bB l i).map c:=by
 subst h a;unfold qT bB;by_cases h0:0<=i;by_cases h1:i<l.length;obtain⟨h2,h3⟩:=Mt hc l i.toNat (by omega)
 rw[wO2 ⟨h0,h1,h3⟩,h2,wO2 h0];rw[wX2 (by omega)];rfl
 grind
 grind
end
def bZ1 (k:IntKind) (a b:Int):aB Int:=if b<0 then none else some (k.wrap (a*2^min b.toNat k.bits))
def mB (k:IntKind) (a b:Int):aB Int:=if b<0 then none else some (a.fdiv (2^min b.toNat k.bits))
def Mv (k:IntKind) (a b:Int):aB Int:=if b=0 then none else some (k.wrap (a.tdiv b))
def cA1 (k:IntKind) (a b:Int):aB Int:=if b=0 then none else some (a.tmod b)
def dU (k:IntKind) (a b:Int):Int:=k.wrap (BitVec.ofInt k.bits a&&&BitVec.ofInt k.bits b).toNat
def ior (k:IntKind) (a b:Int):Int:=k.wrap (BitVec.ofInt k.bits a|||BitVec.ofInt k.bits b).toNat
structure yQ {K:Type} [DecidableEq K] (ek:K->PV) (agg:Bool) (ks:List CK):Prop where
 ok:∀a,wP agg ks (ek a)=true
 eq:∀a b,qV agg ks (ek a) (ek b)=some (decide (a=b))
section
variable {K V:Type} [DecidableEq K] {ek:K->PV} {agg:Bool} {ks:List CK}
def kL (k:K):aA (K×V)->Nat->aB (Nat×V)
 |[],_=>none
 |p::r,i=>if k=p.1 then some (i,p.2)else kL k r (i+1)
def fJ (l:aA (K×V)) (k:K) (z:V):V:=match kL k l 0 with|some p=>p.2|none=>z
def Wr (l:aA (K×V)) (k:K):Bool:=(kL k l 0).isSome
def kM (l:aA (K×V)) (k:K) (x:V):aA (K×V):=match kL k l 0 with|some p=>l.set p.1 (k,x)|none=>l++[(k,x)]
theorem rV (h:yQ ek agg ks) (ev:V->PV) (k:K):∀(l:aA (K×V)) (i:Nat),uT agg ks (ek k) (l.map (cF ek ev)) i=some ((kL k l i).map fun p=>(p.1,ev p.2))
 |[],i=>rfl
 |p::r,i=>by
  simp only[yY2,cF,uT,h.eq,kL]
  by_cases e:k=p.1
  simp[e]
  simp only[e,yZ2,wN2 e]
  exact rV h ev k r (i+1)
theorem jR (h:yQ ek agg ks) (ev:V->PV) (l:aA (K×V)) (k:K) (z:V):tB agg ks (ev z) (ek k) (l.map (cF ek ev))=some (ev (fJ l k z)):=by
 unfold tB fJ;rw[h.ok,wO2 rfl,rV h];cases kL k l 0<;>rfl
theorem Mw (h:yQ ek agg ks) (ev:V->PV) (l:aA (K×V)) (k:K) (z:V):pB agg ks (ev z) (ek k) (l.map (cF ek ev))=some (ev (fJ l k z),Wr l k):=by
 unfold pB fJ Wr;rw[h.ok,wO2 rfl,rV h];cases kL k l 0<;>rfl
theorem iQ (h:yQ ek agg ks) (ev:V->PV) (l:aA (K×V)) (k:K) (x:V):Bl agg ks (ek k) (ev x) (l.map (cF ek ev))=some ((kM l k x).map (cF ek ev)):=by
 unfold Bl kM;rw[h.ok,wO2 rfl,rV h];cases kL k l 0 with
 |none=>simp[cF]
 |some p=>simp[cF,List.map_set]
end
end Go.P
namespace Go.P
open Go.Sim (Ex fC CK maxRoom)
section
variable {A β γ δ:Type} {f:A->List PV} {l m:List A} {i:Int}
theorem rg:tA (l.map f) i=(bB l i).map f:=Qi f l i
theorem lm:some (l.map f).length=some l.length:=dE f l
theorem im:qR (l.map f).length i=(dA l i).map id:=bM f l i
theorem lf {x:γ} {y:β} {enc:β->γ} (h:x=enc y):some x=(some y).map enc:=by subst h;rfl
theorem bo {α:Type} {X:aB γ} {Y:aB α} {e:α->γ} {K:γ->aB δ} {F:α->aB β} {enc:β->δ} (h:X=Y.map e) (hk:∀y,K (e y)=(F y).map enc):cQ X K=(Y.bind F).map enc:=iR1 h hk
theorem bz {X:aB γ} {x:γ} {K:γ->aB δ} {r:aB δ} (h:X=some x) (hk:K x=r):cQ X K=r:=wP1 h hk
theorem io {b:Bool} {X Y:aB γ} {FX FY:aB β} {enc:β->γ} (a:X=FX.map enc) (hy:Y=FY.map enc):Lj b X Y=(if b then FX else FY).map enc:=wO1 a hy
theorem oi {x:aB A}:x=x.map id:=oid x
end
end Go.P
set_option maxRecDepth 100000
namespace Go.P
open Go.Sim (AV AO Hp IFn IC IX Ex jA exec)
def iA (ty esz k:Nat) (zero:aA Value):IFn:={ntmps:=8,res:=[.tmp 2],pure:=true,frz:=false,body:=(
  .seq (.reg [⟨some 2,.mov,[.c (.v (.slice none 0 0))],none⟩])
   (.seq (.seq (.reg [⟨some 3,.mov,[.t 0],none⟩,⟨some 4,.eqNil false 0,[.t 3,.c (.v (.slice none 0 0))],none⟩])
     (.cond (.t 4) (.seq (.reg [⟨some 2,.mov,[.c (.v (.slice none 0 0))],none⟩]) .ret) .skip))
   (.seq (.reg [⟨some 5,.buildSl ty esz 0 zero [],[],none⟩,⟨some 6,.mov,[.t 0],none⟩,⟨some 7,.append ty esz k zero false,[.t 5,.t 6],none⟩,⟨some 2,.mov,[.t 7],none⟩]) .ret)))}
section
variable {T:jA} (ty esz k:Nat) (zero:List Value) (d:Nat)
theorem Ws:Sim.body (exec T (d+8)) 0 (iA ty esz k zero) [.v (.slice none 0 0)] {h:=[],n:=0}=some (.v (.slice none 0 0),{h:=[],n:=0}):=rfl
theorem iS1:∃s,Sim.body (exec T (d+8)) 0 (iA ty esz k zero) [.is esz []] {h:=[],n:=0}=some (.sl esz 0 0 0 0 none,s)/\Sim.look s.h 0=some (.arr false ty esz 0 []):=by
 simp[Sim.body,exec,iA,Sim.runOps,Sim.wanted,Sim.evs,Sim.IX.ev,Sim.step,Sim.doOp,Sim.put,Sim.isNilv,Sim.appRows,Sim.rowsOf,Sim.appendTo,Sim.fillParts,Sim.look,Sim.results,Sim.mapO,Sim.readRes,Sim.Out.apply]
theorem iT1 (r:aA AV) (a:aA (aA AV)) (h:(r::a).length<=1073741824):∃s,Sim.body (exec T (d+8)) 0 (iA ty esz k zero) [.is esz (r::a)] {h:=[],n:=0}=some (.sl esz 0 1 0 (r::a).length none,s)/\Sim.look s.h 0=some (.arr false ty esz 1 (r::a)):=by
 have b:Sim.maxRoom=1073741824:=rfl;simp only[xR2]at h;simp[Sim.body,exec,iA,Sim.runOps,Sim.wanted,Sim.evs,Sim.IX.ev,Sim.step,Sim.doOp,Sim.put,Sim.isNilv,Sim.appRows,Sim.rowsOf,Sim.appendTo,Sim.fillParts,Sim.look,Sim.results,Sim.mapO,Sim.readRes,Sim.Out.apply,b,h];rfl
theorem Cq {f:FuncId} {ty esz k:Nat} {zero:aA Value} (i:T f=some (iA ty esz k zero)) (j:∀ys,T.memo f ys=none) {rows:aA (aA PV)} (hl:rows.length<=1073741824):oH T f [.is esz rows] (.is esz rows):=by
 refine⟨_,i,rfl,fun h=>(by cases h),fun ys hy=>Il (j ys) ⟨8,fun d hd=>?_⟩⟩;obtain⟨d,rfl⟩:∃g,d=g+8:=⟨d-8,by omega⟩
 obtain⟨y,l,rfl,h1,h2⟩:=hy.inv_cons;rw[h2.inv_nil];rcases Bs (C:=⟨fun _=>none,fun _=>none⟩) (.cl h1)with⟨rows',rfl,hr⟩|⟨rfl,rfl⟩
 cases rows' with
 |nil=>
  have:rows=[]:=yX2 hr.1;subst this;obtain⟨s,a,e2⟩:=iS1 (T:=T) ty esz k zero d;exact⟨_,_,_,a,Td (d:=4) (rows:=[]) (xA2 _) e2 .nil (wK2 _),h1⟩
 |cons r rs=>
  obtain⟨s,a,e2⟩:=iT1 (T:=T) ty esz k zero d r rs (by rw[<-hr.1];exact hl);have b:(r::rs).length=rows.length:=hr.1.symm;rw[b]at a;have e:(r::rs).take rows.length=r::rs:=by rw[<-b,zC2]
  have c:=Td (n0:=0) (L:=Sim.look s.h) (d:=4) (rows:=rows) (id:=0) (xA2 _) e2 (by rw[e];exact hr) (by omega);rw[e]at c;exact⟨_,_,_,a,c,h1⟩
 exact⟨_,_,_,Ws ty esz k zero d,rfl,.isn⟩
theorem Qj (lim:Nat) (s:Hp):Sim.body (exec T (d+8)) lim {iA ty esz k zero with pure:=false} [.v (.slice none 0 0)] s=some (.v (.slice none 0 0),s):=rfl
theorem cB1 {lim:Nat} {s:Hp} (hl:lim<=s.n):Sim.body (exec T (d+8)) lim {iA ty esz k zero with pure:=false} [.is esz []] s=some (.sl esz s.n 0 0 0 none,⟨.ob s.n (.arr false ty esz 0 [])::s.h,s.n+1⟩):=by
 simp[Sim.body,exec,iA,Sim.runOps,Sim.wanted,Sim.evs,Sim.IX.ev,Sim.step,Sim.doOp,Sim.put,Sim.isNilv,Sim.appRows,Sim.rowsOf,Sim.appendTo,Sim.fillParts,Sim.look,Sim.results,Sim.mapO,Sim.readRes,Sim.Out.apply]
theorem cC1 {lim:Nat} {s:Hp} (hl:lim<=s.n) (r:aA AV) (a:aA (aA AV)) (h:(r::a).length<=1073741824):Sim.body (exec T (d+8)) lim {iA ty esz k zero with pure:=false} [.is esz (r::a)] s=some (.sl esz s.n 1 0 (r::a).length none,⟨.ob s.n (.arr false ty esz 1 (r::a))::s.h,s.n+1⟩):=by
 have b:Sim.maxRoom=1073741824:=rfl;simp only[xR2]at h;simp[Sim.body,exec,iA,Sim.runOps,Sim.wanted,Sim.evs,Sim.IX.ev,Sim.step,Sim.doOp,Sim.put,Sim.isNilv,Sim.appRows,Sim.rowsOf,Sim.appendTo,Sim.fillParts,Sim.look,Sim.results,Sim.mapO,Sim.readRes,Sim.Out.apply,Sim.upd,b,h,hl]
end
theorem Wt {T:jA} {NF:FuncId->Bool} {P:sF} {cl:Nat->aB (Nat×Nat)} (q:∀f p,cl f=some p->iC p.1=false/\Nat.ble 4294967296 p.2=false/\∃k zero,T f=some {iA p.1 p.2 k zero with pure:=false}):Ej T NF P (rC cl):=by
 intro f xs h n v h' n' C s lim ys _ _ hk hl b;unfold rC at hk;split at hk;rename_i e rows;rw[wH2]at hk;obtain⟨⟨ty,e2⟩,hc,hk⟩:=hk;simp only at hk;by_cases he:(Nat.beq e2 e&&Nat.ble rows.length 1073741824)=true;rw[he,wZ2]at hk;cases hk;simp only[wL2,Nat.ble_eq]at he;obtain⟨h1,t⟩:=he;have:=xB2 h1;subst this;obtain⟨hfx,hs,k,zero,a⟩:=q f _ hc;simp only at hfx hs a;have o:Dx ty=ty:=by simp[Dx,hfx]
 obtain⟨y,u,rfl,a1,a2⟩:=hl.inv_cons;rw[a2.inv_nil]
 have nilc:rows=[]->y=.v (.slice none 0 0)->∃C' c s',RV C' (.own n) c/\cY C' (n+1) [(n,.lst ty e2 true rows)] lim s'/\n<=n+1/\Fr C [] s C' [(n,.lst ty e2 true rows)] s'/\(∃ifn,T f=some ifn/\ifn.pure=false/\ifn.frz=false)/\∃D,∀d,D<=d->Sim.callF T (exec T d) lim f [y] s=some (c,s'):=by
  rintro rfl rfl;obtain⟨i,j⟩:=Py b (ty:=ty) (e:=e2) (g:=true);have m:oE ty e2 true=.lst ty e2 true []:=by unfold oE;rw[hs];rfl
  rw[m]at i j;refine⟨_,_,s,.ownn (C:=ext C n .nil) (nU C n .nil) rfl,i,by omega,j,⟨_,a,rfl,rfl⟩,8,fun d hd=>?_⟩;obtain⟨d,rfl⟩:∃l,d=l+8:=⟨d-8,by omega⟩
  simp only[Sim.callF,a];exact Qj (T:=T) ty e2 k zero d lim s
 rcases Bs a1 with⟨rows',rfl,hr⟩|⟨hr,hy⟩
 have fin:∀(ver:Nat),(∀d,Sim.body (exec T (d+8)) lim {iA ty e2 k zero with pure:=false} [.is e2 rows'] s=some (.sl e2 s.n ver 0 rows.length none,⟨.ob s.n (.arr false ty e2 ver rows')::s.h,s.n+1⟩))->
   ∃C' c s',RV C' (.own n) c/\cY C' (n+1) [(n,.lst ty e2 true rows)] lim s'/\n<=n+1/\Fr C [] s C' [(n,.lst ty e2 true rows)] s'/\(∃ifn,T f=some ifn/\ifn.pure=false/\ifn.frz=false)/\∃D,∀d,D<=d->Sim.callF T (exec T d) lim f [.is e2 rows'] s=some (c,s'):=by
  intro ver hb;obtain⟨i,j,w⟩:=qY b (po:=.lst ty e2 true rows) (ao:=.arr false ty e2 ver rows') (ver:=ver) (e:=e2) (len:=rows.length) ⟨b.lim,by omega,rfl,rfl,rows',by rw[eZ,wO2 rfl,o],by rw[xS2 (by rw[hr.1];exact wK2 _)];exact hr,by rw[hr.1];exact wK2 _,fun h=>by cases h⟩;refine⟨_,_,_,.own (nU C n _),i,by omega,j,⟨_,a,rfl,rfl⟩,8,fun d hd=>?_⟩;obtain⟨d,rfl⟩:∃l,d=l+8:=⟨d-8,by omega⟩
  simp only[Sim.callF,a];exact hb d
 cases rows' with
 |nil=>
  have:rows=[]:=yX2 hr.1;subst this;exact fin 0 fun d=>cB1 (T:=T) ty e2 k zero d b.lim
 |cons r rs=>exact fin 1 fun d=>by rw[hr.1];exact cC1 (T:=T) ty e2 k zero d b.lim r rs (by rw[<-hr.1];exact t)
 exact nilc hr hy
 grind
 cases hk
end Go.P
namespace Go.P
open Go.Sim
section
variable {P:Program} {D:Nat} {t:TypeId} {cs:List AV}
theorem pX {n:Nat} (h:n<=maxLen):n<9223372036854775808:=wQ2 h (by decide)
theorem gI {k:IntKind} (a:P.underlying t=some (.int k)) (h:lI P D t cs):∃n,LR (RC false) [.v (.int k n)] cs:=by
 cases D with
 |zero=>exact h.elim
 |succ D=>
  unfold lI at h;rw[a]at h;obtain⟨n,rfl,_⟩:=h;exact⟨n,.cons (.v _) .nil⟩
theorem My (a:P.underlying t=some .bool) (h:lI P D t cs):∃n,LR (RC false) [.v (.bool n)] cs:=by
 cases D with
 |zero=>exact h.elim
 |succ D=>
  unfold lI at h;rw[a]at h;obtain⟨n,rfl⟩:=h;exact⟨n,.cons (.v _) .nil⟩
theorem iU1 (a:P.underlying t=some .string) (h:lI P D t cs):∃s:ByteArray,s.size<=maxLen/\LR (RC false) [.v (.string s)] cs:=by
 cases D with
 |zero=>exact h.elim
 |succ D=>
  unfold lI at h;rw[a]at h;obtain⟨s,rfl,hs⟩:=h;exact⟨s,hs,.cons (.v _) .nil⟩
theorem Tu {A:Type} {B:A->Prop} {c:A->aA PV} {e:TypeId} {m:Nat} (f:P.underlying t=some (.slice e)) (d:P.cellsOf e=m) (a:∀D row,lI P D e row->∃x:A,B x/\LR (RC false) (c x) row) (hp:∀x,(c x).all gC=true) (h:lI P D t cs):
  ∃l:aA A,(l.length<=maxLen/\∀x∈l,B x)/\LR (RC false) [.is m (l.map c)] cs:=by
 cases D with
 |zero=>exact h.elim
 |succ D=>
  unfold lI at h;rw[f]at h;rcases h with rfl|⟨els,rfl,hl,h⟩
  exact⟨[],⟨xA2 _,fun x b=>(List.not_mem_nil b).elim⟩,.cons .isn .nil⟩;rw[d]
  have:∃l:aA A,l.length=els.length/\(∀x∈l,B x)/\RR (l.map c) els:=by
   clear hl
   induction els with
   |nil=>exact⟨[],rfl,fun x b=>(List.not_mem_nil b).elim,.nil⟩
   |cons row els ih=>
    obtain⟨l,h1,h2,h3⟩:=ih (fun row a=>h row (by simp[a]));obtain⟨x,i,g⟩:=a D row (h row (by simp)).2;refine⟨x::l,by simp[h1],fun y hy=>?_,.cons ?_ h3⟩
    grind
    exact(LR.closed (C:=⟨fun _=>none,fun _=>none⟩) g).plain (hp x)
  obtain⟨l,h1,h2,h3⟩:=this;exact⟨l,⟨by omega,h2⟩,.cons h3.is .nil⟩
theorem fM {fs:Array Field} (a:P.underlying t=some (.struct fs)) (h:lI P D t cs):∃D',hJ1 (lI P D') P fs.toList cs:=by
 cases D with
 |zero=>exact h.elim
 |succ D=>
  unfold lI at h;rw[a]at h;exact⟨D,h⟩
theorem fY2 {n:Nat} {e:TypeId} (a:P.underlying t=some (.array n e)) (h:lI P D t cs):∃(D':Nat) (rows:aA (aA AV)),cs=rows.flatten/\rows.length=n/\∀row∈rows,row.length=P.cellsOf e/\lI P D' e row:=by
 cases D with
 |zero=>exact h.elim
 |succ D=>
  unfold lI at h;rw[a]at h;obtain⟨rows,h1,h2,h3⟩:=h;exact⟨D,rows,h1,h2,h3⟩
theorem wQ1 {α:Type} {l:aA α} (h:l.length=6):∃a b c d e f,l=[a,b,c,d,e,f]:=by
 rcases l with _|⟨a,_|⟨b,_|⟨c,_|⟨d,_|⟨e,_|⟨f,_|⟨g,l⟩⟩⟩⟩⟩⟩⟩<;>simp at h;exact⟨a,b,c,d,e,f,rfl⟩
end
end Go.P
namespace Go.P
open Go.Sim
theorem cD1 {T:jA} {f:FuncId} {xs:aA PV} (h:oH T f xs (bv true)) {ys:aA AV} (hl:LR (RC false) xs ys) (hc:ys.all (closed 4)=true):∃d s,callF T (exec T d) 0 f ys {h:=[],n:=0}=some (.v (.bool true),s):=by
 obtain⟨ifn,h1,h2,h3,h4⟩:=h;obtain⟨D,a⟩:=h4 ys hl;obtain⟨y,b,c⟩:=a D (wK2 _);cases c;exact⟨D,_,by simp only[callF,h1,h2,xM2,hc,b,xP2];rfl⟩
theorem Im {x:PV} {y:AV} {d:Nat} (h:RC false x y) (hp:gC x=true):closed (d+1) y=true:=by
 cases h<;>first|rfl|simp[gC]at hp
theorem Qk {xs:aA PV} {ys:aA AV} (h:LR (RC false) xs ys) (hp:xs.all gC=true):closed 4 (.agg ys)=true:=by
 unfold closed;rw[wR2];intro y hy;obtain⟨j,b⟩:=xE2.1 hy;have a:j<xs.length:=by rw[h.1];exact(wI2.1 b).1
 have c:xs[j]? =some xs[j]:=wX2 a;exact Im (h.2 j _ _ c b) (wR2.1 hp _ (yR2 a))
def rX1:Value->Value->Bool
 |.int k a,.int k' b=>decide (k=k')&&decide (a=b)
 |.bool a,.bool b=>decide (a=b)
 |.string a,.string b=>decide (a=b)
 |.slice none 0 0,.slice none 0 0=>true
 |_,_=>false
theorem iV1 {x y:Value} (h:rX1 x y=true):x=y:=by
 unfold rX1 at h;split at h<;>simp_all
def Mz {α β:Type} (f:α->β->Bool):aA α->aA β->Bool
 |[],[]=>true
 |a::as,b::bs=>f a b&&Mz f as bs
 |_,_=>false
theorem oL {α β:Type} {f:α->β->Bool}:∀{xs:aA α} {ys:aA β},Mz f xs ys=true->xs.length=ys.length/\∀(j:Nat) (x:α) (y:β),xs[j]? =some x->ys[j]? =some y->f x y=true
 |[],[],_=>⟨rfl,fun j x y h=>by simp at h⟩
 |[],b::bs,h=>by simp[Mz]at h
 |a::as,[],h=>by simp[Mz]at h
 |a::as,b::bs,h=>by
  simp only[Mz,wL2]at h
  obtain⟨h1,h2⟩:=h
  have ih:=oL h2
  refine⟨by simp[ih.1],fun j x y c hy=>?_⟩
  cases j with
  |zero=>simp at c hy;subst c;subst hy;exact h1
  |succ j=>simp at c hy;exact ih.2 j x y c hy
def rcB:Nat->PV->AV->Bool
 |0,_,_=>false
 |d+1,x,y=>match x,y with
  |.v x,.v y=>rX1 x y
  |.is e rows,.is e' rows'=>decide (e=e')&&Mz (Mz (rcB d)) rows rows'
  |.is _ [],.v (.slice none 0 0)=>true
  |_,_=>false
theorem cE1:∀(d:Nat) {x:PV} {y:AV} (p:Bool),rcB d x y=true->RC p x y
 |0,x,y,p,h=>by simp[rcB]at h
 |d+1,x,y,p,h=>by
  unfold rcB at h
  split at h
  rw[iV1 h];exact .v _
  simp only[wL2,wS2]at h
  obtain⟨rfl,h⟩:=h
  have h1:=oL h
  refine .is h1.1 (fun i r r' hr a=>(oL (h1.2 i r r' hr a)).1) (fun i r r' j x y hr a b hy=>cE1 d true ((oL (h1.2 i r r' hr a)).2 j x y b hy))
  exact .isn
  cases h
end Go.P
namespace Go.P
open Go.Sim (IC IX AV fC lJ)
section
variable {R:Type}
def fN (s:Nat) (K:Nat->R):R:=match s with
 |0=>K 0
 |n+1=>K (n+1)
def num:Nat->Nat->(Nat->Nat->R)->R
 |0,s,K=>K 0 s
 |k+1,s,K=>bif Nat.ble 8 (s%16)then fN (s/16) fun t=>num k t fun n t=>K (s%16-8+8*n) t else fN (s/16) fun t=>K (s%16) t
def wS1:Nat->Nat->(aA Nat->Nat->R)->R
 |0,s,K=>K [] s
 |k+1,s,K=>num 16 s fun n t=>fN n fun n=>wS1 k t fun l u=>K (n::l) u
def Na (s:Nat) (K:aA Nat->Nat->R):R:=num 16 s fun n t=>wS1 n t K
def oV1:Nat->Nat->(aA (aA Nat)->Nat->R)->R
 |0,s,K=>K [] s
 |k+1,s,K=>Na s fun n t=>oV1 k t fun l u=>K (n::l) u
def uV:AV->PV
 |.v x=>.v x
 |.fn (.func f) _ _=>.fn f [] []
 |.agg cs=>.agg (cs.map fun c=>match c with|.v x=>.v x|_=>.undef)
 |_=>.undef
def uX:IX->PX
 |.t i=>.t i
 |.c x=>.c (uV x)
def cF1:aA PX->aA Nat
 |[]=>[]
 |.t i::xs=>i::cF1 xs
 |_::xs=>cF1 xs
def kil (h:Nat) (xs:aA PX) (s:Nat) (K:aA Nat->Nat->R):R:=match h with
 |0=>K [] s
 |1=>K (cF1 xs) s
 |_=>Na s K
def mrk:aA Nat->iT->iT
 |[0,d,ty,e,g],r=>.own d ty e (Nat.beq g 1) r
 |[1,d],r=>.fz d none r
 |[2,d,j],r=>.fz d (some j) r
 |[3,d],r=>.laxm d none r
 |[4,d,j],r=>.laxm d (some j) r
 |[5,d,e],r=>.lax d [some e] r
 |[6,d,j,ty,e,g],r=>.ownc d j ty e (Nat.beq g 1) r
 |[7,d,j,e],r=>.laxc d j e r
 |[8,d,m,j,e],r=>.lax d ((List.range m).map fun q=>bif Nat.beq q j then some e else none) r
 |_,r=>r
def wT1:aA (aA Nat)->iT->iT
 |[],r=>r
 |m::ms,r=>mrk m (wT1 ms r)
def opO (d:aB Nat) (k:fC) (xs:aA PX) (l:aA Nat) (r:iT):iT:=match d with
 |some d=>.op d k xs l r
 |none=>.sto k xs l r
def pie (f:aA Sim.Op1->Nat->(iT->Nat->R)->R) (h:Nat) (os:aA Sim.Op1) (s:Nat) (K:(iT->iT)->aA Sim.Op1->Nat->R):R:=num 16 s fun k s=>f (os.take k) s fun b s=>match os.drop k with
 |[]=>K (fun r=>r) [] s
 |o::os=>match o.dst,o.xs with
  |some d,[.t c,x,y]=>kil (s%16) [.t c] (s/16) fun l s=>match y with
   |.c (.v (.bool false))=>K (bif Nat.beq h 5 then .ifx d c true b (uX x) l else .ifn d c true b (uX x) l) os s
   |_=>K (bif Nat.beq h 5 then .ifx d c false b (uX y) l else .ifn d c false b (uX y) l) os s
  |_,_=>K (fun r=>r) [] s
def its:Nat->aA Sim.Op1->Nat->(iT->Nat->R)->R
 |0,_,s,K=>K .nil s
 |_,[],s,K=>K .nil s
 |n+1,o::os,s,K=>match s%16 with
  |3=>Na (s/16) fun l s=>its n os s fun r s=>(match o.k,o.dst with
   |.buildSl ty _ _ z _,some d=>K (.mkfl d ty z (o.xs.map uX) l r) s
   |_,_=>K .nil s)
  |4=>kil (s/16%16) (o.xs.map uX) (s/256) fun l s=>num 16 s fun m s=>oV1 m s fun b s=>its n os s fun r s=>K (opO o.dst o.k (o.xs.map uX) l (wT1 b r)) s
  |5=>pie (its n) 5 (o::os) (s/16) fun a os s=>its n os s fun r s=>K (a r) s
  |6=>pie (its n) 6 (o::os) (s/16) fun a os s=>its n os s fun r s=>K (a r) s
  |h=>fN (s/16) fun t=>kil h (o.xs.map uX) t fun l s=>its n os s fun r s=>K (opO o.dst o.k (o.xs.map uX) l r) s
def oW1:aA Nat->aA (Nat×Nat×Nat×Nat)
 |a::b::c::d::r=>(a,b,c,d)::oW1 r
 |_=>[]
def Yq:IC->Nat->(PC->Nat->R)->R
 |.skip,s,K=>K .skip s
 |.reg ops,s,K=>its ops.length ops s fun b s=>K (.reg b) s
 |.regD ops bf,s,K=>num 16 s fun dr s=>its ops.length ops s fun b s=>Na s fun q s=>(match q with
  |[]=>K (.regD dr b bf) s
  |q=>K (.regX dr b bf (oW1 q)) s)
 |.seq a b,s,K=>Yq a s fun x s=>Yq b s fun y s=>K (.seq x y) s
 |.cond c a b,s,K=>match s%16 with
  |1=>Na (s/16) fun l s=>Yq a s fun x s=>Yq b s fun y s=>K (.condJ l (uX c) x y) s
  |2=>fN (s/16) fun s=>Yq a s fun x s=>Yq b s fun y s=>K (.condL (uX c) x y) s
  |_=>fN (s/16) fun s=>Yq a s fun x s=>Yq b s fun y s=>K (.cond (uX c) x y) s
 |.block id c,s,K=>Yq c s fun x s=>K (.block id x) s
 |.loop c,s,K=>match s%16 with
  |1=>num 16 (s/16) fun m s=>Na s fun l s=>Yq c s fun x s=>K (.loopU m l x) s
  |_=>Na (s/16) fun l s=>Na s fun d s=>Yq c s fun x s=>K (.loop l d x) s
 |.rangeF _ _ _ _,s,K=>K .skip s
 |.exit id,s,K=>K (.exit id) s
 |.ret,s,K=>K .ret s
def anF (P:Program) (f s:Nat) (z:Bool):cD:=match P.funcs[f]? with
 |some fn=>match fn.body with
  |some c=>match Sim.comp P c,Sim.mapO (Sim.compRes P) fn.results.toList with
   |some ic,some rs=>Yq ic s fun c _=>⟨fn.ntmps,rs,c,z⟩
   |_,_=>default
  |none=>default
 |none=>default
end
end Go.P
namespace Go.P
open Go.Sim
theorem cG1 {Q:Program} {T:jA} (d:iB Q T) (a:Q.follows .mixedOrders=true) {f:FuncId} {xs:aA PV} {ys:aA AV} {b:Bool} (h:oH T f xs (bv b)) (hl:LR (RC false) xs ys) (hc:ys.all (closed 4)=true):lV Q f ys (.v (.bool b)):=by
 obtain⟨fn,h1,h2,_,h4⟩:=h;obtain⟨D,c⟩:=h4 ys hl;obtain⟨y,e,g⟩:=c D (wK2 _);cases g;exact Bh d a h1 h2 hc e
theorem cH1 {T:jA} {f:FuncId} {fn:IFn} {b:Bool} (a:T f=some fn) (hp:fn.pure=true) (e:fn.frz=true) (c:T.memo f []=some (.v (.bool b))):oH T f [] (bv b):=
 ⟨fn,a,hp,fun _=>e,fun ys hy=>⟨0,fun d _=>⟨_,by rw[hy.inv_nil];simp only[runP,c],.v _⟩⟩⟩
def oX1:Nat->PV->AV
 |0,_=>.es
 |d+1,x=>match x with
  |.v x=>.v x
  |.is _ []=>.v (.slice none 0 0)
  |.is e rows=>.is e (rows.map fun r=>r.map (oX1 d))
  |_=>.es
def Tv (d:Nat) (xs:aA PV):aA AV:=xs.map (oX1 d)
theorem iX1 {cells:aA PV} {d:Nat} (h:Mz (rcB 12) cells (Tv d cells)=true):LR (RC false) [.agg cells] [.agg (Tv d cells)]:=by
 have:=oL h;exact .cons (.agg this.1 (fun j x y a hy=>cE1 12 false (this.2 j x y a hy))) (.nil)
end Go.P
