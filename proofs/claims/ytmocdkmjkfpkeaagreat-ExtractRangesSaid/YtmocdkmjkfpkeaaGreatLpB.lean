import Derived.Test.YtmocdkmjkfpkeaaGreatLpA
/- A text of the proof. -/
set_option linter.all false
namespace Go.P
open Go.Sim (AV AO Hp Ent upd St IC IX Ex OpK CK Wf Out doOp Tab exec Foot wanted put)
section
variable {R:Type} {T:Tab} {O:Orc} {X:NX} {dr:Nat}
theorem aU1 {C:Cx}:∀{es:List (Option Nat)} {cs:List PV} {ys:List AV} {K:List PV->Option R} {r:R},LR (RV C) cs ys->laxK es cs K=some r->∃cs',K cs'=some r/\LR (RV C) cs' ys
 |[],[],ys,K,r,hl,h=>⟨[],h,hl⟩
 |o::os,x::xs,ys,K,r,hl,h=>by
  obtain⟨y,c,rfl,h1,h2⟩:=hl.inv_cons
  unfold laxK at h
  obtain⟨cs',a,b⟩:=aU1 h2 h
  cases o with
  |none=>exact⟨_,a,.cons h1 b⟩
  |some e=>
   simp only at a
   split at a
   .have:=rv_v h1
    subst this
    exact⟨_,a,.cons (.cl .isn) b⟩
   .exact aB a
 |[],_::_,_,_,_,_,h=>by unfold laxK at h;exact aB h
 |_::_,[],_,_,_,_,h=>by unfold laxK at h;exact aB h
theorem gR1 {C:Cx} {n:Nat} {h:Heap} {lim:Nat} {s:Hp} (r:Mem C n h lim s) {k id ver e len:Nat} {cs cs2:List PV} {ty e':Nat} {g:Bool} (hk:hget h k=some (.box cs)) (u:C k=some (.atp id ver e len))
  (v:∀row,LR (RV C) cs row->LR (RV (ext C n .nil)) cs2 row):
  Mem (ext C n .nil) (n+1) ((n,.lst ty e' g [])::hset h k (.box cs2)) lim s/\Fr C h s (ext C n .nil) ((n,.lst ty e' g [])::hset h k (.box cs2)) s:=by
 obtain⟨q,t⟩:=eN1 r (ty:=ty) (e:=e') (g:=g)
 have A:n≠k:=by have:=r.dom _ _ u;omega
 have p:∀j,hget ((n,.lst ty e' g [])::hset h k (.box cs2)) j≠none->hget ((n,.lst ty e' g [])::h) j≠none:=fun j f=>by
  simp only[hget]at f ⊢
  split
  .simp
  .rename_i h1
   rw[if_neg h1,dF]at f
   split at f
   .rename_i h2;obtain⟨rfl,_⟩:=h2;rw[hk];simp
   .exact f
 refine⟨⟨⟨fun j o f=>?_,fun j y i v1 l w v2 z F a b c d=>q.hr.inj j y i v1 l w v2 z F (p j a) (p y b) c d⟩,q.dom,q.wf,q.lim⟩,⟨t.sk,t.n,t.keep,fun i hi B=>?_,fun j o f=>?_⟩⟩
 .simp only[hget]at f
  split at f
  .rename_i h1;exact q.hr.ob j o (by simp[hget,h1];simpa using f)
  .rename_i h1
   rw[dF]at f
   split at f
   .rename_i h2
    obtain⟨rfl,_⟩:=h2
    cases f
    obtain⟨pl,q1,q2⟩:=r.hr.ob _ _ hk
    rw[u]at q1
    cases q1
    obtain⟨p1,p2,x,esz,row,p3,p4⟩:=q2
    exact⟨_,gF r .nil _ _ u,p1,p2,x,esz,row,p3,v row p4⟩
   .exact q.hr.ob j o (by simp[hget,h1,f])
 .obtain ⟨j,v1,l,w,D,E⟩:=B
  exact t.own i hi ⟨j,v1,l,w,p j D,E⟩
 .obtain ⟨o',q1,q2⟩:=t.kd j o f
  have m:n≠j:=fun l=>by rw[nD r (by omega)]at f;cases f
  by_cases l:j=k
  .subst l
   rw[hk]at f
   cases f
   exact⟨.box cs2,by simp[hget,m,dF,hk],fun _=>⟨rfl,by simp[ext,Ne.symm m]⟩⟩
  .refine ⟨o',?_,q2⟩
   simpa[hget,m,dF,l]using q1
structure NOK (T:Tab) (X:NX):Prop where
 run:∀{R:Type} (f:FuncId) (xs:List PV) (h:Heap) (n:Nat) (K:PV->Heap->Nat->Option R) (r:R) (C:Cx) (s:Hp) (lim:Nat) (ys:List AV),
  X.is f=true->X.run f xs h n K=some r->LR (RV C) xs ys->Mem C n h lim s->
  ∃v h' n' C' y s',K v h' n'=some r/\RV C' v y/\Mem C' n' h' lim s'/\n<=n'/\Fr C h s C' h' s'/\(∃ifn,T f=some ifn/\ifn.pure=false/\ifn.frz=false)/\∃D,∀d,D<=d->Sim.callF T (exec T d) lim f ys s=some (y,s')
 yld:∀{R:Type} (k:Nat) (xs:List PV) (h:Heap) (n:Nat) (K:PV->Heap->Nat->Option R) (r:R) (C:Cx) (s:Hp) (lim:Nat) (ys:List AV) (id ver e len:Nat),
  X.yld k xs h n K=some r->LR (RV C) xs ys->C k=some (.atp id ver e len)->Mem C n h lim s->
  ∃v h' n' C' y s',K v h' n'=some r/\RV C' v y/\Mem C' n' h' lim s'/\n<=n'/\Fr C h s C' h' s'/\∃D,∀d,D<=d->Sim.round (exec T d) lim id ys s=some (y,s')
theorem qW:∀{h:List Ent} {id:Nat} {o:AO},Sim.look h id=some o->upd h id o=h
 |[],_,_,h=>by simp[Sim.look]at h
 |.mark::r,id,o,h=>by simp only[Sim.look]at h;simp only[Sim.upd,qW h]
 |.ob i o'::r,id,o,h=>by
  simp only[Sim.look]at h
  simp only[Sim.upd]
  split at h
  .rename_i e;cases h;simp[e]
  .rename_i e;rw[if_neg e,qW h]
theorem aV1:∀{xs:List IX} {t ys:List AV},Sim.evs t xs=some ys->ys.length=xs.length
 |[],t,ys,h=>by simp only[Sim.evs,Option.some.injEq]at h;subst h;rfl
 |x::xs,t,ys,h=>by
  simp only[Sim.evs]at h
  split at h
  .rename_i a as c b;cases h;simp[aV1 b]
  .cases h
theorem dR1 {C:Cx} {n:Nat} {h:Heap} {lim:Nat} {s:Hp} {ty:TypeId} {zero:List Value} {as:List PV} {ys:List AV} (p:Mem C n h lim s) (l:LR (RV C) as ys) (u:zero.length=1) (hf:as.all isFn=true):
  ∃C' out,doOp (Sim.look s.h) lim s.n (.buildSl ty 1 as.length zero (List.range as.length)) ys=some out/\RV C' (.own n) out.v/\Mem C' (n+1) ((n,.fl as)::h) lim (out.apply s)/\(∀k pl,C k=some pl->C' k=some pl)/\Fr C h s C' ((n,.fl as)::h) (out.apply s):=by
 have hc:∀(j:Nat) (y:AV),ys[j]? =some y->y.cells=some [y]:=fun j y hy=>by
  have r:j<as.length:=by rw[l.1];exact(List.getElem?_eq_some_iff.1 hy).1
  have hv:=l.2 j as[j] y (by simp) hy
  have m:=List.all_eq_true.1 hf as[j] (by simp)
  cases ha:as[j]with
  |fn f a b=>rw[ha]at hv;obtain⟨a',b',rfl,_⟩:=qK hv;rfl
  |_=>rw[ha]at m;simp[isFn]at m
 have hlen:=l.1
 have q:(Sim.zeroRow zero).length=1:=by simp[Sim.zeroRow,u]
 have d:=nG 1 as.length 0 ((List.range as.length).flatMap fun _=>Sim.zeroRow zero) ys (ys.map fun y=>[y]) (by rw[qN,q,List.length_range];simp) hlen.symm (by simp[hlen]) (fun j x l=>⟨[x],hc j x l,rfl,by simp[l]⟩)
 simp only[Nat.zero_mul,List.take_zero,List.nil_append]at d
 have g:=gG1 1 (ys.map fun y=>[y]) (fun c hc=>by simp at hc;obtain⟨y,_,rfl⟩:=hc;rfl)
 rw[List.length_map,<-hlen]at g
 have o:=gF p (.atp s.n 0 1 as.length)
 obtain⟨w,z,A⟩:=nE p (po:=.fl as) (ao:=.arr false ty 1 0 (ys.map fun y=>[y])) (ver:=0) (e:=1) (len:=as.length)
  ⟨p.lim,by omega,rfl,rfl,ty,_,by rw[cR,if_pos rfl],by simp[hlen],fun i f row a b=>by
   simp only[List.getElem?_map,Option.map_eq_some_iff]at b
   obtain⟨y,hy,rfl⟩:=b
   exact .cons ((l.2 i f y a hy).mono o) .nil⟩
 refine⟨_,{v:=.sl 1 s.n 0 0 as.length none,new:=some (.arr false ty 1 0 (ys.map fun y=>[y]))},?_,.own (kZ C n _),w,o,z⟩
 have:doOp (Sim.look s.h) lim s.n (.buildSl ty 1 as.length zero (List.range as.length)) ys=(Sim.fillParts ((List.range as.length).flatMap fun _=>Sim.zeroRow zero) ((List.range as.length).map fun i=>(i*1,1)) ys).map fun cs=>
  {v:=.sl 1 s.n 0 0 as.length none,new:=some (.arr false ty 1 0 ((List.range as.length).map fun i=>(cs.drop (i*1)).take 1))}:=by
  rcases ys with _|⟨a,_|⟨b,_|⟨c,t⟩⟩⟩<;>rfl
 rw[<-List.range_eq_range']at d
 rw[this,d]
 simp only[Option.map_some]
 rw[g]
theorem bU (V:∀f xs v,O f xs=some v->FnOK T f xs v) (W:NOK T X) (B:dr=0\/dr=3\/dr=4) {N lim:Nat} {R:Type}:∀(ops:POs) (u F:List Nat) (l:Bool) (g:Option (Nat×Bool)) (C:Cx) (n:Nat) (h:Heap) (e:Env) (t:List AV) (s:Hp) (K:Env->Heap->Nat->Option R) (r:R),
  opsK O X dr ops e h n K=some r->EnvR C e t->Mem C n h lim s->t.length=N->okO N u l F ops=true->GOK g t->GIn g u->
  ∃e' h' n' C' x s' fs,K e' h' n'=some r/\Tr T X.is dr lim (erO g ops) {t:=t,s:=s} fs {t:=x,s:=s'}/\EnvR C' e' x/\Mem C' n' h' lim s'/\x.length=N/\n<=n'/\Fr C h s C' h' s'/\∀(i:Nat),i∉dsts ops []->x[i]? =t[i]?
 |.nil,u,F,l,g,C,n,h,e,t,s,K,r,hk,he,hM,hN,ho,hg,hgi=>⟨e,h,n,C,t,s,[],by unfold opsK at hk;exact hk,.nil,he,hM,hN,Nat.le_refl _,.refl _ _ _,fun _ _=>rfl⟩
 |.op d k xs kl rs,u,F,l,g,C,n,h,e,t,s,K,r,hk,he,hM,hN,ho,hg,hgi=>by
  simp only[okO,Bool.and_eq_true,Bool.not_eq_true',dV,Nat.blt_eq]at ho
  obtain⟨⟨⟨o1,o2⟩,o3⟩,o4⟩:=ho
  have hd:d<t.length:=by omega
  have H:d∉u:=by simpa using o2
  have back:∀{y:AV} {x:List AV},(∀(i:Nat),i∉dsts rs []->x[i]? =(t.set d y)[i]?)->∀(i:Nat),i∉dsts (.op d k xs kl rs) []->x[i]? =t[i]? :=fun hb i hi=>by
   simp only[dsts,List.mem_cons,not_or]at hi
   rw[hb i hi.2,List.getElem?_set_ne (Ne.symm hi.1)]
  unfold opsK at hk
  rw[eB,Option.bind_eq_some_iff]at hk
  obtain⟨vs,b0,hk⟩:=hk
  obtain⟨ys,h1,h2⟩:=fE he o3 b0
  have d1:∀{f:FuncId} {xs':List PV} {zs:List AV},sJ O f xs' h (fun v=>delK e (d::kl) fun e=>opsK O X dr rs ((d,v)::e) h n K)=some r->LR (RV C) xs' zs->eN k=true->3<=cls X.is dr k->
    ((∃ifn,T f=some ifn/\ifn.pure=true)->Sim.foot T k ys={all:=1})->(∀(d:Nat) (s:Hp),Sim.step T (exec T d) lim k ys s=Sim.callF T (exec T d) lim f zs s)->
    ∃e' h' n' C' x s' fs,K e' h' n'=some r/\Tr T X.is dr lim (erO g (.op d k xs kl rs)) {t:=t,s:=s} fs {t:=x,s:=s'}/\EnvR C' e' x/\Mem C' n' h' lim s'/\x.length=N/\n<=n'/\Fr C h s C' h' s'/\∀(i:Nat),i∉dsts (.op d k xs kl rs) []->x[i]? =t[i]? :=by
   intro f xs' zs hk hz hc g1 hf g5
   obtain⟨v,y,q,h4,h5,D,h6⟩:=wL (lim:=lim) V hM hk hz
   simp only[cO]at q
   have E:EnvR C ((d,v)::edel e (d::kl)) (t.set d y):=.put hd (.cl h4) (fun i w hw=>by
    obtain⟨z,p1,p2,p3⟩:=he.edel (d::kl) i w hw
    exact⟨z,p1,p2,fun S=>p3 (by simp[S])⟩)
   obtain⟨A,d6,J,C2,M,L,fs,r1,r2,r3,r4,r5,r6,r7,r8⟩:=bU V W B rs u (d::F) l g C n h _ _ s K r q E hM (by simpa using hN) o4 (hg.set hgi H) hgi
   exact⟨A,d6,J,C2,M,L,_,r1,.call (o:=⟨some d,k,xs.map eX,g⟩) hg.wanted h1 hc g1 (hf h5) ⟨D,fun d hd m=>by rw[g5];exact h6 d hd m⟩ r2,r3,r4,r5,r6,r7,back r8⟩
  have ncall:∀{run:Heap->Nat->(PV->Heap->Nat->Option (PV×Heap×Nat))->Option (PV×Heap×Nat)} {xs':List PV} {zs:List AV} {P:AV->Hp->Prop} {nw fx:Bool},LR (RV C) xs' zs->
    (∀(hs:Heap) (C0:Cx) (m:Nat) (K':PV->Heap->Nat->Option (PV×Heap×Nat)) (r':PV×Heap×Nat),Mem C0 m hs lim s->LR (RV C0) xs' zs->run hs m K'=some r'->
     ∃v h' n' C' y s',K' v h' n'=some r'/\RV C' v y/\Mem C' n' h' lim s'/\m<=n'/\Fr C0 hs s C' h' s'/\P y s')->
    (∀y s',P y s'->(Sim.foot T k ys).all=2/\(dr≠0->cls X.is dr k=4)/\∃D,∀d,D<=d->Sim.step T (exec T d) lim k ys s=some (y,s'))->
    inKX fx run nw xs' e h n (d::kl) (fun v e h n=>opsK O X dr rs ((d,v)::e) h n K)=some r->
    ∃e' h' n' C' x s' fs,K e' h' n'=some r/\Tr T X.is dr lim (erO g (.op d k xs kl rs)) {t:=t,s:=s} fs {t:=x,s:=s'}/\EnvR C' e' x/\Mem C' n' h' lim s'/\x.length=N/\n<=n'/\Fr C h s C' h' s'/\∀(i:Nat),i∉dsts (.op d k xs kl rs) []->x[i]? =t[i]? :=by
   intro run xs' zs P nw fx hz f0 hP hk
   obtain⟨v,e',h',n',C',y,s',q1,q2,q3,q4,q5,q6,q7⟩:=dQ1 hM he hz f0 hk
   obtain⟨p1,p2,p3⟩:=hP y s' q7
   have E:EnvR C' ((d,v)::e') (t.set d y):=.put hd q2 (fun i w hw=>by
    obtain⟨z,p1,p2,p3⟩:=q3 i w hw
    exact⟨z,p1,p2,fun S=>p3 (by simp[S])⟩)
   obtain⟨A,d6,J,C2,M,L,fs,r1,r2,r3,r4,r5,r6,r7,r8⟩:=bU V W B rs u (d::F) l g C' n' h' _ _ s' K r q1 E q4 (by simpa using hN) o4 (hg.set hgi H) hgi
   exact⟨A,d6,J,C2,M,L,_,r1,.ncall (o:=⟨some d,k,xs.map eX,g⟩) hg.wanted h1 p1 p2 p3 r2,r3,r4,r5,by omega,q6.trans r7,back r8⟩
  split at hk
  .rename_i ty es b zero x1 x2
   obtain⟨y1,b4,rfl,p1,p2⟩:=h2.inv_cons
   obtain⟨y2,f1,rfl,p3,p4⟩:=p2.inv_cons
   have:=p4.inv_nil
   subst this
   obtain⟨C',e',h',out,q1,q2,q3,q4,q5⟩:=gO1 hM (b:=b) (zero:=zero) he hd p1 p3 hk
   obtain⟨A,q,J,C2,M,L,fs,r1,r2,r3,r4,r5,r6,r7,r8⟩:=bU V W B rs u (d::F) l g C' n h' e' _ _ K r q1 q4 q3 (by simpa using hN) o4 (hg.set hgi H) hgi
   exact⟨A,q,J,C2,M,L,_,r1,.op (o:=⟨some d,_,xs.map eX,g⟩) hg.wanted h1 rfl q2 r2,r3,r4,r5,r6,q5.trans r7,back r8⟩
  .rename_i es k0 kd hi
   obtain⟨y1,b4,rfl,p1,p2⟩:=h2.inv_cons
   obtain⟨y2,f1,rfl,p3,p4⟩:=p2.inv_cons
   have:=p4.inv_nil
   subst this
   obtain⟨C',e',h',out,q1,q2,q3,q4,q5⟩:=aR1 hM he hd p1 p3 hk
   obtain⟨A,q,J,C2,M,L,fs,r1,r2,r3,r4,r5,r6,r7,r8⟩:=bU V W B rs u (d::F) l g C' n h' e' _ _ K r q1 q4 q3 (by simpa using hN) o4 (hg.set hgi H) hgi
   exact⟨A,q,J,C2,M,L,_,r1,.op (o:=⟨some d,_,xs.map eX,g⟩) hg.wanted h1 rfl q2 r2,r3,r4,r5,r6,q5.trans r7,back r8⟩
  .rename_i f
   cases hX1:X.is f with
   |true=>
    rw[hX1,cond_true]at hk
    refine ncall (P:=fun y s'=>(∃ifn,T f=some ifn/\ifn.pure=false/\ifn.frz=false)/\∃D,∀d,D<=d->Sim.callF T (exec T d) lim f ys s=some (y,s')) h2 (fun hs C0 m K' r' b5 b9 hr=>W.run f vs hs m K' r' C0 s lim ys hX1 hr b9 b5) (fun y s' hp=>⟨?_,fun _=>by simp[cls,hX1],hp.2⟩) hk
    obtain⟨⟨ifn,w1,w2,w3⟩,_⟩:=hp
    simp[Sim.foot,w1,w2,w3]
   |false=>
    rw[hX1,cond_false]at hk
    refine d1 hk h2 rfl (by simp[cls,hX1]) (fun⟨ifn,w1,w2⟩=>?_) (fun d s=>rfl)
    simp[Sim.foot,w1,w2]
  .rename_i k0 as
   obtain⟨y1,b4,rfl,p1,p2⟩:=h2.inv_cons
   obtain⟨id,ver,S,len,hC,rfl⟩:=wG p1
   by_cases q:dr=3
   .rw [q]at hk;exact aB hk
   .rw [aU,decide_eq_false q,cond_false]at hk
    refine ncall (fx:=false) (P:=fun y s'=>∃D,∀d,D<=d->Sim.round (exec T d) lim id b4 s=some (y,s')) (xs':=.yld k0::as) (zs:=.fn (.yield id) [] []::b4) h2 (fun hs C0 m K' r' b5 b9 hr=>?_) (fun y s' hp=>⟨rfl,fun h0=>by simp only[cls];rw[if_pos (by omega)],hp⟩) hk
    obtain⟨y1,f1,A,p3,p4⟩:=b9.inv_cons
    cases A
    obtain⟨id',h8,e',h7,f3,e3⟩:=wG p3
    cases e3
    exact W.yld k0 as hs m K' r' C0 s lim _ _ _ _ _ hr p4 f3 b5
  .rename_i f first cap as
   obtain⟨y1,b4,rfl,p1,p2⟩:=h2.inv_cons
   obtain⟨a',b',rfl,p3,p4⟩:=qK p1
   have hz:=(p3.append p2).append p4
   cases hX1:X.is f with
   |true=>
    rw[hX1,cond_true]at hk
    by_cases q:dr=3
    .rw [q]at hk;exact aB hk
    .rw [aU,decide_eq_false q,cond_false]at hk
     refine ncall (fx:=false) (P:=fun y s'=>(∃ifn,T f=some ifn/\ifn.pure=false/\ifn.frz=false)/\∃D,∀d,D<=d->Sim.callF T (exec T d) lim f (a'++b4++b') s=some (y,s')) hz (fun hs C0 m K' r' b5 b9 hr=>W.run f _ hs m K' r' C0 s lim _ hX1 hr b9 b5) (fun y s' hp=>⟨?_,fun h0=>by simp only[cls];rw[if_pos (by omega)],hp.2⟩) hk
     obtain⟨⟨ifn,w1,w2,w3⟩,_⟩:=hp
     simp[Sim.foot,w1,w2,w3]
   |false=>
    rw[hX1,cond_false]at hk
    refine d1 hk hz rfl (by simp only[cls];split<;>omega) (fun⟨ifn,w1,w2⟩=>?_) (fun d s=>rfl)
    simp[Sim.foot,w1,w2]
  .obtain ⟨v,h',n',C',y,s',q1,q2,q3,q4,q5,q6,q7,q8⟩:=aS1 (dr:=dr) V hM h2 hk
   simp only[cO]at q1
   have E:EnvR C' ((d,v)::edel e (d::kl)) (t.set d y):=.put hd q2 (fun i w hw=>by
    obtain⟨z,p1,p2,p3⟩:=(he.mono q4).edel (d::kl) i w hw
    exact⟨z,p1,p2,fun S=>p3 (by simp[S])⟩)
   obtain⟨A,q,J,C2,M,L,fs,r1,r2,r3,r4,r5,r6,r7,r8⟩:=bU V W B rs u (d::F) l g C' n' h' _ _ _ K r q1 E q3 (by simpa using hN) o4 (hg.set hgi H) hgi
   obtain⟨f,hf⟩:=q8 ⟨some d,k,xs.map eX,g⟩ _ t fs _ rfl hg.wanted h1 r2
   exact⟨A,q,J,C2,M,L,_,r1,hf,r3,r4,r5,by omega,q6.trans r7,back r8⟩
 |.sto k xs kl rs,u,F,l,g,C,n,h,e,t,s,K,r,hk,he,hM,hN,ho,hg,hgi=>by
  simp only[okO,Bool.and_eq_true]at ho
  obtain⟨o3,o4⟩:=ho
  unfold opsK at hk
  rw[eB,Option.bind_eq_some_iff]at hk
  obtain⟨vs,b0,hk⟩:=hk
  obtain⟨ys,h1,h2⟩:=fE he o3 b0
  obtain⟨v,h',n',C',out,q1,q2,q3,q4,q5,q6,q7,q8⟩:=wI hM h2 hk
  simp only[cO]at q1
  have E:EnvR C' (edel e kl) t:=fun i w hw=>by
   obtain⟨z,p1,p2,p3⟩:=(he.mono q5).edel kl i w hw
   exact⟨z,p1,p2⟩
  obtain⟨A,q,J,C2,M,L,fs,r1,r2,r3,r4,r5,r6,r7,r8⟩:=bU V W B rs u F l g C' n' h' _ t _ K r q1 E q4 hN o4 hg hgi
  refine⟨A,q,J,C2,M,L,_,r1,.op (o:=⟨none,k,xs.map eX,g⟩) hg.wanted h1 ?_ q2 r2,r3,r4,r5,by omega,q7.trans r7,fun i hi=>r8 i (by simpa only[dsts]using hi)⟩
  cases k with
  |callF f=>unfold bT at hk;rcases vs with _|⟨a,_|⟨b,_|⟨c,_|⟨d,t⟩⟩⟩⟩<;>exact aB hk
  |callV=>unfold bT at hk;rcases vs with _|⟨a,_|⟨b,_|⟨c,_|⟨d,t⟩⟩⟩⟩<;>exact aB hk
  |_=>rfl
 |.ifx d c w bd x' kl rs,u,F,l,g,C,n,h,e,t,s,K,r,hk,he,hM,hN,ho,hg,hgi=>by
  simp only[okO,Bool.and_eq_true,Bool.not_eq_true',dV,Nat.blt_eq]at ho
  obtain⟨⟨⟨⟨⟨o1,o2⟩,o3⟩,o4⟩,o5⟩,o6⟩:=ho
  have H:d∉u:=by simpa using o2
  unfold opsK at hk
  rw[dN,Option.bind_eq_some_iff]at hk
  obtain⟨cv,d9,hk⟩:=hk
  split at hk
  .rename_i cb
   rw[aY,Option.bind_eq_some_iff]at hk
   obtain⟨y,hy,hk⟩:=hk
   rw[cO]at hk
   obtain⟨cy,a0,d7⟩:=he c _ d9
   rw[rv_v d7]at a0
   obtain⟨fs,G,s1,p1,p2,p3,p4,zs,p5,p6⟩:=sW (T:=T) (O:=O) (X:=X) (dr:=dr) hM hN o5 o3 a0 hy (fun hb f9=>lR V bd (c::u) [] (some (c,w)) C n h e t s x' y hb he hM hN o5 o3 f9 (fun c' w' e=>by cases e;simp))
   have b6:GOK g G:=by
    cases g with
    |none=>trivial
    |some p=>
     obtain⟨c',w'⟩:=p
     simp only[GOK]at hg ⊢
     rw[p3 c' (fun hi=>cM bd o5 c' hi (by simp[hgi c' w' rfl]))]
     exact hg
   have hd:d<G.length:=by omega
   have E:EnvR C ((d,.v (.bool y))::edel e (d::dsts bd kl)) (G.set d (.v (.bool y))):=.put hd (.cl (.v _)) (fun i w hw=>by
    obtain⟨z,q1,q2,q3⟩:=he.edel (d::dsts bd kl) i w hw
    have e5:i∉dsts bd []:=fun hi=>q3 (by simp[(bF bd kl i).2 (.inl hi)])
    exact⟨z,by rw[p3 i e5];exact q1,q2,fun S=>q3 (by simp[S])⟩)
   obtain⟨A,q,J,C2,M,L,f2,r1,r2,r3,r4,r5,r6,r7,r8⟩:=bU V W B rs u (d::F) l g C n h _ (G.set d (.v (.bool y))) s1 K r hk E (hM.grow p4) (by simpa using p2) o6 (b6.set hgi H) hgi
   refine⟨A,q,J,C2,M,L,_,r1,p1.append (.op (o:=⟨some d,.pick,_,g⟩) b6.wanted p5 rfl p6 r2),r3,r4,r5,r6,p4.fr.trans r7,fun i hi=>?_⟩
   simp only[dsts,List.mem_cons,bF bd (dsts rs []) i,not_or]at hi
   rw[r8 i hi.2.2,List.getElem?_set_ne (Ne.symm hi.1),p3 i hi.2.1]
  .exact aB hk
 |.ifn d c w bd x' kl rs,u,F,l,g,C,n,h,e,t,s,K,r,hk,he,hM,hN,ho,hg,hgi=>by
  simp only[okO,Bool.and_eq_true,Bool.not_eq_true',dV,Nat.blt_eq]at ho
  obtain⟨⟨⟨⟨⟨o1,o2⟩,o3⟩,o4⟩,o5⟩,o6⟩:=ho
  have H:d∉u:=by simpa using o2
  unfold opsK at hk
  rw[dN,Option.bind_eq_some_iff]at hk
  obtain⟨cv,d9,hk⟩:=hk
  split at hk
  .rename_i cb
   simp only[jN]at hk
   obtain⟨cy,a0,d7⟩:=he c _ d9
   rw[rv_v d7]at a0
   have e8:∀G:List AV,(∀(i:Nat),i∉dsts bd []->G[i]? =t[i]?)->G[c]? =some (.v (.bool cb)):=fun G g6=>by
    rw[g6 c (fun hi=>cM bd o5 c hi (by simp))]
    exact a0
   have tail:∀{y:PV} {z:AV} {S:Env} {h1:Heap} {n1:Nat} {C1:Cx} {G:List AV} {s1:Hp} {d5:List Foot} {zs:List AV},delK S (d::dsts bd kl) (fun e=>opsK O X dr rs ((d,y)::e) h1 n1 K)=some r->RV C1 y z->Tr T X.is dr lim (erO (some (c,w)) bd) {t:=t,s:=s} d5 {t:=G,s:=s1}->
     EnvR C1 (edel S (d::dsts bd kl)) G->Mem C1 n1 h1 lim s1->G.length=N->n<=n1->Fr C h s C1 h1 s1->(∀(i:Nat),i∉dsts bd []->G[i]? =t[i]?)->
     Sim.evs G (if w then[.t c,eX x',.c (.v (.bool false))]else[.t c,.c (.v (.bool true)),eX x'])=some zs->doOp (Sim.look s1.h) lim s1.n .pick zs=some {v:=z}->
     ∃e' h' n' C' x s' fs,K e' h' n'=some r/\Tr T X.is dr lim (erO g (.ifn d c w bd x' kl rs)) {t:=t,s:=s} fs {t:=x,s:=s'}/\EnvR C' e' x/\Mem C' n' h' lim s'/\x.length=N/\n<=n'/\Fr C h s C' h' s'/\∀(i:Nat),i∉dsts (.ifn d c w bd x' kl rs) []->x[i]? =t[i]? :=by
    intro y z S h1 n1 C1 G s1 d5 zs hk g8 g7 d2 f5 f6 h9 f8 U f7 e6
    rw[cO]at hk
    have hd:d<G.length:=by omega
    have b6:GOK g G:=by
     cases g with
     |none=>trivial
     |some p=>
      obtain⟨c',w'⟩:=p
      simp only[GOK]at hg ⊢
      rw[U c' (fun hi=>cM bd o5 c' hi (by simp[hgi c' w' rfl]))]
      exact hg
    have E:EnvR C1 ((d,y)::edel S (d::dsts bd kl)) (G.set d z):=.put hd g8 (fun i w hw=>by
     obtain⟨z',q1,q2⟩:=d2 i w hw
     refine⟨z',q1,q2,fun A=>?_⟩
     rw[nC,if_pos (by simp[A])]at hw
     cases hw)
    obtain⟨A,q,J,C2,M,L,f2,r1,r2,r3,r4,r5,r6,r7,r8⟩:=bU V W B rs u (d::F) l g C1 n1 h1 _ (G.set d z) s1 K r hk E f5 (by simpa using f6) o6 (b6.set hgi H) hgi
    refine⟨A,q,J,C2,M,L,_,r1,g7.append (.op (o:=⟨some d,.pick,_,g⟩) b6.wanted f7 rfl e6 r2),r3,r4,r5,by omega,f8.trans r7,fun i hi=>?_⟩
    simp only[dsts,List.mem_cons,bF bd (dsts rs []) i,not_or]at hi
    rw[r8 i hi.2.2,List.getElem?_set_ne (Ne.symm hi.1),U i hi.2.1]
   have run:cb=w->opsK O X dr bd e h n (fun e h n=>evsK e [x'] fun vs=>match vs with
     |[y]=>delK e (d::dsts bd kl) fun e=>opsK O X dr rs ((d,y)::e) h n K
     |_=>none)=some r->∃e' h' n' C' x s' fs,K e' h' n'=some r/\Tr T X.is dr lim (erO g (.ifn d c w bd x' kl rs)) {t:=t,s:=s} fs {t:=x,s:=s'}/\EnvR C' e' x/\Mem C' n' h' lim s'/\x.length=N/\n<=n'/\Fr C h s C' h' s'/\∀(i:Nat),i∉dsts (.ifn d c w bd x' kl rs) []->x[i]? =t[i]? :=by
    intro e0 hk
    obtain⟨S,h1,n1,C1,G,s1,d5,q1,q2,q3,q4,q5,q6,q7,q8⟩:=bU V W B bd (c::u) [] true (some (c,w)) C n h e t s _ r hk he hM hN o5 (by rw[<-e0];exact a0) (fun c' w' e=>by cases e;simp)
    rw[eB,Option.bind_eq_some_iff]at q1
    obtain⟨vs,b0,q1⟩:=q1
    obtain⟨ys,q,h4⟩:=fE q3 (xs:=[x']) (by simpa using o3) b0
    split at q1
    .rename_i y
     obtain⟨z,_,rfl,h5,h6⟩:=h4.inv_cons
     rw[h6.inv_nil]at q
     have hz:(eX x').ev G=some z:=by
      simp only[List.map_cons,List.map_nil,Sim.evs]at q
      split at q
      .rename_i a b Y hb;simp only[Option.some.injEq,List.cons.injEq]at q;rw[<-q.1];exact Y
      .cases q
     have hc:=e8 G q8
     cases w with
     |true=>
      subst e0
      exact tail q1 h5 q2 (fun i w hw=>by obtain⟨z',p1,p2,_⟩:=q3.edel _ i w hw;exact⟨z',p1,p2⟩) q4 q5 q6 q7 q8 (evs3 (a:=.v (.bool true)) (b:=z) (c:=.v (.bool false)) hc hz rfl) rfl
     |false=>
      subst e0
      exact tail q1 h5 q2 (fun i w hw=>by obtain⟨z',p1,p2,_⟩:=q3.edel _ i w hw;exact⟨z',p1,p2⟩) q4 q5 q6 q7 q8 (evs3 (a:=.v (.bool false)) (b:=.v (.bool true)) (c:=z) hc rfl hz) rfl
    .exact aB q1
   have skip:cb≠w->(delK e (d::dsts bd kl) fun e=>opsK O X dr rs ((d,.v (.bool (!w)))::e) h n K)=some r->∃e' h' n' C' x s' fs,K e' h' n'=some r/\Tr T X.is dr lim (erO g (.ifn d c w bd x' kl rs)) {t:=t,s:=s} fs {t:=x,s:=s'}/\EnvR C' e' x/\Mem C' n' h' lim s'/\x.length=N/\n<=n'/\Fr C h s C' h' s'/\∀(i:Nat),i∉dsts (.ifn d c w bd x' kl rs) []->x[i]? =t[i]? :=by
    intro g3 hk
    obtain⟨fs,G,k1,k2,k3,k4⟩:=cS (T:=T) (NF:=X.is) (dr:=dr) (lim:=lim) (s:=s) (some (c,w)) bd (c::u) [] t o5 (fun c' w' e=>by cases e;simp) (by simp[Sim.wanted,a0,g3]) (fun c hc=>by simp at hc)
    obtain⟨z,hz⟩:=qR (c:=0) (i:=0) (k2.trans hN) o3
    have d2:EnvR C (edel e (d::dsts bd kl)) G:=fun i v hv=>by
     obtain⟨z,q1,q2,q3⟩:=he.edel (d::dsts bd kl) i v hv
     have e5:i∉dsts bd []:=fun hi=>q3 (by simp[(bF bd kl i).2 (.inl hi)])
     exact⟨z,by rw[k3 i e5];exact q1,q2⟩
    have hc:=e8 G k3
    cases w with
    |true=>
     have:cb=false:=by cases cb<;>simp_all
     subst this
     exact tail hk (.cl (.v (.bool false))) k1 d2 hM (k2.trans hN) (Nat.le_refl _) (.refl _ _ _) k3 (evs3 (a:=.v (.bool false)) (b:=z) (c:=.v (.bool false)) hc hz rfl) rfl
    |false=>
     have:cb=true:=by cases cb<;>simp_all
     subst this
     exact tail hk (.cl (.v (.bool true))) k1 d2 hM (k2.trans hN) (Nat.le_refl _) (.refl _ _ _) k3 (evs3 (a:=.v (.bool true)) (b:=.v (.bool true)) (c:=z) hc rfl hz) rfl
   cases w with
   |true=>
    rw[cond_true]at hk
    cases cb with
    |true=>exact run rfl hk
    |false=>exact skip (by simp) hk
   |false=>
    rw[cond_false]at hk
    cases cb with
    |true=>exact skip (by simp) hk
    |false=>exact run rfl hk
  .exact aB hk
 |.mkfl d ty zero xs kl rs,u,F,l,g,C,n,h,e,t,s,K,r,hk,he,hM,hN,ho,hg,hgi=>by
  simp only[okO,Bool.and_eq_true,Bool.not_eq_true',dV,Nat.blt_eq]at ho
  obtain⟨⟨⟨o1,o2⟩,o3⟩,o4⟩:=ho
  have hd:d<t.length:=by omega
  have H:d∉u:=by simpa using o2
  unfold opsK at hk
  rw[eB,Option.bind_eq_some_iff]at hk
  obtain⟨vs,b0,hk⟩:=hk
  obtain⟨ys,h1,h2⟩:=fE he o3 b0
  cases hc:(Nat.beq zero.length 1&&vs.all isFn)with
  |false=>rw[hc]at hk;exact aB hk
  |true=>
  rw[hc,cond_true,cO]at hk
  simp only[Bool.and_eq_true,aU,decide_eq_true_eq]at hc
  obtain⟨C',out,q1,q2,q3,q4,q5⟩:=dR1 (ty:=ty) hM h2 hc.1 hc.2
  have hlen:vs.length=xs.length:=by
   have:=h2.1
   have q:ys.length=xs.length:=(aV1 h1).trans (by simp)
   omega
  rw[hlen]at q1
  have E:EnvR C' ((d,.own n)::edel e (d::kl)) (t.set d out.v):=.put hd q2 (fun i w hw=>by
   obtain⟨z,p1,p2,p3⟩:=(he.mono q4).edel (d::kl) i w hw
   exact⟨z,p1,p2,fun S=>p3 (by simp[S])⟩)
  obtain⟨A,q,J,C2,M,L,fs,r1,r2,r3,r4,r5,r6,r7,r8⟩:=bU V W B rs u (d::F) l g C' (n+1) _ _ _ _ K r hk E q3 (by simpa using hN) o4 (hg.set hgi H) hgi
  refine⟨A,q,J,C2,M,L,_,r1,.op (o:=⟨some d,.buildSl ty 1 xs.length zero (List.range xs.length),xs.map eX,g⟩) hg.wanted h1 rfl q1 r2,r3,r4,r5,by omega,q5.trans r7,fun i hi=>?_⟩
  simp only[dsts,List.mem_cons,not_or]at hi
  rw[r8 i hi.2,List.getElem?_set_ne (Ne.symm hi.1)]
 |.lax d es rs,u,F,l,g,C,n,h,e,t,s,K,r,hk,he,hM,hN,ho,hg,hgi=>by
  simp only[okO]at ho
  unfold opsK at hk
  rw[dN,Option.bind_eq_some_iff]at hk
  obtain⟨v,hv,hk⟩:=hk
  obtain⟨y,d0,Z⟩:=he d _ hv
  have d4:∀v',RV C v' y->EnvR C ((d,v')::edel e [d]) t:=fun v' hv' i w hw=>by
   simp only[eget]at hw
   split at hw
   .rename_i S;subst S;cases hw;exact⟨y,d0,hv'⟩
   .obtain ⟨z,q1,q2,_⟩:=he.edel [d] i w hw
    exact⟨z,q1,q2⟩
  split at hk
  .rename_i s'
   rw[cO]at hk
   rw[rv_v Z]at d4
   exact bU V W B rs u F l g C n h _ t s K r hk (d4 _ (.cl .isn)) hM hN ho hg hgi
  .rename_i cs
   obtain⟨cs',h1,h2⟩:∃cs',y=.agg cs'/\LR (RV C) cs cs':=iR Z
   subst h1
   obtain⟨cs2,q1,q2⟩:=aU1 h2 hk
   rw[cO]at q1
   exact bU V W B rs u F l g C n h _ t s K r q1 (d4 _ (.agg q2.1 q2.2)) hM hN ho hg hgi
  .exact aB hk
 |.own d ty es g' rs,u,F,l,g,C,n,h,e,t,s,K,r,hk,he,hM,hN,ho,hg,hgi=>by
  simp only[okO]at ho
  unfold opsK at hk
  rw[dN,Option.bind_eq_some_iff]at hk
  obtain⟨v,hv,hk⟩:=hk
  obtain⟨y,d0,Z⟩:=he d _ hv
  split at hk
  .rw [cO]at hk
   have hy:=rv_v Z
   subst hy
   obtain⟨m1,m2⟩:=eN1 hM (ty:=ty) (e:=es) (g:=g')
   have d3:=gF hM .nil
   have E:EnvR (ext C n .nil) ((d,.own n)::edel e [d]) t:=fun i w hw=>by
    simp only[eget]at hw
    split at hw
    .rename_i S;subst S;cases hw;exact⟨_,d0,.ownn (by simp[ext]) rfl⟩
    .obtain ⟨z,q1,q2,_⟩:=he.edel [d] i w hw
     exact⟨z,q1,q2.mono d3⟩
   obtain⟨A,q,J,C2,M,L,fs,r1,r2,r3,r4,r5,r6,r7,r8⟩:=bU V W B rs u F l g _ (n+1) _ _ t s K r hk E m1 hN ho hg hgi
   exact⟨A,q,J,C2,M,L,fs,r1,r2,r3,r4,r5,by omega,m2.trans r7,r8⟩
  .exact aB hk
 |.laxc d j es rs,u,F,l,g,C,n,h,e,t,s,K,r,hk,he,hM,hN,ho,hg,hgi=>by
  simp only[okO]at ho
  unfold opsK at hk
  rw[dN,Option.bind_eq_some_iff]at hk
  obtain⟨v,hv,hk⟩:=hk
  obtain⟨y,d0,Z⟩:=he d _ hv
  split at hk
  .rename_i k
   rw[dJ,Option.bind_eq_some_iff]at hk
   obtain⟨ob,b7,hk⟩:=hk
   split at hk
   .rename_i cs
    obtain⟨id,ver,S,l1,hC,rfl⟩:=gG Z
    obtain⟨hj,hk⟩:=bX _ _ _ _ hk
    .split at hk
     .rename_i tl e4
      obtain⟨g4,hk⟩:=fN _ _ _ _ _ hk
      .have hk:=cK _ _ _ _ _ hk
       have d8:cs[j]? =some (.v (.slice none 0 0)):=by
        have:(cs.drop j)[0]? =some (.v (.slice none 0 0)):=by rw[e4];rfl
        simpa using this
       obtain⟨g9,e7,esz,row,hL,hl⟩:=pC hM b7 hC
       have e9:=(hM.hr.lt (by rw[b7];simp) hC)
       obtain⟨m1,m2⟩:=pA hM (po':=.box (Sim.setL cs j [.is es []])) (ao:=.arr true e7 esz ver [row]) b7 hC ⟨e9.1,e9.2,e7,esz,row,by rw[Sim.look_upd,if_pos ⟨rfl,by rw[hL];rfl⟩],by
        refine⟨by rw[<-hl.1];simp[Sim.setL],fun i a b Y hb=>?_⟩
        simp only[Sim.setL]at Y
        rw[List.getElem?_set]at Y
        split at Y
        .rename_i A
         subst A
         split at Y
         .cases Y
          have:=rv_v (hl.2 j _ _ d8 hb)
          subst this
          exact .cl .isn
         .cases Y
        .exact hl.2 i a b Y hb⟩ rfl
       have U:({h:=upd s.h id (.arr true e7 esz ver [row]),n:=s.n}:Hp)=s:=by
        rw[qW hL]
       rw[U]at m1 m2
       obtain⟨A,q,J,C2,M,L,fs,r1,r2,r3,r4,r5,r6,r7,r8⟩:=bU V W B rs u F l g _ n _ _ t s K r hk he m1 hN ho hg hgi
       exact⟨A,q,J,C2,M,L,fs,r1,r2,r3,r4,r5,by omega,m2.trans r7,r8⟩
     .exact aB hk
   .exact aB hk
  .exact aB hk
 |.ownc d j ty es g' rs,u,F,l,g,C,n,h,e,t,s,K,r,hk,he,hM,hN,ho,hg,hgi=>by
  simp only[okO]at ho
  unfold opsK at hk
  rw[dN,Option.bind_eq_some_iff]at hk
  obtain⟨v,hv,hk⟩:=hk
  obtain⟨y,d0,Z⟩:=he d _ hv
  split at hk
  .rename_i k
   rw[dJ,Option.bind_eq_some_iff]at hk
   obtain⟨ob,b7,hk⟩:=hk
   split at hk
   .rename_i cs
    obtain⟨id,ver,S,l1,hC,rfl⟩:=gG Z
    obtain⟨hj,hk⟩:=bX _ _ _ _ hk
    .split at hk
     .rename_i tl e4
      obtain⟨hset,hk⟩:=fN _ _ _ _ _ hk
      .have hk:=cK _ _ _ _ _ hk
       have d3:=gF hM .nil
       have d8:cs[j]? =some (.v (.slice none 0 0)):=by
        have:(cs.drop j)[0]? =some (.v (.slice none 0 0)):=by rw[e4];rfl
        simpa using this
       obtain⟨m1,m2⟩:=gR1 (ty:=ty) (e':=es) (g:=g') (cs2:=Sim.setL cs j [.own n]) hM b7 hC (fun row b8=>by
        refine⟨by rw[<-b8.1];simp[Sim.setL],fun i a b Y hb=>?_⟩
        simp only[Sim.setL]at Y
        rw[List.getElem?_set]at Y
        split at Y
        .rename_i A
         subst A
         split at Y
         .cases Y
          have:=rv_v (b8.2 j _ _ d8 hb)
          subst this
          exact .ownn (by simp[ext]) rfl
         .cases Y
        .exact (b8.2 i a b Y hb).mono d3)
       obtain⟨A,q,J,C2,M,L,fs,r1,r2,r3,r4,r5,r6,r7,r8⟩:=bU V W B rs u F l g _ (n+1) _ _ t s K r hk (he.mono d3) m1 hN ho hg hgi
       exact⟨A,q,J,C2,M,L,fs,r1,r2,r3,r4,r5,by omega,m2.trans r7,r8⟩
     .exact aB hk
   .exact aB hk
  .exact aB hk
end
end Go.P
namespace Go.P
open Go.Sim (AV AO Hp Ent upd St IC IX Ex OpK CK Wf Out doOp Tab exec Foot wanted put popMark)
def rest (C:Cx) (n:Nat):Cx:=fun k=>if k<n then C k else none
theorem iH {C:Cx} {n:Nat} {x:PV} {y:AV} (h:RV C x y):∀{d:Nat},lH n d x=true->RV (rest C n) x y:=by
 have lt:∀{k d:Nat} {pl:Pl},C k=some pl->Nat.blt k n=true->rest C n k=some pl:=fun h1 h2=>by
  simp only[Nat.blt_eq]at h2
  simp[rest,h2,h1]
 induction h with
 |cl h=>intro d hb;exact .cl h
 |undef=>intro d hb;exact .undef
 |ref h=>intro d hb;cases d with
  |zero=>cases hb
  |succ d=>exact .ref (lt (d:=0) h hb)
 |own h=>intro d hb;cases d with
  |zero=>cases hb
  |succ d=>exact .own (lt (d:=0) h hb)
 |ownn h hy=>intro d hb;cases d with
  |zero=>cases hb
  |succ d=>exact .ownn (lt (d:=0) h hb) hy
 |el h=>intro d hb;cases d with
  |zero=>cases hb
  |succ d=>exact .el (lt (d:=0) h hb)
 |map h=>intro d hb;cases d with
  |zero=>cases hb
  |succ d=>exact .map (lt (d:=0) h hb)
 |yld h=>intro d hb;cases d with
  |zero=>cases hb
  |succ d=>exact .yld (lt (d:=0) h hb)
 |fn h1 h2 v1 v2 i1 i2=>intro d hb;cases d with
  |zero=>cases hb
  |succ d=>
   simp only[lH,Bool.and_eq_true]at hb
   exact .fn h1 h2 (fun j x y a hy=>i1 j x y a hy (List.all_eq_true.1 hb.1 x (List.mem_of_getElem? a))) (fun j x y a hy=>i2 j x y a hy (List.all_eq_true.1 hb.2 x (List.mem_of_getElem? a)))
 |agg hl hc ih=>intro d hb;cases d with
  |zero=>cases hb
  |succ d=>exact .agg hl (fun j x y a hy=>ih j x y a hy (List.all_eq_true.1 hb x (List.mem_of_getElem? a)))
 |tup hl hc ih=>intro d hb;cases d with
  |zero=>cases hb
  |succ d=>exact .tup hl (fun j x y a hy=>ih j x y a hy (List.all_eq_true.1 hb x (List.mem_of_getElem? a)))
section
variable {R:Type}
theorem wQ:∀(e:Env) (i:Nat) (K:PV->Option R) (D:Option R),cS1 e i K D=match eget e i with|some v=>K v|none=>D
 |[],_,_,_=>rfl
 |(j,v)::r,i,K,D=>by
  simp only[cS1,eget,aU]
  by_cases h:j=i<;>simp[h,wQ r i K D]
theorem nN {e:Env} {n:Nat}:∀{is:List Nat} {K:Env->Option R} {r:R},aB1 e is n K=some r->∃e',K e'=some r/\∀i v,eget e' i=some v->eget e i=some v/\lH n 4 v=true
 |[],K,r,h=>⟨[],h,fun i v h=>by simp[eget]at h⟩
 |i::is,K,r,h=>by
  unfold aB1 at h
  rw[wQ]at h
  cases hv:eget e i with
  |none=>rw[hv]at h;exact nN h
  |some v=>
   rw[hv]at h
   simp only at h
   cases hb:lH n 4 v with
   |false=>rw[hb]at h;exact aB h
   |true=>
    rw[hb,cond_true]at h
    obtain⟨e',h1,h2⟩:=nN h
    refine⟨_,h1,fun j w hw=>?_⟩
    simp only[eget]at hw
    split at hw
    .rename_i a;subst a;cases hw;exact⟨hv,hb⟩
    .exact h2 j w hw
theorem tC {h:Heap} {n:Nat}:∀{r:Heap} {K:Heap->Option R} {x:R},cT1 r h n K=some x->∃h',K h'=some x/\∀k,(hget r k=none->hget h' k=none)/\(hget r k≠none->∃o,hget h' k=some o/\hget h k=some o/\lP n o=true)
 |[],K,x,hk=>⟨[],hk,fun k=>⟨fun _=>rfl,fun h=>absurd rfl h⟩⟩
 |(j,o)::r,K,x,hk=>by
  unfold cT1 at hk
  rw[dJ,Option.bind_eq_some_iff]at hk
  obtain⟨o',b,hk⟩:=hk
  cases hb:lP n o' with
  |false=>rw[hb]at hk;exact aB hk
  |true=>
   rw[hb,cond_true]at hk
   obtain⟨h',h1,h2⟩:=tC hk
   refine⟨_,h1,fun k=>?_⟩
   simp only[hget]
   by_cases a:j=k
   .subst a
    simp only[if_true]
    exact⟨fun h=>(by cases h),fun _=>⟨o',rfl,b,hb⟩⟩
   .simp only[if_neg a]
    exact h2 k
variable {C0 C:Cx} {n0 n:Nat} {h0 h:Heap} {e:Env} {t:List AV} {s0 s:Hp} {lim:Nat}
theorem gY (hd:∀k,hget h0 k≠none->k<n0) (A:Mem C n h lim s) (he:EnvR C e t) {keep:List Nat} {K:PSt->Option R} {r:R} (hk:gS keep h0 n0 e h K=some r):
  ∃st,K st=some r/\EnvR (rest C n0) st.e t/\Mem (rest C n0) n0 st.h lim s/\(∀k o,hget st.h k=some o->hget h k=some o)/\(∀k,hget h0 k=none↔hget st.h k=none):=by
 unfold gS at hk
 obtain⟨e',hk,h1⟩:=nN hk
 obtain⟨h',hk,h2⟩:=tC hk
 have q:∀k o,hget h' k=some o->hget h k=some o/\lP n0 o=true/\k<n0:=fun k o m=>by
  by_cases w:hget h0 k=none
  .rw [(h2 k).1 w]at m;cases m
  .obtain ⟨o',q1,q2,q3⟩:=(h2 k).2 w
   rw[m]at q1
   cases q1
   exact⟨q2,q3,hd k w⟩
 have hr:∀k pl,rest C n0 k=some pl->C k=some pl/\k<n0:=fun k pl hk=>by
  simp only[rest]at hk
  split at hk
  .rename_i E;exact⟨hk,E⟩
  .cases hk
 refine⟨_,hk,fun i v hv=>?_,⟨⟨fun k o D=>?_,fun k k' id v e l v' e' l' a b c d=>?_⟩,fun k pl hk=>(hr k pl hk).2,A.wf,A.lim⟩,fun k o m=>(q k o m).1,fun k=>⟨(h2 k).1,fun w=>?_⟩⟩
 .obtain ⟨q1,q2⟩:=h1 i v hv
  obtain⟨y,p1,p2⟩:=he i v q1
  exact⟨y,p1,iH p2 q2⟩
 .obtain ⟨q1,q2,q3⟩:=q k o D
  obtain⟨pl,p1,p2⟩:=A.hr.ob k o q1
  refine⟨pl,by simp[rest,q3,p1],?_⟩
  cases o with
  |box cs=>
   cases pl with
   |nil=>exact p2
   |atp id ver e len=>
    obtain⟨a1,a2,ty,esz,row,a3,a4⟩:=p2
    exact⟨a1,a2,ty,esz,row,a3,a4.1,fun j x y u hy=>iH (a4.2 j x y u hy) (List.all_eq_true.1 q2 x (List.mem_of_getElem? u))⟩
  |lst ty e g rows=>cases pl<;>exact p2
  |mp es=>cases pl<;>exact p2
  |fl fs=>
   cases pl with
   |nil=>exact p2
   |atp id ver e len=>
    obtain⟨a1,a2,a3,a4,ty,els,a5,a6,a7⟩:=p2
    refine⟨a1,a2,a3,a4,ty,els,a5,a6,fun i f row hf p=>?_⟩
    have B:=List.all_eq_true.1 q2 f (List.mem_of_getElem? hf)
    refine⟨(a7 i f row hf p).1,fun j x y u hy=>?_⟩
    cases j with
    |zero=>simp at u;subst u;exact iH ((a7 i f row hf p).2 0 f y rfl hy) B
    |succ j=>simp at u
  |loop N' e ps a b busy fin=>
   cases pl with
   |nil=>exact p2
   |atp id ver e' len=>
    obtain⟨a1,a2,st,pend,tmps,a3,a4,a5,a6⟩:=p2
    refine⟨a1,a2,st,pend,tmps,a3,a4,fun i v hv=>?_,a6⟩
    obtain⟨y,G,H⟩:=a5 i v hv
    exact⟨y,G,iH H (List.all_eq_true.1 q2 _ (qT hv))⟩
 .have F:∀k,hget h' k≠none->hget h k≠none:=fun k hk=>by
   cases m:hget h' k with
   |none=>exact absurd m hk
   |some o=>rw[(q k o m).1];simp
  exact A.hr.inj k k' id v e l v' e' l' (F k a) (F k' b) (hr _ _ c).1 (hr _ _ d).1
 .by_cases z:hget h0 k=none
  .exact z
  .obtain ⟨o,q1,_⟩:=(h2 k).2 z
   rw[w]at q1
   cases q1
theorem Fr.canon {h1 hc:Heap} (c:Mem C0 n0 h1 lim s0) (hf:Fr C0 h1 s0 C h s) (a:∀k o,hget hc k=some o->hget h k=some o) (b:∀k,hget h1 k=none↔hget hc k=none):Fr C0 h1 s0 (rest C n0) hc s:=by
 refine⟨hf.sk,hf.n,hf.keep,fun id f d=>hf.own id f ?_,fun k o hk=>?_⟩
 .obtain ⟨k,v,e,l,q1,q2⟩:=d
  refine⟨k,v,e,l,?_,?_⟩
  .cases d:hget hc k with
   |none=>exact absurd d q1
   |some o=>rw[a k o d];simp
  .simp only[rest]at q2
   split at q2
   .exact q2
   .cases q2
 .obtain ⟨o',q1,q2⟩:=hf.kd k o hk
  have g:k<n0:=by
   obtain⟨pl,p1,_⟩:=c.hr.ob k o hk
   exact c.dom k pl p1
  cases hz:hget hc k with
  |none=>rw[(b k).2 hz]at hk;cases hk
  |some o2=>
   have:=a k o2 hz
   rw[q1]at this
   cases this
   exact⟨o',rfl,fun hb=>⟨(q2 hb).1,by simp[rest,g,(q2 hb).2]⟩⟩
theorem dG:∀{h:List Ent} {id:Nat} {o:AO},Sim.look h id=some o->(∀ty e v els,o≠.arr true ty e v els)->Sim.look (popMark h) id=some o
 |[],id,o,h,_=>by simp[Sim.look]at h
 |.mark::r,id,o,h,_=>h
 |.ob i o'::r,id,o,h,hne=>by
  simp only[Sim.look]at h
  simp only[popMark]
  split at h
  .rename_i a
   cases h
   split
   .exact absurd rfl (hne _ _ _ _)
   .simp [Sim.look,a]
  .rename_i a
   have ih:=dG h hne
   split
   .exact ih
   .simp [Sim.look,a,ih]
theorem Mem.pop {C1:Cx} {h1 hc:Heap} {d:Hp} (j:Mem C0 n0 h1 lim s0) (f:Mem C1 n0 hc lim d) (hf:Fr C0 h1 {h:=.mark::s0.h,n:=s0.n} C1 hc d) (c:∀k,hget h1 k=none↔hget hc k=none):
  Mem C1 n0 hc lim {h:=popMark d.h,n:=d.n}/\Fr C0 h1 s0 C1 hc {h:=popMark d.h,n:=d.n}:=by
 obtain⟨p1,p2⟩:=hf.sk.pop
 refine⟨⟨⟨fun k o hk=>?_,f.hr.inj⟩,f.dom,f.wf.pop,f.lim⟩,⟨p1,hf.n,fun id i p=>?_,hf.own,hf.kd⟩⟩
 .obtain ⟨pl,q1,q2⟩:=f.hr.ob k o hk
  refine⟨pl,q1,?_⟩
  cases o with
  |box cs=>
   cases pl with
   |nil=>exact q2
   |atp id ver e len=>
    obtain⟨a1,a2,ty,esz,row,a3,a4⟩:=q2
    have l:id<s0.n:=by
     cases hz:hget h1 k with
     |none=>rw[(c k).1 hz]at hk;cases hk
     |some o0=>
      obtain⟨o',w1,q⟩:=hf.kd k o0 hz
      rw[hk]at w1
      cases w1
      obtain⟨_,m⟩:=q rfl
      rw[q1]at m
      exact(j.hr.lt (by rw[hz];simp) m.symm).2
    exact⟨a1,a2,ty,esz,row,by rw[p2 id l];exact a3,a4⟩
  |lst ty e g rows=>
   cases pl with
   |nil=>exact q2
   |atp id ver e' len=>
    obtain⟨a1,a2,a3,a4,els,a5,a6⟩:=q2
    exact⟨a1,a2,a3,a4,els,dG a5 (fun _ _ _ _ e=>by cases e),a6⟩
  |mp es=>
   cases pl with
   |nil=>exact q2
   |atp id ver e' len=>
    obtain⟨a1,a2,es',a3,a4⟩:=q2
    exact⟨a1,a2,es',dG a3 (fun _ _ _ _ e=>by cases e),a4⟩
  |fl fs=>
   cases pl with
   |nil=>exact q2
   |atp id ver e' len=>
    obtain⟨a1,a2,a3,a4,ty,els,a5,a6⟩:=q2
    exact⟨a1,a2,a3,a4,ty,els,dG a5 (fun _ _ _ _ e=>by cases e),a6⟩
  |loop N' e ps a b busy fin=>
   cases pl with
   |nil=>exact q2
   |atp id ver e' len=>
    obtain⟨a1,a2,st,pend,tmps,a3,a4⟩:=q2
    exact⟨a1,a2,st,pend,tmps,dG a3 (fun _ _ _ _ e=>by cases e),a4⟩
 .rw [p2 id i]
  exact hf.keep id i p
end
end Go.P
namespace Go.P
open Go.Sim (AV AO Hp Ent upd St IC IX Ex OpK CK Wf Out doOp Tab exec Foot wanted put popMark)
def okP (NF:FuncId->Bool) (N:Nat) (rd:Bool):PC->Bool
 |.reg ops=>okO N [] false [] ops
 |.regD dr ops before=>(Nat.beq dr 3||Nat.beq dr 4)&&okO N [] false [] ops&&wJ ((erO none ops).map fun o=>cls NF dr o.k) before
 |.regX dr ops before ex=>(Nat.beq dr 3||Nat.beq dr 4)&&okO N [] false [] ops&&dJ1 ((erO none ops).map fun o=>cls NF dr o.k) before ex&&ex.all (exOK (erO none ops))
 |.seq a b=>okP NF N rd a&&okP NF N rd b
 |.cond c a b=>okX N c&&okP NF N rd a&&okP NF N rd b
 |.condJ _ c a b=>okX N c&&okP NF N rd a&&okP NF N rd b
 |.condL c a b=>okX N c&&okP NF N rd a&&okP NF N rd b
 |.block _ c=>okP NF N rd c
 |.loop _ _ c=>okP NF N rd c
 |.loopU _ _ c=>okP NF N rd c
 |.rangeF N' _ f _ _ _=> !rd&&Nat.beq N' N&&okX N f
 |_=>true
def okL (NF:FuncId->Bool) (N:Nat) (ps:List Nat) (a b:PC):Bool:=ps.all (fun p=>Nat.blt p N)&&okP NF N true a&&okP NF N true b
theorem tD:∀{ops:POs} {g:Option (Nat×Bool)},xZ ops=true->erO g ops=[]
 |.nil,g,_=>rfl
 |.lax _ _ r,g,h=>tD (ops:=r) h
 |.own _ _ _ _ r,g,h=>tD (ops:=r) h
 |.ownc _ _ _ _ _ r,g,h=>tD (ops:=r) h
 |.laxc _ _ _ r,g,h=>tD (ops:=r) h
section
variable {T:Tab} {O:Orc} {X:NX}
def Res {R:Type} (T:Tab) (N lim:Nat) (rd:Bool) (c:IC) (C:Cx) (n:Nat) (h:Heap) (t:List AV) (s:Hp) (K:Ex->Env->Heap->Nat->Option R) (r:R):Prop:=
 ∃x e' h' n' C' a s',K x e' h' n'=some r/\EnvR C' e' a/\Mem C' n' h' lim s'/\a.length=N/\n<=n'/\Fr C h s C' h' s'/\∃D,∀d,D<=d->exec T d lim rd c {t:=t,s:=s}=some (x,{t:=a,s:=s'})
variable {R:Type} {N lim:Nat} {rd:Bool}
theorem Tr.nil_inv {NF:FuncId->Bool} {dr:Nat} {σ τ:St} {fs:List Foot} (h:Tr T NF dr lim [] σ fs τ):τ=σ:=by cases h;rfl
theorem wR {C:Cx} {x:PV} {a:AV} (h:RV C x a) (hf:free x=true):Sim.idOf a=[]:=by
 cases h with
 |cl h=>cases h<;>first|rfl|simp[free]at hf
 |_=>simp[free]at hf
theorem eT1 {C:Cx} {x:PV} {a:AV} {k i:Nat} (h:RV C x a) (hk:qI x=some k) (hi:i∈Sim.idOf a):∃v e l,C k=some (.atp i v e l):=by
 cases h with
 |cl h=>cases h<;>simp[qI]at hk
 |ownn h hy=>subst hy;simp[Sim.idOf]at hi
 |ref h=>simp[qI]at hk;simp[Sim.idOf]at hi;subst hk;subst hi;exact⟨_,_,_,h⟩
 |own h=>simp[qI]at hk;simp[Sim.idOf]at hi;subst hk;subst hi;exact⟨_,_,_,h⟩
 |el h=>simp[qI]at hk;simp[Sim.idOf]at hi;subst hk;subst hi;exact⟨_,_,_,h⟩
 |map h=>simp[qI]at hk;simp[Sim.idOf]at hi;subst hk;subst hi;exact⟨_,_,_,h⟩
 |_=>simp[qI]at hk
theorem dS1 {C:Cx} {e:Env} {t:List AV} {n lim:Nat} {h:Heap} {s:Hp} (he:EnvR C e t) (q:Mem C n h lim s) {p:Nat×Nat×Nat×Nat}
  (hp:(match eget e p.2.2.1,eget e p.2.2.2 with|some x,some y=>aD1 h x y|_,_=>false)=true):dK1 {t:=t,s:=s} p:=by
 split at hp
 .rename_i x y u hy
  obtain⟨a,r,g⟩:=he _ _ u
  obtain⟨b,hb,j⟩:=he _ _ hy
  refine⟨a,b,r,hb,fun i hi d=>?_⟩
  unfold aD1 at hp
  simp only[Bool.or_eq_true]at hp
  rcases hp with(hp|hp)|hp
  .rw [wR g hp]at hi;simp at hi
  .rw [wR j hp]at d;simp at d
  .split at hp
   .rename_i k k' h1 h2
    simp only[Bool.and_eq_true,Bool.not_eq_true',aU,decide_eq_false_iff_not]at hp
    obtain⟨⟨f,hk⟩,c⟩:=hp
    obtain⟨v,m,l,c1⟩:=eT1 g h1 hi
    obtain⟨v',o,l',c2⟩:=eT1 j h2 d
    exact f (q.hr.inj k k' i v m l v' o l' (fun h=>by rw[h]at hk;cases hk) (fun h=>by rw[h]at c;cases c) c1 c2)
   .cases hp
 .cases hp
theorem gS1 {a b:IC} {C:Cx} {n:Nat} {h:Heap} {t:List AV} {s:Hp} {K:Ex->Env->Heap->Nat->Option R} {r:R} {v:PC}
  (z:Res T N lim rd a C n h t s (fun x e h n=>match x with|.normal=>dB O X v e h n K|.exit i=>K (.exit i) e h n|.ret=>K .ret e h n) r)
  (hb:∀C n h e t s,dB O X v e h n K=some r->EnvR C e t->Mem C n h lim s->t.length=N->Res T N lim rd b C n h t s K r):
  Res T N lim rd (.seq a b) C n h t s K r:=by
 obtain⟨x,f,h1,p,C1,u,q,g,j,k,l,w,m,D,o⟩:=z
 cases x with
 |normal=>
  obtain⟨F,y,h2,A,C2,E,B,q1,q2,q3,q4,q5,q6,D2,q7⟩:=hb C1 p h1 f u q g j k l
  refine⟨F,y,h2,A,C2,E,B,q1,q2,q3,q4,by omega,m.trans q6,D+D2+1,fun d hd=>?_⟩
  obtain⟨d,rfl⟩:∃c,d=c+1:=⟨d-1,by omega⟩
  simp only[exec,o d (by omega)]
  exact q7 d (by omega)
 |exit i=>
  refine⟨.exit i,f,h1,p,C1,u,q,g,j,k,l,w,m,D+1,fun d hd=>?_⟩
  obtain⟨d,rfl⟩:∃c,d=c+1:=⟨d-1,by omega⟩
  simp only[exec,o d (by omega)]
 |ret=>
  refine⟨.ret,f,h1,p,C1,u,q,g,j,k,l,w,m,D+1,fun d hd=>?_⟩
  obtain⟨d,rfl⟩:∃c,d=c+1:=⟨d-1,by omega⟩
  simp only[exec,o d (by omega)]
theorem qX {c:IX} {a b:IC} {C:Cx} {n:Nat} {h:Heap} {t:List AV} {s:Hp} {K:Ex->Env->Heap->Nat->Option R} {r:R} {v:Bool} (hc:c.ev t=some (.v (.bool v)))
  (g:Res T N lim rd (if v then a else b) C n h t s K r):Res T N lim rd (.cond c a b) C n h t s K r:=by
 obtain⟨x,f,h1,q,C1,w,u,i,j,k,l,m,o,D,p⟩:=g
 refine⟨x,f,h1,q,C1,w,u,i,j,k,l,m,o,D+1,fun d hd=>?_⟩
 obtain⟨d,rfl⟩:∃e,d=e+1:=⟨d-1,by omega⟩
 simp only[exec,hc]
 exact p d (by omega)
theorem vC {C:Cx} {e:Env} {t:List AV} {c:PX} {vs:List PV} (he:EnvR C e t) (g:okX N c=true) (a:evs e [c]=some vs) {v:Bool} (hv:vs=[.v (.bool v)]):(eX c).ev t=some (.v (.bool v)):=by
 obtain⟨ys,h1,h2⟩:=fE he (xs:=[c]) (by simpa using g) a
 subst hv
 obtain⟨y,_,rfl,b,d⟩:=h2.inv_cons
 rw[d.inv_nil,rv_v b]at h1
 simp only[List.map_cons,List.map_nil,Sim.evs]at h1
 split at h1
 .rename_i f hb
  cases h1
  exact f
 .cases h1
theorem wS {c:IC} {y:PC} {keep kx:List Nat} {n:Nat} {h0:Heap} (hd:∀k,hget h0 k≠none->k<n)
  (hb:∀{R':Type} (K':Ex->Env->Heap->Nat->Option R') (r':R') C n h e t s,dB O X y e h n K'=some r'->EnvR C e t->Mem C n h lim s->t.length=N->Res T N lim rd c C n h t s K' r'):
  ∀(k:Nat) (st:PSt) (C:Cx) (t:List AV) (s:Hp) (x:Ex) (st':PSt),
   aO (fun s:PSt=>dB O X y s.e s.h n fun x e' h' _=>gS (lk x keep kx) h0 n e' h' fun s'=>some (match x with|.normal=>(.inl s':PSt⊕(Ex×PSt))|x=>.inr (x,s'))) k st=some (x,st')->
   EnvR C st.e t->Mem C n st.h lim s->t.length=N->(∀k,hget h0 k=none↔hget st.h k=none)->
   ∃C' j s',EnvR C' st'.e j/\Mem C' n st'.h lim s'/\j.length=N/\Fr C st.h s C' st'.h s'/\∃D,∀d,D<=d->exec T d lim rd (.loop c) {t:=t,s:=s}=some (x,{t:=j,s:=s'})
 |0,st,C,t,s,x,st',h,_,_,_,_=>by simp[aO]at h
 |k+1,st,C,t,s,x,st',h,he,hM,hN,hkeys=>by
  simp only[aO,Option.bind_eq_some_iff]at h
  obtain⟨q,B,h⟩:=h
  have b:Mem C n st.h lim {h:=.mark::s.h,n:=s.n}:=⟨⟨hM.hr.ob,hM.hr.inj⟩,hM.dom,hM.wf,hM.lim⟩
  obtain⟨x1,M,h1,R,C1,v,S,F,G,H,o,P,J,D,p⟩:=hb _ q C n st.h st.e t _ B he b hN
  have A:∀k,hget st.h k≠none->k<n:=fun k hk=>hd k (fun E=>hk ((hkeys k).1 E))
  obtain⟨g,w1,w,K,L,z⟩:=gY hd H G F
  have l:∀k,hget st.h k=none↔hget g.h k=none:=fun k=>(hkeys k).symm.trans (z k)
  have m:=Fr.canon b J L l
  obtain⟨r,u⟩:=Mem.pop hM K m l
  cases x1 with
  |normal=>
   simp only[Option.some.injEq]at w1
   subst w1
   simp only at h
   obtain⟨C',j,s',p1,p2,p3,p4,D2,p5⟩:=wS hd hb k g _ v _ x st' h w r o z
   refine⟨C',j,s',p1,p2,p3,u.trans p4,D+D2+1,fun d f=>?_⟩
   obtain⟨d,rfl⟩:∃a,d=a+1:=⟨d-1,by omega⟩
   rw[exec]
   simp only[p d (by omega)]
   exact p5 d (by omega)
  |exit i=>
   simp only[Option.some.injEq]at w1
   subst w1
   simp only[Option.some.injEq,Prod.mk.injEq]at h
   obtain⟨rfl,rfl⟩:=h
   refine⟨_,v,_,w,r,o,u,D+1,fun d f=>?_⟩
   obtain⟨d,rfl⟩:∃a,d=a+1:=⟨d-1,by omega⟩
   rw[exec]
   simp only[p d (by omega)]
  |ret=>
   simp only[Option.some.injEq]at w1
   subst w1
   simp only[Option.some.injEq,Prod.mk.injEq]at h
   obtain⟨rfl,rfl⟩:=h
   refine⟨_,v,_,w,r,o,u,D+1,fun d f=>?_⟩
   obtain⟨d,rfl⟩:∃a,d=a+1:=⟨d-1,by omega⟩
   rw[exec]
   simp only[p d (by omega)]
theorem tE {c:IC} {y:PC} {keep:List Nat} {n:Nat} {h0:Heap} (hd:∀k,hget h0 k≠none->k<n)
  (hb:∀{R':Type} (K':Ex->Env->Heap->Nat->Option R') (r':R') C n h e t s,dB O X y e h n K'=some r'->EnvR C e t->Mem C n h lim s->t.length=N->Res T N lim rd c C n h t s K' r'):
  ∀(k:Nat) (st:PSt) (C:Cx) (t:List AV) (s:Hp) (K:Ex->PSt->Option R) (r:R),
   sL (fun e h K=>dB O X y e h n fun x e h _=>K x e h) (fun e' h' K=>gS keep h0 n e' h' K) k st K=some r->
   EnvR C st.e t->Mem C n st.h lim s->t.length=N->(∀k,hget h0 k=none↔hget st.h k=none)->
   ∃x st' C' j s',K x st'=some r/\EnvR C' st'.e j/\Mem C' n st'.h lim s'/\j.length=N/\Fr C st.h s C' st'.h s'/\∃D,∀d,D<=d->exec T d lim rd (.loop c) {t:=t,s:=s}=some (x,{t:=j,s:=s'})
 |0,st,C,t,s,K,r,h,_,_,_,_=>by simp[sL]at h
 |k+1,st,C,t,s,K,r,hq,he,hM,hN,hkeys=>by
  simp only[sL]at hq
  have f:Mem C n st.h lim {h:=.mark::s.h,n:=s.n}:=⟨⟨hM.hr.ob,hM.hr.inj⟩,hM.dom,hM.wf,hM.lim⟩
  obtain⟨x1,M,h1,S,C1,v,U,E,F,G,o,P,H,D,p⟩:=hb _ r C n st.h st.e t _ hq he f hN
  have A:∀k,hget st.h k≠none->k<n:=fun k hk=>hd k (fun B=>hk ((hkeys k).1 B))
  obtain⟨a,w1,w,J,L,z⟩:=gY hd G F E
  have l:∀k,hget st.h k=none↔hget a.h k=none:=fun k=>(hkeys k).symm.trans (z k)
  have m:=Fr.canon f H L l
  obtain⟨q,u⟩:=Mem.pop hM J m l
  cases x1 with
  |normal=>
   obtain⟨x,st',C',j,s',p0,p1,p2,p3,p4,D2,p5⟩:=tE hd hb k a _ v _ K r w1 w q o z
   refine⟨x,st',C',j,s',p0,p1,p2,p3,u.trans p4,D+D2+1,fun d g=>?_⟩
   obtain⟨d,rfl⟩:∃b,d=b+1:=⟨d-1,by omega⟩
   rw[exec]
   simp only[p d (by omega)]
   exact p5 d (by omega)
  |exit i=>
   refine⟨.exit i,a,_,v,_,w1,w,q,o,u,D+1,fun d g=>?_⟩
   obtain⟨d,rfl⟩:∃b,d=b+1:=⟨d-1,by omega⟩
   rw[exec]
   simp only[p d (by omega)]
  |ret=>
   refine⟨.ret,a,_,v,_,w1,w,q,o,u,D+1,fun d g=>?_⟩
   obtain⟨d,rfl⟩:∃b,d=b+1:=⟨d-1,by omega⟩
   rw[exec]
   simp only[p d (by omega)]
def hdel:Heap->Nat->Heap
 |[],_=>[]
 |(j,o)::r,k=>if j=k then hdel r k else(j,o)::hdel r k
theorem wT:∀(h:Heap) (k:Nat) (K:Heap->Option R),aC1 h k K=K (hdel h k)
 |[],_,_=>rfl
 |(j,o)::r,k,K=>by
  simp only[aC1,hdel,aU]
  by_cases e:j=k<;>simp[e,wT r k]
theorem gZ:∀(h:Heap) (k j:Nat),hget (hdel h k) j=if j=k then none else hget h j
 |[],k,j=>by simp[hdel,hget]
 |(i,o)::r,k,j=>by
  have ih:=gZ r k j
  simp only[hdel]
  by_cases e:i=k
  .subst e
   rw[if_pos rfl,ih]
   by_cases a:j=i
   .simp [a]
   .simp [a,hget,Ne.symm a]
  .rw [if_neg e]
   simp only[hget]
   by_cases a:i=j
   .subst a;simp[e]
   .simp only[if_neg a,ih]
theorem pJ {e:Env}:∀{is:List Nat} {K:Env->Option R} {r:R},cU1 e is K=some r->∃e',K e'=some r/\∀i v,eget e' i=some v->eget e i=some v
 |[],K,r,h=>⟨[],h,fun i v h=>by simp[eget]at h⟩
 |i::is,K,r,h=>by
  unfold cU1 at h
  rw[dN,Option.bind_eq_some_iff]at h
  obtain⟨v,hv,h⟩:=h
  obtain⟨e',h1,h2⟩:=pJ h
  refine⟨_,h1,fun j w hw=>?_⟩
  simp only[eget]at hw
  split at hw
  .rename_i a;subst a;cases hw;exact hv
  .exact h2 j w hw
theorem qY {C:Cx} {n:Nat} {h:Heap} {lim:Nat} {s:Hp} (f:Mem C n h lim s) {k id ver e len N:Nat} {c:Env} {ps:List Nat} {a b:PC} {busy:Bool} {fin:Option Ex} (hg:hget h k=some (.loop N c ps a b busy fin)) (d:C k=some (.atp id ver e len)):
  lim<=id/\∃st pend tmps,Sim.look s.h id=some (.loop st pend tmps ps (erC a) (erC b))/\tmps.length=N/\EnvR C c tmps/\StR busy fin st pend:=by
 obtain⟨pl,h1,h2⟩:=f.hr.ob k _ hg
 rw[d]at h1
 cases h1
 exact⟨h2.1,h2.2.2⟩
theorem bZ (F:∀f xs v,O f xs=some v->FnOK T f xs v) (B:NOK T X):∀(c:PC) {R:Type} (K:Ex->Env->Heap->Nat->Option R) (r:R) (C:Cx) (n:Nat) (h:Heap) (e:Env) (t:List AV) (s:Hp),dB O X c e h n K=some r->EnvR C e t->Mem C n h lim s->t.length=N->
  okP X.is N rd c=true->Res T N lim rd (erC c) C n h t s K r
 |.skip,R,K,r,C,n,h,e,t,s,hk,he,j,w,u=>⟨.normal,e,h,n,C,t,s,hk,he,j,w,Nat.le_refl _,.refl _ _ _,1,fun d hd=>by
   obtain⟨d,rfl⟩:∃E,d=E+1:=⟨d-1,by omega⟩
   simp only[erC,exec]⟩
 |.exit i,R,K,r,C,n,h,e,t,s,hk,he,j,w,u=>⟨.exit i,e,h,n,C,t,s,hk,he,j,w,Nat.le_refl _,.refl _ _ _,1,fun d hd=>by
   obtain⟨d,rfl⟩:∃E,d=E+1:=⟨d-1,by omega⟩
   simp only[erC,exec]⟩
 |.ret,R,K,r,C,n,h,e,t,s,hk,he,j,w,u=>⟨.ret,e,h,n,C,t,s,hk,he,j,w,Nat.le_refl _,.refl _ _ _,1,fun d hd=>by
   obtain⟨d,rfl⟩:∃E,d=E+1:=⟨d-1,by omega⟩
   simp only[erC,exec]⟩
 |.reg ops,R,K,r,C,n,h,e,t,s,hk,he,j,w,u=>by
  obtain⟨e',h',n',C',U,s',fs,q1,q2,q3,q4,q5,q6,q7,_⟩:=bU F B (.inl rfl) ops [] [] false none C n h e t s _ r hk he j w u trivial (fun _ _ e=>by cases e)
  obtain⟨D,hD⟩:=q2.run
  refine⟨.normal,e',h',n',C',U,s',q1,q3,q4,q5,q6,q7,D+1,fun d hd=>?_⟩
  obtain⟨d,rfl⟩:∃E,d=E+1:=⟨d-1,by omega⟩
  simp only[erC,exec,hD d (by omega),Option.map_some]
 |.regD dr ops before,R,K,r,C,n,h,e,t,s,hk,he,j,w,u=>by
  simp only[okP,Bool.and_eq_true,Bool.or_eq_true,aU,decide_eq_true_eq]at u
  obtain⟨e',h',n',C',U,s',fs,q1,q2,q3,q4,q5,q6,q7,_⟩:=bU F B (.inr u.1.1) ops [] [] false none C n h e t s _ r hk he j w u.1.2 trivial (fun _ _ e=>by cases e)
  obtain⟨D,hD⟩:=q2.draw (by omega) u.2
  refine⟨.normal,e',h',n',C',U,s',q1,q3,q4,q5,q6,q7,D+1,fun d hd=>?_⟩
  obtain⟨d,rfl⟩:∃E,d=E+1:=⟨d-1,by omega⟩
  obtain⟨gs,g1,g2⟩:=hD d (by omega)
  simp only[erC,exec,g1,g2,if_true]
 |.dead _,R,K,r,C,n,h,e,t,s,hk,he,j,w,u=>nomatch hk
 |.regX dr ops before ex,R,K,r,C,n,h,e,t,s,hk,he,j,w,u=>by
  simp only[okP,Bool.and_eq_true,Bool.or_eq_true,aU,decide_eq_true_eq]at u
  obtain⟨⟨⟨d2,d6⟩,b6⟩,d4⟩:=u
  unfold dB at hk
  obtain⟨e',h',n',C',U,s',fs,q1,q2,q3,q4,q5,q6,q7,_⟩:=bU F B (.inr d2) ops [] [] false none C n h e t s _ r hk he j w d6 trivial (fun _ _ e=>by cases e)
  cases hb:exB e' h' ex with
  |false=>rw[hb]at q1;cases q1
  |true=>
   rw[hb]at q1
   obtain⟨D,hD⟩:=q2.drawX (by omega) b6 d4 (fun p hp=>dS1 q3 q4 (List.all_eq_true.1 hb p hp))
   refine⟨.normal,e',h',n',C',U,s',q1,q3,q4,q5,q6,q7,D+1,fun d hd=>?_⟩
   obtain⟨d,rfl⟩:∃E,d=E+1:=⟨d-1,by omega⟩
   obtain⟨gs,g1,g2⟩:=hD d (by omega)
   simp only[erC,exec,g1,g2,if_true]
 |.seq a b,R,K,r,C,n,h,e,t,s,hk,he,j,w,u=>by
  simp only[okP,Bool.and_eq_true]at u
  have ha:=bZ F B a _ r C n h e t s hk he j w u.1
  have hb:=fun C n h e t s hk he j w=>bZ F B b K r C n h e t s hk he j w u.2
  have b0:=gS1 ha hb
  unfold erC
  split
  .rename_i ops
   split
   .rename_i a0
    simp only[Bool.and_eq_true]at a0
    obtain⟨e',h',n',C',U,s',fs,q1,q2,q3,q4,q5,q6,q7,_⟩:=bU F B (.inl rfl) ops [] [] false none C n h e t s _ r hk he j w u.1 trivial (fun _ _ e=>by cases e)
    rw[tD a0.1]at q2
    have:=q2.nil_inv
    cases this
    obtain⟨x2,e2,h2,n2,C2,t2,s2,w1,Z,w3,w4,V,w6,D2,w7⟩:=hb C' n' h' e' t s q1 q3 q4 w
    exact⟨x2,e2,h2,n2,C2,t2,s2,w1,Z,w3,w4,by omega,q7.trans w6,D2,w7⟩
   .exact b0
  .exact b0
 |.cond c a b,R,K,r,C,n,h,e,t,s,hk,he,j,w,u=>by
  simp only[okP,Bool.and_eq_true]at u
  unfold dB at hk
  rw[eB,Option.bind_eq_some_iff]at hk
  obtain⟨vs,G,hk⟩:=hk
  split at hk
  .rename_i v
   rw[jN]at hk
   refine qX (vC he u.1.1 G rfl) ?_
   cases v with
   |true=>exact bZ F B a K r C n h e t s hk he j w u.1.2
   |false=>exact bZ F B b K r C n h e t s hk he j w u.2
  .exact aB hk
 |.condJ keep c a b,R,K,r,C,n,h,e,t,s,hk,he,j,w,u=>by
  simp only[okP,Bool.and_eq_true]at u
  unfold dB at hk
  rw[eB,Option.bind_eq_some_iff]at hk
  obtain⟨vs,G,hk⟩:=hk
  split at hk
  .rename_i v
   rw[aY,Option.bind_eq_some_iff]at hk
   obtain⟨q,hq,hk⟩:=hk
   rw[jN]at hq
   refine qX (vC he u.1.1 G rfl) ?_
   have fin:∀{c:IC},Res T N lim rd c C n h t s (fun x e' h' _=>gS keep h n e' h' fun s=>some (x,s)) q->Res T N lim rd c C n h t s K r:=by
    intro c b8
    obtain⟨x1,M,h1,n1,C1,t1,s1,Y,k2,k3,k4,k5,k6,D,k7⟩:=b8
    obtain⟨L,w1,Z,w3,w4,V⟩:=gY (fun k hk=>by
     cases S:hget h k with
     |none=>exact absurd S hk
     |some o=>obtain⟨pl,p1,_⟩:=j.hr.ob k o S;exact j.dom k pl p1) k3 k2 Y
    cases w1
    exact⟨x1,L.e,L.h,n,_,t1,s1,hk,Z,w3,k4,Nat.le_refl _,Fr.canon j k6 w4 V,D,k7⟩
   cases v with
   |true=>exact fin (bZ F B a _ q C n h e t s hq he j w u.1.2)
   |false=>exact fin (bZ F B b _ q C n h e t s hq he j w u.2)
  .exact aB hk
 |.condL c a b,R,K,r,C,n,h,e,t,s,hk,he,j,w,u=>by
  simp only[okP,Bool.and_eq_true]at u
  unfold dB at hk
  rw[eB,Option.bind_eq_some_iff]at hk
  obtain⟨vs,G,hk⟩:=hk
  split at hk
  .rename_i v
   refine qX (vC he u.1.1 G rfl) ?_
   cases v with
   |true=>exact bZ F B a K r C n h e t s hk he j w u.1.2
   |false=>exact bZ F B b K r C n h e t s hk he j w u.2
  .exact aB hk
 |.loopU m keep c,R,K,r,C,n,h,e,t,s,hk,he,j,w,u=>by
  unfold dB at hk
  have hd:∀k,hget h k≠none->k<n:=fun k hk=>by
   cases S:hget h k with
   |none=>exact absurd S hk
   |some o=>obtain⟨pl,p1,_⟩:=j.hr.ob k o S;exact j.dom k pl p1
  obtain⟨L,w1,Z,w3,w4,V⟩:=gY hd j he hk
  obtain⟨x,st',C',U,s',p0,p1,p2,p3,p4,D,p5⟩:=tE (T:=T) (rd:=rd) (N:=N) (lim:=lim) hd (fun K' r' C n h e t s hk he j w=>bZ F B c K' r' C n h e t s hk he j w u) m L _ t s _ r w1 Z w3 w V
  exact⟨x,st'.e,st'.h,n,C',U,s',p0,p1,p2,p3,Nat.le_refl _,(Fr.canon j (.refl _ _ _) w4 V).trans p4,D,p5⟩
 |.rangeF N' keep f ps a b,R,K,r,C,n,h,e,t,s,hk,he,j,w,u=>by
  simp only[okP,Bool.and_eq_true,Bool.not_eq_true',aU,decide_eq_true_eq]at u
  obtain⟨⟨rfl,rfl⟩,u⟩:=u
  unfold dB at hk
  rw[eB,Option.bind_eq_some_iff]at hk
  obtain⟨vs,G,hk⟩:=hk
  obtain⟨ys,h1,h2⟩:=fE he (xs:=[f]) (by simpa using u) G
  split at hk
  .rename_i g first cap
   obtain⟨y,_,rfl,h3,h4⟩:=h2.inv_cons
   rw[h4.inv_nil]at h1
   obtain⟨a',b',rfl,h5,h6⟩:=qK h3
   have hf:(eX f).ev t=some (.fn (.func g) a' b'):=by
    simp only[List.map_cons,List.map_nil,Sim.evs]at h1
    split at h1
    .rename_i ha hb;simp only[Option.some.injEq,List.cons.injEq]at h1;rw[<-h1.1];exact ha
    .cases h1
   cases hX1:X.is g with
   |false=>rw[hX1]at hk;exact aB hk
   |true=>
   rw[hX1,cond_true]at hk
   obtain⟨e0,hk,d3⟩:=pJ hk
   have W:=gF j (.atp s.n 0 0 0)
   obtain⟨m1,m2,m3⟩:=nE j (po:=.loop N' e0 ps a b false none) (ao:=.loop .ready none t ps (erC a) (erC b)) (ver:=0) (e:=0) (len:=0)
    ⟨j.lim,by omega,_,_,t,by rw[cR,if_pos rfl],w,fun i v hv=>(he i v (d3 i v hv)).imp fun y hy=>⟨hy.1,hy.2.mono W⟩,rfl,rfl⟩
   have hx:LR (RV (ext C n (.atp s.n 0 0 0))) (first++[.yld n]++cap) (a'++[.fn (.yield s.n) [] []]++b'):=
    ((h5.mono fun _ _ h=>h.mono W).append (.cons (.yld (kZ C n _)) .nil)).append (h6.mono fun _ _ h=>h.mono W)
   obtain⟨v,e',h',n',C',y,s',q1,q2,q3,q4,q5,q6,q7⟩:=vA (P:=fun y s'=>∃D,∀d,D<=d->Sim.callF T (exec T d) lim g (a'++[.fn (.yield s.n) [] []]++b') _=some (y,s')) m1 (he.mono W) hx
    (fun hs C0 m K' r' d1 d7 hr=>by
     obtain⟨v,h',n',C',y,s',w1,Z,w3,w4,V,w6,w7⟩:=B.run g _ hs m K' r' C0 _ lim _ hX1 hr d7 d1
     exact⟨v,h',n',C',y,s',w1,Z,w3,w4,V,w7⟩) hk
   rw[dJ,Option.bind_eq_some_iff]at q1
   obtain⟨ob,b5,q1⟩:=q1
   obtain⟨o',z1,z2⟩:=q6.kd n (.loop N' e0 ps a b false none) (by simp[hget])
   rw[b5]at z1
   cases z1
   split at q1
   .rename_i N2 e2 J a2 b2 fin
    have b7:C' n=some (.atp s.n 0 0 0):=by
     have:=(z2 rfl).2
     rw[kZ]at this
     exact this
    obtain⟨_,st,pend,tmps,g1,g2,g3,g4⟩:=qY q4 b5 b7
    rw[wT]at q1
    obtain⟨D,hD⟩:=q7
    have d8:n<n':=by omega
    have d0:Mem C' n' (hdel h' n) lim {h:=upd s'.h s.n (.loop .exhausted pend tmps J (erC a2) (erC b2)),n:=s'.n}:=by
     have nn:∀{k},hget (hdel h' n) k≠none->hget h' k≠none:=fun{k} hk=>by
      rw[gZ]at hk
      split at hk
      .exact absurd rfl hk
      .exact hk
     refine⟨⟨fun k o A=>?_,fun k k' id v e l v' e' l' a b c d=>q4.hr.inj k k' id v e l v' e' l' (nn a) (nn b) c d⟩,q4.dom,q4.wf.upd _ _,q4.lim⟩
     rw[gZ]at A
     split at A
     .cases A
     .rename_i d5
      obtain⟨pl,p1,p2⟩:=q4.hr.ob k o A
      refine⟨pl,p1,p2.mono (Nat.le_refl _) (fun _ _ h=>h) (fun id v e l hp=>?_)⟩
      subst hp
      rw[Sim.look_upd]
      rw[if_neg (fun M=>d5 (q4.hr.inj k n s.n _ _ _ _ _ _ (by rw[A];simp) (by rw[b5];simp) (by rw[<-M.1];exact p1) b7))]
    have H:=m2.trans q6
    have b9:Fr C h s C' (hdel h' n) {h:=upd s'.h s.n (.loop .exhausted pend tmps J (erC a2) (erC b2)),n:=s'.n}:=by
     refine⟨H.sk.trans (.upd _ _ _ _) H.n,H.n,fun id b4 hn=>?_,fun id b4 hn=>H.own id b4 ?_,fun k o A=>?_⟩
     .rw [Sim.look_upd,if_neg (by omega)]
      exact H.keep id b4 hn
     .obtain ⟨k,v,e,l,p1,p2⟩:=hn
      refine⟨k,v,e,l,?_,p2⟩
      rw[gZ]at p1
      split at p1
      .exact absurd rfl p1
      .exact p1
     .obtain ⟨o',p1,p2⟩:=H.kd k o A
      refine⟨o',?_,p2⟩
      rw[gZ,if_neg (fun M=>?_)]
      .exact p1
      .subst M
       rw[nD j (Nat.le_refl _)]at A
       cases A
    have go:∀x,K x e' (hdel h' n) n'=some r->st≠.busy->(match pend with
       |none=>some (Ex.normal,({t:=t,s:={h:=upd s'.h s.n (.loop .exhausted pend tmps J (erC a2) (erC b2)),n:=s'.n}}:St))
       |some .ret=>some (.ret,{t:=t,s:={h:=upd s'.h s.n (.loop .exhausted pend tmps J (erC a2) (erC b2)),n:=s'.n}})
       |some (.exit id)=>some (.exit id,{t:=t,s:={h:=upd s'.h s.n (.loop .exhausted pend tmps J (erC a2) (erC b2)),n:=s'.n}})
       |_=>none)=some (x,{t:=t,s:={h:=upd s'.h s.n (.loop .exhausted pend tmps J (erC a2) (erC b2)),n:=s'.n}})->
      Res T N' lim false (erC (.rangeF N' keep f ps a b)) C n h t s K r:=by
     intro x hK b6 hx
     refine⟨x,e',hdel h' n,n',C',t,_,hK,fun i v hv=>(q3 i v hv).imp fun z S=>⟨S.1,S.2.1⟩,d0,w,by omega,b9,D+1,fun d hd=>?_⟩
     obtain⟨d,rfl⟩:∃E,d=E+1:=⟨d-1,by omega⟩
     simp only[erC,exec,hf,hD d (by omega),g1,Sim.endRound,Bool.false_eq_true,if_false]
     rw[if_neg b6]
     exact hx
    split at q1
    .obtain ⟨rfl,rfl⟩:=g4
     exact go _ q1 (by simp) rfl
    .obtain ⟨rfl,rfl⟩:=g4
     exact go _ q1 (by simp) rfl
    .obtain ⟨rfl,rfl⟩:=g4
     exact go _ q1 (by simp) rfl
    .exact aB q1
   .exact aB q1
  .exact aB hk
 |.block id c,R,K,r,C,n,h,e,t,s,hk,he,j,w,u=>by
  unfold dB at hk
  obtain⟨x1,M,h1,n1,C1,t1,s1,Y,k2,k3,k4,k5,k6,D,k7⟩:=bZ F B c _ r C n h e t s hk he j w u
  have go:∀(x:Ex),(∀d,D<=d->(match exec T d lim rd (erC c) {t:=t,s:=s}with|some (.exit i,σ)=>if i=id then some (.normal,σ)else some (.exit i,σ)|r=>r)=some (x,{t:=t1,s:=s1}))->K x M h1 n1=some r->Res T N lim rd (erC (.block id c)) C n h t s K r:=by
   intro x hx hK
   refine⟨x,M,h1,n1,C1,t1,s1,hK,k2,k3,k4,k5,k6,D+1,fun d hd=>?_⟩
   obtain⟨d,rfl⟩:∃E,d=E+1:=⟨d-1,by omega⟩
   rw[erC,exec]
   exact hx d (by omega)
  cases x1 with
  |normal=>exact go .normal (fun d hd=>by rw[k7 d hd]) Y
  |ret=>exact go .ret (fun d hd=>by rw[k7 d hd]) Y
  |exit i=>
   simp only[aU]at Y
   by_cases M:i=id
   .subst M
    simp only[decide_true,cond_true]at Y
    exact go .normal (fun d hd=>by rw[k7 d hd];simp) Y
   .simp only[decide_eq_false M,cond_false]at Y
    exact go (.exit i) (fun d hd=>by rw[k7 d hd];simp[M]) Y
 |.loop keep kx c,R,K,r,C,n,h,e,t,s,hk,he,j,w,u=>by
  unfold dB at hk
  have hd:∀k,hget h k≠none->k<n:=fun k hk=>by
   cases S:hget h k with
   |none=>exact absurd S hk
   |some o=>obtain⟨pl,p1,_⟩:=j.hr.ob k o S;exact j.dom k pl p1
  obtain⟨L,w1,Z,w3,w4,V⟩:=gY hd j he hk
  rw[aY,Option.bind_eq_some_iff]at w1
  obtain⟨⟨x,st'⟩,hq,hK⟩:=w1
  obtain⟨C',U,s',p1,p2,p3,p4,D,p5⟩:=wS (T:=T) (rd:=rd) (N:=N) (lim:=lim) hd (fun K' r' C n h e t s hk he j w=>bZ F B c K' r' C n h e t s hk he j w u) B64 L _ t s x st' hq Z w3 w V
  exact⟨x,st'.e,st'.h,n,C',U,s',hK,p1,p2,p3,Nat.le_refl _,(Fr.canon j (.refl _ _ _) w4 V).trans p4,D,p5⟩
end
end Go.P
namespace Go.P
open Go.Sim (AV AO Hp Ent upd St IC IX Ex OpK CK Wf Out doOp Tab exec Foot wanted put popMark mapO fzI fzM fzC fz1 fz)
open Go.Sim (RV IFn)
structure PFn where
 ntmps:Nat
 res:List Sim.RV
 code:PC
 frz:Bool
 deriving Inhabited
noncomputable section
variable {R:Type}
def aW1:List PV->Nat->(Env->Option R)->Option R
 |[],_,K=>K []
 |x::xs,i,K=>fV x fun x=>aW1 xs (i+1) fun e=>K ((i,x)::e)
def resK (e:Env) (h:Heap) (n:Nat):List Sim.RV->(List PV->Option R)->Option R
 |[],K=>K []
 |.tmp i::rs,K=>getK e i fun v=>resK e h n rs fun vs=>K (v::vs)
 |.cellS i::rs,K=>getK e i fun p=>bT .loadS [p] h n fun v _ _=>resK e h n rs fun vs=>K (v::vs)
 |.cellA i m::rs,K=>getK e i fun p=>bT (.loadA m) [p] h n fun v _ _=>resK e h n rs fun vs=>K (v::vs)
def rzIK (h:Heap):Nat->PV->(PV->Option R)->Option R
 |0,_,_=>none
 |d+1,x,K=>match x with
  |.own k=>hK h k fun ob=>match ob with
   |.lst _ e _ rows=>K (.is e rows)
   |_=>none
  |.ref k o=>hK h k fun ob=>match ob with
   |.box cs=>dZ o cs fun cs=>mapK (rzIK h d) cs fun cs=>K (.ip cs)
   |_=>none
  |.v x=>K (.v x)
  |.is e rows=>K (.is e rows)
  |.ip cs=>K (.ip cs)
  |_=>none
def rzCK (h:Heap) (x:PV) (K:PV->Option R):Option R:=match x with
 |.fn f [] []=>K (.fn f [] [])
 |x=>rzIK h 4 x K
def rzCs (h:Heap):List PV->(List PV->Option R)->Option R
 |[],K=>K []
 |x::xs,K=>rzCK h x fun x=>rzCs h xs fun xs=>K (x::xs)
def rz1K (h:Heap) (x:PV) (K:PV->Option R):Option R:=match x with
 |.agg cs=>rzCs h cs fun cs=>K (.agg cs)
 |x=>rzCK h x K
def rz1s (h:Heap):List PV->(List PV->Option R)->Option R
 |[],K=>K []
 |x::xs,K=>rz1K h x fun x=>rz1s h xs fun xs=>K (x::xs)
def rzK (h:Heap) (x:PV) (K:PV->Option R):Option R:=match x with
 |.tup vs=>rz1s h vs fun vs=>K (.tup vs)
 |.map k=>hK h k fun ob=>match ob with
  |.mp es=>K (.im es)
  |_=>none
 |x=>rz1K h x K
def yE (C:Orc) (X:NX) (fn:PFn) (xs:List PV) (K:PV->Option R):Option R:=
 bif Nat.ble xs.length fn.ntmps then aW1 xs 0 fun e=>dB C X fn.code e [] 0 fun x e h n=>match x with
  |.exit _=>none
  |_=>resK e h n fn.res fun vs=>match vs with
   |[v]=>rzK h v K
   |vs=>rzK h (.tup vs) K
 else none
def runK (C:Orc) (X:NX) (fn:PFn) (xs:List PV) (h:Heap) (n:Nat) (K:PV->Heap->Nat->Option R):Option R:=
 bif Nat.ble xs.length fn.ntmps then aW1 xs 0 fun e=>dB C X fn.code e h n fun x e h n=>match x with
  |.exit _=>none
  |_=>resK e h n fn.res fun vs=>match vs with
   |[v]=>K v h n
   |vs=>K (.tup vs) h n
 else none
def putE:Env->List Nat->List PV->(Env->Option R)->Option R
 |e,[],[],K=>K e
 |e,p::ps,x::xs,K=>delK e [p] fun e=>putE ((p,x)::e) ps xs K
 |_,_,_,_=>none
def okG (NF:FuncId->Bool) (N:Nat) (ps:List Nat) (a b:PC):Option Unit:=if okL NF N ps a b=true then some ()else none
def yldK (C:Orc) (X:NX) (k:Nat) (xs:List PV) (h:Heap) (n:Nat) (K:PV->Heap->Nat->Option R):Option R:=
 hK h k fun ob=>match ob with
 |.loop N e ps a b false none=>bH (okG X.is N ps a b) fun _=>putE e ps xs fun e=>dB C X a e h n fun x e h n=>match x with
  |.normal=>hK h k fun ob=>match ob with
   |.loop N e' ps a b' false none=>gB h k (.loop N e' ps a b' true none) fun h=>dB C X b e h n fun x _ h n=>hK h k fun ob=>match ob with
    |.loop N e' ps a b' _ _=>match x with
     |.normal=>gB h k (.loop N e' ps a b' false none) fun h=>K (.v (.bool true)) h n
     |.exit i=>gB h k (.loop N e' ps a b' false (some (.exit i))) fun h=>K (.v (.bool false)) h n
     |.ret=>gB h k (.loop N e' ps a b' false (some .ret)) fun h=>K (.v (.bool false)) h n
    |_=>none
   |_=>none
  |_=>none
 |_=>none
abbrev PTab:=Nat->Option PFn
def OX (B:Orc) (NF NW:FuncId->Bool) (P:PTab):Nat->Orc×NX
 |0=>(fun f xs=>bif NF f then none else B f xs,⟨NF,NW,fun _ _ _ _ _=>none,fun _ _ _ _ _=>none⟩)
 |d+1=>(fun f xs=>bif NF f then none else match P f with
   |some fn=>bif fn.frz then yE (OX B NF NW P d).1 (OX B NF NW P d).2 fn xs some else(yE (OX B NF NW P d).1 (OX B NF NW P d).2 fn xs some).bind fun v=>bif gndP 4 v then none else some v
   |none=>B f xs,
  ⟨NF,NW,fun f xs h n K=>match P f with
   |some fn=>runK (OX B NF NW P d).1 (OX B NF NW P d).2 fn xs h n K
   |none=>none,fun k xs h n K=>yldK (OX B NF NW P d).1 (OX B NF NW P d).2 k xs h n K⟩)
def Od (B:Orc) (NF NW:FuncId->Bool) (P:PTab) (d:Nat):Orc:=(OX B NF NW P d).1
def Xd (B:Orc) (NF NW:FuncId->Bool) (P:PTab) (d:Nat):NX:=(OX B NF NW P d).2
end
def toI (n:Bool) (fn:PFn):IFn:={ntmps:=fn.ntmps,res:=fn.res,body:=erC fn.code,pure:= !n,frz:= !n&&fn.frz}
section
variable {R:Type}
def tF:List PV->Nat->Env
 |[],_=>[]
 |x::xs,i=>(i,x)::tF xs (i+1)
theorem qZ:∀(xs:List PV) (i:Nat) (K:Env->Option R),aW1 xs i K=K (tF xs i)
 |[],i,K=>rfl
 |x::xs,i,K=>by simp[aW1,cV1,tF,qZ xs]
theorem nO:∀(xs:List PV) (i j:Nat) (v:PV),eget (tF xs i) j=some v->i<=j/\xs[j-i]? =some v
 |[],i,j,v,h=>by simp[tF,eget]at h
 |x::xs,i,j,v,h=>by
  simp only[tF,eget]at h
  split at h
  .rename_i e;subst e;cases h;simp
  .obtain ⟨h1,h2⟩:=nO xs (i+1) j v h
   refine⟨by omega,?_⟩
   rw[show j-i=(j-(i+1))+1 by omega]
   simpa using h2
variable {C:Cx} {n:Nat} {h:Heap} {lim:Nat} {s:Hp} {e:Env} {t:List AV}
theorem wU {k:OpK} {y:AV} {K:PV->Heap->Nat->Option R} {r:R} (hs:yA C n h s k [y] K r):
  ∃w z,K w h n=some r/\(doOp (Sim.look s.h) 0 0 k [y]).map (·.v)=some z/\RV C w z:=by
 obtain⟨w,z,h1,h2,a⟩:=hs
 exact⟨w,z,a,by rw[h1 0 0];rfl,h2⟩
theorem nP (b:Mem C n h lim s) (he:EnvR C e t):∀{g:List Sim.RV} {K:List PV->Option R} {r:R},resK e h n g K=some r->
  ∃vs a,K vs=some r/\mapO (Sim.readRes (Sim.look s.h) t) g=some a/\LR (RV C) vs a
 |[],K,r,hk=>⟨[],[],hk,rfl,.nil⟩
 |.tmp i::g,K,r,hk=>by
  unfold resK at hk
  rw[dN,Option.bind_eq_some_iff]at hk
  obtain⟨v,hv,hk⟩:=hk
  obtain⟨y,h1,h2⟩:=he i v hv
  obtain⟨vs,a,c,d,f⟩:=nP b he hk
  exact⟨_,y::a,c,by simp[mapO,Sim.readRes,h1,d],.cons h2 f⟩
 |.cellS i::g,K,r,hk=>by
  unfold resK at hk
  rw[dN,Option.bind_eq_some_iff]at hk
  obtain⟨v,hv,hk⟩:=hk
  obtain⟨y,h1,h2⟩:=he i v hv
  obtain⟨w,z,q1,q2,q3⟩:=wU (pD b (.cons h2 .nil) hk)
  obtain⟨vs,a,c,d,f⟩:=nP b he q1
  exact⟨_,z::a,c,by simp only[mapO,Sim.readRes,h1,q2,d],.cons q3 f⟩
 |.cellA i m::g,K,r,hk=>by
  unfold resK at hk
  rw[dN,Option.bind_eq_some_iff]at hk
  obtain⟨v,hv,hk⟩:=hk
  obtain⟨y,h1,h2⟩:=he i v hv
  obtain⟨w,z,q1,q2,q3⟩:=wU (pE b (.cons h2 .nil) hk)
  obtain⟨vs,a,c,d,f⟩:=nP b he q1
  exact⟨_,z::a,c,by simp only[mapO,Sim.readRes,h1,q2,d],.cons q3 f⟩
theorem gT1 {L:Nat->Option AO} {d id ver e o:Nat} {bx:Bool} {ty:TypeId} {esz:Nat} {els:List (List AV)} {row cs:List AV} (a:L id=some (.arr bx ty esz ver els)) (hr:els[e]? =some row) (hc:mapO (fzI L 0 d) (row.drop o)=some cs):fzI L 0 (d+1) (.ptr id ver e o)=some (.ip cs):=by
 simp[fzI,a,hr,hc]
theorem aX1 (i:Mem C n h lim s):∀(d:Nat) (x:PV) (y:AV) (K:PV->Option R) (r:R),rzIK h d x K=some r->RV C x y->∃u w,K u=some r/\fzI (Sim.look s.h) 0 (d+2) y=some w/\RC false u w
 |0,x,y,K,r,hk,_=>by unfold rzIK at hk;exact aB hk
 |d+1,x,y,K,r,hk,hv=>by
  unfold rzIK at hk
  cases x with
  |own k=>
   simp only[dJ,Option.bind_eq_some_iff]at hk
   obtain⟨ob,hg,hk⟩:=hk
   cases ob with
   |lst ty e g rows=>
    rcases uR hv with⟨id,ver,A,len,f,rfl⟩|⟨f,rfl⟩
    .obtain ⟨_,rfl,hlen,els,m,hr,p,_⟩:=gH i hg f
     subst hlen
     exact⟨_,_,hk,dM1 (d:=d+1) (Nat.zero_le _) m hr p,hr.is⟩
    .have:=jA i hg f
     subst this
     exact⟨_,_,hk,rfl,.isn⟩
   |_=>exact aB hk
  |ref k o=>
   simp only[dJ,Option.bind_eq_some_iff]at hk
   obtain⟨ob,hg,hk⟩:=hk
   cases ob with
   |box cs=>
    obtain⟨t,q⟩:=bX _ _ _ _ hk
    obtain⟨id,ver,e,len,f,rfl⟩:=gG hv
    obtain⟨_,ty,esz,row,m,hl⟩:=pC i hg f
    have c:∀(xs:List PV) (ys:List AV) (K:List PV->Option R) (r:R),mapK (rzIK h d) xs K=some r->LR (RV C) xs ys->
      ∃xs' b,K xs'=some r/\mapO (fzI (Sim.look s.h) 0 (d+2)) ys=some b/\LR (RC false) xs' b:=by
     intro xs
     induction xs with
     |nil=>
      intro ys K r hk hl
      rw[hl.inv_nil]
      unfold mapK at hk
      exact⟨[],[],hk,rfl,.nil⟩
     |cons a as ih=>
      intro ys K r hk hl
      obtain⟨y,b,rfl,h1,h2⟩:=hl.inv_cons
      unfold mapK at hk
      obtain⟨a',b',t,q,z⟩:=aX1 i d a y _ r hk h1
      obtain⟨j,l,q1,q2,q3⟩:=ih b _ r t h2
      exact⟨a'::j,b'::l,q1,by simp only[mapO,q,q2],.cons z q3⟩
    obtain⟨xs',b,q1,q2,q3⟩:=c _ _ _ r q (hl.drop o)
    refine⟨_,.ip b,q1,?_,.ip q3.1 q3.2⟩
    exact gT1 m rfl q2
   |_=>exact aB hk
  |v x=>
   rw[rv_v hv]
   exact⟨_,_,hk,rfl,.v x⟩
  |is e rows=>
   rcases wF hv with⟨rows',rfl,hr⟩|⟨rfl,rfl⟩
   .exact ⟨_,_,hk,rfl,hr.is⟩
   .exact ⟨_,_,hk,rfl,.isn⟩
  |ip cs=>
   obtain⟨cs',rfl,hl⟩:=uQ hv
   exact⟨_,_,hk,rfl,.ip hl.1 hl.2⟩
  |_=>exact aB hk
theorem aY1 {L:Nat->Option AO} {y c:AV} (h:fzI L 0 6 y=some c):fzC L 0 y=some c:=by
 cases y with
 |sl=>simp only[fzC,Nat.not_lt_zero,if_false];exact h
 |ptr=>simp only[fzC,Nat.not_lt_zero,if_false];exact h
 |map=>simp[fzI]at h
 |fn v a b=>simp[fzI]at h
 |_=>exact h
theorem aZ1 {L:Nat->Option AO} {y a:AV} (h:fzC L 0 y=some a) (hy:∀cs,y≠.agg cs):fz1 L 0 y=some a:=by
 cases y with
 |agg cs=>exact absurd rfl (hy cs)
 |_=>exact h
theorem dT1 {L:Nat->Option AO} {y a:AV} (h:fz1 L 0 y=some a) (hy:∀cs,y≠.tup cs) (b:∀id,y≠.map id):fz L 0 y=some a:=by
 cases y with
 |tup cs=>exact absurd rfl (hy cs)
 |map id=>exact absurd rfl (b id)
 |_=>exact h
theorem bA1 (d:Mem C n h lim s) {x:PV} {y:AV} {K:PV->Option R} {r:R} (hk:rzCK h x K=some r) (hv:RV C x y):∃a b,K a=some r/\fzC (Sim.look s.h) 0 y=some b/\RC false a b:=by
 unfold rzCK at hk
 split at hk
 .rename_i f
  obtain⟨a',b',rfl,h1,h2⟩:=qK hv
  rw[h1.inv_nil,h2.inv_nil]
  exact⟨_,_,hk,rfl,.fn rfl rfl (fun j x y h=>by simp at h) (fun j x y h=>by simp at h)⟩
 .obtain ⟨a,b,h1,h2,c⟩:=aX1 d 4 x y K r hk hv
  exact⟨a,b,h1,aY1 h2,c⟩
theorem wV (d:Mem C n h lim s):∀{xs:List PV} {ys:List AV} {K:List PV->Option R} {r:R},rzCs h xs K=some r->LR (RV C) xs ys->∃xs' a,K xs'=some r/\mapO (fzC (Sim.look s.h) 0) ys=some a/\LR (RC false) xs' a
 |[],ys,K,r,hk,hl=>by rw[hl.inv_nil];exact⟨[],[],hk,rfl,.nil⟩
 |x::xs,ys,K,r,hk,hl=>by
  obtain⟨y,a,rfl,h1,h2⟩:=hl.inv_cons
  unfold rzCs at hk
  obtain⟨a',b',e,f,g⟩:=bA1 d hk h1
  obtain⟨b,c,q1,q2,q3⟩:=wV d e h2
  exact⟨a'::b,b'::c,q1,by simp only[mapO,f,q2],.cons g q3⟩
theorem bB1 {x:PV} {y:AV} (hv:RV C x y) (a:∀cs,x≠.agg cs) (b:x≠.undef):∀cs,y≠.agg cs:=by
 intro cs hy
 subst hy
 cases hv with
 |cl h=>cases h;exact a _ rfl
 |undef=>exact b rfl
 |ownn _ hy=>cases hy
 |agg=>exact a _ rfl
theorem bC1 {x:PV} {y:AV} (hv:RV C x y) (a:∀cs,x≠.tup cs) (b:x≠.undef):∀cs,y≠.tup cs:=by
 intro cs hy
 subst hy
 cases hv with
 |cl h=>cases h;exact a _ rfl
 |undef=>exact b rfl
 |ownn _ hy=>cases hy
 |tup=>exact a _ rfl
theorem bD1 {x:PV} {y:AV} (hv:RV C x y) (b:∀k,x≠.map k) (a:x≠.undef):∀id,y≠.map id:=by
 intro id hy
 subst hy
 cases hv with
 |cl h=>cases h
 |undef=>exact a rfl
 |ownn _ hy=>cases hy
 |map=>exact b _ rfl
theorem bE1 (d:Mem C n h lim s) {x:PV} {y:AV} {K:PV->Option R} {r:R} (hk:rz1K h x K=some r) (hv:RV C x y):∃a b,K a=some r/\fz1 (Sim.look s.h) 0 y=some b/\RC false a b:=by
 unfold rz1K at hk
 split at hk
 .rename_i cs
  obtain⟨cs',rfl,hl⟩:=iR hv
  obtain⟨xs',c,j,k,f⟩:=wV d hk hl
  exact⟨_,.agg c,j,by simp only[fz1,k,Option.map_some],.agg f.1 f.2⟩
 .rename_i i
  obtain⟨a,b,h1,h2,g⟩:=bA1 d hk hv
  by_cases e:x=.undef
  .subst e;exact aB hk
  .exact ⟨a,b,h1,aZ1 h2 (bB1 hv i e),g⟩
theorem wW (d:Mem C n h lim s):∀{xs:List PV} {ys:List AV} {K:List PV->Option R} {r:R},rz1s h xs K=some r->LR (RV C) xs ys->∃xs' a,K xs'=some r/\mapO (fz1 (Sim.look s.h) 0) ys=some a/\LR (RC false) xs' a
 |[],ys,K,r,hk,hl=>by rw[hl.inv_nil];exact⟨[],[],hk,rfl,.nil⟩
 |x::xs,ys,K,r,hk,hl=>by
  obtain⟨y,a,rfl,h1,h2⟩:=hl.inv_cons
  unfold rz1s at hk
  obtain⟨a',b',e,f,g⟩:=bE1 d hk h1
  obtain⟨b,c,q1,q2,q3⟩:=wW d e h2
  exact⟨a'::b,b'::c,q1,by simp only[mapO,f,q2],.cons g q3⟩
theorem eU1 (c:Mem C n h lim s) {x:PV} {y:AV} {K:PV->Option R} {r:R} (hk:rzK h x K=some r) (hv:RV C x y):∃a b,K a=some r/\fz (Sim.look s.h) 0 y=some b/\RC false a b:=by
 unfold rzK at hk
 split at hk
 .rename_i vs
  obtain⟨cs',rfl,hl⟩:=aF1 hv
  obtain⟨xs',f,p,q,g⟩:=wW c hk hl
  exact⟨_,.tup f,p,by simp only[fz,q,Option.map_some],.tup g.1 g.2⟩
 .rename_i k
  rw[dJ,Option.bind_eq_some_iff]at hk
  obtain⟨ob,hg,hk⟩:=hk
  cases ob with
  |mp es=>
   obtain⟨id,ver,e,len,j,rfl⟩:=sO hv
   obtain⟨_,es',l,he⟩:=cZ1 c hg j
   refine⟨_,.im es',hk,?_,he.er.im⟩
   simp only[fz,Nat.not_lt_zero,if_false,l]
   exact congrArg (Option.map AV.im) (eP1 he)
  |_=>exact aB hk
 .rename_i o m
  obtain⟨a,b,h1,h2,i⟩:=bE1 c hk hv
  by_cases d:x=.undef
  .subst d;exact aB hk
  .exact ⟨a,b,h1,dT1 h2 (bC1 hv o d) (bD1 hv m d),i⟩
variable {T:Tab} {O:Orc} {X:NX}
theorem wX (s:∀f xs v,O f xs=some v->FnOK T f xs v) (u:NOK T X) {fn:PFn} (j:okP X.is fn.ntmps false fn.code=true) {xs:List PV} {ys:List AV} {v:PV} (hl:LR (RC false) xs ys) (hk:yE O X fn xs some=some v):
  ∃D,∀d,D<=d->∃w s' y,Sim.body (exec T d) 0 (toI false fn) ys {h:=[],n:=0}=some (w,s')/\Sim.fz (Sim.look s'.h) 0 w=some y/\RC false v y:=by
 unfold yE at hk
 cases c:Nat.ble xs.length fn.ntmps with
 |false=>rw[c]at hk;exact aB hk
 |true=>
  rw[c,cond_true,qZ]at hk
  have c:xs.length<=fn.ntmps:=by simpa[Nat.ble_eq]using c
  have hlen:=hl.1
  have r:Mem (fun _=>none) 0 [] 0 ({h:=[],n:=0}:Hp):=⟨⟨fun k po h=>by simp[hget]at h,fun k k' id v e l v' e' l' a=>absurd rfl a⟩,fun k pl h=>(by cases h),trivial,Nat.le_refl _⟩
  have he:EnvR (fun _=>none) (tF xs 0) (ys++List.replicate (fn.ntmps-ys.length) .undef):=fun i v hv=>by
   obtain⟨_,h2⟩:=nO xs 0 i v hv
   obtain⟨y,o,q⟩:=hl.get (by simpa using h2)
   exact⟨y,by rw[List.getElem?_append_left (List.getElem?_eq_some_iff.1 o).1];exact o,.cl q⟩
  obtain⟨x,e',h',n',C',C,s',q1,q2,q3,q4,q5,q6,D,q7⟩:=bZ (T:=T) (rd:=false) (lim:=0) (N:=fn.ntmps) s u fn.code _ v _ 0 [] _ (ys++List.replicate (fn.ntmps-ys.length) .undef) _ hk he r (by simp;omega) j
  have fin:(∀i,x≠.exit i)->(resK e' h' n' fn.res fun vs=>match vs with|[v]=>rzK h' v some|vs=>rzK h' (.tup vs) some)=some v->
    ∃D,∀d,D<=d->∃w s' y,Sim.body (exec T d) 0 (toI false fn) ys {h:=[],n:=0}=some (w,s')/\Sim.fz (Sim.look s'.h) 0 w=some y/\RC false v y:=by
   intro z hr
   obtain⟨vs,p,r1,r2,r3⟩:=nP q3 q2 hr
   obtain⟨w,y,p1,p2,p3⟩:∃w y,Sim.results (Sim.look s'.h) C fn.res=some w/\Sim.fz (Sim.look s'.h) 0 w=some y/\RC false v y:=by
    split at r1
    .rename_i v1
     obtain⟨w,E,rfl,A,B⟩:=r3.inv_cons
     have:=B.inv_nil
     subst this
     obtain⟨F,m,z1,z2,z3⟩:=eU1 q3 r1 A
     cases z1
     exact⟨w,m,by simp only[Sim.results,r2],z2,z3⟩
    .rename_i g
     obtain⟨F,m,z1,z2,z3⟩:=eU1 q3 r1 (y:=.tup p) (.tup r3.1 r3.2)
     cases z1
     refine⟨.tup p,m,?_,z2,z3⟩
     simp only[Sim.results,r2]
     split
     .rename_i w hw
      cases hw
      have:=r3.1
      rcases vs with _|⟨a,_|⟨b,t⟩⟩<;>simp at this
      exact absurd rfl (g a)
     .rename_i h1 h2;cases h2;rfl
     .rename_i h1;cases h1
   refine⟨D,fun d hd=>⟨w,s',y,?_,p2,p3⟩⟩
   simp only[Sim.body,toI,q7 d hd]
   cases x with
   |exit i=>exact absurd rfl (z i)
   |normal=>simp only[p1,Option.map_some]
   |ret=>simp only[p1,Option.map_some]
  cases x with
  |exit i=>exact aB q1
  |normal=>exact fin (fun i h=>by cases h) q1
  |ret=>exact fin (fun i h=>by cases h) q1
theorem gU1 (m:∀f xs v,O f xs=some v->FnOK T f xs v) (o:NOK T X) {fn:PFn} (g:okP X.is fn.ntmps false fn.code=true) {xs:List PV} {ys:List AV} {h:Heap} {n:Nat} {K:PV->Heap->Nat->Option R} {r:R} {C:Cx} {s:Hp} {lim:Nat}
  (hk:runK O X fn xs h n K=some r) (hl:LR (RV C) xs ys) (l:Mem C n h lim s):
  ∃v h' n' C' y s',K v h' n'=some r/\RV C' v y/\Mem C' n' h' lim s'/\n<=n'/\Fr C h s C' h' s'/\∃D,∀d,D<=d->Sim.body (exec T d) lim (toI true fn) ys s=some (y,s'):=by
 unfold runK at hk
 cases c:Nat.ble xs.length fn.ntmps with
 |false=>rw[c]at hk;exact aB hk
 |true=>
  rw[c,cond_true,qZ]at hk
  have c:xs.length<=fn.ntmps:=by simpa[Nat.ble_eq]using c
  have hlen:=hl.1
  have he:EnvR C (tF xs 0) (ys++List.replicate (fn.ntmps-ys.length) .undef):=fun i v hv=>by
   obtain⟨_,h2⟩:=nO xs 0 i v hv
   obtain⟨y,j,k⟩:=hl.get (by simpa using h2)
   exact⟨y,by rw[List.getElem?_append_left (List.getElem?_eq_some_iff.1 j).1];exact j,k⟩
  obtain⟨x,e',h',n',C',z,s',q1,q2,q3,q4,q5,q6,D,q7⟩:=bZ (T:=T) (rd:=false) (lim:=lim) (N:=fn.ntmps) m o fn.code _ r _ n h _ (ys++List.replicate (fn.ntmps-ys.length) .undef) s hk he l (by simp;omega) g
  have fin:(∀i,x≠.exit i)->(resK e' h' n' fn.res fun vs=>match vs with|[v]=>K v h' n'|vs=>K (.tup vs) h' n')=some r->
    ∃v h' n' C' y s',K v h' n'=some r/\RV C' v y/\Mem C' n' h' lim s'/\n<=n'/\Fr C h s C' h' s'/\∃D,∀d,D<=d->Sim.body (exec T d) lim (toI true fn) ys s=some (y,s'):=by
   intro p hr
   obtain⟨vs,A,r1,r2,r3⟩:=nP q3 q2 hr
   obtain⟨v,w,p1,p2,p3⟩:∃v w,K v h' n'=some r/\Sim.results (Sim.look s'.h) z fn.res=some w/\RV C' v w:=by
    split at r1
    .rename_i v1
     obtain⟨w,B,rfl,q,u⟩:=r3.inv_cons
     have:=u.inv_nil
     subst this
     exact⟨v1,w,r1,by simp only[Sim.results,r2],q⟩
    .rename_i e
     refine⟨.tup vs,.tup A,r1,?_,.tup r3.1 r3.2⟩
     simp only[Sim.results,r2]
     split
     .rename_i w hw
      cases hw
      have:=r3.1
      rcases vs with _|⟨a,_|⟨b,t⟩⟩<;>simp at this
      exact absurd rfl (e a)
     .rename_i h1 h2;cases h2;rfl
     .rename_i h1;cases h1
   refine⟨v,h',n',C',w,s',p1,p3,q3,q5,q6,D,fun d hd=>?_⟩
   simp only[Sim.body,toI,q7 d hd]
   cases x with
   |exit i=>exact absurd rfl (p i)
   |normal=>simp only[p2,Option.map_some]
   |ret=>simp only[p2,Option.map_some]
  cases x with
  |exit i=>exact aB q1
  |normal=>exact fin (fun i h=>by cases h) q1
  |ret=>exact fin (fun i h=>by cases h) q1
theorem wY {C:Cx}:∀{ps:List Nat} {xs:List PV} {ys:List AV} {e:Env} {t:List AV} {K:Env->Option R} {r:R},putE e ps xs K=some r->EnvR C e t->LR (RV C) xs ys->ps.all (fun p=>Nat.blt p t.length)=true->
  ∃e',K e'=some r/\EnvR C e' (Sim.putAll t ps ys)/\ps.length=ys.length/\(Sim.putAll t ps ys).length=t.length
 |[],[],ys,e,t,K,r,hk,he,hl,_=>by
  rw[hl.inv_nil]
  exact⟨e,by unfold putE at hk;exact hk,he,rfl,rfl⟩
 |p::ps,x::xs,ys,e,t,K,r,hk,he,hl,hp=>by
  obtain⟨y,j,rfl,h1,h2⟩:=hl.inv_cons
  unfold putE at hk
  rw[cO]at hk
  simp only[List.all_cons,Bool.and_eq_true,Nat.blt_eq]at hp
  have a:EnvR C ((p,x)::edel e [p]) (t.set p y):=.put hp.1 h1 (fun i w hw=>by
   obtain⟨z,p1,p2,p3⟩:=he.edel [p] i w hw
   exact⟨z,p1,p2,fun b=>p3 (by simp[b])⟩)
  obtain⟨c,d,f,g,h⟩:=wY hk a h2 (by simpa using hp.2)
  exact⟨c,d,f,by simp[g],by simpa[Sim.putAll]using h⟩
 |[],_::_,_,_,_,_,_,hk,_,_,_=>by unfold putE at hk;exact aB hk
 |_::_,[],_,_,_,_,_,hk,_,_,_=>by unfold putE at hk;exact aB hk
theorem gV1 (hO:∀f xs v,O f xs=some v->FnOK T f xs v) (hX:NOK T X) {k:Nat} {xs:List PV} {ys:List AV} {h:Heap} {n:Nat} {K:PV->Heap->Nat->Option R} {r:R} {C:Cx} {s:Hp} {lim id ver e1 len:Nat}
  (hk:yldK O X k xs h n K=some r) (hl:LR (RV C) xs ys) (hC:C k=some (.atp id ver e1 len)) (hM:Mem C n h lim s):
  ∃v h' n' C' y s',K v h' n'=some r/\RV C' v y/\Mem C' n' h' lim s'/\n<=n'/\Fr C h s C' h' s'/\∃D,∀d,D<=d->Sim.round (exec T d) lim id ys s=some (y,s'):=by
 unfold yldK at hk
 rw[dJ,Option.bind_eq_some_iff]at hk
 obtain⟨ob,L,hk⟩:=hk
 split at hk
 .rename_i N e ps a b
  rw[aY,Option.bind_eq_some_iff]at hk
  obtain⟨_,o,hk⟩:=hk
  unfold okG at o
  split at o
  .rename_i g
   unfold okL at g
   rw[Bool.and_eq_true,Bool.and_eq_true]at g
   have o1:=g.1.1
   have o2:=g.1.2
   have o3:=g.2
   clear o g
   obtain⟨J,st,pend,tmps,g1,g2,g3,g4⟩:=qY hM L hC
   obtain⟨rfl,rfl⟩:=g4
   subst g2
   obtain⟨e2,hk,he,W,Y⟩:=wY hk g3 hl o1
   obtain⟨x,e',h1,n1,C1,t1,P,q1,q2,q3,q4,q5,q6,D1,q7⟩:=bZ (T:=T) (rd:=true) (lim:=lim) (N:=tmps.length) hO hX a _ r _ n h _ _ s hk he hM Y o2
   cases x with
   |exit i=>exact aB q1
   |ret=>exact aB q1
   |normal=>
   simp only[dJ,Option.bind_eq_some_iff]at q1
   obtain⟨p,l,q1⟩:=q1
   have place:∀{C1:Cx} {h1:Heap} {P:Hp} {p:PObj},Fr C h s C1 h1 P->hget h1 k=some p->dW p=true->C1 k=some (.atp id ver e1 len):=fun{C1 h1 P p} hf hg hb=>by
    obtain⟨o',p1,p2⟩:=hf.kd k _ L
    rw[hg]at p1
    cases p1
    rw[(p2 hb).2,hC]
   split at q1
   .rename_i N2 V E a2 b2
    have z:=place q6 l rfl
    obtain⟨_,st,pend,j,w1,w2,w3,w4⟩:=qY q3 l z
    obtain⟨rfl,rfl⟩:=w4
    subst w2
    have q1:=cK _ _ _ _ _ q1
    have u:=(q3.hr.lt (by rw[l];simp) z)
    obtain⟨m1,m2⟩:=pA q3 (po':=.loop j.length V E a2 b2 true none) (ao:=.loop .busy none j E (erC a2) (erC b2)) l z ⟨u.1,u.2,.busy,none,j,by rw[Sim.look_upd,if_pos ⟨rfl,by rw[w1];rfl⟩],rfl,w3,rfl⟩ rfl
    obtain⟨x2,e3,h2,n2,C2,t2,S,z1,z2,z3,z4,z5,z6,D2,z7⟩:=bZ (T:=T) (rd:=true) (lim:=lim) (N:=tmps.length) hO hX b _ r _ n1 _ _ _ _ q1 q2 m1 q4 o3
    simp only[Option.bind_eq_some_iff]at z1
    obtain⟨b4,m,z1⟩:=z1
    have G:=(q6.trans m2).trans z6
    split at z1
    .rename_i N3 F q a3 b3 U b0
     have A:=place G m rfl
     obtain⟨_,b5,a0,c,v1,v2,v3,v4⟩:=qY z3 m A
     subst v2
     have w:=(z3.hr.lt (by rw[m];simp) A)
     have fin:∀(fn:Option Ex) (st:LoopState) (B:Option IC) (bv:Bool),StR false fn st B->(gB h2 k (.loop c.length F q a3 b3 false fn) fun h=>K (.v (.bool bv)) h n2)=some r->
       (∀s',Sim.endRound id S st B=some s'->∀d,D2<=d->(match exec T d lim true (erC b) {t:=t1,s:={h:=upd P.h id (.loop .busy none j E (erC a2) (erC b2)),n:=P.n}}with
        |some (.normal,τ)=>(Sim.endRound id τ.s .ready none).map fun s=>(AV.bool true,s)
        |some (.ret,τ)=>(Sim.endRound id τ.s .done (some .ret)).map fun s=>(AV.bool false,s)
        |some (.exit i,τ)=>(Sim.endRound id τ.s .done (some (.exit i))).map fun s=>(AV.bool false,s)
        |none=>none)=some (AV.bool bv,s'))->
       ∃v h' n' C' y s',K v h' n'=some r/\RV C' v y/\Mem C' n' h' lim s'/\n<=n'/\Fr C h s C' h' s'/\∃D,∀d,D<=d->Sim.round (exec T d) lim id ys s=some (y,s'):=by
      intro fn st B bv Z hk M
      have hk:=cK _ _ _ _ _ hk
      obtain⟨m3,m4⟩:=pA z3 (po':=.loop c.length F q a3 b3 false fn) (ao:=.loop st B c q (erC a3) (erC b3)) m A ⟨w.1,w.2,st,B,c,by rw[Sim.look_upd,if_pos ⟨rfl,by rw[v1];rfl⟩],rfl,v3,Z⟩ rfl
      refine⟨_,_,_,_,.v (.bool bv),_,hk,.cl (.v _),m3,by omega,G.trans m4,D1+D2,fun d hd=>?_⟩
      have H:Sim.endRound id S st B=some {h:=upd S.h id (.loop st B c q (erC a3) (erC b3)),n:=S.n}:=by simp only[Sim.endRound,v1]
      simp only[Sim.round,g1]
      rw[if_pos ⟨J,W⟩,q7 d (by omega)]
      simp only[w1]
      exact M _ H d (by omega)
     cases x2 with
     |normal=>exact fin none .ready none true ⟨rfl,rfl⟩ z1 (fun s' hs' d hd=>by rw[z7 d hd];simp only[hs',Option.map_some])
     |exit i=>exact fin (some (.exit i)) .done (some (.exit i)) false ⟨rfl,rfl⟩ z1 (fun s' hs' d hd=>by rw[z7 d hd];simp only[hs',Option.map_some])
     |ret=>exact fin (some .ret) .done (some .ret) false ⟨rfl,rfl⟩ z1 (fun s' hs' d hd=>by rw[z7 d hd];simp only[hs',Option.map_some])
    .exact aB z1
   .exact aB q1
  .cases o
 .exact aB hk
theorem dU1 {B:Orc} {NF NW:FuncId->Bool} {P:PTab} (d:Nat):(OX B NF NW P d).2.is=NF:=by cases d<;>rfl
theorem vD {f:FuncId} {ifn:IFn} {ys:List AV} {v:PV} (b:T.memo f ys=none) (h:∃D,∀d,D<=d->∃w s' y,Sim.body (exec T d) 0 ifn ys {h:=[],n:=0}=some (w,s')/\Sim.fz (Sim.look s'.h) 0 w=some y/\RC false v y):
  ∃D,∀d,D<=d->∃y,Sim.runP T (exec T d) f ifn ys=some y/\RC false v y:=by
 obtain⟨D,a⟩:=h
 refine⟨D,fun d hd=>?_⟩
 obtain⟨w,s',y,c,e,g⟩:=a d hd
 exact⟨y,by simp only[Sim.runP,b,c,e],g⟩
theorem jC1 {B:Orc} {NF NW:FuncId->Bool} {P:PTab} (g:∀f xs v,NF f=false->B f xs=some v->FnOK T f xs v) (j:∀f fn,P f=some fn->T f=some (toI (NF f) fn)/\okP NF fn.ntmps false fn.code=true/\∀ys,T.memo f ys=none):
  ∀d,(∀f xs v,(OX B NF NW P d).1 f xs=some v->FnOK T f xs v)/\NOK T (OX B NF NW P d).2
 |0=>⟨fun f xs v h=>by
   simp only[OX]at h
   cases hn:NF f with
   |true=>rw[hn]at h;exact aB h
   |false=>rw[hn]at h;exact g f xs v hn h,⟨fun f xs h n K r C s lim ys l hk=>by simp[OX]at hk,fun k xs h n K r C s lim ys id ver e len hk=>by simp[OX]at hk⟩⟩
 |d+1=>by
  obtain⟨i1,b⟩:=jC1 g j d
  refine⟨fun f xs v h=>?_,⟨fun f xs h n K r C s lim ys l hk hl i=>?_,fun k xs h n K r C s lim ys id ver e len hk hl o i=>?_⟩⟩
  .simp only[OX]at h
   cases hn:NF f with
   |true=>rw[hn]at h;exact aB h
   |false=>
    rw[hn,cond_false]at h
    split at h
    .rename_i fn a
     obtain⟨h1,h2,c⟩:=j f fn a
     rw[hn]at h1
     cases hz:fn.frz with
     |true=>
      rw[hz,cond_true]at h
      exact⟨toI false fn,h1,rfl,fun _=>by simp[toI,hz],fun ys hl=>vD (c ys) (wX i1 b (by rw[dU1];exact h2) hl h)⟩
     |false=>
      rw[hz,cond_false,Option.bind_eq_some_iff]at h
      obtain⟨v',h,hg⟩:=h
      cases hq:gndP 4 v' with
      |true=>rw[hq]at hg;exact aB hg
      |false=>
       rw[hq]at hg
       cases hg
       exact⟨toI false fn,h1,rfl,fun m=>(by rw[hq]at m;cases m),fun ys hl=>vD (c ys) (wX i1 b (by rw[dU1];exact h2) hl h)⟩
    .exact g f xs v hn h
  .simp only[OX]at l hk
   split at hk
   .rename_i fn a
    obtain⟨h1,h2,c⟩:=j f fn a
    rw[l]at h1
    obtain⟨v,h',n',C',y,s',p1,p2,p3,p4,p5,D,p6⟩:=gU1 i1 b (by rw[dU1];exact h2) hk hl i
    refine⟨v,h',n',C',y,s',p1,p2,p3,p4,p5,⟨_,h1,rfl,rfl⟩,D,fun d hd=>?_⟩
    simp only[Sim.callF,h1]
    exact p6 d hd
   .exact aB hk
  .simp only[OX]at hk
   exact gV1 i1 b hk hl o i
theorem gW1 {B:Orc} {NF NW:FuncId->Bool} {P:PTab} (a:∀f xs v,NF f=false->B f xs=some v->FnOK T f xs v) (b:∀f fn,P f=some fn->T f=some (toI (NF f) fn)/\okP NF fn.ntmps false fn.code=true/\∀ys,T.memo f ys=none) (d:Nat) (f:FuncId) (xs:List PV) (v:PV) (h:Od B NF NW P d f xs=some v):FnOK T f xs v:=(jC1 a b d).1 f xs v h
theorem jV1 {B:Orc} {NF NW:FuncId->Bool} {P:PTab} {f:FuncId} {fn:PFn} (a:NF f=false) (h:P f=some fn) (b:fn.frz=true) (d:Nat) (xs:List PV):Od B NF NW P (d+1) f xs=yE (Od B NF NW P d) (Xd B NF NW P d) fn xs some:=by
 simp only[Od,Xd,OX,h,a,b,cond_false,cond_true]
theorem jW1 {R:Type} {B:Orc} {NF NW:FuncId->Bool} {P:PTab} {f:FuncId} {fn:PFn} (h:P f=some fn) (d:Nat) (xs:List PV) (a:Heap) (n:Nat) (K:PV->Heap->Nat->Option R):(Xd B NF NW P (d+1)).run f xs a n K=runK (Od B NF NW P d) (Xd B NF NW P d) fn xs a n K:=by
 simp only[Od,Xd,OX,h]
theorem bF1 {B:Orc} {NF NW:FuncId->Bool} {P:PTab} {f:FuncId} (a:NF f=false) (h:P f=none) (d:Nat) (xs:List PV):Od B NF NW P d f xs=B f xs:=by
 cases d with
 |zero=>simp only[Od,OX,a,cond_false]
 |succ d=>simp only[Od,OX,h,a,cond_false]
end
end Go.P
namespace Go.P
open Go.Sim (Ex OpK CK)
theorem gX1 {α β γ δ:Type} {X:Option γ} {Y:Option α} {e:α->γ} {K:γ->Option δ} {F:α->Option β} {enc:β->δ} (h:X=Y.map e) (hk:∀y,K (e y)=(F y).map enc):bH X K=(Y.bind F).map enc:=by
 rw[aY];subst h;cases Y<;>simp[hk]
theorem jX1 {β γ:Type} {b:Bool} {X Y:Option γ} {FX FY:Option β} {enc:β->γ} (a:X=FX.map enc) (hy:Y=FY.map enc):ifK b X Y=(if b then FX else FY).map enc:=by
 rw[jN];subst a hy;cases b<;>rfl
theorem aI {S E S' E':Type} {enc:S->S'} {encE:E->E'} {B:S'->Option (S'⊕E')} {F:S->Option (S⊕E)} (h:∀s,B (enc s)=(F s).map (Sum.map enc encE)):∀(n:Nat) (s:S),aO B n (enc s)=(aO F n s).map encE
 |0,s=>rfl
 |n+1,s=>by
  simp only[aO,h]
  cases F s with
  |none=>rfl
  |some r=>
   cases r with
   |inl s'=>exact aI h n s'
   |inr e=>rfl
def lget {A:Type} (l:List A) (i:Int):Option A:=if 0<=i then l[i.toNat]? else none
theorem yF {A:Type} (f:A->List PV) (l:List A) (i:Int):oV (l.map f) i=(lget l i).map f:=by
 unfold oV lget
 split<;>simp
def i64 (n:Int):PV:=.v (.int .i64 n)
def bv (b:Bool):PV:=.v (.bool b)
end Go.P
namespace Go.P
open Go.Sim (Ex OpK CK maxRoom)
def w64 (n:Int):Int:=IntKind.wrap .i64 n
def eA {A:Type} (f:A->List PV) (x:A):PV:=.agg (f x)
def cI (n:Int):List PV:=[i64 n]
def gY1 (b:UInt8):List PV:=[.v (.int .u8 (b.toNat:Int))]
def cB (b:Bool):List PV:=[bv b]
def mEnt {K V:Type} (f:K->PV) (g:V->PV) (p:K×V):PV×PV:=(f p.1,g p.2)
section
variable {γ δ:Type}
theorem jY1 {X:Option γ} {x:γ} {K:γ->Option δ} {r:Option δ} (h:X=some x) (hk:K x=r):bH X K=r:=by
 rw[aY,h];exact hk
theorem gand {b x:Bool} {X:Option Bool} (h:X=some x):ifK b X (some false)=some (b&&x):=by
 rw[jN,h];cases b<;>rfl
theorem gor {b x:Bool} {X:Option Bool} (h:X=some x):ifK b (some true) X=some (b||x):=by
 rw[jN,h];cases b<;>rfl
theorem oid {A:Type} (x:Option A):x=x.map id:=by simp
end
section
variable {A:Type}
theorem bV (c:A->List PV) (l:List A):some (l.map c).length=some l.length:=by simp
def lidx (l:List A) (i:Int):Option Nat:=uL l.length i
theorem aW (c:A->List PV) (l:List A) (i:Int):uL (l.map c).length i=(lidx l i).map id:=by simp[lidx]
def lnth (l:List A) (i:Nat):Option A:=l[i]?
theorem bD {c:A->List PV} {o:Nat} {g:A->PV} (h:∀x,(c x)[o]? =some (g x)) (l:List A) (i:Nat):sH (l.map c) i o=(lnth l i).map g:=by
 unfold sH lnth
 rw[List.getElem?_map]
 cases l[i]? with
 |none=>rfl
 |some x=>exact h x
theorem iI {c:A->List PV} {o n m:Nat} {g:A->List PV} (h:∀x,(c x).length=m/\((c x).drop o).take n=g x) (a:o+n<=m) (l:List A) (i:Nat):mV (l.map c) i o n=(lnth l i).map g:=by
 unfold mV lnth
 rw[List.getElem?_map]
 cases l[i]? with
 |none=>rfl
 |some x=>simp[(h x).1,(h x).2,a]
def lput (l:List A) (i:Nat) (f:A->A):Option (List A):=(l[i]?).map fun x=>l.set i (f x)
theorem tG {c:A->List PV} {o:Nat} {cs:List PV} {f:A->A} {m:Nat} (h:∀x,(c x).length=m/\Sim.setL (c x) o cs=c (f x)) (a:o+cs.length<=m) (l:List A) (i:Nat):sG (l.map c) i o cs=(lput l i f).map (List.map c):=by
 unfold sG lput
 rw[List.getElem?_map]
 cases l[i]? with
 |none=>rfl
 |some x=>simp[(h x).1,(h x).2,a]
def fO (l:List A) (a b:Int):Option (List A):=if 0<=a/\a<=b/\b<=l.length then some ((l.drop a.toNat).take (b.toNat-a.toNat))else none
theorem eT (f:A->List PV) (l:List A) (a b:Int):iD (l.map f) a b=(fO l a b).map (List.map f):=by
 unfold iD fO
 simp only[List.length_map]
 split
 .simp [List.map_take,List.map_drop]
 .rfl
theorem rA (f:A->List PV) (l:List A) (a:Int):iD (l.map f) a (l.map f).length=(fO l a l.length).map (List.map f):=by
 rw[eT,List.length_map]
def tH (l:List A) (h:Int):Option (List A):=if 0<l.length/\0<=h/\h<=l.length then some (l.take h.toNat)else none
theorem rB (f:A->List PV) (l:List A) (h:Int):jQ (l.map f) h=(tH l h).map (List.map f):=by
 unfold jQ tH
 simp only[List.length_map]
 split
 .simp [List.map_take]
 .rfl
def lapp (g:Bool) (l m:List A):Option (List A):=if l.length+m.length<=maxRoom/\(g=true->m.length<=1)then some (l++m)else none
theorem bL (g:Bool) (f:A->List PV) (l m:List A):appRows g (l.map f) (m.map f)=(lapp g l m).map (List.map f):=by
 unfold appRows lapp
 simp only[List.length_map]
 split
 .simp
 .rfl
def tJ (l c:Int) (z:A):Option (List A):=if 0<=l/\l<=c/\c<=maxRoom then some (List.replicate l.toNat z)else none
theorem eU (f:A->List PV) (l c:Int) (z:A):jR l c (f z)=(tJ l c z).map (List.map f):=by
 unfold jR tJ
 split
 .simp
 .rfl
theorem kP (k:IntKind) (l:List Int) (i:Int) {n:Nat} (h:l.length=n):mW (l.map fun x=>PV.v (.int k x)) i n 1=(lget l i).map (fun x=>PV.v (.int k x)):=by
 subst h
 unfold mW lget
 by_cases h0:0<=i
 .by_cases h1:i<l.length
  .simp [h0,h1]
  .rw [if_neg (by omega),if_pos h0,List.getElem?_eq_none (by omega)];rfl
 .rw [if_neg (by omega),if_neg h0];rfl
theorem wZ {c:A->List PV} {e:Nat} (hc:∀x,(c x).length=e):∀(l:List A) (j:Nat),j<l.length->((l.flatMap c).drop (j*e)).take e=((l[j]?).map c).getD []/\(j+1)*e<=(l.flatMap c).length
 |[],j,h=>by simp at h
 |x::l,0,h=>by
  have:=hc x
  constructor
  .simp [<-this]
  .simp [<-this]
 |x::l,j+1,h=>by
  have a:=hc x
  obtain⟨h1,h2⟩:=wZ hc l j (by simpa using h)
  constructor
  .rw [List.flatMap_cons,show(j+1)*e=(c x).length+j*e by rw[a,Nat.add_mul];omega,<-List.drop_drop,List.drop_left]
   simpa using h1
  .rw [List.flatMap_cons,List.length_append,a]
   rw[show(j+1+1)*e=e+(j+1)*e by rw[Nat.add_mul (j+1) 1 e];omega]
   omega
theorem vE (c:A->List PV) (l:List A) (i:Int) {n e:Nat} (h:l.length=n) (hc:∀x,(c x).length=e) {cs:List PV} (a:cs=l.flatMap c):jP cs i n e=(lget l i).map c:=by
 subst h a
 unfold jP lget
 by_cases h0:0<=i
 .by_cases h1:i<l.length
  .obtain ⟨h2,b⟩:=wZ hc l i.toNat (by omega)
   rw[if_pos ⟨h0,h1,b⟩,h2,if_pos h0]
   rw[List.getElem?_eq_getElem (by omega)]
   rfl
  .rw [if_neg (by omega),if_pos h0,List.getElem?_eq_none (by omega)];rfl
 .rw [if_neg (by omega),if_neg h0];rfl
end
def shlO (k:IntKind) (a b:Int):Option Int:=if b<0 then none else some (k.wrap (a*2^min b.toNat k.bits))
def shrO (k:IntKind) (a b:Int):Option Int:=if b<0 then none else some (a.fdiv (2^min b.toNat k.bits))
def quoO (k:IntKind) (a b:Int):Option Int:=if b=0 then none else some (k.wrap (a.tdiv b))
def remO (k:IntKind) (a b:Int):Option Int:=if b=0 then none else some (a.tmod b)
def iand (k:IntKind) (a b:Int):Int:=k.wrap (BitVec.ofInt k.bits a&&&BitVec.ofInt k.bits b).toNat
def ior (k:IntKind) (a b:Int):Int:=k.wrap (BitVec.ofInt k.bits a|||BitVec.ofInt k.bits b).toNat
structure bG1 {K:Type} [DecidableEq K] (ek:K->PV) (agg:Bool) (ks:List CK):Prop where
 ok:∀a,oX agg ks (ek a)=true
 eq:∀a b,oW agg ks (ek a) (ek b)=some (decide (a=b))
section
variable {K V:Type} [DecidableEq K] {ek:K->PV} {agg:Bool} {ks:List CK}
def vF (k:K):List (K×V)->Nat->Option (Nat×V)
 |[],_=>none
 |p::r,i=>if k=p.1 then some (i,p.2)else vF k r (i+1)
def mget (l:List (K×V)) (k:K) (z:V):V:=match vF k l 0 with|some p=>p.2|none=>z
def mput (l:List (K×V)) (k:K) (x:V):List (K×V):=match vF k l 0 with|some p=>l.set p.1 (k,x)|none=>l++[(k,x)]
theorem nQ (h:bG1 ek agg ks) (ev:V->PV) (k:K):∀(l:List (K×V)) (i:Nat),qF agg ks (ek k) (l.map (mEnt ek ev)) i=some ((vF k l i).map fun p=>(p.1,ev p.2))
 |[],i=>rfl
 |p::r,i=>by
  simp only[List.map_cons,mEnt,qF,h.eq,vF]
  by_cases e:k=p.1
  .simp [e]
  .simp only[e,decide_false,if_neg e]
   exact nQ h ev k r (i+1)
theorem pK (h:bG1 ek agg ks) (ev:V->PV) (l:List (K×V)) (k:K) (z:V):oY agg ks (ev z) (ek k) (l.map (mEnt ek ev))=some (ev (mget l k z)):=by
 unfold oY mget
 rw[h.ok,if_pos rfl,nQ h]
 cases vF k l 0<;>rfl
theorem iJ (h:bG1 ek agg ks) (ev:V->PV) (l:List (K×V)) (k:K) (x:V):sI agg ks (ek k) (ev x) (l.map (mEnt ek ev))=some ((mput l k x).map (mEnt ek ev)):=by
 unfold sI mput
 rw[h.ok,if_pos rfl,nQ h]
 cases vF k l 0 with
 |none=>simp[mEnt]
 |some p=>simp[mEnt,List.map_set]
end
end Go.P
namespace Go.P
open Go.Sim (Ex OpK CK maxRoom)
section
variable {A β γ δ:Type} {f:A->List PV} {l m:List A} {i:Int}
theorem rg:oV (l.map f) i=(lget l i).map f:=yF f l i
theorem lm:some (l.map f).length=some l.length:=bV f l
theorem im:uL (l.map f).length i=(lidx l i).map id:=aW f l i
theorem lf {x:γ} {y:β} {enc:β->γ} (h:x=enc y):some x=(some y).map enc:=by subst h;rfl
theorem bo {α:Type} {X:Option γ} {Y:Option α} {e:α->γ} {K:γ->Option δ} {F:α->Option β} {enc:β->δ} (h:X=Y.map e) (hk:∀y,K (e y)=(F y).map enc):bH X K=(Y.bind F).map enc:=gX1 h hk
theorem bz {X:Option γ} {x:γ} {K:γ->Option δ} {r:Option δ} (h:X=some x) (hk:K x=r):bH X K=r:=jY1 h hk
theorem io {b:Bool} {X Y:Option γ} {FX FY:Option β} {enc:β->γ} (a:X=FX.map enc) (hy:Y=FY.map enc):ifK b X Y=(if b then FX else FY).map enc:=jX1 a hy
theorem oi {x:Option A}:x=x.map id:=oid x
end
end Go.P
set_option maxRecDepth 100000
namespace Go.P
open Go.Sim (AV AO Hp IFn IC IX Ex Tab exec)
def gI (ty esz k:Nat) (zero:List Value):IFn:={ntmps:=8,res:=[.tmp 2],pure:=true,frz:=false,body:=(
  .seq (.reg [⟨some 2,.mov,[.c (.v (.slice none 0 0))],none⟩])
   (.seq (.seq (.reg [⟨some 3,.mov,[.t 0],none⟩,⟨some 4,.eqNil false 0,[.t 3,.c (.v (.slice none 0 0))],none⟩])
     (.cond (.t 4) (.seq (.reg [⟨some 2,.mov,[.c (.v (.slice none 0 0))],none⟩]) .ret) .skip))
   (.seq (.reg [⟨some 5,.buildSl ty esz 0 zero [],[],none⟩,⟨some 6,.mov,[.t 0],none⟩,⟨some 7,.append ty esz k zero false,[.t 5,.t 6],none⟩,⟨some 2,.mov,[.t 7],none⟩]) .ret)))}
section
variable {T:Tab} (ty esz k:Nat) (zero:List Value) (d:Nat)
theorem bH1:Sim.body (exec T (d+8)) 0 (gI ty esz k zero) [.v (.slice none 0 0)] {h:=[],n:=0}=some (.v (.slice none 0 0),{h:=[],n:=0}):=rfl
theorem gZ1:∃s,Sim.body (exec T (d+8)) 0 (gI ty esz k zero) [.is esz []] {h:=[],n:=0}=some (.sl esz 0 0 0 0 none,s)/\Sim.look s.h 0=some (.arr false ty esz 0 []):=by
 simp[Sim.body,exec,gI,Sim.runOps,Sim.wanted,Sim.evs,Sim.IX.ev,Sim.step,Sim.doOp,Sim.put,Sim.isNilv,Sim.appRows,Sim.rowsOf,Sim.appendTo,Sim.fillParts,Sim.look,Sim.results,Sim.mapO,Sim.readRes,Sim.Out.apply]
theorem hA1 (r:List AV) (a:List (List AV)) (h:(r::a).length<=1073741824):∃s,Sim.body (exec T (d+8)) 0 (gI ty esz k zero) [.is esz (r::a)] {h:=[],n:=0}=some (.sl esz 0 1 0 (r::a).length none,s)/\Sim.look s.h 0=some (.arr false ty esz 1 (r::a)):=by
 have b:Sim.maxRoom=1073741824:=rfl
 simp only[List.length_cons]at h
 simp[Sim.body,exec,gI,Sim.runOps,Sim.wanted,Sim.evs,Sim.IX.ev,Sim.step,Sim.doOp,Sim.put,Sim.isNilv,Sim.appRows,Sim.rowsOf,Sim.appendTo,Sim.fillParts,Sim.look,Sim.results,Sim.mapO,Sim.readRes,Sim.Out.apply,b,h]
 rfl
theorem rC {f:FuncId} {ty esz k:Nat} {zero:List Value} (j:T f=some (gI ty esz k zero)) (l:∀ys,T.memo f ys=none) {rows:List (List PV)} (hl:rows.length<=1073741824):FnOK T f [.is esz rows] (.is esz rows):=by
 refine⟨_,j,rfl,fun h=>(by cases h),fun ys hy=>vD (l ys) ⟨8,fun d hd=>?_⟩⟩
 obtain⟨d,rfl⟩:∃i,d=i+8:=⟨d-8,by omega⟩
 obtain⟨y,m,rfl,h1,h2⟩:=hy.inv_cons
 rw[h2.inv_nil]
 rcases wF (C:=fun _=>none) (.cl h1)with⟨rows',rfl,hr⟩|⟨rfl,rfl⟩
 .cases rows' with
  |nil=>
   have:rows=[]:=List.eq_nil_of_length_eq_zero hr.1
   subst this
   obtain⟨s,a,b⟩:=gZ1 (T:=T) ty esz k zero d
   exact⟨_,_,_,a,dM1 (d:=4) (rows:=[]) (Nat.zero_le _) b .nil (Nat.le_refl _),h1⟩
  |cons r rs=>
   obtain⟨s,a,b⟩:=hA1 (T:=T) ty esz k zero d r rs (by rw[<-hr.1];exact hl)
   have c:(r::rs).length=rows.length:=hr.1.symm
   rw[c]at a
   have g:(r::rs).take rows.length=r::rs:=by rw[<-c,List.take_length]
   have e:=dM1 (n0:=0) (L:=Sim.look s.h) (d:=4) (rows:=rows) (id:=0) (Nat.zero_le _) b (by rw[g];exact hr) (by omega)
   rw[g]at e
   exact⟨_,_,_,a,e,h1⟩
 .exact ⟨_,_,_,bH1 ty esz k zero d,rfl,.isn⟩
end
end Go.P
namespace Go.P
open Go.Sim
section
variable {P:Program} {D:Nat} {t:TypeId} {cs:List AV}
theorem lt62 {n:Nat} (h:n<=maxLen):n<9223372036854775808:=Nat.lt_of_le_of_lt h (by decide)
theorem rInt {k:IntKind} (a:P.underlying t=some (.int k)) (h:TyC P D t cs):∃n,LR (RC false) [.v (.int k n)] cs:=by
 cases D with
 |zero=>exact h.elim
 |succ D=>
  unfold TyC at h
  rw[a]at h
  obtain⟨n,rfl,_⟩:=h
  exact⟨n,.cons (.v _) .nil⟩
theorem bI1 (a:P.underlying t=some .bool) (h:TyC P D t cs):∃n,LR (RC false) [.v (.bool n)] cs:=by
 cases D with
 |zero=>exact h.elim
 |succ D=>
  unfold TyC at h
  rw[a]at h
  obtain⟨n,rfl⟩:=h
  exact⟨n,.cons (.v _) .nil⟩
theorem rStr (a:P.underlying t=some .string) (h:TyC P D t cs):∃s:ByteArray,s.size<=maxLen/\LR (RC false) [.v (.string s)] cs:=by
 cases D with
 |zero=>exact h.elim
 |succ D=>
  unfold TyC at h
  rw[a]at h
  obtain⟨s,rfl,hs⟩:=h
  exact⟨s,hs,.cons (.v _) .nil⟩
theorem rSl {A:Type} {B:A->Prop} {c:A->List PV} {e:TypeId} {m:Nat} (g:P.underlying t=some (.slice e)) (f:P.cellsOf e=m) (a:∀D row,TyC P D e row->∃x:A,B x/\LR (RC false) (c x) row) (hp:∀x,(c x).all dU=true) (h:TyC P D t cs):
  ∃l:List A,(l.length<=maxLen/\∀x∈l,B x)/\LR (RC false) [.is m (l.map c)] cs:=by
 cases D with
 |zero=>exact h.elim
 |succ D=>
  unfold TyC at h
  rw[g]at h
  rcases h with rfl|⟨els,rfl,hl,h⟩
  .exact ⟨[],⟨Nat.zero_le _,fun x d=>(List.not_mem_nil d).elim⟩,.cons .isn .nil⟩
  .rw [f]
   have:∃l:List A,l.length=els.length/\(∀x∈l,B x)/\RR (l.map c) els:=by
    clear hl
    induction els with
    |nil=>exact⟨[],rfl,fun x d=>(List.not_mem_nil d).elim,.nil⟩
    |cons row els ih=>
     obtain⟨l,h1,h2,b⟩:=ih (fun row a=>h row (by simp[a]))
     obtain⟨x,i,j⟩:=a D row (h row (by simp)).2
     refine⟨x::l,by simp[h1],fun y hy=>?_,.cons ?_ b⟩
     .rcases List.mem_cons.1 hy with rfl|hy
      .exact i
      .exact h2 y hy
     .exact (LR.closed (C:=fun _=>none) j).plain (hp x)
   obtain⟨l,h1,h2,b⟩:=this
   exact⟨l,⟨by omega,h2⟩,.cons b.is .nil⟩
theorem cH {fs:Array Field} (a:P.underlying t=some (.struct fs)) (h:TyC P D t cs):∃D',TyFs (TyC P D') P fs.toList cs:=by
 cases D with
 |zero=>exact h.elim
 |succ D=>
  unfold TyC at h
  rw[a]at h
  exact⟨D,h⟩
theorem rArr {n:Nat} {e:TypeId} (b:P.underlying t=some (.array n e)) (h:TyC P D t cs):∃(D':Nat) (rows:List (List AV)),cs=rows.flatten/\rows.length=n/\∀row∈rows,row.length=P.cellsOf e/\TyC P D' e row:=by
 cases D with
 |zero=>exact h.elim
 |succ D=>
  unfold TyC at h
  rw[b]at h
  obtain⟨rows,h1,h2,a⟩:=h
  exact⟨D,rows,h1,h2,a⟩
theorem jZ1 {α:Type} {l:List α} (h:l.length=6):∃a b c d e f,l=[a,b,c,d,e,f]:=by
 rcases l with _|⟨a,_|⟨b,_|⟨c,_|⟨d,_|⟨e,_|⟨f,_|⟨g,l⟩⟩⟩⟩⟩⟩⟩<;>simp at h
 exact⟨a,b,c,d,e,f,rfl⟩
end
end Go.P
namespace Go.P
open Go.Sim
theorem dV1 {T:Tab} {f:FuncId} {xs:List PV} (h:FnOK T f xs (bv true)) {ys:List AV} (hl:LR (RC false) xs ys) (hc:ys.all (closed 4)=true):∃d s,callF T (exec T d) 0 f ys {h:=[],n:=0}=some (.v (.bool true),s):=by
 obtain⟨ifn,h1,h2,g,a⟩:=h
 obtain⟨D,b⟩:=a ys hl
 obtain⟨y,c,e⟩:=b D (Nat.le_refl _)
 cases e
 exact⟨D,_,by simp only[callF,h1,h2,if_true,hc,c,Option.map_some];rfl⟩
theorem lF {x:PV} {y:AV} {d:Nat} (h:RC false x y) (hp:dU x=true):closed (d+1) y=true:=by
 cases h<;>first|rfl|simp[dU]at hp
theorem yG {xs:List PV} {ys:List AV} (h:LR (RC false) xs ys) (hp:xs.all dU=true):closed 4 (.agg ys)=true:=by
 unfold closed
 rw[List.all_eq_true]
 intro y hy
 obtain⟨j,b⟩:=List.mem_iff_getElem?.1 hy
 have a:j<xs.length:=by rw[h.1];exact(List.getElem?_eq_some_iff.1 b).1
 have c:xs[j]? =some xs[j]:=List.getElem?_eq_getElem a
 exact lF (h.2 j _ _ c b) (List.all_eq_true.1 hp _ (List.getElem_mem a))
def valB:Value->Value->Bool
 |.int k a,.int k' b=>decide (k=k')&&decide (a=b)
 |.bool a,.bool b=>decide (a=b)
 |.string a,.string b=>decide (a=b)
 |.slice none 0 0,.slice none 0 0=>true
 |_,_=>false
theorem hB1 {x y:Value} (h:valB x y=true):x=y:=by
 unfold valB at h
 split at h<;>simp_all
def allB {α β:Type} (f:α->β->Bool):List α->List β->Bool
 |[],[]=>true
 |a::as,b::bs=>f a b&&allB f as bs
 |_,_=>false
theorem hJ {α β:Type} {f:α->β->Bool}:∀{xs:List α} {ys:List β},allB f xs ys=true->xs.length=ys.length/\∀(j:Nat) (x:α) (y:β),xs[j]? =some x->ys[j]? =some y->f x y=true
 |[],[],_=>⟨rfl,fun j x y h=>by simp at h⟩
 |[],b::bs,h=>by simp[allB]at h
 |a::as,[],h=>by simp[allB]at h
 |a::as,b::bs,h=>by
  simp only[allB,Bool.and_eq_true]at h
  obtain⟨h1,h2⟩:=h
  have ih:=hJ h2
  refine⟨by simp[ih.1],fun j x y c hy=>?_⟩
  cases j with
  |zero=>simp at c hy;subst c;subst hy;exact h1
  |succ j=>simp at c hy;exact ih.2 j x y c hy
def rcB:Nat->PV->AV->Bool
 |0,_,_=>false
 |d+1,x,y=>match x,y with
  |.v x,.v y=>valB x y
  |.is e rows,.is e' rows'=>decide (e=e')&&allB (allB (rcB d)) rows rows'
  |.is _ [],.v (.slice none 0 0)=>true
  |_,_=>false
theorem eV1:∀(d:Nat) {x:PV} {y:AV} (p:Bool),rcB d x y=true->RC p x y
 |0,x,y,p,h=>by simp[rcB]at h
 |d+1,x,y,p,h=>by
  unfold rcB at h
  split at h
  .rw [hB1 h];exact .v _
  .simp only[Bool.and_eq_true,decide_eq_true_eq]at h
   obtain⟨rfl,h⟩:=h
   have h1:=hJ h
   refine .is h1.1 (fun i r r' hr a=>(hJ (h1.2 i r r' hr a)).1) (fun i r r' j x y hr a b hy=>eV1 d true ((hJ (h1.2 i r r' hr a)).2 j x y b hy))
  .exact .isn
  .cases h
end Go.P
namespace Go.P
open Go.Sim
theorem xA {Q:Program} {T:Tab} (e:dY Q T) (a:Q.follows .mixedOrders=true) {f:FuncId} {xs:List PV} {ys:List AV} {b:Bool} (h:FnOK T f xs (bv b)) (hl:LR (RC false) xs ys) (hc:ys.all (closed 4)=true):fD Q f ys (.v (.bool b)):=by
 obtain⟨fn,h1,h2,_,c⟩:=h
 obtain⟨D,d⟩:=c ys hl
 obtain⟨y,g,i⟩:=d D (Nat.le_refl _)
 cases i
 exact qD e a h1 h2 hc g
theorem dW1 {T:Tab} {f:FuncId} {fn:IFn} {b:Bool} (a:T f=some fn) (hp:fn.pure=true) (e:fn.frz=true) (c:T.memo f []=some (.v (.bool b))):FnOK T f [] (bv b):=
 ⟨fn,a,hp,fun _=>e,fun ys hy=>⟨0,fun d _=>⟨_,by rw[hy.inv_nil];simp only[runP,c],.v _⟩⟩⟩
def jD1:Nat->PV->AV
 |0,_=>.es
 |d+1,x=>match x with
  |.v x=>.v x
  |.is _ []=>.v (.slice none 0 0)
  |.is e rows=>.is e (rows.map fun r=>r.map (jD1 d))
  |_=>.es
def yH (d:Nat) (xs:List PV):List AV:=xs.map (jD1 d)
theorem bJ1 {cells:List PV} {d:Nat} (h:allB (rcB 12) cells (yH d cells)=true):LR (RC false) [.agg cells] [.agg (yH d cells)]:=by
 have:=hJ h
 exact .cons (.agg this.1 (fun j x y a hy=>eV1 12 false (this.2 j x y a hy))) (.nil)
end Go.P
