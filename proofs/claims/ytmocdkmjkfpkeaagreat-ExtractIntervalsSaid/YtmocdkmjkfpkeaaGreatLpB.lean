import Derived.Test.YtmocdkmjkfpkeaaGreatLpA
/- A text of the proof. -/
set_option linter.all false
namespace Go.P
open Go.Sim (AV AO Hp eJ upd St IC IX Ex eE CK Wf Out doOp iG exec)
theorem cS.mono {C C':Cx} {e:dG} {t:aA AV} (h:cS C e t) (a:C.le C'):cS C' e t:=fun i v hv=>by
 obtain⟨y,h1,h2⟩:=h i v hv
 exact⟨y,h1,h2.mono a⟩
theorem cS.put {C':Cx} {e':dG} {t:aA AV} {d:Nat} {v:PV} {y:AV} (hd:d<t.length) (hv:RV C' v y) (he:∀i w,dE e' i=some w->∃z,t[i]? =some z/\RV C' w z/\i≠d):cS C' ((d,v)::e') (t.set d y):=by
 intro i w hw;simp only[dE]at hw;split at hw;rename_i a;subst a;cases hw;exact⟨y,by simp[hd],hv⟩;rename_i a;obtain⟨z,h1,h2,b⟩:=he i w hw;exact⟨z,by rw[nY2 (Ne.symm b)];exact h1,h2⟩
theorem cS.edel {C:Cx} {e:dG} {t:aA AV} (h:cS C e t) (is:aA Nat):∀i w,dE (edel e is) i=some w->∃z,t[i]? =some z/\RV C w z/\i∉is:=fun i w hw=>by
 rw[vF]at hw
 split at hw
 cases hw
 rename_i hi
 obtain⟨z,h1,h2⟩:=h i w hw
 exact⟨z,h1,h2,hi⟩
section
variable {R:Type} {C:Cx} {n:Nat} {h:aN} {lim:Nat} {s:Hp}
theorem Pj (c:bY C n h lim s) {k:Nat} {po:dO} {h1:aN} (hg:aK h k=some po) (hkl:qZ k h h1) (hb:eG po=false):bY C n (bR h1 k po) lim s/\Fr C h s C (bR h1 k po) s:=by
 have m:(aK h1 k).isSome=true:=by
  cases hc:aK h1 k with
  |none=>rw[(hkl.1 k).1 hc]at hg;cases hg
  |some o=>rfl
 have a:∀j,aK (bR h1 k po) j=if j=k then some po else aK h1 j:=fun j=>by
  rw[cN];simp[m]
 have b:∀j,aK (bR h1 k po) j≠none->aK h j≠none:=fun j f=>by
  rw[a]at f;split at f;rename_i d;subst d;rw[hg];simp;exact fun hc=>f ((hkl.1 j).2 hc)
 refine⟨⟨⟨fun j o f=>?_,fun j t i v1 d g v2 e2 w a1 a2 a3 a4=>c.hr.inj j t i v1 d g v2 e2 w (b j a1) (b t a2) a3 a4,fun i o u=>?_,fun j i v1 d g a1 a2=>c.hr.wn j i v1 d g (b j a1) a2,c.hr.wb,c.hr.wz⟩,c.dom,c.wf,c.lim⟩,⟨.refl _ _,nM2 _,fun _ _ _=>rfl,fun i hi p=>?_,Eu hg hkl hb iQ.self,fun _ _ h=>h,fun _ _ h=>.inl h⟩⟩;rw[a]at f;split at f;rename_i d;subst d;cases f;exact c.hr.ob j _ hg;obtain⟨x,q1,y,q2⟩:=hkl.2 j o f;obtain⟨pl,q,r⟩:=c.hr.ob j x q1;exact⟨pl,q,q2 iQ.self rfl r⟩;obtain⟨z1,z2,z3,z4⟩:=c.hr.zr i o u;exact⟨z1,z2,fun j v e l h1 h2=>z3 j v e l (b j h1) h2,z4⟩;rcases p with⟨j,v1,d,g,q,r⟩|p;exact .inl ⟨j,v1,d,g,b j q,r⟩;exact .inr p
theorem Ru (c:bY C n h lim s) {e dp:Nat} {x:PV} {y:AV} {K:aA (aA PV)->aB R} {r:R} (hk:Oj h e dp x K=some r) (hv:RV C x y):∃rows rows',K rows=some r/\Sim.rowsOf (Sim.look s.h) e y=some rows'/\Cr C.z dp rows rows':=by
 unfold Oj at hk;split at hk;rename_i e' rows;rw[aZ]at hk;by_cases a:e'=e;subst a;rw[oP2 rfl,nX2]at hk;rcases Ov hv with⟨rows',rfl,hr⟩|⟨rfl,rfl|rfl⟩
 exact⟨rows,rows',hk,by simp[Sim.rowsOf],hr.z⟩;exact⟨[],[],hk,rfl,.nil⟩;exact⟨[],[],hk,rfl,.nil⟩;rw[oC2 a]at hk;exact aD hk;rename_i k;simp only[eF,nI2]at hk;obtain⟨ob,hg,hk⟩:=hk;cases ob with
 |lst ty e' g rows=>
  simp only[aZ]at hk;by_cases a:e'=e;subst a;rw[oP2 rfl,nX2]at hk;rcases iB hv with⟨id,ver,i,len,b,rfl⟩|⟨b,hy⟩
  obtain⟨_,rfl,hlen,els,f,hr,j,_⟩:=iP c hg b;subst hlen;refine⟨rows,els.take rows.length,hk,?_,hr.z⟩;simp only[Sim.rowsOf,f];rw[nQ2 ⟨by trivial,by trivial,by omega⟩,pG2];have:=jN c hg b;subst this;rcases hy with rfl|rfl;exact⟨[],[],hk,rfl,.nil⟩;exact⟨[],[],hk,rfl,.nil⟩;rw[oC2 a]at hk;exact aD hk
 |lz ty e' dp' rows=>
  simp only at hk;cases hc:(Nat.beq e' e&&Nat.ble dp' dp)with
  |false=>rw[hc]at hk;exact aD hk
  |true=>
   rw[hc,nX2]at hk;simp only[nJ2]at hc;have a:=oA2 hc.1;have e2:=oO2 hc.2;subst a;rcases iB hv with⟨id,ver,i,len,b,rfl⟩|⟨b,hy⟩
   obtain⟨_,_,rfl,hlen,_,els,f,hr⟩:=wT c hg b;subst hlen;refine⟨rows,els,hk,?_,hr.up e2⟩;have hl:=hr.1;simp only[Sim.rowsOf,f];rw[nQ2 ⟨by trivial,by trivial,by omega⟩,pG2,hl,pW2];have:=vK c hg b;subst this;rcases hy with rfl|rfl;exact⟨[],[],hk,rfl,.nil⟩;exact⟨[],[],hk,rfl,.nil⟩
 |_=>exact aD hk
 rename_i d e' rows;cases hc:(Nat.beq e' e&&Nat.ble d (dp+1))with
 |false=>rw[hc]at hk;exact aD hk
 |true=>
  rw[hc,nX2]at hk;simp only[nJ2]at hc;have a:=oA2 hc.1;have e2:=oO2 hc.2;subst a;rcases Cv (Cu hv)with(⟨rows',rfl,hr⟩|⟨rfl,rfl⟩)|⟨d',id,ver,ty,els,rfl,rfl,hz,hl,hr⟩
  exact⟨rows,rows',hk,by simp[Sim.rowsOf],hr.z⟩;exact⟨[],[],hk,rfl,.nil⟩;refine⟨rows,els.take rows.length,hk,?_,hr.up (by omega)⟩;simp only[Sim.rowsOf,(c.hr.zr id _ hz).1];rw[nQ2 ⟨by trivial,by trivial,by omega⟩,pG2]
 rw[fB hv];exact⟨[],[],hk,rfl,.nil⟩;exact aD hk
theorem Wr (l:bY C n h lim s) {e:dG} {t:aA AV} {d ty es b k ty' es' dp:Nat} {rows:aA (aA PV)} {zero:aA Value} {kill:aA Nat} {V:PV} {E U:AV} {K:dG->aN->aB R} {r:R} (he:cS C e t) (hd:d<t.length) (h1:RV C (.own k) E) (h2:RV C V U)
  (hg:aK h k=some (.lz ty' es' dp rows))
  (hk:(Oj h es dp V fun new=>bif Nat.beq es' es&&(Nat.beq ty' ty&& !(eO ty'))then bL (appRows false rows new) fun rows=>
    gJ e (d::kill) fun e=>kW k e fun e=>iN k h fun h=>eK h k (.lz ty' es' dp rows) fun h=>K ((d,.own k)::e) h
   else none)=some r):
  ∃C' e' h' out,K e' h'=some r/\doOp (Sim.look s.h) lim s.n (.append ty es b zero false) [E,U]=some out/\bY C' n h' lim (out.apply s)/\cS C' e' (t.set d out.v)/\Fr C h s C' h' (out.apply s):=by
 have hz:=Ru l hk h2;clear hk;obtain⟨new,a,hk,T,o⟩:=hz;by_cases hc:(Nat.beq es' es&&(Nat.beq ty' ty&& !(eO ty')))=true;simp only[hc,nX2,bJ,nI2]at hk;simp only[nJ2,aZ,nR2,oB2]at hc;obtain⟨rfl,rfl,H⟩:=hc;obtain⟨D,c,hk⟩:=hk;rw[dC]at hk;obtain⟨e2,hk,P⟩:=gS _ _ _ hk;obtain⟨X,hk,y⟩:=iJ _ _ _ hk;have hk:=cE _ _ _ _ _ hk;unfold appRows at c;split at c;rename_i B;obtain rfl:rows++new=D:=pN2 c
 have m:∀{C':Cx},iQ k C C'->∀i w,dE e2 i=some w->∃z,t[i]? =some z/\RV C' w z/\i≠d:=by
  intro C' j i w hw;obtain⟨v,q1,q2⟩:=P i w hw;obtain⟨z,p1,p2,p3⟩:=he.edel (d::kill) i v q1;exact⟨z,p1,q2 j p2,fun W=>p3 (by simp[W])⟩
 have x:∀out,Sim.appendTo (Sim.look s.h) lim s.n ty' es' E a=some out->(∀z id ver off len cap,out.v=.sl z id ver off len cap->len<=Sim.maxRoom)->doOp (Sim.look s.h) lim s.n (.append ty' es' b zero false) [E,U]=some out:=by
  intro out Y hl;simp only[doOp,Sim.appRows,nV2,oQ2,T,Y];split;rename_i hv;rw[nQ2 ⟨hl _ _ _ _ _ _ hv,by rw[<-o.1];omega⟩];rfl
 have hlen:=o.1;by_cases G:a=[];subst G;have J:new=[]:=by simpa using hlen
 subst J;rw[qK2]at hk;obtain⟨L,M⟩:=Pj l hg y rfl;refine⟨C,_,_,{v:=E},hk,x _ ?_ ?_,L,.put hd h1 (m iQ.self),M⟩;rcases iB h1 with⟨id,ver,g,len,j,rfl⟩|⟨j,hy⟩
 obtain⟨f,_,rfl,hl,_,els,N,hr⟩:=wT l hg j;have:=hr.1;simp only[Sim.appendTo,N];rw[nQ2 ⟨by trivial,by trivial,by trivial,by omega⟩];rfl;rcases hy with rfl|rfl<;>rfl;intro z id ver off len cap hv;rcases iB h1 with⟨id',u,g,q,j,rfl⟩|⟨j,hy⟩
 obtain⟨f,_,rfl,hl,_⟩:=wT l hg j;cases hv;omega;rcases hy with rfl|rfl<;>cases hv;have p:a.isEmpty=false:=by cases a<;>simp_all
 rcases iB h1 with⟨id,ver,g,len,j,rfl⟩|⟨j,hy⟩
 obtain⟨f,hid,rfl,hl,_,els,N,hr⟩:=wT l hg j;subst hl;have Z:=hr.1
 have O:Sim.appendTo (Sim.look s.h) lim s.n ty' g (.sl g id ver 0 rows.length none) a=some {v:=.sl g id (ver+1) 0 (rows.length+a.length) none,up:=some (id,.arr false ty' g (ver+1) (els++a))}:=by
  simp only[Sim.appendTo,N];rw[nQ2 ⟨by trivial,by trivial,by trivial,by omega⟩];simp only[p,nV2,oQ2];rw[nQ2 (by omega),nQ2 ⟨by trivial,f,by trivial⟩]
 have A:∀i,i≠id->Sim.look (upd s.h id (.arr false ty' g (ver+1) (els++a))) i=Sim.look s.h i:=fun i hi=>by
  rw[Sim.look_upd];simp[hi]
 obtain⟨L,M⟩:=Ja (id:=id) (ver:=ver+1) (e:=g) (len:=(rows++new).length) (po2:=.lz ty' g dp (rows++new)) (s':={h:=upd s.h id (.arr false ty' g (ver+1) (els++a)),n:=s.n}) l hg y
  (nM2 _) (l.wf.upd _ _) (.upd _ _ _ _) (fun i _ hi=>A i hi) (.inr ⟨_,_,_,j⟩) ⟨f,hid,rfl,rfl,H,els++a,by rw[Sim.look_upd];simp[N],hr.append o⟩ rfl
 refine⟨_,_,_,_,hk,x _ O ?_,L,?_,M⟩;intro z id' u off q cap hv;cases hv;omega;refine .put hd ?_ (m (dH C k _));have:RV (mv C k (.atp id (ver+1) g (rows++new).length)) (.own k) (.sl g id (ver+1) 0 (rows++new).length none):=.own (mF C k _);rw[pD2,hlen]at this;simpa[hlen]using this;have S:=vK l hg j;subst S
 have F:Sim.appendTo (Sim.look s.h) lim s.n ty' es' E a=some {v:=.sl es' s.n 0 0 a.length none,new:=some (.arr false ty' es' 0 a)}:=by
  rcases hy with rfl|rfl<;>simp[Sim.appendTo,p]
 have A:∀i,i<s.n->Sim.look (.ob s.n (.arr false ty' es' 0 a)::s.h) i=Sim.look s.h i:=fun i hi=>by
  rw[dY,nS2 (by omega)]
 obtain⟨L,M⟩:=Ja (id:=s.n) (ver:=0) (e:=es') (len:=([]++new).length) (po2:=.lz ty' es' dp ([]++new)) (s':={h:=.ob s.n (.arr false ty' es' 0 a)::s.h,n:=s.n+1}) l hg y
  (by show s.n<=s.n+1;omega) ⟨by simp,l.wf⟩ (.new _ _ _) (fun i hi _=>A i hi) (.inl (nM2 _)) ⟨l.lim,by show s.n<s.n+1;omega,rfl,rfl,H,a,by rw[dY,nQ2 rfl],by rw[rG2];exact o⟩ rfl
 refine⟨_,_,_,_,hk,x _ F ?_,L,.put hd ?_ (m (dH C k _)),M⟩;intro z id' u off q cap hv;cases hv;simp at B;omega;have:RV (mv C k (.atp s.n 0 es' ([]++new).length)) (.own k) (.sl es' s.n 0 0 ([]++new).length none):=.own (mF C k _);simpa[hlen]using this;cases c;simp only[qC2]at hc;simp only[hc]at hk;exact aD hk
def Dd (k a:Nat) (C C':Cx):Prop:=(∀j,j≠k->j≠a->C' j=C j)/\∀id o,C.z id=some o->C'.z id=some o
theorem Dd.mid {k a:Nat} {C C':Cx} (h:Dd k a C C') (hw:C'.w=C.w):∃C1:Cx,iQ k C C1/\C1.w=C.w/\iQ a C1 C'/\C'.w=C1.w:=
 ⟨⟨fun j=>if j=a then C j else C' j,C'.z,C.w⟩,⟨fun j b=>by
  show(if j=a then C j else C' j)=_
  split
  rfl
  rename_i h2;exact h.1 j b h2,h.2⟩,rfl,⟨fun j b=>by show _=(if j=a then C j else C' j);rw[nS2 b],fun _ _ h=>h⟩,hw⟩
def Ag (k a:Nat) (h h':aN):Prop:=(∀j,aK h' j=none↔aK h j=none)/\∀j o',aK h' j=some o'->∃o,aK h j=some o/\eG o'=eG o/\
 ∀{C C':Cx} {L:Nat->aB AO} {lim nS:Nat} {pl:Pl},Dd k a C C'->C'.w=C.w->dU C L lim nS o pl->dU C' L lim nS o' pl
theorem Ag.of {k c:Nat} {h h1 h2:aN} (a:qZ k h h1) (b:qZ c h1 h2):Ag k c h h2:=
 ⟨fun j=>(b.1 j).trans (a.1 j),fun j o' d=>by
  obtain⟨f,q1,q2,q3⟩:=b.2 j o' d
  obtain⟨o,p1,p2,p3⟩:=a.2 j f q1
  refine⟨o,p1,q2.trans p2,fun{C C' L lim nS pl} hs hw e=>?_⟩
  obtain⟨C1,c1,c2,c3,c4⟩:=hs.mid hw
  exact q3 c3 c4 (p3 c1 c2 e)⟩
theorem xR:∀{f:Nat} {a b:TD},Ei f a b=true->a=b
 |f+1,.nd a b ks,.nd c d ls,h=>by
  simp only[Ei,nJ2,aZ,nR2,nN2]at h
  obtain⟨rfl,rfl,hl,h⟩:=h
  have:ks=ls:=by
   apply List.ext_getElem hl;intro i h1 h2
   have:=h (ks[i],ls[i]) (by
    rw[oF2];exact⟨i,by simp[List.getElem?_zip_eq_some,h1,h2]⟩)
   exact Prod.ext this.1 (xR this.2)
  rw[this]
def Jb (C:Cx) (k b:Nat) (pl:Pl) (id a len:Nat):Cx:=⟨fun j=>if j=k then some pl else if j=b then some .nil else C j,C.z,fun o=>match C.w o with
 |some (p,i,j)=>if p=a then some (id,len+i,j)else some (p,i,j)
 |none=>none⟩
theorem dQ.move {L L':Nat->aB AO} {w w':Nat->aB (Nat×Nat×Nat)} {lim nS c:Nat} (hn:nS<=c) {B:Nat->Prop} (g:∀b,B b->w b=none) (k:∀o sl,w o=some sl->¬B sl.1->w' o=some sl/\L' o=L o) {sl f:Nat×Nat×Nat} (l:∀o,w o=some sl->w' o=some f/\L' o=L o):
  ∀{d:Nat} {t:TD} {x:PV} {y:AV},dQ L w lim nS d sl t x y->dQ L' w' lim c d f t x y
 |0,_,_,_,h=>h.elim
 |d+1,.nd ty e ks,x,y,h=>by
  obtain⟨rows,h1,h2⟩:=h
  refine⟨rows,h1,?_⟩
  rcases h2 with h2|⟨id,ver,els,k1,k2,k3,k4,kf,k5,k6,k7⟩
  exact .inl h2
  obtain⟨w1,w2⟩:=l id k2
  have hid:¬B id:=fun hc=>by rw[g id hc]at k2;cases k2
  refine .inr ⟨id,ver,els,k1,w1,k3,by omega,kf,w2.trans k5,k6,fun i r r' a b=>⟨(k7 i r r' a b).1,fun j x1 m a1 b1=>?_⟩⟩
  have:=(k7 i r r' a b).2 j x1 m a1 b1
  cases hk:eH ks j with
  |none=>rw[hk]at this;exact this
  |some t=>rw[hk]at this;exact dQ.mono hn g k hid this
theorem iE1 (t:bY C n h lim s) {k d id ver e len c X e2 W m:Nat} {po po2 po':dO} {h2:aN} {s':Hp} (hg:aK h k=some po) (G:aK h d=some po2) (O:k≠d) (hkl:Ag k d h h2)
  (hs:s.n<=s'.n) (b4:Wf s'.h s'.n) (b0:Sk s.h s'.h s.n) (u:∀i,i<s.n->i≠id->Sim.look s'.h i=Sim.look s.h i) (hid:(id=s.n/\s.n<s'.n)\/∃v e l,C k=some (.atp id v e l)) (K:C d=some (.atp c X e2 W))
  (F:dU (Jb C k d (.atp id ver e len) id c m) (Sim.look s'.h) lim s'.n po' (.atp id ver e len)) (Z:eG po'=false):
  bY (Jb C k d (.atp id ver e len) id c m) n (bR (bR h2 d (.lst 0 0 true [])) k po') lim s'/\Fr C h s (Jb C k d (.atp id ver e len) id c m) (bR (bR h2 d (.lst 0 0 true [])) k po') s':=by
 have E:Jb C k d (.atp id ver e len) id c m k=some (.atp id ver e len):=nQ2 rfl
 have x:Jb C k d (.atp id ver e len) id c m d=some .nil:=by
  show(if d=k then _ else if d=d then _ else _)=_
  rw[nS2 (Ne.symm O),nQ2 rfl]
 have q:∀j,j≠k->j≠d->Jb C k d (.atp id ver e len) id c m j=C j:=fun j h1 h2=>by
  show(if j=k then _ else if j=d then _ else _)=_
  rw[nS2 h1,nS2 h2]
 have H:∀j po,aK h j=some po->(aK h2 j).isSome=true:=fun j po g=>by
  cases hc:aK h2 j with
  |none=>rw[(hkl.1 j).1 hc]at g;cases g
  |some o=>rfl
 have y:∀j,aK (bR (bR h2 d (.lst 0 0 true [])) k po') j=if j=k then some po' else if j=d then some (.lst 0 0 true [])else aK h2 j:=fun j=>by
  rw[cN,cN,cN];have a:=H k _ hg;have b:=H d _ G;by_cases r:j=k;subst r;simp[O,a];by_cases e2:j=d;subst e2;simp[Ne.symm O,b];simp[r,e2]
 have A:∀j,aK (bR (bR h2 d (.lst 0 0 true [])) k po') j≠none->aK h j≠none:=fun j g=>by
  rw[y]at g;split at g;rename_i r;subst r;rw[hg];simp;split at g;rename_i r;subst r;rw[G];simp;exact fun hc=>g ((hkl.1 j).2 hc)
 have b8:=(t.hr.lt (by rw[G];simp) K).2;have R:C.w c=none:=t.hr.wn d c _ _ _ (by rw[G];simp) K
 have N:C.w id=none:=by
  rcases hid with⟨hid,_⟩|⟨v',e',l',hid⟩
  cases R:C.w id with
  |none=>rfl
  |some sl=>have:=(t.hr.wb id sl R).1;omega
  exact t.hr.wn k id v' e' l' (by rw[hg];simp) hid
 have U:id<s'.n:=by
  rcases hid with⟨hid,_⟩|⟨v',e',l',hid⟩
  omega;have:=(t.hr.lt (by rw[hg];simp) hid).2;omega
 have P:∀j v e l,j≠k->aK h j≠none->C j≠some (.atp id v e l):=by
  intro j v e2 l g hh hc;rcases hid with⟨hid,_⟩|⟨v',e',l',hid⟩
  have:=(t.hr.lt hh hc).2;omega;exact g (t.hr.inj j k id _ _ _ _ _ _ hh (by rw[hg];simp) hc hid)
 have b6:∀o,(Jb C k d (.atp id ver e len) id c m).w o≠none->C.w o≠none:=fun o F hc=>by
  apply F;show(match C.w o with|some (p,i,j)=>if p=c then some (id,m+i,j)else some (p,i,j)|none=>none)=none
  rw[hc]
 have b5:∀o sl,C.w o=some sl->¬(sl.1=c)->(Jb C k d (.atp id ver e len) id c m).w o=some sl:=fun o sl F hc=>by
  obtain⟨p,i,j⟩:=sl;show(match C.w o with|some (p,i,j)=>if p=c then some (id,m+i,j)else some (p,i,j)|none=>none)=_
  rw[F];exact nS2 hc
 have a0:∀o sl,C.w o=some sl->Sim.look s'.h o=Sim.look s.h o:=fun o sl F=>u o (t.hr.wb o sl F).1 fun r=>by rw[r,N]at F;cases F
 refine⟨⟨⟨fun j o g=>?_,fun j T i v1 r S v2 e2 l2 a1 a2 a3 a4=>?_,fun i o hz=>?_,fun j i v1 r S a1 a2=>?_,fun i sl hw=>?_,fun i o hz=>?_⟩,fun j pl g=>?_,b4,oL2 t.lim hs⟩,⟨b0,hs,fun i hi hn=>u i hi (fun r=>hn ?_),fun i hi hn=>?_,fun j o g=>?_,fun _ _ h=>h,fun _ _ h=>.inl h⟩⟩;rw[y]at g;split at g;rename_i r;subst r;cases g;exact⟨_,E,F⟩;split at g;rename_i r;subst r;cases g;exact⟨_,x,rfl⟩;rename_i V L;obtain⟨o0,q1,qb,q2⟩:=hkl.2 j o g;obtain⟨pl,p1,p2⟩:=t.hr.ob j o0 q1;refine⟨pl,(q j V L).trans p1,?_⟩;have p3:dU ⟨(Jb C k d (.atp id ver e len) id c m).f,C.z,C.w⟩ (Sim.look s.h) lim s.n o pl:=q2 (C:=C) (C':=⟨(Jb C k d (.atp id ver e len) id c m).f,C.z,C.w⟩) ⟨q,fun _ _ h=>h⟩ rfl p2;refine dU.monoB (C:=⟨(Jb C k d (.atp id ver e len) id c m).f,C.z,C.w⟩) (C':=Jb C k d (.atp id ver e len) id c m) hs ⟨fun _ _ h=>h,fun _ _ h=>h⟩ (B:=fun b=>b=c) (fun b hb=>by subst hb;exact R) (fun o sl F hb=>⟨b5 o sl F hb,a0 o sl F⟩) (fun i v1 r S hp hb=>?_) (fun i v1 r S hp=>?_) p3;subst hp;subst hb;exact L (t.hr.inj j d i _ _ _ _ _ _ (by rw[q1];simp) (by rw[G];simp) p1 K);subst hp;exact u i p2.lt.2 (fun e2=>by subst e2;exact P j _ _ _ V (by rw[q1];simp) p1)
 have Y:∀{j v e' l' i},Jb C k d (.atp id ver e len) id c m j=some (.atp i v e' l')->j≠k->C j=some (.atp i v e' l'):=fun{j v e' l' i} g h1=>by
  by_cases b:j=d;subst b;rw[x]at g;cases g;rw[q j h1 b]at g;exact g
 by_cases b1:j=k;by_cases b2:T=k;rw[b1,b2];exfalso;subst b1;rw[E]at a3;cases a3;exact P T _ _ _ b2 (A T a2) (Y a4 b2);by_cases b2:T=k;exfalso;subst b2;rw[E]at a4;cases a4;exact P j _ _ _ b1 (A j a1) (Y a3 b1);exact t.hr.inj j T i v1 r S v2 e2 l2 (A j a1) (A T a2) (Y a3 b1) (Y a4 b2);obtain⟨z1,z2,z3,z4⟩:=t.hr.zr i o hz
 have M:i≠id:=fun r=>by
  subst r;rcases hid with⟨hid,_⟩|⟨v',e',l',hid⟩
  omega;exact z3 k _ _ _ (by rw[hg];simp) hid
 refine⟨(u i z2 M).trans z1,oV2 z2 hs,fun j v e' l h1 h2=>?_,z4⟩;by_cases b1:j=k;subst b1;rw[E]at h2;cases h2;exact M rfl;by_cases b2:j=d;subst b2;rw[x]at h2;cases h2;exact z3 j v e' l (A j h1) ((q j b1 b2).symm.trans h2)
 have:C.w i=none:=by
  by_cases b1:j=k;subst b1;rw[E]at a2;cases a2;exact N;by_cases b2:j=d;subst b2;rw[x]at a2;cases a2;exact t.hr.wn j i v1 r S (A j a1) ((q j b1 b2).symm.trans a2)
 show(match C.w i with|some (p,i,j)=>if p=c then some (id,m+i,j)else some (p,i,j)|none=>none)=none
 rw[this];have D:(match C.w i with|some (p,i,j)=>if p=c then some (id,m+i,j)else some (p,i,j)|none=>none)=some sl:=hw;cases hc:C.w i with
 |none=>rw[hc]at D;cases D
 |some sl0=>
  obtain⟨p,a,b⟩:=sl0;have:=t.hr.wb i _ hc;rw[hc]at D;simp only at D;split at D;cases D;exact⟨by omega,U⟩;cases D;exact⟨by omega,by dsimp only at this ⊢;omega⟩
 have:=t.hr.wz i o hz;show(match C.w i with|some (p,i,j)=>if p=c then some (id,m+i,j)else some (p,i,j)|none=>none)=none
 rw[this];by_cases b1:j=k;subst b1;obtain⟨b7,k1,_⟩:=t.hr.ob j _ hg;exact t.dom j b7 k1;by_cases b2:j=d;subst b2;exact t.dom j _ K;exact t.dom j pl ((q j b1 b2).symm.trans g);subst r;rcases hid with⟨hid,_⟩|⟨v',e',l',hid⟩
 omega;exact .inl ⟨k,v',e',l',by rw[hg];simp,hid⟩;rcases hn with⟨j,v1,r,S,k1,J⟩|hn;by_cases b1:j=k;subst b1;rw[E]at J;cases J;rcases hid with⟨hid,_⟩|⟨v',e',l',hid⟩
 omega;exact .inl ⟨j,v',e',l',by rw[hg];simp,hid⟩;by_cases b2:j=d;subst b2;rw[x]at J;cases J;exact .inl ⟨j,v1,r,S,A j k1,(q j b1 b2).symm.trans J⟩;exact .inr (b6 i hn);rw[y];by_cases b1:j=k;subst b1;exact⟨po',by simp,fun h=>by rw[Z]at h;cases h⟩;by_cases b2:j=d;subst b2;exact⟨.lst 0 0 true [],by simp[b1],fun h=>by cases h⟩;cases hc:aK h2 j with
 |none=>rw[(hkl.1 j).1 hc]at g;cases g
 |some o'=>
  obtain⟨o0,q1,qb,_⟩:=hkl.2 j o' hc;rw[g]at q1;cases q1;exact⟨o',by simp[b1,b2],fun h=>⟨by rw[<-qb];exact h,q j b1 b2⟩⟩
theorem kV1 {k c:Nat} {e f e2:dG} (a:Wp k e f) (b:Wp c f e2):∀i w,dE e2 i=some w->∃v,dE e i=some v/\∀{C C':Cx} {y:AV},Dd k c C C'->RV C v y->RV C' w y:=fun i w hw=>by
 obtain⟨v1,q1,q2⟩:=b i w hw
 obtain⟨v,p1,p2⟩:=a i v1 q1
 refine⟨v,p1,fun{C C' y} hs hv=>?_⟩
 have c1:iQ k C ⟨fun j=>if j=c then C j else C' j,C'.z,C.w⟩:=⟨fun j d=>by
  show(if j=c then C j else C' j)=_
  split
  rfl
  rename_i h2;exact hs.1 j d h2,hs.2⟩
 have c2:iQ c ⟨fun j=>if j=c then C j else C' j,C'.z,C.w⟩ C':=⟨fun j d=>by show _=(if j=c then C j else C' j);rw[nS2 d],fun _ _ h=>h⟩
 exact q2 c2 (p2 c1 hv)
theorem oA1 (m:bY C n h lim s) {k d:Nat} {po po2:dO} {h2:aN} (hg:aK h k=some po) (t:aK h d=some po2) (u:k≠d) (hkl:Ag k d h h2) (hb:eG po=false)
  (A:∀pl,dU C (Sim.look s.h) lim s.n po pl->dU (mv C d .nil) (Sim.look s.h) lim s.n po pl):
  bY (mv C d .nil) n (bR (bR h2 d (.lst 0 0 true [])) k po) lim s/\Fr C h s (mv C d .nil) (bR (bR h2 d (.lst 0 0 true [])) k po) s:=by
 have r:∀j po,aK h j=some po->(aK h2 j).isSome=true:=fun j po c=>by
  cases hc:aK h2 j with
  |none=>rw[(hkl.1 j).1 hc]at c;cases c
  |some o=>rfl
 have g:∀j,aK (bR (bR h2 d (.lst 0 0 true [])) k po) j=if j=k then some po else if j=d then some (.lst 0 0 true [])else aK h2 j:=fun j=>by
  rw[cN,cN,cN];have a:=r k _ hg;have b:=r d _ t;by_cases f:j=k;subst f;simp[u,a];by_cases e2:j=d;subst e2;simp[Ne.symm u,b];simp[f,e2]
 have q:∀j,aK (bR (bR h2 d (.lst 0 0 true [])) k po) j≠none->aK h j≠none:=fun j c=>by
  rw[g]at c;split at c;rename_i f;subst f;rw[hg];simp;split at c;rename_i f;subst f;rw[t];simp;exact fun hc=>c ((hkl.1 j).2 hc)
 have p:∀{j w v e l},(mv C d .nil) j=some (.atp w v e l)->C j=some (.atp w v e l):=fun{j w v e l} c=>by
  by_cases b:j=d;subst b;rw[mF]at c;cases c;exact((dH C d _).1 j b).symm.trans c
 refine⟨⟨⟨fun j o c=>?_,fun j F i v1 f y v2 e2 L a1 a2 a3 a4=>m.hr.inj j F i v1 f y v2 e2 L (q j a1) (q F a2) (p a3) (p a4),fun i o K=>?_,fun j i v1 f y a1 a2=>m.hr.wn j i v1 f y (q j a1) (p a2),m.hr.wb,m.hr.wz⟩,fun j pl c=>?_,m.wf,m.lim⟩,⟨.refl _ _,nM2 _,fun _ _ _=>rfl,fun i hi z=>?_,fun j o c=>?_,fun _ _ h=>h,fun _ _ h=>.inl h⟩⟩;rw[g]at c;split at c;rename_i f;subst f;cases c;obtain⟨pl,p1,p2⟩:=m.hr.ob j _ hg;exact⟨pl,((dH C d _).1 j u).trans p1,A pl p2⟩;split at c;rename_i f;subst f;cases c;exact⟨_,mF C j _,rfl⟩;rename_i J x;obtain⟨G,q1,H,q2⟩:=hkl.2 j o c;obtain⟨pl,p1,p2⟩:=m.hr.ob j G q1;exact⟨pl,((dH C d _).1 j x).trans p1,q2 ⟨fun i h1 h2=>(dH C d _).1 i h2,fun _ _ h=>h⟩ rfl p2⟩;obtain⟨z1,z2,z3,z4⟩:=m.hr.zr i o K;exact⟨z1,z2,fun j v e' l h1 h2=>z3 j v e' l (q j h1) (p h2),z4⟩;by_cases b:j=d;subst b;obtain⟨E,B,_⟩:=m.hr.ob j _ t;exact m.dom j E B;exact m.dom j pl (((dH C d _).1 j b).symm.trans c);rcases z with⟨j,v1,f,y,B,D⟩|z;exact .inl ⟨j,v1,f,y,q j B,p D⟩;exact .inr z;rw[g];by_cases b1:j=k;subst b1;exact⟨po,by simp,fun h=>by rw[hb]at h;cases h⟩;by_cases b2:j=d;subst b2;exact⟨.lst 0 0 true [],by simp[b1],fun h=>by cases h⟩;cases hc:aK h2 j with
 |none=>rw[(hkl.1 j).1 hc]at c;cases c
 |some o'=>
  obtain⟨G,q1,H,_⟩:=hkl.2 j o' hc;rw[c]at q1;cases q1;exact⟨o',by simp[b1,b2],fun h=>⟨by rw[<-H];exact h,(dH C d _).1 j b2⟩⟩
theorem TC.nohole {C C':Cx} {L:Nat->aB AO} {nS d id i j:Nat} {ks:aA (Nat×TD)} {a:PV} {b:AV} (hw:C'.w=C.w) (h:TC C L lim nS d id ks [] i j a b):TC C' L lim nS d id ks [] i j a b:=by
 unfold TC at h ⊢;cases hk:eH ks j with
 |none=>rw[hk]at h;exact h
 |some t=>
  rw[hk]at h;rcases h with⟨⟨x,c⟩,_⟩|⟨h1,h⟩
  cases c;exact .inr ⟨h1,by rw[hw];exact h⟩
theorem TC.upd {C:Cx} {L:Nat->aB AO} {nS d c id i j:Nat} {ks:aA (Nat×TD)} {hs:aA (Nat×Nat×PV)} {a:PV} {b:AV} (hd:d<=c) (h:TC C L lim nS d id ks hs i j a b):TC C L lim nS c id ks hs i j a b:=by
 unfold TC at h ⊢;cases hk:eH ks j with
 |none=>rw[hk]at h;exact h
 |some t=>
  rw[hk]at h;simp only at h ⊢;rcases h with h|⟨h1,h⟩
  exact .inl h;exact .inr ⟨h1,h.up hd⟩
theorem Ws (G:bY C n h lim s) {e:dG} {t:aA AV} {d ty es b k F:Nat} {zero:aA Value} {kill:aA Nat} {y1 y2:AV} {tt:TD} {rows:aA (aA PV)} {hs:aA (Nat×Nat×PV)} {e7:dO} {K:dG->aN->aB R} {r:R} (he:cS C e t) (hd:d<t.length) (h1:RV C (.own k) y1) (h2:RV C (.own F) y2)
  (hg:aK h k=some (.tr tt rows hs)) (L:aK h F=some e7) (hk:Vg e h d ty es kill k tt rows hs F e7 K=some r):
  ∃C' e' h' out,K e' h'=some r/\doOp (Sim.look s.h) lim s.n (.append ty es b zero false) [y1,y2]=some out/\bY C' n h' lim (out.apply s)/\cS C' e' (t.set d out.v)/\Fr C h s C' h' (out.apply s):=by
 unfold Vg at hk;split at hk;rename_i ty' es' ks t2 f;by_cases hc:((Nat.beq es' es&&Nat.beq ty' ty)&&(Ei 8 t2 (.nd ty' es' ks)&& !(Nat.beq k F)))=true;simp only[hc,nX2,bJ,nI2]at hk;simp only[nJ2,aZ,nR2,oB2,pB2]at hc;obtain⟨⟨rfl,rfl⟩,d5,Y⟩:=hc;have d5:=xR d5;subst d5;obtain⟨d6,H,hk⟩:=hk;rw[dC]at hk;obtain⟨e2,hk,f1⟩:=gS _ _ _ hk;obtain⟨B,hk,e0⟩:=gS _ _ _ hk;obtain⟨h0,hk,f2⟩:=iJ _ _ _ hk;obtain⟨h3,hk,e4⟩:=iJ _ _ _ hk;have hk:=cE _ _ _ _ _ hk;have hk:=cE _ _ _ _ _ hk;have hkl:=Ag.of f2 e4;have f0:=kV1 f1 e0;unfold appRows at H;split at H;rename_i J;obtain rfl:rows++f=d6:=pN2 H
 have W:∀{C':Cx},Dd k F C C'->∀i w,dE B i=some w->∃z,t[i]? =some z/\RV C' w z/\i≠d:=by
  intro C' D i w hw;obtain⟨v,q1,q2⟩:=f0 i w hw;obtain⟨z,p1,p2,p3⟩:=he.edel (d::kill) i v q1;exact⟨z,p1,q2 D p2,fun e1=>p3 (by simp[e1])⟩
 have d0:∀S out,Sim.rowsOf (Sim.look s.h) es' y2=some S->S.length=f.length->Sim.appendTo (Sim.look s.h) lim s.n ty' es' y1 S=some out->(∀z id ver off len cap,out.v=.sl z id ver off len cap->len<=Sim.maxRoom)->doOp (Sim.look s.h) lim s.n (.append ty' es' b zero false) [y1,y2]=some out:=by
  intro S out T hnl N hl;simp only[doOp,Sim.appRows,nV2,oQ2,T,N];split;rename_i hv;rw[nQ2 ⟨hl _ _ _ _ _ _ hv,by rw[hnl];omega⟩];rfl
 have d4:∀(C':Cx),(∀j,j≠k->j≠F->C' j=C j)->C'.z=C.z->Dd k F C C':=fun C' h1 h2=>⟨h1,fun _ _ h=>by rw[h2];exact h⟩
 have g7:∀{id ver B len},C k=some (.atp id ver B len)->y1=.sl B id ver 0 len none/\B=es'/\len=rows.length:=fun{id ver B len} D=>by
  rcases eP h1 with⟨id',b0,g9,a0,U,rfl⟩|⟨U,_⟩
  rw[D]at U;cases U;obtain⟨_,_,a,b,_⟩:=jO G hg D;exact⟨rfl,a,b⟩;rw[D]at U;cases U
 by_cases V:f=[];subst V
 have T:Sim.rowsOf (Sim.look s.h) es' y2=some []:=by
  rcases eP h2 with⟨u,b4,q,e6,E,rfl⟩|⟨E,rfl⟩
  obtain⟨_,_,rfl,d3,_,g,d2,b8,O,_⟩:=jO G L E;subst d3;simp only[Sim.rowsOf,b8];rw[nQ2 ⟨by trivial,by trivial,by omega⟩];simp;rfl
 obtain⟨m1,m2⟩:=oA1 G hg L Y hkl rfl (fun pl N=>by
  cases pl with
  |nil=>exact N
  |atp id ver e' len=>
   obtain⟨a1,a2,a3,a4,a5,els,d1,a6,a7,a8⟩:=N;exact⟨a1,a2,a3,a4,a5,els,d1,a6,a7,fun i r r' c1 c2=>⟨(a8 i r r' c1 c2).1,fun j x y c3 c4=>TC.nohole (C:=C) (C':=mv C F .nil) rfl ((a8 i r r' c1 c2).2 j x y c3 c4)⟩⟩)
 rw[qK2]at hk;have d9:(mv C F .nil) k=C k:=(dH C F _).1 k Y
 have hv:RV (mv C F .nil) (.own k) y1:=by
  rcases eP h1 with⟨id,ver,B,len,D,rfl⟩|⟨D,rfl⟩
  exact .own (d9.trans D);exact .ownn (d9.trans D) rfl
 refine⟨_,_,_,{v:=y1},hk,d0 [] _ T rfl ?_ ?_,m1,.put hd hv (W (d4 _ (fun j _ h2=>(dH C F _).1 j h2) rfl)),m2⟩;rcases eP h1 with⟨id,ver,B,len,D,rfl⟩|⟨D,rfl⟩
 obtain⟨M,_,rfl,hl,_,els,d1,hL,f4,_⟩:=jO G hg D;simp only[Sim.appendTo,hL];rw[nQ2 ⟨by trivial,by trivial,by trivial,by omega⟩];rfl;rfl;intro z id ver off len cap hv;rcases eP h1 with⟨id',b0,B,a0,D,rfl⟩|⟨D,rfl⟩
 obtain⟨M,_,rfl,hl,_⟩:=jO G hg D;simp only[AV.sl.injEq]at hv;have:=J.1;omega;cases hv;have f6:f.length≠0:=fun h=>V (pY2 h);rcases eP h2 with⟨u,b4,q,e6,E,rfl⟩|⟨E,rfl⟩
 obtain⟨f5,g5,rfl,d3,d8,g,d2,b8,⟨O,g8⟩,b5⟩:=jO G L E;subst d3
 have T:Sim.rowsOf (Sim.look s.h) q (.sl q u b4 0 f.length none)=some (g.take f.length):=by
  simp only[Sim.rowsOf,b8];rw[nQ2 ⟨by trivial,by trivial,by omega⟩,pG2]
 have hnl:(g.take f.length).length=f.length:=by simp[pR2 O]
 have Z:(g.take f.length).isEmpty=false:=by
  cases hx:g.take f.length with
  |nil=>rw[hx]at hnl;simp at hnl;omega
  |cons a r=>rfl
 have g6:(g.take f.length).length=1:=by have:=J.2 rfl;omega
 have f9:C.w u=none:=G.hr.wn F u _ _ _ (by rw[L];simp) E
 have b7:∀{id ver:Nat} {L':Nat->aB AO} {b6:Nat} {els l:aA (aA AV)} {d1:Nat},s.n<=b6->lim<=id->id<b6->id≠u->C.w id=none->(∀o sl,C.w o=some sl->L' o=Sim.look s.h o)->
   (∀(i:Nat) (r:aA PV) (r':aA AV),rows[i]? =some r->els[i]? =some r'->r.length=r'.length/\∀(j:Nat) (a:PV) (b:AV),r[j]? =some a->r'[j]? =some b->TC C (Sim.look s.h) lim s.n d1 id ks [] i j a b)->
   L' id=some (.arr false ty' q ver l)->((rows++f).length<=l.length/\SL (rows++f).length l)->(∀i,i<rows.length->l[i]? =els[i]?)->(∀i,i<f.length->l[rows.length+i]? =g[i]?)->
   dU (Jb C k F (.atp id ver q (rows++f).length) id u rows.length) L' lim b6 (.tr (.nd ty' q ks) (rows++f) []) (.atp id ver q (rows++f).length):=by
  intro id ver L' b6 els l d1 q1 q2 q3 q4 q5 q6 q7 q8 q9 q10 q11;refine⟨q2,q3,rfl,rfl,d8,l,max d1 d2,q8,q9,fun i r r' c1 c2=>?_⟩
  have hW:∀o sl,C.w o=some sl->¬(sl.1=u)->(Jb C k F (.atp id ver q (rows++f).length) id u rows.length).w o=some sl/\L' o=Sim.look s.h o:=fun o sl N hn=>by
   obtain⟨p,a,c⟩:=sl;refine⟨?_,q6 o _ N⟩;show(match C.w o with|some (p,i,j)=>if p=u then some (id,rows.length+i,j)else some (p,i,j)|none=>none)=_
   rw[N];exact nS2 hn
  have hB:∀x,x=u->C.w x=none:=fun x hx=>by rw[hx];exact f9
  by_cases hi:i<rows.length;rw[pX2 hi]at c1;rw[q10 i hi]at c2;obtain⟨g1,g2⟩:=q7 i r r' c1 c2;refine⟨g1,fun j a c g3 g4=>?_⟩;have:=(g2 j a c g3 g4).upd (Nat.le_max_left d1 d2);unfold TC at this ⊢;cases hkd:eH ks j with
  |none=>rw[hkd]at this;exact this
  |some t0=>
   rw[hkd]at this;rcases this with⟨⟨x,hx⟩,_⟩|⟨h1,this⟩
   cases hx;exact .inr ⟨h1,dQ.mono q1 hB hW q4 this⟩
  rw[qQ2 (by omega)]at c1;have e9:i-rows.length<f.length:=(nK2.1 c1).1;have c3:=q11 (i-rows.length) e9;rw[show rows.length+(i-rows.length)=i by omega,c2]at c3;obtain⟨g1,g2⟩:=b5 (i-rows.length) r r' c1 c3.symm;refine⟨g1,fun j a c g3 g4=>?_⟩;have:=(g2 j a c g3 g4).upd (Nat.le_max_right d1 d2);unfold TC at this ⊢;cases hkd:eH ks j with
  |none=>rw[hkd]at this;exact this
  |some t0=>
   rw[hkd]at this;rcases this with⟨⟨x,hx⟩,_⟩|⟨h1,this⟩
   cases hx;refine .inr ⟨(fun⟨x,hx⟩=>(by cases hx)),dQ.move q1 hB hW (fun o N=>⟨?_,q6 o _ N⟩) this⟩;show(match C.w o with|some (p,i,j)=>if p=u then some (id,rows.length+i,j)else some (p,i,j)|none=>none)=_
   rw[N];show(if u=u then _ else _)=_
   rw[nQ2 rfl,show rows.length+(i-rows.length)=i by omega]
 rcases eP h1 with⟨id,ver,B,len,D,rfl⟩|⟨D,rfl⟩
 obtain⟨M,hid,rfl,hl,_,els,d1,hL,⟨f4,f8⟩,hr⟩:=jO G hg D;subst hl;have e5:id≠u:=fun h=>by subst h;exact Y (G.hr.inj k F id _ _ _ _ _ _ (by rw[hg];simp) (by rw[L];simp) D E)
 have P:=G.hr.wn k id _ _ _ (by rw[hg];simp) D
 have fin:∀(A:Nat) (l:aA (aA AV)),Sim.appendTo (Sim.look s.h) lim s.n ty' B (.sl B id ver 0 rows.length none) (g.take f.length)=some {v:=.sl B id A 0 (rows.length+(g.take f.length).length) none,up:=some (id,.arr false ty' B A l)}->
   ((rows++f).length<=l.length/\SL (rows++f).length l)->(∀i,i<rows.length->l[i]? =els[i]?)->(∀i,i<f.length->l[rows.length+i]? =g[i]?)->
   ∃C' e' h' out,K e' h'=some r/\doOp (Sim.look s.h) lim s.n (.append ty' B b zero false) [.sl B id ver 0 rows.length none,.sl B u b4 0 f.length none]=some out/\bY C' n h' lim (out.apply s)/\cS C' e' (t.set d out.v)/\Fr C h s C' h' (out.apply s):=by
  intro A l b9 g1 g2 g3
  have X:∀i,i≠id->Sim.look (upd s.h id (.arr false ty' B A l)) i=Sim.look s.h i:=fun i hi=>by
   rw[Sim.look_upd];simp[hi]
  obtain⟨m1,m2⟩:=iE1 (id:=id) (ver:=A) (e:=B) (len:=(rows++f).length) (m:=rows.length) (po':=.tr (.nd ty' B ks) (rows++f) []) (s':={h:=upd s.h id (.arr false ty' B A l),n:=s.n}) G hg L Y hkl
   (nM2 _) (G.wf.upd _ _) (.upd _ _ _ _) (fun i _ hi=>X i hi) (.inr ⟨_,_,_,D⟩) E
   (b7 (els:=els) (d1:=d1) (nM2 _) M hid e5 P (fun o sl N=>X o fun h=>by rw[h,P]at N;cases N) hr (by rw[Sim.look_upd];simp[hL]) g1 g2 g3) rfl
  refine⟨_,_,_,_,hk,d0 _ _ T hnl b9 ?_,m1,.put hd ?_ (W (d4 _ (fun j h1 h2=>by show(if j=k then _ else if j=F then _ else _)=_;rw[nS2 h1,nS2 h2]) rfl)),m2⟩;intro z id' b0 off a0 cap hv;simp only[AV.sl.injEq]at hv;have:=J.1;omega;have:RV (Jb C k F (.atp id A B (rows++f).length) id u rows.length) (.own k) (.sl B id A 0 (rows++f).length none):=.own (nQ2 rfl);rw[pD2]at this;rw[hnl];simpa using this
 by_cases e8:rows.length=els.length
 refine fin (ver+1) (els++g.take f.length) ?_ ⟨by simp;omega,.exact (by simp;omega)⟩ (fun i hi=>by rw[pX2 (by omega)]) (fun i hi=>by
  rw[qQ2 (by omega),oD2,nQ2 (by omega),show rows.length+i-els.length=i by omega])
 simp only[Sim.appendTo,hL];rw[nQ2 ⟨by trivial,by trivial,by trivial,by omega⟩];simp only[Z,nV2,oQ2];rw[nQ2 (by omega),nQ2 ⟨by trivial,M,by trivial⟩];have d7:rows.length+(g.take f.length).length<=els.length:=by omega
 refine fin ver (Sim.setL els rows.length (g.take f.length)) ?_ ⟨by rw[jP];simp;omega,fun i row hi b5=>by
  rw[pD2]at hi;rw[iC (.inr (by omega))]at b5;exact f8 i row (by omega) b5⟩ (fun i hi=>by rw[iC (.inl hi)]) (fun i hi=>by
  rw[nZ d7 (by omega) (by omega),show rows.length+i-rows.length=i by omega,oD2,nQ2 hi])
 simp only[Sim.appendTo,hL];rw[nQ2 ⟨by trivial,by trivial,by trivial,by omega⟩];simp only[Z,nV2,oQ2];rw[nS2 (by omega),nQ2 ⟨by omega,M⟩];rw[pE2];have f7:=(pQ G hg D).1;subst f7
 have b9:Sim.appendTo (Sim.look s.h) lim s.n ty' q (.v (.slice none 0 0)) (g.take f.length)=some {v:=.sl q s.n 0 0 (g.take f.length).length none,new:=some (.arr false ty' q 0 (g.take f.length))}:=by
  simp[Sim.appendTo,Z]
 have X:∀i,i<s.n->Sim.look (.ob s.n (.arr false ty' q 0 (g.take f.length))::s.h) i=Sim.look s.h i:=fun i hi=>by
  rw[dY,nS2 (by omega)]
 have P:C.w s.n=none:=by
  cases hw:C.w s.n with
  |none=>rfl
  |some sl=>have:=(G.hr.wb s.n sl hw).1;omega
 obtain⟨m1,m2⟩:=iE1 (id:=s.n) (ver:=0) (e:=q) (len:=([]++f).length) (m:=0) (po':=.tr (.nd ty' q ks) ([]++f) []) (s':={h:=.ob s.n (.arr false ty' q 0 (g.take f.length))::s.h,n:=s.n+1}) G hg L Y hkl
  (by show s.n<=s.n+1;omega) ⟨by simp,G.wf⟩ (.new _ _ _) (fun i hi _=>X i hi) (.inl ⟨rfl,by show s.n<s.n+1;omega⟩) E
  (b7 (els:=[]) (d1:=0) (by show s.n<=s.n+1;omega) G.lim (by show s.n<s.n+1;omega) (by omega) P (fun o sl N=>X o (G.hr.wb o sl N).1) (fun i r r' c1=>by simp at c1) (by rw[dY,nQ2 rfl]) ⟨by simp[pR2 O],.exact (by simp[pR2 O])⟩ (fun i hi=>by simp at hi) (fun i hi=>by
   rw[oD2,nQ2 (by simpa using hi)];simp)) rfl
 refine⟨_,_,_,_,hk,d0 _ _ T hnl b9 ?_,m1,.put hd ?_ (W (d4 _ (fun j h1 h2=>by show(if j=k then _ else if j=F then _ else _)=_;rw[nS2 h1,nS2 h2]) rfl)),m2⟩;intro z id' b0 off a0 cap hv;simp only[AV.sl.injEq]at hv;have:=J.1;omega;have:RV (Jb C k F (.atp s.n 0 q ([]++f).length) s.n u 0) (.own k) (.sl q s.n 0 0 ([]++f).length none):=.own (nQ2 rfl);rw[hnl];simpa using this;exact absurd (pQ G L E).1 V;cases H;simp only[qC2]at hc;simp only[hc]at hk;exact aD hk;exact aD hk
theorem cA1 (o:bY C n h lim s) {e:dG} {t:aA AV} {d ty es b:Nat} {zero:aA Value} {kill:aA Nat} {x1 x2:PV} {V y2:AV} {K:dG->aN->aB R} {r:R} (he:cS C e t) (hd:d<t.length) (h1:RV C x1 V) (h2:RV C x2 y2)
  (hk:kD1 e h d ty es kill x1 x2 K=some r):
  ∃C' e' h' out,K e' h'=some r/\doOp (Sim.look s.h) lim s.n (.append ty es b zero false) [V,y2]=some out/\bY C' n h' lim (out.apply s)/\cS C' e' (t.set d out.v)/\Fr C h s C' h' (out.apply s):=by
 unfold kD1 at hk;cases x1 with
 |own k=>
  simp only[eF,nI2]at hk;obtain⟨ob,hg,hk⟩:=hk;cases ob with
  |lz ty' es' dp rows=>exact Wr o he hd h1 h2 hg hk
  |lst ty' es' g rows=>
   have hz:=Wq o hk h2;clear hk;obtain⟨new,a,hk,b9,A⟩:=hz;by_cases hc:(Nat.beq es' es&&(Nat.beq ty' ty&& !(eO ty')))=true;simp only[hc,nX2,bJ,nI2]at hk;simp only[nJ2,aZ,nR2,oB2]at hc;obtain⟨rfl,rfl,B⟩:=hc;have D:Be ty'=ty':=by simp[Be,B]
   obtain⟨T,j,hk⟩:=hk;rw[dC]at hk;obtain⟨e2,hk,b6⟩:=gS _ _ _ hk;obtain⟨d4,hk,P⟩:=iJ _ _ _ hk;have hk:=cE _ _ _ _ _ hk;unfold appRows at j;split at j;rename_i y;obtain rfl:rows++new=T:=pN2 j
   have u:∀{C':Cx},iQ k C C'->∀i w,dE e2 i=some w->∃z,t[i]? =some z/\RV C' w z/\i≠d:=by
    intro C' p i w hw;obtain⟨v,q1,q2⟩:=b6 i w hw;obtain⟨z,p1,p2,p3⟩:=he.edel (d::kill) i v q1;exact⟨z,p1,q2 p p2,fun e1=>p3 (by simp[e1])⟩
   have M:∀out,Sim.appendTo (Sim.look s.h) lim s.n ty' es' V a=some out->(∀z id ver off len cap,out.v=.sl z id ver off len cap->len<=Sim.maxRoom)->doOp (Sim.look s.h) lim s.n (.append ty' es' b zero false) [V,y2]=some out:=by
    intro out U hl;simp only[doOp,Sim.appRows,nV2,oQ2,b9,U];split;rename_i hv;rw[nQ2 ⟨hl _ _ _ _ _ _ hv,by rw[<-A.1];omega⟩];rfl
   have hlen:=A.1;by_cases F:a=[]
   ·
    subst F;have Z:new=[]:=by simpa using hlen
    subst Z;rw[qK2]at hk;obtain⟨m1,m2⟩:=Pj o hg P (show eG (.lst ty' es' g rows)=false from B);refine⟨C,_,_,{v:=V},hk,M _ ?_ ?_,m1,.put hd h1 (u iQ.self),m2⟩;rcases iB h1 with⟨id,ver,m,len,p,rfl⟩|⟨p,hy⟩
    obtain⟨l,rfl,hl,els,L,hr,b7,_⟩:=iP o hg p;rw[D]at L;simp only[Sim.appendTo,L];rw[nQ2 ⟨by trivial,by trivial,by trivial,by omega⟩];rfl;rcases hy with rfl|rfl<;>rfl;intro z id ver off len cap hv;rcases iB h1 with⟨id',J,m,H,p,rfl⟩|⟨p,hy⟩
    obtain⟨l,rfl,hl,_⟩:=iP o hg p;cases hv;omega;rcases hy with rfl|rfl<;>cases hv
   have x:a.isEmpty=false:=by cases a<;>simp_all
   rcases iB h1 with⟨id,ver,m,len,p,rfl⟩|⟨p,hy⟩
   obtain⟨l,rfl,hl,els,L,hr,⟨b7,d0⟩,b5⟩:=iP o hg p;rw[D]at L;subst hl;have hid:=(o.hr.lt (by rw[hg];simp) p).2
   have fin:∀(f:Nat) (c:aA (aA AV)) (out:Out),out={v:=.sl m id f 0 (rows.length+a.length) none,up:=some (id,.arr false ty' m f c)}->
     Sim.appendTo (Sim.look s.h) lim s.n ty' m (.sl m id ver 0 rows.length none) a=some out->
     RR (rows++new) (c.take (rows++new).length)->((rows++new).length<=c.length/\SL (rows++new).length c)->(g=false->c.length=(rows++new).length)->
     ∃C' e' h' out,K e' h'=some r/\doOp (Sim.look s.h) lim s.n (.append ty' m b zero false) [.sl m id ver 0 rows.length none,y2]=some out/\bY C' n h' lim (out.apply s)/\cS C' e' (t.set d out.v)/\Fr C h s C' h' (out.apply s):=by
    intro f c out U b4 b0 Y O;have E:(out.apply s).h=upd s.h id (.arr false ty' m f c)/\(out.apply s).n=s.n:=by subst U;exact⟨rfl,rfl⟩
    have S:∀i,i≠id->Sim.look (upd s.h id (.arr false ty' m f c)) i=Sim.look s.h i:=fun i hi=>by
     rw[Sim.look_upd];simp[hi]
    have q:out.apply s={h:=upd s.h id (.arr false ty' m f c),n:=s.n}:=by subst U;rfl
    obtain⟨m1,m2⟩:=Ja (id:=id) (ver:=f) (e:=m) (len:=(rows++new).length) (po2:=.lst ty' m g (rows++new)) (s':={h:=upd s.h id (.arr false ty' m f c),n:=s.n}) o hg P
     (nM2 _) (o.wf.upd _ _) (.upd _ _ _ _) (fun i _ hi=>S i hi) (.inr ⟨_,_,_,p⟩) ⟨l,hid,rfl,rfl,c,by rw[Sim.look_upd];simp[L,D],b0,Y,O⟩ B
    refine⟨_,_,_,out,hk,M out b4 ?_,by rw[q];exact m1,?_,by rw[q];exact m2⟩;intro z id' J off H cap hv;subst U;cases hv;omega;subst U;refine .put hd ?_ (u (dH C k _));have:RV (mv C k (.atp id f m (rows++new).length)) (.own k) (.sl m id f 0 (rows++new).length none):=.own (mF C k _);rw[pD2,hlen]at this;simpa[hlen]using this
   by_cases N:rows.length=els.length;refine fin (ver+1) (els++a) _ rfl ?_ ?_ ?_ ?_;simp only[Sim.appendTo,L];rw[nQ2 ⟨by trivial,by trivial,by trivial,by omega⟩];simp only[x,nV2,oQ2];rw[nQ2 (by omega),nQ2 ⟨by trivial,l,by trivial⟩];rw[oZ2 (by simp;omega)];refine RR.append ?_ A;rw[oZ2 (by omega)]at hr;exact hr;exact⟨by simp;omega,.exact (by simp;omega)⟩;intro _;simp;omega
   have X:g=true:=by
    cases g with
    |true=>rfl
    |false=>exact absurd (b5 rfl).symm N
   have d3:=y.2 X
   have d2:a.length=1:=by
    have:a.length≠0:=by simpa using F
    omega
   have G:rows.length+a.length<=els.length:=by omega
   refine fin ver (Sim.setL els rows.length a) _ rfl ?_ ?_ ?_ ?_;simp only[Sim.appendTo,L];rw[nQ2 ⟨by trivial,by trivial,by trivial,by omega⟩];simp only[x,nV2,oQ2];rw[nS2 (by omega),nQ2 ⟨by omega,l⟩];rw[pE2];rw[tN els rows.length a G]
   have e1:(els.take rows.length++a++els.drop (rows.length+a.length)).take (rows++new).length=els.take rows.length++a:=by
    rw[qY2 (by simp;omega),oZ2 (by simp;omega)]
   rw[e1];exact hr.append A;refine⟨?_,?_⟩;rw[tN els rows.length a G];simp[hlen];omega;intro i row hi a0;rw[pD2]at hi;rw[iC (.inr (by omega))]at a0;exact d0 i row (by omega) a0;intro W;rw[X]at W;cases W
   ·
    have b8:=jN o hg p;subst b8
    have E:Sim.appendTo (Sim.look s.h) lim s.n ty' es' V a=some {v:=.sl es' s.n 0 0 a.length none,new:=some (.arr false ty' es' 0 a)}:=by
     rcases hy with rfl|rfl<;>simp[Sim.appendTo,x]
    have S:∀i,i<s.n->Sim.look (.ob s.n (.arr false ty' es' 0 a)::s.h) i=Sim.look s.h i:=fun i hi=>by
     rw[dY,nS2 (by omega)]
    obtain⟨m1,m2⟩:=Ja (id:=s.n) (ver:=0) (e:=es') (len:=([]++new).length) (po2:=.lst ty' es' g ([]++new)) (s':={h:=.ob s.n (.arr false ty' es' 0 a)::s.h,n:=s.n+1}) o hg P
     (by show s.n<=s.n+1;omega) ⟨by simp,o.wf⟩ (.new _ _ _) (fun i hi _=>S i hi) (.inl (nM2 _)) ⟨o.lim,by show s.n<s.n+1;omega,rfl,rfl,a,by rw[dY,nQ2 rfl,D],by rw[oZ2 (by simp;omega)];exact A,⟨by simp;omega,.exact (by simp;omega)⟩,fun _=>by simp;omega⟩ B
    refine⟨_,_,_,_,hk,M _ E ?_,m1,.put hd ?_ (u (dH C k _)),m2⟩;intro z id' J off H cap hv;cases hv;simp at y;omega;have:RV (mv C k (.atp s.n 0 es' ([]++new).length)) (.own k) (.sl es' s.n 0 0 ([]++new).length none):=.own (mF C k _);simpa[hlen]using this
   cases j;simp only[qC2]at hc;simp only[hc]at hk;exact aD hk
  |tr tt rows hs=>
   cases x2 with
   |own k2=>
    simp only[nI2]at hk;obtain⟨d5,O,hk⟩:=hk;exact Ws o he hd h1 h2 hg O hk
   |_=>exact aD hk
  |_=>exact aD hk
 |_=>exact aD hk
theorem Wt (d:bY C n h lim s) {k ty2 e2:Nat} {g2:Bool} {po:dO} {h1:aN} (hg:aK h k=some po) (w:C k=some .nil) (hkl:qZ k h h1) (g:eO ty2=false):
  bY C n (bR h1 k (.lst ty2 e2 g2 [])) lim s/\Fr C h s C (bR h1 k (.lst ty2 e2 g2 [])) s:=by
 have p:(aK h1 k).isSome=true:=by
  cases hc:aK h1 k with
  |none=>rw[(hkl.1 k).1 hc]at hg;cases hg
  |some o=>rfl
 have a:∀j,aK (bR h1 k (.lst ty2 e2 g2 [])) j=if j=k then some (.lst ty2 e2 g2 [])else aK h1 j:=fun j=>by
  rw[cN];simp[p]
 have b:∀j,aK (bR h1 k (.lst ty2 e2 g2 [])) j≠none->aK h j≠none:=fun j f=>by
  rw[a]at f;split at f;rename_i c;subst c;rw[hg];simp;exact fun hc=>f ((hkl.1 j).2 hc)
 refine⟨⟨⟨fun j o f=>?_,fun j u i v1 c m v2 e2 y a1 a2 a3 a4=>d.hr.inj j u i v1 c m v2 e2 y (b j a1) (b u a2) a3 a4,fun i o x=>?_,fun j i v1 c m a1 a2=>d.hr.wn j i v1 c m (b j a1) a2,d.hr.wb,d.hr.wz⟩,d.dom,d.wf,d.lim⟩,⟨.refl _ _,nM2 _,fun _ _ _=>rfl,fun i hi q=>?_,Eu hg hkl g iQ.self,fun _ _ h=>h,fun _ _ h=>.inl h⟩⟩;rw[a]at f;split at f;rename_i c;subst c;cases f;exact⟨.nil,w,rfl⟩;obtain⟨z,q1,A,q2⟩:=hkl.2 j o f;obtain⟨pl,r,t⟩:=d.hr.ob j z q1;exact⟨pl,r,q2 iQ.self rfl t⟩;obtain⟨z1,z2,z3,z4⟩:=d.hr.zr i o x;exact⟨z1,z2,fun j v e l h1 h2=>z3 j v e l (b j h1) h2,z4⟩;rcases q with⟨j,v1,c,m,r,t⟩|q;exact .inl ⟨j,v1,c,m,b j r,t⟩;exact .inr q
theorem Rv (f:bY C n h lim s) {e:dG} {t:aA AV} {d es k:Nat} {hi:Int} {kd:IntKind} {kill:aA Nat} {D F:AV} {K:dG->aN->aB R} {r:R} (he:cS C e t) (hd:d<t.length) (h1:RV C (.own k) D) (h2:RV C (.v (.int kd hi)) F)
  (hk:Lx e h d es kill k hi K=some r):
  ∃C' e' h' out,K e' h'=some r/\doOp (Sim.look s.h) lim s.n (.slc es false true false) [D,F]=some out/\bY C' n h' lim (out.apply s)/\cS C' e' (t.set d out.v)/\Fr C h s C' h' (out.apply s):=by
 unfold Lx at hk;simp only[eF,nI2]at hk;obtain⟨ob,hg,hk⟩:=hk;cases ob with
 |lst ty es' g rows=>
  by_cases hc:es'=es
  .subst hc
   cases hfx:eO ty with
   |true=>simp only[hfx,qA2,Bool.and_false,oI2]at hk;exact aD hk
   |false=>
   simp only[aZ,pJ2,hfx,Bool.not_false,Bool.and_true,nX2,bJ,nI2,qI]at hk;obtain⟨B,c,hk⟩:=hk;rw[dC]at hk;obtain⟨e2,hk,j⟩:=gS _ _ _ hk;obtain⟨u,hk,l⟩:=iJ _ _ _ hk;have hk:=cE _ _ _ _ _ hk;split at c
   .rename_i hb
    obtain⟨b2,b3⟩:=hb;obtain rfl:=pN2 c;rw[fB h2];rcases iB h1 with⟨id,ver,o,len,b,rfl⟩|⟨b,hy⟩
    .obtain ⟨m,rfl,hl,els,E,hr,⟨H,x⟩,G⟩:=iP f hg b
     subst hl;have hid:=(f.hr.lt (by rw[hg];simp) b).2;have a:(rows.take hi.toNat).length=hi.toNat:=by simp;omega
     obtain⟨y,A⟩:=Ja (id:=id) (ver:=ver) (e:=o) (len:=(rows.take hi.toNat).length) (po2:=.lst ty o true (rows.take hi.toNat)) (s':=s) (h1:=u) (hg:=hg) (hkl:=l) f
      (nM2 _) f.wf (.refl _ _) (fun i _ _=>rfl) (.inr ⟨_,_,_,b⟩) ⟨m,hid,rfl,rfl,els,E,by
       have:=hr.take hi.toNat
       rw[List.take_take,pR2 (by omega)]at this;rw[a];exact this,⟨by rw[a];omega,SL.cut hr x _⟩,fun h=>by cases h⟩ hfx
     refine⟨_,_,_,{v:=.sl o id ver 0 hi.toNat none},hk,?_,y,.put hd ?_ (fun i w hw=>?_),A⟩
     .simp only[doOp,Sim.sliceOp,nV2,oQ2,Sim.bounds,Sim.intOf,oM2,E,Sim.roomOf]
      rw[nQ2 ⟨by trivial,by trivial,by omega,b2,by omega,by omega⟩];simp
     .have:=RV.own (C:=mv C k (.atp id ver o (rows.take hi.toNat).length)) (mF C k _)
      rw[a]at this ⊢;exact this
     .obtain ⟨v,q1,q2⟩:=j i w hw
      obtain⟨z,p1,p2,p3⟩:=he.edel (d::kill) i v q1;exact⟨z,p1,q2 (dH C k _) p2,fun p=>p3 (by simp[p])⟩
    .have:=jN f hg b
     subst this;simp only[nZ2,Int.natCast_zero]at b3;obtain rfl:hi=0:=by omega
     obtain⟨y,A⟩:=Wt (ty2:=ty) (e2:=es') (g2:=true) f hg b l hfx
     obtain rfl:D=.v (.slice none 0 0):=by
      rcases eP h1 with⟨_,_,_,_,q,_⟩|⟨_,q⟩
      .rw [b]at q;cases q
      .exact q
     refine⟨_,_,_,{v:=.v (.slice none 0 0)},hk,rfl,y,.put hd (.ownn b rfl) (fun i w hw=>?_),A⟩;obtain⟨v,q1,q2⟩:=j i w hw;obtain⟨z,p1,p2,p3⟩:=he.edel (d::kill) i v q1;exact⟨z,p1,q2 iQ.self p2,fun p=>p3 (by simp[p])⟩
   .cases c
  .simp only[aZ,oC2 hc,Bool.false_and,oI2]at hk;exact aD hk
 |_=>exact aD hk
end
end Go.P
namespace Go.P
open Go.Sim (AV AO Hp eJ upd St IC IX Ex eE CK Wf Out doOp iG exec)
section
variable {R:Type} {C:Cx} {n:Nat} {h:aN} {lim:Nat} {s:Hp}
theorem Wu (l:bY C n h lim s) {m:Bool} {k:Nat} {v:PV} {ob:dO} {x:PV} (hv:zR v=some (m,k)) (hg:aK h k=some ob) (hf:Ol m ob=some x) {y:AV} (hy:RV C v y):
  (∃id ver e len o,C k=some (.atp id ver e len)/\Sim.look s.h id=some o/\nbO o=true/\∀(z:Nat->aB AO) (f:Nat->aB Pl),(∀i o,C.z i=some o->z i=some o)->z id=some o->RV ⟨f,z,C.w⟩ x y)\/(C k=some .nil/\∀C':Cx,RV C' x y):=by
 cases v with
 |own k'=>
  cases hv;cases ob with
  |lst ty e g rows=>
   unfold Ol at hf;cases hfx:eO ty with
   |true=>simp only[hfx,nX2]at hf;cases hf
   |false=>
   simp only[hfx,oI2]at hf;cases hf;have q:Be ty=ty:=by simp[Be,hfx]
   rcases eP hy with⟨id,ver,d,len,c,rfl⟩|⟨c,rfl⟩
   obtain⟨_,rfl,hlen,els,j,hr,p,_⟩:=iP l hg c;subst hlen;rw[q]at j;refine .inl ⟨id,ver,d,_,_,c,j,rfl,fun z f t hi=>.zs (.inr ⟨d,rows,id,ver,ty,els,rfl,rfl,hi,p.1,fun i r r' a b=>?_⟩)⟩;refine hr.2 i r r' a ?_;have:i<rows.length:=(nK2.1 a).1;rw[oD2,nQ2 this];exact b;have:=jN l hg c;subst this;exact .inr ⟨c,fun C'=>.zs (RZ.of .isn)⟩
  |lz ty e dp rows=>
   cases hf;rcases eP hy with⟨id,ver,d,len,c,rfl⟩|⟨c,rfl⟩
   obtain⟨_,_,rfl,hlen,_,els,j,hr⟩:=wT l hg c;subst hlen;have hl:=hr.1;exact .inl ⟨id,ver,d,_,_,c,j,rfl,fun z f t hi=>.zs (.inr ⟨d,rows,id,ver,ty,els,rfl,rfl,hi,by omega,fun i r r' a b=>(hr.2 i r r' a b).mono fun _ _ h=>RZ.mono t h⟩)⟩;have:=vK l hg c;subst this;exact .inr ⟨c,fun C'=>.zs (RZ.of .isn)⟩
  |_=>cases hf
 |map k'=>
  cases hv;cases ob with
  |mp es=>
   cases hf;obtain⟨id,ver,d,len,c,rfl⟩:=vI hy;obtain⟨_,es',j,he⟩:=Ip l hg c;exact .inl ⟨id,ver,d,_,_,c,j,rfl,fun z f t hi=>.zm hi he⟩
  |_=>cases hf
 |_=>cases hv
def Rw (C:Cx) (k id:Nat) (o:AO):Cx:=⟨fun j=>if j=k then some .nil else C j,fun i=>if i=id then some o else C.z i,C.w⟩
theorem yI1 (g:bY C n h lim s) {k id ver e len:Nat} {po:dO} {h1:aN} {o:AO} (hg:aK h k=some po) (u:C k=some (.atp id ver e len)) (L:Sim.look s.h id=some o) (E:nbO o=true) (hkl:qZ k h h1):
  bY (Rw C k id o) n (bR h1 k (.lst 0 0 true [])) lim s/\Fr C h s (Rw C k id o) (bR h1 k (.lst 0 0 true [])) s/\iQ k C (Rw C k id o):=by
 have hid:=(g.hr.lt (by rw[hg];simp) u).2
 have G:C.z id=none:=by
  cases f:C.z id with
  |none=>rfl
  |some o'=>exact absurd u ((g.hr.zr id o' f).2.2.1 k ver e len (by rw[hg];simp))
 have y:∀i o',C.z i=some o'->(Rw C k id o).z i=some o':=fun i o' f=>by
  have:i≠id:=fun q=>by rw[q,G]at f;cases f
  simp only[Rw,nS2 this];exact f
 have c:iQ k C (Rw C k id o):=⟨fun j d=>nS2 d,y⟩
 have w:(Rw C k id o) k=some .nil:=nQ2 rfl
 have B:(aK h1 k).isSome=true:=by
  cases hc:aK h1 k with
  |none=>rw[(hkl.1 k).1 hc]at hg;cases hg
  |some o=>rfl
 have r:∀j,aK (bR h1 k (.lst 0 0 true [])) j=if j=k then some (.lst 0 0 true [])else aK h1 j:=fun j=>by
  rw[cN];simp[B]
 have p:∀j,aK (bR h1 k (.lst 0 0 true [])) j≠none->aK h j≠none:=fun j d=>by
  rw[r]at d;split at d;rename_i q;subst q;rw[hg];simp;exact fun hc=>d ((hkl.1 j).2 hc)
 have m:∀{j t v e l},(Rw C k id o) j=some (.atp t v e l)->j≠k/\C j=some (.atp t v e l):=fun{j t v e l} d=>by
  by_cases b:j=k;subst b;rw[w]at d;cases d;exact⟨b,(c.1 j b).symm.trans d⟩
 refine⟨⟨⟨fun j ob d=>?_,fun j K i v1 q A v2 e2 M a1 a2 a3 a4=>g.hr.inj j K i v1 q A v2 e2 M (p j a1) (p K a2) (m a3).2 (m a4).2,fun i o' f=>?_,fun j i v1 q A a1 a2=>g.hr.wn j i v1 q A (p j a1) (m a2).2,g.hr.wb,fun i o' f=>?_⟩,fun j pl d=>?_,g.wf,g.lim⟩,⟨.refl _ _,nM2 _,fun _ _ _=>rfl,fun i hi F=>?_,Eu hg hkl rfl c,y,fun i hi f=>?_⟩,c⟩;rw[r]at d;split at d;rename_i q;subst q;cases d;exact⟨.nil,w,rfl⟩;rename_i D;obtain⟨N,q1,O,q2⟩:=hkl.2 j ob d;obtain⟨pl,H,J⟩:=g.hr.ob j N q1;exact⟨pl,(c.1 j D).trans H,q2 c rfl J⟩;by_cases hi:i=id;subst hi;simp only[Rw,oK2]at f;cases f;refine⟨L,hid,fun j v e' l a b=>?_,E⟩;obtain⟨b1,b2⟩:=m b;exact b1 (g.hr.inj j k i _ _ _ _ _ _ (p j a) (by rw[hg];simp) b2 u);simp only[Rw,nS2 hi]at f;obtain⟨z1,z2,z3,z4⟩:=g.hr.zr i o' f;exact⟨z1,z2,fun j v e' l a b=>z3 j v e' l (p j a) (m b).2,z4⟩;by_cases hi:i=id;subst hi;exact g.hr.wn k i ver e len (by rw[hg];simp) u;simp only[Rw,nS2 hi]at f;exact g.hr.wz i o' f;by_cases b:j=k;subst b;exact g.dom j _ u;exact g.dom j pl ((c.1 j b).symm.trans d);rcases F with⟨j,v1,q,A,H,J⟩|F;exact .inl ⟨j,v1,q,A,p j H,(m J).2⟩;exact .inr F;by_cases x:i=id;subst x;exact .inr (.inl ⟨k,ver,e,len,by rw[hg];simp,u⟩);simp only[Rw,nS2 x]at f;exact .inl f
theorem cB1 (B:bY C n h lim s) {e:dG} {t:aA AV} (he:cS C e t) {d k:Nat} {m:Bool} {J L:PV} {q yd:AV} {j:aB Nat} {K:dG->aN->aB R} {r:R} (O:dE e d=some L) (hd:t[d]? =some yd) (S:RV C L yd)
  (hv:zR J=some (m,k)) (hy:RV C J q) (P:(j=none/\yd=q)\/∃i cs',j=some i/\yd=.agg cs'/\cs'[i]? =some q) (hk:fzK e h d m k j K=some r):
  ∃C' e' h',K e' h'=some r/\bY C' n h' lim s/\cS C' e' t/\Fr C h s C' h' s:=by
 unfold fzK at hk;rw[eF,nI2]at hk;obtain⟨ob,hg,hk⟩:=hk;cases hf:Ol m ob with
 |none=>rw[hf]at hk;cases hk
 |some x=>
 rw[hf]at hk;simp only at hk;obtain⟨e2,hk,E⟩:=gS _ _ _ hk;obtain⟨h2,hk,p⟩:=iJ _ _ _ hk;have hk:=cE _ _ _ _ _ hk
 have g:∃C',bY C' n (bR h2 k (.lst 0 0 true [])) lim s/\Fr C h s C' (bR h2 k (.lst 0 0 true [])) s/\iQ k C C'/\RV C' x q:=by
  rcases Wu B hv hg hf hy with⟨id,ver,T,len,o,A,N,F,G⟩|⟨A,G⟩
  obtain⟨c,f,u⟩:=yI1 B hg A N F p;exact⟨_,c,f,u,G _ _ u.2 (by simp[Rw])⟩;obtain⟨c,f⟩:=Wt (ty2:=0) (e2:=0) (g2:=true) B hg A p rfl;exact⟨C,c,f,iQ.self,G C⟩
 obtain⟨C',c,f,u,H⟩:=g
 have l:cS C' e2 t:=fun i w hw=>by
  obtain⟨v,q1,q2⟩:=E i w hw;obtain⟨z,p1,p2⟩:=he i v q1;exact⟨z,p1,q2 u p2⟩
 have Bn:∀{v:PV},RV C' v yd->cS C' ((d,v)::edel e2 [d]) t:=fun{v} hv i w hw=>by
  simp only[dE]at hw;split at hw;rename_i y;subst y;cases hw;exact⟨yd,hd,hv⟩;obtain⟨z,p1,p2,_⟩:=l.edel [d] i w hw;exact⟨z,p1,p2⟩
 rcases P with⟨rfl,rfl⟩|⟨i,cs',rfl,rfl,hi⟩
 simp only[dC]at hk;exact⟨C',_,_,hk,c,Bn H,f⟩;simp only[fQ,nI2]at hk;obtain⟨v2,hv2,hk⟩:=hk;cases v2 with
 |agg cs=>
  obtain⟨q1,q2⟩:=gR _ _ _ _ _ hk;simp only[dC]at q2;obtain⟨z,p1,p2⟩:=l d _ hv2;rw[hd]at p1;cases p1;obtain⟨cs2,D,hl⟩:=kS p2;cases D;refine⟨C',_,_,q2,c,Bn ?_,f⟩;have b:=hl.set H i
  have y:cs'.set i q=cs':=by
   apply rH2;intro a;rw[oG2];split;rename_i h;subst h;have M:=(nK2.1 hi).1;rw[nQ2 M,hi];rfl
  rw[y]at b;exact .agg b.1 b.2
 |_=>exact aD hk
end
end Go.P
namespace Go.P
open Go.Sim (AV AO Hp eJ upd St IC IX Ex eE CK Wf Out doOp iG exec Foot wanted put)
theorem Wv {x:PV} (h:okC x=true):RC false x (eV x):=by
 unfold okC at h;split at h;exact .v _;exact .isn;exact .fn rfl rfl (fun j x y h=>by simp at h) (fun j x y h=>by simp at h);rename_i cs;refine .agg (by simp) (fun j x y a hy=>?_);simp only[oW2,nL2]at hy;obtain⟨b,h1,rfl⟩:=hy;rw[a]at h1;cases h1;have:=nN2.1 h x (nU2 a);cases x<;>simp[isV]at this;exact .v _;cases h
def Gj (N:Nat):PX->Bool
 |.t i=>Nat.blt i N
 |.c x=>okC x
def gT (N:Nat) (e:aA Nat) (a:Bool):aA Nat->gX->Bool
 |_,.nil=>true
 |ds,.op d _ xs _ r=>Nat.blt d N&& !rM d e&&xs.all (Gj N)&&gT N e a (d::ds) r
 |ds,.sto _ xs _ r=>xs.all (Gj N)&&gT N e a ds r
 |ds,.ifx d c _ b x _ r=>Nat.blt d N&& !rM d e&&Gj N x&&(!a||rM c ds)&&gT N (c::e) true [] b&&gT N e a (d::ds) r
 |ds,.ifn d c _ b x _ r=>Nat.blt d N&& !rM d e&&Gj N x&&(!a||rM c ds)&&gT N (c::e) true [] b&&gT N e a (d::ds) r
 |ds,.mkfl d _ _ xs _ r=>Nat.blt d N&& !rM d e&&xs.all (Gj N)&&gT N e a (d::ds) r
 |ds,.lax _ _ r=>gT N e a ds r
 |ds,.own _ _ _ _ r=>gT N e a ds r
 |ds,.ownc _ _ _ _ _ r=>gT N e a ds r
 |ds,.laxc _ _ _ r=>gT N e a ds r
 |ds,.fz _ _ r=>gT N e a ds r
 |ds,.laxm _ _ r=>gT N e a ds r
 |ds,.opn d _ x _ _ r=>Nat.blt d N&& !rM d e&&[x].all (Gj N)&&gT N e a (d::ds) r
 |ds,.bst d _ _ _ _ xs _ r=>Nat.blt d N&& !rM d e&&xs.all (Gj N)&&gT N e a (d::ds) r
 |ds,.gc _ r=>gT N e a ds r
 |ds,.clr d _ _ x y _ r=>Nat.blt d N&& !rM d e&&[x,y].all (Gj N)&&gT N e a (d::ds) r
 |ds,.tre _ _ _ r=>gT N e a ds r
section
variable {R:Type} {C:Cx} {n N:Nat} {h:aN} {lim:Nat} {s:Hp} {T:iG} {O:vE} {NF:FuncId->Bool} {dr:Nat} {e:dG} {t:List AV}
theorem iK (he:cS C e t):∀{xs:aA PX} {vs:aA PV},xs.all (Gj N)=true->evs e xs=some vs->∃ys,Sim.evs t (xs.map eX)=some ys/\LR (RV C) vs ys
 |[],vs,_,h=>by
  simp only[evs,nP2]at h
  subst h
  exact⟨[],rfl,.nil⟩
 |.t i::xs,vs,ho,h=>by
  simp only[evs,nI2,nP2]at h
  obtain⟨v,hv,f,a,rfl⟩:=h
  obtain⟨y,h1,h2⟩:=he i v hv
  obtain⟨ys,b,d⟩:=iK he (xs:=xs) (by simp only[pL2,nJ2]at ho;exact ho.2) a
  exact⟨y::ys,by simp[Sim.evs,eX,IX.ev,h1,b],.cons h2 d⟩
 |.c x::xs,vs,ho,h=>by
  simp only[evs,nI2,nP2]at h
  obtain⟨f,a,rfl⟩:=h
  simp only[pL2,nJ2]at ho
  obtain⟨ys,b,d⟩:=iK he (xs:=xs) ho.2 a
  exact⟨eV x::ys,by simp[Sim.evs,eX,IX.ev,b],.cons (.cl (Wv ho.1)) d⟩
def Kp (g:aB (Nat×Bool)) (t:aA AV):Prop:=match g with
 |none=>True
 |some (c,w)=>t[c]? =some (.v (.bool w))
theorem Kp.wanted {g:aB (Nat×Bool)} {t:aA AV} (h:Kp g t):wanted t g=true:=by
 cases g with
 |none=>rfl
 |some p=>obtain⟨c,w⟩:=p;simp only[Kp]at h;simp[Sim.wanted,h]
def GIn (g:aB (Nat×Bool)) (a:aA Nat):Prop:=∀c w,g=some (c,w)->c∈a
theorem Kp.set {g:aB (Nat×Bool)} {t:aA AV} {a:aA Nat} {d:Nat} {y:AV} (h:Kp g t) (hg:GIn g a) (hd:d∉a):Kp g (t.set d y):=by
 cases g with
 |none=>trivial
 |some p=>
  obtain⟨c,w⟩:=p;simp only[Kp]at h ⊢;rw[nY2 (fun e=>hd (by rw[e];exact hg c w rfl))];exact h
structure Mx (s s':Hp):Prop where
 sk:Sk s.h s'.h s.n
 n:s.n<=s'.n
 wf:Wf s'.h s'.n
 look:∀id,id<s.n->Sim.look s'.h id=Sim.look s.h id
theorem Mx.refl (hw:Wf s.h s.n):Mx s s:=⟨.refl _ _,nM2 _,hw,fun _ _=>rfl⟩
theorem Mx.trans {s' c:Hp} (a:Mx s s') (b:Mx s' c):Mx s c:=⟨a.sk.trans b.sk a.n,oL2 a.n b.n,b.wf,fun id hid=>(b.look id (oV2 hid a.n)).trans (a.look id hid)⟩
theorem bY.grow {s':Hp} (a:bY C n h lim s) (b:Mx s s'):bY C n h lim s':=by
 refine⟨⟨fun k po hk=>?_,a.hr.inj,fun id o c=>?_,a.hr.wn,fun id sl hw=>⟨oV2 (a.hr.wb id sl hw).1 b.n,oV2 (a.hr.wb id sl hw).2 b.n⟩,a.hr.wz⟩,a.dom,b.wf,oL2 a.lim b.n⟩;obtain⟨pl,h1,h2⟩:=a.hr.ob k po hk;refine⟨pl,h1,h2.mono b.n (.refl C) (fun id v e l hp=>?_) (fun o sl hw=>⟨hw,b.look o (a.hr.wb o sl hw).1⟩)⟩;subst hp;exact b.look id h2.lt.2;obtain⟨z1,z2,z3,z4⟩:=a.hr.zr id o c;exact⟨(b.look id z2).trans z1,oV2 z2 b.n,z3,z4⟩
theorem Mx.fr {s':Hp} (a:Mx s s'):Fr C h s C h s':=⟨a.sk,a.n,fun id hid _=>a.look id hid,fun _ _ h=>h,fun k o h=>⟨o,h,fun hb=>⟨hb,rfl⟩⟩,fun _ _ h=>h,fun _ _ h=>.inl h⟩
theorem cD:∀(ops:gX) (a:aA Nat) (i:Nat),i∈bT ops a↔i∈bT ops []\/i∈a
 |.nil,a,i=>by simp[bT]
 |.op d k xs kl r,a,i=>by
  simp only[bT,nW2,cD r a i,or_assoc]
 |.sto k xs kl r,a,i=>by simp only[bT,cD r a i]
 |.ifx d c w b x kl r,a,i=>by
  simp only[bT,nW2,cD b (bT r a) i,cD b (bT r []) i,cD r a i]
  constructor
  rintro(h|h|h|h)<;>simp[h]
  rintro((h|h|h)|h)<;>simp[h]
 |.ifn d c w b x kl r,a,i=>by
  simp only[bT,nW2,cD b (bT r a) i,cD b (bT r []) i,cD r a i]
  constructor
  rintro(h|h|h|h)<;>simp[h]
  rintro((h|h|h)|h)<;>simp[h]
 |.mkfl d ty zero xs kl r,a,i=>by
  simp only[bT,nW2,cD r a i,or_assoc]
 |.lax d es r,a,i=>by simp only[bT,cD r a i]
 |.own d ty e g r,a,i=>by simp only[bT,cD r a i]
 |.ownc d j ty e g r,a,i=>by simp only[bT,cD r a i]
 |.laxc d j e r,a,i=>by simp only[bT,cD r a i]
 |.fz d j r,a,i=>by simp only[bT,cD r a i]
 |.laxm d j r,a,i=>by simp only[bT,cD r a i]
 |.opn d m x kl js r,a,i=>by
  simp only[bT,nW2,cD r a i,or_assoc]
 |.bst d ty l zero ps xs kl r,a,i=>by
  simp only[bT,nW2,cD r a i,or_assoc]
 |.gc _ r,a,i=>by simp only[bT,cD r a i]
 |.clr d es zero x y kl r,a,i=>by
  simp only[bT,nW2,cD r a i,or_assoc]
 |.tre d j ty r,a,i=>by simp only[bT,cD r a i]
theorem dI:∀(ops:gX) {f h:aA Nat} {a:Bool},gT N f a h ops=true->∀i∈bT ops [],i∉f
 |.nil,f,h,a,_,i,hi=>by simp[bT]at hi
 |.op d k xs kl r,f,h,a,ho,i,hi=>by
  simp only[gT,nJ2,oB2,eL]at ho
  obtain⟨⟨⟨h1,h2⟩,o⟩,n⟩:=ho
  simp only[bT,nW2]at hi
  rcases hi with rfl|hi
  simpa using h2
  exact dI r n i hi
 |.sto k xs kl r,f,h,a,ho,i,hi=>by
  simp only[gT,nJ2]at ho
  exact dI r ho.2 i hi
 |.ifx d c w b x kl r,f,h,a,ho,i,hi=>by
  simp only[gT,nJ2,oB2,eL]at ho
  obtain⟨⟨⟨⟨⟨h1,h2⟩,o⟩,n⟩,p⟩,q⟩:=ho
  simp only[bT,nW2,cD b (bT r []) i]at hi
  rcases hi with rfl|hi|hi
  simpa using h2
  exact fun hg=>dI b p i hi (by simp[hg])
  exact dI r q i hi
 |.ifn d c w b x kl r,f,h,a,ho,i,hi=>by
  simp only[gT,nJ2,oB2,eL]at ho
  obtain⟨⟨⟨⟨⟨h1,h2⟩,o⟩,n⟩,p⟩,q⟩:=ho
  simp only[bT,nW2,cD b (bT r []) i]at hi
  rcases hi with rfl|hi|hi
  simpa using h2
  exact fun hg=>dI b p i hi (by simp[hg])
  exact dI r q i hi
 |.mkfl d ty zero xs kl r,f,h,a,ho,i,hi=>by
  simp only[gT,nJ2,oB2,eL]at ho
  obtain⟨⟨⟨h1,h2⟩,o⟩,n⟩:=ho
  simp only[bT,nW2]at hi
  rcases hi with rfl|hi
  simpa using h2
  exact dI r n i hi
 |.lax d es r,f,h,a,ho,i,hi=>dI r (by simpa only[gT]using ho) i hi
 |.own d ty e g r,f,h,a,ho,i,hi=>dI r (by simpa only[gT]using ho) i hi
 |.ownc d j ty e g r,f,h,a,ho,i,hi=>dI r (by simpa only[gT]using ho) i hi
 |.laxc d j e r,f,h,a,ho,i,hi=>dI r (by simpa only[gT]using ho) i hi
 |.fz d j r,f,h,a,ho,i,hi=>dI r (by simpa only[gT]using ho) i hi
 |.laxm d j r,f,h,a,ho,i,hi=>dI r (by simpa only[gT]using ho) i hi
 |.opn d m x kl js r,f,h,a,ho,i,hi=>by
  simp only[gT,nJ2,oB2,eL]at ho
  obtain⟨⟨⟨h1,h2⟩,o⟩,n⟩:=ho
  simp only[bT,nW2]at hi
  rcases hi with rfl|hi
  simpa using h2
  exact dI r n i hi
 |.bst d ty l zero ps xs kl r,f,h,a,ho,i,hi=>by
  simp only[gT,nJ2,oB2,eL]at ho
  obtain⟨⟨⟨h1,h2⟩,o⟩,n⟩:=ho
  simp only[bT,nW2]at hi
  rcases hi with rfl|hi
  simpa using h2
  exact dI r n i hi
 |.clr d es zero x y kl r,f,h,a,ho,i,hi=>by
  simp only[gT,nJ2,oB2,eL]at ho
  obtain⟨⟨⟨h1,h2⟩,o⟩,n⟩:=ho
  simp only[bT,nW2]at hi
  rcases hi with rfl|hi
  simpa using h2
  exact dI r n i hi
 |.gc _ r,f,h,a,ho,i,hi=>dI r (by simpa only[gT]using ho) i hi
 |.tre d j ty r,f,h,a,ho,i,hi=>dI r (by simpa only[gT]using ho) i hi
theorem iD {g:aB (Nat×Bool)} {a:aA Nat} {d:Nat} {y:AV} (hg:GIn g a) (hd:d∉a):wanted (t.set d y) g=wanted t g:=by
 cases g with
 |none=>rfl
 |some p=>
  obtain⟨c,w⟩:=p;simp only[Sim.wanted];rw[nY2 (fun e=>hd (by rw[e];exact hg c w rfl))]
theorem wW {g:aB (Nat×Bool)} {t a:aA AV} (h:∀c w,g=some (c,w)->a[c]? =t[c]?):wanted a g=wanted t g:=by
 cases g with
 |none=>rfl
 |some p=>
  obtain⟨c,w⟩:=p;simp only[Sim.wanted];rw[h c w rfl]
theorem dN (g:aB (Nat×Bool)):∀(ops:gX) (h n:aA Nat) (t:aA AV),gT N h true n ops=true->GIn g h->wanted t g=false->
  (∀c∈n,∀b,t[c]? ≠some (.v (.bool b)))->
  ∃fs u,Tr T NF dr lim (mO g ops) {t:=t,s:=s} fs {t:=u,s:=s}/\u.length=t.length/\(∀(i:Nat),i∉bT ops []->u[i]? =t[i]?)/\∀(i:Nat),u[i]? =t[i]? \/u[i]? =some AV.undef
 |.nil,h,n,t,_,_,_,_=>⟨[],t,.nil,rfl,fun _ _=>rfl,fun _=>.inl rfl⟩
 |.op d k xs kl r,h,n,t,ho,hg,hw,hd=>by
  simp only[gT,nJ2,oB2,eL]at ho
  obtain⟨⟨⟨h1,h2⟩,L⟩,D⟩:=ho
  have p:d∉h:=by simpa using h2
  have bR:∀i,(t.set d AV.undef)[i]? =t[i]? \/(t.set d AV.undef)[i]? =some AV.undef:=fun i=>by
   by_cases e:d=i
   subst e
   by_cases hl:d<t.length
   exact .inr (by rw[oG2];simp[hl])
   exact .inl (by rw[pT2 (qN2 hl)])
   exact .inl (nY2 e)
  obtain⟨fs,u,A,B,z,f⟩:=dN g r h (d::n) (t.set d AV.undef) D hg (by rw[iD hg p];exact hw) (fun c hc b=>by
   by_cases a:d=c
   subst a
   rw[oG2]
   simp only[oK2]
   split
   intro e;cases e
   intro e;cases e
   rw[nY2 a]
   rcases nW2.1 hc with rfl|hc
   exact absurd rfl a
   exact hd c hc b)
  refine⟨_,u,.skip (o:=⟨some d,k,xs.map eX,g⟩) hw A,by simpa using B,fun i hi=>?_,fun i=>?_⟩
  simp only[bT,nW2,qG2]at hi
  rw[z i hi.2,nY2 (Ne.symm hi.1)]
  rcases f i with f|f
  rw[f];exact bR i
  exact .inr f
 |.ifx d c w b x kl r,h,n,t,ho,hg,hw,hd=>by
  simp only[gT,nJ2,oB2,eL,qA2,Bool.false_or]at ho
  obtain⟨⟨⟨⟨⟨h1,h2⟩,L⟩,D⟩,M⟩,P⟩:=ho
  have p:d∉h:=by simpa using h2
  have H:c∈n:=by simpa using D
  have K:wanted t (some (c,w))=false:=by
   simp only[Sim.wanted];split;rename_i q R;exact absurd R (hd c H q);rfl
  obtain⟨fs,C,A,B,z,f⟩:=dN (some (c,w)) b (c::h) [] t M (fun F w' e=>by cases e;simp) K (fun c hc=>by simp at hc)
  have E:wanted C g=false:=by
   rw[wW (t:=t) (fun F w' e=>z F (fun hi=>dI b M F hi (by simp[hg F w' e])))];exact hw
  have J:∀c∈n,∀b,C[c]? ≠some (.v (.bool b)):=fun c hc b=>by
   rcases f c with f|f;rw[f];exact hd c hc b;rw[f];intro e;cases e
  have bR:∀i,(C.set d AV.undef)[i]? =C[i]? \/(C.set d AV.undef)[i]? =some AV.undef:=fun i=>by
   by_cases e:d=i;subst e;by_cases hl:d<C.length;exact .inr (by rw[oG2];simp[hl]);exact .inl (by rw[pT2 (qN2 hl)]);exact .inl (nY2 e)
  obtain⟨O,u,q1,q2,q3,q4⟩:=dN g r h (d::n) (C.set d AV.undef) P hg (by rw[iD hg p];exact E) (fun c hc b=>by
   by_cases a:d=c;subst a;rw[oG2];simp only[oK2];split;intro e;cases e;intro e;cases e;rw[nY2 a];rcases nW2.1 hc with rfl|hc;exact absurd rfl a;exact J c hc b)
  refine⟨_,u,A.append (.skip E q1),by simp[q2,B],fun i hi=>?_,fun i=>?_⟩;simp only[bT,nW2,cD b (bT r []) i,qG2]at hi;rw[q3 i hi.2.2,nY2 (Ne.symm hi.1),z i hi.2.1];rcases q4 i with q4|q4;rw[q4];rcases bR i with G|G;rw[G];exact f i;exact .inr G;exact .inr q4
 |.ifn d c w b x kl r,h,n,t,ho,hg,hw,hd=>by
  simp only[gT,nJ2,oB2,eL,qA2,Bool.false_or]at ho;obtain⟨⟨⟨⟨⟨h1,h2⟩,L⟩,D⟩,M⟩,P⟩:=ho;have p:d∉h:=by simpa using h2
  have H:c∈n:=by simpa using D
  have K:wanted t (some (c,w))=false:=by
   simp only[Sim.wanted];split;rename_i q R;exact absurd R (hd c H q);rfl
  obtain⟨fs,C,A,B,z,f⟩:=dN (some (c,w)) b (c::h) [] t M (fun F w' e=>by cases e;simp) K (fun c hc=>by simp at hc)
  have E:wanted C g=false:=by
   rw[wW (t:=t) (fun F w' e=>z F (fun hi=>dI b M F hi (by simp[hg F w' e])))];exact hw
  have J:∀c∈n,∀b,C[c]? ≠some (.v (.bool b)):=fun c hc b=>by
   rcases f c with f|f;rw[f];exact hd c hc b;rw[f];intro e;cases e
  have bR:∀i,(C.set d AV.undef)[i]? =C[i]? \/(C.set d AV.undef)[i]? =some AV.undef:=fun i=>by
   by_cases e:d=i;subst e;by_cases hl:d<C.length;exact .inr (by rw[oG2];simp[hl]);exact .inl (by rw[pT2 (qN2 hl)]);exact .inl (nY2 e)
  obtain⟨O,u,q1,q2,q3,q4⟩:=dN g r h (d::n) (C.set d AV.undef) P hg (by rw[iD hg p];exact E) (fun c hc b=>by
   by_cases a:d=c;subst a;rw[oG2];simp only[oK2];split;intro e;cases e;intro e;cases e;rw[nY2 a];rcases nW2.1 hc with rfl|hc;exact absurd rfl a;exact J c hc b)
  refine⟨_,u,A.append (.skip E q1),by simp[q2,B],fun i hi=>?_,fun i=>?_⟩;simp only[bT,nW2,cD b (bT r []) i,qG2]at hi;rw[q3 i hi.2.2,nY2 (Ne.symm hi.1),z i hi.2.1];rcases q4 i with q4|q4;rw[q4];rcases bR i with G|G;rw[G];exact f i;exact .inr G;exact .inr q4
 |.mkfl d ty zero xs kl r,h,n,t,ho,hg,hw,hd=>by
  simp only[gT,nJ2,oB2,eL]at ho;obtain⟨⟨⟨h1,h2⟩,L⟩,D⟩:=ho;have p:d∉h:=by simpa using h2
  have bR:∀i,(t.set d AV.undef)[i]? =t[i]? \/(t.set d AV.undef)[i]? =some AV.undef:=fun i=>by
   by_cases e:d=i;subst e;by_cases hl:d<t.length;exact .inr (by rw[oG2];simp[hl]);exact .inl (by rw[pT2 (qN2 hl)]);exact .inl (nY2 e)
  obtain⟨fs,u,A,B,z,f⟩:=dN g r h (d::n) (t.set d AV.undef) D hg (by rw[iD hg p];exact hw) (fun c hc b=>by
   by_cases a:d=c;subst a;rw[oG2];simp only[oK2];split;intro e;cases e;intro e;cases e;rw[nY2 a];rcases nW2.1 hc with rfl|hc;exact absurd rfl a;exact hd c hc b)
  refine⟨_,u,.skip (o:=⟨some d,.buildSl ty 1 xs.length zero (List.range xs.length),xs.map eX,g⟩) hw A,by simpa using B,fun i hi=>?_,fun i=>?_⟩;simp only[bT,nW2,qG2]at hi;rw[z i hi.2,nY2 (Ne.symm hi.1)];rcases f i with f|f;rw[f];exact bR i;exact .inr f
 |.sto k xs kl r,h,n,t,ho,hg,hw,hd=>by
  simp only[gT,nJ2]at ho;obtain⟨fs,u,A,B,z,f⟩:=dN g r h n t ho.2 hg hw hd;exact⟨_,u,.skip (o:=⟨none,k,xs.map eX,g⟩) hw A,B,z,f⟩
 |.lax d es r,h,n,t,ho,hg,hw,hd=>dN g r h n t (by simpa only[gT]using ho) hg hw hd
 |.own d ty e g' r,h,n,t,ho,hg,hw,hd=>dN g r h n t (by simpa only[gT]using ho) hg hw hd
 |.ownc d j ty e g' r,h,n,t,ho,hg,hw,hd=>dN g r h n t (by simpa only[gT]using ho) hg hw hd
 |.laxc d j e r,h,n,t,ho,hg,hw,hd=>dN g r h n t (by simpa only[gT]using ho) hg hw hd
 |.fz d j r,h,n,t,ho,hg,hw,hd=>dN g r h n t (by simpa only[gT]using ho) hg hw hd
 |.laxm d j r,h,n,t,ho,hg,hw,hd=>dN g r h n t (by simpa only[gT]using ho) hg hw hd
 |.opn d m x kl js r,h,n,t,ho,hg,hw,hd=>by
  simp only[gT,nJ2,oB2,eL]at ho;obtain⟨⟨⟨h1,h2⟩,L⟩,D⟩:=ho;have p:d∉h:=by simpa using h2
  have bR:∀i,(t.set d AV.undef)[i]? =t[i]? \/(t.set d AV.undef)[i]? =some AV.undef:=fun i=>by
   by_cases e:d=i;subst e;by_cases hl:d<t.length;exact .inr (by rw[oG2];simp[hl]);exact .inl (by rw[pT2 (qN2 hl)]);exact .inl (nY2 e)
  obtain⟨fs,u,A,B,z,f⟩:=dN g r h (d::n) (t.set d AV.undef) D hg (by rw[iD hg p];exact hw) (fun c hc b=>by
   by_cases a:d=c;subst a;rw[oG2];simp only[oK2];split;intro e;cases e;intro e;cases e;rw[nY2 a];rcases nW2.1 hc with rfl|hc;exact absurd rfl a;exact hd c hc b)
  refine⟨_,u,.skip (o:=⟨some d,(match m with|none=>.loadS|some m=>.loadA m),[eX x],g⟩) hw A,by simpa using B,fun i hi=>?_,fun i=>?_⟩;simp only[bT,nW2,qG2]at hi;rw[z i hi.2,nY2 (Ne.symm hi.1)];rcases f i with f|f;rw[f];exact bR i;exact .inr f
 |.bst d ty l zero ps xs kl r,h,n,t,ho,hg,hw,hd=>by
  simp only[gT,nJ2,oB2,eL]at ho;obtain⟨⟨⟨h1,h2⟩,L⟩,D⟩:=ho;have p:d∉h:=by simpa using h2
  have bR:∀i,(t.set d AV.undef)[i]? =t[i]? \/(t.set d AV.undef)[i]? =some AV.undef:=fun i=>by
   by_cases e:d=i;subst e;by_cases hl:d<t.length;exact .inr (by rw[oG2];simp[hl]);exact .inl (by rw[pT2 (qN2 hl)]);exact .inl (nY2 e)
  obtain⟨fs,u,A,B,z,f⟩:=dN g r h (d::n) (t.set d AV.undef) D hg (by rw[iD hg p];exact hw) (fun c hc b=>by
   by_cases a:d=c;subst a;rw[oG2];simp only[oK2];split;intro e;cases e;intro e;cases e;rw[nY2 a];rcases nW2.1 hc with rfl|hc;exact absurd rfl a;exact hd c hc b)
  refine⟨_,u,.skip (o:=⟨some d,(match ty with|.nd ty e _=>.buildSl ty e l zero ps),xs.map eX,g⟩) hw A,by simpa using B,fun i hi=>?_,fun i=>?_⟩;simp only[bT,nW2,qG2]at hi;rw[z i hi.2,nY2 (Ne.symm hi.1)];rcases f i with f|f;rw[f];exact bR i;exact .inr f
 |.clr d es zero x y kl r,h,n,t,ho,hg,hw,hd=>by
  simp only[gT,nJ2,oB2,eL]at ho;obtain⟨⟨⟨h1,h2⟩,L⟩,D⟩:=ho;have p:d∉h:=by simpa using h2
  have bR:∀i,(t.set d AV.undef)[i]? =t[i]? \/(t.set d AV.undef)[i]? =some AV.undef:=fun i=>by
   by_cases e:d=i;subst e;by_cases hl:d<t.length;exact .inr (by rw[oG2];simp[hl]);exact .inl (by rw[pT2 (qN2 hl)]);exact .inl (nY2 e)
  obtain⟨fs,u,A,B,z,f⟩:=dN g r h (d::n) (t.set d AV.undef) D hg (by rw[iD hg p];exact hw) (fun c hc b=>by
   by_cases a:d=c;subst a;rw[oG2];simp only[oK2];split;intro e;cases e;intro e;cases e;rw[nY2 a];rcases nW2.1 hc with rfl|hc;exact absurd rfl a;exact hd c hc b)
  refine⟨_,u,.skip (o:=⟨some d,.slc es true false false,[eX x,eX y],g⟩) hw (.skip (o:=⟨none,.clear es zero,[.t d],g⟩) (by show wanted (t.set d AV.undef) g=false;rw[iD hg p];exact hw) A),by simpa using B,fun i hi=>?_,fun i=>?_⟩;simp only[bT,nW2,qG2]at hi;rw[z i hi.2,nY2 (Ne.symm hi.1)];rcases f i with f|f;rw[f];exact bR i;exact .inr f
 |.gc _ r,h,n,t,ho,hg,hw,hd=>dN g r h n t (by simpa only[gT]using ho) hg hw hd
 |.tre d j ty r,h,n,t,ho,hg,hw,hd=>dN g r h n t (by simpa only[gT]using ho) hg hw hd
end
end Go.P
namespace Go.P
open Go.Sim (AV AO Hp eJ upd St IC IX Ex eE CK Wf Out doOp iG exec Foot wanted put)
section
variable {R:Type} {T:iG} {O:vE} {X:NX} {dr:Nat}
theorem Pk (H:∀f xs v,O f xs=some v->oD T f xs v) {C:Cx} {n:Nat} {h:aN} {lim:Nat} {s:Hp} {k:eE} {as:aA PV} {ys:aA AV} {K:PV->aN->Nat->aB R} {r:R}
  (j:bY C n h lim s) (z:LR (RV C) as ys) (hk:opK O X k as h n K=some r):
  ∃v h' n' C' y s',K v h' n'=some r/\RV C' v y/\bY C' n' h' lim s'/\C.le C'/\n<=n'/\Fr C h s C' h' s'/\(Ik k=false->∀id,id<s.n->Sim.look s'.h id=Sim.look s.h id)/\
   ∀(o:Sim.Op1) (os:aA Sim.Op1) (t:aA AV) (fs:aA Foot) (τ:St),o.k=k->wanted t o.guard=true->Sim.evs t o.xs=some ys->Tr T X.is dr lim os {t:=put t o.dst y,s:=s'} fs τ->∃f,Tr T X.is dr lim (o::os) {t:=t,s:=s} (f::fs) τ:=by
 have call:∀(f:FuncId) (xs:aA PV) (zs:aA AV) (k:eE),wP O f xs h (fun v=>K v h n)=some r->LR (RV C) xs zs->gL k=true->(jE X.is dr k=3\/jE X.is dr k=4)->((∃ifn,T f=some ifn/\ifn.pure=true/\(ifn.frz||zs.all (Sim.closed 4))=true)->Sim.foot T k ys={all:=1,x:=true})->
   (∀(d:Nat) (s:Hp),Sim.step T (exec T d) lim k ys s=Sim.callF T (exec T d) lim f zs s)->
   ∃v h' n' C' y s',K v h' n'=some r/\RV C' v y/\bY C' n' h' lim s'/\C.le C'/\n<=n'/\Fr C h s C' h' s'/\(Ik k=false->∀id,id<s.n->Sim.look s'.h id=Sim.look s.h id)/\
   ∀(o:Sim.Op1) (os:aA Sim.Op1) (t:aA AV) (fs:aA Foot) (τ:St),o.k=k->wanted t o.guard=true->Sim.evs t o.xs=some ys->Tr T X.is dr lim os {t:=put t o.dst y,s:=s'} fs τ->∃f,Tr T X.is dr lim (o::os) {t:=t,s:=s} (f::fs) τ:=by
  intro f xs zs k hk L hc l hf u;obtain⟨v,y,h1,h2,g,D,i⟩:=Iy (lim:=lim) H j hk L;refine⟨v,h,n,C,y,s,h1,.cl h2,j,.refl C,nM2 _,.refl _ _ _,fun _ _ _=>rfl,fun o os t fs τ q hw he w=>⟨{all:=1,x:=true},?_⟩⟩;subst q;exact .call hw he hc l (hf g) ⟨D,fun d hd m=>by rw[u];exact i d hd m⟩ w
 unfold opK at hk;split at hk;rename_i e f;cases hX:X.is f with
 |true=>rw[hX]at hk;exact aD hk
 |false=>
  rw[hX,oI2]at hk;refine call _ _ ys (.callF _) hk z rfl (by simp[jE,hX]) (fun⟨ifn,h1,h2,g⟩=>?_) (fun d s=>rfl);simp only[Sim.foot,h1,h2,g,oK2,qM2]
 rename_i f first cap e
 obtain⟨y,A,rfl,h1,h2⟩:=z.inv_cons;obtain⟨a',b',rfl,g,i⟩:=tL h1;cases hX:X.is f with
 |true=>rw[hX]at hk;exact aD hk
 |false=>
  rw[hX,oI2]at hk;refine call f (first++e++cap) (a'++A++b') .callV hk ((g.append h2).append i) rfl (by simp only[jE];split<;>omega) (fun⟨ifn,M,N,P⟩=>?_) (fun d s=>rfl);simp only[Sim.foot,M,N,P,oK2,qM2]
 rename_i k' e p J;obtain⟨v,h',n',C',out,h1,h2,g,i,B,E,F,G⟩:=It j z hk;refine⟨v,h',n',C',out.v,out.apply s,h1,g,i,B,E,F,G,fun o os t fs τ q hw he w=>?_⟩;subst q;refine⟨_,.op hw he ?_ h2 w⟩;cases hk':o.k with
 |callF f=>exact absurd hk' (p f)
 |callV=>
  rw[hk']at hk;unfold dM at hk;rcases e with _|⟨a,_|⟨b,_|⟨c,_|⟨d,t⟩⟩⟩⟩<;>exact aD hk
 |_=>rfl
theorem Ah {t:aA AV} {c i:Nat} {x:PX} {N:Nat} (b:t.length=N) (a:Gj N x=true):∃z,(eX x).ev t=some z:=by
 cases x with
 |t i=>
  simp only[Gj,pQ2]at a;exact⟨t[i]'(by omega),by simp[eX,IX.ev]⟩
 |c x=>exact⟨eV x,rfl⟩
theorem Jc {t:aA AV} {x y z:IX} {a b c:AV} (h1:x.ev t=some a) (h2:y.ev t=some b) (d:z.ev t=some c):Sim.evs t [x,y,z]=some [a,b,c]:=by
 simp[Sim.evs,h1,h2,d]
theorem De {N lim:Nat} {A:aA Nat} {C:Cx} {n:Nat} {h:aN} {e:dG} {t:aA AV} {s:Hp} {c:Nat} {w m y:Bool} {d:gX} {x:PX} (E:bY C n h lim s) (F:t.length=N) (B:gT N (c::A) true [] d=true) (D:Gj N x=true)
  (hc:t[c]? =some (.v (.bool m)))
  (hy:(bif w then Hy m (cR.opsB O X d e h n x) (some false)else Hy m (some true) (cR.opsB O X d e h n x))=some y)
  (IH:cR.opsB O X d e h n x=some y->Kp (some (c,w)) t->∃fs o s',Tr T X.is dr lim (mO (some (c,w)) d) {t:=t,s:=s} fs {t:=o,s:=s'}/\(eX x).ev o=some (.v (.bool y))/\o.length=N/\(∀(i:Nat),i∉bT d []->o[i]? =t[i]?)/\Mx s s'):
  ∃fs a b,Tr T X.is dr lim (mO (some (c,w)) d) {t:=t,s:=s} fs {t:=a,s:=b}/\a.length=N/\(∀(i:Nat),i∉bT d []->a[i]? =t[i]?)/\Mx s b/\
     ∃zs,Sim.evs a (if w then[.t c,eX x,.c (.v (.bool false))]else[.t c,.c (.v (.bool true)),eX x])=some zs/\doOp (Sim.look b.h) lim b.n .pick zs=some {v:=.v (.bool y)}:=by
 have k:∀a:aA AV,(∀(i:Nat),i∉bT d []->a[i]? =t[i]?)->a[c]? =some (.v (.bool m)):=fun a q=>by
  rw[q c (fun hi=>dI d B c hi (by simp))];exact hc
 have skip:m≠w->∃fs a b,Tr T X.is dr lim (mO (some (c,w)) d) {t:=t,s:=s} fs {t:=a,s:=b}/\a.length=N/\(∀(i:Nat),i∉bT d []->a[i]? =t[i]?)/\Mx s b:=by
  intro p;obtain⟨fs,a,l,f,g,j⟩:=dN (T:=T) (NF:=X.is) (dr:=dr) (lim:=lim) (s:=s) (some (c,w)) d (c::A) [] t B (fun G w' e=>by cases e;simp) (by simp[Sim.wanted,hc,p]) (fun c hc=>by simp at hc);exact⟨fs,a,s,l,f.trans F,g,.refl E.wf⟩
 cases w with
 |true=>
  rw[nX2,nT]at hy;cases m with
  |true=>
   rw[nQ2 rfl]at hy;obtain⟨fs,a,b,l,f,g,j,u⟩:=IH hy hc;exact⟨fs,a,b,l,g,j,u,[.v (.bool true),.v (.bool y),.v (.bool false)],Jc (k a j) f rfl,rfl⟩
  |false=>
   simp only[nV2,oQ2,nP2]at hy;subst hy;obtain⟨fs,a,b,l,f,g,j⟩:=skip (by simp);obtain⟨z,r⟩:=Ah (c:=0) (i:=0) f D;exact⟨fs,a,b,l,f,g,j,[.v (.bool false),z,.v (.bool false)],Jc (k a g) r rfl,rfl⟩
 |false=>
  rw[oI2,nT]at hy;cases m with
  |true=>
   simp only[oK2,nP2]at hy;subst hy;obtain⟨fs,a,b,l,f,g,j⟩:=skip (by simp);obtain⟨z,r⟩:=Ah (c:=0) (i:=0) f D;exact⟨fs,a,b,l,f,g,j,[.v (.bool true),.v (.bool true),z],Jc (k a g) rfl r,rfl⟩
  |false=>
   simp only[nV2,oQ2]at hy;obtain⟨fs,a,b,l,f,g,j,u⟩:=IH hy hc;exact⟨fs,a,b,l,g,j,u,[.v (.bool false),.v (.bool true),.v (.bool y)],Jc (k a j) rfl f,rfl⟩
theorem tQ (F:∀f xs v,O f xs=some v->oD T f xs v) {N lim:Nat}:∀(ops:gX) (a l:aA Nat) (g:aB (Nat×Bool)) (C:Cx) (n:Nat) (h:aN) (e:dG) (t:aA AV) (s:Hp) (x:PX) (b:Bool),
  cR.opsB O X ops e h n x=some b->cS C e t->bY C n h lim s->t.length=N->gT N a true l ops=true->Gj N x=true->Kp g t->GIn g a->
  ∃fs m s',Tr T X.is dr lim (mO g ops) {t:=t,s:=s} fs {t:=m,s:=s'}/\(eX x).ev m=some (.v (.bool b))/\m.length=N/\(∀(i:Nat),i∉bT ops []->m[i]? =t[i]?)/\Mx s s'
 |.nil,a,l,g,C,n,h,e,t,s,x,b,hk,he,hM,hN,ho,hx,hg,hgi=>by
  unfold cR.opsB at hk
  rw[gK,nI2]at hk
  obtain⟨vs,A,hk⟩:=hk
  obtain⟨ys,h1,h2⟩:=iK he (xs:=[x]) (by simpa using hx) A
  split at hk
  cases hk
  obtain⟨y,_,rfl,Z,h4⟩:=h2.inv_cons
  rw[h4.inv_nil]at h1
  rw[fB Z]at h1
  refine⟨[],t,s,.nil,?_,hN,fun _ _=>rfl,.refl hM.wf⟩
  simp only[pZ2,qZ2,Sim.evs]at h1
  split at h1
  rename_i ha hb
  cases h1
  exact ha
  cases h1
  exact aD hk
 |.op d k xs kl r,a,l,g,C,n,h,e,t,s,x,b,hk,he,hM,hN,ho,hx,hg,hgi=>by
  simp only[gT,nJ2,oB2,eL,pQ2]at ho
  obtain⟨⟨⟨o1,S⟩,G⟩,W⟩:=ho
  have q:d∉a:=by simpa using S
  unfold cR.opsB at hk
  rw[gK,nI2]at hk
  obtain⟨vs,A,hk⟩:=hk
  obtain⟨ys,h1,h2⟩:=iK he G A
  cases hst:Ik k with
  |true=>rw[hst]at hk;exact aD hk
  |false=>
   rw[hst,oI2]at hk
   obtain⟨v,h',n',C',y,s',q1,q2,q3,q4,q5,q6,q7,q8⟩:=Pk F hM h2 hk
   rw[dC]at q1
   have hd:d<t.length:=by omega
   have u:cS C' ((d,v)::edel e (d::kl)) (t.set d y):=.put hd q2 (fun i w hw=>by
    obtain⟨z,p1,p2,p3⟩:=(he.mono q4).edel (d::kl) i w hw
    exact⟨z,p1,p2,fun J=>p3 (by simp[J])⟩)
   obtain⟨fs,m,V,r1,r2,r3,r4,r5⟩:=tQ F r a (d::l) g C' n' h' _ (t.set d y) s' x b q1 u q3 (by simpa using hN) W hx (hg.set hgi q) hgi
   obtain⟨f,hf⟩:=q8 ⟨some d,k,xs.map eX,g⟩ _ t fs _ rfl hg.wanted h1 r1
   have P:Mx s s':=⟨q6.sk,q6.n,q3.wf,q7 hst⟩
   refine⟨_,m,V,hf,r2,r3,fun i hi=>?_,P.trans r5⟩
   simp only[bT,nW2,qG2]at hi
   rw[r4 i hi.2,nY2 (Ne.symm hi.1)]
 |.ifx d c w bd x' kl r,a,l,g,C,n,h,e,t,s,x,b,hk,he,hM,hN,ho,hx,hg,hgi=>by
  simp only[gT,nJ2,oB2,eL,pQ2,qA2,Bool.false_or]at ho
  obtain⟨⟨⟨⟨⟨o1,S⟩,G⟩,W⟩,U⟩,o6⟩:=ho
  have q:d∉a:=by simpa using S
  unfold cR.opsB at hk
  rw[fQ,nI2]at hk
  obtain⟨cv,L,hk⟩:=hk
  split at hk
  rename_i cb
  rw[bJ,nI2]at hk
  obtain⟨y,hy,hk⟩:=hk
  rw[dC]at hk
  obtain⟨cy,B,K⟩:=he c _ L
  rw[fB K]at B
  obtain⟨fs,H,s1,p1,p2,p3,p4,zs,p5,p6⟩:=De (T:=T) (O:=O) (X:=X) (dr:=dr) hM hN U G B hy (fun hb M=>tQ F bd (c::a) [] (some (c,w)) C n h e t s x' y hb he hM hN U G M (fun E w' e=>by cases e;simp))
  have D:Kp g H:=by
   cases g with
   |none=>trivial
   |some p=>
    obtain⟨E,w'⟩:=p;simp only[Kp]at hg ⊢;rw[p3 E (fun hi=>dI bd U E hi (by simp[hgi E w' rfl]))];exact hg
  have hd:d<H.length:=by omega
  have u:cS C ((d,.v (.bool y))::edel e (d::bT bd kl)) (H.set d (.v (.bool y))):=.put hd (.cl (.v _)) (fun i w hw=>by
   obtain⟨z,q1,q2,q3⟩:=he.edel (d::bT bd kl) i w hw;have R:i∉bT bd []:=fun hi=>q3 (by simp[(cD bd kl i).2 (.inl hi)]);exact⟨z,by rw[p3 i R];exact q1,q2,fun J=>q3 (by simp[J])⟩)
  obtain⟨Y,m,V,r1,r2,r3,r4,r5⟩:=tQ F r a (d::l) g C n h _ (H.set d (.v (.bool y))) s1 x b hk u (hM.grow p4) (by simpa using p2) o6 hx (D.set hgi q) hgi;refine⟨_,m,V,p1.append (.op (o:=⟨some d,.pick,_,g⟩) D.wanted p5 rfl p6 r1),r2,r3,fun i hi=>?_,p4.trans r5⟩;simp only[bT,nW2,cD bd (bT r []) i,qG2]at hi;rw[r4 i hi.2.2,nY2 (Ne.symm hi.1),p3 i hi.2.1];exact aD hk
 |.sto k xs kl r,a,l,g,C,n,h,e,t,s,x,b,hk,he,hM,hN,ho,hx,hg,hgi=>by unfold cR.opsB at hk;exact aD hk
 |.ifn d c w bd x' kl r,a,l,g,C,n,h,e,t,s,x,b,hk,he,hM,hN,ho,hx,hg,hgi=>by unfold cR.opsB at hk;exact aD hk
 |.mkfl d ty zero xs kl r,a,l,g,C,n,h,e,t,s,x,b,hk,he,hM,hN,ho,hx,hg,hgi=>by unfold cR.opsB at hk;exact aD hk
 |.lax d es r,a,l,g,C,n,h,e,t,s,x,b,hk,he,hM,hN,ho,hx,hg,hgi=>by unfold cR.opsB at hk;exact aD hk
 |.own d ty es g' r,a,l,g,C,n,h,e,t,s,x,b,hk,he,hM,hN,ho,hx,hg,hgi=>by unfold cR.opsB at hk;exact aD hk
 |.ownc d j ty es g' r,a,l,g,C,n,h,e,t,s,x,b,hk,he,hM,hN,ho,hx,hg,hgi=>by unfold cR.opsB at hk;exact aD hk
 |.laxc d j es r,a,l,g,C,n,h,e,t,s,x,b,hk,he,hM,hN,ho,hx,hg,hgi=>by unfold cR.opsB at hk;exact aD hk
 |.fz d j r,a,l,g,C,n,h,e,t,s,x,b,hk,he,hM,hN,ho,hx,hg,hgi=>by unfold cR.opsB at hk;exact aD hk
 |.laxm d j r,a,l,g,C,n,h,e,t,s,x,b,hk,he,hM,hN,ho,hx,hg,hgi=>by unfold cR.opsB at hk;exact aD hk
end
end Go.P
namespace Go.P
open Go.Sim (AV AO Hp eJ upd St IC IX Ex eE CK Wf Out doOp iG exec Foot wanted put)
def lU (C:Cx) (p:Nat->Bool):Cx:=⟨fun k=>if p k then C k else none,C.z,C.w⟩
theorem tR {C:Cx} {p:Nat->Bool} {x:PV} {y:AV} (h:RV C x y):∀{d:Nat},kX p d x=true->RV (lU C p) x y:=by
 have lt:∀{k:Nat} {pl:Pl},C k=some pl->p k=true->lU C p k=some pl:=fun h1 h2=>by simp[lU,h2,h1]
 induction h with
 |cl h=>intro d hb;exact .cl h
 |undef=>intro d hb;exact .undef
 |ref h=>intro d hb;cases d with
  |zero=>cases hb
  |succ d=>exact .ref (lt h hb)
 |own h=>intro d hb;cases d with
  |zero=>cases hb
  |succ d=>exact .own (lt h hb)
 |ownn h hy=>intro d hb;cases d with
  |zero=>cases hb
  |succ d=>exact .ownn (lt h hb) hy
 |el h=>intro d hb;cases d with
  |zero=>cases hb
  |succ d=>exact .el (lt h hb)
 |map h=>intro d hb;cases d with
  |zero=>cases hb
  |succ d=>exact .map (lt h hb)
 |yld h=>intro d hb;cases d with
  |zero=>cases hb
  |succ d=>exact .yld (lt h hb)
 |fn h1 h2 v1 v2 i1 i2=>intro d hb;cases d with
  |zero=>cases hb
  |succ d=>
   simp only[kX,nJ2]at hb;exact .fn h1 h2 (fun j x y a hy=>i1 j x y a hy (nN2.1 hb.1 x (nU2 a))) (fun j x y a hy=>i2 j x y a hy (nN2.1 hb.2 x (nU2 a)))
 |agg hl hc ih=>intro d hb;cases d with
  |zero=>cases hb
  |succ d=>exact .agg hl (fun j x y a hy=>ih j x y a hy (nN2.1 hb x (nU2 a)))
 |tup hl hc ih=>intro d hb;cases d with
  |zero=>cases hb
  |succ d=>exact .tup hl (fun j x y a hy=>ih j x y a hy (nN2.1 hb x (nU2 a)))
 |zs h=>intro d hb;exact .zs h
 |zm h he=>intro d hb;exact .zm h he
 |zm0=>intro d hb;exact .zm0
theorem xS:∀(h:aN) (k:Nat),iI h k=(aK h k).isSome
 |[],k=>rfl
 |(j,o)::r,k=>by
  simp only[iI,aK,aZ]
  by_cases e:j=k<;>simp[e,xS r k]
section
variable {R:Type}
theorem qN:∀{h:aN} {c:aA Nat} {K:aN->aN->aB R} {r:R},Ih h c K=some r->∃a b,K a b=some r/\∀k,aK a k=(if rM k c then aK h k else none)/\aK b k=(if rM k c then none else aK h k)
 |[],c,K,r,hk=>⟨[],[],hk,fun k=>by simp[aK]⟩
 |(j,o)::t,c,K,r,hk=>by
  unfold Ih at hk
  obtain⟨a,b,h1,h2⟩:=qN hk
  cases hm:rM j c with
  |true=>
   rw[hm,nX2]at h1
   refine⟨_,_,h1,fun k=>?_⟩
   simp only[aK]
   by_cases e:j=k
   subst e;simp[hm,(h2 j).2]
   simp only[nS2 e];exact h2 k
  |false=>
   rw[hm,oI2]at h1
   refine⟨_,_,h1,fun k=>?_⟩
   simp only[aK]
   by_cases e:j=k
   subst e;simp[hm,(h2 j).1]
   simp only[nS2 e];exact h2 k
theorem vP:∀{a b:aN} {K:aN->aB R} {r:R},wQ a b K=some r->∃c,K c=some r/\∀k,aK c k=(aK a k).or (aK b k)
 |[],b,K,r,hk=>⟨b,hk,fun k=>by simp[aK]⟩
 |(j,o)::t,b,K,r,hk=>by
  unfold wQ at hk
  obtain⟨c,h1,h2⟩:=vP hk
  refine⟨_,h1,fun k=>?_⟩
  simp only[aK]
  by_cases e:j=k
  simp[e]
  simp only[nS2 e];exact h2 k
theorem Df:∀(a:aN) (K:aN->aB R),wQ a [] K=K a
 |[],K=>rfl
 |(j,o)::t,K=>by unfold wQ;rw[Df t]
theorem fE {f:PV->aA Nat->(aA Nat->aB R)->aB R} (hf:∀x a K r,f x a K=some r->∃a',K a'=some r):∀(xs:aA PV) (a:aA Nat) (K:aA Nat->aB R) (r:R),oM f xs a K=some r->∃a',K a'=some r
 |[],a,K,r,h=>⟨a,h⟩
 |x::xs,a,K,r,h=>by
  unfold oM at h
  obtain⟨a',h⟩:=hf x a _ r h
  exact fE hf xs a' K r h
theorem rU {f:PV->aA Nat->(aA Nat->aB R)->aB R} (hf:∀x a K r,f x a K=some r->∃a',K a'=some r):∀(xs:dG) (a:aA Nat) (K:aA Nat->aB R) (r:R),Ig f xs a K=some r->∃a',K a'=some r
 |[],a,K,r,h=>⟨a,h⟩
 |(_,x)::xs,a,K,r,h=>by
  unfold Ig at h
  obtain⟨a',h⟩:=hf x a _ r h
  exact rU hf xs a' K r h
theorem fR:∀(d:Nat) (x:PV) (a:aA Nat) (K:aA Nat->aB R) (r:R),jK d x a K=some r->∃a',K a'=some r
 |0,x,a,K,r,h=>by unfold jK at h;exact aD h
 |d+1,x,a,K,r,h=>by
  have ih:=fR d
  unfold jK at h
  cases x with
  |ref k o=>exact⟨_,h⟩
  |own k=>exact⟨_,h⟩
  |el k i o=>exact⟨_,h⟩
  |map k=>exact⟨_,h⟩
  |yld k=>exact⟨_,h⟩
  |fn f p q=>
   obtain⟨a',h⟩:=fE ih p a _ r h
   exact fE ih q a' K r h
  |agg cs=>exact fE ih cs a K r h
  |tup cs=>exact fE ih cs a K r h
  |_=>exact⟨_,h⟩
theorem dS {h:aN}:∀(n:Nat) (b a:aA Nat) (K:aA Nat->aB R) (r:R),jY h n b a K=some r->∃a',K a'=some r
 |0,b,a,K,r,hk=>by unfold jY at hk;exact aD hk
 |n+1,[],a,K,r,hk=>by unfold jY at hk;exact⟨a,hk⟩
 |n+1,k::b,a,K,r,hk=>by
  unfold jY at hk
  cases hm:rM k a with
  |true=>rw[hm,nX2]at hk;exact dS n b a K r hk
  |false=>
   rw[hm,oI2,eF,nI2]at hk
   obtain⟨ob,_,hk⟩:=hk
   cases ob with
   |box cs=>
    obtain⟨c,hk⟩:=fE (fR 4) cs b _ r hk
    exact dS n c _ K r hk
   |fl cs=>
    obtain⟨c,hk⟩:=fE (fR 4) cs b _ r hk
    exact dS n c _ K r hk
   |loop N e ps x y busy fin=>
    obtain⟨c,hk⟩:=rU (fR 4) e b _ r hk
    exact dS n c _ K r hk
   |lst ty e g rows=>exact dS n b _ K r hk
   |lz ty e dp rows=>exact dS n b _ K r hk
   |mp es=>exact dS n b _ K r hk
   |tr t rows hs=>
    obtain⟨c,hk⟩:=fE (fR 4) _ b _ r hk
    exact dS n c _ K r hk
def Ww (hs:aN) (C C':Cx):Prop:=(∀k,C' k=C k\/∃o,(k,o)∈hs/\eG o=false)/\(∀id o,C.z id=some o->C'.z id=some o)/\C'.w=C.w
theorem rV:∀{hs:aN} {e:dG} {h:aN} {K:dG->aN->aB R} {r:R},mN hs e h K=some r->∃e' h',K e' h'=some r/\
  (∀i w,dE e' i=some w->∃v,dE e i=some v/\∀{C C':Cx} {y:AV},Ww hs C C'->RV C v y->RV C' w y)/\
  (∀j,aK h' j=none↔aK h j=none)/\∀j o',aK h' j=some o'->∃o,aK h j=some o/\eG o'=eG o/\
   ∀{C C':Cx} {L:Nat->aB AO} {lim nS:Nat} {pl:Pl},Ww hs C C'->dU C L lim nS o pl->dU C' L lim nS o' pl
 |[],e,h,K,r,hk=>by
  refine⟨e,h,hk,fun i w hw=>⟨w,hw,fun{C C' y} hd hv=>?_⟩,fun j=>Iff.rfl,fun j o l=>⟨o,l,rfl,fun{C C' L lim nS pl} hd n=>?_⟩⟩
  have:∀k,C' k=C k:=fun k=>(hd.1 k).elim id (fun⟨_,h1,_⟩=>by simp at h1)
  exact hv.mono ⟨fun k pl h=>(this k).trans h,hd.2.1⟩
  have:∀k,C' k=C k:=fun k=>(hd.1 k).elim id (fun⟨_,h1,_⟩=>by simp at h1)
  exact n.mono (nM2 _) ⟨fun k pl h=>(this k).trans h,hd.2.1⟩ (fun _ _ _ _ _=>rfl) (fun o sl h=>⟨by rw[hd.2.2];exact h,rfl⟩)
 |(k,o)::t,e,h,K,r,hk=>by
  have other:eG o=true->mN t e h K=some r->∃e' h',K e' h'=some r/\
    (∀i w,dE e' i=some w->∃v,dE e i=some v/\∀{C C':Cx} {y:AV},Ww ((k,o)::t) C C'->RV C v y->RV C' w y)/\
    (∀j,aK h' j=none↔aK h j=none)/\∀j o',aK h' j=some o'->∃f,aK h j=some f/\eG o'=eG f/\
     ∀{C C':Cx} {L:Nat->aB AO} {lim nS:Nat} {pl:Pl},Ww ((k,o)::t) C C'->dU C L lim nS f pl->dU C' L lim nS o' pl:=by
   intro q hk;obtain⟨e',h',q1,q2,q3,q4⟩:=rV hk
   have hd:∀{C C':Cx},Ww ((k,o)::t) C C'->Ww t C C':=fun{C C'} hd=>⟨fun j=>by
    rcases hd.1 j with h1|⟨f,h1,hx⟩
    exact .inl h1;rcases nW2.1 h1 with h2|h2;cases h2;rw[q]at hx;cases hx;exact .inr ⟨_,h2,hx⟩,hd.2⟩
   refine⟨e',h',q1,fun i w hw=>?_,q3,fun j o' l=>?_⟩;obtain⟨v,p1,p2⟩:=q2 i w hw;exact⟨v,p1,fun d hv=>p2 (hd d) hv⟩;obtain⟨f,p1,p2,p3⟩:=q4 j o' l;exact⟨f,p1,p2,fun d n=>p3 (hd d) n⟩
  have c:eG o=false->(kW k e fun e=>iN k h fun h=>mN t e h K)=some r->∃e' h',K e' h'=some r/\
    (∀i w,dE e' i=some w->∃v,dE e i=some v/\∀{C C':Cx} {y:AV},Ww ((k,o)::t) C C'->RV C v y->RV C' w y)/\
    (∀j,aK h' j=none↔aK h j=none)/\∀j o',aK h' j=some o'->∃f,aK h j=some f/\eG o'=eG f/\
     ∀{C C':Cx} {L:Nat->aB AO} {lim nS:Nat} {pl:Pl},Ww ((k,o)::t) C C'->dU C L lim nS f pl->dU C' L lim nS o' pl:=by
   intro hb hk;obtain⟨e2,hk,p⟩:=gS _ _ _ hk;obtain⟨h2,hk,m⟩:=iJ _ _ _ hk;obtain⟨e',h',q1,q2,q3,q4⟩:=rV hk
   have mid:∀{C C':Cx},Ww ((k,o)::t) C C'->iQ k C ⟨fun j=>if j=k then C' j else C j,C'.z,C.w⟩/\Ww t ⟨fun j=>if j=k then C' j else C j,C'.z,C.w⟩ C':=fun{C C'} hd=>by
    refine⟨⟨fun j l=>nS2 l,hd.2.1⟩,⟨fun j=>?_,fun _ _ h=>h,hd.2.2⟩⟩;by_cases e:j=k;exact .inl (by simp[e]);rcases hd.1 j with h1|⟨f,h1,hx⟩
    exact .inl (by simp[e,h1]);rcases nW2.1 h1 with h2|h2;cases h2;exact absurd rfl e;exact .inr ⟨_,h2,hx⟩
   refine⟨e',h',q1,fun i w hw=>?_,fun j=>(q3 j).trans (m.1 j),fun j o' l=>?_⟩;obtain⟨v,p1,p2⟩:=q2 i w hw;obtain⟨u,w1,w2⟩:=p i v p1;exact⟨u,w1,fun d hv=>p2 (mid d).2 (w2 (mid d).1 hv)⟩;obtain⟨f,p1,p2,p3⟩:=q4 j o' l;obtain⟨s,w1,w2,w3⟩:=m.2 j f p1;exact⟨s,w1,p2.trans w2,fun d n=>p3 (mid d).2 (w3 (mid d).1 rfl n)⟩
  unfold mN at hk;cases o with
  |box cs=>exact other rfl hk
  |mp es=>exact other rfl hk
  |fl fs=>exact other rfl hk
  |loop N e ps a b busy fin=>exact other rfl hk
  |lz ty e1 dp rows=>exact c rfl hk
  |tr t rows hs=>exact c rfl hk
  |lst ty e1 g rows=>
   cases hfx:eO ty with
   |true=>
    simp only[hfx,nX2]at hk;exact other hfx hk
   |false=>
    simp only[hfx,oI2]at hk;exact c hfx hk
end
end Go.P
namespace Go.P
open Go.Sim (AV AO Hp eJ upd St IC IX Ex eE CK Wf Out doOp iG exec Foot wanted put)
section
variable {R:Type} {C:Cx} {n:Nat} {h:aN} {lim:Nat} {s:Hp}
theorem Ai:∀{e:dG} {i:Nat} {v:PV},dE e i=some v->(i,v)∈e
 |[],i,v,h=>by simp[dE]at h
 |(j,w)::r,i,v,h=>by
  simp only[dE]at h
  split at h
  rename_i a;subst a;cases h;simp
  exact oR2 _ (Ai h)
theorem Jd:∀{h:aN} {i:Nat} {v:dO},aK h i=some v->(i,v)∈h
 |[],i,v,h=>by simp[aK]at h
 |(j,w)::r,i,v,h=>by
  simp only[aK]at h
  split at h
  rename_i a;subst a;cases h;simp
  exact oR2 _ (Jd h)
theorem Ev {p:Nat->Bool} {xs:aA PV} {ys:aA AV} {d:Nat} (h:LR (RV C) xs ys) (hp:xs.all (kX p d)=true):LR (RV (lU C p)) xs ys:=
 ⟨h.1,fun j x y a b=>tR (h.2 j x y a b) (nN2.1 hp x (nU2 a))⟩
def oC1:dO->Bool
 |.tr .. =>true
 |_=>false
theorem Aj:∀{h:aN},oO h=true->∀{k:Nat} {o:dO},aK h k=some o->oC1 o=false
 |[],_,k,o,h=>by simp[aK]at h
 |(j,o')::r,hn,k,o,h=>by
  simp only[aK]at h
  cases o' with
  |tr a b c=>cases hn
  |_=>
   split at h
   cases h;rfl
   exact Aj (h:=r) hn h
theorem dU.monoN {C C':Cx} {L L':Nat->aB AO} {nS k:Nat} {po:dO} {pl:Pl} (hn:nS<=k) (p:C.le C') (r:∀id ver e len,pl=.atp id ver e len->L' id=L id) (s:oC1 po=false) (c:dU C L lim nS po pl):dU C' L' lim k po pl:=by
 have h1:dU ⟨C.f,C.z,fun _=>none⟩ L lim nS po pl:=by
  have n:∀{x y},RV C x y->RV ⟨C.f,C.z,fun _=>none⟩ x y:=fun h=>RV.mono (C:=C) (C':=⟨C.f,C.z,fun _=>none⟩) ⟨fun _ _ h=>h,fun _ _ h=>h⟩ h;cases po with
  |tr t rows hs=>cases s
  |box cells=>
   cases pl with
   |nil=>exact c
   |atp id ver e len=>
    obtain⟨h1,h2,ty,esz,row,d,j⟩:=c;exact⟨h1,h2,ty,esz,row,d,j.mono fun x y h=>n h⟩
  |lst ty e g rows=>cases pl<;>exact c
  |lz ty e dp rows=>cases pl<;>exact c
  |mp es=>cases pl<;>exact c
  |fl fs=>
   cases pl with
   |nil=>exact c
   |atp id ver e len=>
    obtain⟨h1,h2,d,j,ty,els,l,m,q⟩:=c;exact⟨h1,h2,d,j,ty,els,l,m,fun i f row a b=>(q i f row a b).mono fun x y h=>n h⟩
  |loop N e ps a b busy fin=>
   cases pl with
   |nil=>exact c
   |atp id ver e' len=>
    obtain⟨h1,h2,st,pend,tmps,d,j,l,m⟩:=c;exact⟨h1,h2,st,pend,tmps,d,j,fun i v hv=>(l i v hv).imp fun y hy=>⟨hy.1,n hy.2⟩,m⟩
 exact dU.mono (C:=⟨C.f,C.z,fun _=>none⟩) (C':=C') hn ⟨p.1,p.2⟩ r (fun o sl h=>by cases h) h1
theorem Wx {p:Nat->Bool} {L:Nat->aB AO} {nS:Nat} {o:dO} {pl:Pl} (n:El p o=true) (h:dU C L lim nS o pl):dU (lU C p) L lim nS o pl:=by
 cases o with
 |box cs=>
  cases pl with
  |nil=>exact h
  |atp id ver e len=>
   obtain⟨h1,h2,ty,esz,row,c,k⟩:=h;exact⟨h1,h2,ty,esz,row,c,Ev k n⟩
 |lst ty e g rows=>cases pl<;>exact h
 |tr t rows hs=>
  obtain⟨ty,e,ks⟩:=t;cases pl with
  |nil=>exact h
  |atp id ver e' len=>
   obtain⟨h1,h2,c,k,l,els,d,m,q,s⟩:=h;refine⟨h1,h2,c,k,l,els,d,m,q,fun i r r' a b=>⟨(s i r r' a b).1,fun j x y c1 c2=>?_⟩⟩;have:=(s i r r' a b).2 j x y c1 c2;unfold TC at this ⊢;cases hk:eH ks j with
   |none=>rw[hk]at this;exact this
   |some t=>
    rw[hk]at this;simp only at this ⊢;rcases this with⟨h1,h2⟩|h;exact .inl ⟨h1,fun x u=>tR (h2 x u) (nN2.1 n _ u)⟩;exact .inr h
 |lz ty e dp rows=>cases pl<;>exact h
 |mp es=>cases pl<;>exact h
 |fl fs=>
  cases pl with
  |nil=>exact h
  |atp id ver e len=>
   obtain⟨h1,h2,c,k,ty,els,l,m,q⟩:=h;refine⟨h1,h2,c,k,ty,els,l,m,fun i f row a b=>Ev (d:=4) (q i f row a b) ?_⟩;have:=nN2.1 n f (nU2 a);simp[this]
 |loop N e ps a b busy fin=>
  cases pl with
  |nil=>exact h
  |atp id ver e' len=>
   obtain⟨h1,h2,st,pend,tmps,c,k,l,m⟩:=h;refine⟨h1,h2,st,pend,tmps,c,k,fun i v hv=>?_,m⟩;obtain⟨y,w,z⟩:=l i v hv;exact⟨y,w,tR z (nN2.1 n _ (Ai hv))⟩
theorem tS {p:Nat->Bool}:∀{h:aN},jL p h=true->∀{k:Nat} {o:dO},aK h k=some o->El p o=true
 |[],_,k,o,h=>by simp[aK]at h
 |(j,o')::r,hp,k,o,h=>by
  simp only[jL,nJ2]at hp
  simp only[aK]at h
  split at h
  cases h;exact hp.1
  exact tS hp.2 h
theorem Ak:∀{h:aN} {k:Nat},aK h k≠none->k∈pL h
 |[],k,h=>by simp[aK]at h
 |(j,o)::r,k,h=>by
  simp only[aK]at h
  simp only[pL,nW2]
  split at h
  rename_i e;exact .inl e.symm
  exact .inr (Ak h)
theorem Dg {a:aN}:∀{ks:aA Nat},Ri a ks=true->∀k∈ks,aK a k≠none
 |[],_,k,hk=>by simp at hk
 |j::r,h,k,hk=>by
  unfold Ri at h
  cases hh:iI a j with
  |false=>rw[hh]at h;cases h
  |true=>
   rw[hh,nX2]at h
   rcases nW2.1 hk with rfl|hk
   rw[xS]at hh
   cases hg:aK a k with
   |none=>rw[hg]at hh;cases hh
   |some o=>simp
   exact Dg h k hk
theorem vQ {hs:aN}:∀{a:aN},Rh hs n a=true->∀{k:Nat},aK a k≠none->aK hs k≠none\/n<=k
 |[],_,k,hk=>by simp[aK]at hk
 |(j,o)::r,h,k,hk=>by
  unfold Rh at h
  cases b:(iI hs j||Nat.ble n j)with
  |false=>rw[b]at h;cases h
  |true=>
   rw[b,nX2]at h
   simp only[aK]at hk
   split at hk
   rename_i e
   subst e
   simp only[oE2,xS,Nat.ble_eq]at b
   rcases b with b|b
   left;intro e;rw[e]at b;cases b
   exact .inr b
   exact vQ h hk
theorem kM {h:aN} {k:Nat}:iI h k=true↔aK h k≠none:=by
 rw[xS];cases aK h k<;>simp
theorem bY.part {hs:aN} (f:bY C n h lim s) (g:∀k o,aK hs k=some o->aK h k=some o) (m:jL (iI hs) hs=true):bY (lU C (iI hs)) n hs lim s:=by
 have j:∀k,aK hs k≠none->aK h k≠none:=fun k hk=>by
  cases hc:aK hs k with
  |none=>exact absurd hc hk
  |some o=>rw[g k o hc];simp
 have i:∀k pl,lU C (iI hs) k=some pl->C k=some pl:=fun k pl hk=>by
  simp only[lU]at hk;split at hk;exact hk;cases hk
 refine⟨⟨fun k o hk=>?_,fun k k' id v e l v' e' l' a b c d=>f.hr.inj k k' id v e l v' e' l' (j k a) (j k' b) (i _ _ c) (i _ _ d),fun id o p=>?_,fun k id v e l a b=>f.hr.wn k id v e l (j k a) (i _ _ b),f.hr.wb,f.hr.wz⟩,fun k pl hk=>f.dom k pl (i k pl hk),f.wf,f.lim⟩;obtain⟨pl,h1,h2⟩:=f.hr.ob k o (g k o hk);refine⟨pl,?_,Wx (tS m hk) h2⟩;simp only[lU];rw[nQ2 (kM.2 (by rw[hk];simp))];exact h1;obtain⟨z1,z2,z3,z4⟩:=f.hr.zr id o p;exact⟨z1,z2,fun k v e l a b=>z3 k v e l (j k a) (i _ _ b),z4⟩
theorem bY.now {hs:aN} (a:bY C n hs lim s) (hn:oO hs=true):bY ⟨C.f,C.z,fun _=>none⟩ n hs lim s:=
 ⟨⟨fun k o hk=>by
  obtain⟨pl,h1,h2⟩:=a.hr.ob k o hk
  exact⟨pl,h1,dU.monoN (C:=C) (C':=⟨C.f,C.z,fun _=>none⟩) (nM2 _) ⟨fun _ _ h=>h,fun _ _ h=>h⟩ (fun _ _ _ _ _=>rfl) (Aj hn hk) h2⟩,a.hr.inj,a.hr.zr,fun _ _ _ _ _ _ _=>rfl,fun _ _ h=>(by cases h),fun _ _ _=>rfl⟩,a.dom,a.wf,a.lim⟩
theorem vR {hs:aN}:∀{a:aN},Rj hs a=true->∀{k:Nat},aK a k≠none->aK hs k≠none
 |[],_,k,hk=>by simp[aK]at hk
 |(j,o)::r,h,k,hk=>by
  unfold Rj at h
  cases hh:iI hs j with
  |false=>rw[hh]at h;cases h
  |true=>
   rw[hh,nX2]at h
   simp only[aK]at hk
   split at hk
   rename_i e;subst e;exact kM.1 hh
   exact vR h hk
theorem Ew:∀(h:aN) (m:Nat),m<=bnd h m
 |[],m=>nM2 _
 |(k,o)::r,m=>by
  unfold bnd
  cases hb:Nat.blt k m with
  |true=>rw[nX2];exact Ew r m
  |false=>
   rw[oI2]
   have:=Ew r (k+1)
   have h2:¬k<m:=fun a=>by rw[<-pQ2,hb]at a;cases a
   omega
theorem Al:∀(h:aN) (m k:Nat),aK h k≠none->k<bnd h m
 |[],m,k,hk=>by simp[aK]at hk
 |(j,o)::r,m,k,hk=>by
  simp only[aK]at hk
  unfold bnd
  cases hb:Nat.blt j m with
  |true=>
   rw[nX2]
   split at hk
   rename_i e
   rw[pQ2]at hb
   have:=Ew r m
   omega
   exact Al r m k hk
  |false=>
   rw[oI2]
   split at hk
   have:=Ew r (j+1);omega
   exact Al r (j+1) k hk
theorem Ey {P:AV->Hp->Prop} {run:aN->Nat->(PV->aN->Nat->aB (PV×aN×Nat))->aB (PV×aN×Nat)} {xs:aA PV} {ys:aA AV} {e:dG} {t:aA AV} {kill:aA Nat} {nw:Bool} {K:PV->dG->aN->Nat->aB R} {r:R}
  (B:bY C n h lim s) (he:cS C e t) (hx:LR (RV C) xs ys)
  (d8:∀(hs:aN) (C0:Cx) (m:Nat) (K':PV->aN->Nat->aB (PV×aN×Nat)) (r':PV×aN×Nat),bY C0 m hs lim s->LR (RV C0) xs ys->run hs m K'=some r'->
   ∃v h' n' C' y s',K' v h' n'=some r'/\RV C' v y/\bY C' n' h' lim s'/\m<=n'/\Fr C0 hs s C' h' s'/\P y s')
  (hk:inK run nw xs e h n kill K=some r):
  ∃v e' h' n' C' y s',K v e' h' n'=some r/\RV C' v y/\(∀i w,dE e' i=some w->∃z,t[i]? =some z/\RV C' w z/\i∉kill)/\bY C' n' h' lim s'/\n<=n'/\Fr C h s C' h' s'/\P y s':=by
 unfold inK at hk;obtain⟨f5,hk⟩:=fE (fR 5) _ _ _ _ hk;obtain⟨ns,hk⟩:=dS _ _ _ _ _ hk;obtain⟨hs,p,hk,E⟩:=qN hk;cases hch:(xs.all (kX (iI hs) 5)&&(jL (iI hs) hs&&(oO hs||oO p)))with
 |false=>rw[hch]at hk;exact aD hk
 |true=>
 rw[hch,nX2,bJ,nI2]at hk;obtain⟨r',hq,hk⟩:=hk;simp only[nJ2]at hch
 have T:∀k o,aK hs k=some o->aK h k=some o:=fun k o g=>by
  rw[(E k).1]at g;split at g;exact g;cases g
 have d9:∀{k},aK hs k≠none->k<n:=fun{k} hk=>by
  cases hc:aK hs k with
  |none=>exact absurd hc hk
  |some o=>obtain⟨pl,p1,_⟩:=B.hr.ob k o (T k o hc);exact B.dom k pl p1
 obtain⟨d2,G,f0⟩:=hch;have b9:=B.part T G;let W:Nat->aB (Nat×Nat×Nat):=if oO hs=true then fun _=>none else C.w
 let C0:Cx:=⟨(lU C (iI hs)).f,C.z,W⟩
 have d0:∀o,W o≠none->C.w o≠none:=fun o h=>by
  by_cases hn:oO hs=true;exact absurd (by simp only[W,nQ2 hn]) h;have e:W o=C.w o:=by simp only[W,nS2 hn]
  rw[<-e];exact h
 have S:bY C0 n hs lim s:=by
  by_cases hn:oO hs=true;have e:C0=⟨(lU C (iI hs)).f,(lU C (iI hs)).z,fun _=>none⟩:=by simp only[C0,W,nQ2 hn];rfl
  rw[e];exact b9.now hn;have e:C0=lU C (iI hs):=by simp only[C0,W,nS2 hn];rfl
  rw[e];exact b9
 have e3:bY C0 (bif nw then n else bnd hs 0) hs lim s:=⟨S.hr,(fun k pl D=>by
  cases nw with
  |true=>exact S.dom k pl D
  |false=>
   simp only[C0,lU]at D;split at D;rename_i Y;exact Al hs 0 k (kM.1 Y);cases D),S.wf,S.lim⟩
 obtain⟨v,h',n',C',y,s',w1,w2,w3,w4,w5,w6⟩:=d8 hs _ _ _ r' e3 ((Ev hx d2).mono fun x y h=>RV.mono (C:=lU C (iI hs)) (C':=C0) ⟨fun _ _ h=>h,fun _ _ h=>h⟩ h) hq;unfold Ii at w1;obtain⟨f4,w1⟩:=fE (fR 5) _ _ _ _ w1;obtain⟨f6,w1⟩:=dS _ _ _ _ _ w1;obtain⟨h2,_,w1,a0⟩:=qN w1;cases G:(Ri h2 (pL hs)&&(bif nw then Rh hs (bif nw then n else bnd hs 0) h2 else Rj hs h2)&&(kX (iI h2) 5 v&&jL (iI h2) h2))with
 |false=>rw[G]at w1;exact aD w1
 |true=>
 rw[G,nX2]at w1;cases w1;simp only[nJ2]at G;obtain⟨⟨c1,c2⟩,c3,c4⟩:=G;have e5:∀{k},aK hs k≠none->aK h2 k≠none:=fun{k} hk=>Dg c1 k (Ak hk)
 have b5:∀{k},aK h2 k≠none->aK hs k≠none\/n<=k:=fun{k} Z=>by
  cases nw with
  |true=>exact vQ c2 Z
  |false=>exact .inl (vR c2 Z)
 have J:∀k o,aK h2 k=some o->aK h' k=some o:=fun k o g=>by
  rw[(a0 k).1]at g;split at g;exact g;cases g
 have e4:=w3.part J c4;rw[Io]at hk;simp only[Df,dC]at hk;obtain⟨e',U,hk,k1,k2,k3⟩:=rV hk;obtain⟨hc,hk,k4⟩:=vP hk
 let j:Nat->aB (Nat×Nat×Nat):=fun o=>match C'.w o with
  |some x=>some x
  |none=>if oO hs=true then C.w o else none
 let C3:Cx:=⟨fun k=>if iI h2 k then C' k else C k,C'.z,j⟩
 let C1:Cx:=⟨fun k=>if k<n then C3 k else none,C'.z,j⟩
 have c3in:∀{k},aK h2 k≠none->C3 k=C' k:=fun{k} hk=>nQ2 (kM.2 hk);have c3out:∀{k},aK h2 k=none->C3 k=C k:=fun{k} hk=>nS2 (fun Y=>kM.1 Y hk)
 have Z:∀{k},aK h k≠none->k<n:=fun{k} hk=>by
  cases hc:aK h k with
  |none=>exact absurd hc hk
  |some o=>obtain⟨pl,p1,_⟩:=B.hr.ob k o hc;exact B.dom k pl p1
 have e9:∀{k},aK hs k≠none->aK h k≠none:=fun{k} hk=>by
  cases hc:aK hs k with
  |none=>exact absurd hc hk
  |some o=>rw[T k o hc];simp
 have rs:∀{k},aK hs k≠none->C0 k=C k:=fun{k} hk=>by simp only[C0,lU];rw[nQ2 (kM.2 hk)]
 have f2:∀{k pl},C0 k=some pl->C k=some pl:=fun{k pl} hk=>by
  simp only[C0,lU]at hk;split at hk;exact hk;cases hk
 have b6:∀{k pl},lU C' (iI h2) k=some pl->C3 k=some pl:=fun{k pl} hk=>by
  simp only[lU]at hk;split at hk;rename_i Y;rw[c3in (kM.1 Y)];exact hk;cases hk
 have b8:Ww h2 ⟨C.f,C.z,j⟩ C1:=⟨fun k=>(by
  by_cases d5:k<n;show C1 k=C k\/_
  have e1:C1 k=C3 k:=nQ2 d5;rw[e1];by_cases u:aK h2 k=none;exact .inl (c3out u);rw[c3in u];rcases b5 u with hq|hq;cases hc2:aK hs k with
  |none=>exact absurd hc2 hq
  |some o=>
   obtain⟨o',q1,q2⟩:=w5.kd k o hc2
   have q3:aK h2 k=some o':=by
    cases hc3:aK h2 k with
    |none=>exact absurd hc3 u
    |some o2=>rw[J k o2 hc3]at q1;exact q1
   cases hb:eG o' with
   |true=>left;rw[(q2 hb).2,rs hq]
   |false=>
    right;exact⟨o',Jd q3,hb⟩
  omega;left;show C1 k=C k
  have:C1 k=none:=nS2 d5;rw[this,Vm B (by omega)]),w5.zl,rfl⟩
 have c13:C1.le C3:=⟨fun k pl hk=>(by
  simp only[C1]at hk;split at hk;exact hk;cases hk),fun _ _ h=>h⟩
 have X:∀{k o'},aK U k=some o'->∃o,aK h k=some o/\aK hs k=none/\aK h2 k=none/\eG o'=eG o/\aK p k=some o/\∀{L:Nat->aB AO} {lim nS:Nat} {pl:Pl},dU ⟨C.f,C.z,j⟩ L lim nS o pl->dU C1 L lim nS o' pl:=fun{k o'} g=>by
  obtain⟨o,q1,q2,q3⟩:=k3 k o' g;have q0:=q1;rw[(E k).2]at q1;split at q1;cases q1;rename_i hm;have h1:aK hs k=none:=by rw[(E k).1,nS2 hm]
  refine⟨o,q1,h1,?_,q2,q0,fun e8=>q3 b8 e8⟩;cases hc2:aK h2 k with
  |none=>rfl
  |some o2=>
   rcases b5 (k:=k) (by rw[hc2];simp)with q|q;exact absurd h1 q;have:=Z (k:=k) (by rw[q1];simp);omega
 have V:∀{k},aK hc k≠none->aK h2 k≠none\/(aK h2 k=none/\aK U k≠none):=fun{k} hk=>by
  rw[k4 k]at hk;cases hc2:aK h2 k with
  |none=>right;refine⟨rfl,?_⟩;rw[hc2]at hk;simpa using hk
  |some o=>left;simp
 have A:∀{k},aK U k≠none->aK h k≠none/\aK hs k=none/\aK h2 k=none:=fun{k} hk=>by
  cases hc2:aK U k with
  |none=>exact absurd hc2 hk
  |some o'=>obtain⟨o,q1,q2,q3,_⟩:=X hc2;exact⟨by rw[q1];simp,q2,q3⟩
 have M:∀{k},aK h2 k≠none->aK h' k≠none:=fun{k} hk=>by
  cases hc2:aK h2 k with
  |none=>exact absurd hc2 hk
  |some o=>rw[J k o hc2];simp
 have O:∀{id},Vk C0 hs id->(∃k v e l,aK hs k≠none/\aK h k≠none/\C k=some (.atp id v e l))\/W id≠none:=fun{id} p=>by
  rcases p with⟨k,v,e,l,q1,q2⟩|p;exact .inl ⟨k,v,e,l,q1,e9 q1,f2 q2⟩;exact .inr p
 have rP:∀{id},Vk C0 hs id->Vk C h id:=fun{id} p=>by
  rcases O p with⟨k,v,e,l,q1,q2,q3⟩|p;exact .inl ⟨k,v,e,l,q2,q3⟩;exact .inr (d0 id p)
 have H:∀{k id v e l},aK h k≠none->aK hs k=none->C k=some (.atp id v e l)->¬Vk C0 hs id:=fun{k id v e l} a b c p=>by
  rcases O p with⟨k',v',e',l',q1,q2,q3⟩|p;have:=B.hr.inj k k' id _ _ _ _ _ _ a q2 c q3;subst this;exact q1 b;exact d0 id p (B.hr.wn k id v e l a c)
 have b0:oO hs=true->∀id,Vk C0 hs id->C.w id=none:=fun hn id p=>by
  rcases O p with⟨k',v',e',l',q1,q2,q3⟩|p;exact B.hr.wn k' id _ _ _ q2 q3;exact absurd (by simp only[W,nQ2 hn]) p
 have f1:oO hs=true->∀id,C'.w id≠none->C.w id=none:=fun hn id h=>by
  cases hc:C.w id with
  |none=>rfl
  |some sl=>
   have hid:=(B.hr.wb id sl hc).1;rw[<-hc];exact b0 hn id (w5.own id hid (.inr h))
 have b4:∀{id sl},C'.w id=some sl->j id=some sl:=fun{id sl} h=>by simp only[j,h]
 have b7:oO hs=true->∀{id sl},C.w id=some sl->j id=some sl:=fun hn {id sl} h=>by
  cases hc:C'.w id with
  |none=>simp only[j,hc,nQ2 hn,h]
  |some x=>have:=f1 hn id (by rw[hc];simp);rw[this]at h;cases h
 have F:∀{id sl},j id=some sl->C'.w id=some sl\/(oO hs=true/\C.w id=some sl):=fun{id sl} h=>by
  cases hc:C'.w id with
  |some x=>simp only[j,hc]at h;exact .inl h
  |none=>
   simp only[j,hc]at h;by_cases hn:oO hs=true;rw[nQ2 hn]at h;exact .inr ⟨hn,h⟩;rw[nS2 hn]at h;cases h
 have e0:∀{k k' id v e l v' e' l'},aK h2 k≠none->aK U k'≠none->C3 k=some (.atp id v e l)->C3 k'=some (.atp id v' e' l')->False:=fun{k k' id v e l v' e' l'} a b c d=>by
  obtain⟨b1,b2,b3⟩:=A b;rw[c3in a]at c;rw[c3out b3]at d;have hid:=(B.hr.lt b1 d).2;exact H b1 b2 d (w5.own id hid (.inl ⟨k,v,e,l,M a,c⟩))
 refine⟨v,e',hc,_,C3,y,s',hk,(tR w2 c3).mono ⟨fun _ _ Y=>b6 Y,fun _ _ h=>h⟩,fun i w hw=>?_,⟨⟨fun k o g=>?_,fun k k' id v e l v' e' l' a b c d=>?_,fun id o hz=>?_,fun k id v e l a b=>?_,fun id sl hw=>?_,fun id o hz=>?_⟩,fun k pl D=>?_,w3.wf,w3.lim⟩,?_,⟨w5.sk,w5.n,fun id hid hn=>w5.keep id hid (fun p=>hn (rP p)),fun id hid p=>?_,fun k o g=>?_,w5.zl,fun id hid hz=>?_⟩,w6⟩;obtain⟨v0,q1,q2⟩:=k1 i w hw;obtain⟨z,p1,p2,p3⟩:=he.edel kill i v0 q1;exact⟨z,p1,(q2 b8 (RV.mono (C:=C) (C':=⟨C.f,C.z,j⟩) ⟨fun _ _ h=>h,fun _ _ h=>h⟩ p2)).mono c13,p3⟩;rw[k4 k]at g;cases hc2:aK h2 k with
 |some o2=>
  rw[hc2]at g;cases g;obtain⟨pl,q1,q2⟩:=e4.hr.ob k _ hc2;exact⟨pl,b6 q1,q2.mono (nM2 _) ⟨fun _ _ Y=>b6 Y,fun _ _ h=>h⟩ (fun _ _ _ _ _=>rfl) (fun o sl h=>⟨b4 h,rfl⟩)⟩
 |none=>
  rw[hc2]at g;obtain⟨o0,q1,q2,q3,q4,q0,q5⟩:=X (by simpa using g);obtain⟨pl,p1,p2⟩:=B.hr.ob k o0 q1
  have d4:∀id ver e len,pl=.atp id ver e len->Sim.look s'.h id=Sim.look s.h id:=fun id v e l hp=>by
   subst hp;exact w5.keep id p2.lt.2 (H (by rw[q1];simp) q2 p1)
  have p3:dU ⟨C.f,C.z,j⟩ (Sim.look s'.h) lim s'.n o0 pl:=by
   by_cases hn:oO hs=true;exact dU.mono (C:=C) (C':=⟨C.f,C.z,j⟩) w5.n ⟨fun _ _ h=>h,fun _ _ h=>h⟩ d4 (fun o sl h=>⟨b7 hn h,w5.keep o (B.hr.wb o sl h).1 fun p=>by rw[b0 hn o p]at h;cases h⟩) p2;have e7:oO p=true:=by simpa[hn]using f0
   exact dU.monoN (C:=C) (C':=⟨C.f,C.z,j⟩) w5.n ⟨fun _ _ h=>h,fun _ _ h=>h⟩ d4 (Aj e7 q0) p2
  exact⟨pl,by rw[c3out hc2];exact p1,(q5 p3).mono (nM2 _) c13 (fun _ _ _ _ _=>rfl) (fun o sl h=>⟨h,rfl⟩)⟩
 rcases V a with a|⟨a1,a⟩<;>rcases V b with b|⟨b1,b⟩
 rw[c3in a]at c;rw[c3in b]at d;exact w3.hr.inj k k' id v e l v' e' l' (M a) (M b) c d;exact(e0 a b c d).elim;exact(e0 b a d c).elim;rw[c3out a1]at c;rw[c3out b1]at d;exact B.hr.inj k k' id v e l v' e' l' (A a).1 (A b).1 c d;obtain⟨z1,z2,z3,z4⟩:=w3.hr.zr id o hz;refine⟨z1,z2,fun k v e l a b=>?_,z4⟩;rcases V a with a|⟨a1,a⟩
 rw[c3in a]at b;exact z3 k v e l (M a) b;rw[c3out a1]at b;obtain⟨b1,b2,b3⟩:=A a;have hid:=(B.hr.lt b1 b).2;rcases w5.zn id hid (by rw[show C'.z id=some o from hz];simp)with N|N;cases hz1:C.z id with
 |none=>exact N hz1
 |some o1=>exact(B.hr.zr id o1 hz1).2.2.1 k v e l b1 b
 exact H b1 b2 b N;cases hw:j id with
 |none=>exact hw
 |some sl=>
  exfalso;rcases V a with a|⟨a1,a⟩
  rw[c3in a]at b;have hc:=w3.hr.wn k id v e l (M a) b;rcases F hw with h|⟨hn,h⟩
  rw[hc]at h;cases h;rw[b0 hn id (w5.own id (B.hr.wb id sl h).1 (.inl ⟨k,v,e,l,M a,b⟩))]at h;cases h;rw[c3out a1]at b;obtain⟨b1,b2,b3⟩:=A a;rcases F hw with h|⟨hn,h⟩
  exact H b1 b2 b (w5.own id (B.hr.lt b1 b).2 (.inr (by rw[h];simp)));rw[B.hr.wn k id v e l b1 b]at h;cases h
 rcases F hw with h|⟨hn,h⟩
 exact w3.hr.wb id sl h;have:=B.hr.wb id sl h;have:=w5.n;omega;cases hw:j id with
 |none=>exact hw
 |some sl=>
  exfalso;rcases F hw with h|⟨hn,h⟩
  rw[w3.hr.wz id o hz]at h;cases h;have hid:=(B.hr.wb id sl h).1;rcases w5.zn id hid (by rw[show C'.z id=some o from hz];simp)with N|N;cases hz1:C.z id with
  |none=>exact N hz1
  |some o1=>rw[B.hr.wz id o1 hz1]at h;cases h
  rw[b0 hn id N]at h;cases h
 cases nw with
 |true=>
  simp only[nX2]at w4 ⊢;by_cases u:aK h2 k=none;rw[c3out u]at D;have:=B.dom k pl D;omega;rw[c3in u]at D;exact w3.dom k pl D
 |false=>
  simp only[oI2];by_cases u:aK h2 k=none;rw[c3out u]at D;exact B.dom k pl D;exact d9 (vR c2 u)
 cases nw with
 |true=>exact w4
 |false=>exact nM2 _
 rcases p with⟨k,v,e,l,q1,q2⟩|p;rcases V q1 with a|⟨a1,a⟩
 rw[c3in a]at q2;exact rP (w5.own id hid (.inl ⟨k,v,e,l,M a,q2⟩));rw[c3out a1]at q2;exact .inl ⟨k,v,e,l,(A a).1,q2⟩;cases hw:j id with
 |none=>exact absurd hw p
 |some sl=>
  rcases F hw with h|⟨hn,h⟩
  exact rP (w5.own id hid (.inr (by rw[h];simp)));exact .inr (by rw[h];simp)
 rw[k4 k];by_cases hm:aK hs k=none
 have d6:¬rM k ns=true:=fun e6=>by
  rw[(E k).1,nQ2 e6,g]at hm;cases hm
 have d3:aK p k=some o:=by rw[(E k).2,nS2 d6];exact g
 cases hc2:aK U k with
 |none=>rw[(k2 k).1 hc2]at d3;cases d3
 |some o'=>
  obtain⟨o0,q1,q2,q3,q4,_,_⟩:=X hc2;rw[g]at q1;cases q1;exact⟨o',by rw[q3];rfl,fun hb=>⟨by rw[<-q4];exact hb,c3out q3⟩⟩
 cases hc2:aK hs k with
 |none=>exact absurd hc2 hm
 |some o0=>
  have d7:=T k o0 hc2;rw[g]at d7;cases d7;obtain⟨o',q1,q2⟩:=w5.kd k o hc2;have u:=e5 hm;cases hc3:aK h2 k with
  |none=>exact absurd hc3 u
  |some o2=>
   have:=J k o2 hc3;rw[q1]at this;cases this;exact⟨o',rfl,fun hb=>⟨(q2 hb).1,by rw[c3in u,(q2 hb).2,rs hm]⟩⟩
 rcases w5.zn id hid hz with h1|h1;exact .inl h1;exact .inr (rP h1)
def fxo:dO->dO
 |.lst ty e g rows=>.lst (ty+4294967296) e g rows
 |o=>o
def Am:dO->Bool
 |.lst .. =>true
 |_=>false
theorem kW1 (ty:Nat):eO (ty+4294967296)=true:=by
 unfold eO;rw[Nat.ble_eq];omega
theorem cC1 {ty:Nat}:Be (ty+4294967296)=ty:=by
 unfold Be;rw[kW1,nX2];omega
theorem An {ty:Nat} (h:eO ty=false):Be ty=ty:=by
 unfold Be;rw[h,oI2]
theorem cD1 {ty:Nat} (h:eO ty=true):Be ty=ty-4294967296:=by
 unfold Be;rw[h,nX2]
theorem Pm {L:Nat->aB AO} {nS ty ty' e:Nat} {g:Bool} {rows:aA (aA PV)} {pl:Pl} (a:dU C L lim nS (.lst ty e g rows) pl) (b:Be ty'=Be ty):dU C L lim nS (.lst ty' e g rows) pl:=by
 cases pl with
 |nil=>exact a
 |atp id ver e' len=>
  obtain⟨a1,a2,a3,a4,els,a5,a6⟩:=a;exact⟨a1,a2,a3,a4,els,by rw[b];exact a5,a6⟩
theorem Ao:∀{h:aN} {K:aN->aB R} {r:R},Lw h K=some r->∃h1,K h1=some r/\∀k,aK h1 k=(aK h k).map fxo/\∀ty e g rows,aK h k=some (.lst ty e g rows)->eO ty=false
 |[],K,r,hk=>⟨[],hk,fun k=>⟨rfl,fun _ _ _ _ h=>by simp[aK]at h⟩⟩
 |(j,o)::t,K,r,hk=>by
  unfold Lw at hk
  have other:Am o=false->Lw t (fun r=>K ((j,o)::r))=some r->∃h1,K h1=some r/\∀k,aK h1 k=(aK ((j,o)::t) k).map fxo/\∀ty e g rows,aK ((j,o)::t) k=some (.lst ty e g rows)->eO ty=false:=by
   intro hl hk;obtain⟨h1,q1,q2⟩:=Ao hk;refine⟨_,q1,fun k=>?_⟩;by_cases e:j=k;simp only[aK,nQ2 e,oM2];refine⟨?_,fun _ _ _ _ h=>?_⟩;cases o<;>first|rfl|simp[Am]at hl
   cases h;simp[Am]at hl;simp only[aK,nS2 e];exact q2 k
  cases o with
  |lst ty e g rows=>
   cases hfx:eO ty with
   |true=>simp only[hfx,nX2]at hk;exact aD hk
   |false=>
    simp only[hfx,oI2]at hk;obtain⟨h1,q1,q2⟩:=Ao hk;refine⟨_,q1,fun k=>?_⟩;by_cases c:j=k;simp only[aK,nQ2 c,oM2];exact⟨rfl,fun _ _ _ _ h=>by cases h;exact hfx⟩;simp only[aK,nS2 c];exact q2 k
  |box cs=>exact other rfl hk
  |mp es=>exact other rfl hk
  |fl fs=>exact other rfl hk
  |loop N e ps a b busy fin=>exact other rfl hk
  |lz ty e dp rows=>exact aD hk
  |tr tt rows hs=>exact aD hk
def UnR (h:aN) (k:Nat) (b c:dO):Prop:=∃a,aK h k=some a/\
 ((∃ty e g rows,b=.lst ty e g rows/\eO ty=true/\eO (ty-4294967296)=false/\c=.lst (ty-4294967296) e g rows)\/(c=b/\Am a=false))
theorem Dh:∀{h h2:aN} {K:aN->aB R} {r:R},wR h h2 K=some r->∃c,K c=some r/\∀k,(aK c k=none↔aK h2 k=none)/\∀d,aK c k=some d->∃f,aK h2 k=some f/\UnR h k f d
 |h,[],K,r,hk=>⟨[],hk,fun k=>⟨Iff.rfl,fun _ h=>by simp[aK]at h⟩⟩
 |h,(j,o)::t,K,r,hk=>by
  unfold wR at hk
  rw[eF,nI2]at hk
  obtain⟨i,h0,hk⟩:=hk
  have step:∀d,UnR h j o d->wR h t (fun r=>K ((j,d)::r))=some r->∃c,K c=some r/\∀k,(aK c k=none↔aK ((j,o)::t) k=none)/\∀d,aK c k=some d->∃f,aK ((j,o)::t) k=some f/\UnR h k f d:=by
   intro d m hk;obtain⟨c,q1,q2⟩:=Dh hk;refine⟨_,q1,fun k=>?_⟩;by_cases e:j=k;subst e;simp only[aK,nQ2];exact⟨by simp,fun n l=>⟨o,rfl,by cases l;exact m⟩⟩;simp only[aK,nS2 e];exact q2 k
  have no:Am i=false->Am o=false->wR h t (fun r=>K ((j,o)::r))=some r->∃c,K c=some r/\∀k,(aK c k=none↔aK ((j,o)::t) k=none)/\∀d,aK c k=some d->∃f,aK ((j,o)::t) k=some f/\UnR h k f d:=
   fun hl _ hk=>step o ⟨i,h0,.inr ⟨rfl,hl⟩⟩ hk
  cases i with
  |lst ty0 e0 g0 rows0=>
   cases o with
   |lst ty e g rows=>
    cases hfx:(eO ty&& !(eO (ty-4294967296)))with
    |false=>simp only[hfx,oI2]at hk;exact aD hk
    |true=>
     simp only[hfx,nX2]at hk;simp only[nJ2,oB2]at hfx;exact step _ ⟨_,h0,.inl ⟨ty,e,g,rows,rfl,hfx.1,hfx.2,rfl⟩⟩ hk
   |_=>exact aD hk
  |box cs=>cases o with
   |lst ty e g rows=>exact aD hk
   |lz ty e dp rows=>exact aD hk
   |tr tt rows hs=>exact aD hk
   |_=>exact no rfl rfl hk
  |mp es=>cases o with
   |lst ty e g rows=>exact aD hk
   |lz ty e dp rows=>exact aD hk
   |tr tt rows hs=>exact aD hk
   |_=>exact no rfl rfl hk
  |fl fs=>cases o with
   |lst ty e g rows=>exact aD hk
   |lz ty e dp rows=>exact aD hk
   |tr tt rows hs=>exact aD hk
   |_=>exact no rfl rfl hk
  |loop N e ps a b busy fin=>cases o with
   |lst ty e g rows=>exact aD hk
   |lz ty e dp rows=>exact aD hk
   |tr tt rows hs=>exact aD hk
   |_=>exact no rfl rfl hk
  |lz ty0 e0 dp0 rows0=>cases o with
   |lst ty e g rows=>exact aD hk
   |lz ty e dp rows=>exact aD hk
   |tr tt rows hs=>exact aD hk
   |_=>exact no rfl rfl hk
  |tr tt0 rows0 hs0=>cases o with
   |lst ty e g rows=>exact aD hk
   |lz ty e dp rows=>exact aD hk
   |tr tt rows hs=>exact aD hk
   |_=>exact no rfl rfl hk
theorem Wy {fx:Bool} {P:AV->Hp->Prop} {run:aN->Nat->(PV->aN->Nat->aB (PV×aN×Nat))->aB (PV×aN×Nat)} {xs:aA PV} {ys:aA AV} {e:dG} {t:aA AV} {kill:aA Nat} {nw:Bool} {K:PV->dG->aN->Nat->aB R} {r:R}
  (j:bY C n h lim s) (he:cS C e t) (M:LR (RV C) xs ys)
  (u:∀(hs:aN) (C0:Cx) (m:Nat) (K':PV->aN->Nat->aB (PV×aN×Nat)) (r':PV×aN×Nat),bY C0 m hs lim s->LR (RV C0) xs ys->run hs m K'=some r'->
   ∃v h' n' C' y s',K' v h' n'=some r'/\RV C' v y/\bY C' n' h' lim s'/\m<=n'/\Fr C0 hs s C' h' s'/\P y s')
  (hk:bO1 fx run nw xs e h n kill K=some r):
  ∃v e' h' n' C' y s',K v e' h' n'=some r/\RV C' v y/\(∀i w,dE e' i=some w->∃z,t[i]? =some z/\RV C' w z/\i∉kill)/\bY C' n' h' lim s'/\n<=n'/\Fr C h s C' h' s'/\P y s':=by
 cases fx with
 |false=>exact Ey j he M u hk
 |true=>
  have hk:Lw h (fun h1=>inK run nw xs e h1 n kill fun v e h2 n=>wR h h2 fun x=>K v e x n)=some r:=hk;obtain⟨h1,hk,q⟩:=Ao hk;have d:∀{k},aK h1 k≠none->aK h k≠none:=fun{k} hk hn=>hk (by rw[(q k).1,hn];rfl)
  have G:bY C n h1 lim s:=by
   refine⟨⟨fun k po hp=>?_,fun k k' i v1 E H v2 e2 J a1 a2 a3 a4=>j.hr.inj k k' i v1 E H v2 e2 J (d a1) (d a2) a3 a4,fun id o B=>?_,fun k id v e l a b=>j.hr.wn k id v e l (d a) b,j.hr.wb,j.hr.wz⟩,j.dom,j.wf,j.lim⟩;rw[(q k).1]at hp;cases hh:aK h k with
   |none=>rw[hh]at hp;cases hp
   |some o=>
    rw[hh]at hp;cases hp;obtain⟨pl,p1,p2⟩:=j.hr.ob k o hh;refine⟨pl,p1,?_⟩;cases o with
    |lst ty e g rows=>exact Pm p2 (cC1.trans (An ((q k).2 _ _ _ _ hh)).symm)
    |_=>exact p2
   obtain⟨z1,z2,z3,z4⟩:=j.hr.zr id o B;exact⟨z1,z2,fun k v e l a b=>z3 k v e l (d a) b,z4⟩
  obtain⟨v,e',h',n',C',y,s',q1,q2,q3,q4,q5,q6,q7⟩:=Ey G he M u hk;obtain⟨x,r1,r2⟩:=Dh q1;have c:∀{k},aK x k≠none->aK h' k≠none:=fun{k} hk hn=>hk ((r2 k).1.2 hn)
  have f:∀{id},Vk C h1 id->Vk C h id:=fun{id} p=>by
   rcases p with⟨k,v,e,l,b1,b2⟩|p;exact .inl ⟨k,v,e,l,d b1,b2⟩;exact .inr p
  refine⟨v,e',x,n',C',y,s',r1,q2,q3,⟨⟨fun k D F=>?_,fun k k' i v1 E H v2 e2 J a1 a2 a3 a4=>q4.hr.inj k k' i v1 E H v2 e2 J (c a1) (c a2) a3 a4,fun id o B=>?_,fun k id v e l a b=>q4.hr.wn k id v e l (c a) b,q4.hr.wb,q4.hr.wz⟩,q4.dom,q4.wf,q4.lim⟩,q5,⟨q6.sk,q6.n,fun id hid hn=>q6.keep id hid (fun p=>hn (f p)),fun id hid p=>?_,fun k o A=>?_,q6.zl,fun id hid B=>?_⟩,q7⟩;obtain⟨N,b1,O,b2,b3⟩:=(r2 k).2 D F;obtain⟨pl,p1,p2⟩:=q4.hr.ob k N b1;refine⟨pl,p1,?_⟩;rcases b3 with⟨ty,e,g,rows,rfl,c1,c2,rfl⟩|⟨rfl,_⟩
  exact Pm p2 ((An c2).trans (cD1 c1).symm);exact p2;obtain⟨z1,z2,z3,z4⟩:=q4.hr.zr id o B;exact⟨z1,z2,fun k v e l a b=>z3 k v e l (c a) b,z4⟩;rcases p with⟨k,v,e,l,b1,b2⟩|p;exact f (q6.own id hid (.inl ⟨k,v,e,l,c b1,b2⟩));exact f (q6.own id hid (.inr p));obtain⟨N,L,T⟩:=q6.kd k (fxo o) (by rw[(q k).1,A];rfl);cases hc:aK x k with
  |none=>rw[(r2 k).1.1 hc]at L;cases L
  |some D=>
   refine⟨D,rfl,fun hb=>?_⟩;obtain⟨S,b1,O,b2,b3⟩:=(r2 k).2 D hc;rw[L]at b1;cases b1;rw[A]at b2;cases b2;rcases b3 with⟨ty,e,g,rows,rfl,c1,c2,rfl⟩|⟨rfl,hl⟩
   rw[eG,c2]at hb;cases hb;obtain⟨U,V⟩:=T hb;refine⟨?_,V⟩;cases o with
   |lst ty e g rows=>simp[Am]at hl
   |_=>exact U
  rcases q6.zn id hid B with h1|h1;exact .inl h1;exact .inr (f h1)
end
end Go.P
namespace Go.P
open Go.Sim (AV AO Hp eJ upd St IC IX Ex eE CK Wf Out doOp iG exec)
section
variable {R:Type} {C:Cx} {n:Nat} {h:aN} {lim:Nat} {s:Hp}
theorem Di:∀(h:aN) (k:Nat) (a b:dO),bR (bR h k a) k b=bR h k b
 |[],_,_,_=>rfl
 |(j,o)::r,k,a,b=>by
  by_cases e:j=k
  simp[bR,e]
  simp[bR,e,Di r k a b]
theorem Rx {h:aN} {j k:Nat} {o b:dO} (e:j≠k):bR ((j,o)::h) k b=(j,o)::bR h k b:=by simp[bR,e]
theorem kX1 (m:bY C n h lim s) {k:Nat} {po po':dO} (hg:aK h k=some po) (u:∀pl,C k=some pl->dU C (Sim.look s.h) lim s.n po pl->dU C (Sim.look s.h) lim s.n po' pl) (hb:eG po'=true->eG po=true):
  bY C n (bR h k po') lim s/\Fr C h s C (bR h k po') s:=by
 have c:∀j,aK (bR h k po') j=if j=k then some po' else aK h j:=fun j=>by
  rw[cN];simp[hg]
 have g:∀j,aK (bR h k po') j≠none->aK h j≠none:=fun j f=>by
  rw[c]at f;split at f;rename_i d;subst d;rw[hg];simp;exact f
 refine⟨⟨⟨fun j o f=>?_,fun j q i v1 d p v2 e2 z h1 h2 r t=>m.hr.inj j q i v1 d p v2 e2 z (g j h1) (g q h2) r t,fun i o w=>?_,fun j i v1 d p h1 h2=>m.hr.wn j i v1 d p (g j h1) h2,m.hr.wb,m.hr.wz⟩,m.dom,m.wf,m.lim⟩,⟨.refl _ _,nM2 _,fun _ _ _=>rfl,fun i hi hn=>?_,fun j o f=>?_,fun _ _ h=>h,fun _ _ h=>.inl h⟩⟩;rw[c]at f;split at f;rename_i d;subst d;cases f;obtain⟨pl,p1,p2⟩:=m.hr.ob j _ hg;exact⟨pl,p1,u pl p1 p2⟩;exact m.hr.ob j o f;obtain⟨z1,z2,z3,z4⟩:=m.hr.zr i o w;exact⟨z1,z2,fun j v e l a b=>z3 j v e l (g j a) b,z4⟩;rcases hn with⟨j,v1,d,p,x,y⟩|hn;exact .inl ⟨j,v1,d,p,g j x,y⟩;exact .inr hn;rw[c];by_cases d:j=k;subst d;rw[hg]at f;cases f;exact⟨po',by simp,fun h=>⟨hb h,rfl⟩⟩;exact⟨o,by simp[d,f],fun h=>⟨h,rfl⟩⟩
def Dj (C:Cx) (n:Nat) (pl:Pl):Cx:=⟨fun k=>if k=n then some pl else C k,C.z,fun o=>match pl with
 |.atp id _ _ _=>if o=id then none else C.w o
 |.nil=>C.w o⟩
theorem Wz (a:bY C n h lim s) (pl:Pl):C.le (Dj C n pl):=⟨fun k q hk=>by
 have:=a.dom k q hk
 show(if k=n then some pl else C k)=_
 rw[nS2 (by omega)]
 exact hk,fun _ _ h=>h⟩
theorem cE1 (A:bY C n h lim s) {k id ver e2 len ty i j:Nat} {ks:aA (Nat×TD)} {rows:aA (aA PV)} {hs:aA (Nat×Nat×PV)} {row:aA PV} {els:aA (aA AV)} {H:aA AV} {t':TD} {e':Nat} {rows':aA (aA PV)} {y:AV}
  (hg:aK h k=some (.tr (.nd ty e2 ks) rows hs)) (R:C k=some (.atp id ver e2 len)) (hL:Sim.look s.h id=some (.arr false ty e2 ver els)) (hi:rows[i]? =some row) (U:els[i]? =some H)
  (hk:eH ks j=some t') (hj:row[j]? =some (.is e' rows')) (W:H[j]? =some y) (Z:¬xD hs i j):
  ∃pl,bY (Dj C n pl) (n+1) ((n,xC t' rows')::bR h k (.tr (.nd ty e2 ks) rows ((j,i,.own n)::hs))) lim s/\Fr C h s (Dj C n pl) ((n,xC t' rows')::bR h k (.tr (.nd ty e2 ks) rows ((j,i,.own n)::hs))) s/\RV (Dj C n pl) (.own n) y:=by
 obtain⟨X,V,_,hlen,b0,d0,d,S,b5,hr⟩:=jO A hg R;rw[hL]at S;cases S;have d2:k≠n:=by have:=A.dom k _ R;omega
 have c:=(hr i row H hi U).2 j _ y hj W;have G:=A.hr.wn k id _ _ _ (by rw[hg];simp) R;unfold TC at c;rw[hk]at c;rcases c with⟨h1,_⟩|⟨_,c⟩
 exact absurd h1 Z;cases d with
 |zero=>exact c.elim
 |succ d=>
 obtain⟨ty',e3,m⟩:=t';obtain⟨b9,b7,c⟩:=c;cases b7
 have N:∀(pl:Pl),(∀id' v e l,pl=.atp id' v e l->C.w id'=some (id,i,j)/\id'<s.n/\lim<=id')->RV (Dj C n pl) (.own n) y->dU (Dj C n pl) (Sim.look s.h) lim s.n (xC (.nd ty' e' m) rows') pl->
   ∃pl,bY (Dj C n pl) (n+1) ((n,xC (.nd ty' e' m) rows')::bR h k (.tr (.nd ty e2 ks) rows ((j,i,.own n)::hs))) lim s/\Fr C h s (Dj C n pl) ((n,xC (.nd ty' e' m) rows')::bR h k (.tr (.nd ty e2 ks) rows ((j,i,.own n)::hs))) s/\RV (Dj C n pl) (.own n) y:=by
  intro pl L hy b6;have O:=Wz A pl;have F:Dj C n pl n=some pl:=nQ2 rfl;have f:∀a,a≠n->Dj C n pl a=C a:=fun a p=>nS2 p
  have M:∀o,(Dj C n pl).w o≠none->C.w o≠none:=fun o g=>by
   cases pl with
   |nil=>exact g
   |atp id' v e l=>
    have g:(if o=id' then none else C.w o)≠none:=g;split at g;exact absurd rfl g;exact g
  have a0:∀o sl,C.w o=some sl->sl≠(id,i,j)->(Dj C n pl).w o=some sl:=fun o sl g hn=>by
   cases pl with
   |nil=>exact g
   |atp id' v e l=>
    show(if o=id' then none else C.w o)=_
    split;rename_i u;subst u;rw[(L o v e l rfl).1]at g;cases g;exact absurd rfl hn;exact g
  have hW:∀o sl,C.w o=some sl->¬(sl.1=id)->(Dj C n pl).w o=some sl/\Sim.look s.h o=Sim.look s.h o:=fun o sl g hn=>⟨a0 o sl g fun h=>hn (by rw[h]),rfl⟩
  have hB:∀b,b=id->C.w b=none:=fun b hb=>by rw[hb];exact G
  have D:∀a,aK ((n,xC (.nd ty' e' m) rows')::bR h k (.tr (.nd ty e2 ks) rows ((j,i,.own n)::hs))) a=if a=n then some (xC (.nd ty' e' m) rows')else if a=k then some (.tr (.nd ty e2 ks) rows ((j,i,.own n)::hs))else aK h a:=fun a=>by
   simp only[aK];by_cases u:n=a;subst u;simp;rw[nS2 u,nS2 (Ne.symm u),cN];simp[hg]
  have E:∀a,aK ((n,xC (.nd ty' e' m) rows')::bR h k (.tr (.nd ty e2 ks) rows ((j,i,.own n)::hs))) a≠none->a≠n->aK h a≠none:=fun a p hn=>by
   rw[D,nS2 hn]at p;split at p;rename_i u;subst u;rw[hg];simp;exact p
  have named:∀a id' v e l v' e0 l',pl=.atp id' v e l->aK h a≠none->C a≠some (.atp id' v' e0 l'):=fun a id' v e l v' e0 l' hp p hc=>by
   have:=A.hr.wn a id' _ _ _ p hc;rw[(L id' v e l hp).1]at this;cases this
  refine⟨pl,⟨⟨fun a o p=>?_,fun a a' x v1 u l1 v2 e2 l2 h1 h2 h3 h4=>?_,fun x o hz=>?_,fun a x v1 u l1 h1 h2=>?_,fun x sl hw=>?_,fun x o hz=>?_⟩,fun a q p=>?_,A.wf,A.lim⟩,⟨.refl _ _,nM2 _,fun _ _ _=>rfl,fun x t g=>?_,fun a o p=>?_,fun _ _ h=>h,fun _ _ h=>.inl h⟩,hy⟩;rw[D]at p;split at p;rename_i u;subst u;cases p;exact⟨pl,F,b6⟩;rename_i u;split at p;rename_i e3;subst e3;cases p;refine⟨_,(f a u).trans R,X,V,rfl,hlen,b0,els,d+1,hL,b5,fun i2 r r' c1 c2=>⟨(hr i2 r r' c1 c2).1,fun j2 x b c3 c4=>?_⟩⟩;have:=(hr i2 r r' c1 c2).2 j2 x b c3 c4;unfold TC at this ⊢;cases hkd:eH ks j2 with
  |none=>rw[hkd]at this;exact this
  |some t2=>
   rw[hkd]at this;simp only at this ⊢;by_cases K:i2=i/\j2=j;obtain⟨rfl,rfl⟩:=K;refine .inl ⟨⟨_,List.mem_cons_self ..⟩,fun x t=>?_⟩;rcases nW2.1 t with t|t;cases t;rw[U]at c2;cases c2;rw[W]at c4;cases c4;exact hy;exact absurd ⟨x,t⟩ Z;rcases this with⟨⟨x,a1⟩,a2⟩|⟨a1,a2⟩
   refine .inl ⟨⟨x,oR2 _ a1⟩,fun x t=>?_⟩;rcases nW2.1 t with t|t;cases t;exact absurd ⟨rfl,rfl⟩ K;exact(a2 x t).mono O;refine .inr ⟨fun⟨x,t⟩=>?_,dQ.move (nM2 _) hB hW (fun o g=>⟨a0 o _ g fun h=>?_,rfl⟩) a2⟩;rcases nW2.1 t with t|t;cases t;exact K ⟨rfl,rfl⟩;exact a1 ⟨x,t⟩;cases h;exact K ⟨rfl,rfl⟩
  rename_i e3;obtain⟨q,p1,p2⟩:=A.hr.ob a o p;refine⟨q,(f a u).trans p1,dU.monoB (C:=C) (C':=Dj C n pl) (nM2 _) O (B:=fun b=>b=id) hB hW (fun id' v e l hp hb=>?_) (fun _ _ _ _ _=>rfl) p2⟩;subst hp;subst hb;exact e3 (A.hr.inj a k id' _ _ _ _ _ _ (by rw[p];simp) (by rw[hg];simp) p1 R);by_cases b1:a=n;by_cases b2:a'=n;rw[b1,b2];exfalso;subst b1;rw[F]at h3;exact named a' x _ _ _ _ _ _ (pN2 h3) (E a' h2 b2) ((f a' b2).symm.trans h4);by_cases b2:a'=n;exfalso;subst b2;rw[F]at h4;exact named a x _ _ _ _ _ _ (pN2 h4) (E a h1 b1) ((f a b1).symm.trans h3);exact A.hr.inj a a' x _ _ _ _ _ _ (E a h1 b1) (E a' h2 b2) ((f a b1).symm.trans h3) ((f a' b2).symm.trans h4);obtain⟨z1,z2,z3,z4⟩:=A.hr.zr x o hz;refine⟨z1,z2,fun a v e l h1 h2=>?_,z4⟩;by_cases b1:a=n;subst b1;rw[F]at h2;have h2:=pN2 h2;have:=A.hr.wz x o hz;rw[(L x _ _ _ h2).1]at this;cases this;exact z3 a v e l (E a h1 b1) ((f a b1).symm.trans h2);by_cases b1:a=n;subst b1;rw[F]at h2;have h2:=pN2 h2;subst h2;exact nQ2 rfl;have:=A.hr.wn a x v1 u l1 (E a h1 b1) ((f a b1).symm.trans h2);cases hc:(Dj C n pl).w x with
  |none=>rfl
  |some sl=>exact absurd this (M x (by rw[hc];simp))
  cases hc:C.w x with
  |none=>exact absurd hc (M x (by rw[hw];simp))
  |some sl'=>
   have hb:=A.hr.wb x sl' hc
   have:sl=sl':=by
    cases pl with
    |nil=>have hw:C.w x=some sl:=hw;rw[hc]at hw;cases hw;rfl
    |atp id' v e l=>
     have hw:(if x=id' then none else C.w x)=some sl:=hw;split at hw;cases hw;rw[hc]at hw;cases hw;rfl
   rw[this];exact hb
  have:=A.hr.wz x o hz;cases hc:(Dj C n pl).w x with
  |none=>rfl
  |some sl=>exact absurd this (M x (by rw[hc];simp))
  by_cases b1:a=n;omega;have:=A.dom a q ((f a b1).symm.trans p);omega;rcases g with⟨a,v1,u,l1,k1,J⟩|g;by_cases b1:a=n;subst b1;rw[F]at J;have J:=pN2 J;exact .inr (by rw[(L x _ _ _ J).1];simp);exact .inl ⟨a,v1,u,l1,E a k1 b1,(f a b1).symm.trans J⟩;exact .inr (M x g);have T:a≠n:=fun u=>by rw[u,qJ A (nM2 _)]at p;cases p
  rw[D,nS2 T];by_cases b1:a=k;subst b1;exact⟨_,nQ2 rfl,fun hb=>by cases hb⟩;exact⟨o,by rw[nS2 b1];exact p,fun hb=>⟨hb,f a T⟩⟩
 have Y:∀{P:dO->Prop},(m=[]->P (.lst ty' e' true rows'))->P (.tr (.nd ty' e' m) rows' [])->P (xC (.nd ty' e' m) rows'):=fun{P} h1 h2=>by
  unfold xC;cases m with
  |nil=>exact h1 rfl
  |cons a b=>exact h2
 rcases c with⟨b8,rfl⟩|⟨id',ver',els',rfl,J,k3,k4,kf,k5,k6,k7⟩
 subst b8;exact N .nil (fun _ _ _ _ h=>by cases h) (.ownn (nQ2 rfl) rfl) (Y (P:=fun o=>dU (Dj C n .nil) (Sim.look s.h) lim s.n o .nil) (fun _=>rfl) ⟨rfl,rfl⟩);refine N (.atp id' ver' e' rows'.length) (fun d3 v e l h=>by cases h;exact⟨J,k4,k3⟩) (.own (nQ2 rfl)) (Y (P:=fun o=>dU (Dj C n (.atp id' ver' e' rows'.length)) (Sim.look s.h) lim s.n o (.atp id' ver' e' rows'.length)) (fun b4=>?_) ?_);subst b4;refine⟨k3,k4,rfl,rfl,els',by rw[An kf];exact k5,⟨by simp[pR2 k6.1],fun a r r' c1 c2=>⟨(k7 a r r' c1 (nB c2)).1,fun b x z c3 c4=>(k7 a r r' c1 (nB c2)).2 b x z c3 c4⟩⟩,k6,fun h=>by cases h⟩;refine⟨k3,k4,rfl,rfl,kf,els',d,k5,k6,fun a r r' c1 c2=>⟨(k7 a r r' c1 c2).1,fun b x z c3 c4=>?_⟩⟩;have:=(k7 a r r' c1 c2).2 b x z c3 c4;unfold TC;cases hkd:eH m b with
 |none=>rw[hkd]at this;exact this
 |some t2=>
  rw[hkd]at this;refine .inr ⟨fun⟨x,t⟩=>(by cases t),dQ.mono (nM2 _) (B:=fun b=>b=id) (fun b hb=>by rw[hb];exact G) (fun o sl g hn=>⟨?_,rfl⟩) (fun hb=>?_) this⟩;show(if o=id' then none else C.w o)=_
  rw[nS2 (fun hc=>by rw[hc,J]at g;cases g;exact hn rfl)];exact g;have hb:id'=id:=hb;rw[hb,G]at J;cases J
theorem tT {k id ver ty e2 len i o:Nat} {ks:aA (Nat×TD)} {rows:aA (aA PV)} {row:aA PV} {els:aA (aA AV)} {c cells:aA AV} {cs0:aA PV} (D:Sim.look s.h id=some (.arr false ty e2 ver els)) (hi:rows[i]? =some row) (l:els[i]? =some c)
  (h0:∀q a,cs0[q]? =some a->row[o+q]? =some a) (hc:∀q b,cells[q]? =some b->c[o+q]? =some b):
  ∀(js:aA Nat) (cs:aA PV) (hs:aA (Nat×Nat×PV)) (h:aN) (n:Nat) (C:Cx) (K:aA PV->aA (Nat×Nat×PV)->aN->Nat->aB R) (r:R),Ic ks i o cs0 js cs hs h n K=some r->
   bY C n (bR h k (.tr (.nd ty e2 ks) rows hs)) lim s->(aK h k).isSome=true->C k=some (.atp id ver e2 len)->LR (RV C) cs cells->
   ∃cs' e h' n' C',K cs' e h' n'=some r/\bY C' n' (bR h' k (.tr (.nd ty e2 ks) rows e)) lim s/\Fr C (bR h k (.tr (.nd ty e2 ks) rows hs)) s C' (bR h' k (.tr (.nd ty e2 ks) rows e)) s/\C.le C'/\n<=n'/\LR (RV C') cs' cells
 |[],cs,hs,h,n,C,K,r,hk,hM,hg,hC,hl=>⟨cs,hs,h,n,C,hk,hM,.refl _ _ _,.refl _,nM2 _,hl⟩
 |j::js,cs,hs,h,n,C,K,r,hk,hM,hg,hC,hl=>by
  unfold Ic at hk
  cases hkd:eH ks j with
  |none=>rw[hkd]at hk;exact aD hk
  |some t=>
   rw[hkd]at hk
   simp only at hk
   cases m:Nat.ble o j with
   |false=>rw[m]at hk;exact aD hk
   |true=>
    rw[m,nX2]at hk
    have m:=oO2 m
    have w:aK (bR h k (.tr (.nd ty e2 ks) rows hs)) k=some (.tr (.nd ty e2 ks) rows hs):=by rw[cN];simp[hg]
    obtain⟨_,_,_,_,_,N,d,v,g,hr⟩:=jO hM w hC
    rw[D]at v
    cases v
    obtain⟨q1,q2⟩:=hr i row c hi l
    have put:∀{C':Cx} {x:PV} {cs2:aA PV},C.le C'->(∀b,cells[j-o]? =some b->RV C' x b)->cs2=Sim.setL cs (j-o) [x]->LR (RV C') cs2 cells:=fun{C' x cs2} g J he=>by
     rw[he]
     refine⟨by rw[jP];exact hl.1,fun a x1 b c1 c2=>?_⟩
     by_cases B:a=j-o
     subst B
     have P:j-o<cs.length:=by rw[hl.1];exact(nK2.1 c2).1
     rw[nZ (by simp;omega) (nM2 _) (by simp)]at c1
     simp at c1
     rw[<-c1]
     exact J b c2
     rw[iC (by simp;omega)]at c1
     exact(hl.2 a x1 b c1 c2).mono g
    cases hcol:zQ hs j with
    |some p=>
     obtain⟨V,x⟩:=p
     rw[hcol]at hk
     simp only at hk
     obtain⟨B,H⟩:=zX hk
     subst B
     obtain⟨S,A⟩:=gR _ _ _ _ _ H
     have O:=(qL hcol).1
     obtain⟨cs',e,h',n',C',p1,p2,p3,p4,p5,p6⟩:=tT D hi l h0 hc js _ hs h n C K r A hM hg hC (put (.refl C) (fun b hb=>by
      have f:=hc _ _ hb
      rw[show o+(j-o)=j by omega]at f
      have G:=(nK2.1 f).1
      have:=q2 j (row[j]'(by omega)) b (by simp) f
      unfold TC at this
      rw[hkd]at this
      rcases this with⟨_,a2⟩|⟨a1,_⟩
      exact a2 x O
      exact absurd ⟨x,O⟩ a1) rfl)
     exact⟨cs',e,h',n',C',p1,p2,p3,p4,p5,p6⟩
    |none=>
     rw[hcol]at hk
     simp only at hk
     obtain⟨S,A⟩:=cZ _ _ _ _ hk
     split at A
     rename_i e' rows' tl F
     obtain⟨W,T⟩:=gR _ _ _ _ _ A
     have E:cs0[j-o]? =some (.is e' rows'):=by
      have:(cs0.drop (j-o))[0]? =some (.is e' rows'):=by rw[F];rfl
      simpa using this
     have u:=h0 _ _ E;rw[show o+(j-o)=j by omega]at u;have G:=(nK2.1 u).1;have z:c[j]? =some (c[j]'(by omega)):=by simp
     obtain⟨pl,L,M,U⟩:=cE1 hM w hC D hi l hkd u z (fun⟨x,J⟩=>qK hcol i x J);rw[Di]at L M;have y:n≠k:=fun B=>by have:=hM.dom k _ hC;omega
     rw[<-Rx (o:=xC t rows') y]at L M;have g:=Wz hM pl
     obtain⟨cs',e,h',n',C',p1,p2,p3,p4,p5,p6⟩:=tT D hi l h0 hc js _ _ _ (n+1) (Dj C n pl) K r T L (by simp only[aK];rw[nS2 y];exact hg) (g.1 _ _ hC) (put g (fun b hb=>by
      have f:=hc _ _ hb;rw[show o+(j-o)=j by omega,z]at f;cases f;exact U) rfl)
     exact⟨cs',e,h',n',C',p1,p2,M.trans p3,g.trans p4,by omega,p6⟩;exact aD A
theorem Dk:∀{hs:aA (Nat×Nat×PV)} {d j i:Nat},rP hs d=some (j,i)->(j,i,.own d)∈hs/\(∀q,q∈qW hs d->q∈hs)/\∀b c y,¬(b=i/\c=j)->(c,b,y)∈hs->(c,b,y)∈qW hs d
 |[],_,_,_,h=>by cases h
 |(j1,i1,x)::r,d,j,i,h=>by
  have skip:∀{l:aA (Nat×Nat×PV)},rP r d=some (j,i)->l=(j1,i1,x)::qW r d->(j,i,PV.own d)∈(j1,i1,x)::r/\(∀q,q∈l->q∈(j1,i1,x)::r)/\∀b c y,¬(b=i/\c=j)->(c,b,y)∈(j1,i1,x)::r->(c,b,y)∈l:=fun{l} h h2=>by
   obtain⟨p1,p2,p3⟩:=Dk h
   subst h2
   refine⟨oR2 _ p1,fun q f=>?_,fun b c y hn a=>?_⟩
   rcases nW2.1 f with f|f
   rw[f];exact List.mem_cons_self ..
   exact oR2 _ (p2 q f)
   rcases nW2.1 a with a|a
   rw[a];exact List.mem_cons_self ..
   exact oR2 _ (p3 b c y hn a)
  cases x with
  |own k=>
   by_cases e:k=d
   subst e
   simp only[rP,aZ,pJ2,nX2]at h
   cases h
   simp only[qW,aZ,pJ2,nX2]
   refine⟨List.mem_cons_self ..,fun q f=>oR2 _ f,fun b c y hn a=>?_⟩
   rcases nW2.1 a with a|a
   cases a;exact absurd ⟨rfl,rfl⟩ hn
   exact a
   simp only[rP,aZ,oC2 e,oI2]at h
   exact skip h (by simp only[qW,aZ,oC2 e,oI2])
  |_=>exact skip h rfl
def clC (C:Cx) (a:Nat) (sl:Nat×Nat×Nat) (id:Nat):Cx:=⟨fun k=>if k=a then some .nil else C k,C.z,fun o=>if o=id then some sl else C.w o⟩
theorem Ry {a:TD} {ob:dO} {K:Nat->aA (aA PV)->aB R} {r:R} (h:kB1 a ob K=some r):∃ty e ks rows,a=.nd ty e ks/\K e rows=some r/\((∃g,ob=.lst ty e g rows/\eO ty=false/\ks=[])\/ob=.tr a rows []):=by
 unfold kB1 at h;split at h;rename_i ty e g rows;cases hf:eO ty with
 |true=>rw[hf]at h;exact aD h
 |false=>
  rw[hf,oI2]at h;cases ht:Ei 2 (.nd ty e []) a with
  |false=>rw[ht]at h;exact aD h
  |true=>
   rw[ht,nX2]at h;have:=xR ht;subst this;exact⟨ty,e,[],rows,rfl,h,.inl ⟨g,rfl,hf,rfl⟩⟩
 rename_i b rows;cases ht:Ei 8 b a with
 |false=>rw[ht]at h;exact aD h
 |true=>
  rw[ht,nX2]at h;have:=xR ht;subst this;obtain⟨ty,e,ks⟩:=b;exact⟨ty,e,ks,rows,rfl,h,.inr rfl⟩
 exact aD h
theorem Xa (A:bY C n h lim s) {kp c id ver e2 len ty i j:Nat} {ks:aA (Nat×TD)} {rows L:aA (aA PV)} {hs u:aA (Nat×Nat×PV)} {t':TD} {e':Nat} {rows':aA (aA PV)} {ob:dO} {h2:aN}
  (hg:aK h kp=some (.tr (.nd ty e2 ks) rows hs)) (hC:C kp=some (.atp id ver e2 len)) (d9:rP hs c=some (j,i)) (hkd:eH ks j=some t')
  (k:aK h c=some ob) (e8:∃ty' P,t'=.nd ty' e' P/\((∃g,ob=.lst ty' e' g rows'/\eO ty'=false/\P=[])\/ob=.tr t' rows' [])) (E:lO rows i j [.is e' rows']=some L) (hkl:qZ c h h2)
  (a0:∀i j,(xD (qW hs c) i j->xD u i j)/\∀x',(j,i,x')∈u->∃x,(j,i,x)∈qW hs c/\∀{C C':Cx} {y:AV},iQ c C C'->RV C x y->RV C' x' y):
  ∃C',iQ c C C'/\bY C' n (bR (bR h2 c (.lst 0 0 true [])) kp (.tr (.nd ty e2 ks) L u)) lim s/\Fr C h s C' (bR (bR h2 c (.lst 0 0 true [])) kp (.tr (.nd ty e2 ks) L u)) s:=by
 obtain⟨e7,b5,_,hlen,f4,els,d,hL,e6,hr⟩:=jO A hg hC;obtain⟨ty',P,rfl,d2⟩:=e8
 have d3:kp≠c:=fun p=>by
  subst p;rw[hg]at k;cases k;rcases d2 with⟨g,h1,_⟩|h1;cases h1;cases h1;cases d9
 obtain⟨hm,b8,f2⟩:=Dk d9;unfold lO at E;split at E;rename_i row hi;split at E;rename_i f5;cases E;simp only[oS2,nZ2]at f5;obtain⟨F,e0⟩:=vL e6 hi;obtain⟨q1,q2⟩:=hr i row F hi e0;have e9:F[j]? =some (F[j]'(by omega)):=by simp
 have b6:∀x,(j,i,x)∈hs->RV C x (F[j]'(by omega)):=fun x hx=>by
  have:=q2 j (row[j]'(by omega)) _ (by simp) e9;unfold TC at this;rw[hkd]at this;rcases this with⟨_,a2⟩|⟨a1,_⟩
  exact a2 _ hx;exact absurd ⟨_,hx⟩ a1
 have hy:=b6 _ hm;have g5:=A.hr.wn kp id _ _ _ (by rw[hg];simp) hC
 have d7:(aK h2 c).isSome=true:=by
  cases hc:aK h2 c with
  |none=>rw[(hkl.1 c).1 hc]at k;cases k
  |some o=>rfl
 have d8:(aK h2 kp).isSome=true:=by
  cases hc:aK h2 kp with
  |none=>rw[(hkl.1 kp).1 hc]at hg;cases hg
  |some o=>rfl
 have K:∀a,aK (bR (bR h2 c (.lst 0 0 true [])) kp (.tr (.nd ty e2 ks) (rows.set i (Sim.setL row j [.is e' rows'])) u)) a=if a=kp then some (.tr (.nd ty e2 ks) (rows.set i (Sim.setL row j [.is e' rows'])) u)else if a=c then some (.lst 0 0 true [])else aK h2 a:=fun a=>by
  rw[cN,cN,cN];by_cases p:a=kp;subst p;simp[d3,d8];by_cases e3:a=c;subst e3;simp[Ne.symm d3,d7];simp[p,e3]
 have N:∀a,aK (bR (bR h2 c (.lst 0 0 true [])) kp (.tr (.nd ty e2 ks) (rows.set i (Sim.setL row j [.is e' rows'])) u)) a≠none->aK h a≠none:=fun a m=>by
  rw[K]at m;split at m;rename_i p;subst p;rw[hg];simp;split at m;rename_i p;subst p;rw[k];simp;exact fun hc=>m ((hkl.1 a).2 hc)
 have R:∀(C':Cx) (D:Nat),C' c=some .nil->(∀a,a≠c->C' a=C a)->C'.z=C.z->(∀o sl,C.w o=some sl->C'.w o=some sl)->(∀o sl,C'.w o=some sl->C.w o=some sl\/(sl=(id,i,j)/\∃v e l,C c=some (.atp o v e l)))->
   dQ (Sim.look s.h) C'.w lim s.n D (id,i,j) (.nd ty' e' P) (.is e' rows') (F[j]'(by omega))->
   ∃C',iQ c C C'/\bY C' n (bR (bR h2 c (.lst 0 0 true [])) kp (.tr (.nd ty e2 ks) (rows.set i (Sim.setL row j [.is e' rows'])) u)) lim s/\Fr C h s C' (bR (bR h2 c (.lst 0 0 true [])) kp (.tr (.nd ty e2 ks) (rows.set i (Sim.setL row j [.is e' rows'])) u)) s:=by
  intro C' D d5 q hz V b4 b7;have G:iQ c C C':=⟨q,fun _ _ h=>by rw[hz];exact h⟩
  have T:∀{a x v e l},C' a=some (.atp x v e l)->a≠c/\C a=some (.atp x v e l):=fun{a x v e l} m=>by
   by_cases b:a=c;subst b;rw[d5]at m;cases m;exact⟨b,(q a b).symm.trans m⟩
  have d4:∀{o pl},dU ⟨C'.f,C'.z,C.w⟩ (Sim.look s.h) lim s.n o pl->dU C' (Sim.look s.h) lim s.n o pl:=fun{o pl} U=>
   dU.mono (C:=⟨C'.f,C'.z,C.w⟩) (C':=C') (nM2 _) ⟨fun _ _ h=>h,fun _ _ h=>h⟩ (fun _ _ _ _ _=>rfl) (fun o sl h=>⟨V o sl h,rfl⟩) U
  refine⟨C',G,⟨⟨fun a o m=>?_,fun a a' x v1 p l1 v2 e3 l2 a1 a2 a3 a4=>A.hr.inj a a' x v1 p l1 v2 e3 l2 (N a a1) (N a' a2) (T a3).2 (T a4).2,fun x o O=>?_,fun a x v1 p l1 a1 a2=>?_,fun x sl hw=>?_,fun x o O=>?_⟩,fun a pl m=>?_,A.wf,A.lim⟩,⟨.refl _ _,nM2 _,fun _ _ _=>rfl,fun x hx U=>?_,fun a o m=>?_,fun _ _ h=>by rw[hz];exact h,fun x hx h=>.inl (by rw[hz]at h;exact h)⟩⟩;rw[K]at m;split at m;rename_i p;subst p;cases m;refine⟨_,(q a d3).trans hC,e7,b5,rfl,by simpa using hlen,f4,els,max d D,hL,by simpa using e6,fun Z r r' c1 c2=>?_⟩
  have old:∀{r0},rows[Z]? =some r0->∀(b:Nat) (x:PV) (z:AV),r0[b]? =some x->r'[b]? =some z->¬(Z=i/\b=j)->TC C' (Sim.look s.h) lim s.n (max d D) id ks u Z b x z:=fun{r0} g1 b x z g2 g3 g4=>by
   have:=((hr Z r0 r' g1 c2).2 b x z g2 g3).upd (Nat.le_max_left d D);unfold TC at this ⊢;cases hkd2:eH ks b with
   |none=>rw[hkd2]at this;exact this
   |some t2=>
    rw[hkd2]at this;simp only at this ⊢;rcases this with⟨⟨y,a1⟩,a2⟩|⟨a1,a2⟩
    refine .inl ⟨(a0 Z b).1 ⟨y,f2 Z b y g4 a1⟩,fun y' X=>?_⟩;obtain⟨y,p1,p2⟩:=(a0 Z b).2 y' X;exact p2 G (a2 y (b8 _ p1));refine .inr ⟨fun⟨y',X⟩=>?_,dQ.mono (nM2 _) (B:=fun _=>False) (fun _ h=>h.elim) (fun o sl h _=>⟨V o sl h,rfl⟩) (fun h=>h) a2⟩;obtain⟨y,p1,_⟩:=(a0 Z b).2 y' X;exact a1 ⟨y,b8 _ p1⟩
  rw[oG2]at c1;by_cases b9:i=Z;subst b9;have e5:=(nK2.1 hi).1;rw[nQ2 rfl,nQ2 e5]at c1;cases c1;rw[e0]at c2;cases c2;refine⟨by rw[jP];exact q1,fun b x z c3 c4=>?_⟩;by_cases d6:b=j;subst d6;rw[nZ (by simp;omega) (nM2 _) (by simp)]at c3;simp at c3;subst c3;rw[e9]at c4;cases c4;unfold TC;rw[hkd];simp only;by_cases hh:xD u i b;refine .inl ⟨hh,fun y' X=>?_⟩;obtain⟨y,p1,p2⟩:=(a0 i b).2 y' X;exact p2 G (b6 y (b8 _ p1));exact .inr ⟨hh,b7.up (Nat.le_max_right d D)⟩;rw[iC (by simp;omega)]at c3;exact old hi b x z c3 c4 (fun h=>d6 h.2);rw[nS2 b9]at c1;exact⟨(hr Z r r' c1 c2).1,fun b x z c3 c4=>old c1 b x z c3 c4 (fun h=>b9 h.1.symm)⟩;rename_i g6;split at m;rename_i p;subst p;cases m;exact⟨.nil,d5,rfl⟩;rename_i f1;obtain⟨o0,p1,p2,p3⟩:=hkl.2 a o m;obtain⟨pl,p4,p5⟩:=A.hr.ob a o0 p1;exact⟨pl,(q a f1).trans p4,d4 (p3 (C:=C) (C':=⟨C'.f,C'.z,C.w⟩) ⟨q,G.2⟩ rfl p5)⟩;rw[hz]at O;obtain⟨z1,z2,z3,z4⟩:=A.hr.zr x o O;exact⟨z1,z2,fun a v e l h1 h2=>z3 a v e l (N a h1) (T h2).2,z4⟩;obtain⟨b1,b2⟩:=T a2;cases hc:C'.w x with
  |none=>rfl
  |some sl=>
   rcases b4 x sl hc with H|⟨_,v,e,l,H⟩
   rw[A.hr.wn a x _ _ _ (N a a1) b2]at H;cases H;exact absurd (A.hr.inj a c x _ _ _ _ _ _ (N a a1) (by rw[k];simp) b2 H) b1
  rcases b4 x sl hw with H|⟨h6,v,e,l,H⟩
  exact A.hr.wb x sl H;exact⟨(A.hr.lt (by rw[k];simp) H).2,by rw[h6];exact b5⟩;rw[hz]at O;cases hc:C'.w x with
  |none=>rfl
  |some sl=>
   rcases b4 x sl hc with H|⟨_,v,e,l,H⟩
   rw[A.hr.wz x o O]at H;cases H;exact absurd H ((A.hr.zr x o O).2.2.1 c v e l (by rw[k];simp))
  by_cases b:a=c;subst b;obtain⟨f9,p1,_⟩:=A.hr.ob a _ k;exact A.dom a f9 p1;exact A.dom a pl ((q a b).symm.trans m);rcases U with⟨a,v1,p,l1,k1,k2⟩|U;exact .inl ⟨a,v1,p,l1,N a k1,(T k2).2⟩;cases hc:C'.w x with
  |none=>exact absurd hc U
  |some sl=>
   rcases b4 x sl hc with H|⟨_,v,e,l,H⟩
   exact .inr (by rw[H];simp);exact .inl ⟨c,v,e,l,by rw[k];simp,H⟩
  rw[K];by_cases b1:a=kp;subst b1;exact⟨_,nQ2 rfl,fun hb=>by cases hb⟩;rw[nS2 b1];by_cases b2:a=c;subst b2;exact⟨_,nQ2 rfl,fun hb=>by cases hb⟩;rw[nS2 b2];cases hc:aK h2 a with
  |none=>rw[(hkl.1 a).1 hc]at m;cases m
  |some o'=>
   obtain⟨o0,p1,p2,_⟩:=hkl.2 a o' hc;rw[m]at p1;cases p1;exact⟨o',rfl,fun hb=>⟨by rw[<-p2];exact hb,q a b2⟩⟩
 generalize hyd:F[j]'(by omega)=y at hy R;rcases eP hy with⟨id',Y,e3,f0,J,rfl⟩|⟨J,rfl⟩
 have f8:=A.hr.wn c id' _ _ _ (by rw[k];simp) J
 have V:∀o sl,C.w o=some sl->(clC C c (id,i,j) id').w o=some sl:=fun o sl U=>by
  show(if o=id' then some (id,i,j)else C.w o)=_
  rw[nS2 (fun p=>by rw[p,f8]at U;cases U)];exact U
 have d0:∀{d sl t x y},dQ (Sim.look s.h) C.w lim s.n d sl t x y->dQ (Sim.look s.h) (clC C c (id,i,j) id').w lim s.n d sl t x y:=fun h=>dQ.mono (nM2 _) (B:=fun _=>False) (fun _ h=>h.elim) (fun o sl h _=>⟨V o sl h,rfl⟩) (fun h=>h) h;have W:(clC C c (id,i,j) id').w id'=some (id,i,j):=nQ2 rfl
 have fin:∀D,dQ (Sim.look s.h) (clC C c (id,i,j) id').w lim s.n D (id,i,j) (.nd ty' e' P) (.is e' rows') (.sl e3 id' Y 0 f0 none)->_:=fun D h=>R (clC C c (id,i,j) id') D (nQ2 rfl) (fun a m=>nS2 m) rfl V (fun o sl U=>by
  have b0:(if o=id' then some (id,i,j)else C.w o)=some sl:=U;by_cases p:o=id';rw[nQ2 p]at b0;subst p;exact .inr ⟨(pN2 b0).symm,_,_,_,J⟩;rw[nS2 p]at b0;exact .inl b0) h
 rcases d2 with⟨g,rfl,M,rfl⟩|rfl;obtain⟨l1,rfl,rfl,S,l4,l5,l6,_⟩:=iP A k J;rw[An M]at l4;have e4:=(A.hr.lt (by rw[k];simp) J).2
 exact fin 1 ⟨rows',rfl,.inr ⟨id',Y,S,rfl,W,l1,e4,M,l4,l6,fun a r r' c1 c2=>by
  have f6:=(nK2.1 c1).1;have:=l5.2 a r r' c1 (by rw[oD2,nQ2 f6];exact c2);exact⟨this.1,fun b x z c3 c4=>this.2 b x z c3 c4⟩⟩⟩
 obtain⟨l1,l2,rfl,rfl,M,S,d',l4,l6,l5⟩:=jO A k J
 exact fin (d'+1) ⟨rows',rfl,.inr ⟨id',Y,S,rfl,W,l1,l2,M,l4,l6,fun a r r' c1 c2=>⟨(l5 a r r' c1 c2).1,fun b x z c3 c4=>by
  have:=(l5 a r r' c1 c2).2 b x z c3 c4;unfold TC at this;cases hk2:eH P b with
  |none=>rw[hk2]at this;exact this
  |some t2=>
   rw[hk2]at this;rcases this with⟨⟨y,hy⟩,_⟩|⟨_,this⟩
   cases hy;exact d0 this⟩⟩⟩
 have f7:rows'=[]:=by
  rcases d2 with⟨g,rfl,_⟩|rfl;exact jN A k J;exact(pQ A k J).1
 exact R (mv C c .nil) 1 (mF C c _) (fun a m=>(dH C c _).1 a m) rfl (fun _ _ h=>h) (fun _ _ h=>.inl h) ⟨rows',rfl,.inl ⟨f7,rfl⟩⟩;cases E;cases E
theorem cF1 (b:bY C n h lim s) {e:dG} {t:aA AV} (he:cS C e t) {f:Nat} {K:dG->aN->aB R} {r:R} (hk:kF1 e h f K=some r):
  ∃C' e' h',K e' h'=some r/\bY C' n h' lim s/\cS C' e' t/\Fr C h s C' h' s:=by
 unfold kF1 at hk;cases hu:hS1 f e h with
 |true=>rw[hu]at hk;exact⟨C,e,h,hk,b,he,.refl _ _ _⟩
 |false=>
  rw[hu,oI2]at hk;cases hpn:bN1 f h with
  |none=>rw[hpn]at hk;exact⟨C,e,h,hk,b,he,.refl _ _ _⟩
  |some kp=>
   rw[hpn]at hk;simp only[eF,nI2]at hk;obtain⟨op,hg,hk⟩:=hk;cases op with
   |tr tt rows hs=>
    obtain⟨ty,e2,ks⟩:=tt;simp only[TD.ks]at hk;cases hho:rP hs f with
    |none=>rw[hho]at hk;exact aD hk
    |some p=>
    obtain⟨j,i⟩:=p;rw[hho]at hk;simp only at hk;cases hkd:eH ks j with
    |none=>rw[hkd]at hk;exact aD hk
    |some t'=>
     rw[hkd]at hk;simp only[nI2]at hk;obtain⟨ob,g,hk⟩:=hk;obtain⟨ty',e',o,rows',rfl,hk,m⟩:=Ry hk;rw[bJ,nI2]at hk;obtain⟨q,d,hk⟩:=hk;obtain⟨x,hk,k⟩:=gS _ _ _ hk;obtain⟨h2,hk,l⟩:=iJ _ _ _ hk;have hk:=cE _ _ _ _ _ hk;obtain⟨u,hk,_,c⟩:=rT _ _ _ hk;have hk:=cE _ _ _ _ _ hk;obtain⟨pl,p1,p2⟩:=b.hr.ob kp _ hg;cases pl with
     |nil=>
      have:=(pQ b hg p1).2;subst this;cases hho
     |atp id ver e3' len=>
      obtain⟨_,_,rfl,_⟩:=jO b hg p1;obtain⟨C',q1,q2,q3⟩:=Xa b hg p1 hho hkd g ⟨ty',o,rfl,m⟩ d l c;refine⟨C',_,_,hk,q2,fun a w hw=>?_,q3⟩;obtain⟨v,r1,r2⟩:=k a w hw;obtain⟨z,r3,r4⟩:=he a v r1;exact⟨z,r3,r2 q1 r4⟩
   |_=>exact aD hk
theorem Xb {t:aA AV}:∀(ks:aA Nat) {C:Cx} {h:aN} {e:dG} {K:dG->aN->aB R} {r:R},bY C n h lim s->cS C e t->gcK ks e h K=some r->
  ∃C' e' h',K e' h'=some r/\bY C' n h' lim s/\cS C' e' t/\Fr C h s C' h' s
 |[],C,h,e,K,r,hM,he,hk=>⟨C,e,h,by unfold gcK at hk;exact hk,hM,he,.refl _ _ _⟩
 |k::ks,C,h,e,K,r,hM,he,hk=>by
  unfold gcK at hk
  obtain⟨C1,a,h1,q1,q2,q3,q4⟩:=cF1 hM he hk
  obtain⟨C2,e2,h2,p1,p2,p3,p4⟩:=Xb ks q2 q3 q1
  exact⟨C2,e2,h2,p1,p2,p3,q4.trans p4⟩
theorem Mg {ys:aA AV} {f:aA (aA AV)} {e len ty:Nat} {zero:aA Value} (l:ys.length=len) (h:f.length=len) (hc:∀(j:Nat) (x:AV),ys[j]? =some x->∃cs,x.cells=some cs/\cs.length=e/\f[j]? =some cs) (o:zero.length=e) (L:Nat->aB AO) (lim nS:Nat):
  doOp L lim nS (.buildSl ty e len zero (List.range' 0 len)) ys=some {v:=.sl e nS 0 0 len none,new:=some (.arr false ty e 0 f)}:=by
 have o:(Sim.zeroRow zero).length=e:=by simp[Sim.zeroRow,o]
 have n:((List.range len).flatMap fun _=>Sim.zeroRow zero).length=len*e:=by
  rw[tO,o,List.length_range]
 have g:=qM e len 0 ((List.range len).flatMap fun _=>Sim.zeroRow zero) ys f (by rw[n];simp) l h hc;simp only[rK2,List.take_zero,rG2]at g
 have k:∀c∈f,c.length=e:=by
  intro c m;obtain⟨j,p⟩:=oF2.1 m;have q:j<ys.length:=by rw[l,<-h];exact(nK2.1 p).1
  obtain⟨cs,p1,p2,p3⟩:=hc j ys[j] (by simp);rw[p]at p3;cases p3;exact p2
 have d:=Ox e f k;rw[h]at d
 have:doOp L lim nS (.buildSl ty e len zero (List.range' 0 len)) ys=(Sim.fillParts ((List.range len).flatMap fun _=>Sim.zeroRow zero) ((List.range' 0 len).map fun i=>(i*e,e)) ys).map fun cs=>
  {v:=.sl e nS 0 0 len none,new:=some (.arr false ty e 0 ((List.range len).map fun i=>(cs.drop (i*e)).take e))}:=by
  rcases ys with _|⟨a,_|⟨b,_|⟨c,t⟩⟩⟩<;>rfl
 rw[this,g];simp only[oM2];rw[d]
theorem Ap {ks:aA (Nat×TD)} {es:Nat}:∀(xs:aA PV) (ys:aA AV) (i:Nat) (hs:aA (Nat×Nat×PV)) (K:aA (aA PV)->aA (Nat×Nat×PV)->aB R) (r:R),Cq ks es i xs hs K=some r->LR (RV C) xs ys->(∀j b x,i<=b->(j,b,x)∉hs)->
  ∃(rows:aA (aA PV)) (f:aA (Nat×Nat×PV)) (g:aA (aA AV)),K rows f=some r/\rows.length=xs.length/\g.length=ys.length/\(∀j b x,b<i->((j,b,x)∈f↔(j,b,x)∈hs))/\(∀j b x,i+xs.length<=b->(j,b,x)∉f)/\
   (∀(a:Nat) (y:AV),ys[a]? =some y->∃cs,y.cells=some cs/\cs.length=es/\g[a]? =some cs)/\
   ∀(a:Nat) (r:aA PV) (r':aA AV),rows[a]? =some r->g[a]? =some r'->r.length=r'.length/\∀(j:Nat) (p:PV) (q:AV),r[j]? =some p->r'[j]? =some q->Iq C ks f (i+a) j p q
 |[],ys,i,hs,K,r,h,hl,hn=>by
  rw[hl.inv_nil]
  unfold Cq at h
  exact⟨[],hs,[],h,rfl,rfl,fun _ _ _ _=>Iff.rfl,fun j b x hi=>hn j b x (by simpa using hi),fun a y h=>by simp at h,fun a r r' h=>by simp at h⟩
 |x::xs,ys,i,hs,K,r,h,hl,hn=>by
  obtain⟨y,B,rfl,hv,v⟩:=hl.inv_cons
  unfold Cq at h
  simp only[jD,nI2]at h
  obtain⟨cs,u,h⟩:=h
  obtain⟨cs',s,n⟩:=lR hv u
  rw[aZ]at h
  by_cases hlen:cs.length=es
  rw[oP2 hlen,nX2]at h
  obtain⟨l,o,h,p2,p3,p4⟩:=oA _ _ _ _ _ _ h n
  have d:∀j b z,(j,b,z)∈o->b=i:=fun j b z m=>by
   apply Decidable.byContradiction
   intro w
   have:=(p3 b j z (.inl w)).1 m
   cases this
  obtain⟨rows,f,g,q1,q2,q3,q4,q5,q6,q7⟩:=Ap xs B (i+1) (o++hs) _ r h v (fun j b z hi c=>by
   rcases pI2.1 c with c|c
   have:=d j b z c;omega
   exact hn j b z (by omega) c)
  refine⟨l::rows,f,cs'::g,q1,by simp[q2],by simp[q3],fun j b z hi=>?_,fun j b z hi=>q5 j b z (by simp only[oS2]at hi;omega),fun a z m=>?_,fun a G A h1 h2=>?_⟩
  rw[q4 j b z (by omega)]
  refine⟨fun c=>?_,fun c=>pI2.2 (.inr c)⟩
  rcases pI2.1 c with c|c
  have:=d j b z c;omega
  exact c
  cases a with
  |zero=>
   simp only[pH2,nP2]at m
   subst m
   exact⟨cs',s,by rw[<-n.1];exact hlen,rfl⟩
  |succ a=>exact q6 a z (by simpa using m)
  cases a with
  |zero=>
   simp only[pH2,nP2]at h1 h2
   subst h1 h2
   refine⟨by rw[p2];exact n.1,fun j p q D E=>?_⟩
   have:=p4 j p q D E
   rw[pE2]at this
   unfold Iq at this ⊢
   rw[pO2]
   have k:∀z,(j,i,z)∈f↔(j,i,z)∈o:=fun z=>by
    rw[q4 j i z (by omega)]
    refine⟨fun c=>?_,fun c=>pI2.2 (.inl c)⟩
    rcases pI2.1 c with c|c
    exact c
    exact absurd c (hn j i z (nM2 _))
   cases hkd:eH ks j with
   |none=>rw[hkd]at this;exact this
   |some t=>
    obtain⟨ty,e,F⟩:=t
    rw[hkd]at this
    simp only at this ⊢
    obtain⟨a1,a2⟩:=this
    refine⟨a1,?_⟩
    rcases a2 with⟨⟨z,b1⟩,b2⟩|⟨b1,b2⟩
    exact .inl ⟨⟨z,(k z).2 b1⟩,fun z m=>b2 z ((k z).1 m)⟩
    exact .inr ⟨fun⟨z,m⟩=>b1 ⟨z,(k z).1 m⟩,b2⟩
  |succ a=>
   rw[show i+(a+1)=i+1+a by omega]
   exact q7 a G A (by simpa using h1) (by simpa using h2)
  rw[oC2 hlen]at h;exact aD h
theorem cG1 {xs:aA PV} {ys:aA AV} {ty es len:Nat} {ks:aA (Nat×TD)} {zero:aA Value} {parts:aA Nat} {K:aA (aA PV)->aA (Nat×Nat×PV)->aB R} {r:R} (l:bY C n h lim s) (g:LR (RV C) xs ys) (d:(Ek 0 parts&&(Nat.beq zero.length es&&(!(eO ty)&&Nat.beq parts.length len)))=true)
  (hk:Cq ks es 0 xs [] (fun rows hs=>bif Nat.beq rows.length len then K rows hs else none)=some r):
  ∃rows hs C' out,K rows hs=some r/\doOp (Sim.look s.h) lim s.n (.buildSl ty es len zero parts) ys=some out/\RV C' (.own n) out.v/\bY C' (n+1) ((n,.tr (.nd ty es ks) rows hs)::h) lim (out.apply s)/\C.le C'/\Fr C h s C' ((n,.tr (.nd ty es ks) rows hs)::h) (out.apply s):=by
 simp only[nJ2,aZ,nR2,oB2]at d;obtain⟨c1,c2,k,c3⟩:=d;obtain⟨rows,hs,b,f,z,o,_,_,A,u⟩:=Ap xs ys 0 [] _ r hk g (fun _ _ _ _ h=>by cases h);rw[aZ]at f;by_cases c4:rows.length=len;rw[oP2 c4,nX2]at f;have hp:=vG 0 parts c1;rw[c3]at hp;subst hp;have a:ys.length=len:=by rw[<-g.1,<-z,c4]
 have m:=Mg (ty:=ty) (zero:=zero) a (o.trans a) A c2 (Sim.look s.h) lim s.n;have c:=jZ l (.atp s.n 0 es len)
 obtain⟨D,E,F⟩:=pO l (po:=.tr (.nd ty es ks) rows hs) (ao:=.arr false ty es 0 b) (ver:=0) (e:=es) (len:=len)
  ⟨l.lim,by omega,rfl,c4.symm,k,b,1,by rw[dY,nQ2 rfl],⟨by rw[o,a,c4];exact nM2 _,.exact (by rw[o,a,c4];exact nM2 _)⟩,fun i r r' h1 h2=>⟨(u i r r' h1 h2).1,fun j p q w y=>by
   have:=(u i r r' h1 h2).2 j p q w y;rw[pE2]at this;unfold Iq at this;unfold TC;cases hkd:eH ks j with
   |none=>rw[hkd]at this;exact this
   |some t=>
    obtain⟨ty',e',B⟩:=t;rw[hkd]at this;simp only at this ⊢;obtain⟨rfl,this⟩:=this;rcases this with⟨a1,a2⟩|⟨a1,a2⟩
    exact .inl ⟨a1,fun x g=>(a2 x g).mono c⟩;exact .inr ⟨a1,[],rfl,.inl ⟨rfl,a2⟩⟩⟩⟩
 exact⟨rows,hs,_,{v:=.sl es s.n 0 0 len none,new:=some (.arr false ty es 0 b)},f,m,.own (nY C n _),D,c,E⟩;rw[oC2 c4]at f;exact aD f
theorem nC:∀{h:aN} {k:Nat} {o:dO},aK h k=some o->bR h k o=h
 |[],_,_,h=>by simp[aK]at h
 |(j,v)::r,k,o,h=>by
  simp only[aK]at h
  simp only[bR]
  split at h
  rename_i e;cases h;rw[nQ2 e,e]
  rename_i e;rw[nS2 e,nC h]
def kY1 (C:Cx) (n:Nat) (h:aN) (lim:Nat) (s:Hp) (k:eE) (ys:aA AV) (K:PV->aN->Nat->aB R) (r:R):Prop:=
 ∃v h' n' C' a,K v h' n'=some r/\doOp (Sim.look s.h) lim s.n k ys=some {v:=a}/\RV C' v a/\bY C' n' h' lim s/\n<=n'/\C.le C'/\Fr C h s C' h' s
theorem Pn {k i o:Nat} {t:TD} {rows:aA (aA PV)} {hs:aA (Nat×Nat×PV)} {y:AV} {js:aA Nat} {K:PV->aN->Nat->aB R} {r:R} (J:bY C n h lim s) (hg:aK h k=some (.tr t rows hs)) (hy:RV C (.el k i o) y):
  ((bL (iO rows i o) fun c=>Ic t.ks i o [c] js [.undef] hs h n fun cs hs h n=>match cs with
   |[v]=>eK h k (.tr t rows hs) fun h=>K v h n
   |_=>none)=some r->kY1 C n h lim s .loadS [y] K r)/\
  ∀m,(bL (jJ rows i o m) fun cs0=>tE t.ks o cs0 fun cs=>Ic t.ks i o cs0 js cs hs h n fun cs hs h n=>eK h k (.tr t rows hs) fun h=>K (.agg cs) h n)=some r->kY1 C n h lim s (.loadA m) [y] K r:=by
 obtain⟨ty,e2,ks⟩:=t;obtain⟨id,ver,e,len,B,rfl⟩:=pP hy;have w:bY C n (bR h k (.tr (.nd ty e2 ks) rows hs)) lim s:=by rw[nC hg];exact J
 have O:=jO J hg B;obtain⟨_,_,rfl,_,_,els,d,A,x,hr⟩:=O;simp only[TD.ks];refine⟨fun hk=>?_,fun m hk=>?_⟩;rw[bJ,nI2]at hk;obtain⟨c,hc,hk⟩:=hk;simp only[iO,nI2]at hc;obtain⟨row,hi,p⟩:=hc;obtain⟨f,l⟩:=vL x hi;obtain⟨q1,q2⟩:=hr i row f hi l;have G:=(nK2.1 p).1;have z:f[o]? =some (f[o]'(by omega)):=by simp
 obtain⟨cs',H,h',n',C',p1,p2,p3,p4,p5,p6⟩:=tT (cells:=[f[o]'(by omega)]) A hi l (o:=o) (cs0:=[c]) (fun q a g=>by
  cases q with
  |zero=>simp at g;subst g;simpa using p
  |succ q=>simp at g) (fun q b g=>by
  cases q with
  |zero=>simp at g;subst g;simpa using z
  |succ q=>simp at g) js _ hs h n C _ r hk w (by rw[hg];rfl) B (.cons .undef .nil)
 rw[nC hg]at p3;split at p1;rename_i v;have p1:=cE _ _ _ _ _ p1;obtain⟨_,_,M,p7,_⟩:=p6.inv_cons;cases M;exact⟨v,_,n',C',_,p1,by simp[doOp,A,l,z],p7,p2,p5,p4,p3⟩;exact aD p1;rw[bJ,nI2]at hk;obtain⟨c,hc,hk⟩:=hk;simp only[jJ,nI2]at hc;obtain⟨row,hi,p⟩:=hc;split at p;rename_i G;cases p;obtain⟨f,l⟩:=vL x hi;obtain⟨q1,q2⟩:=hr i row f hi l;obtain⟨L,hk,E,F⟩:=rR _ _ _ _ hk
 obtain⟨cs',H,h',n',C',p1,p2,p3,p4,p5,p6⟩:=tT (cells:=(f.drop o).take m) A hi l (o:=o) (fun q a g=>by
  rw[oD2]at g;split at g
  rwa [oN2]at g
  cases g) (fun q b g=>by
  rw[oD2]at g;split at g
  rwa [oN2]at g
  cases g) js _ hs h n C _ r hk w (by rw[hg];rfl) B ⟨by simp at E ⊢;omega,fun j a b P hb=>by
  rcases F j a P with⟨S,u,N,rfl⟩|rfl;rw[oD2]at u hb;split at u;rename_i D;rw[nQ2 D,oN2]at hb;rw[oN2]at u;exact .cl ((TC.none N).1 (q2 (o+j) a b u hb)).weak;cases u;exact .undef⟩
 rw[nC hg]at p3;have p1:=cE _ _ _ _ _ p1;exact⟨_,_,n',C',.agg ((f.drop o).take m),p1,by simp[doOp,A,l];omega,.agg p6.1 p6.2,p2,p5,p4,p3⟩;cases p
theorem Mh {e:dG} {d:Nat} {j:aB Nat} {K:PV->aB R} {r:R} (h1:Vi e h d j K=some r):∃v,K v=some r:=by
 unfold Vi at h1;rw[fQ,nI2]at h1;obtain⟨v,_,h1⟩:=h1;cases j with
 |none=>exact⟨v,h1⟩
 |some j=>
  cases v with
  |agg cs=>
   obtain⟨_,h1⟩:=cZ _ _ _ _ h1;split at h1;exact⟨_,h1⟩;exact aD h1
  |ref k o=>
   simp only[eF,nI2]at h1;obtain⟨ob,_,h1⟩:=h1;split at h1;obtain⟨_,h1⟩:=cZ _ _ _ _ h1;split at h1;exact⟨_,h1⟩;exact aD h1;exact aD h1
  |_=>exact aD h1
theorem cH1 (l:bY C n h lim s) {k ty es:Nat} {g:Bool} {ks:aA (Nat×TD)} (hg:aK h k=some (.lst ty es g [])) (hf:eO ty=false):
  bY C n (bR h k (.tr (.nd ty es ks) [] [])) lim s/\Fr C h s C (bR h k (.tr (.nd ty es ks) [] [])) s:=kX1 l hg (fun pl _ m=>by
 cases pl with
 |nil=>exact⟨rfl,rfl⟩
 |atp id ver e len=>
  obtain⟨h1,h2,d,f,els,c,o,j,p⟩:=m
  rw[An hf]at c
  exact⟨h1,h2,d,f,hf,els,0,c,j,fun i r r' a b=>by simp at a⟩) (fun h=>by cases h)
theorem Mi {ks:aA Nat}:∀{e:dG} {K:dG->aB R} {r:R},Cp e ks K=some r->∃e',K e'=some r/\∀i v,dE e' i=some v->dE e i=some v:=by
 have key:∀{e:dG} {K:dG->aB R} {r:R},Cp e ks K=some r->∃e',K e'=some r/\∀i v,dE e' i=some v->dE e i=some v/\rM i ks=true:=by
  intro e
  induction e with
  |nil=>intro K r h;exact⟨[],h,fun i v h=>by simp[dE]at h⟩
  |cons p e ih=>
   intro K r h;obtain⟨j,w⟩:=p;unfold Cp at h;cases hm:rM j ks with
   |true=>
    rw[hm,nX2]at h;obtain⟨e',h1,h2⟩:=ih h;refine⟨_,h1,fun i v hv=>?_⟩;simp only[dE]at hv ⊢;split at hv;rename_i a;subst a;exact⟨by rw[nQ2 rfl];exact hv,hm⟩;rename_i a;rw[nS2 a];exact h2 i v hv
   |false=>
    rw[hm,oI2]at h;obtain⟨e',h1,h2⟩:=ih h;refine⟨e',h1,fun i v hv=>?_⟩;obtain⟨c,b⟩:=h2 i v hv;refine⟨?_,b⟩;simp only[dE];rw[nS2 (fun a=>by rw[a,b]at hm;cases hm)];exact c
 intro e K r h;obtain⟨e',h1,h2⟩:=key h;exact⟨e',h1,fun i v hv=>(h2 i v hv).1⟩
theorem cI1 (e:bY C n h lim s) {k ty es:Nat} {g:Bool} {rows b:aA (aA PV)} {lo:Int} {kd:IntKind} {zero:aA Value} {y:AV} (hg:aK h k=some (.lst ty es g rows)) (u:zero.length=es) (hy:RV C (.own k) y) (hk:tG rows lo (zero.map .v)=some b):
  ∃v out,doOp (Sim.look s.h) lim s.n (.slc es true false false) [y,.v (.int kd lo)]=some {v:=v}/\doOp (Sim.look s.h) lim s.n (.clear es zero) [v]=some out/\bY C n (bR h k (.lst ty es g b)) lim (out.apply s)/\Fr C h s C (bR h k (.lst ty es g b)) (out.apply s):=by
 unfold tG at hk;split at hk;rename_i hb;obtain⟨b1,b2⟩:=hb;obtain rfl:=pN2 hk;rcases eP hy with⟨id,ver,j,len,d,rfl⟩|⟨d,rfl⟩
 obtain⟨c,rfl,hl,els,l,hr,⟨o,p⟩,m⟩:=iP e hg d;subst hl;have hid:=(e.hr.lt (by rw[hg];simp) d).2;have a:(rows.take lo.toNat++List.replicate (rows.length-lo.toNat) (zero.map PV.v)).length=rows.length:=by simp;omega
 obtain⟨q,t⟩:=nX e (po':=.lst ty j g (rows.take lo.toNat++List.replicate (rows.length-lo.toNat) (zero.map .v))) (ao:=.arr false (Be ty) j ver (Sim.setL els (0+lo.toNat) (List.replicate (rows.length-lo.toNat) (Sim.zeroRow zero)))) hg d ⟨c,hid,rfl,a.symm,_,by rw[Sim.look_upd,nQ2 ⟨rfl,by rw[l];rfl⟩],⟨by simp[jP];omega,fun i r r' c1 c2=>by
   rw[a,oD2]at c2;split at c2;rename_i hi;rw[pF2]at c1;split at c1;rename_i h1;rw[iC (.inl (by simp at h1;omega))]at c2;rw[oD2]at c1;split at c1;exact hr.2 i r r' c1 (by rw[oD2,nQ2 hi];exact c2);cases c1;rename_i h1;simp at h1;rw[nZ (by simp;omega) (by omega) (by simp;omega)]at c2;rw[qD2]at c1 c2;split at c1;split at c2;cases c1;cases c2;exact .zeroP zero;cases c2;cases c1;cases c2⟩,⟨by rw[a,jP];exact o,fun i row hi f=>by
   rw[a]at hi;rw[iC (.inr (by simp;omega))]at f;exact p i row hi f⟩,fun h=>by rw[a,jP];exact m h⟩ rfl
 refine⟨.sl j id ver (0+lo.toNat) (rows.length-lo.toNat) none,{v:=.undef,up:=some (id,.arr false (Be ty) j ver (Sim.setL els (0+lo.toNat) (List.replicate (rows.length-lo.toNat) (Sim.zeroRow zero))))},?_,?_,q,t⟩;simp only[doOp,Sim.sliceOp,nV2,oQ2,Sim.bounds,Sim.intOf,oM2,l,Sim.roomOf];rw[nQ2 ⟨by trivial,by trivial,by omega,by omega,by omega,by omega⟩];simp;simp only[doOp,l];rw[nQ2 ⟨by trivial,by trivial,by omega,c⟩];have:=jN e hg d;subst this;have h0:lo=0:=by simp at b2;omega
 subst h0;refine⟨.v (.slice none 0 0),{v:=.undef},rfl,rfl,?_⟩;simp only[List.take_nil,nZ2,Nat.zero_sub,List.replicate_zero,qK2];rw[nC hg];exact⟨e,.refl _ _ _⟩;cases hk
theorem Aq {b:aA Nat}:∀{h:aN} {K:aN->aB R} {r:R},Om h b K=some r->∃h',K h'=some r/\∀k,(aK h k=none->aK h' k=none)/\∀o,aK h k=some o->∃o',aK h' k=some o'/\(o'=o\/∃cs,o=.box cs/\o'=.box (cs.map fun _=>.undef))
 |[],K,r,hk=>⟨[],hk,fun k=>⟨fun _=>rfl,fun o h=>by simp[aK]at h⟩⟩
 |(j,o)::t,K,r,hk=>by
  unfold Om at hk
  obtain⟨h',hk,h2⟩:=Aq hk
  have fin:∀o',(o'=o\/∃cs,o=.box cs/\o'=.box (cs.map fun _=>.undef))->K ((j,o')::h')=some r->∃h',K h'=some r/\∀k,(aK ((j,o)::t) k=none->aK h' k=none)/\∀a,aK ((j,o)::t) k=some a->∃o',aK h' k=some o'/\(o'=a\/∃cs,a=.box cs/\o'=.box (cs.map fun _=>.undef)):=fun o' c hk=>by
   refine⟨_,hk,fun k=>?_⟩
   simp only[aK]
   by_cases e:j=k
   subst e
   simp only[oK2]
   exact⟨fun h=>(by cases h),fun a h=>(by cases h;exact⟨o',rfl,c⟩)⟩
   simp only[nS2 e]
   exact h2 k
  cases o with
  |box cs=>
   simp only at hk
   cases hm:(rM j b|| !(cs.any Vh))with
   |true=>rw[hm,nX2]at hk;exact fin _ (.inl rfl) hk
   |false=>rw[hm,oI2]at hk;exact fin _ (.inr ⟨cs,rfl,rfl⟩) hk
  |_=>exact fin _ (.inl rfl) hk
theorem cJ1 {h':aN} (d:bY C n h lim s) (hs:∀k,(aK h k=none->aK h' k=none)/\∀o,aK h k=some o->∃o',aK h' k=some o'/\(o'=o\/∃cs,o=.box cs/\o'=.box (cs.map fun _=>.undef))):bY C n h' lim s/\Fr C h s C h' s:=by
 have c:∀j,aK h' j≠none->aK h j≠none:=fun j f hc=>f ((hs j).1 hc);refine⟨⟨⟨fun j o f=>?_,fun j q i v1 g m v2 e2 A h1 h2 r t=>d.hr.inj j q i v1 g m v2 e2 A (c j h1) (c q h2) r t,fun i o u=>?_,fun j i v1 g m h1 h2=>d.hr.wn j i v1 g m (c j h1) h2,d.hr.wb,d.hr.wz⟩,d.dom,d.wf,d.lim⟩,⟨.refl _ _,nM2 _,fun _ _ _=>rfl,fun i hi hn=>?_,fun j o f=>?_,fun _ _ h=>h,fun _ _ h=>.inl h⟩⟩;cases hc:aK h j with
 |none=>exact absurd hc (c j (by rw[f];simp))
 |some o0=>
  obtain⟨o',p1,p2⟩:=(hs j).2 o0 hc;rw[f]at p1;cases p1;obtain⟨pl,q1,q2⟩:=d.hr.ob j o0 hc;refine⟨pl,q1,?_⟩;rcases p2 with rfl|⟨cs,rfl,rfl⟩
  exact q2;cases pl with
  |nil=>exact q2
  |atp id ver e len=>
   obtain⟨a1,a2,ty,esz,row,a3,a4⟩:=q2;refine⟨a1,a2,ty,esz,row,a3,by simpa using a4.1,fun i x y p hy=>?_⟩;rw[oW2,nL2]at p;obtain⟨_,_,rfl⟩:=p;exact .undef
 obtain⟨z1,z2,z3,z4⟩:=d.hr.zr i o u;exact⟨z1,z2,fun j v e l a b=>z3 j v e l (c j a) b,z4⟩;rcases hn with⟨j,v1,g,m,w,z⟩|hn;exact .inl ⟨j,v1,g,m,c j w,z⟩;exact .inr hn;obtain⟨o',p1,p2⟩:=(hs j).2 o f;refine⟨o',p1,fun hb=>?_⟩;rcases p2 with rfl|⟨cs,rfl,rfl⟩
 exact⟨hb,rfl⟩;exact⟨rfl,rfl⟩
end
end Go.P
namespace Go.P
open Go.Sim (AV AO Hp eJ upd St IC IX Ex eE CK Wf Out doOp iG exec newOK Gm nameOK fP)
theorem Mj {q:Nat->Bool} {d:Nat} {c:AV} (h:Nml c):nameOK q (d+1) c=true:=by
 unfold Nml at h;cases c with
 |ptr=>simp[nameOK]at h
 |sl=>simp[nameOK]at h
 |map=>simp[nameOK]at h
 |fn f a b=>
  simp only[nameOK,nJ2]at h ⊢;obtain⟨⟨h1,h2⟩,e⟩:=h;have g:a=[]:=by cases a<;>simp[nameOK]at h2 ⊢
  have hb:b=[]:=by cases b<;>simp[nameOK]at e ⊢
  subst g;subst hb;refine⟨⟨?_,rfl⟩,rfl⟩;cases f<;>simp_all
 |agg cs=>
  simp only[nameOK]at h ⊢;have:cs=[]:=by cases cs<;>simp[nameOK]at h ⊢
  rw[this];rfl
 |tup cs=>
  simp only[nameOK]at h ⊢;have:cs=[]:=by cases cs<;>simp[nameOK]at h ⊢
  rw[this];rfl
 |_=>rfl
theorem rW {C:Cx} {p:AV->Bool} {cs:aA PV} {cs':aA AV} (hl:LR (RV C) cs cs') (h:∀x∈cs,∀y,RV C x y->p y=true):cs'.all p=true:=by
 rw[nN2];intro y hy;obtain⟨j,a⟩:=oF2.1 hy;have b:j<cs.length:=by rw[hl.1];exact(nK2.1 a).1
 exact h cs[j] (by simp) y (hl.2 j _ y (by simp) a)
theorem nD {C:Cx} {q:Nat->Bool}:∀{d:Nat} {x:PV} {y:AV},cM d x=true->RV C x y->nameOK q (d+1) y=true
 |0,_,_,h,_=>by simp[cM]at h
 |d+1,x,y,hc,hv=>by
  cases x with
  |v a=>rw[fB hv];rfl
  |is e rows=>rcases vH hv with⟨_,rfl,_⟩|⟨_,rfl⟩<;>rfl
  |ip cs=>obtain⟨_,rfl,_⟩:=wS hv;rfl
  |im es=>obtain⟨_,rfl,_⟩:=Ow hv;rfl
  |fn f a b=>
   simp only[cM,nJ2,nN2]at hc
   obtain⟨a',b',rfl,h1,h2⟩:=tL hv
   show((true&&a'.all (nameOK q (d+1)))&&b'.all (nameOK q (d+1)))=true
   rw[rW h1 fun x c y hy=>nD (hc.1 x c) hy,rW h2 fun x c y hy=>nD (hc.2 x c) hy]
   rfl
  |agg cs=>
   simp only[cM,nN2]at hc
   obtain⟨cs',rfl,h1⟩:=kS hv
   exact rW h1 fun x c y hy=>nD (hc x c) hy
  |tup cs=>
   simp only[cM,nN2]at hc
   obtain⟨cs',rfl,h1⟩:=zV hv
   exact rW h1 fun x c y hy=>nD (hc x c) hy
  |_=>simp[cM]at hc
theorem Xc {q:Nat->Bool}:∀{d:Nat} {y:AV},nameOK q d y=true->nameOK q (d+1) y=true
 |0,_,h=>by simp[nameOK]at h
 |d+1,y,h=>by
  have all:∀{l:aA AV},l.all (nameOK q d)=true->l.all (nameOK q (d+1))=true:=fun h=>nN2.2 fun x c=>Xc (nN2.1 h x c)
  cases y with
  |fn f a b=>
   simp only[nameOK,nJ2]at h ⊢
   exact⟨⟨h.1.1,all h.1.2⟩,all h.2⟩
  |agg cs=>exact all h
  |tup cs=>exact all h
  |ptr=>exact h
  |sl=>exact h
  |map=>exact h
  |_=>rfl
theorem tU {C C2:Cx} {q:Nat->Bool} (c:∀k id v e l,C k=some (.atp id v e l)->q id=true) (h2:∀k pl,C k=some pl->C2 k=some pl):∀{d:Nat} {x:PV} {y:AV},Em d x=true->RV C x y->nameOK q (d+1) y=true/\RV C2 x y
 |0,_,_,h,_=>by simp[Em]at h
 |d+1,x,y,hc,hv=>by
  cases x with
  |v a=>have:=fB hv;subst this;exact⟨rfl,.cl (.v _)⟩
  |is e rows=>rcases vH hv with⟨_,rfl,h⟩|⟨rfl,rfl⟩<;>refine⟨rfl,.cl ?_⟩<;>cases hv<;>assumption
  |ip cs=>obtain⟨_,rfl,h⟩:=wS hv;exact⟨rfl,.cl (.ip h.1 h.2)⟩
  |im es=>obtain⟨_,rfl,h⟩:=Ow hv;exact⟨rfl,.cl h.im⟩
  |own k=>
   rcases eP hv with⟨id,ver,e,len,h,rfl⟩|⟨h,rfl⟩
   exact⟨c k id ver e len h,.own (h2 _ _ h)⟩
   exact⟨rfl,.ownn (h2 _ _ h) rfl⟩
  |agg cs=>
   simp only[Em,nN2]at hc
   obtain⟨cs',rfl,h1⟩:=kS hv
   exact⟨rW h1 fun x f y hy=>(tU c h2 (hc x f) hy).1,.agg h1.1 fun j x y a b=>(tU c h2 (hc x (nU2 a)) (h1.2 j x y a b)).2⟩
  |tup cs=>
   simp only[Em,nN2]at hc
   obtain⟨cs',rfl,h1⟩:=zV hv
   exact⟨rW h1 fun x f y hy=>(tU c h2 (hc x f) hy).1,.tup h1.1 fun j x y a b=>(tU c h2 (hc x (nU2 a)) (h1.2 j x y a b)).2⟩
  |_=>simp[Em]at hc
theorem wX {n:Nat}:∀{h:aA eJ},∀e∈Sim.newEnts n h,∃i o,e=.ob i o/\n<=i
 |[],e,he=>by simp[Sim.newEnts]at he
 |.mark::h,e,he=>by simp[Sim.newEnts]at he
 |.ob i o::h,e,he=>by
  simp only[Sim.newEnts]at he
  split at he
  rename_i hn
  rcases nW2.1 he with rfl|he
  exact⟨i,o,rfl,hn⟩
  exact wX e he
  simp at he
theorem Rz {q:Nat->Bool} {n:Nat} {h:aA eJ}:∀e∈newOK q n h,∃i o,e=.ob i o/\n<=i:=fun e he=>wX e (List.mem_filter.1 he).1
theorem tV {q:Nat->Bool} {n:Nat} {r t:aA eJ}:∀{pre:aA eJ} {m:Nat},Wf (pre++t) m->(∀e∈pre,∃i o,e=.ob i o/\n<=i)->(∀e∈t,e=.mark)->∀{id:Nat} {ao:AO},Sim.look (pre++t) id=some ao->fP q ao=true->Sim.look (newOK q n (pre++t)++r) id=some ao
 |[],m,hw,hp,a,id,ao,hl,hq=>by
  have:∀{t:aA eJ},(∀e∈t,e=.mark)->Sim.look t id=none:=by
   intro t
   induction t with
   |nil=>intro _;rfl
   |cons e t ih=>
    intro a;rw[a e (by simp)];exact ih fun e he=>a e (by simp[he])
  rw[rG2,this a]at hl;cases hl
 |e::pre,m,hw,hp,a,id,ao,hl,hq=>by
  obtain⟨i,o,rfl,hi⟩:=hp e (by simp);have ih:=fun h=>tV (q:=q) (n:=n) (r:=r) (pre:=pre) hw.2 (fun e he=>hp e (by simp[he])) a (id:=id) (ao:=ao) h hq;simp only[pS2,Sim.look]at hl;unfold newOK at ih ⊢;simp only[pS2,Sim.newEnts];rw[nQ2 hi,List.filter_cons];split at hl;rename_i b;cases hl;rw[nQ2 hq];simp only[pS2,Sim.look];rw[nQ2 b];rename_i b;have ih:=ih hl;cases hqo:fP q o with
  |true=>
   rw[nQ2 hqo];simp only[pS2,Sim.look];rw[nS2 b];exact ih
  |false=>
   rw[nS2 (fun hc=>by have hc:fP q o=true:=hc;rw[hqo]at hc;cases hc)];exact ih
theorem Je:∀{r t:aA eJ},eC r (Gm t)->∀e∈r,e=.mark
 |[],_,_,e,he=>by simp at he
 |.mark::r,t,h,e,he=>by
  rcases nW2.1 he with rfl|he
  rfl
  induction t with
  |nil=>exact h.elim
  |cons a t ih=>
   cases a with
   |mark=>exact Je (t:=t) h e he
   |ob i o=>exact ih h
 |.ob i o::r,t,h,e,he=>by
  exfalso
  induction t with
  |nil=>exact h
  |cons a t ih=>
   cases a with
   |mark=>exact h
   |ob i o=>exact ih h
theorem Mk:∀(h:aA eJ) (n:Nat),Wf (Gm h) n
 |[],_=>trivial
 |.mark::r,n=>Mk r n
 |.ob _ _::r,n=>Mk r n
theorem Ar (p:Nat->Bool):∀(h:aA eJ),Sim.entsOK p (Gm h)=true
 |[]=>rfl
 |.mark::r=>Ar p r
 |.ob _ _::r=>Ar p r
theorem pT (L:Nat->aB AO):∀(h:aA eJ),Sim.changed L (Gm h)=some []
 |[]=>rfl
 |.mark::r=>pT L r
 |.ob _ _::r=>pT L r
section
variable {L1 L2:Nat->Option AO} {w w2:Nat->Option (Nat×Nat×Nat)} {lim lo nS:Nat} {q:Nat->Bool}
theorem Po {d id:Nat} {ty e ver:Nat} {ks:aA (Nat×TD)} {rows:aA (aA PV)} {els:aA (aA AV)} (n:∀o,lo<=o->o<nS->q o=true) (hw:∀o sl,w o=some sl->lo<=o) (h:rows.length<=els.length/\SL rows.length els)
  (hr:∀(i:Nat) (r:aA PV) (r':aA AV),rows[i]? =some r->els[i]? =some r'->r.length=r'.length/\∀(j:Nat) (a:PV) (b:AV),r[j]? =some a->r'[j]? =some b->match eH ks j with
   |none=>RC true a b
   |some t=>dQ L1 w lim nS d (id,i,j) t a b):fP q (.arr false ty e ver els)=true:=by
 simp only[fP,nN2];intro row f c hc;obtain⟨i,hi⟩:=oF2.1 f;by_cases m:i<rows.length;obtain⟨h1,h2⟩:=hr i rows[i] row (by simp) hi;obtain⟨j,k⟩:=oF2.1 hc;have g:j<(rows[i]).length:=by rw[h1];exact(nK2.1 k).1
 have:=h2 j _ c (oT2 g) k;cases hk:eH ks j with
 |none=>rw[hk]at this;exact Mj this.nml
 |some t=>
  rw[hk]at this;cases d with
  |zero=>exact this.elim
  |succ d=>
   obtain⟨ty',e',p⟩:=t;obtain⟨rows',_,l⟩:=this;rcases l with⟨_,rfl⟩|⟨id',ver',els',rfl,k2,k3,k4,_⟩
   rfl;exact n id' (hw _ _ k2) k4
 exact Mj (h.2 i row (by omega) hi c hc)
theorem dQ.merge (f:∀o,lo<=o->o<nS->q o=true) (hw:∀o sl,w o=some sl->lo<=o/\w2 o=some sl) (c:∀o ao,lo<=o->L1 o=some ao->fP q ao=true->L2 o=some ao):∀{d:Nat} {sl:Nat×Nat×Nat} {t:TD} {x:PV} {y:AV},dQ L1 w lim nS d sl t x y->dQ L2 w2 lim nS d sl t x y
 |0,_,_,_,_,h=>h.elim
 |d+1,sl,.nd ty e ks,x,y,h=>by
  obtain⟨rows,h1,h2⟩:=h
  refine⟨rows,h1,?_⟩
  rcases h2 with h2|⟨id,ver,els,k1,k2,k3,k4,kf,k5,k6,k7⟩
  exact .inl h2
  refine .inr ⟨id,ver,els,k1,(hw _ _ k2).2,k3,k4,kf,c _ _ (hw _ _ k2).1 k5 (Po f (fun o sl h=>(hw o sl h).1) k6 k7),k6,fun i r r' a b=>⟨(k7 i r r' a b).1,fun j x1 g a1 b1=>?_⟩⟩
  have:=(k7 i r r' a b).2 j x1 g a1 b1
  cases hk:eH ks j with
  |none=>rw[hk]at this;exact this
  |some t=>rw[hk]at this;exact dQ.merge f hw c this
end
theorem Jf:∀{h:aN} {k:Nat} {o:dO},Rk h=true->aK h k=some o->(∃ty e g rows,o=.lst ty e g rows/\eO ty=false)\/∃t rows,o=.tr t rows []
 |[],_,_,_,h=>by simp[aK]at h
 |(j,o')::r,k,o,hl,h=>by
  simp only[Rk,nJ2]at hl
  simp only[aK]at h
  split at h
  cases h
  have:=hl.1
  cases o' with
  |lst ty e g rows=>exact .inl ⟨ty,e,g,rows,rfl,by simpa using this⟩
  |tr t rows hs=>
   cases hs with
   |nil=>exact .inr ⟨t,rows,rfl⟩
   |cons a b=>simp at this
  |_=>simp at this
  exact Jf hl.2 h
section
variable {R:Type} {C:Cx} {n:Nat} {h:aN} {lim:Nat} {s:Hp}
def C0:Cx:=⟨fun _=>none,fun _=>none,fun _=>none⟩
def qX (lo hi id:Nat):Bool:=Nat.ble lo id&&Nat.blt id hi
theorem Xe {lo hi o:Nat} (h1:lo<=o) (h2:o<hi):qX lo hi o=true:=by
 simp[qX,h1,h2]
def Xf (C C1:Cx) (n m:Nat):Cx:=⟨fun k=>if k<n then C k else C1 k,C.z,fun o=>if o<m then C.w o else C1.w o⟩
theorem Xg (u:bY C n h lim s) {C1:Cx} {h2 hc:aN} {n2:Nat} {m:Hp} (p:bY C1 n2 h2 lim m) (hf:Fr C0 [] {h:=Gm s.h,n:=s.n} C1 h2 m) (F:∀k,aK h2 k≠none->n<=k) (T:∀k pl,C1 k=some pl->aK h2 k≠none)
  (hl:Rk h2=true) (hn:n<=n2) (E:∀k,aK hc k=(aK h2 k).or (aK h k)):
  bY (Xf C C1 n s.n) n2 hc lim {h:=newOK (qX s.n m.n) s.n m.h++s.h,n:=m.n}/\Fr C h s (Xf C C1 n s.n) hc {h:=newOK (qX s.n m.n) s.n m.h++s.h,n:=m.n}/\C.le (Xf C C1 n s.n)/\∀k pl,C1 k=some pl->(Xf C C1 n s.n) k=some pl:=by
 have z:s.n<=m.n:=hf.n
 have L:∀{k},aK h k≠none->k<n:=fun{k} hk=>by
  cases hc:aK h k with
  |none=>exact absurd hc hk
  |some o=>obtain⟨pl,p1,_⟩:=u.hr.ob k o hc;exact u.dom k pl p1
 have U:∀{k},k<n->aK h2 k=none:=fun{k} hk=>by
  cases hc:aK h2 k with
  |none=>rfl
  |some o=>have:=F k (by rw[hc];simp);omega
 have S:∀{k id v e l},C1 k=some (.atp id v e l)->s.n<=id/\id<m.n:=fun{k id v e l} hk=>by
  have hg:=T k _ hk;refine⟨?_,(p.hr.lt hg hk).2⟩;rcases qU2 id s.n with y|h;rcases hf.own id y (.inl ⟨k,v,e,l,hg,hk⟩)with⟨k',v',e',l',q1,_⟩|q1;exact absurd rfl q1;exact absurd rfl q1;exact h
 have O:∀{id sl},C1.w id=some sl->s.n<=id/\id<m.n:=fun{id sl} hw=>by
  refine⟨?_,(p.hr.wb id sl hw).1⟩;rcases qU2 id s.n with y|h;rcases hf.own id y (.inr (by rw[hw];simp))with⟨k',v',e',l',q1,_⟩|q1;exact absurd rfl q1;exact absurd rfl q1;exact h
 obtain⟨pre,r,V,b6,b5⟩:=hf.sk;have b0:∀e∈r,e=.mark:=Je b6;have A:∀{id},id<s.n->Sim.look (newOK (qX s.n m.n) s.n m.h++s.h) id=Sim.look s.h id:=fun{id} hid=>Sim.look_newOK_lt hid
 have D:∀{id ao},Sim.look m.h id=some ao->fP (qX s.n m.n) ao=true->Sim.look (newOK (qX s.n m.n) s.n m.h++s.h) id=some ao:=fun{id ao} hl hq=>by
  have hw:=p.wf;rw[V]at hl hw ⊢;exact tV hw b5 b0 hl hq
 have y:∀k,k<n->(Xf C C1 n s.n) k=C k:=fun k hk=>nQ2 hk;have K:∀k,n<=k->(Xf C C1 n s.n) k=C1 k:=fun k hk=>nS2 (by omega);have M:C.le (Xf C C1 n s.n):=⟨fun k pl hk=>by rw[y k (u.dom k pl hk)];exact hk,fun _ _ h=>h⟩
 have J:∀k pl,C1 k=some pl->(Xf C C1 n s.n) k=some pl:=fun k pl hk=>by rw[K k (F k (T k pl hk))];exact hk
 have G:∀{o},o<s.n->(Xf C C1 n s.n).w o=C.w o:=fun{o} H=>nQ2 H;have N:∀{o},s.n<=o->(Xf C C1 n s.n).w o=C1.w o:=fun{o} H=>nS2 (by omega)
 have a0:∀{k},aK hc k≠none->(k<n/\aK h k≠none)\/(n<=k/\aK h2 k≠none):=fun{k} hk=>by
  rw[E]at hk;cases h2k:aK h2 k with
  |none=>
   rw[h2k]at hk;exact .inl ⟨L hk,hk⟩
  |some o=>exact .inr ⟨F k (by rw[h2k];simp),by simp⟩
 have f:∀{k id v e l},aK hc k≠none->(Xf C C1 n s.n) k=some (.atp id v e l)->(k<n/\aK h k≠none/\C k=some (.atp id v e l)/\id<s.n)\/(n<=k/\aK h2 k≠none/\C1 k=some (.atp id v e l)/\s.n<=id):=fun{k id v e l} hk P=>by
  rcases a0 hk with⟨B,X⟩|⟨B,X⟩
  rw[y k B]at P;exact .inl ⟨B,X,P,(u.hr.lt X P).2⟩;rw[K k B]at P;exact .inr ⟨B,X,P,(S P).1⟩
 refine⟨⟨⟨fun k o hk=>?_,fun k k' id v e l v' e' l' a b c d=>?_,fun id o Y=>?_,fun k id v e l a b=>?_,fun id sl hw=>?_,fun id o Y=>?_⟩,fun k pl hk=>?_,u.wf.newOK p.wf z,oL2 u.lim z⟩,
  ⟨⟨_,s.h,rfl,.refl _,Rz⟩,z,fun id hid _=>A hid,fun id hid H=>?_,fun k o hk=>⟨o,?_,fun hb=>⟨hb,y k (L (by rw[hk];simp))⟩⟩,fun _ _ h=>h,fun id _ h=>.inl h⟩,M,J⟩
 ·
  rw[E]at hk;cases h2k:aK h2 k with
  |none=>
   rw[h2k]at hk;have hk:aK h k=some o:=hk;obtain⟨pl,p1,p2⟩:=u.hr.ob k o hk;refine⟨pl,M.1 _ _ p1,p2.mono z M (fun id v e l hp=>?_) (fun Z sl H=>?_)⟩;subst hp;exact A (u.hr.lt (by rw[hk];simp) p1).2;have:=(u.hr.wb Z sl H).1;exact⟨by rw[G this];exact H,A this⟩
  |some Z=>
   rw[h2k]at hk;have hk:Z=o:=by simpa using hk
   subst hk;obtain⟨pl,p1,p2⟩:=p.hr.ob k Z h2k;refine⟨pl,J _ _ p1,?_⟩;rcases Jf hl h2k with⟨ty,e,g,rows,rfl,b7⟩|⟨t,rows,rfl⟩
   cases pl with
   |nil=>exact p2
   |atp id ver e' len=>
    obtain⟨a1,a2,a3,a4,els,a5,a6,a7,a8⟩:=p2;refine⟨a1,a2,a3,a4,els,D a5 ?_,a6,a7,a8⟩;simp only[fP,nN2];intro row W c hc;obtain⟨i,hi⟩:=oF2.1 W;exact Mj (SL.cut a6 a7.2 0 i row (oX2 _) hi c hc)
   obtain⟨ty,e,ks⟩:=t;cases pl with
   |nil=>exact p2
   |atp id ver e' len=>
    obtain⟨a1,a2,a3,a4,af,els,d,a5,a6,a7⟩:=p2
    have R:∀(i:Nat) (r:aA PV) (r':aA AV),rows[i]? =some r->els[i]? =some r'->r.length=r'.length/\∀(j:Nat) (a:PV) (b:AV),r[j]? =some a->r'[j]? =some b->match eH ks j with
      |none=>RC true a b
      |some t=>dQ (Sim.look m.h) C1.w lim m.n d (id,i,j) t a b:=fun i r r' c1 c2=>⟨(a7 i r r' c1 c2).1,fun j a b c3 c4=>by
     have:=(a7 i r r' c1 c2).2 j a b c3 c4;unfold TC at this;cases hkd:eH ks j with
     |none=>rw[hkd]at this;exact this
     |some t=>
      rw[hkd]at this;rcases this with⟨⟨x,hx⟩,_⟩|⟨_,this⟩
      cases hx;exact this⟩
    have hq:=Po (lo:=s.n) (q:=qX s.n m.n) (ty:=ty) (e:=e) (ver:=ver) (fun o h1 h2=>Xe h1 h2) (fun o sl h=>(O h).1) a6 R;refine⟨a1,a2,a3,a4,af,els,d,D a5 hq,a6,fun i r r' c1 c2=>⟨(a7 i r r' c1 c2).1,fun j a b c3 c4=>?_⟩⟩;have:=(R i r r' c1 c2).2 j a b c3 c4;unfold TC;cases hkd:eH ks j with
    |none=>rw[hkd]at this;exact this
    |some t=>
     rw[hkd]at this;exact .inr ⟨fun⟨x,hx⟩=>(by cases hx),this.merge (lo:=s.n) (fun o h1 h2=>Xe h1 h2) (fun o sl h=>⟨(O h).1,by rw[N (O h).1];exact h⟩) (fun o ao _ h1 h2=>D h1 h2)⟩
 rcases f a c with⟨a1,a2,a3,a4⟩|⟨a1,a2,a3,a4⟩<;>rcases f b d with⟨b1,b2,b3,b4⟩|⟨b1,b2,b3,b4⟩
 exact u.hr.inj k k' id v e l v' e' l' a2 b2 a3 b3;omega;omega;exact p.hr.inj k k' id v e l v' e' l' a2 b2 a3 b3;obtain⟨z1,z2,z3,z4⟩:=u.hr.zr id o Y;refine⟨by rw[A z2];exact z1,oV2 z2 z,fun k v e l a b=>?_,z4⟩;rcases f a b with⟨a1,a2,a3,a4⟩|⟨a1,a2,a3,a4⟩
 exact z3 k v e l a2 a3;omega;rcases f a b with⟨a1,a2,a3,a4⟩|⟨a1,a2,a3,a4⟩
 rw[G a4];exact u.hr.wn k id v e l a2 a3;rw[N a4];exact p.hr.wn k id v e l a2 a3;rcases qU2 id s.n with B|B;rw[G B]at hw;have:=u.hr.wb id sl hw;exact⟨oV2 B z,oV2 this.2 z⟩;rw[N B]at hw;exact p.hr.wb id sl hw;have:=(u.hr.zr id o Y).2.1;rw[G this];exact u.hr.wz id o Y;rcases qU2 k n with B|B;omega;rw[K k B]at hk;exact p.dom k pl hk;rcases H with⟨k,v,e,l,a,b⟩|H;rcases f a b with⟨a1,a2,a3,a4⟩|⟨a1,a2,a3,a4⟩
 exact .inl ⟨k,v,e,l,a2,a3⟩;omega;rw[G hid]at H;exact .inr H;rw[E,U (L (by rw[hk];simp)),hk];rfl
theorem cK1 {e:dG} {t:aA AV} {xs:aA PV} {ys:aA AV} {run:aN->Nat->(PV->aN->Nat->aB (PV×aN×Nat))->aB (PV×aN×Nat)} {nw:Bool} {kill:aA Nat} {K:PV->dG->aN->Nat->aB R} {r:R} {P:Hp->AV->Hp->Prop} (hM:bY C n h lim s) (he:cS C e t) (L:LR (RV C) xs ys)
  (J:∀(C0:Cx) (m:Nat) (K':PV->aN->Nat->aB (PV×aN×Nat)) (r':PV×aN×Nat) (s0:Hp),bY C0 m [] lim s0->LR (RV C0) xs ys->run [] m K'=some r'->
   ∃v h' n' C' y s',K' v h' n'=some r'/\RV C' v y/\bY C' n' h' lim s'/\m<=n'/\Fr C0 [] s0 C' h' s'/\P s0 y s')
  (hk:inE run nw xs e h n kill K=some r):
  ∃v e' h' n' C' y s',K v e' h' n'=some r/\RV C' v y/\(∀i w,dE e' i=some w->∃z,t[i]? =some z/\RV C' w z/\i∉kill)/\bY C' n' h' lim s'/\n<=n'/\Fr C h s C' h' s'/\
   C.le C'/\∃A,P {h:=Gm s.h,n:=s.n} y A/\∀(f:Hp->aB (AV×Hp)) (hid:aA Nat),f {h:=Gm s.h,n:=s.n}=some (y,A)->Sim.callX true f hid ys s=some (y,s',[]):=by
 unfold inE at hk;cases hc:(nw&&xs.all (cM 4))with
 |false=>rw[hc]at hk;exact aD hk
 |true=>
 rw[hc,nX2,bJ,nI2]at hk;obtain⟨r1,X,hk⟩:=hk;simp only[nJ2]at hc;cases hls:(Rk r1.2.1&&Em 4 r1.1)with
 |false=>rw[hls]at hk;exact aD hk
 |true=>
 rw[hls,nX2,Io]at hk;simp only[nJ2]at hls;have H:LR (RC false) xs ys:=⟨L.1,fun j x y a b=>vM (L.2 j x y a b) (nN2.1 hc.2 x (nU2 a))⟩
 have O:bY C0 n [] lim ({h:=Gm s.h,n:=s.n}:Hp):=⟨⟨fun k po h=>by simp[aK]at h,fun k k' id v e l v' e' l' a=>absurd rfl a,fun id o h=>(by cases h),fun k id v e l a=>absurd rfl a,fun id sl h=>(by cases h),fun id o h=>(by cases h)⟩,fun k pl h=>(by cases h),Mk _ _,hM.lim⟩
 obtain⟨v,h1,n1,C1,y,A,q1,q2,q3,q4,q5,q6⟩:=J C0 n _ r1 _ O (H.mono fun x y h=>.cl h) X;unfold Ii at q1;obtain⟨a0,w1⟩:=fE (fR 5) _ _ _ _ q1;obtain⟨b0,w1⟩:=dS _ _ _ _ _ w1;obtain⟨h2,_,w1,u⟩:=qN w1;cases hch2:(Ri h2 (pL [])&&(bif true then Rh [] n h2 else Rj [] h2)&&(kX (iI h2) 5 v&&jL (iI h2) h2))with
 |false=>rw[hch2]at w1;exact aD w1
 |true=>
 rw[hch2,nX2]at w1;cases w1;simp only[nJ2,nX2]at hch2 hls hk;obtain⟨⟨c1,c2⟩,c3,c4⟩:=hch2
 have c:∀k o,aK h2 k=some o->aK h1 k=some o:=fun k o g=>by
  rw[(u k).1]at g;split at g;exact g;cases g
 have B:=q3.part c c4
 have G:∀k,aK h2 k≠none->n<=k:=fun k hk=>by
  rcases vQ c2 hk with N|N;exact absurd rfl N;exact N
 have M:∀{k},aK h2 k≠none->aK h1 k≠none:=fun{k} hk=>by
  cases hc2:aK h2 k with
  |none=>exact absurd hc2 hk
  |some o=>rw[c k o hc2];simp
 have Z:∀k pl,lU C1 (iI h2) k=some pl->C1 k=some pl/\aK h2 k≠none:=fun k pl hk=>by
  simp only[lU]at hk;split at hk;rename_i hh;exact⟨hk,kM.1 hh⟩;cases hk
 have E:Fr C0 [] {h:=Gm s.h,n:=s.n} (lU C1 (iI h2)) h2 A:=⟨q5.sk,q5.n,q5.keep,fun id hid U=>by
   rcases U with⟨k,v,e,l,a,b⟩|U;exact q5.own id hid (.inl ⟨k,v,e,l,M a,(Z k _ b).1⟩);exact q5.own id hid (.inr U),fun k o hk=>by simp[aK]at hk,q5.zl,q5.zn⟩
 obtain⟨D,hk,S⟩:=vP hk;rw[dC]at hk;obtain⟨m1,m2,m3,m4⟩:=Xg hM B E G (fun k pl hk=>(Z k pl hk).2) hls.1 q4 S;have V:=tR (p:=iI h2) q2 c3
 have F:∀k id v e l,lU C1 (iI h2) k=some (.atp id v e l)->qX s.n A.n id=true:=fun k id v e l hk=>by
  have hg:=(Z k _ hk).2;refine Xe ?_ (B.hr.lt hg hk).2;rcases qU2 id s.n with T|h;rcases E.own id T (.inl ⟨k,v,e,l,hg,hk⟩)with⟨k',v',e',l',z1,_⟩|z1;exact absurd rfl z1;exact absurd rfl z1;exact h
 obtain⟨v1,v2⟩:=tU F m4 hls.2 V;refine⟨v,edel e kill,D,n1,_,y,_,hk,v2,fun i w hw=>?_,m1,q4,m2,m3,A,q6,fun f hid W=>?_⟩;obtain⟨z,p1,p2,p3⟩:=(he.mono m3).edel kill i w hw;exact⟨z,p1,p2,p3⟩
 have hnl:Sim.nameless ys=true:=rW (C:=C0) (H.mono fun x y h=>.cl h) fun x L y hy=>by
  have:=nD (q:=fun _=>false) (nN2.1 hc.2 x L) hy;exact Xc this
 unfold Sim.callX;simp only[hnl,oK2,qA2,Bool.false_and,Bool.false_or,Ar,Bool.true_and];unfold Sim.nameless at hnl;rw[nQ2 hnl,W];simp only[pT];have Y:nameOK (fun id=>Nat.ble s.n id&&Nat.blt id A.n) 6 y=true:=Xc (d:=5) v1;simp only[Y,List.all_nil,Bool.true_or,Bool.and_true,oK2,qZ2,Sim.updAll];rfl
end
end Go.P
namespace Go.P
open Go.Sim (AV AO Hp eJ upd St IC IX Ex eE CK Wf Out doOp iG exec Foot wanted put)
section
variable {R:Type} {T:iG} {O:vE} {X:NX} {dr:Nat}
theorem Pp {C:Cx}:∀{es:aA (aB Nat)} {cs:aA PV} {ys:aA AV} {K:aA PV->aB R} {r:R},LR (RV C) cs ys->Rl es cs K=some r->∃cs',K cs'=some r/\LR (RV C) cs' ys
 |[],[],ys,K,r,hl,h=>⟨[],h,hl⟩
 |o::os,x::xs,ys,K,r,hl,h=>by
  obtain⟨y,c,rfl,h1,h2⟩:=hl.inv_cons
  unfold Rl at h
  obtain⟨cs',a,b⟩:=Pp h2 h
  cases o with
  |none=>exact⟨_,a,.cons h1 b⟩
  |some e=>
   simp only at a
   split at a
   have:=fB h1
   subst this
   exact⟨_,a,.cons (.cl .isn) b⟩
   exact aD a
 |[],_::_,_,_,_,_,h=>by unfold Rl at h;exact aD h
 |_::_,[],_,_,_,_,h=>by unfold Rl at h;exact aD h
theorem cL1 {C:Cx} {n:Nat} {h:aN} {lim:Nat} {s:Hp} (u:bY C n h lim s) {k id ver e len:Nat} {cs cs2:aA PV} {ty e':Nat} {g:Bool} (hk:aK h k=some (.box cs)) (x:C k=some (.atp id ver e len))
  (y:∀row,LR (RV C) cs row->LR (RV (ext C n .nil)) cs2 row):
  bY (ext C n .nil) (n+1) ((n,pM ty e' g)::bR h k (.box cs2)) lim s/\Fr C h s (ext C n .nil) ((n,pM ty e' g)::bR h k (.box cs2)) s:=by
 obtain⟨p,r⟩:=Vn u (ty:=ty) (e:=e') (g:=g);have D:n≠k:=by have:=u.dom _ _ x;omega
 have m:∀j,aK ((n,pM ty e' g)::bR h k (.box cs2)) j≠none->aK ((n,pM ty e' g)::h) j≠none:=fun j f=>by
  simp only[aK]at f ⊢;split;simp;rename_i h1;rw[nS2 h1,cN]at f;split at f;rename_i h2;obtain⟨rfl,_⟩:=h2;rw[hk];simp;exact f
 refine⟨⟨⟨fun j o f=>?_,fun j B i v1 q w v2 e2 H a b c d=>p.hr.inj j B i v1 q w v2 e2 H (m j a) (m B b) c d,fun i o E=>?_,fun j i v1 q w a b=>p.hr.wn j i v1 q w (m j a) b,p.hr.wb,p.hr.wz⟩,p.dom,p.wf,p.lim⟩,⟨r.sk,r.n,r.keep,fun i hi z=>?_,fun j o f=>?_,r.zl,r.zn⟩⟩;simp only[aK]at f;split at f;rename_i h1;exact p.hr.ob j o (by simp[aK,h1];simpa using f);rename_i h1;rw[cN]at f;split at f;rename_i h2;obtain⟨rfl,_⟩:=h2;cases f;obtain⟨pl,q1,q2⟩:=u.hr.ob _ _ hk;rw[x]at q1;cases q1;obtain⟨p1,p2,A,esz,row,p3,p4⟩:=q2;exact⟨_,(jZ u .nil).1 _ _ x,p1,p2,A,esz,row,p3,y row p4⟩;exact p.hr.ob j o (by simp[aK,h1,f]);obtain⟨z1,z2,z3,z4⟩:=p.hr.zr i o E;exact⟨z1,z2,fun j v e l a b=>z3 j v e l (m j a) b,z4⟩;rcases z with⟨j,v1,q,w,F,G⟩|z;exact r.own i hi (.inl ⟨j,v1,q,w,m j F,G⟩);exact r.own i hi (.inr z);obtain⟨o',q1,q2⟩:=r.kd j o f;have t:n≠j:=fun q=>by rw[qJ u (by omega)]at f;cases f
 by_cases q:j=k;subst q;rw[hk]at f;cases f;exact⟨.box cs2,by simp[aK,t,cN,hk],fun _=>⟨rfl,by simp[ext,Ne.symm t]⟩⟩;refine⟨o',?_,q2⟩;simpa[aK,t,cN,q]using q1
structure NOK (T:iG) (X:NX):Prop where
 run:∀{R:Type} (f:FuncId) (xs:List PV) (h:aN) (n:Nat) (K:PV->aN->Nat->Option R) (r:R) (C:Cx) (s:Hp) (lim:Nat) (ys:List AV),
  X.is f=true->X.run f xs h n K=some r->LR (RV C) xs ys->bY C n h lim s->
  ∃v h' n' C' y s',K v h' n'=some r/\RV C' v y/\bY C' n' h' lim s'/\n<=n'/\Fr C h s C' h' s'/\(∃ifn,T f=some ifn/\ifn.pure=false/\ifn.frz=X.xw f)/\∃D,∀d,D<=d->Sim.callF T (exec T d) lim f ys s=some (y,s')
 yld:∀{R:Type} (k:Nat) (xs:List PV) (h:aN) (n:Nat) (K:PV->aN->Nat->Option R) (r:R) (C:Cx) (s:Hp) (lim:Nat) (ys:List AV) (id ver e len:Nat),
  X.yld k xs h n K=some r->LR (RV C) xs ys->C k=some (.atp id ver e len)->bY C n h lim s->
  ∃v h' n' C' y s',K v h' n'=some r/\RV C' v y/\bY C' n' h' lim s'/\n<=n'/\Fr C h s C' h' s'/\∃D,∀d,D<=d->Sim.round (exec T d) lim id ys s=some (y,s')
theorem tW:∀{h:aA eJ} {id:Nat} {o:AO},Sim.look h id=some o->upd h id o=h
 |[],_,_,h=>by simp[Sim.look]at h
 |.mark::r,id,o,h=>by simp only[Sim.look]at h;simp only[Sim.upd,tW h]
 |.ob i o'::r,id,o,h=>by
  simp only[Sim.look]at h
  simp only[Sim.upd]
  split at h
  rename_i e;cases h;simp[e]
  rename_i e;rw[nS2 e,tW h]
theorem Pq:∀{xs:aA IX} {t ys:aA AV},Sim.evs t xs=some ys->ys.length=xs.length
 |[],t,ys,h=>by simp only[Sim.evs,nP2]at h;subst h;rfl
 |x::xs,t,ys,h=>by
  simp only[Sim.evs]at h
  split at h
  rename_i a as c b;cases h;simp[Pq b]
  cases h
theorem Xh {C:Cx} {n:Nat} {h:aN} {lim:Nat} {s:Hp} {ty:TypeId} {zero:aA Value} {as:aA PV} {ys:aA AV} (o:bY C n h lim s) (k:LR (RV C) as ys) (r:zero.length=1) (hf:as.all bP1=true):
  ∃C' out,doOp (Sim.look s.h) lim s.n (.buildSl ty 1 as.length zero (List.range as.length)) ys=some out/\RV C' (.own n) out.v/\bY C' (n+1) ((n,.fl as)::h) lim (out.apply s)/\C.le C'/\Fr C h s C' ((n,.fl as)::h) (out.apply s):=by
 have hc:∀(j:Nat) (y:AV),ys[j]? =some y->y.cells=some [y]:=fun j y hy=>by
  have q:j<as.length:=by rw[k.1];exact(nK2.1 hy).1
  have hv:=k.2 j as[j] y (by simp) hy;have l:=nN2.1 hf as[j] (by simp);cases ha:as[j]with
  |fn f a b=>rw[ha]at hv;obtain⟨a',b',rfl,_⟩:=tL hv;rfl
  |_=>rw[ha]at l;simp[bP1]at l
 have hlen:=k.1;have p:(Sim.zeroRow zero).length=1:=by simp[Sim.zeroRow,r]
 have d:=qM 1 as.length 0 ((List.range as.length).flatMap fun _=>Sim.zeroRow zero) ys (ys.map fun y=>[y]) (by rw[tO,p,List.length_range];simp) hlen.symm (by simp[hlen]) (fun j x k=>⟨[x],hc j x k,rfl,by simp[k]⟩);simp only[rK2,List.take_zero,rG2]at d;have g:=Ox 1 (ys.map fun y=>[y]) (fun c hc=>by simp at hc;obtain⟨y,_,rfl⟩:=hc;rfl);rw[qT2,<-hlen]at g;have m:=jZ o (.atp s.n 0 1 as.length)
 obtain⟨u,w,z⟩:=pO o (po:=.fl as) (ao:=.arr false ty 1 0 (ys.map fun y=>[y])) (ver:=0) (e:=1) (len:=as.length)
  ⟨o.lim,by omega,rfl,rfl,ty,_,by rw[dY,nQ2 rfl],by simp[hlen],fun i f row a b=>by
   simp only[oW2,nL2]at b;obtain⟨y,hy,rfl⟩:=b;exact .cons ((k.2 i f y a hy).mono m) .nil⟩
 refine⟨_,{v:=.sl 1 s.n 0 0 as.length none,new:=some (.arr false ty 1 0 (ys.map fun y=>[y]))},?_,.own (nY C n _),u,m,w⟩
 have:doOp (Sim.look s.h) lim s.n (.buildSl ty 1 as.length zero (List.range as.length)) ys=(Sim.fillParts ((List.range as.length).flatMap fun _=>Sim.zeroRow zero) ((List.range as.length).map fun i=>(i*1,1)) ys).map fun cs=>
  {v:=.sl 1 s.n 0 0 as.length none,new:=some (.arr false ty 1 0 ((List.range as.length).map fun i=>(cs.drop (i*1)).take 1))}:=by
  rcases ys with _|⟨a,_|⟨b,_|⟨c,t⟩⟩⟩<;>rfl
 rw[<-List.range_eq_range']at d;rw[this,d];simp only[oM2];rw[g]
theorem cJ (Y:∀f xs v,O f xs=some v->oD T f xs v) (W:NOK T X) (B:dr=0\/dr=3\/dr=4\/dr=5) {N lim:Nat} {R:Type}:∀(ops:gX) (u F:aA Nat) (l:Bool) (g:aB (Nat×Bool)) (C:Cx) (n:Nat) (h:aN) (e:dG) (t:aA AV) (s:Hp) (K:dG->aN->Nat->aB R) (r:R),
  cR O X dr ops e h n K=some r->cS C e t->bY C n h lim s->t.length=N->gT N u l F ops=true->Kp g t->GIn g u->
  ∃e' h' n' C' E s' fs,K e' h' n'=some r/\Tr T X.is dr lim (mO g ops) {t:=t,s:=s} fs {t:=E,s:=s'}/\cS C' e' E/\bY C' n' h' lim s'/\E.length=N/\n<=n'/\Fr C h s C' h' s'/\∀(i:Nat),i∉bT ops []->E[i]? =t[i]?
 |.nil,u,F,l,g,C,n,h,e,t,s,K,r,hk,he,hM,hN,ho,hg,hgi=>⟨e,h,n,C,t,s,[],by unfold cR at hk;exact hk,.nil,he,hM,hN,nM2 _,.refl _ _ _,fun _ _=>rfl⟩
 |.op d k xs kl rs,u,F,l,g,C,n,h,e,t,s,K,r,hk,he,hM,hN,ho,hg,hgi=>by
  simp only[gT,nJ2,oB2,eL,pQ2]at ho
  obtain⟨⟨⟨o1,o2⟩,o3⟩,o4⟩:=ho
  have hd:d<t.length:=by omega
  have L:d∉u:=by simpa using o2
  have back:∀{y:AV} {E:aA AV},(∀(i:Nat),i∉bT rs []->E[i]? =(t.set d y)[i]?)->∀(i:Nat),i∉bT (.op d k xs kl rs) []->E[i]? =t[i]? :=fun hb i hi=>by
   simp only[bT,nW2,qG2]at hi
   rw[hb i hi.2,nY2 (Ne.symm hi.1)]
  unfold cR at hk
  rw[gK,nI2]at hk
  obtain⟨vs,a0,hk⟩:=hk
  obtain⟨ys,h1,h2⟩:=iK he o3 a0
  have d6:∀{f:FuncId} {xs':aA PV} {zs:aA AV},wP O f xs' h (fun v=>gJ e (d::kl) fun e=>cR O X dr rs ((d,v)::e) h n K)=some r->LR (RV C) xs' zs->gL k=true->(jE X.is dr k=3\/jE X.is dr k=4)->
    ((∃ifn,T f=some ifn/\ifn.pure=true/\(ifn.frz||zs.all (Sim.closed 4))=true)->Sim.foot T k ys={all:=1,x:=true})->(∀(d:Nat) (s:Hp),Sim.step T (exec T d) lim k ys s=Sim.callF T (exec T d) lim f zs s)->
    ∃e' h' n' C' E s' fs,K e' h' n'=some r/\Tr T X.is dr lim (mO g (.op d k xs kl rs)) {t:=t,s:=s} fs {t:=E,s:=s'}/\cS C' e' E/\bY C' n' h' lim s'/\E.length=N/\n<=n'/\Fr C h s C' h' s'/\∀(i:Nat),i∉bT (.op d k xs kl rs) []->E[i]? =t[i]? :=by
   intro f xs' zs hk hz hc g8 hf i1;obtain⟨v,y,q,h4,h5,D,h6⟩:=Iy (lim:=lim) Y hM hk hz;simp only[dC]at q
   have A:cS C ((d,v)::edel e (d::kl)) (t.set d y):=.put hd (.cl h4) (fun i w hw=>by
    obtain⟨z,p1,p2,p3⟩:=he.edel (d::kl) i w hw;exact⟨z,p1,p2,fun M=>p3 (by simp[M])⟩)
   obtain⟨e2,d4,G,C2,J,H,fs,r1,r2,r3,r4,r5,r6,r7,r8⟩:=cJ Y W B rs u (d::F) l g C n h _ _ s K r q A hM (by simpa using hN) o4 (hg.set hgi L) hgi;exact⟨e2,d4,G,C2,J,H,_,r1,.call (o:=⟨some d,k,xs.map eX,g⟩) hg.wanted h1 hc g8 (hf h5) ⟨D,fun d hd m=>by rw[i1];exact h6 d hd m⟩ r2,r3,r4,r5,r6,r7,back r8⟩
  have ncall:∀{run:aN->Nat->(PV->aN->Nat->aB (PV×aN×Nat))->aB (PV×aN×Nat)} {xs':aA PV} {zs:aA AV} {P:AV->Hp->Prop} {nw fx:Bool},LR (RV C) xs' zs->
    (∀(hs:aN) (C0:Cx) (m:Nat) (K':PV->aN->Nat->aB (PV×aN×Nat)) (r':PV×aN×Nat),bY C0 m hs lim s->LR (RV C0) xs' zs->run hs m K'=some r'->
     ∃v h' n' C' y s',K' v h' n'=some r'/\RV C' v y/\bY C' n' h' lim s'/\m<=n'/\Fr C0 hs s C' h' s'/\P y s')->
    gL k=true->(∀y s',P y s'->((Sim.foot T k ys).all=2\/dr=0)/\(dr≠0->jE X.is dr k=4)/\∃D,∀d,D<=d->Sim.step T (exec T d) lim k ys s=some (y,s'))->
    bO1 fx run nw xs' e h n (d::kl) (fun v e h n=>cR O X dr rs ((d,v)::e) h n K)=some r->
    ∃e' h' n' C' E s' fs,K e' h' n'=some r/\Tr T X.is dr lim (mO g (.op d k xs kl rs)) {t:=t,s:=s} fs {t:=E,s:=s'}/\cS C' e' E/\bY C' n' h' lim s'/\E.length=N/\n<=n'/\Fr C h s C' h' s'/\∀(i:Nat),i∉bT (.op d k xs kl rs) []->E[i]? =t[i]? :=by
   intro run xs' zs P nw fx hz f6 g7 hP hk;obtain⟨v,e',h',n',C',y,s',q1,q2,q3,q4,q5,q6,q7⟩:=Wy hM he hz f6 hk;obtain⟨p1,p2,p3⟩:=hP y s' q7
   have A:cS C' ((d,v)::e') (t.set d y):=.put hd q2 (fun i w hw=>by
    obtain⟨z,p1,p2,p3⟩:=q3 i w hw;exact⟨z,p1,p2,fun M=>p3 (by simp[M])⟩)
   obtain⟨e2,d4,G,C2,J,H,fs,r1,r2,r3,r4,r5,r6,r7,r8⟩:=cJ Y W B rs u (d::F) l g C' n' h' _ _ s' K r q1 A q4 (by simpa using hN) o4 (hg.set hgi L) hgi;exact⟨e2,d4,G,C2,J,H,_,r1,.ncall (o:=⟨some d,k,xs.map eX,g⟩) hg.wanted h1 g7 p1 p2 p3 q6.n r2,r3,r4,r5,by omega,q6.trans r7,back r8⟩
  split at hk;rename_i ty es b zero x1 x2;obtain⟨y1,d3,rfl,p1,p2⟩:=h2.inv_cons;obtain⟨y2,f2,rfl,p3,p4⟩:=p2.inv_cons;have:=p4.inv_nil;subst this;obtain⟨C',e',h',out,q1,q2,q3,q4,q5⟩:=cA1 hM (b:=b) (zero:=zero) he hd p1 p3 hk;obtain⟨e2,q,G,C2,J,H,fs,r1,r2,r3,r4,r5,r6,r7,r8⟩:=cJ Y W B rs u (d::F) l g C' n h' e' _ _ K r q1 q4 q3 (by simpa using hN) o4 (hg.set hgi L) hgi;exact⟨e2,q,G,C2,J,H,_,r1,.op (o:=⟨some d,_,xs.map eX,g⟩) hg.wanted h1 rfl q2 r2,r3,r4,r5,r6,q5.trans r7,back r8⟩;rename_i es k0 kd hi;obtain⟨y1,d3,rfl,p1,p2⟩:=h2.inv_cons;obtain⟨y2,f2,rfl,p3,p4⟩:=p2.inv_cons;have:=p4.inv_nil;subst this;obtain⟨C',e',h',out,q1,q2,q3,q4,q5⟩:=Rv hM he hd p1 p3 hk;obtain⟨e2,q,G,C2,J,H,fs,r1,r2,r3,r4,r5,r6,r7,r8⟩:=cJ Y W B rs u (d::F) l g C' n h' e' _ _ K r q1 q4 q3 (by simpa using hN) o4 (hg.set hgi L) hgi;exact⟨e2,q,G,C2,J,H,_,r1,.op (o:=⟨some d,_,xs.map eX,g⟩) hg.wanted h1 rfl q2 r2,r3,r4,r5,r6,q5.trans r7,back r8⟩;rename_i f;cases hX1:X.is f with
  |true=>
   rw[hX1,nX2]at hk;by_cases h5:dr=5;rw[aZ,oP2 h5,nX2]at hk;cases U:X.xw f with
   |false=>rw[U]at hk;exact aD hk
   |true=>
    rw[U,nX2]at hk
    obtain⟨v,e',h',n',C',y,s',q1,q2,q3,q4,q5,q6,⟨w1,w2⟩⟩:=cK1 (P:=fun s0 y s'=>(∃ifn,T f=some ifn/\ifn.pure=false/\ifn.frz=true)/\∃D,∀d,D<=d->Sim.callF T (exec T d) lim f ys s0=some (y,s')) hM he h2 (fun C0 m K' r' s0 b5 d0 hr=>by
     have:=W.run f vs [] m K' r' C0 s0 lim ys hX1 hr d0 b5;rw[U]at this;exact this) hk
    obtain⟨s1,⟨⟨ifn,w3,w4,w5⟩,D,w6⟩,w7⟩:=w2
    have A:cS C' ((d,v)::e') (t.set d y):=.put hd q2 (fun i w hw=>by
     obtain⟨z,p1,p2,p3⟩:=q3 i w hw;exact⟨z,p1,p2,fun M=>p3 (by simp[M])⟩)
    obtain⟨e2,d4,G,C2,J,H,fs,r1,r2,r3,r4,r5,r6,r7,r8⟩:=cJ Y W B rs u (d::F) l g C' n' h' _ _ s' K r q1 A q4 (by simpa using hN) o4 (hg.set hgi L) hgi;exact⟨e2,d4,G,C2,J,H,_,r1,.xcall (o:=⟨some d,.callF f,xs.map eX,g⟩) hg.wanted h1 rfl (by simp[jE,hX1,h5]) (by simp[Sim.foot,w3,w4,w5]) ⟨D,fun d hd hid=>w7 _ hid (w6 d hd)⟩ q6.n r2,r3,r4,r5,by omega,q6.trans r7,back r8⟩
   rw[aZ,oC2 h5,oI2]at hk;cases U:(X.xw f&& !(Nat.beq dr 0))with
   |true=>rw[U]at hk;exact aD hk
   |false=>
   rw[U,oI2]at hk;refine ncall (P:=fun y s'=>(∃ifn,T f=some ifn/\ifn.pure=false/\ifn.frz=X.xw f)/\∃D,∀d,D<=d->Sim.callF T (exec T d) lim f ys s=some (y,s')) h2 (fun hs C0 m K' r' b5 d0 hr=>W.run f vs hs m K' r' C0 s lim ys hX1 hr d0 b5) rfl (fun y s' hp=>⟨?_,fun _=>by simp[jE,hX1,h5],hp.2⟩) hk;obtain⟨⟨ifn,w1,w2,w3⟩,_⟩:=hp;by_cases h0:dr=0;exact .inr h0;left;rw[aZ,oC2 h0]at U;have U:X.xw f=false:=by simpa using U
   rw[U]at w3;simp[Sim.foot,w1,w2,w3]
  |false=>
   rw[hX1,oI2]at hk;refine d6 hk h2 rfl (by simp[jE,hX1]) (fun⟨ifn,w1,w2,w3⟩=>?_) (fun d s=>rfl);simp only[Sim.foot,w1,w2,w3,oK2,qM2]
  rename_i k0 as;obtain⟨y1,d3,rfl,p1,p2⟩:=h2.inv_cons;obtain⟨id,ver,M,len,hC,rfl⟩:=Eo p1;by_cases e5:dr=3\/dr=5;rcases e5 with q|q<;>(rw[q]at hk;exact aD hk);have q:dr≠3:=fun h=>e5 (.inl h);have h5:dr≠5:=fun h=>e5 (.inr h);rw[aZ,aZ,oC2 q,oC2 h5,Bool.or_false,oI2]at hk;refine ncall (fx:=false) (P:=fun y s'=>∃D,∀d,D<=d->Sim.round (exec T d) lim id d3 s=some (y,s')) (xs':=.yld k0::as) (zs:=.fn (.yield id) [] []::d3) h2 (fun hs C0 m K' r' b5 d0 hr=>?_) rfl (fun y s' hp=>⟨.inl rfl,fun h0=>by simp only[jE];rw[nQ2 (by omega)],hp⟩) hk;obtain⟨y1,f2,e2,p3,p4⟩:=d0.inv_cons;cases e2;obtain⟨id',j0,e',i7,f9,e3⟩:=Eo p3;cases e3;exact W.yld k0 as hs m K' r' C0 s lim _ _ _ _ _ hr p4 f9 b5;rename_i f first cap as
  obtain⟨y1,d3,rfl,p1,p2⟩:=h2.inv_cons;obtain⟨a',b',rfl,p3,p4⟩:=tL p1;have hz:=(p3.append p2).append p4;cases hX1:X.is f with
  |true=>
   rw[hX1,nX2]at hk;cases b7:(Nat.beq dr 3||(Nat.beq dr 5||(X.xw f&& !(Nat.beq dr 0))))with
   |true=>rw[b7]at hk;exact aD hk
   |false=>
    rw[b7,oI2]at hk;simp only[qE2,aZ,pB2]at b7;obtain⟨q,h5,U⟩:=b7;refine ncall (P:=fun y s'=>(∃ifn,T f=some ifn/\ifn.pure=false/\ifn.frz=X.xw f)/\∃D,∀d,D<=d->Sim.callF T (exec T d) lim f (a'++d3++b') s=some (y,s')) hz (fun hs C0 m K' r' b5 d0 hr=>W.run f _ hs m K' r' C0 s lim _ hX1 hr d0 b5) rfl (fun y s' hp=>⟨?_,fun h0=>by simp only[jE];rw[nQ2 (by omega)],hp.2⟩) hk;obtain⟨⟨ifn,w1,w2,w3⟩,_⟩:=hp;by_cases h0:dr=0;exact .inr h0;left;rw[oC2 h0]at U;have U:X.xw f=false:=by simpa using U
    rw[U]at w3;simp[Sim.foot,w1,w2,w3]
  |false=>
   rw[hX1,oI2]at hk;refine d6 hk hz rfl (by simp only[jE];split<;>omega) (fun⟨ifn,w1,w2,w3⟩=>?_) (fun d s=>rfl);simp only[Sim.foot,w1,w2,w3,oK2,qM2]
  obtain⟨v,h',n',C',y,s',q1,q2,q3,q4,q5,q6,q7,q8⟩:=Pk (dr:=dr) Y hM h2 hk;simp only[dC]at q1
  have A:cS C' ((d,v)::edel e (d::kl)) (t.set d y):=.put hd q2 (fun i w hw=>by
   obtain⟨z,p1,p2,p3⟩:=(he.mono q4).edel (d::kl) i w hw;exact⟨z,p1,p2,fun M=>p3 (by simp[M])⟩)
  obtain⟨e2,q,G,C2,J,H,fs,r1,r2,r3,r4,r5,r6,r7,r8⟩:=cJ Y W B rs u (d::F) l g C' n' h' _ _ _ K r q1 A q3 (by simpa using hN) o4 (hg.set hgi L) hgi;obtain⟨f,hf⟩:=q8 ⟨some d,k,xs.map eX,g⟩ _ t fs _ rfl hg.wanted h1 r2;exact⟨e2,q,G,C2,J,H,_,r1,hf,r3,r4,r5,by omega,q6.trans r7,back r8⟩
 |.sto k xs kl rs,u,F,l,g,C,n,h,e,t,s,K,r,hk,he,hM,hN,ho,hg,hgi=>by
  simp only[gT,nJ2]at ho;obtain⟨o3,o4⟩:=ho;unfold cR at hk;rw[gK,nI2]at hk;obtain⟨vs,a0,hk⟩:=hk;obtain⟨ys,h1,h2⟩:=iK he o3 a0;obtain⟨v,h',n',C',out,q1,q2,q3,q4,q5,q6,q7,q8⟩:=It hM h2 hk;simp only[dC]at q1
  have A:cS C' (edel e kl) t:=fun i w hw=>by
   obtain⟨z,p1,p2,p3⟩:=(he.mono q5).edel kl i w hw;exact⟨z,p1,p2⟩
  obtain⟨e2,q,G,C2,J,H,fs,r1,r2,r3,r4,r5,r6,r7,r8⟩:=cJ Y W B rs u F l g C' n' h' _ t _ K r q1 A q4 hN o4 hg hgi;refine⟨e2,q,G,C2,J,H,_,r1,.op (o:=⟨none,k,xs.map eX,g⟩) hg.wanted h1 ?_ q2 r2,r3,r4,r5,by omega,q7.trans r7,fun i hi=>r8 i (by simpa only[bT]using hi)⟩;cases k with
  |callF f=>unfold dM at hk;rcases vs with _|⟨a,_|⟨b,_|⟨c,_|⟨d,t⟩⟩⟩⟩<;>exact aD hk
  |callV=>unfold dM at hk;rcases vs with _|⟨a,_|⟨b,_|⟨c,_|⟨d,t⟩⟩⟩⟩<;>exact aD hk
  |_=>rfl
 |.ifx d c w bd x' kl rs,u,F,l,g,C,n,h,e,t,s,K,r,hk,he,hM,hN,ho,hg,hgi=>by
  simp only[gT,nJ2,oB2,eL,pQ2]at ho;obtain⟨⟨⟨⟨⟨o1,o2⟩,o3⟩,o4⟩,o5⟩,o6⟩:=ho;have L:d∉u:=by simpa using o2
  unfold cR at hk;rw[fQ,nI2]at hk;obtain⟨cv,e7,hk⟩:=hk;split at hk;rename_i cb;rw[bJ,nI2]at hk;obtain⟨y,hy,hk⟩:=hk;rw[dC]at hk;obtain⟨cy,b6,e6⟩:=he c _ e7;rw[fB e6]at b6;obtain⟨fs,t1,s1,p1,p2,p3,p4,zs,p5,p6⟩:=De (T:=T) (O:=O) (X:=X) (dr:=dr) hM hN o5 o3 b6 hy (fun hb g6=>tQ Y bd (c::u) [] (some (c,w)) C n h e t s x' y hb he hM hN o5 o3 g6 (fun c' w' e=>by cases e;simp))
  have b4:Kp g t1:=by
   cases g with
   |none=>trivial
   |some p=>
    obtain⟨c',w'⟩:=p;simp only[Kp]at hg ⊢;rw[p3 c' (fun hi=>dI bd o5 c' hi (by simp[hgi c' w' rfl]))];exact hg
  have hd:d<t1.length:=by omega
  have A:cS C ((d,.v (.bool y))::edel e (d::bT bd kl)) (t1.set d (.v (.bool y))):=.put hd (.cl (.v _)) (fun i w hw=>by
   obtain⟨z,q1,q2,q3⟩:=he.edel (d::bT bd kl) i w hw;have e9:i∉bT bd []:=fun hi=>q3 (by simp[(cD bd kl i).2 (.inl hi)]);exact⟨z,by rw[p3 i e9];exact q1,q2,fun M=>q3 (by simp[M])⟩)
  obtain⟨e2,q,G,C2,J,H,f8,r1,r2,r3,r4,r5,r6,r7,r8⟩:=cJ Y W B rs u (d::F) l g C n h _ (t1.set d (.v (.bool y))) s1 K r hk A (hM.grow p4) (by simpa using p2) o6 (b4.set hgi L) hgi;refine⟨e2,q,G,C2,J,H,_,r1,p1.append (.op (o:=⟨some d,.pick,_,g⟩) b4.wanted p5 rfl p6 r2),r3,r4,r5,r6,p4.fr.trans r7,fun i hi=>?_⟩;simp only[bT,nW2,cD bd (bT rs []) i,qG2]at hi;rw[r8 i hi.2.2,nY2 (Ne.symm hi.1),p3 i hi.2.1];exact aD hk
 |.ifn d c w bd x' kl rs,u,F,l,g,C,n,h,e,t,s,K,r,hk,he,hM,hN,ho,hg,hgi=>by
  simp only[gT,nJ2,oB2,eL,pQ2]at ho;obtain⟨⟨⟨⟨⟨o1,o2⟩,o3⟩,o4⟩,o5⟩,o6⟩:=ho;have L:d∉u:=by simpa using o2
  unfold cR at hk;rw[fQ,nI2]at hk;obtain⟨cv,e7,hk⟩:=hk;split at hk;rename_i cb;simp only[nT]at hk;obtain⟨cy,b6,e6⟩:=he c _ e7;rw[fB e6]at b6
  have b7:∀t1:aA AV,(∀(i:Nat),i∉bT bd []->t1[i]? =t[i]?)->t1[c]? =some (.v (.bool cb)):=fun t1 i2=>by
   rw[i2 c (fun hi=>dI bd o5 c hi (by simp))];exact b6
  have tail:∀{y:PV} {z:AV} {M:dG} {h1:aN} {n1:Nat} {C1:Cx} {t1:aA AV} {s1:Hp} {e4:aA Foot} {zs:aA AV},gJ M (d::bT bd kl) (fun e=>cR O X dr rs ((d,y)::e) h1 n1 K)=some r->RV C1 y z->Tr T X.is dr lim (mO (some (c,w)) bd) {t:=t,s:=s} e4 {t:=t1,s:=s1}->
    cS C1 (edel M (d::bT bd kl)) t1->bY C1 n1 h1 lim s1->t1.length=N->n<=n1->Fr C h s C1 h1 s1->(∀(i:Nat),i∉bT bd []->t1[i]? =t[i]?)->
    Sim.evs t1 (if w then[.t c,eX x',.c (.v (.bool false))]else[.t c,.c (.v (.bool true)),eX x'])=some zs->doOp (Sim.look s1.h) lim s1.n .pick zs=some {v:=z}->
    ∃e' h' n' C' E s' fs,K e' h' n'=some r/\Tr T X.is dr lim (mO g (.ifn d c w bd x' kl rs)) {t:=t,s:=s} fs {t:=E,s:=s'}/\cS C' e' E/\bY C' n' h' lim s'/\E.length=N/\n<=n'/\Fr C h s C' h' s'/\∀(i:Nat),i∉bT (.ifn d c w bd x' kl rs) []->E[i]? =t[i]? :=by
   intro y z M h1 n1 C1 t1 s1 e4 zs hk i5 i3 d7 g1 g3 j2 g5 Z g4 f0;rw[dC]at hk;have hd:d<t1.length:=by omega
   have b4:Kp g t1:=by
    cases g with
    |none=>trivial
    |some p=>
     obtain⟨c',w'⟩:=p;simp only[Kp]at hg ⊢;rw[Z c' (fun hi=>dI bd o5 c' hi (by simp[hgi c' w' rfl]))];exact hg
   have A:cS C1 ((d,y)::edel M (d::bT bd kl)) (t1.set d z):=.put hd i5 (fun i w hw=>by
    obtain⟨z',q1,q2⟩:=d7 i w hw;refine⟨z',q1,q2,fun e2=>?_⟩;rw[vF,nQ2 (by simp[e2])]at hw;cases hw)
   obtain⟨e2,q,G,C2,J,H,f8,r1,r2,r3,r4,r5,r6,r7,r8⟩:=cJ Y W B rs u (d::F) l g C1 n1 h1 _ (t1.set d z) s1 K r hk A g1 (by simpa using g3) o6 (b4.set hgi L) hgi;refine⟨e2,q,G,C2,J,H,_,r1,i3.append (.op (o:=⟨some d,.pick,_,g⟩) b4.wanted g4 rfl f0 r2),r3,r4,r5,by omega,g5.trans r7,fun i hi=>?_⟩;simp only[bT,nW2,cD bd (bT rs []) i,qG2]at hi;rw[r8 i hi.2.2,nY2 (Ne.symm hi.1),Z i hi.2.1]
  have run:cb=w->cR O X dr bd e h n (fun e h n=>mV e [x'] fun vs=>match vs with
    |[y]=>gJ e (d::bT bd kl) fun e=>cR O X dr rs ((d,y)::e) h n K
    |_=>none)=some r->∃e' h' n' C' E s' fs,K e' h' n'=some r/\Tr T X.is dr lim (mO g (.ifn d c w bd x' kl rs)) {t:=t,s:=s} fs {t:=E,s:=s'}/\cS C' e' E/\bY C' n' h' lim s'/\E.length=N/\n<=n'/\Fr C h s C' h' s'/\∀(i:Nat),i∉bT (.ifn d c w bd x' kl rs) []->E[i]? =t[i]? :=by
   intro e8 hk;obtain⟨M,h1,n1,C1,t1,s1,e4,q1,q2,q3,q4,q5,q6,q7,q8⟩:=cJ Y W B bd (c::u) [] true (some (c,w)) C n h e t s _ r hk he hM hN o5 (by rw[<-e8];exact b6) (fun c' w' e=>by cases e;simp);rw[gK,nI2]at q1;obtain⟨vs,a0,q1⟩:=q1;obtain⟨ys,q,h4⟩:=iK q3 (xs:=[x']) (by simpa using o3) a0;split at q1;rename_i y;obtain⟨z,_,rfl,h5,h6⟩:=h4.inv_cons;rw[h6.inv_nil]at q
   have hz:(eX x').ev t1=some z:=by
    simp only[pZ2,qZ2,Sim.evs]at q;split at q;rename_i a b ha hb;simp only[nP2,List.cons.injEq]at q;rw[<-q.1];exact ha;cases q
   have hc:=b7 t1 q8;cases w with
   |true=>
    subst e8;exact tail q1 h5 q2 (fun i w hw=>by obtain⟨z',p1,p2,_⟩:=q3.edel _ i w hw;exact⟨z',p1,p2⟩) q4 q5 q6 q7 q8 (Jc (a:=.v (.bool true)) (b:=z) (c:=.v (.bool false)) hc hz rfl) rfl
   |false=>
    subst e8;exact tail q1 h5 q2 (fun i w hw=>by obtain⟨z',p1,p2,_⟩:=q3.edel _ i w hw;exact⟨z',p1,p2⟩) q4 q5 q6 q7 q8 (Jc (a:=.v (.bool false)) (b:=.v (.bool true)) (c:=z) hc rfl hz) rfl
   exact aD q1
  have skip:cb≠w->(gJ e (d::bT bd kl) fun e=>cR O X dr rs ((d,.v (.bool (!w)))::e) h n K)=some r->∃e' h' n' C' E s' fs,K e' h' n'=some r/\Tr T X.is dr lim (mO g (.ifn d c w bd x' kl rs)) {t:=t,s:=s} fs {t:=E,s:=s'}/\cS C' e' E/\bY C' n' h' lim s'/\E.length=N/\n<=n'/\Fr C h s C' h' s'/\∀(i:Nat),i∉bT (.ifn d c w bd x' kl rs) []->E[i]? =t[i]? :=by
   intro h9 hk;obtain⟨fs,t1,k1,k2,k3,k4⟩:=dN (T:=T) (NF:=X.is) (dr:=dr) (lim:=lim) (s:=s) (some (c,w)) bd (c::u) [] t o5 (fun c' w' e=>by cases e;simp) (by simp[Sim.wanted,b6,h9]) (fun c hc=>by simp at hc);obtain⟨z,hz⟩:=Ah (c:=0) (i:=0) (k2.trans hN) o3
   have d7:cS C (edel e (d::bT bd kl)) t1:=fun i v hv=>by
    obtain⟨z,q1,q2,q3⟩:=he.edel (d::bT bd kl) i v hv;have e9:i∉bT bd []:=fun hi=>q3 (by simp[(cD bd kl i).2 (.inl hi)]);exact⟨z,by rw[k3 i e9];exact q1,q2⟩
   have hc:=b7 t1 k3;cases w with
   |true=>
    have:cb=false:=by cases cb<;>simp_all
    subst this;exact tail hk (.cl (.v (.bool false))) k1 d7 hM (k2.trans hN) (nM2 _) (.refl _ _ _) k3 (Jc (a:=.v (.bool false)) (b:=z) (c:=.v (.bool false)) hc hz rfl) rfl
   |false=>
    have:cb=true:=by cases cb<;>simp_all
    subst this;exact tail hk (.cl (.v (.bool true))) k1 d7 hM (k2.trans hN) (nM2 _) (.refl _ _ _) k3 (Jc (a:=.v (.bool true)) (b:=.v (.bool true)) (c:=z) hc rfl hz) rfl
  cases w with
  |true=>
   rw[nX2]at hk;cases cb with
   |true=>exact run rfl hk
   |false=>exact skip (by simp) hk
  |false=>
   rw[oI2]at hk;cases cb with
   |true=>exact skip (by simp) hk
   |false=>exact run rfl hk
  exact aD hk
 |.mkfl d ty zero xs kl rs,u,F,l,g,C,n,h,e,t,s,K,r,hk,he,hM,hN,ho,hg,hgi=>by
  simp only[gT,nJ2,oB2,eL,pQ2]at ho;obtain⟨⟨⟨o1,o2⟩,o3⟩,o4⟩:=ho;have hd:d<t.length:=by omega
  have L:d∉u:=by simpa using o2
  unfold cR at hk;rw[gK,nI2]at hk;obtain⟨vs,a0,hk⟩:=hk;obtain⟨ys,h1,h2⟩:=iK he o3 a0;cases hc:(Nat.beq zero.length 1&&vs.all bP1)with
  |false=>rw[hc]at hk;exact aD hk
  |true=>
  rw[hc,nX2,dC]at hk;simp only[nJ2,aZ,nR2]at hc;obtain⟨C',out,q1,q2,q3,q4,q5⟩:=Xh (ty:=ty) hM h2 hc.1 hc.2
  have hlen:vs.length=xs.length:=by
   have:=h2.1;have q:ys.length=xs.length:=(Pq h1).trans (by simp);omega
  rw[hlen]at q1
  have A:cS C' ((d,.own n)::edel e (d::kl)) (t.set d out.v):=.put hd q2 (fun i w hw=>by
   obtain⟨z,p1,p2,p3⟩:=(he.mono q4).edel (d::kl) i w hw;exact⟨z,p1,p2,fun M=>p3 (by simp[M])⟩)
  obtain⟨e2,q,G,C2,J,H,fs,r1,r2,r3,r4,r5,r6,r7,r8⟩:=cJ Y W B rs u (d::F) l g C' (n+1) _ _ _ _ K r hk A q3 (by simpa using hN) o4 (hg.set hgi L) hgi;refine⟨e2,q,G,C2,J,H,_,r1,.op (o:=⟨some d,.buildSl ty 1 xs.length zero (List.range xs.length),xs.map eX,g⟩) hg.wanted h1 rfl q1 r2,r3,r4,r5,by omega,q5.trans r7,fun i hi=>?_⟩;simp only[bT,nW2,qG2]at hi;rw[r8 i hi.2,nY2 (Ne.symm hi.1)]
 |.lax d es rs,u,F,l,g,C,n,h,e,t,s,K,r,hk,he,hM,hN,ho,hg,hgi=>by
  simp only[gT]at ho;unfold cR at hk;rw[fQ,nI2]at hk;obtain⟨v,hv,hk⟩:=hk;obtain⟨y,b0,V⟩:=he d _ hv
  have d9:∀v',RV C v' y->cS C ((d,v')::edel e [d]) t:=fun v' hv' i w hw=>by
   simp only[dE]at hw;split at hw;rename_i M;subst M;cases hw;exact⟨y,b0,hv'⟩;obtain⟨z,q1,q2,_⟩:=he.edel [d] i w hw;exact⟨z,q1,q2⟩
  split at hk;rename_i s';rw[dC]at hk;rw[fB V]at d9;exact cJ Y W B rs u F l g C n h _ t s K r hk (d9 _ (.cl .isn)) hM hN ho hg hgi;rename_i cs;obtain⟨cs',h1,h2⟩:∃cs',y=.agg cs'/\LR (RV C) cs cs':=kS V;subst h1;obtain⟨cs2,q1,q2⟩:=Pp h2 hk;rw[dC]at q1;exact cJ Y W B rs u F l g C n h _ t s K r q1 (d9 _ (.agg q2.1 q2.2)) hM hN ho hg hgi;exact aD hk
 |.own d ty es g' rs,u,F,l,g,C,n,h,e,t,s,K,r,hk,he,hM,hN,ho,hg,hgi=>by
  simp only[gT]at ho;unfold cR at hk;rw[fQ,nI2]at hk;obtain⟨v,hv,hk⟩:=hk;obtain⟨y,b0,V⟩:=he d _ hv;split at hk;rw[dC]at hk;have hy:=fB V;subst hy;obtain⟨m1,m2⟩:=Vn hM (ty:=ty) (e:=es) (g:=g');have d8:=jZ hM .nil
  have A:cS (ext C n .nil) ((d,.own n)::edel e [d]) t:=fun i w hw=>by
   simp only[dE]at hw;split at hw;rename_i M;subst M;cases hw;exact⟨_,b0,.ownn (by simp[ext]) rfl⟩;obtain⟨z,q1,q2,_⟩:=he.edel [d] i w hw;exact⟨z,q1,q2.mono d8⟩
  obtain⟨e2,q,G,C2,J,H,fs,r1,r2,r3,r4,r5,r6,r7,r8⟩:=cJ Y W B rs u F l g _ (n+1) _ _ t s K r hk A m1 hN ho hg hgi;exact⟨e2,q,G,C2,J,H,fs,r1,r2,r3,r4,r5,by omega,m2.trans r7,r8⟩;exact aD hk
 |.laxc d j es rs,u,F,l,g,C,n,h,e,t,s,K,r,hk,he,hM,hN,ho,hg,hgi=>by
  simp only[gT]at ho;unfold cR at hk;rw[fQ,nI2]at hk;obtain⟨v,hv,hk⟩:=hk;obtain⟨y,b0,V⟩:=he d _ hv;split at hk;rename_i k o0;rw[eF,nI2]at hk;obtain⟨ob,S,hk⟩:=hk;split at hk;rename_i cs;obtain⟨id,ver,M,l1,hC,rfl⟩:=kA V;obtain⟨hj,hk⟩:=cZ _ _ _ _ hk;split at hk;rename_i tl b9;obtain⟨f1,hk⟩:=gR _ _ _ _ _ hk;have hk:=cE _ _ _ _ _ hk
  have b8:cs[j]? =some (.v (.slice none 0 0)):=by
   have:(cs.drop j)[0]? =some (.v (.slice none 0 0)):=by rw[b9];rfl
   simpa using this
  obtain⟨f5,d2,esz,row,hL,hl⟩:=rQ hM S hC;have hid:=(hM.hr.lt (by rw[S];simp) hC)
  obtain⟨m1,m2⟩:=nX hM (po':=.box (Sim.setL cs j [.is es []])) (ao:=.arr true d2 esz ver [row]) S hC ⟨hid.1,hid.2,d2,esz,row,by rw[Sim.look_upd,nQ2 ⟨rfl,by rw[hL];rfl⟩],by
   refine⟨by rw[<-hl.1];simp[Sim.setL],fun i a b ha hb=>?_⟩;simp only[Sim.setL]at ha;rw[oG2]at ha;split at ha;rename_i e2;subst e2;split at ha;cases ha;have:=fB (hl.2 j _ _ b8 hb);subst this;exact .cl .isn;cases ha;exact hl.2 i a b ha hb⟩ rfl
  have Z:({h:=upd s.h id (.arr true d2 esz ver [row]),n:=s.n}:Hp)=s:=by
   rw[tW hL]
  rw[Z]at m1 m2;obtain⟨e2,q,G,C2,J,H,fs,r1,r2,r3,r4,r5,r6,r7,r8⟩:=cJ Y W B rs u F l g _ n _ _ t s K r hk he m1 hN ho hg hgi;exact⟨e2,q,G,C2,J,H,fs,r1,r2,r3,r4,r5,by omega,m2.trans r7,r8⟩;exact aD hk;exact aD hk;exact aD hk
 |.ownc d j ty es g' rs,u,F,l,g,C,n,h,e,t,s,K,r,hk,he,hM,hN,ho,hg,hgi=>by
  simp only[gT]at ho;unfold cR at hk;rw[fQ,nI2]at hk;obtain⟨v,hv,hk⟩:=hk;obtain⟨y,b0,V⟩:=he d _ hv;split at hk;rename_i k o0;rw[eF,nI2]at hk;obtain⟨ob,S,hk⟩:=hk;split at hk;rename_i cs;obtain⟨id,ver,M,l1,hC,rfl⟩:=kA V;obtain⟨hj,hk⟩:=cZ _ _ _ _ hk;split at hk;rename_i tl b9;obtain⟨bR,hk⟩:=gR _ _ _ _ _ hk;have hk:=cE _ _ _ _ _ hk;have d8:=jZ hM .nil
  have b8:cs[j]? =some (.v (.slice none 0 0)):=by
   have:(cs.drop j)[0]? =some (.v (.slice none 0 0)):=by rw[b9];rfl
   simpa using this
  obtain⟨m1,m2⟩:=cL1 (ty:=ty) (e':=es) (g:=g') (cs2:=Sim.setL cs j [.own n]) hM S hC (fun row d5=>by
   refine⟨by rw[<-d5.1];simp[Sim.setL],fun i a b ha hb=>?_⟩;simp only[Sim.setL]at ha;rw[oG2]at ha;split at ha;rename_i e2;subst e2;split at ha;cases ha;have:=fB (d5.2 j _ _ b8 hb);subst this;exact .ownn (by simp[ext]) rfl;cases ha;exact(d5.2 i a b ha hb).mono d8)
  obtain⟨e2,q,G,C2,J,H,fs,r1,r2,r3,r4,r5,r6,r7,r8⟩:=cJ Y W B rs u F l g _ (n+1) _ _ t s K r hk (he.mono d8) m1 hN ho hg hgi;exact⟨e2,q,G,C2,J,H,fs,r1,r2,r3,r4,r5,by omega,m2.trans r7,r8⟩;exact aD hk;exact aD hk;exact aD hk
 |.fz d j rs,u,F,l,g,C,n,h,e,t,s,K,r,hk,he,hM,hN,ho,hg,hgi=>by
  simp only[gT]at ho;unfold cR at hk;rw[fQ,nI2]at hk;obtain⟨v,hv,hk⟩:=hk;obtain⟨y,b0,V⟩:=he d _ hv
  have fin:∀{m k v0 y0},zR v0=some (m,k)->RV C v0 y0->((j=none/\y=y0)\/∃i cs',j=some i/\y=.agg cs'/\cs'[i]? =some y0)->fzK e h d m k j (fun e h=>cR O X dr rs e h n K)=some r->
    ∃e' h' n' C' E s' fs,K e' h' n'=some r/\Tr T X.is dr lim (mO g rs) {t:=t,s:=s} fs {t:=E,s:=s'}/\cS C' e' E/\bY C' n' h' lim s'/\E.length=N/\n<=n'/\Fr C h s C' h' s'/\∀(i:Nat),i∉bT rs []->E[i]? =t[i]? :=fun{m k v0 y0} hn i4 hj hk=>by
   obtain⟨C',e',h',q1,q2,q3,q4⟩:=cB1 hM he hv b0 V hn i4 hj hk;obtain⟨e2,q,G,C2,J,H,fs,r1,r2,r3,r4,r5,r6,r7,r8⟩:=cJ Y W B rs u F l g C' n _ _ t s K r q1 q3 q2 hN ho hg hgi;exact⟨e2,q,G,C2,J,H,fs,r1,r2,r3,r4,r5,r6,q4.trans r7,r8⟩
  cases j with
  |none=>
   simp only at hk;split at hk;rename_i m k hn;exact fin hn V (.inl ⟨rfl,rfl⟩) hk;exact aD hk
  |some j=>
   simp only at hk;cases v with
   |agg cs=>
    obtain⟨cs',rfl,hl⟩:=kS V;obtain⟨hj,hk⟩:=cZ _ _ _ _ hk;split at hk;rename_i c tl b9
    have b8:cs[j]? =some c:=by
     have:(cs.drop j)[0]? =some c:=by rw[b9];rfl
     simpa using this
    obtain⟨y0,k1,k2⟩:=hl.get b8;split at hk;rename_i m k hn;exact fin hn k2 (.inr ⟨j,cs',rfl,rfl,k1⟩) hk;exact aD hk;exact aD hk
   |_=>exact aD hk
 |.laxm d j rs,u,F,l,g,C,n,h,e,t,s,K,r,hk,he,hM,hN,ho,hg,hgi=>by
  simp only[gT]at ho;unfold cR at hk;rw[fQ,nI2]at hk;obtain⟨v,hv,hk⟩:=hk;obtain⟨y,b0,V⟩:=he d _ hv;split at hk;rw[dC]at hk;have hy:=fB V;subst hy
  have A:cS C ((d,.zm [])::edel e [d]) t:=fun i w hw=>by
   simp only[dE]at hw;split at hw;rename_i M;subst M;cases hw;exact⟨_,b0,.zm0⟩;obtain⟨z,q1,q2,_⟩:=he.edel [d] i w hw;exact⟨z,q1,q2⟩
  exact cJ Y W B rs u F l g C n h _ t s K r hk A hM hN ho hg hgi;rename_i j k o;rw[eF,nI2]at hk;obtain⟨ob,S,hk⟩:=hk;split at hk;rename_i cs;obtain⟨id,ver,M,l1,hC,rfl⟩:=kA V;obtain⟨hj,hk⟩:=cZ _ _ _ _ hk;split at hk;rename_i tl b9;obtain⟨f1,hk⟩:=gR _ _ _ _ _ hk;have hk:=cE _ _ _ _ _ hk
  have b8:cs[j]? =some (.v (.map none)):=by
   have:(cs.drop j)[0]? =some (.v (.map none)):=by rw[b9];rfl
   simpa using this
  obtain⟨f5,d2,esz,row,hL,hl⟩:=rQ hM S hC;have hid:=(hM.hr.lt (by rw[S];simp) hC)
  obtain⟨m1,m2⟩:=nX hM (po':=.box (Sim.setL cs j [.zm []])) (ao:=.arr true d2 esz ver [row]) S hC ⟨hid.1,hid.2,d2,esz,row,by rw[Sim.look_upd,nQ2 ⟨rfl,by rw[hL];rfl⟩],by
   refine⟨by rw[<-hl.1];simp[Sim.setL],fun i a b ha hb=>?_⟩;simp only[Sim.setL]at ha;rw[oG2]at ha;split at ha;rename_i e2;subst e2;split at ha;cases ha;have:=fB (hl.2 j _ _ b8 hb);subst this;exact .zm0;cases ha;exact hl.2 i a b ha hb⟩ rfl
  have Z:({h:=upd s.h id (.arr true d2 esz ver [row]),n:=s.n}:Hp)=s:=by
   rw[tW hL]
  rw[Z]at m1 m2;obtain⟨e2,q,G,C2,J,H,fs,r1,r2,r3,r4,r5,r6,r7,r8⟩:=cJ Y W B rs u F l g _ n _ _ t s K r hk he m1 hN ho hg hgi;exact⟨e2,q,G,C2,J,H,fs,r1,r2,r3,r4,r5,by omega,m2.trans r7,r8⟩;exact aD hk;exact aD hk;exact aD hk
 |.opn d m x kl js rs,u,F,l,g,C,n,h,e,t,s,K,r,hk,he,hM,hN,ho,hg,hgi=>by
  simp only[gT,nJ2,oB2,eL,pQ2]at ho;obtain⟨⟨⟨o1,o2⟩,o3⟩,o4⟩:=ho;have hd:d<t.length:=by omega
  have L:d∉u:=by simpa using o2
  unfold cR at hk;rw[gK,nI2]at hk;obtain⟨vs,a0,hk⟩:=hk;obtain⟨ys,h1,h2⟩:=iK he o3 a0
  have fin:∀{k:eE},k≠.callV->(∀f,k≠.callF f)->kY1 C n h lim s k ys (fun v h n=>gJ e (d::kl) fun e=>cR O X dr rs ((d,v)::e) h n K) r->
    ∃e' h' n' C' E s' fs,K e' h' n'=some r/\Tr T X.is dr lim (⟨some d,k,[eX x],g⟩::mO g rs) {t:=t,s:=s} fs {t:=E,s:=s'}/\cS C' e' E/\bY C' n' h' lim s'/\E.length=N/\n<=n'/\Fr C h s C' h' s'/\∀(i:Nat),i∉d::bT rs []->E[i]? =t[i]? :=fun{k} h8 g9 hr=>by
   obtain⟨v,h',n',C',y',p1,p2,p3,p4,p5,p6,p7⟩:=hr;simp only[dC]at p1
   have A:cS C' ((d,v)::edel e (d::kl)) (t.set d y'):=.put hd p3 (fun i w hw=>by
    obtain⟨z,p1,p2,p3⟩:=(he.mono p6).edel (d::kl) i w hw;exact⟨z,p1,p2,fun M=>p3 (by simp[M])⟩)
   obtain⟨e2,q,G,C2,J,H,fs,r1,r2,r3,r4,r5,r6,r7,r8⟩:=cJ Y W B rs u (d::F) l g C' n' h' _ _ s K r p1 A p4 (by simpa using hN) o4 (hg.set hgi L) hgi;refine⟨e2,q,G,C2,J,H,_,r1,.op (o:=⟨some d,k,[eX x],g⟩) (out:={v:=y'}) hg.wanted h1 ?_ p2 r2,r3,r4,r5,by omega,p7.trans r7,fun i hi=>?_⟩;cases k<;>first|rfl|exact absurd rfl h8|exact absurd rfl (g9 _)
   simp only[nW2,qG2]at hi;rw[r8 i hi.2,nY2 (Ne.symm hi.1)]
  split at hk;rename_i k i o;obtain⟨y,_,rfl,q,h4⟩:=h2.inv_cons;rw[h4.inv_nil]at fin;rw[eF,nI2]at hk;obtain⟨ob,S,hk⟩:=hk;cases ob with
  |tr tt rows hs=>
   cases m with
   |none=>exact fin (k:=.loadS) (fun h=>by cases h) (fun f h=>by cases h) ((Pn hM S q).1 hk)
   |some m=>exact fin (k:=.loadA m) (fun h=>by cases h) (fun f h=>by cases h) ((Pn hM S q).2 m hk)
  |_=>exact aD hk
  exact aD hk
 |.bst d tt len zero parts xs kl rs,u,F,l,g,C,n,h,e,t,s,K,r,hk,he,hM,hN,ho,hg,hgi=>by
  simp only[gT,nJ2,oB2,eL,pQ2]at ho;obtain⟨⟨⟨o1,o2⟩,o3⟩,o4⟩:=ho;have hd:d<t.length:=by omega
  have L:d∉u:=by simpa using o2
  unfold cR at hk;rw[gK,nI2]at hk;obtain⟨vs,a0,hk⟩:=hk;obtain⟨ys,h1,h2⟩:=iK he o3 a0;obtain⟨ty,es,ks⟩:=tt;simp only at hk;cases hc:(Ek 0 parts&&(Nat.beq zero.length es&&(!(eO ty)&&Nat.beq parts.length len)))with
  |false=>rw[hc]at hk;exact aD hk
  |true=>
  rw[hc,nX2]at hk;obtain⟨rows,hs,C',out,q0,q1,q2,q3,q4,q5⟩:=cG1 hM h2 hc hk;rw[dC]at q0
  have A:cS C' ((d,.own n)::edel e (d::kl)) (t.set d out.v):=.put hd q2 (fun i w hw=>by
   obtain⟨z,p1,p2,p3⟩:=(he.mono q4).edel (d::kl) i w hw;exact⟨z,p1,p2,fun M=>p3 (by simp[M])⟩)
  obtain⟨e2,q,G,C2,J,H,fs,r1,r2,r3,r4,r5,r6,r7,r8⟩:=cJ Y W B rs u (d::F) l g C' (n+1) _ _ _ _ K r q0 A q3 (by simpa using hN) o4 (hg.set hgi L) hgi;refine⟨e2,q,G,C2,J,H,_,r1,.op (o:=⟨some d,.buildSl ty es len zero parts,xs.map eX,g⟩) hg.wanted h1 rfl q1 r2,r3,r4,r5,by omega,q5.trans r7,fun i hi=>?_⟩;simp only[bT,nW2,qG2]at hi;rw[r8 i hi.2,nY2 (Ne.symm hi.1)]
 |.clr d es zero x y' kl rs,u,F,l,g,C,n,h,e,t,s,K,r,hk,he,hM,hN,ho,hg,hgi=>by
  simp only[gT,nJ2,oB2,eL,pQ2]at ho;obtain⟨⟨⟨o1,o2⟩,o3⟩,o4⟩:=ho;have hd:d<t.length:=by omega
  have L:d∉u:=by simpa using o2
  unfold cR at hk;rw[gK,nI2]at hk;obtain⟨vs,a0,hk⟩:=hk;obtain⟨ys,h1,h2⟩:=iK he o3 a0;split at hk;rename_i k kd lo;obtain⟨y1,d3,rfl,q,h4⟩:=h2.inv_cons;obtain⟨y2,f2,rfl,h5,h6⟩:=h4.inv_cons;have:=h6.inv_nil;subst this;rw[fB h5]at h1;rw[eF,nI2]at hk;obtain⟨ob,S,hk⟩:=hk;split at hk;rename_i ty es' g' rows;cases hc:(Nat.beq es' es&&Nat.beq zero.length es)with
  |false=>rw[hc]at hk;exact aD hk
  |true=>
   rw[hc,nX2,nV,bJ,nI2]at hk;obtain⟨i6,f4,hk⟩:=hk;simp only[nJ2,aZ,nR2]at hc;obtain⟨rfl,hz⟩:=hc;have hk:=cE _ _ _ _ _ hk;rw[dC]at hk;obtain⟨v,out,q1,q2,q3,q4⟩:=cI1 (kd:=kd) hM S hz q f4
   have A:cS C (edel e (d::kl)) (t.set d v):=fun i w hw=>by
    obtain⟨z,p1,p2,p3⟩:=he.edel (d::kl) i w hw;exact⟨z,by rw[nY2 (fun M=>p3 (by simp[M]))];exact p1,p2⟩
   have b4:=hg.set (y:=v) hgi L;obtain⟨e2,h7,G,C2,J,H,fs,r1,r2,r3,r4,r5,r6,r7,r8⟩:=cJ Y W B rs u (d::F) l g C n _ _ _ _ K r hk A q3 (by simpa using hN) o4 b4 hgi;refine⟨e2,h7,G,C2,J,H,_,r1,.op (o:=⟨some d,.slc es' true false false,[eX x,eX y'],g⟩) (out:={v:=v}) hg.wanted h1 rfl q1 (.op (o:=⟨none,.clear es' zero,[.t d],g⟩) (xs:=[v]) b4.wanted ?_ rfl q2 r2),r3,r4,r5,r6,q4.trans r7,fun i hi=>?_⟩;show Sim.evs (t.set d v) [.t d]=some [v]
   simp[Sim.evs,Sim.IX.ev,hd];simp only[bT,nW2,qG2]at hi;rw[r8 i hi.2,nY2 (Ne.symm hi.1)]
  exact aD hk;exact aD hk
 |.gc kp rs,u,F,l,g,C,n,h,e,t,s,K,r,hk,he,hM,hN,ho,hg,hgi=>by
  simp only[gT]at ho;unfold cR at hk;obtain⟨e0,hk,f7⟩:=Mi hk;obtain⟨i9,hk⟩:=rU (fR 5) _ _ _ _ hk;obtain⟨ns,hk⟩:=dS _ _ _ _ _ hk;obtain⟨h0,hk,i0⟩:=Aq hk;obtain⟨m1,m2⟩:=cJ1 hM i0;obtain⟨C',e',h',q1,q2,q3,q4⟩:=Xb _ m1 (fun i v hv=>he i v (f7 i v hv)) hk;obtain⟨e2,q,G,C2,J,H,fs,r1,r2,r3,r4,r5,r6,r7,r8⟩:=cJ Y W B rs u F l g C' n h' _ t s K r q1 q3 q2 hN ho hg hgi;exact⟨e2,q,G,C2,J,H,fs,r1,r2,r3,r4,r5,r6,(m2.trans q4).trans r7,r8⟩
 |.tre d j tt rs,u,F,l,g,C,n,h,e,t,s,K,r,hk,he,hM,hN,ho,hg,hgi=>by
  simp only[gT]at ho;unfold cR at hk;obtain⟨v,hk⟩:=Mh hk;split at hk;rename_i k;rw[eF,nI2]at hk;obtain⟨ob,S,hk⟩:=hk;split at hk;rename_i ty es g';obtain⟨ty',es',ks⟩:=tt;simp only at hk;cases hc:(Nat.beq ty ty'&&(Nat.beq es es'&& !(eO ty)))with
  |false=>rw[hc]at hk;exact aD hk
  |true=>
   rw[hc,nX2]at hk;simp only[nJ2,aZ,nR2,oB2]at hc;obtain⟨rfl,rfl,hf⟩:=hc;have hk:=cE _ _ _ _ _ hk;obtain⟨m1,m2⟩:=cH1 (ks:=ks) hM S hf;obtain⟨e2,q,G,C2,J,H,fs,r1,r2,r3,r4,r5,r6,r7,r8⟩:=cJ Y W B rs u F l g C n _ _ t s K r hk he m1 hN ho hg hgi;exact⟨e2,q,G,C2,J,H,fs,r1,r2,r3,r4,r5,r6,m2.trans r7,r8⟩
  exact aD hk;exact aD hk
end
end Go.P
namespace Go.P
open Go.Sim (AV AO Hp eJ upd St IC IX Ex eE CK Wf Out doOp iG exec Foot wanted put popMark)
def bW (C:Cx) (n:Nat):Cx:=⟨fun k=>if k<n then C k else none,C.z,C.w⟩
theorem lV {C:Cx} {n:Nat} {x:PV} {y:AV} (h:RV C x y):∀{d:Nat},mY n d x=true->RV (bW C n) x y:=by
 have lt:∀{k d:Nat} {pl:Pl},C k=some pl->Nat.blt k n=true->bW C n k=some pl:=fun h1 h2=>by
  simp only[pQ2]at h2;simp[bW,h2,h1]
 induction h with
 |cl h=>intro d hb;exact .cl h
 |undef=>intro d hb;exact .undef
 |ref h=>intro d hb;cases d with
  |zero=>cases hb
  |succ d=>exact .ref (lt (d:=0) h hb)
 |own h=>intro d hb;cases d with
  |zero=>cases hb
  |succ d=>exact .own (lt (d:=0) h hb)
 |ownn h hy=>intro d hb;cases d with
  |zero=>cases hb
  |succ d=>exact .ownn (lt (d:=0) h hb) hy
 |el h=>intro d hb;cases d with
  |zero=>cases hb
  |succ d=>exact .el (lt (d:=0) h hb)
 |map h=>intro d hb;cases d with
  |zero=>cases hb
  |succ d=>exact .map (lt (d:=0) h hb)
 |yld h=>intro d hb;cases d with
  |zero=>cases hb
  |succ d=>exact .yld (lt (d:=0) h hb)
 |fn h1 h2 v1 v2 i1 i2=>intro d hb;cases d with
  |zero=>cases hb
  |succ d=>
   simp only[mY,nJ2]at hb;exact .fn h1 h2 (fun j x y a hy=>i1 j x y a hy (nN2.1 hb.1 x (nU2 a))) (fun j x y a hy=>i2 j x y a hy (nN2.1 hb.2 x (nU2 a)))
 |agg hl hc ih=>intro d hb;cases d with
  |zero=>cases hb
  |succ d=>exact .agg hl (fun j x y a hy=>ih j x y a hy (nN2.1 hb x (nU2 a)))
 |tup hl hc ih=>intro d hb;cases d with
  |zero=>cases hb
  |succ d=>exact .tup hl (fun j x y a hy=>ih j x y a hy (nN2.1 hb x (nU2 a)))
 |zs h=>intro d hb;exact .zs h
 |zm h he=>intro d hb;exact .zm h he
 |zm0=>intro d hb;exact .zm0
theorem dQ.lk {L L':Nat->aB AO} {w:Nat->aB (Nat×Nat×Nat)} {lim nS:Nat} (c:∀id ty e v els,L id=some (.arr false ty e v els)->L' id=some (.arr false ty e v els)):∀{d:Nat} {sl:Nat×Nat×Nat} {t:TD} {x:PV} {y:AV},dQ L w lim nS d sl t x y->dQ L' w lim nS d sl t x y
 |0,_,_,_,_,h=>h.elim
 |d+1,sl,.nd ty e ks,x,y,h=>by
  obtain⟨rows,h1,h2⟩:=h
  refine⟨rows,h1,?_⟩
  rcases h2 with h2|⟨id,ver,els,k1,k2,k3,k4,kf,k5,k6,k7⟩
  exact .inl h2
  refine .inr ⟨id,ver,els,k1,k2,k3,k4,kf,c _ _ _ _ _ k5,k6,fun i r r' a b=>⟨(k7 i r r' a b).1,fun j x1 f a1 b1=>?_⟩⟩
  have:=(k7 i r r' a b).2 j x1 f a1 b1
  cases hk:eH ks j with
  |none=>rw[hk]at this;exact this
  |some t=>rw[hk]at this;exact dQ.lk c this
section
variable {R:Type}
theorem Jg:∀(e:dG) (i:Nat) (K:PV->aB R) (D:aB R),On e i K D=match dE e i with|some v=>K v|none=>D
 |[],_,_,_=>rfl
 |(j,v)::r,i,K,D=>by
  simp only[On,dE,aZ]
  by_cases h:j=i<;>simp[h,Jg r i K D]
theorem vS {e:dG} {n:Nat}:∀{is:aA Nat} {K:dG->aB R} {r:R},Il e is n K=some r->∃e',K e'=some r/\∀i v,dE e' i=some v->dE e i=some v/\mY n 4 v=true
 |[],K,r,h=>⟨[],h,fun i v h=>by simp[dE]at h⟩
 |i::is,K,r,h=>by
  unfold Il at h
  rw[Jg]at h
  cases hv:dE e i with
  |none=>rw[hv]at h;exact vS h
  |some v=>
   rw[hv]at h
   simp only at h
   cases hb:mY n 4 v with
   |false=>rw[hb]at h;exact aD h
   |true=>
    rw[hb,nX2]at h
    obtain⟨e',h1,h2⟩:=vS h
    refine⟨_,h1,fun j w hw=>?_⟩
    simp only[dE]at hw
    split at hw
    rename_i a;subst a;cases hw;exact⟨hv,hb⟩
    exact h2 j w hw
theorem Dl {h:aN} {n:Nat}:∀{r:aN} {K:aN->aB R} {x:R},Oo r h n K=some x->∃h',K h'=some x/\∀k,(aK r k=none->aK h' k=none)/\(aK r k≠none->∃o,aK h' k=some o/\aK h k=some o/\tH n o=true)
 |[],K,x,hk=>⟨[],hk,fun k=>⟨fun _=>rfl,fun h=>absurd rfl h⟩⟩
 |(j,o)::r,K,x,hk=>by
  unfold Oo at hk
  rw[eF,nI2]at hk
  obtain⟨o',b,hk⟩:=hk
  cases hb:tH n o' with
  |false=>rw[hb]at hk;exact aD hk
  |true=>
   rw[hb,nX2]at hk
   obtain⟨h',h1,h2⟩:=Dl hk
   refine⟨_,h1,fun k=>?_⟩
   simp only[aK]
   by_cases a:j=k
   subst a
   simp only[oK2]
   exact⟨fun h=>(by cases h),fun _=>⟨o',rfl,b,hb⟩⟩
   simp only[nS2 a]
   exact h2 k
variable {C0 C:Cx} {n0 n:Nat} {h0 h:aN} {e:dG} {t:List AV} {s0 s:Hp} {lim:Nat}
theorem nE (hd:∀k,aK h0 k≠none->k<n0) (u:bY C n h lim s) (he:cS C e t) {keep:aA Nat} {K:Im->aB R} {r:R} (hk:lQ keep h0 n0 e h K=some r):
  ∃st,K st=some r/\cS (bW C n0) st.e t/\bY (bW C n0) n0 st.h lim s/\(∀k o,aK st.h k=some o->aK h k=some o)/\(∀k,aK h0 k=none↔aK st.h k=none):=by
 unfold lQ at hk;obtain⟨e',hk,h1⟩:=vS hk;obtain⟨h',hk,h2⟩:=Dl hk
 have p:∀k o,aK h' k=some o->aK h k=some o/\tH n0 o=true/\k<n0:=fun k o m=>by
  by_cases z:aK h0 k=none;rw[(h2 k).1 z]at m;cases m;obtain⟨o',q1,q2,q3⟩:=(h2 k).2 z;rw[m]at q1;cases q1;exact⟨q2,q3,hd k z⟩
 have hr:∀k pl,bW C n0 k=some pl->C k=some pl/\k<n0:=fun k pl hk=>by
  simp only[bW]at hk;split at hk;rename_i E;exact⟨hk,E⟩;cases hk
 have F:∀k,aK h' k≠none->aK h k≠none:=fun k hk=>by
  cases m:aK h' k with
  |none=>exact absurd m hk
  |some o=>rw[(p k o m).1];simp
 refine⟨_,hk,fun i v hv=>?_,⟨⟨fun k o D=>?_,fun k k' id v e l v' e' l' a b c d=>?_,fun id o z=>?_,fun k id v e l a b=>u.hr.wn k id v e l (F k a) (hr _ _ b).1,u.hr.wb,u.hr.wz⟩,fun k pl hk=>(hr k pl hk).2,u.wf,u.lim⟩,fun k o m=>(p k o m).1,fun k=>⟨(h2 k).1,fun z=>?_⟩⟩;obtain⟨q1,q2⟩:=h1 i v hv;obtain⟨y,p1,p2⟩:=he i v q1;exact⟨y,p1,lV p2 q2⟩;obtain⟨q1,q2,q3⟩:=p k o D;obtain⟨pl,p1,p2⟩:=u.hr.ob k o q1;refine⟨pl,by simp[bW,q3,p1],?_⟩;cases o with
 |box cs=>
  cases pl with
  |nil=>exact p2
  |atp id ver e len=>
   obtain⟨a1,a2,ty,esz,row,a3,a4⟩:=p2;exact⟨a1,a2,ty,esz,row,a3,a4.1,fun j x y q hy=>lV (a4.2 j x y q hy) (nN2.1 q2 x (nU2 q))⟩
 |lst ty e g rows=>cases pl<;>exact p2
 |lz ty e dp rows=>cases pl<;>exact p2
 |mp es=>cases pl<;>exact p2
 |tr tt rows hs=>
  obtain⟨ty,e,ks⟩:=tt;cases pl with
  |nil=>exact p2
  |atp id ver e len=>
   obtain⟨a1,a2,a3,a4,G,els,d,a5,a6,a7⟩:=p2;refine⟨a1,a2,a3,a4,G,els,d,a5,a6,fun i r r' c1 c2=>⟨(a7 i r r' c1 c2).1,fun j a b c3 c4=>?_⟩⟩;have:=(a7 i r r' c1 c2).2 j a b c3 c4;unfold TC at this ⊢;cases hkd:eH ks j with
   |none=>rw[hkd]at this;exact this
   |some t2=>
    rw[hkd]at this;rcases this with⟨b1,b2⟩|b1;exact .inl ⟨b1,fun x q=>lV (b2 x q) (nN2.1 q2 _ q)⟩;exact .inr b1
 |fl fs=>
  cases pl with
  |nil=>exact p2
  |atp id ver e len=>
   obtain⟨a1,a2,a3,a4,ty,els,a5,a6,a7⟩:=p2;refine⟨a1,a2,a3,a4,ty,els,a5,a6,fun i f row hf w=>?_⟩;have B:=nN2.1 q2 f (nU2 hf);refine⟨(a7 i f row hf w).1,fun j x y q hy=>?_⟩;cases j with
   |zero=>simp at q;subst q;exact lV ((a7 i f row hf w).2 0 f y rfl hy) B
   |succ j=>simp at q
 |loop N' e ps a b busy fin=>
  cases pl with
  |nil=>exact p2
  |atp id ver e' len=>
   obtain⟨a1,a2,st,pend,tmps,a3,a4,a5,a6⟩:=p2;refine⟨a1,a2,st,pend,tmps,a3,a4,fun i v hv=>?_,a6⟩;obtain⟨y,H,J⟩:=a5 i v hv;exact⟨y,H,lV J (nN2.1 q2 _ (Ai hv))⟩
 exact u.hr.inj k k' id v e l v' e' l' (F k a) (F k' b) (hr _ _ c).1 (hr _ _ d).1;obtain⟨z1,z2,z3,z4⟩:=u.hr.zr id o z;refine⟨z1,z2,fun k v e l a b=>z3 k v e l ?_ (hr _ _ b).1,z4⟩;cases m:aK h' k with
 |none=>exact absurd m a
 |some o=>rw[(p k o m).1];simp
 by_cases A:aK h0 k=none;exact A;obtain⟨o,q1,_⟩:=(h2 k).2 A;rw[z]at q1;cases q1
theorem Fr.canon {h1 hc:aN} (d:bY C0 n0 h1 lim s0) (hf:Fr C0 h1 s0 C h s) (a:∀k o,aK hc k=some o->aK h k=some o) (b:∀k,aK h1 k=none↔aK hc k=none):Fr C0 h1 s0 (bW C n0) hc s:=by
 refine⟨hf.sk,hf.n,hf.keep,fun id hid c=>hf.own id hid ?_,fun k o hk=>?_,hf.zl,hf.zn⟩;rcases c with⟨k,v,e,l,q1,q2⟩|c;refine .inl ⟨k,v,e,l,?_,?_⟩;cases c:aK hc k with
 |none=>exact absurd c q1
 |some o=>rw[a k o c];simp
 simp only[bW]at q2;split at q2;exact q2;cases q2;exact .inr c;obtain⟨o',q1,q2⟩:=hf.kd k o hk
 have f:k<n0:=by
  obtain⟨pl,p1,_⟩:=d.hr.ob k o hk;exact d.dom k pl p1
 cases hz:aK hc k with
 |none=>rw[(b k).2 hz]at hk;cases hk
 |some o2=>
  have:=a k o2 hz;rw[q1]at this;cases this;exact⟨o',rfl,fun hb=>⟨(q2 hb).1,by simp[bW,f,(q2 hb).2]⟩⟩
theorem eI:∀{h:aA eJ} {id:Nat} {o:AO},Sim.look h id=some o->(∀ty e v els,o≠.arr true ty e v els)->Sim.look (popMark h) id=some o
 |[],id,o,h,_=>by simp[Sim.look]at h
 |.mark::r,id,o,h,_=>h
 |.ob i o'::r,id,o,h,hne=>by
  simp only[Sim.look]at h
  simp only[popMark]
  split at h
  rename_i a
  cases h
  split
  exact absurd rfl (hne _ _ _ _)
  simp[Sim.look,a]
  rename_i a
  have ih:=eI h hne
  split
  exact ih
  simp[Sim.look,a,ih]
theorem bY.pop {C1:Cx} {h1 hc:aN} {l:Hp} (p:bY C0 n0 h1 lim s0) (c:bY C1 n0 hc lim l) (hf:Fr C0 h1 {h:=.mark::s0.h,n:=s0.n} C1 hc l) (f:∀k,aK h1 k=none↔aK hc k=none):
  bY C1 n0 hc lim {h:=popMark l.h,n:=l.n}/\Fr C0 h1 s0 C1 hc {h:=popMark l.h,n:=l.n}:=by
 obtain⟨p1,p2⟩:=hf.sk.pop;refine⟨⟨⟨fun k o hk=>?_,c.hr.inj,fun id o m=>?_,c.hr.wn,c.hr.wb,c.hr.wz⟩,c.dom,c.wf.pop,c.lim⟩,⟨p1,hf.n,fun id hid hn=>?_,hf.own,hf.kd,hf.zl,hf.zn⟩⟩;obtain⟨pl,q1,q2⟩:=c.hr.ob k o hk;refine⟨pl,q1,?_⟩;cases o with
 |box cs=>
  cases pl with
  |nil=>exact q2
  |atp id ver e len=>
   obtain⟨a1,a2,ty,esz,row,a3,a4⟩:=q2
   have q:id<s0.n:=by
    cases m:aK h1 k with
    |none=>rw[(f k).1 m]at hk;cases hk
    |some o0=>
     obtain⟨o',w1,w2⟩:=hf.kd k o0 m;rw[hk]at w1;cases w1;obtain⟨_,w3⟩:=w2 rfl;rw[q1]at w3;exact(p.hr.lt (by rw[m];simp) w3.symm).2
   exact⟨a1,a2,ty,esz,row,by rw[p2 id q];exact a3,a4⟩
 |lst ty e g rows=>
  cases pl with
  |nil=>exact q2
  |atp id ver e' len=>
   obtain⟨a1,a2,a3,a4,els,a5,a6⟩:=q2;exact⟨a1,a2,a3,a4,els,eI a5 (fun _ _ _ _ e=>by cases e),a6⟩
 |lz ty e dp rows=>
  cases pl with
  |nil=>exact q2
  |atp id ver e' len=>
   obtain⟨a1,a2,a3,a4,a7,els,a5,a6⟩:=q2;exact⟨a1,a2,a3,a4,a7,els,eI a5 (fun _ _ _ _ e=>by cases e),a6⟩
 |tr tt rows hs=>
  obtain⟨ty,e,ks⟩:=tt;cases pl with
  |nil=>exact q2
  |atp id ver e' len=>
   obtain⟨a1,a2,a3,a4,s,els,d,a5,a6,a7⟩:=q2;refine⟨a1,a2,a3,a4,s,els,d,eI a5 (fun _ _ _ _ e=>by cases e),a6,fun i r r' c1 c2=>⟨(a7 i r r' c1 c2).1,fun j a b c3 c4=>?_⟩⟩;have:=(a7 i r r' c1 c2).2 j a b c3 c4;unfold TC at this ⊢;cases hkd:eH ks j with
   |none=>rw[hkd]at this;exact this
   |some t2=>
    rw[hkd]at this;rcases this with b1|⟨b1,b2⟩
    exact .inl b1;exact .inr ⟨b1,b2.lk fun _ _ _ _ _ h=>eI h (fun _ _ _ _ e=>by cases e)⟩
 |mp es=>
  cases pl with
  |nil=>exact q2
  |atp id ver e' len=>
   obtain⟨a1,a2,es',a3,a4⟩:=q2;exact⟨a1,a2,es',eI a3 (fun _ _ _ _ e=>by cases e),a4⟩
 |fl fs=>
  cases pl with
  |nil=>exact q2
  |atp id ver e' len=>
   obtain⟨a1,a2,a3,a4,ty,els,a5,a6⟩:=q2;exact⟨a1,a2,a3,a4,ty,els,eI a5 (fun _ _ _ _ e=>by cases e),a6⟩
 |loop N' e ps a b busy fin=>
  cases pl with
  |nil=>exact q2
  |atp id ver e' len=>
   obtain⟨a1,a2,st,pend,tmps,a3,a4⟩:=q2;exact⟨a1,a2,st,pend,tmps,eI a3 (fun _ _ _ _ e=>by cases e),a4⟩
 obtain⟨z1,z2,z3,z4⟩:=c.hr.zr id o m;exact⟨eI z1 (fun _ _ _ _ e=>by subst e;cases z4),z2,z3,z4⟩;rw[p2 id hid];exact hf.keep id hid hn
end
end Go.P
namespace Go.P
open Go.Sim (AV AO Hp eJ upd St IC IX Ex eE CK Wf Out doOp iG exec Foot wanted put popMark)
def uL (NF:FuncId->Bool) (N:Nat) (rd:Bool):PC->Bool
 |.reg ops=>gT N [] false [] ops
 |.regD dr ops before=>(Nat.beq dr 3||Nat.beq dr 4||(Nat.beq dr 5&&We ((mO none ops).map fun o=>jE NF dr o.k)))&&gT N [] false [] ops&&Er ((mO none ops).map fun o=>jE NF dr o.k) before
 |.regX dr ops before ex=>((Nat.beq dr 3||Nat.beq dr 4)&&ex.all (fun p=> !(Nat.beq p.2.2.1 999999))||(Nat.beq dr 5&&We ((mO none ops).map fun o=>jE NF dr o.k)))&&gT N [] false [] ops&&Pe ((mO none ops).map fun o=>jE NF dr o.k) before ex&&ex.all (Rr (mO none ops))
 |.seq a b=>uL NF N rd a&&uL NF N rd b
 |.cond c a b=>Gj N c&&uL NF N rd a&&uL NF N rd b
 |.condJ _ c a b=>Gj N c&&uL NF N rd a&&uL NF N rd b
 |.condL c a b=>Gj N c&&uL NF N rd a&&uL NF N rd b
 |.block _ c=>uL NF N rd c
 |.loop _ _ c=>uL NF N rd c
 |.loopU _ _ c=>uL NF N rd c
 |.rangeF N' _ f _ _ _=>Nat.beq N' N&&Gj N f
 |_=>true
def okL (NF:FuncId->Bool) (N:Nat) (ps:aA Nat) (a b:PC):Bool:=ps.all (fun p=>Nat.blt p N)&&uL NF N true a&&uL NF N true b
theorem mP:∀{ops:gX} {g:aB (Nat×Bool)},pN ops=true->mO g ops=[]
 |.nil,g,_=>rfl
 |.lax _ _ r,g,h=>mP (ops:=r) h
 |.own _ _ _ _ r,g,h=>mP (ops:=r) h
 |.ownc _ _ _ _ _ r,g,h=>mP (ops:=r) h
 |.laxc _ _ _ r,g,h=>mP (ops:=r) h
 |.fz _ _ r,g,h=>mP (ops:=r) h
 |.laxm _ _ r,g,h=>mP (ops:=r) h
 |.gc _ r,g,h=>mP (ops:=r) h
 |.tre _ _ _ r,g,h=>mP (ops:=r) h
section
variable {T:iG} {O:vE} {X:NX}
def Ti {R:Type} (T:iG) (N lim:Nat) (rd:Bool) (c:IC) (C:Cx) (n:Nat) (h:aN) (t:aA AV) (s:Hp) (K:Ex->dG->aN->Nat->aB R) (r:R):Prop:=
 ∃x e' h' n' C' a s',K x e' h' n'=some r/\cS C' e' a/\bY C' n' h' lim s'/\a.length=N/\n<=n'/\Fr C h s C' h' s'/\∃D,∀d,D<=d->exec T d lim rd c {t:=t,s:=s}=some (x,{t:=a,s:=s'})
variable {R:Type} {N lim:Nat} {rd:Bool}
theorem Tr.nil_inv {NF:FuncId->Bool} {dr:Nat} {σ τ:St} {fs:aA Foot} (h:Tr T NF dr lim [] σ fs τ):τ=σ:=by cases h;rfl
theorem Jh {C:Cx} {x:PV} {a:AV} (h:RV C x a) (hf:Vj x=true):Sim.idOf a=[]:=by
 cases h with
 |cl h=>cases h<;>first|rfl|simp[Vj]at hf
 |_=>simp[Vj]at hf
theorem Xi {C:Cx} {x:PV} {a:AV} {k i:Nat} (h:RV C x a) (hk:tJ x=some k) (hi:i∈Sim.idOf a):∃v e l,C k=some (.atp i v e l):=by
 cases h with
 |cl h=>cases h<;>simp[tJ]at hk
 |ownn h hy=>subst hy;simp[Sim.idOf]at hi
 |ref h=>simp[tJ]at hk;simp[Sim.idOf]at hi;subst hk;subst hi;exact⟨_,_,_,h⟩
 |own h=>simp[tJ]at hk;simp[Sim.idOf]at hi;subst hk;subst hi;exact⟨_,_,_,h⟩
 |el h=>simp[tJ]at hk;simp[Sim.idOf]at hi;subst hk;subst hi;exact⟨_,_,_,h⟩
 |map h=>simp[tJ]at hk;simp[Sim.idOf]at hi;subst hk;subst hi;exact⟨_,_,_,h⟩
 |_=>simp[tJ]at hk
theorem Xj {C:Cx} {e:dG} {t:aA AV} {n lim:Nat} {h:aN} {s:Hp} (he:cS C e t) (o:bY C n h lim s) {p:Nat×Nat×Nat×Nat}
  (hp:(match dE e p.2.2.1,dE e p.2.2.2 with|some x,some y=>Ly h x y|_,_=>false)=true):Iv {t:=t,s:=s} p:=by
 split at hp;rename_i x y r hy;obtain⟨a,q,g⟩:=he _ _ r;obtain⟨b,hb,j⟩:=he _ _ hy;refine⟨a,b,q,hb,fun i hi d=>?_⟩;unfold Ly at hp;simp only[oE2]at hp;rcases hp with(hp|hp)|hp;rw[Jh g hp]at hi;simp at hi;rw[Jh j hp]at d;simp at d;split at hp;rename_i k k' h1 h2;simp only[nJ2,oB2,aZ,pB2]at hp;obtain⟨⟨f,hk⟩,c⟩:=hp;obtain⟨v,m,l,c1⟩:=Xi g h1 hi;obtain⟨v',e2,l',c2⟩:=Xi j h2 d;exact f (o.hr.inj k k' i v m l v' e2 l' (fun h=>by rw[h]at hk;cases hk) (fun h=>by rw[h]at c;cases c) c1 c2);cases hp;cases hp
theorem wY {h:aN} {k:Nat} (hb:En h k=true):∃cs,aK h k=some (.box cs):=by
 unfold En at hb;split at hb;rename_i cs hc;exact⟨cs,hc⟩;cases hb
theorem cM1 {a b:IC} {C:Cx} {n:Nat} {h:aN} {t:aA AV} {s:Hp} {K:Ex->dG->aN->Nat->aB R} {r:R} {v:PC}
  (y:Ti T N lim rd a C n h t s (fun x e h n=>match x with|.normal=>fJ O X v e h n K|.exit i=>K (.exit i) e h n|.ret=>K .ret e h n) r)
  (hb:∀C n h e t s,fJ O X v e h n K=some r->cS C e t->bY C n h lim s->t.length=N->Ti T N lim rd b C n h t s K r):
  Ti T N lim rd (.seq a b) C n h t s K r:=by
 obtain⟨x,f,h1,p,C1,u,q,g,j,k,l,w,m,D,o⟩:=y;cases x with
 |normal=>
  obtain⟨E,e2,h2,z,C2,B,A,q1,q2,q3,q4,q5,q6,D2,q7⟩:=hb C1 p h1 f u q g j k l;refine⟨E,e2,h2,z,C2,B,A,q1,q2,q3,q4,by omega,m.trans q6,D+D2+1,fun d hd=>?_⟩;obtain⟨d,rfl⟩:∃c,d=c+1:=⟨d-1,by omega⟩
  simp only[exec,o d (by omega)];exact q7 d (by omega)
 |exit i=>
  refine⟨.exit i,f,h1,p,C1,u,q,g,j,k,l,w,m,D+1,fun d hd=>?_⟩;obtain⟨d,rfl⟩:∃c,d=c+1:=⟨d-1,by omega⟩
  simp only[exec,o d (by omega)]
 |ret=>
  refine⟨.ret,f,h1,p,C1,u,q,g,j,k,l,w,m,D+1,fun d hd=>?_⟩;obtain⟨d,rfl⟩:∃c,d=c+1:=⟨d-1,by omega⟩
  simp only[exec,o d (by omega)]
theorem As {c:IX} {a b:IC} {C:Cx} {n:Nat} {h:aN} {t:aA AV} {s:Hp} {K:Ex->dG->aN->Nat->aB R} {r:R} {v:Bool} (hc:c.ev t=some (.v (.bool v)))
  (g:Ti T N lim rd (if v then a else b) C n h t s K r):Ti T N lim rd (.cond c a b) C n h t s K r:=by
 obtain⟨x,f,h1,q,C1,w,u,i,j,k,l,m,o,D,p⟩:=g;refine⟨x,f,h1,q,C1,w,u,i,j,k,l,m,o,D+1,fun d hd=>?_⟩;obtain⟨d,rfl⟩:∃e,d=e+1:=⟨d-1,by omega⟩
 simp only[exec,hc];exact p d (by omega)
theorem Ez {C:Cx} {e:dG} {t:aA AV} {c:PX} {vs:aA PV} (he:cS C e t) (g:Gj N c=true) (a:evs e [c]=some vs) {v:Bool} (hv:vs=[.v (.bool v)]):(eX c).ev t=some (.v (.bool v)):=by
 obtain⟨ys,h1,h2⟩:=iK he (xs:=[c]) (by simpa using g) a;subst hv;obtain⟨y,_,rfl,b,d⟩:=h2.inv_cons;rw[d.inv_nil,fB b]at h1;simp only[pZ2,qZ2,Sim.evs]at h1;split at h1;rename_i f hb;cases h1;exact f;cases h1
theorem Ji {c:IC} {w:PC} {keep kx:aA Nat} {n:Nat} {h0:aN} (hd:∀k,aK h0 k≠none->k<n)
  (hb:∀{R':Type} (K':Ex->dG->aN->Nat->aB R') (r':R') C n h e t s,fJ O X w e h n K'=some r'->cS C e t->bY C n h lim s->t.length=N->Ti T N lim rd c C n h t s K' r'):
  ∀(k:Nat) (st:Im) (C:Cx) (t:aA AV) (s:Hp) (x:Ex) (st':Im),
   aX (fun s:Im=>fJ O X w s.e s.h n fun x e' h' _=>lQ (lk x keep kx) h0 n e' h' fun s'=>some (match x with|.normal=>(.inl s':Im⊕(Ex×Im))|x=>.inr (x,s'))) k st=some (x,st')->
   cS C st.e t->bY C n st.h lim s->t.length=N->(∀k,aK h0 k=none↔aK st.h k=none)->
   ∃C' j s',cS C' st'.e j/\bY C' n st'.h lim s'/\j.length=N/\Fr C st.h s C' st'.h s'/\∃D,∀d,D<=d->exec T d lim rd (.loop c) {t:=t,s:=s}=some (x,{t:=j,s:=s'})
 |0,st,C,t,s,x,st',h,_,_,_,_=>by simp[aX]at h
 |k+1,st,C,t,s,x,st',h,he,hM,hN,hkeys=>by
  simp only[aX,nI2]at h
  obtain⟨q,z,h⟩:=h
  have b:bY C n st.h lim {h:=.mark::s.h,n:=s.n}:=⟨⟨hM.hr.ob,hM.hr.inj,hM.hr.zr,hM.hr.wn,hM.hr.wb,hM.hr.wz⟩,hM.dom,hM.wf,hM.lim⟩
  obtain⟨x1,H,h1,K,C1,v,L,B,E,F,o,J,G,D,p⟩:=hb _ q C n st.h st.e t _ z he b hN
  have y:∀k,aK st.h k≠none->k<n:=fun k hk=>hd k (fun A=>hk ((hkeys k).1 A))
  obtain⟨g,w1,w2,w3,w4,w5⟩:=nE hd F E B
  have l:∀k,aK st.h k=none↔aK g.h k=none:=fun k=>(hkeys k).symm.trans (w5 k)
  have m:=Fr.canon b G w4 l
  obtain⟨r,u⟩:=bY.pop hM w3 m l
  cases x1 with
  |normal=>
   simp only[nP2]at w1
   subst w1
   simp only at h
   obtain⟨C',j,s',p1,p2,p3,p4,D2,p5⟩:=Ji hd hb k g _ v _ x st' h w2 r o w5
   refine⟨C',j,s',p1,p2,p3,u.trans p4,D+D2+1,fun d f=>?_⟩
   obtain⟨d,rfl⟩:∃a,d=a+1:=⟨d-1,by omega⟩
   rw[exec]
   simp only[p d (by omega)]
   exact p5 d (by omega)
  |exit i=>
   simp only[nP2]at w1
   subst w1
   simp only[nP2,oJ2]at h
   obtain⟨rfl,rfl⟩:=h
   refine⟨_,v,_,w2,r,o,u,D+1,fun d f=>?_⟩
   obtain⟨d,rfl⟩:∃a,d=a+1:=⟨d-1,by omega⟩
   rw[exec]
   simp only[p d (by omega)]
  |ret=>
   simp only[nP2]at w1
   subst w1
   simp only[nP2,oJ2]at h
   obtain⟨rfl,rfl⟩:=h
   refine⟨_,v,_,w2,r,o,u,D+1,fun d f=>?_⟩
   obtain⟨d,rfl⟩:∃a,d=a+1:=⟨d-1,by omega⟩
   rw[exec]
   simp only[p d (by omega)]
theorem Dm {c:IC} {w:PC} {keep:aA Nat} {n:Nat} {h0:aN} (hd:∀k,aK h0 k≠none->k<n)
  (hb:∀{R':Type} (K':Ex->dG->aN->Nat->aB R') (r':R') C n h e t s,fJ O X w e h n K'=some r'->cS C e t->bY C n h lim s->t.length=N->Ti T N lim rd c C n h t s K' r'):
  ∀(k:Nat) (st:Im) (C:Cx) (t:aA AV) (s:Hp) (K:Ex->Im->aB R) (r:R),
   zS (fun e h K=>fJ O X w e h n fun x e h _=>K x e h) (fun e' h' K=>lQ keep h0 n e' h' K) k st K=some r->
   cS C st.e t->bY C n st.h lim s->t.length=N->(∀k,aK h0 k=none↔aK st.h k=none)->
   ∃x st' C' j s',K x st'=some r/\cS C' st'.e j/\bY C' n st'.h lim s'/\j.length=N/\Fr C st.h s C' st'.h s'/\∃D,∀d,D<=d->exec T d lim rd (.loop c) {t:=t,s:=s}=some (x,{t:=j,s:=s'})
 |0,st,C,t,s,K,r,h,_,_,_,_=>by simp[zS]at h
 |k+1,st,C,t,s,K,r,hq,he,hM,hN,hkeys=>by
  simp only[zS]at hq
  have f:bY C n st.h lim {h:=.mark::s.h,n:=s.n}:=⟨⟨hM.hr.ob,hM.hr.inj,hM.hr.zr,hM.hr.wn,hM.hr.wb,hM.hr.wz⟩,hM.dom,hM.wf,hM.lim⟩
  obtain⟨x1,G,h1,J,C1,v,L,A,B,E,o,H,F,D,p⟩:=hb _ r C n st.h st.e t _ hq he f hN
  have y:∀k,aK st.h k≠none->k<n:=fun k hk=>hd k (fun z=>hk ((hkeys k).1 z))
  obtain⟨a,w1,w2,w3,w4,w5⟩:=nE hd E B A
  have l:∀k,aK st.h k=none↔aK a.h k=none:=fun k=>(hkeys k).symm.trans (w5 k)
  have m:=Fr.canon f F w4 l
  obtain⟨q,u⟩:=bY.pop hM w3 m l
  cases x1 with
  |normal=>
   obtain⟨x,st',C',j,s',p0,p1,p2,p3,p4,D2,p5⟩:=Dm hd hb k a _ v _ K r w1 w2 q o w5
   refine⟨x,st',C',j,s',p0,p1,p2,p3,u.trans p4,D+D2+1,fun d g=>?_⟩
   obtain⟨d,rfl⟩:∃b,d=b+1:=⟨d-1,by omega⟩
   rw[exec]
   simp only[p d (by omega)]
   exact p5 d (by omega)
  |exit i=>
   refine⟨.exit i,a,_,v,_,w1,w2,q,o,u,D+1,fun d g=>?_⟩
   obtain⟨d,rfl⟩:∃b,d=b+1:=⟨d-1,by omega⟩
   rw[exec]
   simp only[p d (by omega)]
  |ret=>
   refine⟨.ret,a,_,v,_,w1,w2,q,o,u,D+1,fun d g=>?_⟩
   obtain⟨d,rfl⟩:∃b,d=b+1:=⟨d-1,by omega⟩
   rw[exec]
   simp only[p d (by omega)]
def xE:aN->Nat->aN
 |[],_=>[]
 |(j,o)::r,k=>if j=k then xE r k else(j,o)::xE r k
theorem Jj:∀(h:aN) (k:Nat) (K:aN->aB R),Ij h k K=K (xE h k)
 |[],_,_=>rfl
 |(j,o)::r,k,K=>by
  simp only[Ij,xE,aZ]
  by_cases e:j=k<;>simp[e,Jj r k]
theorem nF:∀(h:aN) (k j:Nat),aK (xE h k) j=if j=k then none else aK h j
 |[],k,j=>by simp[xE,aK]
 |(i,o)::r,k,j=>by
  have ih:=nF r k j
  simp only[xE]
  by_cases e:i=k
  subst e
  rw[nQ2 rfl,ih]
  by_cases e2:j=i
  simp[e2]
  simp[e2,aK,Ne.symm e2]
  rw[nS2 e]
  simp only[aK]
  by_cases e2:i=j
  subst e2;simp[e]
  simp only[nS2 e2,ih]
theorem Au {e:dG}:∀{is:aA Nat} {K:dG->aB R} {r:R},Oq e is K=some r->∃e',K e'=some r/\∀i v,dE e' i=some v->dE e i=some v
 |[],K,r,h=>⟨[],h,fun i v h=>by simp[dE]at h⟩
 |i::is,K,r,h=>by
  unfold Oq at h
  rw[fQ,nI2]at h
  obtain⟨v,hv,h⟩:=h
  obtain⟨e',h1,h2⟩:=Au h
  refine⟨_,h1,fun j w hw=>?_⟩
  simp only[dE]at hw
  split at hw
  rename_i a;subst a;cases hw;exact hv
  exact h2 j w hw
theorem xT {C:Cx} {n:Nat} {h:aN} {lim:Nat} {s:Hp} (f:bY C n h lim s) {k id ver e len N:Nat} {c:dG} {ps:aA Nat} {a b:PC} {busy:Bool} {fin:aB Ex} (hg:aK h k=some (.loop N c ps a b busy fin)) (d:C k=some (.atp id ver e len)):
  lim<=id/\∃st pend tmps,Sim.look s.h id=some (.loop st pend tmps ps (jM a) (jM b))/\tmps.length=N/\cS C c tmps/\StR busy fin st pend:=by
 obtain⟨pl,h1,h2⟩:=f.hr.ob k _ hg;rw[d]at h1;cases h1;exact⟨h2.1,h2.2.2⟩
theorem eD (H:∀f xs v,O f xs=some v->oD T f xs v) (F:NOK T X):∀(c:PC) {R:Type} (K:Ex->dG->aN->Nat->aB R) (r:R) (C:Cx) (n:Nat) (h:aN) (e:dG) (t:aA AV) (s:Hp),fJ O X c e h n K=some r->cS C e t->bY C n h lim s->t.length=N->
  uL X.is N rd c=true->Ti T N lim rd (jM c) C n h t s K r
 |.skip,R,K,r,C,n,h,e,t,s,hk,he,j,w,u=>⟨.normal,e,h,n,C,t,s,hk,he,j,w,nM2 _,.refl _ _ _,1,fun d hd=>by
   obtain⟨d,rfl⟩:∃L,d=L+1:=⟨d-1,by omega⟩
   simp only[jM,exec]⟩
 |.exit i,R,K,r,C,n,h,e,t,s,hk,he,j,w,u=>⟨.exit i,e,h,n,C,t,s,hk,he,j,w,nM2 _,.refl _ _ _,1,fun d hd=>by
   obtain⟨d,rfl⟩:∃L,d=L+1:=⟨d-1,by omega⟩
   simp only[jM,exec]⟩
 |.ret,R,K,r,C,n,h,e,t,s,hk,he,j,w,u=>⟨.ret,e,h,n,C,t,s,hk,he,j,w,nM2 _,.refl _ _ _,1,fun d hd=>by
   obtain⟨d,rfl⟩:∃L,d=L+1:=⟨d-1,by omega⟩
   simp only[jM,exec]⟩
 |.reg ops,R,K,r,C,n,h,e,t,s,hk,he,j,w,u=>by
  obtain⟨e',h',n',C',t',s',fs,q1,q2,q3,q4,q5,q6,q7,_⟩:=cJ H F (.inl rfl) ops [] [] false none C n h e t s _ r hk he j w u trivial (fun _ _ e=>by cases e)
  obtain⟨D,hD⟩:=q2.run rfl
  refine⟨.normal,e',h',n',C',t',s',q1,q3,q4,q5,q6,q7,D+1,fun d hd=>?_⟩
  obtain⟨d,rfl⟩:∃L,d=L+1:=⟨d-1,by omega⟩
  simp only[jM,exec,hD d (by omega),oM2]
 |.regD dr ops before,R,K,r,C,n,h,e,t,s,hk,he,j,w,u=>by
  simp only[uL,nJ2,oE2,aZ,nR2]at u
  have U:dr=0\/dr=3\/dr=4\/dr=5:=by rcases u.1.1 with(h|h)|h<;>simp[h]
  obtain⟨e',h',n',C',t',s',fs,q1,q2,q3,q4,q5,q6,q7,_⟩:=cJ H F U ops [] [] false none C n h e t s _ r hk he j w u.1.2 trivial (fun _ _ e=>by cases e)
  obtain⟨D,hD⟩:=q2.draw (by rcases u.1.1 with(h|h)|h<;>omega) u.2 (fun h5=>by
   rcases u.1.1 with(h|h)|h
   .omega
   .omega
   .exact h.2)
  refine⟨.normal,e',h',n',C',t',s',q1,q3,q4,q5,q6,q7,D+1,fun d hd=>?_⟩
  obtain⟨d,rfl⟩:∃L,d=L+1:=⟨d-1,by omega⟩
  obtain⟨gs,g1,g2⟩:=hD d (by omega)
  simp only[jM,exec,g1,g2,oK2]
 |.dead _,R,K,r,C,n,h,e,t,s,hk,he,j,w,u=>nomatch hk
 |.regX dr ops before ex,R,K,r,C,n,h,e,t,s,hk,he,j,w,u=>by
  simp only[uL,nJ2,oE2,aZ,nR2]at u
  obtain⟨⟨⟨U,d6⟩,b4⟩,d4⟩:=u
  unfold fJ at hk
  have b6:dr=0\/dr=3\/dr=4\/dr=5:=by rcases U with⟨h|h,_⟩|h<;>simp[h]
  obtain⟨e',h',n',C',t',s',fs,q1,q2,q3,q4,q5,q6,q7,_⟩:=cJ H F b6 ops [] [] false none C n h e t s _ r hk he j w d6 trivial (fun _ _ e=>by cases e)
  cases hb:exB h e' h' ex with
  |false=>rw[hb]at q1;cases q1
  |true=>
   rw[hb]at q1
   obtain⟨D,hD⟩:=q2.drawX (by rcases U with⟨h|h,_⟩|h<;>omega) b4 d4 (fun p hp=>by
    have hb:=nN2.1 hb p hp
    cases hm:Nat.beq p.2.2.1 999999 with
    |true=>
     rw[hm,nX2]at hb
     rw[nQ2 (oA2 hm)]
     have h5:dr=5:=by
      rcases U with⟨_,h⟩|h
      .have:=nN2.1 h p hp
       rw[oA2 hm]at this;simp at this
      .exact h.1
     refine⟨h5,?_⟩;split at hb
     .rename_i k o hk
      simp only[nJ2]at hb;obtain⟨z,S,rz⟩:=q3 _ _ hk;obtain⟨id,ver,A,len,hC,rfl⟩:=kA rz;refine⟨_,S,fun x hx=>?_⟩;simp only[Sim.idOf,nW2,rD2,or_false]at hx;subst hx;obtain⟨cs0,b5⟩:=wY hb.1;obtain⟨d8,d2⟩:=wY hb.2;obtain⟨o',J,k2⟩:=q7.kd k _ b5;rw[d2]at J;cases J;have:=(k2 rfl).2;rw[hC]at this;exact(j.hr.lt (by rw[b5];simp) this.symm).2
     .cases hb
    |false=>
     rw[hm,oI2]at hb;rw[nS2 (fun h=>by rw[h]at hm;cases hm)];exact Xj q3 q4 hb) (fun h5=>by
    rcases U with⟨h|h,_⟩|h
    .omega
    .omega
    .exact h.2)
   refine⟨.normal,e',h',n',C',t',s',q1,q3,q4,q5,q6,q7,D+1,fun d hd=>?_⟩;obtain⟨d,rfl⟩:∃L,d=L+1:=⟨d-1,by omega⟩
   obtain⟨gs,g1,g2⟩:=hD d (by omega);simp only[jM,exec,g1,g2,oK2]
 |.seq a b,R,K,r,C,n,h,e,t,s,hk,he,j,w,u=>by
  simp only[uL,nJ2]at u;have ha:=eD H F a _ r C n h e t s hk he j w u.1;have hb:=fun C n h e t s hk he j w=>eD H F b K r C n h e t s hk he j w u.2;have Z:=cM1 ha hb;unfold jM;split
  .rename_i ops
   split
   .rename_i G
    simp only[nJ2]at G;obtain⟨e',h',n',C',t',s',fs,q1,q2,q3,q4,q5,q6,q7,_⟩:=cJ H F (.inl rfl) ops [] [] false none C n h e t s _ r hk he j w u.1 trivial (fun _ _ e=>by cases e);rw[mP G.1]at q2;have:=q2.nil_inv;cases this;obtain⟨x2,e2,h2,n2,C2,t2,s2,w1,w2,w3,w4,w5,w6,D2,w7⟩:=hb C' n' h' e' t s q1 q3 q4 w;exact⟨x2,e2,h2,n2,C2,t2,s2,w1,w2,w3,w4,by omega,q7.trans w6,D2,w7⟩
   .exact Z
  .split
   .rename_i ops
    split
    .rename_i G
     simp only[nJ2]at G;obtain⟨x1,A,h1,n1,C1,t1,s1,J,k2,k3,k4,k5,k6,k7⟩:=ha;cases x1 with
     |normal=>
      obtain⟨e',h',n',C',t',s',fs,q1,q2,q3,q4,q5,q6,q7,_⟩:=cJ H F (.inl rfl) ops [] [] false none C1 n1 h1 A t1 s1 _ r J k2 k3 k4 u.2 trivial (fun _ _ e=>by cases e);rw[mP G.1]at q2;have:=q2.nil_inv;cases this;exact⟨.normal,e',h',n',C',t1,s1,q1,q3,q4,k4,by omega,k6.trans q7,k7⟩
     |exit i=>exact⟨.exit i,A,h1,n1,C1,t1,s1,J,k2,k3,k4,k5,k6,k7⟩
     |ret=>exact⟨.ret,A,h1,n1,C1,t1,s1,J,k2,k3,k4,k5,k6,k7⟩
    .exact Z
   .exact Z
 |.cond c a b,R,K,r,C,n,h,e,t,s,hk,he,j,w,u=>by
  simp only[uL,nJ2]at u;unfold fJ at hk;rw[gK,nI2]at hk;obtain⟨vs,M,hk⟩:=hk;split at hk
  .rename_i v
   rw[nT]at hk;refine As (Ez he u.1.1 M rfl) ?_;cases v with
   |true=>exact eD H F a K r C n h e t s hk he j w u.1.2
   |false=>exact eD H F b K r C n h e t s hk he j w u.2
  .exact aD hk
 |.condJ keep c a b,R,K,r,C,n,h,e,t,s,hk,he,j,w,u=>by
  simp only[uL,nJ2]at u;unfold fJ at hk;rw[gK,nI2]at hk;obtain⟨vs,M,hk⟩:=hk;split at hk
  .rename_i v
   rw[bJ,nI2]at hk;obtain⟨q,hq,hk⟩:=hk;rw[nT]at hq;refine As (Ez he u.1.1 M rfl) ?_
   have fin:∀{c:IC},Ti T N lim rd c C n h t s (fun x e' h' _=>lQ keep h n e' h' fun s=>some (x,s)) q->Ti T N lim rd c C n h t s K r:=by
    intro c b7;obtain⟨x1,A,h1,n1,C1,t1,s1,J,k2,k3,k4,k5,k6,D,k7⟩:=b7
    obtain⟨W,w1,w2,w3,w4,w5⟩:=nE (fun k hk=>by
     cases S:aK h k with
     |none=>exact absurd S hk
     |some o=>obtain⟨pl,p1,_⟩:=j.hr.ob k o S;exact j.dom k pl p1) k3 k2 J
    cases w1;exact⟨x1,W.e,W.h,n,_,t1,s1,hk,w2,w3,k4,nM2 _,Fr.canon j k6 w4 w5,D,k7⟩
   cases v with
   |true=>exact fin (eD H F a _ q C n h e t s hq he j w u.1.2)
   |false=>exact fin (eD H F b _ q C n h e t s hq he j w u.2)
  .exact aD hk
 |.condL c a b,R,K,r,C,n,h,e,t,s,hk,he,j,w,u=>by
  simp only[uL,nJ2]at u;unfold fJ at hk;rw[gK,nI2]at hk;obtain⟨vs,M,hk⟩:=hk;split at hk
  .rename_i v
   refine As (Ez he u.1.1 M rfl) ?_;cases v with
   |true=>exact eD H F a K r C n h e t s hk he j w u.1.2
   |false=>exact eD H F b K r C n h e t s hk he j w u.2
  .exact aD hk
 |.loopU m keep c,R,K,r,C,n,h,e,t,s,hk,he,j,w,u=>by
  unfold fJ at hk
  have hd:∀k,aK h k≠none->k<n:=fun k hk=>by
   cases S:aK h k with
   |none=>exact absurd S hk
   |some o=>obtain⟨pl,p1,_⟩:=j.hr.ob k o S;exact j.dom k pl p1
  obtain⟨W,w1,w2,w3,w4,w5⟩:=nE hd j he hk;obtain⟨x,st',C',t',s',p0,p1,p2,p3,p4,D,p5⟩:=Dm (T:=T) (rd:=rd) (N:=N) (lim:=lim) hd (fun K' r' C n h e t s hk he j w=>eD H F c K' r' C n h e t s hk he j w u) m W _ t s _ r w1 w2 w3 w w5;exact⟨x,st'.e,st'.h,n,C',t',s',p0,p1,p2,p3,nM2 _,(Fr.canon j (.refl _ _ _) w4 w5).trans p4,D,p5⟩
 |.rangeF N' keep f ps a b,R,K,r,C,n,h,e,t,s,hk,he,j,w,u=>by
  simp only[uL,nJ2,oB2,aZ,nR2]at u;obtain⟨rfl,u⟩:=u;unfold fJ at hk;rw[gK,nI2]at hk;obtain⟨vs,M,hk⟩:=hk;obtain⟨ys,h1,h2⟩:=iK he (xs:=[f]) (by simpa using u) M;split at hk
  .rename_i g first cap
   obtain⟨y,_,rfl,h3,h4⟩:=h2.inv_cons;rw[h4.inv_nil]at h1;obtain⟨a',b',rfl,h5,h6⟩:=tL h3
   have hf:(eX f).ev t=some (.fn (.func g) a' b'):=by
    simp only[pZ2,qZ2,Sim.evs]at h1;split at h1
    .rename_i ha hb;simp only[nP2,List.cons.injEq]at h1;rw[<-h1.1];exact ha
    .cases h1
   cases hX1:X.is g with
   |false=>rw[hX1]at hk;exact aD hk
   |true=>
   rw[hX1,nX2]at hk;obtain⟨e0,hk,d3⟩:=Au hk;have b0:=jZ j (.atp s.n 0 0 0)
   obtain⟨m1,m2,m3⟩:=pO j (po:=.loop N' e0 ps a b false none) (ao:=.loop .ready none t ps (jM a) (jM b)) (ver:=0) (e:=0) (len:=0)
    ⟨j.lim,by omega,_,_,t,by rw[dY,nQ2 rfl],w,fun i v hv=>(he i v (d3 i v hv)).imp fun y hy=>⟨hy.1,hy.2.mono b0⟩,rfl,rfl⟩
   have hx:LR (RV (ext C n (.atp s.n 0 0 0))) (first++[.yld n]++cap) (a'++[.fn (.yield s.n) [] []]++b'):=
    ((h5.mono fun _ _ h=>h.mono b0).append (.cons (.yld (nY C n _)) .nil)).append (h6.mono fun _ _ h=>h.mono b0)
   obtain⟨v,e',h',n',C',y,s',q1,q2,q3,q4,q5,q6,q7⟩:=Ey (P:=fun y s'=>∃D,∀d,D<=d->Sim.callF T (exec T d) lim g (a'++[.fn (.yield s.n) [] []]++b') _=some (y,s')) m1 (he.mono b0) hx
    (fun hs C0 m K' r' d0 d7 hr=>by
     obtain⟨v,h',n',C',y,s',w1,w2,w3,w4,w5,w6,w7⟩:=F.run g _ hs m K' r' C0 _ lim _ hX1 hr d7 d0;exact⟨v,h',n',C',y,s',w1,w2,w3,w4,w5,w7⟩) hk
   rw[eF,nI2]at q1;obtain⟨ob,Y,q1⟩:=q1;obtain⟨o',z1,z2⟩:=q6.kd n (.loop N' e0 ps a b false none) (by simp[aK]);rw[Y]at z1;cases z1;split at q1
   .rename_i N2 e2 V a2 b2 fin
    have a0:C' n=some (.atp s.n 0 0 0):=by
     have:=(z2 rfl).2;rw[nY]at this;exact this
    obtain⟨_,st,pend,tmps,g1,g2,g3,g4⟩:=xT q4 Y a0;rw[Jj]at q1;obtain⟨D,hD⟩:=q7;have d9:n<n':=by omega
    have b9:bY C' n' (xE h' n) lim {h:=upd s'.h s.n (.loop .exhausted pend tmps V (jM a2) (jM b2)),n:=s'.n}:=by
     have nn:∀{k},aK (xE h' n) k≠none->aK h' k≠none:=fun{k} hk=>by
      rw[nF]at hk;split at hk
      .exact absurd rfl hk
      .exact hk
     refine⟨⟨fun k o B=>?_,fun k k' id v e l v' e' l' a b c d=>q4.hr.inj k k' id v e l v' e' l' (nn a) (nn b) c d,fun id o S=>?_,fun k id v e l a b=>q4.hr.wn k id v e l (nn a) b,q4.hr.wb,q4.hr.wz⟩,q4.dom,q4.wf.upd _ _,q4.lim⟩
     .rw [nF]at B
      split at B
      .cases B
      .rename_i d5
       obtain⟨pl,p1,p2⟩:=q4.hr.ob k o B
       refine⟨pl,p1,p2.mono (nM2 _) (.refl _) (fun id v e l hp=>?_) (fun o sl u=>⟨u,by
        rw[Sim.look_upd,nS2 (fun A=>?_)];have:=q4.hr.wn n s.n _ _ _ (by rw[Y];simp) a0;rw[<-A.1,u]at this;cases this⟩)⟩
       subst hp;rw[Sim.look_upd];rw[nS2 (fun A=>d5 (q4.hr.inj k n s.n _ _ _ _ _ _ (by rw[B];simp) (by rw[Y];simp) (by rw[<-A.1];exact p1) a0))]
     .obtain ⟨z1,z2,z3,z4⟩:=q4.hr.zr id o S
      refine⟨?_,z2,fun k v e l a b=>z3 k v e l (nn a) b,z4⟩;rw[Sim.look_upd,nS2 (fun A=>z3 n 0 0 0 (by rw[Y];simp) (by rw[A.1];exact a0))];exact z1
    have E:=m2.trans q6
    have b8:Fr C h s C' (xE h' n) {h:=upd s'.h s.n (.loop .exhausted pend tmps V (jM a2) (jM b2)),n:=s'.n}:=by
     refine⟨E.sk.trans (.upd _ _ _ _) E.n,E.n,fun id hid hn=>?_,fun id hid hn=>E.own id hid ?_,fun k o B=>?_,E.zl,E.zn⟩
     .rw [Sim.look_upd,nS2 (by omega)]
      exact E.keep id hid hn
     .rcases hn with⟨k,v,e,l,p1,p2⟩|hn
      .refine .inl ⟨k,v,e,l,?_,p2⟩
       rw[nF]at p1;split at p1
       .exact absurd rfl p1
       .exact p1
      .exact .inr hn
     .obtain ⟨o',p1,p2⟩:=E.kd k o B
      refine⟨o',?_,p2⟩;rw[nF,nS2 (fun A=>?_)]
      .exact p1
      .subst A
       rw[qJ j (nM2 _)]at B;cases B
    have go:∀x,K x e' (xE h' n) n'=some r->st≠.busy->(match pend with
       |none=>some (Ex.normal,({t:=t,s:={h:=upd s'.h s.n (.loop .exhausted pend tmps V (jM a2) (jM b2)),n:=s'.n}}:St))
       |some .ret=>some (.ret,{t:=t,s:={h:=upd s'.h s.n (.loop .exhausted pend tmps V (jM a2) (jM b2)),n:=s'.n}})
       |some (.exit id)=>some (.exit id,{t:=t,s:={h:=upd s'.h s.n (.loop .exhausted pend tmps V (jM a2) (jM b2)),n:=s'.n}})
       |_=>none)=some (x,{t:=t,s:={h:=upd s'.h s.n (.loop .exhausted pend tmps V (jM a2) (jM b2)),n:=s'.n}})->
      Ti T N' lim rd (jM (.rangeF N' keep f ps a b)) C n h t s K r:=by
     intro x hK b4 hx;refine⟨x,e',xE h' n,n',C',t,_,hK,fun i v hv=>(q3 i v hv).imp fun z S=>⟨S.1,S.2.1⟩,b9,w,by omega,b8,D+1,fun d hd=>?_⟩;obtain⟨d,rfl⟩:∃L,d=L+1:=⟨d-1,by omega⟩
     simp only[jM,exec,hf,hD d (by omega),g1,Sim.endRound,nV2,oQ2];rw[nS2 b4];exact hx
    split at q1
    .obtain ⟨rfl,rfl⟩:=g4
     exact go _ q1 (by simp) rfl
    .obtain ⟨rfl,rfl⟩:=g4
     exact go _ q1 (by simp) rfl
    .obtain ⟨rfl,rfl⟩:=g4
     exact go _ q1 (by simp) rfl
    .exact aD q1
   .exact aD q1
  .exact aD hk
 |.block id c,R,K,r,C,n,h,e,t,s,hk,he,j,w,u=>by
  unfold fJ at hk;obtain⟨x1,A,h1,n1,C1,t1,s1,J,k2,k3,k4,k5,k6,D,k7⟩:=eD H F c _ r C n h e t s hk he j w u
  have go:∀(x:Ex),(∀d,D<=d->(match exec T d lim rd (jM c) {t:=t,s:=s}with|some (.exit i,σ)=>if i=id then some (.normal,σ)else some (.exit i,σ)|r=>r)=some (x,{t:=t1,s:=s1}))->K x A h1 n1=some r->Ti T N lim rd (jM (.block id c)) C n h t s K r:=by
   intro x hx hK;refine⟨x,A,h1,n1,C1,t1,s1,hK,k2,k3,k4,k5,k6,D+1,fun d hd=>?_⟩;obtain⟨d,rfl⟩:∃L,d=L+1:=⟨d-1,by omega⟩
   rw[jM,exec];exact hx d (by omega)
  cases x1 with
  |normal=>exact go .normal (fun d hd=>by rw[k7 d hd]) J
  |ret=>exact go .ret (fun d hd=>by rw[k7 d hd]) J
  |exit i=>
   simp only[aZ]at J;by_cases A:i=id
   .subst A
    simp only[pJ2,nX2]at J;exact go .normal (fun d hd=>by rw[k7 d hd];simp) J
   .simp only[oC2 A,oI2]at J
    exact go (.exit i) (fun d hd=>by rw[k7 d hd];simp[A]) J
 |.loop keep kx c,R,K,r,C,n,h,e,t,s,hk,he,j,w,u=>by
  unfold fJ at hk
  have hd:∀k,aK h k≠none->k<n:=fun k hk=>by
   cases S:aK h k with
   |none=>exact absurd S hk
   |some o=>obtain⟨pl,p1,_⟩:=j.hr.ob k o S;exact j.dom k pl p1
  obtain⟨W,w1,w2,w3,w4,w5⟩:=nE hd j he hk;rw[bJ,nI2]at w1;obtain⟨⟨x,st'⟩,hq,hK⟩:=w1;obtain⟨C',t',s',p1,p2,p3,p4,D,p5⟩:=Ji (T:=T) (rd:=rd) (N:=N) (lim:=lim) hd (fun K' r' C n h e t s hk he j w=>eD H F c K' r' C n h e t s hk he j w u) bK W _ t s x st' hq w2 w3 w w5;exact⟨x,st'.e,st'.h,n,C',t',s',hK,p1,p2,p3,nM2 _,(Fr.canon j (.refl _ _ _) w4 w5).trans p4,D,p5⟩
end
end Go.P
namespace Go.P
open Go.Sim (AV AO Hp eJ upd St IC IX Ex eE CK Wf Out doOp iG exec Foot wanted put popMark mapO lC Ko Tg fz1 fz)
open Go.Sim (RV IFn)
structure bV where
 ntmps:Nat
 res:List Sim.RV
 code:PC
 frz:Bool
 deriving Inhabited
noncomputable section
variable {R:Type}
def Jk:aA PV->Nat->(dG->aB R)->aB R
 |[],_,K=>K []
 |x::xs,i,K=>fV x fun x=>Jk xs (i+1) fun e=>K ((i,x)::e)
def Av (e:dG) (h:aN) (n:Nat):aA Sim.RV->(aA PV->aB R)->aB R
 |[],K=>K []
 |.tmp i::rs,K=>nU e i fun v=>Av e h n rs fun vs=>K (v::vs)
 |.cellS i::rs,K=>nU e i fun p=>dM .loadS [p] h n fun v _ _=>Av e h n rs fun vs=>K (v::vs)
 |.cellA i m::rs,K=>nU e i fun p=>dM (.loadA m) [p] h n fun v _ _=>Av e h n rs fun vs=>K (v::vs)
def Jl (h:aN):Nat->PV->(PV->aB R)->aB R
 |0,_,_=>none
 |d+1,x,K=>match x with
  |.own k=>hK h k fun ob=>match ob with
   |.lst _ e _ rows=>K (.is e rows)
   |.lz _ e dp rows=>bif Nat.ble dp (d+1)then K (.is e rows)else none
   |.tr t rows hs=>match hs with
    |[]=>match t with|.nd ty e ks=>bif Bm (d+1) (.nd ty e ks)then K (.is e rows)else none
    |_=>none
   |_=>none
  |.zs dp e rows=>bif Nat.ble dp (d+2)then K (.is e rows)else none
  |.ref k o=>hK h k fun ob=>match ob with
   |.box cs=>gH o cs fun cs=>qP (Jl h d) cs fun cs=>K (.ip cs)
   |_=>none
  |.v x=>K (.v x)
  |.is e rows=>K (.is e rows)
  |.ip cs=>K (.ip cs)
  |_=>none
def cN1 (h:aN) (x:PV) (K:PV->aB R):aB R:=match x with
 |.fn f [] cap=>qP (Jl h 4) cap fun c=>K (.fn f [] c)
 |x=>Jl h 4 x K
def cO1 (h:aN):aA PV->(aA PV->aB R)->aB R
 |[],K=>K []
 |x::xs,K=>cN1 h x fun x=>cO1 h xs fun xs=>K (x::xs)
def cP1 (h:aN) (x:PV) (K:PV->aB R):aB R:=match x with
 |.agg cs=>cO1 h cs fun cs=>K (.agg cs)
 |x=>cN1 h x K
def cQ1 (h:aN):aA PV->(aA PV->aB R)->aB R
 |[],K=>K []
 |x::xs,K=>cP1 h x fun x=>cQ1 h xs fun xs=>K (x::xs)
def rzK (h:aN) (x:PV) (K:PV->aB R):aB R:=match x with
 |.tup vs=>cQ1 h vs fun vs=>K (.tup vs)
 |.map k=>hK h k fun ob=>match ob with
  |.mp es=>K (.im es)
  |_=>none
 |x=>cP1 h x K
def Aw (C:vE) (X:NX) (fn:bV) (xs:aA PV) (K:PV->aB R):aB R:=
 bif Nat.ble xs.length fn.ntmps then Jk xs 0 fun e=>fJ C X fn.code e [] 0 fun x e h n=>match x with
  |.exit _=>none
  |_=>Av e h n fn.res fun vs=>match vs with
   |[v]=>rzK h v K
   |vs=>rzK h (.tup vs) K
 else none
def Xk (C:vE) (X:NX) (fn:bV) (xs:aA PV) (h:aN) (n:Nat) (K:PV->aN->Nat->aB R):aB R:=
 bif Nat.ble xs.length fn.ntmps then Jk xs 0 fun e=>fJ C X fn.code e h n fun x e h n=>match x with
  |.exit _=>none
  |_=>Av e h n fn.res fun vs=>match vs with
   |[v]=>K v h n
   |vs=>K (.tup vs) h n
 else none
def Bn:dG->aA Nat->aA PV->(dG->aB R)->aB R
 |e,[],[],K=>K e
 |e,p::ps,x::xs,K=>gJ e [p] fun e=>Bn ((p,x)::e) ps xs K
 |_,_,_,_=>none
def okG (NF:FuncId->Bool) (N:Nat) (ps:aA Nat) (a b:PC):aB Unit:=if okL NF N ps a b=true then some ()else none
def cR1 (C:vE) (X:NX) (k:Nat) (xs:aA PV) (h:aN) (n:Nat) (K:PV->aN->Nat->aB R):aB R:=
 hK h k fun ob=>match ob with
 |.loop N e ps a b false none=>bL (okG X.is N ps a b) fun _=>Bn e ps xs fun e=>fJ C X a e h n fun x e h n=>match x with
  |.normal=>hK h k fun ob=>match ob with
   |.loop N e' ps a b' false none=>eK h k (.loop N e' ps a b' true none) fun h=>fJ C X b e h n fun x _ h n=>hK h k fun ob=>match ob with
    |.loop N e' ps a b' _ _=>match x with
     |.normal=>eK h k (.loop N e' ps a b' false none) fun h=>K (.v (.bool true)) h n
     |.exit i=>eK h k (.loop N e' ps a b' false (some (.exit i))) fun h=>K (.v (.bool false)) h n
     |.ret=>eK h k (.loop N e' ps a b' false (some .ret)) fun h=>K (.v (.bool false)) h n
    |_=>none
   |_=>none
  |_=>none
 |_=>none
abbrev xF:=Nat->aB bV
abbrev oF1:=FuncId->aA PV->aN->Nat->aB (PV×aN×Nat)
structure NB where
 nw:FuncId->Bool
 xw:FuncId->Bool:=fun _=>false
 run:oF1:=fun _ _ _ _=>none
def OX (B:vE) (NF:FuncId->Bool) (NW:NB) (P:xF):Nat->vE×NX
 |0=>(fun f xs=>bif NF f then none else B f xs,⟨NF,NW.nw,NW.xw,fun _ _ _ _ _=>none,fun _ _ _ _ _=>none⟩)
 |d+1=>(fun f xs=>bif NF f then none else match P f with
   |some fn=>bif fn.frz then Aw (OX B NF NW P d).1 (OX B NF NW P d).2 fn xs some else(Aw (OX B NF NW P d).1 (OX B NF NW P d).2 fn xs some).bind fun v=>bif vD 4 v then none else some v
   |none=>B f xs,
  ⟨NF,NW.nw,NW.xw,fun f xs h n K=>match P f with
   |some fn=>Xk (OX B NF NW P d).1 (OX B NF NW P d).2 fn xs h n K
   |none=>(NW.run f xs h n).bind fun r=>K r.1 r.2.1 r.2.2,fun k xs h n K=>cR1 (OX B NF NW P d).1 (OX B NF NW P d).2 k xs h n K⟩)
def Od (B:vE) (NF:FuncId->Bool) (NW:NB) (P:xF) (d:Nat):vE:=(OX B NF NW P d).1
def Xd (B:vE) (NF:FuncId->Bool) (NW:NB) (P:xF) (d:Nat):NX:=(OX B NF NW P d).2
end
def Ml (n x:Bool) (fn:bV):IFn:={ntmps:=fn.ntmps,res:=fn.res,body:=jM fn.code,pure:= !n,frz:=bif n then x else fn.frz}
section
variable {R:Type}
def wZ:aA PV->Nat->dG
 |[],_=>[]
 |x::xs,i=>(i,x)::wZ xs (i+1)
theorem Ax:∀(xs:aA PV) (i:Nat) (K:dG->aB R),Jk xs i K=K (wZ xs i)
 |[],i,K=>rfl
 |x::xs,i,K=>by simp[Jk,Io,wZ,Ax xs]
theorem vT:∀(xs:aA PV) (i j:Nat) (v:PV),dE (wZ xs i) j=some v->i<=j/\xs[j-i]? =some v
 |[],i,j,v,h=>by simp[wZ,dE]at h
 |x::xs,i,j,v,h=>by
  simp only[wZ,dE]at h
  split at h
  rename_i e;subst e;cases h;simp
  obtain⟨h1,h2⟩:=vT xs (i+1) j v h
  refine⟨by omega,?_⟩
  rw[show j-i=(j-(i+1))+1 by omega]
  simpa using h2
variable {C:Cx} {n:Nat} {h:aN} {lim:Nat} {s:Hp} {e:dG} {t:List AV}
theorem Jm {k:eE} {y:AV} {K:PV->aN->Nat->aB R} {r:R} (hs:zZ C n h s k [y] K r):
  ∃w z,K w h n=some r/\(doOp (Sim.look s.h) 0 0 k [y]).map (·.v)=some z/\RV C w z:=by
 obtain⟨w,z,h1,h2,a⟩:=hs;exact⟨w,z,a,by rw[h1 0 0];rfl,h2⟩
theorem tX (b:bY C n h lim s) (he:cS C e t):∀{g:aA Sim.RV} {K:aA PV->aB R} {r:R},Av e h n g K=some r->
  ∃vs a,K vs=some r/\mapO (Sim.readRes (Sim.look s.h) t) g=some a/\LR (RV C) vs a
 |[],K,r,hk=>⟨[],[],hk,rfl,.nil⟩
 |.tmp i::g,K,r,hk=>by
  unfold Av at hk
  rw[fQ,nI2]at hk
  obtain⟨v,hv,hk⟩:=hk
  obtain⟨y,h1,h2⟩:=he i v hv
  obtain⟨vs,a,c,d,f⟩:=tX b he hk
  exact⟨_,y::a,c,by simp[mapO,Sim.readRes,h1,d],.cons h2 f⟩
 |.cellS i::g,K,r,hk=>by
  unfold Av at hk
  rw[fQ,nI2]at hk
  obtain⟨v,hv,hk⟩:=hk
  obtain⟨y,h1,h2⟩:=he i v hv
  obtain⟨w,z,q1,q2,q3⟩:=Jm (Aa b (.cons h2 .nil) hk)
  obtain⟨vs,a,c,d,f⟩:=tX b he q1
  exact⟨_,z::a,c,by simp only[mapO,Sim.readRes,h1,q2,d],.cons q3 f⟩
 |.cellA i m::g,K,r,hk=>by
  unfold Av at hk
  rw[fQ,nI2]at hk
  obtain⟨v,hv,hk⟩:=hk
  obtain⟨y,h1,h2⟩:=he i v hv
  obtain⟨w,z,q1,q2,q3⟩:=Jm (Ab b (.cons h2 .nil) hk)
  obtain⟨vs,a,c,d,f⟩:=tX b he q1
  exact⟨_,z::a,c,by simp only[mapO,Sim.readRes,h1,q2,d],.cons q3 f⟩
theorem cS1 {L:Nat->aB AO} {d id ver e o:Nat} {bx:Bool} {ty:TypeId} {esz:Nat} {els:aA (aA AV)} {row cs:aA AV} (a:L id=some (.arr bx ty esz ver els)) (hr:els[e]? =some row) (hc:mapO (lC L 0 d) (row.drop o)=some cs):lC L 0 (d+1) (.ptr id ver e o)=some (.ip cs):=by
 simp[lC,a,hr,hc]
theorem Fa (j:bY C n h lim s):∀(d:Nat) (x:PV) (y:AV) (K:PV->aB R) (r:R),Jl h d x K=some r->RV C x y->∃G E,K G=some r/\lC (Sim.look s.h) 0 (d+2) y=some E/\RC false G E
 |0,x,y,K,r,hk,_=>by unfold Jl at hk;exact aD hk
 |d+1,x,y,K,r,hk,hv=>by
  unfold Jl at hk
  cases x with
  |own k=>
   simp only[eF,nI2]at hk
   obtain⟨ob,hg,hk⟩:=hk
   cases ob with
   |lst ty e g rows=>
    rcases eP hv with⟨id,ver,F,len,c,rfl⟩|⟨c,rfl⟩
    obtain⟨_,rfl,hlen,els,p,hr,q,_⟩:=iP j hg c
    subst hlen
    exact⟨_,_,hk,Pf (d:=d+1) (oX2 _) p hr q.1,hr.is⟩
    have:=jN j hg c
    subst this
    exact⟨_,_,hk,rfl,.isn⟩
   |lz ty e dp rows=>
    cases hb:Nat.ble dp (d+1)with
    |false=>simp only[hb,oI2]at hk;exact aD hk
    |true=>
    simp only[hb,nX2]at hk
    have hb:=oO2 hb
    rcases eP hv with⟨id,ver,F,len,c,rfl⟩|⟨c,rfl⟩
    obtain⟨_,_,rfl,hlen,_,els,p,hr⟩:=wT j hg c
    subst hlen
    obtain⟨w,m,l⟩:=iB1 (n0:=0) (f:=d+2) (fun id o D=>⟨oX2 _,(j.hr.zr id o D).1⟩) (by omega) (oX2 _) p hr
    exact⟨_,_,hk,m,l.is⟩
    have:=vK j hg c
    subst this
    exact⟨_,_,hk,rfl,.isn⟩
   |tr t rows hs=>
    obtain⟨ty,e,ks⟩:=t
    cases hs with
    |cons a b=>exact aD hk
    |nil=>
    cases hb:Bm (d+1) (.nd ty e ks)with
    |false=>simp only[hb,oI2]at hk;exact aD hk
    |true=>
    simp only[hb,nX2]at hk
    rcases eP hv with⟨id,ver,F,len,c,rfl⟩|⟨c,rfl⟩
    obtain⟨z,_,rfl,hlen,_,els,J,p,q,hr⟩:=jO j hg c
    subst hlen
    obtain⟨w,m,l⟩:=iC1 (n0:=0) (f:=d+1) (oX2 _) z hb p q.1 hr
    exact⟨_,_,hk,m,l.is⟩
    have:=(pQ j hg c).1
    subst this
    exact⟨_,_,hk,rfl,.isn⟩
   |_=>exact aD hk
  |zs dp e rows=>
   cases hb:Nat.ble dp (d+2)with
   |false=>simp only[hb,oI2]at hk;exact aD hk
   |true=>
   simp only[hb,nX2]at hk
   have hb:=oO2 hb
   obtain⟨E,m,l⟩:=Pg (L:=Sim.look s.h) (n0:=0) (fun id o D=>⟨oX2 _,(j.hr.zr id o D).1⟩) dp (d+3) (by omega) _ _ (Cu hv)
   exact⟨_,_,hk,m,l.weak⟩
  |ref k o=>
   simp only[eF,nI2]at hk
   obtain⟨ob,hg,hk⟩:=hk
   cases ob with
   |box cs=>
    obtain⟨m,l⟩:=cZ _ _ _ _ hk
    obtain⟨id,ver,e,len,c,rfl⟩:=kA hv
    obtain⟨_,ty,esz,row,p,hl⟩:=rQ j hg c
    have u:∀(xs:aA PV) (ys:aA AV) (K:aA PV->aB R) (r:R),qP (Jl h d) xs K=some r->LR (RV C) xs ys->
      ∃xs' i,K xs'=some r/\mapO (lC (Sim.look s.h) 0 (d+2)) ys=some i/\LR (RC false) xs' i:=by
     intro xs
     induction xs with
     |nil=>
      intro ys K r hk hl;rw[hl.inv_nil];unfold qP at hk;exact⟨[],[],hk,rfl,.nil⟩
     |cons a as ih=>
      intro ys K r hk hl;obtain⟨y,i,rfl,h1,h2⟩:=hl.inv_cons;unfold qP at hk;obtain⟨a',b',m,l,H⟩:=Fa j d a y _ r hk h1;obtain⟨A,B,q1,q2,q3⟩:=ih i _ r m h2;exact⟨a'::A,b'::B,q1,by simp only[mapO,l,q2],.cons H q3⟩
    obtain⟨xs',i,q1,q2,q3⟩:=u _ _ _ r l (hl.drop o);refine⟨_,.ip i,q1,?_,.ip q3.1 q3.2⟩;exact cS1 p rfl q2
   |_=>exact aD hk
  |v x=>
   rw[fB hv];exact⟨_,_,hk,rfl,.v x⟩
  |is e rows=>
   rcases vH hv with⟨rows',rfl,hr⟩|⟨rfl,rfl⟩
   exact⟨_,_,hk,rfl,hr.is⟩;exact⟨_,_,hk,rfl,.isn⟩
  |ip cs=>
   obtain⟨cs',rfl,hl⟩:=wS hv;exact⟨_,_,hk,rfl,.ip hl.1 hl.2⟩
  |_=>exact aD hk
theorem Sa {L:Nat->aB AO} {y c:AV} (h:lC L 0 6 y=some c):Tg L 0 y=some c:=by
 cases y with
 |sl=>simp only[Tg,Nat.not_lt_zero,oQ2];exact h
 |ptr=>simp only[Tg,Nat.not_lt_zero,oQ2];exact h
 |map=>simp[lC]at h
 |fn v a b=>simp[lC]at h
 |_=>exact h
theorem Sb {L:Nat->aB AO} {y a:AV} (h:Tg L 0 y=some a) (hy:∀cs,y≠.agg cs):fz1 L 0 y=some a:=by
 cases y with
 |agg cs=>exact absurd rfl (hy cs)
 |_=>exact h
theorem Xl {L:Nat->aB AO} {y a:AV} (h:fz1 L 0 y=some a) (hy:∀cs,y≠.tup cs) (b:∀id,y≠.map id):fz L 0 y=some a:=by
 cases y with
 |tup cs=>exact absurd rfl (hy cs)
 |map id=>exact absurd rfl (b id)
 |_=>exact h
theorem Jn (f:bY C n h lim s) (d:Nat):∀(xs:aA PV) (ys:aA AV) (K:aA PV->aB R) (r:R),qP (Jl h d) xs K=some r->LR (RV C) xs ys->
  ∃xs' b,K xs'=some r/\mapO (lC (Sim.look s.h) 0 (d+2)) ys=some b/\LR (RC false) xs' b
 |[],ys,K,r,hk,hl=>by
  rw[hl.inv_nil]
  unfold qP at hk
  exact⟨[],[],hk,rfl,.nil⟩
 |a::as,ys,K,r,hk,hl=>by
  obtain⟨y,b,rfl,h1,h2⟩:=hl.inv_cons
  unfold qP at hk
  obtain⟨a',b',g,i,j⟩:=Fa f d a y _ r hk h1
  obtain⟨c,e,q1,q2,q3⟩:=Jn f d as b _ r g h2
  exact⟨a'::c,b'::e,q1,by simp only[mapO,i,q2],.cons j q3⟩
theorem Pr (d:bY C n h lim s) {x:PV} {y:AV} {K:PV->aB R} {r:R} (hk:cN1 h x K=some r) (hv:RV C x y):∃a b,K a=some r/\Tg (Sim.look s.h) 0 y=some b/\RC false a b:=by
 unfold cN1 at hk;split at hk;rename_i f cap;obtain⟨a',b',rfl,h1,h2⟩:=tL hv;rw[h1.inv_nil];obtain⟨xs',c,q1,q2,q3⟩:=Jn d 4 _ _ _ r hk h2;exact⟨.fn f [] xs',.fn (.func f) [] c,q1,by simp only[Tg,q2,oM2],.fn rfl q3.1 (fun j x y h=>by simp at h) q3.2⟩;obtain⟨a,b,h1,h2,e⟩:=Fa d 4 x y K r hk hv;exact⟨a,b,h1,Sa h2,e⟩
theorem Jo (d:bY C n h lim s):∀{xs:aA PV} {ys:aA AV} {K:aA PV->aB R} {r:R},cO1 h xs K=some r->LR (RV C) xs ys->∃xs' a,K xs'=some r/\mapO (Tg (Sim.look s.h) 0) ys=some a/\LR (RC false) xs' a
 |[],ys,K,r,hk,hl=>by rw[hl.inv_nil];exact⟨[],[],hk,rfl,.nil⟩
 |x::xs,ys,K,r,hk,hl=>by
  obtain⟨y,a,rfl,h1,h2⟩:=hl.inv_cons
  unfold cO1 at hk
  obtain⟨a',b',e,f,g⟩:=Pr d hk h1
  obtain⟨b,c,q1,q2,q3⟩:=Jo d e h2
  exact⟨a'::b,b'::c,q1,by simp only[mapO,f,q2],.cons g q3⟩
theorem Sc {x:PV} {y:AV} (hv:RV C x y) (a:∀cs,x≠.agg cs) (b:x≠.undef):∀cs,y≠.agg cs:=by
 intro cs hy;subst hy;cases hv with
 |cl h=>cases h;exact a _ rfl
 |undef=>exact b rfl
 |ownn _ hy=>cases hy
 |agg=>exact a _ rfl
 |zs h=>rcases Cv h with(⟨_,h,_⟩|⟨_,h⟩)|⟨_,_,_,_,_,_,h,_⟩<;>cases h
theorem Sd {x:PV} {y:AV} (hv:RV C x y) (a:∀cs,x≠.tup cs) (b:x≠.undef):∀cs,y≠.tup cs:=by
 intro cs hy;subst hy;cases hv with
 |cl h=>cases h;exact a _ rfl
 |undef=>exact b rfl
 |ownn _ hy=>cases hy
 |tup=>exact a _ rfl
 |zs h=>rcases Cv h with(⟨_,h,_⟩|⟨_,h⟩)|⟨_,_,_,_,_,_,h,_⟩<;>cases h
theorem Se {x:PV} {y:AV} (hv:RV C x y) (b:∀k,x≠.map k) (c:∀es,x≠.zm es) (a:x≠.undef):∀id,y≠.map id:=by
 intro id hy;subst hy;cases hv with
 |cl h=>cases h
 |undef=>exact a rfl
 |ownn _ hy=>cases hy
 |map=>exact b _ rfl
 |zs h=>rcases Cv h with(⟨_,h,_⟩|⟨_,h⟩)|⟨_,_,_,_,_,_,h,_⟩<;>cases h
 |zm=>exact c _ rfl
theorem Ps (d:bY C n h lim s) {x:PV} {y:AV} {K:PV->aB R} {r:R} (hk:cP1 h x K=some r) (hv:RV C x y):∃a b,K a=some r/\fz1 (Sim.look s.h) 0 y=some b/\RC false a b:=by
 unfold cP1 at hk;split at hk;rename_i cs;obtain⟨cs',rfl,hl⟩:=kS hv;obtain⟨xs',c,j,k,f⟩:=Jo d hk hl;exact⟨_,.agg c,j,by simp only[fz1,k,oM2],.agg f.1 f.2⟩;rename_i i;obtain⟨a,b,h1,h2,g⟩:=Pr d hk hv;by_cases e:x=.undef;subst e;exact aD hk;exact⟨a,b,h1,Sb h2 (Sc hv i e),g⟩
theorem Jp (d:bY C n h lim s):∀{xs:aA PV} {ys:aA AV} {K:aA PV->aB R} {r:R},cQ1 h xs K=some r->LR (RV C) xs ys->∃xs' a,K xs'=some r/\mapO (fz1 (Sim.look s.h) 0) ys=some a/\LR (RC false) xs' a
 |[],ys,K,r,hk,hl=>by rw[hl.inv_nil];exact⟨[],[],hk,rfl,.nil⟩
 |x::xs,ys,K,r,hk,hl=>by
  obtain⟨y,a,rfl,h1,h2⟩:=hl.inv_cons
  unfold cQ1 at hk
  obtain⟨a',b',e,f,g⟩:=Ps d hk h1
  obtain⟨b,c,q1,q2,q3⟩:=Jp d e h2
  exact⟨a'::b,b'::c,q1,by simp only[mapO,f,q2],.cons g q3⟩
theorem Xm (c:bY C n h lim s) {x:PV} {y:AV} {K:PV->aB R} {r:R} (hk:rzK h x K=some r) (hv:RV C x y):∃a b,K a=some r/\fz (Sim.look s.h) 0 y=some b/\RC false a b:=by
 unfold rzK at hk;split at hk;rename_i vs;obtain⟨cs',rfl,hl⟩:=zV hv;obtain⟨xs',f,p,q,g⟩:=Jp c hk hl;exact⟨_,.tup f,p,by simp only[fz,q,oM2],.tup g.1 g.2⟩;rename_i k;rw[eF,nI2]at hk;obtain⟨ob,hg,hk⟩:=hk;cases ob with
 |mp es=>
  obtain⟨id,ver,e,len,j,rfl⟩:=vI hv;obtain⟨_,es',l,he⟩:=Ip c hg j;refine⟨_,.im es',hk,?_,he.er.im⟩;simp only[fz,Nat.not_lt_zero,oQ2,l];exact congrArg (Option.map AV.im) (Wn he)
 |_=>exact aD hk
 rename_i o m;obtain⟨a,b,h1,h2,i⟩:=Ps c hk hv;by_cases d:x=.undef;subst d;exact aD hk;exact⟨a,b,h1,Xl h2 (Sd hv o d) (Se hv m (fun es he=>by subst he;exact aD hk) d),i⟩
variable {T:iG} {O:vE} {X:NX}
theorem Jq (u:∀f xs v,O f xs=some v->oD T f xs v) (z:NOK T X) {fn:bV} (j:uL X.is fn.ntmps false fn.code=true) {xs:aA PV} {ys:aA AV} {v:PV} (hl:LR (RC false) xs ys) (hk:Aw O X fn xs some=some v):
  ∃D,∀d,D<=d->∃w s' y,Sim.body (exec T d) 0 (Ml false false fn) ys {h:=[],n:=0}=some (w,s')/\Sim.fz (Sim.look s'.h) 0 w=some y/\RC false v y:=by
 unfold Aw at hk;cases c:Nat.ble xs.length fn.ntmps with
 |false=>rw[c]at hk;exact aD hk
 |true=>
  rw[c,nX2,Ax]at hk;have c:xs.length<=fn.ntmps:=by simpa[Nat.ble_eq]using c
  have hlen:=hl.1;have s:bY ⟨fun _=>none,fun _=>none,fun _=>none⟩ 0 [] 0 ({h:=[],n:=0}:Hp):=⟨⟨fun k po h=>by simp[aK]at h,fun k k' id v e l v' e' l' a=>absurd rfl a,fun id o h=>(by cases h),fun k id v e l a=>absurd rfl a,fun id sl h=>(by cases h),fun id o h=>(by cases h)⟩,fun k pl h=>(by cases h),trivial,nM2 _⟩
  have he:cS ⟨fun _=>none,fun _=>none,fun _=>none⟩ (wZ xs 0) (ys++List.replicate (fn.ntmps-ys.length) .undef):=fun i v hv=>by
   obtain⟨_,h2⟩:=vT xs 0 i v hv;obtain⟨y,p,r⟩:=hl.get (by simpa using h2);exact⟨y,by rw[pX2 (nK2.1 p).1];exact p,.cl r⟩
  obtain⟨x,e',h',n',C',E,s',q1,q2,q3,q4,q5,q6,D,q7⟩:=eD (T:=T) (rd:=false) (lim:=0) (N:=fn.ntmps) u z fn.code _ v _ 0 [] _ (ys++List.replicate (fn.ntmps-ys.length) .undef) _ hk he s (by simp;omega) j
  have fin:(∀i,x≠.exit i)->(Av e' h' n' fn.res fun vs=>match vs with|[v]=>rzK h' v some|vs=>rzK h' (.tup vs) some)=some v->
    ∃D,∀d,D<=d->∃w s' y,Sim.body (exec T d) 0 (Ml false false fn) ys {h:=[],n:=0}=some (w,s')/\Sim.fz (Sim.look s'.h) 0 w=some y/\RC false v y:=by
   intro A hr;obtain⟨vs,q,r1,r2,r3⟩:=tX q3 q2 hr
   obtain⟨w,y,p1,p2,p3⟩:∃w y,Sim.results (Sim.look s'.h) E fn.res=some w/\Sim.fz (Sim.look s'.h) 0 w=some y/\RC false v y:=by
    split at r1;rename_i v1;obtain⟨w,F,rfl,B,C⟩:=r3.inv_cons;have:=C.inv_nil;subst this;obtain⟨G,m,z1,z2,z3⟩:=Xm q3 r1 B;cases z1;exact⟨w,m,by simp only[Sim.results,r2],z2,z3⟩;rename_i g;obtain⟨G,m,z1,z2,z3⟩:=Xm q3 r1 (y:=.tup q) (.tup r3.1 r3.2);cases z1;refine⟨.tup q,m,?_,z2,z3⟩;simp only[Sim.results,r2];split;rename_i w hw;cases hw;have:=r3.1;rcases vs with _|⟨a,_|⟨b,t⟩⟩<;>simp at this;exact absurd rfl (g a);rename_i h1 h2;cases h2;rfl;rename_i h1;cases h1
   refine⟨D,fun d hd=>⟨w,s',y,?_,p2,p3⟩⟩;simp only[Sim.body,Ml,q7 d hd];cases x with
   |exit i=>exact absurd rfl (A i)
   |normal=>simp only[p1,oM2]
   |ret=>simp only[p1,oM2]
  cases x with
  |exit i=>exact aD q1
  |normal=>exact fin (fun i h=>by cases h) q1
  |ret=>exact fin (fun i h=>by cases h) q1
theorem cT1 {k:Bool} (o:∀f xs v,O f xs=some v->oD T f xs v) (p:NOK T X) {fn:bV} (g:uL X.is fn.ntmps false fn.code=true) {xs:aA PV} {ys:aA AV} {h:aN} {n:Nat} {K:PV->aN->Nat->aB R} {r:R} {C:Cx} {s:Hp} {lim:Nat}
  (hk:Xk O X fn xs h n K=some r) (hl:LR (RV C) xs ys) (m:bY C n h lim s):
  ∃v h' n' C' y s',K v h' n'=some r/\RV C' v y/\bY C' n' h' lim s'/\n<=n'/\Fr C h s C' h' s'/\∃D,∀d,D<=d->Sim.body (exec T d) lim (Ml true k fn) ys s=some (y,s'):=by
 unfold Xk at hk;cases c:Nat.ble xs.length fn.ntmps with
 |false=>rw[c]at hk;exact aD hk
 |true=>
  rw[c,nX2,Ax]at hk;have c:xs.length<=fn.ntmps:=by simpa[Nat.ble_eq]using c
  have hlen:=hl.1
  have he:cS C (wZ xs 0) (ys++List.replicate (fn.ntmps-ys.length) .undef):=fun i v hv=>by
   obtain⟨_,h2⟩:=vT xs 0 i v hv;obtain⟨y,j,l⟩:=hl.get (by simpa using h2);exact⟨y,by rw[pX2 (nK2.1 j).1];exact j,l⟩
  obtain⟨x,e',h',n',C',A,s',q1,q2,q3,q4,q5,q6,D,q7⟩:=eD (T:=T) (rd:=false) (lim:=lim) (N:=fn.ntmps) o p fn.code _ r _ n h _ (ys++List.replicate (fn.ntmps-ys.length) .undef) s hk he m (by simp;omega) g
  have fin:(∀i,x≠.exit i)->(Av e' h' n' fn.res fun vs=>match vs with|[v]=>K v h' n'|vs=>K (.tup vs) h' n')=some r->
    ∃v h' n' C' y s',K v h' n'=some r/\RV C' v y/\bY C' n' h' lim s'/\n<=n'/\Fr C h s C' h' s'/\∃D,∀d,D<=d->Sim.body (exec T d) lim (Ml true k fn) ys s=some (y,s'):=by
   intro q hr;obtain⟨vs,B,r1,r2,r3⟩:=tX q3 q2 hr
   obtain⟨v,w,p1,p2,p3⟩:∃v w,K v h' n'=some r/\Sim.results (Sim.look s'.h) A fn.res=some w/\RV C' v w:=by
    split at r1;rename_i v1;obtain⟨w,E,rfl,u,z⟩:=r3.inv_cons;have:=z.inv_nil;subst this;exact⟨v1,w,r1,by simp only[Sim.results,r2],u⟩;rename_i e;refine⟨.tup vs,.tup B,r1,?_,.tup r3.1 r3.2⟩;simp only[Sim.results,r2];split;rename_i w hw;cases hw;have:=r3.1;rcases vs with _|⟨a,_|⟨b,t⟩⟩<;>simp at this;exact absurd rfl (e a);rename_i h1 h2;cases h2;rfl;rename_i h1;cases h1
   refine⟨v,h',n',C',w,s',p1,p3,q3,q5,q6,D,fun d hd=>?_⟩;simp only[Sim.body,Ml,q7 d hd];cases x with
   |exit i=>exact absurd rfl (q i)
   |normal=>simp only[p2,oM2]
   |ret=>simp only[p2,oM2]
  cases x with
  |exit i=>exact aD q1
  |normal=>exact fin (fun i h=>by cases h) q1
  |ret=>exact fin (fun i h=>by cases h) q1
theorem Jr {C:Cx}:∀{ps:aA Nat} {xs:aA PV} {ys:aA AV} {e:dG} {t:aA AV} {K:dG->aB R} {r:R},Bn e ps xs K=some r->cS C e t->LR (RV C) xs ys->ps.all (fun p=>Nat.blt p t.length)=true->
  ∃e',K e'=some r/\cS C e' (Sim.putAll t ps ys)/\ps.length=ys.length/\(Sim.putAll t ps ys).length=t.length
 |[],[],ys,e,t,K,r,hk,he,hl,_=>by
  rw[hl.inv_nil]
  exact⟨e,by unfold Bn at hk;exact hk,he,rfl,rfl⟩
 |p::ps,x::xs,ys,e,t,K,r,hk,he,hl,hp=>by
  obtain⟨y,h,rfl,h1,h2⟩:=hl.inv_cons
  unfold Bn at hk
  rw[dC]at hk
  simp only[pL2,nJ2,pQ2]at hp
  have a:cS C ((p,x)::edel e [p]) (t.set p y):=.put hp.1 h1 (fun i w hw=>by
   obtain⟨z,p1,p2,p3⟩:=he.edel [p] i w hw
   exact⟨z,p1,p2,fun b=>p3 (by simp[b])⟩)
  obtain⟨e2,c,d,f,g⟩:=Jr hk a h2 (by simpa using hp.2)
  exact⟨e2,c,d,by simp[f],by simpa[Sim.putAll]using g⟩
 |[],_::_,_,_,_,_,_,hk,_,_,_=>by unfold Bn at hk;exact aD hk
 |_::_,[],_,_,_,_,_,hk,_,_,_=>by unfold Bn at hk;exact aD hk
theorem cU1 (hO:∀f xs v,O f xs=some v->oD T f xs v) (hX:NOK T X) {k:Nat} {xs:aA PV} {ys:aA AV} {h:aN} {n:Nat} {K:PV->aN->Nat->aB R} {r:R} {C:Cx} {s:Hp} {lim id ver e1 len:Nat}
  (hk:cR1 O X k xs h n K=some r) (hl:LR (RV C) xs ys) (hC:C k=some (.atp id ver e1 len)) (hM:bY C n h lim s):
  ∃v h' n' C' y s',K v h' n'=some r/\RV C' v y/\bY C' n' h' lim s'/\n<=n'/\Fr C h s C' h' s'/\∃D,∀d,D<=d->Sim.round (exec T d) lim id ys s=some (y,s'):=by
 unfold cR1 at hk;rw[eF,nI2]at hk;obtain⟨ob,M,hk⟩:=hk;split at hk
 .rename_i N e ps a b
  rw[bJ,nI2]at hk;obtain⟨_,p,hk⟩:=hk;unfold okG at p;split at p
  .rename_i g
   unfold okL at g;rw[nJ2,nJ2]at g;have o1:=g.1.1;have o2:=g.1.2;have o3:=g.2;clear p g;obtain⟨L,st,pend,tmps,g1,g2,g3,g4⟩:=xT hM M hC;obtain⟨rfl,rfl⟩:=g4;subst g2;obtain⟨e2,hk,he,Y,Z⟩:=Jr hk g3 hl o1;obtain⟨x,e',h1,n1,C1,t1,S,q1,q2,q3,q4,q5,q6,D1,q7⟩:=eD (T:=T) (rd:=true) (lim:=lim) (N:=tmps.length) hO hX a _ r _ n h _ _ s hk he hM Z o2;cases x with
   |exit i=>exact aD q1
   |ret=>exact aD q1
   |normal=>
   simp only[eF,nI2]at q1;obtain⟨q,l,q1⟩:=q1
   have place:∀{C1:Cx} {h1:aN} {S:Hp} {q:dO},Fr C h s C1 h1 S->aK h1 k=some q->eG q=true->C1 k=some (.atp id ver e1 len):=fun{C1 h1 S q} hf hg hb=>by
    obtain⟨o',p1,p2⟩:=hf.kd k _ M;rw[hg]at p1;cases p1;rw[(p2 hb).2,hC]
   split at q1
   .rename_i N2 W F a2 b2
    have A:=place q6 l rfl;obtain⟨_,st,pend,j,w1,w2,w3,w4⟩:=xT q3 l A;obtain⟨rfl,rfl⟩:=w4;subst w2;have q1:=cE _ _ _ _ _ q1;have w:=(q3.hr.lt (by rw[l];simp) A)
    obtain⟨m1,m2⟩:=nX q3 (po':=.loop j.length W F a2 b2 true none) (ao:=.loop .busy none j F (jM a2) (jM b2)) l A ⟨w.1,w.2,.busy,none,j,by rw[Sim.look_upd,nQ2 ⟨rfl,by rw[w1];rfl⟩],rfl,w3,rfl⟩ rfl;obtain⟨x2,e3,h2,n2,C2,t2,U,z1,z2,z3,z4,z5,z6,D2,z7⟩:=eD (T:=T) (rd:=true) (lim:=lim) (N:=tmps.length) hO hX b _ r _ n1 _ _ _ _ q1 q2 m1 q4 o3;simp only[nI2]at z1;obtain⟨b5,m,z1⟩:=z1;have H:=(q6.trans m2).trans z6;split at z1
    .rename_i N3 G u a3 b3 V b4
     have B:=place H m rfl;obtain⟨_,b6,b0,c,v1,v2,v3,v4⟩:=xT z3 m B;subst v2;have z:=(z3.hr.lt (by rw[m];simp) B)
     have fin:∀(fn:aB Ex) (st:LoopState) (E:aB IC) (bv:Bool),StR false fn st E->(eK h2 k (.loop c.length G u a3 b3 false fn) fun h=>K (.v (.bool bv)) h n2)=some r->
       (∀s',Sim.endRound id U st E=some s'->∀d,D2<=d->(match exec T d lim true (jM b) {t:=t1,s:={h:=upd S.h id (.loop .busy none j F (jM a2) (jM b2)),n:=S.n}}with
        |some (.normal,τ)=>(Sim.endRound id τ.s .ready none).map fun s=>(AV.bool true,s)
        |some (.ret,τ)=>(Sim.endRound id τ.s .done (some .ret)).map fun s=>(AV.bool false,s)
        |some (.exit i,τ)=>(Sim.endRound id τ.s .done (some (.exit i))).map fun s=>(AV.bool false,s)
        |none=>none)=some (AV.bool bv,s'))->
       ∃v h' n' C' y s',K v h' n'=some r/\RV C' v y/\bY C' n' h' lim s'/\n<=n'/\Fr C h s C' h' s'/\∃D,∀d,D<=d->Sim.round (exec T d) lim id ys s=some (y,s'):=by
      intro fn st E bv a0 hk P;have hk:=cE _ _ _ _ _ hk;obtain⟨m3,m4⟩:=nX z3 (po':=.loop c.length G u a3 b3 false fn) (ao:=.loop st E c u (jM a3) (jM b3)) m B ⟨z.1,z.2,st,E,c,by rw[Sim.look_upd,nQ2 ⟨rfl,by rw[v1];rfl⟩],rfl,v3,a0⟩ rfl;refine⟨_,_,_,_,.v (.bool bv),_,hk,.cl (.v _),m3,by omega,H.trans m4,D1+D2,fun d hd=>?_⟩;have J:Sim.endRound id U st E=some {h:=upd U.h id (.loop st E c u (jM a3) (jM b3)),n:=U.n}:=by simp only[Sim.endRound,v1]
      simp only[Sim.round,g1];rw[nQ2 ⟨L,Y⟩,q7 d (by omega)];simp only[w1];exact P _ J d (by omega)
     cases x2 with
     |normal=>exact fin none .ready none true ⟨rfl,rfl⟩ z1 (fun s' o d hd=>by rw[z7 d hd];simp only[o,oM2])
     |exit i=>exact fin (some (.exit i)) .done (some (.exit i)) false ⟨rfl,rfl⟩ z1 (fun s' o d hd=>by rw[z7 d hd];simp only[o,oM2])
     |ret=>exact fin (some .ret) .done (some .ret) false ⟨rfl,rfl⟩ z1 (fun s' o d hd=>by rw[z7 d hd];simp only[o,oM2])
    .exact aD z1
   .exact aD q1
  .cases p
 .exact aD hk
theorem Pt {B:vE} {NF:FuncId->Bool} {NW:NB} {P:xF} (d:Nat):(OX B NF NW P d).2.is=NF:=by cases d<;>rfl
theorem Fb {f:FuncId} {ifn:IFn} {ys:aA AV} {v:PV} (b:T.memo f ys=none) (h:∃D,∀d,D<=d->∃w s' y,Sim.body (exec T d) 0 ifn ys {h:=[],n:=0}=some (w,s')/\Sim.fz (Sim.look s'.h) 0 w=some y/\RC false v y):
  ∃D,∀d,D<=d->∃y,Sim.runP T (exec T d) f ifn ys=some y/\RC false v y:=by
 obtain⟨D,a⟩:=h;refine⟨D,fun d hd=>?_⟩;obtain⟨w,s',y,c,e,g⟩:=a d hd;exact⟨y,by simp only[Sim.runP,b,c,e],g⟩
def cV1 (T:iG) (NF xw:FuncId->Bool) (P:xF) (run:oF1):Prop:=∀(f:FuncId) (xs:aA PV) (h:aN) (n:Nat) (v:PV) (h':aN) (n':Nat) (C:Cx) (s:Hp) (lim:Nat) (ys:aA AV),
 NF f=true->P f=none->run f xs h n=some (v,h',n')->LR (RV C) xs ys->bY C n h lim s->
 ∃C' y s',RV C' v y/\bY C' n' h' lim s'/\n<=n'/\Fr C h s C' h' s'/\(∃ifn,T f=some ifn/\ifn.pure=false/\ifn.frz=xw f)/\∃D,∀d,D<=d->Sim.callF T (exec T d) lim f ys s=some (y,s')
theorem Sf {NF xw:FuncId->Bool} {P:xF}:cV1 T NF xw P (fun _ _ _ _=>none):=fun f xs h n v h' n' C s lim ys _ _ h=>by cases h
theorem iF1 {B:vE} {NF:FuncId->Bool} {NW:NB} {P:xF} (j:∀f xs v,NF f=false->B f xs=some v->oD T f xs v) (o:cV1 T NF NW.xw P NW.run) (l:∀f fn,P f=some fn->T f=some (Ml (NF f) (NW.xw f) fn)/\uL NF fn.ntmps false fn.code=true/\∀ys,T.memo f ys=none):
  ∀d,(∀f xs v,(OX B NF NW P d).1 f xs=some v->oD T f xs v)/\NOK T (OX B NF NW P d).2
 |0=>⟨fun f xs v h=>by
   simp only[OX]at h
   cases hn:NF f with
   |true=>rw[hn]at h;exact aD h
   |false=>rw[hn]at h;exact j f xs v hn h,⟨fun f xs h n K r C s lim ys c hk=>by simp[OX]at hk,fun k xs h n K r C s lim ys id ver e len hk=>by simp[OX]at hk⟩⟩
 |d+1=>by
  obtain⟨i1,g⟩:=iF1 j o l d
  refine⟨fun f xs v h=>?_,⟨fun f xs h n K r C s lim ys c hk hl b=>?_,fun k xs h n K r C s lim ys id ver e len hk hl q b=>?_⟩⟩
  simp only[OX]at h
  cases hn:NF f with
  |true=>rw[hn]at h;exact aD h
  |false=>
   rw[hn,oI2]at h
   split at h
   rename_i fn a
   obtain⟨h1,h2,i⟩:=l f fn a
   rw[hn]at h1
   cases hz:fn.frz with
   |true=>
    rw[hz,nX2]at h
    exact⟨Ml false _ fn,h1,rfl,fun _=>by simp[Ml,hz],fun ys hl=>Fb (i ys) (Jq i1 g (by rw[Pt];exact h2) hl h)⟩
   |false=>
    rw[hz,oI2,nI2]at h
    obtain⟨v',h,hg⟩:=h
    cases hq:vD 4 v' with
    |true=>rw[hq]at hg;exact aD hg
    |false=>
     rw[hq]at hg
     cases hg
     exact⟨Ml false _ fn,h1,rfl,fun p=>(by rw[hq]at p;cases p),fun ys hl=>Fb (i ys) (Jq i1 g (by rw[Pt];exact h2) hl h)⟩
   exact j f xs v hn h
  simp only[OX]at c hk
  split at hk
  rename_i fn a
  obtain⟨h1,h2,i⟩:=l f fn a
  rw[c]at h1
  obtain⟨v,h',n',C',y,s',p1,p2,p3,p4,p5,D,p6⟩:=cT1 i1 g (by rw[Pt];exact h2) hk hl b
  refine⟨v,h',n',C',y,s',p1,p2,p3,p4,p5,⟨_,h1,rfl,rfl⟩,D,fun d hd=>?_⟩
  simp only[Sim.callF,h1]
  exact p6 d hd
  rename_i a
  rw[nI2]at hk
  obtain⟨⟨v,h',n'⟩,m,hk⟩:=hk
  obtain⟨C',y,s',p2,p3,p4,p5,p6,p7⟩:=o f xs h n v h' n' C s lim ys c a m hl b
  exact⟨v,h',n',C',y,s',hk,p2,p3,p4,p5,p6,p7⟩
  simp only[OX]at hk
  exact cU1 i1 g hk hl q b
theorem Xn {B:vE} {NF:FuncId->Bool} {NW:NB} {P:xF} (a:∀f xs v,NF f=false->B f xs=some v->oD T f xs v) (b:cV1 T NF NW.xw P NW.run) (c:∀f fn,P f=some fn->T f=some (Ml (NF f) (NW.xw f) fn)/\uL NF fn.ntmps false fn.code=true/\∀ys,T.memo f ys=none) (d:Nat) (f:FuncId) (xs:aA PV) (v:PV) (h:Od B NF NW P d f xs=some v):oD T f xs v:=(iF1 a b c d).1 f xs v h
theorem oG1 {B:vE} {NF:FuncId->Bool} {NW:NB} {P:xF} {f:FuncId} {fn:bV} (hn:NF f=false) (h:P f=some fn) (a:fn.frz=true) (d:Nat) (xs:aA PV):Od B NF NW P (d+1) f xs=Aw (Od B NF NW P d) (Xd B NF NW P d) fn xs some:=by
 simp only[Od,Xd,OX,h,hn,a,oI2,nX2]
theorem oH1 {R:Type} {B:vE} {NF:FuncId->Bool} {NW:NB} {P:xF} {f:FuncId} {fn:bV} (h:P f=some fn) (d:Nat) (xs:aA PV) (a:aN) (n:Nat) (K:PV->aN->Nat->aB R):(Xd B NF NW P (d+1)).run f xs a n K=Xk (Od B NF NW P d) (Xd B NF NW P d) fn xs a n K:=by
 simp only[Od,Xd,OX,h]
theorem Pu {B:vE} {NF:FuncId->Bool} {NW:NB} {P:xF} {f:FuncId} (hn:NF f=false) (h:P f=none) (d:Nat) (xs:aA PV):Od B NF NW P d f xs=B f xs:=by
 cases d with
 |zero=>simp only[Od,OX,hn,oI2]
 |succ d=>simp only[Od,OX,h,hn,oI2]
end
end Go.P
namespace Go.P
open Go.Sim (Ex eE CK)
theorem cW1 {α β γ δ:Type} {X:aB γ} {Y:aB α} {e:α->γ} {K:γ->aB δ} {F:α->aB β} {enc:β->δ} (h:X=Y.map e) (hk:∀y,K (e y)=(F y).map enc):bL X K=(Y.bind F).map enc:=by
 rw[bJ];subst h;cases Y<;>simp[hk]
theorem oI1 {β γ:Type} {b:Bool} {X Y:aB γ} {FX FY:aB β} {enc:β->γ} (a:X=FX.map enc) (hy:Y=FY.map enc):Hy b X Y=(if b then FX else FY).map enc:=by
 rw[nT];subst a hy;cases b<;>rfl
theorem aL {S E S' E':Type} {enc:S->S'} {encE:E->E'} {B:S'->aB (S'⊕E')} {F:S->aB (S⊕E)} (h:∀s,B (enc s)=(F s).map (Sum.map enc encE)):∀(n:Nat) (s:S),aX B n (enc s)=(aX F n s).map encE
 |0,s=>rfl
 |n+1,s=>by
  simp only[aX,h]
  cases F s with
  |none=>rfl
  |some r=>
   cases r with
   |inl s'=>exact aL h n s'
   |inr e=>rfl
def aV {A:Type} (l:aA A) (i:Int):aB A:=if 0<=i then l[i.toNat]? else none
theorem Mn {A:Type} (f:A->aA PV) (l:aA A) (i:Int):rN (l.map f) i=(aV l i).map f:=by
 unfold rN aV;split<;>simp
def i64 (n:Int):PV:=.v (.int .i64 n)
def bv (b:Bool):PV:=.v (.bool b)
end Go.P
namespace Go.P
open Go.Sim (Ex eE CK maxRoom)
def bD (n:Int):Int:=IntKind.wrap .i64 n
def eA {A:Type} (f:A->aA PV) (x:A):PV:=.agg (f x)
def cI (n:Int):aA PV:=[i64 n]
def Xo (b:UInt8):aA PV:=[.v (.int .u8 (b.toNat:Int))]
def cB (b:Bool):aA PV:=[bv b]
def gY {K V:Type} (f:K->PV) (g:V->PV) (p:K×V):PV×PV:=(f p.1,g p.2)
section
variable {γ δ:Type}
theorem oJ1 {X:aB γ} {x:γ} {K:γ->aB δ} {r:aB δ} (h:X=some x) (hk:K x=r):bL X K=r:=by
 rw[bJ,h];exact hk
theorem gE {b x:Bool} {X:aB Bool} (h:X=some x):Hy b X (some false)=some (b&&x):=by
 rw[nT,h];cases b<;>rfl
theorem fW {b x:Bool} {X:aB Bool} (h:X=some x):Hy b (some true) X=some (b||x):=by
 rw[nT,h];cases b<;>rfl
theorem oid {A:Type} (x:aB A):x=x.map id:=by simp
end
section
variable {A:Type}
theorem dD (c:A->aA PV) (l:aA A):some (l.map c).length=some l.length:=by simp
def fK (l:aA A) (i:Int):aB Nat:=mW l.length i
theorem bU (c:A->aA PV) (l:aA A) (i:Int):mW (l.map c).length i=(fK l i).map id:=by simp[fK]
def gQ (l:aA A) (i:Nat):aB A:=l[i]?
theorem cP {c:A->aA PV} {o:Nat} {g:A->PV} (h:∀x,(c x)[o]? =some (g x)) (l:aA A) (i:Nat):iO (l.map c) i o=(gQ l i).map g:=by
 unfold iO gQ;rw[oW2];cases l[i]? with
 |none=>rfl
 |some x=>exact h x
theorem lW {c:A->aA PV} {o n m:Nat} {g:A->aA PV} (h:∀x,(c x).length=m/\((c x).drop o).take n=g x) (hn:o+n<=m) (l:aA A) (i:Nat):jJ (l.map c) i o n=(gQ l i).map g:=by
 unfold jJ gQ;rw[oW2];cases l[i]? with
 |none=>rfl
 |some x=>simp[(h x).1,(h x).2,hn]
def Fc (l:aA A) (i:Nat) (f:A->A):aB (aA A):=(l[i]?).map fun x=>l.set i (f x)
theorem vU {c:A->aA PV} {o:Nat} {cs:aA PV} {f:A->A} {m:Nat} (h:∀x,(c x).length=m/\Sim.setL (c x) o cs=c (f x)) (hn:o+cs.length<=m) (l:aA A) (i:Nat):lO (l.map c) i o cs=(Fc l i f).map (List.map c):=by
 unfold lO Fc;rw[oW2];cases l[i]? with
 |none=>rfl
 |some x=>simp[(h x).1,(h x).2,hn]
def rX (l:aA A) (a b:Int):aB (aA A):=if 0<=a/\a<=b/\b<=l.length then some ((l.drop a.toNat).take (b.toNat-a.toNat))else none
theorem tY (f:A->aA PV) (l:aA A) (a b:Int):mX (l.map f) a b=(rX l a b).map (List.map f):=by
 unfold mX rX;simp only[qT2];split;simp[List.map_take,List.map_drop];rfl
theorem Bo (f:A->aA PV) (l:aA A) (a:Int):mX (l.map f) a (l.map f).length=(rX l a l.length).map (List.map f):=by
 rw[tY,qT2]
def pU (l:aA A) (h:Int):aB (aA A):=if 0<=h/\h<=l.length then some (l.take h.toNat)else none
theorem rA (f:A->aA PV) (l:aA A) (h:Int):qI (l.map f) h=(pU l h).map (List.map f):=by
 unfold qI pU;simp only[qT2];split;simp[List.map_take];rfl
def qQ (g:Bool) (l m:aA A):aB (aA A):=if l.length+m.length<=maxRoom/\(g=true->m.length<=1)then some (l++m)else none
theorem dT (g:Bool) (f:A->aA PV) (l m:aA A):appRows g (l.map f) (m.map f)=(qQ g l m).map (List.map f):=by
 unfold appRows qQ;simp only[qT2];split;simp;rfl
def rB (l c:Int) (z:A):aB (aA A):=if 0<=l/\l<=c/\c<=maxRoom then some (List.replicate l.toNat z)else none
theorem jQ (f:A->aA PV) (l c:Int) (z:A):pK l c (f z)=(rB l c z).map (List.map f):=by
 unfold pK rB;split;simp;rfl
def Xp (l:aA A) (lo:Int) (z:A):aB (aA A):=if 0<=lo/\lo<=l.length then some (l.take lo.toNat++List.replicate (l.length-lo.toNat) z)else none
theorem Js (f:A->aA PV) (l:aA A) (lo:Int) (z:A):tG (l.map f) lo (f z)=(Xp l lo z).map (List.map f):=by
 unfold tG Xp;simp only[qT2];split;simp[List.map_take];rfl
theorem rY (k:IntKind) (l:aA Int) (i:Int) {n:Nat} (h:l.length=n):sZ (l.map fun x=>PV.v (.int k x)) i n 1=(aV l i).map (fun x=>PV.v (.int k x)):=by
 subst h;unfold sZ aV;by_cases h0:0<=i;by_cases h1:i<l.length;simp[h0,h1];rw[nS2 (by omega),nQ2 h0,rA2 (by omega)];rfl;rw[nS2 (by omega),nS2 h0];rfl
theorem Jt {c:A->aA PV} {e:Nat} (hc:∀x,(c x).length=e):∀(l:aA A) (j:Nat),j<l.length->((l.flatMap c).drop (j*e)).take e=((l[j]?).map c).getD []/\(j+1)*e<=(l.flatMap c).length
 |[],j,h=>by simp at h
 |x::l,0,h=>by
  have:=hc x
  constructor
  simp[<-this]
  simp[<-this]
 |x::l,j+1,h=>by
  have a:=hc x
  obtain⟨h1,h2⟩:=Jt hc l j (by simpa using h)
  constructor
  rw[List.flatMap_cons,show(j+1)*e=(c x).length+j*e by rw[a,pK2];omega,<-qF2,List.drop_left]
  simpa using h1
  rw[List.flatMap_cons,pD2,a]
  rw[show(j+1+1)*e=e+(j+1)*e by rw[pK2 (j+1) 1 e];omega]
  omega
theorem Ju (c:A->aA PV) (l:aA A) (i:Int) {n e:Nat} (h:l.length=n) (hc:∀x,(c x).length=e) {cs:aA PV} (a:cs=l.flatMap c):pJ cs i n e=(aV l i).map c:=by
 subst h a;unfold pJ aV;by_cases h0:0<=i;by_cases h1:i<l.length;obtain⟨h2,b⟩:=Jt hc l i.toNat (by omega)
 rw[nQ2 ⟨h0,h1,b⟩,h2,nQ2 h0];rw[oT2 (by omega)];rfl;rw[nS2 (by omega),nQ2 h0,rA2 (by omega)];rfl;rw[nS2 (by omega),nS2 h0];rfl
end
def cX1 (k:IntKind) (a b:Int):aB Int:=if b<0 then none else some (k.wrap (a*2^min b.toNat k.bits))
def Mo (k:IntKind) (a b:Int):aB Int:=if b<0 then none else some (a.fdiv (2^min b.toNat k.bits))
def Mp (k:IntKind) (a b:Int):aB Int:=if b=0 then none else some (k.wrap (a.tdiv b))
def Xq (k:IntKind) (a b:Int):aB Int:=if b=0 then none else some (a.tmod b)
def Jv (k:IntKind) (a b:Int):Int:=k.wrap (BitVec.ofInt k.bits a&&&BitVec.ofInt k.bits b).toNat
def Mq (k:IntKind) (a b:Int):Int:=k.wrap (BitVec.ofInt k.bits a|||BitVec.ofInt k.bits b).toNat
structure Jw {K:Type} [DecidableEq K] (ek:K->PV) (agg:Bool) (ks:List CK):Prop where
 ok:∀a,vC agg ks (ek a)=true
 eq:∀a b,vB agg ks (ek a) (ek b)=some (decide (a=b))
section
variable {K V:Type} [DecidableEq K] {ek:K->PV} {agg:Bool} {ks:List CK}
def Ay (k:K):aA (K×V)->Nat->aB (Nat×V)
 |[],_=>none
 |p::r,i=>if k=p.1 then some (i,p.2)else Ay k r (i+1)
def Xr (l:aA (K×V)) (k:K) (z:V):V:=match Ay k l 0 with|some p=>p.2|none=>z
def Sg (l:aA (K×V)) (k:K) (x:V):aA (K×V):=match Ay k l 0 with|some p=>l.set p.1 (k,x)|none=>l++[(k,x)]
theorem vV (h:Jw ek agg ks) (ev:V->PV) (k:K):∀(l:aA (K×V)) (i:Nat),tB agg ks (ek k) (l.map (gY ek ev)) i=some ((Ay k l i).map fun p=>(p.1,ev p.2))
 |[],i=>rfl
 |p::r,i=>by
  simp only[pZ2,gY,tB,h.eq,Ay]
  by_cases e:k=p.1
  simp[e]
  simp only[e,qB2,nS2 e]
  exact vV h ev k r (i+1)
theorem Az (h:Jw ek agg ks) (ev:V->PV) (l:aA (K×V)) (k:K) (z:V):rO agg ks (ev z) (ek k) (l.map (gY ek ev))=some (ev (Xr l k z)):=by
 unfold rO Xr;rw[h.ok,nQ2 rfl,vV h];cases Ay k l 0<;>rfl
theorem oE (h:Jw ek agg ks) (ev:V->PV) (l:aA (K×V)) (k:K) (x:V):zM agg ks (ek k) (ev x) (l.map (gY ek ev))=some ((Sg l k x).map (gY ek ev)):=by
 unfold zM Sg;rw[h.ok,nQ2 rfl,vV h];cases Ay k l 0 with
 |none=>simp[gY]
 |some p=>simp[gY,List.map_set]
end
end Go.P
namespace Go.P
open Go.Sim (Ex eE CK maxRoom)
section
variable {A β γ δ:Type} {f:A->List PV} {l m:List A} {i:Int}
theorem rg:rN (l.map f) i=(aV l i).map f:=Mn f l i
theorem lm:some (l.map f).length=some l.length:=dD f l
theorem im:mW (l.map f).length i=(fK l i).map id:=bU f l i
theorem lf {x:γ} {y:β} {enc:β->γ} (h:x=enc y):some x=(some y).map enc:=by subst h;rfl
theorem bo {α:Type} {X:aB γ} {Y:aB α} {e:α->γ} {K:γ->aB δ} {F:α->aB β} {enc:β->δ} (h:X=Y.map e) (hk:∀y,K (e y)=(F y).map enc):bL X K=(Y.bind F).map enc:=cW1 h hk
theorem bz {X:aB γ} {x:γ} {K:γ->aB δ} {r:aB δ} (h:X=some x) (hk:K x=r):bL X K=r:=oJ1 h hk
theorem io {b:Bool} {X Y:aB γ} {FX FY:aB β} {enc:β->γ} (a:X=FX.map enc) (hy:Y=FY.map enc):Hy b X Y=(if b then FX else FY).map enc:=oI1 a hy
theorem oi {x:aB A}:x=x.map id:=oid x
end
end Go.P
