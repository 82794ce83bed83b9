import Derived.Test.YtlohgggadnajiaaGreatLpA
/- A text of the proof. -/
set_option linter.all false
namespace Go.P
open Go.Sim (AV AO Hp iJ upd St IC IX Ex hZ CK Wf Out doOp lI exec)
def fF.mono {C C':Cx} {e:gG} {t:aA AV} (h:fF C e t) (a:C.le C'):fF C' e t:=fun i v hv=>by
 obtain⟨y,h1,h2⟩:=h i v hv
 exact⟨y,h1,h2.mono a⟩
def fF.put {C':Cx} {e':gG} {t:aA AV} {d:Nat} {v:PV} {y:AV} (hd:d<t.length) (hv:RV C' v y) (he:∀i w,gD e' i=some w->∃z,t[i]? =some z/\RV C' w z/\i≠d):fF C' ((d,v)::e') (t.set d y):=by
 intro i w hw;simp only[gD]at hw;split at hw
 grind
 grind
def fF.edel {C:Cx} {e:gG} {t:aA AV} (h:fF C e t) (is:aA Nat):∀i w,gD (edel e is) i=some w->∃z,t[i]? =some z/\RV C w z/\i∉is:=fun i w hw=>by
 rw[zZ]at hw
 split at hw
 cases hw
 rename_i hi
 obtain⟨z,h1,h2⟩:=h i w hw
 exact⟨z,h1,h2,hi⟩
section
variable {R:Type} {C:Cx} {n:Nat} {h:aS} {lim:Nat} {s:Hp}
def Wg (c:dI C n h lim s) {k:Nat} {po:dX} {h1:aS} (hg:aK h k=some po) (hkl:yF k h h1) (hb:iE po=false):dI C n (cZ h1 k po) lim s/\Fr C h s C (cZ h1 k po) s:=by
 have m:(aK h1 k).isSome=true:=by
  cases hc:aK h1 k with
  |none=>rw[(hkl.1 k).1 hc]at hg;cases hg
  |some o=>rfl
 have a:∀j,aK (cZ h1 k po) j=if j=k then some po else aK h1 j:=fun j=>by
  rw[eN];simp[m]
 have b:∀j,aK (cZ h1 k po) j≠none->aK h j≠none:=fun j d=>by
  rw[a]at d;split at d
  grind
  exact fun hc=>d ((hkl.1 j).2 hc)
 refine⟨⟨⟨fun j o d=>?_,fun j t i v1 f g v2 e2 w a1 a2 a3 a4=>c.hr.inj j t i v1 f g v2 e2 w (b j a1) (b t a2) a3 a4,fun i o u=>?_,fun j i v1 f g a1 a2=>c.hr.wn j i v1 f g (b j a1) a2,c.hr.wb,c.hr.wz⟩,c.dom,c.wf,c.lim⟩,⟨.refl _ _,bI3 _,fun _ _ _=>rfl,fun i hi p=>?_,Tj hg hkl hb mW.self,fun _ _ h=>h,fun _ _ h=>.inl h⟩⟩;rw[a]at d;split at d;rename_i f;subst f;cases d;exact c.hr.ob j _ hg;obtain⟨o0,q1,x,q2⟩:=hkl.2 j o d;obtain⟨pl,q,r⟩:=c.hr.ob j o0 q1;exact⟨pl,q,q2 mW.self rfl r⟩;obtain⟨z1,z2,z3,z4⟩:=c.hr.zr i o u;exact⟨z1,z2,fun j v e l h1 h2=>z3 j v e l (b j h1) h2,z4⟩;rcases p with⟨j,v1,f,g,q,r⟩|p;exact .inl ⟨j,v1,f,g,b j q,r⟩;exact .inr p
def Zi (c:dI C n h lim s) {e dp:Nat} {x:PV} {y:AV} {K:aA (aA PV)->aB R} {r:R} (hk:Vj h e dp x K=some r) (hv:RV C x y):∃rows rows',K rows=some r/\Sim.rowsOf (Sim.look s.h) e y=some rows'/\Iy C.z dp rows rows':=by
 unfold Vj at hk;split at hk;rename_i e' rows;rw[bO]at hk;by_cases a:e'=e;subst a;rw[cJ3 rfl,bS3]at hk;rcases Vp hv with⟨rows',rfl,hr⟩|⟨rfl,rfl|rfl⟩
 exact⟨rows,rows',hk,by simp[Sim.rowsOf],hr.z⟩;exact⟨[],[],hk,rfl,.nil⟩;exact⟨[],[],hk,rfl,.nil⟩
 grind
 rename_i k;simp only[iN,bD3]at hk;obtain⟨ob,hg,hk⟩:=hk;cases ob with
 |lst ty e' g rows=>
  simp only[bO]at hk;by_cases a:e'=e;subst a;rw[cJ3 rfl,bS3]at hk;rcases lA hv with⟨id,ver,i,len,b,rfl⟩|⟨b,hy⟩
  obtain⟨_,rfl,hlen,els,f,hr,j,_⟩:=lZ c hg b;subst hlen;refine⟨rows,els.take rows.length,hk,?_,hr.z⟩;simp only[Sim.rowsOf,f];rw[bK3 ⟨by trivial,by trivial,by omega⟩,dA3];have:=nO c hg b;subst this;rcases hy with rfl|rfl;exact⟨[],[],hk,rfl,.nil⟩;exact⟨[],[],hk,rfl,.nil⟩
  grind
 |lz ty e' dp' rows=>
  simp only at hk;cases hc:(Nat.beq e' e&&Nat.ble dp' dp)with
  |false=>rw[hc]at hk;exact aD hk
  |true=>
   rw[hc,bS3]at hk;simp only[bF3]at hc;have a:=bV3 hc.1;have e2:=bP3 hc.2;subst a;rcases lA hv with⟨id,ver,i,len,b,rfl⟩|⟨b,hy⟩
   obtain⟨_,_,rfl,hlen,_,els,f,hr⟩:=Fs c hg b;subst hlen;refine⟨rows,els,hk,?_,hr.up e2⟩;have hl:=hr.1;simp only[Sim.rowsOf,f];rw[bK3 ⟨by trivial,by trivial,by omega⟩,dA3,hl,dG3];have:=Ft c hg b;subst this;rcases hy with rfl|rfl;exact⟨[],[],hk,rfl,.nil⟩;exact⟨[],[],hk,rfl,.nil⟩
 |_=>exact aD hk
 rename_i d e' rows;cases hc:(Nat.beq e' e&&Nat.ble d (dp+1))with
 |false=>rw[hc]at hk;exact aD hk
 |true=>
  rw[hc,bS3]at hk;simp only[bF3]at hc;have a:=bV3 hc.1;have e2:=bP3 hc.2;subst a;rcases Jb (Ja hv)with(⟨rows',rfl,hr⟩|⟨rfl,rfl⟩)|⟨d',id,ver,ty,els,rfl,rfl,hz,hl,hr⟩
  exact⟨rows,rows',hk,by simp[Sim.rowsOf],hr.z⟩;exact⟨[],[],hk,rfl,.nil⟩;refine⟨rows,els.take rows.length,hk,?_,hr.up (by omega)⟩;simp only[Sim.rowsOf,(c.hr.zr id _ hz).1];rw[bK3 ⟨by trivial,by trivial,by omega⟩,dA3]
 rw[jB hv];exact⟨[],[],hk,rfl,.nil⟩;exact aD hk
def eO1 (l:dI C n h lim s) {e:gG} {t:aA AV} {d ty es b k ty' es' dp:Nat} {rows:aA (aA PV)} {zero:aA Value} {kill:aA Nat} {V:PV} {A S:AV} {K:gG->aS->aB R} {r:R} (he:fF C e t) (hd:d<t.length) (h1:RV C (.own k) A) (h2:RV C V S)
  (hg:aK h k=some (.lz ty' es' dp rows))
  (hk:(Vj h es dp V fun new=>bif Nat.beq es' es&&(Nat.beq ty' ty&& !(iQ ty'))then cM (appRows false rows new) fun rows=>
    kT e (d::kill) fun e=>pH k e fun e=>lU k h fun h=>iT h k (.lz ty' es' dp rows) fun h=>K ((d,.own k)::e) h
   else none)=some r):
  ∃C' e' h' out,K e' h'=some r/\doOp (Sim.look s.h) lim s.n (.append ty es b zero false) [A,S]=some out/\dI C' n h' lim (out.apply s)/\fF C' e' (t.set d out.v)/\Fr C h s C' h' (out.apply s):=by
 have hz:=Zi l hk h2;clear hk;obtain⟨new,a,hk,O,o⟩:=hz;by_cases hc:(Nat.beq es' es&&(Nat.beq ty' ty&& !(iQ ty')))=true;simp only[hc,bS3,cE,bD3]at hk;simp only[bF3,bO,bN3,bW3]at hc;obtain⟨rfl,rfl,E⟩:=hc;obtain⟨y,c,hk⟩:=hk;rw[gO]at hk;obtain⟨e2,hk,M⟩:=lL _ _ _ hk;obtain⟨X,hk,u⟩:=mF _ _ _ hk;have hk:=eF _ _ _ _ _ hk;unfold appRows at c;split at c;rename_i P;obtain rfl:rows++new=y:=dH3 c
 have m:∀{C':Cx},mW k C C'->∀i w,gD e2 i=some w->∃z,t[i]? =some z/\RV C' w z/\i≠d:=by
  intro C' j i w hw;obtain⟨v,q1,q2⟩:=M i w hw;obtain⟨z,p1,p2,p3⟩:=he.edel (d::kill) i v q1;exact⟨z,p1,q2 j p2,fun W=>p3 (by simp[W])⟩
 have q:∀out,Sim.appendTo (Sim.look s.h) lim s.n ty' es' A a=some out->(∀z id ver off len cap,out.v=.sl z id ver off len cap->len<=Sim.maxRoom)->doOp (Sim.look s.h) lim s.n (.append ty' es' b zero false) [A,S]=some out:=by
  intro out Y hl;simp only[doOp,Sim.appRows,bQ3,cR3,O,Y];split;rename_i hv;rw[bK3 ⟨hl _ _ _ _ _ _ hv,by rw[<-o.1];omega⟩];rfl
 have hlen:=o.1;by_cases D:a=[];subst D;have F:new=[]:=by simpa using hlen
 subst F;rw[eA3]at hk;obtain⟨G,H⟩:=Wg l hg u rfl;refine⟨C,_,_,{v:=A},hk,q _ ?_ ?_,G,.put hd h1 (m mW.self),H⟩;rcases lA h1 with⟨id,ver,g,len,j,rfl⟩|⟨j,hy⟩
 obtain⟨f,_,rfl,hl,_,els,J,hr⟩:=Fs l hg j;have:=hr.1;simp only[Sim.appendTo,J];rw[bK3 ⟨by trivial,by trivial,by trivial,by omega⟩];rfl;rcases hy with rfl|rfl<;>rfl;intro z id ver off len cap hv;rcases lA h1 with⟨id',U,g,T,j,rfl⟩|⟨j,hy⟩
 obtain⟨f,_,rfl,hl,_⟩:=Fs l hg j;cases hv;omega
 grind
 have p:a.isEmpty=false:=by cases a<;>simp_all
 rcases lA h1 with⟨id,ver,g,len,j,rfl⟩|⟨j,hy⟩
 obtain⟨f,hid,rfl,hl,_,els,J,hr⟩:=Fs l hg j;subst hl;have Z:=hr.1
 have L:Sim.appendTo (Sim.look s.h) lim s.n ty' g (.sl g id ver 0 rows.length none) a=some {v:=.sl g id (ver+1) 0 (rows.length+a.length) none,up:=some (id,.arr false ty' g (ver+1) (els++a))}:=by
  simp only[Sim.appendTo,J];rw[bK3 ⟨by trivial,by trivial,by trivial,by omega⟩];simp only[p,bQ3,cR3];rw[bK3 (by omega),bK3 ⟨by trivial,f,by trivial⟩]
 have x:∀i,i≠id->Sim.look (upd s.h id (.arr false ty' g (ver+1) (els++a))) i=Sim.look s.h i:=fun i hi=>by
  rw[Sim.look_upd];simp[hi]
 obtain⟨G,H⟩:=Pn (id:=id) (ver:=ver+1) (e:=g) (len:=(rows++new).length) (po2:=.lz ty' g dp (rows++new)) (s':={h:=upd s.h id (.arr false ty' g (ver+1) (els++a)),n:=s.n}) l hg u
  (bI3 _) (l.wf.upd _ _) (.upd _ _ _ _) (fun i _ hi=>x i hi) (.inr ⟨_,_,_,j⟩) ⟨f,hid,rfl,rfl,E,els++a,by rw[Sim.look_upd];simp[J],hr.append o⟩ rfl
 refine⟨_,_,_,_,hk,q _ L ?_,G,?_,H⟩
 grind
 refine .put hd ?_ (m (fY C k _));have:RV (mv C k (.atp id (ver+1) g (rows++new).length)) (.own k) (.sl g id (ver+1) 0 (rows++new).length none):=.own (qE C k _);rw[dI3,hlen]at this;simpa[hlen]using this;have N:=Ft l hg j;subst N
 have B:Sim.appendTo (Sim.look s.h) lim s.n ty' es' A a=some {v:=.sl es' s.n 0 0 a.length none,new:=some (.arr false ty' es' 0 a)}:=by
  rcases hy with rfl|rfl<;>simp[Sim.appendTo,p]
 have x:∀i,i<s.n->Sim.look (.ob s.n (.arr false ty' es' 0 a)::s.h) i=Sim.look s.h i:=fun i hi=>by
  rw[gK,bM3 (by omega)]
 obtain⟨G,H⟩:=Pn (id:=s.n) (ver:=0) (e:=es') (len:=([]++new).length) (po2:=.lz ty' es' dp ([]++new)) (s':={h:=.ob s.n (.arr false ty' es' 0 a)::s.h,n:=s.n+1}) l hg u
  (by show s.n<=s.n+1;omega) ⟨by simp,l.wf⟩ (.new _ _ _) (fun i hi _=>x i hi) (.inl (bI3 _)) ⟨l.lim,by show s.n<s.n+1;omega,rfl,rfl,E,a,by rw[gK,bK3 rfl],by rw[eZ3];exact o⟩ rfl
 refine⟨_,_,_,_,hk,q _ B ?_,G,.put hd ?_ (m (fY C k _)),H⟩
 grind
 have:RV (mv C k (.atp s.n 0 es' ([]++new).length)) (.own k) (.sl es' s.n 0 0 ([]++new).length none):=.own (qE C k _);simpa[hlen]using this;cases c
 grind
def Ji (k a:Nat) (C C':Cx):Prop:=(∀j,j≠k->j≠a->C' j=C j)/\∀id o,C.z id=some o->C'.z id=some o
def Ji.mid {k a:Nat} {C C':Cx} (h:Ji k a C C') (hw:C'.w=C.w):∃C1:Cx,mW k C C1/\C1.w=C.w/\mW a C1 C'/\C'.w=C1.w:=
 ⟨⟨fun j=>if j=a then C j else C' j,C'.z,C.w⟩,⟨fun j b=>by
  show(if j=a then C j else C' j)=_
  split
  rfl
  rename_i h2;exact h.1 j b h2,h.2⟩,rfl,⟨fun j b=>by show _=(if j=a then C j else C' j);rw[bM3 b],fun _ _ h=>h⟩,hw⟩
def Gd (k a:Nat) (h h':aS):Prop:=(∀j,aK h' j=none↔aK h j=none)/\∀j o',aK h' j=some o'->∃o,aK h j=some o/\iE o'=iE o/\
 ∀{C C':Cx} {L:Nat->aB AO} {lim nS:Nat} {pl:Pl},Ji k a C C'->C'.w=C.w->gX C L lim nS o pl->gX C' L lim nS o' pl
def Gd.of {k c:Nat} {h h1 h2:aS} (a:yF k h h1) (b:yF c h1 h2):Gd k c h h2:=
 ⟨fun j=>(b.1 j).trans (a.1 j),fun j o' d=>by
  obtain⟨o1,q1,q2,q3⟩:=b.2 j o' d
  obtain⟨o,p1,p2,p3⟩:=a.2 j o1 q1
  refine⟨o,p1,q2.trans p2,fun{C C' L lim nS pl} hs hw e=>?_⟩
  obtain⟨C1,c1,c2,c3,c4⟩:=hs.mid hw
  exact q3 c3 c4 (p3 c1 c2 e)⟩
def Cq:∀{f:Nat} {a b:TD},Kx f a b=true->a=b
 |f+1,.nd a b ks,.nd c d ls,h=>by
  simp only[Kx,bF3,bO,bN3,bJ3]at h
  obtain⟨rfl,rfl,hl,h⟩:=h
  have:ks=ls:=by
   apply List.ext_getElem hl;intro i h1 h2
   have:=h (ks[i],ls[i]) (by
    rw[bX3];exact⟨i,by simp[List.getElem?_zip_eq_some,h1,h2]⟩)
   exact Prod.ext this.1 (Cq this.2)
  rw[this]
def Po (C:Cx) (k b:Nat) (pl:Pl) (id a len:Nat):Cx:=⟨fun j=>if j=k then some pl else if j=b then some .nil else C j,C.z,fun o=>match C.w o with
 |some (p,i,j)=>if p=a then some (id,len+i,j)else some (p,i,j)
 |none=>none⟩
def gL.move {L L':Nat->aB AO} {w w':Nat->aB (Nat×Nat×Nat)} {lim nS c:Nat} (hn:nS<=c) {B:Nat->Prop} (g:∀b,B b->w b=none) (k:∀o sl,w o=some sl->¬B sl.1->w' o=some sl/\L' o=L o) {sl f:Nat×Nat×Nat} (l:∀o,w o=some sl->w' o=some f/\L' o=L o):
  ∀{d:Nat} {t:TD} {x:PV} {y:AV},gL L w lim nS d sl t x y->gL L' w' lim c d f t x y
 |0,_,_,_,h=>h.elim
 |d+1,.nd ty e ks,x,y,h=>by
  obtain⟨rows,h1,h2⟩:=h
  refine⟨rows,h1,?_⟩
  rcases h2 with h2|⟨id,ver,els,k1,k2,k3,k4,kf,k5,k6,k7⟩
  exact .inl h2
  obtain⟨w1,w2⟩:=l id k2
  have hid:¬B id:=fun hc=>by rw[g id hc]at k2;cases k2
  refine .inr ⟨id,ver,els,k1,w1,k3,by omega,kf,w2.trans k5,k6,fun i r r' a b=>⟨(k7 i r r' a b).1,fun j x1 m a1 b1=>?_⟩⟩
  have:=(k7 i r r' a b).2 j x1 m a1 b1
  cases hk:iH ks j with
  |none=>rw[hk]at this;exact this
  |some t=>rw[hk]at this;exact gL.mono hn g k hid this
def sZ1 (q:dI C n h lim s) {k d id ver e len c S e2 R m:Nat} {po po2 po':dX} {h2:aS} {s':Hp} (hg:aK h k=some po) (F:aK h d=some po2) (V:k≠d) (hkl:Gd k d h h2)
  (hs:s.n<=s'.n) (Y:Wf s'.h s'.n) (X:Sk s.h s'.h s.n) (t:∀i,i<s.n->i≠id->Sim.look s'.h i=Sim.look s.h i) (hid:(id=s.n/\s.n<s'.n)\/∃v e l,C k=some (.atp id v e l)) (E:C d=some (.atp c S e2 R))
  (y:gX (Po C k d (.atp id ver e len) id c m) (Sim.look s'.h) lim s'.n po' (.atp id ver e len)) (b7:iE po'=false):
  dI (Po C k d (.atp id ver e len) id c m) n (cZ (cZ h2 d (.lst 0 0 true [])) k po') lim s'/\Fr C h s (Po C k d (.atp id ver e len) id c m) (cZ (cZ h2 d (.lst 0 0 true [])) k po') s':=by
 have T:Po C k d (.atp id ver e len) id c m k=some (.atp id ver e len):=bK3 rfl
 have M:Po C k d (.atp id ver e len) id c m d=some .nil:=by
  show(if d=k then _ else if d=d then _ else _)=_
  rw[bM3 (Ne.symm V),bK3 rfl]
 have r:∀j,j≠k->j≠d->Po C k d (.atp id ver e len) id c m j=C j:=fun j h1 h2=>by
  show(if j=k then _ else if j=d then _ else _)=_
  rw[bM3 h1,bM3 h2]
 have A:∀j po,aK h j=some po->(aK h2 j).isSome=true:=fun j po g=>by
  cases hc:aK h2 j with
  |none=>rw[(hkl.1 j).1 hc]at g;cases g
  |some o=>rfl
 have x:∀j,aK (cZ (cZ h2 d (.lst 0 0 true [])) k po') j=if j=k then some po' else if j=d then some (.lst 0 0 true [])else aK h2 j:=fun j=>by
  rw[eN,eN,eN];have a:=A k _ hg;have b:=A d _ F;by_cases u:j=k
  grind
  grind
 have G:∀j,aK (cZ (cZ h2 d (.lst 0 0 true [])) k po') j≠none->aK h j≠none:=fun j g=>by
  rw[x]at g;split at g
  grind
  split at g
  grind
  exact fun hc=>g ((hkl.1 j).2 hc)
 have b5:=(q.hr.lt (by rw[F];simp) E).2;have J:C.w c=none:=q.hr.wn d c _ _ _ (by rw[F];simp) E
 have P:C.w id=none:=by
  rcases hid with⟨hid,_⟩|⟨v',e',l',hid⟩
  cases J:C.w id with
  |none=>rfl
  |some sl=>have:=(q.hr.wb id sl J).1;omega
  exact q.hr.wn k id v' e' l' (by rw[hg];simp) hid
 have b6:id<s'.n:=by
  rcases hid with⟨hid,_⟩|⟨v',e',l',hid⟩
  omega;have:=(q.hr.lt (by rw[hg];simp) hid).2;omega
 have W:∀j v e l,j≠k->aK h j≠none->C j≠some (.atp id v e l):=by
  intro j v e2 l g hh hc;rcases hid with⟨hid,_⟩|⟨v',e',l',hid⟩
  have:=(q.hr.lt hh hc).2;omega;exact g (q.hr.inj j k id _ _ _ _ _ _ hh (by rw[hg];simp) hc hid)
 have b0:∀o,(Po C k d (.atp id ver e len) id c m).w o≠none->C.w o≠none:=fun o y hc=>by
  apply y;show(match C.w o with|some (p,i,j)=>if p=c then some (id,m+i,j)else some (p,i,j)|none=>none)=none
  rw[hc]
 have Z:∀o sl,C.w o=some sl->¬(sl.1=c)->(Po C k d (.atp id ver e len) id c m).w o=some sl:=fun o sl y hc=>by
  obtain⟨p,i,j⟩:=sl;show(match C.w o with|some (p,i,j)=>if p=c then some (id,m+i,j)else some (p,i,j)|none=>none)=_
  rw[y];exact bM3 hc
 have U:∀o sl,C.w o=some sl->Sim.look s'.h o=Sim.look s.h o:=fun o sl y=>t o (q.hr.wb o sl y).1 fun u=>by rw[u,P]at y;cases y
 refine⟨⟨⟨fun j o g=>?_,fun j j' i v1 u L v2 e2 l2 a1 a2 a3 a4=>?_,fun i o hz=>?_,fun j i v1 u L a1 a2=>?_,fun i sl hw=>?_,fun i o hz=>?_⟩,fun j pl g=>?_,Y,cH3 q.lim hs⟩,⟨X,hs,fun i hi hn=>t i hi (fun u=>hn ?_),fun i hi hn=>?_,fun j o g=>?_,fun _ _ h=>h,fun _ _ h=>.inl h⟩⟩;rw[x]at g;split at g
 grind
 split at g;rename_i u;subst u;cases g;exact⟨_,M,rfl⟩;rename_i N H;obtain⟨o0,q1,qb,q2⟩:=hkl.2 j o g;obtain⟨pl,p1,p2⟩:=q.hr.ob j o0 q1;refine⟨pl,(r j N H).trans p1,?_⟩;have p3:gX ⟨(Po C k d (.atp id ver e len) id c m).f,C.z,C.w⟩ (Sim.look s.h) lim s.n o pl:=q2 (C:=C) (C':=⟨(Po C k d (.atp id ver e len) id c m).f,C.z,C.w⟩) ⟨r,fun _ _ h=>h⟩ rfl p2;refine gX.monoB (C:=⟨(Po C k d (.atp id ver e len) id c m).f,C.z,C.w⟩) (C':=Po C k d (.atp id ver e len) id c m) hs ⟨fun _ _ h=>h,fun _ _ h=>h⟩ (B:=fun b=>b=c) (fun b hb=>by subst hb;exact J) (fun o sl y hb=>⟨Z o sl y hb,U o sl y⟩) (fun i v1 u L hp hb=>?_) (fun i v1 u L hp=>?_) p3;subst hp;subst hb;exact H (q.hr.inj j d i _ _ _ _ _ _ (by rw[q1];simp) (by rw[F];simp) p1 E);subst hp;exact t i p2.lt.2 (fun e2=>by subst e2;exact W j _ _ _ N (by rw[q1];simp) p1)
 have nk:∀{j v e' l' i},Po C k d (.atp id ver e len) id c m j=some (.atp i v e' l')->j≠k->C j=some (.atp i v e' l'):=fun{j v e' l' i} g h1=>by
  by_cases b:j=d
  grind
  grind
 by_cases b1:j=k
 grind
 by_cases b2:j'=k
 grind
 exact q.hr.inj j j' i v1 u L v2 e2 l2 (G j a1) (G j' a2) (nk a3 b1) (nk a4 b2);obtain⟨z1,z2,z3,z4⟩:=q.hr.zr i o hz;have O:i≠id:=fun u=>by grind
 refine⟨(t i z2 O).trans z1,cO3 z2 hs,fun j v e' l h1 h2=>?_,z4⟩;by_cases b1:j=k
 grind
 grind
 have:C.w i=none:=by
  by_cases b1:j=k
  grind
  by_cases b2:j=d
  grind
  exact q.hr.wn j i v1 u L (G j a1) ((r j b1 b2).symm.trans a2)
 show(match C.w i with|some (p,i,j)=>if p=c then some (id,m+i,j)else some (p,i,j)|none=>none)=none
 rw[this];have D:(match C.w i with|some (p,i,j)=>if p=c then some (id,m+i,j)else some (p,i,j)|none=>none)=some sl:=hw;cases hc:C.w i with
 |none=>rw[hc]at D;cases D
 |some sl0=>
  obtain⟨p,a,b⟩:=sl0;have:=q.hr.wb i _ hc;rw[hc]at D;simp only at D;split at D
  grind
  grind
 have:=q.hr.wz i o hz;show(match C.w i with|some (p,i,j)=>if p=c then some (id,m+i,j)else some (p,i,j)|none=>none)=none
 rw[this];by_cases b1:j=k;subst b1;obtain⟨b4,k1,_⟩:=q.hr.ob j _ hg;exact q.dom j b4 k1;by_cases b2:j=d;subst b2;exact q.dom j _ E;exact q.dom j pl ((r j b1 b2).symm.trans g);subst u;rcases hid with⟨hid,_⟩|⟨v',e',l',hid⟩
 omega;exact .inl ⟨k,v',e',l',by rw[hg];simp,hid⟩;rcases hn with⟨j,v1,u,L,k1,K⟩|hn;by_cases b1:j=k;subst b1;rw[T]at K;cases K;rcases hid with⟨hid,_⟩|⟨v',e',l',hid⟩
 omega;exact .inl ⟨j,v',e',l',by rw[hg];simp,hid⟩;by_cases b2:j=d
 grind
 exact .inl ⟨j,v1,u,L,G j k1,(r j b1 b2).symm.trans K⟩;exact .inr (b0 i hn);rw[x];by_cases b1:j=k
 grind
 by_cases b2:j=d;subst b2;exact⟨.lst 0 0 true [],by simp[b1],fun h=>by cases h⟩;cases hc:aK h2 j with
 |none=>rw[(hkl.1 j).1 hc]at g;cases g
 |some o'=>
  obtain⟨o0,q1,qb,_⟩:=hkl.2 j o' hc;rw[g]at q1;cases q1;exact⟨o',by simp[b1,b2],fun h=>⟨by rw[<-qb];exact h,r j b1 b2⟩⟩
def wB1 {k c:Nat} {e f e2:gG} (a:eM1 k e f) (b:eM1 c f e2):∀i w,gD e2 i=some w->∃v,gD e i=some v/\∀{C C':Cx} {y:AV},Ji k c C C'->RV C v y->RV C' w y:=fun i w hw=>by
 obtain⟨v1,q1,q2⟩:=b i w hw
 obtain⟨v,p1,p2⟩:=a i v1 q1
 refine⟨v,p1,fun{C C' y} hs hv=>?_⟩
 have c1:mW k C ⟨fun j=>if j=c then C j else C' j,C'.z,C.w⟩:=⟨fun j d=>by
  show(if j=c then C j else C' j)=_
  split
  rfl
  rename_i h2;exact hs.1 j d h2,hs.2⟩
 have c2:mW c ⟨fun j=>if j=c then C j else C' j,C'.z,C.w⟩ C':=⟨fun j d=>by show _=(if j=c then C j else C' j);rw[bM3 d],fun _ _ h=>h⟩
 exact q2 c2 (p2 c1 hv)
def zY1 (g:dI C n h lim s) {k d:Nat} {po po2:dX} {h2:aS} (hg:aK h k=some po) (u:aK h d=some po2) (y:k≠d) (hkl:Gd k d h h2) (hb:iE po=false)
  (A:∀pl,gX C (Sim.look s.h) lim s.n po pl->gX (mv C d .nil) (Sim.look s.h) lim s.n po pl):
  dI (mv C d .nil) n (cZ (cZ h2 d (.lst 0 0 true [])) k po) lim s/\Fr C h s (mv C d .nil) (cZ (cZ h2 d (.lst 0 0 true [])) k po) s:=by
 have q:∀j po,aK h j=some po->(aK h2 j).isSome=true:=fun j po c=>by
  cases hc:aK h2 j with
  |none=>rw[(hkl.1 j).1 hc]at c;cases c
  |some o=>rfl
 have f:∀j,aK (cZ (cZ h2 d (.lst 0 0 true [])) k po) j=if j=k then some po else if j=d then some (.lst 0 0 true [])else aK h2 j:=fun j=>by
  rw[eN,eN,eN];have a:=q k _ hg;have b:=q d _ u;by_cases r:j=k
  grind
  grind
 have p:∀j,aK (cZ (cZ h2 d (.lst 0 0 true [])) k po) j≠none->aK h j≠none:=fun j c=>by
  rw[f]at c;split at c
  grind
  split at c
  grind
  exact fun hc=>c ((hkl.1 j).2 hc)
 have m:∀{j t v e l},(mv C d .nil) j=some (.atp t v e l)->C j=some (.atp t v e l):=fun{j t v e l} c=>by
  by_cases b:j=d;subst b;rw[qE]at c;cases c;exact((fY C d _).1 j b).symm.trans c
 refine⟨⟨⟨fun j o c=>?_,fun j F i v1 r x v2 e2 K a1 a2 a3 a4=>g.hr.inj j F i v1 r x v2 e2 K (p j a1) (p F a2) (m a3) (m a4),fun i o J=>?_,fun j i v1 r x a1 a2=>g.hr.wn j i v1 r x (p j a1) (m a2),g.hr.wb,g.hr.wz⟩,fun j pl c=>?_,g.wf,g.lim⟩,⟨.refl _ _,bI3 _,fun _ _ _=>rfl,fun i hi z=>?_,fun j o c=>?_,fun _ _ h=>h,fun _ _ h=>.inl h⟩⟩;rw[f]at c;split at c;rename_i r;subst r;cases c;obtain⟨pl,p1,p2⟩:=g.hr.ob j _ hg;exact⟨pl,((fY C d _).1 j y).trans p1,A pl p2⟩;split at c;rename_i r;subst r;cases c;exact⟨_,qE C j _,rfl⟩;rename_i H w;obtain⟨o0,q1,G,q2⟩:=hkl.2 j o c;obtain⟨pl,p1,p2⟩:=g.hr.ob j o0 q1;exact⟨pl,((fY C d _).1 j w).trans p1,q2 ⟨fun i h1 h2=>(fY C d _).1 i h2,fun _ _ h=>h⟩ rfl p2⟩;obtain⟨z1,z2,z3,z4⟩:=g.hr.zr i o J;exact⟨z1,z2,fun j v e' l h1 h2=>z3 j v e' l (p j h1) (m h2),z4⟩;by_cases b:j=d;subst b;obtain⟨E,B,_⟩:=g.hr.ob j _ u;exact g.dom j E B;exact g.dom j pl (((fY C d _).1 j b).symm.trans c);rcases z with⟨j,v1,r,x,B,D⟩|z;exact .inl ⟨j,v1,r,x,p j B,m D⟩;exact .inr z;rw[f];by_cases b1:j=k
 grind
 by_cases b2:j=d;subst b2;exact⟨.lst 0 0 true [],by simp[b1],fun h=>by cases h⟩;cases hc:aK h2 j with
 |none=>rw[(hkl.1 j).1 hc]at c;cases c
 |some o'=>
  obtain⟨o0,q1,G,_⟩:=hkl.2 j o' hc;rw[c]at q1;cases q1;exact⟨o',by simp[b1,b2],fun h=>⟨by rw[<-G];exact h,(fY C d _).1 j b2⟩⟩
def TC.nohole {C C':Cx} {L:Nat->aB AO} {nS d id i j:Nat} {ks:aA (Nat×TD)} {a:PV} {b:AV} (hw:C'.w=C.w) (h:TC C L lim nS d id ks [] i j a b):TC C' L lim nS d id ks [] i j a b:=by
 unfold TC at h ⊢;cases hk:iH ks j with
 |none=>rw[hk]at h;exact h
 |some t=>
  rw[hk]at h;rcases h with⟨⟨x,c⟩,_⟩|⟨h1,h⟩
  cases c
  grind
def TC.upd {C:Cx} {L:Nat->aB AO} {nS d c id i j:Nat} {ks:aA (Nat×TD)} {hs:aA (Nat×Nat×PV)} {a:PV} {b:AV} (hd:d<=c) (h:TC C L lim nS d id ks hs i j a b):TC C L lim nS c id ks hs i j a b:=by
 unfold TC at h ⊢;cases hk:iH ks j with
 |none=>rw[hk]at h;exact h
 |some t=>
  rw[hk]at h;simp only at h ⊢;rcases h with h|⟨h1,h⟩
  exact .inl h;exact .inr ⟨h1,h.up hd⟩
def eP1 (G:dI C n h lim s) {e:gG} {t:aA AV} {d ty es b k F:Nat} {zero:aA Value} {kill:aA Nat} {y1 y2:AV} {tt:TD} {rows:aA (aA PV)} {hs:aA (Nat×Nat×PV)} {e8:dX} {K:gG->aS->aB R} {r:R} (he:fF C e t) (hd:d<t.length) (h1:RV C (.own k) y1) (h2:RV C (.own F) y2)
  (hg:aK h k=some (.tr tt rows hs)) (L:aK h F=some e8) (hk:dG1 e h d ty es kill k tt rows hs F e8 K=some r):
  ∃C' e' h' out,K e' h'=some r/\doOp (Sim.look s.h) lim s.n (.append ty es b zero false) [y1,y2]=some out/\dI C' n h' lim (out.apply s)/\fF C' e' (t.set d out.v)/\Fr C h s C' h' (out.apply s):=by
 unfold dG1 at hk;split at hk;rename_i ty' es' ks t2 f;by_cases hc:((Nat.beq es' es&&Nat.beq ty' ty)&&(Kx 8 t2 (.nd ty' es' ks)&& !(Nat.beq k F)))=true;simp only[hc,bS3,cE,bD3]at hk;simp only[bF3,bO,bN3,bW3,cV3]at hc;obtain⟨⟨rfl,rfl⟩,d6,Y⟩:=hc;have d6:=Cq d6;subst d6;obtain⟨d7,H,hk⟩:=hk;rw[gO]at hk;obtain⟨e2,hk,f2⟩:=lL _ _ _ hk;obtain⟨B,hk,e4⟩:=lL _ _ _ hk;obtain⟨h3,hk,f4⟩:=mF _ _ _ hk;obtain⟨h4,hk,e5⟩:=mF _ _ _ hk;have hk:=eF _ _ _ _ _ hk;have hk:=eF _ _ _ _ _ hk;have hkl:=Gd.of f4 e5;have f1:=wB1 f2 e4;unfold appRows at H;split at H;rename_i J;obtain rfl:rows++f=d7:=dH3 H
 have W:∀{C':Cx},Ji k F C C'->∀i w,gD B i=some w->∃z,t[i]? =some z/\RV C' w z/\i≠d:=by
  intro C' D i w hw;obtain⟨v,q1,q2⟩:=f1 i w hw;obtain⟨z,p1,p2,p3⟩:=he.edel (d::kill) i v q1;exact⟨z,p1,q2 D p2,fun e1=>p3 (by simp[e1])⟩
 have d3:∀S out,Sim.rowsOf (Sim.look s.h) es' y2=some S->S.length=f.length->Sim.appendTo (Sim.look s.h) lim s.n ty' es' y1 S=some out->(∀z id ver off len cap,out.v=.sl z id ver off len cap->len<=Sim.maxRoom)->doOp (Sim.look s.h) lim s.n (.append ty' es' b zero false) [y1,y2]=some out:=by
  intro S out T hnl N hl;simp only[doOp,Sim.appRows,bQ3,cR3,T,N];split;rename_i hv;rw[bK3 ⟨hl _ _ _ _ _ _ hv,by rw[hnl];omega⟩];rfl
 have d5:∀(C':Cx),(∀j,j≠k->j≠F->C' j=C j)->C'.z=C.z->Ji k F C C':=fun C' h1 h2=>⟨h1,fun _ _ h=>by rw[h2];exact h⟩
 have g8:∀{id ver B len},C k=some (.atp id ver B len)->y1=.sl B id ver 0 len none/\B=es'/\len=rows.length:=fun{id ver B len} D=>by
  rcases jI h1 with⟨id',b4,h0,b0,U,rfl⟩|⟨U,_⟩
  rw[D]at U;cases U;obtain⟨_,_,a,b,_⟩:=mU G hg D;exact⟨rfl,a,b⟩;rw[D]at U;cases U
 by_cases V:f=[];subst V
 have T:Sim.rowsOf (Sim.look s.h) es' y2=some []:=by
  rcases jI h2 with⟨u,b5,q,e7,E,rfl⟩|⟨E,rfl⟩
  obtain⟨_,_,rfl,d4,_,g,d2,b9,O,_⟩:=mU G L E;subst d4;simp only[Sim.rowsOf,b9];rw[bK3 ⟨by trivial,by trivial,by omega⟩];simp;rfl
 obtain⟨m1,m2⟩:=zY1 G hg L Y hkl rfl (fun pl N=>by
  cases pl with
  |nil=>exact N
  |atp id ver e' len=>
   obtain⟨a1,a2,a3,a4,a5,els,d1,a6,a7,a8⟩:=N;exact⟨a1,a2,a3,a4,a5,els,d1,a6,a7,fun i r r' c1 c2=>⟨(a8 i r r' c1 c2).1,fun j x y c3 c4=>TC.nohole (C:=C) (C':=mv C F .nil) rfl ((a8 i r r' c1 c2).2 j x y c3 c4)⟩⟩)
 rw[eA3]at hk;have e0:(mv C F .nil) k=C k:=(fY C F _).1 k Y
 have hv:RV (mv C F .nil) (.own k) y1:=by
  rcases jI h1 with⟨id,ver,B,len,D,rfl⟩|⟨D,rfl⟩
  exact .own (e0.trans D);exact .ownn (e0.trans D) rfl
 refine⟨_,_,_,{v:=y1},hk,d3 [] _ T rfl ?_ ?_,m1,.put hd hv (W (d5 _ (fun j _ h2=>(fY C F _).1 j h2) rfl)),m2⟩;rcases jI h1 with⟨id,ver,B,len,D,rfl⟩|⟨D,rfl⟩
 obtain⟨M,_,rfl,hl,_,els,d1,hL,f5,_⟩:=mU G hg D;simp only[Sim.appendTo,hL];rw[bK3 ⟨by trivial,by trivial,by trivial,by omega⟩];rfl;rfl;intro z id ver off len cap hv;rcases jI h1 with⟨id',b4,B,b0,D,rfl⟩|⟨D,rfl⟩
 obtain⟨M,_,rfl,hl,_⟩:=mU G hg D;simp only[AV.sl.injEq]at hv;have:=J.1;omega;cases hv;have f7:f.length≠0:=fun h=>V (dM3 h);rcases jI h2 with⟨u,b5,q,e7,E,rfl⟩|⟨E,rfl⟩
 obtain⟨f6,g6,rfl,d4,d9,g,d2,b9,⟨O,g9⟩,b6⟩:=mU G L E;subst d4
 have T:Sim.rowsOf (Sim.look s.h) q (.sl q u b5 0 f.length none)=some (g.take f.length):=by
  simp only[Sim.rowsOf,b9];rw[bK3 ⟨by trivial,by trivial,by omega⟩,dA3]
 have hnl:(g.take f.length).length=f.length:=by simp[dJ3 O]
 have Z:(g.take f.length).isEmpty=false:=by
  cases hx:g.take f.length with
  |nil=>rw[hx]at hnl;simp at hnl;omega
  |cons a r=>rfl
 have g7:(g.take f.length).length=1:=by have:=J.2 rfl;omega
 have g5:C.w u=none:=G.hr.wn F u _ _ _ (by rw[L];simp) E
 have b8:∀{id ver:Nat} {L':Nat->aB AO} {b7:Nat} {els l:aA (aA AV)} {d1:Nat},s.n<=b7->lim<=id->id<b7->id≠u->C.w id=none->(∀o sl,C.w o=some sl->L' o=Sim.look s.h o)->
   (∀(i:Nat) (r:aA PV) (r':aA AV),rows[i]? =some r->els[i]? =some r'->r.length=r'.length/\∀(j:Nat) (a:PV) (b:AV),r[j]? =some a->r'[j]? =some b->TC C (Sim.look s.h) lim s.n d1 id ks [] i j a b)->
   L' id=some (.arr false ty' q ver l)->((rows++f).length<=l.length/\SL (rows++f).length l)->(∀i,i<rows.length->l[i]? =els[i]?)->(∀i,i<f.length->l[rows.length+i]? =g[i]?)->
   gX (Po C k F (.atp id ver q (rows++f).length) id u rows.length) L' lim b7 (.tr (.nd ty' q ks) (rows++f) []) (.atp id ver q (rows++f).length):=by
  intro id ver L' b7 els l d1 q1 q2 q3 q4 q5 q6 q7 q8 q9 q10 q11;refine⟨q2,q3,rfl,rfl,d9,l,max d1 d2,q8,q9,fun i r r' c1 c2=>?_⟩
  have hW:∀o sl,C.w o=some sl->¬(sl.1=u)->(Po C k F (.atp id ver q (rows++f).length) id u rows.length).w o=some sl/\L' o=Sim.look s.h o:=fun o sl N hn=>by
   obtain⟨p,a,c⟩:=sl;refine⟨?_,q6 o _ N⟩;show(match C.w o with|some (p,i,j)=>if p=u then some (id,rows.length+i,j)else some (p,i,j)|none=>none)=_
   rw[N];exact bM3 hn
  have hB:∀x,x=u->C.w x=none:=fun x hx=>by rw[hx];exact g5
  by_cases hi:i<rows.length;rw[eB3 hi]at c1;rw[q10 i hi]at c2;obtain⟨g1,g2⟩:=q7 i r r' c1 c2;refine⟨g1,fun j a c g3 g4=>?_⟩;have:=(g2 j a c g3 g4).upd (Nat.le_max_left d1 d2);unfold TC at this ⊢;cases hkd:iH ks j with
  |none=>rw[hkd]at this;exact this
  |some t0=>
   rw[hkd]at this;rcases this with⟨⟨x,hx⟩,_⟩|⟨h1,this⟩
   cases hx;exact .inr ⟨h1,gL.mono q1 hB hW q4 this⟩
  rw[eJ3 (by omega)]at c1;have f0:i-rows.length<f.length:=(bG3.1 c1).1;have c3:=q11 (i-rows.length) f0;rw[show rows.length+(i-rows.length)=i by omega,c2]at c3;obtain⟨g1,g2⟩:=b6 (i-rows.length) r r' c1 c3.symm;refine⟨g1,fun j a c g3 g4=>?_⟩;have:=(g2 j a c g3 g4).upd (Nat.le_max_right d1 d2);unfold TC at this ⊢;cases hkd:iH ks j with
  |none=>rw[hkd]at this;exact this
  |some t0=>
   rw[hkd]at this;rcases this with⟨⟨x,hx⟩,_⟩|⟨h1,this⟩
   cases hx;refine .inr ⟨(fun⟨x,hx⟩=>(by cases hx)),gL.move q1 hB hW (fun o N=>⟨?_,q6 o _ N⟩) this⟩;show(match C.w o with|some (p,i,j)=>if p=u then some (id,rows.length+i,j)else some (p,i,j)|none=>none)=_
   rw[N];show(if u=u then _ else _)=_
   rw[bK3 rfl,show rows.length+(i-rows.length)=i by omega]
 rcases jI h1 with⟨id,ver,B,len,D,rfl⟩|⟨D,rfl⟩
 obtain⟨M,hid,rfl,hl,_,els,d1,hL,⟨f5,f9⟩,hr⟩:=mU G hg D;subst hl;have e6:id≠u:=fun h=>by subst h;exact Y (G.hr.inj k F id _ _ _ _ _ _ (by rw[hg];simp) (by rw[L];simp) D E)
 have P:=G.hr.wn k id _ _ _ (by rw[hg];simp) D
 have fin:∀(A:Nat) (l:aA (aA AV)),Sim.appendTo (Sim.look s.h) lim s.n ty' B (.sl B id ver 0 rows.length none) (g.take f.length)=some {v:=.sl B id A 0 (rows.length+(g.take f.length).length) none,up:=some (id,.arr false ty' B A l)}->
   ((rows++f).length<=l.length/\SL (rows++f).length l)->(∀i,i<rows.length->l[i]? =els[i]?)->(∀i,i<f.length->l[rows.length+i]? =g[i]?)->
   ∃C' e' h' out,K e' h'=some r/\doOp (Sim.look s.h) lim s.n (.append ty' B b zero false) [.sl B id ver 0 rows.length none,.sl B u b5 0 f.length none]=some out/\dI C' n h' lim (out.apply s)/\fF C' e' (t.set d out.v)/\Fr C h s C' h' (out.apply s):=by
  intro A l d0 g1 g2 g3
  have X:∀i,i≠id->Sim.look (upd s.h id (.arr false ty' B A l)) i=Sim.look s.h i:=fun i hi=>by
   rw[Sim.look_upd];simp[hi]
  obtain⟨m1,m2⟩:=sZ1 (id:=id) (ver:=A) (e:=B) (len:=(rows++f).length) (m:=rows.length) (po':=.tr (.nd ty' B ks) (rows++f) []) (s':={h:=upd s.h id (.arr false ty' B A l),n:=s.n}) G hg L Y hkl
   (bI3 _) (G.wf.upd _ _) (.upd _ _ _ _) (fun i _ hi=>X i hi) (.inr ⟨_,_,_,D⟩) E
   (b8 (els:=els) (d1:=d1) (bI3 _) M hid e6 P (fun o sl N=>X o fun h=>by rw[h,P]at N;cases N) hr (by rw[Sim.look_upd];simp[hL]) g1 g2 g3) rfl
  refine⟨_,_,_,_,hk,d3 _ _ T hnl d0 ?_,m1,.put hd ?_ (W (d5 _ (fun j h1 h2=>by show(if j=k then _ else if j=F then _ else _)=_;rw[bM3 h1,bM3 h2]) rfl)),m2⟩;intro z id' b4 off b0 cap hv;simp only[AV.sl.injEq]at hv;have:=J.1;omega;have:RV (Po C k F (.atp id A B (rows++f).length) id u rows.length) (.own k) (.sl B id A 0 (rows++f).length none):=.own (bK3 rfl);rw[dI3]at this;rw[hnl];simpa using this
 by_cases e9:rows.length=els.length
 refine fin (ver+1) (els++g.take f.length) ?_ ⟨by simp;omega,.exact (by simp;omega)⟩ (fun i hi=>by rw[eB3 (by omega)]) (fun i hi=>by
  rw[eJ3 (by omega),cD3,bK3 (by omega),show rows.length+i-els.length=i by omega])
 simp only[Sim.appendTo,hL];rw[bK3 ⟨by trivial,by trivial,by trivial,by omega⟩];simp only[Z,bQ3,cR3];rw[bK3 (by omega),bK3 ⟨by trivial,M,by trivial⟩];have d8:rows.length+(g.take f.length).length<=els.length:=by omega
 refine fin ver (Sim.setL els rows.length (g.take f.length)) ?_ ⟨by rw[mV];simp;omega,fun i row hi b6=>by
  rw[dI3]at hi;rw[lB (.inr (by omega))]at b6;exact f9 i row (by omega) b6⟩ (fun i hi=>by rw[lB (.inl hi)]) (fun i hi=>by
  rw[sF d8 (by omega) (by omega),show rows.length+i-rows.length=i by omega,cD3,bK3 hi])
 simp only[Sim.appendTo,hL];rw[bK3 ⟨by trivial,by trivial,by trivial,by omega⟩];simp only[Z,bQ3,cR3];rw[bM3 (by omega),bK3 ⟨by omega,M⟩];rw[dC3];have f8:=(tZ G hg D).1;subst f8
 have d0:Sim.appendTo (Sim.look s.h) lim s.n ty' q (.v (.slice none 0 0)) (g.take f.length)=some {v:=.sl q s.n 0 0 (g.take f.length).length none,new:=some (.arr false ty' q 0 (g.take f.length))}:=by
  simp[Sim.appendTo,Z]
 have X:∀i,i<s.n->Sim.look (.ob s.n (.arr false ty' q 0 (g.take f.length))::s.h) i=Sim.look s.h i:=fun i hi=>by
  rw[gK,bM3 (by omega)]
 have P:C.w s.n=none:=by
  cases hw:C.w s.n with
  |none=>rfl
  |some sl=>have:=(G.hr.wb s.n sl hw).1;omega
 obtain⟨m1,m2⟩:=sZ1 (id:=s.n) (ver:=0) (e:=q) (len:=([]++f).length) (m:=0) (po':=.tr (.nd ty' q ks) ([]++f) []) (s':={h:=.ob s.n (.arr false ty' q 0 (g.take f.length))::s.h,n:=s.n+1}) G hg L Y hkl
  (by show s.n<=s.n+1;omega) ⟨by simp,G.wf⟩ (.new _ _ _) (fun i hi _=>X i hi) (.inl ⟨rfl,by show s.n<s.n+1;omega⟩) E
  (b8 (els:=[]) (d1:=0) (by show s.n<=s.n+1;omega) G.lim (by show s.n<s.n+1;omega) (by omega) P (fun o sl N=>X o (G.hr.wb o sl N).1) (fun i r r' c1=>by simp at c1) (by rw[gK,bK3 rfl]) ⟨by simp[dJ3 O],.exact (by simp[dJ3 O])⟩ (fun i hi=>by simp at hi) (fun i hi=>by
   rw[cD3,bK3 (by simpa using hi)];simp)) rfl
 refine⟨_,_,_,_,hk,d3 _ _ T hnl d0 ?_,m1,.put hd ?_ (W (d5 _ (fun j h1 h2=>by show(if j=k then _ else if j=F then _ else _)=_;rw[bM3 h1,bM3 h2]) rfl)),m2⟩;intro z id' b4 off b0 cap hv;simp only[AV.sl.injEq]at hv;have:=J.1;omega;have:RV (Po C k F (.atp s.n 0 q ([]++f).length) s.n u 0) (.own k) (.sl q s.n 0 0 ([]++f).length none):=.own (bK3 rfl);rw[hnl];simpa using this;exact absurd (tZ G L E).1 V;cases H;simp only[eW3]at hc;simp only[hc]at hk;exact aD hk;exact aD hk
def lQ1 (o:dI C n h lim s) {e:gG} {t:aA AV} {d ty es b:Nat} {zero:aA Value} {kill:aA Nat} {x1 x2:PV} {S y2:AV} {K:gG->aS->aB R} {r:R} (he:fF C e t) (hd:d<t.length) (h1:RV C x1 S) (h2:RV C x2 y2)
  (hk:vJ1 e h d ty es kill x1 x2 K=some r):
  ∃C' e' h' out,K e' h'=some r/\doOp (Sim.look s.h) lim s.n (.append ty es b zero false) [S,y2]=some out/\dI C' n h' lim (out.apply s)/\fF C' e' (t.set d out.v)/\Fr C h s C' h' (out.apply s):=by
 unfold vJ1 at hk;cases x1 with
 |own k=>
  simp only[iN,bD3]at hk;obtain⟨ob,hg,hk⟩:=hk;cases ob with
  |lz ty' es' dp rows=>exact eO1 o he hd h1 h2 hg hk
  |lst ty' es' g rows=>
   have hz:=eN1 o hk h2;clear hk;obtain⟨new,a,hk,b9,y⟩:=hz;by_cases hc:(Nat.beq es' es&&(Nat.beq ty' ty&& !(iQ ty')))=true;simp only[hc,bS3,cE,bD3]at hk;simp only[bF3,bO,bN3,bW3]at hc;obtain⟨rfl,rfl,A⟩:=hc;have B:Hj ty'=ty':=by simp[Hj,A]
   obtain⟨P,j,hk⟩:=hk;rw[gO]at hk;obtain⟨e2,hk,b6⟩:=lL _ _ _ hk;obtain⟨d6,hk,M⟩:=mF _ _ _ hk;have hk:=eF _ _ _ _ _ hk;unfold appRows at j;split at j;rename_i O;obtain rfl:rows++new=P:=dH3 j
   have u:∀{C':Cx},mW k C C'->∀i w,gD e2 i=some w->∃z,t[i]? =some z/\RV C' w z/\i≠d:=by
    intro C' p i w hw;obtain⟨v,q1,q2⟩:=b6 i w hw;obtain⟨z,p1,p2,p3⟩:=he.edel (d::kill) i v q1;exact⟨z,p1,q2 p p2,fun e1=>p3 (by simp[e1])⟩
   have H:∀out,Sim.appendTo (Sim.look s.h) lim s.n ty' es' S a=some out->(∀z id ver off len cap,out.v=.sl z id ver off len cap->len<=Sim.maxRoom)->doOp (Sim.look s.h) lim s.n (.append ty' es' b zero false) [S,y2]=some out:=by
    intro out V hl;simp only[doOp,Sim.appRows,bQ3,cR3,b9,V];split;rename_i hv;rw[bK3 ⟨hl _ _ _ _ _ _ hv,by rw[<-y.1];omega⟩];rfl
   have hlen:=y.1;by_cases E:a=[]
   ·
    subst E;have U:new=[]:=by simpa using hlen
    subst U;rw[eA3]at hk;obtain⟨Y,Z⟩:=Wg o hg M (show iE (.lst ty' es' g rows)=false from A);refine⟨C,_,_,{v:=S},hk,H _ ?_ ?_,Y,.put hd h1 (u mW.self),Z⟩;rcases lA h1 with⟨id,ver,m,len,p,rfl⟩|⟨p,hy⟩
    obtain⟨l,rfl,hl,els,G,hr,b7,_⟩:=lZ o hg p;rw[B]at G;simp only[Sim.appendTo,G];rw[bK3 ⟨by trivial,by trivial,by trivial,by omega⟩];rfl;rcases hy with rfl|rfl<;>rfl;intro z id ver off len cap hv;rcases lA h1 with⟨id',d4,m,d3,p,rfl⟩|⟨p,hy⟩
    obtain⟨l,rfl,hl,_⟩:=lZ o hg p;cases hv;omega
    grind
   have x:a.isEmpty=false:=by cases a<;>simp_all
   rcases lA h1 with⟨id,ver,m,len,p,rfl⟩|⟨p,hy⟩
   obtain⟨l,rfl,hl,els,G,hr,⟨b7,d0⟩,b4⟩:=lZ o hg p;rw[B]at G;subst hl;have hid:=(o.hr.lt (by rw[hg];simp) p).2
   have fin:∀(f:Nat) (c:aA (aA AV)) (out:Out),out={v:=.sl m id f 0 (rows.length+a.length) none,up:=some (id,.arr false ty' m f c)}->
     Sim.appendTo (Sim.look s.h) lim s.n ty' m (.sl m id ver 0 rows.length none) a=some out->
     RR (rows++new) (c.take (rows++new).length)->((rows++new).length<=c.length/\SL (rows++new).length c)->(g=false->c.length=(rows++new).length)->
     ∃C' e' h' out,K e' h'=some r/\doOp (Sim.look s.h) lim s.n (.append ty' m b zero false) [.sl m id ver 0 rows.length none,y2]=some out/\dI C' n h' lim (out.apply s)/\fF C' e' (t.set d out.v)/\Fr C h s C' h' (out.apply s):=by
    intro f c out V b0 X T L;have D:(out.apply s).h=upd s.h id (.arr false ty' m f c)/\(out.apply s).n=s.n:=by subst V;exact⟨rfl,rfl⟩
    have N:∀i,i≠id->Sim.look (upd s.h id (.arr false ty' m f c)) i=Sim.look s.h i:=fun i hi=>by
     rw[Sim.look_upd];simp[hi]
    have q:out.apply s={h:=upd s.h id (.arr false ty' m f c),n:=s.n}:=by subst V;rfl
    obtain⟨Y,Z⟩:=Pn (id:=id) (ver:=f) (e:=m) (len:=(rows++new).length) (po2:=.lst ty' m g (rows++new)) (s':={h:=upd s.h id (.arr false ty' m f c),n:=s.n}) o hg M
     (bI3 _) (o.wf.upd _ _) (.upd _ _ _ _) (fun i _ hi=>N i hi) (.inr ⟨_,_,_,p⟩) ⟨l,hid,rfl,rfl,c,by rw[Sim.look_upd];simp[G,B],X,T,L⟩ A
    refine⟨_,_,_,out,hk,H out b0 ?_,by rw[q];exact Y,?_,by rw[q];exact Z⟩
    grind
    subst V;refine .put hd ?_ (u (fY C k _));have:RV (mv C k (.atp id f m (rows++new).length)) (.own k) (.sl m id f 0 (rows++new).length none):=.own (qE C k _);rw[dI3,hlen]at this;simpa[hlen]using this
   by_cases J:rows.length=els.length;refine fin (ver+1) (els++a) _ rfl ?_ ?_ ?_ ?_;simp only[Sim.appendTo,G];rw[bK3 ⟨by trivial,by trivial,by trivial,by omega⟩];simp only[x,bQ3,cR3];rw[bK3 (by omega),bK3 ⟨by trivial,l,by trivial⟩];rw[cU3 (by simp;omega)];refine RR.append ?_ y;rw[cU3 (by omega)]at hr;exact hr;exact⟨by simp;omega,.exact (by simp;omega)⟩;intro _;simp;omega
   have b5:g=true:=by
    cases g with
    |true=>rfl
    |false=>exact absurd (b4 rfl).symm J
   have d5:=O.2 b5
   have d2:a.length=1:=by
    have:a.length≠0:=by simpa using E
    omega
   have F:rows.length+a.length<=els.length:=by omega
   refine fin ver (Sim.setL els rows.length a) _ rfl ?_ ?_ ?_ ?_;simp only[Sim.appendTo,G];rw[bK3 ⟨by trivial,by trivial,by trivial,by omega⟩];simp only[x,bQ3,cR3];rw[bM3 (by omega),bK3 ⟨by omega,l⟩];rw[dC3];rw[yC els rows.length a F];have e1:(els.take rows.length++a++els.drop (rows.length+a.length)).take (rows++new).length=els.take rows.length++a:=by grind
   rw[e1];exact hr.append y;refine⟨?_,?_⟩;rw[yC els rows.length a F];simp[hlen];omega;intro i row hi W;rw[dI3]at hi;rw[lB (.inr (by omega))]at W;exact d0 i row (by omega) W
   grind
   ·
    have b8:=nO o hg p;subst b8
    have D:Sim.appendTo (Sim.look s.h) lim s.n ty' es' S a=some {v:=.sl es' s.n 0 0 a.length none,new:=some (.arr false ty' es' 0 a)}:=by
     rcases hy with rfl|rfl<;>simp[Sim.appendTo,x]
    have N:∀i,i<s.n->Sim.look (.ob s.n (.arr false ty' es' 0 a)::s.h) i=Sim.look s.h i:=fun i hi=>by
     rw[gK,bM3 (by omega)]
    obtain⟨Y,Z⟩:=Pn (id:=s.n) (ver:=0) (e:=es') (len:=([]++new).length) (po2:=.lst ty' es' g ([]++new)) (s':={h:=.ob s.n (.arr false ty' es' 0 a)::s.h,n:=s.n+1}) o hg M
     (by show s.n<=s.n+1;omega) ⟨by simp,o.wf⟩ (.new _ _ _) (fun i hi _=>N i hi) (.inl (bI3 _)) ⟨o.lim,by show s.n<s.n+1;omega,rfl,rfl,a,by rw[gK,bK3 rfl,B],by rw[cU3 (by simp;omega)];exact y,⟨by simp;omega,.exact (by simp;omega)⟩,fun _=>by simp;omega⟩ A
    refine⟨_,_,_,_,hk,H _ D ?_,Y,.put hd ?_ (u (fY C k _)),Z⟩
    grind
    have:RV (mv C k (.atp s.n 0 es' ([]++new).length)) (.own k) (.sl es' s.n 0 0 ([]++new).length none):=.own (qE C k _);simpa[hlen]using this
   cases j
   grind
  |tr tt rows hs=>
   cases x2 with
   |own k2=>
    simp only[bD3]at hk;obtain⟨d7,L,hk⟩:=hk;exact eP1 o he hd h1 h2 hg L hk
   |_=>exact aD hk
  |_=>exact aD hk
 |_=>exact aD hk
def wC1 (c:dI C n h lim s) {k ty2 e2:Nat} {g2:Bool} {po:dX} {h1:aS} (hg:aK h k=some po) (w:C k=some .nil) (hkl:yF k h h1) (g:iQ ty2=false):
  dI C n (cZ h1 k (.lst ty2 e2 g2 [])) lim s/\Fr C h s C (cZ h1 k (.lst ty2 e2 g2 [])) s:=by
 have p:(aK h1 k).isSome=true:=by
  cases hc:aK h1 k with
  |none=>rw[(hkl.1 k).1 hc]at hg;cases hg
  |some o=>rfl
 have a:∀j,aK (cZ h1 k (.lst ty2 e2 g2 [])) j=if j=k then some (.lst ty2 e2 g2 [])else aK h1 j:=fun j=>by
  rw[eN];simp[p]
 have b:∀j,aK (cZ h1 k (.lst ty2 e2 g2 [])) j≠none->aK h j≠none:=fun j d=>by
  rw[a]at d;split at d
  grind
  exact fun hc=>d ((hkl.1 j).2 hc)
 refine⟨⟨⟨fun j o d=>?_,fun j u i v1 f m v2 e2 y a1 a2 a3 a4=>c.hr.inj j u i v1 f m v2 e2 y (b j a1) (b u a2) a3 a4,fun i o x=>?_,fun j i v1 f m a1 a2=>c.hr.wn j i v1 f m (b j a1) a2,c.hr.wb,c.hr.wz⟩,c.dom,c.wf,c.lim⟩,⟨.refl _ _,bI3 _,fun _ _ _=>rfl,fun i hi q=>?_,Tj hg hkl g mW.self,fun _ _ h=>h,fun _ _ h=>.inl h⟩⟩;rw[a]at d;split at d;rename_i f;subst f;cases d;exact⟨.nil,w,rfl⟩;obtain⟨o0,q1,z,q2⟩:=hkl.2 j o d;obtain⟨pl,r,t⟩:=c.hr.ob j o0 q1;exact⟨pl,r,q2 mW.self rfl t⟩;obtain⟨z1,z2,z3,z4⟩:=c.hr.zr i o x;exact⟨z1,z2,fun j v e l h1 h2=>z3 j v e l (b j h1) h2,z4⟩;rcases q with⟨j,v1,f,m,r,t⟩|q;exact .inl ⟨j,v1,f,m,b j r,t⟩;exact .inr q
def Zj (f:dI C n h lim s) {e:gG} {t:aA AV} {d es k:Nat} {hi:Int} {kd:IntKind} {kill:aA Nat} {D F:AV} {K:gG->aS->aB R} {r:R} (he:fF C e t) (hd:d<t.length) (h1:RV C (.own k) D) (h2:RV C (.v (.int kd hi)) F)
  (hk:Sz e h d es kill k hi K=some r):
  ∃C' e' h' out,K e' h'=some r/\doOp (Sim.look s.h) lim s.n (.slc es false true false) [D,F]=some out/\dI C' n h' lim (out.apply s)/\fF C' e' (t.set d out.v)/\Fr C h s C' h' (out.apply s):=by
 unfold Sz at hk;simp only[iN,bD3]at hk;obtain⟨ob,hg,hk⟩:=hk;cases ob with
 |lst ty es' g rows=>
  by_cases hc:es'=es
  .subst hc
   cases hfx:iQ ty with
   |true=>simp only[hfx,eO3,Bool.and_false,cB3]at hk;exact aD hk
   |false=>
   simp only[bO,dD3,hfx,Bool.not_false,Bool.and_true,bS3,cE,bD3,uR]at hk;obtain⟨B,c,hk⟩:=hk;rw[gO]at hk;obtain⟨e2,hk,j⟩:=lL _ _ _ hk;obtain⟨u,hk,l⟩:=mF _ _ _ hk;have hk:=eF _ _ _ _ _ hk;split at c
   .rename_i hb
    obtain⟨b2,b3⟩:=hb;obtain rfl:=dH3 c;rw[jB h2];rcases lA h1 with⟨id,ver,o,len,b,rfl⟩|⟨b,hy⟩
    .obtain ⟨m,rfl,hl,els,E,hr,⟨H,x⟩,G⟩:=lZ f hg b
     subst hl;have hid:=(f.hr.lt (by rw[hg];simp) b).2;have a:(rows.take hi.toNat).length=hi.toNat:=by simp;omega
     obtain⟨y,A⟩:=Pn (id:=id) (ver:=ver) (e:=o) (len:=(rows.take hi.toNat).length) (po2:=.lst ty o true (rows.take hi.toNat)) (s':=s) (h1:=u) (hg:=hg) (hkl:=l) f
      (bI3 _) f.wf (.refl _ _) (fun i _ _=>rfl) (.inr ⟨_,_,_,b⟩) ⟨m,hid,rfl,rfl,els,E,by
       have:=hr.take hi.toNat
       rw[List.take_take,dJ3 (by omega)]at this;rw[a];exact this,⟨by rw[a];omega,SL.cut hr x _⟩,fun h=>by cases h⟩ hfx
     refine⟨_,_,_,{v:=.sl o id ver 0 hi.toNat none},hk,?_,y,.put hd ?_ (fun i w hw=>?_),A⟩
     .simp only[doOp,Sim.sliceOp,bQ3,cR3,Sim.bounds,Sim.intOf,cE3,E,Sim.roomOf]
      rw[bK3 ⟨by trivial,by trivial,by omega,b2,by omega,by omega⟩];simp
     .have:=RV.own (C:=mv C k (.atp id ver o (rows.take hi.toNat).length)) (qE C k _)
      rw[a]at this ⊢;exact this
     .obtain ⟨v,q1,q2⟩:=j i w hw
      obtain⟨z,p1,p2,p3⟩:=he.edel (d::kill) i v q1;exact⟨z,p1,q2 (fY C k _) p2,fun p=>p3 (by simp[p])⟩
    .have:=nO f hg b
     subst this;simp only[bU3,Int.natCast_zero]at b3;obtain rfl:hi=0:=by omega
     obtain⟨y,A⟩:=wC1 (ty2:=ty) (e2:=es') (g2:=true) f hg b l hfx
     obtain rfl:D=.v (.slice none 0 0):=by
      rcases jI h1 with⟨_,_,_,_,q,_⟩|⟨_,q⟩
      .rw [b]at q;cases q
      .exact q
     refine⟨_,_,_,{v:=.v (.slice none 0 0)},hk,rfl,y,.put hd (.ownn b rfl) (fun i w hw=>?_),A⟩;obtain⟨v,q1,q2⟩:=j i w hw;obtain⟨z,p1,p2,p3⟩:=he.edel (d::kill) i v q1;exact⟨z,p1,q2 mW.self p2,fun p=>p3 (by simp[p])⟩
   .cases c
  .simp only[bO,cI3 hc,Bool.false_and,cB3]at hk;exact aD hk
 |_=>exact aD hk
end
end Go.P
namespace Go.P
open Go.Sim (AV AO Hp iJ upd St IC IX Ex hZ CK Wf Out doOp lI exec)
section
variable {R:Type} {C:Cx} {n:Nat} {h:aS} {lim:Nat} {s:Hp}
end
end Go.P
namespace Go.P
open Go.Sim (AV AO Hp iJ upd St IC IX Ex hZ CK Wf Out doOp lI exec Foot wanted put)
def eQ1 {x:PV} (h:okC x=true):RC false x (eV x):=by
 unfold okC at h;split at h;exact .v _;exact .isn;exact .fn rfl rfl (fun j x y h=>by simp at h) (fun j x y h=>by simp at h);rename_i cs;refine .agg (by simp) (fun j x y a hy=>?_);simp only[cT3,bH3]at hy;obtain⟨b,h1,rfl⟩:=hy;rw[a]at h1;cases h1;have:=bJ3.1 h x (bO3 a);cases x<;>simp[isV]at this;exact .v _;cases h
def Mu (N:Nat):PX->Bool
 |.t i=>Nat.blt i N
 |.c x=>okC x
def lP (N:Nat) (e:aA Nat) (a:Bool):aA Nat->kM->Bool
 |_,.nil=>true
 |ds,.op d _ xs _ r=>Nat.blt d N&& !wD d e&&xs.all (Mu N)&&lP N e a (d::ds) r
 |ds,.sto _ xs _ r=>xs.all (Mu N)&&lP N e a ds r
 |ds,.ifx d c _ b x _ r=>Nat.blt d N&& !wD d e&&Mu N x&&(!a||wD c ds)&&lP N (c::e) true [] b&&lP N e a (d::ds) r
 |ds,.ifn d c _ b x _ r=>Nat.blt d N&& !wD d e&&Mu N x&&(!a||wD c ds)&&lP N (c::e) true [] b&&lP N e a (d::ds) r
 |ds,.mkfl d _ _ xs _ r=>Nat.blt d N&& !wD d e&&xs.all (Mu N)&&lP N e a (d::ds) r
 |ds,.lax _ _ r=>lP N e a ds r
 |ds,.own _ _ _ _ r=>lP N e a ds r
 |ds,.ownc _ _ _ _ _ r=>lP N e a ds r
 |ds,.laxc _ _ _ r=>lP N e a ds r
 |ds,.opn d _ x _ _ r=>Nat.blt d N&& !wD d e&&[x].all (Mu N)&&lP N e a (d::ds) r
 |ds,.bst d _ _ _ _ xs _ r=>Nat.blt d N&& !wD d e&&xs.all (Mu N)&&lP N e a (d::ds) r
 |ds,.gc _ r=>lP N e a ds r
 |ds,.clr d _ _ x y _ r=>Nat.blt d N&& !wD d e&&[x,y].all (Mu N)&&lP N e a (d::ds) r
 |ds,.tre _ _ _ r=>lP N e a ds r
section
variable {R:Type} {C:Cx} {n N:Nat} {h:aS} {lim:Nat} {s:Hp} {T:lI} {O:zF} {NF:FuncId->Bool} {dr:Nat} {e:gG} {t:List AV}
def lM (he:fF C e t):∀{xs:aA PX} {vs:aA PV},xs.all (Mu N)=true->evs e xs=some vs->∃ys,Sim.evs t (xs.map eX)=some ys/\LR (RV C) vs ys
 |[],vs,_,h=>by
  simp only[evs,bL3]at h
  subst h
  exact⟨[],rfl,.nil⟩
 |.t i::xs,vs,ho,h=>by
  simp only[evs,bD3,bL3]at h
  obtain⟨v,hv,f,a,rfl⟩:=h
  obtain⟨y,h1,h2⟩:=he i v hv
  obtain⟨ys,b,d⟩:=lM he (xs:=xs) (by simp only[dF3,bF3]at ho;exact ho.2) a
  exact⟨y::ys,by simp[Sim.evs,eX,IX.ev,h1,b],.cons h2 d⟩
 |.c x::xs,vs,ho,h=>by
  simp only[evs,bD3,bL3]at h
  obtain⟨f,a,rfl⟩:=h
  simp only[dF3,bF3]at ho
  obtain⟨ys,b,d⟩:=lM he (xs:=xs) ho.2 a
  exact⟨eV x::ys,by simp[Sim.evs,eX,IX.ev,b],.cons (.cl (eQ1 ho.1)) d⟩
def Rq (g:aB (Nat×Bool)) (t:aA AV):Prop:=match g with
 |none=>True
 |some (c,w)=>t[c]? =some (.v (.bool w))
def Rq.wanted {g:aB (Nat×Bool)} {t:aA AV} (h:Rq g t):wanted t g=true:=by
 cases g with
 |none=>rfl
 |some p=>obtain⟨c,w⟩:=p;simp only[Rq]at h;simp[Sim.wanted,h]
def GIn (g:aB (Nat×Bool)) (a:aA Nat):Prop:=∀c w,g=some (c,w)->c∈a
def Rq.set {g:aB (Nat×Bool)} {t:aA AV} {a:aA Nat} {d:Nat} {y:AV} (h:Rq g t) (hg:GIn g a) (hd:d∉a):Rq g (t.set d y):=by
 cases g with
 |none=>trivial
 |some p=>
  obtain⟨c,w⟩:=p;simp only[Rq]at h ⊢;rw[bT3 (fun e=>hd (by rw[e];exact hg c w rfl))];exact h
structure Mx (s s':Hp):Prop where
 sk:Sk s.h s'.h s.n
 n:s.n<=s'.n
 wf:Wf s'.h s'.n
 look:∀id,id<s.n->Sim.look s'.h id=Sim.look s.h id
def Mx.refl (hw:Wf s.h s.n):Mx s s:=⟨.refl _ _,bI3 _,hw,fun _ _=>rfl⟩
def Mx.trans {s' c:Hp} (a:Mx s s') (b:Mx s' c):Mx s c:=⟨a.sk.trans b.sk a.n,cH3 a.n b.n,b.wf,fun id hid=>(b.look id (cO3 hid a.n)).trans (a.look id hid)⟩
def dI.grow {s':Hp} (a:dI C n h lim s) (b:Mx s s'):dI C n h lim s':=by
 refine⟨⟨fun k po hk=>?_,a.hr.inj,fun id o c=>?_,a.hr.wn,fun id sl hw=>⟨cO3 (a.hr.wb id sl hw).1 b.n,cO3 (a.hr.wb id sl hw).2 b.n⟩,a.hr.wz⟩,a.dom,b.wf,cH3 a.lim b.n⟩;obtain⟨pl,h1,h2⟩:=a.hr.ob k po hk;refine⟨pl,h1,h2.mono b.n (.refl C) (fun id v e l hp=>?_) (fun o sl hw=>⟨hw,b.look o (a.hr.wb o sl hw).1⟩)⟩;subst hp;exact b.look id h2.lt.2;obtain⟨z1,z2,z3,z4⟩:=a.hr.zr id o c;exact⟨(b.look id z2).trans z1,cO3 z2 b.n,z3,z4⟩
def Mx.fr {s':Hp} (a:Mx s s'):Fr C h s C h s':=⟨a.sk,a.n,fun id hid _=>a.look id hid,fun _ _ h=>h,fun k o h=>⟨o,h,fun hb=>⟨hb,rfl⟩⟩,fun _ _ h=>h,fun _ _ h=>.inl h⟩
def dZ:∀(ops:kM) (a:aA Nat) (i:Nat),i∈dA ops a↔i∈dA ops []\/i∈a
 |.nil,a,i=>by simp[dA]
 |.op d k xs kl r,a,i=>by
  simp only[dA,bR3,dZ r a i,or_assoc]
 |.sto k xs kl r,a,i=>by simp only[dA,dZ r a i]
 |.ifx d c w b x kl r,a,i=>by
  simp only[dA,bR3,dZ b (dA r a) i,dZ b (dA r []) i,dZ r a i]
  constructor
  rintro(h|h|h|h)<;>simp[h]
  rintro((h|h|h)|h)<;>simp[h]
 |.ifn d c w b x kl r,a,i=>by
  simp only[dA,bR3,dZ b (dA r a) i,dZ b (dA r []) i,dZ r a i]
  constructor
  rintro(h|h|h|h)<;>simp[h]
  rintro((h|h|h)|h)<;>simp[h]
 |.mkfl d ty zero xs kl r,a,i=>by
  simp only[dA,bR3,dZ r a i,or_assoc]
 |.lax d es r,a,i=>by simp only[dA,dZ r a i]
 |.own d ty e g r,a,i=>by simp only[dA,dZ r a i]
 |.ownc d j ty e g r,a,i=>by simp only[dA,dZ r a i]
 |.laxc d j e r,a,i=>by simp only[dA,dZ r a i]
 |.opn d m x kl js r,a,i=>by
  simp only[dA,bR3,dZ r a i,or_assoc]
 |.bst d ty l zero ps xs kl r,a,i=>by
  simp only[dA,bR3,dZ r a i,or_assoc]
 |.gc _ r,a,i=>by simp only[dA,dZ r a i]
 |.clr d es zero x y kl r,a,i=>by
  simp only[dA,bR3,dZ r a i,or_assoc]
 |.tre d j ty r,a,i=>by simp only[dA,dZ r a i]
def gQ:∀(ops:kM) {f h:aA Nat} {a:Bool},lP N f a h ops=true->∀i∈dA ops [],i∉f
 |.nil,f,h,a,_,i,hi=>by simp[dA]at hi
 |.op d k xs kl r,f,h,a,ho,i,hi=>by
  simp only[lP,bF3,bW3,iK]at ho
  obtain⟨⟨⟨h1,h2⟩,o⟩,n⟩:=ho
  simp only[dA,bR3]at hi
  rcases hi with rfl|hi
  simpa using h2
  exact gQ r n i hi
 |.sto k xs kl r,f,h,a,ho,i,hi=>by
  simp only[lP,bF3]at ho
  exact gQ r ho.2 i hi
 |.ifx d c w b x kl r,f,h,a,ho,i,hi=>by
  simp only[lP,bF3,bW3,iK]at ho
  obtain⟨⟨⟨⟨⟨h1,h2⟩,o⟩,n⟩,p⟩,q⟩:=ho
  simp only[dA,bR3,dZ b (dA r []) i]at hi
  rcases hi with rfl|hi|hi
  simpa using h2
  exact fun hg=>gQ b p i hi (by simp[hg])
  exact gQ r q i hi
 |.ifn d c w b x kl r,f,h,a,ho,i,hi=>by
  simp only[lP,bF3,bW3,iK]at ho
  obtain⟨⟨⟨⟨⟨h1,h2⟩,o⟩,n⟩,p⟩,q⟩:=ho
  simp only[dA,bR3,dZ b (dA r []) i]at hi
  rcases hi with rfl|hi|hi
  simpa using h2
  exact fun hg=>gQ b p i hi (by simp[hg])
  exact gQ r q i hi
 |.mkfl d ty zero xs kl r,f,h,a,ho,i,hi=>by
  simp only[lP,bF3,bW3,iK]at ho
  obtain⟨⟨⟨h1,h2⟩,o⟩,n⟩:=ho
  simp only[dA,bR3]at hi
  rcases hi with rfl|hi
  simpa using h2
  exact gQ r n i hi
 |.lax d es r,f,h,a,ho,i,hi=>gQ r (by simpa only[lP]using ho) i hi
 |.own d ty e g r,f,h,a,ho,i,hi=>gQ r (by simpa only[lP]using ho) i hi
 |.ownc d j ty e g r,f,h,a,ho,i,hi=>gQ r (by simpa only[lP]using ho) i hi
 |.laxc d j e r,f,h,a,ho,i,hi=>gQ r (by simpa only[lP]using ho) i hi
 |.opn d m x kl js r,f,h,a,ho,i,hi=>by
  simp only[lP,bF3,bW3,iK]at ho
  obtain⟨⟨⟨h1,h2⟩,o⟩,n⟩:=ho
  simp only[dA,bR3]at hi
  rcases hi with rfl|hi
  simpa using h2
  exact gQ r n i hi
 |.bst d ty l zero ps xs kl r,f,h,a,ho,i,hi=>by
  simp only[lP,bF3,bW3,iK]at ho
  obtain⟨⟨⟨h1,h2⟩,o⟩,n⟩:=ho
  simp only[dA,bR3]at hi
  rcases hi with rfl|hi
  simpa using h2
  exact gQ r n i hi
 |.clr d es zero x y kl r,f,h,a,ho,i,hi=>by
  simp only[lP,bF3,bW3,iK]at ho
  obtain⟨⟨⟨h1,h2⟩,o⟩,n⟩:=ho
  simp only[dA,bR3]at hi
  rcases hi with rfl|hi
  simpa using h2
  exact gQ r n i hi
 |.gc _ r,f,h,a,ho,i,hi=>gQ r (by simpa only[lP]using ho) i hi
 |.tre d j ty r,f,h,a,ho,i,hi=>gQ r (by simpa only[lP]using ho) i hi
def lC {g:aB (Nat×Bool)} {a:aA Nat} {d:Nat} {y:AV} (hg:GIn g a) (hd:d∉a):wanted (t.set d y) g=wanted t g:=by
 cases g with
 |none=>rfl
 |some p=>
  obtain⟨c,w⟩:=p;simp only[Sim.wanted];rw[bT3 (fun e=>hd (by rw[e];exact hg c w rfl))]
def Bt {g:aB (Nat×Bool)} {t a:aA AV} (h:∀c w,g=some (c,w)->a[c]? =t[c]?):wanted a g=wanted t g:=by
 cases g with
 |none=>rfl
 |some p=>
  obtain⟨c,w⟩:=p;simp only[Sim.wanted];rw[h c w rfl]
def gZ (g:aB (Nat×Bool)):∀(ops:kM) (h n:aA Nat) (t:aA AV),lP N h true n ops=true->GIn g h->wanted t g=false->
  (∀c∈n,∀b,t[c]? ≠some (.v (.bool b)))->
  ∃fs u,Tr T NF dr lim (rP g ops) {t:=t,s:=s} fs {t:=u,s:=s}/\u.length=t.length/\(∀(i:Nat),i∉dA ops []->u[i]? =t[i]?)/\∀(i:Nat),u[i]? =t[i]? \/u[i]? =some AV.undef
 |.nil,h,n,t,_,_,_,_=>⟨[],t,.nil,rfl,fun _ _=>rfl,fun _=>.inl rfl⟩
 |.op d k xs kl r,h,n,t,ho,hg,hw,hd=>by
  simp only[lP,bF3,bW3,iK]at ho
  obtain⟨⟨⟨h1,h2⟩,L⟩,D⟩:=ho
  have p:d∉h:=by simpa using h2
  have cZ:∀i,(t.set d AV.undef)[i]? =t[i]? \/(t.set d AV.undef)[i]? =some AV.undef:=fun i=>by
   by_cases e:d=i
   subst e
   by_cases hl:d<t.length
   exact .inr (by rw[cA3];simp[hl])
   exact .inl (by rw[dR3 (eG3 hl)])
   exact .inl (bT3 e)
  obtain⟨fs,u,A,B,z,f⟩:=gZ g r h (d::n) (t.set d AV.undef) D hg (by rw[lC hg p];exact hw) (fun c hc b=>by
   by_cases a:d=c
   subst a
   rw[cA3]
   simp only[cF3]
   split
   intro e;cases e
   intro e;cases e
   rw[bT3 a]
   rcases bR3.1 hc with rfl|hc
   exact absurd rfl a
   exact hd c hc b)
  refine⟨_,u,.skip (o:=⟨some d,k,xs.map eX,g⟩) hw A,by simpa using B,fun i hi=>?_,fun i=>?_⟩
  simp only[dA,bR3,eC3]at hi
  rw[z i hi.2,bT3 (Ne.symm hi.1)]
  rcases f i with f|f
  rw[f];exact cZ i
  exact .inr f
 |.ifx d c w b x kl r,h,n,t,ho,hg,hw,hd=>by
  simp only[lP,bF3,bW3,iK,eO3,Bool.false_or]at ho
  obtain⟨⟨⟨⟨⟨h1,h2⟩,L⟩,D⟩,M⟩,P⟩:=ho
  have p:d∉h:=by simpa using h2
  have H:c∈n:=by simpa using D
  have K:wanted t (some (c,w))=false:=by
   simp only[Sim.wanted];split;rename_i q R;exact absurd R (hd c H q);rfl
  obtain⟨fs,C,A,B,z,f⟩:=gZ (some (c,w)) b (c::h) [] t M (fun F w' e=>by cases e;simp) K (fun c hc=>by simp at hc)
  have E:wanted C g=false:=by
   rw[Bt (t:=t) (fun F w' e=>z F (fun hi=>gQ b M F hi (by simp[hg F w' e])))];exact hw
  have J:∀c∈n,∀b,C[c]? ≠some (.v (.bool b)):=fun c hc b=>by
   rcases f c with f|f;rw[f];exact hd c hc b;rw[f];intro e;cases e
  have cZ:∀i,(C.set d AV.undef)[i]? =C[i]? \/(C.set d AV.undef)[i]? =some AV.undef:=fun i=>by
   by_cases e:d=i;subst e;by_cases hl:d<C.length;exact .inr (by rw[cA3];simp[hl]);exact .inl (by rw[dR3 (eG3 hl)]);exact .inl (bT3 e)
  obtain⟨O,u,q1,q2,q3,q4⟩:=gZ g r h (d::n) (C.set d AV.undef) P hg (by rw[lC hg p];exact E) (fun c hc b=>by
   by_cases a:d=c;subst a;rw[cA3];simp only[cF3];split;intro e;cases e;intro e;cases e;rw[bT3 a];rcases bR3.1 hc with rfl|hc;exact absurd rfl a;exact J c hc b)
  refine⟨_,u,A.append (.skip E q1),by simp[q2,B],fun i hi=>?_,fun i=>?_⟩;simp only[dA,bR3,dZ b (dA r []) i,eC3]at hi;rw[q3 i hi.2.2,bT3 (Ne.symm hi.1),z i hi.2.1];rcases q4 i with q4|q4;rw[q4];rcases cZ i with G|G;rw[G];exact f i;exact .inr G;exact .inr q4
 |.ifn d c w b x kl r,h,n,t,ho,hg,hw,hd=>by
  simp only[lP,bF3,bW3,iK,eO3,Bool.false_or]at ho;obtain⟨⟨⟨⟨⟨h1,h2⟩,L⟩,D⟩,M⟩,P⟩:=ho;have p:d∉h:=by simpa using h2
  have H:c∈n:=by simpa using D
  have K:wanted t (some (c,w))=false:=by
   simp only[Sim.wanted];split;rename_i q R;exact absurd R (hd c H q);rfl
  obtain⟨fs,C,A,B,z,f⟩:=gZ (some (c,w)) b (c::h) [] t M (fun F w' e=>by cases e;simp) K (fun c hc=>by simp at hc)
  have E:wanted C g=false:=by
   rw[Bt (t:=t) (fun F w' e=>z F (fun hi=>gQ b M F hi (by simp[hg F w' e])))];exact hw
  have J:∀c∈n,∀b,C[c]? ≠some (.v (.bool b)):=fun c hc b=>by
   rcases f c with f|f;rw[f];exact hd c hc b;rw[f];intro e;cases e
  have cZ:∀i,(C.set d AV.undef)[i]? =C[i]? \/(C.set d AV.undef)[i]? =some AV.undef:=fun i=>by
   by_cases e:d=i;subst e;by_cases hl:d<C.length;exact .inr (by rw[cA3];simp[hl]);exact .inl (by rw[dR3 (eG3 hl)]);exact .inl (bT3 e)
  obtain⟨O,u,q1,q2,q3,q4⟩:=gZ g r h (d::n) (C.set d AV.undef) P hg (by rw[lC hg p];exact E) (fun c hc b=>by
   by_cases a:d=c;subst a;rw[cA3];simp only[cF3];split;intro e;cases e;intro e;cases e;rw[bT3 a];rcases bR3.1 hc with rfl|hc;exact absurd rfl a;exact J c hc b)
  refine⟨_,u,A.append (.skip E q1),by simp[q2,B],fun i hi=>?_,fun i=>?_⟩;simp only[dA,bR3,dZ b (dA r []) i,eC3]at hi;rw[q3 i hi.2.2,bT3 (Ne.symm hi.1),z i hi.2.1];rcases q4 i with q4|q4;rw[q4];rcases cZ i with G|G;rw[G];exact f i;exact .inr G;exact .inr q4
 |.mkfl d ty zero xs kl r,h,n,t,ho,hg,hw,hd=>by
  simp only[lP,bF3,bW3,iK]at ho;obtain⟨⟨⟨h1,h2⟩,L⟩,D⟩:=ho;have p:d∉h:=by simpa using h2
  have cZ:∀i,(t.set d AV.undef)[i]? =t[i]? \/(t.set d AV.undef)[i]? =some AV.undef:=fun i=>by
   by_cases e:d=i;subst e;by_cases hl:d<t.length;exact .inr (by rw[cA3];simp[hl]);exact .inl (by rw[dR3 (eG3 hl)]);exact .inl (bT3 e)
  obtain⟨fs,u,A,B,z,f⟩:=gZ g r h (d::n) (t.set d AV.undef) D hg (by rw[lC hg p];exact hw) (fun c hc b=>by
   by_cases a:d=c;subst a;rw[cA3];simp only[cF3];split;intro e;cases e;intro e;cases e;rw[bT3 a];rcases bR3.1 hc with rfl|hc;exact absurd rfl a;exact hd c hc b)
  refine⟨_,u,.skip (o:=⟨some d,.buildSl ty 1 xs.length zero (List.range xs.length),xs.map eX,g⟩) hw A,by simpa using B,fun i hi=>?_,fun i=>?_⟩;simp only[dA,bR3,eC3]at hi;rw[z i hi.2,bT3 (Ne.symm hi.1)];rcases f i with f|f;rw[f];exact cZ i;exact .inr f
 |.sto k xs kl r,h,n,t,ho,hg,hw,hd=>by
  simp only[lP,bF3]at ho;obtain⟨fs,u,A,B,z,f⟩:=gZ g r h n t ho.2 hg hw hd;exact⟨_,u,.skip (o:=⟨none,k,xs.map eX,g⟩) hw A,B,z,f⟩
 |.lax d es r,h,n,t,ho,hg,hw,hd=>gZ g r h n t (by simpa only[lP]using ho) hg hw hd
 |.own d ty e g' r,h,n,t,ho,hg,hw,hd=>gZ g r h n t (by simpa only[lP]using ho) hg hw hd
 |.ownc d j ty e g' r,h,n,t,ho,hg,hw,hd=>gZ g r h n t (by simpa only[lP]using ho) hg hw hd
 |.laxc d j e r,h,n,t,ho,hg,hw,hd=>gZ g r h n t (by simpa only[lP]using ho) hg hw hd
 |.opn d m x kl js r,h,n,t,ho,hg,hw,hd=>by
  simp only[lP,bF3,bW3,iK]at ho;obtain⟨⟨⟨h1,h2⟩,L⟩,D⟩:=ho;have p:d∉h:=by simpa using h2
  have cZ:∀i,(t.set d AV.undef)[i]? =t[i]? \/(t.set d AV.undef)[i]? =some AV.undef:=fun i=>by
   by_cases e:d=i;subst e;by_cases hl:d<t.length;exact .inr (by rw[cA3];simp[hl]);exact .inl (by rw[dR3 (eG3 hl)]);exact .inl (bT3 e)
  obtain⟨fs,u,A,B,z,f⟩:=gZ g r h (d::n) (t.set d AV.undef) D hg (by rw[lC hg p];exact hw) (fun c hc b=>by
   by_cases a:d=c;subst a;rw[cA3];simp only[cF3];split;intro e;cases e;intro e;cases e;rw[bT3 a];rcases bR3.1 hc with rfl|hc;exact absurd rfl a;exact hd c hc b)
  refine⟨_,u,.skip (o:=⟨some d,(match m with|none=>.loadS|some m=>.loadA m),[eX x],g⟩) hw A,by simpa using B,fun i hi=>?_,fun i=>?_⟩;simp only[dA,bR3,eC3]at hi;rw[z i hi.2,bT3 (Ne.symm hi.1)];rcases f i with f|f;rw[f];exact cZ i;exact .inr f
 |.bst d ty l zero ps xs kl r,h,n,t,ho,hg,hw,hd=>by
  simp only[lP,bF3,bW3,iK]at ho;obtain⟨⟨⟨h1,h2⟩,L⟩,D⟩:=ho;have p:d∉h:=by simpa using h2
  have cZ:∀i,(t.set d AV.undef)[i]? =t[i]? \/(t.set d AV.undef)[i]? =some AV.undef:=fun i=>by
   by_cases e:d=i;subst e;by_cases hl:d<t.length;exact .inr (by rw[cA3];simp[hl]);exact .inl (by rw[dR3 (eG3 hl)]);exact .inl (bT3 e)
  obtain⟨fs,u,A,B,z,f⟩:=gZ g r h (d::n) (t.set d AV.undef) D hg (by rw[lC hg p];exact hw) (fun c hc b=>by
   by_cases a:d=c;subst a;rw[cA3];simp only[cF3];split;intro e;cases e;intro e;cases e;rw[bT3 a];rcases bR3.1 hc with rfl|hc;exact absurd rfl a;exact hd c hc b)
  refine⟨_,u,.skip (o:=⟨some d,(match ty with|.nd ty e _=>.buildSl ty e l zero ps),xs.map eX,g⟩) hw A,by simpa using B,fun i hi=>?_,fun i=>?_⟩;simp only[dA,bR3,eC3]at hi;rw[z i hi.2,bT3 (Ne.symm hi.1)];rcases f i with f|f;rw[f];exact cZ i;exact .inr f
 |.clr d es zero x y kl r,h,n,t,ho,hg,hw,hd=>by
  simp only[lP,bF3,bW3,iK]at ho;obtain⟨⟨⟨h1,h2⟩,L⟩,D⟩:=ho;have p:d∉h:=by simpa using h2
  have cZ:∀i,(t.set d AV.undef)[i]? =t[i]? \/(t.set d AV.undef)[i]? =some AV.undef:=fun i=>by
   by_cases e:d=i;subst e;by_cases hl:d<t.length;exact .inr (by rw[cA3];simp[hl]);exact .inl (by rw[dR3 (eG3 hl)]);exact .inl (bT3 e)
  obtain⟨fs,u,A,B,z,f⟩:=gZ g r h (d::n) (t.set d AV.undef) D hg (by rw[lC hg p];exact hw) (fun c hc b=>by
   by_cases a:d=c;subst a;rw[cA3];simp only[cF3];split;intro e;cases e;intro e;cases e;rw[bT3 a];rcases bR3.1 hc with rfl|hc;exact absurd rfl a;exact hd c hc b)
  refine⟨_,u,.skip (o:=⟨some d,.slc es true false false,[eX x,eX y],g⟩) hw (.skip (o:=⟨none,.clear es zero,[.t d],g⟩) (by show wanted (t.set d AV.undef) g=false;rw[lC hg p];exact hw) A),by simpa using B,fun i hi=>?_,fun i=>?_⟩;simp only[dA,bR3,eC3]at hi;rw[z i hi.2,bT3 (Ne.symm hi.1)];rcases f i with f|f;rw[f];exact cZ i;exact .inr f
 |.gc _ r,h,n,t,ho,hg,hw,hd=>gZ g r h n t (by simpa only[lP]using ho) hg hw hd
 |.tre d j ty r,h,n,t,ho,hg,hw,hd=>gZ g r h n t (by simpa only[lP]using ho) hg hw hd
end
end Go.P
namespace Go.P
open Go.Sim (AV AO Hp iJ upd St IC IX Ex hZ CK Wf Out doOp lI exec Foot wanted put)
section
variable {R:Type} {T:lI} {O:zF} {X:NX} {dr:Nat}
def Wh (H:∀f xs v,O f xs=some v->sJ T f xs v) {C:Cx} {n:Nat} {h:aS} {lim:Nat} {s:Hp} {k:hZ} {as:aA PV} {ys:aA AV} {K:PV->aS->Nat->aB R} {r:R}
  (j:dI C n h lim s) (z:LR (RV C) as ys) (hk:opK O X k as h n K=some r):
  ∃v h' n' C' y s',K v h' n'=some r/\RV C' v y/\dI C' n' h' lim s'/\C.le C'/\n<=n'/\Fr C h s C' h' s'/\(Oy k=false->∀id,id<s.n->Sim.look s'.h id=Sim.look s.h id)/\
   ∀(o:Sim.Op1) (os:aA Sim.Op1) (t:aA AV) (fs:aA Foot) (τ:St),o.k=k->wanted t o.guard=true->Sim.evs t o.xs=some ys->Tr T X.is dr lim os {t:=put t o.dst y,s:=s'} fs τ->∃f,Tr T X.is dr lim (o::os) {t:=t,s:=s} (f::fs) τ:=by
 have call:∀(f:FuncId) (xs:aA PV) (zs:aA AV) (k:hZ),Bn O f xs h (fun v=>K v h n)=some r->LR (RV C) xs zs->kK k=true->(mL X.is dr k=3\/mL X.is dr k=4)->((∃ifn,T f=some ifn/\ifn.pure=true/\(ifn.frz||zs.all (Sim.closed 4))=true)->Sim.foot T k ys={all:=1,x:=true})->
   (∀(d:Nat) (s:Hp),Sim.step T (exec T d) lim k ys s=Sim.callF T (exec T d) lim f zs s)->
   ∃v h' n' C' y s',K v h' n'=some r/\RV C' v y/\dI C' n' h' lim s'/\C.le C'/\n<=n'/\Fr C h s C' h' s'/\(Oy k=false->∀id,id<s.n->Sim.look s'.h id=Sim.look s.h id)/\
   ∀(o:Sim.Op1) (os:aA Sim.Op1) (t:aA AV) (fs:aA Foot) (τ:St),o.k=k->wanted t o.guard=true->Sim.evs t o.xs=some ys->Tr T X.is dr lim os {t:=put t o.dst y,s:=s'} fs τ->∃f,Tr T X.is dr lim (o::os) {t:=t,s:=s} (f::fs) τ:=by
  intro f xs zs k hk L hc l hf u;obtain⟨v,y,h1,h2,g,D,i⟩:=Pk (lim:=lim) H j hk L;refine⟨v,h,n,C,y,s,h1,.cl h2,j,.refl C,bI3 _,.refl _ _ _,fun _ _ _=>rfl,fun o os t fs τ q hw he w=>⟨{all:=1,x:=true},?_⟩⟩;subst q;exact .call hw he hc l (hf g) ⟨D,fun d hd m=>by rw[u];exact i d hd m⟩ w
 unfold opK at hk;split at hk;rename_i e f;cases hX:X.is f with
 |true=>rw[hX]at hk;exact aD hk
 |false=>
  rw[hX,cB3]at hk;refine call _ _ ys (.callF _) hk z rfl (by simp[mL,hX]) (fun⟨ifn,h1,h2,g⟩=>?_) (fun d s=>rfl);simp only[Sim.foot,h1,h2,g,cF3,eF3]
 rename_i f first cap e
 obtain⟨y,A,rfl,h1,h2⟩:=z.inv_cons;obtain⟨a',b',rfl,g,i⟩:=yA h1;cases hX:X.is f with
 |true=>rw[hX]at hk;exact aD hk
 |false=>
  rw[hX,cB3]at hk;refine call f (first++e++cap) (a'++A++b') .callV hk ((g.append h2).append i) rfl (by simp only[mL];split<;>omega) (fun⟨ifn,M,N,P⟩=>?_) (fun d s=>rfl);simp only[Sim.foot,M,N,P,cF3,eF3]
 rename_i k' e p J;obtain⟨v,h',n',C',out,h1,h2,g,i,B,E,F,G⟩:=Pf j z hk;refine⟨v,h',n',C',out.v,out.apply s,h1,g,i,B,E,F,G,fun o os t fs τ q hw he w=>?_⟩;subst q;refine⟨_,.op hw he ?_ h2 w⟩;cases hk':o.k with
 |callF f=>exact absurd hk' (p f)
 |callV=>
  rw[hk']at hk;unfold gB at hk;rcases e with _|⟨a,_|⟨b,_|⟨c,_|⟨d,t⟩⟩⟩⟩<;>exact aD hk
 |_=>rfl
def Ge {t:aA AV} {c i:Nat} {x:PX} {N:Nat} (b:t.length=N) (a:Mu N x=true):∃z,(eX x).ev t=some z:=by
 cases x with
 |t i=>
  simp only[Mu,dP3]at a;exact⟨t[i]'(by omega),by simp[eX,IX.ev]⟩
 |c x=>exact⟨eV x,rfl⟩
def Pp {t:aA AV} {x y z:IX} {a b c:AV} (h1:x.ev t=some a) (h2:y.ev t=some b) (d:z.ev t=some c):Sim.evs t [x,y,z]=some [a,b,c]:=by
 simp[Sim.evs,h1,h2,d]
def Jj {N lim:Nat} {u:aA Nat} {C:Cx} {n:Nat} {h:aS} {e:gG} {t:aA AV} {s:Hp} {c:Nat} {w l y:Bool} {b:kM} {x:PX} (D:dI C n h lim s) (E:t.length=N) (A:lP N (c::u) true [] b=true) (B:Mu N x=true)
  (hc:t[c]? =some (.v (.bool l)))
  (hy:(bif w then Om l (fP.opsB O X b e h n x) (some false)else Om l (some true) (fP.opsB O X b e h n x))=some y)
  (IH:fP.opsB O X b e h n x=some y->Rq (some (c,w)) t->∃fs m s',Tr T X.is dr lim (rP (some (c,w)) b) {t:=t,s:=s} fs {t:=m,s:=s'}/\(eX x).ev m=some (.v (.bool y))/\m.length=N/\(∀(i:Nat),i∉dA b []->m[i]? =t[i]?)/\Mx s s'):
  ∃fs a s1,Tr T X.is dr lim (rP (some (c,w)) b) {t:=t,s:=s} fs {t:=a,s:=s1}/\a.length=N/\(∀(i:Nat),i∉dA b []->a[i]? =t[i]?)/\Mx s s1/\
     ∃zs,Sim.evs a (if w then[.t c,eX x,.c (.v (.bool false))]else[.t c,.c (.v (.bool true)),eX x])=some zs/\doOp (Sim.look s1.h) lim s1.n .pick zs=some {v:=.v (.bool y)}:=by
 have j:∀a:aA AV,(∀(i:Nat),i∉dA b []->a[i]? =t[i]?)->a[c]? =some (.v (.bool l)):=fun a p=>by
  rw[p c (fun hi=>gQ b A c hi (by simp))];exact hc
 have skip:l≠w->∃fs a s1,Tr T X.is dr lim (rP (some (c,w)) b) {t:=t,s:=s} fs {t:=a,s:=s1}/\a.length=N/\(∀(i:Nat),i∉dA b []->a[i]? =t[i]?)/\Mx s s1:=by
  intro o;obtain⟨fs,a,k,d,f,g⟩:=gZ (T:=T) (NF:=X.is) (dr:=dr) (lim:=lim) (s:=s) (some (c,w)) b (c::u) [] t A (fun F w' e=>by cases e;simp) (by simp[Sim.wanted,hc,o]) (fun c hc=>by simp at hc);exact⟨fs,a,s,k,d.trans E,f,.refl D.wf⟩
 cases w with
 |true=>
  rw[bS3,rZ]at hy;cases l with
  |true=>
   rw[bK3 rfl]at hy;obtain⟨fs,a,s1,k,d,f,g,r⟩:=IH hy hc;exact⟨fs,a,s1,k,f,g,r,[.v (.bool true),.v (.bool y),.v (.bool false)],Pp (j a g) d rfl,rfl⟩
  |false=>
   simp only[bQ3,cR3,bL3]at hy;subst hy;obtain⟨fs,a,s1,k,d,f,g⟩:=skip (by simp);obtain⟨z,q⟩:=Ge (c:=0) (i:=0) d B;exact⟨fs,a,s1,k,d,f,g,[.v (.bool false),z,.v (.bool false)],Pp (j a f) q rfl,rfl⟩
 |false=>
  rw[cB3,rZ]at hy;cases l with
  |true=>
   simp only[cF3,bL3]at hy;subst hy;obtain⟨fs,a,s1,k,d,f,g⟩:=skip (by simp);obtain⟨z,q⟩:=Ge (c:=0) (i:=0) d B;exact⟨fs,a,s1,k,d,f,g,[.v (.bool true),.v (.bool true),z],Pp (j a f) rfl q,rfl⟩
  |false=>
   simp only[bQ3,cR3]at hy;obtain⟨fs,a,s1,k,d,f,g,r⟩:=IH hy hc;exact⟨fs,a,s1,k,f,g,r,[.v (.bool false),.v (.bool true),.v (.bool y)],Pp (j a g) rfl d,rfl⟩
def yG (F:∀f xs v,O f xs=some v->sJ T f xs v) {N lim:Nat}:∀(ops:kM) (a l:aA Nat) (g:aB (Nat×Bool)) (C:Cx) (n:Nat) (h:aS) (e:gG) (t:aA AV) (s:Hp) (x:PX) (b:Bool),
  fP.opsB O X ops e h n x=some b->fF C e t->dI C n h lim s->t.length=N->lP N a true l ops=true->Mu N x=true->Rq g t->GIn g a->
  ∃fs m s',Tr T X.is dr lim (rP g ops) {t:=t,s:=s} fs {t:=m,s:=s'}/\(eX x).ev m=some (.v (.bool b))/\m.length=N/\(∀(i:Nat),i∉dA ops []->m[i]? =t[i]?)/\Mx s s'
 |.nil,a,l,g,C,n,h,e,t,s,x,b,hk,he,hM,hN,ho,hx,hg,hgi=>by
  unfold fP.opsB at hk
  rw[kJ,bD3]at hk
  obtain⟨vs,A,hk⟩:=hk
  obtain⟨ys,h1,h2⟩:=lM he (xs:=[x]) (by simpa using hx) A
  split at hk
  cases hk
  obtain⟨y,_,rfl,Z,h4⟩:=h2.inv_cons
  rw[h4.inv_nil]at h1
  rw[jB Z]at h1
  refine⟨[],t,s,.nil,?_,hN,fun _ _=>rfl,.refl hM.wf⟩
  simp only[dV3,eR3,Sim.evs]at h1
  split at h1
  grind
  cases h1
  exact aD hk
 |.op d k xs kl r,a,l,g,C,n,h,e,t,s,x,b,hk,he,hM,hN,ho,hx,hg,hgi=>by
  simp only[lP,bF3,bW3,iK,dP3]at ho
  obtain⟨⟨⟨o1,S⟩,G⟩,W⟩:=ho
  have q:d∉a:=by simpa using S
  unfold fP.opsB at hk
  rw[kJ,bD3]at hk
  obtain⟨vs,A,hk⟩:=hk
  obtain⟨ys,h1,h2⟩:=lM he G A
  cases hst:Oy k with
  |true=>rw[hst]at hk;exact aD hk
  |false=>
   rw[hst,cB3]at hk
   obtain⟨v,h',n',C',y,s',q1,q2,q3,q4,q5,q6,q7,q8⟩:=Wh F hM h2 hk
   rw[gO]at q1
   have hd:d<t.length:=by omega
   have u:fF C' ((d,v)::edel e (d::kl)) (t.set d y):=.put hd q2 (fun i w hw=>by
    obtain⟨z,p1,p2,p3⟩:=(he.mono q4).edel (d::kl) i w hw
    exact⟨z,p1,p2,fun J=>p3 (by simp[J])⟩)
   obtain⟨fs,m,V,r1,r2,r3,r4,r5⟩:=yG F r a (d::l) g C' n' h' _ (t.set d y) s' x b q1 u q3 (by simpa using hN) W hx (hg.set hgi q) hgi
   obtain⟨f,hf⟩:=q8 ⟨some d,k,xs.map eX,g⟩ _ t fs _ rfl hg.wanted h1 r1
   have P:Mx s s':=⟨q6.sk,q6.n,q3.wf,q7 hst⟩
   refine⟨_,m,V,hf,r2,r3,fun i hi=>?_,P.trans r5⟩
   simp only[dA,bR3,eC3]at hi
   rw[r4 i hi.2,bT3 (Ne.symm hi.1)]
 |.ifx d c w bd x' kl r,a,l,g,C,n,h,e,t,s,x,b,hk,he,hM,hN,ho,hx,hg,hgi=>by
  simp only[lP,bF3,bW3,iK,dP3,eO3,Bool.false_or]at ho
  obtain⟨⟨⟨⟨⟨o1,S⟩,G⟩,W⟩,U⟩,o6⟩:=ho
  have q:d∉a:=by simpa using S
  unfold fP.opsB at hk
  rw[kS,bD3]at hk
  obtain⟨cv,L,hk⟩:=hk
  split at hk
  rename_i cb
  rw[cE,bD3]at hk
  obtain⟨y,hy,hk⟩:=hk
  rw[gO]at hk
  obtain⟨cy,B,K⟩:=he c _ L
  rw[jB K]at B
  obtain⟨fs,H,s1,p1,p2,p3,p4,zs,p5,p6⟩:=Jj (T:=T) (O:=O) (X:=X) (dr:=dr) hM hN U G B hy (fun hb M=>yG F bd (c::a) [] (some (c,w)) C n h e t s x' y hb he hM hN U G M (fun E w' e=>by cases e;simp))
  have D:Rq g H:=by
   cases g with
   |none=>trivial
   |some p=>
    obtain⟨E,w'⟩:=p;simp only[Rq]at hg ⊢;rw[p3 E (fun hi=>gQ bd U E hi (by simp[hgi E w' rfl]))];exact hg
  have hd:d<H.length:=by omega
  have u:fF C ((d,.v (.bool y))::edel e (d::dA bd kl)) (H.set d (.v (.bool y))):=.put hd (.cl (.v _)) (fun i w hw=>by
   obtain⟨z,q1,q2,q3⟩:=he.edel (d::dA bd kl) i w hw;have R:i∉dA bd []:=fun hi=>q3 (by simp[(dZ bd kl i).2 (.inl hi)]);exact⟨z,by rw[p3 i R];exact q1,q2,fun J=>q3 (by simp[J])⟩)
  obtain⟨Y,m,V,r1,r2,r3,r4,r5⟩:=yG F r a (d::l) g C n h _ (H.set d (.v (.bool y))) s1 x b hk u (hM.grow p4) (by simpa using p2) o6 hx (D.set hgi q) hgi;refine⟨_,m,V,p1.append (.op (o:=⟨some d,.pick,_,g⟩) D.wanted p5 rfl p6 r1),r2,r3,fun i hi=>?_,p4.trans r5⟩;simp only[dA,bR3,dZ bd (dA r []) i,eC3]at hi;rw[r4 i hi.2.2,bT3 (Ne.symm hi.1),p3 i hi.2.1];exact aD hk
 |.sto k xs kl r,a,l,g,C,n,h,e,t,s,x,b,hk,he,hM,hN,ho,hx,hg,hgi=>by unfold fP.opsB at hk;exact aD hk
 |.ifn d c w bd x' kl r,a,l,g,C,n,h,e,t,s,x,b,hk,he,hM,hN,ho,hx,hg,hgi=>by unfold fP.opsB at hk;exact aD hk
 |.mkfl d ty zero xs kl r,a,l,g,C,n,h,e,t,s,x,b,hk,he,hM,hN,ho,hx,hg,hgi=>by unfold fP.opsB at hk;exact aD hk
 |.lax d es r,a,l,g,C,n,h,e,t,s,x,b,hk,he,hM,hN,ho,hx,hg,hgi=>by unfold fP.opsB at hk;exact aD hk
 |.own d ty es g' r,a,l,g,C,n,h,e,t,s,x,b,hk,he,hM,hN,ho,hx,hg,hgi=>by unfold fP.opsB at hk;exact aD hk
 |.ownc d j ty es g' r,a,l,g,C,n,h,e,t,s,x,b,hk,he,hM,hN,ho,hx,hg,hgi=>by unfold fP.opsB at hk;exact aD hk
 |.laxc d j es r,a,l,g,C,n,h,e,t,s,x,b,hk,he,hM,hN,ho,hx,hg,hgi=>by unfold fP.opsB at hk;exact aD hk
end
end Go.P
namespace Go.P
open Go.Sim (AV AO Hp iJ upd St IC IX Ex hZ CK Wf Out doOp lI exec Foot wanted put)
def pN (C:Cx) (p:Nat->Bool):Cx:=⟨fun k=>if p k then C k else none,C.z,C.w⟩
def yH {C:Cx} {p:Nat->Bool} {x:PV} {y:AV} (h:RV C x y):∀{d:Nat},oI p d x=true->RV (pN C p) x y:=by
 have lt:∀{k:Nat} {pl:Pl},C k=some pl->p k=true->pN C p k=some pl:=fun h1 h2=>by simp[pN,h2,h1]
 induction h with
 |cl h=>intro d hb;exact .cl h
 |undef=>intro d hb;exact .undef
 |ref h=>intro d hb;cases d with
  |zero=>cases hb
  |succ d=>exact .ref (lt h hb)
 |own h=>intro d hb;cases d with
  |zero=>cases hb
  |succ d=>exact .own (lt h hb)
 |ownn h hy=>intro d hb;cases d with
  |zero=>cases hb
  |succ d=>exact .ownn (lt h hb) hy
 |el h=>intro d hb;cases d with
  |zero=>cases hb
  |succ d=>exact .el (lt h hb)
 |map h=>intro d hb;cases d with
  |zero=>cases hb
  |succ d=>exact .map (lt h hb)
 |yld h=>intro d hb;cases d with
  |zero=>cases hb
  |succ d=>exact .yld (lt h hb)
 |fn h1 h2 v1 v2 i1 i2=>intro d hb;cases d with
  |zero=>cases hb
  |succ d=>
   simp only[oI,bF3]at hb;exact .fn h1 h2 (fun j x y a hy=>i1 j x y a hy (bJ3.1 hb.1 x (bO3 a))) (fun j x y a hy=>i2 j x y a hy (bJ3.1 hb.2 x (bO3 a)))
 |agg hl hc ih=>intro d hb;cases d with
  |zero=>cases hb
  |succ d=>exact .agg hl (fun j x y a hy=>ih j x y a hy (bJ3.1 hb x (bO3 a)))
 |tup hl hc ih=>intro d hb;cases d with
  |zero=>cases hb
  |succ d=>exact .tup hl (fun j x y a hy=>ih j x y a hy (bJ3.1 hb x (bO3 a)))
 |zs h=>intro d hb;exact .zs h
 |zm h he=>intro d hb;exact .zm h he
 |zm0=>intro d hb;exact .zm0
def Cr:∀(h:aS) (k:Nat),lK h k=(aK h k).isSome
 |[],k=>rfl
 |(j,o)::r,k=>by
  simp only[lK,aK,bO]
  by_cases e:j=k<;>simp[e,Cr r k]
section
variable {R:Type}
def uY:∀{h:aS} {c:aA Nat} {K:aS->aS->aB R} {r:R},Ow h c K=some r->∃a b,K a b=some r/\∀k,aK a k=(if wD k c then aK h k else none)/\aK b k=(if wD k c then none else aK h k)
 |[],c,K,r,hk=>⟨[],[],hk,fun k=>by simp[aK]⟩
 |(j,o)::t,c,K,r,hk=>by
  unfold Ow at hk
  obtain⟨a,b,h1,h2⟩:=uY hk
  cases hm:wD j c with
  |true=>
   rw[hm,bS3]at h1
   refine⟨_,_,h1,fun k=>?_⟩
   simp only[aK]
   by_cases e:j=k
   grind
   grind
  |false=>
   rw[hm,cB3]at h1
   refine⟨_,_,h1,fun k=>?_⟩
   simp only[aK]
   by_cases e:j=k
   grind
   grind
def Ah:∀{a b:aS} {K:aS->aB R} {r:R},Bo a b K=some r->∃c,K c=some r/\∀k,aK c k=(aK a k).or (aK b k)
 |[],b,K,r,hk=>⟨b,hk,fun k=>by simp[aK]⟩
 |(j,o)::t,b,K,r,hk=>by
  unfold Bo at hk
  obtain⟨c,h1,h2⟩:=Ah hk
  refine⟨_,h1,fun k=>?_⟩
  simp only[aK]
  by_cases e:j=k
  simp[e]
  grind
def Jk:∀(a:aS) (K:aS->aB R),Bo a [] K=K a
 |[],K=>rfl
 |(j,o)::t,K=>by unfold Bo;rw[Jk t]
def jE {f:PV->aA Nat->(aA Nat->aB R)->aB R} (hf:∀x a K r,f x a K=some r->∃a',K a'=some r):∀(xs:aA PV) (a:aA Nat) (K:aA Nat->aB R) (r:R),sX f xs a K=some r->∃a',K a'=some r
 |[],a,K,r,h=>⟨a,h⟩
 |x::xs,a,K,r,h=>by
  unfold sX at h
  obtain⟨a',h⟩:=hf x a _ r h
  exact jE hf xs a' K r h
def wM {f:PV->aA Nat->(aA Nat->aB R)->aB R} (hf:∀x a K r,f x a K=some r->∃a',K a'=some r):∀(xs:gG) (a:aA Nat) (K:aA Nat->aB R) (r:R),Ov f xs a K=some r->∃a',K a'=some r
 |[],a,K,r,h=>⟨a,h⟩
 |(_,x)::xs,a,K,r,h=>by
  unfold Ov at h
  obtain⟨a',h⟩:=hf x a _ r h
  exact wM hf xs a' K r h
def jM:∀(d:Nat) (x:PV) (a:aA Nat) (K:aA Nat->aB R) (r:R),mR d x a K=some r->∃a',K a'=some r
 |0,x,a,K,r,h=>by unfold mR at h;exact aD h
 |d+1,x,a,K,r,h=>by
  have ih:=jM d
  unfold mR at h
  cases x with
  |ref k o=>exact⟨_,h⟩
  |own k=>exact⟨_,h⟩
  |el k i o=>exact⟨_,h⟩
  |map k=>exact⟨_,h⟩
  |yld k=>exact⟨_,h⟩
  |fn f p q=>
   obtain⟨a',h⟩:=jE ih p a _ r h
   exact jE ih q a' K r h
  |agg cs=>exact jE ih cs a K r h
  |tup cs=>exact jE ih cs a K r h
  |_=>exact⟨_,h⟩
def gU {h:aS}:∀(n:Nat) (b a:aA Nat) (K:aA Nat->aB R) (r:R),nH h n b a K=some r->∃a',K a'=some r
 |0,b,a,K,r,hk=>by unfold nH at hk;exact aD hk
 |n+1,[],a,K,r,hk=>by unfold nH at hk;exact⟨a,hk⟩
 |n+1,k::b,a,K,r,hk=>by
  unfold nH at hk
  cases hm:wD k a with
  |true=>rw[hm,bS3]at hk;exact gU n b a K r hk
  |false=>
   rw[hm,cB3,iN,bD3]at hk
   obtain⟨ob,_,hk⟩:=hk
   cases ob with
   |box cs=>
    obtain⟨c,hk⟩:=jE (jM 4) cs b _ r hk
    exact gU n c _ K r hk
   |fl cs=>
    obtain⟨c,hk⟩:=jE (jM 4) cs b _ r hk
    exact gU n c _ K r hk
   |loop N e ps x y busy fin=>
    obtain⟨c,hk⟩:=wM (jM 4) e b _ r hk
    exact gU n c _ K r hk
   |lst ty e g rows=>exact gU n b _ K r hk
   |lz ty e dp rows=>exact gU n b _ K r hk
   |mp es=>exact gU n b _ K r hk
   |tr t rows hs=>
    obtain⟨c,hk⟩:=jE (jM 4) _ b _ r hk
    exact gU n c _ K r hk
def Dif (hs:aS) (C C':Cx):Prop:=(∀k,C' k=C k\/∃o,(k,o)∈hs/\iE o=false)/\(∀id o,C.z id=some o->C'.z id=some o)/\C'.w=C.w
def wN:∀{hs:aS} {e:gG} {h:aS} {K:gG->aS->aB R} {r:R},qO hs e h K=some r->∃e' h',K e' h'=some r/\
  (∀i w,gD e' i=some w->∃v,gD e i=some v/\∀{C C':Cx} {y:AV},Dif hs C C'->RV C v y->RV C' w y)/\
  (∀j,aK h' j=none↔aK h j=none)/\∀j o',aK h' j=some o'->∃o,aK h j=some o/\iE o'=iE o/\
   ∀{C C':Cx} {L:Nat->aB AO} {lim nS:Nat} {pl:Pl},Dif hs C C'->gX C L lim nS o pl->gX C' L lim nS o' pl
 |[],e,h,K,r,hk=>by
  refine⟨e,h,hk,fun i w hw=>⟨w,hw,fun{C C' y} hd hv=>?_⟩,fun j=>Iff.rfl,fun j o f=>⟨o,f,rfl,fun{C C' L lim nS pl} hd m=>?_⟩⟩
  have:∀k,C' k=C k:=fun k=>(hd.1 k).elim id (fun⟨_,h1,_⟩=>by simp at h1)
  exact hv.mono ⟨fun k pl h=>(this k).trans h,hd.2.1⟩
  have:∀k,C' k=C k:=fun k=>(hd.1 k).elim id (fun⟨_,h1,_⟩=>by simp at h1)
  exact m.mono (bI3 _) ⟨fun k pl h=>(this k).trans h,hd.2.1⟩ (fun _ _ _ _ _=>rfl) (fun o sl h=>⟨by rw[hd.2.2];exact h,rfl⟩)
 |(k,o)::t,e,h,K,r,hk=>by
  have other:iE o=true->qO t e h K=some r->∃e' h',K e' h'=some r/\
    (∀i w,gD e' i=some w->∃v,gD e i=some v/\∀{C C':Cx} {y:AV},Dif ((k,o)::t) C C'->RV C v y->RV C' w y)/\
    (∀j,aK h' j=none↔aK h j=none)/\∀j o',aK h' j=some o'->∃o1,aK h j=some o1/\iE o'=iE o1/\
     ∀{C C':Cx} {L:Nat->aB AO} {lim nS:Nat} {pl:Pl},Dif ((k,o)::t) C C'->gX C L lim nS o1 pl->gX C' L lim nS o' pl:=by
   intro p hk;obtain⟨e',h',q1,q2,q3,q4⟩:=wN hk
   have hd:∀{C C':Cx},Dif ((k,o)::t) C C'->Dif t C C':=fun{C C'} hd=>⟨fun j=>by
    rcases hd.1 j with h1|⟨o1,h1,hx⟩
    exact .inl h1;rcases bR3.1 h1 with h2|h2;cases h2;rw[p]at hx;cases hx;exact .inr ⟨_,h2,hx⟩,hd.2⟩
   refine⟨e',h',q1,fun i w hw=>?_,q3,fun j o' f=>?_⟩;obtain⟨v,p1,p2⟩:=q2 i w hw;exact⟨v,p1,fun d hv=>p2 (hd d) hv⟩;obtain⟨o1,p1,p2,p3⟩:=q4 j o' f;exact⟨o1,p1,p2,fun d m=>p3 (hd d) m⟩
  have c:iE o=false->(pH k e fun e=>lU k h fun h=>qO t e h K)=some r->∃e' h',K e' h'=some r/\
    (∀i w,gD e' i=some w->∃v,gD e i=some v/\∀{C C':Cx} {y:AV},Dif ((k,o)::t) C C'->RV C v y->RV C' w y)/\
    (∀j,aK h' j=none↔aK h j=none)/\∀j o',aK h' j=some o'->∃o1,aK h j=some o1/\iE o'=iE o1/\
     ∀{C C':Cx} {L:Nat->aB AO} {lim nS:Nat} {pl:Pl},Dif ((k,o)::t) C C'->gX C L lim nS o1 pl->gX C' L lim nS o' pl:=by
   intro hb hk;obtain⟨e2,hk,n⟩:=lL _ _ _ hk;obtain⟨h2,hk,l⟩:=mF _ _ _ hk;obtain⟨e',h',q1,q2,q3,q4⟩:=wN hk
   have mid:∀{C C':Cx},Dif ((k,o)::t) C C'->mW k C ⟨fun j=>if j=k then C' j else C j,C'.z,C.w⟩/\Dif t ⟨fun j=>if j=k then C' j else C j,C'.z,C.w⟩ C':=fun{C C'} hd=>by
    refine⟨⟨fun j f=>bM3 f,hd.2.1⟩,⟨fun j=>?_,fun _ _ h=>h,hd.2.2⟩⟩;by_cases e:j=k;exact .inl (by simp[e]);rcases hd.1 j with h1|⟨o1,h1,hx⟩
    exact .inl (by simp[e,h1]);rcases bR3.1 h1 with h2|h2;cases h2;exact absurd rfl e;exact .inr ⟨_,h2,hx⟩
   refine⟨e',h',q1,fun i w hw=>?_,fun j=>(q3 j).trans (l.1 j),fun j o' f=>?_⟩;obtain⟨v,p1,p2⟩:=q2 i w hw;obtain⟨q,w1,w2⟩:=n i v p1;exact⟨q,w1,fun d hv=>p2 (mid d).2 (w2 (mid d).1 hv)⟩;obtain⟨o1,p1,p2,p3⟩:=q4 j o' f;obtain⟨o0,w1,w2,w3⟩:=l.2 j o1 p1;exact⟨o0,w1,p2.trans w2,fun d m=>p3 (mid d).2 (w3 (mid d).1 rfl m)⟩
  unfold qO at hk;cases o with
  |box cs=>exact other rfl hk
  |mp es=>exact other rfl hk
  |fl fs=>exact other rfl hk
  |loop N e ps a b busy fin=>exact other rfl hk
  |lz ty e1 dp rows=>exact c rfl hk
  |tr t rows hs=>exact c rfl hk
  |lst ty e1 g rows=>
   cases hfx:iQ ty with
   |true=>
    simp only[hfx,bS3]at hk;exact other hfx hk
   |false=>
    simp only[hfx,cB3]at hk;exact c hfx hk
end
end Go.P
namespace Go.P
open Go.Sim (AV AO Hp iJ upd St IC IX Ex hZ CK Wf Out doOp lI exec Foot wanted put)
section
variable {R:Type} {C:Cx} {n:Nat} {h:aS} {lim:Nat} {s:Hp}
def Gf:∀{e:gG} {i:Nat} {v:PV},gD e i=some v->(i,v)∈e
 |[],i,v,h=>by simp[gD]at h
 |(j,w)::r,i,v,h=>by
  simp only[gD]at h
  split at h
  grind
  exact cY3 _ (Gf h)
def Pq:∀{h:aS} {i:Nat} {v:dX},aK h i=some v->(i,v)∈h
 |[],i,v,h=>by simp[aK]at h
 |(j,w)::r,i,v,h=>by
  simp only[aK]at h
  split at h
  grind
  exact cY3 _ (Pq h)
def Lk {p:Nat->Bool} {xs:aA PV} {ys:aA AV} {d:Nat} (h:LR (RV C) xs ys) (hp:xs.all (oI p d)=true):LR (RV (pN C p)) xs ys:=
 ⟨h.1,fun j x y a b=>yH (h.2 j x y a b) (bJ3.1 hp x (bO3 a))⟩
def aA2:dX->Bool
 |.tr .. =>true
 |_=>false
def Gg:∀{h:aS},sY h=true->∀{k:Nat} {o:dX},aK h k=some o->aA2 o=false
 |[],_,k,o,h=>by simp[aK]at h
 |(j,o')::r,hn,k,o,h=>by
  simp only[aK]at h
  cases o' with
  |tr a b c=>cases hn
  |_=>
   split at h
   cases h;rfl
   exact Gg (h:=r) hn h
def gX.monoN {C C':Cx} {L L':Nat->aB AO} {nS k:Nat} {po:dX} {pl:Pl} (hn:nS<=k) (p:C.le C') (r:∀id ver e len,pl=.atp id ver e len->L' id=L id) (s:aA2 po=false) (c:gX C L lim nS po pl):gX C' L' lim k po pl:=by
 have h1:gX ⟨C.f,C.z,fun _=>none⟩ L lim nS po pl:=by
  have n:∀{x y},RV C x y->RV ⟨C.f,C.z,fun _=>none⟩ x y:=fun h=>RV.mono (C:=C) (C':=⟨C.f,C.z,fun _=>none⟩) ⟨fun _ _ h=>h,fun _ _ h=>h⟩ h;cases po with
  |tr t rows hs=>cases s
  |box cells=>
   cases pl with
   |nil=>exact c
   |atp id ver e len=>
    obtain⟨h1,h2,ty,esz,row,d,j⟩:=c;exact⟨h1,h2,ty,esz,row,d,j.mono fun x y h=>n h⟩
  |lst ty e g rows=>cases pl<;>exact c
  |lz ty e dp rows=>cases pl<;>exact c
  |mp es=>cases pl<;>exact c
  |fl fs=>
   cases pl with
   |nil=>exact c
   |atp id ver e len=>
    obtain⟨h1,h2,d,j,ty,els,l,m,q⟩:=c;exact⟨h1,h2,d,j,ty,els,l,m,fun i f row a b=>(q i f row a b).mono fun x y h=>n h⟩
  |loop N e ps a b busy fin=>
   cases pl with
   |nil=>exact c
   |atp id ver e' len=>
    obtain⟨h1,h2,st,pend,tmps,d,j,l,m⟩:=c;exact⟨h1,h2,st,pend,tmps,d,j,fun i v hv=>(l i v hv).imp fun y hy=>⟨hy.1,n hy.2⟩,m⟩
 exact gX.mono (C:=⟨C.f,C.z,fun _=>none⟩) (C':=C') hn ⟨p.1,p.2⟩ r (fun o sl h=>by cases h) h1
def eS1 {p:Nat->Bool} {L:Nat->aB AO} {nS:Nat} {o:dX} {pl:Pl} (n:La p o=true) (h:gX C L lim nS o pl):gX (pN C p) L lim nS o pl:=by
 cases o with
 |box cs=>
  cases pl with
  |nil=>exact h
  |atp id ver e len=>
   obtain⟨h1,h2,ty,esz,row,c,k⟩:=h;exact⟨h1,h2,ty,esz,row,c,Lk k n⟩
 |lst ty e g rows=>cases pl<;>exact h
 |tr t rows hs=>
  obtain⟨ty,e,ks⟩:=t;cases pl with
  |nil=>exact h
  |atp id ver e' len=>
   obtain⟨h1,h2,c,k,l,els,d,m,q,s⟩:=h;refine⟨h1,h2,c,k,l,els,d,m,q,fun i r r' a b=>⟨(s i r r' a b).1,fun j x y c1 c2=>?_⟩⟩;have:=(s i r r' a b).2 j x y c1 c2;unfold TC at this ⊢;cases hk:iH ks j with
   |none=>rw[hk]at this;exact this
   |some t=>
    rw[hk]at this;simp only at this ⊢;rcases this with⟨h1,h2⟩|h;exact .inl ⟨h1,fun x u=>yH (h2 x u) (bJ3.1 n _ u)⟩;exact .inr h
 |lz ty e dp rows=>cases pl<;>exact h
 |mp es=>cases pl<;>exact h
 |fl fs=>
  cases pl with
  |nil=>exact h
  |atp id ver e len=>
   obtain⟨h1,h2,c,k,ty,els,l,m,q⟩:=h;refine⟨h1,h2,c,k,ty,els,l,m,fun i f row a b=>Lk (d:=4) (q i f row a b) ?_⟩;have:=bJ3.1 n f (bO3 a);simp[this]
 |loop N e ps a b busy fin=>
  cases pl with
  |nil=>exact h
  |atp id ver e' len=>
   obtain⟨h1,h2,st,pend,tmps,c,k,l,m⟩:=h;refine⟨h1,h2,st,pend,tmps,c,k,fun i v hv=>?_,m⟩;obtain⟨y,w,z⟩:=l i v hv;exact⟨y,w,yH z (bJ3.1 n _ (Gf hv))⟩
def yI {p:Nat->Bool}:∀{h:aS},mS p h=true->∀{k:Nat} {o:dX},aK h k=some o->La p o=true
 |[],_,k,o,h=>by simp[aK]at h
 |(j,o')::r,hp,k,o,h=>by
  simp only[mS,bF3]at hp
  simp only[aK]at h
  split at h
  cases h;exact hp.1
  exact yI hp.2 h
def Gi:∀{h:aS} {k:Nat},aK h k≠none->k∈tW h
 |[],k,h=>by simp[aK]at h
 |(j,o)::r,k,h=>by
  simp only[aK]at h
  simp only[tW,bR3]
  split at h
  omega
  exact .inr (Gi h)
def Jl {a:aS}:∀{ks:aA Nat},Yw a ks=true->∀k∈ks,aK a k≠none
 |[],_,k,hk=>by simp at hk
 |j::r,h,k,hk=>by
  unfold Yw at h
  cases hh:lK a j with
  |false=>rw[hh]at h;cases h
  |true=>
   rw[hh,bS3]at h
   rcases bR3.1 hk with rfl|hk
   rw[Cr]at hh
   cases hg:aK a k with
   |none=>rw[hg]at hh;cases hh
   |some o=>simp
   exact Jl h k hk
def Ai {hs:aS}:∀{a:aS},Yv hs n a=true->∀{k:Nat},aK a k≠none->aK hs k≠none\/n<=k
 |[],_,k,hk=>by simp[aK]at hk
 |(j,o)::r,h,k,hk=>by
  unfold Yv at h
  cases b:(lK hs j||Nat.ble n j)with
  |false=>rw[b]at h;cases h
  |true=>
   rw[b,bS3]at h
   simp only[aK]at hk
   split at hk
   rename_i e
   subst e
   simp only[bZ3,Cr,Nat.ble_eq]at b
   rcases b with b|b
   grind
   exact .inr b
   exact Ai h hk
def nX {h:aS} {k:Nat}:lK h k=true↔aK h k≠none:=by
 rw[Cr];cases aK h k<;>simp
def dI.part {hs:aS} (f:dI C n h lim s) (g:∀k o,aK hs k=some o->aK h k=some o) (m:mS (lK hs) hs=true):dI (pN C (lK hs)) n hs lim s:=by
 have j:∀k,aK hs k≠none->aK h k≠none:=fun k hk=>by
  cases hc:aK hs k with
  |none=>exact absurd hc hk
  |some o=>rw[g k o hc];simp
 have i:∀k pl,pN C (lK hs) k=some pl->C k=some pl:=fun k pl hk=>by
  simp only[pN]at hk;split at hk;exact hk;cases hk
 refine⟨⟨fun k o hk=>?_,fun k k' id v e l v' e' l' a b c d=>f.hr.inj k k' id v e l v' e' l' (j k a) (j k' b) (i _ _ c) (i _ _ d),fun id o p=>?_,fun k id v e l a b=>f.hr.wn k id v e l (j k a) (i _ _ b),f.hr.wb,f.hr.wz⟩,fun k pl hk=>f.dom k pl (i k pl hk),f.wf,f.lim⟩;obtain⟨pl,h1,h2⟩:=f.hr.ob k o (g k o hk);refine⟨pl,?_,eS1 (yI m hk) h2⟩;simp only[pN];rw[bK3 (nX.2 (by rw[hk];simp))];exact h1;obtain⟨z1,z2,z3,z4⟩:=f.hr.zr id o p;exact⟨z1,z2,fun k v e l a b=>z3 k v e l (j k a) (i _ _ b),z4⟩
def dI.now {hs:aS} (a:dI C n hs lim s) (hn:sY hs=true):dI ⟨C.f,C.z,fun _=>none⟩ n hs lim s:=
 ⟨⟨fun k o hk=>by
  obtain⟨pl,h1,h2⟩:=a.hr.ob k o hk
  exact⟨pl,h1,gX.monoN (C:=C) (C':=⟨C.f,C.z,fun _=>none⟩) (bI3 _) ⟨fun _ _ h=>h,fun _ _ h=>h⟩ (fun _ _ _ _ _=>rfl) (Gg hn hk) h2⟩,a.hr.inj,a.hr.zr,fun _ _ _ _ _ _ _=>rfl,fun _ _ h=>(by cases h),fun _ _ _=>rfl⟩,a.dom,a.wf,a.lim⟩
def Aj {hs:aS}:∀{a:aS},Yx hs a=true->∀{k:Nat},aK a k≠none->aK hs k≠none
 |[],_,k,hk=>by simp[aK]at hk
 |(j,o)::r,h,k,hk=>by
  unfold Yx at h
  cases hh:lK hs j with
  |false=>rw[hh]at h;cases h
  |true=>
   rw[hh,bS3]at h
   simp only[aK]at hk
   split at hk
   rename_i e;subst e;exact nX.1 hh
   exact Aj h hk
def Ll:∀(h:aS) (m:Nat),m<=bnd h m
 |[],m=>bI3 _
 |(k,o)::r,m=>by
  unfold bnd
  cases hb:Nat.blt k m with
  |true=>rw[bS3];exact Ll r m
  |false=>
   rw[cB3]
   have:=Ll r (k+1)
   have h2:¬k<m:=fun a=>by rw[<-dP3,hb]at a;cases a
   omega
def Gj:∀(h:aS) (m k:Nat),aK h k≠none->k<bnd h m
 |[],m,k,hk=>by simp[aK]at hk
 |(j,o)::r,m,k,hk=>by
  simp only[aK]at hk
  unfold bnd
  cases hb:Nat.blt j m with
  |true=>
   rw[bS3]
   split at hk
   rename_i e
   rw[dP3]at hb
   have:=Ll r m
   omega
   exact Gj r m k hk
  |false=>
   rw[cB3]
   split at hk
   have:=Ll r (j+1);omega
   exact Gj r (j+1) k hk
def Lm {P:AV->Hp->Prop} {run:aS->Nat->(PV->aS->Nat->aB (PV×aS×Nat))->aB (PV×aS×Nat)} {xs:aA PV} {ys:aA AV} {e:gG} {t:aA AV} {kill:aA Nat} {nw:Bool} {K:PV->gG->aS->Nat->aB R} {r:R}
  (B:dI C n h lim s) (he:fF C e t) (hx:LR (RV C) xs ys)
  (d9:∀(hs:aS) (C0:Cx) (m:Nat) (K':PV->aS->Nat->aB (PV×aS×Nat)) (r':PV×aS×Nat),dI C0 m hs lim s->LR (RV C0) xs ys->run hs m K'=some r'->
   ∃v h' n' C' y s',K' v h' n'=some r'/\RV C' v y/\dI C' n' h' lim s'/\m<=n'/\Fr C0 hs s C' h' s'/\P y s')
  (hk:inK run nw xs e h n kill K=some r):
  ∃v e' h' n' C' y s',K v e' h' n'=some r/\RV C' v y/\(∀i w,gD e' i=some w->∃z,t[i]? =some z/\RV C' w z/\i∉kill)/\dI C' n' h' lim s'/\n<=n'/\Fr C h s C' h' s'/\P y s':=by
 unfold inK at hk;obtain⟨f6,hk⟩:=jE (jM 5) _ _ _ _ hk;obtain⟨ns,hk⟩:=gU _ _ _ _ _ hk;obtain⟨hs,p,hk,E⟩:=uY hk;cases hch:(xs.all (oI (lK hs) 5)&&(mS (lK hs) hs&&(sY hs||sY p)))with
 |false=>rw[hch]at hk;exact aD hk
 |true=>
 rw[hch,bS3,cE,bD3]at hk;obtain⟨r',hq,hk⟩:=hk;simp only[bF3]at hch
 have T:∀k o,aK hs k=some o->aK h k=some o:=fun k o g=>by
  rw[(E k).1]at g;split at g;exact g;cases g
 have e0:∀{k},aK hs k≠none->k<n:=fun{k} hk=>by
  cases hc:aK hs k with
  |none=>exact absurd hc hk
  |some o=>obtain⟨pl,p1,_⟩:=B.hr.ob k o (T k o hc);exact B.dom k pl p1
 obtain⟨d3,G,f1⟩:=hch;have d0:=B.part T G;let W:Nat->aB (Nat×Nat×Nat):=if sY hs=true then fun _=>none else C.w
 let C0:Cx:=⟨(pN C (lK hs)).f,C.z,W⟩
 have d2:∀o,W o≠none->C.w o≠none:=fun o h=>by
  by_cases hn:sY hs=true;exact absurd (by simp only[W,bK3 hn]) h;have e:W o=C.w o:=by simp only[W,bM3 hn]
  rw[<-e];exact h
 have S:dI C0 n hs lim s:=by
  by_cases hn:sY hs=true;have e:C0=⟨(pN C (lK hs)).f,(pN C (lK hs)).z,fun _=>none⟩:=by simp only[C0,W,bK3 hn];rfl
  rw[e];exact d0.now hn;have e:C0=pN C (lK hs):=by simp only[C0,W,bM3 hn];rfl
  rw[e];exact d0
 have e4:dI C0 (bif nw then n else bnd hs 0) hs lim s:=⟨S.hr,(fun k pl D=>by
  cases nw with
  |true=>exact S.dom k pl D
  |false=>
   simp only[C0,pN]at D;split at D;rename_i Y;exact Gj hs 0 k (nX.1 Y);cases D),S.wf,S.lim⟩
 obtain⟨v,h',n',C',y,s',w1,w2,w3,w4,w5,w6⟩:=d9 hs _ _ _ r' e4 ((Lk hx d3).mono fun x y h=>RV.mono (C:=pN C (lK hs)) (C':=C0) ⟨fun _ _ h=>h,fun _ _ h=>h⟩ h) hq;unfold Lb at w1;obtain⟨f5,w1⟩:=jE (jM 5) _ _ _ _ w1;obtain⟨f7,w1⟩:=gU _ _ _ _ _ w1;obtain⟨h2,_,w1,b0⟩:=uY w1;cases G:(Yw h2 (tW hs)&&(bif nw then Yv hs (bif nw then n else bnd hs 0) h2 else Yx hs h2)&&(oI (lK h2) 5 v&&mS (lK h2) h2))with
 |false=>rw[G]at w1;exact aD w1
 |true=>
 rw[G,bS3]at w1;cases w1;simp only[bF3]at G;obtain⟨⟨c1,c2⟩,c3,c4⟩:=G;have e6:∀{k},aK hs k≠none->aK h2 k≠none:=fun{k} hk=>Jl c1 k (Gi hk)
 have b6:∀{k},aK h2 k≠none->aK hs k≠none\/n<=k:=fun{k} Z=>by
  cases nw with
  |true=>exact Ai c2 Z
  |false=>exact .inl (Aj c2 Z)
 have J:∀k o,aK h2 k=some o->aK h' k=some o:=fun k o g=>by
  rw[(b0 k).1]at g;split at g;exact g;cases g
 have e5:=w3.part J c4;rw[Pa]at hk;simp only[Jk,gO]at hk;obtain⟨e',U,hk,k1,k2,k3⟩:=wN hk;obtain⟨hc,hk,k4⟩:=Ah hk
 let j:Nat->aB (Nat×Nat×Nat):=fun o=>match C'.w o with
  |some x=>some x
  |none=>if sY hs=true then C.w o else none
 let C3:Cx:=⟨fun k=>if lK h2 k then C' k else C k,C'.z,j⟩
 let C1:Cx:=⟨fun k=>if k<n then C3 k else none,C'.z,j⟩
 have c3in:∀{k},aK h2 k≠none->C3 k=C' k:=fun{k} hk=>bK3 (nX.2 hk);have c3out:∀{k},aK h2 k=none->C3 k=C k:=fun{k} hk=>bM3 (fun Y=>nX.1 Y hk)
 have Z:∀{k},aK h k≠none->k<n:=fun{k} hk=>by
  cases hc:aK h k with
  |none=>exact absurd hc hk
  |some o=>obtain⟨pl,p1,_⟩:=B.hr.ob k o hc;exact B.dom k pl p1
 have f0:∀{k},aK hs k≠none->aK h k≠none:=fun{k} hk=>by
  cases hc:aK hs k with
  |none=>exact absurd hc hk
  |some o=>rw[T k o hc];simp
 have rs:∀{k},aK hs k≠none->C0 k=C k:=fun{k} hk=>by simp only[C0,pN];rw[bK3 (nX.2 hk)]
 have f4:∀{k pl},C0 k=some pl->C k=some pl:=fun{k pl} hk=>by
  simp only[C0,pN]at hk;split at hk;exact hk;cases hk
 have b7:∀{k pl},pN C' (lK h2) k=some pl->C3 k=some pl:=fun{k pl} hk=>by
  simp only[pN]at hk;split at hk;rename_i Y;rw[c3in (nX.1 Y)];exact hk;cases hk
 have b9:Dif h2 ⟨C.f,C.z,j⟩ C1:=⟨fun k=>(by
  by_cases d6:k<n;show C1 k=C k\/_
  have e1:C1 k=C3 k:=bK3 d6;rw[e1];by_cases u:aK h2 k=none;exact .inl (c3out u);rw[c3in u];rcases b6 u with hq|hq;cases hc2:aK hs k with
  |none=>exact absurd hc2 hq
  |some o=>
   obtain⟨o',q1,q2⟩:=w5.kd k o hc2
   have q3:aK h2 k=some o':=by
    cases hc3:aK h2 k with
    |none=>exact absurd hc3 u
    |some o2=>rw[J k o2 hc3]at q1;exact q1
   cases hb:iE o' with
   |true=>left;rw[(q2 hb).2,rs hq]
   |false=>
    right;exact⟨o',Pq q3,hb⟩
  omega;left;show C1 k=C k
  have:C1 k=none:=bM3 d6;rw[this,dM1 B (by omega)]),w5.zl,rfl⟩
 have c13:C1.le C3:=⟨fun k pl hk=>(by
  simp only[C1]at hk;split at hk;exact hk;cases hk),fun _ _ h=>h⟩
 have X:∀{k o'},aK U k=some o'->∃o,aK h k=some o/\aK hs k=none/\aK h2 k=none/\iE o'=iE o/\aK p k=some o/\∀{L:Nat->aB AO} {lim nS:Nat} {pl:Pl},gX ⟨C.f,C.z,j⟩ L lim nS o pl->gX C1 L lim nS o' pl:=fun{k o'} g=>by
  obtain⟨o,q1,q2,q3⟩:=k3 k o' g;have q0:=q1;rw[(E k).2]at q1;split at q1;cases q1;rename_i hm;have h1:aK hs k=none:=by rw[(E k).1,bM3 hm]
  refine⟨o,q1,h1,?_,q2,q0,fun e9=>q3 b9 e9⟩;cases hc2:aK h2 k with
  |none=>rfl
  |some o2=>
   rcases b6 (k:=k) (by rw[hc2];simp)with q|q;exact absurd h1 q;have:=Z (k:=k) (by rw[q1];simp);omega
 have V:∀{k},aK hc k≠none->aK h2 k≠none\/(aK h2 k=none/\aK U k≠none):=fun{k} hk=>by
  rw[k4 k]at hk;cases hc2:aK h2 k with
  |none=>right;refine⟨rfl,?_⟩;rw[hc2]at hk;simpa using hk
  |some o=>left;simp
 have A:∀{k},aK U k≠none->aK h k≠none/\aK hs k=none/\aK h2 k=none:=fun{k} hk=>by
  cases hc2:aK U k with
  |none=>exact absurd hc2 hk
  |some o'=>obtain⟨o,q1,q2,q3,_⟩:=X hc2;exact⟨by rw[q1];simp,q2,q3⟩
 have M:∀{k},aK h2 k≠none->aK h' k≠none:=fun{k} hk=>by
  cases hc2:aK h2 k with
  |none=>exact absurd hc2 hk
  |some o=>rw[J k o hc2];simp
 have O:∀{id},Own C0 hs id->(∃k v e l,aK hs k≠none/\aK h k≠none/\C k=some (.atp id v e l))\/W id≠none:=fun{id} p=>by
  rcases p with⟨k,v,e,l,q1,q2⟩|p;exact .inl ⟨k,v,e,l,q1,f0 q1,f4 q2⟩;exact .inr p
 have wH:∀{id},Own C0 hs id->Own C h id:=fun{id} p=>by
  rcases O p with⟨k,v,e,l,q1,q2,q3⟩|p;exact .inl ⟨k,v,e,l,q2,q3⟩;exact .inr (d2 id p)
 have H:∀{k id v e l},aK h k≠none->aK hs k=none->C k=some (.atp id v e l)->¬Own C0 hs id:=fun{k id v e l} a b c p=>by
  rcases O p with⟨k',v',e',l',q1,q2,q3⟩|p;have:=B.hr.inj k k' id _ _ _ _ _ _ a q2 c q3;subst this;exact q1 b;exact d2 id p (B.hr.wn k id v e l a c)
 have b4:sY hs=true->∀id,Own C0 hs id->C.w id=none:=fun hn id p=>by
  rcases O p with⟨k',v',e',l',q1,q2,q3⟩|p;exact B.hr.wn k' id _ _ _ q2 q3;exact absurd (by simp only[W,bK3 hn]) p
 have f2:sY hs=true->∀id,C'.w id≠none->C.w id=none:=fun hn id h=>by
  cases hc:C.w id with
  |none=>rfl
  |some sl=>
   have hid:=(B.hr.wb id sl hc).1;rw[<-hc];exact b4 hn id (w5.own id hid (.inr h))
 have b5:∀{id sl},C'.w id=some sl->j id=some sl:=fun{id sl} h=>by simp only[j,h]
 have b8:sY hs=true->∀{id sl},C.w id=some sl->j id=some sl:=fun hn {id sl} h=>by
  cases hc:C'.w id with
  |none=>simp only[j,hc,bK3 hn,h]
  |some x=>have:=f2 hn id (by rw[hc];simp);rw[this]at h;cases h
 have F:∀{id sl},j id=some sl->C'.w id=some sl\/(sY hs=true/\C.w id=some sl):=fun{id sl} h=>by
  cases hc:C'.w id with
  |some x=>simp only[j,hc]at h;exact .inl h
  |none=>
   simp only[j,hc]at h;by_cases hn:sY hs=true;rw[bK3 hn]at h;exact .inr ⟨hn,h⟩;rw[bM3 hn]at h;cases h
 have e3:∀{k k' id v e l v' e' l'},aK h2 k≠none->aK U k'≠none->C3 k=some (.atp id v e l)->C3 k'=some (.atp id v' e' l')->False:=fun{k k' id v e l v' e' l'} a b c d=>by
  obtain⟨b1,b2,b3⟩:=A b;rw[c3in a]at c;rw[c3out b3]at d;have hid:=(B.hr.lt b1 d).2;exact H b1 b2 d (w5.own id hid (.inl ⟨k,v,e,l,M a,c⟩))
 refine⟨v,e',hc,_,C3,y,s',hk,(yH w2 c3).mono ⟨fun _ _ Y=>b7 Y,fun _ _ h=>h⟩,fun i w hw=>?_,⟨⟨fun k o g=>?_,fun k k' id v e l v' e' l' a b c d=>?_,fun id o hz=>?_,fun k id v e l a b=>?_,fun id sl hw=>?_,fun id o hz=>?_⟩,fun k pl D=>?_,w3.wf,w3.lim⟩,?_,⟨w5.sk,w5.n,fun id hid hn=>w5.keep id hid (fun p=>hn (wH p)),fun id hid p=>?_,fun k o g=>?_,w5.zl,fun id hid hz=>?_⟩,w6⟩;obtain⟨v0,q1,q2⟩:=k1 i w hw;obtain⟨z,p1,p2,p3⟩:=he.edel kill i v0 q1;exact⟨z,p1,(q2 b9 (RV.mono (C:=C) (C':=⟨C.f,C.z,j⟩) ⟨fun _ _ h=>h,fun _ _ h=>h⟩ p2)).mono c13,p3⟩;rw[k4 k]at g;cases hc2:aK h2 k with
 |some o2=>
  rw[hc2]at g;cases g;obtain⟨pl,q1,q2⟩:=e5.hr.ob k _ hc2;exact⟨pl,b7 q1,q2.mono (bI3 _) ⟨fun _ _ Y=>b7 Y,fun _ _ h=>h⟩ (fun _ _ _ _ _=>rfl) (fun o sl h=>⟨b5 h,rfl⟩)⟩
 |none=>
  rw[hc2]at g;obtain⟨o0,q1,q2,q3,q4,q0,q5⟩:=X (by simpa using g);obtain⟨pl,p1,p2⟩:=B.hr.ob k o0 q1
  have d5:∀id ver e len,pl=.atp id ver e len->Sim.look s'.h id=Sim.look s.h id:=fun id v e l hp=>by
   subst hp;exact w5.keep id p2.lt.2 (H (by rw[q1];simp) q2 p1)
  have p3:gX ⟨C.f,C.z,j⟩ (Sim.look s'.h) lim s'.n o0 pl:=by
   by_cases hn:sY hs=true;exact gX.mono (C:=C) (C':=⟨C.f,C.z,j⟩) w5.n ⟨fun _ _ h=>h,fun _ _ h=>h⟩ d5 (fun o sl h=>⟨b8 hn h,w5.keep o (B.hr.wb o sl h).1 fun p=>by rw[b4 hn o p]at h;cases h⟩) p2;have e8:sY p=true:=by simpa[hn]using f1
   exact gX.monoN (C:=C) (C':=⟨C.f,C.z,j⟩) w5.n ⟨fun _ _ h=>h,fun _ _ h=>h⟩ d5 (Gg e8 q0) p2
  exact⟨pl,by rw[c3out hc2];exact p1,(q5 p3).mono (bI3 _) c13 (fun _ _ _ _ _=>rfl) (fun o sl h=>⟨h,rfl⟩)⟩
 rcases V a with a|⟨a1,a⟩<;>rcases V b with b|⟨b1,b⟩
 rw[c3in a]at c;rw[c3in b]at d;exact w3.hr.inj k k' id v e l v' e' l' (M a) (M b) c d;exact(e3 a b c d).elim;exact(e3 b a d c).elim;rw[c3out a1]at c;rw[c3out b1]at d;exact B.hr.inj k k' id v e l v' e' l' (A a).1 (A b).1 c d;obtain⟨z1,z2,z3,z4⟩:=w3.hr.zr id o hz;refine⟨z1,z2,fun k v e l a b=>?_,z4⟩;rcases V a with a|⟨a1,a⟩
 rw[c3in a]at b;exact z3 k v e l (M a) b;rw[c3out a1]at b;obtain⟨b1,b2,b3⟩:=A a;have hid:=(B.hr.lt b1 b).2;rcases w5.zn id hid (by rw[show C'.z id=some o from hz];simp)with N|N;cases hz1:C.z id with
 |none=>exact N hz1
 |some o1=>exact(B.hr.zr id o1 hz1).2.2.1 k v e l b1 b
 exact H b1 b2 b N;cases hw:j id with
 |none=>exact hw
 |some sl=>
  exfalso;rcases V a with a|⟨a1,a⟩
  rw[c3in a]at b;have hc:=w3.hr.wn k id v e l (M a) b;rcases F hw with h|⟨hn,h⟩
  rw[hc]at h;cases h;rw[b4 hn id (w5.own id (B.hr.wb id sl h).1 (.inl ⟨k,v,e,l,M a,b⟩))]at h;cases h;rw[c3out a1]at b;obtain⟨b1,b2,b3⟩:=A a;rcases F hw with h|⟨hn,h⟩
  exact H b1 b2 b (w5.own id (B.hr.lt b1 b).2 (.inr (by rw[h];simp)));rw[B.hr.wn k id v e l b1 b]at h;cases h
 rcases F hw with h|⟨hn,h⟩
 exact w3.hr.wb id sl h;have:=B.hr.wb id sl h;have:=w5.n;omega;cases hw:j id with
 |none=>exact hw
 |some sl=>
  exfalso;rcases F hw with h|⟨hn,h⟩
  rw[w3.hr.wz id o hz]at h;cases h;have hid:=(B.hr.wb id sl h).1;rcases w5.zn id hid (by rw[show C'.z id=some o from hz];simp)with N|N;cases hz1:C.z id with
  |none=>exact N hz1
  |some o1=>rw[B.hr.wz id o1 hz1]at h;cases h
  rw[b4 hn id N]at h;cases h
 cases nw with
 |true=>
  simp only[bS3]at w4 ⊢;by_cases u:aK h2 k=none;rw[c3out u]at D;have:=B.dom k pl D;omega;rw[c3in u]at D;exact w3.dom k pl D
 |false=>
  simp only[cB3];by_cases u:aK h2 k=none;rw[c3out u]at D;exact B.dom k pl D;exact e0 (Aj c2 u)
 cases nw with
 |true=>exact w4
 |false=>exact bI3 _
 rcases p with⟨k,v,e,l,q1,q2⟩|p;rcases V q1 with a|⟨a1,a⟩
 rw[c3in a]at q2;exact wH (w5.own id hid (.inl ⟨k,v,e,l,M a,q2⟩));rw[c3out a1]at q2;exact .inl ⟨k,v,e,l,(A a).1,q2⟩;cases hw:j id with
 |none=>exact absurd hw p
 |some sl=>
  rcases F hw with h|⟨hn,h⟩
  exact wH (w5.own id hid (.inr (by rw[h];simp)));exact .inr (by rw[h];simp)
 rw[k4 k];by_cases hm:aK hs k=none
 have d7:¬wD k ns=true:=fun e7=>by
  rw[(E k).1,bK3 e7,g]at hm;cases hm
 have d4:aK p k=some o:=by rw[(E k).2,bM3 d7];exact g
 cases hc2:aK U k with
 |none=>rw[(k2 k).1 hc2]at d4;cases d4
 |some o'=>
  obtain⟨o0,q1,q2,q3,q4,_,_⟩:=X hc2;rw[g]at q1;cases q1;exact⟨o',by rw[q3];rfl,fun hb=>⟨by rw[<-q4];exact hb,c3out q3⟩⟩
 cases hc2:aK hs k with
 |none=>exact absurd hc2 hm
 |some o0=>
  have d8:=T k o0 hc2;rw[g]at d8;cases d8;obtain⟨o',q1,q2⟩:=w5.kd k o hc2;have u:=e6 hm;cases hc3:aK h2 k with
  |none=>exact absurd hc3 u
  |some o2=>
   have:=J k o2 hc3;rw[q1]at this;cases this;exact⟨o',rfl,fun hb=>⟨(q2 hb).1,by rw[c3in u,(q2 hb).2,rs hm]⟩⟩
 rcases w5.zn id hid hz with h1|h1;exact .inl h1;exact .inr (wH h1)
def fxo:dX->dX
 |.lst ty e g rows=>.lst (ty+4294967296) e g rows
 |o=>o
def Jm:dX->Bool
 |.lst .. =>true
 |_=>false
def wD1 (ty:Nat):iQ (ty+4294967296)=true:=by
 unfold iQ;rw[Nat.ble_eq];omega
def lR1 {ty:Nat}:Hj (ty+4294967296)=ty:=by
 unfold Hj;rw[wD1,bS3];omega
def Gk {ty:Nat} (h:iQ ty=false):Hj ty=ty:=by
 unfold Hj;rw[h,cB3]
def lS1 {ty:Nat} (h:iQ ty=true):Hj ty=ty-4294967296:=by
 unfold Hj;rw[h,bS3]
def Wi {L:Nat->aB AO} {nS ty ty' e:Nat} {g:Bool} {rows:aA (aA PV)} {pl:Pl} (a:gX C L lim nS (.lst ty e g rows) pl) (b:Hj ty'=Hj ty):gX C L lim nS (.lst ty' e g rows) pl:=by
 cases pl with
 |nil=>exact a
 |atp id ver e' len=>
  obtain⟨a1,a2,a3,a4,els,a5,a6⟩:=a;exact⟨a1,a2,a3,a4,els,by rw[b];exact a5,a6⟩
def Gl:∀{h:aS} {K:aS->aB R} {r:R},Sy h K=some r->∃h1,K h1=some r/\∀k,aK h1 k=(aK h k).map fxo/\∀ty e g rows,aK h k=some (.lst ty e g rows)->iQ ty=false
 |[],K,r,hk=>⟨[],hk,fun k=>⟨rfl,fun _ _ _ _ h=>by simp[aK]at h⟩⟩
 |(j,o)::t,K,r,hk=>by
  unfold Sy at hk
  have other:Jm o=false->Sy t (fun r=>K ((j,o)::r))=some r->∃h1,K h1=some r/\∀k,aK h1 k=(aK ((j,o)::t) k).map fxo/\∀ty e g rows,aK ((j,o)::t) k=some (.lst ty e g rows)->iQ ty=false:=by
   intro hl hk;obtain⟨h1,q1,q2⟩:=Gl hk;refine⟨_,q1,fun k=>?_⟩;by_cases e:j=k;simp only[aK,bK3 e,cE3];refine⟨?_,fun _ _ _ _ h=>?_⟩;cases o<;>first|rfl|simp[Jm]at hl
   grind
   simp only[aK,bM3 e];exact q2 k
  cases o with
  |lst ty e g rows=>
   cases hfx:iQ ty with
   |true=>simp only[hfx,bS3]at hk;exact aD hk
   |false=>
    simp only[hfx,cB3]at hk;obtain⟨h1,q1,q2⟩:=Gl hk;refine⟨_,q1,fun k=>?_⟩;by_cases c:j=k;simp only[aK,bK3 c,cE3];exact⟨rfl,fun _ _ _ _ h=>by cases h;exact hfx⟩;simp only[aK,bM3 c];exact q2 k
  |box cs=>exact other rfl hk
  |mp es=>exact other rfl hk
  |fl fs=>exact other rfl hk
  |loop N e ps a b busy fin=>exact other rfl hk
  |lz ty e dp rows=>exact aD hk
  |tr tt rows hs=>exact other rfl hk
def UnR (h:aS) (k:Nat) (a b:dX):Prop:=∃o0,aK h k=some o0/\
 ((∃ty e g rows,a=.lst ty e g rows/\iQ ty=true/\iQ (ty-4294967296)=false/\b=.lst (ty-4294967296) e g rows)\/(b=a/\Jm o0=false))
def Jn:∀{h h2:aS} {K:aS->aB R} {r:R},Bp h h2 K=some r->∃c,K c=some r/\∀k,(aK c k=none↔aK h2 k=none)/\∀d,aK c k=some d->∃f,aK h2 k=some f/\UnR h k f d
 |h,[],K,r,hk=>⟨[],hk,fun k=>⟨Iff.rfl,fun _ h=>by simp[aK]at h⟩⟩
 |h,(j,o)::t,K,r,hk=>by
  unfold Bp at hk
  rw[iN,bD3]at hk
  obtain⟨o0,h0,hk⟩:=hk
  have step:∀d,UnR h j o d->Bp h t (fun r=>K ((j,d)::r))=some r->∃c,K c=some r/\∀k,(aK c k=none↔aK ((j,o)::t) k=none)/\∀d,aK c k=some d->∃f,aK ((j,o)::t) k=some f/\UnR h k f d:=by
   intro d l hk;obtain⟨c,q1,q2⟩:=Jn hk;refine⟨_,q1,fun k=>?_⟩;by_cases e:j=k;subst e;simp only[aK,bK3];exact⟨by simp,fun m i=>⟨o,rfl,by cases i;exact l⟩⟩;simp only[aK,bM3 e];exact q2 k
  have no:Jm o0=false->Jm o=false->Bp h t (fun r=>K ((j,o)::r))=some r->∃c,K c=some r/\∀k,(aK c k=none↔aK ((j,o)::t) k=none)/\∀d,aK c k=some d->∃f,aK ((j,o)::t) k=some f/\UnR h k f d:=
   fun hl _ hk=>step o ⟨o0,h0,.inr ⟨rfl,hl⟩⟩ hk
  cases o0 with
  |lst ty0 e0 g0 rows0=>
   cases o with
   |lst ty e g rows=>
    cases hfx:(iQ ty&& !(iQ (ty-4294967296)))with
    |false=>simp only[hfx,cB3]at hk;exact aD hk
    |true=>
     simp only[hfx,bS3]at hk;simp only[bF3,bW3]at hfx;exact step _ ⟨_,h0,.inl ⟨ty,e,g,rows,rfl,hfx.1,hfx.2,rfl⟩⟩ hk
   |_=>exact aD hk
  |box cs=>cases o with
   |lst ty e g rows=>exact aD hk
   |lz ty e dp rows=>exact aD hk
   |_=>exact no rfl rfl hk
  |mp es=>cases o with
   |lst ty e g rows=>exact aD hk
   |lz ty e dp rows=>exact aD hk
   |_=>exact no rfl rfl hk
  |fl fs=>cases o with
   |lst ty e g rows=>exact aD hk
   |lz ty e dp rows=>exact aD hk
   |_=>exact no rfl rfl hk
  |loop N e ps a b busy fin=>cases o with
   |lst ty e g rows=>exact aD hk
   |lz ty e dp rows=>exact aD hk
   |_=>exact no rfl rfl hk
  |lz ty0 e0 dp0 rows0=>cases o with
   |lst ty e g rows=>exact aD hk
   |lz ty e dp rows=>exact aD hk
   |_=>exact no rfl rfl hk
  |tr tt0 rows0 hs0=>cases o with
   |lst ty e g rows=>exact aD hk
   |lz ty e dp rows=>exact aD hk
   |_=>exact no rfl rfl hk
def eT1 {fx:Bool} {P:AV->Hp->Prop} {run:aS->Nat->(PV->aS->Nat->aB (PV×aS×Nat))->aB (PV×aS×Nat)} {xs:aA PV} {ys:aA AV} {e:gG} {t:aA AV} {kill:aA Nat} {nw:Bool} {K:PV->gG->aS->Nat->aB R} {r:R}
  (j:dI C n h lim s) (he:fF C e t) (L:LR (RV C) xs ys)
  (u:∀(hs:aS) (C0:Cx) (m:Nat) (K':PV->aS->Nat->aB (PV×aS×Nat)) (r':PV×aS×Nat),dI C0 m hs lim s->LR (RV C0) xs ys->run hs m K'=some r'->
   ∃v h' n' C' y s',K' v h' n'=some r'/\RV C' v y/\dI C' n' h' lim s'/\m<=n'/\Fr C0 hs s C' h' s'/\P y s')
  (hk:lE1 fx run nw xs e h n kill K=some r):
  ∃v e' h' n' C' y s',K v e' h' n'=some r/\RV C' v y/\(∀i w,gD e' i=some w->∃z,t[i]? =some z/\RV C' w z/\i∉kill)/\dI C' n' h' lim s'/\n<=n'/\Fr C h s C' h' s'/\P y s':=by
 cases fx with
 |false=>exact Lm j he L u hk
 |true=>
  have hk:Sy h (fun h1=>inK run nw xs e h1 n kill fun v e h2 n=>Bp h h2 fun x=>K v e x n)=some r:=hk;obtain⟨h1,hk,q⟩:=Gl hk;have d:∀{k},aK h1 k≠none->aK h k≠none:=fun{k} hk hn=>hk (by rw[(q k).1,hn];rfl)
  have G:dI C n h1 lim s:=by
   refine⟨⟨fun k po hp=>?_,fun k k' i v1 E H v2 e2 J a1 a2 a3 a4=>j.hr.inj k k' i v1 E H v2 e2 J (d a1) (d a2) a3 a4,fun id o B=>?_,fun k id v e l a b=>j.hr.wn k id v e l (d a) b,j.hr.wb,j.hr.wz⟩,j.dom,j.wf,j.lim⟩;rw[(q k).1]at hp;cases hh:aK h k with
   |none=>rw[hh]at hp;cases hp
   |some o=>
    rw[hh]at hp;cases hp;obtain⟨pl,p1,p2⟩:=j.hr.ob k o hh;refine⟨pl,p1,?_⟩;cases o with
    |lst ty e g rows=>exact Wi p2 (lR1.trans (Gk ((q k).2 _ _ _ _ hh)).symm)
    |_=>exact p2
   obtain⟨z1,z2,z3,z4⟩:=j.hr.zr id o B;exact⟨z1,z2,fun k v e l a b=>z3 k v e l (d a) b,z4⟩
  obtain⟨v,e',h',n',C',y,s',q1,q2,q3,q4,q5,q6,q7⟩:=Lm G he L u hk;obtain⟨x,r1,r2⟩:=Jn q1;have c:∀{k},aK x k≠none->aK h' k≠none:=fun{k} hk hn=>hk ((r2 k).1.2 hn)
  have f:∀{id},Own C h1 id->Own C h id:=fun{id} p=>by
   rcases p with⟨k,v,e,l,b1,b2⟩|p;exact .inl ⟨k,v,e,l,d b1,b2⟩;exact .inr p
  refine⟨v,e',x,n',C',y,s',r1,q2,q3,⟨⟨fun k D F=>?_,fun k k' i v1 E H v2 e2 J a1 a2 a3 a4=>q4.hr.inj k k' i v1 E H v2 e2 J (c a1) (c a2) a3 a4,fun id o B=>?_,fun k id v e l a b=>q4.hr.wn k id v e l (c a) b,q4.hr.wb,q4.hr.wz⟩,q4.dom,q4.wf,q4.lim⟩,q5,⟨q6.sk,q6.n,fun id hid hn=>q6.keep id hid (fun p=>hn (f p)),fun id hid p=>?_,fun k o A=>?_,q6.zl,fun id hid B=>?_⟩,q7⟩;obtain⟨M,b1,o0,b2,b3⟩:=(r2 k).2 D F;obtain⟨pl,p1,p2⟩:=q4.hr.ob k M b1;refine⟨pl,p1,?_⟩;rcases b3 with⟨ty,e,g,rows,rfl,c1,c2,rfl⟩|⟨rfl,_⟩
  exact Wi p2 ((Gk c2).trans (lS1 c1).symm);exact p2;obtain⟨z1,z2,z3,z4⟩:=q4.hr.zr id o B;exact⟨z1,z2,fun k v e l a b=>z3 k v e l (c a) b,z4⟩;rcases p with⟨k,v,e,l,b1,b2⟩|p;exact f (q6.own id hid (.inl ⟨k,v,e,l,c b1,b2⟩));exact f (q6.own id hid (.inr p));obtain⟨M,s1,O⟩:=q6.kd k (fxo o) (by rw[(q k).1,A];rfl);cases hc:aK x k with
  |none=>rw[(r2 k).1.1 hc]at s1;cases s1
  |some D=>
   refine⟨D,rfl,fun hb=>?_⟩;obtain⟨N,b1,o0,b2,b3⟩:=(r2 k).2 D hc;rw[s1]at b1;cases b1;rw[A]at b2;cases b2;rcases b3 with⟨ty,e,g,rows,rfl,c1,c2,rfl⟩|⟨rfl,hl⟩
   rw[iE,c2]at hb;cases hb;obtain⟨S,T⟩:=O hb;refine⟨?_,T⟩;cases o with
   |lst ty e g rows=>simp[Jm]at hl
   |_=>exact S
  rcases q6.zn id hid B with h1|h1;exact .inl h1;exact .inr (f h1)
end
end Go.P
namespace Go.P
open Go.Sim (AV AO Hp iJ upd St IC IX Ex hZ CK Wf Out doOp lI exec)
section
variable {R:Type} {C:Cx} {n:Nat} {h:aS} {lim:Nat} {s:Hp}
def Jo:∀(h:aS) (k:Nat) (a b:dX),cZ (cZ h k a) k b=cZ h k b
 |[],_,_,_=>rfl
 |(j,o)::r,k,a,b=>by
  by_cases e:j=k
  simp[cZ,e]
  simp[cZ,e,Jo r k a b]
def Zk {h:aS} {j k:Nat} {o b:dX} (e:j≠k):cZ ((j,o)::h) k b=(j,o)::cZ h k b:=by simp[cZ,e]
def wE1 (m:dI C n h lim s) {k:Nat} {po po':dX} (hg:aK h k=some po) (u:∀pl,C k=some pl->gX C (Sim.look s.h) lim s.n po pl->gX C (Sim.look s.h) lim s.n po' pl) (hb:iE po'=true->iE po=true):
  dI C n (cZ h k po') lim s/\Fr C h s C (cZ h k po') s:=by
 have c:∀j,aK (cZ h k po') j=if j=k then some po' else aK h j:=fun j=>by
  rw[eN];simp[hg]
 have g:∀j,aK (cZ h k po') j≠none->aK h j≠none:=fun j f=>by
  rw[c]at f;split at f;rename_i d;subst d;rw[hg];simp;exact f
 refine⟨⟨⟨fun j o f=>?_,fun j q i v1 d p v2 e2 z h1 h2 r t=>m.hr.inj j q i v1 d p v2 e2 z (g j h1) (g q h2) r t,fun i o w=>?_,fun j i v1 d p h1 h2=>m.hr.wn j i v1 d p (g j h1) h2,m.hr.wb,m.hr.wz⟩,m.dom,m.wf,m.lim⟩,⟨.refl _ _,bI3 _,fun _ _ _=>rfl,fun i hi hn=>?_,fun j o f=>?_,fun _ _ h=>h,fun _ _ h=>.inl h⟩⟩;rw[c]at f;split at f;rename_i d;subst d;cases f;obtain⟨pl,p1,p2⟩:=m.hr.ob j _ hg;exact⟨pl,p1,u pl p1 p2⟩;exact m.hr.ob j o f;obtain⟨z1,z2,z3,z4⟩:=m.hr.zr i o w;exact⟨z1,z2,fun j v e l a b=>z3 j v e l (g j a) b,z4⟩;rcases hn with⟨j,v1,d,p,x,y⟩|hn;exact .inl ⟨j,v1,d,p,g j x,y⟩;exact .inr hn;rw[c];by_cases d:j=k;subst d;rw[hg]at f;cases f;exact⟨po',by simp,fun h=>⟨hb h,rfl⟩⟩;exact⟨o,by simp[d,f],fun h=>⟨h,rfl⟩⟩
def Jp (C:Cx) (n:Nat) (pl:Pl):Cx:=⟨fun k=>if k=n then some pl else C k,C.z,fun o=>match pl with
 |.atp id _ _ _=>if o=id then none else C.w o
 |.nil=>C.w o⟩
def eU1 (a:dI C n h lim s) (pl:Pl):C.le (Jp C n pl):=⟨fun k q hk=>by
 have:=a.dom k q hk
 show(if k=n then some pl else C k)=_
 rw[bM3 (by omega)]
 exact hk,fun _ _ h=>h⟩
def lT1 (A:dI C n h lim s) {k id ver e2 len ty i j:Nat} {ks:aA (Nat×TD)} {rows:aA (aA PV)} {hs:aA (Nat×Nat×PV)} {row:aA PV} {els:aA (aA AV)} {H:aA AV} {t':TD} {e':Nat} {rows':aA (aA PV)} {y:AV}
  (hg:aK h k=some (.tr (.nd ty e2 ks) rows hs)) (R:C k=some (.atp id ver e2 len)) (hL:Sim.look s.h id=some (.arr false ty e2 ver els)) (hi:rows[i]? =some row) (U:els[i]? =some H)
  (hk:iH ks j=some t') (hj:row[j]? =some (.is e' rows')) (W:H[j]? =some y) (Z:¬Cd hs i j):
  ∃pl,dI (Jp C n pl) (n+1) ((n,Cc t' rows')::cZ h k (.tr (.nd ty e2 ks) rows ((j,i,.own n)::hs))) lim s/\Fr C h s (Jp C n pl) ((n,Cc t' rows')::cZ h k (.tr (.nd ty e2 ks) rows ((j,i,.own n)::hs))) s/\RV (Jp C n pl) (.own n) y:=by
 obtain⟨X,V,_,hlen,b4,d2,d,S,b6,hr⟩:=mU A hg R;rw[hL]at S;cases S;have d3:k≠n:=by have:=A.dom k _ R;omega
 have c:=(hr i row H hi U).2 j _ y hj W;have G:=A.hr.wn k id _ _ _ (by rw[hg];simp) R;unfold TC at c;rw[hk]at c;rcases c with⟨h1,_⟩|⟨_,c⟩
 exact absurd h1 Z;cases d with
 |zero=>exact c.elim
 |succ d=>
 obtain⟨ty',e3,m⟩:=t';obtain⟨d0,b8,c⟩:=c;cases b8
 have N:∀(pl:Pl),(∀id' v e l,pl=.atp id' v e l->C.w id'=some (id,i,j)/\id'<s.n/\lim<=id')->RV (Jp C n pl) (.own n) y->gX (Jp C n pl) (Sim.look s.h) lim s.n (Cc (.nd ty' e' m) rows') pl->
   ∃pl,dI (Jp C n pl) (n+1) ((n,Cc (.nd ty' e' m) rows')::cZ h k (.tr (.nd ty e2 ks) rows ((j,i,.own n)::hs))) lim s/\Fr C h s (Jp C n pl) ((n,Cc (.nd ty' e' m) rows')::cZ h k (.tr (.nd ty e2 ks) rows ((j,i,.own n)::hs))) s/\RV (Jp C n pl) (.own n) y:=by
  intro pl L hy b7;have O:=eU1 A pl;have F:Jp C n pl n=some pl:=bK3 rfl;have f:∀a,a≠n->Jp C n pl a=C a:=fun a p=>bM3 p
  have M:∀o,(Jp C n pl).w o≠none->C.w o≠none:=fun o g=>by
   cases pl with
   |nil=>exact g
   |atp id' v e l=>
    have g:(if o=id' then none else C.w o)≠none:=g;split at g;exact absurd rfl g;exact g
  have b0:∀o sl,C.w o=some sl->sl≠(id,i,j)->(Jp C n pl).w o=some sl:=fun o sl g hn=>by
   cases pl with
   |nil=>exact g
   |atp id' v e l=>
    show(if o=id' then none else C.w o)=_
    split;rename_i u;subst u;rw[(L o v e l rfl).1]at g;cases g;exact absurd rfl hn;exact g
  have hW:∀o sl,C.w o=some sl->¬(sl.1=id)->(Jp C n pl).w o=some sl/\Sim.look s.h o=Sim.look s.h o:=fun o sl g hn=>⟨b0 o sl g fun h=>hn (by rw[h]),rfl⟩
  have hB:∀b,b=id->C.w b=none:=fun b hb=>by rw[hb];exact G
  have D:∀a,aK ((n,Cc (.nd ty' e' m) rows')::cZ h k (.tr (.nd ty e2 ks) rows ((j,i,.own n)::hs))) a=if a=n then some (Cc (.nd ty' e' m) rows')else if a=k then some (.tr (.nd ty e2 ks) rows ((j,i,.own n)::hs))else aK h a:=fun a=>by
   simp only[aK];by_cases u:n=a;subst u;simp;rw[bM3 u,bM3 (Ne.symm u),eN];simp[hg]
  have E:∀a,aK ((n,Cc (.nd ty' e' m) rows')::cZ h k (.tr (.nd ty e2 ks) rows ((j,i,.own n)::hs))) a≠none->a≠n->aK h a≠none:=fun a p hn=>by
   rw[D,bM3 hn]at p;split at p;rename_i u;subst u;rw[hg];simp;exact p
  have named:∀a id' v e l v' e0 l',pl=.atp id' v e l->aK h a≠none->C a≠some (.atp id' v' e0 l'):=fun a id' v e l v' e0 l' hp p hc=>by
   have:=A.hr.wn a id' _ _ _ p hc;rw[(L id' v e l hp).1]at this;cases this
  refine⟨pl,⟨⟨fun a o p=>?_,fun a a' x v1 u l1 v2 e2 l2 h1 h2 h3 h4=>?_,fun x o hz=>?_,fun a x v1 u l1 h1 h2=>?_,fun x sl hw=>?_,fun x o hz=>?_⟩,fun a q p=>?_,A.wf,A.lim⟩,⟨.refl _ _,bI3 _,fun _ _ _=>rfl,fun x t g=>?_,fun a o p=>?_,fun _ _ h=>h,fun _ _ h=>.inl h⟩,hy⟩;rw[D]at p;split at p;rename_i u;subst u;cases p;exact⟨pl,F,b7⟩;rename_i u;split at p;rename_i e3;subst e3;cases p;refine⟨_,(f a u).trans R,X,V,rfl,hlen,b4,els,d+1,hL,b6,fun i2 r r' c1 c2=>⟨(hr i2 r r' c1 c2).1,fun j2 x b c3 c4=>?_⟩⟩;have:=(hr i2 r r' c1 c2).2 j2 x b c3 c4;unfold TC at this ⊢;cases hkd:iH ks j2 with
  |none=>rw[hkd]at this;exact this
  |some t2=>
   rw[hkd]at this;simp only at this ⊢;by_cases K:i2=i/\j2=j;obtain⟨rfl,rfl⟩:=K;refine .inl ⟨⟨_,List.mem_cons_self ..⟩,fun x t=>?_⟩;rcases bR3.1 t with t|t;cases t;rw[U]at c2;cases c2;rw[W]at c4;cases c4;exact hy;exact absurd ⟨x,t⟩ Z;rcases this with⟨⟨x,a1⟩,a2⟩|⟨a1,a2⟩
   refine .inl ⟨⟨x,cY3 _ a1⟩,fun x t=>?_⟩;rcases bR3.1 t with t|t;cases t;exact absurd ⟨rfl,rfl⟩ K;exact(a2 x t).mono O;refine .inr ⟨fun⟨x,t⟩=>?_,gL.move (bI3 _) hB hW (fun o g=>⟨b0 o _ g fun h=>?_,rfl⟩) a2⟩;rcases bR3.1 t with t|t;cases t;exact K ⟨rfl,rfl⟩;exact a1 ⟨x,t⟩;cases h;exact K ⟨rfl,rfl⟩
  rename_i e3;obtain⟨q,p1,p2⟩:=A.hr.ob a o p;refine⟨q,(f a u).trans p1,gX.monoB (C:=C) (C':=Jp C n pl) (bI3 _) O (B:=fun b=>b=id) hB hW (fun id' v e l hp hb=>?_) (fun _ _ _ _ _=>rfl) p2⟩;subst hp;subst hb;exact e3 (A.hr.inj a k id' _ _ _ _ _ _ (by rw[p];simp) (by rw[hg];simp) p1 R);by_cases b1:a=n;by_cases b2:a'=n;rw[b1,b2];exfalso;subst b1;rw[F]at h3;exact named a' x _ _ _ _ _ _ (dH3 h3) (E a' h2 b2) ((f a' b2).symm.trans h4);by_cases b2:a'=n;exfalso;subst b2;rw[F]at h4;exact named a x _ _ _ _ _ _ (dH3 h4) (E a h1 b1) ((f a b1).symm.trans h3);exact A.hr.inj a a' x _ _ _ _ _ _ (E a h1 b1) (E a' h2 b2) ((f a b1).symm.trans h3) ((f a' b2).symm.trans h4);obtain⟨z1,z2,z3,z4⟩:=A.hr.zr x o hz;refine⟨z1,z2,fun a v e l h1 h2=>?_,z4⟩;by_cases b1:a=n;subst b1;rw[F]at h2;have h2:=dH3 h2;have:=A.hr.wz x o hz;rw[(L x _ _ _ h2).1]at this;cases this;exact z3 a v e l (E a h1 b1) ((f a b1).symm.trans h2);by_cases b1:a=n;subst b1;rw[F]at h2;have h2:=dH3 h2;subst h2;exact bK3 rfl;have:=A.hr.wn a x v1 u l1 (E a h1 b1) ((f a b1).symm.trans h2);cases hc:(Jp C n pl).w x with
  |none=>rfl
  |some sl=>exact absurd this (M x (by rw[hc];simp))
  cases hc:C.w x with
  |none=>exact absurd hc (M x (by rw[hw];simp))
  |some sl'=>
   have hb:=A.hr.wb x sl' hc
   have:sl=sl':=by
    cases pl with
    |nil=>have hw:C.w x=some sl:=hw;rw[hc]at hw;cases hw;rfl
    |atp id' v e l=>
     have hw:(if x=id' then none else C.w x)=some sl:=hw;split at hw;cases hw;rw[hc]at hw;cases hw;rfl
   rw[this];exact hb
  have:=A.hr.wz x o hz;cases hc:(Jp C n pl).w x with
  |none=>rfl
  |some sl=>exact absurd this (M x (by rw[hc];simp))
  by_cases b1:a=n;omega;have:=A.dom a q ((f a b1).symm.trans p);omega;rcases g with⟨a,v1,u,l1,k1,J⟩|g;by_cases b1:a=n;subst b1;rw[F]at J;have J:=dH3 J;exact .inr (by rw[(L x _ _ _ J).1];simp);exact .inl ⟨a,v1,u,l1,E a k1 b1,(f a b1).symm.trans J⟩;exact .inr (M x g);have T:a≠n:=fun u=>by rw[u,uS A (bI3 _)]at p;cases p
  rw[D,bM3 T];by_cases b1:a=k;subst b1;exact⟨_,bK3 rfl,fun hb=>by cases hb⟩;exact⟨o,by rw[bM3 b1];exact p,fun hb=>⟨hb,f a T⟩⟩
 have Y:∀{P:dX->Prop},(m=[]->P (.lst ty' e' true rows'))->P (.tr (.nd ty' e' m) rows' [])->P (Cc (.nd ty' e' m) rows'):=fun{P} h1 h2=>by
  unfold Cc;cases m with
  |nil=>exact h1 rfl
  |cons a b=>exact h2
 rcases c with⟨b9,rfl⟩|⟨id',ver',els',rfl,J,k3,k4,kf,k5,k6,k7⟩
 subst b9;exact N .nil (fun _ _ _ _ h=>by cases h) (.ownn (bK3 rfl) rfl) (Y (P:=fun o=>gX (Jp C n .nil) (Sim.look s.h) lim s.n o .nil) (fun _=>rfl) ⟨rfl,rfl⟩);refine N (.atp id' ver' e' rows'.length) (fun d4 v e l h=>by cases h;exact⟨J,k4,k3⟩) (.own (bK3 rfl)) (Y (P:=fun o=>gX (Jp C n (.atp id' ver' e' rows'.length)) (Sim.look s.h) lim s.n o (.atp id' ver' e' rows'.length)) (fun b5=>?_) ?_);subst b5;refine⟨k3,k4,rfl,rfl,els',by rw[Gk kf];exact k5,⟨by simp[dJ3 k6.1],fun a r r' c1 c2=>⟨(k7 a r r' c1 (rC c2)).1,fun b x z c3 c4=>(k7 a r r' c1 (rC c2)).2 b x z c3 c4⟩⟩,k6,fun h=>by cases h⟩;refine⟨k3,k4,rfl,rfl,kf,els',d,k5,k6,fun a r r' c1 c2=>⟨(k7 a r r' c1 c2).1,fun b x z c3 c4=>?_⟩⟩;have:=(k7 a r r' c1 c2).2 b x z c3 c4;unfold TC;cases hkd:iH m b with
 |none=>rw[hkd]at this;exact this
 |some t2=>
  rw[hkd]at this;refine .inr ⟨fun⟨x,t⟩=>(by cases t),gL.mono (bI3 _) (B:=fun b=>b=id) (fun b hb=>by rw[hb];exact G) (fun o sl g hn=>⟨?_,rfl⟩) (fun hb=>?_) this⟩;show(if o=id' then none else C.w o)=_
  rw[bM3 (fun hc=>by rw[hc,J]at g;cases g;exact hn rfl)];exact g;have hb:id'=id:=hb;rw[hb,G]at J;cases J
def yJ {k id ver ty e2 len i o:Nat} {ks:aA (Nat×TD)} {rows:aA (aA PV)} {row:aA PV} {els:aA (aA AV)} {c cells:aA AV} {cs0:aA PV} (D:Sim.look s.h id=some (.arr false ty e2 ver els)) (hi:rows[i]? =some row) (l:els[i]? =some c)
  (h0:∀q a,cs0[q]? =some a->row[o+q]? =some a) (hc:∀q b,cells[q]? =some b->c[o+q]? =some b):
  ∀(js:aA Nat) (cs:aA PV) (hs:aA (Nat×Nat×PV)) (h:aS) (n:Nat) (C:Cx) (K:aA PV->aA (Nat×Nat×PV)->aS->Nat->aB R) (r:R),Ot ks i o cs0 js cs hs h n K=some r->
   dI C n (cZ h k (.tr (.nd ty e2 ks) rows hs)) lim s->(aK h k).isSome=true->C k=some (.atp id ver e2 len)->LR (RV C) cs cells->
   ∃cs' e h' n' C',K cs' e h' n'=some r/\dI C' n' (cZ h' k (.tr (.nd ty e2 ks) rows e)) lim s/\Fr C (cZ h k (.tr (.nd ty e2 ks) rows hs)) s C' (cZ h' k (.tr (.nd ty e2 ks) rows e)) s/\C.le C'/\n<=n'/\LR (RV C') cs' cells
 |[],cs,hs,h,n,C,K,r,hk,hM,hg,hC,hl=>⟨cs,hs,h,n,C,hk,hM,.refl _ _ _,.refl _,bI3 _,hl⟩
 |j::js,cs,hs,h,n,C,K,r,hk,hM,hg,hC,hl=>by
  unfold Ot at hk
  cases hkd:iH ks j with
  |none=>rw[hkd]at hk;exact aD hk
  |some t=>
   rw[hkd]at hk
   simp only at hk
   cases m:Nat.ble o j with
   |false=>rw[m]at hk;exact aD hk
   |true=>
    rw[m,bS3]at hk
    have m:=bP3 m
    have w:aK (cZ h k (.tr (.nd ty e2 ks) rows hs)) k=some (.tr (.nd ty e2 ks) rows hs):=by rw[eN];simp[hg]
    obtain⟨_,_,_,_,_,N,d,v,g,hr⟩:=mU hM w hC
    rw[D]at v
    cases v
    obtain⟨q1,q2⟩:=hr i row c hi l
    have put:∀{C':Cx} {x:PV} {cs2:aA PV},C.le C'->(∀b,cells[j-o]? =some b->RV C' x b)->cs2=Sim.setL cs (j-o) [x]->LR (RV C') cs2 cells:=fun{C' x cs2} g J he=>by
     rw[he]
     refine⟨by rw[mV];exact hl.1,fun a x1 b c1 c2=>?_⟩
     by_cases B:a=j-o
     subst B
     have P:j-o<cs.length:=by rw[hl.1];exact(bG3.1 c2).1
     rw[sF (by simp;omega) (bI3 _) (by simp)]at c1
     simp at c1
     rw[<-c1]
     exact J b c2
     rw[lB (by simp;omega)]at c1
     exact(hl.2 a x1 b c1 c2).mono g
    cases hcol:Fj hs j with
    |some p=>
     obtain⟨V,x⟩:=p
     rw[hcol]at hk
     simp only at hk
     obtain⟨B,H⟩:=Fu hk
     subst B
     obtain⟨S,A⟩:=mD _ _ _ _ _ H
     have O:=(uU hcol).1
     obtain⟨cs',e,h',n',C',p1,p2,p3,p4,p5,p6⟩:=yJ D hi l h0 hc js _ hs h n C K r A hM hg hC (put (.refl C) (fun b hb=>by
      have f:=hc _ _ hb
      rw[show o+(j-o)=j by omega]at f
      have G:=(bG3.1 f).1
      have:=q2 j (row[j]'(by omega)) b (by simp) f
      unfold TC at this
      rw[hkd]at this
      rcases this with⟨_,a2⟩|⟨a1,_⟩
      exact a2 x O
      exact absurd ⟨x,O⟩ a1) rfl)
     exact⟨cs',e,h',n',C',p1,p2,p3,p4,p5,p6⟩
    |none=>
     rw[hcol]at hk
     simp only at hk
     obtain⟨S,A⟩:=gP _ _ _ _ hk
     split at A
     rename_i e' rows' tl F
     obtain⟨W,T⟩:=mD _ _ _ _ _ A
     have E:cs0[j-o]? =some (.is e' rows'):=by
      have:(cs0.drop (j-o))[0]? =some (.is e' rows'):=by rw[F];rfl
      simpa using this
     have u:=h0 _ _ E;rw[show o+(j-o)=j by omega]at u;have G:=(bG3.1 u).1;have z:c[j]? =some (c[j]'(by omega)):=by simp
     obtain⟨pl,L,M,U⟩:=lT1 hM w hC D hi l hkd u z (fun⟨x,J⟩=>uT hcol i x J);rw[Jo]at L M;have y:n≠k:=fun B=>by have:=hM.dom k _ hC;omega
     rw[<-Zk (o:=Cc t rows') y]at L M;have g:=eU1 hM pl
     obtain⟨cs',e,h',n',C',p1,p2,p3,p4,p5,p6⟩:=yJ D hi l h0 hc js _ _ _ (n+1) (Jp C n pl) K r T L (by simp only[aK];rw[bM3 y];exact hg) (g.1 _ _ hC) (put g (fun b hb=>by
      have f:=hc _ _ hb;rw[show o+(j-o)=j by omega,z]at f;cases f;exact U) rfl)
     exact⟨cs',e,h',n',C',p1,p2,M.trans p3,g.trans p4,by omega,p6⟩;exact aD A
def Jq:∀{hs:aA (Nat×Nat×PV)} {d j i:Nat},wH hs d=some (j,i)->(j,i,.own d)∈hs/\(∀q,q∈vO hs d->q∈hs)/\∀b c y,¬(b=i/\c=j)->(c,b,y)∈hs->(c,b,y)∈vO hs d
 |[],_,_,_,h=>by cases h
 |(j1,i1,x)::r,d,j,i,h=>by
  have skip:∀{l:aA (Nat×Nat×PV)},wH r d=some (j,i)->l=(j1,i1,x)::vO r d->(j,i,PV.own d)∈(j1,i1,x)::r/\(∀q,q∈l->q∈(j1,i1,x)::r)/\∀b c y,¬(b=i/\c=j)->(c,b,y)∈(j1,i1,x)::r->(c,b,y)∈l:=fun{l} h h2=>by
   obtain⟨p1,p2,p3⟩:=Jq h
   subst h2
   refine⟨cY3 _ p1,fun q f=>?_,fun b c y hn a=>?_⟩
   rcases bR3.1 f with f|f
   rw[f];exact List.mem_cons_self ..
   exact cY3 _ (p2 q f)
   rcases bR3.1 a with a|a
   rw[a];exact List.mem_cons_self ..
   exact cY3 _ (p3 b c y hn a)
  cases x with
  |own k=>
   by_cases e:k=d
   subst e
   simp only[wH,bO,dD3,bS3]at h
   cases h
   simp only[vO,bO,dD3,bS3]
   refine⟨List.mem_cons_self ..,fun q f=>cY3 _ f,fun b c y hn a=>?_⟩
   rcases bR3.1 a with a|a
   cases a;exact absurd ⟨rfl,rfl⟩ hn
   exact a
   simp only[wH,bO,cI3 e,cB3]at h
   exact skip h (by simp only[vO,bO,cI3 e,cB3])
  |_=>exact skip h rfl
def clC (C:Cx) (a:Nat) (sl:Nat×Nat×Nat) (id:Nat):Cx:=⟨fun k=>if k=a then some .nil else C k,C.z,fun o=>if o=id then some sl else C.w o⟩
def Zl {a:TD} {ob:dX} {K:Nat->aA (aA PV)->aB R} {r:R} (h:vH1 a ob K=some r):∃ty e ks rows,a=.nd ty e ks/\K e rows=some r/\((∃g,ob=.lst ty e g rows/\iQ ty=false/\ks=[])\/ob=.tr a rows []):=by
 unfold vH1 at h;split at h;rename_i ty e g rows;cases hf:iQ ty with
 |true=>rw[hf]at h;exact aD h
 |false=>
  rw[hf,cB3]at h;cases ht:Kx 2 (.nd ty e []) a with
  |false=>rw[ht]at h;exact aD h
  |true=>
   rw[ht,bS3]at h;have:=Cq ht;subst this;exact⟨ty,e,[],rows,rfl,h,.inl ⟨g,rfl,hf,rfl⟩⟩
 rename_i b rows;cases ht:Kx 8 b a with
 |false=>rw[ht]at h;exact aD h
 |true=>
  rw[ht,bS3]at h;have:=Cq ht;subst this;obtain⟨ty,e,ks⟩:=b;exact⟨ty,e,ks,rows,rfl,h,.inr rfl⟩
 exact aD h
def eV1 (A:dI C n h lim s) {kp c id ver e2 len ty i j:Nat} {ks:aA (Nat×TD)} {rows L:aA (aA PV)} {hs u:aA (Nat×Nat×PV)} {t':TD} {e':Nat} {rows':aA (aA PV)} {ob:dX} {h2:aS}
  (hg:aK h kp=some (.tr (.nd ty e2 ks) rows hs)) (hC:C kp=some (.atp id ver e2 len)) (e0:wH hs c=some (j,i)) (hkd:iH ks j=some t')
  (k:aK h c=some ob) (e9:∃ty' P,t'=.nd ty' e' P/\((∃g,ob=.lst ty' e' g rows'/\iQ ty'=false/\P=[])\/ob=.tr t' rows' [])) (E:pE rows i j [.is e' rows']=some L) (hkl:yF c h h2)
  (b0:∀i j,(Cd (vO hs c) i j->Cd u i j)/\∀x',(j,i,x')∈u->∃x,(j,i,x)∈vO hs c/\∀{C C':Cx} {y:AV},mW c C C'->RV C x y->RV C' x' y):
  ∃C',mW c C C'/\dI C' n (cZ (cZ h2 c (.lst 0 0 true [])) kp (.tr (.nd ty e2 ks) L u)) lim s/\Fr C h s C' (cZ (cZ h2 c (.lst 0 0 true [])) kp (.tr (.nd ty e2 ks) L u)) s:=by
 obtain⟨e8,b6,_,hlen,f5,els,d,hL,e7,hr⟩:=mU A hg hC;obtain⟨ty',P,rfl,d3⟩:=e9
 have d4:kp≠c:=fun p=>by
  subst p;rw[hg]at k;cases k;rcases d3 with⟨g,h1,_⟩|h1;cases h1;cases h1;cases e0
 obtain⟨hm,b9,f4⟩:=Jq e0;unfold pE at E;split at E;rename_i row hi;split at E;rename_i f6;cases E;simp only[cM3,bU3]at f6;obtain⟨F,e4⟩:=Ad e7 hi;obtain⟨q1,q2⟩:=hr i row F hi e4;have f0:F[j]? =some (F[j]'(by omega)):=by simp
 have b7:∀x,(j,i,x)∈hs->RV C x (F[j]'(by omega)):=fun x hx=>by
  have:=q2 j (row[j]'(by omega)) _ (by simp) f0;unfold TC at this;rw[hkd]at this;rcases this with⟨_,a2⟩|⟨a1,_⟩
  exact a2 _ hx;exact absurd ⟨_,hx⟩ a1
 have hy:=b7 _ hm;have g6:=A.hr.wn kp id _ _ _ (by rw[hg];simp) hC
 have d8:(aK h2 c).isSome=true:=by
  cases hc:aK h2 c with
  |none=>rw[(hkl.1 c).1 hc]at k;cases k
  |some o=>rfl
 have d9:(aK h2 kp).isSome=true:=by
  cases hc:aK h2 kp with
  |none=>rw[(hkl.1 kp).1 hc]at hg;cases hg
  |some o=>rfl
 have K:∀a,aK (cZ (cZ h2 c (.lst 0 0 true [])) kp (.tr (.nd ty e2 ks) (rows.set i (Sim.setL row j [.is e' rows'])) u)) a=if a=kp then some (.tr (.nd ty e2 ks) (rows.set i (Sim.setL row j [.is e' rows'])) u)else if a=c then some (.lst 0 0 true [])else aK h2 a:=fun a=>by
  rw[eN,eN,eN];by_cases p:a=kp;subst p;simp[d4,d9];by_cases e3:a=c;subst e3;simp[Ne.symm d4,d8];simp[p,e3]
 have N:∀a,aK (cZ (cZ h2 c (.lst 0 0 true [])) kp (.tr (.nd ty e2 ks) (rows.set i (Sim.setL row j [.is e' rows'])) u)) a≠none->aK h a≠none:=fun a m=>by
  rw[K]at m;split at m;rename_i p;subst p;rw[hg];simp;split at m;rename_i p;subst p;rw[k];simp;exact fun hc=>m ((hkl.1 a).2 hc)
 have R:∀(C':Cx) (D:Nat),C' c=some .nil->(∀a,a≠c->C' a=C a)->C'.z=C.z->(∀o sl,C.w o=some sl->C'.w o=some sl)->(∀o sl,C'.w o=some sl->C.w o=some sl\/(sl=(id,i,j)/\∃v e l,C c=some (.atp o v e l)))->
   gL (Sim.look s.h) C'.w lim s.n D (id,i,j) (.nd ty' e' P) (.is e' rows') (F[j]'(by omega))->
   ∃C',mW c C C'/\dI C' n (cZ (cZ h2 c (.lst 0 0 true [])) kp (.tr (.nd ty e2 ks) (rows.set i (Sim.setL row j [.is e' rows'])) u)) lim s/\Fr C h s C' (cZ (cZ h2 c (.lst 0 0 true [])) kp (.tr (.nd ty e2 ks) (rows.set i (Sim.setL row j [.is e' rows'])) u)) s:=by
  intro C' D d6 q hz V b5 b8;have G:mW c C C':=⟨q,fun _ _ h=>by rw[hz];exact h⟩
  have T:∀{a x v e l},C' a=some (.atp x v e l)->a≠c/\C a=some (.atp x v e l):=fun{a x v e l} m=>by
   by_cases b:a=c;subst b;rw[d6]at m;cases m;exact⟨b,(q a b).symm.trans m⟩
  have d5:∀{o pl},gX ⟨C'.f,C'.z,C.w⟩ (Sim.look s.h) lim s.n o pl->gX C' (Sim.look s.h) lim s.n o pl:=fun{o pl} U=>
   gX.mono (C:=⟨C'.f,C'.z,C.w⟩) (C':=C') (bI3 _) ⟨fun _ _ h=>h,fun _ _ h=>h⟩ (fun _ _ _ _ _=>rfl) (fun o sl h=>⟨V o sl h,rfl⟩) U
  refine⟨C',G,⟨⟨fun a o m=>?_,fun a a' x v1 p l1 v2 e3 l2 a1 a2 a3 a4=>A.hr.inj a a' x v1 p l1 v2 e3 l2 (N a a1) (N a' a2) (T a3).2 (T a4).2,fun x o O=>?_,fun a x v1 p l1 a1 a2=>?_,fun x sl hw=>?_,fun x o O=>?_⟩,fun a pl m=>?_,A.wf,A.lim⟩,⟨.refl _ _,bI3 _,fun _ _ _=>rfl,fun x hx U=>?_,fun a o m=>?_,fun _ _ h=>by rw[hz];exact h,fun x hx h=>.inl (by rw[hz]at h;exact h)⟩⟩;rw[K]at m;split at m;rename_i p;subst p;cases m;refine⟨_,(q a d4).trans hC,e8,b6,rfl,by simpa using hlen,f5,els,max d D,hL,by simpa using e7,fun Z r r' c1 c2=>?_⟩
  have old:∀{r0},rows[Z]? =some r0->∀(b:Nat) (x:PV) (z:AV),r0[b]? =some x->r'[b]? =some z->¬(Z=i/\b=j)->TC C' (Sim.look s.h) lim s.n (max d D) id ks u Z b x z:=fun{r0} g1 b x z g2 g3 g4=>by
   have:=((hr Z r0 r' g1 c2).2 b x z g2 g3).upd (Nat.le_max_left d D);unfold TC at this ⊢;cases hkd2:iH ks b with
   |none=>rw[hkd2]at this;exact this
   |some t2=>
    rw[hkd2]at this;simp only at this ⊢;rcases this with⟨⟨y,a1⟩,a2⟩|⟨a1,a2⟩
    refine .inl ⟨(b0 Z b).1 ⟨y,f4 Z b y g4 a1⟩,fun y' X=>?_⟩;obtain⟨y,p1,p2⟩:=(b0 Z b).2 y' X;exact p2 G (a2 y (b9 _ p1));refine .inr ⟨fun⟨y',X⟩=>?_,gL.mono (bI3 _) (B:=fun _=>False) (fun _ h=>h.elim) (fun o sl h _=>⟨V o sl h,rfl⟩) (fun h=>h) a2⟩;obtain⟨y,p1,_⟩:=(b0 Z b).2 y' X;exact a1 ⟨y,b9 _ p1⟩
  rw[cA3]at c1;by_cases d0:i=Z;subst d0;have e6:=(bG3.1 hi).1;rw[bK3 rfl,bK3 e6]at c1;cases c1;rw[e4]at c2;cases c2;refine⟨by rw[mV];exact q1,fun b x z c3 c4=>?_⟩;by_cases d7:b=j;subst d7;rw[sF (by simp;omega) (bI3 _) (by simp)]at c3;simp at c3;subst c3;rw[f0]at c4;cases c4;unfold TC;rw[hkd];simp only;by_cases hh:Cd u i b;refine .inl ⟨hh,fun y' X=>?_⟩;obtain⟨y,p1,p2⟩:=(b0 i b).2 y' X;exact p2 G (b7 y (b9 _ p1));exact .inr ⟨hh,b8.up (Nat.le_max_right d D)⟩;rw[lB (by simp;omega)]at c3;exact old hi b x z c3 c4 (fun h=>d7 h.2);rw[bM3 d0]at c1;exact⟨(hr Z r r' c1 c2).1,fun b x z c3 c4=>old c1 b x z c3 c4 (fun h=>d0 h.1.symm)⟩;rename_i g7;split at m;rename_i p;subst p;cases m;exact⟨.nil,d6,rfl⟩;rename_i f2;obtain⟨o0,p1,p2,p3⟩:=hkl.2 a o m;obtain⟨pl,p4,p5⟩:=A.hr.ob a o0 p1;exact⟨pl,(q a f2).trans p4,d5 (p3 (C:=C) (C':=⟨C'.f,C'.z,C.w⟩) ⟨q,G.2⟩ rfl p5)⟩;rw[hz]at O;obtain⟨z1,z2,z3,z4⟩:=A.hr.zr x o O;exact⟨z1,z2,fun a v e l h1 h2=>z3 a v e l (N a h1) (T h2).2,z4⟩;obtain⟨b1,b2⟩:=T a2;cases hc:C'.w x with
  |none=>rfl
  |some sl=>
   rcases b5 x sl hc with H|⟨_,v,e,l,H⟩
   rw[A.hr.wn a x _ _ _ (N a a1) b2]at H;cases H;exact absurd (A.hr.inj a c x _ _ _ _ _ _ (N a a1) (by rw[k];simp) b2 H) b1
  rcases b5 x sl hw with H|⟨h6,v,e,l,H⟩
  exact A.hr.wb x sl H;exact⟨(A.hr.lt (by rw[k];simp) H).2,by rw[h6];exact b6⟩;rw[hz]at O;cases hc:C'.w x with
  |none=>rfl
  |some sl=>
   rcases b5 x sl hc with H|⟨_,v,e,l,H⟩
   rw[A.hr.wz x o O]at H;cases H;exact absurd H ((A.hr.zr x o O).2.2.1 c v e l (by rw[k];simp))
  by_cases b:a=c;subst b;obtain⟨g5,p1,_⟩:=A.hr.ob a _ k;exact A.dom a g5 p1;exact A.dom a pl ((q a b).symm.trans m);rcases U with⟨a,v1,p,l1,k1,k2⟩|U;exact .inl ⟨a,v1,p,l1,N a k1,(T k2).2⟩;cases hc:C'.w x with
  |none=>exact absurd hc U
  |some sl=>
   rcases b5 x sl hc with H|⟨_,v,e,l,H⟩
   exact .inr (by rw[H];simp);exact .inl ⟨c,v,e,l,by rw[k];simp,H⟩
  rw[K];by_cases b1:a=kp;subst b1;exact⟨_,bK3 rfl,fun hb=>by cases hb⟩;rw[bM3 b1];by_cases b2:a=c;subst b2;exact⟨_,bK3 rfl,fun hb=>by cases hb⟩;rw[bM3 b2];cases hc:aK h2 a with
  |none=>rw[(hkl.1 a).1 hc]at m;cases m
  |some o'=>
   obtain⟨o0,p1,p2,_⟩:=hkl.2 a o' hc;rw[m]at p1;cases p1;exact⟨o',rfl,fun hb=>⟨by rw[<-p2];exact hb,q a b2⟩⟩
 generalize hyd:F[j]'(by omega)=y at hy R;rcases jI hy with⟨id',Y,e3,f1,J,rfl⟩|⟨J,rfl⟩
 have f9:=A.hr.wn c id' _ _ _ (by rw[k];simp) J
 have V:∀o sl,C.w o=some sl->(clC C c (id,i,j) id').w o=some sl:=fun o sl U=>by
  show(if o=id' then some (id,i,j)else C.w o)=_
  rw[bM3 (fun p=>by rw[p,f9]at U;cases U)];exact U
 have d2:∀{d sl t x y},gL (Sim.look s.h) C.w lim s.n d sl t x y->gL (Sim.look s.h) (clC C c (id,i,j) id').w lim s.n d sl t x y:=fun h=>gL.mono (bI3 _) (B:=fun _=>False) (fun _ h=>h.elim) (fun o sl h _=>⟨V o sl h,rfl⟩) (fun h=>h) h;have W:(clC C c (id,i,j) id').w id'=some (id,i,j):=bK3 rfl
 have fin:∀D,gL (Sim.look s.h) (clC C c (id,i,j) id').w lim s.n D (id,i,j) (.nd ty' e' P) (.is e' rows') (.sl e3 id' Y 0 f1 none)->_:=fun D h=>R (clC C c (id,i,j) id') D (bK3 rfl) (fun a m=>bM3 m) rfl V (fun o sl U=>by
  have b4:(if o=id' then some (id,i,j)else C.w o)=some sl:=U;by_cases p:o=id';rw[bK3 p]at b4;subst p;exact .inr ⟨(dH3 b4).symm,_,_,_,J⟩;rw[bM3 p]at b4;exact .inl b4) h
 rcases d3 with⟨g,rfl,M,rfl⟩|rfl;obtain⟨l1,rfl,rfl,S,l4,l5,l6,_⟩:=lZ A k J;rw[Gk M]at l4;have e5:=(A.hr.lt (by rw[k];simp) J).2
 exact fin 1 ⟨rows',rfl,.inr ⟨id',Y,S,rfl,W,l1,e5,M,l4,l6,fun a r r' c1 c2=>by
  have f7:=(bG3.1 c1).1;have:=l5.2 a r r' c1 (by rw[cD3,bK3 f7];exact c2);exact⟨this.1,fun b x z c3 c4=>this.2 b x z c3 c4⟩⟩⟩
 obtain⟨l1,l2,rfl,rfl,M,S,d',l4,l6,l5⟩:=mU A k J
 exact fin (d'+1) ⟨rows',rfl,.inr ⟨id',Y,S,rfl,W,l1,l2,M,l4,l6,fun a r r' c1 c2=>⟨(l5 a r r' c1 c2).1,fun b x z c3 c4=>by
  have:=(l5 a r r' c1 c2).2 b x z c3 c4;unfold TC at this;cases hk2:iH P b with
  |none=>rw[hk2]at this;exact this
  |some t2=>
   rw[hk2]at this;rcases this with⟨⟨y,hy⟩,_⟩|⟨_,this⟩
   cases hy;exact d2 this⟩⟩⟩
 have f8:rows'=[]:=by
  rcases d3 with⟨g,rfl,_⟩|rfl;exact nO A k J;exact(tZ A k J).1
 exact R (mv C c .nil) 1 (qE C c _) (fun a m=>(fY C c _).1 a m) rfl (fun _ _ h=>h) (fun _ _ h=>.inl h) ⟨rows',rfl,.inl ⟨f8,rfl⟩⟩;cases E;cases E
def lU1 (b:dI C n h lim s) {e:gG} {t:aA AV} (he:fF C e t) {f:Nat} {K:gG->aS->aB R} {r:R} (hk:vL1 e h f K=some r):
  ∃C' e' h',K e' h'=some r/\dI C' n h' lim s/\fF C' e' t/\Fr C h s C' h' s:=by
 unfold vL1 at hk;cases hu:sO1 f e h with
 |true=>rw[hu]at hk;exact⟨C,e,h,hk,b,he,.refl _ _ _⟩
 |false=>
  rw[hu,cB3]at hk;cases hpn:lD1 f h with
  |none=>rw[hpn]at hk;exact⟨C,e,h,hk,b,he,.refl _ _ _⟩
  |some kp=>
   rw[hpn]at hk;simp only[iN,bD3]at hk;obtain⟨op,hg,hk⟩:=hk;cases op with
   |tr tt rows hs=>
    obtain⟨ty,e2,ks⟩:=tt;simp only[TD.ks]at hk;cases hho:wH hs f with
    |none=>rw[hho]at hk;exact aD hk
    |some p=>
    obtain⟨j,i⟩:=p;rw[hho]at hk;simp only at hk;cases hkd:iH ks j with
    |none=>rw[hkd]at hk;exact aD hk
    |some t'=>
     rw[hkd]at hk;simp only[bD3]at hk;obtain⟨ob,g,hk⟩:=hk;obtain⟨ty',e',o,rows',rfl,hk,m⟩:=Zl hk;rw[cE,bD3]at hk;obtain⟨q,d,hk⟩:=hk;obtain⟨x,hk,k⟩:=lL _ _ _ hk;obtain⟨h2,hk,l⟩:=mF _ _ _ hk;have hk:=eF _ _ _ _ _ hk;obtain⟨u,hk,_,c⟩:=wL _ _ _ hk;have hk:=eF _ _ _ _ _ hk;obtain⟨pl,p1,p2⟩:=b.hr.ob kp _ hg;cases pl with
     |nil=>
      have:=(tZ b hg p1).2;subst this;cases hho
     |atp id ver e3' len=>
      obtain⟨_,_,rfl,_⟩:=mU b hg p1;obtain⟨C',q1,q2,q3⟩:=eV1 b hg p1 hho hkd g ⟨ty',o,rfl,m⟩ d l c;refine⟨C',_,_,hk,q2,fun a w hw=>?_,q3⟩;obtain⟨v,r1,r2⟩:=k a w hw;obtain⟨z,r3,r4⟩:=he a v r1;exact⟨z,r3,r2 q1 r4⟩
   |_=>exact aD hk
def eW1 {t:aA AV}:∀(ks:aA Nat) {C:Cx} {h:aS} {e:gG} {K:gG->aS->aB R} {r:R},dI C n h lim s->fF C e t->gcK ks e h K=some r->
  ∃C' e' h',K e' h'=some r/\dI C' n h' lim s/\fF C' e' t/\Fr C h s C' h' s
 |[],C,h,e,K,r,hM,he,hk=>⟨C,e,h,by unfold gcK at hk;exact hk,hM,he,.refl _ _ _⟩
 |k::ks,C,h,e,K,r,hM,he,hk=>by
  unfold gcK at hk
  obtain⟨C1,a,h1,q1,q2,q3,q4⟩:=lU1 hM he hk
  obtain⟨C2,e2,h2,p1,p2,p3,p4⟩:=eW1 ks q2 q3 q1
  exact⟨C2,e2,h2,p1,p2,p3,q4.trans p4⟩
def Tk {ys:aA AV} {f:aA (aA AV)} {e len ty:Nat} {zero:aA Value} (l:ys.length=len) (h:f.length=len) (hc:∀(j:Nat) (x:AV),ys[j]? =some x->∃cs,x.cells=some cs/\cs.length=e/\f[j]? =some cs) (o:zero.length=e) (L:Nat->aB AO) (lim nS:Nat):
  doOp L lim nS (.buildSl ty e len zero (List.range' 0 len)) ys=some {v:=.sl e nS 0 0 len none,new:=some (.arr false ty e 0 f)}:=by
 have o:(Sim.zeroRow zero).length=e:=by simp[Sim.zeroRow,o]
 have n:((List.range len).flatMap fun _=>Sim.zeroRow zero).length=len*e:=by
  rw[yD,o,List.length_range]
 have g:=uW e len 0 ((List.range len).flatMap fun _=>Sim.zeroRow zero) ys f (by rw[n];simp) l h hc;simp only[fB3,List.take_zero,eZ3]at g
 have k:∀c∈f,c.length=e:=by
  intro c m;obtain⟨j,p⟩:=bX3.1 m;have q:j<ys.length:=by rw[l,<-h];exact(bG3.1 p).1
  obtain⟨cs,p1,p2,p3⟩:=hc j ys[j] (by simp);rw[p]at p3;cases p3;exact p2
 have d:=Vt e f k;rw[h]at d
 have:doOp L lim nS (.buildSl ty e len zero (List.range' 0 len)) ys=(Sim.fillParts ((List.range len).flatMap fun _=>Sim.zeroRow zero) ((List.range' 0 len).map fun i=>(i*e,e)) ys).map fun cs=>
  {v:=.sl e nS 0 0 len none,new:=some (.arr false ty e 0 ((List.range len).map fun i=>(cs.drop (i*e)).take e))}:=by
  rcases ys with _|⟨a,_|⟨b,_|⟨c,t⟩⟩⟩<;>rfl
 rw[this,g];simp only[cE3];rw[d]
def Gm {ks:aA (Nat×TD)} {es:Nat}:∀(xs:aA PV) (ys:aA AV) (i:Nat) (hs:aA (Nat×Nat×PV)) (K:aA (aA PV)->aA (Nat×Nat×PV)->aB R) (r:R),Ix ks es i xs hs K=some r->LR (RV C) xs ys->(∀j b x,i<=b->(j,b,x)∉hs)->
  ∃(rows:aA (aA PV)) (f:aA (Nat×Nat×PV)) (g:aA (aA AV)),K rows f=some r/\rows.length=xs.length/\g.length=ys.length/\(∀j b x,b<i->((j,b,x)∈f↔(j,b,x)∈hs))/\(∀j b x,i+xs.length<=b->(j,b,x)∉f)/\
   (∀(a:Nat) (y:AV),ys[a]? =some y->∃cs,y.cells=some cs/\cs.length=es/\g[a]? =some cs)/\
   ∀(a:Nat) (r:aA PV) (r':aA AV),rows[a]? =some r->g[a]? =some r'->r.length=r'.length/\∀(j:Nat) (p:PV) (q:AV),r[j]? =some p->r'[j]? =some q->Pb C ks f (i+a) j p q
 |[],ys,i,hs,K,r,h,hl,hn=>by
  rw[hl.inv_nil]
  unfold Ix at h
  exact⟨[],hs,[],h,rfl,rfl,fun _ _ _ _=>Iff.rfl,fun j b x hi=>hn j b x (by simpa using hi),fun a y h=>by simp at h,fun a r r' h=>by simp at h⟩
 |x::xs,ys,i,hs,K,r,h,hl,hn=>by
  obtain⟨y,B,rfl,hv,v⟩:=hl.inv_cons
  unfold Ix at h
  simp only[mE,bD3]at h
  obtain⟨cs,u,h⟩:=h
  obtain⟨cs',s,n⟩:=pJ hv u
  rw[bO]at h
  by_cases hlen:cs.length=es
  rw[cJ3 hlen,bS3]at h
  obtain⟨l,o,h,p2,p3,p4⟩:=sG _ _ _ _ _ _ h n
  have d:∀j b z,(j,b,z)∈o->b=i:=fun j b z m=>by
   apply Decidable.byContradiction
   intro w
   have:=(p3 b j z (.inl w)).1 m
   cases this
  obtain⟨rows,f,g,q1,q2,q3,q4,q5,q6,q7⟩:=Gm xs B (i+1) (o++hs) _ r h v (fun j b z hi c=>by
   rcases cL3.1 c with c|c
   have:=d j b z c;omega
   exact hn j b z (by omega) c)
  refine⟨l::rows,f,cs'::g,q1,by simp[q2],by simp[q3],fun j b z hi=>?_,fun j b z hi=>q5 j b z (by simp only[cM3]at hi;omega),fun a z m=>?_,fun a G A h1 h2=>?_⟩
  rw[q4 j b z (by omega)]
  refine⟨fun c=>?_,fun c=>cL3.2 (.inr c)⟩
  rcases cL3.1 c with c|c
  have:=d j b z c;omega
  exact c
  cases a with
  |zero=>
   simp only[dB3,bL3]at m
   subst m
   exact⟨cs',s,by rw[<-n.1];exact hlen,rfl⟩
  |succ a=>exact q6 a z (by simpa using m)
  cases a with
  |zero=>
   simp only[dB3,bL3]at h1 h2
   subst h1 h2
   refine⟨by rw[p2];exact n.1,fun j p q D E=>?_⟩
   have:=p4 j p q D E
   rw[dC3]at this
   unfold Pb at this ⊢
   rw[dN3]
   have k:∀z,(j,i,z)∈f↔(j,i,z)∈o:=fun z=>by
    rw[q4 j i z (by omega)]
    refine⟨fun c=>?_,fun c=>cL3.2 (.inl c)⟩
    rcases cL3.1 c with c|c
    exact c
    exact absurd c (hn j i z (bI3 _))
   cases hkd:iH ks j with
   |none=>rw[hkd]at this;exact this
   |some t=>
    obtain⟨ty,e,F⟩:=t
    rw[hkd]at this
    simp only at this ⊢
    obtain⟨a1,a2⟩:=this
    refine⟨a1,?_⟩
    rcases a2 with⟨⟨z,b1⟩,b2⟩|⟨b1,b2⟩
    exact .inl ⟨⟨z,(k z).2 b1⟩,fun z m=>b2 z ((k z).1 m)⟩
    exact .inr ⟨fun⟨z,m⟩=>b1 ⟨z,(k z).1 m⟩,b2⟩
  |succ a=>
   rw[show i+(a+1)=i+1+a by omega]
   exact q7 a G A (by simpa using h1) (by simpa using h2)
  rw[cI3 hlen]at h;exact aD h
def lV1 {xs:aA PV} {ys:aA AV} {ty es len:Nat} {ks:aA (Nat×TD)} {zero:aA Value} {parts:aA Nat} {K:aA (aA PV)->aA (Nat×Nat×PV)->aB R} {r:R} (l:dI C n h lim s) (g:LR (RV C) xs ys) (d:(Kz 0 parts&&(Nat.beq zero.length es&&(!(iQ ty)&&Nat.beq parts.length len)))=true)
  (hk:Ix ks es 0 xs [] (fun rows hs=>bif Nat.beq rows.length len then K rows hs else none)=some r):
  ∃rows hs C' out,K rows hs=some r/\doOp (Sim.look s.h) lim s.n (.buildSl ty es len zero parts) ys=some out/\RV C' (.own n) out.v/\dI C' (n+1) ((n,.tr (.nd ty es ks) rows hs)::h) lim (out.apply s)/\C.le C'/\Fr C h s C' ((n,.tr (.nd ty es ks) rows hs)::h) (out.apply s):=by
 simp only[bF3,bO,bN3,bW3]at d;obtain⟨c1,c2,k,c3⟩:=d;obtain⟨rows,hs,b,f,z,o,_,_,A,u⟩:=Gm xs ys 0 [] _ r hk g (fun _ _ _ _ h=>by cases h);rw[bO]at f;by_cases c4:rows.length=len;rw[cJ3 c4,bS3]at f;have hp:=Aa 0 parts c1;rw[c3]at hp;subst hp;have a:ys.length=len:=by rw[<-g.1,<-z,c4]
 have m:=Tk (ty:=ty) (zero:=zero) a (o.trans a) A c2 (Sim.look s.h) lim s.n;have c:=nI l (.atp s.n 0 es len)
 obtain⟨D,E,F⟩:=sD l (po:=.tr (.nd ty es ks) rows hs) (ao:=.arr false ty es 0 b) (ver:=0) (e:=es) (len:=len)
  ⟨l.lim,by omega,rfl,c4.symm,k,b,1,by rw[gK,bK3 rfl],⟨by rw[o,a,c4];exact bI3 _,.exact (by rw[o,a,c4];exact bI3 _)⟩,fun i r r' h1 h2=>⟨(u i r r' h1 h2).1,fun j p q w y=>by
   have:=(u i r r' h1 h2).2 j p q w y;rw[dC3]at this;unfold Pb at this;unfold TC;cases hkd:iH ks j with
   |none=>rw[hkd]at this;exact this
   |some t=>
    obtain⟨ty',e',B⟩:=t;rw[hkd]at this;simp only at this ⊢;obtain⟨rfl,this⟩:=this;rcases this with⟨a1,a2⟩|⟨a1,a2⟩
    exact .inl ⟨a1,fun x g=>(a2 x g).mono c⟩;exact .inr ⟨a1,[],rfl,.inl ⟨rfl,a2⟩⟩⟩⟩
 exact⟨rows,hs,_,{v:=.sl es s.n 0 0 len none,new:=some (.arr false ty es 0 b)},f,m,.own (pK C n _),D,c,E⟩;rw[cI3 c4]at f;exact aD f
def rD:∀{h:aS} {k:Nat} {o:dX},aK h k=some o->cZ h k o=h
 |[],_,_,h=>by simp[aK]at h
 |(j,v)::r,k,o,h=>by
  simp only[aK]at h
  simp only[cZ]
  split at h
  rename_i e;cases h;rw[bK3 e,e]
  rename_i e;rw[bM3 e,rD h]
def wF1 (C:Cx) (n:Nat) (h:aS) (lim:Nat) (s:Hp) (k:hZ) (ys:aA AV) (K:PV->aS->Nat->aB R) (r:R):Prop:=
 ∃v h' n' C' a,K v h' n'=some r/\doOp (Sim.look s.h) lim s.n k ys=some {v:=a}/\RV C' v a/\dI C' n' h' lim s/\n<=n'/\C.le C'/\Fr C h s C' h' s
def Wj {k i o:Nat} {t:TD} {rows:aA (aA PV)} {hs:aA (Nat×Nat×PV)} {y:AV} {js:aA Nat} {K:PV->aS->Nat->aB R} {r:R} (J:dI C n h lim s) (hg:aK h k=some (.tr t rows hs)) (hy:RV C (.el k i o) y):
  ((cM (lQ rows i o) fun c=>Ot t.ks i o [c] js [.undef] hs h n fun cs hs h n=>match cs with
   |[v]=>iT h k (.tr t rows hs) fun h=>K v h n
   |_=>none)=some r->wF1 C n h lim s .loadS [y] K r)/\
  ∀m,(cM (mQ rows i o m) fun cs0=>xT t.ks o cs0 fun cs=>Ot t.ks i o cs0 js cs hs h n fun cs hs h n=>iT h k (.tr t rows hs) fun h=>K (.agg cs) h n)=some r->wF1 C n h lim s (.loadA m) [y] K r:=by
 obtain⟨ty,e2,ks⟩:=t;obtain⟨id,ver,e,len,B,rfl⟩:=tY hy;have w:dI C n (cZ h k (.tr (.nd ty e2 ks) rows hs)) lim s:=by rw[rD hg];exact J
 have O:=mU J hg B;obtain⟨_,_,rfl,_,_,els,d,A,x,hr⟩:=O;simp only[TD.ks];refine⟨fun hk=>?_,fun m hk=>?_⟩;rw[cE,bD3]at hk;obtain⟨c,hc,hk⟩:=hk;simp only[lQ,bD3]at hc;obtain⟨row,hi,p⟩:=hc;obtain⟨f,l⟩:=Ad x hi;obtain⟨q1,q2⟩:=hr i row f hi l;have G:=(bG3.1 p).1;have z:f[o]? =some (f[o]'(by omega)):=by simp
 obtain⟨cs',H,h',n',C',p1,p2,p3,p4,p5,p6⟩:=yJ (cells:=[f[o]'(by omega)]) A hi l (o:=o) (cs0:=[c]) (fun q a g=>by
  cases q with
  |zero=>simp at g;subst g;simpa using p
  |succ q=>simp at g) (fun q b g=>by
  cases q with
  |zero=>simp at g;subst g;simpa using z
  |succ q=>simp at g) js _ hs h n C _ r hk w (by rw[hg];rfl) B (.cons .undef .nil)
 rw[rD hg]at p3;split at p1;rename_i v;have p1:=eF _ _ _ _ _ p1;obtain⟨_,_,M,p7,_⟩:=p6.inv_cons;cases M;exact⟨v,_,n',C',_,p1,by simp[doOp,A,l,z],p7,p2,p5,p4,p3⟩;exact aD p1;rw[cE,bD3]at hk;obtain⟨c,hc,hk⟩:=hk;simp only[mQ,bD3]at hc;obtain⟨row,hi,p⟩:=hc;split at p;rename_i G;cases p;obtain⟨f,l⟩:=Ad x hi;obtain⟨q1,q2⟩:=hr i row f hi l;obtain⟨L,hk,E,F⟩:=wJ _ _ _ _ hk
 obtain⟨cs',H,h',n',C',p1,p2,p3,p4,p5,p6⟩:=yJ (cells:=(f.drop o).take m) A hi l (o:=o) (fun q a g=>by
  rw[cD3]at g;split at g
  rwa [cK3]at g
  cases g) (fun q b g=>by
  rw[cD3]at g;split at g
  rwa [cK3]at g
  cases g) js _ hs h n C _ r hk w (by rw[hg];rfl) B ⟨by simp at E ⊢;omega,fun j a b P hb=>by
  rcases F j a P with⟨a0,u,N,rfl⟩|rfl;rw[cD3]at u hb;split at u;rename_i D;rw[bK3 D,cK3]at hb;rw[cK3]at u;exact .cl ((TC.none N).1 (q2 (o+j) a b u hb)).weak;cases u;exact .undef⟩
 rw[rD hg]at p3;have p1:=eF _ _ _ _ _ p1;exact⟨_,_,n',C',.agg ((f.drop o).take m),p1,by simp[doOp,A,l];omega,.agg p6.1 p6.2,p2,p5,p4,p3⟩;cases p
def Tl {e:gG} {d:Nat} {j:aB Nat} {K:PV->aB R} {r:R} (h1:dI1 e h d j K=some r):∃v,K v=some r:=by
 unfold dI1 at h1;rw[kS,bD3]at h1;obtain⟨v,_,h1⟩:=h1;cases j with
 |none=>exact⟨v,h1⟩
 |some j=>
  cases v with
  |agg cs=>
   obtain⟨_,h1⟩:=gP _ _ _ _ h1;split at h1;exact⟨_,h1⟩;exact aD h1
  |ref k o=>
   simp only[iN,bD3]at h1;obtain⟨ob,_,h1⟩:=h1;split at h1;obtain⟨_,h1⟩:=gP _ _ _ _ h1;split at h1;exact⟨_,h1⟩;exact aD h1;exact aD h1
  |_=>exact aD h1
def lW1 (l:dI C n h lim s) {k ty es:Nat} {g:Bool} {ks:aA (Nat×TD)} (hg:aK h k=some (.lst ty es g [])) (hf:iQ ty=false):
  dI C n (cZ h k (.tr (.nd ty es ks) [] [])) lim s/\Fr C h s C (cZ h k (.tr (.nd ty es ks) [] [])) s:=wE1 l hg (fun pl _ m=>by
 cases pl with
 |nil=>exact⟨rfl,rfl⟩
 |atp id ver e len=>
  obtain⟨h1,h2,d,f,els,c,o,j,p⟩:=m
  rw[Gk hf]at c
  exact⟨h1,h2,d,f,hf,els,0,c,j,fun i r r' a b=>by simp at a⟩) (fun h=>by cases h)
def Tm {ks:aA Nat}:∀{e:gG} {K:gG->aB R} {r:R},Iw e ks K=some r->∃e',K e'=some r/\∀i v,gD e' i=some v->gD e i=some v:=by
 have key:∀{e:gG} {K:gG->aB R} {r:R},Iw e ks K=some r->∃e',K e'=some r/\∀i v,gD e' i=some v->gD e i=some v/\wD i ks=true:=by
  intro e
  induction e with
  |nil=>intro K r h;exact⟨[],h,fun i v h=>by simp[gD]at h⟩
  |cons p e ih=>
   intro K r h;obtain⟨j,w⟩:=p;unfold Iw at h;cases hm:wD j ks with
   |true=>
    rw[hm,bS3]at h;obtain⟨e',h1,h2⟩:=ih h;refine⟨_,h1,fun i v hv=>?_⟩;simp only[gD]at hv ⊢;split at hv;rename_i a;subst a;exact⟨by rw[bK3 rfl];exact hv,hm⟩;rename_i a;rw[bM3 a];exact h2 i v hv
   |false=>
    rw[hm,cB3]at h;obtain⟨e',h1,h2⟩:=ih h;refine⟨e',h1,fun i v hv=>?_⟩;obtain⟨c,b⟩:=h2 i v hv;refine⟨?_,b⟩;simp only[gD];rw[bM3 (fun a=>by rw[a,b]at hm;cases hm)];exact c
 intro e K r h;obtain⟨e',h1,h2⟩:=key h;exact⟨e',h1,fun i v hv=>(h2 i v hv).1⟩
def lX1 (e:dI C n h lim s) {k ty es:Nat} {g:Bool} {rows b:aA (aA PV)} {lo:Int} {kd:IntKind} {zero:aA Value} {y:AV} (hg:aK h k=some (.lst ty es g rows)) (u:zero.length=es) (hy:RV C (.own k) y) (hk:xV rows lo (zero.map .v)=some b):
  ∃v out,doOp (Sim.look s.h) lim s.n (.slc es true false false) [y,.v (.int kd lo)]=some {v:=v}/\doOp (Sim.look s.h) lim s.n (.clear es zero) [v]=some out/\dI C n (cZ h k (.lst ty es g b)) lim (out.apply s)/\Fr C h s C (cZ h k (.lst ty es g b)) (out.apply s):=by
 unfold xV at hk;split at hk;rename_i hb;obtain⟨b1,b2⟩:=hb;obtain rfl:=dH3 hk;rcases jI hy with⟨id,ver,j,len,d,rfl⟩|⟨d,rfl⟩
 obtain⟨c,rfl,hl,els,l,hr,⟨o,p⟩,m⟩:=lZ e hg d;subst hl;have hid:=(e.hr.lt (by rw[hg];simp) d).2;have a:(rows.take lo.toNat++List.replicate (rows.length-lo.toNat) (zero.map PV.v)).length=rows.length:=by simp;omega
 obtain⟨q,t⟩:=tX e (po':=.lst ty j g (rows.take lo.toNat++List.replicate (rows.length-lo.toNat) (zero.map .v))) (ao:=.arr false (Hj ty) j ver (Sim.setL els (0+lo.toNat) (List.replicate (rows.length-lo.toNat) (Sim.zeroRow zero)))) hg d ⟨c,hid,rfl,a.symm,_,by rw[Sim.look_upd,bK3 ⟨rfl,by rw[l];rfl⟩],⟨by simp[mV];omega,fun i r r' c1 c2=>by
   rw[a,cD3]at c2;split at c2;rename_i hi;rw[dE3]at c1;split at c1;rename_i h1;rw[lB (.inl (by simp at h1;omega))]at c2;rw[cD3]at c1;split at c1;exact hr.2 i r r' c1 (by rw[cD3,bK3 hi];exact c2);cases c1;rename_i h1;simp at h1;rw[sF (by simp;omega) (by omega) (by simp;omega)]at c2;rw[eD3]at c1 c2;split at c1;split at c2;cases c1;cases c2;exact .zeroP zero;cases c2;cases c1;cases c2⟩,⟨by rw[a,mV];exact o,fun i row hi f=>by
   rw[a]at hi;rw[lB (.inr (by simp;omega))]at f;exact p i row hi f⟩,fun h=>by rw[a,mV];exact m h⟩ rfl
 refine⟨.sl j id ver (0+lo.toNat) (rows.length-lo.toNat) none,{v:=.undef,up:=some (id,.arr false (Hj ty) j ver (Sim.setL els (0+lo.toNat) (List.replicate (rows.length-lo.toNat) (Sim.zeroRow zero))))},?_,?_,q,t⟩;simp only[doOp,Sim.sliceOp,bQ3,cR3,Sim.bounds,Sim.intOf,cE3,l,Sim.roomOf];rw[bK3 ⟨by trivial,by trivial,by omega,by omega,by omega,by omega⟩];simp;simp only[doOp,l];rw[bK3 ⟨by trivial,by trivial,by omega,c⟩];have:=nO e hg d;subst this;have h0:lo=0:=by simp at b2;omega
 subst h0;refine⟨.v (.slice none 0 0),{v:=.undef},rfl,rfl,?_⟩;simp only[List.take_nil,bU3,Nat.zero_sub,List.replicate_zero,eA3];rw[rD hg];exact⟨e,.refl _ _ _⟩;cases hk
def Gn {b:aA Nat}:∀{h:aS} {K:aS->aB R} {r:R},Vk h b K=some r->∃h',K h'=some r/\∀k,(aK h k=none->aK h' k=none)/\∀o,aK h k=some o->∃o',aK h' k=some o'/\(o'=o\/∃cs,o=.box cs/\o'=.box (cs.map fun _=>.undef))
 |[],K,r,hk=>⟨[],hk,fun k=>⟨fun _=>rfl,fun o h=>by simp[aK]at h⟩⟩
 |(j,o)::t,K,r,hk=>by
  unfold Vk at hk
  obtain⟨h',hk,h2⟩:=Gn hk
  have fin:∀o',(o'=o\/∃cs,o=.box cs/\o'=.box (cs.map fun _=>.undef))->K ((j,o')::h')=some r->∃h',K h'=some r/\∀k,(aK ((j,o)::t) k=none->aK h' k=none)/\∀a,aK ((j,o)::t) k=some a->∃o',aK h' k=some o'/\(o'=a\/∃cs,a=.box cs/\o'=.box (cs.map fun _=>.undef)):=fun o' c hk=>by
   refine⟨_,hk,fun k=>?_⟩
   simp only[aK]
   by_cases e:j=k
   subst e
   simp only[cF3]
   exact⟨fun h=>(by cases h),fun a h=>(by cases h;exact⟨o',rfl,c⟩)⟩
   simp only[bM3 e]
   exact h2 k
  cases o with
  |box cs=>
   simp only at hk
   cases hm:(wD j b|| !(cs.any dH1))with
   |true=>rw[hm,bS3]at hk;exact fin _ (.inl rfl) hk
   |false=>rw[hm,cB3]at hk;exact fin _ (.inr ⟨cs,rfl,rfl⟩) hk
  |_=>exact fin _ (.inl rfl) hk
def lY1 {h':aS} (d:dI C n h lim s) (hs:∀k,(aK h k=none->aK h' k=none)/\∀o,aK h k=some o->∃o',aK h' k=some o'/\(o'=o\/∃cs,o=.box cs/\o'=.box (cs.map fun _=>.undef))):dI C n h' lim s/\Fr C h s C h' s:=by
 have c:∀j,aK h' j≠none->aK h j≠none:=fun j f hc=>f ((hs j).1 hc);refine⟨⟨⟨fun j o f=>?_,fun j q i v1 g m v2 e2 A h1 h2 r t=>d.hr.inj j q i v1 g m v2 e2 A (c j h1) (c q h2) r t,fun i o u=>?_,fun j i v1 g m h1 h2=>d.hr.wn j i v1 g m (c j h1) h2,d.hr.wb,d.hr.wz⟩,d.dom,d.wf,d.lim⟩,⟨.refl _ _,bI3 _,fun _ _ _=>rfl,fun i hi hn=>?_,fun j o f=>?_,fun _ _ h=>h,fun _ _ h=>.inl h⟩⟩;cases hc:aK h j with
 |none=>exact absurd hc (c j (by rw[f];simp))
 |some o0=>
  obtain⟨o',p1,p2⟩:=(hs j).2 o0 hc;rw[f]at p1;cases p1;obtain⟨pl,q1,q2⟩:=d.hr.ob j o0 hc;refine⟨pl,q1,?_⟩;rcases p2 with rfl|⟨cs,rfl,rfl⟩
  exact q2;cases pl with
  |nil=>exact q2
  |atp id ver e len=>
   obtain⟨a1,a2,ty,esz,row,a3,a4⟩:=q2;refine⟨a1,a2,ty,esz,row,a3,by simpa using a4.1,fun i x y p hy=>?_⟩;rw[cT3,bH3]at p;obtain⟨_,_,rfl⟩:=p;exact .undef
 obtain⟨z1,z2,z3,z4⟩:=d.hr.zr i o u;exact⟨z1,z2,fun j v e l a b=>z3 j v e l (c j a) b,z4⟩;rcases hn with⟨j,v1,g,m,w,z⟩|hn;exact .inl ⟨j,v1,g,m,c j w,z⟩;exact .inr hn;obtain⟨o',p1,p2⟩:=(hs j).2 o f;refine⟨o',p1,fun hb=>?_⟩;rcases p2 with rfl|⟨cs,rfl,rfl⟩
 exact⟨hb,rfl⟩;exact⟨rfl,rfl⟩
end
end Go.P
namespace Go.P
open Go.Sim (AV AO Hp iJ upd St IC IX Ex hZ CK Wf Out doOp lI exec newOK My nameOK jL)
def Tn {q:Nat->Bool} {d:Nat} {c:AV} (h:Nml c):nameOK q (d+1) c=true:=by
 unfold Nml at h;cases c with
 |ptr=>simp[nameOK]at h
 |sl=>simp[nameOK]at h
 |map=>simp[nameOK]at h
 |fn f a b=>
  simp only[nameOK,bF3]at h ⊢;obtain⟨⟨h1,h2⟩,e⟩:=h;have g:a=[]:=by cases a<;>simp[nameOK]at h2 ⊢
  have hb:b=[]:=by cases b<;>simp[nameOK]at e ⊢
  subst g;subst hb;refine⟨⟨?_,rfl⟩,rfl⟩;cases f<;>simp_all
 |agg cs=>
  simp only[nameOK]at h ⊢;have:cs=[]:=by cases cs<;>simp[nameOK]at h ⊢
  rw[this];rfl
 |tup cs=>
  simp only[nameOK]at h ⊢;have:cs=[]:=by cases cs<;>simp[nameOK]at h ⊢
  rw[this];rfl
 |_=>rfl
def wO {C:Cx} {p:AV->Bool} {cs:aA PV} {cs':aA AV} (hl:LR (RV C) cs cs') (h:∀x∈cs,∀y,RV C x y->p y=true):cs'.all p=true:=by
 rw[bJ3];intro y hy;obtain⟨j,a⟩:=bX3.1 hy;have b:j<cs.length:=by rw[hl.1];exact(bG3.1 a).1
 exact h cs[j] (by simp) y (hl.2 j _ y (by simp) a)
def rE {C:Cx} {q:Nat->Bool}:∀{d:Nat} {x:PV} {y:AV},eE d x=true->RV C x y->nameOK q (d+1) y=true
 |0,_,_,h,_=>by simp[eE]at h
 |d+1,x,y,hc,hv=>by
  cases x with
  |v a=>rw[jB hv];rfl
  |is e rows=>rcases wI hv with⟨_,rfl,_⟩|⟨_,rfl⟩<;>rfl
  |ip cs=>obtain⟨_,rfl,_⟩:=Bq hv;rfl
  |im es=>obtain⟨_,rfl,_⟩:=Vq hv;rfl
  |fn f a b=>
   simp only[eE,bF3,bJ3]at hc
   obtain⟨a',b',rfl,h1,h2⟩:=yA hv
   show((true&&a'.all (nameOK q (d+1)))&&b'.all (nameOK q (d+1)))=true
   rw[wO h1 fun x c y hy=>rE (hc.1 x c) hy,wO h2 fun x c y hy=>rE (hc.2 x c) hy]
   rfl
  |agg cs=>
   simp only[eE,bJ3]at hc
   obtain⟨cs',rfl,h1⟩:=qP hv
   exact wO h1 fun x c y hy=>rE (hc x c) hy
  |tup cs=>
   simp only[eE,bJ3]at hc
   obtain⟨cs',rfl,h1⟩:=Fo hv
   exact wO h1 fun x c y hy=>rE (hc x c) hy
  |_=>simp[eE]at hc
def eX1 {q:Nat->Bool}:∀{d:Nat} {y:AV},nameOK q d y=true->nameOK q (d+1) y=true
 |0,_,h=>by simp[nameOK]at h
 |d+1,y,h=>by
  have all:∀{l:aA AV},l.all (nameOK q d)=true->l.all (nameOK q (d+1))=true:=fun h=>bJ3.2 fun x c=>eX1 (bJ3.1 h x c)
  cases y with
  |fn f a b=>
   simp only[nameOK,bF3]at h ⊢
   exact⟨⟨h.1.1,all h.1.2⟩,all h.2⟩
  |agg cs=>exact all h
  |tup cs=>exact all h
  |ptr=>exact h
  |sl=>exact h
  |map=>exact h
  |_=>rfl
def yK {C C2:Cx} {q:Nat->Bool} (c:∀k id v e l,C k=some (.atp id v e l)->q id=true) (h2:∀k pl,C k=some pl->C2 k=some pl):∀{d:Nat} {x:PV} {y:AV},Lc d x=true->RV C x y->nameOK q (d+1) y=true/\RV C2 x y
 |0,_,_,h,_=>by simp[Lc]at h
 |d+1,x,y,hc,hv=>by
  cases x with
  |v a=>have:=jB hv;subst this;exact⟨rfl,.cl (.v _)⟩
  |is e rows=>rcases wI hv with⟨_,rfl,h⟩|⟨rfl,rfl⟩<;>refine⟨rfl,.cl ?_⟩<;>cases hv<;>assumption
  |ip cs=>obtain⟨_,rfl,h⟩:=Bq hv;exact⟨rfl,.cl (.ip h.1 h.2)⟩
  |im es=>obtain⟨_,rfl,h⟩:=Vq hv;exact⟨rfl,.cl h.im⟩
  |own k=>
   rcases jI hv with⟨id,ver,e,len,h,rfl⟩|⟨h,rfl⟩
   exact⟨c k id ver e len h,.own (h2 _ _ h)⟩
   exact⟨rfl,.ownn (h2 _ _ h) rfl⟩
  |agg cs=>
   simp only[Lc,bJ3]at hc
   obtain⟨cs',rfl,h1⟩:=qP hv
   exact⟨wO h1 fun x f y hy=>(yK c h2 (hc x f) hy).1,.agg h1.1 fun j x y a b=>(yK c h2 (hc x (bO3 a)) (h1.2 j x y a b)).2⟩
  |tup cs=>
   simp only[Lc,bJ3]at hc
   obtain⟨cs',rfl,h1⟩:=Fo hv
   exact⟨wO h1 fun x f y hy=>(yK c h2 (hc x f) hy).1,.tup h1.1 fun j x y a b=>(yK c h2 (hc x (bO3 a)) (h1.2 j x y a b)).2⟩
  |_=>simp[Lc]at hc
def Bu {n:Nat}:∀{h:aA iJ},∀e∈Sim.newEnts n h,∃i o,e=.ob i o/\n<=i
 |[],e,he=>by simp[Sim.newEnts]at he
 |.mark::h,e,he=>by simp[Sim.newEnts]at he
 |.ob i o::h,e,he=>by
  simp only[Sim.newEnts]at he
  split at he
  rename_i hn
  rcases bR3.1 he with rfl|he
  grind
  exact Bu e he
  simp at he
def Zm {q:Nat->Bool} {n:Nat} {h:aA iJ}:∀e∈newOK q n h,∃i o,e=.ob i o/\n<=i:=fun e he=>Bu e (List.mem_filter.1 he).1
def yL {q:Nat->Bool} {n:Nat} {r t:aA iJ}:∀{pre:aA iJ} {m:Nat},Wf (pre++t) m->(∀e∈pre,∃i o,e=.ob i o/\n<=i)->(∀e∈t,e=.mark)->∀{id:Nat} {ao:AO},Sim.look (pre++t) id=some ao->jL q ao=true->Sim.look (newOK q n (pre++t)++r) id=some ao
 |[],m,hw,hp,a,id,ao,hl,hq=>by
  have:∀{t:aA iJ},(∀e∈t,e=.mark)->Sim.look t id=none:=by
   intro t
   induction t with
   |nil=>intro _;rfl
   |cons e t ih=>
    intro a;rw[a e (by simp)];exact ih fun e he=>a e (by simp[he])
  rw[eZ3,this a]at hl;cases hl
 |e::pre,m,hw,hp,a,id,ao,hl,hq=>by
  obtain⟨i,o,rfl,hi⟩:=hp e (by simp);have ih:=fun h=>yL (q:=q) (n:=n) (r:=r) (pre:=pre) hw.2 (fun e he=>hp e (by simp[he])) a (id:=id) (ao:=ao) h hq;simp only[dQ3,Sim.look]at hl;unfold newOK at ih ⊢;simp only[dQ3,Sim.newEnts];rw[bK3 hi,List.filter_cons];split at hl;rename_i b;cases hl;rw[bK3 hq];simp only[dQ3,Sim.look];rw[bK3 b];rename_i b;have ih:=ih hl;cases hqo:jL q o with
  |true=>
   rw[bK3 hqo];simp only[dQ3,Sim.look];rw[bM3 b];exact ih
  |false=>
   rw[bM3 (fun hc=>by have hc:jL q o=true:=hc;rw[hqo]at hc;cases hc)];exact ih
def Pr:∀{r t:aA iJ},iB r (My t)->∀e∈r,e=.mark
 |[],_,_,e,he=>by simp at he
 |.mark::r,t,h,e,he=>by
  rcases bR3.1 he with rfl|he
  rfl
  induction t with
  |nil=>exact h.elim
  |cons a t ih=>
   cases a with
   |mark=>exact Pr (t:=t) h e he
   |ob i o=>exact ih h
 |.ob i o::r,t,h,e,he=>by
  exfalso
  induction t with
  |nil=>exact h
  |cons a t ih=>
   cases a with
   |mark=>exact h
   |ob i o=>exact ih h
def Tp:∀(h:aA iJ) (n:Nat),Wf (My h) n
 |[],_=>trivial
 |.mark::r,n=>Tp r n
 |.ob _ _::r,n=>Tp r n
def Gp (p:Nat->Bool):∀(h:aA iJ),Sim.entsOK p (My h)=true
 |[]=>rfl
 |.mark::r=>Gp p r
 |.ob _ _::r=>Gp p r
def uC (L:Nat->aB AO):∀(h:aA iJ),Sim.changed L (My h)=some []
 |[]=>rfl
 |.mark::r=>uC L r
 |.ob _ _::r=>uC L r
section
variable {L1 L2:Nat->Option AO} {w w2:Nat->Option (Nat×Nat×Nat)} {lim lo nS:Nat} {q:Nat->Bool}
def Wk {d id:Nat} {ty e ver:Nat} {ks:aA (Nat×TD)} {rows:aA (aA PV)} {els:aA (aA AV)} (n:∀o,lo<=o->o<nS->q o=true) (hw:∀o sl,w o=some sl->lo<=o) (h:rows.length<=els.length/\SL rows.length els)
  (hr:∀(i:Nat) (r:aA PV) (r':aA AV),rows[i]? =some r->els[i]? =some r'->r.length=r'.length/\∀(j:Nat) (a:PV) (b:AV),r[j]? =some a->r'[j]? =some b->match iH ks j with
   |none=>RC true a b
   |some t=>gL L1 w lim nS d (id,i,j) t a b):jL q (.arr false ty e ver els)=true:=by
 simp only[jL,bJ3];intro row f c hc;obtain⟨i,hi⟩:=bX3.1 f;by_cases m:i<rows.length;obtain⟨h1,h2⟩:=hr i rows[i] row (by simp) hi;obtain⟨j,k⟩:=bX3.1 hc;have g:j<(rows[i]).length:=by rw[h1];exact(bG3.1 k).1
 have:=h2 j _ c (bY3 g) k;cases hk:iH ks j with
 |none=>rw[hk]at this;exact Tn this.nml
 |some t=>
  rw[hk]at this;cases d with
  |zero=>exact this.elim
  |succ d=>
   obtain⟨ty',e',p⟩:=t;obtain⟨rows',_,l⟩:=this;rcases l with⟨_,rfl⟩|⟨id',ver',els',rfl,k2,k3,k4,_⟩
   rfl;exact n id' (hw _ _ k2) k4
 exact Tn (h.2 i row (by omega) hi c hc)
def gL.merge (f:∀o,lo<=o->o<nS->q o=true) (hw:∀o sl,w o=some sl->lo<=o/\w2 o=some sl) (c:∀o ao,lo<=o->L1 o=some ao->jL q ao=true->L2 o=some ao):∀{d:Nat} {sl:Nat×Nat×Nat} {t:TD} {x:PV} {y:AV},gL L1 w lim nS d sl t x y->gL L2 w2 lim nS d sl t x y
 |0,_,_,_,_,h=>h.elim
 |d+1,sl,.nd ty e ks,x,y,h=>by
  obtain⟨rows,h1,h2⟩:=h
  refine⟨rows,h1,?_⟩
  rcases h2 with h2|⟨id,ver,els,k1,k2,k3,k4,kf,k5,k6,k7⟩
  exact .inl h2
  refine .inr ⟨id,ver,els,k1,(hw _ _ k2).2,k3,k4,kf,c _ _ (hw _ _ k2).1 k5 (Wk f (fun o sl h=>(hw o sl h).1) k6 k7),k6,fun i r r' a b=>⟨(k7 i r r' a b).1,fun j x1 g a1 b1=>?_⟩⟩
  have:=(k7 i r r' a b).2 j x1 g a1 b1
  cases hk:iH ks j with
  |none=>rw[hk]at this;exact this
  |some t=>rw[hk]at this;exact gL.merge f hw c this
end
def Ps:∀{h:aS} {k:Nat} {o:dX},Yy h=true->aK h k=some o->(∃ty e g rows,o=.lst ty e g rows/\iQ ty=false)\/∃t rows,o=.tr t rows []
 |[],_,_,_,h=>by simp[aK]at h
 |(j,o')::r,k,o,hl,h=>by
  simp only[Yy,bF3]at hl
  simp only[aK]at h
  split at h
  grind
  exact Ps hl.2 h
section
variable {R:Type} {C:Cx} {n:Nat} {h:aS} {lim:Nat} {s:Hp}
def C0:Cx:=⟨fun _=>none,fun _=>none,fun _=>none⟩
def qX (lo hi id:Nat):Bool:=Nat.ble lo id&&Nat.blt id hi
def eY1 {lo hi o:Nat} (h1:lo<=o) (h2:o<hi):qX lo hi o=true:=by
 simp[qX,h1,h2]
def mgC (C C1:Cx) (n m:Nat):Cx:=⟨fun k=>if k<n then C k else C1 k,C.z,fun o=>if o<m then C.w o else C1.w o⟩
def fA1 (p:dI C n h lim s) {C1:Cx} {h2 hc:aS} {n2:Nat} {s1:Hp} (m:dI C1 n2 h2 lim s1) (hf:Fr C0 [] {h:=My s.h,n:=s.n} C1 h2 s1) (E:∀k,aK h2 k≠none->n<=k) (S:∀k pl,C1 k=some pl->aK h2 k≠none)
  (hl:Yy h2=true) (hn:n<=n2) (D:∀k,aK hc k=(aK h2 k).or (aK h k)):
  dI (mgC C C1 n s.n) n2 hc lim {h:=newOK (qX s.n s1.n) s.n s1.h++s.h,n:=s1.n}/\Fr C h s (mgC C C1 n s.n) hc {h:=newOK (qX s.n s1.n) s.n s1.h++s.h,n:=s1.n}/\C.le (mgC C C1 n s.n)/\∀k pl,C1 k=some pl->(mgC C C1 n s.n) k=some pl:=by
 have y:s.n<=s1.n:=hf.n
 have K:∀{k},aK h k≠none->k<n:=fun{k} hk=>by
  cases hc:aK h k with
  |none=>exact absurd hc hk
  |some o=>obtain⟨pl,p1,_⟩:=p.hr.ob k o hc;exact p.dom k pl p1
 have T:∀{k},k<n->aK h2 k=none:=fun{k} hk=>by
  cases hc:aK h2 k with
  |none=>rfl
  |some o=>have:=E k (by rw[hc];simp);omega
 have R:∀{k id v e l},C1 k=some (.atp id v e l)->s.n<=id/\id<s1.n:=fun{k id v e l} hk=>by
  have hg:=S k _ hk;refine⟨?_,(m.hr.lt hg hk).2⟩;rcases eN3 id s.n with u|h;rcases hf.own id u (.inl ⟨k,v,e,l,hg,hk⟩)with⟨k',v',e',l',q1,_⟩|q1;exact absurd rfl q1;exact absurd rfl q1;exact h
 have N:∀{id sl},C1.w id=some sl->s.n<=id/\id<s1.n:=fun{id sl} hw=>by
  refine⟨?_,(m.hr.wb id sl hw).1⟩;rcases eN3 id s.n with u|h;rcases hf.own id u (.inr (by rw[hw];simp))with⟨k',v',e',l',q1,_⟩|q1;exact absurd rfl q1;exact absurd rfl q1;exact h
 obtain⟨pre,r,U,b6,b5⟩:=hf.sk;have b0:∀e∈r,e=.mark:=Pr b6;have z:∀{id},id<s.n->Sim.look (newOK (qX s.n s1.n) s.n s1.h++s.h) id=Sim.look s.h id:=fun{id} hid=>Sim.look_newOK_lt hid
 have B:∀{id ao},Sim.look s1.h id=some ao->jL (qX s.n s1.n) ao=true->Sim.look (newOK (qX s.n s1.n) s.n s1.h++s.h) id=some ao:=fun{id ao} hl hq=>by
  have hw:=m.wf;rw[U]at hl hw ⊢;exact yL hw b5 b0 hl hq
 have u:∀k,k<n->(mgC C C1 n s.n) k=C k:=fun k hk=>bK3 hk;have J:∀k,n<=k->(mgC C C1 n s.n) k=C1 k:=fun k hk=>bM3 (by omega);have L:C.le (mgC C C1 n s.n):=⟨fun k pl hk=>by rw[u k (p.dom k pl hk)];exact hk,fun _ _ h=>h⟩
 have H:∀k pl,C1 k=some pl->(mgC C C1 n s.n) k=some pl:=fun k pl hk=>by rw[J k (E k (S k pl hk))];exact hk
 have F:∀{o},o<s.n->(mgC C C1 n s.n).w o=C.w o:=fun{o} G=>bK3 G;have M:∀{o},s.n<=o->(mgC C C1 n s.n).w o=C1.w o:=fun{o} G=>bM3 (by omega)
 have Z:∀{k},aK hc k≠none->(k<n/\aK h k≠none)\/(n<=k/\aK h2 k≠none):=fun{k} hk=>by
  rw[D]at hk;cases h2k:aK h2 k with
  |none=>
   rw[h2k]at hk;exact .inl ⟨K hk,hk⟩
  |some o=>exact .inr ⟨E k (by rw[h2k];simp),by simp⟩
 have f:∀{k id v e l},aK hc k≠none->(mgC C C1 n s.n) k=some (.atp id v e l)->(k<n/\aK h k≠none/\C k=some (.atp id v e l)/\id<s.n)\/(n<=k/\aK h2 k≠none/\C1 k=some (.atp id v e l)/\s.n<=id):=fun{k id v e l} hk O=>by
  rcases Z hk with⟨A,W⟩|⟨A,W⟩
  rw[u k A]at O;exact .inl ⟨A,W,O,(p.hr.lt W O).2⟩;rw[J k A]at O;exact .inr ⟨A,W,O,(R O).1⟩
 refine⟨⟨⟨fun k o hk=>?_,fun k k' id v e l v' e' l' a b c d=>?_,fun id o X=>?_,fun k id v e l a b=>?_,fun id sl hw=>?_,fun id o X=>?_⟩,fun k pl hk=>?_,p.wf.newOK m.wf y,cH3 p.lim y⟩,
  ⟨⟨_,s.h,rfl,.refl _,Zm⟩,y,fun id hid _=>z hid,fun id hid G=>?_,fun k o hk=>⟨o,?_,fun hb=>⟨hb,u k (K (by rw[hk];simp))⟩⟩,fun _ _ h=>h,fun id _ h=>.inl h⟩,L,H⟩
 ·
  rw[D]at hk;cases h2k:aK h2 k with
  |none=>
   rw[h2k]at hk;have hk:aK h k=some o:=hk;obtain⟨pl,p1,p2⟩:=p.hr.ob k o hk;refine⟨pl,L.1 _ _ p1,p2.mono y L (fun id v e l hp=>?_) (fun Y sl G=>?_)⟩;subst hp;exact z (p.hr.lt (by rw[hk];simp) p1).2;have:=(p.hr.wb Y sl G).1;exact⟨by rw[F this];exact G,z this⟩
  |some Y=>
   rw[h2k]at hk;have hk:Y=o:=by simpa using hk
   subst hk;obtain⟨pl,p1,p2⟩:=m.hr.ob k Y h2k;refine⟨pl,H _ _ p1,?_⟩;rcases Ps hl h2k with⟨ty,e,g,rows,rfl,b7⟩|⟨t,rows,rfl⟩
   cases pl with
   |nil=>exact p2
   |atp id ver e' len=>
    obtain⟨a1,a2,a3,a4,els,a5,a6,a7,a8⟩:=p2;refine⟨a1,a2,a3,a4,els,B a5 ?_,a6,a7,a8⟩;simp only[jL,bJ3];intro row V c hc;obtain⟨i,hi⟩:=bX3.1 V;exact Tn (SL.cut a6 a7.2 0 i row (cQ3 _) hi c hc)
   obtain⟨ty,e,ks⟩:=t;cases pl with
   |nil=>exact p2
   |atp id ver e' len=>
    obtain⟨a1,a2,a3,a4,af,els,d,a5,a6,a7⟩:=p2
    have P:∀(i:Nat) (r:aA PV) (r':aA AV),rows[i]? =some r->els[i]? =some r'->r.length=r'.length/\∀(j:Nat) (a:PV) (b:AV),r[j]? =some a->r'[j]? =some b->match iH ks j with
      |none=>RC true a b
      |some t=>gL (Sim.look s1.h) C1.w lim s1.n d (id,i,j) t a b:=fun i r r' c1 c2=>⟨(a7 i r r' c1 c2).1,fun j a b c3 c4=>by
     have:=(a7 i r r' c1 c2).2 j a b c3 c4;unfold TC at this;cases hkd:iH ks j with
     |none=>rw[hkd]at this;exact this
     |some t=>
      rw[hkd]at this;rcases this with⟨⟨x,hx⟩,_⟩|⟨_,this⟩
      cases hx;exact this⟩
    have hq:=Wk (lo:=s.n) (q:=qX s.n s1.n) (ty:=ty) (e:=e) (ver:=ver) (fun o h1 h2=>eY1 h1 h2) (fun o sl h=>(N h).1) a6 P;refine⟨a1,a2,a3,a4,af,els,d,B a5 hq,a6,fun i r r' c1 c2=>⟨(a7 i r r' c1 c2).1,fun j a b c3 c4=>?_⟩⟩;have:=(P i r r' c1 c2).2 j a b c3 c4;unfold TC;cases hkd:iH ks j with
    |none=>rw[hkd]at this;exact this
    |some t=>
     rw[hkd]at this;exact .inr ⟨fun⟨x,hx⟩=>(by cases hx),this.merge (lo:=s.n) (fun o h1 h2=>eY1 h1 h2) (fun o sl h=>⟨(N h).1,by rw[M (N h).1];exact h⟩) (fun o ao _ h1 h2=>B h1 h2)⟩
 rcases f a c with⟨a1,a2,a3,a4⟩|⟨a1,a2,a3,a4⟩<;>rcases f b d with⟨b1,b2,b3,b4⟩|⟨b1,b2,b3,b4⟩
 exact p.hr.inj k k' id v e l v' e' l' a2 b2 a3 b3;omega;omega;exact m.hr.inj k k' id v e l v' e' l' a2 b2 a3 b3;obtain⟨z1,z2,z3,z4⟩:=p.hr.zr id o X;refine⟨by rw[z z2];exact z1,cO3 z2 y,fun k v e l a b=>?_,z4⟩;rcases f a b with⟨a1,a2,a3,a4⟩|⟨a1,a2,a3,a4⟩
 exact z3 k v e l a2 a3;omega;rcases f a b with⟨a1,a2,a3,a4⟩|⟨a1,a2,a3,a4⟩
 rw[F a4];exact p.hr.wn k id v e l a2 a3;rw[M a4];exact m.hr.wn k id v e l a2 a3;rcases eN3 id s.n with A|A;rw[F A]at hw;have:=p.hr.wb id sl hw;exact⟨cO3 A y,cO3 this.2 y⟩;rw[M A]at hw;exact m.hr.wb id sl hw;have:=(p.hr.zr id o X).2.1;rw[F this];exact p.hr.wz id o X;rcases eN3 k n with A|A;omega;rw[J k A]at hk;exact m.dom k pl hk;rcases G with⟨k,v,e,l,a,b⟩|G;rcases f a b with⟨a1,a2,a3,a4⟩|⟨a1,a2,a3,a4⟩
 exact .inl ⟨k,v,e,l,a2,a3⟩;omega;rw[F hid]at G;exact .inr G;rw[D,T (K (by rw[hk];simp)),hk];rfl
def lZ1 {e:gG} {t:aA AV} {xs:aA PV} {ys:aA AV} {run:aS->Nat->(PV->aS->Nat->aB (PV×aS×Nat))->aB (PV×aS×Nat)} {nw:Bool} {kill:aA Nat} {K:PV->gG->aS->Nat->aB R} {r:R} {P:Hp->AV->Hp->Prop} (hM:dI C n h lim s) (he:fF C e t) (J:LR (RV C) xs ys)
  (H:∀(C0:Cx) (m:Nat) (K':PV->aS->Nat->aB (PV×aS×Nat)) (r':PV×aS×Nat) (s0:Hp),dI C0 m [] lim s0->LR (RV C0) xs ys->run [] m K'=some r'->
   ∃v h' n' C' y s',K' v h' n'=some r'/\RV C' v y/\dI C' n' h' lim s'/\m<=n'/\Fr C0 [] s0 C' h' s'/\P s0 y s')
  (hk:inE run nw xs e h n kill K=some r):
  ∃v e' h' n' C' y s',K v e' h' n'=some r/\RV C' v y/\(∀i w,gD e' i=some w->∃z,t[i]? =some z/\RV C' w z/\i∉kill)/\dI C' n' h' lim s'/\n<=n'/\Fr C h s C' h' s'/\
   C.le C'/\∃s1,P {h:=My s.h,n:=s.n} y s1/\∀(f:Hp->aB (AV×Hp)) (hid:aA Nat),f {h:=My s.h,n:=s.n}=some (y,s1)->Sim.callX true f hid ys s=some (y,s',[]):=by
 unfold inE at hk;cases hc:(nw&&xs.all (eE 4))with
 |false=>rw[hc]at hk;exact aD hk
 |true=>
 rw[hc,bS3,cE,bD3]at hk;obtain⟨r1,W,hk⟩:=hk;simp only[bF3]at hc;cases hls:(Yy r1.2.1&&Lc 4 r1.1)with
 |false=>rw[hls]at hk;exact aD hk
 |true=>
 rw[hls,bS3,Pa]at hk;simp only[bF3]at hls;have G:LR (RC false) xs ys:=⟨J.1,fun j x y a b=>Ae (J.2 j x y a b) (bJ3.1 hc.2 x (bO3 a))⟩
 have N:dI C0 n [] lim ({h:=My s.h,n:=s.n}:Hp):=⟨⟨fun k po h=>by simp[aK]at h,fun k k' id v e l v' e' l' a=>absurd rfl a,fun id o h=>(by cases h),fun k id v e l a=>absurd rfl a,fun id sl h=>(by cases h),fun id o h=>(by cases h)⟩,fun k pl h=>(by cases h),Tp _ _,hM.lim⟩
 obtain⟨v,h1,n1,C1,y,s1,q1,q2,q3,q4,q5,q6⟩:=H C0 n _ r1 _ N (G.mono fun x y h=>.cl h) W;unfold Lb at q1;obtain⟨Z,w1⟩:=jE (jM 5) _ _ _ _ q1;obtain⟨b0,w1⟩:=gU _ _ _ _ _ w1;obtain⟨h2,_,w1,u⟩:=uY w1;cases hch2:(Yw h2 (tW [])&&(bif true then Yv [] n h2 else Yx [] h2)&&(oI (lK h2) 5 v&&mS (lK h2) h2))with
 |false=>rw[hch2]at w1;exact aD w1
 |true=>
 rw[hch2,bS3]at w1;cases w1;simp only[bF3,bS3]at hch2 hls hk;obtain⟨⟨c1,c2⟩,c3,c4⟩:=hch2
 have c:∀k o,aK h2 k=some o->aK h1 k=some o:=fun k o g=>by
  rw[(u k).1]at g;split at g;exact g;cases g
 have A:=q3.part c c4
 have F:∀k,aK h2 k≠none->n<=k:=fun k hk=>by
  rcases Ai c2 hk with M|M;exact absurd rfl M;exact M
 have L:∀{k},aK h2 k≠none->aK h1 k≠none:=fun{k} hk=>by
  cases hc2:aK h2 k with
  |none=>exact absurd hc2 hk
  |some o=>rw[c k o hc2];simp
 have Y:∀k pl,pN C1 (lK h2) k=some pl->C1 k=some pl/\aK h2 k≠none:=fun k pl hk=>by
  simp only[pN]at hk;split at hk;rename_i hh;exact⟨hk,nX.1 hh⟩;cases hk
 have D:Fr C0 [] {h:=My s.h,n:=s.n} (pN C1 (lK h2)) h2 s1:=⟨q5.sk,q5.n,q5.keep,fun id hid T=>by
   rcases T with⟨k,v,e,l,a,b⟩|T;exact q5.own id hid (.inl ⟨k,v,e,l,L a,(Y k _ b).1⟩);exact q5.own id hid (.inr T),fun k o hk=>by simp[aK]at hk,q5.zl,q5.zn⟩
 obtain⟨B,hk,O⟩:=Ah hk;rw[gO]at hk;obtain⟨m1,m2,m3,m4⟩:=fA1 hM A D F (fun k pl hk=>(Y k pl hk).2) hls.1 q4 O;have U:=yH (p:=lK h2) q2 c3
 have E:∀k id v e l,pN C1 (lK h2) k=some (.atp id v e l)->qX s.n s1.n id=true:=fun k id v e l hk=>by
  have hg:=(Y k _ hk).2;refine eY1 ?_ (A.hr.lt hg hk).2;rcases eN3 id s.n with S|h;rcases D.own id S (.inl ⟨k,v,e,l,hg,hk⟩)with⟨k',v',e',l',z1,_⟩|z1;exact absurd rfl z1;exact absurd rfl z1;exact h
 obtain⟨v1,v2⟩:=yK E m4 hls.2 U;refine⟨v,edel e kill,B,n1,_,y,_,hk,v2,fun i w hw=>?_,m1,q4,m2,m3,s1,q6,fun f hid V=>?_⟩;obtain⟨z,p1,p2,p3⟩:=(he.mono m3).edel kill i w hw;exact⟨z,p1,p2,p3⟩
 have hnl:Sim.nameless ys=true:=wO (C:=C0) (G.mono fun x y h=>.cl h) fun x J y hy=>by
  have:=rE (q:=fun _=>false) (bJ3.1 hc.2 x J) hy;exact eX1 this
 unfold Sim.callX;simp only[hnl,cF3,eO3,Bool.false_and,Bool.false_or,Gp,fE3];unfold Sim.nameless at hnl;rw[bK3 hnl,V];simp only[uC];have X:nameOK (fun id=>Nat.ble s.n id&&Nat.blt id s1.n) 6 y=true:=eX1 (d:=5) v1;simp only[X,List.all_nil,Bool.true_or,Bool.and_true,cF3,eR3,Sim.updAll];rfl
end
end Go.P
namespace Go.P
open Go.Sim (AV AO Hp iJ upd St IC IX Ex hZ CK Wf Out doOp lI exec Foot wanted put)
section
variable {R:Type} {T:lI} {O:zF} {X:NX} {dr:Nat}
def Wl {C:Cx}:∀{es:aA (aB Nat)} {cs:aA PV} {ys:aA AV} {K:aA PV->aB R} {r:R},LR (RV C) cs ys->Yz es cs K=some r->∃cs',K cs'=some r/\LR (RV C) cs' ys
 |[],[],ys,K,r,hl,h=>⟨[],h,hl⟩
 |o::os,x::xs,ys,K,r,hl,h=>by
  obtain⟨y,c,rfl,h1,h2⟩:=hl.inv_cons
  unfold Yz at h
  obtain⟨cs',a,b⟩:=Wl h2 h
  cases o with
  |none=>exact⟨_,a,.cons h1 b⟩
  |some e=>
   simp only at a
   split at a
   have:=jB h1
   subst this
   exact⟨_,a,.cons (.cl .isn) b⟩
   exact aD a
 |[],_::_,_,_,_,_,h=>by unfold Yz at h;exact aD h
 |_::_,[],_,_,_,_,h=>by unfold Yz at h;exact aD h
def mA1 {C:Cx} {n:Nat} {h:aS} {lim:Nat} {s:Hp} (u:dI C n h lim s) {k id ver e len:Nat} {cs cs2:aA PV} {ty e':Nat} {g:Bool} (hk:aK h k=some (.box cs)) (x:C k=some (.atp id ver e len))
  (y:∀row,LR (RV C) cs row->LR (RV (ext C n .nil)) cs2 row):
  dI (ext C n .nil) (n+1) ((n,qY ty e' g)::cZ h k (.box cs2)) lim s/\Fr C h s (ext C n .nil) ((n,qY ty e' g)::cZ h k (.box cs2)) s:=by
 obtain⟨p,r⟩:=Tb u (ty:=ty) (e:=e') (g:=g);have D:n≠k:=by have:=u.dom _ _ x;omega
 have m:∀j,aK ((n,qY ty e' g)::cZ h k (.box cs2)) j≠none->aK ((n,qY ty e' g)::h) j≠none:=fun j f=>by
  simp only[aK]at f ⊢;split;simp;rename_i h1;rw[bM3 h1,eN]at f;split at f
  grind
  exact f
 refine⟨⟨⟨fun j o f=>?_,fun j B i v1 q w v2 e2 H a b c d=>p.hr.inj j B i v1 q w v2 e2 H (m j a) (m B b) c d,fun i o E=>?_,fun j i v1 q w a b=>p.hr.wn j i v1 q w (m j a) b,p.hr.wb,p.hr.wz⟩,p.dom,p.wf,p.lim⟩,⟨r.sk,r.n,r.keep,fun i hi z=>?_,fun j o f=>?_,r.zl,r.zn⟩⟩;simp only[aK]at f;split at f;rename_i h1;exact p.hr.ob j o (by simp[aK,h1];simpa using f);rename_i h1;rw[eN]at f;split at f;rename_i h2;obtain⟨rfl,_⟩:=h2;cases f;obtain⟨pl,q1,q2⟩:=u.hr.ob _ _ hk;rw[x]at q1;cases q1;obtain⟨p1,p2,A,esz,row,p3,p4⟩:=q2;exact⟨_,(nI u .nil).1 _ _ x,p1,p2,A,esz,row,p3,y row p4⟩;exact p.hr.ob j o (by simp[aK,h1,f]);obtain⟨z1,z2,z3,z4⟩:=p.hr.zr i o E;exact⟨z1,z2,fun j v e l a b=>z3 j v e l (m j a) b,z4⟩;rcases z with⟨j,v1,q,w,F,G⟩|z;exact r.own i hi (.inl ⟨j,v1,q,w,m j F,G⟩);exact r.own i hi (.inr z);obtain⟨o',q1,q2⟩:=r.kd j o f;have t:n≠j:=fun q=>by rw[uS u (by omega)]at f;cases f
 by_cases q:j=k;subst q;rw[hk]at f;cases f;exact⟨.box cs2,by simp[aK,t,eN,hk],fun _=>⟨rfl,by simp[ext,Ne.symm t]⟩⟩;refine⟨o',?_,q2⟩;simpa[aK,t,eN,q]using q1
structure NOK (T:lI) (X:NX):Prop where
 run:∀{R:Type} (f:FuncId) (xs:List PV) (h:aS) (n:Nat) (K:PV->aS->Nat->Option R) (r:R) (C:Cx) (s:Hp) (lim:Nat) (ys:List AV),
  X.is f=true->X.run f xs h n K=some r->LR (RV C) xs ys->dI C n h lim s->
  ∃v h' n' C' y s',K v h' n'=some r/\RV C' v y/\dI C' n' h' lim s'/\n<=n'/\Fr C h s C' h' s'/\(∃ifn,T f=some ifn/\ifn.pure=false/\ifn.frz=X.xw f)/\∃D,∀d,D<=d->Sim.callF T (exec T d) lim f ys s=some (y,s')
 yld:∀{R:Type} (k:Nat) (xs:List PV) (h:aS) (n:Nat) (K:PV->aS->Nat->Option R) (r:R) (C:Cx) (s:Hp) (lim:Nat) (ys:List AV) (id ver e len:Nat),
  X.yld k xs h n K=some r->LR (RV C) xs ys->C k=some (.atp id ver e len)->dI C n h lim s->
  ∃v h' n' C' y s',K v h' n'=some r/\RV C' v y/\dI C' n' h' lim s'/\n<=n'/\Fr C h s C' h' s'/\∃D,∀d,D<=d->Sim.round (exec T d) lim id ys s=some (y,s')
def Gq:∀{h:aA iJ} {id:Nat} {o:AO},Sim.look h id=some o->upd h id o=h
 |[],_,_,h=>by simp[Sim.look]at h
 |.mark::r,id,o,h=>by simp only[Sim.look]at h;simp only[Sim.upd,Gq h]
 |.ob i o'::r,id,o,h=>by
  simp only[Sim.look]at h
  simp only[Sim.upd]
  split at h
  grind
  rename_i e;rw[bM3 e,Gq h]
def Wm:∀{xs:aA IX} {t ys:aA AV},Sim.evs t xs=some ys->ys.length=xs.length
 |[],t,ys,h=>by simp only[Sim.evs,bL3]at h;subst h;rfl
 |x::xs,t,ys,h=>by
  simp only[Sim.evs]at h
  split at h
  rename_i a as c b;cases h;simp[Wm b]
  cases h
def fB1 {C:Cx} {n:Nat} {h:aS} {lim:Nat} {s:Hp} {ty:TypeId} {zero:aA Value} {as:aA PV} {ys:aA AV} (o:dI C n h lim s) (k:LR (RV C) as ys) (r:zero.length=1) (hf:as.all lF1=true):
  ∃C' out,doOp (Sim.look s.h) lim s.n (.buildSl ty 1 as.length zero (List.range as.length)) ys=some out/\RV C' (.own n) out.v/\dI C' (n+1) ((n,.fl as)::h) lim (out.apply s)/\C.le C'/\Fr C h s C' ((n,.fl as)::h) (out.apply s):=by
 have hc:∀(j:Nat) (y:AV),ys[j]? =some y->y.cells=some [y]:=fun j y hy=>by
  have q:j<as.length:=by rw[k.1];exact(bG3.1 hy).1
  have hv:=k.2 j as[j] y (by simp) hy;have l:=bJ3.1 hf as[j] (by simp);cases ha:as[j]with
  |fn f a b=>rw[ha]at hv;obtain⟨a',b',rfl,_⟩:=yA hv;rfl
  |_=>rw[ha]at l;simp[lF1]at l
 have hlen:=k.1;have p:(Sim.zeroRow zero).length=1:=by simp[Sim.zeroRow,r]
 have d:=uW 1 as.length 0 ((List.range as.length).flatMap fun _=>Sim.zeroRow zero) ys (ys.map fun y=>[y]) (by rw[yD,p,List.length_range];simp) hlen.symm (by simp[hlen]) (fun j x k=>⟨[x],hc j x k,rfl,by simp[k]⟩);simp only[fB3,List.take_zero,eZ3]at d;have g:=Vt 1 (ys.map fun y=>[y]) (fun c hc=>by simp at hc;obtain⟨y,_,rfl⟩:=hc;rfl);rw[cX3,<-hlen]at g;have m:=nI o (.atp s.n 0 1 as.length)
 obtain⟨u,w,z⟩:=sD o (po:=.fl as) (ao:=.arr false ty 1 0 (ys.map fun y=>[y])) (ver:=0) (e:=1) (len:=as.length)
  ⟨o.lim,by omega,rfl,rfl,ty,_,by rw[gK,bK3 rfl],by simp[hlen],fun i f row a b=>by
   simp only[cT3,bH3]at b;obtain⟨y,hy,rfl⟩:=b;exact .cons ((k.2 i f y a hy).mono m) .nil⟩
 refine⟨_,{v:=.sl 1 s.n 0 0 as.length none,new:=some (.arr false ty 1 0 (ys.map fun y=>[y]))},?_,.own (pK C n _),u,m,w⟩
 have:doOp (Sim.look s.h) lim s.n (.buildSl ty 1 as.length zero (List.range as.length)) ys=(Sim.fillParts ((List.range as.length).flatMap fun _=>Sim.zeroRow zero) ((List.range as.length).map fun i=>(i*1,1)) ys).map fun cs=>
  {v:=.sl 1 s.n 0 0 as.length none,new:=some (.arr false ty 1 0 ((List.range as.length).map fun i=>(cs.drop (i*1)).take 1))}:=by
  rcases ys with _|⟨a,_|⟨b,_|⟨c,t⟩⟩⟩<;>rfl
 rw[<-List.range_eq_range']at d;rw[this,d];simp only[cE3];rw[g]
def eM (Z:∀f xs v,O f xs=some v->sJ T f xs v) (V:NOK T X) (B:dr=0\/dr=3\/dr=4\/dr=5) {N lim:Nat} {R:Type}:∀(ops:kM) (u G:aA Nat) (l:Bool) (g:aB (Nat×Bool)) (C:Cx) (n:Nat) (h:aS) (e:gG) (t:aA AV) (s:Hp) (K:gG->aS->Nat->aB R) (r:R),
  fP O X dr ops e h n K=some r->fF C e t->dI C n h lim s->t.length=N->lP N u l G ops=true->Rq g t->GIn g u->
  ∃e' h' n' C' F s' fs,K e' h' n'=some r/\Tr T X.is dr lim (rP g ops) {t:=t,s:=s} fs {t:=F,s:=s'}/\fF C' e' F/\dI C' n' h' lim s'/\F.length=N/\n<=n'/\Fr C h s C' h' s'/\∀(i:Nat),i∉dA ops []->F[i]? =t[i]?
 |.nil,u,G,l,g,C,n,h,e,t,s,K,r,hk,he,hM,hN,ho,hg,hgi=>⟨e,h,n,C,t,s,[],by unfold fP at hk;exact hk,.nil,he,hM,hN,bI3 _,.refl _ _ _,fun _ _=>rfl⟩
 |.op d k xs kl rs,u,G,l,g,C,n,h,e,t,s,K,r,hk,he,hM,hN,ho,hg,hgi=>by
  simp only[lP,bF3,bW3,iK,dP3]at ho
  obtain⟨⟨⟨o1,o2⟩,o3⟩,o4⟩:=ho
  have hd:d<t.length:=by omega
  have E:d∉u:=by simpa using o2
  have back:∀{y:AV} {F:aA AV},(∀(i:Nat),i∉dA rs []->F[i]? =(t.set d y)[i]?)->∀(i:Nat),i∉dA (.op d k xs kl rs) []->F[i]? =t[i]? :=fun hb i hi=>by
   simp only[dA,bR3,eC3]at hi
   rw[hb i hi.2,bT3 (Ne.symm hi.1)]
  unfold fP at hk
  rw[kJ,bD3]at hk
  obtain⟨vs,U,hk⟩:=hk
  obtain⟨ys,h1,h2⟩:=lM he o3 U
  have d5:∀{f:FuncId} {xs':aA PV} {zs:aA AV},Bn O f xs' h (fun v=>kT e (d::kl) fun e=>fP O X dr rs ((d,v)::e) h n K)=some r->LR (RV C) xs' zs->kK k=true->(mL X.is dr k=3\/mL X.is dr k=4)->
    ((∃ifn,T f=some ifn/\ifn.pure=true/\(ifn.frz||zs.all (Sim.closed 4))=true)->Sim.foot T k ys={all:=1,x:=true})->(∀(d:Nat) (s:Hp),Sim.step T (exec T d) lim k ys s=Sim.callF T (exec T d) lim f zs s)->
    ∃e' h' n' C' F s' fs,K e' h' n'=some r/\Tr T X.is dr lim (rP g (.op d k xs kl rs)) {t:=t,s:=s} fs {t:=F,s:=s'}/\fF C' e' F/\dI C' n' h' lim s'/\F.length=N/\n<=n'/\Fr C h s C' h' s'/\∀(i:Nat),i∉dA (.op d k xs kl rs) []->F[i]? =t[i]? :=by
   intro f xs' zs hk hz hc g8 hf i2;obtain⟨v,y,q,h4,h5,D,h6⟩:=Pk (lim:=lim) Z hM hk hz;simp only[gO]at q
   have A:fF C ((d,v)::edel e (d::kl)) (t.set d y):=.put hd (.cl h4) (fun i w hw=>by
    obtain⟨z,p1,p2,p3⟩:=he.edel (d::kl) i w hw;exact⟨z,p1,p2,fun S=>p3 (by simp[S])⟩)
   obtain⟨e2,d2,H,C2,L,J,fs,r1,r2,r3,r4,r5,r6,r7,r8⟩:=eM Z V B rs u (d::G) l g C n h _ _ s K r q A hM (by simpa using hN) o4 (hg.set hgi E) hgi;exact⟨e2,d2,H,C2,L,J,_,r1,.call (o:=⟨some d,k,xs.map eX,g⟩) hg.wanted h1 hc g8 (hf h5) ⟨D,fun d hd m=>by rw[i2];exact h6 d hd m⟩ r2,r3,r4,r5,r6,r7,back r8⟩
  have ncall:∀{run:aS->Nat->(PV->aS->Nat->aB (PV×aS×Nat))->aB (PV×aS×Nat)} {xs':aA PV} {zs:aA AV} {P:AV->Hp->Prop} {nw fx:Bool},LR (RV C) xs' zs->
    (∀(hs:aS) (C0:Cx) (m:Nat) (K':PV->aS->Nat->aB (PV×aS×Nat)) (r':PV×aS×Nat),dI C0 m hs lim s->LR (RV C0) xs' zs->run hs m K'=some r'->
     ∃v h' n' C' y s',K' v h' n'=some r'/\RV C' v y/\dI C' n' h' lim s'/\m<=n'/\Fr C0 hs s C' h' s'/\P y s')->
    kK k=true->(∀y s',P y s'->((Sim.foot T k ys).all=2\/dr=0)/\(dr≠0->mL X.is dr k=4)/\∃D,∀d,D<=d->Sim.step T (exec T d) lim k ys s=some (y,s'))->
    lE1 fx run nw xs' e h n (d::kl) (fun v e h n=>fP O X dr rs ((d,v)::e) h n K)=some r->
    ∃e' h' n' C' F s' fs,K e' h' n'=some r/\Tr T X.is dr lim (rP g (.op d k xs kl rs)) {t:=t,s:=s} fs {t:=F,s:=s'}/\fF C' e' F/\dI C' n' h' lim s'/\F.length=N/\n<=n'/\Fr C h s C' h' s'/\∀(i:Nat),i∉dA (.op d k xs kl rs) []->F[i]? =t[i]? :=by
   intro run xs' zs P nw fx hz f6 g7 hP hk;obtain⟨v,e',h',n',C',y,s',q1,q2,q3,q4,q5,q6,q7⟩:=eT1 hM he hz f6 hk;obtain⟨p1,p2,p3⟩:=hP y s' q7
   have A:fF C' ((d,v)::e') (t.set d y):=.put hd q2 (fun i w hw=>by
    obtain⟨z,p1,p2,p3⟩:=q3 i w hw;exact⟨z,p1,p2,fun S=>p3 (by simp[S])⟩)
   obtain⟨e2,d2,H,C2,L,J,fs,r1,r2,r3,r4,r5,r6,r7,r8⟩:=eM Z V B rs u (d::G) l g C' n' h' _ _ s' K r q1 A q4 (by simpa using hN) o4 (hg.set hgi E) hgi;exact⟨e2,d2,H,C2,L,J,_,r1,.ncall (o:=⟨some d,k,xs.map eX,g⟩) hg.wanted h1 g7 p1 p2 p3 q6.n r2,r3,r4,r5,by omega,q6.trans r7,back r8⟩
  split at hk;rename_i ty es b zero x1 x2;obtain⟨y1,d0,rfl,p1,p2⟩:=h2.inv_cons;obtain⟨y2,f4,rfl,p3,p4⟩:=p2.inv_cons;have:=p4.inv_nil;subst this;obtain⟨C',e',h',out,q1,q2,q3,q4,q5⟩:=lQ1 hM (b:=b) (zero:=zero) he hd p1 p3 hk;obtain⟨e2,q,H,C2,L,J,fs,r1,r2,r3,r4,r5,r6,r7,r8⟩:=eM Z V B rs u (d::G) l g C' n h' e' _ _ K r q1 q4 q3 (by simpa using hN) o4 (hg.set hgi E) hgi;exact⟨e2,q,H,C2,L,J,_,r1,.op (o:=⟨some d,_,xs.map eX,g⟩) hg.wanted h1 rfl q2 r2,r3,r4,r5,r6,q5.trans r7,back r8⟩;rename_i es k0 kd hi;obtain⟨y1,d0,rfl,p1,p2⟩:=h2.inv_cons;obtain⟨y2,f4,rfl,p3,p4⟩:=p2.inv_cons;have:=p4.inv_nil;subst this;obtain⟨C',e',h',out,q1,q2,q3,q4,q5⟩:=Zj hM he hd p1 p3 hk;obtain⟨e2,q,H,C2,L,J,fs,r1,r2,r3,r4,r5,r6,r7,r8⟩:=eM Z V B rs u (d::G) l g C' n h' e' _ _ K r q1 q4 q3 (by simpa using hN) o4 (hg.set hgi E) hgi;exact⟨e2,q,H,C2,L,J,_,r1,.op (o:=⟨some d,_,xs.map eX,g⟩) hg.wanted h1 rfl q2 r2,r3,r4,r5,r6,q5.trans r7,back r8⟩;rename_i f;cases hX1:X.is f with
  |true=>
   rw[hX1,bS3]at hk;by_cases h5:dr=5;rw[bO,cJ3 h5,bS3]at hk;cases M:X.xw f with
   |false=>rw[M]at hk;exact aD hk
   |true=>
    rw[M,bS3]at hk
    obtain⟨v,e',h',n',C',y,s',q1,q2,q3,q4,q5,q6,⟨w1,w2⟩⟩:=lZ1 (P:=fun s0 y s'=>(∃ifn,T f=some ifn/\ifn.pure=false/\ifn.frz=true)/\∃D,∀d,D<=d->Sim.callF T (exec T d) lim f ys s0=some (y,s')) hM he h2 (fun C0 m K' r' s0 b6 b9 hr=>by
     have:=V.run f vs [] m K' r' C0 s0 lim ys hX1 hr b9 b6;rw[M]at this;exact this) hk
    obtain⟨s1,⟨⟨ifn,w3,w4,w5⟩,D,w6⟩,w7⟩:=w2
    have A:fF C' ((d,v)::e') (t.set d y):=.put hd q2 (fun i w hw=>by
     obtain⟨z,p1,p2,p3⟩:=q3 i w hw;exact⟨z,p1,p2,fun S=>p3 (by simp[S])⟩)
    obtain⟨e2,d2,H,C2,L,J,fs,r1,r2,r3,r4,r5,r6,r7,r8⟩:=eM Z V B rs u (d::G) l g C' n' h' _ _ s' K r q1 A q4 (by simpa using hN) o4 (hg.set hgi E) hgi;exact⟨e2,d2,H,C2,L,J,_,r1,.xcall (o:=⟨some d,.callF f,xs.map eX,g⟩) hg.wanted h1 rfl (by simp[mL,hX1,h5]) (by simp[Sim.foot,w3,w4,w5]) ⟨D,fun d hd hid=>w7 _ hid (w6 d hd)⟩ q6.n r2,r3,r4,r5,by omega,q6.trans r7,back r8⟩
   rw[bO,cI3 h5,cB3]at hk;cases M:(X.xw f&& !(Nat.beq dr 0))with
   |true=>rw[M]at hk;exact aD hk
   |false=>
   rw[M,cB3]at hk;refine ncall (P:=fun y s'=>(∃ifn,T f=some ifn/\ifn.pure=false/\ifn.frz=X.xw f)/\∃D,∀d,D<=d->Sim.callF T (exec T d) lim f ys s=some (y,s')) h2 (fun hs C0 m K' r' b6 b9 hr=>V.run f vs hs m K' r' C0 s lim ys hX1 hr b9 b6) rfl (fun y s' hp=>⟨?_,fun _=>by simp[mL,hX1,h5],hp.2⟩) hk;obtain⟨⟨ifn,w1,w2,w3⟩,_⟩:=hp;by_cases h0:dr=0;exact .inr h0;left;rw[bO,cI3 h0]at M;have M:X.xw f=false:=by simpa using M
   rw[M]at w3;simp[Sim.foot,w1,w2,w3]
  |false=>
   rw[hX1,cB3]at hk;refine d5 hk h2 rfl (by simp[mL,hX1]) (fun⟨ifn,w1,w2,w3⟩=>?_) (fun d s=>rfl);simp only[Sim.foot,w1,w2,w3,cF3,eF3]
  rename_i k0 as;obtain⟨y1,d0,rfl,p1,p2⟩:=h2.inv_cons;obtain⟨id,ver,S,len,hC,rfl⟩:=Lf p1;by_cases e4:dr=3\/dr=5;rcases e4 with q|q<;>(rw[q]at hk;exact aD hk);have q:dr≠3:=fun h=>e4 (.inl h);have h5:dr≠5:=fun h=>e4 (.inr h);rw[bO,bO,cI3 q,cI3 h5,Bool.or_false,cB3]at hk;refine ncall (fx:=false) (P:=fun y s'=>∃D,∀d,D<=d->Sim.round (exec T d) lim id d0 s=some (y,s')) (xs':=.yld k0::as) (zs:=.fn (.yield id) [] []::d0) h2 (fun hs C0 m K' r' b6 b9 hr=>?_) rfl (fun y s' hp=>⟨.inl rfl,fun h0=>by simp only[mL];rw[bK3 (by omega)],hp⟩) hk;obtain⟨y1,f4,e2,p3,p4⟩:=b9.inv_cons;cases e2;obtain⟨id',j3,e',i9,f9,e3⟩:=Lf p3;cases e3;exact V.yld k0 as hs m K' r' C0 s lim _ _ _ _ _ hr p4 f9 b6;rename_i f first cap as
  obtain⟨y1,d0,rfl,p1,p2⟩:=h2.inv_cons;obtain⟨a',b',rfl,p3,p4⟩:=yA p1;have hz:=(p3.append p2).append p4;cases hX1:X.is f with
  |true=>
   rw[hX1,bS3]at hk;cases b8:(Nat.beq dr 3||(Nat.beq dr 5||(X.xw f&& !(Nat.beq dr 0))))with
   |true=>rw[b8]at hk;exact aD hk
   |false=>
    rw[b8,cB3]at hk;simp only[dX3,bO,cV3]at b8;obtain⟨q,h5,M⟩:=b8;refine ncall (P:=fun y s'=>(∃ifn,T f=some ifn/\ifn.pure=false/\ifn.frz=X.xw f)/\∃D,∀d,D<=d->Sim.callF T (exec T d) lim f (a'++d0++b') s=some (y,s')) hz (fun hs C0 m K' r' b6 b9 hr=>V.run f _ hs m K' r' C0 s lim _ hX1 hr b9 b6) rfl (fun y s' hp=>⟨?_,fun h0=>by simp only[mL];rw[bK3 (by omega)],hp.2⟩) hk;obtain⟨⟨ifn,w1,w2,w3⟩,_⟩:=hp;by_cases h0:dr=0;exact .inr h0;left;rw[cI3 h0]at M;have M:X.xw f=false:=by simpa using M
    rw[M]at w3;simp[Sim.foot,w1,w2,w3]
  |false=>
   rw[hX1,cB3]at hk;refine d5 hk hz rfl (by simp only[mL];split<;>omega) (fun⟨ifn,w1,w2,w3⟩=>?_) (fun d s=>rfl);simp only[Sim.foot,w1,w2,w3,cF3,eF3]
  obtain⟨v,h',n',C',y,s',q1,q2,q3,q4,q5,q6,q7,q8⟩:=Wh (dr:=dr) Z hM h2 hk;simp only[gO]at q1
  have A:fF C' ((d,v)::edel e (d::kl)) (t.set d y):=.put hd q2 (fun i w hw=>by
   obtain⟨z,p1,p2,p3⟩:=(he.mono q4).edel (d::kl) i w hw;exact⟨z,p1,p2,fun S=>p3 (by simp[S])⟩)
  obtain⟨e2,q,H,C2,L,J,fs,r1,r2,r3,r4,r5,r6,r7,r8⟩:=eM Z V B rs u (d::G) l g C' n' h' _ _ _ K r q1 A q3 (by simpa using hN) o4 (hg.set hgi E) hgi;obtain⟨f,hf⟩:=q8 ⟨some d,k,xs.map eX,g⟩ _ t fs _ rfl hg.wanted h1 r2;exact⟨e2,q,H,C2,L,J,_,r1,hf,r3,r4,r5,by omega,q6.trans r7,back r8⟩
 |.sto k xs kl rs,u,G,l,g,C,n,h,e,t,s,K,r,hk,he,hM,hN,ho,hg,hgi=>by
  simp only[lP,bF3]at ho;obtain⟨o3,o4⟩:=ho;unfold fP at hk;rw[kJ,bD3]at hk;obtain⟨vs,U,hk⟩:=hk;obtain⟨ys,h1,h2⟩:=lM he o3 U;obtain⟨v,h',n',C',out,q1,q2,q3,q4,q5,q6,q7,q8⟩:=Pf hM h2 hk;simp only[gO]at q1
  have A:fF C' (edel e kl) t:=fun i w hw=>by
   obtain⟨z,p1,p2,p3⟩:=(he.mono q5).edel kl i w hw;exact⟨z,p1,p2⟩
  obtain⟨e2,q,H,C2,L,J,fs,r1,r2,r3,r4,r5,r6,r7,r8⟩:=eM Z V B rs u G l g C' n' h' _ t _ K r q1 A q4 hN o4 hg hgi;refine⟨e2,q,H,C2,L,J,_,r1,.op (o:=⟨none,k,xs.map eX,g⟩) hg.wanted h1 ?_ q2 r2,r3,r4,r5,by omega,q7.trans r7,fun i hi=>r8 i (by simpa only[dA]using hi)⟩;cases k with
  |callF f=>unfold gB at hk;rcases vs with _|⟨a,_|⟨b,_|⟨c,_|⟨d,t⟩⟩⟩⟩<;>exact aD hk
  |callV=>unfold gB at hk;rcases vs with _|⟨a,_|⟨b,_|⟨c,_|⟨d,t⟩⟩⟩⟩<;>exact aD hk
  |_=>rfl
 |.ifx d c w bd x' kl rs,u,G,l,g,C,n,h,e,t,s,K,r,hk,he,hM,hN,ho,hg,hgi=>by
  simp only[lP,bF3,bW3,iK,dP3]at ho;obtain⟨⟨⟨⟨⟨o1,o2⟩,o3⟩,o4⟩,o5⟩,o6⟩:=ho;have E:d∉u:=by simpa using o2
  unfold fP at hk;rw[kS,bD3]at hk;obtain⟨cv,e7,hk⟩:=hk;split at hk;rename_i cb;rw[cE,bD3]at hk;obtain⟨y,hy,hk⟩:=hk;rw[gO]at hk;obtain⟨cy,b7,e5⟩:=he c _ e7;rw[jB e5]at b7;obtain⟨fs,Y,s1,p1,p2,p3,p4,zs,p5,p6⟩:=Jj (T:=T) (O:=O) (X:=X) (dr:=dr) hM hN o5 o3 b7 hy (fun hb g6=>yG Z bd (c::u) [] (some (c,w)) C n h e t s x' y hb he hM hN o5 o3 g6 (fun c' w' e=>by cases e;simp))
  have b4:Rq g Y:=by
   cases g with
   |none=>trivial
   |some p=>
    obtain⟨c',w'⟩:=p;simp only[Rq]at hg ⊢;rw[p3 c' (fun hi=>gQ bd o5 c' hi (by simp[hgi c' w' rfl]))];exact hg
  have hd:d<Y.length:=by omega
  have A:fF C ((d,.v (.bool y))::edel e (d::dA bd kl)) (Y.set d (.v (.bool y))):=.put hd (.cl (.v _)) (fun i w hw=>by
   obtain⟨z,q1,q2,q3⟩:=he.edel (d::dA bd kl) i w hw;have f0:i∉dA bd []:=fun hi=>q3 (by simp[(dZ bd kl i).2 (.inl hi)]);exact⟨z,by rw[p3 i f0];exact q1,q2,fun S=>q3 (by simp[S])⟩)
  obtain⟨e2,q,H,C2,L,J,f8,r1,r2,r3,r4,r5,r6,r7,r8⟩:=eM Z V B rs u (d::G) l g C n h _ (Y.set d (.v (.bool y))) s1 K r hk A (hM.grow p4) (by simpa using p2) o6 (b4.set hgi E) hgi;refine⟨e2,q,H,C2,L,J,_,r1,p1.append (.op (o:=⟨some d,.pick,_,g⟩) b4.wanted p5 rfl p6 r2),r3,r4,r5,r6,p4.fr.trans r7,fun i hi=>?_⟩;simp only[dA,bR3,dZ bd (dA rs []) i,eC3]at hi;rw[r8 i hi.2.2,bT3 (Ne.symm hi.1),p3 i hi.2.1];exact aD hk
 |.ifn d c w bd x' kl rs,u,G,l,g,C,n,h,e,t,s,K,r,hk,he,hM,hN,ho,hg,hgi=>by
  simp only[lP,bF3,bW3,iK,dP3]at ho;obtain⟨⟨⟨⟨⟨o1,o2⟩,o3⟩,o4⟩,o5⟩,o6⟩:=ho;have E:d∉u:=by simpa using o2
  unfold fP at hk;rw[kS,bD3]at hk;obtain⟨cv,e7,hk⟩:=hk;split at hk;rename_i cb;simp only[rZ]at hk;obtain⟨cy,b7,e5⟩:=he c _ e7;rw[jB e5]at b7
  have b8:∀Y:aA AV,(∀(i:Nat),i∉dA bd []->Y[i]? =t[i]?)->Y[c]? =some (.v (.bool cb)):=fun Y i3=>by
   rw[i3 c (fun hi=>gQ bd o5 c hi (by simp))];exact b7
  have tail:∀{y:PV} {z:AV} {S:gG} {h1:aS} {n1:Nat} {C1:Cx} {Y:aA AV} {s1:Hp} {d9:aA Foot} {zs:aA AV},kT S (d::dA bd kl) (fun e=>fP O X dr rs ((d,y)::e) h1 n1 K)=some r->RV C1 y z->Tr T X.is dr lim (rP (some (c,w)) bd) {t:=t,s:=s} d9 {t:=Y,s:=s1}->
    fF C1 (edel S (d::dA bd kl)) Y->dI C1 n1 h1 lim s1->Y.length=N->n<=n1->Fr C h s C1 h1 s1->(∀(i:Nat),i∉dA bd []->Y[i]? =t[i]?)->
    Sim.evs Y (if w then[.t c,eX x',.c (.v (.bool false))]else[.t c,.c (.v (.bool true)),eX x'])=some zs->doOp (Sim.look s1.h) lim s1.n .pick zs=some {v:=z}->
    ∃e' h' n' C' F s' fs,K e' h' n'=some r/\Tr T X.is dr lim (rP g (.ifn d c w bd x' kl rs)) {t:=t,s:=s} fs {t:=F,s:=s'}/\fF C' e' F/\dI C' n' h' lim s'/\F.length=N/\n<=n'/\Fr C h s C' h' s'/\∀(i:Nat),i∉dA (.ifn d c w bd x' kl rs) []->F[i]? =t[i]? :=by
   intro y z S h1 n1 C1 Y s1 d9 zs hk i5 i4 d6 g1 g3 j4 g5 b0 g4 f1;rw[gO]at hk;have hd:d<Y.length:=by omega
   have b4:Rq g Y:=by
    cases g with
    |none=>trivial
    |some p=>
     obtain⟨c',w'⟩:=p;simp only[Rq]at hg ⊢;rw[b0 c' (fun hi=>gQ bd o5 c' hi (by simp[hgi c' w' rfl]))];exact hg
   have A:fF C1 ((d,y)::edel S (d::dA bd kl)) (Y.set d z):=.put hd i5 (fun i w hw=>by
    obtain⟨z',q1,q2⟩:=d6 i w hw;refine⟨z',q1,q2,fun e2=>?_⟩;rw[zZ,bK3 (by simp[e2])]at hw;cases hw)
   obtain⟨e2,q,H,C2,L,J,f8,r1,r2,r3,r4,r5,r6,r7,r8⟩:=eM Z V B rs u (d::G) l g C1 n1 h1 _ (Y.set d z) s1 K r hk A g1 (by simpa using g3) o6 (b4.set hgi E) hgi;refine⟨e2,q,H,C2,L,J,_,r1,i4.append (.op (o:=⟨some d,.pick,_,g⟩) b4.wanted g4 rfl f1 r2),r3,r4,r5,by omega,g5.trans r7,fun i hi=>?_⟩;simp only[dA,bR3,dZ bd (dA rs []) i,eC3]at hi;rw[r8 i hi.2.2,bT3 (Ne.symm hi.1),b0 i hi.2.1]
  have run:cb=w->fP O X dr bd e h n (fun e h n=>qV e [x'] fun vs=>match vs with
    |[y]=>kT e (d::dA bd kl) fun e=>fP O X dr rs ((d,y)::e) h n K
    |_=>none)=some r->∃e' h' n' C' F s' fs,K e' h' n'=some r/\Tr T X.is dr lim (rP g (.ifn d c w bd x' kl rs)) {t:=t,s:=s} fs {t:=F,s:=s'}/\fF C' e' F/\dI C' n' h' lim s'/\F.length=N/\n<=n'/\Fr C h s C' h' s'/\∀(i:Nat),i∉dA (.ifn d c w bd x' kl rs) []->F[i]? =t[i]? :=by
   intro e8 hk;obtain⟨S,h1,n1,C1,Y,s1,d9,q1,q2,q3,q4,q5,q6,q7,q8⟩:=eM Z V B bd (c::u) [] true (some (c,w)) C n h e t s _ r hk he hM hN o5 (by rw[<-e8];exact b7) (fun c' w' e=>by cases e;simp);rw[kJ,bD3]at q1;obtain⟨vs,U,q1⟩:=q1;obtain⟨ys,q,h4⟩:=lM q3 (xs:=[x']) (by simpa using o3) U;split at q1;rename_i y;obtain⟨z,_,rfl,h5,h6⟩:=h4.inv_cons;rw[h6.inv_nil]at q
   have hz:(eX x').ev Y=some z:=by
    simp only[dV3,eR3,Sim.evs]at q;split at q;rename_i a b ha hb;simp only[bL3,List.cons.injEq]at q;rw[<-q.1];exact ha;cases q
   have hc:=b8 Y q8;cases w with
   |true=>
    subst e8;exact tail q1 h5 q2 (fun i w hw=>by obtain⟨z',p1,p2,_⟩:=q3.edel _ i w hw;exact⟨z',p1,p2⟩) q4 q5 q6 q7 q8 (Pp (a:=.v (.bool true)) (b:=z) (c:=.v (.bool false)) hc hz rfl) rfl
   |false=>
    subst e8;exact tail q1 h5 q2 (fun i w hw=>by obtain⟨z',p1,p2,_⟩:=q3.edel _ i w hw;exact⟨z',p1,p2⟩) q4 q5 q6 q7 q8 (Pp (a:=.v (.bool false)) (b:=.v (.bool true)) (c:=z) hc rfl hz) rfl
   exact aD q1
  have skip:cb≠w->(kT e (d::dA bd kl) fun e=>fP O X dr rs ((d,.v (.bool (!w)))::e) h n K)=some r->∃e' h' n' C' F s' fs,K e' h' n'=some r/\Tr T X.is dr lim (rP g (.ifn d c w bd x' kl rs)) {t:=t,s:=s} fs {t:=F,s:=s'}/\fF C' e' F/\dI C' n' h' lim s'/\F.length=N/\n<=n'/\Fr C h s C' h' s'/\∀(i:Nat),i∉dA (.ifn d c w bd x' kl rs) []->F[i]? =t[i]? :=by
   intro h9 hk;obtain⟨fs,Y,k1,k2,k3,k4⟩:=gZ (T:=T) (NF:=X.is) (dr:=dr) (lim:=lim) (s:=s) (some (c,w)) bd (c::u) [] t o5 (fun c' w' e=>by cases e;simp) (by simp[Sim.wanted,b7,h9]) (fun c hc=>by simp at hc);obtain⟨z,hz⟩:=Ge (c:=0) (i:=0) (k2.trans hN) o3
   have d6:fF C (edel e (d::dA bd kl)) Y:=fun i v hv=>by
    obtain⟨z,q1,q2,q3⟩:=he.edel (d::dA bd kl) i v hv;have f0:i∉dA bd []:=fun hi=>q3 (by simp[(dZ bd kl i).2 (.inl hi)]);exact⟨z,by rw[k3 i f0];exact q1,q2⟩
   have hc:=b8 Y k3;cases w with
   |true=>
    have:cb=false:=by cases cb<;>simp_all
    subst this;exact tail hk (.cl (.v (.bool false))) k1 d6 hM (k2.trans hN) (bI3 _) (.refl _ _ _) k3 (Pp (a:=.v (.bool false)) (b:=z) (c:=.v (.bool false)) hc hz rfl) rfl
   |false=>
    have:cb=true:=by cases cb<;>simp_all
    subst this;exact tail hk (.cl (.v (.bool true))) k1 d6 hM (k2.trans hN) (bI3 _) (.refl _ _ _) k3 (Pp (a:=.v (.bool true)) (b:=.v (.bool true)) (c:=z) hc rfl hz) rfl
  cases w with
  |true=>
   rw[bS3]at hk;cases cb with
   |true=>exact run rfl hk
   |false=>exact skip (by simp) hk
  |false=>
   rw[cB3]at hk;cases cb with
   |true=>exact skip (by simp) hk
   |false=>exact run rfl hk
  exact aD hk
 |.mkfl d ty zero xs kl rs,u,G,l,g,C,n,h,e,t,s,K,r,hk,he,hM,hN,ho,hg,hgi=>by
  simp only[lP,bF3,bW3,iK,dP3]at ho;obtain⟨⟨⟨o1,o2⟩,o3⟩,o4⟩:=ho;have hd:d<t.length:=by omega
  have E:d∉u:=by simpa using o2
  unfold fP at hk;rw[kJ,bD3]at hk;obtain⟨vs,U,hk⟩:=hk;obtain⟨ys,h1,h2⟩:=lM he o3 U;cases hc:(Nat.beq zero.length 1&&vs.all lF1)with
  |false=>rw[hc]at hk;exact aD hk
  |true=>
  rw[hc,bS3,gO]at hk;simp only[bF3,bO,bN3]at hc;obtain⟨C',out,q1,q2,q3,q4,q5⟩:=fB1 (ty:=ty) hM h2 hc.1 hc.2
  have hlen:vs.length=xs.length:=by
   have:=h2.1;have q:ys.length=xs.length:=(Wm h1).trans (by simp);omega
  rw[hlen]at q1
  have A:fF C' ((d,.own n)::edel e (d::kl)) (t.set d out.v):=.put hd q2 (fun i w hw=>by
   obtain⟨z,p1,p2,p3⟩:=(he.mono q4).edel (d::kl) i w hw;exact⟨z,p1,p2,fun S=>p3 (by simp[S])⟩)
  obtain⟨e2,q,H,C2,L,J,fs,r1,r2,r3,r4,r5,r6,r7,r8⟩:=eM Z V B rs u (d::G) l g C' (n+1) _ _ _ _ K r hk A q3 (by simpa using hN) o4 (hg.set hgi E) hgi;refine⟨e2,q,H,C2,L,J,_,r1,.op (o:=⟨some d,.buildSl ty 1 xs.length zero (List.range xs.length),xs.map eX,g⟩) hg.wanted h1 rfl q1 r2,r3,r4,r5,by omega,q5.trans r7,fun i hi=>?_⟩;simp only[dA,bR3,eC3]at hi;rw[r8 i hi.2,bT3 (Ne.symm hi.1)]
 |.lax d es rs,u,G,l,g,C,n,h,e,t,s,K,r,hk,he,hM,hN,ho,hg,hgi=>by
  simp only[lP]at ho;unfold fP at hk;rw[kS,bD3]at hk;obtain⟨v,hv,hk⟩:=hk;obtain⟨y,d4,b5⟩:=he d _ hv
  have d8:∀v',RV C v' y->fF C ((d,v')::edel e [d]) t:=fun v' hv' i w hw=>by
   simp only[gD]at hw;split at hw;rename_i S;subst S;cases hw;exact⟨y,d4,hv'⟩;obtain⟨z,q1,q2,_⟩:=he.edel [d] i w hw;exact⟨z,q1,q2⟩
  split at hk;rename_i s';rw[gO]at hk;rw[jB b5]at d8;exact eM Z V B rs u G l g C n h _ t s K r hk (d8 _ (.cl .isn)) hM hN ho hg hgi;rename_i cs;obtain⟨cs',h1,h2⟩:∃cs',y=.agg cs'/\LR (RV C) cs cs':=qP b5;subst h1;obtain⟨cs2,q1,q2⟩:=Wl h2 hk;rw[gO]at q1;exact eM Z V B rs u G l g C n h _ t s K r q1 (d8 _ (.agg q2.1 q2.2)) hM hN ho hg hgi;exact aD hk
 |.own d ty es g' rs,u,G,l,g,C,n,h,e,t,s,K,r,hk,he,hM,hN,ho,hg,hgi=>by
  simp only[lP]at ho;unfold fP at hk;rw[kS,bD3]at hk;obtain⟨v,hv,hk⟩:=hk;obtain⟨y,d4,b5⟩:=he d _ hv;split at hk;rw[gO]at hk;have hy:=jB b5;subst hy;obtain⟨m1,m2⟩:=Tb hM (ty:=ty) (e:=es) (g:=g');have d7:=nI hM .nil
  have A:fF (ext C n .nil) ((d,.own n)::edel e [d]) t:=fun i w hw=>by
   simp only[gD]at hw;split at hw;rename_i S;subst S;cases hw;exact⟨_,d4,.ownn (by simp[ext]) rfl⟩;obtain⟨z,q1,q2,_⟩:=he.edel [d] i w hw;exact⟨z,q1,q2.mono d7⟩
  obtain⟨e2,q,H,C2,L,J,fs,r1,r2,r3,r4,r5,r6,r7,r8⟩:=eM Z V B rs u G l g _ (n+1) _ _ t s K r hk A m1 hN ho hg hgi;exact⟨e2,q,H,C2,L,J,fs,r1,r2,r3,r4,r5,by omega,m2.trans r7,r8⟩;exact aD hk
 |.laxc d j es rs,u,G,l,g,C,n,h,e,t,s,K,r,hk,he,hM,hN,ho,hg,hgi=>by
  simp only[lP]at ho;unfold fP at hk;rw[kS,bD3]at hk;obtain⟨v,hv,hk⟩:=hk;obtain⟨y,d4,b5⟩:=he d _ hv;split at hk;rename_i k o0;rw[iN,bD3]at hk;obtain⟨ob,W,hk⟩:=hk;split at hk;rename_i cs;obtain⟨id,ver,S,l1,hC,rfl⟩:=oD b5;obtain⟨hj,hk⟩:=gP _ _ _ _ hk;split at hk;rename_i tl e9;obtain⟨i1,hk⟩:=mD _ _ _ _ _ hk;have hk:=eF _ _ _ _ _ hk
  have e6:cs[j]? =some (.v (.slice none 0 0)):=by
   have:(cs.drop j)[0]? =some (.v (.slice none 0 0)):=by rw[e9];rfl
   simpa using this
  obtain⟨i7,f2,esz,row,hL,hl⟩:=Ac hM W hC;have hid:=(hM.hr.lt (by rw[W];simp) hC)
  obtain⟨m1,m2⟩:=tX hM (po':=.box (Sim.setL cs j [.is es []])) (ao:=.arr true f2 esz ver [row]) W hC ⟨hid.1,hid.2,f2,esz,row,by rw[Sim.look_upd,bK3 ⟨rfl,by rw[hL];rfl⟩],by
   refine⟨by rw[<-hl.1];simp[Sim.setL],fun i a b ha hb=>?_⟩;simp only[Sim.setL]at ha;rw[cA3]at ha;split at ha;rename_i e2;subst e2;split at ha;cases ha;have:=jB (hl.2 j _ _ e6 hb);subst this;exact .cl .isn;cases ha;exact hl.2 i a b ha hb⟩ rfl
  have b0:({h:=upd s.h id (.arr true f2 esz ver [row]),n:=s.n}:Hp)=s:=by
   rw[Gq hL]
  rw[b0]at m1 m2;obtain⟨e2,q,H,C2,L,J,fs,r1,r2,r3,r4,r5,r6,r7,r8⟩:=eM Z V B rs u G l g _ n _ _ t s K r hk he m1 hN ho hg hgi;exact⟨e2,q,H,C2,L,J,fs,r1,r2,r3,r4,r5,by omega,m2.trans r7,r8⟩;exact aD hk;exact aD hk;exact aD hk
 |.ownc d j ty es g' rs,u,G,l,g,C,n,h,e,t,s,K,r,hk,he,hM,hN,ho,hg,hgi=>by
  simp only[lP]at ho;unfold fP at hk;rw[kS,bD3]at hk;obtain⟨v,hv,hk⟩:=hk;obtain⟨y,d4,b5⟩:=he d _ hv;split at hk;rename_i k o0;rw[iN,bD3]at hk;obtain⟨ob,W,hk⟩:=hk;split at hk;rename_i cs;obtain⟨id,ver,S,l1,hC,rfl⟩:=oD b5;obtain⟨hj,hk⟩:=gP _ _ _ _ hk;split at hk;rename_i tl e9;obtain⟨cZ,hk⟩:=mD _ _ _ _ _ hk;have hk:=eF _ _ _ _ _ hk;have d7:=nI hM .nil
  have e6:cs[j]? =some (.v (.slice none 0 0)):=by
   have:(cs.drop j)[0]? =some (.v (.slice none 0 0)):=by rw[e9];rfl
   simpa using this
  obtain⟨m1,m2⟩:=mA1 (ty:=ty) (e':=es) (g:=g') (cs2:=Sim.setL cs j [.own n]) hM W hC (fun row d3=>by
   refine⟨by rw[<-d3.1];simp[Sim.setL],fun i a b ha hb=>?_⟩;simp only[Sim.setL]at ha;rw[cA3]at ha;split at ha;rename_i e2;subst e2;split at ha;cases ha;have:=jB (d3.2 j _ _ e6 hb);subst this;exact .ownn (by simp[ext]) rfl;cases ha;exact(d3.2 i a b ha hb).mono d7)
  obtain⟨e2,q,H,C2,L,J,fs,r1,r2,r3,r4,r5,r6,r7,r8⟩:=eM Z V B rs u G l g _ (n+1) _ _ t s K r hk (he.mono d7) m1 hN ho hg hgi;exact⟨e2,q,H,C2,L,J,fs,r1,r2,r3,r4,r5,by omega,m2.trans r7,r8⟩;exact aD hk;exact aD hk;exact aD hk
 |.opn d m x kl js rs,u,G,l,g,C,n,h,e,t,s,K,r,hk,he,hM,hN,ho,hg,hgi=>by
  simp only[lP,bF3,bW3,iK,dP3]at ho;obtain⟨⟨⟨o1,o2⟩,o3⟩,o4⟩:=ho;have hd:d<t.length:=by omega
  have E:d∉u:=by simpa using o2
  unfold fP at hk;rw[kJ,bD3]at hk;obtain⟨vs,U,hk⟩:=hk;obtain⟨ys,h1,h2⟩:=lM he o3 U
  have fin:∀{k:hZ},k≠.callV->(∀f,k≠.callF f)->wF1 C n h lim s k ys (fun v h n=>kT e (d::kl) fun e=>fP O X dr rs ((d,v)::e) h n K) r->
    ∃e' h' n' C' F s' fs,K e' h' n'=some r/\Tr T X.is dr lim (⟨some d,k,[eX x],g⟩::rP g rs) {t:=t,s:=s} fs {t:=F,s:=s'}/\fF C' e' F/\dI C' n' h' lim s'/\F.length=N/\n<=n'/\Fr C h s C' h' s'/\∀(i:Nat),i∉d::dA rs []->F[i]? =t[i]? :=fun{k} h8 g9 hr=>by
   obtain⟨v,h',n',C',y',p1,p2,p3,p4,p5,p6,p7⟩:=hr;simp only[gO]at p1
   have A:fF C' ((d,v)::edel e (d::kl)) (t.set d y'):=.put hd p3 (fun i w hw=>by
    obtain⟨z,p1,p2,p3⟩:=(he.mono p6).edel (d::kl) i w hw;exact⟨z,p1,p2,fun S=>p3 (by simp[S])⟩)
   obtain⟨e2,q,H,C2,L,J,fs,r1,r2,r3,r4,r5,r6,r7,r8⟩:=eM Z V B rs u (d::G) l g C' n' h' _ _ s K r p1 A p4 (by simpa using hN) o4 (hg.set hgi E) hgi;refine⟨e2,q,H,C2,L,J,_,r1,.op (o:=⟨some d,k,[eX x],g⟩) (out:={v:=y'}) hg.wanted h1 ?_ p2 r2,r3,r4,r5,by omega,p7.trans r7,fun i hi=>?_⟩;cases k<;>first|rfl|exact absurd rfl h8|exact absurd rfl (g9 _)
   simp only[bR3,eC3]at hi;rw[r8 i hi.2,bT3 (Ne.symm hi.1)]
  split at hk;rename_i k i o;obtain⟨y,_,rfl,q,h4⟩:=h2.inv_cons;rw[h4.inv_nil]at fin;rw[iN,bD3]at hk;obtain⟨ob,W,hk⟩:=hk;cases ob with
  |tr tt rows hs=>
   cases m with
   |none=>exact fin (k:=.loadS) (fun h=>by cases h) (fun f h=>by cases h) ((Wj hM W q).1 hk)
   |some m=>exact fin (k:=.loadA m) (fun h=>by cases h) (fun f h=>by cases h) ((Wj hM W q).2 m hk)
  |_=>exact aD hk
  exact aD hk
 |.bst d tt len zero parts xs kl rs,u,G,l,g,C,n,h,e,t,s,K,r,hk,he,hM,hN,ho,hg,hgi=>by
  simp only[lP,bF3,bW3,iK,dP3]at ho;obtain⟨⟨⟨o1,o2⟩,o3⟩,o4⟩:=ho;have hd:d<t.length:=by omega
  have E:d∉u:=by simpa using o2
  unfold fP at hk;rw[kJ,bD3]at hk;obtain⟨vs,U,hk⟩:=hk;obtain⟨ys,h1,h2⟩:=lM he o3 U;obtain⟨ty,es,ks⟩:=tt;simp only at hk;cases hc:(Kz 0 parts&&(Nat.beq zero.length es&&(!(iQ ty)&&Nat.beq parts.length len)))with
  |false=>rw[hc]at hk;exact aD hk
  |true=>
  rw[hc,bS3]at hk;obtain⟨rows,hs,C',out,q0,q1,q2,q3,q4,q5⟩:=lV1 hM h2 hc hk;rw[gO]at q0
  have A:fF C' ((d,.own n)::edel e (d::kl)) (t.set d out.v):=.put hd q2 (fun i w hw=>by
   obtain⟨z,p1,p2,p3⟩:=(he.mono q4).edel (d::kl) i w hw;exact⟨z,p1,p2,fun S=>p3 (by simp[S])⟩)
  obtain⟨e2,q,H,C2,L,J,fs,r1,r2,r3,r4,r5,r6,r7,r8⟩:=eM Z V B rs u (d::G) l g C' (n+1) _ _ _ _ K r q0 A q3 (by simpa using hN) o4 (hg.set hgi E) hgi;refine⟨e2,q,H,C2,L,J,_,r1,.op (o:=⟨some d,.buildSl ty es len zero parts,xs.map eX,g⟩) hg.wanted h1 rfl q1 r2,r3,r4,r5,by omega,q5.trans r7,fun i hi=>?_⟩;simp only[dA,bR3,eC3]at hi;rw[r8 i hi.2,bT3 (Ne.symm hi.1)]
 |.clr d es zero x y' kl rs,u,G,l,g,C,n,h,e,t,s,K,r,hk,he,hM,hN,ho,hg,hgi=>by
  simp only[lP,bF3,bW3,iK,dP3]at ho;obtain⟨⟨⟨o1,o2⟩,o3⟩,o4⟩:=ho;have hd:d<t.length:=by omega
  have E:d∉u:=by simpa using o2
  unfold fP at hk;rw[kJ,bD3]at hk;obtain⟨vs,U,hk⟩:=hk;obtain⟨ys,h1,h2⟩:=lM he o3 U;split at hk;rename_i k kd lo;obtain⟨y1,d0,rfl,q,h4⟩:=h2.inv_cons;obtain⟨y2,f4,rfl,h5,h6⟩:=h4.inv_cons;have:=h6.inv_nil;subst this;rw[jB h5]at h1;rw[iN,bD3]at hk;obtain⟨ob,W,hk⟩:=hk;split at hk;rename_i ty es' g' rows;cases hc:(Nat.beq es' es&&Nat.beq zero.length es)with
  |false=>rw[hc]at hk;exact aD hk
  |true=>
   rw[hc,bS3,sA,cE,bD3]at hk;obtain⟨i6,f5,hk⟩:=hk;simp only[bF3,bO,bN3]at hc;obtain⟨rfl,hz⟩:=hc;have hk:=eF _ _ _ _ _ hk;rw[gO]at hk;obtain⟨v,out,q1,q2,q3,q4⟩:=lX1 (kd:=kd) hM W hz q f5
   have A:fF C (edel e (d::kl)) (t.set d v):=fun i w hw=>by
    obtain⟨z,p1,p2,p3⟩:=he.edel (d::kl) i w hw;exact⟨z,by rw[bT3 (fun S=>p3 (by simp[S]))];exact p1,p2⟩
   have b4:=hg.set (y:=v) hgi E;obtain⟨e2,h7,H,C2,L,J,fs,r1,r2,r3,r4,r5,r6,r7,r8⟩:=eM Z V B rs u (d::G) l g C n _ _ _ _ K r hk A q3 (by simpa using hN) o4 b4 hgi;refine⟨e2,h7,H,C2,L,J,_,r1,.op (o:=⟨some d,.slc es' true false false,[eX x,eX y'],g⟩) (out:={v:=v}) hg.wanted h1 rfl q1 (.op (o:=⟨none,.clear es' zero,[.t d],g⟩) (xs:=[v]) b4.wanted ?_ rfl q2 r2),r3,r4,r5,r6,q4.trans r7,fun i hi=>?_⟩;show Sim.evs (t.set d v) [.t d]=some [v]
   simp[Sim.evs,Sim.IX.ev,hd];simp only[dA,bR3,eC3]at hi;rw[r8 i hi.2,bT3 (Ne.symm hi.1)]
  exact aD hk;exact aD hk
 |.gc kp rs,u,G,l,g,C,n,h,e,t,s,K,r,hk,he,hM,hN,ho,hg,hgi=>by
  simp only[lP]at ho;unfold fP at hk;obtain⟨e0,hk,f7⟩:=Tm hk;obtain⟨j2,hk⟩:=wM (jM 5) _ _ _ _ hk;obtain⟨ns,hk⟩:=gU _ _ _ _ _ hk;obtain⟨h0,hk,i0⟩:=Gn hk;obtain⟨m1,m2⟩:=lY1 hM i0;obtain⟨C',e',h',q1,q2,q3,q4⟩:=eW1 _ m1 (fun i v hv=>he i v (f7 i v hv)) hk;obtain⟨e2,q,H,C2,L,J,fs,r1,r2,r3,r4,r5,r6,r7,r8⟩:=eM Z V B rs u G l g C' n h' _ t s K r q1 q3 q2 hN ho hg hgi;exact⟨e2,q,H,C2,L,J,fs,r1,r2,r3,r4,r5,r6,(m2.trans q4).trans r7,r8⟩
 |.tre d j tt rs,u,G,l,g,C,n,h,e,t,s,K,r,hk,he,hM,hN,ho,hg,hgi=>by
  simp only[lP]at ho;unfold fP at hk;obtain⟨v,hk⟩:=Tl hk;split at hk;rename_i k;rw[iN,bD3]at hk;obtain⟨ob,W,hk⟩:=hk;split at hk;rename_i ty es g';obtain⟨ty',es',ks⟩:=tt;simp only at hk;cases hc:(Nat.beq ty ty'&&(Nat.beq es es'&& !(iQ ty)))with
  |false=>rw[hc]at hk;exact aD hk
  |true=>
   rw[hc,bS3]at hk;simp only[bF3,bO,bN3,bW3]at hc;obtain⟨rfl,rfl,hf⟩:=hc;have hk:=eF _ _ _ _ _ hk;obtain⟨m1,m2⟩:=lW1 (ks:=ks) hM W hf;obtain⟨e2,q,H,C2,L,J,fs,r1,r2,r3,r4,r5,r6,r7,r8⟩:=eM Z V B rs u G l g C n _ _ t s K r hk he m1 hN ho hg hgi;exact⟨e2,q,H,C2,L,J,fs,r1,r2,r3,r4,r5,r6,m2.trans r7,r8⟩
  exact aD hk;exact aD hk
end
end Go.P
namespace Go.P
open Go.Sim (AV AO Hp iJ upd St IC IX Ex hZ CK Wf Out doOp lI exec Foot wanted put popMark)
def dK (C:Cx) (n:Nat):Cx:=⟨fun k=>if k<n then C k else none,C.z,C.w⟩
def pO {C:Cx} {n:Nat} {x:PV} {y:AV} (h:RV C x y):∀{d:Nat},qZ n d x=true->RV (dK C n) x y:=by
 have lt:∀{k d:Nat} {pl:Pl},C k=some pl->Nat.blt k n=true->dK C n k=some pl:=fun h1 h2=>by
  simp only[dP3]at h2;simp[dK,h2,h1]
 induction h with
 |cl h=>intro d hb;exact .cl h
 |undef=>intro d hb;exact .undef
 |ref h=>intro d hb;cases d with
  |zero=>cases hb
  |succ d=>exact .ref (lt (d:=0) h hb)
 |own h=>intro d hb;cases d with
  |zero=>cases hb
  |succ d=>exact .own (lt (d:=0) h hb)
 |ownn h hy=>intro d hb;cases d with
  |zero=>cases hb
  |succ d=>exact .ownn (lt (d:=0) h hb) hy
 |el h=>intro d hb;cases d with
  |zero=>cases hb
  |succ d=>exact .el (lt (d:=0) h hb)
 |map h=>intro d hb;cases d with
  |zero=>cases hb
  |succ d=>exact .map (lt (d:=0) h hb)
 |yld h=>intro d hb;cases d with
  |zero=>cases hb
  |succ d=>exact .yld (lt (d:=0) h hb)
 |fn h1 h2 v1 v2 i1 i2=>intro d hb;cases d with
  |zero=>cases hb
  |succ d=>
   simp only[qZ,bF3]at hb;exact .fn h1 h2 (fun j x y a hy=>i1 j x y a hy (bJ3.1 hb.1 x (bO3 a))) (fun j x y a hy=>i2 j x y a hy (bJ3.1 hb.2 x (bO3 a)))
 |agg hl hc ih=>intro d hb;cases d with
  |zero=>cases hb
  |succ d=>exact .agg hl (fun j x y a hy=>ih j x y a hy (bJ3.1 hb x (bO3 a)))
 |tup hl hc ih=>intro d hb;cases d with
  |zero=>cases hb
  |succ d=>exact .tup hl (fun j x y a hy=>ih j x y a hy (bJ3.1 hb x (bO3 a)))
 |zs h=>intro d hb;exact .zs h
 |zm h he=>intro d hb;exact .zm h he
 |zm0=>intro d hb;exact .zm0
def gL.lk {L L':Nat->aB AO} {w:Nat->aB (Nat×Nat×Nat)} {lim nS:Nat} (c:∀id ty e v els,L id=some (.arr false ty e v els)->L' id=some (.arr false ty e v els)):∀{d:Nat} {sl:Nat×Nat×Nat} {t:TD} {x:PV} {y:AV},gL L w lim nS d sl t x y->gL L' w lim nS d sl t x y
 |0,_,_,_,_,h=>h.elim
 |d+1,sl,.nd ty e ks,x,y,h=>by
  obtain⟨rows,h1,h2⟩:=h
  refine⟨rows,h1,?_⟩
  rcases h2 with h2|⟨id,ver,els,k1,k2,k3,k4,kf,k5,k6,k7⟩
  exact .inl h2
  refine .inr ⟨id,ver,els,k1,k2,k3,k4,kf,c _ _ _ _ _ k5,k6,fun i r r' a b=>⟨(k7 i r r' a b).1,fun j x1 f a1 b1=>?_⟩⟩
  have:=(k7 i r r' a b).2 j x1 f a1 b1
  cases hk:iH ks j with
  |none=>rw[hk]at this;exact this
  |some t=>rw[hk]at this;exact gL.lk c this
section
variable {R:Type}
def Pt:∀(e:gG) (i:Nat) (K:PV->aB R) (D:aB R),Vl e i K D=match gD e i with|some v=>K v|none=>D
 |[],_,_,_=>rfl
 |(j,v)::r,i,K,D=>by
  simp only[Vl,gD,bO]
  by_cases h:j=i<;>simp[h,Pt r i K D]
def Ak {e:gG} {n:Nat}:∀{is:aA Nat} {K:gG->aB R} {r:R},Oz e is n K=some r->∃e',K e'=some r/\∀i v,gD e' i=some v->gD e i=some v/\qZ n 4 v=true
 |[],K,r,h=>⟨[],h,fun i v h=>by simp[gD]at h⟩
 |i::is,K,r,h=>by
  unfold Oz at h
  rw[Pt]at h
  cases hv:gD e i with
  |none=>rw[hv]at h;exact Ak h
  |some v=>
   rw[hv]at h
   simp only at h
   cases hb:qZ n 4 v with
   |false=>rw[hb]at h;exact aD h
   |true=>
    rw[hb,bS3]at h
    obtain⟨e',h1,h2⟩:=Ak h
    refine⟨_,h1,fun j w hw=>?_⟩
    simp only[gD]at hw
    split at hw
    grind
    exact h2 j w hw
def Jr {h:aS} {n:Nat}:∀{r:aS} {K:aS->aB R} {x:R},Vm r h n K=some x->∃h',K h'=some x/\∀k,(aK r k=none->aK h' k=none)/\(aK r k≠none->∃o,aK h' k=some o/\aK h k=some o/\xW n o=true)
 |[],K,x,hk=>⟨[],hk,fun k=>⟨fun _=>rfl,fun h=>absurd rfl h⟩⟩
 |(j,o)::r,K,x,hk=>by
  unfold Vm at hk
  rw[iN,bD3]at hk
  obtain⟨o',b,hk⟩:=hk
  cases hb:xW n o' with
  |false=>rw[hb]at hk;exact aD hk
  |true=>
   rw[hb,bS3]at hk
   obtain⟨h',h1,h2⟩:=Jr hk
   refine⟨_,h1,fun k=>?_⟩
   simp only[aK]
   by_cases a:j=k
   grind
   grind
variable {C0 C:Cx} {n0 n:Nat} {h0 h:aS} {e:gG} {t:List AV} {s0 s:Hp} {lim:Nat}
def rF (hd:∀k,aK h0 k≠none->k<n0) (p:dI C n h lim s) (he:fF C e t) {keep:aA Nat} {K:Mt->aB R} {r:R} (hk:pI keep h0 n0 e h K=some r):
  ∃st,K st=some r/\fF (dK C n0) st.e t/\dI (dK C n0) n0 st.h lim s/\(∀k o,aK st.h k=some o->aK h k=some o)/\(∀k,aK h0 k=none↔aK st.h k=none):=by
 unfold pI at hk;obtain⟨e',hk,h1⟩:=Ak hk;obtain⟨h',hk,h2⟩:=Jr hk;have u:∀k o,aK h' k=some o->aK h k=some o/\xW n0 o=true/\k<n0:=fun k o w=>by grind
 have hr:∀k pl,dK C n0 k=some pl->C k=some pl/\k<n0:=fun k pl hk=>by
  simp only[dK]at hk;split at hk
  grind
  cases hk
 have B:∀k,aK h' k≠none->aK h k≠none:=fun k hk=>by grind
 refine⟨_,hk,fun i v hv=>?_,⟨⟨fun k o A=>?_,fun k k' id v e l v' e' l' a b c d=>?_,fun id o D=>?_,fun k id v e l a b=>p.hr.wn k id v e l (B k a) (hr _ _ b).1,p.hr.wb,p.hr.wz⟩,fun k pl hk=>(hr k pl hk).2,p.wf,p.lim⟩,fun k o w=>(u k o w).1,fun k=>⟨(h2 k).1,fun D=>?_⟩⟩;obtain⟨q1,q2⟩:=h1 i v hv;obtain⟨y,p1,p2⟩:=he i v q1;exact⟨y,p1,pO p2 q2⟩;obtain⟨q1,q2,q3⟩:=u k o A;obtain⟨pl,p1,p2⟩:=p.hr.ob k o q1;refine⟨pl,by simp[dK,q3,p1],?_⟩;cases o with
 |box cs=>
  cases pl with
  |nil=>exact p2
  |atp id ver e len=>
   obtain⟨a1,a2,ty,esz,row,a3,a4⟩:=p2;exact⟨a1,a2,ty,esz,row,a3,a4.1,fun j x y m hy=>pO (a4.2 j x y m hy) (bJ3.1 q2 x (bO3 m))⟩
 |lst ty e g rows=>cases pl<;>exact p2
 |lz ty e dp rows=>cases pl<;>exact p2
 |mp es=>cases pl<;>exact p2
 |tr tt rows hs=>
  obtain⟨ty,e,ks⟩:=tt;cases pl with
  |nil=>exact p2
  |atp id ver e len=>
   obtain⟨a1,a2,a3,a4,E,els,d,a5,a6,a7⟩:=p2;refine⟨a1,a2,a3,a4,E,els,d,a5,a6,fun i r r' c1 c2=>⟨(a7 i r r' c1 c2).1,fun j a b c3 c4=>?_⟩⟩;have:=(a7 i r r' c1 c2).2 j a b c3 c4;unfold TC at this ⊢;cases hkd:iH ks j with
   |none=>rw[hkd]at this;exact this
   |some t2=>
    rw[hkd]at this;rcases this with⟨b1,b2⟩|b1;exact .inl ⟨b1,fun x m=>pO (b2 x m) (bJ3.1 q2 _ m)⟩;exact .inr b1
 |fl fs=>
  cases pl with
  |nil=>exact p2
  |atp id ver e len=>
   obtain⟨a1,a2,a3,a4,ty,els,a5,a6,a7⟩:=p2;refine⟨a1,a2,a3,a4,ty,els,a5,a6,fun i f row hf q=>?_⟩;have z:=bJ3.1 q2 f (bO3 hf);refine⟨(a7 i f row hf q).1,fun j x y m hy=>?_⟩;cases j with
   |zero=>simp at m;subst m;exact pO ((a7 i f row hf q).2 0 f y rfl hy) z
   |succ j=>simp at m
 |loop N' e ps a b busy fin=>
  cases pl with
  |nil=>exact p2
  |atp id ver e' len=>
   obtain⟨a1,a2,st,pend,tmps,a3,a4,a5,a6⟩:=p2;refine⟨a1,a2,st,pend,tmps,a3,a4,fun i v hv=>?_,a6⟩;obtain⟨y,F,G⟩:=a5 i v hv;exact⟨y,F,pO G (bJ3.1 q2 _ (Gf hv))⟩
 exact p.hr.inj k k' id v e l v' e' l' (B k a) (B k' b) (hr _ _ c).1 (hr _ _ d).1;obtain⟨z1,z2,z3,z4⟩:=p.hr.zr id o D;refine⟨z1,z2,fun k v e l a b=>z3 k v e l ?_ (hr _ _ b).1,z4⟩;cases w:aK h' k with
 |none=>exact absurd w a
 |some o=>rw[(u k o w).1];simp
 grind
def Fr.canon {h1 hc:aS} (d:dI C0 n0 h1 lim s0) (hf:Fr C0 h1 s0 C h s) (a:∀k o,aK hc k=some o->aK h k=some o) (b:∀k,aK h1 k=none↔aK hc k=none):Fr C0 h1 s0 (dK C n0) hc s:=by
 refine⟨hf.sk,hf.n,hf.keep,fun id hid c=>hf.own id hid ?_,fun k o hk=>?_,hf.zl,hf.zn⟩;rcases c with⟨k,v,e,l,q1,q2⟩|c;refine .inl ⟨k,v,e,l,?_,?_⟩;cases c:aK hc k with
 |none=>exact absurd c q1
 |some o=>rw[a k o c];simp
 simp only[dK]at q2;split at q2;exact q2;cases q2;exact .inr c;obtain⟨o',q1,q2⟩:=hf.kd k o hk
 have f:k<n0:=by
  obtain⟨pl,p1,_⟩:=d.hr.ob k o hk;exact d.dom k pl p1
 cases hz:aK hc k with
 |none=>rw[(b k).2 hz]at hk;cases hk
 |some o2=>
  have:=a k o2 hz;rw[q1]at this;cases this;exact⟨o',rfl,fun hb=>⟨(q2 hb).1,by simp[dK,f,(q2 hb).2]⟩⟩
def iI:∀{h:aA iJ} {id:Nat} {o:AO},Sim.look h id=some o->(∀ty e v els,o≠.arr true ty e v els)->Sim.look (popMark h) id=some o
 |[],id,o,h,_=>by simp[Sim.look]at h
 |.mark::r,id,o,h,_=>h
 |.ob i o'::r,id,o,h,hne=>by
  simp only[Sim.look]at h
  simp only[popMark]
  split at h
  rename_i a
  cases h
  split
  grind
  simp[Sim.look,a]
  rename_i a
  have ih:=iI h hne
  split
  exact ih
  simp[Sim.look,a,ih]
def dI.pop {C1:Cx} {h1 hc:aS} {s1:Hp} (m:dI C0 n0 h1 lim s0) (c:dI C1 n0 hc lim s1) (hf:Fr C0 h1 {h:=.mark::s0.h,n:=s0.n} C1 hc s1) (f:∀k,aK h1 k=none↔aK hc k=none):
  dI C1 n0 hc lim {h:=popMark s1.h,n:=s1.n}/\Fr C0 h1 s0 C1 hc {h:=popMark s1.h,n:=s1.n}:=by
 obtain⟨p1,p2⟩:=hf.sk.pop;refine⟨⟨⟨fun k o hk=>?_,c.hr.inj,fun id o l=>?_,c.hr.wn,c.hr.wb,c.hr.wz⟩,c.dom,c.wf.pop,c.lim⟩,⟨p1,hf.n,fun id hid hn=>?_,hf.own,hf.kd,hf.zl,hf.zn⟩⟩;obtain⟨pl,q1,q2⟩:=c.hr.ob k o hk;refine⟨pl,q1,?_⟩;cases o with
 |box cs=>
  cases pl with
  |nil=>exact q2
  |atp id ver e len=>
   obtain⟨a1,a2,ty,esz,row,a3,a4⟩:=q2
   have p:id<s0.n:=by
    cases l:aK h1 k with
    |none=>rw[(f k).1 l]at hk;cases hk
    |some o0=>
     obtain⟨o',w1,w2⟩:=hf.kd k o0 l;rw[hk]at w1;cases w1;obtain⟨_,w3⟩:=w2 rfl;rw[q1]at w3;exact(m.hr.lt (by rw[l];simp) w3.symm).2
   exact⟨a1,a2,ty,esz,row,by rw[p2 id p];exact a3,a4⟩
 |lst ty e g rows=>
  cases pl with
  |nil=>exact q2
  |atp id ver e' len=>
   obtain⟨a1,a2,a3,a4,els,a5,a6⟩:=q2;exact⟨a1,a2,a3,a4,els,iI a5 (fun _ _ _ _ e=>by cases e),a6⟩
 |lz ty e dp rows=>
  cases pl with
  |nil=>exact q2
  |atp id ver e' len=>
   obtain⟨a1,a2,a3,a4,a7,els,a5,a6⟩:=q2;exact⟨a1,a2,a3,a4,a7,els,iI a5 (fun _ _ _ _ e=>by cases e),a6⟩
 |tr tt rows hs=>
  obtain⟨ty,e,ks⟩:=tt;cases pl with
  |nil=>exact q2
  |atp id ver e' len=>
   obtain⟨a1,a2,a3,a4,q,els,d,a5,a6,a7⟩:=q2;refine⟨a1,a2,a3,a4,q,els,d,iI a5 (fun _ _ _ _ e=>by cases e),a6,fun i r r' c1 c2=>⟨(a7 i r r' c1 c2).1,fun j a b c3 c4=>?_⟩⟩;have:=(a7 i r r' c1 c2).2 j a b c3 c4;unfold TC at this ⊢;cases hkd:iH ks j with
   |none=>rw[hkd]at this;exact this
   |some t2=>
    rw[hkd]at this;rcases this with b1|⟨b1,b2⟩
    exact .inl b1;exact .inr ⟨b1,b2.lk fun _ _ _ _ _ h=>iI h (fun _ _ _ _ e=>by cases e)⟩
 |mp es=>
  cases pl with
  |nil=>exact q2
  |atp id ver e' len=>
   obtain⟨a1,a2,es',a3,a4⟩:=q2;exact⟨a1,a2,es',iI a3 (fun _ _ _ _ e=>by cases e),a4⟩
 |fl fs=>
  cases pl with
  |nil=>exact q2
  |atp id ver e' len=>
   obtain⟨a1,a2,a3,a4,ty,els,a5,a6⟩:=q2;exact⟨a1,a2,a3,a4,ty,els,iI a5 (fun _ _ _ _ e=>by cases e),a6⟩
 |loop N' e ps a b busy fin=>
  cases pl with
  |nil=>exact q2
  |atp id ver e' len=>
   obtain⟨a1,a2,st,pend,tmps,a3,a4⟩:=q2;exact⟨a1,a2,st,pend,tmps,iI a3 (fun _ _ _ _ e=>by cases e),a4⟩
 obtain⟨z1,z2,z3,z4⟩:=c.hr.zr id o l;exact⟨iI z1 (fun _ _ _ _ e=>by subst e;cases z4),z2,z3,z4⟩;rw[p2 id hid];exact hf.keep id hid hn
end
end Go.P
namespace Go.P
open Go.Sim (AV AO Hp iJ upd St IC IX Ex hZ CK Wf Out doOp lI exec Foot wanted put popMark)
def zG (NF:FuncId->Bool) (N:Nat) (rd:Bool):PC->Bool
 |.reg ops=>lP N [] false [] ops
 |.regD dr ops before=>(Nat.beq dr 3||Nat.beq dr 4||(Nat.beq dr 5&&eC1 ((rP none ops).map fun o=>mL NF dr o.k)))&&lP N [] false [] ops&&Lh ((rP none ops).map fun o=>mL NF dr o.k) before
 |.regX dr ops before ex=>((Nat.beq dr 3||Nat.beq dr 4)&&ex.all (fun p=> !(Nat.beq p.2.2.1 999999))||(Nat.beq dr 5&&eC1 ((rP none ops).map fun o=>mL NF dr o.k)))&&lP N [] false [] ops&&Wa ((rP none ops).map fun o=>mL NF dr o.k) before ex&&ex.all (Zf (rP none ops))
 |.seq a b=>zG NF N rd a&&zG NF N rd b
 |.cond c a b=>Mu N c&&zG NF N rd a&&zG NF N rd b
 |.condJ _ c a b=>Mu N c&&zG NF N rd a&&zG NF N rd b
 |.condL c a b=>Mu N c&&zG NF N rd a&&zG NF N rd b
 |.block _ c=>zG NF N rd c
 |.loop _ _ c=>zG NF N rd c
 |.loopU _ _ c=>zG NF N rd c
 |.rangeF N' _ f _ _ _=>Nat.beq N' N&&Mu N f
 |_=>true
def okL (NF:FuncId->Bool) (N:Nat) (ps:aA Nat) (a b:PC):Bool:=ps.all (fun p=>Nat.blt p N)&&zG NF N true a&&zG NF N true b
def uD:∀{ops:kM} {g:aB (Nat×Bool)},xY ops=true->rP g ops=[]
 |.nil,g,_=>rfl
 |.lax _ _ r,g,h=>uD (ops:=r) h
 |.own _ _ _ _ r,g,h=>uD (ops:=r) h
 |.ownc _ _ _ _ _ r,g,h=>uD (ops:=r) h
 |.laxc _ _ _ r,g,h=>uD (ops:=r) h
 |.gc _ r,g,h=>uD (ops:=r) h
 |.tre _ _ _ r,g,h=>uD (ops:=r) h
section
variable {T:lI} {O:zF} {X:NX}
def Res {R:Type} (T:lI) (N lim:Nat) (rd:Bool) (c:IC) (C:Cx) (n:Nat) (h:aS) (t:aA AV) (s:Hp) (K:Ex->gG->aS->Nat->aB R) (r:R):Prop:=
 ∃x e' h' n' C' a s',K x e' h' n'=some r/\fF C' e' a/\dI C' n' h' lim s'/\a.length=N/\n<=n'/\Fr C h s C' h' s'/\∃D,∀d,D<=d->exec T d lim rd c {t:=t,s:=s}=some (x,{t:=a,s:=s'})
variable {R:Type} {N lim:Nat} {rd:Bool}
def Tr.nil_inv {NF:FuncId->Bool} {dr:Nat} {σ τ:St} {fs:aA Foot} (h:Tr T NF dr lim [] σ fs τ):τ=σ:=by cases h;rfl
def Pu {C:Cx} {x:PV} {a:AV} (h:RV C x a) (hf:dJ1 x=true):Sim.idOf a=[]:=by
 cases h with
 |cl h=>cases h<;>first|rfl|simp[dJ1]at hf
 |_=>simp[dJ1]at hf
def fC1 {C:Cx} {x:PV} {a:AV} {k i:Nat} (h:RV C x a) (hk:xX x=some k) (hi:i∈Sim.idOf a):∃v e l,C k=some (.atp i v e l):=by
 cases h with
 |cl h=>cases h<;>simp[xX]at hk
 |ownn h hy=>subst hy;simp[Sim.idOf]at hi
 |ref h=>simp[xX]at hk;simp[Sim.idOf]at hi;subst hk;subst hi;exact⟨_,_,_,h⟩
 |own h=>simp[xX]at hk;simp[Sim.idOf]at hi;subst hk;subst hi;exact⟨_,_,_,h⟩
 |el h=>simp[xX]at hk;simp[Sim.idOf]at hi;subst hk;subst hi;exact⟨_,_,_,h⟩
 |map h=>simp[xX]at hk;simp[Sim.idOf]at hi;subst hk;subst hi;exact⟨_,_,_,h⟩
 |_=>simp[xX]at hk
def fD1 {C:Cx} {e:gG} {t:aA AV} {n lim:Nat} {h:aS} {s:Hp} (he:fF C e t) (o:dI C n h lim s) {p:Nat×Nat×Nat×Nat}
  (hp:(match gD e p.2.2.1,gD e p.2.2.2 with|some x,some y=>Ta h x y|_,_=>false)=true):Ph {t:=t,s:=s} p:=by
 split at hp;rename_i x y r hy;obtain⟨a,q,g⟩:=he _ _ r;obtain⟨b,hb,j⟩:=he _ _ hy;refine⟨a,b,q,hb,fun i hi d=>?_⟩;unfold Ta at hp;simp only[bZ3]at hp;rcases hp with(hp|hp)|hp;rw[Pu g hp]at hi;simp at hi;rw[Pu j hp]at d;simp at d;split at hp;rename_i k k' h1 h2;simp only[bF3,bW3,bO,cV3]at hp;obtain⟨⟨f,hk⟩,c⟩:=hp;obtain⟨v,m,l,c1⟩:=fC1 g h1 hi;obtain⟨v',e2,l',c2⟩:=fC1 j h2 d;exact f (o.hr.inj k k' i v m l v' e2 l' (fun h=>by rw[h]at hk;cases hk) (fun h=>by rw[h]at c;cases c) c1 c2);cases hp;cases hp
def Bv {h:aS} {k:Nat} (hb:Ld h k=true):∃cs,aK h k=some (.box cs):=by
 unfold Ld at hb;split at hb
 grind
 cases hb
def mB1 {a b:IC} {C:Cx} {n:Nat} {h:aS} {t:aA AV} {s:Hp} {K:Ex->gG->aS->Nat->aB R} {r:R} {q:PC}
  (v:Res T N lim rd a C n h t s (fun x e h n=>match x with|.normal=>jJ O X q e h n K|.exit i=>K (.exit i) e h n|.ret=>K .ret e h n) r)
  (hb:∀C n h e t s,jJ O X q e h n K=some r->fF C e t->dI C n h lim s->t.length=N->Res T N lim rd b C n h t s K r):
  Res T N lim rd (.seq a b) C n h t s K r:=by
 obtain⟨x,f,h1,n1,C1,p,s1,g,j,k,l,u,m,D,o⟩:=v;cases x with
 |normal=>
  obtain⟨A,e2,h2,w,C2,z,y,q1,q2,q3,q4,q5,q6,D2,q7⟩:=hb C1 n1 h1 f p s1 g j k l;refine⟨A,e2,h2,w,C2,z,y,q1,q2,q3,q4,by omega,m.trans q6,D+D2+1,fun d hd=>?_⟩;obtain⟨d,rfl⟩:∃c,d=c+1:=⟨d-1,by omega⟩
  simp only[exec,o d (by omega)];exact q7 d (by omega)
 |exit i=>
  refine⟨.exit i,f,h1,n1,C1,p,s1,g,j,k,l,u,m,D+1,fun d hd=>?_⟩;obtain⟨d,rfl⟩:∃c,d=c+1:=⟨d-1,by omega⟩
  simp only[exec,o d (by omega)]
 |ret=>
  refine⟨.ret,f,h1,n1,C1,p,s1,g,j,k,l,u,m,D+1,fun d hd=>?_⟩;obtain⟨d,rfl⟩:∃c,d=c+1:=⟨d-1,by omega⟩
  simp only[exec,o d (by omega)]
def Gr {c:IX} {a b:IC} {C:Cx} {n:Nat} {h:aS} {t:aA AV} {s:Hp} {K:Ex->gG->aS->Nat->aB R} {r:R} {v:Bool} (hc:c.ev t=some (.v (.bool v)))
  (g:Res T N lim rd (if v then a else b) C n h t s K r):Res T N lim rd (.cond c a b) C n h t s K r:=by
 obtain⟨x,f,h1,n1,C1,q,s1,i,j,k,l,m,o,D,p⟩:=g;refine⟨x,f,h1,n1,C1,q,s1,i,j,k,l,m,o,D+1,fun d hd=>?_⟩;obtain⟨d,rfl⟩:∃e,d=e+1:=⟨d-1,by omega⟩
 simp only[exec,hc];exact p d (by omega)
def Ln {C:Cx} {e:gG} {t:aA AV} {c:PX} {vs:aA PV} (he:fF C e t) (f:Mu N c=true) (a:evs e [c]=some vs) {v:Bool} (hv:vs=[.v (.bool v)]):(eX c).ev t=some (.v (.bool v)):=by
 obtain⟨ys,h1,h2⟩:=lM he (xs:=[c]) (by simpa using f) a;subst hv;obtain⟨y,_,rfl,b,d⟩:=h2.inv_cons;rw[d.inv_nil,jB b]at h1;simp only[dV3,eR3,Sim.evs]at h1;split at h1
 grind
 cases h1
def Pv {c:IC} {w:PC} {keep kx:aA Nat} {n:Nat} {h0:aS} (hd:∀k,aK h0 k≠none->k<n)
  (hb:∀{R':Type} (K':Ex->gG->aS->Nat->aB R') (r':R') C n h e t s,jJ O X w e h n K'=some r'->fF C e t->dI C n h lim s->t.length=N->Res T N lim rd c C n h t s K' r'):
  ∀(k:Nat) (st:Mt) (C:Cx) (t:aA AV) (s:Hp) (x:Ex) (st':Mt),
   aW (fun s:Mt=>jJ O X w s.e s.h n fun x e' h' _=>pI (lk x keep kx) h0 n e' h' fun s'=>some (match x with|.normal=>(.inl s':Mt⊕(Ex×Mt))|x=>.inr (x,s'))) k st=some (x,st')->
   fF C st.e t->dI C n st.h lim s->t.length=N->(∀k,aK h0 k=none↔aK st.h k=none)->
   ∃C' j s',fF C' st'.e j/\dI C' n st'.h lim s'/\j.length=N/\Fr C st.h s C' st'.h s'/\∃D,∀d,D<=d->exec T d lim rd (.loop c) {t:=t,s:=s}=some (x,{t:=j,s:=s'})
 |0,st,C,t,s,x,st',h,_,_,_,_=>by simp[aW]at h
 |k+1,st,C,t,s,x,st',h,he,hM,hN,hkeys=>by
  simp only[aW,bD3]at h
  obtain⟨q,z,h⟩:=h
  have b:dI C n st.h lim {h:=.mark::s.h,n:=s.n}:=⟨⟨hM.hr.ob,hM.hr.inj,hM.hr.zr,hM.hr.wn,hM.hr.wb,hM.hr.wz⟩,hM.dom,hM.wf,hM.lim⟩
  obtain⟨x1,H,h1,n1,C1,v,s1,B,E,F,o,J,G,D,p⟩:=hb _ q C n st.h st.e t _ z he b hN
  have y:∀k,aK st.h k≠none->k<n:=fun k hk=>hd k (fun A=>hk ((hkeys k).1 A))
  obtain⟨g,w1,w2,w3,w4,w5⟩:=rF hd F E B
  have l:∀k,aK st.h k=none↔aK g.h k=none:=fun k=>(hkeys k).symm.trans (w5 k)
  have m:=Fr.canon b G w4 l
  obtain⟨r,u⟩:=dI.pop hM w3 m l
  cases x1 with
  |normal=>
   simp only[bL3]at w1
   subst w1
   simp only at h
   obtain⟨C',j,s',p1,p2,p3,p4,D2,p5⟩:=Pv hd hb k g _ v _ x st' h w2 r o w5
   refine⟨C',j,s',p1,p2,p3,u.trans p4,D+D2+1,fun d f=>?_⟩
   obtain⟨d,rfl⟩:∃a,d=a+1:=⟨d-1,by omega⟩
   rw[exec]
   simp only[p d (by omega)]
   exact p5 d (by omega)
  |exit i=>
   simp only[bL3]at w1
   subst w1
   simp only[bL3,cC3]at h
   obtain⟨rfl,rfl⟩:=h
   refine⟨_,v,_,w2,r,o,u,D+1,fun d f=>?_⟩
   obtain⟨d,rfl⟩:∃a,d=a+1:=⟨d-1,by omega⟩
   rw[exec]
   simp only[p d (by omega)]
  |ret=>
   simp only[bL3]at w1
   subst w1
   simp only[bL3,cC3]at h
   obtain⟨rfl,rfl⟩:=h
   refine⟨_,v,_,w2,r,o,u,D+1,fun d f=>?_⟩
   obtain⟨d,rfl⟩:∃a,d=a+1:=⟨d-1,by omega⟩
   rw[exec]
   simp only[p d (by omega)]
def Js {c:IC} {w:PC} {keep:aA Nat} {n:Nat} {h0:aS} (hd:∀k,aK h0 k≠none->k<n)
  (hb:∀{R':Type} (K':Ex->gG->aS->Nat->aB R') (r':R') C n h e t s,jJ O X w e h n K'=some r'->fF C e t->dI C n h lim s->t.length=N->Res T N lim rd c C n h t s K' r'):
  ∀(k:Nat) (st:Mt) (C:Cx) (t:aA AV) (s:Hp) (K:Ex->Mt->aB R) (r:R),
   Fk (fun e h K=>jJ O X w e h n fun x e h _=>K x e h) (fun e' h' K=>pI keep h0 n e' h' K) k st K=some r->
   fF C st.e t->dI C n st.h lim s->t.length=N->(∀k,aK h0 k=none↔aK st.h k=none)->
   ∃x st' C' j s',K x st'=some r/\fF C' st'.e j/\dI C' n st'.h lim s'/\j.length=N/\Fr C st.h s C' st'.h s'/\∃D,∀d,D<=d->exec T d lim rd (.loop c) {t:=t,s:=s}=some (x,{t:=j,s:=s'})
 |0,st,C,t,s,K,r,h,_,_,_,_=>by simp[Fk]at h
 |k+1,st,C,t,s,K,r,hq,he,hM,hN,hkeys=>by
  simp only[Fk]at hq
  have f:dI C n st.h lim {h:=.mark::s.h,n:=s.n}:=⟨⟨hM.hr.ob,hM.hr.inj,hM.hr.zr,hM.hr.wn,hM.hr.wb,hM.hr.wz⟩,hM.dom,hM.wf,hM.lim⟩
  obtain⟨x1,G,h1,n1,C1,v,s1,A,B,E,o,H,F,D,p⟩:=hb _ r C n st.h st.e t _ hq he f hN
  have y:∀k,aK st.h k≠none->k<n:=fun k hk=>hd k (fun z=>hk ((hkeys k).1 z))
  obtain⟨a,w1,w2,w3,w4,w5⟩:=rF hd E B A
  have l:∀k,aK st.h k=none↔aK a.h k=none:=fun k=>(hkeys k).symm.trans (w5 k)
  have m:=Fr.canon f F w4 l
  obtain⟨q,u⟩:=dI.pop hM w3 m l
  cases x1 with
  |normal=>
   obtain⟨x,st',C',j,s',p0,p1,p2,p3,p4,D2,p5⟩:=Js hd hb k a _ v _ K r w1 w2 q o w5
   refine⟨x,st',C',j,s',p0,p1,p2,p3,u.trans p4,D+D2+1,fun d g=>?_⟩
   obtain⟨d,rfl⟩:∃b,d=b+1:=⟨d-1,by omega⟩
   rw[exec]
   simp only[p d (by omega)]
   exact p5 d (by omega)
  |exit i=>
   refine⟨.exit i,a,_,v,_,w1,w2,q,o,u,D+1,fun d g=>?_⟩
   obtain⟨d,rfl⟩:∃b,d=b+1:=⟨d-1,by omega⟩
   rw[exec]
   simp only[p d (by omega)]
  |ret=>
   refine⟨.ret,a,_,v,_,w1,w2,q,o,u,D+1,fun d g=>?_⟩
   obtain⟨d,rfl⟩:∃b,d=b+1:=⟨d-1,by omega⟩
   rw[exec]
   simp only[p d (by omega)]
def Ce:aS->Nat->aS
 |[],_=>[]
 |(j,o)::r,k=>if j=k then Ce r k else(j,o)::Ce r k
def Pw:∀(h:aS) (k:Nat) (K:aS->aB R),Ox h k K=K (Ce h k)
 |[],_,_=>rfl
 |(j,o)::r,k,K=>by
  simp only[Ox,Ce,bO]
  by_cases e:j=k<;>simp[e,Pw r k]
def rG:∀(h:aS) (k j:Nat),aK (Ce h k) j=if j=k then none else aK h j
 |[],k,j=>by simp[Ce,aK]
 |(i,o)::r,k,j=>by
  have ih:=rG r k j
  simp only[Ce]
  by_cases e:i=k
  subst e
  rw[bK3 rfl,ih]
  by_cases e2:j=i
  simp[e2]
  simp[e2,aK,Ne.symm e2]
  rw[bM3 e]
  simp only[aK]
  by_cases e2:i=j
  subst e2;simp[e]
  grind
def Gs {e:gG}:∀{is:aA Nat} {K:gG->aB R} {r:R},Vn e is K=some r->∃e',K e'=some r/\∀i v,gD e' i=some v->gD e i=some v
 |[],K,r,h=>⟨[],h,fun i v h=>by simp[gD]at h⟩
 |i::is,K,r,h=>by
  unfold Vn at h
  rw[kS,bD3]at h
  obtain⟨v,hv,h⟩:=h
  obtain⟨e',h1,h2⟩:=Gs h
  refine⟨_,h1,fun j w hw=>?_⟩
  simp only[gD]at hw
  split at hw
  grind
  exact h2 j w hw
def Ct {C:Cx} {n:Nat} {h:aS} {lim:Nat} {s:Hp} (f:dI C n h lim s) {k id ver e len N:Nat} {c:gG} {ps:aA Nat} {a b:PC} {busy:Bool} {fin:aB Ex} (hg:aK h k=some (.loop N c ps a b busy fin)) (d:C k=some (.atp id ver e len)):
  lim<=id/\∃st pend tmps,Sim.look s.h id=some (.loop st pend tmps ps (mT a) (mT b))/\tmps.length=N/\fF C c tmps/\StR busy fin st pend:=by
 obtain⟨pl,h1,h2⟩:=f.hr.ob k _ hg;rw[d]at h1;cases h1;exact⟨h2.1,h2.2.2⟩
def iC (H:∀f xs v,O f xs=some v->sJ T f xs v) (F:NOK T X):∀(c:PC) {R:Type} (K:Ex->gG->aS->Nat->aB R) (r:R) (C:Cx) (n:Nat) (h:aS) (e:gG) (t:aA AV) (s:Hp),jJ O X c e h n K=some r->fF C e t->dI C n h lim s->t.length=N->
  zG X.is N rd c=true->Res T N lim rd (mT c) C n h t s K r
 |.skip,R,K,r,C,n,h,e,t,s,hk,he,j,w,u=>⟨.normal,e,h,n,C,t,s,hk,he,j,w,bI3 _,.refl _ _ _,1,fun d hd=>by
   obtain⟨d,rfl⟩:∃L,d=L+1:=⟨d-1,by omega⟩
   simp only[mT,exec]⟩
 |.exit i,R,K,r,C,n,h,e,t,s,hk,he,j,w,u=>⟨.exit i,e,h,n,C,t,s,hk,he,j,w,bI3 _,.refl _ _ _,1,fun d hd=>by
   obtain⟨d,rfl⟩:∃L,d=L+1:=⟨d-1,by omega⟩
   simp only[mT,exec]⟩
 |.ret,R,K,r,C,n,h,e,t,s,hk,he,j,w,u=>⟨.ret,e,h,n,C,t,s,hk,he,j,w,bI3 _,.refl _ _ _,1,fun d hd=>by
   obtain⟨d,rfl⟩:∃L,d=L+1:=⟨d-1,by omega⟩
   simp only[mT,exec]⟩
 |.reg ops,R,K,r,C,n,h,e,t,s,hk,he,j,w,u=>by
  obtain⟨e',h',n',C',t',s',fs,q1,q2,q3,q4,q5,q6,q7,_⟩:=eM H F (.inl rfl) ops [] [] false none C n h e t s _ r hk he j w u trivial (fun _ _ e=>by cases e)
  obtain⟨D,hD⟩:=q2.run rfl
  refine⟨.normal,e',h',n',C',t',s',q1,q3,q4,q5,q6,q7,D+1,fun d hd=>?_⟩
  obtain⟨d,rfl⟩:∃L,d=L+1:=⟨d-1,by omega⟩
  simp only[mT,exec,hD d (by omega),cE3]
 |.regD dr ops before,R,K,r,C,n,h,e,t,s,hk,he,j,w,u=>by
  simp only[zG,bF3,bZ3,bO,bN3]at u
  have U:dr=0\/dr=3\/dr=4\/dr=5:=by rcases u.1.1 with(h|h)|h<;>simp[h]
  obtain⟨e',h',n',C',t',s',fs,q1,q2,q3,q4,q5,q6,q7,_⟩:=eM H F U ops [] [] false none C n h e t s _ r hk he j w u.1.2 trivial (fun _ _ e=>by cases e)
  obtain⟨D,hD⟩:=q2.draw (by rcases u.1.1 with(h|h)|h<;>omega) u.2 (fun h5=>by
   rcases u.1.1 with(h|h)|h
   .omega
   .omega
   .exact h.2)
  refine⟨.normal,e',h',n',C',t',s',q1,q3,q4,q5,q6,q7,D+1,fun d hd=>?_⟩
  obtain⟨d,rfl⟩:∃L,d=L+1:=⟨d-1,by omega⟩
  obtain⟨gs,g1,g2⟩:=hD d (by omega)
  simp only[mT,exec,g1,g2,cF3]
 |.dead _,R,K,r,C,n,h,e,t,s,hk,he,j,w,u=>nomatch hk
 |.regX dr ops before ex,R,K,r,C,n,h,e,t,s,hk,he,j,w,u=>by
  simp only[zG,bF3,bZ3,bO,bN3]at u
  obtain⟨⟨⟨U,d7⟩,b5⟩,d5⟩:=u
  unfold jJ at hk
  have b7:dr=0\/dr=3\/dr=4\/dr=5:=by rcases U with⟨h|h,_⟩|h<;>simp[h]
  obtain⟨e',h',n',C',t',s',fs,q1,q2,q3,q4,q5,q6,q7,_⟩:=eM H F b7 ops [] [] false none C n h e t s _ r hk he j w d7 trivial (fun _ _ e=>by cases e)
  cases hb:exB h e' h' ex with
  |false=>rw[hb]at q1;cases q1
  |true=>
   rw[hb]at q1
   obtain⟨D,hD⟩:=q2.drawX (by rcases U with⟨h|h,_⟩|h<;>omega) b5 d5 (fun p hp=>by
    have hb:=bJ3.1 hb p hp
    cases hm:Nat.beq p.2.2.1 999999 with
    |true=>
     rw[hm,bS3]at hb
     rw[bK3 (bV3 hm)]
     have h5:dr=5:=by
      rcases U with⟨_,h⟩|h
      .have:=bJ3.1 h p hp
       rw[bV3 hm]at this;simp at this
      .exact h.1
     refine⟨h5,?_⟩;split at hb
     .rename_i k o hk
      simp only[bF3]at hb;obtain⟨z,S,rz⟩:=q3 _ _ hk;obtain⟨id,ver,A,len,hC,rfl⟩:=oD rz;refine⟨_,S,fun x hx=>?_⟩;simp only[Sim.idOf,bR3,eX3,or_false]at hx;subst hx;obtain⟨cs0,b6⟩:=Bv hb.1;obtain⟨d9,d3⟩:=Bv hb.2;obtain⟨o',J,k2⟩:=q7.kd k _ b6;rw[d3]at J;cases J;have:=(k2 rfl).2;rw[hC]at this;exact(j.hr.lt (by rw[b6];simp) this.symm).2
     .cases hb
    |false=>
     rw[hm,cB3]at hb;rw[bM3 (fun h=>by rw[h]at hm;cases hm)];exact fD1 q3 q4 hb) (fun h5=>by
    rcases U with⟨h|h,_⟩|h
    .omega
    .omega
    .exact h.2)
   refine⟨.normal,e',h',n',C',t',s',q1,q3,q4,q5,q6,q7,D+1,fun d hd=>?_⟩;obtain⟨d,rfl⟩:∃L,d=L+1:=⟨d-1,by omega⟩
   obtain⟨gs,g1,g2⟩:=hD d (by omega);simp only[mT,exec,g1,g2,cF3]
 |.seq a b,R,K,r,C,n,h,e,t,s,hk,he,j,w,u=>by
  simp only[zG,bF3]at u;have ha:=iC H F a _ r C n h e t s hk he j w u.1;have hb:=fun C n h e t s hk he j w=>iC H F b K r C n h e t s hk he j w u.2;have Z:=mB1 ha hb;unfold mT;split
  .rename_i ops
   split
   .rename_i G
    simp only[bF3]at G;obtain⟨e',h',n',C',t',s',fs,q1,q2,q3,q4,q5,q6,q7,_⟩:=eM H F (.inl rfl) ops [] [] false none C n h e t s _ r hk he j w u.1 trivial (fun _ _ e=>by cases e);rw[uD G.1]at q2;have:=q2.nil_inv;cases this;obtain⟨x2,e2,h2,n2,C2,t2,s2,w1,w2,w3,w4,w5,w6,D2,w7⟩:=hb C' n' h' e' t s q1 q3 q4 w;exact⟨x2,e2,h2,n2,C2,t2,s2,w1,w2,w3,w4,by omega,q7.trans w6,D2,w7⟩
   .exact Z
  .split
   .rename_i ops
    split
    .rename_i G
     simp only[bF3]at G;obtain⟨x1,A,h1,n1,C1,t1,s1,J,k2,k3,k4,k5,k6,k7⟩:=ha;cases x1 with
     |normal=>
      obtain⟨e',h',n',C',t',s',fs,q1,q2,q3,q4,q5,q6,q7,_⟩:=eM H F (.inl rfl) ops [] [] false none C1 n1 h1 A t1 s1 _ r J k2 k3 k4 u.2 trivial (fun _ _ e=>by cases e);rw[uD G.1]at q2;have:=q2.nil_inv;cases this;exact⟨.normal,e',h',n',C',t1,s1,q1,q3,q4,k4,by omega,k6.trans q7,k7⟩
     |exit i=>exact⟨.exit i,A,h1,n1,C1,t1,s1,J,k2,k3,k4,k5,k6,k7⟩
     |ret=>exact⟨.ret,A,h1,n1,C1,t1,s1,J,k2,k3,k4,k5,k6,k7⟩
    .exact Z
   .exact Z
 |.cond c a b,R,K,r,C,n,h,e,t,s,hk,he,j,w,u=>by
  simp only[zG,bF3]at u;unfold jJ at hk;rw[kJ,bD3]at hk;obtain⟨vs,M,hk⟩:=hk;split at hk
  .rename_i v
   rw[rZ]at hk;refine Gr (Ln he u.1.1 M rfl) ?_;cases v with
   |true=>exact iC H F a K r C n h e t s hk he j w u.1.2
   |false=>exact iC H F b K r C n h e t s hk he j w u.2
  .exact aD hk
 |.condJ keep c a b,R,K,r,C,n,h,e,t,s,hk,he,j,w,u=>by
  simp only[zG,bF3]at u;unfold jJ at hk;rw[kJ,bD3]at hk;obtain⟨vs,M,hk⟩:=hk;split at hk
  .rename_i v
   rw[cE,bD3]at hk;obtain⟨q,hq,hk⟩:=hk;rw[rZ]at hq;refine Gr (Ln he u.1.1 M rfl) ?_
   have fin:∀{c:IC},Res T N lim rd c C n h t s (fun x e' h' _=>pI keep h n e' h' fun s=>some (x,s)) q->Res T N lim rd c C n h t s K r:=by
    intro c b8;obtain⟨x1,A,h1,n1,C1,t1,s1,J,k2,k3,k4,k5,k6,D,k7⟩:=b8
    obtain⟨W,w1,w2,w3,w4,w5⟩:=rF (fun k hk=>by
     cases S:aK h k with
     |none=>exact absurd S hk
     |some o=>obtain⟨pl,p1,_⟩:=j.hr.ob k o S;exact j.dom k pl p1) k3 k2 J
    cases w1;exact⟨x1,W.e,W.h,n,_,t1,s1,hk,w2,w3,k4,bI3 _,Fr.canon j k6 w4 w5,D,k7⟩
   cases v with
   |true=>exact fin (iC H F a _ q C n h e t s hq he j w u.1.2)
   |false=>exact fin (iC H F b _ q C n h e t s hq he j w u.2)
  .exact aD hk
 |.condL c a b,R,K,r,C,n,h,e,t,s,hk,he,j,w,u=>by
  simp only[zG,bF3]at u;unfold jJ at hk;rw[kJ,bD3]at hk;obtain⟨vs,M,hk⟩:=hk;split at hk
  .rename_i v
   refine Gr (Ln he u.1.1 M rfl) ?_;cases v with
   |true=>exact iC H F a K r C n h e t s hk he j w u.1.2
   |false=>exact iC H F b K r C n h e t s hk he j w u.2
  .exact aD hk
 |.loopU m keep c,R,K,r,C,n,h,e,t,s,hk,he,j,w,u=>by
  unfold jJ at hk
  have hd:∀k,aK h k≠none->k<n:=fun k hk=>by
   cases S:aK h k with
   |none=>exact absurd S hk
   |some o=>obtain⟨pl,p1,_⟩:=j.hr.ob k o S;exact j.dom k pl p1
  obtain⟨W,w1,w2,w3,w4,w5⟩:=rF hd j he hk;obtain⟨x,st',C',t',s',p0,p1,p2,p3,p4,D,p5⟩:=Js (T:=T) (rd:=rd) (N:=N) (lim:=lim) hd (fun K' r' C n h e t s hk he j w=>iC H F c K' r' C n h e t s hk he j w u) m W _ t s _ r w1 w2 w3 w w5;exact⟨x,st'.e,st'.h,n,C',t',s',p0,p1,p2,p3,bI3 _,(Fr.canon j (.refl _ _ _) w4 w5).trans p4,D,p5⟩
 |.rangeF N' keep f ps a b,R,K,r,C,n,h,e,t,s,hk,he,j,w,u=>by
  simp only[zG,bF3,bW3,bO,bN3]at u;obtain⟨rfl,u⟩:=u;unfold jJ at hk;rw[kJ,bD3]at hk;obtain⟨vs,M,hk⟩:=hk;obtain⟨ys,h1,h2⟩:=lM he (xs:=[f]) (by simpa using u) M;split at hk
  .rename_i g first cap
   obtain⟨y,_,rfl,h3,h4⟩:=h2.inv_cons;rw[h4.inv_nil]at h1;obtain⟨a',b',rfl,h5,h6⟩:=yA h3
   have hf:(eX f).ev t=some (.fn (.func g) a' b'):=by
    simp only[dV3,eR3,Sim.evs]at h1;split at h1
    .rename_i ha hb;simp only[bL3,List.cons.injEq]at h1;rw[<-h1.1];exact ha
    .cases h1
   cases hX1:X.is g with
   |false=>rw[hX1]at hk;exact aD hk
   |true=>
   rw[hX1,bS3]at hk;obtain⟨e0,hk,d4⟩:=Gs hk;have b4:=nI j (.atp s.n 0 0 0)
   obtain⟨m1,m2,m3⟩:=sD j (po:=.loop N' e0 ps a b false none) (ao:=.loop .ready none t ps (mT a) (mT b)) (ver:=0) (e:=0) (len:=0)
    ⟨j.lim,by omega,_,_,t,by rw[gK,bK3 rfl],w,fun i v hv=>(he i v (d4 i v hv)).imp fun y hy=>⟨hy.1,hy.2.mono b4⟩,rfl,rfl⟩
   have hx:LR (RV (ext C n (.atp s.n 0 0 0))) (first++[.yld n]++cap) (a'++[.fn (.yield s.n) [] []]++b'):=
    ((h5.mono fun _ _ h=>h.mono b4).append (.cons (.yld (pK C n _)) .nil)).append (h6.mono fun _ _ h=>h.mono b4)
   obtain⟨v,e',h',n',C',y,s',q1,q2,q3,q4,q5,q6,q7⟩:=Lm (P:=fun y s'=>∃D,∀d,D<=d->Sim.callF T (exec T d) lim g (a'++[.fn (.yield s.n) [] []]++b') _=some (y,s')) m1 (he.mono b4) hx
    (fun hs C0 m K' r' d2 d8 hr=>by
     obtain⟨v,h',n',C',y,s',w1,w2,w3,w4,w5,w6,w7⟩:=F.run g _ hs m K' r' C0 _ lim _ hX1 hr d8 d2;exact⟨v,h',n',C',y,s',w1,w2,w3,w4,w5,w7⟩) hk
   rw[iN,bD3]at q1;obtain⟨ob,Y,q1⟩:=q1;obtain⟨o',z1,z2⟩:=q6.kd n (.loop N' e0 ps a b false none) (by simp[aK]);rw[Y]at z1;cases z1;split at q1
   .rename_i N2 e2 V a2 b2 fin
    have b0:C' n=some (.atp s.n 0 0 0):=by
     have:=(z2 rfl).2;rw[pK]at this;exact this
    obtain⟨_,st,pend,tmps,g1,g2,g3,g4⟩:=Ct q4 Y b0;rw[Pw]at q1;obtain⟨D,hD⟩:=q7;have e3:n<n':=by omega
    have d0:dI C' n' (Ce h' n) lim {h:=upd s'.h s.n (.loop .exhausted pend tmps V (mT a2) (mT b2)),n:=s'.n}:=by
     have nn:∀{k},aK (Ce h' n) k≠none->aK h' k≠none:=fun{k} hk=>by
      rw[rG]at hk;split at hk
      .exact absurd rfl hk
      .exact hk
     refine⟨⟨fun k o B=>?_,fun k k' id v e l v' e' l' a b c d=>q4.hr.inj k k' id v e l v' e' l' (nn a) (nn b) c d,fun id o S=>?_,fun k id v e l a b=>q4.hr.wn k id v e l (nn a) b,q4.hr.wb,q4.hr.wz⟩,q4.dom,q4.wf.upd _ _,q4.lim⟩
     .rw [rG]at B
      split at B
      .cases B
      .rename_i d6
       obtain⟨pl,p1,p2⟩:=q4.hr.ob k o B
       refine⟨pl,p1,p2.mono (bI3 _) (.refl _) (fun id v e l hp=>?_) (fun o sl u=>⟨u,by
        rw[Sim.look_upd,bM3 (fun A=>?_)];have:=q4.hr.wn n s.n _ _ _ (by rw[Y];simp) b0;rw[<-A.1,u]at this;cases this⟩)⟩
       subst hp;rw[Sim.look_upd];rw[bM3 (fun A=>d6 (q4.hr.inj k n s.n _ _ _ _ _ _ (by rw[B];simp) (by rw[Y];simp) (by rw[<-A.1];exact p1) b0))]
     .obtain ⟨z1,z2,z3,z4⟩:=q4.hr.zr id o S
      refine⟨?_,z2,fun k v e l a b=>z3 k v e l (nn a) b,z4⟩;rw[Sim.look_upd,bM3 (fun A=>z3 n 0 0 0 (by rw[Y];simp) (by rw[A.1];exact b0))];exact z1
    have E:=m2.trans q6
    have b9:Fr C h s C' (Ce h' n) {h:=upd s'.h s.n (.loop .exhausted pend tmps V (mT a2) (mT b2)),n:=s'.n}:=by
     refine⟨E.sk.trans (.upd _ _ _ _) E.n,E.n,fun id hid hn=>?_,fun id hid hn=>E.own id hid ?_,fun k o B=>?_,E.zl,E.zn⟩
     .rw [Sim.look_upd,bM3 (by omega)]
      exact E.keep id hid hn
     .rcases hn with⟨k,v,e,l,p1,p2⟩|hn
      .refine .inl ⟨k,v,e,l,?_,p2⟩
       rw[rG]at p1;split at p1
       .exact absurd rfl p1
       .exact p1
      .exact .inr hn
     .obtain ⟨o',p1,p2⟩:=E.kd k o B
      refine⟨o',?_,p2⟩;rw[rG,bM3 (fun A=>?_)]
      .exact p1
      .subst A
       rw[uS j (bI3 _)]at B;cases B
    have go:∀x,K x e' (Ce h' n) n'=some r->st≠.busy->(match pend with
       |none=>some (Ex.normal,({t:=t,s:={h:=upd s'.h s.n (.loop .exhausted pend tmps V (mT a2) (mT b2)),n:=s'.n}}:St))
       |some .ret=>some (.ret,{t:=t,s:={h:=upd s'.h s.n (.loop .exhausted pend tmps V (mT a2) (mT b2)),n:=s'.n}})
       |some (.exit id)=>some (.exit id,{t:=t,s:={h:=upd s'.h s.n (.loop .exhausted pend tmps V (mT a2) (mT b2)),n:=s'.n}})
       |_=>none)=some (x,{t:=t,s:={h:=upd s'.h s.n (.loop .exhausted pend tmps V (mT a2) (mT b2)),n:=s'.n}})->
      Res T N' lim rd (mT (.rangeF N' keep f ps a b)) C n h t s K r:=by
     intro x hK b5 hx;refine⟨x,e',Ce h' n,n',C',t,_,hK,fun i v hv=>(q3 i v hv).imp fun z S=>⟨S.1,S.2.1⟩,d0,w,by omega,b9,D+1,fun d hd=>?_⟩;obtain⟨d,rfl⟩:∃L,d=L+1:=⟨d-1,by omega⟩
     simp only[mT,exec,hf,hD d (by omega),g1,Sim.endRound,bQ3,cR3];rw[bM3 b5];exact hx
    split at q1
    .obtain ⟨rfl,rfl⟩:=g4
     exact go _ q1 (by simp) rfl
    .obtain ⟨rfl,rfl⟩:=g4
     exact go _ q1 (by simp) rfl
    .obtain ⟨rfl,rfl⟩:=g4
     exact go _ q1 (by simp) rfl
    .exact aD q1
   .exact aD q1
  .exact aD hk
 |.block id c,R,K,r,C,n,h,e,t,s,hk,he,j,w,u=>by
  unfold jJ at hk;obtain⟨x1,A,h1,n1,C1,t1,s1,J,k2,k3,k4,k5,k6,D,k7⟩:=iC H F c _ r C n h e t s hk he j w u
  have go:∀(x:Ex),(∀d,D<=d->(match exec T d lim rd (mT c) {t:=t,s:=s}with|some (.exit i,σ)=>if i=id then some (.normal,σ)else some (.exit i,σ)|r=>r)=some (x,{t:=t1,s:=s1}))->K x A h1 n1=some r->Res T N lim rd (mT (.block id c)) C n h t s K r:=by
   intro x hx hK;refine⟨x,A,h1,n1,C1,t1,s1,hK,k2,k3,k4,k5,k6,D+1,fun d hd=>?_⟩;obtain⟨d,rfl⟩:∃L,d=L+1:=⟨d-1,by omega⟩
   rw[mT,exec];exact hx d (by omega)
  cases x1 with
  |normal=>exact go .normal (fun d hd=>by rw[k7 d hd]) J
  |ret=>exact go .ret (fun d hd=>by rw[k7 d hd]) J
  |exit i=>
   simp only[bO]at J;by_cases A:i=id
   .subst A
    simp only[dD3,bS3]at J;exact go .normal (fun d hd=>by rw[k7 d hd];simp) J
   .simp only[cI3 A,cB3]at J
    exact go (.exit i) (fun d hd=>by rw[k7 d hd];simp[A]) J
 |.loop keep kx c,R,K,r,C,n,h,e,t,s,hk,he,j,w,u=>by
  unfold jJ at hk
  have hd:∀k,aK h k≠none->k<n:=fun k hk=>by
   cases S:aK h k with
   |none=>exact absurd S hk
   |some o=>obtain⟨pl,p1,_⟩:=j.hr.ob k o S;exact j.dom k pl p1
  obtain⟨W,w1,w2,w3,w4,w5⟩:=rF hd j he hk;rw[cE,bD3]at w1;obtain⟨⟨x,st'⟩,hq,hK⟩:=w1;obtain⟨C',t',s',p1,p2,p3,p4,D,p5⟩:=Pv (T:=T) (rd:=rd) (N:=N) (lim:=lim) hd (fun K' r' C n h e t s hk he j w=>iC H F c K' r' C n h e t s hk he j w u) bP W _ t s x st' hq w2 w3 w w5;exact⟨x,st'.e,st'.h,n,C',t',s',hK,p1,p2,p3,bI3 _,(Fr.canon j (.refl _ _ _) w4 w5).trans p4,D,p5⟩
end
end Go.P
namespace Go.P
open Go.Sim (AV AO Hp iJ upd St IC IX Ex hZ CK Wf Out doOp lI exec Foot wanted put popMark mapO oS Rp fzC fz1 fz)
open Go.Sim (RV IFn)
structure cR where
 ntmps:Nat
 res:List Sim.RV
 code:PC
 frz:Bool
 deriving Inhabited
noncomputable section
variable {R:Type}
def Px:aA PV->Nat->(gG->aB R)->aB R
 |[],_,K=>K []
 |x::xs,i,K=>fV x fun x=>Px xs (i+1) fun e=>K ((i,x)::e)
def Gt (e:gG) (h:aS) (n:Nat):aA Sim.RV->(aA PV->aB R)->aB R
 |[],K=>K []
 |.tmp i::rs,K=>vG e i fun v=>Gt e h n rs fun vs=>K (v::vs)
 |.cellS i::rs,K=>vG e i fun p=>gB .loadS [p] h n fun v _ _=>Gt e h n rs fun vs=>K (v::vs)
 |.cellA i m::rs,K=>vG e i fun p=>gB (.loadA m) [p] h n fun v _ _=>Gt e h n rs fun vs=>K (v::vs)
def Py (h:aS):Nat->PV->(PV->aB R)->aB R
 |0,_,_=>none
 |d+1,x,K=>match x with
  |.own k=>hK h k fun ob=>match ob with
   |.lst _ e _ rows=>K (.is e rows)
   |.lz _ e dp rows=>bif Nat.ble dp (d+1)then K (.is e rows)else none
   |.tr t rows hs=>match hs with
    |[]=>match t with|.nd ty e ks=>bif Hs (d+1) (.nd ty e ks)then K (.is e rows)else none
    |_=>none
   |_=>none
  |.zs dp e rows=>bif Nat.ble dp (d+2)then K (.is e rows)else none
  |.ref k o=>hK h k fun ob=>match ob with
   |.box cs=>kR o cs fun cs=>vH (Py h d) cs fun cs=>K (.ip cs)
   |_=>none
  |.v x=>K (.v x)
  |.is e rows=>K (.is e rows)
  |.ip cs=>K (.ip cs)
  |_=>none
def mC1 (h:aS) (x:PV) (K:PV->aB R):aB R:=match x with
 |.fn f [] cap=>vH (Py h 4) cap fun c=>K (.fn f [] c)
 |x=>Py h 4 x K
def mD1 (h:aS):aA PV->(aA PV->aB R)->aB R
 |[],K=>K []
 |x::xs,K=>mC1 h x fun x=>mD1 h xs fun xs=>K (x::xs)
def mE1 (h:aS) (x:PV) (K:PV->aB R):aB R:=match x with
 |.agg cs=>mD1 h cs fun cs=>K (.agg cs)
 |x=>mC1 h x K
def mF1 (h:aS):aA PV->(aA PV->aB R)->aB R
 |[],K=>K []
 |x::xs,K=>mE1 h x fun x=>mF1 h xs fun xs=>K (x::xs)
def rzK (h:aS) (x:PV) (K:PV->aB R):aB R:=match x with
 |.tup vs=>mF1 h vs fun vs=>K (.tup vs)
 |.map k=>hK h k fun ob=>match ob with
  |.mp es=>K (.im es)
  |_=>none
 |x=>mE1 h x K
def Gu (C:zF) (X:NX) (fn:cR) (xs:aA PV) (K:PV->aB R):aB R:=
 bif Nat.ble xs.length fn.ntmps then Px xs 0 fun e=>jJ C X fn.code e [] 0 fun x e h n=>match x with
  |.exit _=>none
  |_=>Gt e h n fn.res fun vs=>match vs with
   |[v]=>rzK h v K
   |vs=>rzK h (.tup vs) K
 else none
def fE1 (C:zF) (X:NX) (fn:cR) (xs:aA PV) (h:aS) (n:Nat) (K:PV->aS->Nat->aB R):aB R:=
 bif Nat.ble xs.length fn.ntmps then Px xs 0 fun e=>jJ C X fn.code e h n fun x e h n=>match x with
  |.exit _=>none
  |_=>Gt e h n fn.res fun vs=>match vs with
   |[v]=>K v h n
   |vs=>K (.tup vs) h n
 else none
def Tq:gG->aA Nat->aA PV->(gG->aB R)->aB R
 |e,[],[],K=>K e
 |e,p::ps,x::xs,K=>kT e [p] fun e=>Tq ((p,x)::e) ps xs K
 |_,_,_,_=>none
def okG (NF:FuncId->Bool) (N:Nat) (ps:aA Nat) (a b:PC):aB Unit:=if okL NF N ps a b=true then some ()else none
def mG1 (C:zF) (X:NX) (k:Nat) (xs:aA PV) (h:aS) (n:Nat) (K:PV->aS->Nat->aB R):aB R:=
 hK h k fun ob=>match ob with
 |.loop N e ps a b false none=>cM (okG X.is N ps a b) fun _=>Tq e ps xs fun e=>jJ C X a e h n fun x e h n=>match x with
  |.normal=>hK h k fun ob=>match ob with
   |.loop N e' ps a b' false none=>iT h k (.loop N e' ps a b' true none) fun h=>jJ C X b e h n fun x _ h n=>hK h k fun ob=>match ob with
    |.loop N e' ps a b' _ _=>match x with
     |.normal=>iT h k (.loop N e' ps a b' false none) fun h=>K (.v (.bool true)) h n
     |.exit i=>iT h k (.loop N e' ps a b' false (some (.exit i))) fun h=>K (.v (.bool false)) h n
     |.ret=>iT h k (.loop N e' ps a b' false (some .ret)) fun h=>K (.v (.bool false)) h n
    |_=>none
   |_=>none
  |_=>none
 |_=>none
abbrev Al:=Nat->aB cR
abbrev wG1:=FuncId->aA PV->aS->Nat->aB (PV×aS×Nat)
structure NB where
 nw:FuncId->Bool
 xw:FuncId->Bool:=fun _=>false
 run:wG1:=fun _ _ _ _=>none
def OX (B:zF) (NF:FuncId->Bool) (NW:NB) (P:Al):Nat->zF×NX
 |0=>(fun f xs=>bif NF f then none else B f xs,⟨NF,NW.nw,NW.xw,fun _ _ _ _ _=>none,fun _ _ _ _ _=>none⟩)
 |d+1=>(fun f xs=>bif NF f then none else match P f with
   |some fn=>bif fn.frz then Gu (OX B NF NW P d).1 (OX B NF NW P d).2 fn xs some else(Gu (OX B NF NW P d).1 (OX B NF NW P d).2 fn xs some).bind fun v=>bif zY 4 v then none else some v
   |none=>B f xs,
  ⟨NF,NW.nw,NW.xw,fun f xs h n K=>match P f with
   |some fn=>fE1 (OX B NF NW P d).1 (OX B NF NW P d).2 fn xs h n K
   |none=>(NW.run f xs h n).bind fun r=>K r.1 r.2.1 r.2.2,fun k xs h n K=>mG1 (OX B NF NW P d).1 (OX B NF NW P d).2 k xs h n K⟩)
def Od (B:zF) (NF:FuncId->Bool) (NW:NB) (P:Al) (d:Nat):zF:=(OX B NF NW P d).1
def Xd (B:zF) (NF:FuncId->Bool) (NW:NB) (P:Al) (d:Nat):NX:=(OX B NF NW P d).2
end
def Ts (n x:Bool) (fn:cR):IFn:={ntmps:=fn.ntmps,res:=fn.res,body:=mT fn.code,pure:= !n,frz:=bif n then x else fn.frz}
section
variable {R:Type}
def Bw:aA PV->Nat->gG
 |[],_=>[]
 |x::xs,i=>(i,x)::Bw xs (i+1)
def Gv:∀(xs:aA PV) (i:Nat) (K:gG->aB R),Px xs i K=K (Bw xs i)
 |[],i,K=>rfl
 |x::xs,i,K=>by simp[Px,Pa,Bw,Gv xs]
def Am:∀(xs:aA PV) (i j:Nat) (v:PV),gD (Bw xs i) j=some v->i<=j/\xs[j-i]? =some v
 |[],i,j,v,h=>by simp[Bw,gD]at h
 |x::xs,i,j,v,h=>by
  simp only[Bw,gD]at h
  split at h
  grind
  obtain⟨h1,h2⟩:=Am xs (i+1) j v h
  refine⟨by omega,?_⟩
  rw[show j-i=(j-(i+1))+1 by omega]
  simpa using h2
variable {C:Cx} {n:Nat} {h:aS} {lim:Nat} {s:Hp} {e:gG} {t:List AV}
def Pz {k:hZ} {y:AV} {K:PV->aS->Nat->aB R} {r:R} (hs:Fw C n h s k [y] K r):
  ∃w z,K w h n=some r/\(doOp (Sim.look s.h) 0 0 k [y]).map (·.v)=some z/\RV C w z:=by
 obtain⟨w,z,h1,h2,a⟩:=hs;exact⟨w,z,a,by rw[h1 0 0];rfl,h2⟩
def yM (b:dI C n h lim s) (he:fF C e t):∀{g:aA Sim.RV} {K:aA PV->aB R} {r:R},Gt e h n g K=some r->
  ∃vs a,K vs=some r/\mapO (Sim.readRes (Sim.look s.h) t) g=some a/\LR (RV C) vs a
 |[],K,r,hk=>⟨[],[],hk,rfl,.nil⟩
 |.tmp i::g,K,r,hk=>by
  unfold Gt at hk
  rw[kS,bD3]at hk
  obtain⟨v,hv,hk⟩:=hk
  obtain⟨y,h1,h2⟩:=he i v hv
  obtain⟨vs,a,c,d,f⟩:=yM b he hk
  exact⟨_,y::a,c,by simp[mapO,Sim.readRes,h1,d],.cons h2 f⟩
 |.cellS i::g,K,r,hk=>by
  unfold Gt at hk
  rw[kS,bD3]at hk
  obtain⟨v,hv,hk⟩:=hk
  obtain⟨y,h1,h2⟩:=he i v hv
  obtain⟨w,z,q1,q2,q3⟩:=Pz (Fx b (.cons h2 .nil) hk)
  obtain⟨vs,a,c,d,f⟩:=yM b he q1
  exact⟨_,z::a,c,by simp only[mapO,Sim.readRes,h1,q2,d],.cons q3 f⟩
 |.cellA i m::g,K,r,hk=>by
  unfold Gt at hk
  rw[kS,bD3]at hk
  obtain⟨v,hv,hk⟩:=hk
  obtain⟨y,h1,h2⟩:=he i v hv
  obtain⟨w,z,q1,q2,q3⟩:=Pz (Fy b (.cons h2 .nil) hk)
  obtain⟨vs,a,c,d,f⟩:=yM b he q1
  exact⟨_,z::a,c,by simp only[mapO,Sim.readRes,h1,q2,d],.cons q3 f⟩
def mH1 {L:Nat->aB AO} {d id ver e o:Nat} {bx:Bool} {ty:TypeId} {esz:Nat} {els:aA (aA AV)} {row cs:aA AV} (a:L id=some (.arr bx ty esz ver els)) (hr:els[e]? =some row) (hc:mapO (oS L 0 d) (row.drop o)=some cs):oS L 0 (d+1) (.ptr id ver e o)=some (.ip cs):=by
 simp[oS,a,hr,hc]
def Lo (j:dI C n h lim s):∀(d:Nat) (x:PV) (y:AV) (K:PV->aB R) (r:R),Py h d x K=some r->RV C x y->∃G E,K G=some r/\oS (Sim.look s.h) 0 (d+2) y=some E/\RC false G E
 |0,x,y,K,r,hk,_=>by unfold Py at hk;exact aD hk
 |d+1,x,y,K,r,hk,hv=>by
  unfold Py at hk
  cases x with
  |own k=>
   simp only[iN,bD3]at hk
   obtain⟨ob,hg,hk⟩:=hk
   cases ob with
   |lst ty e g rows=>
    rcases jI hv with⟨id,ver,F,len,c,rfl⟩|⟨c,rfl⟩
    obtain⟨_,rfl,hlen,els,p,hr,q,_⟩:=lZ j hg c
    subst hlen
    exact⟨_,_,hk,Wb (d:=d+1) (cQ3 _) p hr q.1,hr.is⟩
    have:=nO j hg c
    subst this
    exact⟨_,_,hk,rfl,.isn⟩
   |lz ty e dp rows=>
    cases hb:Nat.ble dp (d+1)with
    |false=>simp only[hb,cB3]at hk;exact aD hk
    |true=>
    simp only[hb,bS3]at hk
    have hb:=bP3 hb
    rcases jI hv with⟨id,ver,F,len,c,rfl⟩|⟨c,rfl⟩
    obtain⟨_,_,rfl,hlen,_,els,p,hr⟩:=Fs j hg c
    subst hlen
    obtain⟨w,m,l⟩:=sW1 (n0:=0) (f:=d+2) (fun id o D=>⟨cQ3 _,(j.hr.zr id o D).1⟩) (by omega) (cQ3 _) p hr
    exact⟨_,_,hk,m,l.is⟩
    have:=Ft j hg c
    subst this
    exact⟨_,_,hk,rfl,.isn⟩
   |tr t rows hs=>
    obtain⟨ty,e,ks⟩:=t
    cases hs with
    |cons a b=>exact aD hk
    |nil=>
    cases hb:Hs (d+1) (.nd ty e ks)with
    |false=>simp only[hb,cB3]at hk;exact aD hk
    |true=>
    simp only[hb,bS3]at hk
    rcases jI hv with⟨id,ver,F,len,c,rfl⟩|⟨c,rfl⟩
    obtain⟨z,_,rfl,hlen,_,els,J,p,q,hr⟩:=mU j hg c
    subst hlen
    obtain⟨w,m,l⟩:=sX1 (n0:=0) (f:=d+1) (cQ3 _) z hb p q.1 hr
    exact⟨_,_,hk,m,l.is⟩
    have:=(tZ j hg c).1
    subst this
    exact⟨_,_,hk,rfl,.isn⟩
   |_=>exact aD hk
  |zs dp e rows=>
   cases hb:Nat.ble dp (d+2)with
   |false=>simp only[hb,cB3]at hk;exact aD hk
   |true=>
   simp only[hb,bS3]at hk
   have hb:=bP3 hb
   obtain⟨E,m,l⟩:=Wc (L:=Sim.look s.h) (n0:=0) (fun id o D=>⟨cQ3 _,(j.hr.zr id o D).1⟩) dp (d+3) (by omega) _ _ (Ja hv)
   exact⟨_,_,hk,m,l.weak⟩
  |ref k o=>
   simp only[iN,bD3]at hk
   obtain⟨ob,hg,hk⟩:=hk
   cases ob with
   |box cs=>
    obtain⟨m,l⟩:=gP _ _ _ _ hk
    obtain⟨id,ver,e,len,c,rfl⟩:=oD hv
    obtain⟨_,ty,esz,row,p,hl⟩:=Ac j hg c
    have u:∀(xs:aA PV) (ys:aA AV) (K:aA PV->aB R) (r:R),vH (Py h d) xs K=some r->LR (RV C) xs ys->
      ∃xs' i,K xs'=some r/\mapO (oS (Sim.look s.h) 0 (d+2)) ys=some i/\LR (RC false) xs' i:=by
     intro xs
     induction xs with
     |nil=>
      intro ys K r hk hl;rw[hl.inv_nil];unfold vH at hk;exact⟨[],[],hk,rfl,.nil⟩
     |cons a as ih=>
      intro ys K r hk hl;obtain⟨y,i,rfl,h1,h2⟩:=hl.inv_cons;unfold vH at hk;obtain⟨a',b',m,l,H⟩:=Lo j d a y _ r hk h1;obtain⟨A,B,q1,q2,q3⟩:=ih i _ r m h2;exact⟨a'::A,b'::B,q1,by simp only[mapO,l,q2],.cons H q3⟩
    obtain⟨xs',i,q1,q2,q3⟩:=u _ _ _ r l (hl.drop o);refine⟨_,.ip i,q1,?_,.ip q3.1 q3.2⟩;exact mH1 p rfl q2
   |_=>exact aD hk
  |v x=>
   rw[jB hv];exact⟨_,_,hk,rfl,.v x⟩
  |is e rows=>
   rcases wI hv with⟨rows',rfl,hr⟩|⟨rfl,rfl⟩
   exact⟨_,_,hk,rfl,hr.is⟩;exact⟨_,_,hk,rfl,.isn⟩
  |ip cs=>
   obtain⟨cs',rfl,hl⟩:=Bq hv;exact⟨_,_,hk,rfl,.ip hl.1 hl.2⟩
  |_=>exact aD hk
def Zn {L:Nat->aB AO} {y c:AV} (h:oS L 0 6 y=some c):fzC L 0 y=some c:=by
 cases y with
 |sl=>simp only[fzC,Nat.not_lt_zero,cR3];exact h
 |ptr=>simp only[fzC,Nat.not_lt_zero,cR3];exact h
 |map=>simp[oS]at h
 |fn v a b=>simp[oS]at h
 |_=>exact h
def Zo {L:Nat->aB AO} {y a:AV} (h:fzC L 0 y=some a) (hy:∀cs,y≠.agg cs):fz1 L 0 y=some a:=by
 cases y with
 |agg cs=>exact absurd rfl (hy cs)
 |_=>exact h
def fF1 {L:Nat->aB AO} {y a:AV} (h:fz1 L 0 y=some a) (hy:∀cs,y≠.tup cs) (b:∀id,y≠.map id):fz L 0 y=some a:=by
 cases y with
 |tup cs=>exact absurd rfl (hy cs)
 |map id=>exact absurd rfl (b id)
 |_=>exact h
def Qa (f:dI C n h lim s) (d:Nat):∀(xs:aA PV) (ys:aA AV) (K:aA PV->aB R) (r:R),vH (Py h d) xs K=some r->LR (RV C) xs ys->
  ∃xs' b,K xs'=some r/\mapO (oS (Sim.look s.h) 0 (d+2)) ys=some b/\LR (RC false) xs' b
 |[],ys,K,r,hk,hl=>by
  rw[hl.inv_nil]
  unfold vH at hk
  exact⟨[],[],hk,rfl,.nil⟩
 |a::as,ys,K,r,hk,hl=>by
  obtain⟨y,b,rfl,h1,h2⟩:=hl.inv_cons
  unfold vH at hk
  obtain⟨a',b',g,i,j⟩:=Lo f d a y _ r hk h1
  obtain⟨c,e,q1,q2,q3⟩:=Qa f d as b _ r g h2
  exact⟨a'::c,b'::e,q1,by simp only[mapO,i,q2],.cons j q3⟩
def Wn (d:dI C n h lim s) {x:PV} {y:AV} {K:PV->aB R} {r:R} (hk:mC1 h x K=some r) (hv:RV C x y):∃a b,K a=some r/\fzC (Sim.look s.h) 0 y=some b/\RC false a b:=by
 unfold mC1 at hk;split at hk;rename_i f cap;obtain⟨a',b',rfl,h1,h2⟩:=yA hv;rw[h1.inv_nil];obtain⟨xs',c,q1,q2,q3⟩:=Qa d 4 _ _ _ r hk h2;exact⟨.fn f [] xs',.fn (.func f) [] c,q1,by simp only[fzC,q2,cE3],.fn rfl q3.1 (fun j x y h=>by simp at h) q3.2⟩;obtain⟨a,b,h1,h2,e⟩:=Lo d 4 x y K r hk hv;exact⟨a,b,h1,Zn h2,e⟩
def Qb (d:dI C n h lim s):∀{xs:aA PV} {ys:aA AV} {K:aA PV->aB R} {r:R},mD1 h xs K=some r->LR (RV C) xs ys->∃xs' a,K xs'=some r/\mapO (fzC (Sim.look s.h) 0) ys=some a/\LR (RC false) xs' a
 |[],ys,K,r,hk,hl=>by rw[hl.inv_nil];exact⟨[],[],hk,rfl,.nil⟩
 |x::xs,ys,K,r,hk,hl=>by
  obtain⟨y,a,rfl,h1,h2⟩:=hl.inv_cons
  unfold mD1 at hk
  obtain⟨a',b',e,f,g⟩:=Wn d hk h1
  obtain⟨b,c,q1,q2,q3⟩:=Qb d e h2
  exact⟨a'::b,b'::c,q1,by simp only[mapO,f,q2],.cons g q3⟩
def Zp {x:PV} {y:AV} (hv:RV C x y) (a:∀cs,x≠.agg cs) (b:x≠.undef):∀cs,y≠.agg cs:=by
 intro cs hy;subst hy;cases hv with
 |cl h=>cases h;exact a _ rfl
 |undef=>exact b rfl
 |ownn _ hy=>cases hy
 |agg=>exact a _ rfl
 |zs h=>rcases Jb h with(⟨_,h,_⟩|⟨_,h⟩)|⟨_,_,_,_,_,_,h,_⟩<;>cases h
def Zq {x:PV} {y:AV} (hv:RV C x y) (a:∀cs,x≠.tup cs) (b:x≠.undef):∀cs,y≠.tup cs:=by
 intro cs hy;subst hy;cases hv with
 |cl h=>cases h;exact a _ rfl
 |undef=>exact b rfl
 |ownn _ hy=>cases hy
 |tup=>exact a _ rfl
 |zs h=>rcases Jb h with(⟨_,h,_⟩|⟨_,h⟩)|⟨_,_,_,_,_,_,h,_⟩<;>cases h
def Zr {x:PV} {y:AV} (hv:RV C x y) (b:∀k,x≠.map k) (c:∀es,x≠.zm es) (a:x≠.undef):∀id,y≠.map id:=by
 intro id hy;subst hy;cases hv with
 |cl h=>cases h
 |undef=>exact a rfl
 |ownn _ hy=>cases hy
 |map=>exact b _ rfl
 |zs h=>rcases Jb h with(⟨_,h,_⟩|⟨_,h⟩)|⟨_,_,_,_,_,_,h,_⟩<;>cases h
 |zm=>exact c _ rfl
def Wo (d:dI C n h lim s) {x:PV} {y:AV} {K:PV->aB R} {r:R} (hk:mE1 h x K=some r) (hv:RV C x y):∃a b,K a=some r/\fz1 (Sim.look s.h) 0 y=some b/\RC false a b:=by
 unfold mE1 at hk;split at hk;rename_i cs;obtain⟨cs',rfl,hl⟩:=qP hv;obtain⟨xs',c,j,k,f⟩:=Qb d hk hl;exact⟨_,.agg c,j,by simp only[fz1,k,cE3],.agg f.1 f.2⟩;rename_i i;obtain⟨a,b,h1,h2,g⟩:=Wn d hk hv;by_cases e:x=.undef;subst e;exact aD hk;exact⟨a,b,h1,Zo h2 (Zp hv i e),g⟩
def Qc (d:dI C n h lim s):∀{xs:aA PV} {ys:aA AV} {K:aA PV->aB R} {r:R},mF1 h xs K=some r->LR (RV C) xs ys->∃xs' a,K xs'=some r/\mapO (fz1 (Sim.look s.h) 0) ys=some a/\LR (RC false) xs' a
 |[],ys,K,r,hk,hl=>by rw[hl.inv_nil];exact⟨[],[],hk,rfl,.nil⟩
 |x::xs,ys,K,r,hk,hl=>by
  obtain⟨y,a,rfl,h1,h2⟩:=hl.inv_cons
  unfold mF1 at hk
  obtain⟨a',b',e,f,g⟩:=Wo d hk h1
  obtain⟨b,c,q1,q2,q3⟩:=Qc d e h2
  exact⟨a'::b,b'::c,q1,by simp only[mapO,f,q2],.cons g q3⟩
def fG1 (c:dI C n h lim s) {x:PV} {y:AV} {K:PV->aB R} {r:R} (hk:rzK h x K=some r) (hv:RV C x y):∃a b,K a=some r/\fz (Sim.look s.h) 0 y=some b/\RC false a b:=by
 unfold rzK at hk;split at hk;rename_i vs;obtain⟨cs',rfl,hl⟩:=Fo hv;obtain⟨xs',f,p,q,g⟩:=Qc c hk hl;exact⟨_,.tup f,p,by simp only[fz,q,cE3],.tup g.1 g.2⟩;rename_i k;rw[iN,bD3]at hk;obtain⟨ob,hg,hk⟩:=hk;cases ob with
 |mp es=>
  obtain⟨id,ver,e,len,j,rfl⟩:=Fp hv;obtain⟨_,es',l,he⟩:=Vr c hg j;refine⟨_,.im es',hk,?_,he.er.im⟩;simp only[fz,Nat.not_lt_zero,cR3,l];exact congrArg (Option.map AV.im) (eK1 he)
 |_=>exact aD hk
 rename_i o m;obtain⟨a,b,h1,h2,i⟩:=Wo c hk hv;by_cases d:x=.undef;subst d;exact aD hk;exact⟨a,b,h1,fF1 h2 (Zq hv o d) (Zr hv m (fun es he=>by subst he;exact aD hk) d),i⟩
variable {T:lI} {O:zF} {X:NX}
def Qd (u:∀f xs v,O f xs=some v->sJ T f xs v) (z:NOK T X) {fn:cR} (j:zG X.is fn.ntmps false fn.code=true) {xs:aA PV} {ys:aA AV} {v:PV} (hl:LR (RC false) xs ys) (hk:Gu O X fn xs some=some v):
  ∃D,∀d,D<=d->∃w s' y,Sim.body (exec T d) 0 (Ts false false fn) ys {h:=[],n:=0}=some (w,s')/\Sim.fz (Sim.look s'.h) 0 w=some y/\RC false v y:=by
 unfold Gu at hk;cases c:Nat.ble xs.length fn.ntmps with
 |false=>rw[c]at hk;exact aD hk
 |true=>
  rw[c,bS3,Gv]at hk;have c:xs.length<=fn.ntmps:=by simpa[Nat.ble_eq]using c
  have hlen:=hl.1;have s:dI ⟨fun _=>none,fun _=>none,fun _=>none⟩ 0 [] 0 ({h:=[],n:=0}:Hp):=⟨⟨fun k po h=>by simp[aK]at h,fun k k' id v e l v' e' l' a=>absurd rfl a,fun id o h=>(by cases h),fun k id v e l a=>absurd rfl a,fun id sl h=>(by cases h),fun id o h=>(by cases h)⟩,fun k pl h=>(by cases h),trivial,bI3 _⟩
  have he:fF ⟨fun _=>none,fun _=>none,fun _=>none⟩ (Bw xs 0) (ys++List.replicate (fn.ntmps-ys.length) .undef):=fun i v hv=>by
   obtain⟨_,h2⟩:=Am xs 0 i v hv;obtain⟨y,p,r⟩:=hl.get (by simpa using h2);exact⟨y,by rw[eB3 (bG3.1 p).1];exact p,.cl r⟩
  obtain⟨x,e',h',n',C',E,s',q1,q2,q3,q4,q5,q6,D,q7⟩:=iC (T:=T) (rd:=false) (lim:=0) (N:=fn.ntmps) u z fn.code _ v _ 0 [] _ (ys++List.replicate (fn.ntmps-ys.length) .undef) _ hk he s (by simp;omega) j
  have fin:(∀i,x≠.exit i)->(Gt e' h' n' fn.res fun vs=>match vs with|[v]=>rzK h' v some|vs=>rzK h' (.tup vs) some)=some v->
    ∃D,∀d,D<=d->∃w s' y,Sim.body (exec T d) 0 (Ts false false fn) ys {h:=[],n:=0}=some (w,s')/\Sim.fz (Sim.look s'.h) 0 w=some y/\RC false v y:=by
   intro A hr;obtain⟨vs,q,r1,r2,r3⟩:=yM q3 q2 hr
   obtain⟨w,y,p1,p2,p3⟩:∃w y,Sim.results (Sim.look s'.h) E fn.res=some w/\Sim.fz (Sim.look s'.h) 0 w=some y/\RC false v y:=by
    split at r1;rename_i v1;obtain⟨w,F,rfl,B,C⟩:=r3.inv_cons;have:=C.inv_nil;subst this;obtain⟨G,m,z1,z2,z3⟩:=fG1 q3 r1 B;cases z1;exact⟨w,m,by simp only[Sim.results,r2],z2,z3⟩;rename_i g;obtain⟨G,m,z1,z2,z3⟩:=fG1 q3 r1 (y:=.tup q) (.tup r3.1 r3.2);cases z1;refine⟨.tup q,m,?_,z2,z3⟩;simp only[Sim.results,r2];split;rename_i w hw;cases hw;have:=r3.1;rcases vs with _|⟨a,_|⟨b,t⟩⟩<;>simp at this;exact absurd rfl (g a)
    grind
    grind
   refine⟨D,fun d hd=>⟨w,s',y,?_,p2,p3⟩⟩;simp only[Sim.body,Ts,q7 d hd];cases x with
   |exit i=>exact absurd rfl (A i)
   |normal=>simp only[p1,cE3]
   |ret=>simp only[p1,cE3]
  cases x with
  |exit i=>exact aD q1
  |normal=>exact fin (fun i h=>by cases h) q1
  |ret=>exact fin (fun i h=>by cases h) q1
def mI1 {k:Bool} (o:∀f xs v,O f xs=some v->sJ T f xs v) (p:NOK T X) {fn:cR} (g:zG X.is fn.ntmps false fn.code=true) {xs:aA PV} {ys:aA AV} {h:aS} {n:Nat} {K:PV->aS->Nat->aB R} {r:R} {C:Cx} {s:Hp} {lim:Nat}
  (hk:fE1 O X fn xs h n K=some r) (hl:LR (RV C) xs ys) (m:dI C n h lim s):
  ∃v h' n' C' y s',K v h' n'=some r/\RV C' v y/\dI C' n' h' lim s'/\n<=n'/\Fr C h s C' h' s'/\∃D,∀d,D<=d->Sim.body (exec T d) lim (Ts true k fn) ys s=some (y,s'):=by
 unfold fE1 at hk;cases c:Nat.ble xs.length fn.ntmps with
 |false=>rw[c]at hk;exact aD hk
 |true=>
  rw[c,bS3,Gv]at hk;have c:xs.length<=fn.ntmps:=by simpa[Nat.ble_eq]using c
  have hlen:=hl.1
  have he:fF C (Bw xs 0) (ys++List.replicate (fn.ntmps-ys.length) .undef):=fun i v hv=>by
   obtain⟨_,h2⟩:=Am xs 0 i v hv;obtain⟨y,j,l⟩:=hl.get (by simpa using h2);exact⟨y,by rw[eB3 (bG3.1 j).1];exact j,l⟩
  obtain⟨x,e',h',n',C',A,s',q1,q2,q3,q4,q5,q6,D,q7⟩:=iC (T:=T) (rd:=false) (lim:=lim) (N:=fn.ntmps) o p fn.code _ r _ n h _ (ys++List.replicate (fn.ntmps-ys.length) .undef) s hk he m (by simp;omega) g
  have fin:(∀i,x≠.exit i)->(Gt e' h' n' fn.res fun vs=>match vs with|[v]=>K v h' n'|vs=>K (.tup vs) h' n')=some r->
    ∃v h' n' C' y s',K v h' n'=some r/\RV C' v y/\dI C' n' h' lim s'/\n<=n'/\Fr C h s C' h' s'/\∃D,∀d,D<=d->Sim.body (exec T d) lim (Ts true k fn) ys s=some (y,s'):=by
   intro q hr;obtain⟨vs,B,r1,r2,r3⟩:=yM q3 q2 hr
   obtain⟨v,w,p1,p2,p3⟩:∃v w,K v h' n'=some r/\Sim.results (Sim.look s'.h) A fn.res=some w/\RV C' v w:=by
    split at r1;rename_i v1;obtain⟨w,E,rfl,u,z⟩:=r3.inv_cons;have:=z.inv_nil;subst this;exact⟨v1,w,r1,by simp only[Sim.results,r2],u⟩;rename_i e;refine⟨.tup vs,.tup B,r1,?_,.tup r3.1 r3.2⟩;simp only[Sim.results,r2];split;rename_i w hw;cases hw;have:=r3.1;rcases vs with _|⟨a,_|⟨b,t⟩⟩<;>simp at this;exact absurd rfl (e a)
    grind
    grind
   refine⟨v,h',n',C',w,s',p1,p3,q3,q5,q6,D,fun d hd=>?_⟩;simp only[Sim.body,Ts,q7 d hd];cases x with
   |exit i=>exact absurd rfl (q i)
   |normal=>simp only[p2,cE3]
   |ret=>simp only[p2,cE3]
  cases x with
  |exit i=>exact aD q1
  |normal=>exact fin (fun i h=>by cases h) q1
  |ret=>exact fin (fun i h=>by cases h) q1
def Qe {C:Cx}:∀{ps:aA Nat} {xs:aA PV} {ys:aA AV} {e:gG} {t:aA AV} {K:gG->aB R} {r:R},Tq e ps xs K=some r->fF C e t->LR (RV C) xs ys->ps.all (fun p=>Nat.blt p t.length)=true->
  ∃e',K e'=some r/\fF C e' (Sim.putAll t ps ys)/\ps.length=ys.length/\(Sim.putAll t ps ys).length=t.length
 |[],[],ys,e,t,K,r,hk,he,hl,_=>by
  rw[hl.inv_nil]
  exact⟨e,by unfold Tq at hk;exact hk,he,rfl,rfl⟩
 |p::ps,x::xs,ys,e,t,K,r,hk,he,hl,hp=>by
  obtain⟨y,h,rfl,h1,h2⟩:=hl.inv_cons
  unfold Tq at hk
  rw[gO]at hk
  simp only[dF3,bF3,dP3]at hp
  have a:fF C ((p,x)::edel e [p]) (t.set p y):=.put hp.1 h1 (fun i w hw=>by
   obtain⟨z,p1,p2,p3⟩:=he.edel [p] i w hw
   exact⟨z,p1,p2,fun b=>p3 (by simp[b])⟩)
  obtain⟨e2,c,d,f,g⟩:=Qe hk a h2 (by simpa using hp.2)
  exact⟨e2,c,d,by simp[f],by simpa[Sim.putAll]using g⟩
 |[],_::_,_,_,_,_,_,hk,_,_,_=>by unfold Tq at hk;exact aD hk
 |_::_,[],_,_,_,_,_,hk,_,_,_=>by unfold Tq at hk;exact aD hk
def mJ1 (hO:∀f xs v,O f xs=some v->sJ T f xs v) (hX:NOK T X) {k:Nat} {xs:aA PV} {ys:aA AV} {h:aS} {n:Nat} {K:PV->aS->Nat->aB R} {r:R} {C:Cx} {s:Hp} {lim id ver e1 len:Nat}
  (hk:mG1 O X k xs h n K=some r) (hl:LR (RV C) xs ys) (hC:C k=some (.atp id ver e1 len)) (hM:dI C n h lim s):
  ∃v h' n' C' y s',K v h' n'=some r/\RV C' v y/\dI C' n' h' lim s'/\n<=n'/\Fr C h s C' h' s'/\∃D,∀d,D<=d->Sim.round (exec T d) lim id ys s=some (y,s'):=by
 unfold mG1 at hk;rw[iN,bD3]at hk;obtain⟨ob,M,hk⟩:=hk;split at hk
 .rename_i N e ps a b
  rw[cE,bD3]at hk;obtain⟨_,p,hk⟩:=hk;unfold okG at p;split at p
  .rename_i g
   unfold okL at g;rw[bF3,bF3]at g;have o1:=g.1.1;have o2:=g.1.2;have o3:=g.2;clear p g;obtain⟨L,st,pend,tmps,g1,g2,g3,g4⟩:=Ct hM M hC;obtain⟨rfl,rfl⟩:=g4;subst g2;obtain⟨e2,hk,he,W,Y⟩:=Qe hk g3 hl o1;obtain⟨x,e',h1,n1,C1,t1,s1,q1,q2,q3,q4,q5,q6,D1,q7⟩:=iC (T:=T) (rd:=true) (lim:=lim) (N:=tmps.length) hO hX a _ r _ n h _ _ s hk he hM Y o2;cases x with
   |exit i=>exact aD q1
   |ret=>exact aD q1
   |normal=>
   simp only[iN,bD3]at q1;obtain⟨q,l,q1⟩:=q1
   have place:∀{C1:Cx} {h1:aS} {s1:Hp} {q:dX},Fr C h s C1 h1 s1->aK h1 k=some q->iE q=true->C1 k=some (.atp id ver e1 len):=fun{C1 h1 s1 q} hf hg hb=>by
    obtain⟨o',p1,p2⟩:=hf.kd k _ M;rw[hg]at p1;cases p1;rw[(p2 hb).2,hC]
   split at q1
   .rename_i N2 V F a2 b2
    have A:=place q6 l rfl;obtain⟨_,st,pend,j,w1,w2,w3,w4⟩:=Ct q3 l A;obtain⟨rfl,rfl⟩:=w4;subst w2;have q1:=eF _ _ _ _ _ q1;have w:=(q3.hr.lt (by rw[l];simp) A)
    obtain⟨m1,m2⟩:=tX q3 (po':=.loop j.length V F a2 b2 true none) (ao:=.loop .busy none j F (mT a2) (mT b2)) l A ⟨w.1,w.2,.busy,none,j,by rw[Sim.look_upd,bK3 ⟨rfl,by rw[w1];rfl⟩],rfl,w3,rfl⟩ rfl;obtain⟨x2,e3,h2,n2,C2,t2,S,z1,z2,z3,z4,z5,z6,D2,z7⟩:=iC (T:=T) (rd:=true) (lim:=lim) (N:=tmps.length) hO hX b _ r _ n1 _ _ _ _ q1 q2 m1 q4 o3;simp only[bD3]at z1;obtain⟨b5,m,z1⟩:=z1;have H:=(q6.trans m2).trans z6;split at z1
    .rename_i N3 G u a3 b3 U b4
     have B:=place H m rfl;obtain⟨_,b6,b0,c,v1,v2,v3,v4⟩:=Ct z3 m B;subst v2;have z:=(z3.hr.lt (by rw[m];simp) B)
     have fin:∀(fn:aB Ex) (st:LoopState) (E:aB IC) (bv:Bool),StR false fn st E->(iT h2 k (.loop c.length G u a3 b3 false fn) fun h=>K (.v (.bool bv)) h n2)=some r->
       (∀s',Sim.endRound id S st E=some s'->∀d,D2<=d->(match exec T d lim true (mT b) {t:=t1,s:={h:=upd s1.h id (.loop .busy none j F (mT a2) (mT b2)),n:=s1.n}}with
        |some (.normal,τ)=>(Sim.endRound id τ.s .ready none).map fun s=>(AV.bool true,s)
        |some (.ret,τ)=>(Sim.endRound id τ.s .done (some .ret)).map fun s=>(AV.bool false,s)
        |some (.exit i,τ)=>(Sim.endRound id τ.s .done (some (.exit i))).map fun s=>(AV.bool false,s)
        |none=>none)=some (AV.bool bv,s'))->
       ∃v h' n' C' y s',K v h' n'=some r/\RV C' v y/\dI C' n' h' lim s'/\n<=n'/\Fr C h s C' h' s'/\∃D,∀d,D<=d->Sim.round (exec T d) lim id ys s=some (y,s'):=by
      intro fn st E bv Z hk P;have hk:=eF _ _ _ _ _ hk;obtain⟨m3,m4⟩:=tX z3 (po':=.loop c.length G u a3 b3 false fn) (ao:=.loop st E c u (mT a3) (mT b3)) m B ⟨z.1,z.2,st,E,c,by rw[Sim.look_upd,bK3 ⟨rfl,by rw[v1];rfl⟩],rfl,v3,Z⟩ rfl;refine⟨_,_,_,_,.v (.bool bv),_,hk,.cl (.v _),m3,by omega,H.trans m4,D1+D2,fun d hd=>?_⟩;have J:Sim.endRound id S st E=some {h:=upd S.h id (.loop st E c u (mT a3) (mT b3)),n:=S.n}:=by simp only[Sim.endRound,v1]
      simp only[Sim.round,g1];rw[bK3 ⟨L,W⟩,q7 d (by omega)];simp only[w1];exact P _ J d (by omega)
     cases x2 with
     |normal=>exact fin none .ready none true ⟨rfl,rfl⟩ z1 (fun s' o d hd=>by rw[z7 d hd];simp only[o,cE3])
     |exit i=>exact fin (some (.exit i)) .done (some (.exit i)) false ⟨rfl,rfl⟩ z1 (fun s' o d hd=>by rw[z7 d hd];simp only[o,cE3])
     |ret=>exact fin (some .ret) .done (some .ret) false ⟨rfl,rfl⟩ z1 (fun s' o d hd=>by rw[z7 d hd];simp only[o,cE3])
    .exact aD z1
   .exact aD q1
  .cases p
 .exact aD hk
def Wp {B:zF} {NF:FuncId->Bool} {NW:NB} {P:Al} (d:Nat):(OX B NF NW P d).2.is=NF:=by cases d<;>rfl
def Lp {f:FuncId} {ifn:IFn} {ys:aA AV} {v:PV} (b:T.memo f ys=none) (h:∃D,∀d,D<=d->∃w s' y,Sim.body (exec T d) 0 ifn ys {h:=[],n:=0}=some (w,s')/\Sim.fz (Sim.look s'.h) 0 w=some y/\RC false v y):
  ∃D,∀d,D<=d->∃y,Sim.runP T (exec T d) f ifn ys=some y/\RC false v y:=by
 obtain⟨D,a⟩:=h;refine⟨D,fun d hd=>?_⟩;obtain⟨w,s',y,c,e,g⟩:=a d hd;exact⟨y,by simp only[Sim.runP,b,c,e],g⟩
def mK1 (T:lI) (NF xw:FuncId->Bool) (P:Al) (run:wG1):Prop:=∀(f:FuncId) (xs:aA PV) (h:aS) (n:Nat) (v:PV) (h':aS) (n':Nat) (C:Cx) (s:Hp) (lim:Nat) (ys:aA AV),
 NF f=true->P f=none->run f xs h n=some (v,h',n')->LR (RV C) xs ys->dI C n h lim s->
 ∃C' y s',RV C' v y/\dI C' n' h' lim s'/\n<=n'/\Fr C h s C' h' s'/\(∃ifn,T f=some ifn/\ifn.pure=false/\ifn.frz=xw f)/\∃D,∀d,D<=d->Sim.callF T (exec T d) lim f ys s=some (y,s')
def tA1 {B:zF} {NF:FuncId->Bool} {NW:NB} {P:Al} (l:∀f xs v,NF f=false->B f xs=some v->sJ T f xs v) (p:mK1 T NF NW.xw P NW.run) (m:∀f fn,P f=some fn->T f=some (Ts (NF f) (NW.xw f) fn)/\zG NF fn.ntmps false fn.code=true/\∀ys,T.memo f ys=none):
  ∀d,(∀f xs v,(OX B NF NW P d).1 f xs=some v->sJ T f xs v)/\NOK T (OX B NF NW P d).2
 |0=>⟨fun f xs v h=>by
   simp only[OX]at h
   cases hn:NF f with
   |true=>rw[hn]at h;exact aD h
   |false=>rw[hn]at h;exact l f xs v hn h,⟨fun f xs h n K r C s lim ys c hk=>by simp[OX]at hk,fun k xs h n K r C s lim ys id ver e len hk=>by simp[OX]at hk⟩⟩
 |d+1=>by
  obtain⟨g,i⟩:=tA1 l p m d
  refine⟨fun f xs v h=>?_,⟨fun f xs h n K r C s lim ys c hk hl b=>?_,fun k xs h n K r C s lim ys id ver e len hk hl t b=>?_⟩⟩
  simp only[OX]at h
  cases hn:NF f with
  |true=>rw[hn]at h;exact aD h
  |false=>
   rw[hn,cB3]at h
   split at h
   rename_i fn a
   obtain⟨h1,h2,j⟩:=m f fn a
   rw[hn]at h1
   cases hz:fn.frz with
   |true=>
    rw[hz,bS3]at h
    exact⟨Ts false _ fn,h1,rfl,fun _=>by simp[Ts,hz],fun ys hl=>Lp (j ys) (Qd g i (by rw[Wp];exact h2) hl h)⟩
   |false=>
    rw[hz,cB3,bD3]at h
    obtain⟨v',h,hg⟩:=h
    cases hq:zY 4 v' with
    |true=>rw[hq]at hg;exact aD hg
    |false=>
     rw[hq]at hg
     cases hg
     exact⟨Ts false _ fn,h1,rfl,fun q=>(by rw[hq]at q;cases q),fun ys hl=>Lp (j ys) (Qd g i (by rw[Wp];exact h2) hl h)⟩
   exact l f xs v hn h
  simp only[OX]at c hk
  split at hk
  rename_i fn a
  obtain⟨h1,h2,j⟩:=m f fn a
  rw[c]at h1
  obtain⟨v,h',n',C',y,s',p1,p2,p3,p4,p5,D,p6⟩:=mI1 g i (by rw[Wp];exact h2) hk hl b
  refine⟨v,h',n',C',y,s',p1,p2,p3,p4,p5,⟨_,h1,rfl,rfl⟩,D,fun d hd=>?_⟩
  simp only[Sim.callF,h1]
  exact p6 d hd
  rename_i a
  rw[bD3]at hk
  obtain⟨⟨v,h',n'⟩,o,hk⟩:=hk
  obtain⟨C',y,s',p2,p3,p4,p5,p6,p7⟩:=p f xs h n v h' n' C s lim ys c a o hl b
  exact⟨v,h',n',C',y,s',hk,p2,p3,p4,p5,p6,p7⟩
  simp only[OX]at hk
  exact mJ1 g i hk hl t b
def fH1 {B:zF} {NF:FuncId->Bool} {NW:NB} {P:Al} (a:∀f xs v,NF f=false->B f xs=some v->sJ T f xs v) (b:mK1 T NF NW.xw P NW.run) (c:∀f fn,P f=some fn->T f=some (Ts (NF f) (NW.xw f) fn)/\zG NF fn.ntmps false fn.code=true/\∀ys,T.memo f ys=none) (d:Nat) (f:FuncId) (xs:aA PV) (v:PV) (h:Od B NF NW P d f xs=some v):sJ T f xs v:=(tA1 a b c d).1 f xs v h
def aD2 {B:zF} {NF:FuncId->Bool} {NW:NB} {P:Al} {f:FuncId} {fn:cR} (hn:NF f=false) (h:P f=some fn) (a:fn.frz=true) (d:Nat) (xs:aA PV):Od B NF NW P (d+1) f xs=Gu (Od B NF NW P d) (Xd B NF NW P d) fn xs some:=by
 simp only[Od,Xd,OX,h,hn,a,cB3,bS3]
def aE2 {R:Type} {B:zF} {NF:FuncId->Bool} {NW:NB} {P:Al} {f:FuncId} {fn:cR} (h:P f=some fn) (d:Nat) (xs:aA PV) (a:aS) (n:Nat) (K:PV->aS->Nat->aB R):(Xd B NF NW P (d+1)).run f xs a n K=fE1 (Od B NF NW P d) (Xd B NF NW P d) fn xs a n K:=by
 simp only[Od,Xd,OX,h]
def mL1 {R:Type} {B:zF} {NF:FuncId->Bool} {NW:NB} {P:Al} {f:FuncId} (h:P f=none) (d:Nat) (xs:aA PV) (a:aS) (n:Nat) (K:PV->aS->Nat->aB R):(Xd B NF NW P (d+1)).run f xs a n K=(NW.run f xs a n).bind fun r=>K r.1 r.2.1 r.2.2:=by
 simp only[Xd,OX,h]
def Wq {B:zF} {NF:FuncId->Bool} {NW:NB} {P:Al} {f:FuncId} (hn:NF f=false) (h:P f=none) (d:Nat) (xs:aA PV):Od B NF NW P d f xs=B f xs:=by
 cases d with
 |zero=>simp only[Od,OX,hn,cB3]
 |succ d=>simp only[Od,OX,h,hn,cB3]
end
def yN (cl:Nat->aB (Nat×Nat)):wG1:=fun f xs h n=>match xs,h with
 |[.is e rows],[]=>(cl f).bind fun p=>bif Nat.beq p.2 e&&Nat.ble rows.length 1073741824 then some (.own n,[(n,.lst p.1 e true rows)],n+1)else none
 |_,_=>none
end Go.P
namespace Go.P
open Go.Sim (Ex hZ CK)
def mM1 {α β γ δ:Type} {X:aB γ} {Y:aB α} {e:α->γ} {K:γ->aB δ} {F:α->aB β} {enc:β->δ} (h:X=Y.map e) (hk:∀y,K (e y)=(F y).map enc):cM X K=(Y.bind F).map enc:=by
 rw[cE];subst h;cases Y<;>simp[hk]
def aF2 {β γ:Type} {b:Bool} {X Y:aB γ} {FX FY:aB β} {enc:β->γ} (a:X=FX.map enc) (hy:Y=FY.map enc):Om b X Y=(if b then FX else FY).map enc:=by
 rw[rZ];subst a hy;cases b<;>rfl
def aM {S E S' E':Type} {enc:S->S'} {encE:E->E'} {B:S'->aB (S'⊕E')} {F:S->aB (S⊕E)} (h:∀s,B (enc s)=(F s).map (Sum.map enc encE)):∀(n:Nat) (s:S),aW B n (enc s)=(aW F n s).map encE
 |0,s=>rfl
 |n+1,s=>by
  simp only[aW,h]
  cases F s with
  |none=>rfl
  |some r=>
   cases r with
   |inl s'=>exact aM h n s'
   |inr e=>rfl
def cC {A:Type} (l:aA A) (i:Int):aB A:=if 0<=i then l[i.toNat]? else none
def Tt {A:Type} (f:A->aA PV) (l:aA A) (i:Int):wF (l.map f) i=(cC l i).map f:=by
 unfold wF cC;split<;>simp
def i64 (n:Int):PV:=.v (.int .i64 n)
def bv (b:Bool):PV:=.v (.bool b)
end Go.P
namespace Go.P
open Go.Sim (Ex hZ CK maxRoom)
def bN (n:Int):Int:=IntKind.wrap .i64 n
def eA {A:Type} (f:A->aA PV) (x:A):PV:=.agg (f x)
def cI (n:Int):aA PV:=[i64 n]
def aG2 (b:UInt8):aA PV:=[.v (.int .u8 (b.toNat:Int))]
def cB (b:Bool):aA PV:=[bv b]
def kQ {K V:Type} (f:K->PV) (g:V->PV) (p:K×V):PV×PV:=(f p.1,g p.2)
section
variable {γ δ:Type}
def aH2 {X:aB γ} {x:γ} {K:γ->aB δ} {r:aB δ} (h:X=some x) (hk:K x=r):cM X K=r:=by
 rw[cE,h];exact hk
def jR {b x:Bool} {X:aB Bool} (h:X=some x):Om b X (some false)=some (b&&x):=by
 rw[rZ,h];cases b<;>rfl
def kG {b x:Bool} {X:aB Bool} (h:X=some x):Om b (some true) X=some (b||x):=by
 rw[rZ,h];cases b<;>rfl
def oid {A:Type} (x:aB A):x=x.map id:=by simp
end
section
variable {A:Type}
def dS (c:A->aA PV) (l:aA A):some (l.map c).length=some l.length:=by simp
def gI (l:aA A) (i:Int):aB Nat:=sW l.length i
def bX (c:A->aA PV) (l:aA A) (i:Int):sW (l.map c).length i=(gI l i).map id:=by simp[gI]
def gT (l:aA A) (i:Nat):aB A:=l[i]?
def dY {c:A->aA PV} {o:Nat} {g:A->PV} (h:∀x,(c x)[o]? =some (g x)) (l:aA A) (i:Nat):lQ (l.map c) i o=(gT l i).map g:=by
 unfold lQ gT;rw[cT3];cases l[i]? with
 |none=>rfl
 |some x=>exact h x
def gR {c:A->aA PV} {o n m:Nat} {g:A->aA PV} (h:∀x,(c x).length=m/\((c x).drop o).take n=g x) (hn:o+n<=m) (l:aA A) (i:Nat):mQ (l.map c) i o n=(gT l i).map g:=by
 unfold mQ gT;rw[cT3];cases l[i]? with
 |none=>rfl
 |some x=>simp[(h x).1,(h x).2,hn]
def lV (l:aA A) (i:Nat) (f:A->A):aB (aA A):=(l[i]?).map fun x=>l.set i (f x)
def eT {c:A->aA PV} {o:Nat} {cs:aA PV} {f:A->A} {m:Nat} (h:∀x,(c x).length=m/\Sim.setL (c x) o cs=c (f x)) (hn:o+cs.length<=m) (l:aA A) (i:Nat):pE (l.map c) i o cs=(lV l i f).map (List.map c):=by
 unfold pE lV;rw[cT3];cases l[i]? with
 |none=>rfl
 |some x=>simp[(h x).1,(h x).2,hn]
def wP (l:aA A) (a b:Int):aB (aA A):=if 0<=a/\a<=b/\b<=l.length then some ((l.drop a.toNat).take (b.toNat-a.toNat))else none
def yO (f:A->aA PV) (l:aA A) (a b:Int):qW (l.map f) a b=(wP l a b).map (List.map f):=by
 unfold qW wP;simp only[cX3];split;simp_all;rfl
def Ht (f:A->aA PV) (l:aA A) (a:Int):qW (l.map f) a (l.map f).length=(wP l a l.length).map (List.map f):=by
 rw[yO,cX3]
def uE (l:aA A) (h:Int):aB (aA A):=if 0<=h/\h<=l.length then some (l.take h.toNat)else none
def vQ (f:A->aA PV) (l:aA A) (h:Int):uR (l.map f) h=(uE l h).map (List.map f):=by
 unfold uR uE;simp only[cX3];split;simp[List.map_take];rfl
def nE (g:Bool) (l m:aA A):aB (aA A):=if l.length+m.length<=maxRoom/\(g=true->m.length<=1)then some (l++m)else none
def dO (g:Bool) (f:A->aA PV) (l m:aA A):appRows g (l.map f) (m.map f)=(nE g l m).map (List.map f):=by
 unfold appRows nE;simp only[cX3];split;simp;rfl
def Bx (l c:Int) (z:A):aB (aA A):=if 0<=l/\l<=c/\c<=maxRoom then some (List.replicate l.toNat z)else none
def oQ (f:A->aA PV) (l c:Int) (z:A):pF l c (f z)=(Bx l c z).map (List.map f):=by
 unfold pF Bx;split;simp;rfl
def Zs (c:Int):aB Unit:=if 0<=c/\c<=maxRoom then some ()else none
def Jt (c:Int) (z:aA PV):pF 0 c z=(Zs c).map fun _=>[]:=by
 unfold pF Zs;by_cases h:0<=c/\c<=maxRoom
 grind
 grind
def fI1 (l:aA A) (lo:Int) (z:A):aB (aA A):=if 0<=lo/\lo<=l.length then some (l.take lo.toNat++List.replicate (l.length-lo.toNat) z)else none
def Qf (f:A->aA PV) (l:aA A) (lo:Int) (z:A):xV (l.map f) lo (f z)=(fI1 l lo z).map (List.map f):=by
 unfold xV fI1;simp only[cX3];split;simp[List.map_take];rfl
def sK (k:IntKind) (l:aA Int) (i:Int) {n:Nat} (h:l.length=n):xO (l.map fun x=>PV.v (.int k x)) i n 1=(cC l i).map (fun x=>PV.v (.int k x)):=by
 subst h;unfold xO cC;by_cases h0:0<=i
 grind
 grind
def Qg {c:A->aA PV} {e:Nat} (hc:∀x,(c x).length=e):∀(l:aA A) (j:Nat),j<l.length->((l.flatMap c).drop (j*e)).take e=((l[j]?).map c).getD []/\(j+1)*e<=(l.flatMap c).length
 |[],j,h=>by simp at h
 |x::l,0,h=>by grind
 |x::l,j+1,h=>by
  have a:=hc x
  obtain⟨h1,h2⟩:=Qg hc l j (by simpa using h)
  constructor
  rw[List.flatMap_cons,show(j+1)*e=(c x).length+j*e by rw[a,dL3];omega,<-dY3,List.drop_left]
  simpa using h1
  grind
def Qh (c:A->aA PV) (l:aA A) (i:Int) {n e:Nat} (h:l.length=n) (hc:∀x,(c x).length=e) {cs:aA PV} (a:cs=l.flatMap c):tV cs i n e=(cC l i).map c:=by
 subst h a;unfold tV cC;by_cases h0:0<=i;by_cases h1:i<l.length;obtain⟨h2,b⟩:=Qg hc l i.toNat (by omega)
 rw[bK3 ⟨h0,h1,b⟩,h2,bK3 h0];rw[bY3 (by omega)];rfl
 grind
 grind
end
def mN1 (k:IntKind) (a b:Int):aB Int:=if b<0 then none else some (k.wrap (a*2^min b.toNat k.bits))
def Tu (k:IntKind) (a b:Int):aB Int:=if b<0 then none else some (a.fdiv (2^min b.toNat k.bits))
def Qi (k:IntKind) (a b:Int):aB Int:=if b=0 then none else some (k.wrap (a.tdiv b))
def Zt (k:IntKind) (a b:Int):aB Int:=if b=0 then none else some (a.tmod b)
def Qj (k:IntKind) (a b:Int):Int:=k.wrap (BitVec.ofInt k.bits a&&&BitVec.ofInt k.bits b).toNat
def Tv (k:IntKind) (a b:Int):Int:=k.wrap (BitVec.ofInt k.bits a|||BitVec.ofInt k.bits b).toNat
structure Qk {K:Type} [DecidableEq K] (ek:K->PV) (agg:Bool) (ks:List CK):Prop where
 ok:∀a,zX agg ks (ek a)=true
 eq:∀a b,zW agg ks (ek a) (ek b)=some (decide (a=b))
section
variable {K V:Type} [DecidableEq K] {ek:K->PV} {agg:Bool} {ks:List CK}
def Gw (k:K):aA (K×V)->Nat->aB (Nat×V)
 |[],_=>none
 |p::r,i=>if k=p.1 then some (i,p.2)else Gw k r (i+1)
def mO1 (l:aA (K×V)) (k:K) (z:V):V:=match Gw k l 0 with|some p=>p.2|none=>z
def Zu (l:aA (K×V)) (k:K) (x:V):aA (K×V):=match Gw k l 0 with|some p=>l.set p.1 (k,x)|none=>l++[(k,x)]
def An (h:Qk ek agg ks) (ev:V->PV) (k:K):∀(l:aA (K×V)) (i:Nat),xQ agg ks (ek k) (l.map (kQ ek ev)) i=some ((Gw k l i).map fun p=>(p.1,ev p.2))
 |[],i=>rfl
 |p::r,i=>by
  simp only[dV3,kQ,xQ,h.eq,Gw]
  by_cases e:k=p.1
  simp[e]
  simp only[e,dW3,bM3 e]
  exact An h ev k r (i+1)
def Gx (h:Qk ek agg ks) (ev:V->PV) (l:aA (K×V)) (k:K) (z:V):wG agg ks (ev z) (ek k) (l.map (kQ ek ev))=some (ev (mO1 l k z)):=by
 unfold wG mO1;rw[h.ok,bK3 rfl,An h];cases Gw k l 0<;>rfl
def sL (h:Qk ek agg ks) (ev:V->PV) (l:aA (K×V)) (k:K) (x:V):Ff agg ks (ek k) (ev x) (l.map (kQ ek ev))=some ((Zu l k x).map (kQ ek ev)):=by
 unfold Ff Zu;rw[h.ok,bK3 rfl,An h];cases Gw k l 0 with
 |none=>simp[kQ]
 |some p=>simp[kQ,List.map_set]
end
end Go.P
namespace Go.P
open Go.Sim (Ex hZ CK maxRoom)
section
variable {A β γ δ:Type} {f:A->List PV} {l m:List A} {i:Int}
def rg:wF (l.map f) i=(cC l i).map f:=Tt f l i
def lm:some (l.map f).length=some l.length:=dS f l
def im:sW (l.map f).length i=(gI l i).map id:=bX f l i
def lf {x:γ} {y:β} {enc:β->γ} (h:x=enc y):some x=(some y).map enc:=by subst h;rfl
def bo {α:Type} {X:aB γ} {Y:aB α} {e:α->γ} {K:γ->aB δ} {F:α->aB β} {enc:β->δ} (h:X=Y.map e) (hk:∀y,K (e y)=(F y).map enc):cM X K=(Y.bind F).map enc:=mM1 h hk
def bz {X:aB γ} {x:γ} {K:γ->aB δ} {r:aB δ} (h:X=some x) (hk:K x=r):cM X K=r:=aH2 h hk
def io {b:Bool} {X Y:aB γ} {FX FY:aB β} {enc:β->γ} (a:X=FX.map enc) (hy:Y=FY.map enc):Om b X Y=(if b then FX else FY).map enc:=aF2 a hy
def oi {x:aB A}:x=x.map id:=oid x
end
end Go.P
set_option maxRecDepth 100000
namespace Go.P
open Go.Sim (AV AO Hp IFn IC IX Ex lI exec)
def eZ (ty esz k:Nat) (zero:aA Value):IFn:={ntmps:=8,res:=[.tmp 2],pure:=true,frz:=false,body:=(
  .seq (.reg [⟨some 2,.mov,[.c (.v (.slice none 0 0))],none⟩])
   (.seq (.seq (.reg [⟨some 3,.mov,[.t 0],none⟩,⟨some 4,.eqNil false 0,[.t 3,.c (.v (.slice none 0 0))],none⟩])
     (.cond (.t 4) (.seq (.reg [⟨some 2,.mov,[.c (.v (.slice none 0 0))],none⟩]) .ret) .skip))
   (.seq (.reg [⟨some 5,.buildSl ty esz 0 zero [],[],none⟩,⟨some 6,.mov,[.t 0],none⟩,⟨some 7,.append ty esz k zero false,[.t 5,.t 6],none⟩,⟨some 2,.mov,[.t 7],none⟩]) .ret)))}
section
variable {T:lI} (ty esz k:Nat) (zero:List Value) (d:Nat)
def Zv:Sim.body (exec T (d+8)) 0 (eZ ty esz k zero) [.v (.slice none 0 0)] {h:=[],n:=0}=some (.v (.slice none 0 0),{h:=[],n:=0}):=rfl
def mP1:∃s,Sim.body (exec T (d+8)) 0 (eZ ty esz k zero) [.is esz []] {h:=[],n:=0}=some (.sl esz 0 0 0 0 none,s)/\Sim.look s.h 0=some (.arr false ty esz 0 []):=by
 simp[Sim.body,exec,eZ,Sim.runOps,Sim.wanted,Sim.evs,Sim.IX.ev,Sim.step,Sim.doOp,Sim.put,Sim.isNilv,Sim.appRows,Sim.rowsOf,Sim.appendTo,Sim.fillParts,Sim.look,Sim.results,Sim.mapO,Sim.readRes,Sim.Out.apply]
def mQ1 (r:aA AV) (a:aA (aA AV)) (h:(r::a).length<=1073741824):∃s,Sim.body (exec T (d+8)) 0 (eZ ty esz k zero) [.is esz (r::a)] {h:=[],n:=0}=some (.sl esz 0 1 0 (r::a).length none,s)/\Sim.look s.h 0=some (.arr false ty esz 1 (r::a)):=by
 have b:Sim.maxRoom=1073741824:=rfl;simp only[cM3]at h;simp[Sim.body,exec,eZ,Sim.runOps,Sim.wanted,Sim.evs,Sim.IX.ev,Sim.step,Sim.doOp,Sim.put,Sim.isNilv,Sim.appRows,Sim.rowsOf,Sim.appendTo,Sim.fillParts,Sim.look,Sim.results,Sim.mapO,Sim.readRes,Sim.Out.apply,b,h];rfl
def uF {f:FuncId} {ty esz k:Nat} {zero:aA Value} (i:T f=some (eZ ty esz k zero)) (j:∀ys,T.memo f ys=none) {rows:aA (aA PV)} (hl:rows.length<=1073741824):sJ T f [.is esz rows] (.is esz rows):=by
 refine⟨_,i,rfl,fun h=>(by cases h),fun ys hy=>Lp (j ys) ⟨8,fun d hd=>?_⟩⟩;obtain⟨d,rfl⟩:∃g,d=g+8:=⟨d-8,by omega⟩
 obtain⟨y,l,rfl,h1,h2⟩:=hy.inv_cons;rw[h2.inv_nil];rcases wI (C:=⟨fun _=>none,fun _=>none,fun _=>none⟩) (.cl h1)with⟨rows',rfl,hr⟩|⟨rfl,rfl⟩
 cases rows' with
 |nil=>
  have:rows=[]:=dM3 hr.1;subst this;obtain⟨s,a,e2⟩:=mP1 (T:=T) ty esz k zero d;exact⟨_,_,_,a,Wb (d:=4) (rows:=[]) (cQ3 _) e2 .nil (bI3 _),h1⟩
 |cons r rs=>
  obtain⟨s,a,e2⟩:=mQ1 (T:=T) ty esz k zero d r rs (by rw[<-hr.1];exact hl);have b:(r::rs).length=rows.length:=hr.1.symm;rw[b]at a;have e:(r::rs).take rows.length=r::rs:=by rw[<-b,dG3]
  have c:=Wb (n0:=0) (L:=Sim.look s.h) (d:=4) (rows:=rows) (id:=0) (cQ3 _) e2 (by rw[e];exact hr) (by omega);rw[e]at c;exact⟨_,_,_,a,c,h1⟩
 exact⟨_,_,_,Zv ty esz k zero d,rfl,.isn⟩
def Tw (lim:Nat) (b:Bool) (s:Hp):Sim.body (exec T (d+8)) lim {eZ ty esz k zero with pure:=false,frz:=b} [.v (.slice none 0 0)] s=some (.v (.slice none 0 0),s):=rfl
def fJ1 {lim:Nat} {b:Bool} {s:Hp} (hl:lim<=s.n):Sim.body (exec T (d+8)) lim {eZ ty esz k zero with pure:=false,frz:=b} [.is esz []] s=some (.sl esz s.n 0 0 0 none,⟨.ob s.n (.arr false ty esz 0 [])::s.h,s.n+1⟩):=by
 simp[Sim.body,exec,eZ,Sim.runOps,Sim.wanted,Sim.evs,Sim.IX.ev,Sim.step,Sim.doOp,Sim.put,Sim.isNilv,Sim.appRows,Sim.rowsOf,Sim.appendTo,Sim.fillParts,Sim.look,Sim.results,Sim.mapO,Sim.readRes,Sim.Out.apply]
def fK1 {lim:Nat} {b:Bool} {s:Hp} (hl:lim<=s.n) (r:aA AV) (a:aA (aA AV)) (h:(r::a).length<=1073741824):Sim.body (exec T (d+8)) lim {eZ ty esz k zero with pure:=false,frz:=b} [.is esz (r::a)] s=some (.sl esz s.n 1 0 (r::a).length none,⟨.ob s.n (.arr false ty esz 1 (r::a))::s.h,s.n+1⟩):=by
 have c:Sim.maxRoom=1073741824:=rfl;simp only[cM3]at h;simp[Sim.body,exec,eZ,Sim.runOps,Sim.wanted,Sim.evs,Sim.IX.ev,Sim.step,Sim.doOp,Sim.put,Sim.isNilv,Sim.appRows,Sim.rowsOf,Sim.appendTo,Sim.fillParts,Sim.look,Sim.results,Sim.mapO,Sim.readRes,Sim.Out.apply,Sim.upd,c,h,hl]
end
def Zw {T:lI} {NF xw:FuncId->Bool} {P:Al} {cl:Nat->aB (Nat×Nat)} (t:∀f p,cl f=some p->iQ p.1=false/\Nat.ble 4294967296 p.2=false/\∃k zero,T f=some {eZ p.1 p.2 k zero with pure:=false,frz:=xw f}):mK1 T NF xw P (yN cl):=by
 intro f xs h n v h' n' C s lim ys _ _ hk hl b;unfold yN at hk;split at hk;rename_i e rows;rw[bD3]at hk;obtain⟨⟨ty,e2⟩,hc,hk⟩:=hk;simp only at hk;by_cases he:(Nat.beq e2 e&&Nat.ble rows.length 1073741824)=true;rw[he,bS3]at hk;cases hk;simp only[bF3,Nat.ble_eq]at he;obtain⟨h1,hn⟩:=he;have:=bV3 h1;subst this;obtain⟨c,hs,k,zero,a⟩:=t f _ hc;simp only at c hs a;have q:Hj ty=ty:=by simp[Hj,c]
 obtain⟨y,u,rfl,a1,a2⟩:=hl.inv_cons;rw[a2.inv_nil]
 have nilc:rows=[]->y=.v (.slice none 0 0)->∃C' i s',RV C' (.own n) i/\dI C' (n+1) [(n,.lst ty e2 true rows)] lim s'/\n<=n+1/\Fr C [] s C' [(n,.lst ty e2 true rows)] s'/\(∃ifn,T f=some ifn/\ifn.pure=false/\ifn.frz=xw f)/\∃D,∀d,D<=d->Sim.callF T (exec T d) lim f [y] s=some (i,s'):=by
  rintro rfl rfl;obtain⟨j,l⟩:=Tb b (ty:=ty) (e:=e2) (g:=true);have o:qY ty e2 true=.lst ty e2 true []:=by unfold qY;rw[hs];rfl
  rw[o]at j l;refine⟨_,_,s,.ownn (C:=ext C n .nil) (pK C n .nil) rfl,j,by omega,l,⟨_,a,rfl,rfl⟩,8,fun d hd=>?_⟩;obtain⟨d,rfl⟩:∃m,d=m+8:=⟨d-8,by omega⟩
  simp only[Sim.callF,a];exact Tw (T:=T) ty e2 k zero d lim (xw f) s
 rcases wI a1 with⟨rows',rfl,hr⟩|⟨hr,hy⟩
 have fin:∀(ver:Nat),(∀d,Sim.body (exec T (d+8)) lim {eZ ty e2 k zero with pure:=false,frz:=xw f} [.is e2 rows'] s=some (.sl e2 s.n ver 0 rows.length none,⟨.ob s.n (.arr false ty e2 ver rows')::s.h,s.n+1⟩))->
   ∃C' i s',RV C' (.own n) i/\dI C' (n+1) [(n,.lst ty e2 true rows)] lim s'/\n<=n+1/\Fr C [] s C' [(n,.lst ty e2 true rows)] s'/\(∃ifn,T f=some ifn/\ifn.pure=false/\ifn.frz=xw f)/\∃D,∀d,D<=d->Sim.callF T (exec T d) lim f [.is e2 rows'] s=some (i,s'):=by
  intro ver hb;obtain⟨j,l,w⟩:=sD b (po:=.lst ty e2 true rows) (ao:=.arr false ty e2 ver rows') (ver:=ver) (e:=e2) (len:=rows.length) ⟨b.lim,by omega,rfl,rfl,rows',by rw[gK,bK3 rfl,q],by rw[cU3 (by rw[hr.1];exact bI3 _)];exact hr,⟨by rw[hr.1];exact bI3 _,.exact (by rw[hr.1];exact bI3 _)⟩,fun h=>by cases h⟩;refine⟨_,_,_,.own (pK C n _),j,by omega,l,⟨_,a,rfl,rfl⟩,8,fun d hd=>?_⟩;obtain⟨d,rfl⟩:∃m,d=m+8:=⟨d-8,by omega⟩
  simp only[Sim.callF,a];exact hb d
 cases rows' with
 |nil=>
  have:rows=[]:=dM3 hr.1;subst this;exact fin 0 fun d=>fJ1 (T:=T) ty e2 k zero d b.lim
 |cons r rs=>exact fin 1 fun d=>by rw[hr.1];exact fK1 (T:=T) ty e2 k zero d b.lim r rs (by rw[<-hr.1];exact hn)
 exact nilc hr hy
 grind
 cases hk
end Go.P
namespace Go.P
open Go.Sim
section
variable {P:Program} {D:Nat} {t:TypeId} {cs:List AV}
def tA {n:Nat} (h:n<=maxLen):n<9223372036854775808:=Nat.lt_of_le_of_lt h (by decide)
def jN {k:IntKind} (a:P.underlying t=some (.int k)) (h:oB P D t cs):∃n,LR (RC false) [.v (.int k n)] cs:=by
 cases D with
 |zero=>exact h.elim
 |succ D=>
  unfold oB at h;rw[a]at h;obtain⟨n,rfl,_⟩:=h;exact⟨n,.cons (.v _) .nil⟩
def Ql (a:P.underlying t=some .bool) (h:oB P D t cs):∃n,LR (RC false) [.v (.bool n)] cs:=by
 cases D with
 |zero=>exact h.elim
 |succ D=>
  unfold oB at h;rw[a]at h;obtain⟨n,rfl⟩:=h;exact⟨n,.cons (.v _) .nil⟩
def mR1 (a:P.underlying t=some .string) (h:oB P D t cs):∃s:ByteArray,s.size<=maxLen/\LR (RC false) [.v (.string s)] cs:=by
 cases D with
 |zero=>exact h.elim
 |succ D=>
  unfold oB at h;rw[a]at h;obtain⟨s,rfl,hs⟩:=h;exact⟨s,hs,.cons (.v _) .nil⟩
def Wr {A:Type} {B:A->Prop} {c:A->aA PV} {e:TypeId} {m:Nat} (g:P.underlying t=some (.slice e)) (f:P.cellsOf e=m) (a:∀D row,oB P D e row->∃x:A,B x/\LR (RC false) (c x) row) (hp:∀x,(c x).all iW=true) (h:oB P D t cs):
  ∃l:aA A,(l.length<=maxLen/\∀x∈l,B x)/\LR (RC false) [.is m (l.map c)] cs:=by
 cases D with
 |zero=>exact h.elim
 |succ D=>
  unfold oB at h;rw[g]at h;rcases h with rfl|⟨els,rfl,hl,h⟩
  exact⟨[],⟨cQ3 _,fun x d=>(eX3 d).elim⟩,.cons .isn .nil⟩;rw[f]
  have:∃l:aA A,l.length=els.length/\(∀x∈l,B x)/\RR (l.map c) els:=by
   clear hl
   induction els with
   |nil=>exact⟨[],rfl,fun x d=>(eX3 d).elim,.nil⟩
   |cons row els ih=>
    obtain⟨l,h1,h2,b⟩:=ih (fun row a=>h row (by simp[a]));obtain⟨x,i,j⟩:=a D row (h row (by simp)).2;refine⟨x::l,by simp[h1],fun y hy=>?_,.cons ?_ b⟩;rcases bR3.1 hy with rfl|hy;exact i;exact h2 y hy;exact(LR.closed (C:=⟨fun _=>none,fun _=>none,fun _=>none⟩) j).plain (hp x)
  obtain⟨l,h1,h2,b⟩:=this;exact⟨l,⟨by omega,h2⟩,.cons b.is .nil⟩
def iX {fs:Array Field} (a:P.underlying t=some (.struct fs)) (h:oB P D t cs):∃D',kX1 (oB P D') P fs.toList cs:=by
 cases D with
 |zero=>exact h.elim
 |succ D=>
  unfold oB at h;rw[a]at h;exact⟨D,h⟩
def kX2 {n:Nat} {e:TypeId} (b:P.underlying t=some (.array n e)) (h:oB P D t cs):∃(D':Nat) (rows:aA (aA AV)),cs=rows.flatten/\rows.length=n/\∀row∈rows,row.length=P.cellsOf e/\oB P D' e row:=by
 cases D with
 |zero=>exact h.elim
 |succ D=>
  unfold oB at h;rw[b]at h;obtain⟨rows,h1,h2,a⟩:=h;exact⟨D,rows,h1,h2,a⟩
def aI2 {α:Type} {l:aA α} (h:l.length=6):∃a b c d e f,l=[a,b,c,d,e,f]:=by
 rcases l with _|⟨a,_|⟨b,_|⟨c,_|⟨d,_|⟨e,_|⟨f,_|⟨g,l⟩⟩⟩⟩⟩⟩⟩<;>simp at h;exact⟨a,b,c,d,e,f,rfl⟩
end
end Go.P
namespace Go.P
open Go.Sim
def fL1 {T:lI} {f:FuncId} {xs:aA PV} (h:sJ T f xs (bv true)) {ys:aA AV} (hl:LR (RC false) xs ys) (hc:ys.all (closed 4)=true):∃d s,callF T (exec T d) 0 f ys {h:=[],n:=0}=some (.v (.bool true),s):=by
 obtain⟨ifn,h1,h2,g,a⟩:=h;obtain⟨D,b⟩:=a ys hl;obtain⟨y,c,e⟩:=b D (bI3 _);cases e;exact⟨D,_,by simp only[callF,h1,h2,cF3,hc,c,cE3];rfl⟩
def Lq {x:PV} {y:AV} {d:Nat} (h:RC false x y) (hp:iW x=true):closed (d+1) y=true:=by
 cases h<;>first|rfl|simp[iW]at hp
def Gy {xs:aA PV} {ys:aA AV} (h:LR (RC false) xs ys) (hp:xs.all iW=true):closed 4 (.agg ys)=true:=by
 unfold closed;rw[bJ3];intro y hy;obtain⟨j,b⟩:=bX3.1 hy;have a:j<xs.length:=by rw[h.1];exact(bG3.1 b).1
 have c:xs[j]? =some xs[j]:=bY3 a;exact Lq (h.2 j _ _ c b) (bJ3.1 hp _ (cZ3 a))
def wH1:Value->Value->Bool
 |.int k a,.int k' b=>decide (k=k')&&decide (a=b)
 |.bool a,.bool b=>decide (a=b)
 |.string a,.string b=>decide (a=b)
 |.slice none 0 0,.slice none 0 0=>true
 |_,_=>false
def mS1 {x y:Value} (h:wH1 x y=true):x=y:=by
 unfold wH1 at h;split at h<;>simp_all
def Qm {α β:Type} (f:α->β->Bool):aA α->aA β->Bool
 |[],[]=>true
 |a::as,b::bs=>f a b&&Qm f as bs
 |_,_=>false
def rH {α β:Type} {f:α->β->Bool}:∀{xs:aA α} {ys:aA β},Qm f xs ys=true->xs.length=ys.length/\∀(j:Nat) (x:α) (y:β),xs[j]? =some x->ys[j]? =some y->f x y=true
 |[],[],_=>⟨rfl,fun j x y h=>by simp at h⟩
 |[],b::bs,h=>by simp[Qm]at h
 |a::as,[],h=>by simp[Qm]at h
 |a::as,b::bs,h=>by
  simp only[Qm,bF3]at h
  obtain⟨h1,h2⟩:=h
  have ih:=rH h2
  refine⟨by simp[ih.1],fun j x y c hy=>?_⟩
  cases j with
  |zero=>simp at c hy;subst c;subst hy;exact h1
  |succ j=>simp at c hy;exact ih.2 j x y c hy
def rcB:Nat->PV->AV->Bool
 |0,_,_=>false
 |d+1,x,y=>match x,y with
  |.v x,.v y=>wH1 x y
  |.is e rows,.is e' rows'=>decide (e=e')&&Qm (Qm (rcB d)) rows rows'
  |.is _ [],.v (.slice none 0 0)=>true
  |_,_=>false
def fM1:∀(d:Nat) {x:PV} {y:AV} (p:Bool),rcB d x y=true->RC p x y
 |0,x,y,p,h=>by simp[rcB]at h
 |d+1,x,y,p,h=>by
  unfold rcB at h
  split at h
  rw[mS1 h];exact .v _
  simp only[bF3,bN3]at h
  obtain⟨rfl,h⟩:=h
  have h1:=rH h
  refine .is h1.1 (fun i r r' hr a=>(rH (h1.2 i r r' hr a)).1) (fun i r r' j x y hr a b hy=>fM1 d true ((rH (h1.2 i r r' hr a)).2 j x y b hy))
  exact .isn
  cases h
end Go.P
