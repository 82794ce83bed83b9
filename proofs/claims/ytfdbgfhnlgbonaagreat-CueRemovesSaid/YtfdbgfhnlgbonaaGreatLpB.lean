import Derived.Test.YtfdbgfhnlgbonaaGreatLpA
/- A text of the proof. -/
set_option linter.all false
namespace Go.P
open Go.Sim (AV AO Hp fQ upd St IC IX Ex gC CK Wf Out doOp jW exec)
variable {C C':Cx} {E G V y y2:AV} {L L':Nat->aB AO} {a c d dp e2 es g i id j k len lim m n nS ty ver:Nat} {e:eQ} {h h1 h2:aJ} {hs:aA (Nat×Nat×PV)} {kill:aA Nat} {ks:aA (Nat×TD)} {po po2:cS} {rows:aA (aA PV)} {t:aA AV} {v x:PV} {w w':Nat->aB (Nat×Nat×Nat)} {zero:aA Value}
def dQ.mono {C C':Cx} {e:eQ} {t:aA AV} (h:dQ C e t) (a:C.le C'):dQ C' e t:=fun i v hv=>by
 obtain⟨y,h1,h2⟩:=h i v hv
 exact⟨y,h1,h2.mono a⟩
theorem dQ.put {e':eQ} (hd:d<t.length) (hv:RV C' v y) (he:∀i w,eH e' i=some w->∃z,t[i]? =some z/\RV C' w z/\i≠d):dQ C' ((d,v)::e') (t.set d y):=by
 intro i w hw;simp only[eH]at hw;split at hw
 grind
 grind
def dQ.edel {C:Cx} {e:eQ} {t:aA AV} (h:dQ C e t) (is:aA Nat):∀i w,eH (edel e is) i=some w->∃z,t[i]? =some z/\RV C w z/\i∉is:=fun i w hw=>by
 rw[zW]at hw
 split at hw
 cases hw
 rename_i hi
 obtain⟨z,h1,h2⟩:=h i w hw
 exact⟨z,h1,h2,hi⟩
section
variable {R:Type} {s:Hp}
theorem Wi (c:cM C n h lim s) (hg:aG h k=some po) (hkl:tQ k h h1) (hb:gB po=false):cM C n (cC h1 k po) lim s/\Fr C h s C (cC h1 k po) s:=by
 have m:(aG h1 k).isSome=true:=by
  cases hc:aG h1 k with
  |none=>rw[(hkl.1 k).1 hc]at hg;cases hg
  |some o=>rfl
 have a:∀j,aG (cC h1 k po) j=if j=k then some po else aG h1 j:=fun j=>by
  rw[dI];simp[m]
 have b:∀j,aG (cC h1 k po) j≠none->aG h j≠none:=fun j d=>by
  rw[a]at d;split at d
  grind
  exact fun hc=>d ((hkl.1 j).2 hc)
 refine⟨⟨⟨fun j o d=>?_,fun j t i v1 f g v2 e2 w a1 a2 a3 a4=>c.hr.inj j t i v1 f g v2 e2 w (b j a1) (b t a2) a3 a4,fun i o u=>?_,fun j i v1 f g a1 a2=>c.hr.wn j i v1 f g (b j a1) a2,c.hr.wb,c.hr.wz⟩,c.dom,c.wf,c.lim⟩,⟨.refl _ _,yX2 _,fun _ _ _=>rfl,fun i hi p=>?_,Fu hg hkl hb kA.self,fun _ _ h=>h,fun _ _ h=>.inl h⟩⟩;rw[a]at d;split at d;rename_i f;subst f;cases d;exact c.hr.ob j _ hg;obtain⟨x,q1,y,q2⟩:=hkl.2 j o d;obtain⟨pl,q,r⟩:=c.hr.ob j x q1;exact⟨pl,q,q2 kA.self rfl r⟩;obtain⟨z1,z2,z3,z4⟩:=c.hr.zr i o u;exact⟨z1,z2,fun j v e l h1 h2=>z3 j v e l (b j h1) h2,z4⟩;rcases p with⟨j,v1,f,g,q,r⟩|p;exact .inl ⟨j,v1,f,g,b j q,r⟩;exact .inr p
def Yx (c:cM C n h lim s) {e:Nat} {K:aA (aA PV)->aB R} {r:R} (hk:Vn h e dp x K=some r) (hv:RV C x y):∃rows rows',K rows=some r/\Sim.rowsOf (Sim.look s.h) e y=some rows'/\Iq C.z dp rows rows':=by
 unfold Vn at hk;split at hk;rename_i e' rows;rw[aW]at hk;by_cases a:e'=e;subst a;rw[aF3 rfl,zE2]at hk;rcases Vu hv with⟨rows',rfl,hr⟩|⟨rfl,rfl|rfl⟩
 exact⟨rows,rows',hk,by simp[Sim.rowsOf],hr.tz⟩;exact⟨[],[],hk,rfl,.nil⟩;exact⟨[],[],hk,rfl,.nil⟩;rw[zO2 a]at hk;exact aD hk;rename_i k;simp only[gH,yR2]at hk;obtain⟨ob,hg,hk⟩:=hk;cases ob with
 |lst ty e' g rows=>
  simp only[aW]at hk;by_cases a:e'=e;subst a;rw[aF3 rfl,zE2]at hk;rcases kI hv with⟨id,ver,i,len,b,rfl⟩|⟨b,hy⟩
  obtain⟨_,rfl,hlen,els,f,hr,j,_⟩:=lC c hg b;subst hlen;refine⟨rows,els.take rows.length,hk,?_,hr.tz⟩;simp only[Sim.rowsOf,f];rw[yY2 ⟨by trivial,by trivial,by omega⟩,aO3];have:=mE c hg b;subst this;rcases hy with rfl|rfl;exact⟨[],[],hk,rfl,.nil⟩;exact⟨[],[],hk,rfl,.nil⟩;rw[zO2 a]at hk;exact aD hk
 |lz ty e' dp' rows=>
  simp only at hk;cases hc:(Nat.beq e' e&&Nat.ble dp' dp)with
  |false=>rw[hc]at hk;exact aD hk
  |true=>
   rw[hc,zE2]at hk;simp only[yS2]at hc;have a:=zM2 hc.1;have e2:=zH2 hc.2;subst a;rcases kI hv with⟨id,ver,i,len,b,rfl⟩|⟨b,hy⟩
   obtain⟨_,_,rfl,hlen,_,els,f,hr⟩:=Bh c hg b;subst hlen;refine⟨rows,els,hk,?_,hr.up e2⟩;have hl:=hr.1;simp only[Sim.rowsOf,f];rw[yY2 ⟨by trivial,by trivial,by omega⟩,aO3,hl,bP3];have:=Aa c hg b;subst this;rcases hy with rfl|rfl;exact⟨[],[],hk,rfl,.nil⟩;exact⟨[],[],hk,rfl,.nil⟩
 |_=>exact aD hk
 rename_i d e' rows;cases hc:(Nat.beq e' e&&Nat.ble d (dp+1))with
 |false=>rw[hc]at hk;exact aD hk
 |true=>
  rw[hc,zE2]at hk;simp only[yS2]at hc;have a:=zM2 hc.1;have e2:=zH2 hc.2;subst a;rcases yD (tO hv)with(⟨rows',rfl,hr⟩|⟨rfl,rfl⟩)|⟨d',id,ver,ty,els,rfl,rfl,hz,hl,hr⟩
  exact⟨rows,rows',hk,by simp[Sim.rowsOf],hr.tz⟩;exact⟨[],[],hk,rfl,.nil⟩;refine⟨rows,els.take rows.length,hk,?_,hr.up (by omega)⟩;simp only[Sim.rowsOf,(c.hr.zr id _ hz).1];rw[yY2 ⟨by trivial,by trivial,by omega⟩,aO3]
 rw[gT hv];exact⟨[],[],hk,rfl,.nil⟩;exact aD hk
def eD1 (l:cM C n h lim s) {b ty' es':Nat} {W:PV} {K:eQ->aJ->aB R} {r:R} (he:dQ C e t) (hd:d<t.length) (h1:RV C (.own k) E) (h2:RV C W V)
  (hg:aG h k=some (.lz ty' es' dp rows))
  (hk:(Vn h es dp W fun new=>bif Nat.beq es' es&&(Nat.beq ty' ty&& !(dY ty'))then bP (appRows false rows new) fun rows=>
    iY e (d::kill) fun e=>nL k e fun e=>kY k h fun h=>gA h k (.lz ty' es' dp rows) fun h=>K ((d,.own k)::e) h
   else none)=some r):
  ∃C' e' h' out,K e' h'=some r/\doOp (Sim.look s.h) lim s.n (.append ty es b zero false) [E,V]=some out/\cM C' n h' lim (out.apply s)/\dQ C' e' (t.set d out.v)/\Fr C h s C' h' (out.apply s):=by
 have hz:=Yx l hk h2;clear hk;obtain⟨new,a,hk,U,o⟩:=hz;by_cases hc:(Nat.beq es' es&&(Nat.beq ty' ty&& !(dY ty')))=true;simp only[hc,zE2,bJ,yR2]at hk;simp only[yS2,aW,zD2,zK2]at hc;obtain⟨rfl,rfl,H⟩:=hc;obtain⟨D,c,hk⟩:=hk;rw[eI]at hk;obtain⟨e2,hk,S⟩:=jX _ _ _ hk;obtain⟨Y,hk,y⟩:=kT _ _ _ hk;have hk:=dB _ _ _ _ _ hk;unfold appRows at c;split at c;rename_i B;obtain rfl:rows++new=D:=bE3 c
 have m:∀{C':Cx},kA k C C'->∀i w,eH e2 i=some w->∃z,t[i]? =some z/\RV C' w z/\i≠d:=by
  intro C' j i w hw;obtain⟨v,q1,q2⟩:=S i w hw;obtain⟨z,p1,p2,p3⟩:=he.edel (d::kill) i v q1;exact⟨z,p1,q2 j p2,fun X=>p3 (by simp[X])⟩
 have x:∀out,Sim.appendTo (Sim.look s.h) lim s.n ty' es' E a=some out->(∀z id ver off len cap,out.v=.sl z id ver off len cap->len<=Sim.maxRoom)->doOp (Sim.look s.h) lim s.n (.append ty' es' b zero false) [E,V]=some out:=by
  intro out Z hl;simp only[doOp,Sim.appRows,zG2,aL3,U,Z];split;rename_i hv;rw[yY2 ⟨hl _ _ _ _ _ _ hv,by rw[<-o.1];omega⟩];rfl
 have hlen:=o.1;by_cases G:a=[];subst G;have J:new=[]:=by simpa using hlen
 subst J;rw[bJ3]at hk;obtain⟨L,M⟩:=Wi l hg y rfl;refine⟨C,_,_,{v:=E},hk,x _ ?_ ?_,L,.put hd h1 (m kA.self),M⟩;rcases kI h1 with⟨id,ver,g,len,j,rfl⟩|⟨j,hy⟩
 obtain⟨f,_,rfl,hl,_,els,N,hr⟩:=Bh l hg j;have:=hr.1;simp only[Sim.appendTo,N];rw[yY2 ⟨by trivial,by trivial,by trivial,by omega⟩];rfl;rcases hy with rfl|rfl<;>rfl;intro z id ver off len cap hv;rcases kI h1 with⟨id',u,g,q,j,rfl⟩|⟨j,hy⟩
 obtain⟨f,_,rfl,hl,_⟩:=Bh l hg j;cases hv;omega;rcases hy with rfl|rfl<;>cases hv;have p:a.isEmpty=false:=by cases a<;>simp_all
 rcases kI h1 with⟨id,ver,g,len,j,rfl⟩|⟨j,hy⟩
 obtain⟨f,P,rfl,hl,_,els,N,hr⟩:=Bh l hg j;subst hl;have a0:=hr.1
 have O:Sim.appendTo (Sim.look s.h) lim s.n ty' g (.sl g id ver 0 rows.length none) a=some {v:=.sl g id (ver+1) 0 (rows.length+a.length) none,up:=some (id,.arr false ty' g (ver+1) (els++a))}:=by
  simp only[Sim.appendTo,N];rw[yY2 ⟨by trivial,by trivial,by trivial,by omega⟩];simp only[p,zG2,aL3];rw[yY2 (by omega),yY2 ⟨by trivial,f,by trivial⟩]
 have A:∀i,i≠id->Sim.look (upd s.h id (.arr false ty' g (ver+1) (els++a))) i=Sim.look s.h i:=fun i hi=>by
  rw[Sim.look_upd];simp[hi]
 obtain⟨L,M⟩:=Pr (id:=id) (ver:=ver+1) (e:=g) (len:=(rows++new).length) (po2:=.lz ty' g dp (rows++new)) (s':={h:=upd s.h id (.arr false ty' g (ver+1) (els++a)),n:=s.n}) l hg y
  (yX2 _) (l.wf.upd _ _) (.upd _ _ _ _) (fun i _ hi=>A i hi) (.inr ⟨_,_,_,j⟩) ⟨f,P,rfl,rfl,H,els++a,by rw[Sim.look_upd];simp[N],hr.append o⟩ rfl
 refine⟨_,_,_,_,hk,x _ O ?_,L,?_,M⟩;intro z id' u off q cap hv;cases hv;omega;refine .put hd ?_ (m (fB C k _));have:RV (mv C k (.atp id (ver+1) g (rows++new).length)) (.own k) (.sl g id (ver+1) 0 (rows++new).length none):=.own (pP C k _);rw[aU3,hlen]at this;simpa[hlen]using this;have T:=Aa l hg j;subst T
 have F:Sim.appendTo (Sim.look s.h) lim s.n ty' es' E a=some {v:=.sl es' s.n 0 0 a.length none,new:=some (.arr false ty' es' 0 a)}:=by
  rcases hy with rfl|rfl<;>simp[Sim.appendTo,p]
 have A:∀i,i<s.n->Sim.look (.ob s.n (.arr false ty' es' 0 a)::s.h) i=Sim.look s.h i:=fun i hi=>by
  rw[eK,zB2 (by omega)]
 obtain⟨L,M⟩:=Pr (id:=s.n) (ver:=0) (e:=es') (len:=([]++new).length) (po2:=.lz ty' es' dp ([]++new)) (s':={h:=.ob s.n (.arr false ty' es' 0 a)::s.h,n:=s.n+1}) l hg y
  (by show s.n<=s.n+1;omega) ⟨by simp,l.wf⟩ (.new _ _ _) (fun i hi _=>A i hi) (.inl (yX2 _)) ⟨l.lim,by show s.n<s.n+1;omega,rfl,rfl,H,a,by rw[eK,yY2 rfl],by rw[cJ3];exact o⟩ rfl
 refine⟨_,_,_,_,hk,x _ F ?_,L,.put hd ?_ (m (fB C k _)),M⟩;intro z id' u off q cap hv;cases hv;simp at B;omega;have:RV (mv C k (.atp s.n 0 es' ([]++new).length)) (.own k) (.sl es' s.n 0 0 ([]++new).length none):=.own (pP C k _);simpa[hlen]using this;cases c;simp only[bA3]at hc;simp only[hc]at hk;exact aD hk
def Ja (k a:Nat) (C C':Cx):Prop:=(∀j,j≠k->j≠a->C' j=C j)/\∀id o,C.z id=some o->C'.z id=some o
def Ja.mid (h:Ja k a C C') (hw:C'.w=C.w):∃C1:Cx,kA k C C1/\C1.w=C.w/\kA a C1 C'/\C'.w=C1.w:=
 ⟨⟨fun j=>if j=a then C j else C' j,C'.z,C.w⟩,⟨fun j b=>by
  show(if j=a then C j else C' j)=_
  split
  rfl
  rename_i h2;exact h.1 j b h2,h.2⟩,rfl,⟨fun j b=>by show _=(if j=a then C j else C' j);rw[zB2 b],fun _ _ h=>h⟩,hw⟩
def Fv (k a:Nat) (h h':aJ):Prop:=(∀j,aG h' j=none↔aG h j=none)/\∀j o',aG h' j=some o'->∃o,aG h j=some o/\gB o'=gB o/\
 ∀{C C':Cx} {L:Nat->aB AO} {lim nS:Nat} {pl:Pl},Ja k a C C'->C'.w=C.w->fI C L lim nS o pl->fI C' L lim nS o' pl
def Fv.of (a:tQ k h h1) (b:tQ c h1 h2):Fv k c h h2:=
 ⟨fun j=>(b.1 j).trans (a.1 j),fun j o' d=>by
  obtain⟨f,q1,q2,q3⟩:=b.2 j o' d
  obtain⟨o,p1,p2,p3⟩:=a.2 j f q1
  refine⟨o,p1,q2.trans p2,fun{C C' L lim nS pl} hs hw e=>?_⟩
  obtain⟨C1,c1,c2,c3,c4⟩:=hs.mid hw
  exact q3 c3 c4 (p3 c1 c2 e)⟩
def Cj:∀{f:Nat} {a b:TD},Kp f a b=true->a=b
 |f+1,.nd a b ks,.nd c d ls,h=>by
  simp only[Kp,yS2,aW,zD2,yW2]at h
  obtain⟨rfl,rfl,hl,h⟩:=h
  have:ks=ls:=by
   apply List.ext_getElem hl;intro i h1 h2
   have:=h (ks[i],ls[i]) (by
    rw[zL2];exact⟨i,by simp[List.getElem?_zip_eq_some,h1,h2]⟩)
   exact Prod.ext this.1 (Cj this.2)
  rw[this]
def Ps (C:Cx) (k b:Nat) (pl:Pl) (id a len:Nat):Cx:=⟨fun j=>if j=k then some pl else if j=b then some .nil else C j,C.z,fun o=>match C.w o with
 |some (p,i,j)=>if p=a then some (id,len+i,j)else some (p,i,j)
 |none=>none⟩
def eL.move (hn:nS<=c) {B:Nat->Prop} (k:∀b,B b->w b=none) (l:∀o sl,w o=some sl->¬B sl.1->w' o=some sl/\L' o=L o) {sl f:Nat×Nat×Nat} (m:∀o,w o=some sl->w' o=some f/\L' o=L o):
  ∀{d:Nat} {t:TD} {x:PV} {y:AV},eL L w lim nS d sl t x y->eL L' w' lim c d f t x y
 |0,_,_,_,h=>h.elim
 |d+1,.nd ty e ks,x,y,h=>by
  rcases h with h|⟨rows,h1,h2⟩
  exact .inl h
  refine .inr ⟨rows,h1,?_⟩
  rcases h2 with h2|⟨id,ver,els,k1,k2,k3,k4,kf,k5,k6,k7⟩
  exact .inl h2
  obtain⟨w1,w2⟩:=m id k2
  have g:¬B id:=fun hc=>by rw[k id hc]at k2;cases k2
  refine .inr ⟨id,ver,els,k1,w1,k3,by omega,kf,w2.trans k5,k6,fun i r r' a b=>⟨(k7 i r r' a b).1,fun j n p a1 b1=>?_⟩⟩
  have:=(k7 i r r' a b).2 j n p a1 b1
  cases hk:eZ ks j with
  |none=>rw[hk]at this;exact this
  |some t=>rw[hk]at this;exact eL.mono hn k l g this
theorem rV1 (r:cM C n h lim s) {e T S:Nat} {po':cS} {s':Hp} (hg:aG h k=some po) (G:aG h g=some po2) (W:k≠g) (hkl:Fv k g h h2)
  (hs:s.n<=s'.n) (Z:Wf s'.h s'.n) (Y:Sk s.h s'.h s.n) (u:∀i,i<s.n->i≠id->Sim.look s'.h i=Sim.look s.h i) (d:(id=s.n/\s.n<s'.n)\/∃v e l,C k=some (.atp id v e l)) (F:C g=some (.atp c T e2 S))
  (A:fI (Ps C k g (.atp id ver e len) id c m) (Sim.look s'.h) lim s'.n po' (.atp id ver e len)) (b7:gB po'=false):
  cM (Ps C k g (.atp id ver e len) id c m) n (cC (cC h2 g (.lst 0 0 true [])) k po') lim s'/\Fr C h s (Ps C k g (.atp id ver e len) id c m) (cC (cC h2 g (.lst 0 0 true [])) k po') s':=by
 have U:Ps C k g (.atp id ver e len) id c m k=some (.atp id ver e len):=yY2 rfl
 have N:Ps C k g (.atp id ver e len) id c m g=some .nil:=by
  show(if g=k then _ else if g=g then _ else _)=_
  rw[zB2 (Ne.symm W),yY2 rfl]
 have t:∀j,j≠k->j≠g->Ps C k g (.atp id ver e len) id c m j=C j:=fun j h1 h2=>by
  show(if j=k then _ else if j=g then _ else _)=_
  rw[zB2 h1,zB2 h2]
 have D:∀j po,aG h j=some po->(aG h2 j).isSome=true:=fun j po q=>by
  cases hc:aG h2 j with
  |none=>rw[(hkl.1 j).1 hc]at q;cases q
  |some o=>rfl
 have y:∀j,aG (cC (cC h2 g (.lst 0 0 true [])) k po') j=if j=k then some po' else if j=g then some (.lst 0 0 true [])else aG h2 j:=fun j=>by
  rw[dI,dI,dI];have a:=D k _ hg;have b:=D g _ G;by_cases x:j=k
  grind
  grind
 have H:∀j,aG (cC (cC h2 g (.lst 0 0 true [])) k po') j≠none->aG h j≠none:=fun j q=>by
  rw[y]at q;split at q
  grind
  split at q
  grind
  exact fun hc=>q ((hkl.1 j).2 hc)
 have b5:=(r.hr.lt (by rw[G];simp) F).2;have K:C.w c=none:=r.hr.wn g c _ _ _ (by rw[G];simp) F
 have R:C.w id=none:=by
  rcases d with⟨d,_⟩|⟨v',e',l',d⟩
  cases K:C.w id with
  |none=>rfl
  |some sl=>have:=(r.hr.wb id sl K).1;omega
  exact r.hr.wn k id v' e' l' (by rw[hg];simp) d
 have b6:id<s'.n:=by
  rcases d with⟨d,_⟩|⟨v',e',l',d⟩
  omega;have:=(r.hr.lt (by rw[hg];simp) d).2;omega
 have X:∀j v e l,j≠k->aG h j≠none->C j≠some (.atp id v e l):=by
  intro j v e2 l q hh hc;rcases d with⟨d,_⟩|⟨v',e',l',d⟩
  have:=(r.hr.lt hh hc).2;omega;exact q (r.hr.inj j k id _ _ _ _ _ _ hh (by rw[hg];simp) hc d)
 have b0:∀o,(Ps C k g (.atp id ver e len) id c m).w o≠none->C.w o≠none:=fun o A hc=>by
  apply A;show(match C.w o with|some (p,i,j)=>if p=c then some (id,m+i,j)else some (p,i,j)|none=>none)=none
  rw[hc]
 have a0:∀o sl,C.w o=some sl->¬(sl.1=c)->(Ps C k g (.atp id ver e len) id c m).w o=some sl:=fun o sl A hc=>by
  obtain⟨p,i,j⟩:=sl;show(match C.w o with|some (p,i,j)=>if p=c then some (id,m+i,j)else some (p,i,j)|none=>none)=_
  rw[A];exact zB2 hc
 have V:∀o sl,C.w o=some sl->Sim.look s'.h o=Sim.look s.h o:=fun o sl A=>u o (r.hr.wb o sl A).1 fun x=>by rw[x,R]at A;cases A
 refine⟨⟨⟨fun j o q=>?_,fun j j' i v1 x M v2 e2 l2 a1 a2 a3 a4=>?_,fun i o hz=>?_,fun j i v1 x M a1 a2=>?_,fun i sl hw=>?_,fun i o hz=>?_⟩,fun j pl q=>?_,Z,zX2 r.lim hs⟩,⟨Y,hs,fun i hi hn=>u i hi (fun x=>hn ?_),fun i hi hn=>?_,fun j o q=>?_,fun _ _ h=>h,fun _ _ h=>.inl h⟩⟩;rw[y]at q;split at q
 grind
 split at q;rename_i x;subst x;cases q;exact⟨_,N,rfl⟩;rename_i O J;obtain⟨o0,q1,qb,q2⟩:=hkl.2 j o q;obtain⟨pl,p1,p2⟩:=r.hr.ob j o0 q1;refine⟨pl,(t j O J).trans p1,?_⟩;have p3:fI ⟨(Ps C k g (.atp id ver e len) id c m).f,C.z,C.w⟩ (Sim.look s.h) lim s.n o pl:=q2 (C:=C) (C':=⟨(Ps C k g (.atp id ver e len) id c m).f,C.z,C.w⟩) ⟨t,fun _ _ h=>h⟩ rfl p2;refine fI.monoB (C:=⟨(Ps C k g (.atp id ver e len) id c m).f,C.z,C.w⟩) (C':=Ps C k g (.atp id ver e len) id c m) hs ⟨fun _ _ h=>h,fun _ _ h=>h⟩ (B:=fun b=>b=c) (fun b hb=>by subst hb;exact K) (fun o sl A hb=>⟨a0 o sl A hb,V o sl A⟩) (fun i v1 x M hp hb=>?_) (fun i v1 x M hp=>?_) p3;subst hp;subst hb;exact J (r.hr.inj j g i _ _ _ _ _ _ (by rw[q1];simp) (by rw[G];simp) p1 F);subst hp;exact u i p2.lt.2 (fun e2=>by subst e2;exact X j _ _ _ O (by rw[q1];simp) p1)
 have nk:∀{j v e' l' i},Ps C k g (.atp id ver e len) id c m j=some (.atp i v e' l')->j≠k->C j=some (.atp i v e' l'):=fun{j v e' l' i} q h1=>by
  by_cases b:j=g
  grind
  grind
 by_cases b1:j=k
 grind
 by_cases b2:j'=k
 grind
 exact r.hr.inj j j' i v1 x M v2 e2 l2 (H j a1) (H j' a2) (nk a3 b1) (nk a4 b2);obtain⟨z1,z2,z3,z4⟩:=r.hr.zr i o hz;have P:i≠id:=fun x=>by grind
 refine⟨(u i z2 P).trans z1,aE3 z2 hs,fun j v e' l h1 h2=>?_,z4⟩;by_cases b1:j=k
 grind
 grind
 have:C.w i=none:=by
  by_cases b1:j=k
  grind
  by_cases b2:j=g
  grind
  exact r.hr.wn j i v1 x M (H j a1) ((t j b1 b2).symm.trans a2)
 show(match C.w i with|some (p,i,j)=>if p=c then some (id,m+i,j)else some (p,i,j)|none=>none)=none
 rw[this];have E:(match C.w i with|some (p,i,j)=>if p=c then some (id,m+i,j)else some (p,i,j)|none=>none)=some sl:=hw;cases hc:C.w i with
 |none=>rw[hc]at E;cases E
 |some sl0=>
  obtain⟨p,a,b⟩:=sl0;have:=r.hr.wb i _ hc;rw[hc]at E;simp only at E;split at E
  grind
  grind
 have:=r.hr.wz i o hz;show(match C.w i with|some (p,i,j)=>if p=c then some (id,m+i,j)else some (p,i,j)|none=>none)=none
 rw[this];by_cases b1:j=k;subst b1;obtain⟨b4,k1,_⟩:=r.hr.ob j _ hg;exact r.dom j b4 k1;by_cases b2:j=g;subst b2;exact r.dom j _ F;exact r.dom j pl ((t j b1 b2).symm.trans q);subst x;rcases d with⟨d,_⟩|⟨v',e',l',d⟩
 omega;exact .inl ⟨k,v',e',l',by rw[hg];simp,d⟩;rcases hn with⟨j,v1,x,M,k1,L⟩|hn;by_cases b1:j=k;subst b1;rw[U]at L;cases L;rcases d with⟨d,_⟩|⟨v',e',l',d⟩
 omega;exact .inl ⟨j,v',e',l',by rw[hg];simp,d⟩;by_cases b2:j=g
 grind
 exact .inl ⟨j,v1,x,M,H j k1,(t j b1 b2).symm.trans L⟩;exact .inr (b0 i hn);rw[y];by_cases b1:j=k
 grind
 by_cases b2:j=g;subst b2;exact⟨.lst 0 0 true [],by simp[b1],fun h=>by cases h⟩;cases hc:aG h2 j with
 |none=>rw[(hkl.1 j).1 hc]at q;cases q
 |some o'=>
  obtain⟨o0,q1,qb,_⟩:=hkl.2 j o' hc;rw[q]at q1;cases q1;exact⟨o',by simp[b1,b2],fun h=>⟨by rw[<-qb];exact h,t j b1 b2⟩⟩
def uV1 {f e2:eQ} (a:eB1 k e f) (b:eB1 c f e2):∀i w,eH e2 i=some w->∃v,eH e i=some v/\∀{C C':Cx} {y:AV},Ja k c C C'->RV C v y->RV C' w y:=fun i w hw=>by
 obtain⟨v1,q1,q2⟩:=b i w hw
 obtain⟨v,p1,p2⟩:=a i v1 q1
 refine⟨v,p1,fun{C C' y} hs hv=>?_⟩
 have c1:kA k C ⟨fun j=>if j=c then C j else C' j,C'.z,C.w⟩:=⟨fun j d=>by
  show(if j=c then C j else C' j)=_
  split
  rfl
  rename_i h2;exact hs.1 j d h2,hs.2⟩
 have c2:kA c ⟨fun j=>if j=c then C j else C' j,C'.z,C.w⟩ C':=⟨fun j d=>by show _=(if j=c then C j else C' j);rw[zB2 d],fun _ _ h=>h⟩
 exact q2 c2 (p2 c1 hv)
theorem xX1 (g:cM C n h lim s) (hg:aG h k=some po) (u:aG h d=some po2) (y:k≠d) (hkl:Fv k d h h2) (hb:gB po=false)
  (A:∀pl,fI C (Sim.look s.h) lim s.n po pl->fI (mv C d .nil) (Sim.look s.h) lim s.n po pl):
  cM (mv C d .nil) n (cC (cC h2 d (.lst 0 0 true [])) k po) lim s/\Fr C h s (mv C d .nil) (cC (cC h2 d (.lst 0 0 true [])) k po) s:=by
 have q:∀j po,aG h j=some po->(aG h2 j).isSome=true:=fun j po c=>by
  cases hc:aG h2 j with
  |none=>rw[(hkl.1 j).1 hc]at c;cases c
  |some o=>rfl
 have f:∀j,aG (cC (cC h2 d (.lst 0 0 true [])) k po) j=if j=k then some po else if j=d then some (.lst 0 0 true [])else aG h2 j:=fun j=>by
  rw[dI,dI,dI];have a:=q k _ hg;have b:=q d _ u;by_cases r:j=k
  grind
  grind
 have p:∀j,aG (cC (cC h2 d (.lst 0 0 true [])) k po) j≠none->aG h j≠none:=fun j c=>by
  rw[f]at c;split at c
  grind
  split at c
  grind
  exact fun hc=>c ((hkl.1 j).2 hc)
 have m:∀{j t v e l},(mv C d .nil) j=some (.atp t v e l)->C j=some (.atp t v e l):=fun{j t v e l} c=>by
  by_cases b:j=d;subst b;rw[pP]at c;cases c;exact((fB C d _).1 j b).symm.trans c
 refine⟨⟨⟨fun j o c=>?_,fun j F i v1 r x v2 e2 L a1 a2 a3 a4=>g.hr.inj j F i v1 r x v2 e2 L (p j a1) (p F a2) (m a3) (m a4),fun i o K=>?_,fun j i v1 r x a1 a2=>g.hr.wn j i v1 r x (p j a1) (m a2),g.hr.wb,g.hr.wz⟩,fun j pl c=>?_,g.wf,g.lim⟩,⟨.refl _ _,yX2 _,fun _ _ _=>rfl,fun i hi z=>?_,fun j o c=>?_,fun _ _ h=>h,fun _ _ h=>.inl h⟩⟩;rw[f]at c;split at c;rename_i r;subst r;cases c;obtain⟨pl,p1,p2⟩:=g.hr.ob j _ hg;exact⟨pl,((fB C d _).1 j y).trans p1,A pl p2⟩;split at c;rename_i r;subst r;cases c;exact⟨_,pP C j _,rfl⟩;rename_i J w;obtain⟨G,q1,H,q2⟩:=hkl.2 j o c;obtain⟨pl,p1,p2⟩:=g.hr.ob j G q1;exact⟨pl,((fB C d _).1 j w).trans p1,q2 ⟨fun i h1 h2=>(fB C d _).1 i h2,fun _ _ h=>h⟩ rfl p2⟩;obtain⟨z1,z2,z3,z4⟩:=g.hr.zr i o K;exact⟨z1,z2,fun j v e' l h1 h2=>z3 j v e' l (p j h1) (m h2),z4⟩;by_cases b:j=d;subst b;obtain⟨E,B,_⟩:=g.hr.ob j _ u;exact g.dom j E B;exact g.dom j pl (((fB C d _).1 j b).symm.trans c);rcases z with⟨j,v1,r,x,B,D⟩|z;exact .inl ⟨j,v1,r,x,p j B,m D⟩;exact .inr z;rw[f];by_cases b1:j=k
 grind
 by_cases b2:j=d;subst b2;exact⟨.lst 0 0 true [],by simp[b1],fun h=>by cases h⟩;cases hc:aG h2 j with
 |none=>rw[(hkl.1 j).1 hc]at c;cases c
 |some o'=>
  obtain⟨G,q1,H,_⟩:=hkl.2 j o' hc;rw[c]at q1;cases q1;exact⟨o',by simp[b1,b2],fun h=>⟨by rw[<-H];exact h,(fB C d _).1 j b2⟩⟩
theorem TC.nohole {a:PV} {b:AV} (hw:C'.w=C.w) (h:TC C L lim nS d id ks [] i j a b):TC C' L lim nS d id ks [] i j a b:=by
 unfold TC at h ⊢;cases hk:eZ ks j with
 |none=>rw[hk]at h;exact h
 |some t=>
  rw[hk]at h;rcases h with⟨⟨x,c⟩,_⟩|⟨h1,h⟩
  cases c
  grind
def TC.upd {a:PV} {b:AV} (hd:d<=c) (h:TC C L lim nS d id ks hs i j a b):TC C L lim nS c id ks hs i j a b:=by
 unfold TC at h ⊢;cases hk:eZ ks j with
 |none=>rw[hk]at h;exact h
 |some t=>
  rw[hk]at h;simp only at h ⊢;rcases h with h|⟨h1,h⟩
  exact .inl h;exact .inr ⟨h1,h.up hd⟩
def eE1 (G:cM C n h lim s) {b F:Nat} {y1:AV} {tt:TD} {e7:cS} {K:eQ->aJ->aB R} {r:R} (he:dQ C e t) (hd:d<t.length) (h1:RV C (.own k) y1) (h2:RV C (.own F) y2)
  (hg:aG h k=some (.tr tt rows hs)) (L:aG h F=some e7) (hk:cU1 e h d ty es kill k tt rows hs F e7 K=some r):
  ∃C' e' h' out,K e' h'=some r/\doOp (Sim.look s.h) lim s.n (.append ty es b zero false) [y1,y2]=some out/\cM C' n h' lim (out.apply s)/\dQ C' e' (t.set d out.v)/\Fr C h s C' h' (out.apply s):=by
 unfold cU1 at hk;split at hk;rename_i ty' es' ks t2 f;by_cases hc:((Nat.beq es' es&&Nat.beq ty' ty)&&(Kp 8 t2 (.nd ty' es' ks)&& !(Nat.beq k F)))=true;simp only[hc,zE2,bJ,yR2]at hk;simp only[yS2,aW,zD2,zK2,aA3]at hc;obtain⟨⟨rfl,rfl⟩,d5,Y⟩:=hc;have d5:=Cj d5;subst d5;obtain⟨d6,H,hk⟩:=hk;rw[eI]at hk;obtain⟨e2,hk,f2⟩:=jX _ _ _ hk;obtain⟨B,hk,e0⟩:=jX _ _ _ hk;obtain⟨h3,hk,f3⟩:=kT _ _ _ hk;obtain⟨h4,hk,e4⟩:=kT _ _ _ hk;have hk:=dB _ _ _ _ _ hk;have hk:=dB _ _ _ _ _ hk;have hkl:=Fv.of f3 e4;have f1:=uV1 f2 e0;unfold appRows at H;split at H;rename_i J;obtain rfl:rows++f=d6:=bE3 H
 have W:∀{C':Cx},Ja k F C C'->∀i w,eH B i=some w->∃z,t[i]? =some z/\RV C' w z/\i≠d:=by
  intro C' D i w hw;obtain⟨v,q1,q2⟩:=f1 i w hw;obtain⟨z,p1,p2,p3⟩:=he.edel (d::kill) i v q1;exact⟨z,p1,q2 D p2,fun e1=>p3 (by simp[e1])⟩
 have d0:∀S out,Sim.rowsOf (Sim.look s.h) es' y2=some S->S.length=f.length->Sim.appendTo (Sim.look s.h) lim s.n ty' es' y1 S=some out->(∀z id ver off len cap,out.v=.sl z id ver off len cap->len<=Sim.maxRoom)->doOp (Sim.look s.h) lim s.n (.append ty' es' b zero false) [y1,y2]=some out:=by
  intro S out T hnl N hl;simp only[doOp,Sim.appRows,zG2,aL3,T,N];split;rename_i hv;rw[yY2 ⟨hl _ _ _ _ _ _ hv,by rw[hnl];omega⟩];rfl
 have d4:∀(C':Cx),(∀j,j≠k->j≠F->C' j=C j)->C'.z=C.z->Ja k F C C':=fun C' h1 h2=>⟨h1,fun _ _ h=>by rw[h2];exact h⟩
 have g8:∀{id ver B len},C k=some (.atp id ver B len)->y1=.sl B id ver 0 len none/\B=es'/\len=rows.length:=fun{id ver B len} D=>by
  rcases fA h1 with⟨id',b0,h0,a0,U,rfl⟩|⟨U,_⟩
  rw[D]at U;cases U;obtain⟨_,_,a,b,_⟩:=kZ G hg D;exact⟨rfl,a,b⟩;rw[D]at U;cases U
 by_cases V:f=[];subst V
 have T:Sim.rowsOf (Sim.look s.h) es' y2=some []:=by
  rcases fA h2 with⟨u,b4,q,e6,E,rfl⟩|⟨E,rfl⟩
  obtain⟨_,_,rfl,d3,_,g,d2,b8,O,_⟩:=kZ G L E;subst d3;simp only[Sim.rowsOf,b8];rw[yY2 ⟨by trivial,by trivial,by omega⟩];simp;rfl
 obtain⟨m1,m2⟩:=xX1 G hg L Y hkl rfl (fun pl N=>by
  cases pl with
  |nil=>exact N
  |atp id ver e' len=>
   obtain⟨a1,a2,a3,a4,a5,els,d1,a6,a7,a8⟩:=N;exact⟨a1,a2,a3,a4,a5,els,d1,a6,a7,fun i r r' c1 c2=>⟨(a8 i r r' c1 c2).1,fun j x y c3 c4=>TC.nohole (C:=C) (C':=mv C F .nil) rfl ((a8 i r r' c1 c2).2 j x y c3 c4)⟩⟩)
 rw[bJ3]at hk;have d9:(mv C F .nil) k=C k:=(fB C F _).1 k Y
 have hv:RV (mv C F .nil) (.own k) y1:=by
  rcases fA h1 with⟨id,ver,B,len,D,rfl⟩|⟨D,rfl⟩
  exact .own (d9.trans D);exact .ownn (d9.trans D) rfl
 refine⟨_,_,_,{v:=y1},hk,d0 [] _ T rfl ?_ ?_,m1,.put hd hv (W (d4 _ (fun j _ h2=>(fB C F _).1 j h2) rfl)),m2⟩;rcases fA h1 with⟨id,ver,B,len,D,rfl⟩|⟨D,rfl⟩
 obtain⟨M,_,rfl,hl,_,els,d1,hL,f5,_⟩:=kZ G hg D;simp only[Sim.appendTo,hL];rw[yY2 ⟨by trivial,by trivial,by trivial,by omega⟩];rfl;rfl;intro z id ver off len cap hv;rcases fA h1 with⟨id',b0,B,a0,D,rfl⟩|⟨D,rfl⟩
 obtain⟨M,_,rfl,hl,_⟩:=kZ G hg D;simp only[AV.sl.injEq]at hv;have:=J.1;omega;cases hv;have f7:f.length≠0:=fun h=>V (aW3 h);rcases fA h2 with⟨u,b4,q,e6,E,rfl⟩|⟨E,rfl⟩
 obtain⟨f6,g6,rfl,d3,d8,g,d2,b8,⟨O,g9⟩,b5⟩:=kZ G L E;subst d3
 have T:Sim.rowsOf (Sim.look s.h) q (.sl q u b4 0 f.length none)=some (g.take f.length):=by
  simp only[Sim.rowsOf,b8];rw[yY2 ⟨by trivial,by trivial,by omega⟩,aO3]
 have hnl:(g.take f.length).length=f.length:=by simp[bL3 O]
 have Z:(g.take f.length).isEmpty=false:=by
  cases hx:g.take f.length with
  |nil=>rw[hx]at hnl;simp at hnl;omega
  |cons a r=>rfl
 have g7:(g.take f.length).length=1:=by have:=J.2 rfl;omega
 have g5:C.w u=none:=G.hr.wn F u _ _ _ (by rw[L];simp) E
 have b7:∀{id ver:Nat} {L':Nat->aB AO} {b6:Nat} {els l:aA (aA AV)} {d1:Nat},s.n<=b6->lim<=id->id<b6->id≠u->C.w id=none->(∀o sl,C.w o=some sl->L' o=Sim.look s.h o)->
   (∀(i:Nat) (r:aA PV) (r':aA AV),rows[i]? =some r->els[i]? =some r'->r.length=r'.length/\∀(j:Nat) (a:PV) (b:AV),r[j]? =some a->r'[j]? =some b->TC C (Sim.look s.h) lim s.n d1 id ks [] i j a b)->
   L' id=some (.arr false ty' q ver l)->((rows++f).length<=l.length/\SL (rows++f).length l)->(∀i,i<rows.length->l[i]? =els[i]?)->(∀i,i<f.length->l[rows.length+i]? =g[i]?)->
   fI (Ps C k F (.atp id ver q (rows++f).length) id u rows.length) L' lim b6 (.tr (.nd ty' q ks) (rows++f) []) (.atp id ver q (rows++f).length):=by
  intro id ver L' b6 els l d1 q1 q2 q3 q4 q5 q6 q7 q8 q9 q10 q11;refine⟨q2,q3,rfl,rfl,d8,l,max d1 d2,q8,q9,fun i r r' c1 c2=>?_⟩
  have hW:∀o sl,C.w o=some sl->¬(sl.1=u)->(Ps C k F (.atp id ver q (rows++f).length) id u rows.length).w o=some sl/\L' o=Sim.look s.h o:=fun o sl N hn=>by
   obtain⟨p,a,c⟩:=sl;refine⟨?_,q6 o _ N⟩;show(match C.w o with|some (p,i,j)=>if p=u then some (id,rows.length+i,j)else some (p,i,j)|none=>none)=_
   rw[N];exact zB2 hn
  have hB:∀x,x=u->C.w x=none:=fun x hx=>by rw[hx];exact g5
  by_cases hi:i<rows.length;rw[bS3 hi]at c1;rw[q10 i hi]at c2;obtain⟨g1,g2⟩:=q7 i r r' c1 c2;refine⟨g1,fun j a c g3 g4=>?_⟩;have:=(g2 j a c g3 g4).upd (Nat.le_max_left d1 d2);unfold TC at this ⊢;cases hkd:eZ ks j with
  |none=>rw[hkd]at this;exact this
  |some t0=>
   rw[hkd]at this;rcases this with⟨⟨x,hx⟩,_⟩|⟨h1,this⟩
   cases hx;exact .inr ⟨h1,eL.mono q1 hB hW q4 this⟩
  rw[cO3 (by omega)]at c1;have f0:i-rows.length<f.length:=(yT2.1 c1).1;have c3:=q11 (i-rows.length) f0;rw[show rows.length+(i-rows.length)=i by omega,c2]at c3;obtain⟨g1,g2⟩:=b5 (i-rows.length) r r' c1 c3.symm;refine⟨g1,fun j a c g3 g4=>?_⟩;have:=(g2 j a c g3 g4).upd (Nat.le_max_right d1 d2);unfold TC at this ⊢;cases hkd:eZ ks j with
  |none=>rw[hkd]at this;exact this
  |some t0=>
   rw[hkd]at this;rcases this with⟨⟨x,hx⟩,_⟩|⟨h1,this⟩
   cases hx;refine .inr ⟨(fun⟨x,hx⟩=>(by cases hx)),eL.move q1 hB hW (fun o N=>⟨?_,q6 o _ N⟩) this⟩;show(match C.w o with|some (p,i,j)=>if p=u then some (id,rows.length+i,j)else some (p,i,j)|none=>none)=_
   rw[N];show(if u=u then _ else _)=_
   rw[yY2 rfl,show rows.length+(i-rows.length)=i by omega]
 rcases fA h1 with⟨id,ver,B,len,D,rfl⟩|⟨D,rfl⟩
 obtain⟨M,e9,rfl,hl,_,els,d1,hL,⟨f5,f9⟩,hr⟩:=kZ G hg D;subst hl;have e5:id≠u:=fun h=>by subst h;exact Y (G.hr.inj k F id _ _ _ _ _ _ (by rw[hg];simp) (by rw[L];simp) D E)
 have P:=G.hr.wn k id _ _ _ (by rw[hg];simp) D
 have fin:∀(A:Nat) (l:aA (aA AV)),Sim.appendTo (Sim.look s.h) lim s.n ty' B (.sl B id ver 0 rows.length none) (g.take f.length)=some {v:=.sl B id A 0 (rows.length+(g.take f.length).length) none,up:=some (id,.arr false ty' B A l)}->
   ((rows++f).length<=l.length/\SL (rows++f).length l)->(∀i,i<rows.length->l[i]? =els[i]?)->(∀i,i<f.length->l[rows.length+i]? =g[i]?)->
   ∃C' e' h' out,K e' h'=some r/\doOp (Sim.look s.h) lim s.n (.append ty' B b zero false) [.sl B id ver 0 rows.length none,.sl B u b4 0 f.length none]=some out/\cM C' n h' lim (out.apply s)/\dQ C' e' (t.set d out.v)/\Fr C h s C' h' (out.apply s):=by
  intro A l b9 g1 g2 g3
  have X:∀i,i≠id->Sim.look (upd s.h id (.arr false ty' B A l)) i=Sim.look s.h i:=fun i hi=>by
   rw[Sim.look_upd];simp[hi]
  obtain⟨m1,m2⟩:=rV1 (id:=id) (ver:=A) (e:=B) (len:=(rows++f).length) (m:=rows.length) (po':=.tr (.nd ty' B ks) (rows++f) []) (s':={h:=upd s.h id (.arr false ty' B A l),n:=s.n}) G hg L Y hkl
   (yX2 _) (G.wf.upd _ _) (.upd _ _ _ _) (fun i _ hi=>X i hi) (.inr ⟨_,_,_,D⟩) E
   (b7 (els:=els) (d1:=d1) (yX2 _) M e9 e5 P (fun o sl N=>X o fun h=>by rw[h,P]at N;cases N) hr (by rw[Sim.look_upd];simp[hL]) g1 g2 g3) rfl
  refine⟨_,_,_,_,hk,d0 _ _ T hnl b9 ?_,m1,.put hd ?_ (W (d4 _ (fun j h1 h2=>by show(if j=k then _ else if j=F then _ else _)=_;rw[zB2 h1,zB2 h2]) rfl)),m2⟩;intro z id' b0 off a0 cap hv;simp only[AV.sl.injEq]at hv;have:=J.1;omega;have:RV (Ps C k F (.atp id A B (rows++f).length) id u rows.length) (.own k) (.sl B id A 0 (rows++f).length none):=.own (yY2 rfl);rw[aU3]at this;rw[hnl];simpa using this
 by_cases e8:rows.length=els.length
 refine fin (ver+1) (els++g.take f.length) ?_ ⟨by simp;omega,.exact (by simp;omega)⟩ (fun i hi=>by rw[bS3 (by omega)]) (fun i hi=>by
  rw[cO3 (by omega),zR2,yY2 (by omega),show rows.length+i-els.length=i by omega])
 simp only[Sim.appendTo,hL];rw[yY2 ⟨by trivial,by trivial,by trivial,by omega⟩];simp only[Z,zG2,aL3];rw[yY2 (by omega),yY2 ⟨by trivial,M,by trivial⟩];have d7:rows.length+(g.take f.length).length<=els.length:=by omega
 refine fin ver (Sim.setL els rows.length (g.take f.length)) ?_ ⟨by rw[mF];simp;omega,fun i row hi b5=>by
  rw[aU3]at hi;rw[kJ (.inr (by omega))]at b5;exact f9 i row (by omega) b5⟩ (fun i hi=>by rw[kJ (.inl hi)]) (fun i hi=>by
  rw[rU d7 (by omega) (by omega),show rows.length+i-rows.length=i by omega,zR2,yY2 hi])
 simp only[Sim.appendTo,hL];rw[yY2 ⟨by trivial,by trivial,by trivial,by omega⟩];simp only[Z,zG2,aL3];rw[zB2 (by omega),yY2 ⟨by omega,M⟩];rw[aQ3];have f8:=(qB G hg D).1;subst f8
 have b9:Sim.appendTo (Sim.look s.h) lim s.n ty' q (.v (.slice none 0 0)) (g.take f.length)=some {v:=.sl q s.n 0 0 (g.take f.length).length none,new:=some (.arr false ty' q 0 (g.take f.length))}:=by
  simp[Sim.appendTo,Z]
 have X:∀i,i<s.n->Sim.look (.ob s.n (.arr false ty' q 0 (g.take f.length))::s.h) i=Sim.look s.h i:=fun i hi=>by
  rw[eK,zB2 (by omega)]
 have P:C.w s.n=none:=by
  cases hw:C.w s.n with
  |none=>rfl
  |some sl=>have:=(G.hr.wb s.n sl hw).1;omega
 obtain⟨m1,m2⟩:=rV1 (id:=s.n) (ver:=0) (e:=q) (len:=([]++f).length) (m:=0) (po':=.tr (.nd ty' q ks) ([]++f) []) (s':={h:=.ob s.n (.arr false ty' q 0 (g.take f.length))::s.h,n:=s.n+1}) G hg L Y hkl
  (by show s.n<=s.n+1;omega) ⟨by simp,G.wf⟩ (.new _ _ _) (fun i hi _=>X i hi) (.inl ⟨rfl,by show s.n<s.n+1;omega⟩) E
  (b7 (els:=[]) (d1:=0) (by show s.n<=s.n+1;omega) G.lim (by show s.n<s.n+1;omega) (by omega) P (fun o sl N=>X o (G.hr.wb o sl N).1) (fun i r r' c1=>by simp at c1) (by rw[eK,yY2 rfl]) ⟨by simp[bL3 O],.exact (by simp[bL3 O])⟩ (fun i hi=>by simp at hi) (fun i hi=>by
   rw[zR2,yY2 (by simpa using hi)];simp)) rfl
 refine⟨_,_,_,_,hk,d0 _ _ T hnl b9 ?_,m1,.put hd ?_ (W (d4 _ (fun j h1 h2=>by show(if j=k then _ else if j=F then _ else _)=_;rw[zB2 h1,zB2 h2]) rfl)),m2⟩;intro z id' b0 off a0 cap hv;simp only[AV.sl.injEq]at hv;have:=J.1;omega;have:RV (Ps C k F (.atp s.n 0 q ([]++f).length) s.n u 0) (.own k) (.sl q s.n 0 0 ([]++f).length none):=.own (yY2 rfl);rw[hnl];simpa using this;exact absurd (qB G L E).1 V;cases H;simp only[bA3]at hc;simp only[hc]at hk;exact aD hk;exact aD hk
def kM1 (o:cM C n h lim s) {b:Nat} {x1 x2:PV} {K:eQ->aJ->aB R} {r:R} (he:dQ C e t) (hd:d<t.length) (h1:RV C x1 V) (h2:RV C x2 y2)
  (hk:uC1 e h d ty es kill x1 x2 K=some r):
  ∃C' e' h' out,K e' h'=some r/\doOp (Sim.look s.h) lim s.n (.append ty es b zero false) [V,y2]=some out/\cM C' n h' lim (out.apply s)/\dQ C' e' (t.set d out.v)/\Fr C h s C' h' (out.apply s):=by
 unfold uC1 at hk;cases x1 with
 |own k=>
  simp only[gH,yR2]at hk;obtain⟨ob,hg,hk⟩:=hk;cases ob with
  |lz ty' es' dp rows=>exact eD1 o he hd h1 h2 hg hk
  |lst ty' es' g rows=>
   have hz:=eC1 o hk h2;clear hk;obtain⟨new,a,hk,d0,A⟩:=hz;by_cases hc:(Nat.beq es' es&&(Nat.beq ty' ty&& !(dY ty')))=true;simp only[hc,zE2,bJ,yR2]at hk;simp only[yS2,aW,zD2,zK2]at hc;obtain⟨rfl,rfl,B⟩:=hc;have D:zD ty'=ty':=by simp[zD,B]
   obtain⟨T,j,hk⟩:=hk;rw[eI]at hk;obtain⟨e2,hk,b7⟩:=jX _ _ _ hk;obtain⟨d5,hk,P⟩:=kT _ _ _ hk;have hk:=dB _ _ _ _ _ hk;unfold appRows at j;split at j;rename_i y;obtain rfl:rows++new=T:=bE3 j
   have u:∀{C':Cx},kA k C C'->∀i w,eH e2 i=some w->∃z,t[i]? =some z/\RV C' w z/\i≠d:=by
    intro C' p i w hw;obtain⟨v,q1,q2⟩:=b7 i w hw;obtain⟨z,p1,p2,p3⟩:=he.edel (d::kill) i v q1;exact⟨z,p1,q2 p p2,fun e1=>p3 (by simp[e1])⟩
   have M:∀out,Sim.appendTo (Sim.look s.h) lim s.n ty' es' V a=some out->(∀z id ver off len cap,out.v=.sl z id ver off len cap->len<=Sim.maxRoom)->doOp (Sim.look s.h) lim s.n (.append ty' es' b zero false) [V,y2]=some out:=by
    intro out U hl;simp only[doOp,Sim.appRows,zG2,aL3,d0,U];split;rename_i hv;rw[yY2 ⟨hl _ _ _ _ _ _ hv,by rw[<-A.1];omega⟩];rfl
   have hlen:=A.1;by_cases F:a=[]
   ·
    subst F;have Z:new=[]:=by simpa using hlen
    subst Z;rw[bJ3]at hk;obtain⟨m1,m2⟩:=Wi o hg P (show gB (.lst ty' es' g rows)=false from B);refine⟨C,_,_,{v:=V},hk,M _ ?_ ?_,m1,.put hd h1 (u kA.self),m2⟩;rcases kI h1 with⟨id,ver,m,len,p,rfl⟩|⟨p,hy⟩
    obtain⟨l,rfl,hl,els,L,hr,b8,_⟩:=lC o hg p;rw[D]at L;simp only[Sim.appendTo,L];rw[yY2 ⟨by trivial,by trivial,by trivial,by omega⟩];rfl;rcases hy with rfl|rfl<;>rfl;intro z id ver off len cap hv;rcases kI h1 with⟨id',J,m,H,p,rfl⟩|⟨p,hy⟩
    obtain⟨l,rfl,hl,_⟩:=lC o hg p;cases hv;omega;rcases hy with rfl|rfl<;>cases hv
   have x:a.isEmpty=false:=by cases a<;>simp_all
   rcases kI h1 with⟨id,ver,m,len,p,rfl⟩|⟨p,hy⟩
   obtain⟨l,rfl,hl,els,L,hr,⟨b8,d2⟩,b5⟩:=lC o hg p;rw[D]at L;subst hl;have b6:=(o.hr.lt (by rw[hg];simp) p).2
   have fin:∀(f:Nat) (c:aA (aA AV)) (out:Out),out={v:=.sl m id f 0 (rows.length+a.length) none,up:=some (id,.arr false ty' m f c)}->
     Sim.appendTo (Sim.look s.h) lim s.n ty' m (.sl m id ver 0 rows.length none) a=some out->
     RR (rows++new) (c.take (rows++new).length)->((rows++new).length<=c.length/\SL (rows++new).length c)->(g=false->c.length=(rows++new).length)->
     ∃C' e' h' out,K e' h'=some r/\doOp (Sim.look s.h) lim s.n (.append ty' m b zero false) [.sl m id ver 0 rows.length none,y2]=some out/\cM C' n h' lim (out.apply s)/\dQ C' e' (t.set d out.v)/\Fr C h s C' h' (out.apply s):=by
    intro f c out U b4 b0 Y O;have E:(out.apply s).h=upd s.h id (.arr false ty' m f c)/\(out.apply s).n=s.n:=by subst U;exact⟨rfl,rfl⟩
    have S:∀i,i≠id->Sim.look (upd s.h id (.arr false ty' m f c)) i=Sim.look s.h i:=fun i hi=>by
     rw[Sim.look_upd];simp[hi]
    have q:out.apply s={h:=upd s.h id (.arr false ty' m f c),n:=s.n}:=by subst U;rfl
    obtain⟨m1,m2⟩:=Pr (id:=id) (ver:=f) (e:=m) (len:=(rows++new).length) (po2:=.lst ty' m g (rows++new)) (s':={h:=upd s.h id (.arr false ty' m f c),n:=s.n}) o hg P
     (yX2 _) (o.wf.upd _ _) (.upd _ _ _ _) (fun i _ hi=>S i hi) (.inr ⟨_,_,_,p⟩) ⟨l,b6,rfl,rfl,c,by rw[Sim.look_upd];simp[L,D],b0,Y,O⟩ B
    refine⟨_,_,_,out,hk,M out b4 ?_,by rw[q];exact m1,?_,by rw[q];exact m2⟩;intro z id' J off H cap hv;subst U;cases hv;omega;subst U;refine .put hd ?_ (u (fB C k _));have:RV (mv C k (.atp id f m (rows++new).length)) (.own k) (.sl m id f 0 (rows++new).length none):=.own (pP C k _);rw[aU3,hlen]at this;simpa[hlen]using this
   by_cases N:rows.length=els.length;refine fin (ver+1) (els++a) _ rfl ?_ ?_ ?_ ?_;simp only[Sim.appendTo,L];rw[yY2 ⟨by trivial,by trivial,by trivial,by omega⟩];simp only[x,zG2,aL3];rw[yY2 (by omega),yY2 ⟨by trivial,l,by trivial⟩];rw[aK3 (by simp;omega)];refine RR.append ?_ A;rw[aK3 (by omega)]at hr;exact hr;exact⟨by simp;omega,.exact (by simp;omega)⟩;intro _;simp;omega
   have X:g=true:=by
    cases g with
    |true=>rfl
    |false=>exact absurd (b5 rfl).symm N
   have d4:=y.2 X
   have d3:a.length=1:=by
    have:a.length≠0:=by simpa using F
    omega
   have G:rows.length+a.length<=els.length:=by omega
   refine fin ver (Sim.setL els rows.length a) _ rfl ?_ ?_ ?_ ?_;simp only[Sim.appendTo,L];rw[yY2 ⟨by trivial,by trivial,by trivial,by omega⟩];simp only[x,zG2,aL3];rw[zB2 (by omega),yY2 ⟨by omega,l⟩];rw[aQ3];rw[yE els rows.length a G]
   have e1:(els.take rows.length++a++els.drop (rows.length+a.length)).take (rows++new).length=els.take rows.length++a:=by
    rw[cI3 (by simp;omega),aK3 (by simp;omega)]
   rw[e1];exact hr.append A;refine⟨?_,?_⟩;rw[yE els rows.length a G];simp[hlen];omega;intro i row hi a0;rw[aU3]at hi;rw[kJ (.inr (by omega))]at a0;exact d2 i row (by omega) a0;intro W;rw[X]at W;cases W
   ·
    have b9:=mE o hg p;subst b9
    have E:Sim.appendTo (Sim.look s.h) lim s.n ty' es' V a=some {v:=.sl es' s.n 0 0 a.length none,new:=some (.arr false ty' es' 0 a)}:=by
     rcases hy with rfl|rfl<;>simp[Sim.appendTo,x]
    have S:∀i,i<s.n->Sim.look (.ob s.n (.arr false ty' es' 0 a)::s.h) i=Sim.look s.h i:=fun i hi=>by
     rw[eK,zB2 (by omega)]
    obtain⟨m1,m2⟩:=Pr (id:=s.n) (ver:=0) (e:=es') (len:=([]++new).length) (po2:=.lst ty' es' g ([]++new)) (s':={h:=.ob s.n (.arr false ty' es' 0 a)::s.h,n:=s.n+1}) o hg P
     (by show s.n<=s.n+1;omega) ⟨by simp,o.wf⟩ (.new _ _ _) (fun i hi _=>S i hi) (.inl (yX2 _)) ⟨o.lim,by show s.n<s.n+1;omega,rfl,rfl,a,by rw[eK,yY2 rfl,D],by rw[aK3 (by simp;omega)];exact A,⟨by simp;omega,.exact (by simp;omega)⟩,fun _=>by simp;omega⟩ B
    refine⟨_,_,_,_,hk,M _ E ?_,m1,.put hd ?_ (u (fB C k _)),m2⟩;intro z id' J off H cap hv;cases hv;simp at y;omega;have:RV (mv C k (.atp s.n 0 es' ([]++new).length)) (.own k) (.sl es' s.n 0 0 ([]++new).length none):=.own (pP C k _);simpa[hlen]using this
   cases j;simp only[bA3]at hc;simp only[hc]at hk;exact aD hk
  |tr tt rows hs=>
   cases x2 with
   |own k2=>
    simp only[yR2]at hk;obtain⟨d6,O,hk⟩:=hk;exact eE1 o he hd h1 h2 hg O hk
   |_=>exact aD hk
  |_=>exact aD hk
 |_=>exact aD hk
theorem Lc (c:cM C n h lim s) {ty2:Nat} {g2:Bool} (hg:aG h k=some po) (w:C k=some .nil) (hkl:tQ k h h1) (g:dY ty2=false):
  cM C n (cC h1 k (.lst ty2 e2 g2 [])) lim s/\Fr C h s C (cC h1 k (.lst ty2 e2 g2 [])) s:=by
 have p:(aG h1 k).isSome=true:=by
  cases hc:aG h1 k with
  |none=>rw[(hkl.1 k).1 hc]at hg;cases hg
  |some o=>rfl
 have a:∀j,aG (cC h1 k (.lst ty2 e2 g2 [])) j=if j=k then some (.lst ty2 e2 g2 [])else aG h1 j:=fun j=>by
  rw[dI];simp[p]
 have b:∀j,aG (cC h1 k (.lst ty2 e2 g2 [])) j≠none->aG h j≠none:=fun j d=>by
  rw[a]at d;split at d
  grind
  exact fun hc=>d ((hkl.1 j).2 hc)
 refine⟨⟨⟨fun j o d=>?_,fun j u i v1 f m v2 e2 y a1 a2 a3 a4=>c.hr.inj j u i v1 f m v2 e2 y (b j a1) (b u a2) a3 a4,fun i o x=>?_,fun j i v1 f m a1 a2=>c.hr.wn j i v1 f m (b j a1) a2,c.hr.wb,c.hr.wz⟩,c.dom,c.wf,c.lim⟩,⟨.refl _ _,yX2 _,fun _ _ _=>rfl,fun i hi q=>?_,Fu hg hkl g kA.self,fun _ _ h=>h,fun _ _ h=>.inl h⟩⟩;rw[a]at d;split at d;rename_i f;subst f;cases d;exact⟨.nil,w,rfl⟩;obtain⟨z,q1,A,q2⟩:=hkl.2 j o d;obtain⟨pl,r,t⟩:=c.hr.ob j z q1;exact⟨pl,r,q2 kA.self rfl t⟩;obtain⟨z1,z2,z3,z4⟩:=c.hr.zr i o x;exact⟨z1,z2,fun j v e l h1 h2=>z3 j v e l (b j h1) h2,z4⟩;rcases q with⟨j,v1,f,m,r,t⟩|q;exact .inl ⟨j,v1,f,m,b j r,t⟩;exact .inr q
def Yy (f:cM C n h lim s) {hi:Int} {kd:IntKind} {K:eQ->aJ->aB R} {r:R} (he:dQ C e t) (hd:d<t.length) (h1:RV C (.own k) E) (h2:RV C (.v (.int kd hi)) G)
  (hk:Sx e h d es kill k hi K=some r):
  ∃C' e' h' out,K e' h'=some r/\doOp (Sim.look s.h) lim s.n (.slc es false true false) [E,G]=some out/\cM C' n h' lim (out.apply s)/\dQ C' e' (t.set d out.v)/\Fr C h s C' h' (out.apply s):=by
 unfold Sx at hk;simp only[gH,yR2]at hk;obtain⟨ob,hg,hk⟩:=hk;cases ob with
 |lst ty es' g rows=>
  by_cases hc:es'=es
  .subst hc
   cases hfx:dY ty with
   |true=>simp only[hfx,Bool.not_true,Bool.and_false,zP2]at hk;exact aD hk
   |false=>
   simp only[aW,aS3,hfx,Bool.not_false,Bool.and_true,zE2,bJ,yR2,uE]at hk;obtain⟨D,c,hk⟩:=hk;rw[eI]at hk;obtain⟨e2,hk,j⟩:=jX _ _ _ hk;obtain⟨u,hk,l⟩:=kT _ _ _ hk;have hk:=dB _ _ _ _ _ hk;split at c
   .rename_i hb
    obtain⟨b2,b3⟩:=hb;obtain rfl:=bE3 c;rw[gT h2];rcases kI h1 with⟨id,ver,o,len,b,rfl⟩|⟨b,hy⟩
    .obtain ⟨m,rfl,hl,els,F,hr,⟨J,y⟩,H⟩:=lC f hg b
     subst hl;have x:=(f.hr.lt (by rw[hg];simp) b).2;have a:(rows.take hi.toNat).length=hi.toNat:=by simp;omega
     obtain⟨A,B⟩:=Pr (id:=id) (ver:=ver) (e:=o) (len:=(rows.take hi.toNat).length) (po2:=.lst ty o true (rows.take hi.toNat)) (s':=s) (h1:=u) (hg:=hg) (hkl:=l) f
      (yX2 _) f.wf (.refl _ _) (fun i _ _=>rfl) (.inr ⟨_,_,_,b⟩) ⟨m,x,rfl,rfl,els,F,by
       have:=hr.take hi.toNat
       rw[List.take_take,bL3 (by omega)]at this;rw[a];exact this,⟨by rw[a];omega,SL.cut hr y _⟩,fun h=>by cases h⟩ hfx
     refine⟨_,_,_,{v:=.sl o id ver 0 hi.toNat none},hk,?_,A,.put hd ?_ (fun i w hw=>?_),B⟩
     .simp only[doOp,Sim.sliceOp,zG2,aL3,Sim.bounds,Sim.intOf,zW2,F,Sim.roomOf]
      rw[yY2 ⟨by trivial,by trivial,by omega,b2,by omega,by omega⟩];simp
     .have:=RV.own (C:=mv C k (.atp id ver o (rows.take hi.toNat).length)) (pP C k _)
      rw[a]at this ⊢;exact this
     .obtain ⟨v,q1,q2⟩:=j i w hw
      obtain⟨z,p1,p2,p3⟩:=he.edel (d::kill) i v q1;exact⟨z,p1,q2 (fB C k _) p2,fun p=>p3 (by simp[p])⟩
    .have:=mE f hg b
     subst this;simp only[zJ2,Int.natCast_zero]at b3;obtain rfl:hi=0:=by omega
     obtain⟨A,B⟩:=Lc (ty2:=ty) (e2:=es') (g2:=true) f hg b l hfx
     obtain rfl:E=.v (.slice none 0 0):=by
      rcases fA h1 with⟨_,_,_,_,q,_⟩|⟨_,q⟩
      .rw [b]at q;cases q
      .exact q
     refine⟨_,_,_,{v:=.v (.slice none 0 0)},hk,rfl,A,.put hd (.ownn b rfl) (fun i w hw=>?_),B⟩;obtain⟨v,q1,q2⟩:=j i w hw;obtain⟨z,p1,p2,p3⟩:=he.edel (d::kill) i v q1;exact⟨z,p1,q2 kA.self p2,fun p=>p3 (by simp[p])⟩
   .cases c
  .simp only[aW,zO2 hc,Bool.false_and,zP2]at hk;exact aD hk
 |_=>exact aD hk
end
end Go.P
namespace Go.P
open Go.Sim (AV AO Hp fQ upd St IC IX Ex gC CK Wf Out doOp jW exec)
variable {d k lim n:Nat}
section
variable {R:Type} {C:Cx} {h:aJ} {s:Hp}
def eF1 (l:cM C n h lim s) {m} {k} {v} {ob} {x} (hv:Ff v=some (m,k)) (hg:aG h k=some ob) (hf:Im m ob=some x) (q:∀t rows hs,ob≠.tr t rows hs) {y} (hy:RV C v y):
  (∃id ver e len o,C k=some (.atp id ver e len)/\Sim.look s.h id=some o/\nbO o=true/\∀z f,(∀i o,C.z i=some o->z i=some o)->z id=some o->RV ⟨f,z,C.w⟩ x y)\/(C k=some .nil/\∀C':Cx,RV C' x y):=by
 cases v with
 |own k'=>
  cases hv;cases ob with
  |lst ty e g rows=>
   unfold Im at hf;cases hfx:dY ty with
   |true=>simp only[hfx,zE2]at hf;cases hf
   |false=>
   simp only[hfx,zP2]at hf;cases hf;have u:zD ty=ty:=by simp[zD,hfx]
   rcases fA hy with⟨id,ver,d,len,c,rfl⟩|⟨c,rfl⟩
   obtain⟨_,rfl,hlen,els,j,hr,p,_⟩:=lC l hg c;subst hlen;rw[u]at j;refine .inl ⟨id,ver,d,_,_,c,j,rfl,fun z f A hi=>.zs (.inr ⟨d,rows,id,ver,ty,els,rfl,rfl,hi,p,fun i r r' a b=>?_⟩)⟩;refine hr.2 i r r' a ?_;have:i<rows.length:=(yT2.1 a).1;rw[zR2,yY2 this];exact b;have:=mE l hg c;subst this;exact .inr ⟨c,fun C'=>.zs (RZ.of .isn)⟩
  |lz ty e dp rows=>
   cases hf;rcases fA hy with⟨id,ver,d,len,c,rfl⟩|⟨c,rfl⟩
   obtain⟨_,_,rfl,hlen,_,els,j,hr⟩:=Bh l hg c;subst hlen;have hl:=hr.1;exact .inl ⟨id,ver,d,_,_,c,j,rfl,fun z f A hi=>.zs (.inr ⟨d,rows,id,ver,ty,els,rfl,rfl,hi,⟨by omega,.exact (by omega)⟩,fun i r r' a b=>(hr.2 i r r' a b).mono fun _ _ h=>RZ.mono A h⟩)⟩;have:=Aa l hg c;subst this;exact .inr ⟨c,fun C'=>.zs (RZ.of .isn)⟩
  |tr t rows hs=>exact absurd rfl (q t rows hs)
  |_=>cases hf
 |map k'=>
  cases hv;cases ob with
  |mp es=>
   cases hf;obtain⟨id,ver,d,len,c,rfl⟩:=zY hy;obtain⟨_,es',j,he⟩:=Pe l hg c;exact .inl ⟨id,ver,d,_,_,c,j,rfl,fun z f A hi=>.zm hi he⟩
  |_=>cases hf
 |_=>cases hv
def Yz (C:Cx) (k id:Nat) (o:AO):Cx:=⟨fun j=>if j=k then some .nil else C j,fun i=>if i=id then some o else C.z i,C.w⟩
theorem iO2 (f:cM C n h lim s) {k id ver e len} {po} {h1} {o} (hg:aG h k=some po) (u:C k=some (.atp id ver e len)) (M:Sim.look s.h id=some o) (F:nbO o=true) (hkl:tQ k h h1):
  cM (Yz C k id o) n (cC h1 k (.lst 0 0 true [])) lim s/\Fr C h s (Yz C k id o) (cC h1 k (.lst 0 0 true [])) s/\kA k C (Yz C k id o):=by
 have D:=(f.hr.lt (by rw[hg];simp) u).2
 have H:C.z id=none:=by
  cases d:C.z id with
  |none=>rfl
  |some o'=>exact absurd u ((f.hr.zr id o' d).2.2.1 k ver e len (by rw[hg];simp))
 have x:∀i o',C.z i=some o'->(Yz C k id o).z i=some o':=fun i o' d=>by
  have:i≠id:=fun r=>by rw[r,H]at d;cases d
  simp only[Yz,zB2 this];exact d
 have c:kA k C (Yz C k id o):=⟨fun j g=>zB2 g,x⟩
 have A:(Yz C k id o) k=some .nil:=yY2 rfl
 have B:(aG h1 k).isSome=true:=by
  cases hc:aG h1 k with
  |none=>rw[(hkl.1 k).1 hc]at hg;cases hg
  |some o=>rfl
 have q:∀j,aG (cC h1 k (.lst 0 0 true [])) j=if j=k then some (.lst 0 0 true [])else aG h1 j:=fun j=>by
  rw[dI];simp[B]
 have p:∀j,aG (cC h1 k (.lst 0 0 true [])) j≠none->aG h j≠none:=fun j g=>by
  rw[q]at g;split at g
  grind
  exact fun hc=>g ((hkl.1 j).2 hc)
 have m:∀{j t v e l},(Yz C k id o) j=some (.atp t v e l)->j≠k/\C j=some (.atp t v e l):=fun{j t v e l} g=>by
  by_cases b:j=k
  grind
  exact⟨b,(c.1 j b).symm.trans g⟩
 refine⟨⟨⟨fun j ob g=>?_,fun j L i v1 r y v2 e2 N a1 a2 a3 a4=>f.hr.inj j L i v1 r y v2 e2 N (p j a1) (p L a2) (m a3).2 (m a4).2,fun i o' d=>?_,fun j i v1 r y a1 a2=>f.hr.wn j i v1 r y (p j a1) (m a2).2,f.hr.wb,fun i o' d=>?_⟩,fun j pl g=>?_,f.wf,f.lim⟩,⟨.refl _ _,yX2 _,fun _ _ _=>rfl,fun i hi G=>?_,Fu hg hkl rfl c,x,fun i hi d=>?_⟩,c⟩;rw[q]at g;split at g;rename_i r;subst r;cases g;exact⟨.nil,A,rfl⟩;rename_i E;obtain⟨O,q1,P,q2⟩:=hkl.2 j ob g;obtain⟨pl,J,K⟩:=f.hr.ob j O q1;exact⟨pl,(c.1 j E).trans J,q2 c rfl K⟩;by_cases hi:i=id;subst hi;simp only[Yz,zT2]at d;cases d;refine⟨M,D,fun j v e' l a b=>?_,F⟩;obtain⟨b1,b2⟩:=m b;exact b1 (f.hr.inj j k i _ _ _ _ _ _ (p j a) (by rw[hg];simp) b2 u);simp only[Yz,zB2 hi]at d;obtain⟨z1,z2,z3,z4⟩:=f.hr.zr i o' d;exact⟨z1,z2,fun j v e' l a b=>z3 j v e' l (p j a) (m b).2,z4⟩;by_cases hi:i=id;subst hi;exact f.hr.wn k i ver e len (by rw[hg];simp) u;simp only[Yz,zB2 hi]at d;exact f.hr.wz i o' d;by_cases b:j=k;subst b;exact f.dom j _ u;exact f.dom j pl ((c.1 j b).symm.trans g);rcases G with⟨j,v1,r,y,J,K⟩|G;exact .inl ⟨j,v1,r,y,p j J,(m K).2⟩;exact .inr G;by_cases w:i=id;subst w;exact .inr (.inl ⟨k,ver,e,len,by rw[hg];simp,u⟩);simp only[Yz,zB2 w]at d;exact .inl d
inductive Ld (w:Nat->Option (Nat×Nat×Nat)) (id0:Nat):Nat->Prop
 |root:Ld w id0 id0
 |step {i:Nat} {sl:Nat×Nat×Nat} (h:w i=some sl) (hd:Ld w id0 sl.1):Ld w id0 i
open Classical in
noncomputable def dzF (C:Cx) (L:Nat->aB AO) (id i:Nat):aB AO:=if Ld C.w id i then(match L i with|some o=>if nbO o=true then some o else none|none=>none)else C.z i
open Classical in
noncomputable def dwF (C:Cx) (id i:Nat):aB (Nat×Nat×Nat):=if Ld C.w id i then none else C.w i
noncomputable def zxd (C:Cx) (L:Nat->aB AO) (k id:Nat):Cx:=⟨fun j=>if j=k then some .nil else C j,dzF C L id,dwF C id⟩
def eG1 {L} {id i} {ty e ver} {els} (hd:Ld C.w id i) (a:L i=some (.arr false ty e ver els)):dzF C L id i=some (.arr false ty e ver els):=by
 unfold dzF;rw[yY2 hd,a];rfl
def Fw {L} {id}:∀{f d} {sl} {t} {x} {y} {nS},xP f t=true->Ld C.w id sl.1->eL L C.w lim nS d sl t x y->RZ (dzF C L id) (f+1) x y
 |_,0,_,_,_,_,_,_,_,h=>h.elim
 |f,d+1,sl,.nd ty e ks,x,y,nS,ht,hD,h=>by
  rcases h with⟨_,h⟩|⟨rows,rfl,h2⟩
  exact RZ.of h
  rcases h2 with⟨rfl,rfl⟩|⟨id',ver,els,rfl,k2,k3,k4,kf,k5,k6,k7⟩
  exact RZ.of .isn
  have c:Ld C.w id id':=.step k2 hD
  refine .inr ⟨e,rows,id',ver,Vl ty,els,rfl,rfl,eG1 c k5,k6,fun i r r' a b=>⟨(k7 i r r' a b).1,fun j k l a1 b1=>?_⟩⟩
  have:=(k7 i r r' a b).2 j k l a1 b1
  cases hk:eZ ks j with
  |none=>rw[hk]at this;exact RZ.of this
  |some t=>
   rw[hk]at this
   obtain⟨g,rfl,hg⟩:=yH ht hk
   exact Fw hg c this
def xY1 (q:cM C n h lim s) {k id ver e len ty e2 c ty2 e3} {rows} (hg:aG h k=some (.tr (.nd ty e2 [(c,.nd ty2 e3 [])]) rows [])) (o:C k=some (.atp id ver e len)):ZT (dzF C (Sim.look s.h) id) c e2 rows (.sl e id ver 0 len none):=by
 obtain⟨m,u,rfl,rfl,t,els,d,p,l,hr⟩:=kZ q hg o;refine .inr ⟨id,ver,ty,els,rfl,eG1 .root p,l,fun i r r' a b=>⟨(hr i r r' a b).1,fun j x y c1 c2=>?_⟩⟩;have:=(hr i r r' a b).2 j x y c1 c2;unfold TC at this;by_cases g:j=c;rw[yY2 g];have hk:eZ [(c,TD.nd ty2 e3 [])] j=some (.nd ty2 e3 []):=by subst g;simp[eZ]
 rw[hk]at this;rcases this with⟨⟨x,v⟩,_⟩|⟨_,this⟩
 cases v;exact Fw (f:=0) (by rfl) .root this;rw[zB2 g];have hk:eZ [(c,TD.nd ty2 e3 [])] j=none:=by simp[eZ,aW,Ne.symm g]
 rw[hk]at this;exact this
def xZ1 (q:cM C n h lim s) {k id ver e len ty e2} {ks} {rows} {h1} (hg:aG h k=some (.tr (.nd ty e2 ks) rows [])) (K:C k=some (.atp id ver e len)) (ht:xP 4 (.nd ty e2 ks)=true) (hkl:tQ k h h1):
  cM (zxd C (Sim.look s.h) k id) n (cC h1 k (.lst 0 0 true [])) lim s/\Fr C h s (zxd C (Sim.look s.h) k id) (cC h1 k (.lst 0 0 true [])) s/\kA k C (zxd C (Sim.look s.h) k id)/\RV (zxd C (Sim.look s.h) k id) (.zs 5 e2 rows) (.sl e id ver 0 len none):=by
 obtain⟨b5,Z,rfl,rfl,b6,els,d,hL,a0,hr⟩:=kZ q hg K;have G:aG h k≠none:=by rw[hg];simp
 have b4:∀i,Ld C.w id i->C.z i=none:=fun i hd=>by
  cases m:C.z i with
  |none=>rfl
  |some o'=>
   cases hd with
   |root=>exact absurd K ((q.hr.zr _ o' m).2.2.1 k ver e rows.length G)
   |step h1 h2=>rw[q.hr.wz i o' m]at h1;cases h1
 have P:∀{i j v e' l},Ld C.w id i->aG h j≠none->C j=some (.atp i v e' l)->j=k:=fun{i j v e' l} hd p M=>by
  cases hd with
  |root=>exact q.hr.inj j k id _ _ _ _ _ _ p G M K
  |step h1 h2=>rw[q.hr.wn j i _ _ _ p M]at h1;cases h1
 have b0:∀{i},Ld C.w id i->i<s.n:=fun{i} hd=>by
  cases hd with
  |root=>exact Z
  |step h1 h2=>exact(q.hr.wb i _ h1).1
 have R:∀{i},Ld C.w id i->Sz C h i:=fun{i} hd=>by
  cases hd with
  |root=>exact .inl ⟨k,ver,e,rows.length,G,K⟩
  |step h1 h2=>exact .inr (by rw[h1];simp)
 have N:∀o sl,C.w o=some sl->¬Ld C.w id sl.1->¬Ld C.w id o:=fun o sl E hn hd=>by
  cases hd with
  |root=>rw[q.hr.wn k id _ _ _ G K]at E;cases E
  |step h1 h2=>rw[E]at h1;cases h1;exact hn h2
 have U:∀i o',C.z i=some o'->dzF C (Sim.look s.h) id i=some o':=fun i o' m=>by
  unfold dzF;rw[zB2 (fun hd=>by rw[b4 i hd]at m;cases m)];exact m
 have J:∀{i o'},dzF C (Sim.look s.h) id i=some o'->(Ld C.w id i/\Sim.look s.h i=some o'/\nbO o'=true)\/(¬Ld C.w id i/\C.z i=some o'):=fun{i o'} m=>by
  unfold dzF at m;split at m;rename_i hd;split at m;rename_i o X;split at m;rename_i hb;cases m;exact .inl ⟨hd,X,hb⟩;cases m;cases m;rename_i hd;exact .inr ⟨hd,m⟩
 have S:∀{i sl},dwF C id i=some sl->¬Ld C.w id i/\C.w i=some sl:=fun{i sl} hw=>by
  unfold dwF at hw;split at hw;cases hw;rename_i hd;exact⟨hd,hw⟩
 have T:∀{i},¬Ld C.w id i->dwF C id i=C.w i:=fun hd=>zB2 hd;have c:kA k C (zxd C (Sim.look s.h) k id):=⟨fun j p=>zB2 p,U⟩
 have L:(zxd C (Sim.look s.h) k id) k=some .nil:=yY2 rfl
 have Y:(aG h1 k).isSome=true:=by
  cases hc:aG h1 k with
  |none=>rw[(hkl.1 k).1 hc]at hg;cases hg
  |some o=>rfl
 have D:∀j,aG (cC h1 k (.lst 0 0 true [])) j=if j=k then some (.lst 0 0 true [])else aG h1 j:=fun j=>by
  rw[dI];simp[Y]
 have A:∀j,aG (cC h1 k (.lst 0 0 true [])) j≠none->aG h j≠none:=fun j p=>by
  rw[D]at p;split at p;rename_i F;subst F;rw[hg];simp;exact fun hc=>p ((hkl.1 j).2 hc)
 have u:∀{j H v e l},(zxd C (Sim.look s.h) k id) j=some (.atp H v e l)->j≠k/\C j=some (.atp H v e l):=fun{j H v e l} p=>by
  by_cases b:j=k;subst b;rw[L]at p;cases p;exact⟨b,(c.1 j b).symm.trans p⟩
 refine⟨⟨⟨fun j ob p=>?_,fun j j' i v1 F V v2 e2 l2 a1 a2 a3 a4=>q.hr.inj j j' i v1 F V v2 e2 l2 (A j a1) (A j' a2) (u a3).2 (u a4).2,fun i o' m=>?_,fun j i v1 F V a1 a2=>?_,fun i sl hw=>q.hr.wb i sl (S hw).2,fun i o' m=>?_⟩,fun j pl p=>?_,q.wf,q.lim⟩,⟨.refl _ _,yX2 _,fun _ _ _=>rfl,fun i hi E=>?_,Fu hg hkl rfl c,U,fun i hi m=>?_⟩,c,?_⟩;rw[D]at p;split at p;rename_i F;subst F;cases p;exact⟨.nil,L,rfl⟩;rename_i O;obtain⟨o0,q1,qb,q2⟩:=hkl.2 j ob p;obtain⟨pl,W,k2⟩:=q.hr.ob j o0 q1;refine⟨pl,(c.1 j O).trans W,?_⟩;have k3:=q2 (C:=C) (C':=⟨(zxd C (Sim.look s.h) k id).f,(zxd C (Sim.look s.h) k id).z,C.w⟩) ⟨c.1,c.2⟩ rfl k2;refine fI.monoD (C:=⟨(zxd C (Sim.look s.h) k id).f,(zxd C (Sim.look s.h) k id).z,C.w⟩) (C':=zxd C (Sim.look s.h) k id) (yX2 _) ⟨fun _ _ h=>h,fun _ _ h=>h⟩ (B:=Ld C.w id) N (fun o sl E hn=>⟨(T (N o sl E hn)).trans E,rfl⟩) (fun H v e' l hp hd=>?_) (fun _ _ _ _ _=>rfl) k3;subst hp;exact O (P hd (by rw[q1];simp) W);rcases J m with⟨hd,h2,h3⟩|⟨hd,m⟩
 refine⟨h2,b0 hd,fun j v e' l a b=>?_,h3⟩;obtain⟨b1,b2⟩:=u b;exact b1 (P hd (A j a) b2);obtain⟨z1,z2,z3,z4⟩:=q.hr.zr i o' m;exact⟨z1,z2,fun j v e' l a b=>z3 j v e' l (A j a) (u b).2,z4⟩;have h2:=q.hr.wn j i v1 F V (A j a1) (u a2).2;show dwF C id i=none
 unfold dwF;split;rfl;exact h2;show dwF C id i=none
 rcases J m with⟨hd,_⟩|⟨hd,m⟩
 exact yY2 hd;rw[T hd];exact q.hr.wz i o' m;by_cases b:j=k;subst b;exact q.dom j _ K;exact q.dom j pl ((c.1 j b).symm.trans p);rcases E with⟨j,v1,F,V,W,k2⟩|E;exact .inl ⟨j,v1,F,V,A j W,(u k2).2⟩;cases hw:dwF C id i with
 |none=>exact absurd hw E
 |some sl=>exact .inr (by rw[(S hw).2];simp)
 cases hzz:dzF C (Sim.look s.h) id i with
 |none=>exact absurd hzz m
 |some o'=>
  rcases J hzz with⟨hd,_⟩|⟨_,hz2⟩
  exact .inr (R hd);exact .inl (by rw[hz2];simp)
 refine .zs (.inr ⟨e,rows,id,ver,ty,els,rfl,rfl,eG1 .root hL,a0,fun i r r' a b=>⟨(hr i r r' a b).1,fun j x y c1 c2=>?_⟩⟩);have:=(hr i r r' a b).2 j x y c1 c2;unfold TC at this;cases hk:eZ ks j with
 |none=>rw[hk]at this;exact RZ.of this
 |some t=>
  rw[hk]at this;rcases this with⟨⟨x,hx⟩,_⟩|⟨_,this⟩
  cases hx;obtain⟨g,b7,hg⟩:=yH ht hk;obtain rfl:g=3:=by omega
  exact Fw hg .root this
def kN1 (p:cM C n h lim s) {e:eQ} {t:aA AV} (he:dQ C e t) {m:Bool} {H U:PV} {G yd:AV} {j:aB Nat} {K:eQ->aJ->aB R} {r:R} (Y:eH e d=some U) (hd:t[d]? =some yd) (a0:RV C U yd)
  (hv:Ff H=some (m,k)) (hy:RV C H G) (Z:(j=none/\yd=G)\/∃i cs',j=some i/\yd=.agg cs'/\cs'[i]? =some G) (hk:fzK e h d m k j K=some r):
  ∃C' e' h',K e' h'=some r/\cM C' n h' lim s/\dQ C' e' t/\Fr C h s C' h' s:=by
 unfold fzK at hk;rw[gH,yR2]at hk;obtain⟨ob,hg,hk⟩:=hk;cases hf:Im m ob with
 |none=>rw[hf]at hk;cases hk
 |some x=>
 rw[hf]at hk;simp only at hk;obtain⟨e2,hk,L⟩:=jX _ _ _ hk;obtain⟨h2,hk,g⟩:=kT _ _ _ hk;have hk:=dB _ _ _ _ _ hk
 have A:∃C',cM C' n (cC h2 k (.lst 0 0 true [])) lim s/\Fr C h s C' (cC h2 k (.lst 0 0 true [])) s/\kA k C C'/\RV C' x G:=by
  by_cases E:∃t rows hs,ob=.tr t rows hs
  .obtain ⟨⟨ty,T,ks⟩,rows,hs,rfl⟩:=E
   cases m with
   |true=>cases hf
   |false=>
   cases hs with
   |cons _ _=>
    unfold Im at hf;split at hf
    all_goals first|(rename_i l;cases l;done)|(cases hf;done)
   |nil=>
   have O:H=.own k:=by
    cases H with
    |own k'=>cases hv;rfl
    |_=>cases hv
   subst O;unfold Im at hf;split at hf
   .rename_i l;cases l
   .rename_i l;cases l
   .rename_i S B c1 ty2 e2 y l
    cases l;cases hf;rcases fA hy with⟨id,ver,V,len,b,rfl⟩|⟨b,rfl⟩
    .obtain ⟨c,f,q,F⟩:=xZ1 p hg b (by rfl) g
     exact⟨_,c,f,q,.zt (xY1 p hg b)⟩
    .have:=(qB p hg b).1
     subst this;obtain⟨c,f⟩:=Lc (ty2:=0) (e2:=0) (g2:=true) p hg b g rfl;exact⟨C,c,f,kA.self,.zt (.inl ⟨rfl,rfl⟩)⟩
   .rename_i S B b0 y _ l
    cases l;cases ht:xP 4 (.nd ty T ks)with
    |false=>rw[ht]at hf;cases hf
    |true=>
    rw[ht,zE2]at hf;cases hf;rcases fA hy with⟨id,ver,V,len,b,rfl⟩|⟨b,rfl⟩
    .obtain ⟨c,f,q,F⟩:=xZ1 p hg b ht g
     exact⟨_,c,f,q,F⟩
    .have:=(qB p hg b).1
     subst this;obtain⟨c,f⟩:=Lc (ty2:=0) (e2:=0) (g2:=true) p hg b g rfl;exact⟨C,c,f,kA.self,.zs (RZ.of .isn)⟩
   .rename_i l;cases l
   .cases hf
  rcases eF1 p hv hg hf (fun t rows hs he=>E ⟨t,rows,hs,he⟩) hy with⟨id,ver,T,len,o,b,X,M,P⟩|⟨b,P⟩
  .obtain ⟨c,f,q⟩:=iO2 p hg b X M g
   exact⟨_,c,f,q,P _ _ q.2 (by simp[Yz])⟩
  .obtain ⟨c,f⟩:=Lc (ty2:=0) (e2:=0) (g2:=true) p hg b g rfl
   exact⟨C,c,f,kA.self,P C⟩
 obtain⟨C',c,f,q,F⟩:=A
 have D:dQ C' e2 t:=fun i w hw=>by
  obtain⟨v,q1,q2⟩:=L i w hw;obtain⟨z,p1,p2⟩:=he i v q1;exact⟨z,p1,q2 q p2⟩
 have Hh:∀{v},RV C' v yd->dQ C' ((d,v)::edel e2 [d]) t:=fun{v} hv i w hw=>by
  simp only[eH]at hw;split at hw
  .rename_i B
   subst B;cases hw;exact⟨yd,hd,hv⟩
  .obtain ⟨z,p1,p2,_⟩:=D.edel [d] i w hw
   exact⟨z,p1,p2⟩
 rcases Z with⟨rfl,rfl⟩|⟨i,cs',rfl,rfl,hi⟩
 .simp only[eI]at hk
  exact⟨C',_,_,hk,c,Hh F,f⟩
 .simp only[iO,yR2]at hk
  obtain⟨v2,N,hk⟩:=hk;cases v2 with
  |agg cs=>
   obtain⟨q1,q2⟩:=jC _ _ _ _ _ hk;simp only[eI]at q2;obtain⟨z,p1,p2⟩:=D d _ N;rw[hd]at p1;cases p1;obtain⟨cs2,J,hl⟩:=mD p2;cases J;refine⟨C',_,_,q2,c,Hh ?_,f⟩;have u:=hl.set F i
   have B:cs'.set i G=cs':=by
    apply cK3;intro a;rw[zS2];split
    .rename_i h;subst h
     have W:=(yT2.1 hi).1;rw[yY2 W,hi]
    .rfl
   rw[B]at u;exact .agg u.1 u.2
  |_=>exact aD hk
end
end Go.P
namespace Go.P
open Go.Sim (AV AO Hp fQ upd St IC IX Ex gC CK Wf Out doOp jW exec Foot wanted put)
variable {lim n:Nat}
def eH1 {x} (h:okC x=true):RC false x (eV x):=by
 unfold okC at h;split at h;exact .v _;exact .isn;exact .fn rfl rfl (fun j x y h=>by simp at h) (fun j x y h=>by simp at h);rename_i cs;refine .agg (by simp) (fun j x y a hy=>?_);simp only[aJ3,yV2]at hy;obtain⟨b,h1,rfl⟩:=hy;rw[a]at h1;cases h1;have:=yW2.1 h x (zC2 a);cases x<;>simp[isV]at this;exact .v _;cases h
def Mu (N:Nat):PX->Bool
 |.t i=>Nat.blt i N
 |.c x=>okC x
def jL (N:Nat) (e:aA Nat) (a:Bool):aA Nat->jJ->Bool
 |_,.nil=>true
 |ds,.op d _ xs _ r=>Nat.blt d N&& !vB d e&&xs.all (Mu N)&&jL N e a (d::ds) r
 |ds,.sto _ xs _ r=>xs.all (Mu N)&&jL N e a ds r
 |ds,.ifx d c _ b x _ r=>Nat.blt d N&& !vB d e&&Mu N x&&(!a||vB c ds)&&jL N (c::e) true [] b&&jL N e a (d::ds) r
 |ds,.ifn d c _ b x _ r=>Nat.blt d N&& !vB d e&&Mu N x&&(!a||vB c ds)&&jL N (c::e) true [] b&&jL N e a (d::ds) r
 |ds,.mkfl d _ _ xs _ r=>Nat.blt d N&& !vB d e&&xs.all (Mu N)&&jL N e a (d::ds) r
 |ds,.lax _ _ r=>jL N e a ds r
 |ds,.own _ _ _ _ r=>jL N e a ds r
 |ds,.ownc _ _ _ _ _ r=>jL N e a ds r
 |ds,.laxc _ _ _ r=>jL N e a ds r
 |ds,.fz _ _ r=>jL N e a ds r
 |ds,.laxm _ _ r=>jL N e a ds r
 |ds,.opn d _ x _ _ r=>Nat.blt d N&& !vB d e&&[x].all (Mu N)&&jL N e a (d::ds) r
 |ds,.bst d _ _ _ _ xs _ r=>Nat.blt d N&& !vB d e&&xs.all (Mu N)&&jL N e a (d::ds) r
 |ds,.gc _ r=>jL N e a ds r
 |ds,.clr d _ _ x y _ r=>Nat.blt d N&& !vB d e&&[x,y].all (Mu N)&&jL N e a (d::ds) r
 |ds,.tre _ _ _ r=>jL N e a ds r
 |ds,.up _ r=>jL N e a ds r
section
variable {R:Type} {C:Cx} {N:Nat} {h:aJ} {s:Hp} {T:jW} {O:zE} {NF:FuncId->Bool} {dr:Nat} {e:eQ} {t:List AV}
def kU (he:dQ C e t):∀{xs} {vs},xs.all (Mu N)=true->evs e xs=some vs->∃ys,Sim.evs t (xs.map eX)=some ys/\LR (RV C) vs ys
 |[],vs,_,h=>by
  simp only[evs,yZ2]at h
  subst h
  exact⟨[],rfl,.nil⟩
 |.t i::xs,vs,ho,h=>by
  simp only[evs,yR2,yZ2]at h
  obtain⟨v,hv,f,a,rfl⟩:=h
  obtain⟨y,h1,h2⟩:=he i v hv
  obtain⟨ys,b,d⟩:=kU he (xs:=xs) (by simp only[aR3,yS2]at ho;exact ho.2) a
  exact⟨y::ys,by simp[Sim.evs,eX,IX.ev,h1,b],.cons h2 d⟩
 |.c x::xs,vs,ho,h=>by
  simp only[evs,yR2,yZ2]at h
  obtain⟨f,a,rfl⟩:=h
  simp only[aR3,yS2]at ho
  obtain⟨ys,b,d⟩:=kU he (xs:=xs) ho.2 a
  exact⟨eV x::ys,by simp[Sim.evs,eX,IX.ev,b],.cons (.cl (eH1 ho.1)) d⟩
def Ro (g:aB (Nat×Bool)) (t:aA AV):Prop:=match g with
 |none=>True
 |some (c,w)=>t[c]? =some (.v (.bool w))
def Ro.wanted {g} {t} (h:Ro g t):wanted t g=true:=by
 cases g with
 |none=>rfl
 |some p=>obtain⟨c,w⟩:=p;simp only[Ro]at h;simp[Sim.wanted,h]
def GIn (g:aB (Nat×Bool)) (a:aA Nat):Prop:=∀c w,g=some (c,w)->c∈a
def Ro.set {g} {t} {gs} {d} {y} (h:Ro g t) (hg:GIn g gs) (hd:d∉gs):Ro g (t.set d y):=by
 cases g with
 |none=>trivial
 |some p=>
  obtain⟨c,w⟩:=p;simp only[Ro]at h ⊢;rw[zI2 (fun e=>hd (by rw[e];exact hg c w rfl))];exact h
structure Mx (s s':Hp):Prop where
 sk:Sk s.h s'.h s.n
 n:s.n<=s'.n
 wf:Wf s'.h s'.n
 look:∀id,id<s.n->Sim.look s'.h id=Sim.look s.h id
def Mx.refl (hw:Wf s.h s.n):Mx s s:=⟨.refl _ _,yX2 _,hw,fun _ _=>rfl⟩
def Mx.trans {s' s''} (a:Mx s s') (b:Mx s' s''):Mx s s'':=⟨a.sk.trans b.sk a.n,zX2 a.n b.n,b.wf,fun id c=>(b.look id (aE3 c a.n)).trans (a.look id c)⟩
def cM.grow {s'} (a:cM C n h lim s) (b:Mx s s'):cM C n h lim s':=by
 refine⟨⟨fun k po hk=>?_,a.hr.inj,fun id o c=>?_,a.hr.wn,fun id sl hw=>⟨aE3 (a.hr.wb id sl hw).1 b.n,aE3 (a.hr.wb id sl hw).2 b.n⟩,a.hr.wz⟩,a.dom,b.wf,zX2 a.lim b.n⟩;obtain⟨pl,h1,h2⟩:=a.hr.ob k po hk;refine⟨pl,h1,h2.mono b.n (.refl C) (fun id v e l hp=>?_) (fun o sl hw=>⟨hw,b.look o (a.hr.wb o sl hw).1⟩)⟩;subst hp;exact b.look id h2.lt.2;obtain⟨z1,z2,z3,z4⟩:=a.hr.zr id o c;exact⟨(b.look id z2).trans z1,aE3 z2 b.n,z3,z4⟩
def Mx.fr {s'} (b:Mx s s'):Fr C h s C h s':=⟨b.sk,b.n,fun id a _=>b.look id a,fun _ _ h=>h,fun k o h=>⟨o,h,fun hb=>⟨hb,rfl⟩⟩,fun _ _ h=>h,fun _ _ h=>.inl h⟩
def cW:∀ops a i,i∈cG ops a↔i∈cG ops []\/i∈a
 |.nil,a,i=>by simp[cG]
 |.op d k xs kl r,a,i=>by
  simp only[cG,zF2,cW r a i,or_assoc]
 |.sto k xs kl r,a,i=>by simp only[cG,cW r a i]
 |.ifx d c w b x kl r,a,i=>by
  simp only[cG,zF2,cW b (cG r a) i,cW b (cG r []) i,cW r a i]
  constructor
  rintro(h|h|h|h)<;>simp[h]
  rintro((h|h|h)|h)<;>simp[h]
 |.ifn d c w b x kl r,a,i=>by
  simp only[cG,zF2,cW b (cG r a) i,cW b (cG r []) i,cW r a i]
  constructor
  rintro(h|h|h|h)<;>simp[h]
  rintro((h|h|h)|h)<;>simp[h]
 |.mkfl d ty zero xs kl r,a,i=>by
  simp only[cG,zF2,cW r a i,or_assoc]
 |.lax d es r,a,i=>by simp only[cG,cW r a i]
 |.own d ty e g r,a,i=>by simp only[cG,cW r a i]
 |.ownc d j ty e g r,a,i=>by simp only[cG,cW r a i]
 |.laxc d j e r,a,i=>by simp only[cG,cW r a i]
 |.fz d j r,a,i=>by simp only[cG,cW r a i]
 |.laxm d j r,a,i=>by simp only[cG,cW r a i]
 |.opn d m x kl js r,a,i=>by
  simp only[cG,zF2,cW r a i,or_assoc]
 |.bst d ty l zero ps xs kl r,a,i=>by
  simp only[cG,zF2,cW r a i,or_assoc]
 |.gc _ r,a,i=>by simp only[cG,cW r a i]
 |.clr d es zero x y kl r,a,i=>by
  simp only[cG,zF2,cW r a i,or_assoc]
 |.tre d j ty r,a,i=>by simp only[cG,cW r a i]
 |.up m r,a,i=>by simp only[cG,cW r a i]
def eO:∀ops {f h} {a},jL N f a h ops=true->∀i∈cG ops [],i∉f
 |.nil,f,h,a,_,i,hi=>by simp[cG]at hi
 |.op d k xs kl r,f,h,a,ho,i,hi=>by
  simp only[jL,yS2,zK2,gN]at ho
  obtain⟨⟨⟨h1,h2⟩,o⟩,n⟩:=ho
  simp only[cG,zF2]at hi
  rcases hi with rfl|hi
  simpa using h2
  exact eO r n i hi
 |.sto k xs kl r,f,h,a,ho,i,hi=>by
  simp only[jL,yS2]at ho
  exact eO r ho.2 i hi
 |.ifx d c w b x kl r,f,h,a,ho,i,hi=>by
  simp only[jL,yS2,zK2,gN]at ho
  obtain⟨⟨⟨⟨⟨h1,h2⟩,o⟩,n⟩,p⟩,q⟩:=ho
  simp only[cG,zF2,cW b (cG r []) i]at hi
  rcases hi with rfl|hi|hi
  simpa using h2
  exact fun hg=>eO b p i hi (by simp[hg])
  exact eO r q i hi
 |.ifn d c w b x kl r,f,h,a,ho,i,hi=>by
  simp only[jL,yS2,zK2,gN]at ho
  obtain⟨⟨⟨⟨⟨h1,h2⟩,o⟩,n⟩,p⟩,q⟩:=ho
  simp only[cG,zF2,cW b (cG r []) i]at hi
  rcases hi with rfl|hi|hi
  simpa using h2
  exact fun hg=>eO b p i hi (by simp[hg])
  exact eO r q i hi
 |.mkfl d ty zero xs kl r,f,h,a,ho,i,hi=>by
  simp only[jL,yS2,zK2,gN]at ho
  obtain⟨⟨⟨h1,h2⟩,o⟩,n⟩:=ho
  simp only[cG,zF2]at hi
  rcases hi with rfl|hi
  simpa using h2
  exact eO r n i hi
 |.lax d es r,f,h,a,ho,i,hi=>eO r (by simpa only[jL]using ho) i hi
 |.own d ty e g r,f,h,a,ho,i,hi=>eO r (by simpa only[jL]using ho) i hi
 |.ownc d j ty e g r,f,h,a,ho,i,hi=>eO r (by simpa only[jL]using ho) i hi
 |.laxc d j e r,f,h,a,ho,i,hi=>eO r (by simpa only[jL]using ho) i hi
 |.fz d j r,f,h,a,ho,i,hi=>eO r (by simpa only[jL]using ho) i hi
 |.laxm d j r,f,h,a,ho,i,hi=>eO r (by simpa only[jL]using ho) i hi
 |.opn d m x kl js r,f,h,a,ho,i,hi=>by
  simp only[jL,yS2,zK2,gN]at ho
  obtain⟨⟨⟨h1,h2⟩,o⟩,n⟩:=ho
  simp only[cG,zF2]at hi
  rcases hi with rfl|hi
  simpa using h2
  exact eO r n i hi
 |.bst d ty l zero ps xs kl r,f,h,a,ho,i,hi=>by
  simp only[jL,yS2,zK2,gN]at ho
  obtain⟨⟨⟨h1,h2⟩,o⟩,n⟩:=ho
  simp only[cG,zF2]at hi
  rcases hi with rfl|hi
  simpa using h2
  exact eO r n i hi
 |.clr d es zero x y kl r,f,h,a,ho,i,hi=>by
  simp only[jL,yS2,zK2,gN]at ho
  obtain⟨⟨⟨h1,h2⟩,o⟩,n⟩:=ho
  simp only[cG,zF2]at hi
  rcases hi with rfl|hi
  simpa using h2
  exact eO r n i hi
 |.gc _ r,f,h,a,ho,i,hi=>eO r (by simpa only[jL]using ho) i hi
 |.tre d j ty r,f,h,a,ho,i,hi=>eO r (by simpa only[jL]using ho) i hi
 |.up m r,f,h,a,ho,i,hi=>eO r (by simpa only[jL]using ho) i hi
def kK {g} {gs} {d} {y} (hg:GIn g gs) (hd:d∉gs):wanted (t.set d y) g=wanted t g:=by
 cases g with
 |none=>rfl
 |some p=>
  obtain⟨c,w⟩:=p;simp only[Sim.wanted];rw[zI2 (fun e=>hd (by rw[e];exact hg c w rfl))]
def Bk {g} {t t'} (h:∀c w,g=some (c,w)->t'[c]? =t[c]?):wanted t' g=wanted t g:=by
 cases g with
 |none=>rfl
 |some p=>
  obtain⟨c,w⟩:=p;simp only[Sim.wanted];rw[h c w rfl]
def eT (g:aB (Nat×Bool)):∀(ops:jJ) (f n:aA Nat) (t:aA AV),jL N f true n ops=true->GIn g f->wanted t g=false->
  (∀c∈n,∀b,t[c]? ≠some (.v (.bool b)))->
  ∃fs u,Tr T NF dr lim (oX g ops) {t:=t,s:=s} fs {t:=u,s:=s}/\u.length=t.length/\(∀(i:Nat),i∉cG ops []->u[i]? =t[i]?)/\∀(i:Nat),u[i]? =t[i]? \/u[i]? =some AV.undef
 |.nil,f,n,t,_,_,_,_=>⟨[],t,.nil,rfl,fun _ _=>rfl,fun _=>.inl rfl⟩
 |.op d k xs kl r,f,n,t,ho,hg,hw,hd=>by
  simp only[jL,yS2,zK2,gN]at ho
  obtain⟨⟨⟨h1,h2⟩,L⟩,D⟩:=ho
  have p:d∉f:=by simpa using h2
  have cC:∀i,(t.set d AV.undef)[i]? =t[i]? \/(t.set d AV.undef)[i]? =some AV.undef:=fun i=>by
   by_cases e:d=i
   subst e
   by_cases hl:d<t.length
   exact .inr (by rw[zS2];simp[hl])
   exact .inl (by rw[bG3 (cA3 hl)])
   exact .inl (zI2 e)
  obtain⟨fs,u,A,B,z,h⟩:=eT g r f (d::n) (t.set d AV.undef) D hg (by rw[kK hg p];exact hw) (fun c hc b=>by
   by_cases a:d=c
   subst a
   rw[zS2]
   simp only[zT2]
   split
   intro e;cases e
   intro e;cases e
   rw[zI2 a]
   rcases zF2.1 hc with rfl|hc
   exact absurd rfl a
   exact hd c hc b)
  refine⟨_,u,.skip (o:=⟨some d,k,xs.map eX,g⟩) hw A,by simpa using B,fun i hi=>?_,fun i=>?_⟩
  simp only[cG,zF2,bR3]at hi
  rw[z i hi.2,zI2 (Ne.symm hi.1)]
  rcases h i with h|h
  rw[h];exact cC i
  exact .inr h
 |.ifx d c w b x kl r,f,n,t,ho,hg,hw,hd=>by
  simp only[jL,yS2,zK2,gN,Bool.not_true,Bool.false_or]at ho
  obtain⟨⟨⟨⟨⟨h1,h2⟩,L⟩,D⟩,M⟩,P⟩:=ho
  have p:d∉f:=by simpa using h2
  have H:c∈n:=by simpa using D
  have K:wanted t (some (c,w))=false:=by
   simp only[Sim.wanted];split;rename_i q R;exact absurd R (hd c H q);rfl
  obtain⟨fs,C,A,B,z,h⟩:=eT (some (c,w)) b (c::f) [] t M (fun F w' e=>by cases e;simp) K (fun c hc=>by simp at hc)
  have E:wanted C g=false:=by
   rw[Bk (t:=t) (fun F w' e=>z F (fun hi=>eO b M F hi (by simp[hg F w' e])))];exact hw
  have J:∀c∈n,∀b,C[c]? ≠some (.v (.bool b)):=fun c hc b=>by
   rcases h c with h|h;rw[h];exact hd c hc b;rw[h];intro e;cases e
  have cC:∀i,(C.set d AV.undef)[i]? =C[i]? \/(C.set d AV.undef)[i]? =some AV.undef:=fun i=>by
   by_cases e:d=i;subst e;by_cases hl:d<C.length;exact .inr (by rw[zS2];simp[hl]);exact .inl (by rw[bG3 (cA3 hl)]);exact .inl (zI2 e)
  obtain⟨O,u,q1,q2,q3,q4⟩:=eT g r f (d::n) (C.set d AV.undef) P hg (by rw[kK hg p];exact E) (fun c hc b=>by
   by_cases a:d=c;subst a;rw[zS2];simp only[zT2];split;intro e;cases e;intro e;cases e;rw[zI2 a];rcases zF2.1 hc with rfl|hc;exact absurd rfl a;exact J c hc b)
  refine⟨_,u,A.append (.skip E q1),by simp[q2,B],fun i hi=>?_,fun i=>?_⟩;simp only[cG,zF2,cW b (cG r []) i,bR3]at hi;rw[q3 i hi.2.2,zI2 (Ne.symm hi.1),z i hi.2.1];rcases q4 i with q4|q4;rw[q4];rcases cC i with G|G;rw[G];exact h i;exact .inr G;exact .inr q4
 |.ifn d c w b x kl r,f,n,t,ho,hg,hw,hd=>by
  simp only[jL,yS2,zK2,gN,Bool.not_true,Bool.false_or]at ho;obtain⟨⟨⟨⟨⟨h1,h2⟩,L⟩,D⟩,M⟩,P⟩:=ho;have p:d∉f:=by simpa using h2
  have H:c∈n:=by simpa using D
  have K:wanted t (some (c,w))=false:=by
   simp only[Sim.wanted];split;rename_i q R;exact absurd R (hd c H q);rfl
  obtain⟨fs,C,A,B,z,h⟩:=eT (some (c,w)) b (c::f) [] t M (fun F w' e=>by cases e;simp) K (fun c hc=>by simp at hc)
  have E:wanted C g=false:=by
   rw[Bk (t:=t) (fun F w' e=>z F (fun hi=>eO b M F hi (by simp[hg F w' e])))];exact hw
  have J:∀c∈n,∀b,C[c]? ≠some (.v (.bool b)):=fun c hc b=>by
   rcases h c with h|h;rw[h];exact hd c hc b;rw[h];intro e;cases e
  have cC:∀i,(C.set d AV.undef)[i]? =C[i]? \/(C.set d AV.undef)[i]? =some AV.undef:=fun i=>by
   by_cases e:d=i;subst e;by_cases hl:d<C.length;exact .inr (by rw[zS2];simp[hl]);exact .inl (by rw[bG3 (cA3 hl)]);exact .inl (zI2 e)
  obtain⟨O,u,q1,q2,q3,q4⟩:=eT g r f (d::n) (C.set d AV.undef) P hg (by rw[kK hg p];exact E) (fun c hc b=>by
   by_cases a:d=c;subst a;rw[zS2];simp only[zT2];split;intro e;cases e;intro e;cases e;rw[zI2 a];rcases zF2.1 hc with rfl|hc;exact absurd rfl a;exact J c hc b)
  refine⟨_,u,A.append (.skip E q1),by simp[q2,B],fun i hi=>?_,fun i=>?_⟩;simp only[cG,zF2,cW b (cG r []) i,bR3]at hi;rw[q3 i hi.2.2,zI2 (Ne.symm hi.1),z i hi.2.1];rcases q4 i with q4|q4;rw[q4];rcases cC i with G|G;rw[G];exact h i;exact .inr G;exact .inr q4
 |.mkfl d ty zero xs kl r,f,n,t,ho,hg,hw,hd=>by
  simp only[jL,yS2,zK2,gN]at ho;obtain⟨⟨⟨h1,h2⟩,L⟩,D⟩:=ho;have p:d∉f:=by simpa using h2
  have cC:∀i,(t.set d AV.undef)[i]? =t[i]? \/(t.set d AV.undef)[i]? =some AV.undef:=fun i=>by
   by_cases e:d=i;subst e;by_cases hl:d<t.length;exact .inr (by rw[zS2];simp[hl]);exact .inl (by rw[bG3 (cA3 hl)]);exact .inl (zI2 e)
  obtain⟨fs,u,A,B,z,h⟩:=eT g r f (d::n) (t.set d AV.undef) D hg (by rw[kK hg p];exact hw) (fun c hc b=>by
   by_cases a:d=c;subst a;rw[zS2];simp only[zT2];split;intro e;cases e;intro e;cases e;rw[zI2 a];rcases zF2.1 hc with rfl|hc;exact absurd rfl a;exact hd c hc b)
  refine⟨_,u,.skip (o:=⟨some d,.buildSl ty 1 xs.length zero (List.range xs.length),xs.map eX,g⟩) hw A,by simpa using B,fun i hi=>?_,fun i=>?_⟩;simp only[cG,zF2,bR3]at hi;rw[z i hi.2,zI2 (Ne.symm hi.1)];rcases h i with h|h;rw[h];exact cC i;exact .inr h
 |.sto k xs kl r,f,n,t,ho,hg,hw,hd=>by
  simp only[jL,yS2]at ho;obtain⟨fs,u,A,B,z,h⟩:=eT g r f n t ho.2 hg hw hd;exact⟨_,u,.skip (o:=⟨none,k,xs.map eX,g⟩) hw A,B,z,h⟩
 |.lax d es r,f,n,t,ho,hg,hw,hd=>eT g r f n t (by simpa only[jL]using ho) hg hw hd
 |.own d ty e g' r,f,n,t,ho,hg,hw,hd=>eT g r f n t (by simpa only[jL]using ho) hg hw hd
 |.ownc d j ty e g' r,f,n,t,ho,hg,hw,hd=>eT g r f n t (by simpa only[jL]using ho) hg hw hd
 |.laxc d j e r,f,n,t,ho,hg,hw,hd=>eT g r f n t (by simpa only[jL]using ho) hg hw hd
 |.fz d j r,f,n,t,ho,hg,hw,hd=>eT g r f n t (by simpa only[jL]using ho) hg hw hd
 |.laxm d j r,f,n,t,ho,hg,hw,hd=>eT g r f n t (by simpa only[jL]using ho) hg hw hd
 |.opn d m x kl js r,f,n,t,ho,hg,hw,hd=>by
  simp only[jL,yS2,zK2,gN]at ho;obtain⟨⟨⟨h1,h2⟩,L⟩,D⟩:=ho;have p:d∉f:=by simpa using h2
  have cC:∀i,(t.set d AV.undef)[i]? =t[i]? \/(t.set d AV.undef)[i]? =some AV.undef:=fun i=>by
   by_cases e:d=i;subst e;by_cases hl:d<t.length;exact .inr (by rw[zS2];simp[hl]);exact .inl (by rw[bG3 (cA3 hl)]);exact .inl (zI2 e)
  obtain⟨fs,u,A,B,z,h⟩:=eT g r f (d::n) (t.set d AV.undef) D hg (by rw[kK hg p];exact hw) (fun c hc b=>by
   by_cases a:d=c;subst a;rw[zS2];simp only[zT2];split;intro e;cases e;intro e;cases e;rw[zI2 a];rcases zF2.1 hc with rfl|hc;exact absurd rfl a;exact hd c hc b)
  refine⟨_,u,.skip (o:=⟨some d,(match m with|none=>.loadS|some m=>.loadA m),[eX x],g⟩) hw A,by simpa using B,fun i hi=>?_,fun i=>?_⟩;simp only[cG,zF2,bR3]at hi;rw[z i hi.2,zI2 (Ne.symm hi.1)];rcases h i with h|h;rw[h];exact cC i;exact .inr h
 |.bst d ty l zero ps xs kl r,f,n,t,ho,hg,hw,hd=>by
  simp only[jL,yS2,zK2,gN]at ho;obtain⟨⟨⟨h1,h2⟩,L⟩,D⟩:=ho;have p:d∉f:=by simpa using h2
  have cC:∀i,(t.set d AV.undef)[i]? =t[i]? \/(t.set d AV.undef)[i]? =some AV.undef:=fun i=>by
   by_cases e:d=i;subst e;by_cases hl:d<t.length;exact .inr (by rw[zS2];simp[hl]);exact .inl (by rw[bG3 (cA3 hl)]);exact .inl (zI2 e)
  obtain⟨fs,u,A,B,z,h⟩:=eT g r f (d::n) (t.set d AV.undef) D hg (by rw[kK hg p];exact hw) (fun c hc b=>by
   by_cases a:d=c;subst a;rw[zS2];simp only[zT2];split;intro e;cases e;intro e;cases e;rw[zI2 a];rcases zF2.1 hc with rfl|hc;exact absurd rfl a;exact hd c hc b)
  refine⟨_,u,.skip (o:=⟨some d,(match ty with|.nd ty e _=>.buildSl ty e l zero ps),xs.map eX,g⟩) hw A,by simpa using B,fun i hi=>?_,fun i=>?_⟩;simp only[cG,zF2,bR3]at hi;rw[z i hi.2,zI2 (Ne.symm hi.1)];rcases h i with h|h;rw[h];exact cC i;exact .inr h
 |.clr d es zero x y kl r,f,n,t,ho,hg,hw,hd=>by
  simp only[jL,yS2,zK2,gN]at ho;obtain⟨⟨⟨h1,h2⟩,L⟩,D⟩:=ho;have p:d∉f:=by simpa using h2
  have cC:∀i,(t.set d AV.undef)[i]? =t[i]? \/(t.set d AV.undef)[i]? =some AV.undef:=fun i=>by
   by_cases e:d=i;subst e;by_cases hl:d<t.length;exact .inr (by rw[zS2];simp[hl]);exact .inl (by rw[bG3 (cA3 hl)]);exact .inl (zI2 e)
  obtain⟨fs,u,A,B,z,h⟩:=eT g r f (d::n) (t.set d AV.undef) D hg (by rw[kK hg p];exact hw) (fun c hc b=>by
   by_cases a:d=c;subst a;rw[zS2];simp only[zT2];split;intro e;cases e;intro e;cases e;rw[zI2 a];rcases zF2.1 hc with rfl|hc;exact absurd rfl a;exact hd c hc b)
  refine⟨_,u,.skip (o:=⟨some d,.slc es true false false,[eX x,eX y],g⟩) hw (.skip (o:=⟨none,.clear es zero,[.t d],g⟩) (by show wanted (t.set d AV.undef) g=false;rw[kK hg p];exact hw) A),by simpa using B,fun i hi=>?_,fun i=>?_⟩;simp only[cG,zF2,bR3]at hi;rw[z i hi.2,zI2 (Ne.symm hi.1)];rcases h i with h|h;rw[h];exact cC i;exact .inr h
 |.gc _ r,f,n,t,ho,hg,hw,hd=>eT g r f n t (by simpa only[jL]using ho) hg hw hd
 |.tre d j ty r,f,n,t,ho,hg,hw,hd=>eT g r f n t (by simpa only[jL]using ho) hg hw hd
 |.up m r,f,n,t,ho,hg,hw,hd=>eT g r f n t (by simpa only[jL]using ho) hg hw hd
end
end Go.P
namespace Go.P
open Go.Sim (AV AO Hp fQ upd St IC IX Ex gC CK Wf Out doOp jW exec Foot wanted put)
variable {lim n:Nat}
section
variable {R:Type} {T:jW} {O:zE} {X:NX} {dr:Nat}
def Wj (H:∀f xs v,O f xs=some v->rX T f xs v) {C:Cx} {h:aJ} {s:Hp} {k:gC} {as:aA PV} {ys:aA AV} {K:PV->aJ->Nat->aB R} {r:R}
  (j:cM C n h lim s) (z:LR (RV C) as ys) (hk:opK O X k as h n K=some r):
  ∃v h' n' C' y s',K v h' n'=some r/\RV C' v y/\cM C' n' h' lim s'/\C.le C'/\n<=n'/\Fr C h s C' h' s'/\(Pa k=false->∀id,id<s.n->Sim.look s'.h id=Sim.look s.h id)/\
   ∀o os t fs τ,o.k=k->wanted t o.guard=true->Sim.evs t o.xs=some ys->Tr T X.is dr lim os {t:=put t o.dst y,s:=s'} fs τ->∃f,Tr T X.is dr lim (o::os) {t:=t,s:=s} (f::fs) τ:=by
 have call:∀f xs zs k,Bf O f xs h (fun v=>K v h n)=some r->LR (RV C) xs zs->jO k=true->(kR X.is dr k=3\/kR X.is dr k=4)->((∃ifn,T f=some ifn/\ifn.pure=true/\(ifn.frz||zs.all (Sim.closed 4))=true)->Sim.foot T k ys={all:=1,x:=true})->
   (∀d s,Sim.step T (exec T d) lim k ys s=Sim.callF T (exec T d) lim f zs s)->
   ∃v h' n' C' y s',K v h' n'=some r/\RV C' v y/\cM C' n' h' lim s'/\C.le C'/\n<=n'/\Fr C h s C' h' s'/\(Pa k=false->∀id,id<s.n->Sim.look s'.h id=Sim.look s.h id)/\
   ∀o os t fs τ,o.k=k->wanted t o.guard=true->Sim.evs t o.xs=some ys->Tr T X.is dr lim os {t:=put t o.dst y,s:=s'} fs τ->∃f,Tr T X.is dr lim (o::os) {t:=t,s:=s} (f::fs) τ:=by
  intro f xs zs k hk L hc l hf u;obtain⟨v,y,h1,h2,g,D,i⟩:=Pp (lim:=lim) H j hk L;refine⟨v,h,n,C,y,s,h1,.cl h2,j,.refl C,yX2 _,.refl _ _ _,fun _ _ _=>rfl,fun o os t fs τ q hw he w=>⟨{all:=1,x:=true},?_⟩⟩;subst q;exact .call hw he hc l (hf g) ⟨D,fun d hd m=>by rw[u];exact i d hd m⟩ w
 unfold opK at hk;split at hk;rename_i e f;cases hX:X.is f with
 |true=>rw[hX]at hk;exact aD hk
 |false=>
  rw[hX,zP2]at hk;refine call _ _ ys (.callF _) hk z rfl (by simp[kR,hX]) (fun⟨ifn,h1,h2,g⟩=>?_) (fun d s=>rfl);simp only[Sim.foot,h1,h2,g,zT2,bT3]
 rename_i f first cap e
 obtain⟨y,A,rfl,h1,h2⟩:=z.inv_cons;obtain⟨a',b',rfl,g,i⟩:=sM h1;cases hX:X.is f with
 |true=>rw[hX]at hk;exact aD hk
 |false=>
  rw[hX,zP2]at hk;refine call f (first++e++cap) (a'++A++b') .callV hk ((g.append h2).append i) rfl (by simp only[kR];split<;>omega) (fun⟨ifn,M,N,P⟩=>?_) (fun d s=>rfl);simp only[Sim.foot,M,N,P,zT2,bT3]
 rename_i k' e p J;obtain⟨v,h',n',C',out,h1,h2,g,i,B,E,F,G⟩:=Pk j z hk;refine⟨v,h',n',C',out.v,out.apply s,h1,g,i,B,E,F,G,fun o os t fs τ q hw he w=>?_⟩;subst q;refine⟨_,.op hw he ?_ h2 w⟩;cases hk':o.k with
 |callF f=>exact absurd hk' (p f)
 |callV=>
  rw[hk']at hk;unfold fE at hk;rcases e with _|⟨a,_|⟨b,_|⟨c,_|⟨d,t⟩⟩⟩⟩<;>exact aD hk
 |_=>rfl
def Fx {t} {x} {N} (b:t.length=N) (a:Mu N x=true):∃z,(eX x).ev t=some z:=by
 cases x with
 |t i=>
  simp only[Mu,bB3]at a;exact⟨t[i]'(by omega),by simp[eX,IX.ev]⟩
 |c x=>exact⟨eV x,rfl⟩
def Pt {t} {x y z} {a b c} (h1:x.ev t=some a) (h2:y.ev t=some b) (d:z.ev t=some c):Sim.evs t [x,y,z]=some [a,b,c]:=by
 simp[Sim.evs,h1,h2,d]
def Jb {N lim} {gs} {C} {n} {h} {e} {t} {s} {c} {w cb y} {bd} {x} (A:cM C n h lim s) (B:t.length=N) (r:jL N (c::gs) true [] bd=true) (u:Mu N x=true)
  (hc:t[c]? =some (.v (.bool cb)))
  (hy:(bif w then Ms cb (dF.opsB O X bd e h n x) (some false)else Ms cb (some true) (dF.opsB O X bd e h n x))=some y)
  (IH:dF.opsB O X bd e h n x=some y->Ro (some (c,w)) t->∃fs l s',Tr T X.is dr lim (oX (some (c,w)) bd) {t:=t,s:=s} fs {t:=l,s:=s'}/\(eX x).ev l=some (.v (.bool y))/\l.length=N/\(∀i,i∉cG bd []->l[i]? =t[i]?)/\Mx s s'):
  ∃fs a b,Tr T X.is dr lim (oX (some (c,w)) bd) {t:=t,s:=s} fs {t:=a,s:=b}/\a.length=N/\(∀i,i∉cG bd []->a[i]? =t[i]?)/\Mx s b/\
     ∃zs,Sim.evs a (if w then[.t c,eX x,.c (.v (.bool false))]else[.t c,.c (.v (.bool true)),eX x])=some zs/\doOp (Sim.look b.h) lim b.n .pick zs=some {v:=.v (.bool y)}:=by
 have j:∀a:aA AV,(∀i,i∉cG bd []->a[i]? =t[i]?)->a[c]? =some (.v (.bool cb)):=fun a o=>by
  rw[o c (fun hi=>eO bd r c hi (by simp))];exact hc
 have skip:cb≠w->∃fs a b,Tr T X.is dr lim (oX (some (c,w)) bd) {t:=t,s:=s} fs {t:=a,s:=b}/\a.length=N/\(∀i,i∉cG bd []->a[i]? =t[i]?)/\Mx s b:=by
  intro m;obtain⟨fs,a,k,d,f,g⟩:=eT (T:=T) (NF:=X.is) (dr:=dr) (lim:=lim) (s:=s) (some (c,w)) bd (c::gs) [] t r (fun D w' e=>by cases e;simp) (by simp[Sim.wanted,hc,m]) (fun c hc=>by simp at hc);exact⟨fs,a,s,k,d.trans B,f,.refl A.wf⟩
 cases w with
 |true=>
  rw[zE2,rQ]at hy;cases cb with
  |true=>
   rw[yY2 rfl]at hy;obtain⟨fs,a,b,k,d,f,g,q⟩:=IH hy hc;exact⟨fs,a,b,k,f,g,q,[.v (.bool true),.v (.bool y),.v (.bool false)],Pt (j a g) d rfl,rfl⟩
  |false=>
   simp only[zG2,aL3,yZ2]at hy;subst hy;obtain⟨fs,a,b,k,d,f,g⟩:=skip (by simp);obtain⟨z,p⟩:=Fx d u;exact⟨fs,a,b,k,d,f,g,[.v (.bool false),z,.v (.bool false)],Pt (j a f) p rfl,rfl⟩
 |false=>
  rw[zP2,rQ]at hy;cases cb with
  |true=>
   simp only[zT2,yZ2]at hy;subst hy;obtain⟨fs,a,b,k,d,f,g⟩:=skip (by simp);obtain⟨z,p⟩:=Fx d u;exact⟨fs,a,b,k,d,f,g,[.v (.bool true),.v (.bool true),z],Pt (j a f) rfl p,rfl⟩
  |false=>
   simp only[zG2,aL3]at hy;obtain⟨fs,a,b,k,d,f,g,q⟩:=IH hy hc;exact⟨fs,a,b,k,f,g,q,[.v (.bool false),.v (.bool true),.v (.bool y)],Pt (j a g) rfl d,rfl⟩
def yI (F:∀f xs v,O f xs=some v->rX T f xs v) {N lim:Nat}:∀ops a l g C n h e t s x b,
  dF.opsB O X ops e h n x=some b->dQ C e t->cM C n h lim s->t.length=N->jL N a true l ops=true->Mu N x=true->Ro g t->GIn g a->
  ∃fs m s',Tr T X.is dr lim (oX g ops) {t:=t,s:=s} fs {t:=m,s:=s'}/\(eX x).ev m=some (.v (.bool b))/\m.length=N/\(∀i,i∉cG ops []->m[i]? =t[i]?)/\Mx s s'
 |.nil,a,l,g,C,n,h,e,t,s,x,b,hk,he,hM,hN,ho,hx,hg,hgi=>by
  unfold dF.opsB at hk
  rw[jN,yR2]at hk
  obtain⟨vs,A,hk⟩:=hk
  obtain⟨ys,h1,h2⟩:=kU he (xs:=[x]) (by simpa using hx) A
  split at hk
  cases hk
  obtain⟨y,_,rfl,Z,h4⟩:=h2.inv_cons
  rw[h4.inv_nil]at h1
  rw[gT Z]at h1
  refine⟨[],t,s,.nil,?_,hN,fun _ _=>rfl,.refl hM.wf⟩
  simp only[bQ3,cX3,Sim.evs]at h1
  split at h1
  rename_i ha hb
  cases h1
  exact ha
  cases h1
  exact aD hk
 |.op d k xs kl r,a,l,g,C,n,h,e,t,s,x,b,hk,he,hM,hN,ho,hx,hg,hgi=>by
  simp only[jL,yS2,zK2,gN,bB3]at ho
  obtain⟨⟨⟨o1,S⟩,G⟩,W⟩:=ho
  have q:d∉a:=by simpa using S
  unfold dF.opsB at hk
  rw[jN,yR2]at hk
  obtain⟨vs,A,hk⟩:=hk
  obtain⟨ys,h1,h2⟩:=kU he G A
  cases hst:Pa k with
  |true=>rw[hst]at hk;exact aD hk
  |false=>
   rw[hst,zP2]at hk
   obtain⟨v,h',n',C',y,s',q1,q2,q3,q4,q5,q6,q7,q8⟩:=Wj F hM h2 hk
   rw[eI]at q1
   have hd:d<t.length:=by omega
   have u:dQ C' ((d,v)::edel e (d::kl)) (t.set d y):=.put hd q2 (fun i w hw=>by
    obtain⟨z,p1,p2,p3⟩:=(he.mono q4).edel (d::kl) i w hw
    exact⟨z,p1,p2,fun J=>p3 (by simp[J])⟩)
   obtain⟨fs,m,V,r1,r2,r3,r4,r5⟩:=yI F r a (d::l) g C' n' h' _ (t.set d y) s' x b q1 u q3 (by simpa using hN) W hx (hg.set hgi q) hgi
   obtain⟨f,hf⟩:=q8 ⟨some d,k,xs.map eX,g⟩ _ t fs _ rfl hg.wanted h1 r1
   have P:Mx s s':=⟨q6.sk,q6.n,q3.wf,q7 hst⟩
   refine⟨_,m,V,hf,r2,r3,fun i hi=>?_,P.trans r5⟩
   simp only[cG,zF2,bR3]at hi
   rw[r4 i hi.2,zI2 (Ne.symm hi.1)]
 |.ifx d c w bd x' kl r,a,l,g,C,n,h,e,t,s,x,b,hk,he,hM,hN,ho,hx,hg,hgi=>by
  simp only[jL,yS2,zK2,gN,bB3,Bool.not_true,Bool.false_or]at ho
  obtain⟨⟨⟨⟨⟨o1,S⟩,G⟩,W⟩,U⟩,o6⟩:=ho
  have q:d∉a:=by simpa using S
  unfold dF.opsB at hk
  rw[iO,yR2]at hk
  obtain⟨cv,L,hk⟩:=hk
  split at hk
  rename_i cb
  rw[bJ,yR2]at hk
  obtain⟨y,hy,hk⟩:=hk
  rw[eI]at hk
  obtain⟨cy,B,K⟩:=he c _ L
  rw[gT K]at B
  obtain⟨fs,H,s1,p1,p2,p3,p4,zs,p5,p6⟩:=Jb (T:=T) (O:=O) (X:=X) (dr:=dr) hM hN U G B hy (fun hb M=>yI F bd (c::a) [] (some (c,w)) C n h e t s x' y hb he hM hN U G M (fun E w' e=>by cases e;simp))
  have D:Ro g H:=by
   cases g with
   |none=>trivial
   |some p=>
    obtain⟨E,w'⟩:=p;simp only[Ro]at hg ⊢;rw[p3 E (fun hi=>eO bd U E hi (by simp[hgi E w' rfl]))];exact hg
  have hd:d<H.length:=by omega
  have u:dQ C ((d,.v (.bool y))::edel e (d::cG bd kl)) (H.set d (.v (.bool y))):=.put hd (.cl (.v _)) (fun i w hw=>by
   obtain⟨z,q1,q2,q3⟩:=he.edel (d::cG bd kl) i w hw;have R:i∉cG bd []:=fun hi=>q3 (by simp[(cW bd kl i).2 (.inl hi)]);exact⟨z,by rw[p3 i R];exact q1,q2,fun J=>q3 (by simp[J])⟩)
  obtain⟨Y,m,V,r1,r2,r3,r4,r5⟩:=yI F r a (d::l) g C n h _ (H.set d (.v (.bool y))) s1 x b hk u (hM.grow p4) (by simpa using p2) o6 hx (D.set hgi q) hgi;refine⟨_,m,V,p1.append (.op (o:=⟨some d,.pick,_,g⟩) D.wanted p5 rfl p6 r1),r2,r3,fun i hi=>?_,p4.trans r5⟩;simp only[cG,zF2,cW bd (cG r []) i,bR3]at hi;rw[r4 i hi.2.2,zI2 (Ne.symm hi.1),p3 i hi.2.1];exact aD hk
 |.sto k xs kl r,a,l,g,C,n,h,e,t,s,x,b,hk,he,hM,hN,ho,hx,hg,hgi=>by unfold dF.opsB at hk;exact aD hk
 |.ifn d c w bd x' kl r,a,l,g,C,n,h,e,t,s,x,b,hk,he,hM,hN,ho,hx,hg,hgi=>by unfold dF.opsB at hk;exact aD hk
 |.mkfl d ty zero xs kl r,a,l,g,C,n,h,e,t,s,x,b,hk,he,hM,hN,ho,hx,hg,hgi=>by unfold dF.opsB at hk;exact aD hk
 |.lax d es r,a,l,g,C,n,h,e,t,s,x,b,hk,he,hM,hN,ho,hx,hg,hgi=>by unfold dF.opsB at hk;exact aD hk
 |.own d ty es g' r,a,l,g,C,n,h,e,t,s,x,b,hk,he,hM,hN,ho,hx,hg,hgi=>by unfold dF.opsB at hk;exact aD hk
 |.ownc d j ty es g' r,a,l,g,C,n,h,e,t,s,x,b,hk,he,hM,hN,ho,hx,hg,hgi=>by unfold dF.opsB at hk;exact aD hk
 |.laxc d j es r,a,l,g,C,n,h,e,t,s,x,b,hk,he,hM,hN,ho,hx,hg,hgi=>by unfold dF.opsB at hk;exact aD hk
 |.fz d j r,a,l,g,C,n,h,e,t,s,x,b,hk,he,hM,hN,ho,hx,hg,hgi=>by unfold dF.opsB at hk;exact aD hk
 |.laxm d j r,a,l,g,C,n,h,e,t,s,x,b,hk,he,hM,hN,ho,hx,hg,hgi=>by unfold dF.opsB at hk;exact aD hk
end
end Go.P
namespace Go.P
open Go.Sim (AV AO Hp fQ upd St IC IX Ex gC CK Wf Out doOp jW exec Foot wanted put)
def nU (C:Cx) (p:Nat->Bool):Cx:=⟨fun k=>if p k then C k else none,C.z,C.w⟩
def yJ {C} {p} {x} {y} (h:RV C x y):∀{d},nM p d x=true->RV (nU C p) x y:=by
 have lt:∀{k} {pl},C k=some pl->p k=true->nU C p k=some pl:=fun h1 h2=>by simp[nU,h2,h1]
 induction h with
 |cl h=>intro d hb;exact .cl h
 |undef=>intro d hb;exact .undef
 |ref h=>intro d hb;cases d with
  |zero=>cases hb
  |succ d=>exact .ref (lt h hb)
 |own h=>intro d hb;cases d with
  |zero=>cases hb
  |succ d=>exact .own (lt h hb)
 |ownn h hy=>intro d hb;cases d with
  |zero=>cases hb
  |succ d=>exact .ownn (lt h hb) hy
 |el h=>intro d hb;cases d with
  |zero=>cases hb
  |succ d=>exact .el (lt h hb)
 |map h=>intro d hb;cases d with
  |zero=>cases hb
  |succ d=>exact .map (lt h hb)
 |yld h=>intro d hb;cases d with
  |zero=>cases hb
  |succ d=>exact .yld (lt h hb)
 |fn h1 h2 v1 v2 i1 i2=>intro d hb;cases d with
  |zero=>cases hb
  |succ d=>
   simp only[nM,yS2]at hb;exact .fn h1 h2 (fun j x y a hy=>i1 j x y a hy (yW2.1 hb.1 x (zC2 a))) (fun j x y a hy=>i2 j x y a hy (yW2.1 hb.2 x (zC2 a)))
 |agg hl hc ih=>intro d hb;cases d with
  |zero=>cases hb
  |succ d=>exact .agg hl (fun j x y a hy=>ih j x y a hy (yW2.1 hb x (zC2 a)))
 |tup hl hc ih=>intro d hb;cases d with
  |zero=>cases hb
  |succ d=>exact .tup hl (fun j x y a hy=>ih j x y a hy (yW2.1 hb x (zC2 a)))
 |zs h=>intro d hb;exact .zs h
 |zm h he=>intro d hb;exact .zm h he
 |zm0=>intro d hb;exact .zm0
 |zp h=>intro d hb;exact .zp h
 |zt h=>intro d hb;exact .zt h
def Ck:∀h k,gM h k=(aG h k).isSome
 |[],k=>rfl
 |(j,o)::r,k=>by
  simp only[gM,aG,aW]
  by_cases e:j=k<;>simp[e,Ck r k]
section
variable {R:Type}
def uJ:∀{h:aJ} {c:aA Nat} {K:aJ->aJ->aB R} {r:R},Ov h c K=some r->∃a b,K a b=some r/\∀k,aG a k=(if vB k c then aG h k else none)/\aG b k=(if vB k c then none else aG h k)
 |[],c,K,r,hk=>⟨[],[],hk,fun k=>by simp[aG]⟩
 |(j,o)::t,c,K,r,hk=>by
  unfold Ov at hk
  obtain⟨a,b,h1,h2⟩:=uJ hk
  cases hm:vB j c with
  |true=>
   rw[hm,zE2]at h1
   refine⟨_,_,h1,fun k=>?_⟩
   simp only[aG]
   by_cases e:j=k
   subst e;simp[hm,(h2 j).2]
   simp only[zB2 e];exact h2 k
  |false=>
   rw[hm,zP2]at h1
   refine⟨_,_,h1,fun k=>?_⟩
   simp only[aG]
   by_cases e:j=k
   subst e;simp[hm,(h2 j).1]
   simp only[zB2 e];exact h2 k
def uK:∀{a b:aJ} {K:aJ->aB R} {r:R},xX a b K=some r->∃c,K c=some r/\∀k,aG c k=(aG a k).or (aG b k)
 |[],b,K,r,hk=>⟨b,hk,fun k=>by simp[aG]⟩
 |(j,o)::t,b,K,r,hk=>by
  unfold xX at hk
  obtain⟨c,h1,h2⟩:=uK hk
  refine⟨_,h1,fun k=>?_⟩
  simp only[aG]
  by_cases e:j=k
  simp[e]
  simp only[zB2 e];exact h2 k
def Jc:∀(a:aJ) (K:aJ->aB R),xX a [] K=K a
 |[],K=>rfl
 |(j,o)::t,K=>by unfold xX;rw[Jc t]
def iE {f:PV->aA Nat->(aA Nat->aB R)->aB R} (hf:∀x a K r,f x a K=some r->∃a',K a'=some r):∀xs a K r,sJ f xs a K=some r->∃a',K a'=some r
 |[],a,K,r,h=>⟨a,h⟩
 |x::xs,a,K,r,h=>by
  unfold sJ at h
  obtain⟨a',h⟩:=hf x a _ r h
  exact iE hf xs a' K r h
def wH {f:PV->aA Nat->(aA Nat->aB R)->aB R} (hf:∀x a K r,f x a K=some r->∃a',K a'=some r):∀xs a K r,Ou f xs a K=some r->∃a',K a'=some r
 |[],a,K,r,h=>⟨a,h⟩
 |(_,x)::xs,a,K,r,h=>by
  unfold Ou at h
  obtain⟨a',h⟩:=hf x a _ r h
  exact wH hf xs a' K r h
def iP:∀(d:Nat) (x:PV) (a:aA Nat) (K:aA Nat->aB R) (r:R),mA d x a K=some r->∃a',K a'=some r
 |0,x,a,K,r,h=>by unfold mA at h;exact aD h
 |d+1,x,a,K,r,h=>by
  have ih:=iP d
  unfold mA at h
  cases x with
  |ref k o=>exact⟨_,h⟩
  |own k=>exact⟨_,h⟩
  |el k i o=>exact⟨_,h⟩
  |map k=>exact⟨_,h⟩
  |yld k=>exact⟨_,h⟩
  |fn f p q=>
   obtain⟨a',h⟩:=iE ih p a _ r h
   exact iE ih q a' K r h
  |agg cs=>exact iE ih cs a K r h
  |tup cs=>exact iE ih cs a K r h
  |_=>exact⟨_,h⟩
def fR {h}:∀(n:Nat) (b a:aA Nat) (K:aA Nat->aB R) (r:R),mN h n b a K=some r->∃a',K a'=some r
 |0,b,a,K,r,hk=>by unfold mN at hk;exact aD hk
 |n+1,[],a,K,r,hk=>by unfold mN at hk;exact⟨a,hk⟩
 |n+1,k::b,a,K,r,hk=>by
  unfold mN at hk
  cases hm:vB k a with
  |true=>rw[hm,zE2]at hk;exact fR n b a K r hk
  |false=>
   rw[hm,zP2,gH,yR2]at hk
   obtain⟨ob,_,hk⟩:=hk
   cases ob with
   |box cs=>
    obtain⟨c,hk⟩:=iE (iP 4) cs b _ r hk
    exact fR n c _ K r hk
   |fl cs=>
    obtain⟨c,hk⟩:=iE (iP 4) cs b _ r hk
    exact fR n c _ K r hk
   |loop N e ps x y busy fin=>
    obtain⟨c,hk⟩:=wH (iP 4) e b _ r hk
    exact fR n c _ K r hk
   |lst ty e g rows=>exact fR n b _ K r hk
   |lz ty e dp rows=>exact fR n b _ K r hk
   |mp es=>exact fR n b _ K r hk
   |tr t rows hs=>
    obtain⟨c,hk⟩:=iE (iP 4) _ b _ r hk
    exact fR n c _ K r hk
def Dif (hs:aJ) (C C':Cx):Prop:=(∀k,C' k=C k\/∃o,(k,o)∈hs/\gB o=false)/\(∀id o,C.z id=some o->C'.z id=some o)/\C'.w=C.w
def wI:∀{hs:aJ} {e:eQ} {h:aJ} {K:eQ->aJ->aB R} {r:R},pZ hs e h K=some r->∃e' h',K e' h'=some r/\
  (∀i w,eH e' i=some w->∃v,eH e i=some v/\∀{C C':Cx} {y:AV},Dif hs C C'->RV C v y->RV C' w y)/\
  (∀j,aG h' j=none↔aG h j=none)/\∀j o',aG h' j=some o'->∃o,aG h j=some o/\gB o'=gB o/\
   ∀{C C':Cx} {L:Nat->aB AO} {lim nS:Nat} {pl:Pl},Dif hs C C'->fI C L lim nS o pl->fI C' L lim nS o' pl
 |[],e,h,K,r,hk=>by
  refine⟨e,h,hk,fun i w hw=>⟨w,hw,fun{C C' y} hd hv=>?_⟩,fun j=>Iff.rfl,fun j o l=>⟨o,l,rfl,fun{C C' L lim nS pl} hd n=>?_⟩⟩
  have:∀k,C' k=C k:=fun k=>(hd.1 k).elim id (fun⟨_,h1,_⟩=>by simp at h1)
  exact hv.mono ⟨fun k pl h=>(this k).trans h,hd.2.1⟩
  have:∀k,C' k=C k:=fun k=>(hd.1 k).elim id (fun⟨_,h1,_⟩=>by simp at h1)
  exact n.mono (yX2 _) ⟨fun k pl h=>(this k).trans h,hd.2.1⟩ (fun _ _ _ _ _=>rfl) (fun o sl h=>⟨by rw[hd.2.2];exact h,rfl⟩)
 |(k,o)::t,e,h,K,r,hk=>by
  have other:gB o=true->pZ t e h K=some r->∃e' h',K e' h'=some r/\
    (∀i w,eH e' i=some w->∃v,eH e i=some v/\∀{C C':Cx} {y:AV},Dif ((k,o)::t) C C'->RV C v y->RV C' w y)/\
    (∀j,aG h' j=none↔aG h j=none)/\∀j o',aG h' j=some o'->∃f,aG h j=some f/\gB o'=gB f/\
     ∀{C C':Cx} {L:Nat->aB AO} {lim nS:Nat} {pl:Pl},Dif ((k,o)::t) C C'->fI C L lim nS f pl->fI C' L lim nS o' pl:=by
   intro q hk;obtain⟨e',h',q1,q2,q3,q4⟩:=wI hk
   have hd:∀{C C':Cx},Dif ((k,o)::t) C C'->Dif t C C':=fun{C C'} hd=>⟨fun j=>by
    rcases hd.1 j with h1|⟨f,h1,hx⟩
    exact .inl h1;rcases zF2.1 h1 with h2|h2;cases h2;rw[q]at hx;cases hx;exact .inr ⟨_,h2,hx⟩,hd.2⟩
   refine⟨e',h',q1,fun i w hw=>?_,q3,fun j o' l=>?_⟩;obtain⟨v,p1,p2⟩:=q2 i w hw;exact⟨v,p1,fun d hv=>p2 (hd d) hv⟩;obtain⟨f,p1,p2,p3⟩:=q4 j o' l;exact⟨f,p1,p2,fun d n=>p3 (hd d) n⟩
  have c:gB o=false->(nL k e fun e=>kY k h fun h=>pZ t e h K)=some r->∃e' h',K e' h'=some r/\
    (∀i w,eH e' i=some w->∃v,eH e i=some v/\∀{C C':Cx} {y:AV},Dif ((k,o)::t) C C'->RV C v y->RV C' w y)/\
    (∀j,aG h' j=none↔aG h j=none)/\∀j o',aG h' j=some o'->∃f,aG h j=some f/\gB o'=gB f/\
     ∀{C C':Cx} {L:Nat->aB AO} {lim nS:Nat} {pl:Pl},Dif ((k,o)::t) C C'->fI C L lim nS f pl->fI C' L lim nS o' pl:=by
   intro hb hk;obtain⟨e2,hk,p⟩:=jX _ _ _ hk;obtain⟨h2,hk,m⟩:=kT _ _ _ hk;obtain⟨e',h',q1,q2,q3,q4⟩:=wI hk
   have mid:∀{C C':Cx},Dif ((k,o)::t) C C'->kA k C ⟨fun j=>if j=k then C' j else C j,C'.z,C.w⟩/\Dif t ⟨fun j=>if j=k then C' j else C j,C'.z,C.w⟩ C':=fun{C C'} hd=>by
    refine⟨⟨fun j l=>zB2 l,hd.2.1⟩,⟨fun j=>?_,fun _ _ h=>h,hd.2.2⟩⟩;by_cases e:j=k;exact .inl (by simp[e]);rcases hd.1 j with h1|⟨f,h1,hx⟩
    exact .inl (by simp[e,h1]);rcases zF2.1 h1 with h2|h2;cases h2;exact absurd rfl e;exact .inr ⟨_,h2,hx⟩
   refine⟨e',h',q1,fun i w hw=>?_,fun j=>(q3 j).trans (m.1 j),fun j o' l=>?_⟩;obtain⟨v,p1,p2⟩:=q2 i w hw;obtain⟨u,w1,w2⟩:=p i v p1;exact⟨u,w1,fun d hv=>p2 (mid d).2 (w2 (mid d).1 hv)⟩;obtain⟨f,p1,p2,p3⟩:=q4 j o' l;obtain⟨s,w1,w2,w3⟩:=m.2 j f p1;exact⟨s,w1,p2.trans w2,fun d n=>p3 (mid d).2 (w3 (mid d).1 rfl n)⟩
  unfold pZ at hk;cases o with
  |box cs=>exact other rfl hk
  |mp es=>exact other rfl hk
  |fl fs=>exact other rfl hk
  |loop N e ps a b busy fin=>exact other rfl hk
  |lz ty e1 dp rows=>exact c rfl hk
  |tr t rows hs=>exact c rfl hk
  |lst ty e1 g rows=>
   cases hfx:dY ty with
   |true=>
    simp only[hfx,zE2]at hk;exact other hfx hk
   |false=>
    simp only[hfx,zP2]at hk;exact c hfx hk
end
end Go.P
namespace Go.P
open Go.Sim (AV AO Hp fQ upd St IC IX Ex gC CK Wf Out doOp jW exec Foot wanted put)
variable {P:AV->Hp->Prop} {e:eQ} {fx nw:Bool} {kill:aA Nat} {lim n:Nat} {run:aJ->Nat->(PV->aJ->Nat->aB (PV×aJ×Nat))->aB (PV×aJ×Nat)} {t ys:aA AV} {xs:aA PV}
section
variable {R:Type} {C:Cx} {h:aJ} {s:Hp}
def Fy:∀{e} {i} {v},eH e i=some v->(i,v)∈e
 |[],i,v,h=>by simp[eH]at h
 |(j,w)::r,i,v,h=>by
  simp only[eH]at h
  split at h
  rename_i a;subst a;cases h;simp
  exact aC3 _ (Fy h)
def Pu:∀{h} {i} {v},aG h i=some v->(i,v)∈h
 |[],i,v,h=>by simp[aG]at h
 |(j,w)::r,i,v,h=>by
  simp only[aG]at h
  split at h
  rename_i a;subst a;cases h;simp
  exact aC3 _ (Pu h)
def Le {p} {xs} {ys} {d} (h:LR (RV C) xs ys) (hp:xs.all (nM p d)=true):LR (RV (nU C p)) xs ys:=
 ⟨h.1,fun j x y a b=>yJ (h.2 j x y a b) (yW2.1 hp x (zC2 a))⟩
def yB1:cS->Bool
 |.tr .. =>true
 |_=>false
def Fz:∀{h},sO h=true->∀{k} {o},aG h k=some o->yB1 o=false
 |[],_,k,o,h=>by simp[aG]at h
 |(j,o')::r,hn,k,o,h=>by
  simp only[aG]at h
  cases o' with
  |tr a b c=>cases hn
  |_=>
   split at h
   cases h;rfl
   exact Fz (h:=r) hn h
def fI.monoN {C C'} {L L'} {nS nS'} {po} {pl} (hn:nS<=nS') (n:C.le C') (q:∀id ver e len,pl=.atp id ver e len->L' id=L id) (r:yB1 po=false) (c:fI C L lim nS po pl):fI C' L' lim nS' po pl:=by
 have h1:fI ⟨C.f,C.z,fun _=>none⟩ L lim nS po pl:=by
  have m:∀{x y},RV C x y->RV ⟨C.f,C.z,fun _=>none⟩ x y:=fun h=>RV.mono (C:=C) (C':=⟨C.f,C.z,fun _=>none⟩) ⟨fun _ _ h=>h,fun _ _ h=>h⟩ h;cases po with
  |tr t rows hs=>cases r
  |box cells=>
   cases pl with
   |nil=>exact c
   |atp id ver e len=>
    obtain⟨h1,h2,ty,esz,row,d,j⟩:=c;exact⟨h1,h2,ty,esz,row,d,j.mono fun x y h=>m h⟩
  |lst ty e g rows=>cases pl<;>exact c
  |lz ty e dp rows=>cases pl<;>exact c
  |mp es=>cases pl<;>exact c
  |fl fs=>
   cases pl with
   |nil=>exact c
   |atp id ver e len=>
    obtain⟨h1,h2,d,j,ty,els,k,l,p⟩:=c;exact⟨h1,h2,d,j,ty,els,k,l,fun i f row a b=>(p i f row a b).mono fun x y h=>m h⟩
  |loop N e ps a b busy fin=>
   cases pl with
   |nil=>exact c
   |atp id ver e' len=>
    obtain⟨h1,h2,st,pend,tmps,d,j,k,l⟩:=c;exact⟨h1,h2,st,pend,tmps,d,j,fun i v hv=>(k i v hv).imp fun y hy=>⟨hy.1,m hy.2⟩,l⟩
 exact fI.mono (C:=⟨C.f,C.z,fun _=>none⟩) (C':=C') hn ⟨n.1,n.2⟩ q (fun o sl h=>by cases h) h1
def eJ1 {p} {L} {nS} {o} {pl} (n:Ks p o=true) (h:fI C L lim nS o pl):fI (nU C p) L lim nS o pl:=by
 cases o with
 |box cs=>
  cases pl with
  |nil=>exact h
  |atp id ver e len=>
   obtain⟨h1,h2,ty,esz,row,c,k⟩:=h;exact⟨h1,h2,ty,esz,row,c,Le k n⟩
 |lst ty e g rows=>cases pl<;>exact h
 |tr t rows hs=>
  obtain⟨ty,e,ks⟩:=t;cases pl with
  |nil=>exact h
  |atp id ver e' len=>
   obtain⟨h1,h2,c,k,l,els,d,m,q,s⟩:=h;refine⟨h1,h2,c,k,l,els,d,m,q,fun i r r' a b=>⟨(s i r r' a b).1,fun j x y c1 c2=>?_⟩⟩;have:=(s i r r' a b).2 j x y c1 c2;unfold TC at this ⊢;cases hk:eZ ks j with
   |none=>rw[hk]at this;exact this
   |some t=>
    rw[hk]at this;simp only at this ⊢;rcases this with⟨h1,h2⟩|h;exact .inl ⟨h1,fun x u=>yJ (h2 x u) (yW2.1 n _ u)⟩;exact .inr h
 |lz ty e dp rows=>cases pl<;>exact h
 |mp es=>cases pl<;>exact h
 |fl fs=>
  cases pl with
  |nil=>exact h
  |atp id ver e len=>
   obtain⟨h1,h2,c,k,ty,els,l,m,q⟩:=h;refine⟨h1,h2,c,k,ty,els,l,m,fun i f row a b=>Le (d:=4) (q i f row a b) ?_⟩;have:=yW2.1 n f (zC2 a);simp[this]
 |loop N e ps a b busy fin=>
  cases pl with
  |nil=>exact h
  |atp id ver e' len=>
   obtain⟨h1,h2,st,pend,tmps,c,k,l,m⟩:=h;refine⟨h1,h2,st,pend,tmps,c,k,fun i v hv=>?_,m⟩;obtain⟨y,w,z⟩:=l i v hv;exact⟨y,w,yJ z (yW2.1 n _ (Fy hv))⟩
def yK {p}:∀{h},mB p h=true->∀{k} {o},aG h k=some o->Ks p o=true
 |[],_,k,o,h=>by simp[aG]at h
 |(j,o')::r,hp,k,o,h=>by
  simp only[mB,yS2]at hp
  simp only[aG]at h
  split at h
  cases h;exact hp.1
  exact yK hp.2 h
def wJ:∀{h} {k},aG h k≠none->k∈tL h
 |[],k,h=>by simp[aG]at h
 |(j,o)::r,k,h=>by
  simp only[aG]at h
  simp only[tL,zF2]
  split at h
  rename_i e;exact .inl e.symm
  exact .inr (wJ h)
def Ae {a}:∀{ks},Yl a ks=true->∀k∈ks,aG a k≠none
 |[],_,k,hk=>by simp at hk
 |j::r,h,k,hk=>by
  unfold Yl at h
  cases hh:gM a j with
  |false=>rw[hh]at h;cases h
  |true=>
   rw[hh,zE2]at h
   rcases zF2.1 hk with rfl|hk
   rw[Ck]at hh
   cases hg:aG a k with
   |none=>rw[hg]at hh;cases hh
   |some o=>simp
   exact Ae h k hk
def Af {hs}:∀{a},Yk hs n a=true->∀{k},aG a k≠none->aG hs k≠none\/n<=k
 |[],_,k,hk=>by simp[aG]at hk
 |(j,o)::r,h,k,hk=>by
  unfold Yk at h
  cases b:(gM hs j||Nat.ble n j)with
  |false=>rw[b]at h;cases h
  |true=>
   rw[b,zE2]at h
   simp only[aG]at hk
   split at hk
   rename_i e
   subst e
   simp only[zN2,Ck,bY3]at b
   rcases b with b|b
   left;intro e;rw[e]at b;cases b
   exact .inr b
   exact Af h hk
def dU {h} {k}:gM h k=true↔aG h k≠none:=by
 rw[Ck];cases aG h k<;>simp
def cM.part {hs} (f:cM C n h lim s) (g:∀k o,aG hs k=some o->aG h k=some o) (m:mB (gM hs) hs=true):cM (nU C (gM hs)) n hs lim s:=by
 have j:∀k,aG hs k≠none->aG h k≠none:=fun k hk=>by
  cases hc:aG hs k with
  |none=>exact absurd hc hk
  |some o=>rw[g k o hc];simp
 have i:∀k pl,nU C (gM hs) k=some pl->C k=some pl:=fun k pl hk=>by
  simp only[nU]at hk;split at hk;exact hk;cases hk
 refine⟨⟨fun k o hk=>?_,fun k k' id v e l v' e' l' a b c d=>f.hr.inj k k' id v e l v' e' l' (j k a) (j k' b) (i _ _ c) (i _ _ d),fun id o p=>?_,fun k id v e l a b=>f.hr.wn k id v e l (j k a) (i _ _ b),f.hr.wb,f.hr.wz⟩,fun k pl hk=>f.dom k pl (i k pl hk),f.wf,f.lim⟩;obtain⟨pl,h1,h2⟩:=f.hr.ob k o (g k o hk);refine⟨pl,?_,eJ1 (yK m hk) h2⟩;simp only[nU];rw[yY2 (dU.2 (by rw[hk];simp))];exact h1;obtain⟨z1,z2,z3,z4⟩:=f.hr.zr id o p;exact⟨z1,z2,fun k v e l a b=>z3 k v e l (j k a) (i _ _ b),z4⟩
def cM.now {hs} (a:cM C n hs lim s) (hn:sO hs=true):cM ⟨C.f,C.z,fun _=>none⟩ n hs lim s:=
 ⟨⟨fun k o hk=>by
  obtain⟨pl,h1,h2⟩:=a.hr.ob k o hk
  exact⟨pl,h1,fI.monoN (C:=C) (C':=⟨C.f,C.z,fun _=>none⟩) (yX2 _) ⟨fun _ _ h=>h,fun _ _ h=>h⟩ (fun _ _ _ _ _=>rfl) (Fz hn hk) h2⟩,a.hr.inj,a.hr.zr,fun _ _ _ _ _ _ _=>rfl,fun _ _ h=>(by cases h),fun _ _ _=>rfl⟩,a.dom,a.wf,a.lim⟩
def Ag {hs}:∀{a},Ym hs a=true->∀{k},aG a k≠none->aG hs k≠none
 |[],_,k,hk=>by simp[aG]at hk
 |(j,o)::r,h,k,hk=>by
  unfold Ym at h
  cases hh:gM hs j with
  |false=>rw[hh]at h;cases h
  |true=>
   rw[hh,zE2]at h
   simp only[aG]at hk
   split at hk
   rename_i e;subst e;exact dU.1 hh
   exact Ag h hk
def Lf:∀h m,m<=bnd h m
 |[],m=>yX2 _
 |(k,o)::r,m=>by
  unfold bnd
  cases hb:Nat.blt k m with
  |true=>rw[zE2];exact Lf r m
  |false=>
   rw[zP2]
   have:=Lf r (k+1)
   have h2:¬k<m:=fun a=>by rw[<-bB3,hb]at a;cases a
   omega
def Ga:∀h m k,aG h k≠none->k<bnd h m
 |[],m,k,hk=>by simp[aG]at hk
 |(j,o)::r,m,k,hk=>by
  simp only[aG]at hk
  unfold bnd
  cases hb:Nat.blt j m with
  |true=>
   rw[zE2]
   split at hk
   rename_i e
   rw[bB3]at hb
   have:=Lf r m
   omega
   exact Ga r m k hk
  |false=>
   rw[zP2]
   split at hk
   have:=Lf r (j+1);omega
   exact Ga r (j+1) k hk
def yL {K:PV->eQ->aJ->Nat->aB R} {r:R}
  (D:cM C n h lim s) (he:dQ C e t) (hx:LR (RV C) xs ys)
  (d9:∀hs C0 m K' r',cM C0 m hs lim s->LR (RV C0) xs ys->run hs m K'=some r'->
   ∃v h' n' C' y s',K' v h' n'=some r'/\RV C' v y/\cM C' n' h' lim s'/\m<=n'/\Fr C0 hs s C' h' s'/\P y s')
  (hk:inK run nw xs e h n kill K=some r):
  ∃v e' h' n' C' y s',K v e' h' n'=some r/\RV C' v y/\(∀i w,eH e' i=some w->∃z,t[i]? =some z/\RV C' w z/\i∉kill)/\cM C' n' h' lim s'/\n<=n'/\Fr C h s C' h' s'/\P y s':=by
 unfold inK at hk;obtain⟨f6,hk⟩:=iE (iP 5) _ _ _ _ hk;obtain⟨ns,hk⟩:=fR _ _ _ _ _ hk;obtain⟨hs,u,hk,F⟩:=uJ hk;cases hch:(xs.all (nM (gM hs) 5)&&(mB (gM hs) hs&&(sO hs||sO u)))with
 |false=>rw[hch]at hk;exact aD hk
 |true=>
 rw[hch,zE2,bJ,yR2]at hk;obtain⟨r',hq,hk⟩:=hk;simp only[yS2]at hch
 have U:∀k o,aG hs k=some o->aG h k=some o:=fun k o g=>by
  rw[(F k).1]at g;split at g;exact g;cases g
 have e0:∀{k},aG hs k≠none->k<n:=fun{k} hk=>by
  cases hc:aG hs k with
  |none=>exact absurd hc hk
  |some o=>obtain⟨pl,p1,_⟩:=D.hr.ob k o (U k o hc);exact D.dom k pl p1
 obtain⟨d3,H,f1⟩:=hch;have d0:=D.part U H;let W:Nat->aB (Nat×Nat×Nat):=if sO hs=true then fun _=>none else C.w
 let C0:Cx:=⟨(nU C (gM hs)).f,C.z,W⟩
 have d2:∀o,W o≠none->C.w o≠none:=fun o h=>by
  by_cases hn:sO hs=true;exact absurd (by simp only[W,yY2 hn]) h;have e:W o=C.w o:=by simp only[W,zB2 hn]
  rw[<-e];exact h
 have T:cM C0 n hs lim s:=by
  by_cases hn:sO hs=true;have e:C0=⟨(nU C (gM hs)).f,(nU C (gM hs)).z,fun _=>none⟩:=by simp only[C0,W,yY2 hn];rfl
  rw[e];exact d0.now hn;have e:C0=nU C (gM hs):=by simp only[C0,W,zB2 hn];rfl
  rw[e];exact d0
 have e4:cM C0 (bif nw then n else bnd hs 0) hs lim s:=⟨T.hr,(fun k pl E=>by
  cases nw with
  |true=>exact T.dom k pl E
  |false=>
   simp only[C0,nU]at E;split at E;rename_i Z;exact Ga hs 0 k (dU.1 Z);cases E),T.wf,T.lim⟩
 obtain⟨v,h',n',C',y,s',w1,w2,w3,w4,w5,w6⟩:=d9 hs _ _ _ r' e4 ((Le hx d3).mono fun x y h=>RV.mono (C:=nU C (gM hs)) (C':=C0) ⟨fun _ _ h=>h,fun _ _ h=>h⟩ h) hq;unfold Fe at w1;obtain⟨f5,w1⟩:=iE (iP 5) _ _ _ _ w1;obtain⟨f7,w1⟩:=fR _ _ _ _ _ w1;obtain⟨h2,_,w1,b0⟩:=uJ w1;cases H:(Yl h2 (tL hs)&&(bif nw then Yk hs (bif nw then n else bnd hs 0) h2 else Ym hs h2)&&(nM (gM h2) 5 v&&mB (gM h2) h2))with
 |false=>rw[H]at w1;exact aD w1
 |true=>
 rw[H,zE2]at w1;cases w1;simp only[yS2]at H;obtain⟨⟨c1,c2⟩,c3,c4⟩:=H;have e6:∀{k},aG hs k≠none->aG h2 k≠none:=fun{k} hk=>Ae c1 k (wJ hk)
 have b6:∀{k},aG h2 k≠none->aG hs k≠none\/n<=k:=fun{k} a0=>by
  cases nw with
  |true=>exact Af c2 a0
  |false=>exact .inl (Ag c2 a0)
 have M:∀k o,aG h2 k=some o->aG h' k=some o:=fun k o g=>by
  rw[(b0 k).1]at g;split at g;exact g;cases g
 have e5:=w3.part M c4;rw[Pc]at hk;simp only[Jc,eI]at hk;obtain⟨e',V,hk,k1,k2,k3⟩:=wI hk;obtain⟨hc,hk,k4⟩:=uK hk
 let j:Nat->aB (Nat×Nat×Nat):=fun o=>match C'.w o with
  |some x=>some x
  |none=>if sO hs=true then C.w o else none
 let C3:Cx:=⟨fun k=>if gM h2 k then C' k else C k,C'.z,j⟩
 let C1:Cx:=⟨fun k=>if k<n then C3 k else none,C'.z,j⟩
 have c3in:∀{k},aG h2 k≠none->C3 k=C' k:=fun{k} hk=>yY2 (dU.2 hk);have c3out:∀{k},aG h2 k=none->C3 k=C k:=fun{k} hk=>zB2 (fun Z=>dU.1 Z hk)
 have a0:∀{k},aG h k≠none->k<n:=fun{k} hk=>by
  cases hc:aG h k with
  |none=>exact absurd hc hk
  |some o=>obtain⟨pl,p1,_⟩:=D.hr.ob k o hc;exact D.dom k pl p1
 have f0:∀{k},aG hs k≠none->aG h k≠none:=fun{k} hk=>by
  cases hc:aG hs k with
  |none=>exact absurd hc hk
  |some o=>rw[U k o hc];simp
 have rs:∀{k},aG hs k≠none->C0 k=C k:=fun{k} hk=>by simp only[C0,nU];rw[yY2 (dU.2 hk)]
 have f3:∀{k pl},C0 k=some pl->C k=some pl:=fun{k pl} hk=>by
  simp only[C0,nU]at hk;split at hk;exact hk;cases hk
 have b7:∀{k pl},nU C' (gM h2) k=some pl->C3 k=some pl:=fun{k pl} hk=>by
  simp only[nU]at hk;split at hk;rename_i Z;rw[c3in (dU.1 Z)];exact hk;cases hk
 have b9:Dif h2 ⟨C.f,C.z,j⟩ C1:=⟨fun k=>(by
  by_cases d6:k<n;show C1 k=C k\/_
  have e1:C1 k=C3 k:=yY2 d6;rw[e1];by_cases A:aG h2 k=none;exact .inl (c3out A);rw[c3in A];rcases b6 A with hq|hq;cases hc2:aG hs k with
  |none=>exact absurd hc2 hq
  |some o=>
   obtain⟨o',q1,q2⟩:=w5.kd k o hc2
   have q3:aG h2 k=some o':=by
    cases hc3:aG h2 k with
    |none=>exact absurd hc3 A
    |some o2=>rw[M k o2 hc3]at q1;exact q1
   cases hb:gB o' with
   |true=>left;rw[(q2 hb).2,rs hq]
   |false=>
    right;exact⟨o',Pu q3,hb⟩
  omega;left;show C1 k=C k
  have:C1 k=none:=zB2 d6;rw[this,dB1 D (by omega)]),w5.zl,rfl⟩
 have c13:C1.le C3:=⟨fun k pl hk=>(by
  simp only[C1]at hk;split at hk;exact hk;cases hk),fun _ _ h=>h⟩
 have Y:∀{k o'},aG V k=some o'->∃o,aG h k=some o/\aG hs k=none/\aG h2 k=none/\gB o'=gB o/\aG u k=some o/\∀{L} {lim nS} {pl},fI ⟨C.f,C.z,j⟩ L lim nS o pl->fI C1 L lim nS o' pl:=fun{k o'} g=>by
  obtain⟨o,q1,q2,q3⟩:=k3 k o' g;have q0:=q1;rw[(F k).2]at q1;split at q1;cases q1;rename_i hm;have h1:aG hs k=none:=by rw[(F k).1,zB2 hm]
  refine⟨o,q1,h1,?_,q2,q0,fun e9=>q3 b9 e9⟩;cases hc2:aG h2 k with
  |none=>rfl
  |some o2=>
   rcases b6 (k:=k) (by rw[hc2];simp)with q|q;exact absurd h1 q;have:=a0 (k:=k) (by rw[q1];simp);omega
 have X:∀{k},aG hc k≠none->aG h2 k≠none\/(aG h2 k=none/\aG V k≠none):=fun{k} hk=>by
  rw[k4 k]at hk;cases hc2:aG h2 k with
  |none=>right;refine⟨rfl,?_⟩;rw[hc2]at hk;simpa using hk
  |some o=>left;simp
 have B:∀{k},aG V k≠none->aG h k≠none/\aG hs k=none/\aG h2 k=none:=fun{k} hk=>by
  cases hc2:aG V k with
  |none=>exact absurd hc2 hk
  |some o'=>obtain⟨o,q1,q2,q3,_⟩:=Y hc2;exact⟨by rw[q1];simp,q2,q3⟩
 have N:∀{k},aG h2 k≠none->aG h' k≠none:=fun{k} hk=>by
  cases hc2:aG h2 k with
  |none=>exact absurd hc2 hk
  |some o=>rw[M k o hc2];simp
 have S:∀{id},Sz C0 hs id->(∃k v e l,aG hs k≠none/\aG h k≠none/\C k=some (.atp id v e l))\/W id≠none:=fun{id} u=>by
  rcases u with⟨k,v,e,l,q1,q2⟩|u;exact .inl ⟨k,v,e,l,q1,f0 q1,f3 q2⟩;exact .inr u
 have vY:∀{id},Sz C0 hs id->Sz C h id:=fun{id} u=>by
  rcases S u with⟨k,v,e,l,q1,q2,q3⟩|u;exact .inl ⟨k,v,e,l,q2,q3⟩;exact .inr (d2 id u)
 have J:∀{k id v e l},aG h k≠none->aG hs k=none->C k=some (.atp id v e l)->¬Sz C0 hs id:=fun{k id v e l} a b c u=>by
  rcases S u with⟨k',v',e',l',q1,q2,q3⟩|u;have:=D.hr.inj k k' id _ _ _ _ _ _ a q2 c q3;subst this;exact q1 b;exact d2 id u (D.hr.wn k id v e l a c)
 have b4:sO hs=true->∀id,Sz C0 hs id->C.w id=none:=fun hn id u=>by
  rcases S u with⟨k',v',e',l',q1,q2,q3⟩|u;exact D.hr.wn k' id _ _ _ q2 q3;exact absurd (by simp only[W,yY2 hn]) u
 have f2:sO hs=true->∀id,C'.w id≠none->C.w id=none:=fun hn id h=>by
  cases hc:C.w id with
  |none=>rfl
  |some sl=>
   have p:=(D.hr.wb id sl hc).1;rw[<-hc];exact b4 hn id (w5.own id p (.inr h))
 have b5:∀{id sl},C'.w id=some sl->j id=some sl:=fun{id sl} h=>by simp only[j,h]
 have b8:sO hs=true->∀{id sl},C.w id=some sl->j id=some sl:=fun hn {id sl} h=>by
  cases hc:C'.w id with
  |none=>simp only[j,hc,yY2 hn,h]
  |some x=>have:=f2 hn id (by rw[hc];simp);rw[this]at h;cases h
 have G:∀{id sl},j id=some sl->C'.w id=some sl\/(sO hs=true/\C.w id=some sl):=fun{id sl} h=>by
  cases hc:C'.w id with
  |some x=>simp only[j,hc]at h;exact .inl h
  |none=>
   simp only[j,hc]at h;by_cases hn:sO hs=true;rw[yY2 hn]at h;exact .inr ⟨hn,h⟩;rw[zB2 hn]at h;cases h
 have e3:∀{k k' id v e l v' e' l'},aG h2 k≠none->aG V k'≠none->C3 k=some (.atp id v e l)->C3 k'=some (.atp id v' e' l')->False:=fun{k k' id v e l v' e' l'} a b c d=>by
  obtain⟨b1,b2,b3⟩:=B b;rw[c3in a]at c;rw[c3out b3]at d;have p:=(D.hr.lt b1 d).2;exact J b1 b2 d (w5.own id p (.inl ⟨k,v,e,l,N a,c⟩))
 refine⟨v,e',hc,_,C3,y,s',hk,(yJ w2 c3).mono ⟨fun _ _ Z=>b7 Z,fun _ _ h=>h⟩,fun i w hw=>?_,⟨⟨fun k o g=>?_,fun k k' id v e l v' e' l' a b c d=>?_,fun id o hz=>?_,fun k id v e l a b=>?_,fun id sl hw=>?_,fun id o hz=>?_⟩,fun k pl E=>?_,w3.wf,w3.lim⟩,?_,⟨w5.sk,w5.n,fun id p hn=>w5.keep id p (fun u=>hn (vY u)),fun id p u=>?_,fun k o g=>?_,w5.zl,fun id p hz=>?_⟩,w6⟩;obtain⟨v0,q1,q2⟩:=k1 i w hw;obtain⟨z,p1,p2,p3⟩:=he.edel kill i v0 q1;exact⟨z,p1,(q2 b9 (RV.mono (C:=C) (C':=⟨C.f,C.z,j⟩) ⟨fun _ _ h=>h,fun _ _ h=>h⟩ p2)).mono c13,p3⟩;rw[k4 k]at g;cases hc2:aG h2 k with
 |some o2=>
  rw[hc2]at g;cases g;obtain⟨pl,q1,q2⟩:=e5.hr.ob k _ hc2;exact⟨pl,b7 q1,q2.mono (yX2 _) ⟨fun _ _ Z=>b7 Z,fun _ _ h=>h⟩ (fun _ _ _ _ _=>rfl) (fun o sl h=>⟨b5 h,rfl⟩)⟩
 |none=>
  rw[hc2]at g;obtain⟨o0,q1,q2,q3,q4,q0,q5⟩:=Y (by simpa using g);obtain⟨pl,p1,p2⟩:=D.hr.ob k o0 q1
  have d5:∀id ver e len,pl=.atp id ver e len->Sim.look s'.h id=Sim.look s.h id:=fun id v e l hp=>by
   subst hp;exact w5.keep id p2.lt.2 (J (by rw[q1];simp) q2 p1)
  have p3:fI ⟨C.f,C.z,j⟩ (Sim.look s'.h) lim s'.n o0 pl:=by
   by_cases hn:sO hs=true;exact fI.mono (C:=C) (C':=⟨C.f,C.z,j⟩) w5.n ⟨fun _ _ h=>h,fun _ _ h=>h⟩ d5 (fun o sl h=>⟨b8 hn h,w5.keep o (D.hr.wb o sl h).1 fun u=>by rw[b4 hn o u]at h;cases h⟩) p2;have e8:sO u=true:=by simpa[hn]using f1
   exact fI.monoN (C:=C) (C':=⟨C.f,C.z,j⟩) w5.n ⟨fun _ _ h=>h,fun _ _ h=>h⟩ d5 (Fz e8 q0) p2
  exact⟨pl,by rw[c3out hc2];exact p1,(q5 p3).mono (yX2 _) c13 (fun _ _ _ _ _=>rfl) (fun o sl h=>⟨h,rfl⟩)⟩
 rcases X a with a|⟨a1,a⟩<;>rcases X b with b|⟨b1,b⟩
 rw[c3in a]at c;rw[c3in b]at d;exact w3.hr.inj k k' id v e l v' e' l' (N a) (N b) c d;exact(e3 a b c d).elim;exact(e3 b a d c).elim;rw[c3out a1]at c;rw[c3out b1]at d;exact D.hr.inj k k' id v e l v' e' l' (B a).1 (B b).1 c d;obtain⟨z1,z2,z3,z4⟩:=w3.hr.zr id o hz;refine⟨z1,z2,fun k v e l a b=>?_,z4⟩;rcases X a with a|⟨a1,a⟩
 rw[c3in a]at b;exact z3 k v e l (N a) b;rw[c3out a1]at b;obtain⟨b1,b2,b3⟩:=B a;have p:=(D.hr.lt b1 b).2;rcases w5.zn id p (by rw[show C'.z id=some o from hz];simp)with O|O;cases hz1:C.z id with
 |none=>exact O hz1
 |some o1=>exact(D.hr.zr id o1 hz1).2.2.1 k v e l b1 b
 exact J b1 b2 b O;cases hw:j id with
 |none=>exact hw
 |some sl=>
  exfalso;rcases X a with a|⟨a1,a⟩
  rw[c3in a]at b;have hc:=w3.hr.wn k id v e l (N a) b;rcases G hw with h|⟨hn,h⟩
  rw[hc]at h;cases h;rw[b4 hn id (w5.own id (D.hr.wb id sl h).1 (.inl ⟨k,v,e,l,N a,b⟩))]at h;cases h;rw[c3out a1]at b;obtain⟨b1,b2,b3⟩:=B a;rcases G hw with h|⟨hn,h⟩
  exact J b1 b2 b (w5.own id (D.hr.lt b1 b).2 (.inr (by rw[h];simp)));rw[D.hr.wn k id v e l b1 b]at h;cases h
 rcases G hw with h|⟨hn,h⟩
 exact w3.hr.wb id sl h;have:=D.hr.wb id sl h;have:=w5.n;omega;cases hw:j id with
 |none=>exact hw
 |some sl=>
  exfalso;rcases G hw with h|⟨hn,h⟩
  rw[w3.hr.wz id o hz]at h;cases h;have p:=(D.hr.wb id sl h).1;rcases w5.zn id p (by rw[show C'.z id=some o from hz];simp)with O|O;cases hz1:C.z id with
  |none=>exact O hz1
  |some o1=>rw[D.hr.wz id o1 hz1]at h;cases h
  rw[b4 hn id O]at h;cases h
 cases nw with
 |true=>
  simp only[zE2]at w4 ⊢;by_cases A:aG h2 k=none;rw[c3out A]at E;have:=D.dom k pl E;omega;rw[c3in A]at E;exact w3.dom k pl E
 |false=>
  simp only[zP2];by_cases A:aG h2 k=none;rw[c3out A]at E;exact D.dom k pl E;exact e0 (Ag c2 A)
 cases nw with
 |true=>exact w4
 |false=>exact yX2 _
 rcases u with⟨k,v,e,l,q1,q2⟩|u;rcases X q1 with a|⟨a1,a⟩
 rw[c3in a]at q2;exact vY (w5.own id p (.inl ⟨k,v,e,l,N a,q2⟩));rw[c3out a1]at q2;exact .inl ⟨k,v,e,l,(B a).1,q2⟩;cases hw:j id with
 |none=>exact absurd hw u
 |some sl=>
  rcases G hw with h|⟨hn,h⟩
  exact vY (w5.own id p (.inr (by rw[h];simp)));exact .inr (by rw[h];simp)
 rw[k4 k];by_cases hm:aG hs k=none
 have d7:¬vB k ns=true:=fun e7=>by
  rw[(F k).1,yY2 e7,g]at hm;cases hm
 have d4:aG u k=some o:=by rw[(F k).2,zB2 d7];exact g
 cases hc2:aG V k with
 |none=>rw[(k2 k).1 hc2]at d4;cases d4
 |some o'=>
  obtain⟨o0,q1,q2,q3,q4,_,_⟩:=Y hc2;rw[g]at q1;cases q1;exact⟨o',by rw[q3];rfl,fun hb=>⟨by rw[<-q4];exact hb,c3out q3⟩⟩
 cases hc2:aG hs k with
 |none=>exact absurd hc2 hm
 |some o0=>
  have d8:=U k o0 hc2;rw[g]at d8;cases d8;obtain⟨o',q1,q2⟩:=w5.kd k o hc2;have A:=e6 hm;cases hc3:aG h2 k with
  |none=>exact absurd hc3 A
  |some o2=>
   have:=M k o2 hc3;rw[q1]at this;cases this;exact⟨o',rfl,fun hb=>⟨(q2 hb).1,by rw[c3in A,(q2 hb).2,rs hm]⟩⟩
 rcases w5.zn id p hz with h1|h1;exact .inl h1;exact .inr (vY h1)
def fxo:cS->cS
 |.lst ty e g rows=>.lst (ty+4294967296) e g rows
 |o=>o
def Gb:cS->Bool
 |.lst .. =>true
 |_=>false
def uW1 (ty:Nat):dY (ty+4294967296)=true:=by
 unfold dY;rw[bY3];omega
def Wk {ty}:zD (ty+4294967296)=ty:=by
 unfold zD;rw[uW1,zE2];omega
def tR {ty} (h:dY ty=false):zD ty=ty:=by
 unfold zD;rw[h,zP2]
def Wl {ty} (h:dY ty=true):zD ty=ty-4294967296:=by
 unfold zD;rw[h,zE2]
def Cl {L} {nS ty ty' e} {g} {rows} {pl} (a:fI C L lim nS (.lst ty e g rows) pl) (b:zD ty'=zD ty):fI C L lim nS (.lst ty' e g rows) pl:=by
 cases pl with
 |nil=>exact a
 |atp id ver e' len=>
  obtain⟨a1,a2,a3,a4,els,a5,a6⟩:=a;exact⟨a1,a2,a3,a4,els,by rw[b];exact a5,a6⟩
def Gc:∀{h:aJ} {K:aJ->aB R} {r:R},Sw h K=some r->∃h1,K h1=some r/\∀k,aG h1 k=(aG h k).map fxo/\∀ty e g rows,aG h k=some (.lst ty e g rows)->dY ty=false
 |[],K,r,hk=>⟨[],hk,fun k=>⟨rfl,fun _ _ _ _ h=>by simp[aG]at h⟩⟩
 |(j,o)::t,K,r,hk=>by
  unfold Sw at hk
  have other:Gb o=false->Sw t (fun r=>K ((j,o)::r))=some r->∃h1,K h1=some r/\∀k,aG h1 k=(aG ((j,o)::t) k).map fxo/\∀ty e g rows,aG ((j,o)::t) k=some (.lst ty e g rows)->dY ty=false:=by
   intro hl hk;obtain⟨h1,q1,q2⟩:=Gc hk;refine⟨_,q1,fun k=>?_⟩;by_cases e:j=k;simp only[aG,yY2 e,zW2];refine⟨?_,fun _ _ _ _ h=>?_⟩;cases o<;>first|rfl|simp[Gb]at hl
   cases h;simp[Gb]at hl;simp only[aG,zB2 e];exact q2 k
  cases o with
  |lst ty e g rows=>
   cases hfx:dY ty with
   |true=>simp only[hfx,zE2]at hk;exact aD hk
   |false=>
    simp only[hfx,zP2]at hk;obtain⟨h1,q1,q2⟩:=Gc hk;refine⟨_,q1,fun k=>?_⟩;by_cases c:j=k;simp only[aG,yY2 c,zW2];exact⟨rfl,fun _ _ _ _ h=>by cases h;exact hfx⟩;simp only[aG,zB2 c];exact q2 k
  |box cs=>exact other rfl hk
  |mp es=>exact other rfl hk
  |fl fs=>exact other rfl hk
  |loop N e ps a b busy fin=>exact other rfl hk
  |lz ty e dp rows=>exact aD hk
  |tr tt rows hs=>exact other rfl hk
def UnR (h:aJ) (k:Nat) (b c:cS):Prop:=∃a,aG h k=some a/\
 ((∃ty e g rows,b=.lst ty e g rows/\dY ty=true/\dY (ty-4294967296)=false/\c=.lst (ty-4294967296) e g rows)\/(c=b/\Gb a=false))
def Jd:∀{h h2:aJ} {K:aJ->aB R} {r:R},Bg h h2 K=some r->∃c,K c=some r/\∀k,(aG c k=none↔aG h2 k=none)/\∀d,aG c k=some d->∃f,aG h2 k=some f/\UnR h k f d
 |h,[],K,r,hk=>⟨[],hk,fun k=>⟨Iff.rfl,fun _ h=>by simp[aG]at h⟩⟩
 |h,(j,o)::t,K,r,hk=>by
  unfold Bg at hk
  rw[gH,yR2]at hk
  obtain⟨i,h0,hk⟩:=hk
  have step:∀d,UnR h j o d->Bg h t (fun r=>K ((j,d)::r))=some r->∃c,K c=some r/\∀k,(aG c k=none↔aG ((j,o)::t) k=none)/\∀d,aG c k=some d->∃f,aG ((j,o)::t) k=some f/\UnR h k f d:=by
   intro d m hk;obtain⟨c,q1,q2⟩:=Jd hk;refine⟨_,q1,fun k=>?_⟩;by_cases e:j=k;subst e;simp only[aG,yY2];exact⟨by simp,fun n l=>⟨o,rfl,by cases l;exact m⟩⟩;simp only[aG,zB2 e];exact q2 k
  have no:Gb i=false->Gb o=false->Bg h t (fun r=>K ((j,o)::r))=some r->∃c,K c=some r/\∀k,(aG c k=none↔aG ((j,o)::t) k=none)/\∀d,aG c k=some d->∃f,aG ((j,o)::t) k=some f/\UnR h k f d:=
   fun hl _ hk=>step o ⟨i,h0,.inr ⟨rfl,hl⟩⟩ hk
  cases i with
  |lst ty0 e0 g0 rows0=>
   cases o with
   |lst ty e g rows=>
    cases hfx:(dY ty&& !(dY (ty-4294967296)))with
    |false=>simp only[hfx,zP2]at hk;exact aD hk
    |true=>
     simp only[hfx,zE2]at hk;simp only[yS2,zK2]at hfx;exact step _ ⟨_,h0,.inl ⟨ty,e,g,rows,rfl,hfx.1,hfx.2,rfl⟩⟩ hk
   |_=>exact aD hk
  |box cs=>cases o with
   |lst ty e g rows=>exact aD hk
   |lz ty e dp rows=>exact aD hk
   |_=>exact no rfl rfl hk
  |mp es=>cases o with
   |lst ty e g rows=>exact aD hk
   |lz ty e dp rows=>exact aD hk
   |_=>exact no rfl rfl hk
  |fl fs=>cases o with
   |lst ty e g rows=>exact aD hk
   |lz ty e dp rows=>exact aD hk
   |_=>exact no rfl rfl hk
  |loop N e ps a b busy fin=>cases o with
   |lst ty e g rows=>exact aD hk
   |lz ty e dp rows=>exact aD hk
   |_=>exact no rfl rfl hk
  |lz ty0 e0 dp0 rows0=>cases o with
   |lst ty e g rows=>exact aD hk
   |lz ty e dp rows=>exact aD hk
   |_=>exact no rfl rfl hk
  |tr tt0 rows0 hs0=>cases o with
   |lst ty e g rows=>exact aD hk
   |lz ty e dp rows=>exact aD hk
   |_=>exact no rfl rfl hk
def eK1 {K:PV->eQ->aJ->Nat->aB R} {r:R}
  (p:cM C n h lim s) (he:dQ C e t) (N:LR (RV C) xs ys)
  (x:∀(hs:aJ) (C0:Cx) (m:Nat) (K':PV->aJ->Nat->aB (PV×aJ×Nat)) (r':PV×aJ×Nat),cM C0 m hs lim s->LR (RV C0) xs ys->run hs m K'=some r'->
   ∃v h' n' C' y s',K' v h' n'=some r'/\RV C' v y/\cM C' n' h' lim s'/\m<=n'/\Fr C0 hs s C' h' s'/\P y s')
  (hk:kA1 fx run nw xs e h n kill K=some r):
  ∃v e' h' n' C' y s',K v e' h' n'=some r/\RV C' v y/\(∀i w,eH e' i=some w->∃z,t[i]? =some z/\RV C' w z/\i∉kill)/\cM C' n' h' lim s'/\n<=n'/\Fr C h s C' h' s'/\P y s':=by
 cases fx with
 |false=>exact yL p he N x hk
 |true=>
  have hk:Sw h (fun h1=>inK run nw xs e h1 n kill fun v e h2 n=>Bg h h2 fun A=>K v e A n)=some r:=hk;obtain⟨h1,hk,u⟩:=Gc hk;have d:∀{k},aG h1 k≠none->aG h k≠none:=fun{k} hk hn=>hk (by rw[(u k).1,hn];rfl)
  have H:cM C n h1 lim s:=by
   refine⟨⟨fun k po hp=>?_,fun k k' i v1 F J v2 e2 L a1 a2 a3 a4=>p.hr.inj k k' i v1 F J v2 e2 L (d a1) (d a2) a3 a4,fun id o D=>?_,fun k id v e l a b=>p.hr.wn k id v e l (d a) b,p.hr.wb,p.hr.wz⟩,p.dom,p.wf,p.lim⟩;rw[(u k).1]at hp;cases hh:aG h k with
   |none=>rw[hh]at hp;cases hp
   |some o=>
    rw[hh]at hp;cases hp;obtain⟨pl,p1,p2⟩:=p.hr.ob k o hh;refine⟨pl,p1,?_⟩;cases o with
    |lst ty e g rows=>exact Cl p2 (Wk.trans (tR ((u k).2 _ _ _ _ hh)).symm)
    |_=>exact p2
   obtain⟨z1,z2,z3,z4⟩:=p.hr.zr id o D;exact⟨z1,z2,fun k v e l a b=>z3 k v e l (d a) b,z4⟩
  obtain⟨v,e',h',n',C',y,s',q1,q2,q3,q4,q5,q6,q7⟩:=yL H he N x hk;obtain⟨A,r1,r2⟩:=Jd q1;have c:∀{k},aG A k≠none->aG h' k≠none:=fun{k} hk hn=>hk ((r2 k).1.2 hn)
  have f:∀{id},Sz C h1 id->Sz C h id:=fun{id} q=>by
   rcases q with⟨k,v,e,l,b1,b2⟩|q;exact .inl ⟨k,v,e,l,d b1,b2⟩;exact .inr q
  refine⟨v,e',A,n',C',y,s',r1,q2,q3,⟨⟨fun k E G=>?_,fun k k' i v1 F J v2 e2 L a1 a2 a3 a4=>q4.hr.inj k k' i v1 F J v2 e2 L (c a1) (c a2) a3 a4,fun id o D=>?_,fun k id v e l a b=>q4.hr.wn k id v e l (c a) b,q4.hr.wb,q4.hr.wz⟩,q4.dom,q4.wf,q4.lim⟩,q5,⟨q6.sk,q6.n,fun id j hn=>q6.keep id j (fun q=>hn (f q)),fun id j q=>?_,fun k o B=>?_,q6.zl,fun id j D=>?_⟩,q7⟩;obtain⟨O,b1,S,b2,b3⟩:=(r2 k).2 E G;obtain⟨pl,p1,p2⟩:=q4.hr.ob k O b1;refine⟨pl,p1,?_⟩;rcases b3 with⟨ty,e,g,rows,rfl,c1,c2,rfl⟩|⟨rfl,_⟩
  exact Cl p2 ((tR c2).trans (Wl c1).symm);exact p2;obtain⟨z1,z2,z3,z4⟩:=q4.hr.zr id o D;exact⟨z1,z2,fun k v e l a b=>z3 k v e l (c a) b,z4⟩;rcases q with⟨k,v,e,l,b1,b2⟩|q;exact f (q6.own id j (.inl ⟨k,v,e,l,c b1,b2⟩));exact f (q6.own id j (.inr q));obtain⟨O,M,U⟩:=q6.kd k (fxo o) (by rw[(u k).1,B];rfl);cases hc:aG A k with
  |none=>rw[(r2 k).1.1 hc]at M;cases M
  |some E=>
   refine⟨E,rfl,fun hb=>?_⟩;obtain⟨T,b1,S,b2,b3⟩:=(r2 k).2 E hc;rw[M]at b1;cases b1;rw[B]at b2;cases b2;rcases b3 with⟨ty,e,g,rows,rfl,c1,c2,rfl⟩|⟨rfl,hl⟩
   rw[gB,c2]at hb;cases hb;obtain⟨V,W⟩:=U hb;refine⟨?_,W⟩;cases o with
   |lst ty e g rows=>simp[Gb]at hl
   |_=>exact V
  rcases q6.zn id j D with h1|h1;exact .inl h1;exact .inr (f h1)
def Pv {p}:∀{h:aJ} {K:aJ->aB R} {r:R},Oy p h K=some r->∃h1,K h1=some r/\∀k,aG h1 k=(aG h k).map (fun o=>if p k=true then fxo o else o)/\(p k=true->∀ty e g rows,aG h k=some (.lst ty e g rows)->dY ty=false)
 |[],K,r,hk=>⟨[],hk,fun k=>⟨rfl,fun _ _ _ _ _ h=>by simp[aG]at h⟩⟩
 |(j,o)::t,K,r,hk=>by
  unfold Oy at hk
  have step:∀o',o'=(if p j=true then fxo o else o)->(p j=true->∀ty e g rows,o=.lst ty e g rows->dY ty=false)->Oy p t (fun r=>K ((j,o')::r))=some r->
    ∃h1,K h1=some r/\∀k,aG h1 k=(aG ((j,o)::t) k).map (fun o=>if p k=true then fxo o else o)/\(p k=true->∀ty e g rows,aG ((j,o)::t) k=some (.lst ty e g rows)->dY ty=false):=by
   intro o' a hf hk;obtain⟨h1,q1,q2⟩:=Pv hk;refine⟨_,q1,fun k=>?_⟩;by_cases e:j=k;subst e;simp only[aG,yY2,zW2];exact⟨by rw[a],fun hp ty e g rows h=>hf hp ty e g rows (bE3 h)⟩;simp only[aG,zB2 e];exact q2 k
  cases hp:p j with
  |false=>rw[hp,zP2]at hk;exact step o (by simp[hp]) (fun h=>by rw[hp]at h;cases h) hk
  |true=>
   rw[hp,zE2]at hk;cases o with
   |lst ty e g rows=>
    cases hfx:dY ty with
    |true=>simp only[hfx,zE2]at hk;exact aD hk
    |false=>
     simp only[hfx,zP2]at hk;exact step _ (by simp[hp,fxo]) (fun _ _ _ _ _ h=>by cases h;exact hfx) hk
   |_=>exact step _ (by simp[hp,fxo]) (fun _ _ _ _ _ h=>by cases h) hk
def Gd {p}:∀{h2:aJ} {K:aJ->aB R} {r:R},vZ p h2 K=some r->∃b,K b=some r/\∀k,(aG b k=none↔aG h2 k=none)/\∀a,aG b k=some a->∃c,aG h2 k=some c/\
  ((p k=true/\∃ty e g rows,c=.lst ty e g rows/\dY ty=true/\dY (ty-4294967296)=false/\a=.lst (ty-4294967296) e g rows)\/(p k=false/\a=c))
 |[],K,r,hk=>⟨[],hk,fun k=>⟨Iff.rfl,fun _ h=>by simp[aG]at h⟩⟩
 |(j,o)::t,K,r,hk=>by
  unfold vZ at hk
  have step:∀a,((p j=true/\∃ty e g rows,o=.lst ty e g rows/\dY ty=true/\dY (ty-4294967296)=false/\a=.lst (ty-4294967296) e g rows)\/(p j=false/\a=o))->vZ p t (fun r=>K ((j,a)::r))=some r->
    ∃b,K b=some r/\∀k,(aG b k=none↔aG ((j,o)::t) k=none)/\∀a,aG b k=some a->∃c,aG ((j,o)::t) k=some c/\
     ((p k=true/\∃ty e g rows,c=.lst ty e g rows/\dY ty=true/\dY (ty-4294967296)=false/\a=.lst (ty-4294967296) e g rows)\/(p k=false/\a=c)):=by
   intro a f hk;obtain⟨b,q1,q2⟩:=Gd hk;refine⟨_,q1,fun k=>?_⟩;by_cases e:j=k;subst e;simp only[aG,yY2];exact⟨by simp,fun i d=>⟨o,rfl,by cases d;exact f⟩⟩;simp only[aG,zB2 e];exact q2 k
  cases hp:p j with
  |false=>rw[hp,zP2]at hk;exact step o (.inr ⟨hp,rfl⟩) hk
  |true=>
   rw[hp,zE2]at hk;split at hk;rename_i ty e g rows;cases hfx:(dY ty&& !(dY (ty-4294967296)))with
   |false=>simp only[hfx,zP2]at hk;exact aD hk
   |true=>
    simp only[hfx,zE2]at hk;simp only[yS2,zK2]at hfx;exact step _ (.inl ⟨hp,ty,e,g,rows,rfl,hfx.1,hfx.2,rfl⟩) hk
   exact aD hk
def eL1 {K:PV->eQ->aJ->Nat->aB R} {r:R}
  (q:cM C n h lim s) (he:dQ C e t) (O:LR (RV C) xs ys)
  (A:∀(hs:aJ) (C0:Cx) (m:Nat) (K':PV->aJ->Nat->aB (PV×aJ×Nat)) (r':PV×aJ×Nat),cM C0 m hs lim s->LR (RV C0) xs ys->run hs m K'=some r'->
   ∃v h' n' C' y s',K' v h' n'=some r'/\RV C' v y/\cM C' n' h' lim s'/\m<=n'/\Fr C0 hs s C' h' s'/\P y s')
  (hk:uE1 fx run nw xs e h n kill K=some r):
  ∃v e' h' n' C' y s',K v e' h' n'=some r/\RV C' v y/\(∀i w,eH e' i=some w->∃z,t[i]? =some z/\RV C' w z/\i∉kill)/\cM C' n' h' lim s'/\n<=n'/\Fr C h s C' h' s'/\P y s':=by
 cases fx with
 |false=>exact yL q he O A hk
 |true=>
  have hk:Oy (elN xs) h (fun h1=>inK run nw xs e h1 n kill fun v e h2 n=>vZ (elN xs) h2 fun B=>K v e B n)=some r:=hk;generalize elN xs=p at hk;obtain⟨h1,hk,x⟩:=Pv hk;have d:∀{k},aG h1 k≠none->aG h k≠none:=fun{k} hk hn=>hk (by rw[(x k).1,hn];rfl)
  have H:cM C n h1 lim s:=by
   refine⟨⟨fun k po hp=>?_,fun k k' i v1 F L v2 e2 M a1 a2 a3 a4=>q.hr.inj k k' i v1 F L v2 e2 M (d a1) (d a2) a3 a4,fun id o D=>?_,fun k id v e l a b=>q.hr.wn k id v e l (d a) b,q.hr.wb,q.hr.wz⟩,q.dom,q.wf,q.lim⟩;rw[(x k).1]at hp;cases hh:aG h k with
   |none=>rw[hh]at hp;cases hp
   |some o=>
    rw[hh]at hp;cases hp;obtain⟨pl,p1,p2⟩:=q.hr.ob k o hh;refine⟨pl,p1,?_⟩;cases hpk:p k with
    |false=>simpa[hpk]using p2
    |true=>
     simp only[zT2];cases o with
     |lst ty e g rows=>exact Cl p2 (Wk.trans (tR ((x k).2 hpk _ _ _ _ hh)).symm)
     |_=>exact p2
   obtain⟨z1,z2,z3,z4⟩:=q.hr.zr id o D;exact⟨z1,z2,fun k v e l a b=>z3 k v e l (d a) b,z4⟩
  obtain⟨v,e',h',n',C',y,s',q1,q2,q3,q4,q5,q6,q7⟩:=yL H he O A hk;obtain⟨B,r1,r2⟩:=Gd q1;have c:∀{k},aG B k≠none->aG h' k≠none:=fun{k} hk hn=>hk ((r2 k).1.2 hn)
  have f:∀{id},Sz C h1 id->Sz C h id:=fun{id} u=>by
   rcases u with⟨k,v,e,l,b1,b2⟩|u;exact .inl ⟨k,v,e,l,d b1,b2⟩;exact .inr u
  refine⟨v,e',B,n',C',y,s',r1,q2,q3,⟨⟨fun k E G=>?_,fun k k' i v1 F L v2 e2 M a1 a2 a3 a4=>q4.hr.inj k k' i v1 F L v2 e2 M (c a1) (c a2) a3 a4,fun id o D=>?_,fun k id v e l a b=>q4.hr.wn k id v e l (c a) b,q4.hr.wb,q4.hr.wz⟩,q4.dom,q4.wf,q4.lim⟩,q5,⟨q6.sk,q6.n,fun id j hn=>q6.keep id j (fun u=>hn (f u)),fun id j u=>?_,fun k o J=>?_,q6.zl,fun id j D=>?_⟩,q7⟩;obtain⟨S,b1,b3⟩:=(r2 k).2 E G;obtain⟨pl,p1,p2⟩:=q4.hr.ob k S b1;refine⟨pl,p1,?_⟩;rcases b3 with⟨_,ty,e,g,rows,rfl,c1,c2,rfl⟩|⟨_,rfl⟩
  exact Cl p2 ((tR c2).trans (Wl c1).symm);exact p2;obtain⟨z1,z2,z3,z4⟩:=q4.hr.zr id o D;exact⟨z1,z2,fun k v e l a b=>z3 k v e l (c a) b,z4⟩;rcases u with⟨k,v,e,l,b1,b2⟩|u;exact f (q6.own id j (.inl ⟨k,v,e,l,c b1,b2⟩));exact f (q6.own id j (.inr u));obtain⟨S,N,V⟩:=q6.kd k (if p k=true then fxo o else o) (by rw[(x k).1,J];rfl);cases hc:aG B k with
  |none=>rw[(r2 k).1.1 hc]at N;cases N
  |some E=>
   refine⟨E,rfl,fun hb=>?_⟩;obtain⟨U,b1,b3⟩:=(r2 k).2 E hc;rw[N]at b1;cases b1;rcases b3 with⟨_,ty,e,g,rows,rfl,c1,c2,rfl⟩|⟨hpk,rfl⟩
   rw[gB,c2]at hb;cases hb;obtain⟨T,W⟩:=V hb;rw[hpk]at T;exact⟨T,W⟩
  rcases q6.zn id j D with h1|h1;exact .inl h1;exact .inr (f h1)
end
end Go.P
namespace Go.P
open Go.Sim (AV AO Hp fQ upd St IC IX Ex gC CK Wf Out doOp jW exec)
variable {d g i k lim n o:Nat} {e:eQ}
section
variable {R:Type} {C:Cx} {h:aJ} {s:Hp}
def Je:∀h k a b,cC (cC h k a) k b=cC h k b
 |[],_,_,_=>rfl
 |(j,o)::r,k,a,b=>by
  by_cases e:j=k
  simp[cC,e]
  simp[cC,e,Je r k a b]
def Za {h} {j k} {o b} (e:j≠k):cC ((j,o)::h) k b=(j,o)::cC h k b:=by simp[cC,e]
def eM1 (m:cM C n h lim s) {k} {po po'} (hg:aG h k=some po) (u:∀pl,C k=some pl->fI C (Sim.look s.h) lim s.n po pl->fI C (Sim.look s.h) lim s.n po' pl) (hb:gB po'=true->gB po=true):
  cM C n (cC h k po') lim s/\Fr C h s C (cC h k po') s:=by
 have c:∀j,aG (cC h k po') j=if j=k then some po' else aG h j:=fun j=>by
  rw[dI];simp[hg]
 have g:∀j,aG (cC h k po') j≠none->aG h j≠none:=fun j f=>by
  rw[c]at f;split at f;rename_i d;subst d;rw[hg];simp;exact f
 refine⟨⟨⟨fun j o f=>?_,fun j q i v1 d p v2 e2 z h1 h2 r t=>m.hr.inj j q i v1 d p v2 e2 z (g j h1) (g q h2) r t,fun i o w=>?_,fun j i v1 d p h1 h2=>m.hr.wn j i v1 d p (g j h1) h2,m.hr.wb,m.hr.wz⟩,m.dom,m.wf,m.lim⟩,⟨.refl _ _,yX2 _,fun _ _ _=>rfl,fun i hi hn=>?_,fun j o f=>?_,fun _ _ h=>h,fun _ _ h=>.inl h⟩⟩;rw[c]at f;split at f;rename_i d;subst d;cases f;obtain⟨pl,p1,p2⟩:=m.hr.ob j _ hg;exact⟨pl,p1,u pl p1 p2⟩;exact m.hr.ob j o f;obtain⟨z1,z2,z3,z4⟩:=m.hr.zr i o w;exact⟨z1,z2,fun j v e l a b=>z3 j v e l (g j a) b,z4⟩;rcases hn with⟨j,v1,d,p,x,y⟩|hn;exact .inl ⟨j,v1,d,p,g j x,y⟩;exact .inr hn;rw[c];by_cases d:j=k;subst d;rw[hg]at f;cases f;exact⟨po',by simp,fun h=>⟨hb h,rfl⟩⟩;exact⟨o,by simp[d,f],fun h=>⟨h,rfl⟩⟩
def Jf (C:Cx) (n:Nat) (pl:Pl):Cx:=⟨fun k=>if k=n then some pl else C k,C.z,fun o=>match pl with
 |.atp id _ _ _=>if o=id then none else C.w o
 |.nil=>C.w o⟩
def eN1 (a:cM C n h lim s) (pl:Pl):C.le (Jf C n pl):=⟨fun k q hk=>by
 have:=a.dom k q hk
 show(if k=n then some pl else C k)=_
 rw[zB2 (by omega)]
 exact hk,fun _ _ h=>h⟩
def uX1 {ty e} {ks} (h:vA (.nd ty e ks)=false):Vl ty=ty:=by
 unfold Vl;simp only[vA]at h;rw[h];rfl
def Th {ty} (h:dY ty=false):Vl ty=ty:=by
 unfold Vl;unfold dY at h
 have:Nat.ble 8589934592 ty=false:=by
  cases hb:Nat.ble 8589934592 ty with
  |false=>rfl
  |true=>have:=zH2 hb;rw[Nat.ble_eq_true_of_le (by omega)]at h;cases h
 rw[this];rfl
def kP1 (A:cM C n h lim s) {k id ver e2 len ty i j} {ks} {rows} {hs} {row} {els} {row'} {t'} {e'} {rows'} {y}
  (hg:aG h k=some (.tr (.nd ty e2 ks) rows hs)) (O:C k=some (.atp id ver e2 len)) (hL:Sim.look s.h id=some (.arr false ty e2 ver els)) (hi:rows[i]? =some row) (T:els[i]? =some row')
  (hk:eZ ks j=some t') (hj:row[j]? =some (.is e' rows')) (V:row'[j]? =some y) (Z:¬Bw hs i j) (Y:vA t'=false):
  ∃pl,cM (Jf C n pl) (n+1) ((n,Bv t' rows')::cC h k (.tr (.nd ty e2 ks) rows ((j,i,.own n)::hs))) lim s/\Fr C h s (Jf C n pl) ((n,Bv t' rows')::cC h k (.tr (.nd ty e2 ks) rows ((j,i,.own n)::hs))) s/\RV (Jf C n pl) (.own n) y:=by
 obtain⟨W,U,_,hlen,b0,b9,d,R,b5,hr⟩:=kZ A hg O;rw[hL]at R;cases R;have d0:k≠n:=by have:=A.dom k _ O;omega
 have c:=(hr i row row' hi T).2 j _ y hj V;have G:=A.hr.wn k id _ _ _ (by rw[hg];simp) O;unfold TC at c;rw[hk]at c;rcases c with⟨h1,_⟩|⟨_,c⟩
 exact absurd h1 Z;cases d with
 |zero=>exact c.elim
 |succ d=>
 obtain⟨ty',e3,m⟩:=t';rcases c with⟨c,_⟩|⟨rows0,hr0,c⟩
 rw[Y]at c;cases c;cases hr0;have b8:Vl ty'=ty':=uX1 Y;rw[b8]at c
 have M:∀(pl:Pl),(∀id' v e l,pl=.atp id' v e l->C.w id'=some (id,i,j)/\id'<s.n/\lim<=id')->RV (Jf C n pl) (.own n) y->fI (Jf C n pl) (Sim.look s.h) lim s.n (Bv (.nd ty' e' m) rows') pl->
   ∃pl,cM (Jf C n pl) (n+1) ((n,Bv (.nd ty' e' m) rows')::cC h k (.tr (.nd ty e2 ks) rows ((j,i,.own n)::hs))) lim s/\Fr C h s (Jf C n pl) ((n,Bv (.nd ty' e' m) rows')::cC h k (.tr (.nd ty e2 ks) rows ((j,i,.own n)::hs))) s/\RV (Jf C n pl) (.own n) y:=by
  intro pl K hy b6;have N:=eN1 A pl;have F:Jf C n pl n=some pl:=yY2 rfl;have f:∀a,a≠n->Jf C n pl a=C a:=fun a p=>zB2 p
  have L:∀o,(Jf C n pl).w o≠none->C.w o≠none:=fun o g=>by
   cases pl with
   |nil=>exact g
   |atp id' v e l=>
    have g:(if o=id' then none else C.w o)≠none:=g;split at g;exact absurd rfl g;exact g
  have a0:∀o sl,C.w o=some sl->sl≠(id,i,j)->(Jf C n pl).w o=some sl:=fun o sl g hn=>by
   cases pl with
   |nil=>exact g
   |atp id' v e l=>
    show(if o=id' then none else C.w o)=_
    split;rename_i u;subst u;rw[(K o v e l rfl).1]at g;cases g;exact absurd rfl hn;exact g
  have hW:∀o sl,C.w o=some sl->¬(sl.1=id)->(Jf C n pl).w o=some sl/\Sim.look s.h o=Sim.look s.h o:=fun o sl g hn=>⟨a0 o sl g fun h=>hn (by rw[h]),rfl⟩
  have hB:∀b,b=id->C.w b=none:=fun b hb=>by rw[hb];exact G
  have D:∀a,aG ((n,Bv (.nd ty' e' m) rows')::cC h k (.tr (.nd ty e2 ks) rows ((j,i,.own n)::hs))) a=if a=n then some (Bv (.nd ty' e' m) rows')else if a=k then some (.tr (.nd ty e2 ks) rows ((j,i,.own n)::hs))else aG h a:=fun a=>by
   simp only[aG];by_cases u:n=a;subst u;simp;rw[zB2 u,zB2 (Ne.symm u),dI];simp[hg]
  have E:∀a,aG ((n,Bv (.nd ty' e' m) rows')::cC h k (.tr (.nd ty e2 ks) rows ((j,i,.own n)::hs))) a≠none->a≠n->aG h a≠none:=fun a p hn=>by
   rw[D,zB2 hn]at p;split at p;rename_i u;subst u;rw[hg];simp;exact p
  have named:∀a id' v e l v' e0 l',pl=.atp id' v e l->aG h a≠none->C a≠some (.atp id' v' e0 l'):=fun a id' v e l v' e0 l' hp p hc=>by
   have:=A.hr.wn a id' _ _ _ p hc;rw[(K id' v e l hp).1]at this;cases this
  refine⟨pl,⟨⟨fun a o p=>?_,fun a a' x v1 u l1 v2 e2 l2 h1 h2 h3 h4=>?_,fun x o hz=>?_,fun a x v1 u l1 h1 h2=>?_,fun x sl hw=>?_,fun x o hz=>?_⟩,fun a q p=>?_,A.wf,A.lim⟩,⟨.refl _ _,yX2 _,fun _ _ _=>rfl,fun x t g=>?_,fun a o p=>?_,fun _ _ h=>h,fun _ _ h=>.inl h⟩,hy⟩;rw[D]at p;split at p;rename_i u;subst u;cases p;exact⟨pl,F,b6⟩;rename_i u;split at p;rename_i e3;subst e3;cases p;refine⟨_,(f a u).trans O,W,U,rfl,hlen,b0,els,d+1,hL,b5,fun i2 r r' c1 c2=>⟨(hr i2 r r' c1 c2).1,fun j2 x b c3 c4=>?_⟩⟩;have:=(hr i2 r r' c1 c2).2 j2 x b c3 c4;unfold TC at this ⊢;cases hkd:eZ ks j2 with
  |none=>rw[hkd]at this;exact this
  |some t2=>
   rw[hkd]at this;simp only at this ⊢;by_cases J:i2=i/\j2=j;obtain⟨rfl,rfl⟩:=J;refine .inl ⟨⟨_,List.mem_cons_self ..⟩,fun x t=>?_⟩;rcases zF2.1 t with t|t;cases t;rw[T]at c2;cases c2;rw[V]at c4;cases c4;exact hy;exact absurd ⟨x,t⟩ Z;rcases this with⟨⟨x,a1⟩,a2⟩|⟨a1,a2⟩
   refine .inl ⟨⟨x,aC3 _ a1⟩,fun x t=>?_⟩;rcases zF2.1 t with t|t;cases t;exact absurd ⟨rfl,rfl⟩ J;exact(a2 x t).mono N;refine .inr ⟨fun⟨x,t⟩=>?_,eL.move (yX2 _) hB hW (fun o g=>⟨a0 o _ g fun h=>?_,rfl⟩) a2⟩;rcases zF2.1 t with t|t;cases t;exact J ⟨rfl,rfl⟩;exact a1 ⟨x,t⟩;cases h;exact J ⟨rfl,rfl⟩
  rename_i e3;obtain⟨q,p1,p2⟩:=A.hr.ob a o p;refine⟨q,(f a u).trans p1,fI.monoB (C:=C) (C':=Jf C n pl) (yX2 _) N (B:=fun b=>b=id) hB hW (fun id' v e l hp hb=>?_) (fun _ _ _ _ _=>rfl) p2⟩;subst hp;subst hb;exact e3 (A.hr.inj a k id' _ _ _ _ _ _ (by rw[p];simp) (by rw[hg];simp) p1 O);by_cases b1:a=n;by_cases b2:a'=n;rw[b1,b2];exfalso;subst b1;rw[F]at h3;exact named a' x _ _ _ _ _ _ (bE3 h3) (E a' h2 b2) ((f a' b2).symm.trans h4);by_cases b2:a'=n;exfalso;subst b2;rw[F]at h4;exact named a x _ _ _ _ _ _ (bE3 h4) (E a h1 b1) ((f a b1).symm.trans h3);exact A.hr.inj a a' x _ _ _ _ _ _ (E a h1 b1) (E a' h2 b2) ((f a b1).symm.trans h3) ((f a' b2).symm.trans h4);obtain⟨z1,z2,z3,z4⟩:=A.hr.zr x o hz;refine⟨z1,z2,fun a v e l h1 h2=>?_,z4⟩;by_cases b1:a=n;subst b1;rw[F]at h2;have h2:=bE3 h2;have:=A.hr.wz x o hz;rw[(K x _ _ _ h2).1]at this;cases this;exact z3 a v e l (E a h1 b1) ((f a b1).symm.trans h2);by_cases b1:a=n;subst b1;rw[F]at h2;have h2:=bE3 h2;subst h2;exact yY2 rfl;have:=A.hr.wn a x v1 u l1 (E a h1 b1) ((f a b1).symm.trans h2);cases hc:(Jf C n pl).w x with
  |none=>rfl
  |some sl=>exact absurd this (L x (by rw[hc];simp))
  cases hc:C.w x with
  |none=>exact absurd hc (L x (by rw[hw];simp))
  |some sl'=>
   have hb:=A.hr.wb x sl' hc
   have:sl=sl':=by
    cases pl with
    |nil=>have hw:C.w x=some sl:=hw;rw[hc]at hw;cases hw;rfl
    |atp id' v e l=>
     have hw:(if x=id' then none else C.w x)=some sl:=hw;split at hw;cases hw;rw[hc]at hw;cases hw;rfl
   rw[this];exact hb
  have:=A.hr.wz x o hz;cases hc:(Jf C n pl).w x with
  |none=>rfl
  |some sl=>exact absurd this (L x (by rw[hc];simp))
  by_cases b1:a=n;omega;have:=A.dom a q ((f a b1).symm.trans p);omega;rcases g with⟨a,v1,u,l1,k1,H⟩|g;by_cases b1:a=n;subst b1;rw[F]at H;have H:=bE3 H;exact .inr (by rw[(K x _ _ _ H).1];simp);exact .inl ⟨a,v1,u,l1,E a k1 b1,(f a b1).symm.trans H⟩;exact .inr (L x g);have S:a≠n:=fun u=>by rw[u,uF A (yX2 _)]at p;cases p
  rw[D,zB2 S];by_cases b1:a=k;subst b1;exact⟨_,yY2 rfl,fun hb=>by cases hb⟩;exact⟨o,by rw[zB2 b1];exact p,fun hb=>⟨hb,f a S⟩⟩
 have X:∀{P:cS->Prop},(m=[]->P (.lst ty' e' true rows'))->P (.tr (.nd ty' e' m) rows' [])->P (Bv (.nd ty' e' m) rows'):=fun{P} h1 h2=>by
  unfold Bv;cases m with
  |nil=>exact h1 rfl
  |cons a b=>exact h2
 rcases c with⟨b7,rfl⟩|⟨id',ver',els',rfl,H,k3,k4,kf,k5,k6,k7⟩
 subst b7;exact M .nil (fun _ _ _ _ h=>by cases h) (.ownn (yY2 rfl) rfl) (X (P:=fun o=>fI (Jf C n .nil) (Sim.look s.h) lim s.n o .nil) (fun _=>rfl) ⟨rfl,rfl⟩);refine M (.atp id' ver' e' rows'.length) (fun d2 v e l h=>by cases h;exact⟨H,k4,k3⟩) (.own (yY2 rfl)) (X (P:=fun o=>fI (Jf C n (.atp id' ver' e' rows'.length)) (Sim.look s.h) lim s.n o (.atp id' ver' e' rows'.length)) (fun b4=>?_) ?_);subst b4;refine⟨k3,k4,rfl,rfl,els',by rw[tR kf];exact k5,⟨by simp[bL3 k6.1],fun a r r' c1 c2=>⟨(k7 a r r' c1 (qR c2)).1,fun b x z c3 c4=>(k7 a r r' c1 (qR c2)).2 b x z c3 c4⟩⟩,k6,fun h=>by cases h⟩;refine⟨k3,k4,rfl,rfl,kf,els',d,k5,k6,fun a r r' c1 c2=>⟨(k7 a r r' c1 c2).1,fun b x z c3 c4=>?_⟩⟩;have:=(k7 a r r' c1 c2).2 b x z c3 c4;unfold TC;cases hkd:eZ m b with
 |none=>rw[hkd]at this;exact this
 |some t2=>
  rw[hkd]at this;refine .inr ⟨fun⟨x,t⟩=>(by cases t),eL.mono (yX2 _) (B:=fun b=>b=id) (fun b hb=>by rw[hb];exact G) (fun o sl g hn=>⟨?_,rfl⟩) (fun hb=>?_) this⟩;show(if o=id' then none else C.w o)=_
  rw[zB2 (fun hc=>by rw[hc,H]at g;cases g;exact hn rfl)];exact g;have hb:id'=id:=hb;rw[hb,G]at H;cases H
def yM {k id ver ty e2 len i o} {ks} {rows} {row} {els} {row' cells} {cs0} (B:Sim.look s.h id=some (.arr false ty e2 ver els)) (hi:rows[i]? =some row) (g:els[i]? =some row')
  (h0:∀q a,cs0[q]? =some a->row[o+q]? =some a) (hc:∀q b,cells[q]? =some b->row'[o+q]? =some b):
  ∀(js:aA Nat) (cs:aA PV) (hs:aA (Nat×Nat×PV)) (h:aJ) (n:Nat) (C:Cx) (K:aA PV->aA (Nat×Nat×PV)->aJ->Nat->aB R) (r:R),Oq ks i o cs0 js cs hs h n K=some r->
   cM C n (cC h k (.tr (.nd ty e2 ks) rows hs)) lim s->(aG h k).isSome=true->C k=some (.atp id ver e2 len)->LR (RV C) cs cells->
   ∃cs' c h' n' C',K cs' c h' n'=some r/\cM C' n' (cC h' k (.tr (.nd ty e2 ks) rows c)) lim s/\Fr C (cC h k (.tr (.nd ty e2 ks) rows hs)) s C' (cC h' k (.tr (.nd ty e2 ks) rows c)) s/\C.le C'/\n<=n'/\LR (RV C') cs' cells
 |[],cs,hs,h,n,C,K,r,hk,hM,hg,hC,hl=>⟨cs,hs,h,n,C,hk,hM,.refl _ _ _,.refl _,yX2 _,hl⟩
 |j::js,cs,hs,h,n,C,K,r,hk,hM,hg,hC,hl=>by
  unfold Oq at hk
  cases hkd:eZ ks j with
  |none=>rw[hkd]at hk;exact aD hk
  |some t=>
   rw[hkd]at hk
   simp only at hk
   cases l:Nat.ble o j with
   |false=>rw[l]at hk;exact aD hk
   |true=>
    rw[l,zE2]at hk
    have l:=zH2 l
    have v:aG (cC h k (.tr (.nd ty e2 ks) rows hs)) k=some (.tr (.nd ty e2 ks) rows hs):=by rw[dI];simp[hg]
    obtain⟨_,_,_,_,_,M,d,u,f,hr⟩:=kZ hM v hC
    rw[B]at u
    cases u
    obtain⟨q1,q2⟩:=hr i row row' hi g
    have put:∀{C':Cx} {x:PV} {cs2:aA PV},C.le C'->(∀b,cells[j-o]? =some b->RV C' x b)->cs2=Sim.setL cs (j-o) [x]->LR (RV C') cs2 cells:=fun{C' x cs2} f H he=>by
     rw[he]
     refine⟨by rw[mF];exact hl.1,fun a U b c1 c2=>?_⟩
     by_cases A:a=j-o
     subst A
     have O:j-o<cs.length:=by rw[hl.1];exact(yT2.1 c2).1
     rw[rU (by simp;omega) (yX2 _) (by simp)]at c1
     simp at c1
     rw[<-c1]
     exact H b c2
     rw[kJ (by simp;omega)]at c1
     exact(hl.2 a U b c1 c2).mono f
    cases hcol:Fc hs j with
    |some p=>
     obtain⟨V,x⟩:=p
     rw[hcol]at hk
     simp only at hk
     obtain⟨A,G⟩:=Fk hk
     subst A
     obtain⟨P,z⟩:=jC _ _ _ _ _ G
     have N:=(uH hcol).1
     obtain⟨cs',c,h',n',C',p1,p2,p3,p4,p5,p6⟩:=yM B hi g h0 hc js _ hs h n C K r z hM hg hC (put (.refl C) (fun b hb=>by
      have e:=hc _ _ hb
      rw[show o+(j-o)=j by omega]at e
      have F:=(yT2.1 e).1
      have:=q2 j (row[j]'(by omega)) b (by simp) e
      unfold TC at this
      rw[hkd]at this
      rcases this with⟨_,a2⟩|⟨a1,_⟩
      exact a2 x N
      exact absurd ⟨x,N⟩ a1) rfl)
     exact⟨cs',c,h',n',C',p1,p2,p3,p4,p5,p6⟩
    |none=>
     rw[hcol]at hk
     simp only at hk
     cases hnf:vA t with
     |true=>rw[hnf]at hk;exact aD hk
     |false=>
     rw[hnf,zP2]at hk
     obtain⟨P,z⟩:=dZ _ _ _ _ hk
     split at z
     rename_i e' rows' tl E
     obtain⟨W,S⟩:=jC _ _ _ _ _ z
     have D:cs0[j-o]? =some (.is e' rows'):=by
      have:(cs0.drop (j-o))[0]? =some (.is e' rows'):=by rw[E];rfl
      simpa using this
     have m:=h0 _ _ D;rw[show o+(j-o)=j by omega]at m;have F:=(yT2.1 m).1;have y:row'[j]? =some (row'[j]'(by omega)):=by simp
     obtain⟨pl,J,L,T⟩:=kP1 hM v hC B hi g hkd m y (fun⟨x,H⟩=>uG hcol i x H) hnf;rw[Je]at J L;have w:n≠k:=fun A=>by have:=hM.dom k _ hC;omega
     rw[<-Za (o:=Bv t rows') w]at J L;have f:=eN1 hM pl
     obtain⟨cs',c,h',n',C',p1,p2,p3,p4,p5,p6⟩:=yM B hi g h0 hc js _ _ _ (n+1) (Jf C n pl) K r S J (by simp only[aG];rw[zB2 w];exact hg) (f.1 _ _ hC) (put f (fun b hb=>by
      have e:=hc _ _ hb;rw[show o+(j-o)=j by omega,y]at e;cases e;exact T) rfl)
     exact⟨cs',c,h',n',C',p1,p2,L.trans p3,f.trans p4,by omega,p6⟩;exact aD z
def Jg:∀{hs} {d j i},vY hs d=some (j,i)->(j,i,.own d)∈hs/\(∀q,q∈vL hs d->q∈hs)/\∀b c y,¬(b=i/\c=j)->(c,b,y)∈hs->(c,b,y)∈vL hs d
 |[],_,_,_,h=>by cases h
 |(j1,i1,x)::r,d,j,i,h=>by
  have skip:∀{l},vY r d=some (j,i)->l=(j1,i1,x)::vL r d->(j,i,PV.own d)∈(j1,i1,x)::r/\(∀q,q∈l->q∈(j1,i1,x)::r)/\∀b c y,¬(b=i/\c=j)->(c,b,y)∈(j1,i1,x)::r->(c,b,y)∈l:=fun{l} h h2=>by
   obtain⟨p1,p2,p3⟩:=Jg h
   subst h2
   refine⟨aC3 _ p1,fun q f=>?_,fun b c y hn a=>?_⟩
   rcases zF2.1 f with f|f
   rw[f];exact List.mem_cons_self ..
   exact aC3 _ (p2 q f)
   rcases zF2.1 a with a|a
   rw[a];exact List.mem_cons_self ..
   exact aC3 _ (p3 b c y hn a)
  cases x with
  |own k=>
   by_cases e:k=d
   subst e
   simp only[vY,aW,aS3,zE2]at h
   cases h
   simp only[vL,aW,aS3,zE2]
   refine⟨List.mem_cons_self ..,fun q f=>aC3 _ f,fun b c y hn a=>?_⟩
   rcases zF2.1 a with a|a
   cases a;exact absurd ⟨rfl,rfl⟩ hn
   exact a
   simp only[vY,aW,zO2 e,zP2]at h
   exact skip h (by simp only[vL,aW,zO2 e,zP2])
  |_=>exact skip h rfl
def clC (C:Cx) (a:Nat) (sl:Nat×Nat×Nat) (id:Nat):Cx:=⟨fun k=>if k=a then some .nil else C k,C.z,fun o=>if o=id then some sl else C.w o⟩
def eO1:∀{ks} {j} {t},(ks.all fun q=>vA q.2)=true->eZ ks j=some t->vA t=true
 |[],_,_,_,h=>by cases h
 |(a,t)::r,j,t',h,hk=>by
  simp only[aR3,yS2]at h
  unfold eZ at hk
  cases hb:Nat.beq a j with
  |true=>rw[hb,zE2]at hk;cases hk;exact h.1
  |false=>rw[hb,zP2]at hk;exact eO1 h.2 hk
def Zb {a:TD} {ob:cS} {K:Nat->aA (aA PV)->aB R} {r:R} (h:uA1 a ob K=some r):∃ty e ks rows,a=.nd ty e ks/\K e rows=some r/\((∃g,ob=.lst (Vl ty) e g rows/\dY (Vl ty)=false/\ks=[])\/ob=.tr a rows []):=by
 unfold uA1 at h;split at h;rename_i ty e g rows;cases hf:dY ty with
 |true=>rw[hf]at h;exact aD h
 |false=>
  rw[hf,zP2]at h;cases ht:Kp 2 (.nd (bif vA a then ty+8589934592 else ty) e []) a with
  |false=>rw[ht]at h;exact aD h
  |true=>
   rw[ht,zE2]at h;have:=Cj ht
   have b:Vl (bif vA a then ty+8589934592 else ty)=ty:=by
    cases hz:vA a with
    |true=>unfold Vl;rw[zE2,Nat.ble_eq_true_of_le (by omega),zE2];omega
    |false=>exact Th hf
   exact⟨_,e,[],rows,this.symm,h,.inl ⟨g,by rw[b],by rw[b];exact hf,rfl⟩⟩
 rename_i c rows;cases ht:Kp 8 c a with
 |false=>rw[ht]at h;exact aD h
 |true=>
  rw[ht,zE2]at h;have:=Cj ht;subst this;obtain⟨ty,e,ks⟩:=c;exact⟨ty,e,ks,rows,rfl,h,.inr rfl⟩
 exact aD h
def eP1 (A:cM C n h lim s) {kp c id ver e2 len ty i j} {ks} {rows rows2} {hs u} {t'} {e'} {rows'} {ob} {h2}
  (hg:aG h kp=some (.tr (.nd ty e2 ks) rows hs)) (hC:C kp=some (.atp id ver e2 len)) (d8:vY hs c=some (j,i)) (hkd:eZ ks j=some t')
  (k:aG h c=some ob) (e7:∃ty' O,t'=.nd ty' e' O/\((∃g,ob=.lst (Vl ty') e' g rows'/\dY (Vl ty')=false/\O=[])\/ob=.tr t' rows' [])) (F:oS rows i j [.is e' rows']=some rows2) (hkl:tQ c h h2)
  (Z:∀i j,(Bw (vL hs c) i j->Bw u i j)/\∀x',(j,i,x')∈u->∃x,(j,i,x)∈vL hs c/\∀{C C'} {y},kA c C C'->RV C x y->RV C' x' y):
  ∃C',kA c C C'/\cM C' n (cC (cC h2 c (.lst 0 0 true [])) kp (.tr (.nd ty e2 ks) rows2 u)) lim s/\Fr C h s C' (cC (cC h2 c (.lst 0 0 true [])) kp (.tr (.nd ty e2 ks) rows2 u)) s:=by
 obtain⟨e6,b4,_,hlen,f2,els,d,hL,e5,hr⟩:=kZ A hg hC;obtain⟨ty',O,rfl,d0⟩:=e7
 have d2:kp≠c:=fun p=>by
  subst p;rw[hg]at k;cases k;rcases d0 with⟨g,h1,_⟩|h1;cases h1;cases h1;cases d8
 obtain⟨hm,b7,f1⟩:=Jg d8;unfold oS at F;split at F;rename_i row hi;split at F;rename_i f3;cases F;simp only[zZ2,zJ2]at f3;obtain⟨G,d9⟩:=Ab e5 hi;obtain⟨q1,q2⟩:=hr i row G hi d9;have e8:G[j]? =some (G[j]'(by omega)):=by simp
 have b5:∀x,(j,i,x)∈hs->RV C x (G[j]'(by omega)):=fun x hx=>by
  have:=q2 j (row[j]'(by omega)) _ (by simp) e8;unfold TC at this;rw[hkd]at this;rcases this with⟨_,a2⟩|⟨a1,_⟩
  exact a2 _ hx;exact absurd ⟨_,hx⟩ a1
 have hy:=b5 _ hm;have f9:=A.hr.wn kp id _ _ _ (by rw[hg];simp) hC
 have d6:(aG h2 c).isSome=true:=by
  cases hc:aG h2 c with
  |none=>rw[(hkl.1 c).1 hc]at k;cases k
  |some o=>rfl
 have d7:(aG h2 kp).isSome=true:=by
  cases hc:aG h2 kp with
  |none=>rw[(hkl.1 kp).1 hc]at hg;cases hg
  |some o=>rfl
 have L:∀a,aG (cC (cC h2 c (.lst 0 0 true [])) kp (.tr (.nd ty e2 ks) (rows.set i (Sim.setL row j [.is e' rows'])) u)) a=if a=kp then some (.tr (.nd ty e2 ks) (rows.set i (Sim.setL row j [.is e' rows'])) u)else if a=c then some (.lst 0 0 true [])else aG h2 a:=fun a=>by
  rw[dI,dI,dI];by_cases p:a=kp;subst p;simp[d2,d7];by_cases e3:a=c;subst e3;simp[Ne.symm d2,d6];simp[p,e3]
 have M:∀a,aG (cC (cC h2 c (.lst 0 0 true [])) kp (.tr (.nd ty e2 ks) (rows.set i (Sim.setL row j [.is e' rows'])) u)) a≠none->aG h a≠none:=fun a m=>by
  rw[L]at m;split at m;rename_i p;subst p;rw[hg];simp;split at m;rename_i p;subst p;rw[k];simp;exact fun hc=>m ((hkl.1 a).2 hc)
 have P:∀(C':Cx) (D:Nat),C' c=some .nil->(∀a,a≠c->C' a=C a)->C'.z=C.z->(∀o sl,C.w o=some sl->C'.w o=some sl)->(∀o sl,C'.w o=some sl->C.w o=some sl\/(sl=(id,i,j)/\∃v e l,C c=some (.atp o v e l)))->
   eL (Sim.look s.h) C'.w lim s.n D (id,i,j) (.nd ty' e' O) (.is e' rows') (G[j]'(by omega))->
   ∃C',kA c C C'/\cM C' n (cC (cC h2 c (.lst 0 0 true [])) kp (.tr (.nd ty e2 ks) (rows.set i (Sim.setL row j [.is e' rows'])) u)) lim s/\Fr C h s C' (cC (cC h2 c (.lst 0 0 true [])) kp (.tr (.nd ty e2 ks) (rows.set i (Sim.setL row j [.is e' rows'])) u)) s:=by
  intro C' D d4 q hz U b0 b6;have H:kA c C C':=⟨q,fun _ _ h=>by rw[hz];exact h⟩
  have S:∀{a x v e l},C' a=some (.atp x v e l)->a≠c/\C a=some (.atp x v e l):=fun{a x v e l} m=>by
   by_cases b:a=c;subst b;rw[d4]at m;cases m;exact⟨b,(q a b).symm.trans m⟩
  have d3:∀{o pl},fI ⟨C'.f,C'.z,C.w⟩ (Sim.look s.h) lim s.n o pl->fI C' (Sim.look s.h) lim s.n o pl:=fun{o pl} T=>
   fI.mono (C:=⟨C'.f,C'.z,C.w⟩) (C':=C') (yX2 _) ⟨fun _ _ h=>h,fun _ _ h=>h⟩ (fun _ _ _ _ _=>rfl) (fun o sl h=>⟨U o sl h,rfl⟩) T
  refine⟨C',H,⟨⟨fun a o m=>?_,fun a a' x v1 p l1 v2 e3 l2 a1 a2 a3 a4=>A.hr.inj a a' x v1 p l1 v2 e3 l2 (M a a1) (M a' a2) (S a3).2 (S a4).2,fun x o N=>?_,fun a x v1 p l1 a1 a2=>?_,fun x sl hw=>?_,fun x o N=>?_⟩,fun a pl m=>?_,A.wf,A.lim⟩,⟨.refl _ _,yX2 _,fun _ _ _=>rfl,fun x hx T=>?_,fun a o m=>?_,fun _ _ h=>by rw[hz];exact h,fun x hx h=>.inl (by rw[hz]at h;exact h)⟩⟩;rw[L]at m;split at m;rename_i p;subst p;cases m;refine⟨_,(q a d2).trans hC,e6,b4,rfl,by simpa using hlen,f2,els,max d D,hL,by simpa using e5,fun Y r r' c1 c2=>?_⟩
  have old:∀{r0},rows[Y]? =some r0->∀(b:Nat) (x:PV) (z:AV),r0[b]? =some x->r'[b]? =some z->¬(Y=i/\b=j)->TC C' (Sim.look s.h) lim s.n (max d D) id ks u Y b x z:=fun{r0} g1 b x z g2 g3 g4=>by
   have:=((hr Y r0 r' g1 c2).2 b x z g2 g3).upd (Nat.le_max_left d D);unfold TC at this ⊢;cases hkd2:eZ ks b with
   |none=>rw[hkd2]at this;exact this
   |some t2=>
    rw[hkd2]at this;simp only at this ⊢;rcases this with⟨⟨y,a1⟩,a2⟩|⟨a1,a2⟩
    refine .inl ⟨(Z Y b).1 ⟨y,f1 Y b y g4 a1⟩,fun y' W=>?_⟩;obtain⟨y,p1,p2⟩:=(Z Y b).2 y' W;exact p2 H (a2 y (b7 _ p1));refine .inr ⟨fun⟨y',W⟩=>?_,eL.mono (yX2 _) (B:=fun _=>False) (fun _ h=>h.elim) (fun o sl h _=>⟨U o sl h,rfl⟩) (fun h=>h) a2⟩;obtain⟨y,p1,_⟩:=(Z Y b).2 y' W;exact a1 ⟨y,b7 _ p1⟩
  rw[zS2]at c1;by_cases b8:i=Y;subst b8;have e4:=(yT2.1 hi).1;rw[yY2 rfl,yY2 e4]at c1;cases c1;rw[d9]at c2;cases c2;refine⟨by rw[mF];exact q1,fun b x z c3 c4=>?_⟩;by_cases d5:b=j;subst d5;rw[rU (by simp;omega) (yX2 _) (by simp)]at c3;simp at c3;subst c3;rw[e8]at c4;cases c4;unfold TC;rw[hkd];simp only;by_cases hh:Bw u i b;refine .inl ⟨hh,fun y' W=>?_⟩;obtain⟨y,p1,p2⟩:=(Z i b).2 y' W;exact p2 H (b5 y (b7 _ p1));exact .inr ⟨hh,b6.up (Nat.le_max_right d D)⟩;rw[kJ (by simp;omega)]at c3;exact old hi b x z c3 c4 (fun h=>d5 h.2);rw[zB2 b8]at c1;exact⟨(hr Y r r' c1 c2).1,fun b x z c3 c4=>old c1 b x z c3 c4 (fun h=>b8 h.1.symm)⟩;rename_i g5;split at m;rename_i p;subst p;cases m;exact⟨.nil,d4,rfl⟩;rename_i f0;obtain⟨o0,p1,p2,p3⟩:=hkl.2 a o m;obtain⟨pl,p4,p5⟩:=A.hr.ob a o0 p1;exact⟨pl,(q a f0).trans p4,d3 (p3 (C:=C) (C':=⟨C'.f,C'.z,C.w⟩) ⟨q,H.2⟩ rfl p5)⟩;rw[hz]at N;obtain⟨z1,z2,z3,z4⟩:=A.hr.zr x o N;exact⟨z1,z2,fun a v e l h1 h2=>z3 a v e l (M a h1) (S h2).2,z4⟩;obtain⟨b1,b2⟩:=S a2;cases hc:C'.w x with
  |none=>rfl
  |some sl=>
   rcases b0 x sl hc with J|⟨_,v,e,l,J⟩
   rw[A.hr.wn a x _ _ _ (M a a1) b2]at J;cases J;exact absurd (A.hr.inj a c x _ _ _ _ _ _ (M a a1) (by rw[k];simp) b2 J) b1
  rcases b0 x sl hw with J|⟨h6,v,e,l,J⟩
  exact A.hr.wb x sl J;exact⟨(A.hr.lt (by rw[k];simp) J).2,by rw[h6];exact b4⟩;rw[hz]at N;cases hc:C'.w x with
  |none=>rfl
  |some sl=>
   rcases b0 x sl hc with J|⟨_,v,e,l,J⟩
   rw[A.hr.wz x o N]at J;cases J;exact absurd J ((A.hr.zr x o N).2.2.1 c v e l (by rw[k];simp))
  by_cases b:a=c;subst b;obtain⟨f8,p1,_⟩:=A.hr.ob a _ k;exact A.dom a f8 p1;exact A.dom a pl ((q a b).symm.trans m);rcases T with⟨a,v1,p,l1,k1,k2⟩|T;exact .inl ⟨a,v1,p,l1,M a k1,(S k2).2⟩;cases hc:C'.w x with
  |none=>exact absurd hc T
  |some sl=>
   rcases b0 x sl hc with J|⟨_,v,e,l,J⟩
   exact .inr (by rw[J];simp);exact .inl ⟨c,v,e,l,by rw[k];simp,J⟩
  rw[L];by_cases b1:a=kp;subst b1;exact⟨_,yY2 rfl,fun hb=>by cases hb⟩;rw[zB2 b1];by_cases b2:a=c;subst b2;exact⟨_,yY2 rfl,fun hb=>by cases hb⟩;rw[zB2 b2];cases hc:aG h2 a with
  |none=>rw[(hkl.1 a).1 hc]at m;cases m
  |some o'=>
   obtain⟨o0,p1,p2,_⟩:=hkl.2 a o' hc;rw[m]at p1;cases p1;exact⟨o',rfl,fun hb=>⟨by rw[<-p2];exact hb,q a b2⟩⟩
 generalize hyd:G[j]'(by omega)=y at hy P;rcases fA hy with⟨id',X,e3,e9,K,rfl⟩|⟨K,rfl⟩
 have f7:=A.hr.wn c id' _ _ _ (by rw[k];simp) K
 have U:∀o sl,C.w o=some sl->(clC C c (id,i,j) id').w o=some sl:=fun o sl T=>by
  show(if o=id' then some (id,i,j)else C.w o)=_
  rw[zB2 (fun p=>by rw[p,f7]at T;cases T)];exact T
 have b9:∀{d sl t x y},eL (Sim.look s.h) C.w lim s.n d sl t x y->eL (Sim.look s.h) (clC C c (id,i,j) id').w lim s.n d sl t x y:=fun h=>eL.mono (yX2 _) (B:=fun _=>False) (fun _ h=>h.elim) (fun o sl h _=>⟨U o sl h,rfl⟩) (fun h=>h) h;have V:(clC C c (id,i,j) id').w id'=some (id,i,j):=yY2 rfl
 have fin:∀D,eL (Sim.look s.h) (clC C c (id,i,j) id').w lim s.n D (id,i,j) (.nd ty' e' O) (.is e' rows') (.sl e3 id' X 0 e9 none)->_:=fun D h=>P (clC C c (id,i,j) id') D (yY2 rfl) (fun a m=>zB2 m) rfl U (fun o sl T=>by
  have a0:(if o=id' then some (id,i,j)else C.w o)=some sl:=T;by_cases p:o=id';rw[yY2 p]at a0;subst p;exact .inr ⟨(bE3 a0).symm,_,_,_,K⟩;rw[zB2 p]at a0;exact .inl a0) h
 rcases d0 with⟨g,rfl,E,rfl⟩|rfl;obtain⟨l1,rfl,rfl,R,l4,l5,l6,_⟩:=lC A k K;rw[tR E]at l4;have e0:=(A.hr.lt (by rw[k];simp) K).2
 exact fin 1 (.inr ⟨rows',rfl,.inr ⟨id',X,R,rfl,V,l1,e0,E,l4,l6,fun a r r' c1 c2=>by
  have f5:=(yT2.1 c1).1;have:=l5.2 a r r' c1 (by rw[zR2,yY2 f5];exact c2);exact⟨this.1,fun b x z c3 c4=>this.2 b x z c3 c4⟩⟩⟩)
 obtain⟨l1,l2,rfl,rfl,E,R,d',l4,l6,l5⟩:=kZ A k K
 exact fin (d'+1) (.inr ⟨rows',rfl,.inr ⟨id',X,R,rfl,V,l1,l2,by rw[Th E];exact E,by rw[Th E];exact l4,l6,fun a r r' c1 c2=>⟨(l5 a r r' c1 c2).1,fun b x z c3 c4=>by
  have:=(l5 a r r' c1 c2).2 b x z c3 c4;unfold TC at this;cases hk2:eZ O b with
  |none=>rw[hk2]at this;exact this
  |some t2=>
   rw[hk2]at this;rcases this with⟨⟨y,hy⟩,_⟩|⟨_,this⟩
   cases hy;exact b9 this⟩⟩⟩)
 have f6:rows'=[]:=by
  rcases d0 with⟨g,rfl,_⟩|rfl;exact mE A k K;exact(qB A k K).1
 exact P (mv C c .nil) 1 (pP C c _) (fun a m=>(fB C c _).1 a m) rfl (fun _ _ h=>h) (fun _ _ h=>.inl h) (.inr ⟨rows',rfl,.inl ⟨f6,rfl⟩⟩);cases F;cases F
def kQ1 (b:cM C n h lim s) {t:aA AV} (he:dQ C e t) {K:eQ->aJ->aB R} {r:R} (hk:uF1 e h g K=some r):
  ∃C' e' h',K e' h'=some r/\cM C' n h' lim s/\dQ C' e' t/\Fr C h s C' h' s:=by
 unfold uF1 at hk;cases f:(rJ1 g e h||cW1 g h)with
 |true=>rw[f]at hk;exact⟨C,e,h,hk,b,he,.refl _ _ _⟩
 |false=>
  rw[f,zP2]at hk;rw[bC3]at f;have f:=f.1;cases hpn:jX1 g h with
  |none=>rw[hpn]at hk;exact⟨C,e,h,hk,b,he,.refl _ _ _⟩
  |some kp=>
   rw[hpn]at hk;simp only[gH,yR2]at hk;obtain⟨op,hg,hk⟩:=hk;cases op with
   |tr tt rows hs=>
    obtain⟨ty,e2,ks⟩:=tt;simp only[TD.ks]at hk;cases hho:vY hs g with
    |none=>rw[hho]at hk;exact aD hk
    |some p=>
    obtain⟨j,i⟩:=p;rw[hho]at hk;simp only at hk;cases hkd:eZ ks j with
    |none=>rw[hkd]at hk;exact aD hk
    |some t'=>
     rw[hkd]at hk;simp only[yR2]at hk;obtain⟨ob,k,hk⟩:=hk;obtain⟨ty',e',q,rows',rfl,hk,o⟩:=Zb hk;rw[bJ,yR2]at hk;obtain⟨u,d,hk⟩:=hk;obtain⟨y,hk,l⟩:=jX _ _ _ hk;obtain⟨h2,hk,m⟩:=kT _ _ _ hk;have hk:=dB _ _ _ _ _ hk;obtain⟨x,hk,_,c⟩:=wG _ _ _ hk;have hk:=dB _ _ _ _ _ hk;obtain⟨pl,p1,p2⟩:=b.hr.ob kp _ hg;cases pl with
     |nil=>
      have:=(qB b hg p1).2;subst this;cases hho
     |atp id ver e3' len=>
      obtain⟨_,_,rfl,_⟩:=kZ b hg p1;obtain⟨C',q1,q2,q3⟩:=eP1 b hg p1 hho hkd k ⟨ty',q,rfl,o⟩ d m c;refine⟨C',_,_,hk,q2,fun a w hw=>?_,q3⟩;obtain⟨v,r1,r2⟩:=l a w hw;obtain⟨z,r3,r4⟩:=he a v r1;exact⟨z,r3,r2 q1 r4⟩
   |_=>exact aD hk
def eQ1 {t}:∀(ks:aA Nat) {C:Cx} {h:aJ} {e:eQ} {K:eQ->aJ->aB R} {r:R},cM C n h lim s->dQ C e t->gcK ks e h K=some r->
  ∃C' e' h',K e' h'=some r/\cM C' n h' lim s/\dQ C' e' t/\Fr C h s C' h' s
 |[],C,h,e,K,r,hM,he,hk=>⟨C,e,h,by unfold gcK at hk;exact hk,hM,he,.refl _ _ _⟩
 |k::ks,C,h,e,K,r,hM,he,hk=>by
  unfold gcK at hk
  obtain⟨C1,a,h1,q1,q2,q3,q4⟩:=kQ1 hM he hk
  obtain⟨C2,e2,h2,p1,p2,p3,p4⟩:=eQ1 ks q2 q3 q1
  exact⟨C2,e2,h2,p1,p2,p3,q4.trans p4⟩
def Ti {ys} {f} {e len ty} {zero} (l:ys.length=len) (h:f.length=len) (hc:∀(j:Nat) (x:AV),ys[j]? =some x->∃cs,x.cells=some cs/\cs.length=e/\f[j]? =some cs) (o:zero.length=e) (L:Nat->aB AO) (lim nS:Nat):
  doOp L lim nS (.buildSl ty e len zero (List.range' 0 len)) ys=some {v:=.sl e nS 0 0 len none,new:=some (.arr false ty e 0 f)}:=by
 have o:(Sim.zeroRow zero).length=e:=by simp[Sim.zeroRow,o]
 have n:((List.range len).flatMap fun _=>Sim.zeroRow zero).length=len*e:=by
  rw[yF,o,List.length_range]
 have g:=uI e len 0 ((List.range len).flatMap fun _=>Sim.zeroRow zero) ys f (by rw[n];simp) l h hc;simp only[cW3,List.take_zero,cJ3]at g
 have k:∀c∈f,c.length=e:=by
  intro c m;obtain⟨j,p⟩:=zL2.1 m;have q:j<ys.length:=by rw[l,<-h];exact(yT2.1 p).1
  obtain⟨cs,p1,p2,p3⟩:=hc j ys[j] (by simp);rw[p]at p3;cases p3;exact p2
 have d:=Vv e f k;rw[h]at d
 have:doOp L lim nS (.buildSl ty e len zero (List.range' 0 len)) ys=(Sim.fillParts ((List.range len).flatMap fun _=>Sim.zeroRow zero) ((List.range' 0 len).map fun i=>(i*e,e)) ys).map fun cs=>
  {v:=.sl e nS 0 0 len none,new:=some (.arr false ty e 0 ((List.range len).map fun i=>(cs.drop (i*e)).take e))}:=by
  rcases ys with _|⟨a,_|⟨b,_|⟨c,t⟩⟩⟩<;>rfl
 rw[this,g];simp only[zW2];rw[d]
def Ge {ks} {es}:∀(xs:aA PV) (ys:aA AV) (i:Nat) (hs:aA (Nat×Nat×PV)) (K:aA (aA PV)->aA (Nat×Nat×PV)->aB R) (r:R),Ip ks es i xs hs K=some r->LR (RV C) xs ys->(∀j b x,i<=b->(j,b,x)∉hs)->
  ∃(rows:aA (aA PV)) (f:aA (Nat×Nat×PV)) (g:aA (aA AV)),K rows f=some r/\rows.length=xs.length/\g.length=ys.length/\(∀j b x,b<i->((j,b,x)∈f↔(j,b,x)∈hs))/\(∀j b x,i+xs.length<=b->(j,b,x)∉f)/\
   (∀(a:Nat) (y:AV),ys[a]? =some y->∃cs,y.cells=some cs/\cs.length=es/\g[a]? =some cs)/\
   ∀(a:Nat) (r:aA PV) (r':aA AV),rows[a]? =some r->g[a]? =some r'->r.length=r'.length/\∀(j:Nat) (p:PV) (q:AV),r[j]? =some p->r'[j]? =some q->Pf C ks f (i+a) j p q
 |[],ys,i,hs,K,r,h,hl,hn=>by
  rw[hl.inv_nil]
  unfold Ip at h
  exact⟨[],hs,[],h,rfl,rfl,fun _ _ _ _=>Iff.rfl,fun j b x hi=>hn j b x (by simpa using hi),fun a y h=>by simp at h,fun a r r' h=>by simp at h⟩
 |x::xs,ys,i,hs,K,r,h,hl,hn=>by
  obtain⟨y,B,rfl,hv,v⟩:=hl.inv_cons
  unfold Ip at h
  simp only[lR,yR2]at h
  obtain⟨cs,u,h⟩:=h
  obtain⟨cs',s,n⟩:=oZ hv u
  rw[aW]at h
  by_cases hlen:cs.length=es
  rw[aF3 hlen,zE2]at h
  obtain⟨l,o,h,p2,p3,p4⟩:=rV _ _ _ _ _ _ h n
  have d:∀j b z,(j,b,z)∈o->b=i:=fun j b z m=>by
   apply Decidable.byContradiction
   intro w
   have:=(p3 b j z (.inl w)).1 m
   cases this
  obtain⟨rows,f,g,q1,q2,q3,q4,q5,q6,q7⟩:=Ge xs B (i+1) (o++hs) _ r h v (fun j b z hi c=>by
   rcases aG3.1 c with c|c
   have:=d j b z c;omega
   exact hn j b z (by omega) c)
  refine⟨l::rows,f,cs'::g,q1,by simp[q2],by simp[q3],fun j b z hi=>?_,fun j b z hi=>q5 j b z (by simp only[zZ2]at hi;omega),fun a z m=>?_,fun a G A h1 h2=>?_⟩
  rw[q4 j b z (by omega)]
  refine⟨fun c=>?_,fun c=>aG3.2 (.inr c)⟩
  rcases aG3.1 c with c|c
  have:=d j b z c;omega
  exact c
  cases a with
  |zero=>
   simp only[aT3,yZ2]at m
   subst m
   exact⟨cs',s,by rw[<-n.1];exact hlen,rfl⟩
  |succ a=>exact q6 a z (by simpa using m)
  cases a with
  |zero=>
   simp only[aT3,yZ2]at h1 h2
   subst h1 h2
   refine⟨by rw[p2];exact n.1,fun j p q D E=>?_⟩
   have:=p4 j p q D E
   rw[aQ3]at this
   unfold Pf at this ⊢
   rw[aZ3]
   have k:∀z,(j,i,z)∈f↔(j,i,z)∈o:=fun z=>by
    rw[q4 j i z (by omega)]
    refine⟨fun c=>?_,fun c=>aG3.2 (.inl c)⟩
    rcases aG3.1 c with c|c
    exact c
    exact absurd c (hn j i z (yX2 _))
   cases hkd:eZ ks j with
   |none=>rw[hkd]at this;exact this
   |some t=>
    obtain⟨ty,e,F⟩:=t
    rw[hkd]at this
    simp only at this ⊢
    obtain⟨a1,a2⟩:=this
    refine⟨a1,?_⟩
    rcases a2 with⟨⟨z,b1⟩,b2⟩|⟨b1,b2⟩
    exact .inl ⟨⟨z,(k z).2 b1⟩,fun z m=>b2 z ((k z).1 m)⟩
    exact .inr ⟨fun⟨z,m⟩=>b1 ⟨z,(k z).1 m⟩,b2⟩
  |succ a=>
   rw[show i+(a+1)=i+1+a by omega]
   exact q7 a G A (by simpa using h1) (by simpa using h2)
  rw[zO2 hlen]at h;exact aD h
def kR1 {xs} {ys} {ty es len} {ks} {zero} {parts} {K:aA (aA PV)->aA (Nat×Nat×PV)->aB R} {r} (l:cM C n h lim s) (g:LR (RV C) xs ys) (d:(Kr 0 parts&&(Nat.beq zero.length es&&(!(dY ty)&&Nat.beq parts.length len)))=true)
  (hk:Ip ks es 0 xs [] (fun rows hs=>bif Nat.beq rows.length len then K rows hs else none)=some r):
  ∃rows hs C' out,K rows hs=some r/\doOp (Sim.look s.h) lim s.n (.buildSl ty es len zero parts) ys=some out/\RV C' (.own n) out.v/\cM C' (n+1) ((n,.tr (.nd ty es ks) rows hs)::h) lim (out.apply s)/\C.le C'/\Fr C h s C' ((n,.tr (.nd ty es ks) rows hs)::h) (out.apply s):=by
 simp only[yS2,aW,zD2,zK2]at d;obtain⟨c1,c2,k,c3⟩:=d;obtain⟨rows,hs,b,f,z,o,_,_,A,u⟩:=Ge xs ys 0 [] _ r hk g (fun _ _ _ _ h=>by cases h);rw[aW]at f;by_cases c4:rows.length=len;rw[aF3 c4,zE2]at f;have hp:=zX 0 parts c1;rw[c3]at hp;subst hp;have a:ys.length=len:=by rw[<-g.1,<-z,c4]
 have m:=Ti (ty:=ty) (zero:=zero) a (o.trans a) A c2 (Sim.look s.h) lim s.n;have c:=mO l (.atp s.n 0 es len)
 obtain⟨D,E,F⟩:=qA l (po:=.tr (.nd ty es ks) rows hs) (ao:=.arr false ty es 0 b) (ver:=0) (e:=es) (len:=len)
  ⟨l.lim,by omega,rfl,c4.symm,k,b,1,by rw[eK,yY2 rfl],⟨by rw[o,a,c4];exact yX2 _,.exact (by rw[o,a,c4];exact yX2 _)⟩,fun i r r' h1 h2=>⟨(u i r r' h1 h2).1,fun j p q w y=>by
   have:=(u i r r' h1 h2).2 j p q w y;rw[aQ3]at this;unfold Pf at this;unfold TC;cases hkd:eZ ks j with
   |none=>rw[hkd]at this;exact this
   |some t=>
    obtain⟨ty',e',B⟩:=t;rw[hkd]at this;simp only at this ⊢;obtain⟨rfl,this⟩:=this;rcases this with⟨a1,a2⟩|⟨a1,a2⟩
    exact .inl ⟨a1,fun x g=>(a2 x g).mono c⟩;exact .inr ⟨a1,.inr ⟨[],rfl,.inl ⟨rfl,a2⟩⟩⟩⟩⟩
 exact⟨rows,hs,_,{v:=.sl es s.n 0 0 len none,new:=some (.arr false ty es 0 b)},f,m,.own (mP C n _),D,c,E⟩;rw[zO2 c4]at f;exact aD f
def qS:∀{h} {k} {o},aG h k=some o->cC h k o=h
 |[],_,_,h=>by simp[aG]at h
 |(j,v)::r,k,o,h=>by
  simp only[aG]at h
  simp only[cC]
  split at h
  rename_i e;cases h;rw[yY2 e,e]
  rename_i e;rw[zB2 e,qS h]
def uY1 (C:Cx) (n:Nat) (h:aJ) (lim:Nat) (s:Hp) (k:gC) (ys:aA AV) (K:PV->aJ->Nat->aB R) (r:R):Prop:=
 ∃v h' n' C' a,K v h' n'=some r/\doOp (Sim.look s.h) lim s.n k ys=some {v:=a}/\RV C' v a/\cM C' n' h' lim s/\n<=n'/\C.le C'/\Fr C h s C' h' s
def Wm {t:TD} {rows:aA (aA PV)} {hs:aA (Nat×Nat×PV)} {y:AV} {js:aA Nat} {K:PV->aJ->Nat->aB R} {r:R} (J:cM C n h lim s) (hg:aG h k=some (.tr t rows hs)) (hy:RV C (.el k i o) y):
  ((bP (lB rows i o) fun c=>Oq t.ks i o [c] js [.undef] hs h n fun cs hs h n=>match cs with
   |[v]=>gA h k (.tr t rows hs) fun h=>K v h n
   |_=>none)=some r->uY1 C n h lim s .loadS [y] K r)/\
  ∀m,(bP (lZ rows i o m) fun cs0=>xV t.ks o cs0 fun cs=>Oq t.ks i o cs0 js cs hs h n fun cs hs h n=>gA h k (.tr t rows hs) fun h=>K (.agg cs) h n)=some r->uY1 C n h lim s (.loadA m) [y] K r:=by
 obtain⟨ty,e2,ks⟩:=t;obtain⟨id,ver,e,len,B,rfl⟩:=tN hy;have w:cM C n (cC h k (.tr (.nd ty e2 ks) rows hs)) lim s:=by rw[qS hg];exact J
 have O:=kZ J hg B;obtain⟨_,_,rfl,_,_,els,d,A,x,hr⟩:=O;simp only[TD.ks];refine⟨fun hk=>?_,fun m hk=>?_⟩;rw[bJ,yR2]at hk;obtain⟨c,hc,hk⟩:=hk;simp only[lB,yR2]at hc;obtain⟨row,hi,p⟩:=hc;obtain⟨f,l⟩:=Ab x hi;obtain⟨q1,q2⟩:=hr i row f hi l;have G:=(yT2.1 p).1;have z:f[o]? =some (f[o]'(by omega)):=by simp
 obtain⟨cs',H,h',n',C',p1,p2,p3,p4,p5,p6⟩:=yM (cells:=[f[o]'(by omega)]) A hi l (o:=o) (cs0:=[c]) (fun q a g=>by
  cases q with
  |zero=>simp at g;subst g;simpa using p
  |succ q=>simp at g) (fun q b g=>by
  cases q with
  |zero=>simp at g;subst g;simpa using z
  |succ q=>simp at g) js _ hs h n C _ r hk w (by rw[hg];rfl) B (.cons .undef .nil)
 rw[qS hg]at p3;split at p1;rename_i v;have p1:=dB _ _ _ _ _ p1;obtain⟨_,_,M,p7,_⟩:=p6.inv_cons;cases M;exact⟨v,_,n',C',_,p1,by simp[doOp,A,l,z],p7,p2,p5,p4,p3⟩;exact aD p1;rw[bJ,yR2]at hk;obtain⟨c,hc,hk⟩:=hk;simp only[lZ,yR2]at hc;obtain⟨row,hi,p⟩:=hc;split at p;rename_i G;cases p;obtain⟨f,l⟩:=Ab x hi;obtain⟨q1,q2⟩:=hr i row f hi l;obtain⟨L,hk,E,F⟩:=wD _ _ _ _ hk
 obtain⟨cs',H,h',n',C',p1,p2,p3,p4,p5,p6⟩:=yM (cells:=(f.drop o).take m) A hi l (o:=o) (fun q a g=>by
  rw[zR2]at g;split at g
  rwa [aI3]at g
  cases g) (fun q b g=>by
  rw[zR2]at g;split at g
  rwa [aI3]at g
  cases g) js _ hs h n C _ r hk w (by rw[hg];rfl) B ⟨by simp at E ⊢;omega,fun j a b P hb=>by
  rcases F j a P with⟨S,u,N,rfl⟩|rfl;rw[zR2]at u hb;split at u;rename_i D;rw[yY2 D,aI3]at hb;rw[aI3]at u;exact .cl ((TC.none N).1 (q2 (o+j) a b u hb)).weak;cases u;exact .undef⟩
 rw[qS hg]at p3;have p1:=dB _ _ _ _ _ p1;exact⟨_,_,n',C',.agg ((f.drop o).take m),p1,by simp[doOp,A,l];omega,.agg p6.1 p6.2,p2,p5,p4,p3⟩;cases p
def Tj {j:aB Nat} {K:PV->aB R} {r:R} (h1:cY1 e h d j K=some r):∃v,K v=some r:=by
 unfold cY1 at h1;rw[iO,yR2]at h1;obtain⟨v,_,h1⟩:=h1;cases j with
 |none=>exact⟨v,h1⟩
 |some j=>
  cases v with
  |agg cs=>
   obtain⟨_,h1⟩:=dZ _ _ _ _ h1;split at h1;exact⟨_,h1⟩;exact aD h1
  |ref k o=>
   simp only[gH,yR2]at h1;obtain⟨ob,_,h1⟩:=h1;split at h1;obtain⟨_,h1⟩:=dZ _ _ _ _ h1;split at h1;exact⟨_,h1⟩;exact aD h1;exact aD h1
  |_=>exact aD h1
def kS1 (v:cM C n h lim s) {k ty es} {g} {rows} {ks} (hg:aG h k=some (.lst ty es g rows)) (hf:dY ty=false) (d:(ks.all fun q=>vA q.2)=true):
  cM C n (cC h k (.tr (.nd ty es ks) rows [])) lim s/\Fr C h s C (cC h k (.tr (.nd ty es ks) rows [])) s:=eM1 v hg (fun pl _ l=>by
 cases pl with
 |nil=>exact⟨l,rfl⟩
 |atp id ver e len=>
  obtain⟨h1,h2,m,o,els,f,p,u,z⟩:=l
  rw[tR hf]at f
  refine⟨h1,h2,m,o,hf,els,1,f,u,fun i r r' a b=>?_⟩
  have hi:=(yT2.1 a).1
  have hl:=p.2 i r r' a (by rw[zR2,yY2 hi];exact b)
  refine⟨hl.1,fun j x y c1 c2=>?_⟩
  unfold TC
  cases hk:eZ ks j with
  |none=>exact hl.2 j x y c1 c2
  |some t=>
   have c:vA t=true:=eO1 d hk
   obtain⟨tt,A,B⟩:=t
   exact .inr ⟨fun⟨x,w⟩=>(by cases w),.inl ⟨c,hl.2 j x y c1 c2⟩⟩) (fun h=>by cases h)
def kT1 (l:cM C n h lim s) {k ty es} {g} {ks} (hg:aG h k=some (.lst ty es g [])) (hf:dY ty=false):
  cM C n (cC h k (.tr (.nd ty es ks) [] [])) lim s/\Fr C h s C (cC h k (.tr (.nd ty es ks) [] [])) s:=eM1 l hg (fun pl _ m=>by
 cases pl with
 |nil=>exact⟨rfl,rfl⟩
 |atp id ver e len=>
  obtain⟨h1,h2,d,f,els,c,o,j,p⟩:=m
  rw[tR hf]at c
  exact⟨h1,h2,d,f,hf,els,0,c,j,fun i r r' a b=>by simp at a⟩) (fun h=>by cases h)
def Tk {ks}:∀{e:eQ} {K:eQ->aB R} {r:R},Io e ks K=some r->∃e',K e'=some r/\∀i v,eH e' i=some v->eH e i=some v:=by
 have key:∀{e:eQ} {K:eQ->aB R} {r:R},Io e ks K=some r->∃e',K e'=some r/\∀i v,eH e' i=some v->eH e i=some v/\vB i ks=true:=by
  intro e
  induction e with
  |nil=>intro K r h;exact⟨[],h,fun i v h=>by simp[eH]at h⟩
  |cons p e ih=>
   intro K r h;obtain⟨j,w⟩:=p;unfold Io at h;cases hm:vB j ks with
   |true=>
    rw[hm,zE2]at h;obtain⟨e',h1,h2⟩:=ih h;refine⟨_,h1,fun i v hv=>?_⟩;simp only[eH]at hv ⊢;split at hv;rename_i a;subst a;exact⟨by rw[yY2 rfl];exact hv,hm⟩;rename_i a;rw[zB2 a];exact h2 i v hv
   |false=>
    rw[hm,zP2]at h;obtain⟨e',h1,h2⟩:=ih h;refine⟨e',h1,fun i v hv=>?_⟩;obtain⟨c,b⟩:=h2 i v hv;refine⟨?_,b⟩;simp only[eH];rw[zB2 (fun a=>by rw[a,b]at hm;cases hm)];exact c
 intro e K r h;obtain⟨e',h1,h2⟩:=key h;exact⟨e',h1,fun i v hv=>(h2 i v hv).1⟩
def kU1 (d:cM C n h lim s) {k ty es} {g} {rows rows2} {lo} {kd} {zero} {y} (hg:aG h k=some (.lst ty es g rows)) (u:zero.length=es) (hy:RV C (.own k) y) (hk:xY rows lo (zero.map .v)=some rows2):
  ∃v out,doOp (Sim.look s.h) lim s.n (.slc es true false false) [y,.v (.int kd lo)]=some {v:=v}/\doOp (Sim.look s.h) lim s.n (.clear es zero) [v]=some out/\cM C n (cC h k (.lst ty es g rows2)) lim (out.apply s)/\Fr C h s C (cC h k (.lst ty es g rows2)) (out.apply s):=by
 unfold xY at hk;split at hk;rename_i hb;obtain⟨b1,b2⟩:=hb;obtain rfl:=bE3 hk;rcases fA hy with⟨id,ver,f,len,c,rfl⟩|⟨c,rfl⟩
 obtain⟨b,rfl,hl,els,j,hr,⟨o,p⟩,l⟩:=lC d hg c;subst hl;have m:=(d.hr.lt (by rw[hg];simp) c).2;have a:(rows.take lo.toNat++List.replicate (rows.length-lo.toNat) (zero.map PV.v)).length=rows.length:=by simp;omega
 obtain⟨q,t⟩:=rT d (po':=.lst ty f g (rows.take lo.toNat++List.replicate (rows.length-lo.toNat) (zero.map .v))) (ao:=.arr false (zD ty) f ver (Sim.setL els (0+lo.toNat) (List.replicate (rows.length-lo.toNat) (Sim.zeroRow zero)))) hg c ⟨b,m,rfl,a.symm,_,by rw[Sim.look_upd,yY2 ⟨rfl,by rw[j];rfl⟩],⟨by simp[mF];omega,fun i r r' c1 c2=>by
   rw[a,zR2]at c2;split at c2;rename_i hi;rw[aV3]at c1;split at c1;rename_i h1;rw[kJ (.inl (by simp at h1;omega))]at c2;rw[zR2]at c1;split at c1;exact hr.2 i r r' c1 (by rw[zR2,yY2 hi];exact c2);cases c1;rename_i h1;simp at h1;rw[rU (by simp;omega) (by omega) (by simp;omega)]at c2;rw[bW3]at c1 c2;split at c1;split at c2;cases c1;cases c2;exact .zeroP zero;cases c2;cases c1;cases c2⟩,⟨by rw[a,mF];exact o,fun i row hi e=>by
   rw[a]at hi;rw[kJ (.inr (by simp;omega))]at e;exact p i row hi e⟩,fun h=>by rw[a,mF];exact l h⟩ rfl
 refine⟨.sl f id ver (0+lo.toNat) (rows.length-lo.toNat) none,{v:=.undef,up:=some (id,.arr false (zD ty) f ver (Sim.setL els (0+lo.toNat) (List.replicate (rows.length-lo.toNat) (Sim.zeroRow zero))))},?_,?_,q,t⟩;simp only[doOp,Sim.sliceOp,zG2,aL3,Sim.bounds,Sim.intOf,zW2,j,Sim.roomOf];rw[yY2 ⟨by trivial,by trivial,by omega,by omega,by omega,by omega⟩];simp;simp only[doOp,j];rw[yY2 ⟨by trivial,by trivial,by omega,b⟩];have:=mE d hg c;subst this;have h0:lo=0:=by simp at b2;omega
 subst h0;refine⟨.v (.slice none 0 0),{v:=.undef},rfl,rfl,?_⟩;simp only[List.take_nil,zJ2,Nat.zero_sub,List.replicate_zero,bJ3];rw[qS hg];exact⟨d,.refl _ _ _⟩;cases hk
def Gf {ns}:∀{h:aJ} {K:aJ->aB R} {r:R},Vo h ns K=some r->∃h',K h'=some r/\∀k,(aG h k=none->aG h' k=none)/\∀o,aG h k=some o->∃o',aG h' k=some o'/\(o'=o\/∃cs,o=.box cs/\o'=.box (cs.map fun _=>.undef))
 |[],K,r,hk=>⟨[],hk,fun k=>⟨fun _=>rfl,fun o h=>by simp[aG]at h⟩⟩
 |(j,o)::t,K,r,hk=>by
  unfold Vo at hk
  obtain⟨h',hk,h2⟩:=Gf hk
  have fin:∀o',(o'=o\/∃cs,o=.box cs/\o'=.box (cs.map fun _=>.undef))->K ((j,o')::h')=some r->∃h',K h'=some r/\∀k,(aG ((j,o)::t) k=none->aG h' k=none)/\∀a,aG ((j,o)::t) k=some a->∃o',aG h' k=some o'/\(o'=a\/∃cs,a=.box cs/\o'=.box (cs.map fun _=>.undef)):=fun o' b hk=>by
   refine⟨_,hk,fun k=>?_⟩
   simp only[aG]
   by_cases e:j=k
   subst e
   simp only[zT2]
   exact⟨fun h=>(by cases h),fun a h=>(by cases h;exact⟨o',rfl,b⟩)⟩
   simp only[zB2 e]
   exact h2 k
  cases o with
  |box cs=>
   simp only at hk
   cases hm:(vB j ns|| !(cs.any cX1))with
   |true=>rw[hm,zE2]at hk;exact fin _ (.inl rfl) hk
   |false=>rw[hm,zP2]at hk;exact fin _ (.inr ⟨cs,rfl,rfl⟩) hk
  |_=>exact fin _ (.inl rfl) hk
def kV1 {h'} (d:cM C n h lim s) (hs:∀k,(aG h k=none->aG h' k=none)/\∀o,aG h k=some o->∃o',aG h' k=some o'/\(o'=o\/∃cs,o=.box cs/\o'=.box (cs.map fun _=>.undef))):cM C n h' lim s/\Fr C h s C h' s:=by
 have c:∀j,aG h' j≠none->aG h j≠none:=fun j f hc=>f ((hs j).1 hc);refine⟨⟨⟨fun j o f=>?_,fun j q i v1 g m v2 e2 A h1 h2 r t=>d.hr.inj j q i v1 g m v2 e2 A (c j h1) (c q h2) r t,fun i o u=>?_,fun j i v1 g m h1 h2=>d.hr.wn j i v1 g m (c j h1) h2,d.hr.wb,d.hr.wz⟩,d.dom,d.wf,d.lim⟩,⟨.refl _ _,yX2 _,fun _ _ _=>rfl,fun i hi hn=>?_,fun j o f=>?_,fun _ _ h=>h,fun _ _ h=>.inl h⟩⟩;cases hc:aG h j with
 |none=>exact absurd hc (c j (by rw[f];simp))
 |some o0=>
  obtain⟨o',p1,p2⟩:=(hs j).2 o0 hc;rw[f]at p1;cases p1;obtain⟨pl,q1,q2⟩:=d.hr.ob j o0 hc;refine⟨pl,q1,?_⟩;rcases p2 with rfl|⟨cs,rfl,rfl⟩
  exact q2;cases pl with
  |nil=>exact q2
  |atp id ver e len=>
   obtain⟨a1,a2,ty,esz,row,a3,a4⟩:=q2;refine⟨a1,a2,ty,esz,row,a3,by simpa using a4.1,fun i x y p hy=>?_⟩;rw[aJ3,yV2]at p;obtain⟨_,_,rfl⟩:=p;exact .undef
 obtain⟨z1,z2,z3,z4⟩:=d.hr.zr i o u;exact⟨z1,z2,fun j v e l a b=>z3 j v e l (c j a) b,z4⟩;rcases hn with⟨j,v1,g,m,w,z⟩|hn;exact .inl ⟨j,v1,g,m,c j w,z⟩;exact .inr hn;obtain⟨o',p1,p2⟩:=(hs j).2 o f;refine⟨o',p1,fun hb=>?_⟩;rcases p2 with rfl|⟨cs,rfl,rfl⟩
 exact⟨hb,rfl⟩;exact⟨rfl,rfl⟩
end
end Go.P
namespace Go.P
open Go.Sim (AV AO Hp fQ upd St IC IX Ex gC CK Wf Out doOp jW exec newOK mks nameOK eR)
variable {d id lim nS ty ver:Nat}
def Gg {q} {d} {c} (h:Nml c):nameOK q (d+1) c=true:=by
 unfold Nml at h;cases c with
 |ptr=>simp[nameOK]at h
 |sl=>simp[nameOK]at h
 |map=>simp[nameOK]at h
 |fn f a b=>
  simp only[nameOK,yS2]at h ⊢;obtain⟨⟨h1,h2⟩,e⟩:=h;have g:a=[]:=by cases a<;>simp[nameOK]at h2 ⊢
  have hb:b=[]:=by cases b<;>simp[nameOK]at e ⊢
  subst g;subst hb;refine⟨⟨?_,rfl⟩,rfl⟩;cases f<;>simp_all
 |agg cs=>
  simp only[nameOK]at h ⊢;have:cs=[]:=by cases cs<;>simp[nameOK]at h ⊢
  rw[this];rfl
 |tup cs=>
  simp only[nameOK]at h ⊢;have:cs=[]:=by cases cs<;>simp[nameOK]at h ⊢
  rw[this];rfl
 |_=>rfl
def eR1 {C} {p} {cs} {cs'} (hl:LR (RV C) cs cs') (h:∀x∈cs,∀y,RV C x y->p y=true):cs'.all p=true:=by
 rw[yW2];intro y hy;obtain⟨j,a⟩:=zL2.1 hy;have b:j<cs.length:=by rw[hl.1];exact(yT2.1 a).1
 exact h cs[j] (by simp) y (hl.2 j _ y (by simp) a)
def Jh {q}:∀{d:Nat} {y:AV},nameOK q d y=true->nameOK q (d+1) y=true
 |0,_,h=>by simp[nameOK]at h
 |d+1,y,h=>by
  have all:∀{l:aA AV},l.all (nameOK q d)=true->l.all (nameOK q (d+1))=true:=fun h=>yW2.2 fun x c=>Jh (yW2.1 h x c)
  cases y with
  |fn f a b=>
   simp only[nameOK,yS2]at h ⊢
   exact⟨⟨h.1.1,all h.1.2⟩,all h.2⟩
  |agg cs=>exact all h
  |tup cs=>exact all h
  |ptr=>exact h
  |sl=>exact h
  |map=>exact h
  |_=>rfl
def Bl {n}:∀{h},∀e∈Sim.newEnts n h,∃i o,e=.ob i o/\n<=i
 |[],e,he=>by simp[Sim.newEnts]at he
 |.mark::h,e,he=>by simp[Sim.newEnts]at he
 |.ob i o::h,e,he=>by
  simp only[Sim.newEnts]at he
  split at he
  rename_i hn
  rcases zF2.1 he with rfl|he
  exact⟨i,o,rfl,hn⟩
  exact Bl e he
  simp at he
def Zc {q} {n} {h}:∀e∈newOK q n h,∃i o,e=.ob i o/\n<=i:=fun e he=>Bl e (List.mem_filter.1 he).1
def yN {q} {n} {r t}:∀{pre} {m},Wf (pre++t) m->(∀e∈pre,∃i o,e=.ob i o/\n<=i)->∀{id} {ao},Sim.look t id=none->Sim.look (pre++t) id=some ao->eR q ao=true->Sim.look (newOK q n (pre++t)++r) id=some ao
 |[],m,hw,hp,id,ao,ht,hl,hq=>by
  rw[cJ3,ht]at hl
  cases hl
 |e::pre,m,hw,hp,id,ao,ht,hl,hq=>by
  obtain⟨i,o,rfl,hi⟩:=hp e (by simp)
  have ih:=fun h=>yN (q:=q) (n:=n) (r:=r) (pre:=pre) hw.2 (fun e he=>hp e (by simp[he])) (id:=id) (ao:=ao) ht h hq
  simp only[bF3,Sim.look]at hl
  unfold newOK at ih ⊢
  simp only[bF3,Sim.newEnts]
  rw[yY2 hi,List.filter_cons]
  split at hl
  rename_i a
  cases hl
  rw[yY2 hq]
  simp only[bF3,Sim.look]
  rw[yY2 a]
  rename_i a
  have ih:=ih hl
  cases hqo:eR q o with
  |true=>
   rw[yY2 hqo]
   simp only[bF3,Sim.look]
   rw[zB2 a]
   exact ih
  |false=>
   rw[zB2 (fun hc=>by have hc:eR q o=true:=hc;rw[hqo]at hc;cases hc)]
   exact ih
def Lg:∀{d:Nat} {y:AV},nameOK (fun _=>false) d y=true->Sim.nmsV d y=[]
 |0,_,_=>rfl
 |d+1,y,h=>by
  have all:∀{l:aA AV},l.all (nameOK (fun _=>false) d)=true->l.flatMap (Sim.nmsV d)=[]:=fun h=>List.flatMap_eq_nil_iff.2 fun x c=>Lg (yW2.1 h x c)
  cases y with
  |fn f a b=>
   simp only[nameOK,yS2]at h
   simp only[Sim.nmsV,all h.1.2,all h.2,bJ3]
   cases f<;>simp_all
  |agg cs=>exact all h
  |tup cs=>exact all h
  |ptr=>simp[nameOK]at h
  |sl=>simp[nameOK]at h
  |map=>simp[nameOK]at h
  |_=>rfl
section
variable {L1 L2:Nat->Option AO} {w w2:Nat->Option (Nat×Nat×Nat)} {lo:Nat} {q:Nat->Bool}
def Wn {e:Nat} {ks:aA (Nat×TD)} {rows:aA (aA PV)} {els:aA (aA AV)} (m:∀o,lo<=o->o<nS->q o=true) (hw:∀o sl,w o=some sl->lo<=o) (h:rows.length<=els.length/\SL rows.length els)
  (hr:∀i r r',rows[i]? =some r->els[i]? =some r'->r.length=r'.length/\∀j a b,r[j]? =some a->r'[j]? =some b->match eZ ks j with
   |none=>RC true a b
   |some t=>eL L1 w lim nS d (id,i,j) t a b):eR q (.arr false ty e ver els)=true:=by
 simp only[eR,yW2];intro row f c hc;obtain⟨i,hi⟩:=zL2.1 f;by_cases l:i<rows.length;obtain⟨h1,h2⟩:=hr i rows[i] row (by simp) hi;obtain⟨j,k⟩:=zL2.1 hc;have g:j<(rows[i]).length:=by rw[h1];exact(yT2.1 k).1
 have:=h2 j _ c (zY2 g) k;cases hk:eZ ks j with
 |none=>rw[hk]at this;exact Gg this.nml
 |some t=>
  rw[hk]at this;cases d with
  |zero=>exact this.elim
  |succ d=>
   obtain⟨ty',e',n⟩:=t;rcases this with⟨_,this⟩|⟨rows',_,h3⟩
   exact Gg this.nml;rcases h3 with⟨_,rfl⟩|⟨id',ver',els',rfl,k2,k3,k4,_⟩
   rfl;exact m id' (hw _ _ k2) k4
 exact Gg (h.2 i row (by omega) hi c hc)
def eL.merge (f:∀o,lo<=o->o<nS->q o=true) (hw:∀o sl,w o=some sl->lo<=o/\w2 o=some sl) (c:∀o ao,lo<=o->L1 o=some ao->eR q ao=true->L2 o=some ao):∀{d} {sl} {t} {x} {y},eL L1 w lim nS d sl t x y->eL L2 w2 lim nS d sl t x y
 |0,_,_,_,_,h=>h.elim
 |d+1,sl,.nd ty e ks,x,y,h=>by
  rcases h with h|⟨rows,h1,h2⟩
  exact .inl h
  refine .inr ⟨rows,h1,?_⟩
  rcases h2 with h2|⟨id,ver,els,k1,k2,k3,k4,kf,k5,k6,k7⟩
  exact .inl h2
  refine .inr ⟨id,ver,els,k1,(hw _ _ k2).2,k3,k4,kf,c _ _ (hw _ _ k2).1 k5 (Wn f (fun o sl h=>(hw o sl h).1) k6 k7),k6,fun i r r' a b=>⟨(k7 i r r' a b).1,fun j g k a1 b1=>?_⟩⟩
  have:=(k7 i r r' a b).2 j g k a1 b1
  cases hk:eZ ks j with
  |none=>rw[hk]at this;exact this
  |some t=>rw[hk]at this;exact eL.merge f hw c this
end
end Go.P
namespace Go.P
open Go.Sim (AV AO Hp fQ upd St IC IX Ex gC CK Wf Out doOp jW exec newOK mks nameOK eR nmsV jA)
variable {R:Type} {b nw:Bool} {c lim n ty ver:Nat} {t ys:aA AV} {xs:aA PV}
def eS1 {c} (h:Nml c):nmsV 6 c=[]:=Lg (Jh (Jh (Jh (Jh (Jh h)))))
def uL {q}:∀{d:Nat} {y:AV},nameOK (fun _=>true) d y=true->(∀id∈nmsV d y,q id=true)->nameOK q d y=true
 |0,_,h,_=>by simp[nameOK]at h
 |d+1,y,h,c=>by
  have all:∀{l:aA AV},l.all (nameOK (fun _=>true) d)=true->(∀id∈l.flatMap (nmsV d),q id=true)->l.all (nameOK q d)=true:=fun h c=>yW2.2 fun x e=>
   uL (yW2.1 h x e) fun id hi=>c id (aM3.2 ⟨x,e,hi⟩)
  cases y with
  |fn f a b=>
   simp only[nameOK,yS2]at h ⊢
   simp only[nmsV,aG3]at c
   refine⟨⟨?_,all h.1.2 fun id hi=>c id (.inr (.inl hi))⟩,all h.2 fun id hi=>c id (.inr (.inr hi))⟩
   cases f with
   |yield l=>exact c l (.inl (by simp))
   |_=>rfl
  |agg cs=>exact all h c
  |tup cs=>exact all h c
  |ptr=>exact c _ (by simp[nmsV])
  |sl=>exact c _ (by simp[nmsV])
  |map=>exact c _ (by simp[nmsV])
  |_=>rfl
def CZ (z:Nat->aB AO):Nat->AO->Prop
 |0,o=>∃ty e ver els,o=.arr false ty e ver els/\∀row∈els,∀c∈row,Nml c
 |d+1,o=>∃ty e ver els,o=.arr false ty e ver els/\∀row∈els,∀c∈row,Nml c\/∃e' id v len o',c=.sl e' id v 0 len none/\z id=some o'/\CZ z d o'
def CZ.up1 {z}:∀{d} {o},CZ z d o->CZ z (d+1) o
 |0,o,h=>by
  obtain⟨ty,e,ver,els,rfl,h⟩:=h
  exact⟨ty,e,ver,els,rfl,fun row hr c hc=>.inl (h row hr c hc)⟩
 |d+1,o,h=>by
  obtain⟨ty,e,ver,els,rfl,h⟩:=h
  refine⟨ty,e,ver,els,rfl,fun row hr c hc=>?_⟩
  rcases h row hr c hc with h|⟨e',id,v,len,o',h1,h2,h3⟩
  exact .inl h
  exact .inr ⟨e',id,v,len,o',h1,h2,CZ.up1 h3⟩
def CZ.up {z} {d d'} (hd:d<=d') {o} (h:CZ z d o):CZ z d' o:=by
 induction hd with
 |refl=>exact h
 |step _ ih=>exact ih.up1
def CZ.nm {z} {d} {o} (h:CZ z d o) {i} (hi:i∈Sim.nmsO o):∃a o',d=a+1/\z i=some o'/\CZ z a o':=by
 cases d with
 |zero=>
  obtain⟨ty,e,ver,els,rfl,h⟩:=h;simp only[Sim.nmsO,aM3]at hi;obtain⟨row,hr,c,hc,hi⟩:=hi;rw[eS1 (h row hr c hc)]at hi;cases hi
 |succ d=>
  obtain⟨ty,e,ver,els,rfl,h⟩:=h;simp only[Sim.nmsO,aM3]at hi;obtain⟨row,hr,c,hc,hi⟩:=hi;rcases h row hr c hc with h|⟨e',id,v,len,o',rfl,h2,h3⟩
  rw[eS1 h]at hi;cases hi;simp only[nmsV,cB3]at hi;subst hi;exact⟨d,o',rfl,h2,h3⟩
def CZ.ok {z} {d} {q} {o} (h:CZ z d o) (b:∀i∈Sim.nmsO o,q i=true):eR q o=true:=by
 have h2:=h.up1;obtain⟨ty,e,ver,els,rfl,a⟩:=h2;simp only[eR,yW2];intro row hr c hc;rcases a row hr c hc with h|⟨e',id,v,len,o',rfl,h2,a⟩
 exact Gg h;exact b id (by simp only[Sim.nmsO,aM3];exact⟨row,hr,_,hc,by simp[nmsV]⟩)
def Wo {z}:∀{d ty e ver:Nat} {rows:aA (aA PV)} {els:aA (aA AV)},(rows.length<=els.length/\SL rows.length els)->
  (∀(i:Nat) (r:aA PV) (r':aA AV),rows[i]? =some r->els[i]? =some r'->LR (RZ z d) r r')->CZ z d (.arr false ty e ver els)
 |d,ty,e,ver,rows,els,h4,h5=>by
  have cell:∀row∈els,∀c∈row,Nml c\/∃a,RZ z d a c:=fun row hr c b=>by
   obtain⟨i,hi⟩:=zL2.1 hr
   by_cases k:i<rows.length
   have hl:=h5 i rows[i] row (by simp) hi
   obtain⟨j,g⟩:=zL2.1 b
   have f:j<(rows[i]).length:=by rw[hl.1];exact(yT2.1 g).1
   exact .inr ⟨_,hl.2 j _ c (zY2 f) g⟩
   exact .inl (h4.2 i row (by omega) hi c b)
  cases d with
  |zero=>
   refine⟨ty,e,ver,els,rfl,fun row hr c hc=>?_⟩
   rcases cell row hr c hc with h|⟨a,h⟩
   exact h
   exact RC.nml h
  |succ d=>
   refine⟨ty,e,ver,els,rfl,fun row hr c hc=>?_⟩
   rcases cell row hr c hc with h|⟨a,h⟩
   exact .inl h
   rcases h with h|⟨e2,rows2,id2,ver2,ty2,els2,rfl,rfl,k3,k4,k5⟩
   exact .inl h.nml
   exact .inr ⟨e2,id2,ver2,rows2.length,_,rfl,k3,Wo k4 k5⟩
def yD1 {z:Nat->aB AO} {e:Nat} {rows:aA (aA PV)} {els:aA (aA AV)} (f:rows.length<=els.length/\SL rows.length els)
  (d:∀(i:Nat) (r:aA PV) (r':aA AV),rows[i]? =some r->els[i]? =some r'->r.length=r'.length/\∀(j:Nat) (a:PV) (b:AV),r[j]? =some a->r'[j]? =some b->if j=c then RZ z 1 a b else RC true a b):CZ z 1 (.arr false ty e ver els):=
 Wo f fun i r r' a b=>⟨(d i r r' a b).1,fun j x y c1 c2=>by
  have:=(d i r r' a b).2 j x y c1 c2
  split at this
  exact this
  exact RZ.of this⟩
def eT1 {z z':Nat->aB AO} {S:Nat->Prop} (f:∀id ob,S id->z id=some ob->z' id=some ob/\∀i∈Sim.nmsO ob,S i):∀{d} {x} {y},RZ z d x y->(∀i∈nmsV 6 y,S i)->RZ z' d x y
 |0,_,_,h,_=>h
 |d+1,x,y,h,hy=>by
  rcases h with h|⟨e,rows,id,ver,ty,els,h1,rfl,h3,h4,h5⟩
  exact .inl h
  obtain⟨l,m⟩:=f id _ (hy id (by simp[nmsV])) h3
  refine .inr ⟨e,rows,id,ver,ty,els,h1,rfl,l,h4,fun i r r' a b=>⟨(h5 i r r' a b).1,fun j n g c1 c2=>eT1 f ((h5 i r r' a b).2 j n g c1 c2) fun k c=>m k ?_⟩⟩
  simp only[Sim.nmsO,aM3]
  exact⟨r',zC2 b,g,zC2 c2,c⟩
def lrX {C} {cs} {cs'} (hl:LR (RV C) cs cs') {y} (hy:y∈cs'):∃x∈cs,RV C x y:=by
 obtain⟨j,a⟩:=zL2.1 hy;have b:j<cs.length:=by rw[hl.1];exact(yT2.1 a).1
 exact⟨cs[j],by simp,hl.2 j _ y (by simp) a⟩
def lrY {C} {cs} {cs'} (hl:LR (RV C) cs cs') {x} (c:x∈cs):∃y∈cs',RV C x y:=by
 obtain⟨j,a⟩:=zL2.1 c;have b:j<cs'.length:=by rw[<-hl.1];exact(yT2.1 a).1
 exact⟨cs'[j],by simp,hl.2 j x _ a (by simp)⟩
def rY {C:Cx} {m:Nat} {o:Bool} {p:Nat->Bool}:∀{d:Nat} {x:PV} {y:AV},sP m o p d x=true->RV C x y->nameOK (fun _=>true) (d+1) y=true/\
  ∀id∈nmsV (d+1) y,(∃k v e l,p k=true/\C k=some (.atp id v e l))\/∃ob,C.z id=some ob/\CZ C.z (m-1) ob
 |0,_,_,h,_=>by simp[sP]at h
 |d+1,x,y,hc,hv=>by
  have all:∀{l:aA PV} {l':aA AV},l.all (sP m o p d)=true->LR (RV C) l l'->l'.all (nameOK (fun _=>true) (d+1))=true/\∀id∈l'.flatMap (nmsV (d+1)),(∃k v e l,p k=true/\C k=some (.atp id v e l))\/∃ob,C.z id=some ob/\CZ C.z (m-1) ob:=fun h hl=>
   ⟨eR1 hl fun x j y hy=>(rY (yW2.1 h x j) hy).1,fun id hi=>by
    obtain⟨y,hy,hi⟩:=aM3.1 hi
    obtain⟨x,j,n⟩:=lrX hl hy
    exact(rY (yW2.1 h x j) n).2 id hi⟩
  cases x with
  |v a=>rw[gT hv];exact⟨rfl,fun id h=>by simp[nmsV]at h⟩
  |is e rows=>rcases tM hv with⟨_,rfl,_⟩|⟨_,rfl⟩<;>exact⟨rfl,fun id h=>by simp[nmsV]at h⟩
  |ip cs=>obtain⟨_,rfl,_⟩:=yC hv;exact⟨rfl,fun id h=>by simp[nmsV]at h⟩
  |im es=>obtain⟨_,rfl,_⟩:=Pd hv;exact⟨rfl,fun id h=>by simp[nmsV]at h⟩
  |ref k i=>
   obtain⟨id,ver,e,len,h,rfl⟩:=kH hv
   refine⟨rfl,fun id' hi=>.inl ?_⟩
   simp only[nmsV,cB3]at hi
   subst hi
   exact⟨k,ver,e,len,hc,h⟩
  |own k=>
   simp only[sP,yS2]at hc
   rcases fA hv with⟨id,ver,e,len,h,rfl⟩|⟨h,rfl⟩
   refine⟨rfl,fun id' hi=>.inl ?_⟩
   simp only[nmsV,cB3]at hi
   subst hi
   exact⟨k,ver,e,len,hc.2,h⟩
   exact⟨rfl,fun id h=>by simp[nmsV]at h⟩
  |zs dp e rows=>
   have q:=zH2 hc
   have g:=tO hv
   have cl:RC true (.is e rows) y->nameOK (fun _=>true) (d+2) y=true/\∀id∈nmsV (d+2) y,(∃k v e l,p k=true/\C k=some (.atp id v e l))\/∃ob,C.z id=some ob/\CZ C.z (m-1) ob:=fun h=>by
    have h2:=Lg (d:=1) h.nml
    cases h<;>exact⟨rfl,fun id h=>by simp[nmsV]at h⟩
   cases dp with
   |zero=>exact cl g
   |succ dp=>
    rcases g with g|⟨e',rows',id,ver,ty,els,h1,rfl,h3,h4,h5⟩
    exact cl g
    cases h1
    refine⟨rfl,fun id' hi=>.inr ?_⟩
    simp only[nmsV,cB3]at hi
    subst hi
    exact⟨_,h3,(Wo h4 h5).up (by omega)⟩
  |zt c e rows=>
   have r:=zH2 hc
   rcases Fj hv with⟨_,rfl⟩|⟨id,ver,ty,els,rfl,h3,h4,h5⟩
   exact⟨rfl,fun id h=>by simp[nmsV]at h⟩
   refine⟨rfl,fun id' hi=>.inr ?_⟩
   simp only[nmsV,cB3]at hi
   subst hi
   exact⟨_,h3,(yD1 h4 h5).up (by omega)⟩
  |fn f a b=>
   simp only[sP,yS2]at hc
   obtain⟨a',b',rfl,h1,h2⟩:=sM hv
   obtain⟨a1,a2⟩:=all hc.1 h1
   obtain⟨b1,b2⟩:=all hc.2 h2
   refine⟨by show((true&&a'.all _)&&b'.all _)=true;rw[a1,b1];rfl,fun id hi=>?_⟩
   have hi:id∈a'.flatMap (nmsV (d+1))++b'.flatMap (nmsV (d+1)):=hi
   rcases aG3.1 hi with hi|hi
   exact a2 id hi
   exact b2 id hi
  |agg cs=>
   obtain⟨cs',rfl,h1⟩:=mD hv
   exact all hc h1
  |tup cs=>
   obtain⟨cs',rfl,h1⟩:=wA hv
   exact all hc h1
  |_=>simp[sP]at hc
def Lh {C C':Cx} {m:Nat} {S:Nat->Prop} (q:∀id ob,S id->C.z id=some ob->C'.z id=some ob/\∀i∈Sim.nmsO ob,S i) {o:Bool} {p:Nat->Bool} (hk:∀k pl,p k=true->C k=some pl->C' k=some pl):∀{d} {x} {y},sP m o p d x=true->RV C x y->(∀id,id∈nmsV (d+1) y->S id)->RV C' x y
 |0,_,_,h,_,_=>by simp[sP]at h
 |d+1,x,y,hc,hv,n=>by
  have all:∀{l} {l'},l.all (sP m o p d)=true->LR (RV C) l l'->(∀id,id∈l'.flatMap (nmsV (d+1))->S id)->LR (RV C') l l':=fun h hl n=>
   ⟨hl.1,fun j x y a b=>Lh q hk (yW2.1 h x (zC2 a)) (hl.2 j x y a b) fun id hi=>n id (aM3.2 ⟨y,zC2 b,hi⟩)⟩
  have w:=(rY hc hv).2
  cases x with
  |v a=>rw[gT hv];exact .cl (.v _)
  |is e rows=>rcases tM hv with⟨_,rfl,h⟩|⟨rfl,rfl⟩<;>refine .cl ?_<;>cases hv<;>assumption
  |ip cs=>obtain⟨_,rfl,h⟩:=yC hv;exact .cl (.ip h.1 h.2)
  |im es=>obtain⟨_,rfl,h⟩:=Pd hv;exact .cl h.im
  |ref k i=>
   obtain⟨id,ver,e,len,h,rfl⟩:=kH hv
   exact .ref (hk _ _ hc h)
  |own k=>
   simp only[sP,yS2]at hc
   rcases fA hv with⟨id,ver,e,len,h,rfl⟩|⟨h,rfl⟩
   exact .own (hk _ _ hc.2 h)
   exact .ownn (hk _ _ hc.2 h) rfl
  |zs dp e rows=>
   refine .zs ?_
   have g:=tO hv
   cases dp with
   |zero=>exact g
   |succ dp=>
    rcases g with g|⟨e',rows',id,ver,ty,els,h1,rfl,h3,h4,h5⟩
    exact .inl g
    exact eT1 q (.inr ⟨e',rows',id,ver,ty,els,h1,rfl,h3,h4,h5⟩) fun i hi=>n i (by simpa[nmsV]using hi)
  |zt c e rows=>
   rcases Fj hv with⟨h1,h2⟩|⟨id,ver,ty,els,rfl,h3,h4,h5⟩
   exact .zt (.inl ⟨h1,h2⟩)
   obtain⟨E,F⟩:=q id _ (n id (by simp[nmsV])) h3
   refine .zt (.inr ⟨id,ver,ty,els,rfl,E,h4,fun i r r' a b=>⟨(h5 i r r' a b).1,fun j G u c1 c2=>?_⟩⟩)
   have:=(h5 i r r' a b).2 j G u c1 c2
   split at this
   rename_i t
   rw[yY2 t]
   refine eT1 q this fun D s=>F D ?_
   simp only[Sim.nmsO,aM3]
   exact⟨r',zC2 b,u,zC2 c2,s⟩
   rename_i t;rw[zB2 t];exact this
  |fn f a b=>
   simp only[sP,yS2]at hc
   obtain⟨a',b',rfl,h1,h2⟩:=sM hv
   have A:=all hc.1 h1 fun id hi=>n id (show id∈a'.flatMap (nmsV (d+1))++b'.flatMap (nmsV (d+1))from aG3.2 (.inl hi))
   have B:=all hc.2 h2 fun id hi=>n id (show id∈a'.flatMap (nmsV (d+1))++b'.flatMap (nmsV (d+1))from aG3.2 (.inr hi))
   exact .fn A.1 B.1 A.2 B.2
  |agg cs=>
   obtain⟨cs',rfl,h1⟩:=mD hv
   have A:=all hc h1 n
   exact .agg A.1 A.2
  |tup cs=>
   obtain⟨cs',rfl,h1⟩:=wA hv
   have A:=all hc h1 n
   exact .tup A.1 A.2
  |_=>simp[sP]at hc
def eU1 {C C'} {o} {p} (hk:∀k pl,p k=true->C k=some pl->C' k=some pl):∀{d:Nat} {x:PV} {y:AV},sP 1 o p d x=true->RV C x y->(∀id ob,id∈nmsV (d+1) y->C.z id=some ob->CZ C.z 0 ob->C'.z id=some ob)->RV C' x y
 |0,_,_,h,_,_=>by simp[sP]at h
 |d+1,x,y,hc,hv,m=>by
  have all:∀{l:aA PV} {l':aA AV},l.all (sP 1 o p d)=true->LR (RV C) l l'->(∀id ob,id∈l'.flatMap (nmsV (d+1))->C.z id=some ob->CZ C.z 0 ob->C'.z id=some ob)->LR (RV C') l l':=fun h hl m=>
   ⟨hl.1,fun j x y a b=>eU1 hk (yW2.1 h x (zC2 a)) (hl.2 j x y a b) fun id ob hi=>m id ob (aM3.2 ⟨y,zC2 b,hi⟩)⟩
  have s:=(rY hc hv).2
  cases x with
  |v a=>rw[gT hv];exact .cl (.v _)
  |is e rows=>rcases tM hv with⟨_,rfl,h⟩|⟨rfl,rfl⟩<;>refine .cl ?_<;>cases hv<;>assumption
  |ip cs=>obtain⟨_,rfl,h⟩:=yC hv;exact .cl (.ip h.1 h.2)
  |im es=>obtain⟨_,rfl,h⟩:=Pd hv;exact .cl h.im
  |ref k i=>
   obtain⟨id,ver,e,len,h,rfl⟩:=kH hv
   exact .ref (hk _ _ hc h)
  |own k=>
   simp only[sP,yS2]at hc
   rcases fA hv with⟨id,ver,e,len,h,rfl⟩|⟨h,rfl⟩
   exact .own (hk _ _ hc.2 h)
   exact .ownn (hk _ _ hc.2 h) rfl
  |zs dp e rows=>
   have q:=zH2 hc
   have g:=tO hv
   refine .zs ?_
   cases dp with
   |zero=>exact g
   |succ dp=>
    have:dp=0:=by omega
    subst this
    rcases g with g|⟨e',rows',id,ver,ty,els,h1,rfl,h3,h4,h5⟩
    exact .inl g
    cases h1
    have r:id∈nmsV (d+2) (.sl e id ver 0 rows.length none):=by simp[nmsV]
    have n:CZ C.z 0 (.arr false ty e ver els):=Wo h4 h5
    exact .inr ⟨e,rows,id,ver,ty,els,rfl,rfl,m id _ r h3 n,h4,h5⟩
  |zt c e rows=>exact absurd (zH2 hc) (by omega)
  |fn f a b=>
   simp only[sP,yS2]at hc
   obtain⟨a',b',rfl,h1,h2⟩:=sM hv
   have A:=all hc.1 h1 fun id ob hi=>m id ob (show id∈a'.flatMap (nmsV (d+1))++b'.flatMap (nmsV (d+1))from aG3.2 (.inl hi))
   have B:=all hc.2 h2 fun id ob hi=>m id ob (show id∈a'.flatMap (nmsV (d+1))++b'.flatMap (nmsV (d+1))from aG3.2 (.inr hi))
   exact .fn A.1 B.1 A.2 B.2
  |agg cs=>
   obtain⟨cs',rfl,h1⟩:=mD hv
   have A:=all hc h1 m
   exact .agg A.1 A.2
  |tup cs=>
   obtain⟨cs',rfl,h1⟩:=wA hv
   have A:=all hc h1 m
   exact .tup A.1 A.2
  |_=>simp[sP]at hc
def Pw {C} {k id v e l} (g:C k=some (.atp id v e l)):∀{d} {x} {y},sK k d x=true->RV C x y->id∈nmsV (d+1) y
 |0,_,_,h,_=>by simp[sK]at h
 |d+1,x,y,hc,hv=>by
  have any:∀{l} {l'},l.any (sK k d)=true->LR (RV C) l l'->id∈l'.flatMap (nmsV (d+1)):=fun h hl=>by
   obtain⟨x,m,h⟩:=List.any_eq_true.1 h
   obtain⟨y,hy,c⟩:=lrY hl m
   exact aM3.2 ⟨y,hy,Pw g h c⟩
  cases x with
  |ref j i=>
   have:=zM2 hc
   subst this
   obtain⟨id',ver,e',len,h,rfl⟩:=kH hv
   rw[g]at h
   cases h
   simp[nmsV]
  |fn f a b=>
   simp only[sK,zN2]at hc
   obtain⟨a',b',rfl,h1,h2⟩:=sM hv
   show id∈a'.flatMap (nmsV (d+1))++b'.flatMap (nmsV (d+1))
   rcases hc with hc|hc
   exact aG3.2 (.inl (any hc h1))
   exact aG3.2 (.inr (any hc h2))
  |agg cs=>
   obtain⟨cs',rfl,h1⟩:=mD hv
   exact any hc h1
  |tup cs=>
   obtain⟨cs',rfl,h1⟩:=wA hv
   exact any hc h1
  |_=>simp[sK]at hc
def kL {R} {id}:∀h,Sim.look (jA R h) id=if R.contains id then Sim.look h id else none
 |[]=>by simp[jA,Sim.look]
 |.mark::r=>kL r
 |.ob i o::r=>by
  simp only[jA]
  cases hi:R.contains i with
  |true=>
   simp only[zE2,Sim.look,kL r]
   split
   rename_i e;subst e;rw[yY2 hi]
   rfl
  |false=>
   simp only[zP2,Sim.look,kL r]
   split
   rename_i h1
   rw[zB2 (fun e=>by subst e;rw[hi]at h1;cases h1)]
   rfl
def qT {R}:∀{h} {n},Wf h n->Wf (jA R h) n
 |[],_,_=>trivial
 |.mark::r,n,h=>qT (h:=r) h
 |.ob i o::r,n,h=>by
  simp only[jA]
  cases hi:R.contains i with
  |true=>exact⟨h.1,qT h.2⟩
  |false=>exact(qT (R:=R) h.2).mono (aN3 h.1)
def Li {p}:∀{h} {n},Wf h n->(∀id ao,Sim.look h id=some ao->eR p ao=true)->Sim.entsOK p h=true
 |[],_,_,_=>rfl
 |.mark::r,n,hw,h=>Li (h:=r) hw h
 |.ob i o::r,n,hw,h=>by
  simp only[Sim.entsOK,yS2]
  refine⟨h i o (by simp[Sim.look]),Li hw.2 fun id ao hl=>h id ao ?_⟩
  have:=Wf.lt hw.2 hl
  simp only[Sim.look]
  rw[zB2 (by omega)]
  exact hl
def wK {L}:∀{h} {n},Wf h n->(∀id ao,Sim.look h id=some ao->L id≠none)->∃w,Sim.changed L h=some w/\((∀id ao,Sim.look h id=some ao->L id=some ao)->w=[])
 |[],_,_,_=>⟨[],rfl,fun _=>rfl⟩
 |.mark::r,n,hw,h=>wK (h:=r) hw h
 |.ob i o::r,n,hw,h=>by
  have up:∀id ao,Sim.look r id=some ao->Sim.look (.ob i o::r) id=some ao:=fun id ao hl=>by
   have:=Wf.lt hw.2 hl
   simp only[Sim.look]
   rw[zB2 (by omega)]
   exact hl
  obtain⟨w,c,d⟩:=wK (L:=L) hw.2 fun id ao hl=>h id ao (up id ao hl)
  have h0:Sim.look (.ob i o::r) i=some o:=by simp[Sim.look]
  cases hL:L i with
  |none=>exact absurd hL (h i o h0)
  |some o'=>
   simp only[Sim.changed,hL,c]
   split
   exact⟨w,rfl,fun a=>d fun id ao hl=>a id ao (up id ao hl)⟩
   rename_i b
   refine⟨_,rfl,fun a=>absurd ?_ b⟩
   have:=a i o h0
   rw[hL]at this
   cases this
   simp[Sim.same]
section
def Ah {p}:∀{h:aJ} {K:aJ->aJ->aB R} {r:R},Ox p h K=some r->∃a b,K a b=some r/\∀k,aG a k=(if p k then aG h k else none)/\aG b k=(if p k then none else aG h k)
 |[],K,r,hk=>⟨[],[],hk,fun k=>by simp[aG]⟩
 |(j,o)::t,K,r,hk=>by
  unfold Ox at hk
  obtain⟨a,b,h1,h2⟩:=Ah hk
  cases hp:p j with
  |true=>
   rw[hp,zE2]at h1
   refine⟨_,_,h1,fun k=>?_⟩
   obtain⟨c,d⟩:=h2 k
   simp only[aG,c,d]
   by_cases e:j=k
   subst e;simp[hp]
   simp[e]
  |false=>
   rw[hp,zP2]at h1
   refine⟨_,_,h1,fun k=>?_⟩
   obtain⟨c,d⟩:=h2 k
   simp only[aG,c,d]
   by_cases e:j=k
   subst e;simp[hp]
   simp[e]
def Px:∀{cs:aA PV} {K:aA PV->aB R} {r:R},uD1 cs K=some r->K (cs.map fun _=>.undef)=some r
 |[],_,_,h=>h
 |_::cs,K,r,h=>Px (cs:=cs) (K:=fun r=>K (.undef::r)) h
def Py:∀{h:aJ} {K:aJ->aB R} {r:R},jZ1 h K=some r->∃h',K h'=some r/\∀k,(∀cs,aG h k=some (.box cs)->aG h' k=some (.box (cs.map fun _=>.undef)))/\(aG h k=none->aG h' k=none)
 |[],K,r,hk=>⟨[],hk,fun k=>⟨fun cs h=>by simp[aG]at h,fun _=>rfl⟩⟩
 |(j,o)::t,K,r,hk=>by
  unfold jZ1 at hk
  obtain⟨h',h1,h2⟩:=Py hk
  cases o with
  |box cs=>
   have h1:=Px h1
   refine⟨_,h1,fun k=>?_⟩
   obtain⟨a,b⟩:=h2 k
   simp only[aG]
   by_cases e:j=k
   simp only[e,zT2]
   exact⟨fun cs' h=>by cases h;rfl,fun h=>by cases h⟩
   simp only[e,aL3]
   exact⟨a,b⟩
  |_=>cases h1
end
def yO {p}:∀{h} {k} {o},Ow p h=true->aG h k=some o->∃cs,o=.box cs/\cs.all (sP 1 false p 5)=true
 |[],_,_,_,h=>by simp[aG]at h
 |(j,o')::r,k,o,hl,h=>by
  simp only[Ow,yS2]at hl
  simp only[aG]at h
  split at h
  cases h
  have:=hl.1
  cases o' with
  |box cs=>exact⟨cs,rfl,this⟩
  |_=>simp at this
  exact yO hl.2 h
def Pz {p}:∀{h} {k} {o},cV1 p h=true->aG h k=some o->(∃ty e g rows,o=.lst ty e g rows/\dY ty=false)\/(∃t rows,o=.tr t rows [])\/∃cs,o=.box cs/\cs.all (sP 1 false p 5)=true
 |[],_,_,_,h=>by simp[aG]at h
 |(j,o')::r,k,o,hl,h=>by
  simp only[cV1,yS2]at hl
  simp only[aG]at h
  split at h
  cases h
  have:=hl.1
  cases o' with
  |lst ty e g rows=>exact .inl ⟨ty,e,g,rows,rfl,by simpa using this⟩
  |tr t rows hs=>
   cases hs with
   |nil=>exact .inr (.inl ⟨t,rows,rfl⟩)
   |cons a b=>simp at this
  |box cs=>exact .inr (.inr ⟨cs,rfl,this⟩)
  |_=>simp at this
  exact Pz hl.2 h
def cR (C:Cx) (p q:Nat->Bool):Cx:=⟨fun k=>if p k then C k else none,fun id=>if q id then C.z id else none,fun _=>none⟩
def mgN (C C1:Cx) (n m:Nat) (q:Nat->Bool):Cx:=⟨fun k=>if k<n then C k else C1 k,fun id=>if id<m then C.z id else match C1.z id with|some o=>if eR q o then some o else none|none=>none,fun o=>if o<m then C.w o else C1.w o⟩
section
variable {C:Cx} {h:aJ} {s:Hp}
def lev (L:Nat->aB AO) (R0:aA Nat):Nat->aA Nat
 |0=>R0
 |j+1=>(lev L R0 j).flatMap (Sim.nmsL L)
def Gi {L}:∀{j} {R0},lev L (R0.flatMap (Sim.nmsL L)) j=lev L R0 (j+1)
 |0,_=>rfl
 |j+1,R0=>by simp only[lev];rw[Gi];rfl
def Lj {L} {id}:∀{k} {R0},id∈Sim.rchN L k R0↔∃j,j<=k/\id∈lev L R0 j
 |0,R0=>⟨fun h=>⟨0,yX2 _,h⟩,fun⟨j,a,h⟩=>by
  obtain rfl:j=0:=by omega
  exact h⟩
 |k+1,R0=>by
  simp only[Sim.rchN,aG3]
  constructor
  rintro(h|h)
  exact⟨0,by omega,h⟩
  obtain⟨j,a,h⟩:=Lj.1 h
  exact⟨j+1,by omega,by rw[<-Gi];exact h⟩
  rintro⟨j,a,h⟩
  cases j with
  |zero=>exact .inl h
  |succ j=>exact .inr (Lj.2 ⟨j,by omega,by rw[Gi];exact h⟩)
def kW1 (m:cM C n h lim s) (W:LR (RV C) xs ys) {hs:aJ} (M:∀{k o},aG hs k=some o->aG h k=some o/\xs.any (sK k 5)=true)
  (N:xs.all (sP 5 false (gM hs) 5)=true) (b8:Ow (fun _=>false) hs=true):∃R:aA Nat,R=Sim.rchX (Sim.look s.h) ys/\
  (∀{id},id∈R->(∃k v e l,aG hs k≠none/\C k=some (.atp id v e l))\/∃ob,C.z id=some ob/\∀q:Nat->Bool,(∀i∈R,q i=true)->eR q ob=true)/\
  (∀{k id v e l},aG hs k≠none->C k=some (.atp id v e l)->id∈R)/\(∀{id},id∈R->id<s.n/\Sim.look s.h id≠none)/\
  (∀{q},(∀id∈R,q id=true)->Sim.entsOK q (jA R s.h)=true/\ys.all (nameOK q 6)=true)/\
  cM (cR C (gM hs) R.contains) n hs lim {h:=jA R s.h,n:=s.n}/\LR (RV (cR C (gM hs) R.contains)) xs ys:=by
 have nn:∀{k},aG hs k≠none->aG h k≠none:=fun{k} hk=>by
  cases hc:aG hs k with
  |none=>exact absurd hc hk
  |some o=>rw[(M hc).1];simp
 have g:∀{k o},aG hs k=some o->∃cs id ver e l ty esz row,o=.box cs/\cs.all (sP 1 false (fun _=>false) 5)=true/\C k=some (.atp id ver e l)/\lim<=id/\id<s.n/\Sim.look s.h id=some (.arr true ty esz ver [row])/\LR (RV C) cs row:=fun{k o} hk=>by
  obtain⟨cs,rfl,J⟩:=yO b8 hk;obtain⟨pl,p1,p2⟩:=m.hr.ob k _ (M hk).1;cases pl with
  |nil=>exact p2.elim
  |atp id ver e l=>
   obtain⟨a1,a2,ty,esz,row,a3,a4⟩:=p2;exact⟨cs,id,ver,e,l,ty,esz,row,rfl,J,p1,a1,a2,a3,a4⟩
 obtain⟨R0,F⟩:∃R0,R0=ys.flatMap (nmsV 6):=⟨_,rfl⟩
 obtain⟨R,hR⟩:∃R,R=Sim.rchX (Sim.look s.h) ys:=⟨_,rfl⟩
 have a0:R=Sim.rchN (Sim.look s.h) 7 R0:=by rw[hR,F];rfl
 have u:∀{id},id∈R↔∃j,j<=7/\id∈lev (Sim.look s.h) R0 j:=fun{id}=>by rw[a0];exact Lj
 have D:∀{id},id∈R0->id∈R:=fun h=>u.2 ⟨0,by omega,h⟩;have O:∀{y id},y∈ys->id∈nmsV 6 y->id∈R0:=fun hy hi=>by rw[F];exact aM3.2 ⟨_,hy,hi⟩
 have L:∀{k id v e l},aG hs k≠none->C k=some (.atp id v e l)->id∈R0:=fun{k id v e l} hk hC=>by
  cases hc:aG hs k with
  |none=>exact absurd hc hk
  |some o=>
   obtain⟨x,d3,h1⟩:=List.any_eq_true.1 (M hc).2;obtain⟨y,hy,A⟩:=lrY W d3;exact O hy (Pw hC h1 A)
 have f:∀{k o cs id ver e l ty esz row},aG hs k=some o->o=.box cs->cs.all (sP 1 false (fun _=>false) 5)=true->C k=some (.atp id ver e l)->Sim.look s.h id=some (.arr true ty esz ver [row])->LR (RV C) cs row->∀c∈row,nameOK (fun _=>true) 6 c=true/\∀i∈nmsV 6 c,i∈R/\∃ob,C.z i=some ob/\CZ C.z 0 ob:=by
  intro k o cs id ver e l ty esz row hk ho J hC hL hl c hc;obtain⟨x,w,d2⟩:=lrX hl hc;obtain⟨m1,m2⟩:=rY (yW2.1 J x w) d2;refine⟨m1,fun i hi=>⟨?_,?_⟩⟩;refine u.2 ⟨1,by omega,aM3.2 ⟨id,L (by rw[hk];simp) hC,?_⟩⟩;unfold Sim.nmsL;rw[hL];simp only[Sim.nmsO,cL3,List.flatMap_nil,bJ3];exact aM3.2 ⟨c,hc,hi⟩;rcases m2 i hi with⟨_,_,_,_,h,_⟩|h;cases h;exact h
 have T:∀{id},id∈R0->(∃k v e l,aG hs k≠none/\C k=some (.atp id v e l))\/∃ob,C.z id=some ob/\CZ C.z 4 ob:=fun{id} hi=>by
  rw[F]at hi;obtain⟨y,hy,hi⟩:=aM3.1 hi;obtain⟨x,w,A⟩:=lrX W hy;rcases(rY (yW2.1 N x w) A).2 id hi with⟨k,v,e,l,h1,h2⟩|h1;exact .inl ⟨k,v,e,l,dU.1 h1,h2⟩;exact .inr h1
 have U:∀{j id},id∈lev (Sim.look s.h) R0 (j+1)->∃ob,C.z id=some ob/\CZ C.z (4-j) ob:=fun{j}=>by
  induction j with
  |zero=>
   intro id hi;obtain⟨id0,K,hi⟩:=aM3.1 hi;unfold Sim.nmsL at hi;rcases T K with⟨k,v,e,l,h1,h2⟩|⟨ob,h1,h2⟩
   cases hc:aG hs k with
   |none=>exact absurd hc h1
   |some o=>
    obtain⟨cs,id',ver,e',l',ty,esz,row,b1,b2,b3,_,_,B,E⟩:=g hc;rw[b3]at h2;cases h2;rw[B]at hi;simp only[Sim.nmsO,cL3,List.flatMap_nil,bJ3]at hi;obtain⟨c,H,hi⟩:=aM3.1 hi;obtain⟨ob,Z,X⟩:=((f hc b1 b2 b3 B E c H).2 id hi).2;exact⟨ob,Z,X.up (by omega)⟩
   rw[(m.hr.zr id0 ob h1).1]at hi;obtain⟨d',o',Z,X,k3⟩:=h2.nm hi;exact⟨o',X,k3.up (by omega)⟩
  |succ j ih=>
   intro id hi;obtain⟨id0,K,hi⟩:=aM3.1 hi;unfold Sim.nmsL at hi;obtain⟨ob,h1,h2⟩:=ih K;rw[(m.hr.zr id0 ob h1).1]at hi;obtain⟨d',o',Z,X,k3⟩:=h2.nm hi;exact⟨o',X,k3.up (by omega)⟩
 have b0:∀{id},id∈R->(∃k v e l,aG hs k≠none/\C k=some (.atp id v e l))\/∃ob d,C.z id=some ob/\CZ C.z d ob:=fun{id} hi=>by
  obtain⟨j,hj,hi⟩:=u.1 hi;cases j with
  |zero=>
   rcases T hi with h|⟨ob,h1,h2⟩
   exact .inl h;exact .inr ⟨ob,_,h1,h2⟩
  |succ j=>
   obtain⟨ob,h1,h2⟩:=U hi;exact .inr ⟨ob,_,h1,h2⟩
 have P:∀{id ob i},id∈R->C.z id=some ob->i∈Sim.nmsO ob->i∈R:=fun{id ob i} hi r hn=>by
  obtain⟨j,hj,hi⟩:=u.1 hi;have hL:=(m.hr.zr id ob r).1;rcases bN3 j 7 with h7|h7;refine u.2 ⟨j+1,by omega,aM3.2 ⟨id,hi,?_⟩⟩;unfold Sim.nmsL;rw[hL];exact hn;obtain rfl:j=7:=by omega
  obtain⟨d4,h1,h2⟩:=U (j:=6) hi;rw[r]at h1;cases h1;obtain⟨d',o',Z,_⟩:=h2.nm hn;omega
 have G:∀{id},id∈R->(∃k v e l,aG hs k≠none/\C k=some (.atp id v e l))\/∃ob,C.z id=some ob/\∀q:Nat->Bool,(∀i∈R,q i=true)->eR q ob=true:=fun{id} hi=>by
  rcases b0 hi with h|⟨ob,d,h1,h2⟩
  exact .inl h;exact .inr ⟨ob,h1,fun q V=>h2.ok fun i hn=>V i (P hi h1 hn)⟩
 have d0:∀{id},id∈R->id<s.n/\Sim.look s.h id≠none:=fun{id} hi=>by
  rcases G hi with⟨k,v,e,l,h1,h2⟩|⟨ob,h1,h2⟩
  cases hc:aG hs k with
  |none=>exact absurd hc h1
  |some o=>
   obtain⟨cs,id',ver,e',l',ty,esz,row,b1,b2,b3,_,Y,B,E⟩:=g hc;rw[b3]at h2;cases h2;exact⟨Y,by rw[B];simp⟩
  have:=m.hr.zr id ob h1;exact⟨this.2.1,by rw[this.1];simp⟩
 have t:∀{id},id∈R->R.contains id=true:=fun h=>by simpa using h
 refine⟨R,hR,G,fun a b=>D (L a b),d0,fun{q} V=>⟨?_,?_⟩,⟨⟨fun k o hk=>?_,fun k k' id v e l v' e' l' a b c d=>?_,fun id o r=>?_,fun k id v e l a b=>rfl,fun id sl h=>(by cases h),fun id o h=>rfl⟩,fun k pl hk=>?_,qT m.wf,m.lim⟩,⟨W.1,fun j x y a b=>?_⟩⟩;refine Li (qT m.wf) fun id ao hl=>?_;rw[kL]at hl;split at hl;rename_i hc;have hm:id∈R:=by simpa using hc
 rcases G hm with⟨k,v,e,l,h1,h2⟩|⟨ob,h1,h2⟩
 cases hc:aG hs k with
 |none=>exact absurd hc h1
 |some o=>
  obtain⟨cs,id',ver,e',l',ty,esz,row,b1,b2,b3,_,Y,B,E⟩:=g hc;rw[b3]at h2;cases h2;rw[B]at hl;cases hl;simp only[eR,aR3,List.all_nil,Bool.and_true,yW2];intro c H;obtain⟨m1,m2⟩:=f hc b1 b2 b3 B E c H;exact uL m1 fun i hi=>V i (m2 i hi).1
 rw[(m.hr.zr id ob h1).1]at hl;cases hl;exact h2 q V;cases hl;rw[yW2];intro y hy;obtain⟨x,w,A⟩:=lrX W hy;exact uL (rY (yW2.1 N x w) A).1 fun i hi=>V i (D (O hy hi));obtain⟨cs,id,ver,e,l,ty,esz,row,b1,b2,b3,b7,Y,B,E⟩:=g hk;subst b1;have hm:=D (L (by rw[hk];simp) b3);refine⟨.atp id ver e l,by simp only[cR];rw[yY2 (dU.2 (by rw[hk];simp))];exact b3,b7,Y,ty,esz,row,by rw[kL,yY2 (t hm)];exact B,E.1,fun j x y a b=>?_⟩;refine eU1 (p:=fun _=>false) (fun k pl h=>by cases h) (yW2.1 b2 x (zC2 a)) (E.2 j x y a b) fun i ob hi r _=>?_;have:=((f hk rfl b2 b3 B E y (zC2 b)).2 i hi).1;simp only[cR];rw[yY2 (t this)];exact r;simp only[cR]at c d;rw[yY2 (dU.2 a)]at c;rw[yY2 (dU.2 b)]at d;exact m.hr.inj k k' id v e l v' e' l' (nn a) (nn b) c d;simp only[cR]at r;split at r;rename_i hc;obtain⟨z1,z2,z3,z4⟩:=m.hr.zr id o r;refine⟨by rw[kL,yY2 hc];exact z1,z2,fun k v e l a b=>?_,z4⟩;simp only[cR]at b;rw[yY2 (dU.2 a)]at b;exact z3 k v e l (nn a) b;cases r;simp only[cR]at hk;split at hk;exact m.dom k pl hk;cases hk;refine Lh (S:=fun i=>i∈R) (fun i ob hi r=>⟨?_,fun i' b9=>P hi r b9⟩) (fun k pl h1 h2=>?_) (yW2.1 N x (zC2 a)) (W.2 j x y a b) fun i hi=>D (O (zC2 b) hi);simp only[cR];rw[yY2 (t hi)];exact r;simp only[cR];rw[yY2 h1];exact h2
def vA1 {L} {H} {w} {n id} (hw:Wf H n) (a:Sim.changed L H=some w) {h} (c:∀id ao,Sim.look H id=some ao->Sim.look h id=some ao) (hi:Sim.look H id≠none) (d:L id≠none):Sim.look (Sim.updAll w h) id=L id:=by
 obtain⟨c1,c2⟩:=Sim.changed_spec a;cases hH:Sim.look H id with
 |none=>exact absurd hH hi
 |some ao=>
  by_cases b:id∈w.map (·.1);cases hu:Sim.look (Sim.updAll w h) id with
  |none=>
   exfalso
   have:∀w h,Sim.look h id≠none->Sim.look (Sim.updAll w h) id≠none:=by
    intro w
    induction w with
    |nil=>intro h h1;exact h1
    |cons e w ih=>
     intro h h1;obtain⟨i,o⟩:=e;refine ih _ ?_;rw[Sim.look_upd];split;simp;exact h1
   exact this w h (by rw[c id ao hH];simp) hu
  |some ao'=>
   rcases Sim.look_updAll w h id ao' hu with⟨_,h2⟩|h2;exact absurd b h2;exact(c2 _ h2).symm
  rw[Sim.look_updAll_ne w h id b,c id ao hH];exact(c1 id ao hH b).symm
def kX1 {e:eQ} {run:aJ->Nat->(PV->aJ->Nat->aB (PV×aJ×Nat))->aB (PV×aJ×Nat)} {kill:aA Nat} {K:PV->eQ->aJ->Nat->aB R} {r:R} {P:Hp->AV->Hp->Prop} (O:cM C n h lim s) (he:dQ C e t) (hx:LR (RV C) xs ys)
  (k7:∀(hs:aJ) (C0:Cx) (m:Nat) (K':PV->aJ->Nat->aB (PV×aJ×Nat)) (r':PV×aJ×Nat) (s0:Hp),cM C0 m hs lim s0->LR (RV C0) xs ys->run hs m K'=some r'->
   ∃v h' n' C' y s',K' v h' n'=some r'/\RV C' v y/\cM C' n' h' lim s'/\m<=n'/\Fr C0 hs s0 C' h' s'/\P s0 y s')
  (hk:inN b run nw xs e h n kill K=some r):
  ∃v e' h' n' C' y s' w,K v e' h' n'=some r/\RV C' v y/\(∀i w,eH e' i=some w->∃z,t[i]? =some z/\RV C' w z/\i∉kill)/\cM C' n' h' lim s'/\n<=n'/\Fr C h s C' h' s'/\
   (b=false->w=[])/\∃s0 U,P s0 y U/\∀(e8:Hp->aB (AV×Hp)),e8 s0=some (y,U)->Sim.callX true e8 [] ys s=some (y,s',w):=by
 unfold inN at hk;obtain⟨hs,T,hk,X⟩:=Ah hk;cases hc:(nw&&(xs.all (sP 5 false (gM hs) 5)&&(Ow (fun _=>false) hs&&(b||hs.isEmpty))))with
 |false=>rw[hc]at hk;exact aD hk
 |true=>
 rw[hc,zE2,bJ,yR2]at hk;obtain⟨r1,k5,hk⟩:=hk;simp only[yS2,zN2]at hc;obtain⟨f5,n2,j2,l7⟩:=hc;obtain⟨old,new,hk,M⟩:=Ah hk;cases hc2:(Ow (gM r1.2.1) old&&(cV1 (gM r1.2.1) new&&sP 5 true (gM r1.2.1) 5 r1.1))with
 |false=>rw[hc2]at hk;exact aD hk
 |true=>
 rw[hc2,zE2,Pc]at hk;simp only[yS2]at hc2;obtain⟨g3,e4,i3⟩:=hc2;obtain⟨n7,hk,hU⟩:=Py hk;obtain⟨n6,hk,b8⟩:=uK hk;obtain⟨d3,hk,b9⟩:=uK hk;rw[eI]at hk
 have i2:∀{k o},aG hs k=some o->aG h k=some o/\xs.any (sK k 5)=true:=fun{k o} hk=>by
  have:=(X k).1;rw[hk]at this;split at this;rename_i h1;exact⟨this.symm,h1⟩;cases this
 have nn:∀{k},aG hs k≠none->aG h k≠none:=fun{k} hk=>by
  cases hc:aG hs k with
  |none=>exact absurd hc hk
  |some o=>rw[(i2 hc).1];simp
 have d0:∀{k},aG h k≠none->k<n:=fun{k} hk=>by
  cases hc:aG h k with
  |none=>exact absurd hc hk
  |some o=>obtain⟨pl,p1,_⟩:=O.hr.ob k o hc;exact O.dom k pl p1
 obtain⟨R,hR,d8,g1,d9,m0,l4,m9⟩:=kW1 O hx i2 n2 j2;have e1:∀{id},id∈R->R.contains id=true:=fun h=>by simpa using h
 obtain⟨v,h1,n1,C1f,y,U,q1,q2,q3,q4,q5,q6⟩:=k7 hs _ n _ r1 _ l4 m9 k5;unfold Fe at q1;obtain⟨n4,w1⟩:=iE (iP 5) _ _ _ _ q1;obtain⟨n8,w1⟩:=fR _ _ _ _ _ w1;obtain⟨h2,_,w1,d5⟩:=uJ w1;cases hch2:(Yl h2 (tL hs)&&(bif true then Yk hs n h2 else Ym hs h2)&&(nM (gM h2) 5 v&&mB (gM h2) h2))with
 |false=>rw[hch2]at w1;exact aD w1
 |true=>
 rw[hch2,zE2]at w1;cases w1;simp only[yS2,zE2]at hch2 g3 e4 i3 hk M;obtain⟨⟨c1,c2⟩,c3,c4⟩:=hch2
 have Z:∀k o,aG h2 k=some o->aG h1 k=some o:=fun k o f1=>by
  rw[(d5 k).1]at f1;split at f1;exact f1;cases f1
 have d4:∀{k},aG hs k≠none->aG h2 k≠none:=fun{k} hk=>Ae c1 k (wJ hk)
 have i9:∀{k},aG h2 k≠none->aG h1 k≠none:=fun{k} hk=>by
  cases hc2:aG h2 k with
  |none=>exact absurd hc2 hk
  |some o=>rw[Z k o hc2];simp
 have rs:∀{k pl},nU C1f (gM h2) k=some pl->C1f k=some pl/\aG h2 k≠none:=fun{k pl} hk=>by
  simp only[nU]at hk;split at hk;rename_i hh;exact⟨hk,dU.1 hh⟩;cases hk
 have G:=q3.part Z c4;have i0:=yJ (p:=gM h2) q2 c3
 have hf:Fr (cR C (gM hs) R.contains) hs {h:=jA R s.h,n:=s.n} (nU C1f (gM h2)) h2 U:=⟨q5.sk,q5.n,q5.keep,fun id J T=>by
   rcases T with⟨k,v,e,l,a,b⟩|T;exact q5.own id J (.inl ⟨k,v,e,l,i9 a,(rs b).1⟩);exact q5.own id J (.inr T),fun k o hk=>by
   obtain⟨o',k1,k2⟩:=q5.kd k o hk;cases h2k:aG h2 k with
   |none=>exact absurd h2k (d4 (by rw[hk];simp))
   |some o''=>
    have:=Z k o'' h2k;rw[k1]at this;cases this;refine⟨_,rfl,fun hb=>⟨(k2 hb).1,?_⟩⟩;simp only[nU];rw[yY2 (dU.2 (by rw[h2k];simp))];exact(k2 hb).2,q5.zl,q5.zn⟩
 generalize nU C1f (gM h2)=C1 at G i0 hf;clear q1 q2 q3 q5 rs k5 d5 i9 Z;have d2:s.n<=U.n:=hf.n
 have b0:∀{k},aG hs k≠none->(∃cs,aG h2 k=some (.box cs)/\cs.all (sP 1 false (gM h2) 5)=true)/\C1 k=C k:=fun{k} hk=>by
  cases hc:aG hs k with
  |none=>exact absurd hc hk
  |some o=>
   obtain⟨o',k1,k2⟩:=hf.kd k o hc;have f:aG old k=some o':=by rw[(M k).1,yY2 (dU.2 hk)];exact k1
   obtain⟨cs,rfl,d6⟩:=yO g3 f;refine⟨⟨cs,k1,d6⟩,((k2 rfl).2).trans ?_⟩;simp only[cR];rw[yY2 (dU.2 hk)]
 have g4:∀{id},id<s.n->Sz C1 h2 id->∃k v e l,aG hs k≠none/\C k=some (.atp id v e l)/\C1 k=some (.atp id v e l):=fun{id} J T=>by
  rcases hf.own id J T with⟨k,v,e,l,a,b⟩|T;simp only[cR]at b;rw[yY2 (dU.2 a)]at b;exact⟨k,v,e,l,a,b,by rw[(b0 a).2];exact b⟩;exact absurd rfl T
 have h9:∀{k},aG h2 k≠none->aG hs k≠none\/n<=k:=fun hk=>Af c2 hk
 have a0:∀{k id v e l},aG h2 k≠none->C1 k=some (.atp id v e l)->n<=k->s.n<=id:=fun{k id v e l} hk W hn=>by
  rcases bN3 id s.n with V|h;obtain⟨k',v',e',l',a,b,c⟩:=g4 V (.inl ⟨k,v,e,l,hk,W⟩);have:=G.hr.inj k k' id v e l v' e' l' hk (d4 a) W c;have:=d0 (nn a);omega;exact h
 have i4:∀{id sl},C1.w id=some sl->s.n<=id/\id<U.n:=fun{id sl} hw=>by
  refine⟨?_,(G.hr.wb id sl hw).1⟩;rcases bN3 id s.n with V|h;obtain⟨k',v',e',l',a,b,c⟩:=g4 V (.inr (by rw[hw];simp));have:=G.hr.wn k' id v' e' l' (d4 a) c;rw[this]at hw;cases hw;exact h
 have l0:∀{id ob},C1.z id=some ob->id<s.n->C.z id=some ob/\id∈R:=fun{id ob} F J=>by
  rcases hf.zn id J (by rw[F];simp)with f|f;cases hc:(cR C (gM hs) R.contains).z id with
  |none=>exact absurd hc f
  |some l1=>
   have u:=hf.zl id l1 hc;rw[F]at u;cases u;simp only[cR]at hc;split at hc;rename_i hr;exact⟨hc,by simpa using hr⟩;cases hc
  exfalso;rcases f with⟨k,v,e,l,a,b⟩|f;simp only[cR]at b;rw[yY2 (dU.2 a)]at b;exact(G.hr.zr id ob F).2.2.1 k v e l (d4 a) (by rw[(b0 a).2];exact b);exact f rfl
 have i5:∀{id ob},id∈R->C.z id=some ob->Sim.look U.h id=some ob:=fun{id ob} hi F=>(G.hr.zr id ob (hf.zl id ob (by simp only[cR];rw[yY2 (e1 hi)];exact F))).1;obtain⟨p,hp⟩:∃p:Nat->Bool,p=fun id=>R.contains id&&(Nat.blt id s.n&& !([]:aA Nat).contains id):=⟨_,rfl⟩
 obtain⟨q,hq⟩:∃q:Nat->Bool,q=fun id=>p id||(Nat.ble s.n id&&Nat.blt id U.n):=⟨_,rfl⟩
 have j9:∀id∈R,p id=true:=fun id hi=>by
  rw[hp];simp only[e1 hi,cU3,List.contains_nil,Bool.not_false,Bool.and_true,bB3];exact(d9 hi).1
 have i1:∀id∈R,q id=true:=fun id hi=>by rw[hq];simp only[j9 id hi,Bool.true_or]
 have f6:∀{id},s.n<=id->id<U.n->q id=true:=fun h1 h2=>by rw[hq];simp[h1,h2]
 have m3:∀{k id v e l},aG h2 k≠none->C1 k=some (.atp id v e l)->q id=true:=fun{k id v e l} hk W=>by
  rcases h9 hk with f|f;rw[(b0 f).2]at W;exact i1 id (g1 f W);exact f6 (a0 hk W f) (G.hr.lt hk W).2
 have k4:∀{id ob},C1.z id=some ob->q id=true:=fun{id ob} F=>by
  rcases bN3 id s.n with V|f;exact i1 id (l0 F V).2;exact f6 f (G.hr.zr id ob F).2.1
 have j5:∀{m:Nat} {o:Bool} {x:PV} {y:AV},sP m o (gM h2) 5 x=true->RV C1 x y->nameOK q 6 y=true:=fun{m o x y} hx f9=>by
  obtain⟨m1,m2⟩:=rY hx f9;refine uL m1 fun id hi=>?_;rcases m2 id hi with⟨k,v,e,l,f,u⟩|⟨ob,f,_⟩
  exact m3 (dU.1 f) u;exact k4 f
 have b7:∀{k cs},aG h2 k=some (.box cs)->cs.all (sP 1 false (gM h2) 5)=true->∃id ver e l ty esz row,C1 k=some (.atp id ver e l)/\lim<=id/\id<U.n/\Sim.look U.h id=some (.arr true ty esz ver [row])/\LR (RV C1) cs row/\eR q (.arr true ty esz ver [row])=true:=fun{k cs} hk d6=>by
  obtain⟨pl,p1,p2⟩:=G.hr.ob k _ hk;cases pl with
  |nil=>exact p2.elim
  |atp id ver e l=>
   obtain⟨a1,a2,ty,esz,row,a3,a4⟩:=p2;refine⟨id,ver,e,l,ty,esz,row,p1,a1,a2,a3,a4,?_⟩;simp only[eR,aR3,List.all_nil,Bool.and_true];exact eR1 a4 fun x hx y hy=>j5 (yW2.1 d6 x hx) hy
 have f0:=qT (R:=R) O.wf
 have e9:∀id ao,Sim.look (jA R s.h) id=some ao->Sim.look s.h id=some ao/\id∈R:=fun id ao hl=>by
  rw[kL]at hl;split at hl;rename_i hr;exact⟨hl,by simpa using hr⟩;cases hl
 have l3:∀{id},id∈R->Sim.look (jA R s.h) id≠none:=fun{id} hi=>by rw[kL,yY2 (e1 hi)];exact(d9 hi).2
 have g8:∀{id},id∈R->∃ao,Sim.look U.h id=some ao/\eR q ao=true:=fun{id} hi=>by
  rcases d8 hi with⟨k,v,e,l,f,u⟩|⟨ob,f,u⟩
  obtain⟨⟨cs,N,h6⟩,h7⟩:=b0 f;obtain⟨id',ver,e',l',ty,esz,row,b1,_,_,b4,_,b6⟩:=b7 N h6;rw[h7,u]at b1;cases b1;exact⟨_,b4,b6⟩;exact⟨ob,i5 hi f,u q i1⟩
 obtain⟨w,f7,m7⟩:=wK (L:=Sim.look U.h) f0 fun id ao hl=>by
  obtain⟨ao',f,_⟩:=g8 (e9 id ao hl).2;rw[f];simp
 have k8:∀e∈w,e.1∈R/\Sim.look U.h e.1=some e.2:=fun e he=>by
  have f:=Sim.changed_mem f0 f7 e he;refine⟨?_,(Sim.changed_spec f7).2 e he⟩;cases hc:Sim.look (jA R s.h) e.1 with
  |none=>rw[hc]at f;cases f.2
  |some ao=>exact(e9 _ _ hc).2
 have f3:∀{id},id<s.n->id∉R->Sim.look (newOK q s.n U.h++Sim.updAll w s.h) id=Sim.look s.h id:=fun{id} J hn=>by
  rw[Sim.look_newOK_lt J,Sim.look_updAll_ne];intro hm;obtain⟨e,he,rfl⟩:=cQ3.1 hm;exact hn (k8 e he).1
 have j4:∀{id},id∈R->Sim.look (newOK q s.n U.h++Sim.updAll w s.h) id=Sim.look U.h id:=fun{id} hi=>by
  rw[Sim.look_newOK_lt (d9 hi).1];obtain⟨ao,f,_⟩:=g8 hi;exact vA1 f0 f7 (fun id ao h=>(e9 id ao h).1) (l3 hi) (by rw[f];simp)
 obtain⟨pre,rr,k0,m6,j6⟩:=hf.sk
 have d7:∀{id ao},s.n<=id->Sim.look U.h id=some ao->eR q ao=true->Sim.look (newOK q s.n U.h++Sim.updAll w s.h) id=some ao:=fun{id ao} J hl e6=>by
  have hw:=G.wf
  have m5:Sim.look rr id=none:=by
   cases hc:Sim.look rr id with
   |none=>rfl
   |some o=>
    have:∀{a b:aA fQ} {n:Nat},fX a b->Wf b n->Wf a n:=by
     intro a
     induction a with
     |nil=>intro b n h _;trivial
     |cons x a ih=>
      intro b n h hb;cases b with
      |nil=>cases x<;>exact h.elim
      |cons z b=>
       cases x<;>cases z;exact ih (b:=b) h hb;exact h.elim;exact h.elim;exact⟨by rw[h.1];exact hb.1,ih (b:=b) h.2 (by rw[h.1];exact hb.2)⟩
    have:=Wf.lt (this m6 f0) hc;omega
  rw[k0]at hl hw ⊢;exact yN hw j6 m5 hl e6
 have V:∀k,k<n->(mgN C C1 n s.n q) k=C k:=fun k hk=>yY2 hk;have g9:∀k,n<=k->(mgN C C1 n s.n q) k=C1 k:=fun k hk=>zB2 (by omega);have e7:∀{o},o<s.n->(mgN C C1 n s.n q).w o=C.w o:=fun{o} T=>yY2 T;have f8:∀{o},s.n<=o->(mgN C C1 n s.n q).w o=C1.w o:=fun{o} T=>zB2 (by omega);have Y:∀{o},o<s.n->(mgN C C1 n s.n q).z o=C.z o:=fun{o} T=>yY2 T;have f2:C.le (mgN C C1 n s.n q):=⟨fun k pl hk=>by rw[V k (O.dom k pl hk)];exact hk,fun id o F=>by rw[Y (O.hr.zr id o F).2.1];exact F⟩
 have i7:∀k pl,gM h2 k=true->C1 k=some pl->(mgN C C1 n s.n q) k=some pl:=fun k pl hk W=>by
  rcases h9 (dU.1 hk)with f|f;rw[V k (d0 (nn f)),<-(b0 f).2];exact W;rw[g9 k f];exact W
 have l2:∀{id ob d},C1.z id=some ob->CZ C1.z d ob->(mgN C C1 n s.n q).z id=some ob:=fun{id ob d} F j3=>by
  rcases bN3 id s.n with f|f;rw[Y f];exact(l0 F f).1;show(if id<s.n then C.z id else _)=_
  rw[zB2 (by omega),F]
  simp only[j3.ok (q:=q) (fun i hi=>by
   obtain⟨d',o',_,k2,_⟩:=j3.nm hi;exact k4 k2),zT2]
 have g5:∀{m:Nat} {o:Bool} {x:PV} {y:AV},sP m o (gM h2) 5 x=true->RV C1 x y->RV (mgN C C1 n s.n q) x y:=fun hx f9=>Lh (S:=fun id=>∀ob,C1.z id=some ob->∃d,CZ C1.z d ob) (fun id ob hS F=>by
  obtain⟨d,hd⟩:=hS ob F;refine⟨l2 F hd,fun i hi l1 n3=>?_⟩;obtain⟨d',o',_,k2,k3⟩:=hd.nm hi;rw[n3]at k2;cases k2
  exact⟨d',k3⟩) i7 hx f9 fun id hi ob F=>by
   rcases(rY hx f9).2 id hi with⟨k,v,e,l,f,u⟩|⟨ob2,f,u⟩
   exact absurd u ((G.hr.zr id ob F).2.2.1 k v e l (dU.1 f));rw[F]at f;cases f;exact⟨_,u⟩
 have m8:w.all (fun e=>eR q e.2)=true:=by
  rw[yW2];intro e he;obtain⟨f,u⟩:=k8 e he;obtain⟨ao,N,h6⟩:=g8 f;rw[u]at N;cases N;exact h6
 have l9:∀{k},aG hs k=none->∀{o},aG h k=some o->aG T k=some o:=fun{k} hn {o} hk=>by
  have f:=(X k).1;have u:=(X k).2;rw[hn]at f;split at f;rw[hk]at f;cases f;rename_i e3;rw[u,zB2 e3];exact hk
 have l8:∀{k o},aG T k=some o->aG h k=some o/\aG hs k=none:=fun{k o} hk=>by
  have f:=(X k).1;have u:=(X k).2;rw[hk]at u;split at u;cases u;rename_i e3;exact⟨u.symm,by rw[f,zB2 e3]⟩
 have f5:∀{k o},aG new k=some o->aG h2 k=some o/\n<=k:=fun{k o} hk=>by
  have u:=(M k).2;rw[hk]at u;split at u;cases u;rename_i e3;refine⟨u.symm,(h9 (by rw[<-u];simp)).resolve_left fun f=>e3 (dU.2 f)⟩
 have j8:∀{k},aG hs k=none->aG old k=none:=fun{k} hn=>by
  rw[(M k).1,zB2 (fun f=>dU.1 f hn)]
 have j7:∀{k o},aG hs k≠none->aG h2 k=some o->aG old k=some o:=fun{k o} f u=>by
  rw[(M k).1,yY2 (dU.2 f)];exact u
 have e0:∀{k o},aG d3 k=some o->(aG h2 k=some o/\aG new k=some o/\n<=k)\/(∃cs,aG hs k≠none/\aG h2 k=some (.box cs)/\o=.box (cs.map fun _=>.undef))\/(aG h k=some o/\aG hs k=none):=fun{k o} hk=>by
  rw[b9]at hk;cases hc:aG new k with
  |some o'=>
   rw[hc]at hk;have hk:o'=o:=by simpa using hk
   subst hk;exact .inl ⟨(f5 hc).1,rfl,(f5 hc).2⟩
  |none=>
   rw[hc,b8]at hk;right;cases hc2:aG hs k with
   |none=>
    rw[(hU k).2 (j8 hc2)]at hk;exact .inr ⟨(l8 hk).1,rfl⟩
   |some o'=>
    have f:aG hs k≠none:=by rw[hc2];simp
    obtain⟨⟨cs,u,_⟩,_⟩:=b0 f;rw[(hU k).1 cs (j7 f u)]at hk;left;have hk:cS.box (cs.map fun _=>.undef)=o:=by simpa using hk
    exact⟨cs,by simp,u,hk.symm⟩
 have H:∀{k id v e l},aG d3 k≠none->(mgN C C1 n s.n q) k=some (.atp id v e l)->(k<n/\aG h k≠none/\C k=some (.atp id v e l)/\id<s.n)\/(n<=k/\aG h2 k≠none/\C1 k=some (.atp id v e l)/\s.n<=id):=fun{k id v e l} hk W=>by
  cases hc:aG d3 k with
  |none=>exact absurd hc hk
  |some o=>
   rcases e0 hc with⟨f,_,u⟩|⟨cs,f,_,_⟩|⟨f,_⟩
   rw[g9 k u]at W;exact .inr ⟨u,by rw[f];simp,W,a0 (by rw[f];simp) W u⟩;have N:=nn (k:=k) f;rw[V k (d0 N)]at W;exact .inl ⟨d0 N,N,W,(O.hr.lt N W).2⟩;have N:aG h k≠none:=by rw[f];simp
   rw[V k (d0 N)]at W;exact .inl ⟨d0 N,N,W,(O.hr.lt N W).2⟩
 have k9:∀{id ob},C.z id=some ob->Sim.look (newOK q s.n U.h++Sim.updAll w s.h) id=some ob:=fun{id ob} F=>by
  obtain⟨z1,z2,_,_⟩:=O.hr.zr id ob F;by_cases hi:id∈R;rw[j4 hi];exact i5 hi F;rw[f3 z2 hi];exact z1
 have l5:∀{k id v e l},aG hs k=none->aG h k≠none->C k=some (.atp id v e l)->id∉R:=fun{k id v e l} hn hk W hi=>by
  rcases d8 hi with⟨k',v',e',l',f,u⟩|⟨ob,f,_⟩
  have:=O.hr.inj k k' id v e l v' e' l' hk (nn f) W u;subst this;exact f hn;exact(O.hr.zr id ob f).2.2.1 k v e l hk W
 have l6:∀{id sl},C.w id=some sl->id∉R:=fun{id sl} hw hi=>by
  rcases d8 hi with⟨k',v',e',l',f,u⟩|⟨ob,f,_⟩
  rw[O.hr.wn k' id v' e' l' (nn f) u]at hw;cases hw;rw[O.hr.wz id ob f]at hw;cases hw
 refine⟨v,edel e kill,d3,n1,mgN C C1 n s.n q,y,{h:=newOK q s.n U.h++Sim.updAll w s.h,n:=U.n},w.map (·.1),hk,g5 i3 i0,fun i w hw=>?_,?_,q4,?_,fun hb=>?_,_,U,q6,fun e8 m4=>?_⟩;obtain⟨z,p1,p2,p3⟩:=(he.mono f2).edel kill i w hw;exact⟨z,p1,p2,p3⟩;refine⟨⟨fun k o hk=>?_,fun k k' id v e l v' e' l' a b c d=>?_,fun id o F=>?_,fun k id v e l a b=>?_,fun id sl hw=>?_,fun id o F=>?_⟩,fun k pl hk=>?_,(O.wf.updAll _).newOK G.wf d2,zX2 O.lim d2⟩;rcases e0 hk with⟨f,g7,u⟩|⟨cs,N,h6,rfl⟩|⟨f,g7⟩
 obtain⟨pl,p1,p2⟩:=G.hr.ob k o f;refine⟨pl,i7 _ _ (dU.2 (by rw[f];simp)) p1,?_⟩;rcases Pz e4 g7 with⟨ty,e,g,rows,rfl,n5⟩|⟨t,rows,rfl⟩|⟨cs,rfl,d6⟩
 cases pl with
 |nil=>exact p2
 |atp id ver e' len=>
  obtain⟨a1,a2,a3,a4,els,a5,a6,a7,a8⟩:=p2;refine⟨a1,a2,a3,a4,els,d7 (a0 (by rw[f];simp) p1 u) a5 ?_,a6,a7,a8⟩;simp only[eR,yW2];intro row k6 c hc;obtain⟨i,hi⟩:=zL2.1 k6;exact Gg (SL.cut a6 a7.2 0 i row (aB3 _) hi c hc)
 obtain⟨ty,e,ks⟩:=t;cases pl with
 |nil=>exact p2
 |atp id ver e' len=>
  obtain⟨a1,a2,a3,a4,af,els,d,a5,a6,a7⟩:=p2
  have i6:∀(i:Nat) (r:aA PV) (r':aA AV),rows[i]? =some r->els[i]? =some r'->r.length=r'.length/\∀(j:Nat) (a:PV) (b:AV),r[j]? =some a->r'[j]? =some b->match eZ ks j with
    |none=>RC true a b
    |some t=>eL (Sim.look U.h) C1.w lim U.n d (id,i,j) t a b:=fun i r r' c1 c2=>⟨(a7 i r r' c1 c2).1,fun j a b c3 c4=>by
   have:=(a7 i r r' c1 c2).2 j a b c3 c4;unfold TC at this;cases hkd:eZ ks j with
   |none=>rw[hkd]at this;exact this
   |some t=>
    rw[hkd]at this;rcases this with⟨⟨x,hx⟩,_⟩|⟨_,this⟩
    cases hx;exact this⟩
  have e6:=Wn (lo:=s.n) (q:=q) (ty:=ty) (e:=e) (ver:=ver) (fun o h1 h2=>f6 h1 h2) (fun o sl h=>(i4 h).1) a6 i6;refine⟨a1,a2,a3,a4,af,els,d,d7 (a0 (by rw[f];simp) p1 u) a5 e6,a6,fun i r r' c1 c2=>⟨(a7 i r r' c1 c2).1,fun j a b c3 c4=>?_⟩⟩;have:=(i6 i r r' c1 c2).2 j a b c3 c4;unfold TC;cases hkd:eZ ks j with
  |none=>rw[hkd]at this;exact this
  |some t=>
   rw[hkd]at this;exact .inr ⟨fun⟨x,hx⟩=>(by cases hx),this.merge (lo:=s.n) (fun o h1 h2=>f6 h1 h2) (fun o sl h=>⟨(i4 h).1,by rw[f8 (i4 h).1];exact h⟩) (fun o ao h0 h1 h2=>d7 h0 h1 h2)⟩
 obtain⟨id,ver,e,l,ty,esz,row,b1,b2,b3,b4,b5,b6⟩:=b7 f d6;rw[p1]at b1;cases b1;refine⟨b2,b3,ty,esz,row,d7 (a0 (by rw[f];simp) p1 u) b4 b6,b5.1,fun j x y a b=>g5 (yW2.1 d6 x (zC2 a)) (b5.2 j x y a b)⟩;obtain⟨⟨cs2,j0,h7⟩,h8⟩:=b0 N;rw[h6]at j0;cases j0;obtain⟨id,ver,e,l,ty,esz,row,b1,b2,b3,b4,b5,b6⟩:=b7 h6 h7;have g6:=b1;rw[h8]at g6;refine⟨.atp id ver e l,f2.1 _ _ g6,b2,b3,ty,esz,row,by rw[j4 (g1 N g6)];exact b4,by rw[bI3];exact b5.1,fun j x y a b=>?_⟩;rw[aJ3]at a;cases hc:cs[j]? with
 |none=>rw[hc]at a;cases a
 |some c=>rw[hc]at a;cases a;exact .undef
 obtain⟨pl,p1,p2⟩:=O.hr.ob k o f;refine⟨pl,f2.1 _ _ p1,p2.mono d2 f2 (fun id v e l hp=>?_) (fun o2 sl T=>?_)⟩;subst hp;exact f3 (O.hr.lt (by rw[f];simp) p1).2 (l5 g7 (by rw[f];simp) p1);have:=(O.hr.wb o2 sl T).1;exact⟨by rw[e7 this];exact T,f3 this (l6 T)⟩;rcases H a c with⟨a1,a2,a3,a4⟩|⟨a1,a2,a3,a4⟩<;>rcases H b d with⟨b1,b2,b3,b4⟩|⟨b1,b2,b3,b4⟩
 exact O.hr.inj k k' id v e l v' e' l' a2 b2 a3 b3;omega;omega;exact G.hr.inj k k' id v e l v' e' l' a2 b2 a3 b3;rcases bN3 id s.n with f|f;rw[Y f]at F;obtain⟨z1,z2,z3,z4⟩:=O.hr.zr id o F;refine⟨k9 F,aE3 z2 d2,fun k v e l a b=>?_,z4⟩;rcases H a b with⟨a1,a2,a3,a4⟩|⟨a1,a2,a3,a4⟩
 exact z3 k v e l a2 a3;omega;have F:(if id<s.n then C.z id else match C1.z id with|some o=>if eR q o then some o else none|none=>none)=some o:=F;rw[zB2 (by omega)]at F;cases hc:C1.z id with
 |none=>rw[hc]at F;cases F
 |some o'=>
  rw[hc]at F;simp only at F;split at F;rename_i e6;cases F;obtain⟨z1,z2,z3,z4⟩:=G.hr.zr id _ hc;refine⟨d7 f z1 e6,z2,fun k v e l a b=>?_,z4⟩;rcases H a b with⟨a1,a2,a3,a4⟩|⟨a1,a2,a3,a4⟩
  omega;exact z3 k v e l a2 a3;cases F
 rcases H a b with⟨a1,a2,a3,a4⟩|⟨a1,a2,a3,a4⟩
 rw[e7 a4];exact O.hr.wn k id v e l a2 a3;rw[f8 a4];exact G.hr.wn k id v e l a2 a3;rcases bN3 id s.n with f|f;rw[e7 f]at hw;have:=O.hr.wb id sl hw;exact⟨aE3 f d2,aE3 this.2 d2⟩;rw[f8 f]at hw;exact G.hr.wb id sl hw;rcases bN3 id s.n with f|f;rw[Y f]at F;rw[e7 f];exact O.hr.wz id o F;have F:(if id<s.n then C.z id else match C1.z id with|some o=>if eR q o then some o else none|none=>none)=some o:=F;rw[zB2 (by omega)]at F;rw[f8 f];cases hc:C1.z id with
 |none=>rw[hc]at F;cases F
 |some o'=>exact G.hr.wz id _ hc
 rcases bN3 k n with f|f;omega;rw[g9 k f]at hk;exact G.dom k pl hk;refine⟨⟨newOK q s.n U.h,Sim.updAll w s.h,rfl,?_,Zc⟩,d2,fun id J T=>?_,fun id J T=>?_,fun k o hk=>?_,fun id o F=>by rw[Y (O.hr.zr id o F).2.1];exact F,fun id J F=>?_⟩
 have:∀(w:aA (Nat×AO)) (h:aA fQ),fX (Sim.updAll w h) h:=by
  intro w
  induction w with
  |nil=>intro h;exact .refl _
  |cons e w ih=>intro h;exact(ih _).trans (.upd h _ _)
 exact this w s.h;by_cases hi:id∈R;rcases d8 hi with⟨k,v,e,l,f,u⟩|⟨ob,f,_⟩
 exact absurd (.inl ⟨k,v,e,l,nn f,u⟩) T;rw[k9 f];exact(O.hr.zr id ob f).1.symm;exact f3 J hi;rcases T with⟨k,v,e,l,a,b⟩|T;rcases H a b with⟨a1,a2,a3,a4⟩|⟨a1,a2,a3,a4⟩
 exact .inl ⟨k,v,e,l,a2,a3⟩;omega;rw[e7 J]at T;exact .inr T;have hkl:=d0 (k:=k) (by rw[hk];simp)
 have e5:aG new k=none:=by
  cases hc:aG new k with
  |none=>rfl
  |some o'=>have:=(f5 hc).2;omega
 cases hc2:aG hs k with
 |none=>exact⟨o,by rw[b9,e5,b8,(hU k).2 (j8 hc2),l9 hc2 hk];rfl,fun hb=>⟨hb,V k hkl⟩⟩
 |some o'=>
  obtain⟨cs,rfl,_⟩:=yO j2 hc2;have f:=(i2 hc2).1;rw[hk]at f;cases f;have N:aG hs k≠none:=by rw[hc2];simp
  obtain⟨⟨cs2,u,_⟩,_⟩:=b0 N;exact⟨_,by rw[b9,e5,b8,(hU k).1 cs2 (j7 N u)];rfl,fun _=>⟨rfl,V k hkl⟩⟩
 rw[Y J]at F;exact .inl F
 have:hs=[]:=by
  rcases l7 with f|f;rw[hb]at f;cases f;simpa using f
 rw[m7 fun id ao hl=>?_];rfl;obtain⟨f,u⟩:=e9 id ao hl;rcases d8 u with⟨k,v,e,l,N,_⟩|⟨ob,N,_⟩
 rw[this]at N;exact absurd rfl N;have h6:=(O.hr.zr id ob N).1;rw[f]at h6;cases h6;exact i5 u N;obtain⟨A,B⟩:=m0 j9;have D:=j5 i3 i0;have E:=m8;unfold Sim.callX;simp only[<-hR,Sim.hide,m4,f7];subst hq;subst hp;simp only[A,B,D,E,bT3,Bool.true_or,zT2]
end
end Go.P
namespace Go.P
open Go.Sim (AV AO Hp fQ upd St IC IX Ex gC CK Wf Out doOp jW exec Foot wanted put)
section
variable {R:Type} {T:jW} {O:zE} {X:NX} {dr:Nat}
def Wp {C}:∀{es:aA (aB Nat)} {cs:aA PV} {ys:aA AV} {K:aA PV->aB R} {r:R},LR (RV C) cs ys->Yn es cs K=some r->∃cs',K cs'=some r/\LR (RV C) cs' ys
 |[],[],ys,K,r,hl,h=>⟨[],h,hl⟩
 |o::os,x::xs,ys,K,r,hl,h=>by
  obtain⟨y,c,rfl,h1,h2⟩:=hl.inv_cons
  unfold Yn at h
  obtain⟨cs',a,b⟩:=Wp h2 h
  cases o with
  |none=>exact⟨_,a,.cons h1 b⟩
  |some e=>
   simp only at a
   split at a
   have:=gT h1
   subst this
   exact⟨_,a,.cons (.cl .isn) b⟩
   exact aD a
 |[],_::_,_,_,_,_,h=>by unfold Yn at h;exact aD h
 |_::_,[],_,_,_,_,h=>by unfold Yn at h;exact aD h
theorem kY1 {C} {n} {h} {lim} {s} (u:cM C n h lim s) {k id ver e len} {cs cs2} {ty e'} {g} (hk:aG h k=some (.box cs)) (x:C k=some (.atp id ver e len))
  (y:∀row,LR (RV C) cs row->LR (RV (ext C n .nil)) cs2 row):
  cM (ext C n .nil) (n+1) ((n,oV ty e' g)::cC h k (.box cs2)) lim s/\Fr C h s (ext C n .nil) ((n,oV ty e' g)::cC h k (.box cs2)) s:=by
 obtain⟨p,r⟩:=Kv u (ty:=ty) (e:=e') (g:=g);have D:n≠k:=by have:=u.dom _ _ x;omega
 have m:∀j,aG ((n,oV ty e' g)::cC h k (.box cs2)) j≠none->aG ((n,oV ty e' g)::h) j≠none:=fun j f=>by
  simp only[aG]at f ⊢;split;simp;rename_i h1;rw[zB2 h1,dI]at f;split at f
  grind
  exact f
 refine⟨⟨⟨fun j o f=>?_,fun j B i v1 q w v2 e2 H a b c d=>p.hr.inj j B i v1 q w v2 e2 H (m j a) (m B b) c d,fun i o E=>?_,fun j i v1 q w a b=>p.hr.wn j i v1 q w (m j a) b,p.hr.wb,p.hr.wz⟩,p.dom,p.wf,p.lim⟩,⟨r.sk,r.n,r.keep,fun i hi z=>?_,fun j o f=>?_,r.zl,r.zn⟩⟩;simp only[aG]at f;split at f;rename_i h1;exact p.hr.ob j o (by simp[aG,h1];simpa using f);rename_i h1;rw[dI]at f;split at f;rename_i h2;obtain⟨rfl,_⟩:=h2;cases f;obtain⟨pl,q1,q2⟩:=u.hr.ob _ _ hk;rw[x]at q1;cases q1;obtain⟨p1,p2,A,esz,row,p3,p4⟩:=q2;exact⟨_,(mO u .nil).1 _ _ x,p1,p2,A,esz,row,p3,y row p4⟩;exact p.hr.ob j o (by simp[aG,h1,f]);obtain⟨z1,z2,z3,z4⟩:=p.hr.zr i o E;exact⟨z1,z2,fun j v e l a b=>z3 j v e l (m j a) b,z4⟩;rcases z with⟨j,v1,q,w,F,G⟩|z;exact r.own i hi (.inl ⟨j,v1,q,w,m j F,G⟩);exact r.own i hi (.inr z);obtain⟨o',q1,q2⟩:=r.kd j o f;have t:n≠j:=fun q=>by rw[uF u (by omega)]at f;cases f
 by_cases q:j=k;subst q;rw[hk]at f;cases f;exact⟨.box cs2,by simp[aG,t,dI,hk],fun _=>⟨rfl,by simp[ext,Ne.symm t]⟩⟩;refine⟨o',?_,q2⟩;simpa[aG,t,dI,q]using q1
structure NOK (T:jW) (X:NX):Prop where
 run:∀{R:Type} (f:FuncId) (xs:List PV) (h:aJ) (n:Nat) (K:PV->aJ->Nat->Option R) (r:R) (C:Cx) (s:Hp) (lim:Nat) (ys:List AV),
  X.is f=true->X.run f xs h n K=some r->LR (RV C) xs ys->cM C n h lim s->
  ∃v h' n' C' y s',K v h' n'=some r/\RV C' v y/\cM C' n' h' lim s'/\n<=n'/\Fr C h s C' h' s'/\(∃ifn,T f=some ifn/\ifn.pure=false/\ifn.frz=X.xw f)/\∃D,∀d,D<=d->Sim.callF T (exec T d) lim f ys s=some (y,s')
 yld:∀{R:Type} (k:Nat) (xs:List PV) (h:aJ) (n:Nat) (K:PV->aJ->Nat->Option R) (r:R) (C:Cx) (s:Hp) (lim:Nat) (ys:List AV) (id ver e len:Nat),
  X.yld k xs h n K=some r->LR (RV C) xs ys->C k=some (.atp id ver e len)->cM C n h lim s->
  ∃v h' n' C' y s',K v h' n'=some r/\RV C' v y/\cM C' n' h' lim s'/\n<=n'/\Fr C h s C' h' s'/\∃D,∀d,D<=d->Sim.round (exec T d) lim id ys s=some (y,s')
def yP:∀{h} {id} {o},Sim.look h id=some o->upd h id o=h
 |[],_,_,h=>by simp[Sim.look]at h
 |.mark::r,id,o,h=>by simp only[Sim.look]at h;simp only[Sim.upd,yP h]
 |.ob i o'::r,id,o,h=>by
  simp only[Sim.look]at h
  simp only[Sim.upd]
  split at h
  rename_i e;cases h;simp[e]
  rename_i e;rw[zB2 e,yP h]
def Wq:∀{xs} {t ys},Sim.evs t xs=some ys->ys.length=xs.length
 |[],t,ys,h=>by simp only[Sim.evs,yZ2]at h;subst h;rfl
 |x::xs,t,ys,h=>by
  simp only[Sim.evs]at h
  split at h
  rename_i a as c b;cases h;simp[Wq b]
  cases h
def eW1 {C} {n} {h} {lim} {s} {ty} {zero} {as} {ys} (o:cM C n h lim s) (k:LR (RV C) as ys) (r:zero.length=1) (hf:as.all kB1=true):
  ∃C' out,doOp (Sim.look s.h) lim s.n (.buildSl ty 1 as.length zero (List.range as.length)) ys=some out/\RV C' (.own n) out.v/\cM C' (n+1) ((n,.fl as)::h) lim (out.apply s)/\C.le C'/\Fr C h s C' ((n,.fl as)::h) (out.apply s):=by
 have hc:∀(j:Nat) (y:AV),ys[j]? =some y->y.cells=some [y]:=fun j y hy=>by
  have q:j<as.length:=by rw[k.1];exact(yT2.1 hy).1
  have hv:=k.2 j as[j] y (by simp) hy;have l:=yW2.1 hf as[j] (by simp);cases ha:as[j]with
  |fn f a b=>rw[ha]at hv;obtain⟨a',b',rfl,_⟩:=sM hv;rfl
  |_=>rw[ha]at l;simp[kB1]at l
 have hlen:=k.1;have p:(Sim.zeroRow zero).length=1:=by simp[Sim.zeroRow,r]
 have d:=uI 1 as.length 0 ((List.range as.length).flatMap fun _=>Sim.zeroRow zero) ys (ys.map fun y=>[y]) (by rw[yF,p,List.length_range];simp) hlen.symm (by simp[hlen]) (fun j x k=>⟨[x],hc j x k,rfl,by simp[k]⟩);simp only[cW3,List.take_zero,cJ3]at d;have g:=Vv 1 (ys.map fun y=>[y]) (fun c hc=>by simp at hc;obtain⟨y,_,rfl⟩:=hc;rfl);rw[bI3,<-hlen]at g;have m:=mO o (.atp s.n 0 1 as.length)
 obtain⟨u,w,z⟩:=qA o (po:=.fl as) (ao:=.arr false ty 1 0 (ys.map fun y=>[y])) (ver:=0) (e:=1) (len:=as.length)
  ⟨o.lim,by omega,rfl,rfl,ty,_,by rw[eK,yY2 rfl],by simp[hlen],fun i f row a b=>by
   simp only[aJ3,yV2]at b;obtain⟨y,hy,rfl⟩:=b;exact .cons ((k.2 i f y a hy).mono m) .nil⟩
 refine⟨_,{v:=.sl 1 s.n 0 0 as.length none,new:=some (.arr false ty 1 0 (ys.map fun y=>[y]))},?_,.own (mP C n _),u,m,w⟩
 have:doOp (Sim.look s.h) lim s.n (.buildSl ty 1 as.length zero (List.range as.length)) ys=(Sim.fillParts ((List.range as.length).flatMap fun _=>Sim.zeroRow zero) ((List.range as.length).map fun i=>(i*1,1)) ys).map fun cs=>
  {v:=.sl 1 s.n 0 0 as.length none,new:=some (.arr false ty 1 0 ((List.range as.length).map fun i=>(cs.drop (i*1)).take 1))}:=by
  rcases ys with _|⟨a,_|⟨b,_|⟨c,t⟩⟩⟩<;>rfl
 rw[<-List.range_eq_range']at d;rw[this,d];simp only[zW2];rw[g]
def Ji {a b} (h:¬a<=b):Nat.ble a b=false:=by
 cases hb:Nat.ble a b with
 |false=>rfl
 |true=>exact absurd (zH2 hb) h
def cX (hO:∀f xs v,O f xs=some v->rX T f xs v) (Z:NOK T X) (B:dr=0\/dr=3\/dr=4\/5<=dr) {N lim} {R}:∀(ops:jJ) (A H:aA Nat) (l:Bool) (g:aB (Nat×Bool)) (C:Cx) (n:Nat) (h:aJ) (e:eQ) (t:aA AV) (s:Hp) (K:eQ->aJ->Nat->aB R) (r:R),
  dF O X dr ops e h n K=some r->dQ C e t->cM C n h lim s->t.length=N->jL N A l H ops=true->Ro g t->GIn g A->
  ∃e' h' n' C' G s' fs,K e' h' n'=some r/\Tr T X.is dr lim (oX g ops) {t:=t,s:=s} fs {t:=G,s:=s'}/\dQ C' e' G/\cM C' n' h' lim s'/\G.length=N/\n<=n'/\Fr C h s C' h' s'/\∀(i:Nat),i∉cG ops []->G[i]? =t[i]?
 |.nil,A,H,l,g,C,n,h,e,t,s,K,r,hk,he,hM,hN,ho,hg,hgi=>⟨e,h,n,C,t,s,[],by unfold dF at hk;exact hk,.nil,he,hM,hN,yX2 _,.refl _ _ _,fun _ _=>rfl⟩
 |.op d k xs kl u,A,H,l,g,C,n,h,e,t,s,K,r,hk,he,hM,hN,ho,hg,hgi=>by
  simp only[jL,yS2,zK2,gN,bB3]at ho
  obtain⟨⟨⟨o1,o2⟩,o3⟩,o4⟩:=ho
  have hd:d<t.length:=by omega
  have U:d∉A:=by simpa using o2
  have back:∀{y:AV} {G:aA AV},(∀(i:Nat),i∉cG u []->G[i]? =(t.set d y)[i]?)->∀(i:Nat),i∉cG (.op d k xs kl u) []->G[i]? =t[i]? :=fun hb i hi=>by
   simp only[cG,zF2,bR3]at hi
   rw[hb i hi.2,zI2 (Ne.symm hi.1)]
  unfold dF at hk
  rw[jN,yR2]at hk
  obtain⟨vs,b0,hk⟩:=hk
  obtain⟨ys,h1,h2⟩:=kU he o3 b0
  have d9:∀{f:FuncId} {xs':aA PV} {zs:aA AV},Bf O f xs' h (fun v=>iY e (d::kl) fun e=>dF O X dr u ((d,v)::e) h n K)=some r->LR (RV C) xs' zs->jO k=true->(kR X.is dr k=3\/kR X.is dr k=4)->
    ((∃ifn,T f=some ifn/\ifn.pure=true/\(ifn.frz||zs.all (Sim.closed 4))=true)->Sim.foot T k ys={all:=1,x:=true})->(∀(d:Nat) (s:Hp),Sim.step T (exec T d) lim k ys s=Sim.callF T (exec T d) lim f zs s)->
    ∃e' h' n' C' G s' fs,K e' h' n'=some r/\Tr T X.is dr lim (oX g (.op d k xs kl u)) {t:=t,s:=s} fs {t:=G,s:=s'}/\dQ C' e' G/\cM C' n' h' lim s'/\G.length=N/\n<=n'/\Fr C h s C' h' s'/\∀(i:Nat),i∉cG (.op d k xs kl u) []->G[i]? =t[i]? :=by
   intro f xs' zs hk hz hc i4 hf j0;obtain⟨v,y,E,h4,h5,D,h6⟩:=Pp (lim:=lim) hO hM hk hz;simp only[eI]at E
   have F:dQ C ((d,v)::edel e (d::kl)) (t.set d y):=.put hd (.cl h4) (fun i w hw=>by
    obtain⟨z,p1,p2,p3⟩:=he.edel (d::kl) i w hw;exact⟨z,p1,p2,fun S=>p3 (by simp[S])⟩)
   obtain⟨e2,d6,J,C2,M,L,fs,r1,r2,r3,r4,r5,r6,r7,r8⟩:=cX hO Z B u A (d::H) l g C n h _ _ s K r E F hM (by simpa using hN) o4 (hg.set hgi U) hgi;exact⟨e2,d6,J,C2,M,L,_,r1,.call (o:=⟨some d,k,xs.map eX,g⟩) hg.wanted h1 hc i4 (hf h5) ⟨D,fun d hd m=>by rw[j0];exact h6 d hd m⟩ r2,r3,r4,r5,r6,r7,back r8⟩
  have ncall:∀{run:aJ->Nat->(PV->aJ->Nat->aB (PV×aJ×Nat))->aB (PV×aJ×Nat)} {xs':aA PV} {zs:aA AV} {P:AV->Hp->Prop} {nw fx:Bool},LR (RV C) xs' zs->
    (∀(hs:aJ) (C0:Cx) (m:Nat) (K':PV->aJ->Nat->aB (PV×aJ×Nat)) (r':PV×aJ×Nat),cM C0 m hs lim s->LR (RV C0) xs' zs->run hs m K'=some r'->
     ∃v h' n' C' y s',K' v h' n'=some r'/\RV C' v y/\cM C' n' h' lim s'/\m<=n'/\Fr C0 hs s C' h' s'/\P y s')->
    jO k=true->(∀y s',P y s'->((Sim.foot T k ys).all=2\/dr=0)/\(dr≠0->kR X.is dr k=4)/\∃D,∀d,D<=d->Sim.step T (exec T d) lim k ys s=some (y,s'))->
    (kA1 fx run nw xs' e h n (d::kl) (fun v e h n=>dF O X dr u ((d,v)::e) h n K)=some r\/uE1 fx run nw xs' e h n (d::kl) (fun v e h n=>dF O X dr u ((d,v)::e) h n K)=some r)->
    ∃e' h' n' C' G s' fs,K e' h' n'=some r/\Tr T X.is dr lim (oX g (.op d k xs kl u)) {t:=t,s:=s} fs {t:=G,s:=s'}/\dQ C' e' G/\cM C' n' h' lim s'/\G.length=N/\n<=n'/\Fr C h s C' h' s'/\∀(i:Nat),i∉cG (.op d k xs kl u) []->G[i]? =t[i]? :=by
   intro run xs' zs P nw fx hz e8 i3 hP hk
   have:∃v e' h' n' C' y s',dF O X dr u ((d,v)::e') h' n' K=some r/\RV C' v y/\(∀i w,eH e' i=some w->∃z,t[i]? =some z/\RV C' w z/\i∉(d::kl))/\cM C' n' h' lim s'/\n<=n'/\Fr C h s C' h' s'/\P y s':=by
    rcases hk with hk|hk;exact eK1 hM he hz e8 hk;exact eL1 hM he hz e8 hk
   obtain⟨v,e',h',n',C',y,s',q1,q2,q3,q4,q5,q6,q7⟩:=this;obtain⟨p1,p2,p3⟩:=hP y s' q7
   have F:dQ C' ((d,v)::e') (t.set d y):=.put hd q2 (fun i w hw=>by
    obtain⟨z,p1,p2,p3⟩:=q3 i w hw;exact⟨z,p1,p2,fun S=>p3 (by simp[S])⟩)
   obtain⟨e2,d6,J,C2,M,L,fs,r1,r2,r3,r4,r5,r6,r7,r8⟩:=cX hO Z B u A (d::H) l g C' n' h' _ _ s' K r q1 F q4 (by simpa using hN) o4 (hg.set hgi U) hgi;exact⟨e2,d6,J,C2,M,L,_,r1,.ncall (o:=⟨some d,k,xs.map eX,g⟩) hg.wanted h1 i3 p1 p2 p3 q6.n r2,r3,r4,r5,by omega,q6.trans r7,back r8⟩
  split at hk;rename_i ty es b zero x1 x2;obtain⟨y1,d5,rfl,p1,p2⟩:=h2.inv_cons;obtain⟨y2,g1,rfl,p3,p4⟩:=p2.inv_cons;have:=p4.inv_nil;subst this;obtain⟨C',e',h',out,q1,q2,q3,q4,q5⟩:=kM1 hM (b:=b) (zero:=zero) he hd p1 p3 hk;obtain⟨e2,E,J,C2,M,L,fs,r1,r2,r3,r4,r5,r6,r7,r8⟩:=cX hO Z B u A (d::H) l g C' n h' e' _ _ K r q1 q4 q3 (by simpa using hN) o4 (hg.set hgi U) hgi;exact⟨e2,E,J,C2,M,L,_,r1,.op (o:=⟨some d,_,xs.map eX,g⟩) hg.wanted h1 rfl q2 r2,r3,r4,r5,r6,q5.trans r7,back r8⟩;rename_i es k0 kd hi;obtain⟨y1,d5,rfl,p1,p2⟩:=h2.inv_cons;obtain⟨y2,g1,rfl,p3,p4⟩:=p2.inv_cons;have:=p4.inv_nil;subst this;obtain⟨C',e',h',out,q1,q2,q3,q4,q5⟩:=Yy hM he hd p1 p3 hk;obtain⟨e2,E,J,C2,M,L,fs,r1,r2,r3,r4,r5,r6,r7,r8⟩:=cX hO Z B u A (d::H) l g C' n h' e' _ _ K r q1 q4 q3 (by simpa using hN) o4 (hg.set hgi U) hgi;exact⟨e2,E,J,C2,M,L,_,r1,.op (o:=⟨some d,_,xs.map eX,g⟩) hg.wanted h1 rfl q2 r2,r3,r4,r5,r6,q5.trans r7,back r8⟩;rename_i f;cases hX1:X.is f with
  |true=>
   rw[hX1,zE2]at hk;by_cases h6:6<=dr;rw[Nat.ble_eq_true_of_le h6,zE2]at hk;cases W:X.xw f with
   |false=>rw[W]at hk;exact aD hk
   |true=>
    rw[W,zE2]at hk
    obtain⟨v,e',h',n',C',y,s',w,q1,q2,q3,q4,q5,q6,q7,s0,s1,⟨⟨ifn,w3,w4,w5⟩,D,w6⟩,w7⟩:=kX1 (P:=fun s0 y s'=>(∃ifn,T f=some ifn/\ifn.pure=false/\ifn.frz=true)/\∃D,∀d,D<=d->Sim.callF T (exec T d) lim f ys s0=some (y,s')) hM he h2 (fun hs C0 m K' r' s0 b7 d3 hr=>by
     have:=Z.run f vs hs m K' r' C0 s0 lim ys hX1 hr d3 b7;rw[W]at this;exact this) hk
    have F:dQ C' ((d,v)::e') (t.set d y):=.put hd q2 (fun i w hw=>by
     obtain⟨z,p1,p2,p3⟩:=q3 i w hw;exact⟨z,p1,p2,fun S=>p3 (by simp[S])⟩)
    obtain⟨e2,d6,J,C2,M,L,fs,r1,r2,r3,r4,r5,r6,r7,r8⟩:=cX hO Z B u A (d::H) l g C' n' h' _ _ s' K r q1 F q4 (by simpa using hN) o4 (hg.set hgi U) hgi;refine⟨e2,d6,J,C2,M,L,_,r1,.ycall (o:=⟨some d,.callF f,xs.map eX,g⟩) (w:=w) hg.wanted h1 rfl ?_ (by simp[Sim.foot,w3,w4,w5]) ⟨D,fun d hd=>w7 _ (w6 d hd)⟩ q6.n r2,r3,r4,r5,by omega,q6.trans r7,back r8⟩;simp only[kR,hX1,zT2];rw[yY2 h6];by_cases e6:f+6=dr;rw[yY2 e6];exact .inl rfl;rw[zB2 e6];exact .inr ⟨rfl,q7 (by rw[aW];exact zO2 e6)⟩
   rw[Ji h6,zP2]at hk;cases W:(X.xw f&& !(Nat.beq dr 0))with
   |true=>rw[W]at hk;exact aD hk
   |false=>
   rw[W,zP2]at hk;refine ncall (P:=fun y s'=>(∃ifn,T f=some ifn/\ifn.pure=false/\ifn.frz=X.xw f)/\∃D,∀d,D<=d->Sim.callF T (exec T d) lim f ys s=some (y,s')) h2 (fun hs C0 m K' r' b7 d3 hr=>Z.run f vs hs m K' r' C0 s lim ys hX1 hr d3 b7) rfl (fun y s' hp=>⟨?_,fun _=>by simp[kR,hX1,h6],hp.2⟩) (.inl hk);obtain⟨⟨ifn,w1,w2,w3⟩,_⟩:=hp;by_cases h0:dr=0;exact .inr h0;left;rw[aW,zO2 h0]at W;have W:X.xw f=false:=by simpa using W
   rw[W]at w3;simp[Sim.foot,w1,w2,w3]
  |false=>
   rw[hX1,zP2]at hk;refine d9 hk h2 rfl (by simp[kR,hX1]) (fun⟨ifn,w1,w2,w3⟩=>?_) (fun d s=>rfl);simp only[Sim.foot,w1,w2,w3,zT2,bT3]
  rename_i k0 as;obtain⟨y1,d5,rfl,p1,p2⟩:=h2.inv_cons;obtain⟨id,ver,S,len,hC,rfl⟩:=Kw p1;by_cases f1:dr=3\/5<=dr;rw[show(Nat.beq dr 3||Nat.ble 5 dr)=true by simpa[aW,bY3]using f1]at hk;exact aD hk;have E:dr≠3:=fun h=>f1 (.inl h);have h5:¬5<=dr:=fun h=>f1 (.inr h);rw[aW,zO2 E,Ji h5,Bool.or_false,zP2]at hk;refine ncall (fx:=vB 4294967296 kl) (P:=fun y s'=>∃D,∀d,D<=d->Sim.round (exec T d) lim id d5 s=some (y,s')) (xs':=.yld k0::as) (zs:=.fn (.yield id) [] []::d5) h2 (fun hs C0 m K' r' b7 d3 hr=>?_) rfl (fun y s' hp=>⟨.inl rfl,fun h0=>by simp only[kR];rw[yY2 (by omega)],hp⟩) (.inr hk);obtain⟨y1,g1,e2,p3,p4⟩:=d3.inv_cons;cases e2;obtain⟨id',j8,e',j6,g8,e3⟩:=Kw p3;cases e3;exact Z.yld k0 as hs m K' r' C0 s lim _ _ _ _ _ hr p4 g8 b7;rename_i f first cap as
  obtain⟨y1,d5,rfl,p1,p2⟩:=h2.inv_cons;obtain⟨a',b',rfl,p3,p4⟩:=sM p1;have hz:=(p3.append p2).append p4;cases hX1:X.is f with
  |true=>
   rw[hX1,zE2]at hk;cases b9:(Nat.beq dr 3||(Nat.ble 5 dr||(X.xw f&& !(Nat.beq dr 0))))with
   |true=>rw[b9]at hk;exact aD hk
   |false=>
    rw[b9,zP2]at hk;simp only[bC3,aW,aA3]at b9;obtain⟨E,h5,W⟩:=b9;have h5:¬5<=dr:=fun h=>by rw[Nat.ble_eq_true_of_le h]at h5;cases h5
    refine ncall (P:=fun y s'=>(∃ifn,T f=some ifn/\ifn.pure=false/\ifn.frz=X.xw f)/\∃D,∀d,D<=d->Sim.callF T (exec T d) lim f (a'++d5++b') s=some (y,s')) hz (fun hs C0 m K' r' b7 d3 hr=>Z.run f _ hs m K' r' C0 s lim _ hX1 hr d3 b7) rfl (fun y s' hp=>⟨?_,fun h0=>by simp only[kR];rw[yY2 (by omega)],hp.2⟩) (.inl hk);obtain⟨⟨ifn,w1,w2,w3⟩,_⟩:=hp;by_cases h0:dr=0;exact .inr h0;left;rw[zO2 h0]at W;have W:X.xw f=false:=by simpa using W
    rw[W]at w3;simp[Sim.foot,w1,w2,w3]
  |false=>
   rw[hX1,zP2]at hk;refine d9 hk hz rfl (by simp only[kR];split<;>omega) (fun⟨ifn,w1,w2,w3⟩=>?_) (fun d s=>rfl);simp only[Sim.foot,w1,w2,w3,zT2,bT3]
  obtain⟨v,h',n',C',y,s',q1,q2,q3,q4,q5,q6,q7,q8⟩:=Wj (dr:=dr) hO hM h2 hk;simp only[eI]at q1
  have F:dQ C' ((d,v)::edel e (d::kl)) (t.set d y):=.put hd q2 (fun i w hw=>by
   obtain⟨z,p1,p2,p3⟩:=(he.mono q4).edel (d::kl) i w hw;exact⟨z,p1,p2,fun S=>p3 (by simp[S])⟩)
  obtain⟨e2,E,J,C2,M,L,fs,r1,r2,r3,r4,r5,r6,r7,r8⟩:=cX hO Z B u A (d::H) l g C' n' h' _ _ _ K r q1 F q3 (by simpa using hN) o4 (hg.set hgi U) hgi;obtain⟨f,hf⟩:=q8 ⟨some d,k,xs.map eX,g⟩ _ t fs _ rfl hg.wanted h1 r2;exact⟨e2,E,J,C2,M,L,_,r1,hf,r3,r4,r5,by omega,q6.trans r7,back r8⟩
 |.sto k xs kl u,A,H,l,g,C,n,h,e,t,s,K,r,hk,he,hM,hN,ho,hg,hgi=>by
  simp only[jL,yS2]at ho;obtain⟨o3,o4⟩:=ho;unfold dF at hk;rw[jN,yR2]at hk;obtain⟨vs,b0,hk⟩:=hk;obtain⟨ys,h1,h2⟩:=kU he o3 b0;obtain⟨v,h',n',C',out,q1,q2,q3,q4,q5,q6,q7,q8⟩:=Pk hM h2 hk;simp only[eI]at q1
  have F:dQ C' (edel e kl) t:=fun i w hw=>by
   obtain⟨z,p1,p2,p3⟩:=(he.mono q5).edel kl i w hw;exact⟨z,p1,p2⟩
  obtain⟨e2,E,J,C2,M,L,fs,r1,r2,r3,r4,r5,r6,r7,r8⟩:=cX hO Z B u A H l g C' n' h' _ t _ K r q1 F q4 hN o4 hg hgi;refine⟨e2,E,J,C2,M,L,_,r1,.op (o:=⟨none,k,xs.map eX,g⟩) hg.wanted h1 ?_ q2 r2,r3,r4,r5,by omega,q7.trans r7,fun i hi=>r8 i (by simpa only[cG]using hi)⟩;cases k with
  |callF f=>unfold fE at hk;rcases vs with _|⟨a,_|⟨b,_|⟨c,_|⟨d,t⟩⟩⟩⟩<;>exact aD hk
  |callV=>unfold fE at hk;rcases vs with _|⟨a,_|⟨b,_|⟨c,_|⟨d,t⟩⟩⟩⟩<;>exact aD hk
  |_=>rfl
 |.ifx d c w bd x' kl u,A,H,l,g,C,n,h,e,t,s,K,r,hk,he,hM,hN,ho,hg,hgi=>by
  simp only[jL,yS2,zK2,gN,bB3]at ho;obtain⟨⟨⟨⟨⟨o1,o2⟩,o3⟩,o4⟩,o5⟩,o6⟩:=ho;have U:d∉A:=by simpa using o2
  unfold dF at hk;rw[iO,yR2]at hk;obtain⟨cv,f3,hk⟩:=hk;split at hk;rename_i cb;rw[bJ,yR2]at hk;obtain⟨y,hy,hk⟩:=hk;rw[eI]at hk;obtain⟨cy,b8,f2⟩:=he c _ f3;rw[gT f2]at b8;obtain⟨fs,t1,s1,p1,p2,p3,p4,zs,p5,p6⟩:=Jb (T:=T) (O:=O) (X:=X) (dr:=dr) hM hN o5 o3 b8 hy (fun hb i2=>yI hO bd (c::A) [] (some (c,w)) C n h e t s x' y hb he hM hN o5 o3 i2 (fun c' w' e=>by cases e;simp))
  have b6:Ro g t1:=by
   cases g with
   |none=>trivial
   |some p=>
    obtain⟨c',w'⟩:=p;simp only[Ro]at hg ⊢;rw[p3 c' (fun hi=>eO bd o5 c' hi (by simp[hgi c' w' rfl]))];exact hg
  have hd:d<t1.length:=by omega
  have F:dQ C ((d,.v (.bool y))::edel e (d::cG bd kl)) (t1.set d (.v (.bool y))):=.put hd (.cl (.v _)) (fun i w hw=>by
   obtain⟨z,q1,q2,q3⟩:=he.edel (d::cG bd kl) i w hw;have f7:i∉cG bd []:=fun hi=>q3 (by simp[(cW bd kl i).2 (.inl hi)]);exact⟨z,by rw[p3 i f7];exact q1,q2,fun S=>q3 (by simp[S])⟩)
  obtain⟨e2,E,J,C2,M,L,g7,r1,r2,r3,r4,r5,r6,r7,r8⟩:=cX hO Z B u A (d::H) l g C n h _ (t1.set d (.v (.bool y))) s1 K r hk F (hM.grow p4) (by simpa using p2) o6 (b6.set hgi U) hgi;refine⟨e2,E,J,C2,M,L,_,r1,p1.append (.op (o:=⟨some d,.pick,_,g⟩) b6.wanted p5 rfl p6 r2),r3,r4,r5,r6,p4.fr.trans r7,fun i hi=>?_⟩;simp only[cG,zF2,cW bd (cG u []) i,bR3]at hi;rw[r8 i hi.2.2,zI2 (Ne.symm hi.1),p3 i hi.2.1];exact aD hk
 |.ifn d c w bd x' kl u,A,H,l,g,C,n,h,e,t,s,K,r,hk,he,hM,hN,ho,hg,hgi=>by
  simp only[jL,yS2,zK2,gN,bB3]at ho;obtain⟨⟨⟨⟨⟨o1,o2⟩,o3⟩,o4⟩,o5⟩,o6⟩:=ho;have U:d∉A:=by simpa using o2
  unfold dF at hk;rw[iO,yR2]at hk;obtain⟨cv,f3,hk⟩:=hk;split at hk;rename_i cb;simp only[rQ]at hk;obtain⟨cy,b8,f2⟩:=he c _ f3;rw[gT f2]at b8
  have b9:∀t1:aA AV,(∀(i:Nat),i∉cG bd []->t1[i]? =t[i]?)->t1[c]? =some (.v (.bool cb)):=fun t1 j2=>by
   rw[j2 c (fun hi=>eO bd o5 c hi (by simp))];exact b8
  have tail:∀{y:PV} {z:AV} {S:eQ} {h1:aJ} {n1:Nat} {C1:Cx} {t1:aA AV} {s1:Hp} {f0:aA Foot} {zs:aA AV},iY S (d::cG bd kl) (fun e=>dF O X dr u ((d,y)::e) h1 n1 K)=some r->RV C1 y z->Tr T X.is dr lim (oX (some (c,w)) bd) {t:=t,s:=s} f0 {t:=t1,s:=s1}->
    dQ C1 (edel S (d::cG bd kl)) t1->cM C1 n1 h1 lim s1->t1.length=N->n<=n1->Fr C h s C1 h1 s1->(∀(i:Nat),i∉cG bd []->t1[i]? =t[i]?)->
    Sim.evs t1 (if w then[.t c,eX x',.c (.v (.bool false))]else[.t c,.c (.v (.bool true)),eX x'])=some zs->doOp (Sim.look s1.h) lim s1.n .pick zs=some {v:=z}->
    ∃e' h' n' C' G s' fs,K e' h' n'=some r/\Tr T X.is dr lim (oX g (.ifn d c w bd x' kl u)) {t:=t,s:=s} fs {t:=G,s:=s'}/\dQ C' e' G/\cM C' n' h' lim s'/\G.length=N/\n<=n'/\Fr C h s C' h' s'/\∀(i:Nat),i∉cG (.ifn d c w bd x' kl u) []->G[i]? =t[i]? :=by
   intro y z S h1 n1 C1 t1 s1 f0 zs hk j5 j3 e4 g9 h8 j9 i1 a0 i0 f8;rw[eI]at hk;have hd:d<t1.length:=by omega
   have b6:Ro g t1:=by
    cases g with
    |none=>trivial
    |some p=>
     obtain⟨c',w'⟩:=p;simp only[Ro]at hg ⊢;rw[a0 c' (fun hi=>eO bd o5 c' hi (by simp[hgi c' w' rfl]))];exact hg
   have F:dQ C1 ((d,y)::edel S (d::cG bd kl)) (t1.set d z):=.put hd j5 (fun i w hw=>by
    obtain⟨z',q1,q2⟩:=e4 i w hw;refine⟨z',q1,q2,fun e2=>?_⟩;rw[zW,yY2 (by simp[e2])]at hw;cases hw)
   obtain⟨e2,E,J,C2,M,L,g7,r1,r2,r3,r4,r5,r6,r7,r8⟩:=cX hO Z B u A (d::H) l g C1 n1 h1 _ (t1.set d z) s1 K r hk F g9 (by simpa using h8) o6 (b6.set hgi U) hgi;refine⟨e2,E,J,C2,M,L,_,r1,j3.append (.op (o:=⟨some d,.pick,_,g⟩) b6.wanted i0 rfl f8 r2),r3,r4,r5,by omega,i1.trans r7,fun i hi=>?_⟩;simp only[cG,zF2,cW bd (cG u []) i,bR3]at hi;rw[r8 i hi.2.2,zI2 (Ne.symm hi.1),a0 i hi.2.1]
  have run:cb=w->dF O X dr bd e h n (fun e h n=>qI e [x'] fun vs=>match vs with
    |[y]=>iY e (d::cG bd kl) fun e=>dF O X dr u ((d,y)::e) h n K
    |_=>none)=some r->∃e' h' n' C' G s' fs,K e' h' n'=some r/\Tr T X.is dr lim (oX g (.ifn d c w bd x' kl u)) {t:=t,s:=s} fs {t:=G,s:=s'}/\dQ C' e' G/\cM C' n' h' lim s'/\G.length=N/\n<=n'/\Fr C h s C' h' s'/\∀(i:Nat),i∉cG (.ifn d c w bd x' kl u) []->G[i]? =t[i]? :=by
   intro f5 hk;obtain⟨S,h1,n1,C1,t1,s1,f0,q1,q2,q3,q4,q5,q6,q7,q8⟩:=cX hO Z B bd (c::A) [] true (some (c,w)) C n h e t s _ r hk he hM hN o5 (by rw[<-f5];exact b8) (fun c' w' e=>by cases e;simp);rw[jN,yR2]at q1;obtain⟨vs,b0,q1⟩:=q1;obtain⟨ys,E,h4⟩:=kU q3 (xs:=[x']) (by simpa using o3) b0;split at q1;rename_i y;obtain⟨z,_,rfl,h5,h6⟩:=h4.inv_cons;rw[h6.inv_nil]at E
   have hz:(eX x').ev t1=some z:=by
    simp only[bQ3,cX3,Sim.evs]at E;split at E;rename_i a b ha hb;simp only[yZ2,List.cons.injEq]at E;rw[<-E.1];exact ha;cases E
   have hc:=b9 t1 q8;cases w with
   |true=>
    subst f5;exact tail q1 h5 q2 (fun i w hw=>by obtain⟨z',p1,p2,_⟩:=q3.edel _ i w hw;exact⟨z',p1,p2⟩) q4 q5 q6 q7 q8 (Pt (a:=.v (.bool true)) (b:=z) (c:=.v (.bool false)) hc hz rfl) rfl
   |false=>
    subst f5;exact tail q1 h5 q2 (fun i w hw=>by obtain⟨z',p1,p2,_⟩:=q3.edel _ i w hw;exact⟨z',p1,p2⟩) q4 q5 q6 q7 q8 (Pt (a:=.v (.bool false)) (b:=.v (.bool true)) (c:=z) hc rfl hz) rfl
   exact aD q1
  have skip:cb≠w->(iY e (d::cG bd kl) fun e=>dF O X dr u ((d,.v (.bool (!w)))::e) h n K)=some r->∃e' h' n' C' G s' fs,K e' h' n'=some r/\Tr T X.is dr lim (oX g (.ifn d c w bd x' kl u)) {t:=t,s:=s} fs {t:=G,s:=s'}/\dQ C' e' G/\cM C' n' h' lim s'/\G.length=N/\n<=n'/\Fr C h s C' h' s'/\∀(i:Nat),i∉cG (.ifn d c w bd x' kl u) []->G[i]? =t[i]? :=by
   intro i7 hk;obtain⟨fs,t1,k1,k2,k3,k4⟩:=eT (T:=T) (NF:=X.is) (dr:=dr) (lim:=lim) (s:=s) (some (c,w)) bd (c::A) [] t o5 (fun c' w' e=>by cases e;simp) (by simp[Sim.wanted,b8,i7]) (fun c hc=>by simp at hc);obtain⟨z,hz⟩:=Fx (k2.trans hN) o3
   have e4:dQ C (edel e (d::cG bd kl)) t1:=fun i v hv=>by
    obtain⟨z,q1,q2,q3⟩:=he.edel (d::cG bd kl) i v hv;have f7:i∉cG bd []:=fun hi=>q3 (by simp[(cW bd kl i).2 (.inl hi)]);exact⟨z,by rw[k3 i f7];exact q1,q2⟩
   have hc:=b9 t1 k3;cases w with
   |true=>
    have:cb=false:=by cases cb<;>simp_all
    subst this;exact tail hk (.cl (.v (.bool false))) k1 e4 hM (k2.trans hN) (yX2 _) (.refl _ _ _) k3 (Pt (a:=.v (.bool false)) (b:=z) (c:=.v (.bool false)) hc hz rfl) rfl
   |false=>
    have:cb=true:=by cases cb<;>simp_all
    subst this;exact tail hk (.cl (.v (.bool true))) k1 e4 hM (k2.trans hN) (yX2 _) (.refl _ _ _) k3 (Pt (a:=.v (.bool true)) (b:=.v (.bool true)) (c:=z) hc rfl hz) rfl
  cases w with
  |true=>
   rw[zE2]at hk;cases cb with
   |true=>exact run rfl hk
   |false=>exact skip (by simp) hk
  |false=>
   rw[zP2]at hk;cases cb with
   |true=>exact skip (by simp) hk
   |false=>exact run rfl hk
  exact aD hk
 |.mkfl d ty zero xs kl u,A,H,l,g,C,n,h,e,t,s,K,r,hk,he,hM,hN,ho,hg,hgi=>by
  simp only[jL,yS2,zK2,gN,bB3]at ho;obtain⟨⟨⟨o1,o2⟩,o3⟩,o4⟩:=ho;have hd:d<t.length:=by omega
  have U:d∉A:=by simpa using o2
  unfold dF at hk;rw[jN,yR2]at hk;obtain⟨vs,b0,hk⟩:=hk;obtain⟨ys,h1,h2⟩:=kU he o3 b0;cases hc:(Nat.beq zero.length 1&&vs.all kB1)with
  |false=>rw[hc]at hk;exact aD hk
  |true=>
  rw[hc,zE2,eI]at hk;simp only[yS2,aW,zD2]at hc;obtain⟨C',out,q1,q2,q3,q4,q5⟩:=eW1 (ty:=ty) hM h2 hc.1 hc.2
  have hlen:vs.length=xs.length:=by
   have:=h2.1;have E:ys.length=xs.length:=(Wq h1).trans (by simp);omega
  rw[hlen]at q1
  have F:dQ C' ((d,.own n)::edel e (d::kl)) (t.set d out.v):=.put hd q2 (fun i w hw=>by
   obtain⟨z,p1,p2,p3⟩:=(he.mono q4).edel (d::kl) i w hw;exact⟨z,p1,p2,fun S=>p3 (by simp[S])⟩)
  obtain⟨e2,E,J,C2,M,L,fs,r1,r2,r3,r4,r5,r6,r7,r8⟩:=cX hO Z B u A (d::H) l g C' (n+1) _ _ _ _ K r hk F q3 (by simpa using hN) o4 (hg.set hgi U) hgi;refine⟨e2,E,J,C2,M,L,_,r1,.op (o:=⟨some d,.buildSl ty 1 xs.length zero (List.range xs.length),xs.map eX,g⟩) hg.wanted h1 rfl q1 r2,r3,r4,r5,by omega,q5.trans r7,fun i hi=>?_⟩;simp only[cG,zF2,bR3]at hi;rw[r8 i hi.2,zI2 (Ne.symm hi.1)]
 |.lax d es u,A,H,l,g,C,n,h,e,t,s,K,r,hk,he,hM,hN,ho,hg,hgi=>by
  simp only[jL]at ho;unfold dF at hk;rw[iO,yR2]at hk;obtain⟨v,hv,hk⟩:=hk;obtain⟨y,b5,Y⟩:=he d _ hv
  have e9:∀v',RV C v' y->dQ C ((d,v')::edel e [d]) t:=fun v' hv' i w hw=>by
   simp only[eH]at hw;split at hw;rename_i S;subst S;cases hw;exact⟨y,b5,hv'⟩;obtain⟨z,q1,q2,_⟩:=he.edel [d] i w hw;exact⟨z,q1,q2⟩
  split at hk;rename_i s';rw[eI]at hk;rw[gT Y]at e9;exact cX hO Z B u A H l g C n h _ t s K r hk (e9 _ (.cl .isn)) hM hN ho hg hgi;rename_i cs;obtain⟨cs',h1,h2⟩:∃cs',y=.agg cs'/\LR (RV C) cs cs':=mD Y;subst h1;obtain⟨cs2,q1,q2⟩:=Wp h2 hk;rw[eI]at q1;exact cX hO Z B u A H l g C n h _ t s K r q1 (e9 _ (.agg q2.1 q2.2)) hM hN ho hg hgi;exact aD hk
 |.own d ty es g' u,A,H,l,g,C,n,h,e,t,s,K,r,hk,he,hM,hN,ho,hg,hgi=>by
  simp only[jL]at ho;unfold dF at hk;rw[iO,yR2]at hk;obtain⟨v,hv,hk⟩:=hk;obtain⟨y,b5,Y⟩:=he d _ hv;split at hk;rw[eI]at hk;have hy:=gT Y;subst hy;obtain⟨m1,m2⟩:=Kv hM (ty:=ty) (e:=es) (g:=g');have e5:=mO hM .nil
  have F:dQ (ext C n .nil) ((d,.own n)::edel e [d]) t:=fun i w hw=>by
   simp only[eH]at hw;split at hw;rename_i S;subst S;cases hw;exact⟨_,b5,.ownn (by simp[ext]) rfl⟩;obtain⟨z,q1,q2,_⟩:=he.edel [d] i w hw;exact⟨z,q1,q2.mono e5⟩
  obtain⟨e2,E,J,C2,M,L,fs,r1,r2,r3,r4,r5,r6,r7,r8⟩:=cX hO Z B u A H l g _ (n+1) _ _ t s K r hk F m1 hN ho hg hgi;exact⟨e2,E,J,C2,M,L,fs,r1,r2,r3,r4,r5,by omega,m2.trans r7,r8⟩;exact aD hk
 |.laxc d j es u,A,H,l,g,C,n,h,e,t,s,K,r,hk,he,hM,hN,ho,hg,hgi=>by
  simp only[jL]at ho;unfold dF at hk;rw[iO,yR2]at hk;obtain⟨v,hv,hk⟩:=hk;obtain⟨y,b5,Y⟩:=he d _ hv;split at hk;rename_i k o0;rw[gH,yR2]at hk;obtain⟨ob,V,hk⟩:=hk;split at hk;rename_i cs;obtain⟨id,ver,S,l1,hC,rfl⟩:=kH Y;obtain⟨hj,hk⟩:=dZ _ _ _ _ hk;split at hk;rename_i tl d2;obtain⟨f9,hk⟩:=jC _ _ _ _ _ hk;have hk:=dB _ _ _ _ _ hk
  have d0:cs[j]? =some (.v (.slice none 0 0)):=by
   have:(cs.drop j)[0]? =some (.v (.slice none 0 0)):=by rw[d2];rfl
   simpa using this
  obtain⟨g4,d4,esz,row,hL,hl⟩:=wB hM V hC;have d7:=(hM.hr.lt (by rw[V];simp) hC)
  obtain⟨m1,m2⟩:=rT hM (po':=.box (Sim.setL cs j [.is es []])) (ao:=.arr true d4 esz ver [row]) V hC ⟨d7.1,d7.2,d4,esz,row,by rw[Sim.look_upd,yY2 ⟨rfl,by rw[hL];rfl⟩],by
   refine⟨by rw[<-hl.1];simp[Sim.setL],fun i a b ha hb=>?_⟩;simp only[Sim.setL]at ha;rw[zS2]at ha;split at ha;rename_i e2;subst e2;split at ha;cases ha;have:=gT (hl.2 j _ _ d0 hb);subst this;exact .cl .isn;cases ha;exact hl.2 i a b ha hb⟩ rfl
  have a0:({h:=upd s.h id (.arr true d4 esz ver [row]),n:=s.n}:Hp)=s:=by
   rw[yP hL]
  rw[a0]at m1 m2;obtain⟨e2,E,J,C2,M,L,fs,r1,r2,r3,r4,r5,r6,r7,r8⟩:=cX hO Z B u A H l g _ n _ _ t s K r hk he m1 hN ho hg hgi;exact⟨e2,E,J,C2,M,L,fs,r1,r2,r3,r4,r5,by omega,m2.trans r7,r8⟩;exact aD hk;exact aD hk;exact aD hk
 |.ownc d j ty es g' u,A,H,l,g,C,n,h,e,t,s,K,r,hk,he,hM,hN,ho,hg,hgi=>by
  simp only[jL]at ho;unfold dF at hk;rw[iO,yR2]at hk;obtain⟨v,hv,hk⟩:=hk;obtain⟨y,b5,Y⟩:=he d _ hv;split at hk;rename_i k o0;rw[gH,yR2]at hk;obtain⟨ob,V,hk⟩:=hk;split at hk;rename_i cs;obtain⟨id,ver,S,l1,hC,rfl⟩:=kH Y;obtain⟨hj,hk⟩:=dZ _ _ _ _ hk;split at hk;rename_i tl d2;obtain⟨cC,hk⟩:=jC _ _ _ _ _ hk;have hk:=dB _ _ _ _ _ hk;have e5:=mO hM .nil
  have d0:cs[j]? =some (.v (.slice none 0 0)):=by
   have:(cs.drop j)[0]? =some (.v (.slice none 0 0)):=by rw[d2];rfl
   simpa using this
  obtain⟨m1,m2⟩:=kY1 (ty:=ty) (e':=es) (g:=g') (cs2:=Sim.setL cs j [.own n]) hM V hC (fun row d8=>by
   refine⟨by rw[<-d8.1];simp[Sim.setL],fun i a b ha hb=>?_⟩;simp only[Sim.setL]at ha;rw[zS2]at ha;split at ha;rename_i e2;subst e2;split at ha;cases ha;have:=gT (d8.2 j _ _ d0 hb);subst this;exact .ownn (by simp[ext]) rfl;cases ha;exact(d8.2 i a b ha hb).mono e5)
  obtain⟨e2,E,J,C2,M,L,fs,r1,r2,r3,r4,r5,r6,r7,r8⟩:=cX hO Z B u A H l g _ (n+1) _ _ t s K r hk (he.mono e5) m1 hN ho hg hgi;exact⟨e2,E,J,C2,M,L,fs,r1,r2,r3,r4,r5,by omega,m2.trans r7,r8⟩;exact aD hk;exact aD hk;exact aD hk
 |.fz d j u,A,H,l,g,C,n,h,e,t,s,K,r,hk,he,hM,hN,ho,hg,hgi=>by
  simp only[jL]at ho;unfold dF at hk;rw[iO,yR2]at hk;obtain⟨v,hv,hk⟩:=hk;obtain⟨y,b5,Y⟩:=he d _ hv
  have fin:∀{m k v0 y0},Ff v0=some (m,k)->RV C v0 y0->((j=none/\y=y0)\/∃i cs',j=some i/\y=.agg cs'/\cs'[i]? =some y0)->fzK e h d m k j (fun e h=>dF O X dr u e h n K)=some r->
    ∃e' h' n' C' G s' fs,K e' h' n'=some r/\Tr T X.is dr lim (oX g u) {t:=t,s:=s} fs {t:=G,s:=s'}/\dQ C' e' G/\cM C' n' h' lim s'/\G.length=N/\n<=n'/\Fr C h s C' h' s'/\∀(i:Nat),i∉cG u []->G[i]? =t[i]? :=fun{m k v0 y0} hn j4 hj hk=>by
   obtain⟨C',e',h',q1,q2,q3,q4⟩:=kN1 hM he hv b5 Y hn j4 hj hk;obtain⟨e2,E,J,C2,M,L,fs,r1,r2,r3,r4,r5,r6,r7,r8⟩:=cX hO Z B u A H l g C' n _ _ t s K r q1 q3 q2 hN ho hg hgi;exact⟨e2,E,J,C2,M,L,fs,r1,r2,r3,r4,r5,r6,q4.trans r7,r8⟩
  cases j with
  |none=>
   simp only at hk;split at hk;rename_i m k hn;exact fin hn Y (.inl ⟨rfl,rfl⟩) hk;exact aD hk
  |some j=>
   simp only at hk;cases v with
   |agg cs=>
    obtain⟨cs',rfl,hl⟩:=mD Y;obtain⟨hj,hk⟩:=dZ _ _ _ _ hk;split at hk;rename_i c tl d2
    have d0:cs[j]? =some c:=by
     have:(cs.drop j)[0]? =some c:=by rw[d2];rfl
     simpa using this
    obtain⟨y0,k1,k2⟩:=hl.get d0;split at hk;rename_i m k hn;exact fin hn k2 (.inr ⟨j,cs',rfl,rfl,k1⟩) hk
    have e7:∀{x},RV C x y0->(qK cs j [x] fun cs=>iY e [d] fun e=>dF O X dr u ((d,.agg cs)::e) h n K)=some r->
      ∃e' h' n' C' G s' fs,K e' h' n'=some r/\Tr T X.is dr lim (oX g u) {t:=t,s:=s} fs {t:=G,s:=s'}/\dQ C' e' G/\cM C' n' h' lim s'/\G.length=N/\n<=n'/\Fr C h s C' h' s'/\∀(i:Nat),i∉cG u []->G[i]? =t[i]? :=fun{x} hx hk=>by
     obtain⟨q1,q2⟩:=jC _ _ _ _ _ hk;simp only[eI]at q2;have f6:=hl.set hx j
     have S:cs'.set j y0=cs':=by
      apply cK3;intro a;rw[zS2];split;rename_i h;subst h;have h9:=(yT2.1 k1).1;rw[yY2 h9,k1];rfl
     rw[S]at f6
     exact cX hO Z B u A H l g C n _ _ t s K r q2 (fun i w hw=>by
      simp only[eH]at hw;split at hw;rename_i S;subst S;cases hw;exact⟨_,b5,.agg f6.1 f6.2⟩;obtain⟨z,p1,p2,_⟩:=he.edel [d] i w hw;exact⟨z,p1,p2⟩) hM hN ho hg hgi
    split at hk;refine e7 (.zs (RZ.of ?_)) hk;cases k2 with
    |cl h=>exact h.plain rfl
    rename_i dp es rows _;cases hb:Nat.ble dp 5 with
    |false=>rw[hb]at hk;exact aD hk
    |true=>
     rw[hb,zE2]at hk;refine e7 ?_ hk;cases k2 with
     |cl h=>cases h
     |zs h=>exact .zs (RZ.up (zH2 hb) h)
    exact aD hk;exact aD hk
   |_=>exact aD hk
 |.laxm d j u,A,H,l,g,C,n,h,e,t,s,K,r,hk,he,hM,hN,ho,hg,hgi=>by
  simp only[jL]at ho;unfold dF at hk;rw[iO,yR2]at hk;obtain⟨v,hv,hk⟩:=hk;obtain⟨y,b5,Y⟩:=he d _ hv;split at hk;rw[eI]at hk;have hy:=gT Y;subst hy
  have F:dQ C ((d,.zm [])::edel e [d]) t:=fun i w hw=>by
   simp only[eH]at hw;split at hw;rename_i S;subst S;cases hw;exact⟨_,b5,.zm0⟩;obtain⟨z,q1,q2,_⟩:=he.edel [d] i w hw;exact⟨z,q1,q2⟩
  exact cX hO Z B u A H l g C n h _ t s K r hk F hM hN ho hg hgi;rename_i j k o;rw[gH,yR2]at hk;obtain⟨ob,V,hk⟩:=hk;split at hk;rename_i cs;obtain⟨id,ver,S,l1,hC,rfl⟩:=kH Y;obtain⟨hj,hk⟩:=dZ _ _ _ _ hk;split at hk;rename_i tl d2;obtain⟨f9,hk⟩:=jC _ _ _ _ _ hk;have hk:=dB _ _ _ _ _ hk
  have d0:cs[j]? =some (.v (.map none)):=by
   have:(cs.drop j)[0]? =some (.v (.map none)):=by rw[d2];rfl
   simpa using this
  obtain⟨g4,d4,esz,row,hL,hl⟩:=wB hM V hC;have d7:=(hM.hr.lt (by rw[V];simp) hC)
  obtain⟨m1,m2⟩:=rT hM (po':=.box (Sim.setL cs j [.zm []])) (ao:=.arr true d4 esz ver [row]) V hC ⟨d7.1,d7.2,d4,esz,row,by rw[Sim.look_upd,yY2 ⟨rfl,by rw[hL];rfl⟩],by
   refine⟨by rw[<-hl.1];simp[Sim.setL],fun i a b ha hb=>?_⟩;simp only[Sim.setL]at ha;rw[zS2]at ha;split at ha;rename_i e2;subst e2;split at ha;cases ha;have:=gT (hl.2 j _ _ d0 hb);subst this;exact .zm0;cases ha;exact hl.2 i a b ha hb⟩ rfl
  have a0:({h:=upd s.h id (.arr true d4 esz ver [row]),n:=s.n}:Hp)=s:=by
   rw[yP hL]
  rw[a0]at m1 m2;obtain⟨e2,E,J,C2,M,L,fs,r1,r2,r3,r4,r5,r6,r7,r8⟩:=cX hO Z B u A H l g _ n _ _ t s K r hk he m1 hN ho hg hgi;exact⟨e2,E,J,C2,M,L,fs,r1,r2,r3,r4,r5,by omega,m2.trans r7,r8⟩;exact aD hk;exact aD hk;exact aD hk
 |.opn d m x kl js u,A,H,l,g,C,n,h,e,t,s,K,r,hk,he,hM,hN,ho,hg,hgi=>by
  simp only[jL,yS2,zK2,gN,bB3]at ho;obtain⟨⟨⟨o1,o2⟩,o3⟩,o4⟩:=ho;have hd:d<t.length:=by omega
  have U:d∉A:=by simpa using o2
  unfold dF at hk;rw[jN,yR2]at hk;obtain⟨vs,b0,hk⟩:=hk;obtain⟨ys,h1,h2⟩:=kU he o3 b0
  have fin:∀{k:gC},k≠.callV->(∀f,k≠.callF f)->uY1 C n h lim s k ys (fun v h n=>iY e (d::kl) fun e=>dF O X dr u ((d,v)::e) h n K) r->
    ∃e' h' n' C' G s' fs,K e' h' n'=some r/\Tr T X.is dr lim (⟨some d,k,[eX x],g⟩::oX g u) {t:=t,s:=s} fs {t:=G,s:=s'}/\dQ C' e' G/\cM C' n' h' lim s'/\G.length=N/\n<=n'/\Fr C h s C' h' s'/\∀(i:Nat),i∉d::cG u []->G[i]? =t[i]? :=fun{k} i6 i5 hr=>by
   obtain⟨v,h',n',C',y',p1,p2,p3,p4,p5,p6,p7⟩:=hr;simp only[eI]at p1
   have F:dQ C' ((d,v)::edel e (d::kl)) (t.set d y'):=.put hd p3 (fun i w hw=>by
    obtain⟨z,p1,p2,p3⟩:=(he.mono p6).edel (d::kl) i w hw;exact⟨z,p1,p2,fun S=>p3 (by simp[S])⟩)
   obtain⟨e2,E,J,C2,M,L,fs,r1,r2,r3,r4,r5,r6,r7,r8⟩:=cX hO Z B u A (d::H) l g C' n' h' _ _ s K r p1 F p4 (by simpa using hN) o4 (hg.set hgi U) hgi;refine⟨e2,E,J,C2,M,L,_,r1,.op (o:=⟨some d,k,[eX x],g⟩) (out:={v:=y'}) hg.wanted h1 ?_ p2 r2,r3,r4,r5,by omega,p7.trans r7,fun i hi=>?_⟩;cases k<;>first|rfl|exact absurd rfl i6|exact absurd rfl (i5 _)
   simp only[zF2,bR3]at hi;rw[r8 i hi.2,zI2 (Ne.symm hi.1)]
  split at hk;rename_i k i o;obtain⟨y,_,rfl,E,h4⟩:=h2.inv_cons;rw[h4.inv_nil]at fin;rw[gH,yR2]at hk;obtain⟨ob,V,hk⟩:=hk;cases ob with
  |tr tt rows hs=>
   cases m with
   |none=>exact fin (k:=.loadS) (fun h=>by cases h) (fun f h=>by cases h) ((Wm hM V E).1 hk)
   |some m=>exact fin (k:=.loadA m) (fun h=>by cases h) (fun f h=>by cases h) ((Wm hM V E).2 m hk)
  |_=>exact aD hk
  exact aD hk
 |.bst d tt len zero parts xs kl u,A,H,l,g,C,n,h,e,t,s,K,r,hk,he,hM,hN,ho,hg,hgi=>by
  simp only[jL,yS2,zK2,gN,bB3]at ho;obtain⟨⟨⟨o1,o2⟩,o3⟩,o4⟩:=ho;have hd:d<t.length:=by omega
  have U:d∉A:=by simpa using o2
  unfold dF at hk;rw[jN,yR2]at hk;obtain⟨vs,b0,hk⟩:=hk;obtain⟨ys,h1,h2⟩:=kU he o3 b0;obtain⟨ty,es,ks⟩:=tt;simp only at hk;cases hc:(Kr 0 parts&&(Nat.beq zero.length es&&(!(dY ty)&&Nat.beq parts.length len)))with
  |false=>rw[hc]at hk;exact aD hk
  |true=>
  rw[hc,zE2]at hk;obtain⟨rows,hs,C',out,q0,q1,q2,q3,q4,q5⟩:=kR1 hM h2 hc hk;rw[eI]at q0
  have F:dQ C' ((d,.own n)::edel e (d::kl)) (t.set d out.v):=.put hd q2 (fun i w hw=>by
   obtain⟨z,p1,p2,p3⟩:=(he.mono q4).edel (d::kl) i w hw;exact⟨z,p1,p2,fun S=>p3 (by simp[S])⟩)
  obtain⟨e2,E,J,C2,M,L,fs,r1,r2,r3,r4,r5,r6,r7,r8⟩:=cX hO Z B u A (d::H) l g C' (n+1) _ _ _ _ K r q0 F q3 (by simpa using hN) o4 (hg.set hgi U) hgi;refine⟨e2,E,J,C2,M,L,_,r1,.op (o:=⟨some d,.buildSl ty es len zero parts,xs.map eX,g⟩) hg.wanted h1 rfl q1 r2,r3,r4,r5,by omega,q5.trans r7,fun i hi=>?_⟩;simp only[cG,zF2,bR3]at hi;rw[r8 i hi.2,zI2 (Ne.symm hi.1)]
 |.clr d es zero x y' kl u,A,H,l,g,C,n,h,e,t,s,K,r,hk,he,hM,hN,ho,hg,hgi=>by
  simp only[jL,yS2,zK2,gN,bB3]at ho;obtain⟨⟨⟨o1,o2⟩,o3⟩,o4⟩:=ho;have hd:d<t.length:=by omega
  have U:d∉A:=by simpa using o2
  unfold dF at hk;rw[jN,yR2]at hk;obtain⟨vs,b0,hk⟩:=hk;obtain⟨ys,h1,h2⟩:=kU he o3 b0;split at hk;rename_i k kd lo;obtain⟨y1,d5,rfl,E,h4⟩:=h2.inv_cons;obtain⟨y2,g1,rfl,h5,h6⟩:=h4.inv_cons;have:=h6.inv_nil;subst this;rw[gT h5]at h1;rw[gH,yR2]at hk;obtain⟨ob,V,hk⟩:=hk;split at hk;rename_i ty es' g' rows;cases hc:(Nat.beq es' es&&Nat.beq zero.length es)with
  |false=>rw[hc]at hk;exact aD hk
  |true=>
   rw[hc,zE2,rS,bJ,yR2]at hk;obtain⟨b4,g3,hk⟩:=hk;simp only[yS2,aW,zD2]at hc;obtain⟨rfl,hz⟩:=hc;have hk:=dB _ _ _ _ _ hk;rw[eI]at hk;obtain⟨v,out,q1,q2,q3,q4⟩:=kU1 (kd:=kd) hM V hz E g3
   have F:dQ C (edel e (d::kl)) (t.set d v):=fun i w hw=>by
    obtain⟨z,p1,p2,p3⟩:=he.edel (d::kl) i w hw;exact⟨z,by rw[zI2 (fun S=>p3 (by simp[S]))];exact p1,p2⟩
   have b6:=hg.set (y:=v) hgi U;obtain⟨e2,h7,J,C2,M,L,fs,r1,r2,r3,r4,r5,r6,r7,r8⟩:=cX hO Z B u A (d::H) l g C n _ _ _ _ K r hk F q3 (by simpa using hN) o4 b6 hgi;refine⟨e2,h7,J,C2,M,L,_,r1,.op (o:=⟨some d,.slc es' true false false,[eX x,eX y'],g⟩) (out:={v:=v}) hg.wanted h1 rfl q1 (.op (o:=⟨none,.clear es' zero,[.t d],g⟩) (xs:=[v]) b6.wanted ?_ rfl q2 r2),r3,r4,r5,r6,q4.trans r7,fun i hi=>?_⟩;show Sim.evs (t.set d v) [.t d]=some [v]
   simp[Sim.evs,Sim.IX.ev,hd];simp only[cG,zF2,bR3]at hi;rw[r8 i hi.2,zI2 (Ne.symm hi.1)]
  exact aD hk;exact aD hk
 |.gc kp u,A,H,l,g,C,n,h,e,t,s,K,r,hk,he,hM,hN,ho,hg,hgi=>by
  simp only[jL]at ho;unfold dF at hk;obtain⟨e0,hk,g6⟩:=Tk hk;obtain⟨j7,hk⟩:=wH (iP 5) _ _ _ _ hk;obtain⟨ns,hk⟩:=fR _ _ _ _ _ hk;obtain⟨h0,hk,i9⟩:=Gf hk;obtain⟨m1,m2⟩:=kV1 hM i9;obtain⟨C',e',h',q1,q2,q3,q4⟩:=eQ1 _ m1 (fun i v hv=>he i v (g6 i v hv)) hk;obtain⟨e2,E,J,C2,M,L,fs,r1,r2,r3,r4,r5,r6,r7,r8⟩:=cX hO Z B u A H l g C' n h' _ t s K r q1 q3 q2 hN ho hg hgi;exact⟨e2,E,J,C2,M,L,fs,r1,r2,r3,r4,r5,r6,(m2.trans q4).trans r7,r8⟩
 |.up m u,A,H,l,g,C,n,h,e,t,s,K,r,hk,he,hM,hN,ho,hg,hgi=>by
  unfold dF at hk;cases hb:Nat.ble n m with
  |false=>rw[hb]at hk;exact aD hk
  |true=>
   rw[hb,zE2]at hk;have g5:=zH2 hb;obtain⟨e2,E,J,C2,M,L,fs,r1,r2,r3,r4,r5,r6,r7,r8⟩:=cX hO Z B u A H l g C m h e t s K r hk he ⟨hM.hr,fun k pl hk=>aE3 (hM.dom k pl hk) g5,hM.wf,hM.lim⟩ hN (by simpa only[jL]using ho) hg hgi;exact⟨e2,E,J,C2,M,L,fs,r1,r2,r3,r4,r5,zX2 g5 r6,r7,fun i hi=>r8 i (by simpa only[cG]using hi)⟩
 |.tre d j tt u,A,H,l,g,C,n,h,e,t,s,K,r,hk,he,hM,hN,ho,hg,hgi=>by
  simp only[jL]at ho;unfold dF at hk;obtain⟨v,hk⟩:=Tj hk;split at hk;rename_i k;rw[gH,yR2]at hk;obtain⟨ob,V,hk⟩:=hk;split at hk;rename_i ty es g' rows;obtain⟨ty',es',ks⟩:=tt;simp only at hk;cases hc:(Nat.beq ty ty'&&(Nat.beq es es'&& !(dY ty)))with
  |false=>rw[hc]at hk;exact aD hk
  |true=>
   rw[hc,zE2]at hk;simp only[yS2,aW,zD2,zK2]at hc;obtain⟨rfl,rfl,hf⟩:=hc
   have key:∃b4,(gA h k (.tr (.nd ty es ks) b4 []) fun h=>dF O X dr u e h n K)=some r/\cM C n (cC h k (.tr (.nd ty es ks) b4 [])) lim s/\Fr C h s C (cC h k (.tr (.nd ty es ks) b4 [])) s:=by
    cases hz:(ks.all fun q=>vA q.2)with
    |true=>rw[hz,zE2]at hk;exact⟨_,hk,kS1 hM V hf hz⟩
    |false=>
     rw[hz,zP2]at hk;split at hk;exact⟨_,hk,kT1 hM V hf⟩;exact aD hk
   obtain⟨b4,hk,m1,m2⟩:=key;have hk:=dB _ _ _ _ _ hk;obtain⟨e2,E,J,C2,M,L,fs,r1,r2,r3,r4,r5,r6,r7,r8⟩:=cX hO Z B u A H l g C n _ _ t s K r hk he m1 hN ho hg hgi;exact⟨e2,E,J,C2,M,L,fs,r1,r2,r3,r4,r5,r6,m2.trans r7,r8⟩
  exact aD hk;exact aD hk
end
end Go.P
namespace Go.P
open Go.Sim (AV AO Hp fQ upd St IC IX Ex gC CK Wf Out doOp jW exec Foot wanted put popMark)
variable {lim n:Nat}
def cJ (C:Cx) (n:Nat):Cx:=⟨fun k=>if k<n then C k else none,C.z,C.w⟩
def pC {C} {n} {x} {y} (h:RV C x y):∀{d:Nat},qM n d x=true->RV (cJ C n) x y:=by
 have lt:∀{k d:Nat} {pl:Pl},C k=some pl->Nat.blt k n=true->cJ C n k=some pl:=fun h1 h2=>by
  simp only[bB3]at h2;simp[cJ,h2,h1]
 induction h with
 |cl h=>intro d hb;exact .cl h
 |undef=>intro d hb;exact .undef
 |ref h=>intro d hb;cases d with
  |zero=>cases hb
  |succ d=>exact .ref (lt (d:=0) h hb)
 |own h=>intro d hb;cases d with
  |zero=>cases hb
  |succ d=>exact .own (lt (d:=0) h hb)
 |ownn h hy=>intro d hb;cases d with
  |zero=>cases hb
  |succ d=>exact .ownn (lt (d:=0) h hb) hy
 |el h=>intro d hb;cases d with
  |zero=>cases hb
  |succ d=>exact .el (lt (d:=0) h hb)
 |map h=>intro d hb;cases d with
  |zero=>cases hb
  |succ d=>exact .map (lt (d:=0) h hb)
 |yld h=>intro d hb;cases d with
  |zero=>cases hb
  |succ d=>exact .yld (lt (d:=0) h hb)
 |fn h1 h2 v1 v2 i1 i2=>intro d hb;cases d with
  |zero=>cases hb
  |succ d=>
   simp only[qM,yS2]at hb;exact .fn h1 h2 (fun j x y a hy=>i1 j x y a hy (yW2.1 hb.1 x (zC2 a))) (fun j x y a hy=>i2 j x y a hy (yW2.1 hb.2 x (zC2 a)))
 |agg hl hc ih=>intro d hb;cases d with
  |zero=>cases hb
  |succ d=>exact .agg hl (fun j x y a hy=>ih j x y a hy (yW2.1 hb x (zC2 a)))
 |tup hl hc ih=>intro d hb;cases d with
  |zero=>cases hb
  |succ d=>exact .tup hl (fun j x y a hy=>ih j x y a hy (yW2.1 hb x (zC2 a)))
 |zs h=>intro d hb;exact .zs h
 |zm h he=>intro d hb;exact .zm h he
 |zm0=>intro d hb;exact .zm0
 |zp h=>intro d hb;exact .zp h
 |zt h=>intro d hb;exact .zt h
def eL.lk {L L'} {w} {lim nS} (c:∀id ty e v els,L id=some (.arr false ty e v els)->L' id=some (.arr false ty e v els)):∀{d} {sl} {t} {x} {y},eL L w lim nS d sl t x y->eL L' w lim nS d sl t x y
 |0,_,_,_,_,h=>h.elim
 |d+1,sl,.nd ty e ks,x,y,h=>by
  rcases h with h|⟨rows,h1,h2⟩
  exact .inl h
  refine .inr ⟨rows,h1,?_⟩
  rcases h2 with h2|⟨id,ver,els,k1,k2,k3,k4,kf,k5,k6,k7⟩
  exact .inl h2
  refine .inr ⟨id,ver,els,k1,k2,k3,k4,kf,c _ _ _ _ _ k5,k6,fun i r r' a b=>⟨(k7 i r r' a b).1,fun j f g a1 b1=>?_⟩⟩
  have:=(k7 i r r' a b).2 j f g a1 b1
  cases hk:eZ ks j with
  |none=>rw[hk]at this;exact this
  |some t=>rw[hk]at this;exact eL.lk c this
section
variable {R:Type}
def Qa:∀(e:eQ) (i:Nat) (K:PV->aB R) (D:aB R),Vp e i K D=match eH e i with|some v=>K v|none=>D
 |[],_,_,_=>rfl
 |(j,v)::r,i,K,D=>by
  simp only[Vp,eH,aW]
  by_cases h:j=i<;>simp[h,Qa r i K D]
def Ai {e} {n}:∀{is:aA Nat} {K:eQ->aB R} {r:R},Pb e is n K=some r->∃e',K e'=some r/\∀i v,eH e' i=some v->eH e i=some v/\qM n 4 v=true
 |[],K,r,h=>⟨[],h,fun i v h=>by simp[eH]at h⟩
 |i::is,K,r,h=>by
  unfold Pb at h
  rw[Qa]at h
  cases hv:eH e i with
  |none=>rw[hv]at h;exact Ai h
  |some v=>
   rw[hv]at h
   simp only at h
   cases hb:qM n 4 v with
   |false=>rw[hb]at h;exact aD h
   |true=>
    rw[hb,zE2]at h
    obtain⟨e',h1,h2⟩:=Ai h
    refine⟨_,h1,fun j w hw=>?_⟩
    simp only[eH]at hw
    split at hw
    rename_i a;subst a;cases hw;exact⟨hv,hb⟩
    exact h2 j w hw
def Jj {h} {n}:∀{r:aJ} {K:aJ->aB R} {x:R},Vq r h n K=some x->∃h',K h'=some x/\∀k,(aG r k=none->aG h' k=none)/\(aG r k≠none->∃o,aG h' k=some o/\aG h k=some o/\xZ n o=true)
 |[],K,x,hk=>⟨[],hk,fun k=>⟨fun _=>rfl,fun h=>absurd rfl h⟩⟩
 |(j,o)::r,K,x,hk=>by
  unfold Vq at hk
  rw[gH,yR2]at hk
  obtain⟨o',b,hk⟩:=hk
  cases hb:xZ n o' with
  |false=>rw[hb]at hk;exact aD hk
  |true=>
   rw[hb,zE2]at hk
   obtain⟨h',h1,h2⟩:=Jj hk
   refine⟨_,h1,fun k=>?_⟩
   simp only[aG]
   by_cases a:j=k
   subst a
   simp only[zT2]
   exact⟨fun h=>(by cases h),fun _=>⟨o',rfl,b,hb⟩⟩
   simp only[zB2 a]
   exact h2 k
variable {C0 C:Cx} {n0:Nat} {h0 h:aJ} {e:eQ} {t:List AV} {s0 s:Hp}
def qU (hd:∀k,aG h0 k≠none->k<n0) (u:cM C n h lim s) (he:dQ C e t) {keep:aA Nat} {K:Mt->aB R} {r:R} (hk:oW keep h0 n0 e h K=some r):
  ∃st,K st=some r/\dQ (cJ C n0) st.e t/\cM (cJ C n0) n0 st.h lim s/\(∀k o,aG st.h k=some o->aG h k=some o)/\(∀k,aG h0 k=none↔aG st.h k=none):=by
 unfold oW at hk;obtain⟨e',hk,h1⟩:=Ai hk;obtain⟨h',hk,h2⟩:=Jj hk
 have p:∀k o,aG h' k=some o->aG h k=some o/\xZ n0 o=true/\k<n0:=fun k o m=>by
  by_cases z:aG h0 k=none;rw[(h2 k).1 z]at m;cases m;obtain⟨o',q1,q2,q3⟩:=(h2 k).2 z;rw[m]at q1;cases q1;exact⟨q2,q3,hd k z⟩
 have hr:∀k pl,cJ C n0 k=some pl->C k=some pl/\k<n0:=fun k pl hk=>by
  simp only[cJ]at hk;split at hk;rename_i E;exact⟨hk,E⟩;cases hk
 have F:∀k,aG h' k≠none->aG h k≠none:=fun k hk=>by
  cases m:aG h' k with
  |none=>exact absurd m hk
  |some o=>rw[(p k o m).1];simp
 refine⟨_,hk,fun i v hv=>?_,⟨⟨fun k o D=>?_,fun k k' id v e l v' e' l' a b c d=>?_,fun id o z=>?_,fun k id v e l a b=>u.hr.wn k id v e l (F k a) (hr _ _ b).1,u.hr.wb,u.hr.wz⟩,fun k pl hk=>(hr k pl hk).2,u.wf,u.lim⟩,fun k o m=>(p k o m).1,fun k=>⟨(h2 k).1,fun z=>?_⟩⟩;obtain⟨q1,q2⟩:=h1 i v hv;obtain⟨y,p1,p2⟩:=he i v q1;exact⟨y,p1,pC p2 q2⟩;obtain⟨q1,q2,q3⟩:=p k o D;obtain⟨pl,p1,p2⟩:=u.hr.ob k o q1;refine⟨pl,by simp[cJ,q3,p1],?_⟩;cases o with
 |box cs=>
  cases pl with
  |nil=>exact p2
  |atp id ver e len=>
   obtain⟨a1,a2,ty,esz,row,a3,a4⟩:=p2;exact⟨a1,a2,ty,esz,row,a3,a4.1,fun j x y q hy=>pC (a4.2 j x y q hy) (yW2.1 q2 x (zC2 q))⟩
 |lst ty e g rows=>cases pl<;>exact p2
 |lz ty e dp rows=>cases pl<;>exact p2
 |mp es=>cases pl<;>exact p2
 |tr tt rows hs=>
  obtain⟨ty,e,ks⟩:=tt;cases pl with
  |nil=>exact p2
  |atp id ver e len=>
   obtain⟨a1,a2,a3,a4,G,els,d,a5,a6,a7⟩:=p2;refine⟨a1,a2,a3,a4,G,els,d,a5,a6,fun i r r' c1 c2=>⟨(a7 i r r' c1 c2).1,fun j a b c3 c4=>?_⟩⟩;have:=(a7 i r r' c1 c2).2 j a b c3 c4;unfold TC at this ⊢;cases hkd:eZ ks j with
   |none=>rw[hkd]at this;exact this
   |some t2=>
    rw[hkd]at this;rcases this with⟨b1,b2⟩|b1;exact .inl ⟨b1,fun x q=>pC (b2 x q) (yW2.1 q2 _ q)⟩;exact .inr b1
 |fl fs=>
  cases pl with
  |nil=>exact p2
  |atp id ver e len=>
   obtain⟨a1,a2,a3,a4,ty,els,a5,a6,a7⟩:=p2;refine⟨a1,a2,a3,a4,ty,els,a5,a6,fun i f row hf w=>?_⟩;have B:=yW2.1 q2 f (zC2 hf);refine⟨(a7 i f row hf w).1,fun j x y q hy=>?_⟩;cases j with
   |zero=>simp at q;subst q;exact pC ((a7 i f row hf w).2 0 f y rfl hy) B
   |succ j=>simp at q
 |loop N' e ps a b busy fin=>
  cases pl with
  |nil=>exact p2
  |atp id ver e' len=>
   obtain⟨a1,a2,st,pend,tmps,a3,a4,a5,a6⟩:=p2;refine⟨a1,a2,st,pend,tmps,a3,a4,fun i v hv=>?_,a6⟩;obtain⟨y,H,J⟩:=a5 i v hv;exact⟨y,H,pC J (yW2.1 q2 _ (Fy hv))⟩
 exact u.hr.inj k k' id v e l v' e' l' (F k a) (F k' b) (hr _ _ c).1 (hr _ _ d).1;obtain⟨z1,z2,z3,z4⟩:=u.hr.zr id o z;refine⟨z1,z2,fun k v e l a b=>z3 k v e l ?_ (hr _ _ b).1,z4⟩;cases m:aG h' k with
 |none=>exact absurd m a
 |some o=>rw[(p k o m).1];simp
 by_cases A:aG h0 k=none;exact A;obtain⟨o,q1,_⟩:=(h2 k).2 A;rw[z]at q1;cases q1
def Fr.canon {h1 hc} (d:cM C0 n0 h1 lim s0) (hf:Fr C0 h1 s0 C h s) (a:∀k o,aG hc k=some o->aG h k=some o) (b:∀k,aG h1 k=none↔aG hc k=none):Fr C0 h1 s0 (cJ C n0) hc s:=by
 refine⟨hf.sk,hf.n,hf.keep,fun id f c=>hf.own id f ?_,fun k o hk=>?_,hf.zl,hf.zn⟩;rcases c with⟨k,v,e,l,q1,q2⟩|c;refine .inl ⟨k,v,e,l,?_,?_⟩;cases c:aG hc k with
 |none=>exact absurd c q1
 |some o=>rw[a k o c];simp
 simp only[cJ]at q2;split at q2;exact q2;cases q2;exact .inr c;obtain⟨o',q1,q2⟩:=hf.kd k o hk
 have g:k<n0:=by
  obtain⟨pl,p1,_⟩:=d.hr.ob k o hk;exact d.dom k pl p1
 cases hz:aG hc k with
 |none=>rw[(b k).2 hz]at hk;cases hk
 |some o2=>
  have:=a k o2 hz;rw[q1]at this;cases this;exact⟨o',rfl,fun hb=>⟨(q2 hb).1,by simp[cJ,g,(q2 hb).2]⟩⟩
def gK:∀{h} {id} {o},Sim.look h id=some o->(∀ty e v els,o≠.arr true ty e v els)->Sim.look (popMark h) id=some o
 |[],id,o,h,_=>by simp[Sim.look]at h
 |.mark::r,id,o,h,_=>h
 |.ob i o'::r,id,o,h,hne=>by
  simp only[Sim.look]at h
  simp only[popMark]
  split at h
  rename_i a
  cases h
  split
  exact absurd rfl (hne _ _ _ _)
  simp[Sim.look,a]
  rename_i a
  have ih:=gK h hne
  split
  exact ih
  simp[Sim.look,a,ih]
def cM.pop {C1} {h1 hc} {s1} (p:cM C0 n0 h1 lim s0) (c:cM C1 n0 hc lim s1) (hf:Fr C0 h1 {h:=.mark::s0.h,n:=s0.n} C1 hc s1) (f:∀k,aG h1 k=none↔aG hc k=none):
  cM C1 n0 hc lim {h:=popMark s1.h,n:=s1.n}/\Fr C0 h1 s0 C1 hc {h:=popMark s1.h,n:=s1.n}:=by
 obtain⟨p1,p2⟩:=hf.sk.pop;refine⟨⟨⟨fun k o hk=>?_,c.hr.inj,fun id o m=>?_,c.hr.wn,c.hr.wb,c.hr.wz⟩,c.dom,c.wf.pop,c.lim⟩,⟨p1,hf.n,fun id l hn=>?_,hf.own,hf.kd,hf.zl,hf.zn⟩⟩;obtain⟨pl,q1,q2⟩:=c.hr.ob k o hk;refine⟨pl,q1,?_⟩;cases o with
 |box cs=>
  cases pl with
  |nil=>exact q2
  |atp id ver e len=>
   obtain⟨a1,a2,ty,esz,row,a3,a4⟩:=q2
   have q:id<s0.n:=by
    cases m:aG h1 k with
    |none=>rw[(f k).1 m]at hk;cases hk
    |some o0=>
     obtain⟨o',w1,w2⟩:=hf.kd k o0 m;rw[hk]at w1;cases w1;obtain⟨_,w3⟩:=w2 rfl;rw[q1]at w3;exact(p.hr.lt (by rw[m];simp) w3.symm).2
   exact⟨a1,a2,ty,esz,row,by rw[p2 id q];exact a3,a4⟩
 |lst ty e g rows=>
  cases pl with
  |nil=>exact q2
  |atp id ver e' len=>
   obtain⟨a1,a2,a3,a4,els,a5,a6⟩:=q2;exact⟨a1,a2,a3,a4,els,gK a5 (fun _ _ _ _ e=>by cases e),a6⟩
 |lz ty e dp rows=>
  cases pl with
  |nil=>exact q2
  |atp id ver e' len=>
   obtain⟨a1,a2,a3,a4,a7,els,a5,a6⟩:=q2;exact⟨a1,a2,a3,a4,a7,els,gK a5 (fun _ _ _ _ e=>by cases e),a6⟩
 |tr tt rows hs=>
  obtain⟨ty,e,ks⟩:=tt;cases pl with
  |nil=>exact q2
  |atp id ver e' len=>
   obtain⟨a1,a2,a3,a4,s,els,d,a5,a6,a7⟩:=q2;refine⟨a1,a2,a3,a4,s,els,d,gK a5 (fun _ _ _ _ e=>by cases e),a6,fun i r r' c1 c2=>⟨(a7 i r r' c1 c2).1,fun j a b c3 c4=>?_⟩⟩;have:=(a7 i r r' c1 c2).2 j a b c3 c4;unfold TC at this ⊢;cases hkd:eZ ks j with
   |none=>rw[hkd]at this;exact this
   |some t2=>
    rw[hkd]at this;rcases this with b1|⟨b1,b2⟩
    exact .inl b1;exact .inr ⟨b1,b2.lk fun _ _ _ _ _ h=>gK h (fun _ _ _ _ e=>by cases e)⟩
 |mp es=>
  cases pl with
  |nil=>exact q2
  |atp id ver e' len=>
   obtain⟨a1,a2,es',a3,a4⟩:=q2;exact⟨a1,a2,es',gK a3 (fun _ _ _ _ e=>by cases e),a4⟩
 |fl fs=>
  cases pl with
  |nil=>exact q2
  |atp id ver e' len=>
   obtain⟨a1,a2,a3,a4,ty,els,a5,a6⟩:=q2;exact⟨a1,a2,a3,a4,ty,els,gK a5 (fun _ _ _ _ e=>by cases e),a6⟩
 |loop N' e ps a b busy fin=>
  cases pl with
  |nil=>exact q2
  |atp id ver e' len=>
   obtain⟨a1,a2,st,pend,tmps,a3,a4⟩:=q2;exact⟨a1,a2,st,pend,tmps,gK a3 (fun _ _ _ _ e=>by cases e),a4⟩
 obtain⟨z1,z2,z3,z4⟩:=c.hr.zr id o m;exact⟨gK z1 (fun _ _ _ _ e=>by subst e;cases z4),z2,z3,z4⟩;rw[p2 id l];exact hf.keep id l hn
end
end Go.P
