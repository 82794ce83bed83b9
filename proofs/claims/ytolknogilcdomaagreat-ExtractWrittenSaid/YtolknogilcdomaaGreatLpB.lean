import Derived.Test.YtolknogilcdomaaGreatLpA
/- A text of the proof. -/
set_option linter.all false
namespace Go.P
open Go.Sim (AV AO Hp mQ upd St IC IX Ex iV CK Wf Out doOp mO exec Foot wanted put)
variable {N lim n:Nat}
def gO1 {x} (h:okC x=true):RC false x (eV x):=by
 unfold okC at h;split at h;exact .v _;exact .isn;exact .fn rfl rfl (fun j x y h=>by simp at h) (fun j x y h=>by simp at h);rename_i cs;refine .agg (by simp) (fun j x y a hy=>?_);simp only[gG3,fG3]at hy;obtain⟨b,h1,rfl⟩:=hy;rw[a]at h1;cases h1;have:=fH3.1 h x (fL3 a);cases x<;>simp[isV]at this;exact .v _;cases h
def Qm (N:Nat):PX->Bool
 |.t i=>Nat.blt i N
 |.c x=>okC x
def lD (N:Nat) (e:aA Nat) (a:Bool):aA Nat->kT->Bool
 |_,.nil=>true
 |ds,.op d _ xs _ r=>Nat.blt d N&& !xN d e&&xs.all (Qm N)&&lD N e a (d::ds) r
 |ds,.sto _ xs _ r=>xs.all (Qm N)&&lD N e a ds r
 |ds,.ifx d c _ b x _ r=>Nat.blt d N&& !xN d e&&Qm N x&&(!a||xN c ds)&&lD N (c::e) true [] b&&lD N e a (d::ds) r
 |ds,.mkfl d _ _ xs _ r=>Nat.blt d N&& !xN d e&&xs.all (Qm N)&&lD N e a (d::ds) r
 |ds,.lax _ _ r=>lD N e a ds r
 |ds,.own _ _ _ _ r=>lD N e a ds r
 |ds,.ownc _ _ _ _ _ r=>lD N e a ds r
 |ds,.laxc _ _ _ r=>lD N e a ds r
 |ds,.fz _ _ r=>lD N e a ds r
 |ds,.opn d _ x _ _ r=>Nat.blt d N&& !xN d e&&[x].all (Qm N)&&lD N e a (d::ds) r
 |ds,.bst d _ _ _ _ xs _ r=>Nat.blt d N&& !xN d e&&xs.all (Qm N)&&lD N e a (d::ds) r
 |ds,.gc _ r=>lD N e a ds r
 |ds,.clr d _ _ x y _ r=>Nat.blt d N&& !xN d e&&[x,y].all (Qm N)&&lD N e a (d::ds) r
 |ds,.tre _ _ _ r=>lD N e a ds r
 |ds,.up _ r=>lD N e a ds r
section
variable {R:Type} {C:Cx} {h:bA} {s:Hp} {T:mO} {O:Hk} {NF:FuncId->Bool} {dr:Nat} {e:gL} {t:List AV}
def mB (he:eU C e t):∀{xs} {vs},xs.all (Qm N)=true->evs e xs=some vs->∃ys,Sim.evs t (xs.map eX)=some ys/\LR (RV C) vs ys
 |[],vs,_,h=>by
  simp only[evs,fN3]at h
  subst h
  exact⟨[],rfl,.nil⟩
 |.t i::xs,vs,ho,h=>by
  simp only[evs,fC3,fN3]at h
  obtain⟨v,hv,f,a,rfl⟩:=h
  obtain⟨y,h1,h2⟩:=he i v hv
  obtain⟨ys,b,d⟩:=mB he (xs:=xs) (by simp only[hA3,fF3]at ho;exact ho.2) a
  exact⟨y::ys,by simp[Sim.evs,eX,IX.ev,h1,b],.cons h2 d⟩
 |.c x::xs,vs,ho,h=>by
  simp only[evs,fC3,fN3]at h
  obtain⟨f,a,rfl⟩:=h
  simp only[hA3,fF3]at ho
  obtain⟨ys,b,d⟩:=mB he (xs:=xs) ho.2 a
  exact⟨eV x::ys,by simp[Sim.evs,eX,IX.ev,b],.cons (.cl (gO1 ho.1)) d⟩
def Xo (g:aB (Nat×Bool)) (t:aA AV):Prop:=match g with
 |none=>True
 |some (c,w)=>t[c]? =some (.v (.bool w))
def Xo.wanted {g} {t} (h:Xo g t):wanted t g=true:=by
 cases g with
 |none=>rfl
 |some p=>obtain⟨c,w⟩:=p;simp only[Xo]at h;simp[Sim.wanted,h]
def GIn (g:aB (Nat×Bool)) (a:aA Nat):Prop:=∀c w,g=some (c,w)->c∈a
def Xo.set {g} {t} {gs} {d} {y} (h:Xo g t) (hg:GIn g gs) (hd:d∉gs):Xo g (t.set d y):=by
 cases g with
 |none=>trivial
 |some p=>
  obtain⟨c,w⟩:=p;simp only[Xo]at h ⊢;rw[fU3 (fun e=>hd (by rw[e];exact hg c w rfl))];exact h
structure Mx (s s':Hp):Prop where
 sk:Sk s.h s'.h s.n
 n:s.n<=s'.n
 wf:Wf s'.h s'.n
 look:∀id,id<s.n->Sim.look s'.h id=Sim.look s.h id
def Mx.refl (hw:Wf s.h s.n):Mx s s:=⟨.refl _ _,fI3 _,hw,fun _ _=>rfl⟩
def Mx.trans {s' s''} (a:Mx s s') (b:Mx s' s''):Mx s s'':=⟨a.sk.trans b.sk a.n,gH3 a.n b.n,b.wf,fun id c=>(b.look id (gN3 c a.n)).trans (a.look id c)⟩
def dR.grow {s'} (a:dR C n h lim s) (b:Mx s s'):dR C n h lim s':=by
 refine⟨⟨fun k po hk=>?_,a.hr.inj,fun id o c=>?_,a.hr.wn,fun id sl hw=>⟨gN3 (a.hr.wb id sl hw).1 b.n,gN3 (a.hr.wb id sl hw).2 b.n⟩,a.hr.wz⟩,a.dom,b.wf,gH3 a.lim b.n⟩;obtain⟨pl,h1,h2⟩:=a.hr.ob k po hk;refine⟨pl,h1,h2.mono b.n (.refl C) (fun id v e l hp=>?_) (fun o sl hw=>⟨hw,b.look o (a.hr.wb o sl hw).1⟩)⟩;subst hp;exact b.look id h2.lt.2;obtain⟨z1,z2,z3,z4⟩:=a.hr.zr id o c;exact⟨(b.look id z2).trans z1,gN3 z2 b.n,z3,z4⟩
def Mx.fr {s'} (b:Mx s s'):Fr C h s C h s':=⟨b.sk,b.n,fun id a _=>b.look id a,fun _ _ h=>h,fun k o h=>⟨o,h,fun hb=>⟨hb,rfl⟩⟩,fun _ _ h=>h,fun _ _ h=>.inl h⟩
def eW:∀ops a i,i∈eI ops a↔i∈eI ops []\/i∈a
 |.nil,a,i=>by simp[eI]
 |.op d k xs kl r,a,i=>by
  simp only[eI,fT3,eW r a i,or_assoc]
 |.sto k xs kl r,a,i=>by simp only[eI,eW r a i]
 |.ifx d c w b x kl r,a,i=>by
  simp only[eI,fT3,eW b (eI r a) i,eW b (eI r []) i,eW r a i]
  constructor
  rintro(h|h|h|h)<;>simp[h]
  rintro((h|h|h)|h)<;>simp[h]
 |.mkfl d ty zero xs kl r,a,i=>by
  simp only[eI,fT3,eW r a i,or_assoc]
 |.lax d es r,a,i=>by simp only[eI,eW r a i]
 |.own d ty e g r,a,i=>by simp only[eI,eW r a i]
 |.ownc d j ty e g r,a,i=>by simp only[eI,eW r a i]
 |.laxc d j e r,a,i=>by simp only[eI,eW r a i]
 |.fz d j r,a,i=>by simp only[eI,eW r a i]
 |.opn d m x kl js r,a,i=>by
  simp only[eI,fT3,eW r a i,or_assoc]
 |.bst d ty l zero ps xs kl r,a,i=>by
  simp only[eI,fT3,eW r a i,or_assoc]
 |.gc _ r,a,i=>by simp only[eI,eW r a i]
 |.clr d es zero x y kl r,a,i=>by
  simp only[eI,fT3,eW r a i,or_assoc]
 |.tre d j ty r,a,i=>by simp only[eI,eW r a i]
 |.up m r,a,i=>by simp only[eI,eW r a i]
def iH:∀ops {f h} {a},lD N f a h ops=true->∀i∈eI ops [],i∉f
 |.nil,f,h,a,_,i,hi=>by simp[eI]at hi
 |.op d k xs kl r,f,h,a,ho,i,hi=>by
  simp only[lD,fF3,fX3,iW]at ho
  obtain⟨⟨⟨h1,h2⟩,o⟩,n⟩:=ho
  simp only[eI,fT3]at hi
  rcases hi with rfl|hi
  simpa using h2
  exact iH r n i hi
 |.sto k xs kl r,f,h,a,ho,i,hi=>by
  simp only[lD,fF3]at ho
  exact iH r ho.2 i hi
 |.ifx d c w b x kl r,f,h,a,ho,i,hi=>by
  simp only[lD,fF3,fX3,iW]at ho
  obtain⟨⟨⟨⟨⟨h1,h2⟩,o⟩,n⟩,p⟩,q⟩:=ho
  simp only[eI,fT3,eW b (eI r []) i]at hi
  rcases hi with rfl|hi|hi
  simpa using h2
  exact fun hg=>iH b p i hi (by simp[hg])
  exact iH r q i hi
 |.mkfl d ty zero xs kl r,f,h,a,ho,i,hi=>by
  simp only[lD,fF3,fX3,iW]at ho
  obtain⟨⟨⟨h1,h2⟩,o⟩,n⟩:=ho
  simp only[eI,fT3]at hi
  rcases hi with rfl|hi
  simpa using h2
  exact iH r n i hi
 |.lax d es r,f,h,a,ho,i,hi=>iH r (by simpa only[lD]using ho) i hi
 |.own d ty e g r,f,h,a,ho,i,hi=>iH r (by simpa only[lD]using ho) i hi
 |.ownc d j ty e g r,f,h,a,ho,i,hi=>iH r (by simpa only[lD]using ho) i hi
 |.laxc d j e r,f,h,a,ho,i,hi=>iH r (by simpa only[lD]using ho) i hi
 |.fz d j r,f,h,a,ho,i,hi=>iH r (by simpa only[lD]using ho) i hi
 |.opn d m x kl js r,f,h,a,ho,i,hi=>by
  simp only[lD,fF3,fX3,iW]at ho
  obtain⟨⟨⟨h1,h2⟩,o⟩,n⟩:=ho
  simp only[eI,fT3]at hi
  rcases hi with rfl|hi
  simpa using h2
  exact iH r n i hi
 |.bst d ty l zero ps xs kl r,f,h,a,ho,i,hi=>by
  simp only[lD,fF3,fX3,iW]at ho
  obtain⟨⟨⟨h1,h2⟩,o⟩,n⟩:=ho
  simp only[eI,fT3]at hi
  rcases hi with rfl|hi
  simpa using h2
  exact iH r n i hi
 |.clr d es zero x y kl r,f,h,a,ho,i,hi=>by
  simp only[lD,fF3,fX3,iW]at ho
  obtain⟨⟨⟨h1,h2⟩,o⟩,n⟩:=ho
  simp only[eI,fT3]at hi
  rcases hi with rfl|hi
  simpa using h2
  exact iH r n i hi
 |.gc _ r,f,h,a,ho,i,hi=>iH r (by simpa only[lD]using ho) i hi
 |.tre d j ty r,f,h,a,ho,i,hi=>iH r (by simpa only[lD]using ho) i hi
 |.up m r,f,h,a,ho,i,hi=>iH r (by simpa only[lD]using ho) i hi
def mH {g} {gs} {d} {y} (hg:GIn g gs) (hd:d∉gs):wanted (t.set d y) g=wanted t g:=by
 cases g with
 |none=>rfl
 |some p=>
  obtain⟨c,w⟩:=p;simp only[Sim.wanted];rw[fU3 (fun e=>hd (by rw[e];exact hg c w rfl))]
def Qn {g} {t t'} (h:∀c w,g=some (c,w)->t'[c]? =t[c]?):wanted t' g=wanted t g:=by
 cases g with
 |none=>rfl
 |some p=>
  obtain⟨c,w⟩:=p;simp only[Sim.wanted];rw[h c w rfl]
def iD (g:aB (Nat×Bool)):∀(ops:kT) (f n:aA Nat) (t:aA AV),lD N f true n ops=true->GIn g f->wanted t g=false->
  (∀c∈n,∀b,t[c]? ≠some (.v (.bool b)))->
  ∃fs u,Tr T NF dr lim (rV g ops) {t:=t,s:=s} fs {t:=u,s:=s}/\u.length=t.length/\(∀(i:Nat),i∉eI ops []->u[i]? =t[i]?)/\∀(i:Nat),u[i]? =t[i]? \/u[i]? =some AV.undef
 |.nil,f,n,t,_,_,_,_=>⟨[],t,.nil,rfl,fun _ _=>rfl,fun _=>.inl rfl⟩
 |.op d k xs kl r,f,n,t,ho,hg,hw,hd=>by
  simp only[lD,fF3,fX3,iW]at ho
  obtain⟨⟨⟨h1,h2⟩,E⟩,C⟩:=ho
  have p:d∉f:=by simpa using h2
  have dB:∀i,(t.set d AV.undef)[i]? =t[i]? \/(t.set d AV.undef)[i]? =some AV.undef:=fun i=>by
   by_cases e:d=i
   subst e
   by_cases hl:d<t.length
   exact .inr (by rw[gE3];simp[hl])
   exact .inl (by rw[hY3 (iR3 hl)])
   exact .inl (fU3 e)
  obtain⟨fs,u,A,B,z,h⟩:=iD g r f (d::n) (t.set d AV.undef) C hg (by rw[mH hg p];exact hw) (fun c hc b=>by
   by_cases a:d=c
   subst a
   rw[gE3]
   simp only[gF3]
   split
   intro e;cases e
   intro e;cases e
   rw[fU3 a]
   rcases fT3.1 hc with rfl|hc
   exact absurd rfl a
   exact hd c hc b)
  refine⟨_,u,.skip (o:=⟨some d,k,xs.map eX,g⟩) hw A,by simpa using B,fun i hi=>?_,fun i=>?_⟩
  simp only[eI,fT3,iH3]at hi
  rw[z i hi.2,fU3 (Ne.symm hi.1)]
  rcases h i with h|h
  rw[h];exact dB i
  exact .inr h
 |.ifx d c w b x kl r,f,n,t,ho,hg,hw,hd=>by
  simp only[lD,fF3,fX3,iW,jA3,Bool.false_or]at ho
  obtain⟨⟨⟨⟨⟨h1,h2⟩,E⟩,C⟩,M⟩,P⟩:=ho
  have p:d∉f:=by simpa using h2
  have J:c∈n:=by simpa using C
  have L:wanted t (some (c,w))=false:=by
   simp only[Sim.wanted];split;rename_i q R;exact absurd R (hd c J q);rfl
  obtain⟨fs,D,A,B,z,h⟩:=iD (some (c,w)) b (c::f) [] t M (fun G w' e=>by cases e;simp) L (fun c hc=>by simp at hc)
  have F:wanted D g=false:=by
   rw[Qn (t:=t) (fun G w' e=>z G (fun hi=>iH b M G hi (by simp[hg G w' e])))];exact hw
  have K:∀c∈n,∀b,D[c]? ≠some (.v (.bool b)):=fun c hc b=>by
   rcases h c with h|h;rw[h];exact hd c hc b;rw[h];intro e;cases e
  have dB:∀i,(D.set d AV.undef)[i]? =D[i]? \/(D.set d AV.undef)[i]? =some AV.undef:=fun i=>by
   by_cases e:d=i;subst e;by_cases hl:d<D.length;exact .inr (by rw[gE3];simp[hl]);exact .inl (by rw[hY3 (iR3 hl)]);exact .inl (fU3 e)
  obtain⟨O,u,q1,q2,q3,q4⟩:=iD g r f (d::n) (D.set d AV.undef) P hg (by rw[mH hg p];exact F) (fun c hc b=>by
   by_cases a:d=c;subst a;rw[gE3];simp only[gF3];split;intro e;cases e;intro e;cases e;rw[fU3 a];rcases fT3.1 hc with rfl|hc;exact absurd rfl a;exact K c hc b)
  refine⟨_,u,A.append (.skip F q1),by simp[q2,B],fun i hi=>?_,fun i=>?_⟩;simp only[eI,fT3,eW b (eI r []) i,iH3]at hi;rw[q3 i hi.2.2,fU3 (Ne.symm hi.1),z i hi.2.1];rcases q4 i with q4|q4;rw[q4];rcases dB i with H|H;rw[H];exact h i;exact .inr H;exact .inr q4
 |.mkfl d ty zero xs kl r,f,n,t,ho,hg,hw,hd=>by
  simp only[lD,fF3,fX3,iW]at ho;obtain⟨⟨⟨h1,h2⟩,E⟩,C⟩:=ho;have p:d∉f:=by simpa using h2
  have dB:∀i,(t.set d AV.undef)[i]? =t[i]? \/(t.set d AV.undef)[i]? =some AV.undef:=fun i=>by
   by_cases e:d=i;subst e;by_cases hl:d<t.length;exact .inr (by rw[gE3];simp[hl]);exact .inl (by rw[hY3 (iR3 hl)]);exact .inl (fU3 e)
  obtain⟨fs,u,A,B,z,h⟩:=iD g r f (d::n) (t.set d AV.undef) C hg (by rw[mH hg p];exact hw) (fun c hc b=>by
   by_cases a:d=c;subst a;rw[gE3];simp only[gF3];split;intro e;cases e;intro e;cases e;rw[fU3 a];rcases fT3.1 hc with rfl|hc;exact absurd rfl a;exact hd c hc b)
  refine⟨_,u,.skip (o:=⟨some d,.buildSl ty 1 xs.length zero (List.range xs.length),xs.map eX,g⟩) hw A,by simpa using B,fun i hi=>?_,fun i=>?_⟩;simp only[eI,fT3,iH3]at hi;rw[z i hi.2,fU3 (Ne.symm hi.1)];rcases h i with h|h;rw[h];exact dB i;exact .inr h
 |.sto k xs kl r,f,n,t,ho,hg,hw,hd=>by
  simp only[lD,fF3]at ho;obtain⟨fs,u,A,B,z,h⟩:=iD g r f n t ho.2 hg hw hd;exact⟨_,u,.skip (o:=⟨none,k,xs.map eX,g⟩) hw A,B,z,h⟩
 |.lax d es r,f,n,t,ho,hg,hw,hd=>iD g r f n t (by simpa only[lD]using ho) hg hw hd
 |.own d ty e g' r,f,n,t,ho,hg,hw,hd=>iD g r f n t (by simpa only[lD]using ho) hg hw hd
 |.ownc d j ty e g' r,f,n,t,ho,hg,hw,hd=>iD g r f n t (by simpa only[lD]using ho) hg hw hd
 |.laxc d j e r,f,n,t,ho,hg,hw,hd=>iD g r f n t (by simpa only[lD]using ho) hg hw hd
 |.fz d j r,f,n,t,ho,hg,hw,hd=>iD g r f n t (by simpa only[lD]using ho) hg hw hd
 |.opn d m x kl js r,f,n,t,ho,hg,hw,hd=>by
  simp only[lD,fF3,fX3,iW]at ho;obtain⟨⟨⟨h1,h2⟩,E⟩,C⟩:=ho;have p:d∉f:=by simpa using h2
  have dB:∀i,(t.set d AV.undef)[i]? =t[i]? \/(t.set d AV.undef)[i]? =some AV.undef:=fun i=>by
   by_cases e:d=i;subst e;by_cases hl:d<t.length;exact .inr (by rw[gE3];simp[hl]);exact .inl (by rw[hY3 (iR3 hl)]);exact .inl (fU3 e)
  obtain⟨fs,u,A,B,z,h⟩:=iD g r f (d::n) (t.set d AV.undef) C hg (by rw[mH hg p];exact hw) (fun c hc b=>by
   by_cases a:d=c;subst a;rw[gE3];simp only[gF3];split;intro e;cases e;intro e;cases e;rw[fU3 a];rcases fT3.1 hc with rfl|hc;exact absurd rfl a;exact hd c hc b)
  refine⟨_,u,.skip (o:=⟨some d,(match m with|none=>.loadS|some m=>.loadA m),[eX x],g⟩) hw A,by simpa using B,fun i hi=>?_,fun i=>?_⟩;simp only[eI,fT3,iH3]at hi;rw[z i hi.2,fU3 (Ne.symm hi.1)];rcases h i with h|h;rw[h];exact dB i;exact .inr h
 |.bst d ty l zero ps xs kl r,f,n,t,ho,hg,hw,hd=>by
  simp only[lD,fF3,fX3,iW]at ho;obtain⟨⟨⟨h1,h2⟩,E⟩,C⟩:=ho;have p:d∉f:=by simpa using h2
  have dB:∀i,(t.set d AV.undef)[i]? =t[i]? \/(t.set d AV.undef)[i]? =some AV.undef:=fun i=>by
   by_cases e:d=i;subst e;by_cases hl:d<t.length;exact .inr (by rw[gE3];simp[hl]);exact .inl (by rw[hY3 (iR3 hl)]);exact .inl (fU3 e)
  obtain⟨fs,u,A,B,z,h⟩:=iD g r f (d::n) (t.set d AV.undef) C hg (by rw[mH hg p];exact hw) (fun c hc b=>by
   by_cases a:d=c;subst a;rw[gE3];simp only[gF3];split;intro e;cases e;intro e;cases e;rw[fU3 a];rcases fT3.1 hc with rfl|hc;exact absurd rfl a;exact hd c hc b)
  refine⟨_,u,.skip (o:=⟨some d,(match ty with|.nd ty e _=>.buildSl ty e l zero ps),xs.map eX,g⟩) hw A,by simpa using B,fun i hi=>?_,fun i=>?_⟩;simp only[eI,fT3,iH3]at hi;rw[z i hi.2,fU3 (Ne.symm hi.1)];rcases h i with h|h;rw[h];exact dB i;exact .inr h
 |.clr d es zero x y kl r,f,n,t,ho,hg,hw,hd=>by
  simp only[lD,fF3,fX3,iW]at ho;obtain⟨⟨⟨h1,h2⟩,E⟩,C⟩:=ho;have p:d∉f:=by simpa using h2
  have dB:∀i,(t.set d AV.undef)[i]? =t[i]? \/(t.set d AV.undef)[i]? =some AV.undef:=fun i=>by
   by_cases e:d=i;subst e;by_cases hl:d<t.length;exact .inr (by rw[gE3];simp[hl]);exact .inl (by rw[hY3 (iR3 hl)]);exact .inl (fU3 e)
  obtain⟨fs,u,A,B,z,h⟩:=iD g r f (d::n) (t.set d AV.undef) C hg (by rw[mH hg p];exact hw) (fun c hc b=>by
   by_cases a:d=c;subst a;rw[gE3];simp only[gF3];split;intro e;cases e;intro e;cases e;rw[fU3 a];rcases fT3.1 hc with rfl|hc;exact absurd rfl a;exact hd c hc b)
  refine⟨_,u,.skip (o:=⟨some d,.slc es true false false,[eX x,eX y],g⟩) hw (.skip (o:=⟨none,.clear es zero,[.t d],g⟩) (by show wanted (t.set d AV.undef) g=false;rw[mH hg p];exact hw) A),by simpa using B,fun i hi=>?_,fun i=>?_⟩;simp only[eI,fT3,iH3]at hi;rw[z i hi.2,fU3 (Ne.symm hi.1)];rcases h i with h|h;rw[h];exact dB i;exact .inr h
 |.gc _ r,f,n,t,ho,hg,hw,hd=>iD g r f n t (by simpa only[lD]using ho) hg hw hd
 |.tre d j ty r,f,n,t,ho,hg,hw,hd=>iD g r f n t (by simpa only[lD]using ho) hg hw hd
 |.up m r,f,n,t,ho,hg,hw,hd=>iD g r f n t (by simpa only[lD]using ho) hg hw hd
end
end Go.P
namespace Go.P
open Go.Sim (AV AO Hp mQ upd St IC IX Ex iV CK Wf Out doOp mO exec Foot wanted put)
variable {C:Cx} {N c lim n:Nat} {h:bA} {s:Hp} {t ys:aA AV}
section
variable {R:Type} {T:mO} {O:Hk} {X:NX} {dr:Nat}
def Xp (H:∀f xs v,O f xs=some v->sB T f xs v) {k:iV} {as:aA PV} {K:PV->bA->Nat->aB R} {r:R}
  (j:dR C n h lim s) (z:LR (RV C) as ys) (hk:opK O X k as h n K=some r):
  ∃v h' n' C' y s',K v h' n'=some r/\RV C' v y/\dR C' n' h' lim s'/\C.le C'/\n<=n'/\Fr C h s C' h' s'/\(Pv k=false->∀id,id<s.n->Sim.look s'.h id=Sim.look s.h id)/\
   ∀o os t fs τ,o.k=k->wanted t o.guard=true->Sim.evs t o.xs=some ys->Tr T X.is dr lim os {t:=put t o.dst y,s:=s'} fs τ->∃f,Tr T X.is dr lim (o::os) {t:=t,s:=s} (f::fs) τ:=by
 have call:∀f xs zs k,Br O f xs h (fun v=>K v h n)=some r->LR (RV C) xs zs->kF k=true->(lI X.is dr k=3\/lI X.is dr k=4)->((∃ifn,T f=some ifn/\ifn.pure=true/\(ifn.frz||zs.all (Sim.closed 4))=true)->Sim.foot T k ys={all:=1,x:=true})->
   (∀d s,Sim.step T (exec T d) lim k ys s=Sim.callF T (exec T d) lim f zs s)->
   ∃v h' n' C' y s',K v h' n'=some r/\RV C' v y/\dR C' n' h' lim s'/\C.le C'/\n<=n'/\Fr C h s C' h' s'/\(Pv k=false->∀id,id<s.n->Sim.look s'.h id=Sim.look s.h id)/\
   ∀o os t fs τ,o.k=k->wanted t o.guard=true->Sim.evs t o.xs=some ys->Tr T X.is dr lim os {t:=put t o.dst y,s:=s'} fs τ->∃f,Tr T X.is dr lim (o::os) {t:=t,s:=s} (f::fs) τ:=by
  intro f xs zs k hk L hc l hf u;obtain⟨v,y,h1,h2,g,D,i⟩:=Qi (lim:=lim) H j hk L;refine⟨v,h,n,C,y,s,h1,.cl h2,j,.refl C,fI3 _,.refl _ _ _,fun _ _ _=>rfl,fun o os t fs τ q hw he w=>⟨{all:=1,x:=true},?_⟩⟩;subst q;exact .call hw he hc l (hf g) ⟨D,fun d hd m=>by rw[u];exact i d hd m⟩ w
 unfold opK at hk;split at hk;rename_i e f;cases hX:X.is f with
 |true=>rw[hX]at hk;exact aD hk
 |false=>
  rw[hX,fZ3]at hk;refine call _ _ ys (.callF _) hk z rfl (by simp[lI,hX]) (fun⟨ifn,h1,h2,g⟩=>?_) (fun d s=>rfl);simp only[Sim.foot,h1,h2,g,gF3,iE3]
 rename_i f first cap e
 obtain⟨y,A,rfl,h1,h2⟩:=z.inv_cons;obtain⟨a',b',rfl,g,i⟩:=tU h1;cases hX:X.is f with
 |true=>rw[hX]at hk;exact aD hk
 |false=>
  rw[hX,fZ3]at hk;refine call f (first++e++cap) (a'++A++b') .callV hk ((g.append h2).append i) rfl (by simp only[lI];split<;>omega) (fun⟨ifn,M,N,P⟩=>?_) (fun d s=>rfl);simp only[Sim.foot,M,N,P,gF3,iE3]
 rename_i k' e p J;obtain⟨v,h',n',C',out,h1,h2,g,i,B,E,F,G⟩:=Qd j z hk;refine⟨v,h',n',C',out.v,out.apply s,h1,g,i,B,E,F,G,fun o os t fs τ q hw he w=>?_⟩;subst q;refine⟨_,.op hw he ?_ h2 w⟩;cases hk':o.k with
 |callF f=>exact absurd hk' (p f)
 |callV=>
  rw[hk']at hk;unfold fZ at hk;rcases e with _|⟨a,_|⟨b,_|⟨c,_|⟨d,t⟩⟩⟩⟩<;>exact aD hk
 |_=>rfl
def Qo {x:PX} (b:t.length=N) (a:Qm N x=true):∃z,(eX x).ev t=some z:=by
 cases x with
 |t i=>
  simp only[Qm,hR3]at a;exact⟨t[i]'(by omega),by simp[eX,IX.ev]⟩
 |c x=>exact⟨eV x,rfl⟩
def nA1 {t} {x y z} {a b c} (h1:x.ev t=some a) (h2:y.ev t=some b) (d:z.ev t=some c):Sim.evs t [x,y,z]=some [a,b,c]:=by
 simp[Sim.evs,h1,h2,d]
def Jn {r:aA Nat} {e:gL} {w k y:Bool} {bd:kT} {x:PX} (B:dR C n h lim s) (D:t.length=N) (u:lD N (c::r) true [] bd=true) (A:Qm N x=true)
  (hc:t[c]? =some (.v (.bool k)))
  (hy:(bif w then Sv k (fU.opsB O X bd e h n x) (some false)else Sv k (some true) (fU.opsB O X bd e h n x))=some y)
  (IH:fU.opsB O X bd e h n x=some y->Xo (some (c,w)) t->∃fs l s',Tr T X.is dr lim (rV (some (c,w)) bd) {t:=t,s:=s} fs {t:=l,s:=s'}/\(eX x).ev l=some (.v (.bool y))/\l.length=N/\(∀i,i∉eI bd []->l[i]? =t[i]?)/\Mx s s'):
  ∃fs a s1,Tr T X.is dr lim (rV (some (c,w)) bd) {t:=t,s:=s} fs {t:=a,s:=s1}/\a.length=N/\(∀i,i∉eI bd []->a[i]? =t[i]?)/\Mx s s1/\
     ∃zs,Sim.evs a (if w then[.t c,eX x,.c (.v (.bool false))]else[.t c,.c (.v (.bool true)),eX x])=some zs/\doOp (Sim.look s1.h) lim s1.n .pick zs=some {v:=.v (.bool y)}:=by
 have g:∀a:aA AV,(∀i,i∉eI bd []->a[i]? =t[i]?)->a[c]? =some (.v (.bool k)):=fun a o=>by
  rw[o c (fun hi=>iH bd u c hi (by simp))];exact hc
 have skip:k≠w->∃fs a s1,Tr T X.is dr lim (rV (some (c,w)) bd) {t:=t,s:=s} fs {t:=a,s:=s1}/\a.length=N/\(∀i,i∉eI bd []->a[i]? =t[i]?)/\Mx s s1:=by
  intro m;obtain⟨fs,a,j,b,d,f⟩:=iD (T:=T) (NF:=X.is) (dr:=dr) (lim:=lim) (s:=s) (some (c,w)) bd (c::r) [] t u (fun E w' e=>by cases e;simp) (by simp[Sim.wanted,hc,m]) (fun c hc=>by simp at hc);exact⟨fs,a,s,j,b.trans D,d,.refl B.wf⟩
 cases w with
 |true=>
  rw[fS3,tL]at hy;cases k with
  |true=>
   rw[fJ3 rfl]at hy;obtain⟨fs,a,s1,j,b,d,f,q⟩:=IH hy hc;exact⟨fs,a,s1,j,d,f,q,[.v (.bool true),.v (.bool y),.v (.bool false)],nA1 (g a f) b rfl,rfl⟩
  |false=>
   simp only[fR3,gT3,fN3]at hy;subst hy;obtain⟨fs,a,s1,j,b,d,f⟩:=skip (by simp);obtain⟨z,p⟩:=Qo b A;exact⟨fs,a,s1,j,b,d,f,[.v (.bool false),z,.v (.bool false)],nA1 (g a d) p rfl,rfl⟩
 |false=>
  rw[fZ3,tL]at hy;cases k with
  |true=>
   simp only[gF3,fN3]at hy;subst hy;obtain⟨fs,a,s1,j,b,d,f⟩:=skip (by simp);obtain⟨z,p⟩:=Qo b A;exact⟨fs,a,s1,j,b,d,f,[.v (.bool true),.v (.bool true),z],nA1 (g a d) rfl p,rfl⟩
  |false=>
   simp only[fR3,gT3]at hy;obtain⟨fs,a,s1,j,b,d,f,q⟩:=IH hy hc;exact⟨fs,a,s1,j,d,f,q,[.v (.bool false),.v (.bool true),.v (.bool y)],nA1 (g a f) rfl b,rfl⟩
def yE (F:∀f xs v,O f xs=some v->sB T f xs v) {N lim:Nat}:∀ops a l g C n h e t s x b,
  fU.opsB O X ops e h n x=some b->eU C e t->dR C n h lim s->t.length=N->lD N a true l ops=true->Qm N x=true->Xo g t->GIn g a->
  ∃fs m s',Tr T X.is dr lim (rV g ops) {t:=t,s:=s} fs {t:=m,s:=s'}/\(eX x).ev m=some (.v (.bool b))/\m.length=N/\(∀i,i∉eI ops []->m[i]? =t[i]?)/\Mx s s'
 |.nil,a,l,g,C,n,h,e,t,s,x,b,hk,he,hM,hN,ho,hx,hg,hgi=>by
  unfold fU.opsB at hk
  rw[kU,fC3]at hk
  obtain⟨vs,A,hk⟩:=hk
  obtain⟨ys,h1,h2⟩:=mB he (xs:=[x]) (by simpa using hx) A
  split at hk
  cases hk
  obtain⟨y,_,rfl,Z,h4⟩:=h2.inv_cons
  rw[h4.inv_nil]at h1
  rw[iX Z]at h1
  refine⟨[],t,s,.nil,?_,hN,fun _ _=>rfl,.refl hM.wf⟩
  simp only[iA3,jG3,Sim.evs]at h1
  split at h1
  grind
  cases h1
  exact aD hk
 |.op d k xs kl r,a,l,g,C,n,h,e,t,s,x,b,hk,he,hM,hN,ho,hx,hg,hgi=>by
  simp only[lD,fF3,fX3,iW,hR3]at ho
  obtain⟨⟨⟨o1,S⟩,G⟩,W⟩:=ho
  have q:d∉a:=by simpa using S
  unfold fU.opsB at hk
  rw[kU,fC3]at hk
  obtain⟨vs,A,hk⟩:=hk
  obtain⟨ys,h1,h2⟩:=mB he G A
  cases hst:Pv k with
  |true=>rw[hst]at hk;exact aD hk
  |false=>
   rw[hst,fZ3]at hk
   obtain⟨v,h',n',C',y,s',q1,q2,q3,q4,q5,q6,q7,q8⟩:=Xp F hM h2 hk
   rw[gE]at q1
   have hd:d<t.length:=by omega
   have u:eU C' ((d,v)::edel e (d::kl)) (t.set d y):=.put hd q2 (fun i w hw=>by
    obtain⟨z,p1,p2,p3⟩:=(he.mono q4).edel (d::kl) i w hw
    exact⟨z,p1,p2,fun J=>p3 (by simp[J])⟩)
   obtain⟨fs,m,V,r1,r2,r3,r4,r5⟩:=yE F r a (d::l) g C' n' h' _ (t.set d y) s' x b q1 u q3 (by simpa using hN) W hx (hg.set hgi q) hgi
   obtain⟨f,hf⟩:=q8 ⟨some d,k,xs.map eX,g⟩ _ t fs _ rfl hg.wanted h1 r1
   have P:Mx s s':=⟨q6.sk,q6.n,q3.wf,q7 hst⟩
   refine⟨_,m,V,hf,r2,r3,fun i hi=>?_,P.trans r5⟩
   simp only[eI,fT3,iH3]at hi
   rw[r4 i hi.2,fU3 (Ne.symm hi.1)]
 |.ifx d c w bd x' kl r,a,l,g,C,n,h,e,t,s,x,b,hk,he,hM,hN,ho,hx,hg,hgi=>by
  simp only[lD,fF3,fX3,iW,hR3,jA3,Bool.false_or]at ho
  obtain⟨⟨⟨⟨⟨o1,S⟩,G⟩,W⟩,U⟩,o6⟩:=ho
  have q:d∉a:=by simpa using S
  unfold fU.opsB at hk
  rw[kE,fC3]at hk
  obtain⟨cv,L,hk⟩:=hk
  split at hk
  rename_i cb
  rw[cF,fC3]at hk
  obtain⟨y,hy,hk⟩:=hk
  rw[gE]at hk
  obtain⟨cy,B,K⟩:=he c _ L
  rw[iX K]at B
  obtain⟨fs,H,s1,p1,p2,p3,p4,zs,p5,p6⟩:=Jn (T:=T) (O:=O) (X:=X) (dr:=dr) hM hN U G B hy (fun hb M=>yE F bd (c::a) [] (some (c,w)) C n h e t s x' y hb he hM hN U G M (fun E w' e=>by cases e;simp))
  have D:Xo g H:=by
   cases g with
   |none=>trivial
   |some p=>
    obtain⟨E,w'⟩:=p;simp only[Xo]at hg ⊢;rw[p3 E (fun hi=>iH bd U E hi (by simp[hgi E w' rfl]))];exact hg
  have hd:d<H.length:=by omega
  have u:eU C ((d,.v (.bool y))::edel e (d::eI bd kl)) (H.set d (.v (.bool y))):=.put hd (.cl (.v _)) (fun i w hw=>by
   obtain⟨z,q1,q2,q3⟩:=he.edel (d::eI bd kl) i w hw;have R:i∉eI bd []:=fun hi=>q3 (by simp[(eW bd kl i).2 (.inl hi)]);exact⟨z,by rw[p3 i R];exact q1,q2,fun J=>q3 (by simp[J])⟩)
  obtain⟨Y,m,V,r1,r2,r3,r4,r5⟩:=yE F r a (d::l) g C n h _ (H.set d (.v (.bool y))) s1 x b hk u (hM.grow p4) (by simpa using p2) o6 hx (D.set hgi q) hgi;refine⟨_,m,V,p1.append (.op (o:=⟨some d,.pick,_,g⟩) D.wanted p5 rfl p6 r1),r2,r3,fun i hi=>?_,p4.trans r5⟩;simp only[eI,fT3,eW bd (eI r []) i,iH3]at hi;rw[r4 i hi.2.2,fU3 (Ne.symm hi.1),p3 i hi.2.1];exact aD hk
 |.sto k xs kl r,a,l,g,C,n,h,e,t,s,x,b,hk,he,hM,hN,ho,hx,hg,hgi=>by unfold fU.opsB at hk;exact aD hk
 |.mkfl d ty zero xs kl r,a,l,g,C,n,h,e,t,s,x,b,hk,he,hM,hN,ho,hx,hg,hgi=>by unfold fU.opsB at hk;exact aD hk
 |.lax d es r,a,l,g,C,n,h,e,t,s,x,b,hk,he,hM,hN,ho,hx,hg,hgi=>by unfold fU.opsB at hk;exact aD hk
 |.own d ty es g' r,a,l,g,C,n,h,e,t,s,x,b,hk,he,hM,hN,ho,hx,hg,hgi=>by unfold fU.opsB at hk;exact aD hk
 |.ownc d j ty es g' r,a,l,g,C,n,h,e,t,s,x,b,hk,he,hM,hN,ho,hx,hg,hgi=>by unfold fU.opsB at hk;exact aD hk
 |.laxc d j es r,a,l,g,C,n,h,e,t,s,x,b,hk,he,hM,hN,ho,hx,hg,hgi=>by unfold fU.opsB at hk;exact aD hk
 |.fz d j r,a,l,g,C,n,h,e,t,s,x,b,hk,he,hM,hN,ho,hx,hg,hgi=>by unfold fU.opsB at hk;exact aD hk
end
end Go.P
namespace Go.P
open Go.Sim (AV AO Hp mQ upd St IC IX Ex iV CK Wf Out doOp mO exec Foot wanted put)
def oI (C:Cx) (p:Nat->Bool):Cx:=⟨fun k=>if p k then C k else none,C.z,C.w⟩
def yF {C} {p} {x} {y} (h:RV C x y):∀{d},oE p d x=true->RV (oI C p) x y:=by
 have lt:∀{k} {pl},C k=some pl->p k=true->oI C p k=some pl:=fun h1 h2=>by simp[oI,h2,h1]
 induction h with
 |cl h=>intro d hb;exact .cl h
 |undef=>intro d hb;exact .undef
 |ref h=>intro d hb;cases d with
  |zero=>cases hb
  |succ d=>exact .ref (lt h hb)
 |own h=>intro d hb;cases d with
  |zero=>cases hb
  |succ d=>exact .own (lt h hb)
 |ownn h hy=>intro d hb;cases d with
  |zero=>cases hb
  |succ d=>exact .ownn (lt h hb) hy
 |el h=>intro d hb;cases d with
  |zero=>cases hb
  |succ d=>exact .el (lt h hb)
 |map h=>intro d hb;cases d with
  |zero=>cases hb
  |succ d=>exact .map (lt h hb)
 |yld h=>intro d hb;cases d with
  |zero=>cases hb
  |succ d=>exact .yld (lt h hb)
 |fn h1 h2 v1 v2 i1 i2=>intro d hb;cases d with
  |zero=>cases hb
  |succ d=>
   simp only[oE,fF3]at hb;exact .fn h1 h2 (fun j x y a hy=>i1 j x y a hy (fH3.1 hb.1 x (fL3 a))) (fun j x y a hy=>i2 j x y a hy (fH3.1 hb.2 x (fL3 a)))
 |agg hl hc ih=>intro d hb;cases d with
  |zero=>cases hb
  |succ d=>exact .agg hl (fun j x y a hy=>ih j x y a hy (fH3.1 hb x (fL3 a)))
 |tup hl hc ih=>intro d hb;cases d with
  |zero=>cases hb
  |succ d=>exact .tup hl (fun j x y a hy=>ih j x y a hy (fH3.1 hb x (fL3 a)))
 |zs h=>intro d hb;exact .zs h
 |zp h=>intro d hb;exact .zp h
def Da:∀h k,iB h k=(aK h k).isSome
 |[],k=>rfl
 |(j,o)::r,k=>by
  simp only[iB,aK,bJ]
  by_cases e:j=k<;>simp[e,Da r k]
section
variable {R:Type}
def uY:∀{h:bA} {c:aA Nat} {K:bA->bA->aB R} {r:R},Pr h c K=some r->∃a b,K a b=some r/\∀k,aK a k=(if xN k c then aK h k else none)/\aK b k=(if xN k c then none else aK h k)
 |[],c,K,r,hk=>⟨[],[],hk,fun k=>by simp[aK]⟩
 |(j,o)::t,c,K,r,hk=>by
  unfold Pr at hk
  obtain⟨a,b,h1,h2⟩:=uY hk
  cases hm:xN j c with
  |true=>
   rw[hm,fS3]at h1
   refine⟨_,_,h1,fun k=>?_⟩
   simp only[aK]
   by_cases e:j=k
   grind
   grind
  |false=>
   rw[hm,fZ3]at h1
   refine⟨_,_,h1,fun k=>?_⟩
   simp only[aK]
   by_cases e:j=k
   grind
   grind
def uZ:∀{a b:bA} {K:bA->aB R} {r:R},xV a b K=some r->∃c,K c=some r/\∀k,aK c k=(aK a k).or (aK b k)
 |[],b,K,r,hk=>⟨b,hk,fun k=>by simp[aK]⟩
 |(j,o)::t,b,K,r,hk=>by
  unfold xV at hk
  obtain⟨c,h1,h2⟩:=uZ hk
  refine⟨_,h1,fun k=>?_⟩
  simp only[aK]
  by_cases e:j=k
  simp[e]
  grind
def Jo:∀(a:bA) (K:bA->aB R),xV a [] K=K a
 |[],K=>rfl
 |(j,o)::t,K=>by unfold xV;rw[Jo t]
def iY {f:PV->aA Nat->(aA Nat->aB R)->aB R} (hf:∀x a K r,f x a K=some r->∃a',K a'=some r):∀xs a K r,sN f xs a K=some r->∃a',K a'=some r
 |[],a,K,r,h=>⟨a,h⟩
 |x::xs,a,K,r,h=>by
  unfold sN at h
  obtain⟨a',h⟩:=hf x a _ r h
  exact iY hf xs a' K r h
def wH {f:PV->aA Nat->(aA Nat->aB R)->aB R} (hf:∀x a K r,f x a K=some r->∃a',K a'=some r):∀xs a K r,Pq f xs a K=some r->∃a',K a'=some r
 |[],a,K,r,h=>⟨a,h⟩
 |(_,x)::xs,a,K,r,h=>by
  unfold Pq at h
  obtain⟨a',h⟩:=hf x a _ r h
  exact wH hf xs a' K r h
def jE:∀(d:Nat) (x:PV) (a:aA Nat) (K:aA Nat->aB R) (r:R),mW d x a K=some r->∃a',K a'=some r
 |0,x,a,K,r,h=>by unfold mW at h;exact aD h
 |d+1,x,a,K,r,h=>by
  have ih:=jE d
  unfold mW at h
  cases x with
  |ref k o=>exact⟨_,h⟩
  |own k=>exact⟨_,h⟩
  |el k i o=>exact⟨_,h⟩
  |map k=>exact⟨_,h⟩
  |yld k=>exact⟨_,h⟩
  |fn f p q=>
   obtain⟨a',h⟩:=iY ih p a _ r h
   exact iY ih q a' K r h
  |agg cs=>exact iY ih cs a K r h
  |tup cs=>exact iY ih cs a K r h
  |_=>exact⟨_,h⟩
def gM {h}:∀(n:Nat) (b a:aA Nat) (K:aA Nat->aB R) (r:R),nG h n b a K=some r->∃a',K a'=some r
 |0,b,a,K,r,hk=>by unfold nG at hk;exact aD hk
 |n+1,[],a,K,r,hk=>by unfold nG at hk;exact⟨a,hk⟩
 |n+1,k::b,a,K,r,hk=>by
  unfold nG at hk
  cases hm:xN k a with
  |true=>rw[hm,fS3]at hk;exact gM n b a K r hk
  |false=>
   rw[hm,fZ3,iC,fC3]at hk
   obtain⟨ob,_,hk⟩:=hk
   cases ob with
   |box cs=>
    obtain⟨c,hk⟩:=iY (jE 4) cs b _ r hk
    exact gM n c _ K r hk
   |fl cs=>
    obtain⟨c,hk⟩:=iY (jE 4) cs b _ r hk
    exact gM n c _ K r hk
   |loop N e ps x y busy fin=>
    obtain⟨c,hk⟩:=wH (jE 4) e b _ r hk
    exact gM n c _ K r hk
   |lst ty e g rows=>exact gM n b _ K r hk
   |mp es=>exact gM n b _ K r hk
   |tr t rows hs=>
    obtain⟨c,hk⟩:=iY (jE 4) _ b _ r hk
    exact gM n c _ K r hk
def Dif (hs:bA) (C C':Cx):Prop:=(∀k,C' k=C k\/∃o,(k,o)∈hs/\gX o=false)/\(∀id o,C.z id=some o->C'.z id=some o)/\C'.w=C.w
def wI:∀{hs:bA} {e:gL} {h:bA} {K:gL->bA->aB R} {r:R},qM hs e h K=some r->∃e' h',K e' h'=some r/\
  (∀i w,fQ e' i=some w->∃v,fQ e i=some v/\∀{C C':Cx} {y:AV},Dif hs C C'->RV C v y->RV C' w y)/\
  (∀j,aK h' j=none↔aK h j=none)/\∀j o',aK h' j=some o'->∃o,aK h j=some o/\gX o'=gX o/\
   ∀{C C':Cx} {L:Nat->aB AO} {lim nS:Nat} {pl:Pl},Dif hs C C'->gO C L lim nS o pl->gO C' L lim nS o' pl
 |[],e,h,K,r,hk=>by
  refine⟨e,h,hk,fun i w hw=>⟨w,hw,fun{C C' y} hd hv=>?_⟩,fun j=>Iff.rfl,fun j o f=>⟨o,f,rfl,fun{C C' L lim nS pl} hd m=>?_⟩⟩
  have:∀k,C' k=C k:=fun k=>(hd.1 k).elim id (fun⟨_,h1,_⟩=>by simp at h1)
  exact hv.mono ⟨fun k pl h=>(this k).trans h,hd.2.1⟩
  have:∀k,C' k=C k:=fun k=>(hd.1 k).elim id (fun⟨_,h1,_⟩=>by simp at h1)
  exact m.mono (fI3 _) ⟨fun k pl h=>(this k).trans h,hd.2.1⟩ (fun _ _ _ _ _=>rfl) (fun o sl h=>⟨by rw[hd.2.2];exact h,rfl⟩)
 |(k,o)::t,e,h,K,r,hk=>by
  have other:gX o=true->qM t e h K=some r->∃e' h',K e' h'=some r/\
    (∀i w,fQ e' i=some w->∃v,fQ e i=some v/\∀{C C':Cx} {y:AV},Dif ((k,o)::t) C C'->RV C v y->RV C' w y)/\
    (∀j,aK h' j=none↔aK h j=none)/\∀j o',aK h' j=some o'->∃o1,aK h j=some o1/\gX o'=gX o1/\
     ∀{C C':Cx} {L:Nat->aB AO} {lim nS:Nat} {pl:Pl},Dif ((k,o)::t) C C'->gO C L lim nS o1 pl->gO C' L lim nS o' pl:=by
   intro p hk;obtain⟨e',h',q1,q2,q3,q4⟩:=wI hk
   have hd:∀{C C':Cx},Dif ((k,o)::t) C C'->Dif t C C':=fun{C C'} hd=>⟨fun j=>by
    rcases hd.1 j with h1|⟨o1,h1,hx⟩
    exact .inl h1;rcases fT3.1 h1 with h2|h2;cases h2;rw[p]at hx;cases hx;exact .inr ⟨_,h2,hx⟩,hd.2⟩
   refine⟨e',h',q1,fun i w hw=>?_,q3,fun j o' f=>?_⟩;obtain⟨v,p1,p2⟩:=q2 i w hw;exact⟨v,p1,fun d hv=>p2 (hd d) hv⟩;obtain⟨o1,p1,p2,p3⟩:=q4 j o' f;exact⟨o1,p1,p2,fun d m=>p3 (hd d) m⟩
  have c:gX o=false->(oD k e fun e=>lQ k h fun h=>qM t e h K)=some r->∃e' h',K e' h'=some r/\
    (∀i w,fQ e' i=some w->∃v,fQ e i=some v/\∀{C C':Cx} {y:AV},Dif ((k,o)::t) C C'->RV C v y->RV C' w y)/\
    (∀j,aK h' j=none↔aK h j=none)/\∀j o',aK h' j=some o'->∃o1,aK h j=some o1/\gX o'=gX o1/\
     ∀{C C':Cx} {L:Nat->aB AO} {lim nS:Nat} {pl:Pl},Dif ((k,o)::t) C C'->gO C L lim nS o1 pl->gO C' L lim nS o' pl:=by
   intro hb hk;obtain⟨e2,hk,n⟩:=kN _ _ _ hk;obtain⟨h2,hk,l⟩:=lL _ _ _ hk;obtain⟨e',h',q1,q2,q3,q4⟩:=wI hk
   have mid:∀{C C':Cx},Dif ((k,o)::t) C C'->lT k C ⟨fun j=>if j=k then C' j else C j,C'.z,C.w⟩/\Dif t ⟨fun j=>if j=k then C' j else C j,C'.z,C.w⟩ C':=fun{C C'} hd=>by
    refine⟨⟨fun j f=>fM3 f,hd.2.1⟩,⟨fun j=>?_,fun _ _ h=>h,hd.2.2⟩⟩;by_cases e:j=k;exact .inl (by simp[e]);rcases hd.1 j with h1|⟨o1,h1,hx⟩
    exact .inl (by simp[e,h1]);rcases fT3.1 h1 with h2|h2;cases h2;exact absurd rfl e;exact .inr ⟨_,h2,hx⟩
   refine⟨e',h',q1,fun i w hw=>?_,fun j=>(q3 j).trans (l.1 j),fun j o' f=>?_⟩;obtain⟨v,p1,p2⟩:=q2 i w hw;obtain⟨q,w1,w2⟩:=n i v p1;exact⟨q,w1,fun d hv=>p2 (mid d).2 (w2 (mid d).1 hv)⟩;obtain⟨o1,p1,p2,p3⟩:=q4 j o' f;obtain⟨o0,w1,w2,w3⟩:=l.2 j o1 p1;exact⟨o0,w1,p2.trans w2,fun d m=>p3 (mid d).2 (w3 (mid d).1 rfl m)⟩
  unfold qM at hk;cases o with
  |box cs=>exact other rfl hk
  |mp es=>exact other rfl hk
  |fl fs=>exact other rfl hk
  |loop N e ps a b busy fin=>exact other rfl hk
  |tr t rows hs=>exact c rfl hk
  |lst ty e1 g rows=>
   cases hfx:iA ty with
   |true=>
    simp only[hfx,fS3]at hk;exact other hfx hk
   |false=>
    simp only[hfx,fZ3]at hk;exact c hfx hk
end
end Go.P
namespace Go.P
open Go.Sim (AV AO Hp mQ upd St IC IX Ex iV CK Wf Out doOp mO exec Foot wanted put)
variable {P:AV->Hp->Prop} {e:gL} {kill:aA Nat} {lim n:Nat} {nw:Bool} {run:bA->Nat->(PV->bA->Nat->aB (PV×bA×Nat))->aB (PV×bA×Nat)} {t ys:aA AV} {xs:aA PV}
section
variable {R:Type} {C:Cx} {h:bA} {s:Hp}
def Fw:∀{e} {i} {v},fQ e i=some v->(i,v)∈e
 |[],i,v,h=>by simp[fQ]at h
 |(j,w)::r,i,v,h=>by
  simp only[fQ]at h
  split at h
  grind
  exact gZ3 _ (Fw h)
def Qp:∀{h} {i} {v},aK h i=some v->(i,v)∈h
 |[],i,v,h=>by simp[aK]at h
 |(j,w)::r,i,v,h=>by
  simp only[aK]at h
  split at h
  grind
  exact gZ3 _ (Qp h)
def Ln {p} {xs} {ys} {d} (h:LR (RV C) xs ys) (hp:xs.all (oE p d)=true):LR (RV (oI C p)) xs ys:=
 ⟨h.1,fun j x y a b=>yF (h.2 j x y a b) (fH3.1 hp x (fL3 a))⟩
def cL2:eT->Bool
 |.tr .. =>true
 |_=>false
def Fx:∀{h},sP h=true->∀{k} {o},aK h k=some o->cL2 o=false
 |[],_,k,o,h=>by simp[aK]at h
 |(j,o')::r,hn,k,o,h=>by
  simp only[aK]at h
  cases o' with
  |tr a b c=>cases hn
  |_=>
   split at h
   cases h;rfl
   exact Fx (h:=r) hn h
def gO.monoN {C C'} {L L'} {nS nS'} {po} {pl} (hn:nS<=nS') (n:C.le C') (q:∀id ver e len,pl=.atp id ver e len->L' id=L id) (r:cL2 po=false) (c:gO C L lim nS po pl):gO C' L' lim nS' po pl:=by
 have h1:gO ⟨C.f,C.z,fun _=>none⟩ L lim nS po pl:=by
  have m:∀{x y},RV C x y->RV ⟨C.f,C.z,fun _=>none⟩ x y:=fun h=>RV.mono (C:=C) (C':=⟨C.f,C.z,fun _=>none⟩) ⟨fun _ _ h=>h,fun _ _ h=>h⟩ h;cases po with
  |tr t rows hs=>cases r
  |box cells=>
   cases pl with
   |nil=>exact c
   |atp id ver e len=>
    obtain⟨h1,h2,ty,esz,row,d,j⟩:=c;exact⟨h1,h2,ty,esz,row,d,j.mono fun x y h=>m h⟩
  |lst ty e g rows=>cases pl<;>exact c
  |mp es=>cases pl<;>exact c
  |fl fs=>
   cases pl with
   |nil=>exact c
   |atp id ver e len=>
    obtain⟨h1,h2,d,j,ty,els,k,l,p⟩:=c;exact⟨h1,h2,d,j,ty,els,k,l,fun i f row a b=>(p i f row a b).mono fun x y h=>m h⟩
  |loop N e ps a b busy fin=>
   cases pl with
   |nil=>exact c
   |atp id ver e' len=>
    obtain⟨h1,h2,st,pend,tmps,d,j,k,l⟩:=c;exact⟨h1,h2,st,pend,tmps,d,j,fun i v hv=>(k i v hv).imp fun y hy=>⟨hy.1,m hy.2⟩,l⟩
 exact gO.mono (C:=⟨C.f,C.z,fun _=>none⟩) (C':=C') hn ⟨n.1,n.2⟩ q (fun o sl h=>by cases h) h1
def gQ1 {p} {L} {nS} {o} {pl} (n:Lc p o=true) (h:gO C L lim nS o pl):gO (oI C p) L lim nS o pl:=by
 cases o with
 |box cs=>
  cases pl with
  |nil=>exact h
  |atp id ver e len=>
   obtain⟨h1,h2,ty,esz,row,c,k⟩:=h;exact⟨h1,h2,ty,esz,row,c,Ln k n⟩
 |lst ty e g rows=>cases pl<;>exact h
 |tr t rows hs=>
  obtain⟨ty,e,ks⟩:=t;cases pl with
  |nil=>exact h
  |atp id ver e' len=>
   obtain⟨h1,h2,c,k,l,els,d,m,q,s⟩:=h;refine⟨h1,h2,c,k,l,els,d,m,q,fun i r r' a b=>⟨(s i r r' a b).1,fun j x y c1 c2=>?_⟩⟩;have:=(s i r r' a b).2 j x y c1 c2;unfold TC at this ⊢;cases hk:gZ ks j with
   |none=>rw[hk]at this;exact this
   |some t=>
    rw[hk]at this;simp only at this ⊢;rcases this with⟨h1,h2⟩|h;exact .inl ⟨h1,fun x u=>yF (h2 x u) (fH3.1 n _ u)⟩;exact .inr h
 |mp es=>cases pl<;>exact h
 |fl fs=>
  cases pl with
  |nil=>exact h
  |atp id ver e len=>
   obtain⟨h1,h2,c,k,ty,els,l,m,q⟩:=h;refine⟨h1,h2,c,k,ty,els,l,m,fun i f row a b=>Ln (d:=4) (q i f row a b) ?_⟩;have:=fH3.1 n f (fL3 a);simp[this]
 |loop N e ps a b busy fin=>
  cases pl with
  |nil=>exact h
  |atp id ver e' len=>
   obtain⟨h1,h2,st,pend,tmps,c,k,l,m⟩:=h;refine⟨h1,h2,st,pend,tmps,c,k,fun i v hv=>?_,m⟩;obtain⟨y,w,z⟩:=l i v hv;exact⟨y,w,yF z (fH3.1 n _ (Fw hv))⟩
def yG {p}:∀{h},mX p h=true->∀{k} {o},aK h k=some o->Lc p o=true
 |[],_,k,o,h=>by simp[aK]at h
 |(j,o')::r,hp,k,o,h=>by
  simp only[mX,fF3]at hp
  simp only[aK]at h
  split at h
  cases h;exact hp.1
  exact yG hp.2 h
def wJ:∀{h} {k},aK h k≠none->k∈tQ h
 |[],k,h=>by simp[aK]at h
 |(j,o)::r,k,h=>by
  simp only[aK]at h
  simp only[tQ,fT3]
  split at h
  omega
  exact .inr (wJ h)
def Ak {a}:∀{ks},aH1 a ks=true->∀k∈ks,aK a k≠none
 |[],_,k,hk=>by simp at hk
 |j::r,h,k,hk=>by
  unfold aH1 at h
  cases hh:iB a j with
  |false=>rw[hh]at h;cases h
  |true=>
   rw[hh,fS3]at h
   rcases fT3.1 hk with rfl|hk
   rw[Da]at hh
   cases hg:aK a k with
   |none=>rw[hg]at hh;cases hh
   |some o=>simp
   exact Ak h k hk
def Al {hs}:∀{a},aG1 hs n a=true->∀{k},aK a k≠none->aK hs k≠none\/n<=k
 |[],_,k,hk=>by simp[aK]at hk
 |(j,o)::r,h,k,hk=>by
  unfold aG1 at h
  cases b:(iB hs j||Nat.ble n j)with
  |false=>rw[b]at h;cases h
  |true=>
   rw[b,fS3]at h
   simp only[aK]at hk
   split at hk
   rename_i e
   subst e
   simp only[fW3,Da,iO3]at b
   rcases b with b|b
   grind
   exact .inr b
   exact Al h hk
def eQ {h} {k}:iB h k=true↔aK h k≠none:=by
 rw[Da];cases aK h k<;>simp
def dR.part {hs} (f:dR C n h lim s) (g:∀k o,aK hs k=some o->aK h k=some o) (m:mX (iB hs) hs=true):dR (oI C (iB hs)) n hs lim s:=by
 have j:∀k,aK hs k≠none->aK h k≠none:=fun k hk=>by
  cases hc:aK hs k with
  |none=>exact absurd hc hk
  |some o=>rw[g k o hc];simp
 have i:∀k pl,oI C (iB hs) k=some pl->C k=some pl:=fun k pl hk=>by
  simp only[oI]at hk;split at hk;exact hk;cases hk
 refine⟨⟨fun k o hk=>?_,fun k k' id v e l v' e' l' a b c d=>f.hr.inj k k' id v e l v' e' l' (j k a) (j k' b) (i _ _ c) (i _ _ d),fun id o p=>?_,fun k id v e l a b=>f.hr.wn k id v e l (j k a) (i _ _ b),f.hr.wb,f.hr.wz⟩,fun k pl hk=>f.dom k pl (i k pl hk),f.wf,f.lim⟩;obtain⟨pl,h1,h2⟩:=f.hr.ob k o (g k o hk);refine⟨pl,?_,gQ1 (yG m hk) h2⟩;simp only[oI];rw[fJ3 (eQ.2 (by rw[hk];simp))];exact h1;obtain⟨z1,z2,z3,z4⟩:=f.hr.zr id o p;exact⟨z1,z2,fun k v e l a b=>z3 k v e l (j k a) (i _ _ b),z4⟩
def dR.now {hs} (a:dR C n hs lim s) (hn:sP hs=true):dR ⟨C.f,C.z,fun _=>none⟩ n hs lim s:=
 ⟨⟨fun k o hk=>by
  obtain⟨pl,h1,h2⟩:=a.hr.ob k o hk
  exact⟨pl,h1,gO.monoN (C:=C) (C':=⟨C.f,C.z,fun _=>none⟩) (fI3 _) ⟨fun _ _ h=>h,fun _ _ h=>h⟩ (fun _ _ _ _ _=>rfl) (Fx hn hk) h2⟩,a.hr.inj,a.hr.zr,fun _ _ _ _ _ _ _=>rfl,fun _ _ h=>(by cases h),fun _ _ _=>rfl⟩,a.dom,a.wf,a.lim⟩
def Am {hs}:∀{a},aI1 hs a=true->∀{k},aK a k≠none->aK hs k≠none
 |[],_,k,hk=>by simp[aK]at hk
 |(j,o)::r,h,k,hk=>by
  unfold aI1 at h
  cases hh:iB hs j with
  |false=>rw[hh]at h;cases h
  |true=>
   rw[hh,fS3]at h
   simp only[aK]at hk
   split at hk
   rename_i e;subst e;exact eQ.1 hh
   exact Am h hk
def Lo:∀h m,m<=bnd h m
 |[],m=>fI3 _
 |(k,o)::r,m=>by
  unfold bnd
  cases hb:Nat.blt k m with
  |true=>rw[fS3];exact Lo r m
  |false=>
   rw[fZ3]
   have:=Lo r (k+1)
   have h2:¬k<m:=fun a=>by rw[<-hR3,hb]at a;cases a
   omega
def Fy:∀h m k,aK h k≠none->k<bnd h m
 |[],m,k,hk=>by simp[aK]at hk
 |(j,o)::r,m,k,hk=>by
  simp only[aK]at hk
  unfold bnd
  cases hb:Nat.blt j m with
  |true=>
   rw[fS3]
   split at hk
   rename_i e
   rw[hR3]at hb
   have:=Lo r m
   omega
   exact Fy r m k hk
  |false=>
   rw[fZ3]
   split at hk
   have:=Lo r (j+1);omega
   exact Fy r (j+1) k hk
def Lp {K:PV->gL->bA->Nat->aB R} {r:R}
  (D:dR C n h lim s) (he:eU C e t) (hx:LR (RV C) xs ys)
  (e0:∀hs C0 m K' r',dR C0 m hs lim s->LR (RV C0) xs ys->run hs m K'=some r'->
   ∃v h' n' C' y s',K' v h' n'=some r'/\RV C' v y/\dR C' n' h' lim s'/\m<=n'/\Fr C0 hs s C' h' s'/\P y s')
  (hk:inK run nw xs e h n kill K=some r):
  ∃v e' h' n' C' y s',K v e' h' n'=some r/\RV C' v y/\(∀i w,fQ e' i=some w->∃z,t[i]? =some z/\RV C' w z/\i∉kill)/\dR C' n' h' lim s'/\n<=n'/\Fr C h s C' h' s'/\P y s':=by
 unfold inK at hk;obtain⟨f7,hk⟩:=iY (jE 5) _ _ _ _ hk;obtain⟨ns,hk⟩:=gM _ _ _ _ _ hk;obtain⟨hs,u,hk,F⟩:=uY hk;cases hch:(xs.all (oE (iB hs) 5)&&(mX (iB hs) hs&&(sP hs||sP u)))with
 |false=>rw[hch]at hk;exact aD hk
 |true=>
 rw[hch,fS3,cF,fC3]at hk;obtain⟨r',hq,hk⟩:=hk;simp only[fF3]at hch
 have U:∀k o,aK hs k=some o->aK h k=some o:=fun k o g=>by
  rw[(F k).1]at g;split at g;exact g;cases g
 have e3:∀{k},aK hs k≠none->k<n:=fun{k} hk=>by
  cases hc:aK hs k with
  |none=>exact absurd hc hk
  |some o=>obtain⟨pl,p1,_⟩:=D.hr.ob k o (U k o hc);exact D.dom k pl p1
 obtain⟨d4,H,f2⟩:=hch;have d2:=D.part U H;let W:Nat->aB (Nat×Nat×Nat):=if sP hs=true then fun _=>none else C.w
 let C0:Cx:=⟨(oI C (iB hs)).f,C.z,W⟩
 have d3:∀o,W o≠none->C.w o≠none:=fun o h=>by
  by_cases hn:sP hs=true;exact absurd (by simp only[W,fJ3 hn]) h;have e:W o=C.w o:=by simp only[W,fM3 hn]
  rw[<-e];exact h
 have T:dR C0 n hs lim s:=by
  by_cases hn:sP hs=true;have e:C0=⟨(oI C (iB hs)).f,(oI C (iB hs)).z,fun _=>none⟩:=by simp only[C0,W,fJ3 hn];rfl
  rw[e];exact d2.now hn;have e:C0=oI C (iB hs):=by simp only[C0,W,fM3 hn];rfl
  rw[e];exact d2
 have e5:dR C0 (bif nw then n else bnd hs 0) hs lim s:=⟨T.hr,(fun k pl E=>by
  cases nw with
  |true=>exact T.dom k pl E
  |false=>
   simp only[C0,oI]at E;split at E;rename_i Z;exact Fy hs 0 k (eQ.1 Z);cases E),T.wf,T.lim⟩
 obtain⟨v,h',n',C',y,s',w1,w2,w3,w4,w5,w6⟩:=e0 hs _ _ _ r' e5 ((Ln hx d4).mono fun x y h=>RV.mono (C:=oI C (iB hs)) (C':=C0) ⟨fun _ _ h=>h,fun _ _ h=>h⟩ h) hq;unfold Ld at w1;obtain⟨f6,w1⟩:=iY (jE 5) _ _ _ _ w1;obtain⟨f8,w1⟩:=gM _ _ _ _ _ w1;obtain⟨h2,_,w1,b4⟩:=uY w1;cases H:(aH1 h2 (tQ hs)&&(bif nw then aG1 hs (bif nw then n else bnd hs 0) h2 else aI1 hs h2)&&(oE (iB h2) 5 v&&mX (iB h2) h2))with
 |false=>rw[H]at w1;exact aD w1
 |true=>
 rw[H,fS3]at w1;cases w1;simp only[fF3]at H;obtain⟨⟨c1,c2⟩,c3,c4⟩:=H;have e7:∀{k},aK hs k≠none->aK h2 k≠none:=fun{k} hk=>Ak c1 k (wJ hk)
 have b7:∀{k},aK h2 k≠none->aK hs k≠none\/n<=k:=fun{k} b0=>by
  cases nw with
  |true=>exact Al c2 b0
  |false=>exact .inl (Am c2 b0)
 have M:∀k o,aK h2 k=some o->aK h' k=some o:=fun k o g=>by
  rw[(b4 k).1]at g;split at g;exact g;cases g
 have e6:=w3.part M c4;rw[Px]at hk;simp only[Jo,gE]at hk;obtain⟨e',V,hk,k1,k2,k3⟩:=wI hk;obtain⟨hc,hk,k4⟩:=uZ hk
 let j:Nat->aB (Nat×Nat×Nat):=fun o=>match C'.w o with
  |some x=>some x
  |none=>if sP hs=true then C.w o else none
 let C3:Cx:=⟨fun k=>if iB h2 k then C' k else C k,C'.z,j⟩
 let C1:Cx:=⟨fun k=>if k<n then C3 k else none,C'.z,j⟩
 have c3in:∀{k},aK h2 k≠none->C3 k=C' k:=fun{k} hk=>fJ3 (eQ.2 hk);have c3out:∀{k},aK h2 k=none->C3 k=C k:=fun{k} hk=>fM3 (fun Z=>eQ.1 Z hk)
 have b0:∀{k},aK h k≠none->k<n:=fun{k} hk=>by
  cases hc:aK h k with
  |none=>exact absurd hc hk
  |some o=>obtain⟨pl,p1,_⟩:=D.hr.ob k o hc;exact D.dom k pl p1
 have f1:∀{k},aK hs k≠none->aK h k≠none:=fun{k} hk=>by
  cases hc:aK hs k with
  |none=>exact absurd hc hk
  |some o=>rw[U k o hc];simp
 have rs:∀{k},aK hs k≠none->C0 k=C k:=fun{k} hk=>by simp only[C0,oI];rw[fJ3 (eQ.2 hk)]
 have f5:∀{k pl},C0 k=some pl->C k=some pl:=fun{k pl} hk=>by
  simp only[C0,oI]at hk;split at hk;exact hk;cases hk
 have b8:∀{k pl},oI C' (iB h2) k=some pl->C3 k=some pl:=fun{k pl} hk=>by
  simp only[oI]at hk;split at hk;rename_i Z;rw[c3in (eQ.1 Z)];exact hk;cases hk
 have d0:Dif h2 ⟨C.f,C.z,j⟩ C1:=⟨fun k=>(by
  by_cases d7:k<n;show C1 k=C k\/_
  have e1:C1 k=C3 k:=fJ3 d7;rw[e1];by_cases A:aK h2 k=none;exact .inl (c3out A);rw[c3in A];rcases b7 A with hq|hq;cases hc2:aK hs k with
  |none=>exact absurd hc2 hq
  |some o=>
   obtain⟨o',q1,q2⟩:=w5.kd k o hc2
   have q3:aK h2 k=some o':=by
    cases hc3:aK h2 k with
    |none=>exact absurd hc3 A
    |some o2=>rw[M k o2 hc3]at q1;exact q1
   cases hb:gX o' with
   |true=>left;rw[(q2 hb).2,rs hq]
   |false=>
    right;exact⟨o',Qp q3,hb⟩
  omega;left;show C1 k=C k
  have:C1 k=none:=fM3 d7;rw[this,fI1 D (by omega)]),w5.zl,rfl⟩
 have c13:C1.le C3:=⟨fun k pl hk=>(by
  simp only[C1]at hk;split at hk;exact hk;cases hk),fun _ _ h=>h⟩
 have Y:∀{k o'},aK V k=some o'->∃o,aK h k=some o/\aK hs k=none/\aK h2 k=none/\gX o'=gX o/\aK u k=some o/\∀{L} {lim nS} {pl},gO ⟨C.f,C.z,j⟩ L lim nS o pl->gO C1 L lim nS o' pl:=fun{k o'} g=>by
  obtain⟨o,q1,q2,q3⟩:=k3 k o' g;have q0:=q1;rw[(F k).2]at q1;split at q1;cases q1;rename_i hm;have h1:aK hs k=none:=by rw[(F k).1,fM3 hm]
  refine⟨o,q1,h1,?_,q2,q0,fun f0=>q3 d0 f0⟩;cases hc2:aK h2 k with
  |none=>rfl
  |some o2=>
   rcases b7 (k:=k) (by rw[hc2];simp)with q|q;exact absurd h1 q;have:=b0 (k:=k) (by rw[q1];simp);omega
 have X:∀{k},aK hc k≠none->aK h2 k≠none\/(aK h2 k=none/\aK V k≠none):=fun{k} hk=>by
  rw[k4 k]at hk;cases hc2:aK h2 k with
  |none=>right;refine⟨rfl,?_⟩;rw[hc2]at hk;simpa using hk
  |some o=>left;simp
 have B:∀{k},aK V k≠none->aK h k≠none/\aK hs k=none/\aK h2 k=none:=fun{k} hk=>by
  cases hc2:aK V k with
  |none=>exact absurd hc2 hk
  |some o'=>obtain⟨o,q1,q2,q3,_⟩:=Y hc2;exact⟨by rw[q1];simp,q2,q3⟩
 have N:∀{k},aK h2 k≠none->aK h' k≠none:=fun{k} hk=>by
  cases hc2:aK h2 k with
  |none=>exact absurd hc2 hk
  |some o=>rw[M k o hc2];simp
 have S:∀{id},Own C0 hs id->(∃k v e l,aK hs k≠none/\aK h k≠none/\C k=some (.atp id v e l))\/W id≠none:=fun{id} u=>by
  rcases u with⟨k,v,e,l,q1,q2⟩|u;exact .inl ⟨k,v,e,l,q1,f1 q1,f5 q2⟩;exact .inr u
 have wA:∀{id},Own C0 hs id->Own C h id:=fun{id} u=>by
  rcases S u with⟨k,v,e,l,q1,q2,q3⟩|u;exact .inl ⟨k,v,e,l,q2,q3⟩;exact .inr (d3 id u)
 have J:∀{k id v e l},aK h k≠none->aK hs k=none->C k=some (.atp id v e l)->¬Own C0 hs id:=fun{k id v e l} a b c u=>by
  rcases S u with⟨k',v',e',l',q1,q2,q3⟩|u;have:=D.hr.inj k k' id _ _ _ _ _ _ a q2 c q3;subst this;exact q1 b;exact d3 id u (D.hr.wn k id v e l a c)
 have b5:sP hs=true->∀id,Own C0 hs id->C.w id=none:=fun hn id u=>by
  rcases S u with⟨k',v',e',l',q1,q2,q3⟩|u;exact D.hr.wn k' id _ _ _ q2 q3;exact absurd (by simp only[W,fJ3 hn]) u
 have f4:sP hs=true->∀id,C'.w id≠none->C.w id=none:=fun hn id h=>by
  cases hc:C.w id with
  |none=>rfl
  |some sl=>
   have p:=(D.hr.wb id sl hc).1;rw[<-hc];exact b5 hn id (w5.own id p (.inr h))
 have b6:∀{id sl},C'.w id=some sl->j id=some sl:=fun{id sl} h=>by simp only[j,h]
 have b9:sP hs=true->∀{id sl},C.w id=some sl->j id=some sl:=fun hn {id sl} h=>by
  cases hc:C'.w id with
  |none=>simp only[j,hc,fJ3 hn,h]
  |some x=>have:=f4 hn id (by rw[hc];simp);rw[this]at h;cases h
 have G:∀{id sl},j id=some sl->C'.w id=some sl\/(sP hs=true/\C.w id=some sl):=fun{id sl} h=>by
  cases hc:C'.w id with
  |some x=>simp only[j,hc]at h;exact .inl h
  |none=>
   simp only[j,hc]at h;by_cases hn:sP hs=true;rw[fJ3 hn]at h;exact .inr ⟨hn,h⟩;rw[fM3 hn]at h;cases h
 have e4:∀{k k' id v e l v' e' l'},aK h2 k≠none->aK V k'≠none->C3 k=some (.atp id v e l)->C3 k'=some (.atp id v' e' l')->False:=fun{k k' id v e l v' e' l'} a b c d=>by
  obtain⟨b1,b2,b3⟩:=B b;rw[c3in a]at c;rw[c3out b3]at d;have p:=(D.hr.lt b1 d).2;exact J b1 b2 d (w5.own id p (.inl ⟨k,v,e,l,N a,c⟩))
 refine⟨v,e',hc,_,C3,y,s',hk,(yF w2 c3).mono ⟨fun _ _ Z=>b8 Z,fun _ _ h=>h⟩,fun i w hw=>?_,⟨⟨fun k o g=>?_,fun k k' id v e l v' e' l' a b c d=>?_,fun id o hz=>?_,fun k id v e l a b=>?_,fun id sl hw=>?_,fun id o hz=>?_⟩,fun k pl E=>?_,w3.wf,w3.lim⟩,?_,⟨w5.sk,w5.n,fun id p hn=>w5.keep id p (fun u=>hn (wA u)),fun id p u=>?_,fun k o g=>?_,w5.zl,fun id p hz=>?_⟩,w6⟩;obtain⟨v0,q1,q2⟩:=k1 i w hw;obtain⟨z,p1,p2,p3⟩:=he.edel kill i v0 q1;exact⟨z,p1,(q2 d0 (RV.mono (C:=C) (C':=⟨C.f,C.z,j⟩) ⟨fun _ _ h=>h,fun _ _ h=>h⟩ p2)).mono c13,p3⟩;rw[k4 k]at g;cases hc2:aK h2 k with
 |some o2=>
  rw[hc2]at g;cases g;obtain⟨pl,q1,q2⟩:=e6.hr.ob k _ hc2;exact⟨pl,b8 q1,q2.mono (fI3 _) ⟨fun _ _ Z=>b8 Z,fun _ _ h=>h⟩ (fun _ _ _ _ _=>rfl) (fun o sl h=>⟨b6 h,rfl⟩)⟩
 |none=>
  rw[hc2]at g;obtain⟨o0,q1,q2,q3,q4,q0,q5⟩:=Y (by simpa using g);obtain⟨pl,p1,p2⟩:=D.hr.ob k o0 q1
  have d6:∀id ver e len,pl=.atp id ver e len->Sim.look s'.h id=Sim.look s.h id:=fun id v e l hp=>by
   subst hp;exact w5.keep id p2.lt.2 (J (by rw[q1];simp) q2 p1)
  have p3:gO ⟨C.f,C.z,j⟩ (Sim.look s'.h) lim s'.n o0 pl:=by
   by_cases hn:sP hs=true;exact gO.mono (C:=C) (C':=⟨C.f,C.z,j⟩) w5.n ⟨fun _ _ h=>h,fun _ _ h=>h⟩ d6 (fun o sl h=>⟨b9 hn h,w5.keep o (D.hr.wb o sl h).1 fun u=>by rw[b5 hn o u]at h;cases h⟩) p2;have e9:sP u=true:=by simpa[hn]using f2
   exact gO.monoN (C:=C) (C':=⟨C.f,C.z,j⟩) w5.n ⟨fun _ _ h=>h,fun _ _ h=>h⟩ d6 (Fx e9 q0) p2
  exact⟨pl,by rw[c3out hc2];exact p1,(q5 p3).mono (fI3 _) c13 (fun _ _ _ _ _=>rfl) (fun o sl h=>⟨h,rfl⟩)⟩
 rcases X a with a|⟨a1,a⟩<;>rcases X b with b|⟨b1,b⟩
 rw[c3in a]at c;rw[c3in b]at d;exact w3.hr.inj k k' id v e l v' e' l' (N a) (N b) c d;exact(e4 a b c d).elim;exact(e4 b a d c).elim;rw[c3out a1]at c;rw[c3out b1]at d;exact D.hr.inj k k' id v e l v' e' l' (B a).1 (B b).1 c d;obtain⟨z1,z2,z3,z4⟩:=w3.hr.zr id o hz;refine⟨z1,z2,fun k v e l a b=>?_,z4⟩;rcases X a with a|⟨a1,a⟩
 rw[c3in a]at b;exact z3 k v e l (N a) b;rw[c3out a1]at b;obtain⟨b1,b2,b3⟩:=B a;have p:=(D.hr.lt b1 b).2;rcases w5.zn id p (by rw[show C'.z id=some o from hz];simp)with O|O;cases hz1:C.z id with
 |none=>exact O hz1
 |some o1=>exact(D.hr.zr id o1 hz1).2.2.1 k v e l b1 b
 exact J b1 b2 b O;cases hw:j id with
 |none=>exact hw
 |some sl=>
  exfalso;rcases X a with a|⟨a1,a⟩
  rw[c3in a]at b;have hc:=w3.hr.wn k id v e l (N a) b;rcases G hw with h|⟨hn,h⟩
  rw[hc]at h;cases h;rw[b5 hn id (w5.own id (D.hr.wb id sl h).1 (.inl ⟨k,v,e,l,N a,b⟩))]at h;cases h;rw[c3out a1]at b;obtain⟨b1,b2,b3⟩:=B a;rcases G hw with h|⟨hn,h⟩
  exact J b1 b2 b (w5.own id (D.hr.lt b1 b).2 (.inr (by rw[h];simp)));rw[D.hr.wn k id v e l b1 b]at h;cases h
 rcases G hw with h|⟨hn,h⟩
 exact w3.hr.wb id sl h;have:=D.hr.wb id sl h;have:=w5.n;omega;cases hw:j id with
 |none=>exact hw
 |some sl=>
  exfalso;rcases G hw with h|⟨hn,h⟩
  rw[w3.hr.wz id o hz]at h;cases h;have p:=(D.hr.wb id sl h).1;rcases w5.zn id p (by rw[show C'.z id=some o from hz];simp)with O|O;cases hz1:C.z id with
  |none=>exact O hz1
  |some o1=>rw[D.hr.wz id o1 hz1]at h;cases h
  rw[b5 hn id O]at h;cases h
 cases nw with
 |true=>
  simp only[fS3]at w4 ⊢;by_cases A:aK h2 k=none;rw[c3out A]at E;have:=D.dom k pl E;omega;rw[c3in A]at E;exact w3.dom k pl E
 |false=>
  simp only[fZ3];by_cases A:aK h2 k=none;rw[c3out A]at E;exact D.dom k pl E;exact e3 (Am c2 A)
 cases nw with
 |true=>exact w4
 |false=>exact fI3 _
 rcases u with⟨k,v,e,l,q1,q2⟩|u;rcases X q1 with a|⟨a1,a⟩
 rw[c3in a]at q2;exact wA (w5.own id p (.inl ⟨k,v,e,l,N a,q2⟩));rw[c3out a1]at q2;exact .inl ⟨k,v,e,l,(B a).1,q2⟩;cases hw:j id with
 |none=>exact absurd hw u
 |some sl=>
  rcases G hw with h|⟨hn,h⟩
  exact wA (w5.own id p (.inr (by rw[h];simp)));exact .inr (by rw[h];simp)
 rw[k4 k];by_cases hm:aK hs k=none
 have d8:¬xN k ns=true:=fun e8=>by
  rw[(F k).1,fJ3 e8,g]at hm;cases hm
 have d5:aK u k=some o:=by rw[(F k).2,fM3 d8];exact g
 cases hc2:aK V k with
 |none=>rw[(k2 k).1 hc2]at d5;cases d5
 |some o'=>
  obtain⟨o0,q1,q2,q3,q4,_,_⟩:=Y hc2;rw[g]at q1;cases q1;exact⟨o',by rw[q3];rfl,fun hb=>⟨by rw[<-q4];exact hb,c3out q3⟩⟩
 cases hc2:aK hs k with
 |none=>exact absurd hc2 hm
 |some o0=>
  have d9:=U k o0 hc2;rw[g]at d9;cases d9;obtain⟨o',q1,q2⟩:=w5.kd k o hc2;have A:=e7 hm;cases hc3:aK h2 k with
  |none=>exact absurd hc3 A
  |some o2=>
   have:=M k o2 hc3;rw[q1]at this;cases this;exact⟨o',rfl,fun hb=>⟨(q2 hb).1,by rw[c3in A,(q2 hb).2,rs hm]⟩⟩
 rcases w5.zn id p hz with h1|h1;exact .inl h1;exact .inr (wA h1)
def fxo:eT->eT
 |.lst ty e g rows=>.lst (ty+4294967296) e g rows
 |o=>o
def Jp:eT->Bool
 |.lst .. =>true
 |_=>false
def xO1 (ty:Nat):iA (ty+4294967296)=true:=by
 unfold iA;rw[iO3];omega
def nB1 {ty}:Ct (ty+4294967296)=ty:=by
 unfold Ct;rw[xO1,fS3];omega
def Fz {ty} (h:iA ty=false):Ct ty=ty:=by
 unfold Ct;rw[h,fZ3]
def nC1 {ty} (h:iA ty=true):Ct ty=ty-4294967296:=by
 unfold Ct;rw[h,fS3]
def Xq {L} {nS ty ty' e} {g} {rows} {pl} (a:gO C L lim nS (.lst ty e g rows) pl) (b:Ct ty'=Ct ty):gO C L lim nS (.lst ty' e g rows) pl:=by
 cases pl with
 |nil=>exact a
 |atp id ver e' len=>
  obtain⟨a1,a2,a3,a4,els,a5,a6⟩:=a;exact⟨a1,a2,a3,a4,els,by rw[b];exact a5,a6⟩
def Ga:∀{h:bA} {K:bA->aB R} {r:R},Uh h K=some r->∃h1,K h1=some r/\∀k,aK h1 k=(aK h k).map fxo/\∀ty e g rows,aK h k=some (.lst ty e g rows)->iA ty=false
 |[],K,r,hk=>⟨[],hk,fun k=>⟨rfl,fun _ _ _ _ h=>by simp[aK]at h⟩⟩
 |(j,o)::t,K,r,hk=>by
  unfold Uh at hk
  have other:Jp o=false->Uh t (fun r=>K ((j,o)::r))=some r->∃h1,K h1=some r/\∀k,aK h1 k=(aK ((j,o)::t) k).map fxo/\∀ty e g rows,aK ((j,o)::t) k=some (.lst ty e g rows)->iA ty=false:=by
   intro hl hk;obtain⟨h1,q1,q2⟩:=Ga hk;refine⟨_,q1,fun k=>?_⟩;by_cases e:j=k;simp only[aK,fJ3 e,gB3];refine⟨?_,fun _ _ _ _ h=>?_⟩;cases o<;>first|rfl|simp[Jp]at hl
   grind
   simp only[aK,fM3 e];exact q2 k
  cases o with
  |lst ty e g rows=>
   cases hfx:iA ty with
   |true=>simp only[hfx,fS3]at hk;exact aD hk
   |false=>
    simp only[hfx,fZ3]at hk;obtain⟨h1,q1,q2⟩:=Ga hk;refine⟨_,q1,fun k=>?_⟩;by_cases c:j=k;simp only[aK,fJ3 c,gB3];exact⟨rfl,fun _ _ _ _ h=>by cases h;exact hfx⟩;simp only[aK,fM3 c];exact q2 k
  |box cs=>exact other rfl hk
  |mp es=>exact other rfl hk
  |fl fs=>exact other rfl hk
  |loop N e ps a b busy fin=>exact other rfl hk
  |tr tt rows hs=>exact other rfl hk
def UnR (h:bA) (k:Nat) (a b:eT):Prop:=∃o0,aK h k=some o0/\
 ((∃ty e g rows,a=.lst ty e g rows/\iA ty=true/\iA (ty-4294967296)=false/\b=.lst (ty-4294967296) e g rows)\/(b=a/\Jp o0=false))
def Jq:∀{h h2:bA} {K:bA->aB R} {r:R},Bs h h2 K=some r->∃c,K c=some r/\∀k,(aK c k=none↔aK h2 k=none)/\∀d,aK c k=some d->∃f,aK h2 k=some f/\UnR h k f d
 |h,[],K,r,hk=>⟨[],hk,fun k=>⟨Iff.rfl,fun _ h=>by simp[aK]at h⟩⟩
 |h,(j,o)::t,K,r,hk=>by
  unfold Bs at hk
  rw[iC,fC3]at hk
  obtain⟨o0,h0,hk⟩:=hk
  have step:∀d,UnR h j o d->Bs h t (fun r=>K ((j,d)::r))=some r->∃c,K c=some r/\∀k,(aK c k=none↔aK ((j,o)::t) k=none)/\∀d,aK c k=some d->∃f,aK ((j,o)::t) k=some f/\UnR h k f d:=by
   intro d l hk;obtain⟨c,q1,q2⟩:=Jq hk;refine⟨_,q1,fun k=>?_⟩;by_cases e:j=k;subst e;simp only[aK,fJ3];exact⟨by simp,fun m i=>⟨o,rfl,by cases i;exact l⟩⟩;simp only[aK,fM3 e];exact q2 k
  have no:Jp o0=false->Jp o=false->Bs h t (fun r=>K ((j,o)::r))=some r->∃c,K c=some r/\∀k,(aK c k=none↔aK ((j,o)::t) k=none)/\∀d,aK c k=some d->∃f,aK ((j,o)::t) k=some f/\UnR h k f d:=
   fun hl _ hk=>step o ⟨o0,h0,.inr ⟨rfl,hl⟩⟩ hk
  cases o0 with
  |lst ty0 e0 g0 rows0=>
   cases o with
   |lst ty e g rows=>
    cases hfx:(iA ty&& !(iA (ty-4294967296)))with
    |false=>simp only[hfx,fZ3]at hk;exact aD hk
    |true=>
     simp only[hfx,fS3]at hk;simp only[fF3,fX3]at hfx;exact step _ ⟨_,h0,.inl ⟨ty,e,g,rows,rfl,hfx.1,hfx.2,rfl⟩⟩ hk
   |_=>exact aD hk
  |box cs=>cases o with
   |lst ty e g rows=>exact aD hk
   |_=>exact no rfl rfl hk
  |mp es=>cases o with
   |lst ty e g rows=>exact aD hk
   |_=>exact no rfl rfl hk
  |fl fs=>cases o with
   |lst ty e g rows=>exact aD hk
   |_=>exact no rfl rfl hk
  |loop N e ps a b busy fin=>cases o with
   |lst ty e g rows=>exact aD hk
   |_=>exact no rfl rfl hk
  |tr tt0 rows0 hs0=>cases o with
   |lst ty e g rows=>exact aD hk
   |_=>exact no rfl rfl hk
def gR1 {fx:Bool} {K:PV->gL->bA->Nat->aB R} {r:R}
  (p:dR C n h lim s) (he:eU C e t) (M:LR (RV C) xs ys)
  (x:∀(hs:bA) (C0:Cx) (m:Nat) (K':PV->bA->Nat->aB (PV×bA×Nat)) (r':PV×bA×Nat),dR C0 m hs lim s->LR (RV C0) xs ys->run hs m K'=some r'->
   ∃v h' n' C' y s',K' v h' n'=some r'/\RV C' v y/\dR C' n' h' lim s'/\m<=n'/\Fr C0 hs s C' h' s'/\P y s')
  (hk:mM1 fx run nw xs e h n kill K=some r):
  ∃v e' h' n' C' y s',K v e' h' n'=some r/\RV C' v y/\(∀i w,fQ e' i=some w->∃z,t[i]? =some z/\RV C' w z/\i∉kill)/\dR C' n' h' lim s'/\n<=n'/\Fr C h s C' h' s'/\P y s':=by
 cases fx with
 |false=>exact Lp p he M x hk
 |true=>
  have hk:Uh h (fun h1=>inK run nw xs e h1 n kill fun v e h2 n=>Bs h h2 fun A=>K v e A n)=some r:=hk;obtain⟨h1,hk,u⟩:=Ga hk;have d:∀{k},aK h1 k≠none->aK h k≠none:=fun{k} hk hn=>hk (by rw[(u k).1,hn];rfl)
  have H:dR C n h1 lim s:=by
   refine⟨⟨fun k po hp=>?_,fun k k' i v1 F J v2 e2 L a1 a2 a3 a4=>p.hr.inj k k' i v1 F J v2 e2 L (d a1) (d a2) a3 a4,fun id o D=>?_,fun k id v e l a b=>p.hr.wn k id v e l (d a) b,p.hr.wb,p.hr.wz⟩,p.dom,p.wf,p.lim⟩;rw[(u k).1]at hp;cases hh:aK h k with
   |none=>rw[hh]at hp;cases hp
   |some o=>
    rw[hh]at hp;cases hp;obtain⟨pl,p1,p2⟩:=p.hr.ob k o hh;refine⟨pl,p1,?_⟩;cases o with
    |lst ty e g rows=>exact Xq p2 (nB1.trans (Fz ((u k).2 _ _ _ _ hh)).symm)
    |_=>exact p2
   obtain⟨z1,z2,z3,z4⟩:=p.hr.zr id o D;exact⟨z1,z2,fun k v e l a b=>z3 k v e l (d a) b,z4⟩
  obtain⟨v,e',h',n',C',y,s',q1,q2,q3,q4,q5,q6,q7⟩:=Lp H he M x hk;obtain⟨A,r1,r2⟩:=Jq q1;have c:∀{k},aK A k≠none->aK h' k≠none:=fun{k} hk hn=>hk ((r2 k).1.2 hn)
  have f:∀{id},Own C h1 id->Own C h id:=fun{id} q=>by
   rcases q with⟨k,v,e,l,b1,b2⟩|q;exact .inl ⟨k,v,e,l,d b1,b2⟩;exact .inr q
  refine⟨v,e',A,n',C',y,s',r1,q2,q3,⟨⟨fun k E G=>?_,fun k k' i v1 F J v2 e2 L a1 a2 a3 a4=>q4.hr.inj k k' i v1 F J v2 e2 L (c a1) (c a2) a3 a4,fun id o D=>?_,fun k id v e l a b=>q4.hr.wn k id v e l (c a) b,q4.hr.wb,q4.hr.wz⟩,q4.dom,q4.wf,q4.lim⟩,q5,⟨q6.sk,q6.n,fun id j hn=>q6.keep id j (fun q=>hn (f q)),fun id j q=>?_,fun k o B=>?_,q6.zl,fun id j D=>?_⟩,q7⟩;obtain⟨N,b1,o0,b2,b3⟩:=(r2 k).2 E G;obtain⟨pl,p1,p2⟩:=q4.hr.ob k N b1;refine⟨pl,p1,?_⟩;rcases b3 with⟨ty,e,g,rows,rfl,c1,c2,rfl⟩|⟨rfl,_⟩
  exact Xq p2 ((Fz c2).trans (nC1 c1).symm);exact p2;obtain⟨z1,z2,z3,z4⟩:=q4.hr.zr id o D;exact⟨z1,z2,fun k v e l a b=>z3 k v e l (c a) b,z4⟩;rcases q with⟨k,v,e,l,b1,b2⟩|q;exact f (q6.own id j (.inl ⟨k,v,e,l,c b1,b2⟩));exact f (q6.own id j (.inr q));obtain⟨N,s1,S⟩:=q6.kd k (fxo o) (by rw[(u k).1,B];rfl);cases hc:aK A k with
  |none=>rw[(r2 k).1.1 hc]at s1;cases s1
  |some E=>
   refine⟨E,rfl,fun hb=>?_⟩;obtain⟨O,b1,o0,b2,b3⟩:=(r2 k).2 E hc;rw[s1]at b1;cases b1;rw[B]at b2;cases b2;rcases b3 with⟨ty,e,g,rows,rfl,c1,c2,rfl⟩|⟨rfl,hl⟩
   rw[gX,c2]at hb;cases hb;obtain⟨T,U⟩:=S hb;refine⟨?_,U⟩;cases o with
   |lst ty e g rows=>simp[Jp]at hl
   |_=>exact T
  rcases q6.zn id j D with h1|h1;exact .inl h1;exact .inr (f h1)
end
end Go.P
namespace Go.P
open Go.Sim (AV AO Hp mQ upd St IC IX Ex iV CK Wf Out doOp mO exec)
variable {d i lim n o:Nat} {e:gL}
section
variable {R:Type} {C:Cx} {h:bA} {s:Hp}
def Jr:∀h k a b,dB (dB h k a) k b=dB h k b
 |[],_,_,_=>rfl
 |(j,o)::r,k,a,b=>by
  by_cases e:j=k
  simp[dB,e]
  simp[dB,e,Jr r k a b]
def aV1 {h} {j k} {o b} (e:j≠k):dB ((j,o)::h) k b=(j,o)::dB h k b:=by simp[dB,e]
def xP1 (m:dR C n h lim s) {k} {po po'} (hg:aK h k=some po) (u:∀pl,C k=some pl->gO C (Sim.look s.h) lim s.n po pl->gO C (Sim.look s.h) lim s.n po' pl) (hb:gX po'=true->gX po=true):
  dR C n (dB h k po') lim s/\Fr C h s C (dB h k po') s:=by
 have c:∀j,aK (dB h k po') j=if j=k then some po' else aK h j:=fun j=>by
  rw[eJ];simp[hg]
 have g:∀j,aK (dB h k po') j≠none->aK h j≠none:=fun j f=>by
  rw[c]at f;split at f;rename_i d;subst d;rw[hg];simp;exact f
 refine⟨⟨⟨fun j o f=>?_,fun j q i v1 d p v2 e2 z h1 h2 r t=>m.hr.inj j q i v1 d p v2 e2 z (g j h1) (g q h2) r t,fun i o w=>?_,fun j i v1 d p h1 h2=>m.hr.wn j i v1 d p (g j h1) h2,m.hr.wb,m.hr.wz⟩,m.dom,m.wf,m.lim⟩,⟨.refl _ _,fI3 _,fun _ _ _=>rfl,fun i hi hn=>?_,fun j o f=>?_,fun _ _ h=>h,fun _ _ h=>.inl h⟩⟩;rw[c]at f;split at f;rename_i d;subst d;cases f;obtain⟨pl,p1,p2⟩:=m.hr.ob j _ hg;exact⟨pl,p1,u pl p1 p2⟩;exact m.hr.ob j o f;obtain⟨z1,z2,z3,z4⟩:=m.hr.zr i o w;exact⟨z1,z2,fun j v e l a b=>z3 j v e l (g j a) b,z4⟩;rcases hn with⟨j,v1,d,p,x,y⟩|hn;exact .inl ⟨j,v1,d,p,g j x,y⟩;exact .inr hn;rw[c];by_cases d:j=k;subst d;rw[hg]at f;cases f;exact⟨po',by simp,fun h=>⟨hb h,rfl⟩⟩;exact⟨o,by simp[d,f],fun h=>⟨h,rfl⟩⟩
def Js (C:Cx) (n:Nat) (pl:Pl):Cx:=⟨fun k=>if k=n then some pl else C k,C.z,fun o=>match pl with
 |.atp id _ _ _=>if o=id then none else C.w o
 |.nil=>C.w o⟩
def gS1 (a:dR C n h lim s) (pl:Pl):C.le (Js C n pl):=⟨fun k q hk=>by
 have:=a.dom k q hk
 show(if k=n then some pl else C k)=_
 rw[fM3 (by omega)]
 exact hk,fun _ _ h=>h⟩
def nD1 (A:dR C n h lim s) {k id ver e2 len ty i j} {ks} {rows} {hs} {row} {els} {row'} {t'} {e'} {rows'} {y}
  (hg:aK h k=some (.tr (.nd ty e2 ks) rows hs)) (O:C k=some (.atp id ver e2 len)) (hL:Sim.look s.h id=some (.arr false ty e2 ver els)) (hi:rows[i]? =some row) (T:els[i]? =some row')
  (hk:gZ ks j=some t') (hj:row[j]? =some (.is e' rows')) (V:row'[j]? =some y) (Y:¬Ch hs i j):
  ∃pl,dR (Js C n pl) (n+1) ((n,Cg t' rows')::dB h k (.tr (.nd ty e2 ks) rows ((j,i,.own n)::hs))) lim s/\Fr C h s (Js C n pl) ((n,Cg t' rows')::dB h k (.tr (.nd ty e2 ks) rows ((j,i,.own n)::hs))) s/\RV (Js C n pl) (.own n) y:=by
 obtain⟨W,U,_,hlen,b0,d0,d,R,b5,hr⟩:=nA A hg O;rw[hL]at R;cases R;have d2:k≠n:=by have:=A.dom k _ O;omega
 have c:=(hr i row row' hi T).2 j _ y hj V;have G:=A.hr.wn k id _ _ _ (by rw[hg];simp) O;unfold TC at c;rw[hk]at c;rcases c with⟨h1,_⟩|⟨_,c⟩
 exact absurd h1 Y;cases d with
 |zero=>exact c.elim
 |succ d=>
 obtain⟨ty',e3,m⟩:=t';obtain⟨b9,b7,c⟩:=c;cases b7
 have M:∀(pl:Pl),(∀id' v e l,pl=.atp id' v e l->C.w id'=some (id,i,j)/\id'<s.n/\lim<=id')->RV (Js C n pl) (.own n) y->gO (Js C n pl) (Sim.look s.h) lim s.n (Cg (.nd ty' e' m) rows') pl->
   ∃pl,dR (Js C n pl) (n+1) ((n,Cg (.nd ty' e' m) rows')::dB h k (.tr (.nd ty e2 ks) rows ((j,i,.own n)::hs))) lim s/\Fr C h s (Js C n pl) ((n,Cg (.nd ty' e' m) rows')::dB h k (.tr (.nd ty e2 ks) rows ((j,i,.own n)::hs))) s/\RV (Js C n pl) (.own n) y:=by
  intro pl K hy b6;have N:=gS1 A pl;have F:Js C n pl n=some pl:=fJ3 rfl;have f:∀a,a≠n->Js C n pl a=C a:=fun a p=>fM3 p
  have L:∀o,(Js C n pl).w o≠none->C.w o≠none:=fun o g=>by
   cases pl with
   |nil=>exact g
   |atp id' v e l=>
    have g:(if o=id' then none else C.w o)≠none:=g;split at g;exact absurd rfl g;exact g
  have Z:∀o sl,C.w o=some sl->sl≠(id,i,j)->(Js C n pl).w o=some sl:=fun o sl g hn=>by
   cases pl with
   |nil=>exact g
   |atp id' v e l=>
    show(if o=id' then none else C.w o)=_
    split;rename_i u;subst u;rw[(K o v e l rfl).1]at g;cases g;exact absurd rfl hn;exact g
  have hW:∀o sl,C.w o=some sl->¬(sl.1=id)->(Js C n pl).w o=some sl/\Sim.look s.h o=Sim.look s.h o:=fun o sl g hn=>⟨Z o sl g fun h=>hn (by rw[h]),rfl⟩
  have hB:∀b,b=id->C.w b=none:=fun b hb=>by rw[hb];exact G
  have D:∀a,aK ((n,Cg (.nd ty' e' m) rows')::dB h k (.tr (.nd ty e2 ks) rows ((j,i,.own n)::hs))) a=if a=n then some (Cg (.nd ty' e' m) rows')else if a=k then some (.tr (.nd ty e2 ks) rows ((j,i,.own n)::hs))else aK h a:=fun a=>by
   simp only[aK];by_cases u:n=a;subst u;simp;rw[fM3 u,fM3 (Ne.symm u),eJ];simp[hg]
  have E:∀a,aK ((n,Cg (.nd ty' e' m) rows')::dB h k (.tr (.nd ty e2 ks) rows ((j,i,.own n)::hs))) a≠none->a≠n->aK h a≠none:=fun a p hn=>by
   rw[D,fM3 hn]at p;split at p;rename_i u;subst u;rw[hg];simp;exact p
  have named:∀a id' v e l v' e0 l',pl=.atp id' v e l->aK h a≠none->C a≠some (.atp id' v' e0 l'):=fun a id' v e l v' e0 l' hp p hc=>by
   have:=A.hr.wn a id' _ _ _ p hc;rw[(K id' v e l hp).1]at this;cases this
  refine⟨pl,⟨⟨fun a o p=>?_,fun a a' x v1 u l1 v2 e2 l2 h1 h2 h3 h4=>?_,fun x o hz=>?_,fun a x v1 u l1 h1 h2=>?_,fun x sl hw=>?_,fun x o hz=>?_⟩,fun a q p=>?_,A.wf,A.lim⟩,⟨.refl _ _,fI3 _,fun _ _ _=>rfl,fun x t g=>?_,fun a o p=>?_,fun _ _ h=>h,fun _ _ h=>.inl h⟩,hy⟩;rw[D]at p;split at p;rename_i u;subst u;cases p;exact⟨pl,F,b6⟩;rename_i u;split at p;rename_i e3;subst e3;cases p;refine⟨_,(f a u).trans O,W,U,rfl,hlen,b0,els,d+1,hL,b5,fun i2 r r' c1 c2=>⟨(hr i2 r r' c1 c2).1,fun j2 x b c3 c4=>?_⟩⟩;have:=(hr i2 r r' c1 c2).2 j2 x b c3 c4;unfold TC at this ⊢;cases hkd:gZ ks j2 with
  |none=>rw[hkd]at this;exact this
  |some t2=>
   rw[hkd]at this;simp only at this ⊢;by_cases J:i2=i/\j2=j;obtain⟨rfl,rfl⟩:=J;refine .inl ⟨⟨_,List.mem_cons_self ..⟩,fun x t=>?_⟩;rcases fT3.1 t with t|t;cases t;rw[T]at c2;cases c2;rw[V]at c4;cases c4;exact hy;exact absurd ⟨x,t⟩ Y;rcases this with⟨⟨x,a1⟩,a2⟩|⟨a1,a2⟩
   refine .inl ⟨⟨x,gZ3 _ a1⟩,fun x t=>?_⟩;rcases fT3.1 t with t|t;cases t;exact absurd ⟨rfl,rfl⟩ J;exact(a2 x t).mono N;refine .inr ⟨fun⟨x,t⟩=>?_,gH.move (fI3 _) hB hW (fun o g=>⟨Z o _ g fun h=>?_,rfl⟩) a2⟩;rcases fT3.1 t with t|t;cases t;exact J ⟨rfl,rfl⟩;exact a1 ⟨x,t⟩;cases h;exact J ⟨rfl,rfl⟩
  rename_i e3;obtain⟨q,p1,p2⟩:=A.hr.ob a o p;refine⟨q,(f a u).trans p1,gO.monoB (C:=C) (C':=Js C n pl) (fI3 _) N (B:=fun b=>b=id) hB hW (fun id' v e l hp hb=>?_) (fun _ _ _ _ _=>rfl) p2⟩;subst hp;subst hb;exact e3 (A.hr.inj a k id' _ _ _ _ _ _ (by rw[p];simp) (by rw[hg];simp) p1 O);by_cases b1:a=n;by_cases b2:a'=n;rw[b1,b2];exfalso;subst b1;rw[F]at h3;exact named a' x _ _ _ _ _ _ (gC3 h3) (E a' h2 b2) ((f a' b2).symm.trans h4);by_cases b2:a'=n;exfalso;subst b2;rw[F]at h4;exact named a x _ _ _ _ _ _ (gC3 h4) (E a h1 b1) ((f a b1).symm.trans h3);exact A.hr.inj a a' x _ _ _ _ _ _ (E a h1 b1) (E a' h2 b2) ((f a b1).symm.trans h3) ((f a' b2).symm.trans h4);obtain⟨z1,z2,z3,z4⟩:=A.hr.zr x o hz;refine⟨z1,z2,fun a v e l h1 h2=>?_,z4⟩;by_cases b1:a=n;subst b1;rw[F]at h2;have h2:=gC3 h2;have:=A.hr.wz x o hz;rw[(K x _ _ _ h2).1]at this;cases this;exact z3 a v e l (E a h1 b1) ((f a b1).symm.trans h2);by_cases b1:a=n;subst b1;rw[F]at h2;have h2:=gC3 h2;subst h2;exact fJ3 rfl;have:=A.hr.wn a x v1 u l1 (E a h1 b1) ((f a b1).symm.trans h2);cases hc:(Js C n pl).w x with
  |none=>rfl
  |some sl=>exact absurd this (L x (by rw[hc];simp))
  cases hc:C.w x with
  |none=>exact absurd hc (L x (by rw[hw];simp))
  |some sl'=>
   have hb:=A.hr.wb x sl' hc
   have:sl=sl':=by
    cases pl with
    |nil=>have hw:C.w x=some sl:=hw;rw[hc]at hw;cases hw;rfl
    |atp id' v e l=>
     have hw:(if x=id' then none else C.w x)=some sl:=hw;split at hw;cases hw;rw[hc]at hw;cases hw;rfl
   rw[this];exact hb
  have:=A.hr.wz x o hz;cases hc:(Js C n pl).w x with
  |none=>rfl
  |some sl=>exact absurd this (L x (by rw[hc];simp))
  by_cases b1:a=n;omega;have:=A.dom a q ((f a b1).symm.trans p);omega;rcases g with⟨a,v1,u,l1,k1,H⟩|g;by_cases b1:a=n;subst b1;rw[F]at H;have H:=gC3 H;exact .inr (by rw[(K x _ _ _ H).1];simp);exact .inl ⟨a,v1,u,l1,E a k1 b1,(f a b1).symm.trans H⟩;exact .inr (L x g);have S:a≠n:=fun u=>by rw[u,uS A (fI3 _)]at p;cases p
  rw[D,fM3 S];by_cases b1:a=k;subst b1;exact⟨_,fJ3 rfl,fun hb=>by cases hb⟩;exact⟨o,by rw[fM3 b1];exact p,fun hb=>⟨hb,f a S⟩⟩
 have X:∀{P:eT->Prop},(m=[]->P (.lst ty' e' true rows'))->P (.tr (.nd ty' e' m) rows' [])->P (Cg (.nd ty' e' m) rows'):=fun{P} h1 h2=>by
  unfold Cg;cases m with
  |nil=>exact h1 rfl
  |cons a b=>exact h2
 rcases c with⟨b8,rfl⟩|⟨id',ver',els',rfl,H,k3,k4,kf,k5,k6,k7⟩
 subst b8;exact M .nil (fun _ _ _ _ h=>by cases h) (.ownn (fJ3 rfl) rfl) (X (P:=fun o=>gO (Js C n .nil) (Sim.look s.h) lim s.n o .nil) (fun _=>rfl) ⟨rfl,rfl⟩);refine M (.atp id' ver' e' rows'.length) (fun d3 v e l h=>by cases h;exact⟨H,k4,k3⟩) (.own (fJ3 rfl)) (X (P:=fun o=>gO (Js C n (.atp id' ver' e' rows'.length)) (Sim.look s.h) lim s.n o (.atp id' ver' e' rows'.length)) (fun b4=>?_) ?_);subst b4;refine⟨k3,k4,rfl,rfl,els',by rw[Fz kf];exact k5,⟨by simp[hI3 k6.1],fun a r r' c1 c2=>⟨(k7 a r r' c1 (rD c2)).1,fun b x z c3 c4=>(k7 a r r' c1 (rD c2)).2 b x z c3 c4⟩⟩,k6,fun h=>by cases h⟩;refine⟨k3,k4,rfl,rfl,kf,els',d,k5,k6,fun a r r' c1 c2=>⟨(k7 a r r' c1 c2).1,fun b x z c3 c4=>?_⟩⟩;have:=(k7 a r r' c1 c2).2 b x z c3 c4;unfold TC;cases hkd:gZ m b with
 |none=>rw[hkd]at this;exact this
 |some t2=>
  rw[hkd]at this;refine .inr ⟨fun⟨x,t⟩=>(by cases t),gH.mono (fI3 _) (B:=fun b=>b=id) (fun b hb=>by rw[hb];exact G) (fun o sl g hn=>⟨?_,rfl⟩) (fun hb=>?_) this⟩;show(if o=id' then none else C.w o)=_
  rw[fM3 (fun hc=>by rw[hc,H]at g;cases g;exact hn rfl)];exact g;have hb:id'=id:=hb;rw[hb,G]at H;cases H
def yH {k id ver ty e2 len i o} {ks} {rows} {row} {els} {row' cells} {cs0} (B:Sim.look s.h id=some (.arr false ty e2 ver els)) (hi:rows[i]? =some row) (g:els[i]? =some row')
  (h0:∀q a,cs0[q]? =some a->row[o+q]? =some a) (hc:∀q b,cells[q]? =some b->row'[o+q]? =some b):
  ∀(js:aA Nat) (cs:aA PV) (hs:aA (Nat×Nat×PV)) (h:bA) (n:Nat) (C:Cx) (K:aA PV->aA (Nat×Nat×PV)->bA->Nat->aB R) (r:R),Po ks i o cs0 js cs hs h n K=some r->
   dR C n (dB h k (.tr (.nd ty e2 ks) rows hs)) lim s->(aK h k).isSome=true->C k=some (.atp id ver e2 len)->LR (RV C) cs cells->
   ∃cs' c h' n' C',K cs' c h' n'=some r/\dR C' n' (dB h' k (.tr (.nd ty e2 ks) rows c)) lim s/\Fr C (dB h k (.tr (.nd ty e2 ks) rows hs)) s C' (dB h' k (.tr (.nd ty e2 ks) rows c)) s/\C.le C'/\n<=n'/\LR (RV C') cs' cells
 |[],cs,hs,h,n,C,K,r,hk,hM,hg,hC,hl=>⟨cs,hs,h,n,C,hk,hM,.refl _ _ _,.refl _,fI3 _,hl⟩
 |j::js,cs,hs,h,n,C,K,r,hk,hM,hg,hC,hl=>by
  unfold Po at hk
  cases hkd:gZ ks j with
  |none=>rw[hkd]at hk;exact aD hk
  |some t=>
   rw[hkd]at hk
   simp only at hk
   cases l:Nat.ble o j with
   |false=>rw[l]at hk;exact aD hk
   |true=>
    rw[l,fS3]at hk
    have l:=fK3 l
    have v:aK (dB h k (.tr (.nd ty e2 ks) rows hs)) k=some (.tr (.nd ty e2 ks) rows hs):=by rw[eJ];simp[hg]
    obtain⟨_,_,_,_,_,M,d,u,f,hr⟩:=nA hM v hC
    rw[B]at u
    cases u
    obtain⟨q1,q2⟩:=hr i row row' hi g
    have put:∀{C':Cx} {x:PV} {cs2:aA PV},C.le C'->(∀b,cells[j-o]? =some b->RV C' x b)->cs2=Sim.setL cs (j-o) [x]->LR (RV C') cs2 cells:=fun{C' x cs2} f H he=>by
     rw[he]
     refine⟨by rw[nB];exact hl.1,fun a U b c1 c2=>?_⟩
     by_cases A:a=j-o
     subst A
     have O:j-o<cs.length:=by rw[hl.1];exact(fE3.1 c2).1
     rw[rY (by simp;omega) (fI3 _) (by simp)]at c1
     simp at c1
     rw[<-c1]
     exact H b c2
     rw[lC (by simp;omega)]at c1
     exact(hl.2 a U b c1 c2).mono f
    cases hcol:Fe hs j with
    |some p=>
     obtain⟨V,x⟩:=p
     rw[hcol]at hk
     simp only at hk
     obtain⟨A,G⟩:=Fl hk
     subst A
     obtain⟨P,z⟩:=lK _ _ _ _ _ G
     have N:=(uU hcol).1
     obtain⟨cs',c,h',n',C',p1,p2,p3,p4,p5,p6⟩:=yH B hi g h0 hc js _ hs h n C K r z hM hg hC (put (.refl C) (fun b hb=>by
      have e:=hc _ _ hb
      rw[show o+(j-o)=j by omega]at e
      have F:=(fE3.1 e).1
      have:=q2 j (row[j]'(by omega)) b (by simp) e
      unfold TC at this
      rw[hkd]at this
      rcases this with⟨_,a2⟩|⟨a1,_⟩
      exact a2 x N
      exact absurd ⟨x,N⟩ a1) rfl)
     exact⟨cs',c,h',n',C',p1,p2,p3,p4,p5,p6⟩
    |none=>
     rw[hcol]at hk
     simp only at hk
     obtain⟨P,z⟩:=gA _ _ _ _ hk
     split at z
     rename_i e' rows' tl E
     obtain⟨W,S⟩:=lK _ _ _ _ _ z
     have D:cs0[j-o]? =some (.is e' rows'):=by
      have:(cs0.drop (j-o))[0]? =some (.is e' rows'):=by rw[E];rfl
      simpa using this
     have m:=h0 _ _ D;rw[show o+(j-o)=j by omega]at m;have F:=(fE3.1 m).1;have y:row'[j]? =some (row'[j]'(by omega)):=by simp
     obtain⟨pl,J,L,T⟩:=nD1 hM v hC B hi g hkd m y (fun⟨x,H⟩=>uT hcol i x H);rw[Jr]at J L;have w:n≠k:=fun A=>by have:=hM.dom k _ hC;omega
     rw[<-aV1 (o:=Cg t rows') w]at J L;have f:=gS1 hM pl
     obtain⟨cs',c,h',n',C',p1,p2,p3,p4,p5,p6⟩:=yH B hi g h0 hc js _ _ _ (n+1) (Js C n pl) K r S J (by simp only[aK];rw[fM3 w];exact hg) (f.1 _ _ hC) (put f (fun b hb=>by
      have e:=hc _ _ hb;rw[show o+(j-o)=j by omega,y]at e;cases e;exact T) rfl)
     exact⟨cs',c,h',n',C',p1,p2,L.trans p3,f.trans p4,by omega,p6⟩;exact aD z
def Jt:∀{hs} {d j i},wA hs d=some (j,i)->(j,i,.own d)∈hs/\(∀q,q∈vL hs d->q∈hs)/\∀b c y,¬(b=i/\c=j)->(c,b,y)∈hs->(c,b,y)∈vL hs d
 |[],_,_,_,h=>by cases h
 |(j1,i1,x)::r,d,j,i,h=>by
  have skip:∀{l},wA r d=some (j,i)->l=(j1,i1,x)::vL r d->(j,i,PV.own d)∈(j1,i1,x)::r/\(∀q,q∈l->q∈(j1,i1,x)::r)/\∀b c y,¬(b=i/\c=j)->(c,b,y)∈(j1,i1,x)::r->(c,b,y)∈l:=fun{l} h h2=>by
   obtain⟨p1,p2,p3⟩:=Jt h
   subst h2
   refine⟨gZ3 _ p1,fun q f=>?_,fun b c y hn a=>?_⟩
   rcases fT3.1 f with f|f
   rw[f];exact List.mem_cons_self ..
   exact gZ3 _ (p2 q f)
   rcases fT3.1 a with a|a
   rw[a];exact List.mem_cons_self ..
   exact gZ3 _ (p3 b c y hn a)
  cases x with
  |own k=>
   by_cases e:k=d
   subst e
   simp only[wA,bJ,hB3,fS3]at h
   cases h
   simp only[vL,bJ,hB3,fS3]
   refine⟨List.mem_cons_self ..,fun q f=>gZ3 _ f,fun b c y hn a=>?_⟩
   rcases fT3.1 a with a|a
   cases a;exact absurd ⟨rfl,rfl⟩ hn
   exact a
   simp only[wA,bJ,gJ3 e,fZ3]at h
   exact skip h (by simp only[vL,bJ,gJ3 e,fZ3])
  |_=>exact skip h rfl
def clC (C:Cx) (a:Nat) (sl:Nat×Nat×Nat) (id:Nat):Cx:=⟨fun k=>if k=a then some .nil else C k,C.z,fun o=>if o=id then some sl else C.w o⟩
def aW1 {a:TD} {ob:eT} {K:Nat->aA (aA PV)->aB R} {r:R} (h:wS1 a ob K=some r):∃ty e ks rows,a=.nd ty e ks/\K e rows=some r/\((∃g,ob=.lst ty e g rows/\iA ty=false/\ks=[])\/ob=.tr a rows []):=by
 unfold wS1 at h;split at h;rename_i ty e g rows;cases hf:iA ty with
 |true=>rw[hf]at h;exact aD h
 |false=>
  rw[hf,fZ3]at h;cases ht:Kz 2 (.nd ty e []) a with
  |false=>rw[ht]at h;exact aD h
  |true=>
   rw[ht,fS3]at h;have:=Cz ht;subst this;exact⟨ty,e,[],rows,rfl,h,.inl ⟨g,rfl,hf,rfl⟩⟩
 rename_i b rows;cases ht:Kz 8 b a with
 |false=>rw[ht]at h;exact aD h
 |true=>
  rw[ht,fS3]at h;have:=Cz ht;subst this;obtain⟨ty,e,ks⟩:=b;exact⟨ty,e,ks,rows,rfl,h,.inr rfl⟩
 exact aD h
def gT1 (A:dR C n h lim s) {kp c id ver e2 len ty i j} {ks} {rows rows2} {hs u} {t'} {e'} {rows'} {ob} {h2}
  (hg:aK h kp=some (.tr (.nd ty e2 ks) rows hs)) (hC:C kp=some (.atp id ver e2 len)) (d9:wA hs c=some (j,i)) (hkd:gZ ks j=some t')
  (k:aK h c=some ob) (e8:∃ty' O,t'=.nd ty' e' O/\((∃g,ob=.lst ty' e' g rows'/\iA ty'=false/\O=[])\/ob=.tr t' rows' [])) (E:pD rows i j [.is e' rows']=some rows2) (hkl:vN c h h2)
  (Z:∀i j,(Ch (vL hs c) i j->Ch u i j)/\∀x',(j,i,x')∈u->∃x,(j,i,x)∈vL hs c/\∀{C C'} {y},lT c C C'->RV C x y->RV C' x' y):
  ∃C',lT c C C'/\dR C' n (dB (dB h2 c (.lst 0 0 true [])) kp (.tr (.nd ty e2 ks) rows2 u)) lim s/\Fr C h s C' (dB (dB h2 c (.lst 0 0 true [])) kp (.tr (.nd ty e2 ks) rows2 u)) s:=by
 obtain⟨e7,b5,_,hlen,f4,els,d,hL,e6,hr⟩:=nA A hg hC;obtain⟨ty',O,rfl,d2⟩:=e8
 have d3:kp≠c:=fun p=>by
  subst p;rw[hg]at k;cases k;rcases d2 with⟨g,h1,_⟩|h1;cases h1;cases h1;cases d9
 obtain⟨hm,b8,f2⟩:=Jt d9;unfold pD at E;split at E;rename_i row hi;split at E;rename_i f5;cases E;simp only[gR3,fV3]at f5;obtain⟨F,e0⟩:=Ah e6 hi;obtain⟨q1,q2⟩:=hr i row F hi e0;have e9:F[j]? =some (F[j]'(by omega)):=by simp
 have b6:∀x,(j,i,x)∈hs->RV C x (F[j]'(by omega)):=fun x hx=>by
  have:=q2 j (row[j]'(by omega)) _ (by simp) e9;unfold TC at this;rw[hkd]at this;rcases this with⟨_,a2⟩|⟨a1,_⟩
  exact a2 _ hx;exact absurd ⟨_,hx⟩ a1
 have hy:=b6 _ hm;have g5:=A.hr.wn kp id _ _ _ (by rw[hg];simp) hC
 have d7:(aK h2 c).isSome=true:=by
  cases hc:aK h2 c with
  |none=>rw[(hkl.1 c).1 hc]at k;cases k
  |some o=>rfl
 have d8:(aK h2 kp).isSome=true:=by
  cases hc:aK h2 kp with
  |none=>rw[(hkl.1 kp).1 hc]at hg;cases hg
  |some o=>rfl
 have K:∀a,aK (dB (dB h2 c (.lst 0 0 true [])) kp (.tr (.nd ty e2 ks) (rows.set i (Sim.setL row j [.is e' rows'])) u)) a=if a=kp then some (.tr (.nd ty e2 ks) (rows.set i (Sim.setL row j [.is e' rows'])) u)else if a=c then some (.lst 0 0 true [])else aK h2 a:=fun a=>by
  rw[eJ,eJ,eJ];by_cases p:a=kp;subst p;simp[d3,d8];by_cases e3:a=c;subst e3;simp[Ne.symm d3,d7];simp[p,e3]
 have M:∀a,aK (dB (dB h2 c (.lst 0 0 true [])) kp (.tr (.nd ty e2 ks) (rows.set i (Sim.setL row j [.is e' rows'])) u)) a≠none->aK h a≠none:=fun a m=>by
  rw[K]at m;split at m;rename_i p;subst p;rw[hg];simp;split at m;rename_i p;subst p;rw[k];simp;exact fun hc=>m ((hkl.1 a).2 hc)
 have P:∀(C':Cx) (D:Nat),C' c=some .nil->(∀a,a≠c->C' a=C a)->C'.z=C.z->(∀o sl,C.w o=some sl->C'.w o=some sl)->(∀o sl,C'.w o=some sl->C.w o=some sl\/(sl=(id,i,j)/\∃v e l,C c=some (.atp o v e l)))->
   gH (Sim.look s.h) C'.w lim s.n D (id,i,j) (.nd ty' e' O) (.is e' rows') (F[j]'(by omega))->
   ∃C',lT c C C'/\dR C' n (dB (dB h2 c (.lst 0 0 true [])) kp (.tr (.nd ty e2 ks) (rows.set i (Sim.setL row j [.is e' rows'])) u)) lim s/\Fr C h s C' (dB (dB h2 c (.lst 0 0 true [])) kp (.tr (.nd ty e2 ks) (rows.set i (Sim.setL row j [.is e' rows'])) u)) s:=by
  intro C' D d5 q hz U b4 b7;have G:lT c C C':=⟨q,fun _ _ h=>by rw[hz];exact h⟩
  have S:∀{a x v e l},C' a=some (.atp x v e l)->a≠c/\C a=some (.atp x v e l):=fun{a x v e l} m=>by
   by_cases b:a=c;subst b;rw[d5]at m;cases m;exact⟨b,(q a b).symm.trans m⟩
  have d4:∀{o pl},gO ⟨C'.f,C'.z,C.w⟩ (Sim.look s.h) lim s.n o pl->gO C' (Sim.look s.h) lim s.n o pl:=fun{o pl} T=>
   gO.mono (C:=⟨C'.f,C'.z,C.w⟩) (C':=C') (fI3 _) ⟨fun _ _ h=>h,fun _ _ h=>h⟩ (fun _ _ _ _ _=>rfl) (fun o sl h=>⟨U o sl h,rfl⟩) T
  refine⟨C',G,⟨⟨fun a o m=>?_,fun a a' x v1 p l1 v2 e3 l2 a1 a2 a3 a4=>A.hr.inj a a' x v1 p l1 v2 e3 l2 (M a a1) (M a' a2) (S a3).2 (S a4).2,fun x o N=>?_,fun a x v1 p l1 a1 a2=>?_,fun x sl hw=>?_,fun x o N=>?_⟩,fun a pl m=>?_,A.wf,A.lim⟩,⟨.refl _ _,fI3 _,fun _ _ _=>rfl,fun x hx T=>?_,fun a o m=>?_,fun _ _ h=>by rw[hz];exact h,fun x hx h=>.inl (by rw[hz]at h;exact h)⟩⟩;rw[K]at m;split at m;rename_i p;subst p;cases m;refine⟨_,(q a d3).trans hC,e7,b5,rfl,by simpa using hlen,f4,els,max d D,hL,by simpa using e6,fun Y r r' c1 c2=>?_⟩
  have old:∀{r0},rows[Y]? =some r0->∀(b:Nat) (x:PV) (z:AV),r0[b]? =some x->r'[b]? =some z->¬(Y=i/\b=j)->TC C' (Sim.look s.h) lim s.n (max d D) id ks u Y b x z:=fun{r0} g1 b x z g2 g3 g4=>by
   have:=((hr Y r0 r' g1 c2).2 b x z g2 g3).upd (Nat.le_max_left d D);unfold TC at this ⊢;cases hkd2:gZ ks b with
   |none=>rw[hkd2]at this;exact this
   |some t2=>
    rw[hkd2]at this;simp only at this ⊢;rcases this with⟨⟨y,a1⟩,a2⟩|⟨a1,a2⟩
    refine .inl ⟨(Z Y b).1 ⟨y,f2 Y b y g4 a1⟩,fun y' W=>?_⟩;obtain⟨y,p1,p2⟩:=(Z Y b).2 y' W;exact p2 G (a2 y (b8 _ p1));refine .inr ⟨fun⟨y',W⟩=>?_,gH.mono (fI3 _) (B:=fun _=>False) (fun _ h=>h.elim) (fun o sl h _=>⟨U o sl h,rfl⟩) (fun h=>h) a2⟩;obtain⟨y,p1,_⟩:=(Z Y b).2 y' W;exact a1 ⟨y,b8 _ p1⟩
  rw[gE3]at c1;by_cases b9:i=Y;subst b9;have e5:=(fE3.1 hi).1;rw[fJ3 rfl,fJ3 e5]at c1;cases c1;rw[e0]at c2;cases c2;refine⟨by rw[nB];exact q1,fun b x z c3 c4=>?_⟩;by_cases d6:b=j;subst d6;rw[rY (by simp;omega) (fI3 _) (by simp)]at c3;simp at c3;subst c3;rw[e9]at c4;cases c4;unfold TC;rw[hkd];simp only;by_cases hh:Ch u i b;refine .inl ⟨hh,fun y' W=>?_⟩;obtain⟨y,p1,p2⟩:=(Z i b).2 y' W;exact p2 G (b6 y (b8 _ p1));exact .inr ⟨hh,b7.up (Nat.le_max_right d D)⟩;rw[lC (by simp;omega)]at c3;exact old hi b x z c3 c4 (fun h=>d6 h.2);rw[fM3 b9]at c1;exact⟨(hr Y r r' c1 c2).1,fun b x z c3 c4=>old c1 b x z c3 c4 (fun h=>b9 h.1.symm)⟩;rename_i g6;split at m;rename_i p;subst p;cases m;exact⟨.nil,d5,rfl⟩;rename_i f1;obtain⟨o0,p1,p2,p3⟩:=hkl.2 a o m;obtain⟨pl,p4,p5⟩:=A.hr.ob a o0 p1;exact⟨pl,(q a f1).trans p4,d4 (p3 (C:=C) (C':=⟨C'.f,C'.z,C.w⟩) ⟨q,G.2⟩ rfl p5)⟩;rw[hz]at N;obtain⟨z1,z2,z3,z4⟩:=A.hr.zr x o N;exact⟨z1,z2,fun a v e l h1 h2=>z3 a v e l (M a h1) (S h2).2,z4⟩;obtain⟨b1,b2⟩:=S a2;cases hc:C'.w x with
  |none=>rfl
  |some sl=>
   rcases b4 x sl hc with H|⟨_,v,e,l,H⟩
   rw[A.hr.wn a x _ _ _ (M a a1) b2]at H;cases H;exact absurd (A.hr.inj a c x _ _ _ _ _ _ (M a a1) (by rw[k];simp) b2 H) b1
  rcases b4 x sl hw with H|⟨h6,v,e,l,H⟩
  exact A.hr.wb x sl H;exact⟨(A.hr.lt (by rw[k];simp) H).2,by rw[h6];exact b5⟩;rw[hz]at N;cases hc:C'.w x with
  |none=>rfl
  |some sl=>
   rcases b4 x sl hc with H|⟨_,v,e,l,H⟩
   rw[A.hr.wz x o N]at H;cases H;exact absurd H ((A.hr.zr x o N).2.2.1 c v e l (by rw[k];simp))
  by_cases b:a=c;subst b;obtain⟨f9,p1,_⟩:=A.hr.ob a _ k;exact A.dom a f9 p1;exact A.dom a pl ((q a b).symm.trans m);rcases T with⟨a,v1,p,l1,k1,k2⟩|T;exact .inl ⟨a,v1,p,l1,M a k1,(S k2).2⟩;cases hc:C'.w x with
  |none=>exact absurd hc T
  |some sl=>
   rcases b4 x sl hc with H|⟨_,v,e,l,H⟩
   exact .inr (by rw[H];simp);exact .inl ⟨c,v,e,l,by rw[k];simp,H⟩
  rw[K];by_cases b1:a=kp;subst b1;exact⟨_,fJ3 rfl,fun hb=>by cases hb⟩;rw[fM3 b1];by_cases b2:a=c;subst b2;exact⟨_,fJ3 rfl,fun hb=>by cases hb⟩;rw[fM3 b2];cases hc:aK h2 a with
  |none=>rw[(hkl.1 a).1 hc]at m;cases m
  |some o'=>
   obtain⟨o0,p1,p2,_⟩:=hkl.2 a o' hc;rw[m]at p1;cases p1;exact⟨o',rfl,fun hb=>⟨by rw[<-p2];exact hb,q a b2⟩⟩
 generalize hyd:F[j]'(by omega)=y at hy P;rcases hJ hy with⟨id',X,e3,f0,J,rfl⟩|⟨J,rfl⟩
 have f8:=A.hr.wn c id' _ _ _ (by rw[k];simp) J
 have U:∀o sl,C.w o=some sl->(clC C c (id,i,j) id').w o=some sl:=fun o sl T=>by
  show(if o=id' then some (id,i,j)else C.w o)=_
  rw[fM3 (fun p=>by rw[p,f8]at T;cases T)];exact T
 have d0:∀{d sl t x y},gH (Sim.look s.h) C.w lim s.n d sl t x y->gH (Sim.look s.h) (clC C c (id,i,j) id').w lim s.n d sl t x y:=fun h=>gH.mono (fI3 _) (B:=fun _=>False) (fun _ h=>h.elim) (fun o sl h _=>⟨U o sl h,rfl⟩) (fun h=>h) h;have V:(clC C c (id,i,j) id').w id'=some (id,i,j):=fJ3 rfl
 have fin:∀D,gH (Sim.look s.h) (clC C c (id,i,j) id').w lim s.n D (id,i,j) (.nd ty' e' O) (.is e' rows') (.sl e3 id' X 0 f0 none)->_:=fun D h=>P (clC C c (id,i,j) id') D (fJ3 rfl) (fun a m=>fM3 m) rfl U (fun o sl T=>by
  have b0:(if o=id' then some (id,i,j)else C.w o)=some sl:=T;by_cases p:o=id';rw[fJ3 p]at b0;subst p;exact .inr ⟨(gC3 b0).symm,_,_,_,J⟩;rw[fM3 p]at b0;exact .inl b0) h
 rcases d2 with⟨g,rfl,L,rfl⟩|rfl;obtain⟨l1,rfl,rfl,R,l4,l5,l6,_⟩:=lS A k J;rw[Fz L]at l4;have e4:=(A.hr.lt (by rw[k];simp) J).2
 exact fin 1 ⟨rows',rfl,.inr ⟨id',X,R,rfl,V,l1,e4,L,l4,l6,fun a r r' c1 c2=>by
  have f6:=(fE3.1 c1).1;have:=l5.2 a r r' c1 (by rw[gA3,fJ3 f6];exact c2);exact⟨this.1,fun b x z c3 c4=>this.2 b x z c3 c4⟩⟩⟩
 obtain⟨l1,l2,rfl,rfl,L,R,d',l4,l6,l5⟩:=nA A k J
 exact fin (d'+1) ⟨rows',rfl,.inr ⟨id',X,R,rfl,V,l1,l2,L,l4,l6,fun a r r' c1 c2=>⟨(l5 a r r' c1 c2).1,fun b x z c3 c4=>by
  have:=(l5 a r r' c1 c2).2 b x z c3 c4;unfold TC at this;cases hk2:gZ O b with
  |none=>rw[hk2]at this;exact this
  |some t2=>
   rw[hk2]at this;rcases this with⟨⟨y,hy⟩,_⟩|⟨_,this⟩
   cases hy;exact d0 this⟩⟩⟩
 have f7:rows'=[]:=by
  rcases d2 with⟨g,rfl,_⟩|rfl;exact mZ A k J;exact(tV A k J).1
 exact P (mv C c .nil) 1 (qB C c _) (fun a m=>(fW C c _).1 a m) rfl (fun _ _ h=>h) (fun _ _ h=>.inl h) ⟨rows',rfl,.inl ⟨f7,rfl⟩⟩;cases E;cases E
def nE1 (b:dR C n h lim s) {t:aA AV} (he:eU C e t) {g:Nat} {K:gL->bA->aB R} {r:R} (hk:wX1 e h g K=some r):
  ∃C' e' h',K e' h'=some r/\dR C' n h' lim s/\eU C' e' t/\Fr C h s C' h' s:=by
 unfold wX1 at hk;cases f:(uC1 g e h||fD1 g h)with
 |true=>rw[f]at hk;exact⟨C,e,h,hk,b,he,.refl _ _ _⟩
 |false=>
  rw[f,fZ3]at hk;rw[hN3]at f;have f:=f.1;cases hpn:mK1 g h with
  |none=>rw[hpn]at hk;exact⟨C,e,h,hk,b,he,.refl _ _ _⟩
  |some kp=>
   rw[hpn]at hk;simp only[iC,fC3]at hk;obtain⟨op,hg,hk⟩:=hk;cases op with
   |tr tt rows hs=>
    obtain⟨ty,e2,ks⟩:=tt;simp only[TD.ks]at hk;cases hho:wA hs g with
    |none=>rw[hho]at hk;exact aD hk
    |some p=>
    obtain⟨j,i⟩:=p;rw[hho]at hk;simp only at hk;cases hkd:gZ ks j with
    |none=>rw[hkd]at hk;exact aD hk
    |some t'=>
     rw[hkd]at hk;simp only[fC3]at hk;obtain⟨ob,k,hk⟩:=hk;obtain⟨ty',e',q,rows',rfl,hk,o⟩:=aW1 hk;rw[cF,fC3]at hk;obtain⟨u,d,hk⟩:=hk;obtain⟨y,hk,l⟩:=kN _ _ _ hk;obtain⟨h2,hk,m⟩:=lL _ _ _ hk;have hk:=eD _ _ _ _ _ hk;obtain⟨x,hk,_,c⟩:=wG _ _ _ hk;have hk:=eD _ _ _ _ _ hk;obtain⟨pl,p1,p2⟩:=b.hr.ob kp _ hg;cases pl with
     |nil=>
      have:=(tV b hg p1).2;subst this;cases hho
     |atp id ver e3' len=>
      obtain⟨_,_,rfl,_⟩:=nA b hg p1;obtain⟨C',q1,q2,q3⟩:=gT1 b hg p1 hho hkd k ⟨ty',q,rfl,o⟩ d m c;refine⟨C',_,_,hk,q2,fun a w hw=>?_,q3⟩;obtain⟨v,r1,r2⟩:=l a w hw;obtain⟨z,r3,r4⟩:=he a v r1;exact⟨z,r3,r2 q1 r4⟩
   |_=>exact aD hk
def gU1 {t}:∀(ks:aA Nat) {C:Cx} {h:bA} {e:gL} {K:gL->bA->aB R} {r:R},dR C n h lim s->eU C e t->gcK ks e h K=some r->
  ∃C' e' h',K e' h'=some r/\dR C' n h' lim s/\eU C' e' t/\Fr C h s C' h' s
 |[],C,h,e,K,r,hM,he,hk=>⟨C,e,h,by unfold gcK at hk;exact hk,hM,he,.refl _ _ _⟩
 |k::ks,C,h,e,K,r,hM,he,hk=>by
  unfold gcK at hk
  obtain⟨C1,a,h1,q1,q2,q3,q4⟩:=nE1 hM he hk
  obtain⟨C2,e2,h2,p1,p2,p3,p4⟩:=gU1 ks q2 q3 q1
  exact⟨C2,e2,h2,p1,p2,p3,q4.trans p4⟩
def Us {ys} {f} {e len ty} {zero} (l:ys.length=len) (h:f.length=len) (hc:∀(j:Nat) (x:AV),ys[j]? =some x->∃cs,x.cells=some cs/\cs.length=e/\f[j]? =some cs) (o:zero.length=e) (L:Nat->aB AO) (lim nS:Nat):
  doOp L lim nS (.buildSl ty e len zero (List.range' 0 len)) ys=some {v:=.sl e nS 0 0 len none,new:=some (.arr false ty e 0 f)}:=by
 have o:(Sim.zeroRow zero).length=e:=by simp[Sim.zeroRow,o]
 have n:((List.range len).flatMap fun _=>Sim.zeroRow zero).length=len*e:=by
  rw[yC,o,List.length_range]
 have g:=uW e len 0 ((List.range len).flatMap fun _=>Sim.zeroRow zero) ys f (by rw[n];simp) l h hc;simp only[jF3,List.take_zero,jB3]at g
 have k:∀c∈f,c.length=e:=by
  intro c m;obtain⟨j,p⟩:=fQ3.1 m;have q:j<ys.length:=by rw[l,<-h];exact(fE3.1 p).1
  obtain⟨cs,p1,p2,p3⟩:=hc j ys[j] (by simp);rw[p]at p3;cases p3;exact p2
 have d:=Wz e f k;rw[h]at d
 have:doOp L lim nS (.buildSl ty e len zero (List.range' 0 len)) ys=(Sim.fillParts ((List.range len).flatMap fun _=>Sim.zeroRow zero) ((List.range' 0 len).map fun i=>(i*e,e)) ys).map fun cs=>
  {v:=.sl e nS 0 0 len none,new:=some (.arr false ty e 0 ((List.range len).map fun i=>(cs.drop (i*e)).take e))}:=by
  rcases ys with _|⟨a,_|⟨b,_|⟨c,t⟩⟩⟩<;>rfl
 rw[this,g];simp only[gB3];rw[d]
def Gb {ks} {es}:∀(xs:aA PV) (ys:aA AV) (i:Nat) (hs:aA (Nat×Nat×PV)) (K:aA (aA PV)->aA (Nat×Nat×PV)->aB R) (r:R),Jb ks es i xs hs K=some r->LR (RV C) xs ys->(∀j b x,i<=b->(j,b,x)∉hs)->
  ∃(rows:aA (aA PV)) (f:aA (Nat×Nat×PV)) (g:aA (aA AV)),K rows f=some r/\rows.length=xs.length/\g.length=ys.length/\(∀j b x,b<i->((j,b,x)∈f↔(j,b,x)∈hs))/\(∀j b x,i+xs.length<=b->(j,b,x)∉f)/\
   (∀(a:Nat) (y:AV),ys[a]? =some y->∃cs,y.cells=some cs/\cs.length=es/\g[a]? =some cs)/\
   ∀(a:Nat) (r:aA PV) (r':aA AV),rows[a]? =some r->g[a]? =some r'->r.length=r'.length/\∀(j:Nat) (p:PV) (q:AV),r[j]? =some p->r'[j]? =some q->Pz C ks f (i+a) j p q
 |[],ys,i,hs,K,r,h,hl,hn=>by
  rw[hl.inv_nil]
  unfold Jb at h
  exact⟨[],hs,[],h,rfl,rfl,fun _ _ _ _=>Iff.rfl,fun j b x hi=>hn j b x (by simpa using hi),fun a y h=>by simp at h,fun a r r' h=>by simp at h⟩
 |x::xs,ys,i,hs,K,r,h,hl,hn=>by
  obtain⟨y,B,rfl,hv,v⟩:=hl.inv_cons
  unfold Jb at h
  simp only[mL,fC3]at h
  obtain⟨cs,u,h⟩:=h
  obtain⟨cs',s,n⟩:=pI hv u
  rw[bJ]at h
  by_cases hlen:cs.length=es
  rw[gP3 hlen,fS3]at h
  obtain⟨l,o,h,p2,p3,p4⟩:=rZ _ _ _ _ _ _ h n
  have d:∀j b z,(j,b,z)∈o->b=i:=fun j b z m=>by
   apply Decidable.byContradiction
   intro w
   have:=(p3 b j z (.inl w)).1 m
   cases this
  obtain⟨rows,f,g,q1,q2,q3,q4,q5,q6,q7⟩:=Gb xs B (i+1) (o++hs) _ r h v (fun j b z hi c=>by
   rcases gK3.1 c with c|c
   have:=d j b z c;omega
   exact hn j b z (by omega) c)
  refine⟨l::rows,f,cs'::g,q1,by simp[q2],by simp[q3],fun j b z hi=>?_,fun j b z hi=>q5 j b z (by simp only[gR3]at hi;omega),fun a z m=>?_,fun a G A h1 h2=>?_⟩
  rw[q4 j b z (by omega)]
  refine⟨fun c=>?_,fun c=>gK3.2 (.inr c)⟩
  rcases gK3.1 c with c|c
  have:=d j b z c;omega
  exact c
  cases a with
  |zero=>
   simp only[hF3,fN3]at m
   subst m
   exact⟨cs',s,by rw[<-n.1];exact hlen,rfl⟩
  |succ a=>exact q6 a z (by simpa using m)
  cases a with
  |zero=>
   simp only[hF3,fN3]at h1 h2
   subst h1 h2
   refine⟨by rw[p2];exact n.1,fun j p q D E=>?_⟩
   have:=p4 j p q D E
   rw[hD3]at this
   unfold Pz at this ⊢
   rw[hP3]
   have k:∀z,(j,i,z)∈f↔(j,i,z)∈o:=fun z=>by
    rw[q4 j i z (by omega)]
    refine⟨fun c=>?_,fun c=>gK3.2 (.inl c)⟩
    rcases gK3.1 c with c|c
    exact c
    exact absurd c (hn j i z (fI3 _))
   cases hkd:gZ ks j with
   |none=>rw[hkd]at this;exact this
   |some t=>
    obtain⟨ty,e,F⟩:=t
    rw[hkd]at this
    simp only at this ⊢
    obtain⟨a1,a2⟩:=this
    refine⟨a1,?_⟩
    rcases a2 with⟨⟨z,b1⟩,b2⟩|⟨b1,b2⟩
    exact .inl ⟨⟨z,(k z).2 b1⟩,fun z m=>b2 z ((k z).1 m)⟩
    exact .inr ⟨fun⟨z,m⟩=>b1 ⟨z,(k z).1 m⟩,b2⟩
  |succ a=>
   rw[show i+(a+1)=i+1+a by omega]
   exact q7 a G A (by simpa using h1) (by simpa using h2)
  rw[gJ3 hlen]at h;exact aD h
def nF1 {xs} {ys} {ty es len} {ks} {zero} {parts} {K:aA (aA PV)->aA (Nat×Nat×PV)->aB R} {r} (l:dR C n h lim s) (g:LR (RV C) xs ys) (d:(Lb 0 parts&&(Nat.beq zero.length es&&(!(iA ty)&&Nat.beq parts.length len)))=true)
  (hk:Jb ks es 0 xs [] (fun rows hs=>bif Nat.beq rows.length len then K rows hs else none)=some r):
  ∃rows hs C' out,K rows hs=some r/\doOp (Sim.look s.h) lim s.n (.buildSl ty es len zero parts) ys=some out/\RV C' (.own n) out.v/\dR C' (n+1) ((n,.tr (.nd ty es ks) rows hs)::h) lim (out.apply s)/\C.le C'/\Fr C h s C' ((n,.tr (.nd ty es ks) rows hs)::h) (out.apply s):=by
 simp only[fF3,bJ,fO3,fX3]at d;obtain⟨c1,c2,k,c3⟩:=d;obtain⟨rows,hs,b,f,z,o,_,_,A,u⟩:=Gb xs ys 0 [] _ r hk g (fun _ _ _ _ h=>by cases h);rw[bJ]at f;by_cases c4:rows.length=len;rw[gP3 c4,fS3]at f;have hp:=Ab 0 parts c1;rw[c3]at hp;subst hp;have a:ys.length=len:=by rw[<-g.1,<-z,c4]
 have m:=Us (ty:=ty) (zero:=zero) a (o.trans a) A c2 (Sim.look s.h) lim s.n;have c:=nH l (.atp s.n 0 es len)
 obtain⟨D,E,F⟩:=rX l (po:=.tr (.nd ty es ks) rows hs) (ao:=.arr false ty es 0 b) (ver:=0) (e:=es) (len:=len)
  ⟨l.lim,by omega,rfl,c4.symm,k,b,1,by rw[gG,fJ3 rfl],⟨by rw[o,a,c4];exact fI3 _,.exact (by rw[o,a,c4];exact fI3 _)⟩,fun i r r' h1 h2=>⟨(u i r r' h1 h2).1,fun j p q w y=>by
   have:=(u i r r' h1 h2).2 j p q w y;rw[hD3]at this;unfold Pz at this;unfold TC;cases hkd:gZ ks j with
   |none=>rw[hkd]at this;exact this
   |some t=>
    obtain⟨ty',e',B⟩:=t;rw[hkd]at this;simp only at this ⊢;obtain⟨rfl,this⟩:=this;rcases this with⟨a1,a2⟩|⟨a1,a2⟩
    exact .inl ⟨a1,fun x g=>(a2 x g).mono c⟩;exact .inr ⟨a1,[],rfl,.inl ⟨rfl,a2⟩⟩⟩⟩
 exact⟨rows,hs,_,{v:=.sl es s.n 0 0 len none,new:=some (.arr false ty es 0 b)},f,m,.own (pJ C n _),D,c,E⟩;rw[gJ3 c4]at f;exact aD f
def rE:∀{h} {k} {o},aK h k=some o->dB h k o=h
 |[],_,_,h=>by simp[aK]at h
 |(j,v)::r,k,o,h=>by
  simp only[aK]at h
  simp only[dB]
  split at h
  rename_i e;cases h;rw[fJ3 e,e]
  rename_i e;rw[fM3 e,rE h]
def xQ1 (C:Cx) (n:Nat) (h:bA) (lim:Nat) (s:Hp) (k:iV) (ys:aA AV) (K:PV->bA->Nat->aB R) (r:R):Prop:=
 ∃v h' n' C' a,K v h' n'=some r/\doOp (Sim.look s.h) lim s.n k ys=some {v:=a}/\RV C' v a/\dR C' n' h' lim s/\n<=n'/\C.le C'/\Fr C h s C' h' s
def Xr {k:Nat} {t:TD} {rows:aA (aA PV)} {hs:aA (Nat×Nat×PV)} {y:AV} {js:aA Nat} {K:PV->bA->Nat->aB R} {r:R} (J:dR C n h lim s) (hg:aK h k=some (.tr t rows hs)) (hy:RV C (.el k i o) y):
  ((cM (lR rows i o) fun c=>Po t.ks i o [c] js [.undef] hs h n fun cs hs h n=>match cs with
   |[v]=>iF h k (.tr t rows hs) fun h=>K v h n
   |_=>none)=some r->xQ1 C n h lim s .loadS [y] K r)/\
  ∀m,(cM (mV rows i o m) fun cs0=>xT t.ks o cs0 fun cs=>Po t.ks i o cs0 js cs hs h n fun cs hs h n=>iF h k (.tr t rows hs) fun h=>K (.agg cs) h n)=some r->xQ1 C n h lim s (.loadA m) [y] K r:=by
 obtain⟨ty,e2,ks⟩:=t;obtain⟨id,ver,e,len,B,rfl⟩:=tT hy;have w:dR C n (dB h k (.tr (.nd ty e2 ks) rows hs)) lim s:=by rw[rE hg];exact J
 have O:=nA J hg B;obtain⟨_,_,rfl,_,_,els,d,A,x,hr⟩:=O;simp only[TD.ks];refine⟨fun hk=>?_,fun m hk=>?_⟩;rw[cF,fC3]at hk;obtain⟨c,hc,hk⟩:=hk;simp only[lR,fC3]at hc;obtain⟨row,hi,p⟩:=hc;obtain⟨f,l⟩:=Ah x hi;obtain⟨q1,q2⟩:=hr i row f hi l;have G:=(fE3.1 p).1;have z:f[o]? =some (f[o]'(by omega)):=by simp
 obtain⟨cs',H,h',n',C',p1,p2,p3,p4,p5,p6⟩:=yH (cells:=[f[o]'(by omega)]) A hi l (o:=o) (cs0:=[c]) (fun q a g=>by
  cases q with
  |zero=>simp at g;subst g;simpa using p
  |succ q=>simp at g) (fun q b g=>by
  cases q with
  |zero=>simp at g;subst g;simpa using z
  |succ q=>simp at g) js _ hs h n C _ r hk w (by rw[hg];rfl) B (.cons .undef .nil)
 rw[rE hg]at p3;split at p1;rename_i v;have p1:=eD _ _ _ _ _ p1;obtain⟨_,_,M,p7,_⟩:=p6.inv_cons;cases M;exact⟨v,_,n',C',_,p1,by simp[doOp,A,l,z],p7,p2,p5,p4,p3⟩;exact aD p1;rw[cF,fC3]at hk;obtain⟨c,hc,hk⟩:=hk;simp only[mV,fC3]at hc;obtain⟨row,hi,p⟩:=hc;split at p;rename_i G;cases p;obtain⟨f,l⟩:=Ah x hi;obtain⟨q1,q2⟩:=hr i row f hi l;obtain⟨L,hk,E,F⟩:=wD _ _ _ _ hk
 obtain⟨cs',H,h',n',C',p1,p2,p3,p4,p5,p6⟩:=yH (cells:=(f.drop o).take m) A hi l (o:=o) (fun q a g=>by
  rw[gA3]at g;split at g
  rwa [gM3]at g
  cases g) (fun q b g=>by
  rw[gA3]at g;split at g
  rwa [gM3]at g
  cases g) js _ hs h n C _ r hk w (by rw[hg];rfl) B ⟨by simp at E ⊢;omega,fun j a b P hb=>by
  rcases F j a P with⟨a0,u,N,rfl⟩|rfl;rw[gA3]at u hb;split at u;rename_i D;rw[fJ3 D,gM3]at hb;rw[gM3]at u;exact .cl ((TC.none N).1 (q2 (o+j) a b u hb)).weak;cases u;exact .undef⟩
 rw[rE hg]at p3;have p1:=eD _ _ _ _ _ p1;exact⟨_,_,n',C',.agg ((f.drop o).take m),p1,by simp[doOp,A,l];omega,.agg p6.1 p6.2,p2,p5,p4,p3⟩;cases p
def Ut {j:aB Nat} {K:PV->aB R} {r:R} (h1:fF1 e h d j K=some r):∃v,K v=some r:=by
 unfold fF1 at h1;rw[kE,fC3]at h1;obtain⟨v,_,h1⟩:=h1;cases j with
 |none=>exact⟨v,h1⟩
 |some j=>
  cases v with
  |agg cs=>
   obtain⟨_,h1⟩:=gA _ _ _ _ h1;split at h1;exact⟨_,h1⟩;exact aD h1
  |ref k o=>
   simp only[iC,fC3]at h1;obtain⟨ob,_,h1⟩:=h1;split at h1;obtain⟨_,h1⟩:=gA _ _ _ _ h1;split at h1;exact⟨_,h1⟩;exact aD h1;exact aD h1
  |_=>exact aD h1
def nG1 (l:dR C n h lim s) {k ty es} {g} {ks} (hg:aK h k=some (.lst ty es g [])) (hf:iA ty=false):
  dR C n (dB h k (.tr (.nd ty es ks) [] [])) lim s/\Fr C h s C (dB h k (.tr (.nd ty es ks) [] [])) s:=xP1 l hg (fun pl _ m=>by
 cases pl with
 |nil=>exact⟨rfl,rfl⟩
 |atp id ver e len=>
  obtain⟨h1,h2,d,f,els,c,o,j,p⟩:=m
  rw[Fz hf]at c
  exact⟨h1,h2,d,f,hf,els,0,c,j,fun i r r' a b=>by simp at a⟩) (fun h=>by cases h)
def Uu {ks}:∀{e:gL} {K:gL->aB R} {r:R},Ja e ks K=some r->∃e',K e'=some r/\∀i v,fQ e' i=some v->fQ e i=some v:=by
 have key:∀{e:gL} {K:gL->aB R} {r:R},Ja e ks K=some r->∃e',K e'=some r/\∀i v,fQ e' i=some v->fQ e i=some v/\xN i ks=true:=by
  intro e
  induction e with
  |nil=>intro K r h;exact⟨[],h,fun i v h=>by simp[fQ]at h⟩
  |cons p e ih=>
   intro K r h;obtain⟨j,w⟩:=p;unfold Ja at h;cases hm:xN j ks with
   |true=>
    rw[hm,fS3]at h;obtain⟨e',h1,h2⟩:=ih h;refine⟨_,h1,fun i v hv=>?_⟩;simp only[fQ]at hv ⊢;split at hv;rename_i a;subst a;exact⟨by rw[fJ3 rfl];exact hv,hm⟩;rename_i a;rw[fM3 a];exact h2 i v hv
   |false=>
    rw[hm,fZ3]at h;obtain⟨e',h1,h2⟩:=ih h;refine⟨e',h1,fun i v hv=>?_⟩;obtain⟨c,b⟩:=h2 i v hv;refine⟨?_,b⟩;simp only[fQ];rw[fM3 (fun a=>by rw[a,b]at hm;cases hm)];exact c
 intro e K r h;obtain⟨e',h1,h2⟩:=key h;exact⟨e',h1,fun i v hv=>(h2 i v hv).1⟩
def nH1 (d:dR C n h lim s) {k ty es} {g} {rows rows2} {lo} {kd} {zero} {y} (hg:aK h k=some (.lst ty es g rows)) (u:zero.length=es) (hy:RV C (.own k) y) (hk:xW rows lo (zero.map .v)=some rows2):
  ∃v out,doOp (Sim.look s.h) lim s.n (.slc es true false false) [y,.v (.int kd lo)]=some {v:=v}/\doOp (Sim.look s.h) lim s.n (.clear es zero) [v]=some out/\dR C n (dB h k (.lst ty es g rows2)) lim (out.apply s)/\Fr C h s C (dB h k (.lst ty es g rows2)) (out.apply s):=by
 unfold xW at hk;split at hk;rename_i hb;obtain⟨b1,b2⟩:=hb;obtain rfl:=gC3 hk;rcases hJ hy with⟨id,ver,f,len,c,rfl⟩|⟨c,rfl⟩
 obtain⟨b,rfl,hl,els,j,hr,⟨o,p⟩,l⟩:=lS d hg c;subst hl;have m:=(d.hr.lt (by rw[hg];simp) c).2;have a:(rows.take lo.toNat++List.replicate (rows.length-lo.toNat) (zero.map PV.v)).length=rows.length:=by simp;omega
 obtain⟨q,t⟩:=tS d (po':=.lst ty f g (rows.take lo.toNat++List.replicate (rows.length-lo.toNat) (zero.map .v))) (ao:=.arr false (Ct ty) f ver (Sim.setL els (0+lo.toNat) (List.replicate (rows.length-lo.toNat) (Sim.zeroRow zero)))) hg c ⟨b,m,rfl,a.symm,_,by rw[Sim.look_upd,fJ3 ⟨rfl,by rw[j];rfl⟩],⟨by simp[nB];omega,fun i r r' c1 c2=>by
   rw[a,gA3]at c2;split at c2;rename_i hi;rw[hG3]at c1;split at c1;rename_i h1;rw[lC (.inl (by simp at h1;omega))]at c2;rw[gA3]at c1;split at c1;exact hr.2 i r r' c1 (by rw[gA3,fJ3 hi];exact c2);cases c1;rename_i h1;simp at h1;rw[rY (by simp;omega) (by omega) (by simp;omega)]at c2;rw[iG3]at c1 c2;split at c1;split at c2;cases c1;cases c2;exact .zeroP zero;cases c2;cases c1;cases c2⟩,⟨by rw[a,nB];exact o,fun i row hi e=>by
   rw[a]at hi;rw[lC (.inr (by simp;omega))]at e;exact p i row hi e⟩,fun h=>by rw[a,nB];exact l h⟩ rfl
 refine⟨.sl f id ver (0+lo.toNat) (rows.length-lo.toNat) none,{v:=.undef,up:=some (id,.arr false (Ct ty) f ver (Sim.setL els (0+lo.toNat) (List.replicate (rows.length-lo.toNat) (Sim.zeroRow zero))))},?_,?_,q,t⟩;simp only[doOp,Sim.sliceOp,fR3,gT3,Sim.bounds,Sim.intOf,gB3,j,Sim.roomOf];rw[fJ3 ⟨by trivial,by trivial,by omega,by omega,by omega,by omega⟩];simp;simp only[doOp,j];rw[fJ3 ⟨by trivial,by trivial,by omega,b⟩];have:=mZ d hg c;subst this;have h0:lo=0:=by simp at b2;omega
 subst h0;refine⟨.v (.slice none 0 0),{v:=.undef},rfl,rfl,?_⟩;simp only[List.take_nil,fV3,Nat.zero_sub,List.replicate_zero,hS3];rw[rE hg];exact⟨d,.refl _ _ _⟩;cases hk
def Gc {ns}:∀{h:bA} {K:bA->aB R} {r:R},Ws h ns K=some r->∃h',K h'=some r/\∀k,(aK h k=none->aK h' k=none)/\∀o,aK h k=some o->∃o',aK h' k=some o'/\(o'=o\/∃cs,o=.box cs/\o'=.box (cs.map fun _=>.undef))
 |[],K,r,hk=>⟨[],hk,fun k=>⟨fun _=>rfl,fun o h=>by simp[aK]at h⟩⟩
 |(j,o)::t,K,r,hk=>by
  unfold Ws at hk
  obtain⟨h',hk,h2⟩:=Gc hk
  have fin:∀o',(o'=o\/∃cs,o=.box cs/\o'=.box (cs.map fun _=>.undef))->K ((j,o')::h')=some r->∃h',K h'=some r/\∀k,(aK ((j,o)::t) k=none->aK h' k=none)/\∀a,aK ((j,o)::t) k=some a->∃o',aK h' k=some o'/\(o'=a\/∃cs,a=.box cs/\o'=.box (cs.map fun _=>.undef)):=fun o' b hk=>by
   refine⟨_,hk,fun k=>?_⟩
   simp only[aK]
   by_cases e:j=k
   subst e
   simp only[gF3]
   exact⟨fun h=>(by cases h),fun a h=>(by cases h;exact⟨o',rfl,b⟩)⟩
   simp only[fM3 e]
   exact h2 k
  cases o with
  |box cs=>
   simp only at hk
   cases hm:(xN j ns|| !(cs.any fE1))with
   |true=>rw[hm,fS3]at hk;exact fin _ (.inl rfl) hk
   |false=>rw[hm,fZ3]at hk;exact fin _ (.inr ⟨cs,rfl,rfl⟩) hk
  |_=>exact fin _ (.inl rfl) hk
def nI1 {h'} (d:dR C n h lim s) (hs:∀k,(aK h k=none->aK h' k=none)/\∀o,aK h k=some o->∃o',aK h' k=some o'/\(o'=o\/∃cs,o=.box cs/\o'=.box (cs.map fun _=>.undef))):dR C n h' lim s/\Fr C h s C h' s:=by
 have c:∀j,aK h' j≠none->aK h j≠none:=fun j f hc=>f ((hs j).1 hc);refine⟨⟨⟨fun j o f=>?_,fun j q i v1 g m v2 e2 A h1 h2 r t=>d.hr.inj j q i v1 g m v2 e2 A (c j h1) (c q h2) r t,fun i o u=>?_,fun j i v1 g m h1 h2=>d.hr.wn j i v1 g m (c j h1) h2,d.hr.wb,d.hr.wz⟩,d.dom,d.wf,d.lim⟩,⟨.refl _ _,fI3 _,fun _ _ _=>rfl,fun i hi hn=>?_,fun j o f=>?_,fun _ _ h=>h,fun _ _ h=>.inl h⟩⟩;cases hc:aK h j with
 |none=>exact absurd hc (c j (by rw[f];simp))
 |some o0=>
  obtain⟨o',p1,p2⟩:=(hs j).2 o0 hc;rw[f]at p1;cases p1;obtain⟨pl,q1,q2⟩:=d.hr.ob j o0 hc;refine⟨pl,q1,?_⟩;rcases p2 with rfl|⟨cs,rfl,rfl⟩
  exact q2;cases pl with
  |nil=>exact q2
  |atp id ver e len=>
   obtain⟨a1,a2,ty,esz,row,a3,a4⟩:=q2;refine⟨a1,a2,ty,esz,row,a3,by simpa using a4.1,fun i x y p hy=>?_⟩;rw[gG3,fG3]at p;obtain⟨_,_,rfl⟩:=p;exact .undef
 obtain⟨z1,z2,z3,z4⟩:=d.hr.zr i o u;exact⟨z1,z2,fun j v e l a b=>z3 j v e l (c j a) b,z4⟩;rcases hn with⟨j,v1,g,m,w,z⟩|hn;exact .inl ⟨j,v1,g,m,c j w,z⟩;exact .inr hn;obtain⟨o',p1,p2⟩:=(hs j).2 o f;refine⟨o',p1,fun hb=>?_⟩;rcases p2 with rfl|⟨cs,rfl,rfl⟩
 exact⟨hb,rfl⟩;exact⟨rfl,rfl⟩
end
end Go.P
namespace Go.P
open Go.Sim (AV AO Hp mQ upd St IC IX Ex iV CK Wf Out doOp mO exec newOK mks nameOK gC)
variable {d id lim nS ty ver:Nat}
def Lq {q} {d} {c} (h:Nml c):nameOK q (d+1) c=true:=by
 unfold Nml at h;cases c with
 |ptr=>simp[nameOK]at h
 |sl=>simp[nameOK]at h
 |map=>simp[nameOK]at h
 |fn f a b=>
  simp only[nameOK,fF3]at h ⊢;obtain⟨⟨h1,h2⟩,e⟩:=h;have g:a=[]:=by cases a<;>simp[nameOK]at h2 ⊢
  have hb:b=[]:=by cases b<;>simp[nameOK]at e ⊢
  subst g;subst hb;refine⟨⟨?_,rfl⟩,rfl⟩;cases f<;>simp_all
 |agg cs=>
  simp only[nameOK]at h ⊢;have:cs=[]:=by cases cs<;>simp[nameOK]at h ⊢
  rw[this];rfl
 |tup cs=>
  simp only[nameOK]at h ⊢;have:cs=[]:=by cases cs<;>simp[nameOK]at h ⊢
  rw[this];rfl
 |_=>rfl
def gV1 {C} {p} {cs} {cs'} (hl:LR (RV C) cs cs') (h:∀x∈cs,∀y,RV C x y->p y=true):cs'.all p=true:=by
 rw[fH3];intro y hy;obtain⟨j,a⟩:=fQ3.1 hy;have b:j<cs.length:=by rw[hl.1];exact(fE3.1 a).1
 exact h cs[j] (by simp) y (hl.2 j _ y (by simp) a)
def Ju {q}:∀{d:Nat} {y:AV},nameOK q d y=true->nameOK q (d+1) y=true
 |0,_,h=>by simp[nameOK]at h
 |d+1,y,h=>by
  have all:∀{l:aA AV},l.all (nameOK q d)=true->l.all (nameOK q (d+1))=true:=fun h=>fH3.2 fun x c=>Ju (fH3.1 h x c)
  cases y with
  |fn f a b=>
   simp only[nameOK,fF3]at h ⊢
   exact⟨⟨h.1.1,all h.1.2⟩,all h.2⟩
  |agg cs=>exact all h
  |tup cs=>exact all h
  |ptr=>exact h
  |sl=>exact h
  |map=>exact h
  |_=>rfl
def Bx {n}:∀{h},∀e∈Sim.newEnts n h,∃i o,e=.ob i o/\n<=i
 |[],e,he=>by simp[Sim.newEnts]at he
 |.mark::h,e,he=>by simp[Sim.newEnts]at he
 |.ob i o::h,e,he=>by
  simp only[Sim.newEnts]at he
  split at he
  rename_i hn
  rcases fT3.1 he with rfl|he
  grind
  exact Bx e he
  simp at he
def aX1 {q} {n} {h}:∀e∈newOK q n h,∃i o,e=.ob i o/\n<=i:=fun e he=>Bx e (List.mem_filter.1 he).1
def yI {q} {n} {r t}:∀{pre} {m},Wf (pre++t) m->(∀e∈pre,∃i o,e=.ob i o/\n<=i)->∀{id} {ao},Sim.look t id=none->Sim.look (pre++t) id=some ao->gC q ao=true->Sim.look (newOK q n (pre++t)++r) id=some ao
 |[],m,hw,hp,id,ao,ht,hl,hq=>by
  rw[jB3,ht]at hl
  cases hl
 |e::pre,m,hw,hp,id,ao,ht,hl,hq=>by
  obtain⟨i,o,rfl,hi⟩:=hp e (by simp)
  have ih:=fun h=>yI (q:=q) (n:=n) (r:=r) (pre:=pre) hw.2 (fun e he=>hp e (by simp[he])) (id:=id) (ao:=ao) ht h hq
  simp only[hT3,Sim.look]at hl
  unfold newOK at ih ⊢
  simp only[hT3,Sim.newEnts]
  rw[fJ3 hi,List.filter_cons]
  split at hl
  rename_i a
  cases hl
  rw[fJ3 hq]
  simp only[hT3,Sim.look]
  rw[fJ3 a]
  rename_i a
  have ih:=ih hl
  cases hqo:gC q o with
  |true=>
   rw[fJ3 hqo]
   simp only[hT3,Sim.look]
   rw[fM3 a]
   exact ih
  |false=>
   rw[fM3 (fun hc=>by have hc:gC q o=true:=hc;rw[hqo]at hc;cases hc)]
   exact ih
def Lr:∀{d:Nat} {y:AV},nameOK (fun _=>false) d y=true->Sim.nmsV d y=[]
 |0,_,_=>rfl
 |d+1,y,h=>by
  have all:∀{l:aA AV},l.all (nameOK (fun _=>false) d)=true->l.flatMap (Sim.nmsV d)=[]:=fun h=>List.flatMap_eq_nil_iff.2 fun x c=>Lr (fH3.1 h x c)
  cases y with
  |fn f a b=>
   simp only[nameOK,fF3]at h
   simp only[Sim.nmsV,all h.1.2,all h.2,hS3]
   cases f<;>simp_all
  |agg cs=>exact all h
  |tup cs=>exact all h
  |ptr=>simp[nameOK]at h
  |sl=>simp[nameOK]at h
  |map=>simp[nameOK]at h
  |_=>rfl
section
variable {L1 L2:Nat->Option AO} {w w2:Nat->Option (Nat×Nat×Nat)} {lo:Nat} {q:Nat->Bool}
def Xt {e:Nat} {ks:aA (Nat×TD)} {rows:aA (aA PV)} {els:aA (aA AV)} (n:∀o,lo<=o->o<nS->q o=true) (hw:∀o sl,w o=some sl->lo<=o) (h:rows.length<=els.length/\SL rows.length els)
  (hr:∀i r r',rows[i]? =some r->els[i]? =some r'->r.length=r'.length/\∀j a b,r[j]? =some a->r'[j]? =some b->match gZ ks j with
   |none=>RC true a b
   |some t=>gH L1 w lim nS d (id,i,j) t a b):gC q (.arr false ty e ver els)=true:=by
 simp only[gC,fH3];intro row f c hc;obtain⟨i,hi⟩:=fQ3.1 f;by_cases m:i<rows.length;obtain⟨h1,h2⟩:=hr i rows[i] row (by simp) hi;obtain⟨j,k⟩:=fQ3.1 hc;have g:j<(rows[i]).length:=by rw[h1];exact(fE3.1 k).1
 have:=h2 j _ c (fP3 g) k;cases hk:gZ ks j with
 |none=>rw[hk]at this;exact Lq this.nml
 |some t=>
  rw[hk]at this;cases d with
  |zero=>exact this.elim
  |succ d=>
   obtain⟨ty',e',p⟩:=t;obtain⟨rows',_,l⟩:=this;rcases l with⟨_,rfl⟩|⟨id',ver',els',rfl,k2,k3,k4,_⟩
   rfl;exact n id' (hw _ _ k2) k4
 exact Lq (h.2 i row (by omega) hi c hc)
def gH.merge (f:∀o,lo<=o->o<nS->q o=true) (hw:∀o sl,w o=some sl->lo<=o/\w2 o=some sl) (c:∀o ao,lo<=o->L1 o=some ao->gC q ao=true->L2 o=some ao):∀{d} {sl} {t} {x} {y},gH L1 w lim nS d sl t x y->gH L2 w2 lim nS d sl t x y
 |0,_,_,_,_,h=>h.elim
 |d+1,sl,.nd ty e ks,x,y,h=>by
  obtain⟨rows,h1,h2⟩:=h
  refine⟨rows,h1,?_⟩
  rcases h2 with h2|⟨id,ver,els,k1,k2,k3,k4,kf,k5,k6,k7⟩
  exact .inl h2
  refine .inr ⟨id,ver,els,k1,(hw _ _ k2).2,k3,k4,kf,c _ _ (hw _ _ k2).1 k5 (Xt f (fun o sl h=>(hw o sl h).1) k6 k7),k6,fun i r r' a b=>⟨(k7 i r r' a b).1,fun j g k a1 b1=>?_⟩⟩
  have:=(k7 i r r' a b).2 j g k a1 b1
  cases hk:gZ ks j with
  |none=>rw[hk]at this;exact this
  |some t=>rw[hk]at this;exact gH.merge f hw c this
end
end Go.P
namespace Go.P
open Go.Sim (AV AO Hp mQ upd St IC IX Ex iV CK Wf Out doOp mO exec newOK mks nameOK gC nmsV jR)
variable {R:Type} {b nw:Bool} {lim n:Nat} {t ys:aA AV}
def xR1 {c} (h:Nml c):nmsV 6 c=[]:=Lr (Ju (Ju (Ju (Ju (Ju h)))))
def vA {q}:∀{d:Nat} {y:AV},nameOK (fun _=>true) d y=true->(∀id∈nmsV d y,q id=true)->nameOK q d y=true
 |0,_,h,_=>by simp[nameOK]at h
 |d+1,y,h,c=>by
  have all:∀{l:aA AV},l.all (nameOK (fun _=>true) d)=true->(∀id∈l.flatMap (nmsV d),q id=true)->l.all (nameOK q d)=true:=fun h c=>fH3.2 fun x e=>
   vA (fH3.1 h x e) fun id hi=>c id (hM3.2 ⟨x,e,hi⟩)
  cases y with
  |fn f a b=>
   simp only[nameOK,fF3]at h ⊢
   simp only[nmsV,gK3]at c
   refine⟨⟨?_,all h.1.2 fun id hi=>c id (.inr (.inl hi))⟩,all h.2 fun id hi=>c id (.inr (.inr hi))⟩
   cases f with
   |yield l=>exact c l (.inl (by simp))
   |_=>rfl
  |agg cs=>exact all h c
  |tup cs=>exact all h c
  |ptr=>exact c _ (by simp[nmsV])
  |sl=>exact c _ (by simp[nmsV])
  |map=>exact c _ (by simp[nmsV])
  |_=>rfl
def CZ (o:AO):Prop:=∃ty e ver els,o=.arr false ty e ver els/\∀row∈els,∀c∈row,Nml c
def CZ.ok {q} {o} (h:CZ o):gC q o=true:=by
 obtain⟨ty,e,ver,els,rfl,h⟩:=h;simp only[gC,fH3];exact fun row hr c hc=>Lq (h row hr c hc)
def CZ.nms {o} (h:CZ o):Sim.nmsO o=[]:=by
 obtain⟨ty,e,ver,els,rfl,h⟩:=h;simp only[Sim.nmsO,List.flatMap_eq_nil_iff];exact fun row hr c hc=>xR1 (h row hr c hc)
def lrX {C} {cs} {cs'} (hl:LR (RV C) cs cs') {y} (hy:y∈cs'):∃x∈cs,RV C x y:=by
 obtain⟨j,a⟩:=fQ3.1 hy;have b:j<cs.length:=by rw[hl.1];exact(fE3.1 a).1
 exact⟨cs[j],by simp,hl.2 j _ y (by simp) a⟩
def lrY {C} {cs} {cs'} (hl:LR (RV C) cs cs') {x} (c:x∈cs):∃y∈cs',RV C x y:=by
 obtain⟨j,a⟩:=fQ3.1 c;have b:j<cs'.length:=by rw[<-hl.1];exact(fE3.1 a).1
 exact⟨cs'[j],by simp,hl.2 j x _ a (by simp)⟩
def wK {C} {o} {p}:∀{d} {x} {y},wB o p d x=true->RV C x y->nameOK (fun _=>true) (d+1) y=true/\
  ∀id∈nmsV (d+1) y,(∃k v e l,p k=true/\C k=some (.atp id v e l))\/∃ob,C.z id=some ob/\CZ ob
 |0,_,_,h,_=>by simp[wB]at h
 |d+1,x,y,hc,hv=>by
  have all:∀{l} {l'},l.all (wB o p d)=true->LR (RV C) l l'->l'.all (nameOK (fun _=>true) (d+1))=true/\∀id∈l'.flatMap (nmsV (d+1)),(∃k v e l,p k=true/\C k=some (.atp id v e l))\/∃ob,C.z id=some ob/\CZ ob:=fun h hl=>
   ⟨gV1 hl fun x q y hy=>(wK (fH3.1 h x q) hy).1,fun id hi=>by
    obtain⟨y,hy,hi⟩:=hM3.1 hi
    obtain⟨x,q,r⟩:=lrX hl hy
    exact(wK (fH3.1 h x q) r).2 id hi⟩
  cases x with
  |v a=>rw[iX hv];exact⟨rfl,fun id h=>by simp[nmsV]at h⟩
  |is e rows=>rcases wC hv with⟨_,rfl,_⟩|⟨_,rfl⟩<;>exact⟨rfl,fun id h=>by simp[nmsV]at h⟩
  |ip cs=>obtain⟨_,rfl,_⟩:=Bt hv;exact⟨rfl,fun id h=>by simp[nmsV]at h⟩
  |im es=>obtain⟨_,rfl,_⟩:=Wy hv;exact⟨rfl,fun id h=>by simp[nmsV]at h⟩
  |ref k i=>
   obtain⟨id,ver,e,len,h,rfl⟩:=mG hv
   refine⟨rfl,fun id' hi=>.inl ?_⟩
   simp only[nmsV,iT3]at hi
   subst hi
   exact⟨k,ver,e,len,hc,h⟩
  |own k=>
   simp only[wB,fF3]at hc
   rcases hJ hv with⟨id,ver,e,len,h,rfl⟩|⟨h,rfl⟩
   refine⟨rfl,fun id' hi=>.inl ?_⟩
   simp only[nmsV,iT3]at hi
   subst hi
   exact⟨k,ver,e,len,hc.2,h⟩
   exact⟨rfl,fun id h=>by simp[nmsV]at h⟩
  |zs dp e rows=>
   have t:=fK3 hc
   have m:=yA hv
   have cl:RC true (.is e rows) y->nameOK (fun _=>true) (d+2) y=true/\∀id∈nmsV (d+2) y,(∃k v e l,p k=true/\C k=some (.atp id v e l))\/∃ob,C.z id=some ob/\CZ ob:=fun h=>by
    have h2:=Lr (d:=1) h.nml
    cases h<;>exact⟨rfl,fun id h=>by simp[nmsV]at h⟩
   cases dp with
   |zero=>exact cl m
   |succ dp=>
    have:dp=0:=by omega
    subst this
    rcases m with m|⟨e',rows',id,ver,ty,els,h1,rfl,h3,h4,h5⟩
    exact cl m
    cases h1
    refine⟨rfl,fun id' hi=>.inr ?_⟩
    simp only[nmsV,iT3]at hi
    subst hi
    refine⟨_,h3,ty,e,ver,els,rfl,fun row hr c g=>?_⟩
    obtain⟨i,hi⟩:=fQ3.1 hr
    by_cases u:i<rows.length
    have hl:=h5 i rows[i] row (by simp) hi
    obtain⟨j,s⟩:=fQ3.1 g
    have n:j<(rows[i]).length:=by rw[hl.1];exact(fE3.1 s).1
    have:=hl.2 j _ c (fP3 n) s
    exact RC.nml this
    exact h4.2 i row (by omega) hi c g
  |fn f a b=>
   simp only[wB,fF3]at hc
   obtain⟨a',b',rfl,h1,h2⟩:=tU hv
   obtain⟨a1,a2⟩:=all hc.1 h1
   obtain⟨b1,b2⟩:=all hc.2 h2
   refine⟨by show((true&&a'.all _)&&b'.all _)=true;rw[a1,b1];rfl,fun id hi=>?_⟩
   have hi:id∈a'.flatMap (nmsV (d+1))++b'.flatMap (nmsV (d+1)):=hi
   rcases gK3.1 hi with hi|hi
   exact a2 id hi
   exact b2 id hi
  |agg cs=>
   obtain⟨cs',rfl,h1⟩:=nI hv
   exact all hc h1
  |tup cs=>
   obtain⟨cs',rfl,h1⟩:=Ac hv
   exact all hc h1
  |_=>simp[wB]at hc
def Ls {C C'} {o} {p} (hk:∀k pl,p k=true->C k=some pl->C' k=some pl):∀{d} {x} {y},wB o p d x=true->RV C x y->(∀id ob,id∈nmsV (d+1) y->C.z id=some ob->CZ ob->C'.z id=some ob)->RV C' x y
 |0,_,_,h,_,_=>by simp[wB]at h
 |d+1,x,y,hc,hv,m=>by
  have all:∀{l} {l'},l.all (wB o p d)=true->LR (RV C) l l'->(∀id ob,id∈l'.flatMap (nmsV (d+1))->C.z id=some ob->CZ ob->C'.z id=some ob)->LR (RV C') l l':=fun h hl m=>
   ⟨hl.1,fun j x y a b=>Ls hk (fH3.1 h x (fL3 a)) (hl.2 j x y a b) fun id ob hi=>m id ob (hM3.2 ⟨y,fL3 b,hi⟩)⟩
  have D:=(wK hc hv).2
  cases x with
  |v a=>rw[iX hv];exact .cl (.v _)
  |is e rows=>rcases wC hv with⟨_,rfl,h⟩|⟨rfl,rfl⟩<;>refine .cl ?_<;>cases hv<;>assumption
  |ip cs=>obtain⟨_,rfl,h⟩:=Bt hv;exact .cl (.ip h.1 h.2)
  |im es=>obtain⟨_,rfl,h⟩:=Wy hv;exact .cl h.im
  |ref k i=>
   obtain⟨id,ver,e,len,h,rfl⟩:=mG hv
   exact .ref (hk _ _ hc h)
  |own k=>
   simp only[wB,fF3]at hc
   rcases hJ hv with⟨id,ver,e,len,h,rfl⟩|⟨h,rfl⟩
   exact .own (hk _ _ hc.2 h)
   exact .ownn (hk _ _ hc.2 h) rfl
  |zs dp e rows=>
   have t:=fK3 hc
   have g:=yA hv
   refine .zs ?_
   cases dp with
   |zero=>exact g
   |succ dp=>
    have:dp=0:=by omega
    subst this
    rcases g with g|⟨e',rows',id,ver,ty,els,h1,rfl,h3,h4,h5⟩
    exact .inl g
    cases h1
    have w:id∈nmsV (d+2) (.sl e id ver 0 rows.length none):=by simp[nmsV]
    have q:CZ (.arr false ty e ver els):=⟨ty,e,ver,els,rfl,fun row hr c n=>by
     obtain⟨i,hi⟩:=fQ3.1 hr
     by_cases u:i<rows.length
     have hl:=h5 i rows[i] row (by simp) hi
     obtain⟨j,s⟩:=fQ3.1 n
     have r:j<(rows[i]).length:=by rw[hl.1];exact(fE3.1 s).1
     have:=hl.2 j _ c (fP3 r) s
     exact RC.nml this
     exact h4.2 i row (by omega) hi c n⟩
    exact .inr ⟨e,rows,id,ver,ty,els,rfl,rfl,m id _ w h3 q,h4,h5⟩
  |fn f a b=>
   simp only[wB,fF3]at hc
   obtain⟨a',b',rfl,h1,h2⟩:=tU hv
   have A:=all hc.1 h1 fun id ob hi=>m id ob (show id∈a'.flatMap (nmsV (d+1))++b'.flatMap (nmsV (d+1))from gK3.2 (.inl hi))
   have B:=all hc.2 h2 fun id ob hi=>m id ob (show id∈a'.flatMap (nmsV (d+1))++b'.flatMap (nmsV (d+1))from gK3.2 (.inr hi))
   exact .fn A.1 B.1 A.2 B.2
  |agg cs=>
   obtain⟨cs',rfl,h1⟩:=nI hv
   have A:=all hc h1 m
   exact .agg A.1 A.2
  |tup cs=>
   obtain⟨cs',rfl,h1⟩:=Ac hv
   have A:=all hc h1 m
   exact .tup A.1 A.2
  |_=>simp[wB]at hc
def Qq {C} {k id v e l} (g:C k=some (.atp id v e l)):∀{d} {x} {y},sO k d x=true->RV C x y->id∈nmsV (d+1) y
 |0,_,_,h,_=>by simp[sO]at h
 |d+1,x,y,hc,hv=>by
  have any:∀{l} {l'},l.any (sO k d)=true->LR (RV C) l l'->id∈l'.flatMap (nmsV (d+1)):=fun h hl=>by
   obtain⟨x,m,h⟩:=List.any_eq_true.1 h
   obtain⟨y,hy,c⟩:=lrY hl m
   exact hM3.2 ⟨y,hy,Qq g h c⟩
  cases x with
  |ref j i=>
   have:=fY3 hc
   subst this
   obtain⟨id',ver,e',len,h,rfl⟩:=mG hv
   rw[g]at h
   cases h
   simp[nmsV]
  |fn f a b=>
   simp only[sO,fW3]at hc
   obtain⟨a',b',rfl,h1,h2⟩:=tU hv
   show id∈a'.flatMap (nmsV (d+1))++b'.flatMap (nmsV (d+1))
   rcases hc with hc|hc
   grind
   grind
  |agg cs=>
   obtain⟨cs',rfl,h1⟩:=nI hv
   exact any hc h1
  |tup cs=>
   obtain⟨cs',rfl,h1⟩:=Ac hv
   exact any hc h1
  |_=>simp[sO]at hc
def lE {R} {id}:∀h,Sim.look (jR R h) id=if R.contains id then Sim.look h id else none
 |[]=>by simp[jR,Sim.look]
 |.mark::r=>lE r
 |.ob i o::r=>by
  simp only[jR]
  cases hi:R.contains i with
  |true=>
   simp only[fS3,Sim.look,lE r]
   split
   grind
   rfl
  |false=>
   simp only[fZ3,Sim.look,lE r]
   split
   grind
   rfl
def rF {R}:∀{h} {n},Wf h n->Wf (jR R h) n
 |[],_,_=>trivial
 |.mark::r,n,h=>rF (h:=r) h
 |.ob i o::r,n,h=>by
  simp only[jR]
  cases hi:R.contains i with
  |true=>exact⟨h.1,rF h.2⟩
  |false=>exact(rF (R:=R) h.2).mono (gQ3 h.1)
def Lt {p}:∀{h} {n},Wf h n->(∀id ao,Sim.look h id=some ao->gC p ao=true)->Sim.entsOK p h=true
 |[],_,_,_=>rfl
 |.mark::r,n,hw,h=>Lt (h:=r) hw h
 |.ob i o::r,n,hw,h=>by
  simp only[Sim.entsOK,fF3]
  refine⟨h i o (by simp[Sim.look]),Lt hw.2 fun id ao hl=>h id ao ?_⟩
  have:=Wf.lt hw.2 hl
  simp only[Sim.look]
  rw[fM3 (by omega)]
  exact hl
def wL {L}:∀{h} {n},Wf h n->(∀id ao,Sim.look h id=some ao->L id≠none)->∃w,Sim.changed L h=some w/\((∀id ao,Sim.look h id=some ao->L id=some ao)->w=[])
 |[],_,_,_=>⟨[],rfl,fun _=>rfl⟩
 |.mark::r,n,hw,h=>wL (h:=r) hw h
 |.ob i o::r,n,hw,h=>by
  have up:∀id ao,Sim.look r id=some ao->Sim.look (.ob i o::r) id=some ao:=fun id ao hl=>by
   have:=Wf.lt hw.2 hl
   simp only[Sim.look]
   rw[fM3 (by omega)]
   exact hl
  obtain⟨w,b,d⟩:=wL (L:=L) hw.2 fun id ao hl=>h id ao (up id ao hl)
  have h0:Sim.look (.ob i o::r) i=some o:=by simp[Sim.look]
  cases hL:L i with
  |none=>exact absurd hL (h i o h0)
  |some o'=>
   simp only[Sim.changed,hL,b]
   split
   grind
   rename_i a
   refine⟨_,rfl,fun c=>absurd ?_ a⟩
   have:=c i o h0
   rw[hL]at this
   cases this
   simp[Sim.same]
section
def An {p}:∀{h:bA} {K:bA->bA->aB R} {r:R},Pt p h K=some r->∃a b,K a b=some r/\∀k,aK a k=(if p k then aK h k else none)/\aK b k=(if p k then none else aK h k)
 |[],K,r,hk=>⟨[],[],hk,fun k=>by simp[aK]⟩
 |(j,o)::t,K,r,hk=>by
  unfold Pt at hk
  obtain⟨a,b,h1,h2⟩:=An hk
  cases hp:p j with
  |true=>
   rw[hp,fS3]at h1
   refine⟨_,_,h1,fun k=>?_⟩
   obtain⟨c,d⟩:=h2 k
   simp only[aK,c,d]
   by_cases e:j=k
   subst e;simp[hp]
   simp[e]
  |false=>
   rw[hp,fZ3]at h1
   refine⟨_,_,h1,fun k=>?_⟩
   obtain⟨c,d⟩:=h2 k
   simp only[aK,c,d]
   by_cases e:j=k
   subst e;simp[hp]
   simp[e]
def Qr:∀{cs:aA PV} {K:aA PV->aB R} {r:R},wW1 cs K=some r->K (cs.map fun _=>.undef)=some r
 |[],_,_,h=>h
 |_::cs,K,r,h=>Qr (cs:=cs) (K:=fun r=>K (.undef::r)) h
def Qs:∀{h:bA} {K:bA->aB R} {r:R},mL1 h K=some r->∃h',K h'=some r/\∀k,(∀cs,aK h k=some (.box cs)->aK h' k=some (.box (cs.map fun _=>.undef)))/\(aK h k=none->aK h' k=none)
 |[],K,r,hk=>⟨[],hk,fun k=>⟨fun cs h=>by simp[aK]at h,fun _=>rfl⟩⟩
 |(j,o)::t,K,r,hk=>by
  unfold mL1 at hk
  obtain⟨h',h1,h2⟩:=Qs hk
  cases o with
  |box cs=>
   have h1:=Qr h1
   refine⟨_,h1,fun k=>?_⟩
   obtain⟨a,b⟩:=h2 k
   simp only[aK]
   by_cases e:j=k
   grind
   grind
  |_=>cases h1
end
def yJ {p}:∀{h} {k} {o},Ps p h=true->aK h k=some o->∃cs,o=.box cs/\cs.all (wB false p 5)=true
 |[],_,_,_,h=>by simp[aK]at h
 |(j,o')::r,k,o,hl,h=>by
  simp only[Ps,fF3]at hl
  simp only[aK]at h
  split at h
  grind
  exact yJ hl.2 h
def Qt {p}:∀{h} {k} {o},fC1 p h=true->aK h k=some o->(∃ty e g rows,o=.lst ty e g rows/\iA ty=false)\/(∃t rows,o=.tr t rows [])\/∃cs,o=.box cs/\cs.all (wB false p 5)=true
 |[],_,_,_,h=>by simp[aK]at h
 |(j,o')::r,k,o,hl,h=>by
  simp only[fC1,fF3]at hl
  simp only[aK]at h
  split at h
  grind
  exact Qt hl.2 h
def cR (C:Cx) (p q:Nat->Bool):Cx:=⟨fun k=>if p k then C k else none,fun id=>if q id then C.z id else none,fun _=>none⟩
def mgN (C C1:Cx) (n m:Nat) (q:Nat->Bool):Cx:=⟨fun k=>if k<n then C k else C1 k,fun id=>if id<m then C.z id else match C1.z id with|some o=>if gC q o then some o else none|none=>none,fun o=>if o<m then C.w o else C1.w o⟩
section
variable {C:Cx} {h:bA} {s:Hp}
def nJ1 (w:dR C n h lim s) {xs} {ys} (O:LR (RV C) xs ys) {hs} (L:∀{k o},aK hs k=some o->aK h k=some o/\xs.any (sO k 5)=true)
  (M:xs.all (wB false (iB hs) 5)=true) (T:Ps (fun _=>false) hs=true):∃R:aA Nat,R=Sim.rchX (Sim.look s.h) ys/\
  (∀{id},id∈R->(∃k v e l,aK hs k≠none/\C k=some (.atp id v e l))\/∃ob,C.z id=some ob/\CZ ob)/\
  (∀{k id v e l},aK hs k≠none->C k=some (.atp id v e l)->id∈R)/\(∀{id},id∈R->id<s.n/\Sim.look s.h id≠none)/\
  (∀{q},(∀id∈R,q id=true)->Sim.entsOK q (jR R s.h)=true/\ys.all (nameOK q 6)=true)/\
  dR (cR C (iB hs) R.contains) n hs lim {h:=jR R s.h,n:=s.n}/\LR (RV (cR C (iB hs) R.contains)) xs ys:=by
 have nn:∀{k},aK hs k≠none->aK h k≠none:=fun{k} hk=>by
  cases hc:aK hs k with
  |none=>exact absurd hc hk
  |some o=>rw[(L hc).1];simp
 have g:∀{k o},aK hs k=some o->∃cs id ver e l ty esz row,o=.box cs/\cs.all (wB false (fun _=>false) 5)=true/\C k=some (.atp id ver e l)/\lim<=id/\id<s.n/\Sim.look s.h id=some (.arr true ty esz ver [row])/\LR (RV C) cs row:=fun{k o} hk=>by
  obtain⟨cs,rfl,J⟩:=yJ T hk;obtain⟨pl,p1,p2⟩:=w.hr.ob k _ (L hk).1;cases pl with
  |nil=>exact p2.elim
  |atp id ver e l=>
   obtain⟨a1,a2,ty,esz,row,a3,a4⟩:=p2;exact⟨cs,id,ver,e,l,ty,esz,row,rfl,J,p1,a1,a2,a3,a4⟩
 obtain⟨R0,E⟩:∃R0,R0=ys.flatMap (nmsV 6):=⟨_,rfl⟩
 obtain⟨R,hR⟩:∃R,R=Sim.rchX (Sim.look s.h) ys:=⟨_,rfl⟩
 have G:R=R0++R0.flatMap fun id=>match Sim.look s.h id with|some o=>Sim.nmsO o|none=>[]:=by rw[hR,E];rfl
 have A:∀{id},id∈R0->id∈R:=fun h=>by rw[G];exact gK3.2 (.inl h)
 have N:∀{y id},y∈ys->id∈nmsV 6 y->id∈R0:=fun hy hi=>by rw[E];exact hM3.2 ⟨_,hy,hi⟩
 have K:∀{k id v e l},aK hs k≠none->C k=some (.atp id v e l)->id∈R0:=fun{k id v e l} hk S=>by
  cases hc:aK hs k with
  |none=>exact absurd hc hk
  |some o=>
   obtain⟨x,Y,h1⟩:=List.any_eq_true.1 (L hc).2;obtain⟨y,hy,t⟩:=lrY O Y;exact N hy (Qq S h1 t)
 have f:∀{k o cs id ver e l ty esz row},aK hs k=some o->o=.box cs->cs.all (wB false (fun _=>false) 5)=true->C k=some (.atp id ver e l)->Sim.look s.h id=some (.arr true ty esz ver [row])->LR (RV C) cs row->∀c∈row,nameOK (fun _=>true) 6 c=true/\∀i∈nmsV 6 c,i∈R/\∃ob,C.z i=some ob/\CZ ob:=by
  intro k o cs id ver e l ty esz row hk ho J S hL hl c hc;obtain⟨x,r,X⟩:=lrX hl hc;obtain⟨m1,m2⟩:=wK (fH3.1 J x r) X;refine⟨m1,fun i hi=>⟨?_,?_⟩⟩;rw[G];refine gK3.2 (.inr (hM3.2 ⟨id,K (by rw[hk];simp) S,?_⟩));rw[hL];simp only[Sim.nmsO,jH3,List.flatMap_nil,hS3];exact hM3.2 ⟨c,hc,hi⟩;rcases m2 i hi with⟨_,_,_,_,h,_⟩|h;cases h;exact h
 have F:∀{id},id∈R->(∃k v e l,aK hs k≠none/\C k=some (.atp id v e l))\/∃ob,C.z id=some ob/\CZ ob:=fun{id} hi=>by
  have h0:∀{id},id∈R0->(∃k v e l,aK hs k≠none/\C k=some (.atp id v e l))\/∃ob,C.z id=some ob/\CZ ob:=fun{id} hi=>by
   rw[E]at hi;obtain⟨y,hy,hi⟩:=hM3.1 hi;obtain⟨x,r,t⟩:=lrX O hy;rcases(wK (fH3.1 M x r) t).2 id hi with⟨k,v,e,l,h1,h2⟩|h1;exact .inl ⟨k,v,e,l,eQ.1 h1,h2⟩;exact .inr h1
  rw[G]at hi;rcases gK3.1 hi with hi|hi;exact h0 hi;obtain⟨Z,U,hi⟩:=hM3.1 hi;rcases h0 U with⟨k,v,e,l,h1,h2⟩|⟨ob,h1,h2⟩
  cases hc:aK hs k with
  |none=>exact absurd hc h1
  |some o=>
   obtain⟨cs,id',ver,e',l',ty,esz,row,b1,b2,b3,_,_,u,B⟩:=g hc;rw[b3]at h2;cases h2;rw[u]at hi;simp only[Sim.nmsO,jH3,List.flatMap_nil,hS3]at hi;obtain⟨c,H,hi⟩:=hM3.1 hi;exact .inr ((f hc b1 b2 b3 u B c H).2 id hi).2
  rw[(w.hr.zr Z ob h1).1]at hi;simp only[h2.nms]at hi;simp at hi
 have V:∀{id},id∈R->id<s.n/\Sim.look s.h id≠none:=fun{id} hi=>by
  rcases F hi with⟨k,v,e,l,h1,h2⟩|⟨ob,h1,h2⟩
  cases hc:aK hs k with
  |none=>exact absurd hc h1
  |some o=>
   obtain⟨cs,id',ver,e',l',ty,esz,row,b1,b2,b3,_,P,u,B⟩:=g hc;rw[b3]at h2;cases h2;exact⟨P,by rw[u];simp⟩
  have:=w.hr.zr id ob h1;exact⟨this.2.1,by rw[this.1];simp⟩
 have m:∀{id},id∈R->R.contains id=true:=fun h=>by simpa using h
 refine⟨R,hR,F,fun a b=>A (K a b),V,fun{q} hq=>⟨?_,?_⟩,⟨⟨fun k o hk=>?_,fun k k' id v e l v' e' l' a b c d=>?_,fun id o D=>?_,fun k id v e l a b=>rfl,fun id sl h=>(by cases h),fun id o h=>rfl⟩,fun k pl hk=>?_,rF w.wf,w.lim⟩,⟨O.1,fun j x y a b=>?_⟩⟩;refine Lt (rF w.wf) fun id ao hl=>?_;rw[lE]at hl;split at hl;rename_i hc;have W:id∈R:=by simpa using hc
 rcases F W with⟨k,v,e,l,h1,h2⟩|⟨ob,h1,h2⟩
 cases hc:aK hs k with
 |none=>exact absurd hc h1
 |some o=>
  obtain⟨cs,id',ver,e',l',ty,esz,row,b1,b2,b3,_,P,u,B⟩:=g hc;rw[b3]at h2;cases h2;rw[u]at hl;cases hl;simp only[gC,hA3,List.all_nil,Bool.and_true,fH3];intro c H;obtain⟨m1,m2⟩:=f hc b1 b2 b3 u B c H;exact vA m1 fun i hi=>hq i (m2 i hi).1
 rw[(w.hr.zr id ob h1).1]at hl;cases hl;exact h2.ok;cases hl;rw[fH3];intro y hy;obtain⟨x,r,t⟩:=lrX O hy;exact vA (wK (fH3.1 M x r) t).1 fun i hi=>hq i (A (N hy hi));obtain⟨cs,id,ver,e,l,ty,esz,row,b1,b2,b3,b7,P,u,B⟩:=g hk;subst b1;have W:=A (K (by rw[hk];simp) b3);refine⟨.atp id ver e l,by simp only[cR];rw[fJ3 (eQ.2 (by rw[hk];simp))];exact b3,b7,P,ty,esz,row,by rw[lE,fJ3 (m W)];exact u,B.1,fun j x y a b=>?_⟩;refine Ls (p:=fun _=>false) (fun k pl h=>by cases h) (fH3.1 b2 x (fL3 a)) (B.2 j x y a b) fun i ob hi D _=>?_;have:=((f hk rfl b2 b3 u B y (fL3 b)).2 i hi).1;simp only[cR];rw[fJ3 (m this)];exact D;simp only[cR]at c d;rw[fJ3 (eQ.2 a)]at c;rw[fJ3 (eQ.2 b)]at d;exact w.hr.inj k k' id v e l v' e' l' (nn a) (nn b) c d;simp only[cR]at D;split at D;rename_i hc;obtain⟨z1,z2,z3,z4⟩:=w.hr.zr id o D;refine⟨by rw[lE,fJ3 hc];exact z1,z2,fun k v e l a b=>?_,z4⟩;simp only[cR]at b;rw[fJ3 (eQ.2 a)]at b;exact z3 k v e l (nn a) b;cases D;simp only[cR]at hk;split at hk;exact w.dom k pl hk;cases hk;refine Ls (fun k pl h1 h2=>?_) (fH3.1 M x (fL3 a)) (O.2 j x y a b) fun i ob hi D _=>?_;simp only[cR];rw[fJ3 h1];exact h2;simp only[cR];rw[fJ3 (m (A (N (fL3 b) hi)))];exact D
def xS1 {L} {H} {w} {n id} (hw:Wf H n) (a:Sim.changed L H=some w) {h} (c:∀id ao,Sim.look H id=some ao->Sim.look h id=some ao) (hi:Sim.look H id≠none) (d:L id≠none):Sim.look (Sim.updAll w h) id=L id:=by
 obtain⟨c1,c2⟩:=Sim.changed_spec a;cases hH:Sim.look H id with
 |none=>exact absurd hH hi
 |some ao=>
  by_cases b:id∈w.map (·.1);cases hu:Sim.look (Sim.updAll w h) id with
  |none=>
   exfalso
   have:∀w h,Sim.look h id≠none->Sim.look (Sim.updAll w h) id≠none:=by
    intro w
    induction w with
    |nil=>intro h h1;exact h1
    |cons e w ih=>
     intro h h1;obtain⟨i,o⟩:=e;refine ih _ ?_;rw[Sim.look_upd];split;simp;exact h1
   exact this w h (by rw[c id ao hH];simp) hu
  |some ao'=>
   rcases Sim.look_updAll w h id ao' hu with⟨_,h2⟩|h2;exact absurd b h2;exact(c2 _ h2).symm
  rw[Sim.look_updAll_ne w h id b,c id ao hH];exact(c1 id ao hH b).symm
def nK1 {e:gL} {xs:aA PV} {run:bA->Nat->(PV->bA->Nat->aB (PV×bA×Nat))->aB (PV×bA×Nat)} {kill:aA Nat} {K:PV->gL->bA->Nat->aB R} {r:R} {P:Hp->AV->Hp->Prop} (O:dR C n h lim s) (he:eU C e t) (hx:LR (RV C) xs ys)
  (k4:∀(hs:bA) (C0:Cx) (m:Nat) (K':PV->bA->Nat->aB (PV×bA×Nat)) (r':PV×bA×Nat) (s0:Hp),dR C0 m hs lim s0->LR (RV C0) xs ys->run hs m K'=some r'->
   ∃v h' n' C' y s',K' v h' n'=some r'/\RV C' v y/\dR C' n' h' lim s'/\m<=n'/\Fr C0 hs s0 C' h' s'/\P s0 y s')
  (hk:inN b run nw xs e h n kill K=some r):
  ∃v e' h' n' C' y s' w,K v e' h' n'=some r/\RV C' v y/\(∀i w,fQ e' i=some w->∃z,t[i]? =some z/\RV C' w z/\i∉kill)/\dR C' n' h' lim s'/\n<=n'/\Fr C h s C' h' s'/\
   (b=false->w=[])/\∃s0 s1,P s0 y s1/\∀(e7:Hp->aB (AV×Hp)),e7 s0=some (y,s1)->Sim.callX true e7 [] ys s=some (y,s',w):=by
 unfold inN at hk;obtain⟨hs,S,hk,V⟩:=An hk;cases hc:(nw&&(xs.all (wB false (iB hs) 5)&&(Ps (fun _=>false) hs&&(b||hs.isEmpty))))with
 |false=>rw[hc]at hk;exact aD hk
 |true=>
 rw[hc,fS3,cF,fC3]at hk;obtain⟨r1,k0,hk⟩:=hk;simp only[fF3,fW3]at hc;obtain⟨f4,m7,j0,l3⟩:=hc;obtain⟨old,new,hk,M⟩:=An hk;cases hc2:(Ps (iB r1.2.1) old&&(fC1 (iB r1.2.1) new&&wB true (iB r1.2.1) 5 r1.1))with
 |false=>rw[hc2]at hk;exact aD hk
 |true=>
 rw[hc2,fS3,Px]at hk;simp only[fF3]at hc2;obtain⟨f9,e3,i1⟩:=hc2;obtain⟨n3,hk,hU⟩:=Qs hk;obtain⟨n2,hk,b7⟩:=uZ hk;obtain⟨d2,hk,b8⟩:=uZ hk;rw[gE]at hk
 have i0:∀{k o},aK hs k=some o->aK h k=some o/\xs.any (sO k 5)=true:=fun{k o} hk=>by
  have:=(V k).1;rw[hk]at this;split at this;rename_i h1;exact⟨this.symm,h1⟩;cases this
 have nn:∀{k},aK hs k≠none->aK h k≠none:=fun{k} hk=>by
  cases hc:aK hs k with
  |none=>exact absurd hc hk
  |some o=>rw[(i0 hc).1];simp
 have b9:∀{k},aK h k≠none->k<n:=fun{k} hk=>by
  cases hc:aK h k with
  |none=>exact absurd hc hk
  |some o=>obtain⟨pl,p1,_⟩:=O.hr.ob k o hc;exact O.dom k pl p1
 obtain⟨R,hR,d7,f8,d8,l6,l0,m6⟩:=nJ1 O hx i0 m7 j0;have e0:∀{id},id∈R->R.contains id=true:=fun h=>by simpa using h
 obtain⟨v,h1,n1,C1f,y,s1,q1,q2,q3,q4,q5,q6⟩:=k4 hs _ n _ r1 _ l0 m6 k0;unfold Ld at q1;obtain⟨m8,w1⟩:=iY (jE 5) _ _ _ _ q1;obtain⟨n4,w1⟩:=gM _ _ _ _ _ w1;obtain⟨h2,_,w1,d4⟩:=uY w1;cases hch2:(aH1 h2 (tQ hs)&&(bif true then aG1 hs n h2 else aI1 hs h2)&&(oE (iB h2) 5 v&&mX (iB h2) h2))with
 |false=>rw[hch2]at w1;exact aD w1
 |true=>
 rw[hch2,fS3]at w1;cases w1;simp only[fF3,fS3]at hch2 f9 e3 i1 hk M;obtain⟨⟨c1,c2⟩,c3,c4⟩:=hch2
 have X:∀k o,aK h2 k=some o->aK h1 k=some o:=fun k o f0=>by
  rw[(d4 k).1]at f0;split at f0;exact f0;cases f0
 have d3:∀{k},aK hs k≠none->aK h2 k≠none:=fun{k} hk=>Ak c1 k (wJ hk)
 have i7:∀{k},aK h2 k≠none->aK h1 k≠none:=fun{k} hk=>by
  cases hc2:aK h2 k with
  |none=>exact absurd hc2 hk
  |some o=>rw[X k o hc2];simp
 have rs:∀{k pl},oI C1f (iB h2) k=some pl->C1f k=some pl/\aK h2 k≠none:=fun{k pl} hk=>by
  simp only[oI]at hk;split at hk;rename_i hh;exact⟨hk,eQ.1 hh⟩;cases hk
 have G:=q3.part X c4;have h9:=yF (p:=iB h2) q2 c3
 have hf:Fr (cR C (iB hs) R.contains) hs {h:=jR R s.h,n:=s.n} (oI C1f (iB h2)) h2 s1:=⟨q5.sk,q5.n,q5.keep,fun id J S=>by
   rcases S with⟨k,v,e,l,a,b⟩|S;exact q5.own id J (.inl ⟨k,v,e,l,i7 a,(rs b).1⟩);exact q5.own id J (.inr S),fun k o hk=>by
   obtain⟨o',k1,k2⟩:=q5.kd k o hk;cases h2k:aK h2 k with
   |none=>exact absurd h2k (d3 (by rw[hk];simp))
   |some o''=>
    have:=X k o'' h2k;rw[k1]at this;cases this;refine⟨_,rfl,fun hb=>⟨(k2 hb).1,?_⟩⟩;simp only[oI];rw[fJ3 (eQ.2 (by rw[h2k];simp))];exact(k2 hb).2,q5.zl,q5.zn⟩
 generalize oI C1f (iB h2)=C1 at G h9 hf;clear q1 q2 q3 q5 rs k0 d4 i7 X;have d0:s.n<=s1.n:=hf.n
 have Z:∀{k},aK hs k≠none->(∃cs,aK h2 k=some (.box cs)/\cs.all (wB false (iB h2) 5)=true)/\C1 k=C k:=fun{k} hk=>by
  cases hc:aK hs k with
  |none=>exact absurd hc hk
  |some o=>
   obtain⟨o',k1,k2⟩:=hf.kd k o hc;have f:aK old k=some o':=by rw[(M k).1,fJ3 (eQ.2 hk)];exact k1
   obtain⟨cs,rfl,d5⟩:=yJ f9 f;refine⟨⟨cs,k1,d5⟩,((k2 rfl).2).trans ?_⟩;simp only[cR];rw[fJ3 (eQ.2 hk)]
 have g1:∀{id},id<s.n->Own C1 h2 id->∃k v e l,aK hs k≠none/\C k=some (.atp id v e l)/\C1 k=some (.atp id v e l):=fun{id} J S=>by
  rcases hf.own id J S with⟨k,v,e,l,a,b⟩|S;simp only[cR]at b;rw[fJ3 (eQ.2 a)]at b;exact⟨k,v,e,l,a,b,by rw[(Z a).2];exact b⟩;exact absurd rfl S
 have g9:∀{k},aK h2 k≠none->aK hs k≠none\/n<=k:=fun hk=>Al c2 hk
 have Y:∀{k id v e l},aK h2 k≠none->C1 k=some (.atp id v e l)->n<=k->s.n<=id:=fun{k id v e l} hk U hn=>by
  rcases iC3 id s.n with T|h;obtain⟨k',v',e',l',a,b,c⟩:=g1 T (.inl ⟨k,v,e,l,hk,U⟩);have:=G.hr.inj k k' id v e l v' e' l' hk (d3 a) U c;have:=b9 (nn a);omega;exact h
 have i2:∀{id sl},C1.w id=some sl->s.n<=id/\id<s1.n:=fun{id sl} hw=>by
  refine⟨?_,(G.hr.wb id sl hw).1⟩;rcases iC3 id s.n with T|h;obtain⟨k',v',e',l',a,b,c⟩:=g1 T (.inr (by rw[hw];simp));have:=G.hr.wn k' id v' e' l' (d3 a) c;rw[this]at hw;cases hw;exact h
 have k7:∀{id ob},C1.z id=some ob->id<s.n->C.z id=some ob/\id∈R:=fun{id ob} F J=>by
  rcases hf.zn id J (by rw[F];simp)with f|f;cases hc:(cR C (iB hs) R.contains).z id with
  |none=>exact absurd hc f
  |some ob'=>
   have u:=hf.zl id ob' hc;rw[F]at u;cases u;simp only[cR]at hc;split at hc;rename_i hr;exact⟨hc,by simpa using hr⟩;cases hc
  exfalso;rcases f with⟨k,v,e,l,a,b⟩|f;simp only[cR]at b;rw[fJ3 (eQ.2 a)]at b;exact(G.hr.zr id ob F).2.2.1 k v e l (d3 a) (by rw[(Z a).2];exact b);exact f rfl
 have i4:∀{id ob},id∈R->C.z id=some ob->Sim.look s1.h id=some ob:=fun{id ob} hi F=>(G.hr.zr id ob (hf.zl id ob (by simp only[cR];rw[fJ3 (e0 hi)];exact F))).1;obtain⟨p,hp⟩:∃p:Nat->Bool,p=fun id=>R.contains id&&(Nat.blt id s.n&& !([]:aA Nat).contains id):=⟨_,rfl⟩
 obtain⟨q,hq⟩:∃q:Nat->Bool,q=fun id=>p id||(Nat.ble s.n id&&Nat.blt id s1.n):=⟨_,rfl⟩
 have j7:∀id∈R,p id=true:=fun id hi=>by
  rw[hp];simp only[e0 hi,jL3,List.contains_nil,Bool.not_false,Bool.and_true,hR3];exact(d8 hi).1
 have j9:∀id∈R,q id=true:=fun id hi=>by rw[hq];simp only[j7 id hi,jI3]
 have f5:∀{id},s.n<=id->id<s1.n->q id=true:=fun h1 h2=>by rw[hq];simp[h1,h2]
 have l7:∀{k id v e l},aK h2 k≠none->C1 k=some (.atp id v e l)->q id=true:=fun{k id v e l} hk U=>by
  rcases g9 hk with f|f;rw[(Z f).2]at U;exact j9 id (f8 f U);exact f5 (Y hk U f) (G.hr.lt hk U).2
 have l8:∀{id ob},C1.z id=some ob->q id=true:=fun{id ob} F=>by
  rcases iC3 id s.n with T|f;exact j9 id (k7 F T).2;exact f5 f (G.hr.zr id ob F).2.1
 have j3:∀{o:Bool} {x:PV} {y:AV},wB o (iB h2) 5 x=true->RV C1 x y->nameOK q 6 y=true:=fun{o x y} hx i3=>by
  obtain⟨m1,m2⟩:=wK hx i3;refine vA m1 fun id hi=>?_;rcases m2 id hi with⟨k,v,e,l,f,u⟩|⟨ob,f,_⟩
  exact l7 (eQ.1 f) u;exact l8 f
 have b0:∀{k cs},aK h2 k=some (.box cs)->cs.all (wB false (iB h2) 5)=true->∃id ver e l ty esz row,C1 k=some (.atp id ver e l)/\lim<=id/\id<s1.n/\Sim.look s1.h id=some (.arr true ty esz ver [row])/\LR (RV C1) cs row/\gC q (.arr true ty esz ver [row])=true:=fun{k cs} hk d5=>by
  obtain⟨pl,p1,p2⟩:=G.hr.ob k _ hk;cases pl with
  |nil=>exact p2.elim
  |atp id ver e l=>
   obtain⟨a1,a2,ty,esz,row,a3,a4⟩:=p2;refine⟨id,ver,e,l,ty,esz,row,p1,a1,a2,a3,a4,?_⟩;simp only[gC,hA3,List.all_nil,Bool.and_true];exact gV1 a4 fun x hx y hy=>j3 (fH3.1 d5 x hx) hy
 have e9:=rF (R:=R) O.wf
 have e8:∀id ao,Sim.look (jR R s.h) id=some ao->Sim.look s.h id=some ao/\id∈R:=fun id ao hl=>by
  rw[lE]at hl;split at hl;rename_i hr;exact⟨hl,by simpa using hr⟩;cases hl
 have k9:∀{id},id∈R->Sim.look (jR R s.h) id≠none:=fun{id} hi=>by rw[lE,fJ3 (e0 hi)];exact(d8 hi).2
 have g6:∀{id},id∈R->∃ao,Sim.look s1.h id=some ao/\gC q ao=true:=fun{id} hi=>by
  rcases d7 hi with⟨k,v,e,l,f,u⟩|⟨ob,f,u⟩
  obtain⟨⟨cs,N,h6⟩,h7⟩:=Z f;obtain⟨id',ver,e',l',ty,esz,row,b1,_,_,b4,_,b6⟩:=b0 N h6;rw[h7,u]at b1;cases b1;exact⟨_,b4,b6⟩;exact⟨ob,i4 hi f,u.ok⟩
 obtain⟨w,f6,m4⟩:=wL (L:=Sim.look s1.h) e9 fun id ao hl=>by
  obtain⟨ao',f,_⟩:=g6 (e8 id ao hl).2;rw[f];simp
 have k5:∀e∈w,e.1∈R/\Sim.look s1.h e.1=some e.2:=fun e he=>by
  have f:=Sim.changed_mem e9 f6 e he;refine⟨?_,(Sim.changed_spec f6).2 e he⟩;cases hc:Sim.look (jR R s.h) e.1 with
  |none=>rw[hc]at f;cases f.2
  |some ao=>exact(e8 _ _ hc).2
 have f2:∀{id},id<s.n->id∉R->Sim.look (newOK q s.n s1.h++Sim.updAll w s.h) id=Sim.look s.h id:=fun{id} J hn=>by
  rw[Sim.look_newOK_lt J,Sim.look_updAll_ne];intro hm;obtain⟨e,he,rfl⟩:=iS3.1 hm;exact hn (k5 e he).1
 have j2:∀{id},id∈R->Sim.look (newOK q s.n s1.h++Sim.updAll w s.h) id=Sim.look s1.h id:=fun{id} hi=>by
  rw[Sim.look_newOK_lt (d8 hi).1];obtain⟨ao,f,_⟩:=g6 hi;exact xS1 e9 f6 (fun id ao h=>(e8 id ao h).1) (k9 hi) (by rw[f];simp)
 obtain⟨pre,rr,j8,m3,j4⟩:=hf.sk
 have d6:∀{id ao},s.n<=id->Sim.look s1.h id=some ao->gC q ao=true->Sim.look (newOK q s.n s1.h++Sim.updAll w s.h) id=some ao:=fun{id ao} J hl e5=>by
  have hw:=G.wf
  have m0:Sim.look rr id=none:=by
   cases hc:Sim.look rr id with
   |none=>rfl
   |some o=>
    have:∀{a b:aA mQ} {n:Nat},gP a b->Wf b n->Wf a n:=by
     intro a
     induction a with
     |nil=>intro b n h _;trivial
     |cons x a ih=>
      intro b n h hb;cases b with
      |nil=>cases x<;>exact h.elim
      |cons z b=>
       cases x<;>cases z;exact ih (b:=b) h hb;exact h.elim;exact h.elim;exact⟨by rw[h.1];exact hb.1,ih (b:=b) h.2 (by rw[h.1];exact hb.2)⟩
    have:=Wf.lt (this m3 e9) hc;omega
  rw[j8]at hl hw ⊢;exact yI hw j4 m0 hl e5
 have T:∀k,k<n->(mgN C C1 n s.n q) k=C k:=fun k hk=>fJ3 hk;have g8:∀k,n<=k->(mgN C C1 n s.n q) k=C1 k:=fun k hk=>fM3 (by omega);have e6:∀{o},o<s.n->(mgN C C1 n s.n q).w o=C.w o:=fun{o} S=>fJ3 S;have f7:∀{o},s.n<=o->(mgN C C1 n s.n q).w o=C1.w o:=fun{o} S=>fM3 (by omega);have W:∀{o},o<s.n->(mgN C C1 n s.n q).z o=C.z o:=fun{o} S=>fJ3 S;have f1:C.le (mgN C C1 n s.n q):=⟨fun k pl hk=>by rw[T k (O.dom k pl hk)];exact hk,fun id o F=>by rw[W (O.hr.zr id o F).2.1];exact F⟩
 have i6:∀k pl,iB h2 k=true->C1 k=some pl->(mgN C C1 n s.n q) k=some pl:=fun k pl hk U=>by
  rcases g9 (eQ.1 hk)with f|f;rw[T k (b9 (nn f)),<-(Z f).2];exact U;rw[g8 k f];exact U
 have k8:∀{id ob},C1.z id=some ob->CZ ob->(mgN C C1 n s.n q).z id=some ob:=fun{id ob} F g7=>by
  rcases iC3 id s.n with f|f;rw[W f];exact(k7 F f).1;show(if id<s.n then C.z id else _)=_
  rw[fM3 (by omega),F];simp only[g7.ok,gF3]
 have g3:∀{o:Bool} {x:PV} {y:AV},wB o (iB h2) 5 x=true->RV C1 x y->RV (mgN C C1 n s.n q) x y:=fun hx i3=>Ls i6 hx i3 fun id ob _ F g7=>k8 F g7
 have m5:w.all (fun e=>gC q e.2)=true:=by
  rw[fH3];intro e he;obtain⟨f,u⟩:=k5 e he;obtain⟨ao,N,h6⟩:=g6 f;rw[u]at N;cases N;exact h6
 have l5:∀{k},aK hs k=none->∀{o},aK h k=some o->aK S k=some o:=fun{k} hn {o} hk=>by
  have f:=(V k).1;have u:=(V k).2;rw[hn]at f;split at f;rw[hk]at f;cases f;rename_i e1;rw[u,fM3 e1];exact hk
 have l4:∀{k o},aK S k=some o->aK h k=some o/\aK hs k=none:=fun{k o} hk=>by
  have f:=(V k).1;have u:=(V k).2;rw[hk]at u;split at u;cases u;rename_i e1;exact⟨u.symm,by rw[f,fM3 e1]⟩
 have f4:∀{k o},aK new k=some o->aK h2 k=some o/\n<=k:=fun{k o} hk=>by
  have u:=(M k).2;rw[hk]at u;split at u;cases u;rename_i e1;refine⟨u.symm,(g9 (by rw[<-u];simp)).resolve_left fun f=>e1 (eQ.2 f)⟩
 have j6:∀{k},aK hs k=none->aK old k=none:=fun{k} hn=>by
  rw[(M k).1,fM3 (fun f=>eQ.1 f hn)]
 have j5:∀{k o},aK hs k≠none->aK h2 k=some o->aK old k=some o:=fun{k o} f u=>by
  rw[(M k).1,fJ3 (eQ.2 f)];exact u
 have d9:∀{k o},aK d2 k=some o->(aK h2 k=some o/\aK new k=some o/\n<=k)\/(∃cs,aK hs k≠none/\aK h2 k=some (.box cs)/\o=.box (cs.map fun _=>.undef))\/(aK h k=some o/\aK hs k=none):=fun{k o} hk=>by
  rw[b8]at hk;cases hc:aK new k with
  |some o'=>
   rw[hc]at hk;have hk:o'=o:=by simpa using hk
   subst hk;exact .inl ⟨(f4 hc).1,rfl,(f4 hc).2⟩
  |none=>
   rw[hc,b7]at hk;right;cases hc2:aK hs k with
   |none=>
    rw[(hU k).2 (j6 hc2)]at hk;exact .inr ⟨(l4 hk).1,rfl⟩
   |some o'=>
    have f:aK hs k≠none:=by rw[hc2];simp
    obtain⟨⟨cs,u,_⟩,_⟩:=Z f;rw[(hU k).1 cs (j5 f u)]at hk;left;have hk:eT.box (cs.map fun _=>.undef)=o:=by simpa using hk
    exact⟨cs,by simp,u,hk.symm⟩
 have H:∀{k id v e l},aK d2 k≠none->(mgN C C1 n s.n q) k=some (.atp id v e l)->(k<n/\aK h k≠none/\C k=some (.atp id v e l)/\id<s.n)\/(n<=k/\aK h2 k≠none/\C1 k=some (.atp id v e l)/\s.n<=id):=fun{k id v e l} hk U=>by
  cases hc:aK d2 k with
  |none=>exact absurd hc hk
  |some o=>
   rcases d9 hc with⟨f,_,u⟩|⟨cs,f,_,_⟩|⟨f,_⟩
   rw[g8 k u]at U;exact .inr ⟨u,by rw[f];simp,U,Y (by rw[f];simp) U u⟩;have N:=nn (k:=k) f;rw[T k (b9 N)]at U;exact .inl ⟨b9 N,N,U,(O.hr.lt N U).2⟩;have N:aK h k≠none:=by rw[f];simp
   rw[T k (b9 N)]at U;exact .inl ⟨b9 N,N,U,(O.hr.lt N U).2⟩
 have k6:∀{id ob},C.z id=some ob->Sim.look (newOK q s.n s1.h++Sim.updAll w s.h) id=some ob:=fun{id ob} F=>by
  obtain⟨z1,z2,_,_⟩:=O.hr.zr id ob F;by_cases hi:id∈R;rw[j2 hi];exact i4 hi F;rw[f2 z2 hi];exact z1
 have l1:∀{k id v e l},aK hs k=none->aK h k≠none->C k=some (.atp id v e l)->id∉R:=fun{k id v e l} hn hk U hi=>by
  rcases d7 hi with⟨k',v',e',l',f,u⟩|⟨ob,f,_⟩
  have:=O.hr.inj k k' id v e l v' e' l' hk (nn f) U u;subst this;exact f hn;exact(O.hr.zr id ob f).2.2.1 k v e l hk U
 have l2:∀{id sl},C.w id=some sl->id∉R:=fun{id sl} hw hi=>by
  rcases d7 hi with⟨k',v',e',l',f,u⟩|⟨ob,f,_⟩
  rw[O.hr.wn k' id v' e' l' (nn f) u]at hw;cases hw;rw[O.hr.wz id ob f]at hw;cases hw
 refine⟨v,edel e kill,d2,n1,mgN C C1 n s.n q,y,{h:=newOK q s.n s1.h++Sim.updAll w s.h,n:=s1.n},w.map (·.1),hk,g3 i1 h9,fun i w hw=>?_,?_,q4,?_,fun hb=>?_,_,s1,q6,fun e7 l9=>?_⟩;obtain⟨z,p1,p2,p3⟩:=(he.mono f1).edel kill i w hw;exact⟨z,p1,p2,p3⟩;refine⟨⟨fun k o hk=>?_,fun k k' id v e l v' e' l' a b c d=>?_,fun id o F=>?_,fun k id v e l a b=>?_,fun id sl hw=>?_,fun id o F=>?_⟩,fun k pl hk=>?_,(O.wf.updAll _).newOK G.wf d0,gH3 O.lim d0⟩;rcases d9 hk with⟨f,g5,u⟩|⟨cs,N,h6,rfl⟩|⟨f,g5⟩
 obtain⟨pl,p1,p2⟩:=G.hr.ob k o f;refine⟨pl,i6 _ _ (eQ.2 (by rw[f];simp)) p1,?_⟩;rcases Qt e3 g5 with⟨ty,e,g,rows,rfl,m9⟩|⟨t,rows,rfl⟩|⟨cs,rfl,d5⟩
 cases pl with
 |nil=>exact p2
 |atp id ver e' len=>
  obtain⟨a1,a2,a3,a4,els,a5,a6,a7,a8⟩:=p2;refine⟨a1,a2,a3,a4,els,d6 (Y (by rw[f];simp) p1 u) a5 ?_,a6,a7,a8⟩;simp only[gC,fH3];intro row k3 c hc;obtain⟨i,hi⟩:=fQ3.1 k3;exact Lq (SL.cut a6 a7.2 0 i row (gU3 _) hi c hc)
 obtain⟨ty,e,ks⟩:=t;cases pl with
 |nil=>exact p2
 |atp id ver e' len=>
  obtain⟨a1,a2,a3,a4,af,els,d,a5,a6,a7⟩:=p2
  have i5:∀(i:Nat) (r:aA PV) (r':aA AV),rows[i]? =some r->els[i]? =some r'->r.length=r'.length/\∀(j:Nat) (a:PV) (b:AV),r[j]? =some a->r'[j]? =some b->match gZ ks j with
    |none=>RC true a b
    |some t=>gH (Sim.look s1.h) C1.w lim s1.n d (id,i,j) t a b:=fun i r r' c1 c2=>⟨(a7 i r r' c1 c2).1,fun j a b c3 c4=>by
   have:=(a7 i r r' c1 c2).2 j a b c3 c4;unfold TC at this;cases hkd:gZ ks j with
   |none=>rw[hkd]at this;exact this
   |some t=>
    rw[hkd]at this;rcases this with⟨⟨x,hx⟩,_⟩|⟨_,this⟩
    cases hx;exact this⟩
  have e5:=Xt (lo:=s.n) (q:=q) (ty:=ty) (e:=e) (ver:=ver) (fun o h1 h2=>f5 h1 h2) (fun o sl h=>(i2 h).1) a6 i5;refine⟨a1,a2,a3,a4,af,els,d,d6 (Y (by rw[f];simp) p1 u) a5 e5,a6,fun i r r' c1 c2=>⟨(a7 i r r' c1 c2).1,fun j a b c3 c4=>?_⟩⟩;have:=(i5 i r r' c1 c2).2 j a b c3 c4;unfold TC;cases hkd:gZ ks j with
  |none=>rw[hkd]at this;exact this
  |some t=>
   rw[hkd]at this;exact .inr ⟨fun⟨x,hx⟩=>(by cases hx),this.merge (lo:=s.n) (fun o h1 h2=>f5 h1 h2) (fun o sl h=>⟨(i2 h).1,by rw[f7 (i2 h).1];exact h⟩) (fun o ao h0 h1 h2=>d6 h0 h1 h2)⟩
 obtain⟨id,ver,e,l,ty,esz,row,b1,b2,b3,b4,b5,b6⟩:=b0 f d5;rw[p1]at b1;cases b1;refine⟨b2,b3,ty,esz,row,d6 (Y (by rw[f];simp) p1 u) b4 b6,b5.1,fun j x y a b=>g3 (fH3.1 d5 x (fL3 a)) (b5.2 j x y a b)⟩;obtain⟨⟨cs2,i9,h7⟩,h8⟩:=Z N;rw[h6]at i9;cases i9;obtain⟨id,ver,e,l,ty,esz,row,b1,b2,b3,b4,b5,b6⟩:=b0 h6 h7;have g4:=b1;rw[h8]at g4;refine⟨.atp id ver e l,f1.1 _ _ g4,b2,b3,ty,esz,row,by rw[j2 (f8 N g4)];exact b4,by rw[gV3];exact b5.1,fun j x y a b=>?_⟩;rw[gG3]at a;cases hc:cs[j]? with
 |none=>rw[hc]at a;cases a
 |some c=>rw[hc]at a;cases a;exact .undef
 obtain⟨pl,p1,p2⟩:=O.hr.ob k o f;refine⟨pl,f1.1 _ _ p1,p2.mono d0 f1 (fun id v e l hp=>?_) (fun o2 sl S=>?_)⟩;subst hp;exact f2 (O.hr.lt (by rw[f];simp) p1).2 (l1 g5 (by rw[f];simp) p1);have:=(O.hr.wb o2 sl S).1;exact⟨by rw[e6 this];exact S,f2 this (l2 S)⟩;rcases H a c with⟨a1,a2,a3,a4⟩|⟨a1,a2,a3,a4⟩<;>rcases H b d with⟨b1,b2,b3,b4⟩|⟨b1,b2,b3,b4⟩
 exact O.hr.inj k k' id v e l v' e' l' a2 b2 a3 b3;omega;omega;exact G.hr.inj k k' id v e l v' e' l' a2 b2 a3 b3;rcases iC3 id s.n with f|f;rw[W f]at F;obtain⟨z1,z2,z3,z4⟩:=O.hr.zr id o F;refine⟨k6 F,gN3 z2 d0,fun k v e l a b=>?_,z4⟩;rcases H a b with⟨a1,a2,a3,a4⟩|⟨a1,a2,a3,a4⟩
 exact z3 k v e l a2 a3;omega;have F:(if id<s.n then C.z id else match C1.z id with|some o=>if gC q o then some o else none|none=>none)=some o:=F;rw[fM3 (by omega)]at F;cases hc:C1.z id with
 |none=>rw[hc]at F;cases F
 |some o'=>
  rw[hc]at F;simp only at F;split at F;rename_i e5;cases F;obtain⟨z1,z2,z3,z4⟩:=G.hr.zr id _ hc;refine⟨d6 f z1 e5,z2,fun k v e l a b=>?_,z4⟩;rcases H a b with⟨a1,a2,a3,a4⟩|⟨a1,a2,a3,a4⟩
  omega;exact z3 k v e l a2 a3;cases F
 rcases H a b with⟨a1,a2,a3,a4⟩|⟨a1,a2,a3,a4⟩
 rw[e6 a4];exact O.hr.wn k id v e l a2 a3;rw[f7 a4];exact G.hr.wn k id v e l a2 a3;rcases iC3 id s.n with f|f;rw[e6 f]at hw;have:=O.hr.wb id sl hw;exact⟨gN3 f d0,gN3 this.2 d0⟩;rw[f7 f]at hw;exact G.hr.wb id sl hw;rcases iC3 id s.n with f|f;rw[W f]at F;rw[e6 f];exact O.hr.wz id o F;have F:(if id<s.n then C.z id else match C1.z id with|some o=>if gC q o then some o else none|none=>none)=some o:=F;rw[fM3 (by omega)]at F;rw[f7 f];cases hc:C1.z id with
 |none=>rw[hc]at F;cases F
 |some o'=>exact G.hr.wz id _ hc
 rcases iC3 k n with f|f;omega;rw[g8 k f]at hk;exact G.dom k pl hk;refine⟨⟨newOK q s.n s1.h,Sim.updAll w s.h,rfl,?_,aX1⟩,d0,fun id J S=>?_,fun id J S=>?_,fun k o hk=>?_,fun id o F=>by rw[W (O.hr.zr id o F).2.1];exact F,fun id J F=>?_⟩
 have:∀(w:aA (Nat×AO)) (h:aA mQ),gP (Sim.updAll w h) h:=by
  intro w
  induction w with
  |nil=>intro h;exact .refl _
  |cons e w ih=>intro h;exact(ih _).trans (.upd h _ _)
 exact this w s.h;by_cases hi:id∈R;rcases d7 hi with⟨k,v,e,l,f,u⟩|⟨ob,f,_⟩
 exact absurd (.inl ⟨k,v,e,l,nn f,u⟩) S;rw[k6 f];exact(O.hr.zr id ob f).1.symm;exact f2 J hi;rcases S with⟨k,v,e,l,a,b⟩|S;rcases H a b with⟨a1,a2,a3,a4⟩|⟨a1,a2,a3,a4⟩
 exact .inl ⟨k,v,e,l,a2,a3⟩;omega;rw[e6 J]at S;exact .inr S;have hkl:=b9 (k:=k) (by rw[hk];simp)
 have e4:aK new k=none:=by
  cases hc:aK new k with
  |none=>rfl
  |some o'=>have:=(f4 hc).2;omega
 cases hc2:aK hs k with
 |none=>exact⟨o,by rw[b8,e4,b7,(hU k).2 (j6 hc2),l5 hc2 hk];rfl,fun hb=>⟨hb,T k hkl⟩⟩
 |some o'=>
  obtain⟨cs,rfl,_⟩:=yJ j0 hc2;have f:=(i0 hc2).1;rw[hk]at f;cases f;have N:aK hs k≠none:=by rw[hc2];simp
  obtain⟨⟨cs2,u,_⟩,_⟩:=Z N;exact⟨_,by rw[b8,e4,b7,(hU k).1 cs2 (j5 N u)];rfl,fun _=>⟨rfl,T k hkl⟩⟩
 rw[W J]at F;exact .inl F
 have:hs=[]:=by
  rcases l3 with f|f;rw[hb]at f;cases f;simpa using f
 rw[m4 fun id ao hl=>?_];rfl;obtain⟨f,u⟩:=e8 id ao hl;rcases d7 u with⟨k,v,e,l,N,_⟩|⟨ob,N,_⟩
 rw[this]at N;exact absurd rfl N;have h6:=(O.hr.zr id ob N).1;rw[f]at h6;cases h6;exact i4 u N;obtain⟨A,B⟩:=l6 j7;have D:=j3 i1 h9;have E:=m5;unfold Sim.callX;simp only[<-hR,Sim.hide,l9,f6];subst hq;subst hp;simp only[A,B,D,E,iE3,jI3,gF3]
end
end Go.P
namespace Go.P
open Go.Sim (AV AO Hp mQ upd St IC IX Ex iV CK Wf Out doOp mO exec Foot wanted put)
section
variable {R:Type} {T:mO} {O:Hk} {X:NX} {dr:Nat}
def Xu {C}:∀{es:aA (aB Nat)} {cs:aA PV} {ys:aA AV} {K:aA PV->aB R} {r:R},LR (RV C) cs ys->aJ1 es cs K=some r->∃cs',K cs'=some r/\LR (RV C) cs' ys
 |[],[],ys,K,r,hl,h=>⟨[],h,hl⟩
 |o::os,x::xs,ys,K,r,hl,h=>by
  obtain⟨y,c,rfl,h1,h2⟩:=hl.inv_cons
  unfold aJ1 at h
  obtain⟨cs',a,b⟩:=Xu h2 h
  cases o with
  |none=>exact⟨_,a,.cons h1 b⟩
  |some e=>
   simp only at a
   split at a
   have:=iX h1
   subst this
   exact⟨_,a,.cons (.cl .isn) b⟩
   exact aD a
 |[],_::_,_,_,_,_,h=>by unfold aJ1 at h;exact aD h
 |_::_,[],_,_,_,_,h=>by unfold aJ1 at h;exact aD h
def nL1 {C} {n} {h} {lim} {s} (u:dR C n h lim s) {k id ver e len} {cs cs2} {ty e'} {g} (hk:aK h k=some (.box cs)) (x:C k=some (.atp id ver e len))
  (y:∀row,LR (RV C) cs row->LR (RV (ext C n .nil)) cs2 row):
  dR (ext C n .nil) (n+1) ((n,qZ ty e' g)::dB h k (.box cs2)) lim s/\Fr C h s (ext C n .nil) ((n,qZ ty e' g)::dB h k (.box cs2)) s:=by
 obtain⟨p,r⟩:=Uk u (ty:=ty) (e:=e') (g:=g);have D:n≠k:=by have:=u.dom _ _ x;omega
 have m:∀j,aK ((n,qZ ty e' g)::dB h k (.box cs2)) j≠none->aK ((n,qZ ty e' g)::h) j≠none:=fun j f=>by
  simp only[aK]at f ⊢;split;simp;rename_i h1;rw[fM3 h1,eJ]at f;split at f
  grind
  exact f
 refine⟨⟨⟨fun j o f=>?_,fun j B i v1 q w v2 e2 H a b c d=>p.hr.inj j B i v1 q w v2 e2 H (m j a) (m B b) c d,fun i o E=>?_,fun j i v1 q w a b=>p.hr.wn j i v1 q w (m j a) b,p.hr.wb,p.hr.wz⟩,p.dom,p.wf,p.lim⟩,⟨r.sk,r.n,r.keep,fun i hi z=>?_,fun j o f=>?_,r.zl,r.zn⟩⟩;simp only[aK]at f;split at f;rename_i h1;exact p.hr.ob j o (by simp[aK,h1];simpa using f);rename_i h1;rw[eJ]at f;split at f;rename_i h2;obtain⟨rfl,_⟩:=h2;cases f;obtain⟨pl,q1,q2⟩:=u.hr.ob _ _ hk;rw[x]at q1;cases q1;obtain⟨p1,p2,A,esz,row,p3,p4⟩:=q2;exact⟨_,(nH u .nil).1 _ _ x,p1,p2,A,esz,row,p3,y row p4⟩;exact p.hr.ob j o (by simp[aK,h1,f]);obtain⟨z1,z2,z3,z4⟩:=p.hr.zr i o E;exact⟨z1,z2,fun j v e l a b=>z3 j v e l (m j a) b,z4⟩;rcases z with⟨j,v1,q,w,F,G⟩|z;exact r.own i hi (.inl ⟨j,v1,q,w,m j F,G⟩);exact r.own i hi (.inr z);obtain⟨o',q1,q2⟩:=r.kd j o f;have t:n≠j:=fun q=>by rw[uS u (by omega)]at f;cases f
 by_cases q:j=k;subst q;rw[hk]at f;cases f;exact⟨.box cs2,by simp[aK,t,eJ,hk],fun _=>⟨rfl,by simp[ext,Ne.symm t]⟩⟩;refine⟨o',?_,q2⟩;simpa[aK,t,eJ,q]using q1
structure NOK (T:mO) (X:NX):Prop where
 run:∀{R:Type} (f:FuncId) (xs:List PV) (h:bA) (n:Nat) (K:PV->bA->Nat->Option R) (r:R) (C:Cx) (s:Hp) (lim:Nat) (ys:List AV),
  X.is f=true->X.run f xs h n K=some r->LR (RV C) xs ys->dR C n h lim s->
  ∃v h' n' C' y s',K v h' n'=some r/\RV C' v y/\dR C' n' h' lim s'/\n<=n'/\Fr C h s C' h' s'/\(∃ifn,T f=some ifn/\ifn.pure=false/\ifn.frz=X.xw f)/\∃D,∀d,D<=d->Sim.callF T (exec T d) lim f ys s=some (y,s')
 yld:∀{R:Type} (k:Nat) (xs:List PV) (h:bA) (n:Nat) (K:PV->bA->Nat->Option R) (r:R) (C:Cx) (s:Hp) (lim:Nat) (ys:List AV) (id ver e len:Nat),
  X.yld k xs h n K=some r->LR (RV C) xs ys->C k=some (.atp id ver e len)->dR C n h lim s->
  ∃v h' n' C' y s',K v h' n'=some r/\RV C' v y/\dR C' n' h' lim s'/\n<=n'/\Fr C h s C' h' s'/\∃D,∀d,D<=d->Sim.round (exec T d) lim id ys s=some (y,s')
def Gd:∀{h} {id} {o},Sim.look h id=some o->upd h id o=h
 |[],_,_,h=>by simp[Sim.look]at h
 |.mark::r,id,o,h=>by simp only[Sim.look]at h;simp only[Sim.upd,Gd h]
 |.ob i o'::r,id,o,h=>by
  simp only[Sim.look]at h
  simp only[Sim.upd]
  split at h
  grind
  rename_i e;rw[fM3 e,Gd h]
def Xv:∀{xs} {t ys},Sim.evs t xs=some ys->ys.length=xs.length
 |[],t,ys,h=>by simp only[Sim.evs,fN3]at h;subst h;rfl
 |x::xs,t,ys,h=>by
  simp only[Sim.evs]at h
  split at h
  rename_i a as c b;cases h;simp[Xv b]
  cases h
def gX1 {C} {n} {h} {lim} {s} {ty} {zero} {as} {ys} (o:dR C n h lim s) (k:LR (RV C) as ys) (r:zero.length=1) (hf:as.all mN1=true):
  ∃C' out,doOp (Sim.look s.h) lim s.n (.buildSl ty 1 as.length zero (List.range as.length)) ys=some out/\RV C' (.own n) out.v/\dR C' (n+1) ((n,.fl as)::h) lim (out.apply s)/\C.le C'/\Fr C h s C' ((n,.fl as)::h) (out.apply s):=by
 have hc:∀(j:Nat) (y:AV),ys[j]? =some y->y.cells=some [y]:=fun j y hy=>by
  have q:j<as.length:=by rw[k.1];exact(fE3.1 hy).1
  have hv:=k.2 j as[j] y (by simp) hy;have l:=fH3.1 hf as[j] (by simp);cases ha:as[j]with
  |fn f a b=>rw[ha]at hv;obtain⟨a',b',rfl,_⟩:=tU hv;rfl
  |_=>rw[ha]at l;simp[mN1]at l
 have hlen:=k.1;have p:(Sim.zeroRow zero).length=1:=by simp[Sim.zeroRow,r]
 have d:=uW 1 as.length 0 ((List.range as.length).flatMap fun _=>Sim.zeroRow zero) ys (ys.map fun y=>[y]) (by rw[yC,p,List.length_range];simp) hlen.symm (by simp[hlen]) (fun j x k=>⟨[x],hc j x k,rfl,by simp[k]⟩);simp only[jF3,List.take_zero,jB3]at d;have g:=Wz 1 (ys.map fun y=>[y]) (fun c hc=>by simp at hc;obtain⟨y,_,rfl⟩:=hc;rfl);rw[gV3,<-hlen]at g;have m:=nH o (.atp s.n 0 1 as.length)
 obtain⟨u,w,z⟩:=rX o (po:=.fl as) (ao:=.arr false ty 1 0 (ys.map fun y=>[y])) (ver:=0) (e:=1) (len:=as.length)
  ⟨o.lim,by omega,rfl,rfl,ty,_,by rw[gG,fJ3 rfl],by simp[hlen],fun i f row a b=>by
   simp only[gG3,fG3]at b;obtain⟨y,hy,rfl⟩:=b;exact .cons ((k.2 i f y a hy).mono m) .nil⟩
 refine⟨_,{v:=.sl 1 s.n 0 0 as.length none,new:=some (.arr false ty 1 0 (ys.map fun y=>[y]))},?_,.own (pJ C n _),u,m,w⟩
 have:doOp (Sim.look s.h) lim s.n (.buildSl ty 1 as.length zero (List.range as.length)) ys=(Sim.fillParts ((List.range as.length).flatMap fun _=>Sim.zeroRow zero) ((List.range as.length).map fun i=>(i*1,1)) ys).map fun cs=>
  {v:=.sl 1 s.n 0 0 as.length none,new:=some (.arr false ty 1 0 ((List.range as.length).map fun i=>(cs.drop (i*1)).take 1))}:=by
  rcases ys with _|⟨a,_|⟨b,_|⟨c,t⟩⟩⟩<;>rfl
 rw[<-List.range_eq_range']at d;rw[this,d];simp only[gB3];rw[g]
def Jv {a b} (h:¬a<=b):Nat.ble a b=false:=by
 cases hb:Nat.ble a b with
 |false=>rfl
 |true=>exact absurd (fK3 hb) h
def eL (Y:∀f xs v,O f xs=some v->sB T f xs v) (S:NOK T X) (u:dr=0\/dr=3\/dr=4\/5<=dr) {N lim} {R}:∀(ops:kT) (q E:aA Nat) (l:Bool) (g:aB (Nat×Bool)) (C:Cx) (n:Nat) (h:bA) (e:gL) (t:aA AV) (s:Hp) (K:gL->bA->Nat->aB R) (r:R),
  fU O X dr ops e h n K=some r->eU C e t->dR C n h lim s->t.length=N->lD N q l E ops=true->Xo g t->GIn g q->
  ∃e' h' n' C' M s' fs,K e' h' n'=some r/\Tr T X.is dr lim (rV g ops) {t:=t,s:=s} fs {t:=M,s:=s'}/\eU C' e' M/\dR C' n' h' lim s'/\M.length=N/\n<=n'/\Fr C h s C' h' s'/\∀(i:Nat),i∉eI ops []->M[i]? =t[i]?
 |.nil,q,E,l,g,C,n,h,e,t,s,K,r,hk,he,hM,hN,ho,hg,hgi=>⟨e,h,n,C,t,s,[],by unfold fU at hk;exact hk,.nil,he,hM,hN,fI3 _,.refl _ _ _,fun _ _=>rfl⟩
 |.op d k xs kl rs,q,E,l,g,C,n,h,e,t,s,K,r,hk,he,hM,hN,ho,hg,hgi=>by
  simp only[lD,fF3,fX3,iW,hR3]at ho
  obtain⟨⟨⟨o1,o2⟩,o3⟩,o4⟩:=ho
  have hd:d<t.length:=by omega
  have J:d∉q:=by simpa using o2
  have back:∀{y:AV} {M:aA AV},(∀(i:Nat),i∉eI rs []->M[i]? =(t.set d y)[i]?)->∀(i:Nat),i∉eI (.op d k xs kl rs) []->M[i]? =t[i]? :=fun hb i hi=>by
   simp only[eI,fT3,iH3]at hi
   rw[hb i hi.2,fU3 (Ne.symm hi.1)]
  unfold fU at hk
  rw[kU,fC3]at hk
  obtain⟨vs,Z,hk⟩:=hk
  obtain⟨ys,h1,h2⟩:=mB he o3 Z
  have d3:∀{f:FuncId} {xs':aA PV} {zs:aA AV},Br O f xs' h (fun v=>mF e (d::kl) fun e=>fU O X dr rs ((d,v)::e) h n K)=some r->LR (RV C) xs' zs->kF k=true->(lI X.is dr k=3\/lI X.is dr k=4)->
    ((∃ifn,T f=some ifn/\ifn.pure=true/\(ifn.frz||zs.all (Sim.closed 4))=true)->Sim.foot T k ys={all:=1,x:=true})->(∀(d:Nat) (s:Hp),Sim.step T (exec T d) lim k ys s=Sim.callF T (exec T d) lim f zs s)->
    ∃e' h' n' C' M s' fs,K e' h' n'=some r/\Tr T X.is dr lim (rV g (.op d k xs kl rs)) {t:=t,s:=s} fs {t:=M,s:=s'}/\eU C' e' M/\dR C' n' h' lim s'/\M.length=N/\n<=n'/\Fr C h s C' h' s'/\∀(i:Nat),i∉eI (.op d k xs kl rs) []->M[i]? =t[i]? :=by
   intro f xs' zs hk hz hc f7 hf g5;obtain⟨v,y,B,h4,h5,D,h6⟩:=Qi (lim:=lim) Y hM hk hz;simp only[gE]at B
   have A:eU C ((d,v)::edel e (d::kl)) (t.set d y):=.put hd (.cl h4) (fun i w hw=>by
    obtain⟨z,p1,p2,p3⟩:=he.edel (d::kl) i w hw;exact⟨z,p1,p2,fun W=>p3 (by simp[W])⟩)
   obtain⟨e2,b7,F,C2,H,G,fs,r1,r2,r3,r4,r5,r6,r7,r8⟩:=eL Y S u rs q (d::E) l g C n h _ _ s K r B A hM (by simpa using hN) o4 (hg.set hgi J) hgi;exact⟨e2,b7,F,C2,H,G,_,r1,.call (o:=⟨some d,k,xs.map eX,g⟩) hg.wanted h1 hc f7 (hf h5) ⟨D,fun d hd m=>by rw[g5];exact h6 d hd m⟩ r2,r3,r4,r5,r6,r7,back r8⟩
  have ncall:∀{run:bA->Nat->(PV->bA->Nat->aB (PV×bA×Nat))->aB (PV×bA×Nat)} {xs':aA PV} {zs:aA AV} {P:AV->Hp->Prop} {nw fx:Bool},LR (RV C) xs' zs->
    (∀(hs:bA) (C0:Cx) (m:Nat) (K':PV->bA->Nat->aB (PV×bA×Nat)) (r':PV×bA×Nat),dR C0 m hs lim s->LR (RV C0) xs' zs->run hs m K'=some r'->
     ∃v h' n' C' y s',K' v h' n'=some r'/\RV C' v y/\dR C' n' h' lim s'/\m<=n'/\Fr C0 hs s C' h' s'/\P y s')->
    kF k=true->(∀y s',P y s'->((Sim.foot T k ys).all=2\/dr=0)/\(dr≠0->lI X.is dr k=4)/\∃D,∀d,D<=d->Sim.step T (exec T d) lim k ys s=some (y,s'))->
    mM1 fx run nw xs' e h n (d::kl) (fun v e h n=>fU O X dr rs ((d,v)::e) h n K)=some r->
    ∃e' h' n' C' M s' fs,K e' h' n'=some r/\Tr T X.is dr lim (rV g (.op d k xs kl rs)) {t:=t,s:=s} fs {t:=M,s:=s'}/\eU C' e' M/\dR C' n' h' lim s'/\M.length=N/\n<=n'/\Fr C h s C' h' s'/\∀(i:Nat),i∉eI (.op d k xs kl rs) []->M[i]? =t[i]? :=by
   intro run xs' zs P nw fx hz e9 f6 hP hk;obtain⟨v,e',h',n',C',y,s',q1,q2,q3,q4,q5,q6,q7⟩:=gR1 hM he hz e9 hk;obtain⟨p1,p2,p3⟩:=hP y s' q7
   have A:eU C' ((d,v)::e') (t.set d y):=.put hd q2 (fun i w hw=>by
    obtain⟨z,p1,p2,p3⟩:=q3 i w hw;exact⟨z,p1,p2,fun W=>p3 (by simp[W])⟩)
   obtain⟨e2,b7,F,C2,H,G,fs,r1,r2,r3,r4,r5,r6,r7,r8⟩:=eL Y S u rs q (d::E) l g C' n' h' _ _ s' K r q1 A q4 (by simpa using hN) o4 (hg.set hgi J) hgi;exact⟨e2,b7,F,C2,H,G,_,r1,.ncall (o:=⟨some d,k,xs.map eX,g⟩) hg.wanted h1 f6 p1 p2 p3 q6.n r2,r3,r4,r5,by omega,q6.trans r7,back r8⟩
  split at hk;rename_i ty es b zero x1 x2;obtain⟨y1,b6,rfl,p1,p2⟩:=h2.inv_cons;obtain⟨y2,d9,rfl,p3,p4⟩:=p2.inv_cons;have:=p4.inv_nil;subst this;obtain⟨C',e',h',out,q1,q2,q3,q4,q5⟩:=mY1 hM (b:=b) (zero:=zero) he hd p1 p3 hk;obtain⟨e2,B,F,C2,H,G,fs,r1,r2,r3,r4,r5,r6,r7,r8⟩:=eL Y S u rs q (d::E) l g C' n h' e' _ _ K r q1 q4 q3 (by simpa using hN) o4 (hg.set hgi J) hgi;exact⟨e2,B,F,C2,H,G,_,r1,.op (o:=⟨some d,_,xs.map eX,g⟩) hg.wanted h1 rfl q2 r2,r3,r4,r5,r6,q5.trans r7,back r8⟩;rename_i es k0 kd hi;obtain⟨y1,b6,rfl,p1,p2⟩:=h2.inv_cons;obtain⟨y2,d9,rfl,p3,p4⟩:=p2.inv_cons;have:=p4.inv_nil;subst this;obtain⟨C',e',h',out,q1,q2,q3,q4,q5⟩:=aT1 hM he hd p1 p3 hk;obtain⟨e2,B,F,C2,H,G,fs,r1,r2,r3,r4,r5,r6,r7,r8⟩:=eL Y S u rs q (d::E) l g C' n h' e' _ _ K r q1 q4 q3 (by simpa using hN) o4 (hg.set hgi J) hgi;exact⟨e2,B,F,C2,H,G,_,r1,.op (o:=⟨some d,_,xs.map eX,g⟩) hg.wanted h1 rfl q2 r2,r3,r4,r5,r6,q5.trans r7,back r8⟩;rename_i f;cases hX1:X.is f with
  |true=>
   rw[hX1,fS3]at hk;by_cases h6:6<=dr;rw[Nat.ble_eq_true_of_le h6,fS3]at hk;cases L:X.xw f with
   |false=>rw[L]at hk;exact aD hk
   |true=>
    rw[L,fS3]at hk
    obtain⟨v,e',h',n',C',y,s',w,q1,q2,q3,q4,q5,q6,q7,s0,s1,⟨⟨ifn,w3,w4,w5⟩,D,w6⟩,w7⟩:=nK1 (P:=fun s0 y s'=>(∃ifn,T f=some ifn/\ifn.pure=false/\ifn.frz=true)/\∃D,∀d,D<=d->Sim.callF T (exec T d) lim f ys s0=some (y,s')) hM he h2 (fun hs C0 m K' r' s0 b0 b4 hr=>by
     have:=S.run f vs hs m K' r' C0 s0 lim ys hX1 hr b4 b0;rw[L]at this;exact this) hk
    have A:eU C' ((d,v)::e') (t.set d y):=.put hd q2 (fun i w hw=>by
     obtain⟨z,p1,p2,p3⟩:=q3 i w hw;exact⟨z,p1,p2,fun W=>p3 (by simp[W])⟩)
    obtain⟨e2,b7,F,C2,H,G,fs,r1,r2,r3,r4,r5,r6,r7,r8⟩:=eL Y S u rs q (d::E) l g C' n' h' _ _ s' K r q1 A q4 (by simpa using hN) o4 (hg.set hgi J) hgi;refine⟨e2,b7,F,C2,H,G,_,r1,.ycall (o:=⟨some d,.callF f,xs.map eX,g⟩) (w:=w) hg.wanted h1 rfl ?_ (by simp[Sim.foot,w3,w4,w5]) ⟨D,fun d hd=>w7 _ (w6 d hd)⟩ q6.n r2,r3,r4,r5,by omega,q6.trans r7,back r8⟩;simp only[lI,hX1,gF3];rw[fJ3 h6];by_cases e6:f+6=dr;rw[fJ3 e6];exact .inl rfl;rw[fM3 e6];exact .inr ⟨rfl,q7 (by rw[bJ];exact gJ3 e6)⟩
   rw[Jv h6,fZ3]at hk;cases L:(X.xw f&& !(Nat.beq dr 0))with
   |true=>rw[L]at hk;exact aD hk
   |false=>
   rw[L,fZ3]at hk;refine ncall (P:=fun y s'=>(∃ifn,T f=some ifn/\ifn.pure=false/\ifn.frz=X.xw f)/\∃D,∀d,D<=d->Sim.callF T (exec T d) lim f ys s=some (y,s')) h2 (fun hs C0 m K' r' b0 b4 hr=>S.run f vs hs m K' r' C0 s lim ys hX1 hr b4 b0) rfl (fun y s' hp=>⟨?_,fun _=>by simp[lI,hX1,h6],hp.2⟩) hk;obtain⟨⟨ifn,w1,w2,w3⟩,_⟩:=hp;by_cases h0:dr=0;exact .inr h0;left;rw[bJ,gJ3 h0]at L;have L:X.xw f=false:=by simpa using L
   rw[L]at w3;simp[Sim.foot,w1,w2,w3]
  |false=>
   rw[hX1,fZ3]at hk;refine d3 hk h2 rfl (by simp[lI,hX1]) (fun⟨ifn,w1,w2,w3⟩=>?_) (fun d s=>rfl);simp only[Sim.foot,w1,w2,w3,gF3,iE3]
  rename_i k0 as;obtain⟨y1,b6,rfl,p1,p2⟩:=h2.inv_cons;obtain⟨id,ver,W,len,hC,rfl⟩:=Lg p1;by_cases d6:dr=3\/5<=dr;rw[show(Nat.beq dr 3||Nat.ble 5 dr)=true by simpa[bJ,iO3]using d6]at hk;exact aD hk;have B:dr≠3:=fun h=>d6 (.inl h);have h5:¬5<=dr:=fun h=>d6 (.inr h);rw[bJ,gJ3 B,Jv h5,Bool.or_false,fZ3]at hk;refine ncall (fx:=false) (P:=fun y s'=>∃D,∀d,D<=d->Sim.round (exec T d) lim id b6 s=some (y,s')) (xs':=.yld k0::as) (zs:=.fn (.yield id) [] []::b6) h2 (fun hs C0 m K' r' b0 b4 hr=>?_) rfl (fun y s' hp=>⟨.inl rfl,fun h0=>by simp only[lI];rw[fJ3 (by omega)],hp⟩) hk;obtain⟨y1,d9,e2,p3,p4⟩:=b4.inv_cons;cases e2;obtain⟨id',h9,e',g9,f1,e3⟩:=Lg p3;cases e3;exact S.yld k0 as hs m K' r' C0 s lim _ _ _ _ _ hr p4 f1 b0;rename_i f first cap as
  obtain⟨y1,b6,rfl,p1,p2⟩:=h2.inv_cons;obtain⟨a',b',rfl,p3,p4⟩:=tU p1;have hz:=(p3.append p2).append p4;cases hX1:X.is f with
  |true=>
   rw[hX1,fS3]at hk;cases hcd:(Nat.beq dr 3||(Nat.ble 5 dr||(X.xw f&& !(Nat.beq dr 0))))with
   |true=>rw[hcd]at hk;exact aD hk
   |false=>
    rw[hcd,fZ3]at hk;simp only[hN3,bJ,gO3]at hcd;obtain⟨B,h5,L⟩:=hcd;have h5:¬5<=dr:=fun h=>by rw[Nat.ble_eq_true_of_le h]at h5;cases h5
    refine ncall (P:=fun y s'=>(∃ifn,T f=some ifn/\ifn.pure=false/\ifn.frz=X.xw f)/\∃D,∀d,D<=d->Sim.callF T (exec T d) lim f (a'++b6++b') s=some (y,s')) hz (fun hs C0 m K' r' b0 b4 hr=>S.run f _ hs m K' r' C0 s lim _ hX1 hr b4 b0) rfl (fun y s' hp=>⟨?_,fun h0=>by simp only[lI];rw[fJ3 (by omega)],hp.2⟩) hk;obtain⟨⟨ifn,w1,w2,w3⟩,_⟩:=hp;by_cases h0:dr=0;exact .inr h0;left;rw[gJ3 h0]at L;have L:X.xw f=false:=by simpa using L
    rw[L]at w3;simp[Sim.foot,w1,w2,w3]
  |false=>
   rw[hX1,fZ3]at hk;refine d3 hk hz rfl (by simp only[lI];split<;>omega) (fun⟨ifn,w1,w2,w3⟩=>?_) (fun d s=>rfl);simp only[Sim.foot,w1,w2,w3,gF3,iE3]
  obtain⟨v,h',n',C',y,s',q1,q2,q3,q4,q5,q6,q7,q8⟩:=Xp (dr:=dr) Y hM h2 hk;simp only[gE]at q1
  have A:eU C' ((d,v)::edel e (d::kl)) (t.set d y):=.put hd q2 (fun i w hw=>by
   obtain⟨z,p1,p2,p3⟩:=(he.mono q4).edel (d::kl) i w hw;exact⟨z,p1,p2,fun W=>p3 (by simp[W])⟩)
  obtain⟨e2,B,F,C2,H,G,fs,r1,r2,r3,r4,r5,r6,r7,r8⟩:=eL Y S u rs q (d::E) l g C' n' h' _ _ _ K r q1 A q3 (by simpa using hN) o4 (hg.set hgi J) hgi;obtain⟨f,hf⟩:=q8 ⟨some d,k,xs.map eX,g⟩ _ t fs _ rfl hg.wanted h1 r2;exact⟨e2,B,F,C2,H,G,_,r1,hf,r3,r4,r5,by omega,q6.trans r7,back r8⟩
 |.sto k xs kl rs,q,E,l,g,C,n,h,e,t,s,K,r,hk,he,hM,hN,ho,hg,hgi=>by
  simp only[lD,fF3]at ho;obtain⟨o3,o4⟩:=ho;unfold fU at hk;rw[kU,fC3]at hk;obtain⟨vs,Z,hk⟩:=hk;obtain⟨ys,h1,h2⟩:=mB he o3 Z;obtain⟨v,h',n',C',out,q1,q2,q3,q4,q5,q6,q7,q8⟩:=Qd hM h2 hk;simp only[gE]at q1
  have A:eU C' (edel e kl) t:=fun i w hw=>by
   obtain⟨z,p1,p2,p3⟩:=(he.mono q5).edel kl i w hw;exact⟨z,p1,p2⟩
  obtain⟨e2,B,F,C2,H,G,fs,r1,r2,r3,r4,r5,r6,r7,r8⟩:=eL Y S u rs q E l g C' n' h' _ t _ K r q1 A q4 hN o4 hg hgi;refine⟨e2,B,F,C2,H,G,_,r1,.op (o:=⟨none,k,xs.map eX,g⟩) hg.wanted h1 ?_ q2 r2,r3,r4,r5,by omega,q7.trans r7,fun i hi=>r8 i (by simpa only[eI]using hi)⟩;cases k with
  |callF f=>unfold fZ at hk;rcases vs with _|⟨a,_|⟨b,_|⟨c,_|⟨d,t⟩⟩⟩⟩<;>exact aD hk
  |callV=>unfold fZ at hk;rcases vs with _|⟨a,_|⟨b,_|⟨c,_|⟨d,t⟩⟩⟩⟩<;>exact aD hk
  |_=>rfl
 |.ifx d c w bd x' kl rs,q,E,l,g,C,n,h,e,t,s,K,r,hk,he,hM,hN,ho,hg,hgi=>by
  simp only[lD,fF3,fX3,iW,hR3]at ho;obtain⟨⟨⟨⟨⟨o1,o2⟩,o3⟩,o4⟩,o5⟩,o6⟩:=ho;have J:d∉q:=by simpa using o2
  unfold fU at hk;rw[kE,fC3]at hk;obtain⟨cv,f4,hk⟩:=hk;split at hk;rename_i cb;rw[cF,fC3]at hk;obtain⟨y,hy,hk⟩:=hk;rw[gE]at hk;obtain⟨cy,e4,f2⟩:=he c _ f4;rw[iX f2]at e4;obtain⟨fs,t1,s1,p1,p2,p3,p4,zs,p5,p6⟩:=Jn (T:=T) (O:=O) (X:=X) (dr:=dr) hM hN o5 o3 e4 hy (fun hb f5=>yE Y bd (c::q) [] (some (c,w)) C n h e t s x' y hb he hM hN o5 o3 f5 (fun c' w' e=>by cases e;simp))
  have d0:Xo g t1:=by
   cases g with
   |none=>trivial
   |some p=>
    obtain⟨c',w'⟩:=p;simp only[Xo]at hg ⊢;rw[p3 c' (fun hi=>iH bd o5 c' hi (by simp[hgi c' w' rfl]))];exact hg
  have hd:d<t1.length:=by omega
  have A:eU C ((d,.v (.bool y))::edel e (d::eI bd kl)) (t1.set d (.v (.bool y))):=.put hd (.cl (.v _)) (fun i w hw=>by
   obtain⟨z,q1,q2,q3⟩:=he.edel (d::eI bd kl) i w hw;have g1:i∉eI bd []:=fun hi=>q3 (by simp[(eW bd kl i).2 (.inl hi)]);exact⟨z,by rw[p3 i g1];exact q1,q2,fun W=>q3 (by simp[W])⟩)
  obtain⟨e2,B,F,C2,H,G,i0,r1,r2,r3,r4,r5,r6,r7,r8⟩:=eL Y S u rs q (d::E) l g C n h _ (t1.set d (.v (.bool y))) s1 K r hk A (hM.grow p4) (by simpa using p2) o6 (d0.set hgi J) hgi;refine⟨e2,B,F,C2,H,G,_,r1,p1.append (.op (o:=⟨some d,.pick,_,g⟩) d0.wanted p5 rfl p6 r2),r3,r4,r5,r6,p4.fr.trans r7,fun i hi=>?_⟩;simp only[eI,fT3,eW bd (eI rs []) i,iH3]at hi;rw[r8 i hi.2.2,fU3 (Ne.symm hi.1),p3 i hi.2.1];exact aD hk
 |.mkfl d ty zero xs kl rs,q,E,l,g,C,n,h,e,t,s,K,r,hk,he,hM,hN,ho,hg,hgi=>by
  simp only[lD,fF3,fX3,iW,hR3]at ho;obtain⟨⟨⟨o1,o2⟩,o3⟩,o4⟩:=ho;have hd:d<t.length:=by omega
  have J:d∉q:=by simpa using o2
  unfold fU at hk;rw[kU,fC3]at hk;obtain⟨vs,Z,hk⟩:=hk;obtain⟨ys,h1,h2⟩:=mB he o3 Z;cases hc:(Nat.beq zero.length 1&&vs.all mN1)with
  |false=>rw[hc]at hk;exact aD hk
  |true=>
  rw[hc,fS3,gE]at hk;simp only[fF3,bJ,fO3]at hc;obtain⟨C',out,q1,q2,q3,q4,q5⟩:=gX1 (ty:=ty) hM h2 hc.1 hc.2
  have hlen:vs.length=xs.length:=by
   have:=h2.1;have B:ys.length=xs.length:=(Xv h1).trans (by simp);omega
  rw[hlen]at q1
  have A:eU C' ((d,.own n)::edel e (d::kl)) (t.set d out.v):=.put hd q2 (fun i w hw=>by
   obtain⟨z,p1,p2,p3⟩:=(he.mono q4).edel (d::kl) i w hw;exact⟨z,p1,p2,fun W=>p3 (by simp[W])⟩)
  obtain⟨e2,B,F,C2,H,G,fs,r1,r2,r3,r4,r5,r6,r7,r8⟩:=eL Y S u rs q (d::E) l g C' (n+1) _ _ _ _ K r hk A q3 (by simpa using hN) o4 (hg.set hgi J) hgi;refine⟨e2,B,F,C2,H,G,_,r1,.op (o:=⟨some d,.buildSl ty 1 xs.length zero (List.range xs.length),xs.map eX,g⟩) hg.wanted h1 rfl q1 r2,r3,r4,r5,by omega,q5.trans r7,fun i hi=>?_⟩;simp only[eI,fT3,iH3]at hi;rw[r8 i hi.2,fU3 (Ne.symm hi.1)]
 |.lax d es rs,q,E,l,g,C,n,h,e,t,s,K,r,hk,he,hM,hN,ho,hg,hgi=>by
  simp only[lD]at ho;unfold fU at hk;rw[kE,fC3]at hk;obtain⟨v,hv,hk⟩:=hk;obtain⟨y,b5,V⟩:=he d _ hv
  have d5:∀v',RV C v' y->eU C ((d,v')::edel e [d]) t:=fun v' hv' i w hw=>by
   simp only[fQ]at hw;split at hw;rename_i W;subst W;cases hw;exact⟨y,b5,hv'⟩;obtain⟨z,q1,q2,_⟩:=he.edel [d] i w hw;exact⟨z,q1,q2⟩
  split at hk;rename_i s';rw[gE]at hk;rw[iX V]at d5;exact eL Y S u rs q E l g C n h _ t s K r hk (d5 _ (.cl .isn)) hM hN ho hg hgi;rename_i cs;obtain⟨cs',h1,h2⟩:∃cs',y=.agg cs'/\LR (RV C) cs cs':=nI V;subst h1;obtain⟨cs2,q1,q2⟩:=Xu h2 hk;rw[gE]at q1;exact eL Y S u rs q E l g C n h _ t s K r q1 (d5 _ (.agg q2.1 q2.2)) hM hN ho hg hgi;exact aD hk
 |.own d ty es g' rs,q,E,l,g,C,n,h,e,t,s,K,r,hk,he,hM,hN,ho,hg,hgi=>by
  simp only[lD]at ho;unfold fU at hk;rw[kE,fC3]at hk;obtain⟨v,hv,hk⟩:=hk;obtain⟨y,b5,V⟩:=he d _ hv;split at hk;rw[gE]at hk;have hy:=iX V;subst hy;obtain⟨m1,m2⟩:=Uk hM (ty:=ty) (e:=es) (g:=g');have d4:=nH hM .nil
  have A:eU (ext C n .nil) ((d,.own n)::edel e [d]) t:=fun i w hw=>by
   simp only[fQ]at hw;split at hw;rename_i W;subst W;cases hw;exact⟨_,b5,.ownn (by simp[ext]) rfl⟩;obtain⟨z,q1,q2,_⟩:=he.edel [d] i w hw;exact⟨z,q1,q2.mono d4⟩
  obtain⟨e2,B,F,C2,H,G,fs,r1,r2,r3,r4,r5,r6,r7,r8⟩:=eL Y S u rs q E l g _ (n+1) _ _ t s K r hk A m1 hN ho hg hgi;exact⟨e2,B,F,C2,H,G,fs,r1,r2,r3,r4,r5,by omega,m2.trans r7,r8⟩;exact aD hk
 |.laxc d j es rs,q,E,l,g,C,n,h,e,t,s,K,r,hk,he,hM,hN,ho,hg,hgi=>by
  simp only[lD]at ho;unfold fU at hk;rw[kE,fC3]at hk;obtain⟨v,hv,hk⟩:=hk;obtain⟨y,b5,V⟩:=he d _ hv;split at hk;rename_i k o0;rw[iC,fC3]at hk;obtain⟨ob,U,hk⟩:=hk;split at hk;rename_i cs;obtain⟨id,ver,W,l1,hC,rfl⟩:=mG V;obtain⟨hj,hk⟩:=gA _ _ _ _ hk;split at hk;rename_i tl b9;obtain⟨g4,hk⟩:=lK _ _ _ _ _ hk;have hk:=eD _ _ _ _ _ hk
  have b8:cs[j]? =some (.v (.slice none 0 0)):=by
   have:(cs.drop j)[0]? =some (.v (.slice none 0 0)):=by rw[b9];rfl
   simpa using this
  obtain⟨g8,d8,esz,row,hL,hl⟩:=Af hM U hC;have e7:=(hM.hr.lt (by rw[U];simp) hC)
  obtain⟨m1,m2⟩:=tS hM (po':=.box (Sim.setL cs j [.is es []])) (ao:=.arr true d8 esz ver [row]) U hC ⟨e7.1,e7.2,d8,esz,row,by rw[Sim.look_upd,fJ3 ⟨rfl,by rw[hL];rfl⟩],by
   refine⟨by rw[<-hl.1];simp[Sim.setL],fun i a b ha hb=>?_⟩;simp only[Sim.setL]at ha;rw[gE3]at ha;split at ha;rename_i e2;subst e2;split at ha;cases ha;have:=iX (hl.2 j _ _ b8 hb);subst this;exact .cl .isn;cases ha;exact hl.2 i a b ha hb⟩ rfl
  have d7:({h:=upd s.h id (.arr true d8 esz ver [row]),n:=s.n}:Hp)=s:=by
   rw[Gd hL]
  rw[d7]at m1 m2;obtain⟨e2,B,F,C2,H,G,fs,r1,r2,r3,r4,r5,r6,r7,r8⟩:=eL Y S u rs q E l g _ n _ _ t s K r hk he m1 hN ho hg hgi;exact⟨e2,B,F,C2,H,G,fs,r1,r2,r3,r4,r5,by omega,m2.trans r7,r8⟩;exact aD hk;exact aD hk;exact aD hk
 |.ownc d j ty es g' rs,q,E,l,g,C,n,h,e,t,s,K,r,hk,he,hM,hN,ho,hg,hgi=>by
  simp only[lD]at ho;unfold fU at hk;rw[kE,fC3]at hk;obtain⟨v,hv,hk⟩:=hk;obtain⟨y,b5,V⟩:=he d _ hv;split at hk;rename_i k o0;rw[iC,fC3]at hk;obtain⟨ob,U,hk⟩:=hk;split at hk;rename_i cs;obtain⟨id,ver,W,l1,hC,rfl⟩:=mG V;obtain⟨hj,hk⟩:=gA _ _ _ _ hk;split at hk;rename_i tl b9;obtain⟨dB,hk⟩:=lK _ _ _ _ _ hk;have hk:=eD _ _ _ _ _ hk;have d4:=nH hM .nil
  have b8:cs[j]? =some (.v (.slice none 0 0)):=by
   have:(cs.drop j)[0]? =some (.v (.slice none 0 0)):=by rw[b9];rfl
   simpa using this
  obtain⟨m1,m2⟩:=nL1 (ty:=ty) (e':=es) (g:=g') (cs2:=Sim.setL cs j [.own n]) hM U hC (fun row d2=>by
   refine⟨by rw[<-d2.1];simp[Sim.setL],fun i a b ha hb=>?_⟩;simp only[Sim.setL]at ha;rw[gE3]at ha;split at ha;rename_i e2;subst e2;split at ha;cases ha;have:=iX (d2.2 j _ _ b8 hb);subst this;exact .ownn (by simp[ext]) rfl;cases ha;exact(d2.2 i a b ha hb).mono d4)
  obtain⟨e2,B,F,C2,H,G,fs,r1,r2,r3,r4,r5,r6,r7,r8⟩:=eL Y S u rs q E l g _ (n+1) _ _ t s K r hk (he.mono d4) m1 hN ho hg hgi;exact⟨e2,B,F,C2,H,G,fs,r1,r2,r3,r4,r5,by omega,m2.trans r7,r8⟩;exact aD hk;exact aD hk;exact aD hk
 |.fz d j rs,q,E,l,g,C,n,h,e,t,s,K,r,hk,he,hM,hN,ho,hg,hgi=>by
  simp only[lD]at ho;unfold fU at hk;rw[kE,fC3]at hk;obtain⟨v,hv,hk⟩:=hk;obtain⟨y,b5,V⟩:=he d _ hv
  have fin:∀{m k v0 y0},Ff v0=some (m,k)->RV C v0 y0->((j=none/\y=y0)\/∃i cs',j=some i/\y=.agg cs'/\cs'[i]? =some y0)->fzK e h d m k j (fun e h=>fU O X dr rs e h n K)=some r->
    ∃e' h' n' C' M s' fs,K e' h' n'=some r/\Tr T X.is dr lim (rV g rs) {t:=t,s:=s} fs {t:=M,s:=s'}/\eU C' e' M/\dR C' n' h' lim s'/\M.length=N/\n<=n'/\Fr C h s C' h' s'/\∀(i:Nat),i∉eI rs []->M[i]? =t[i]? :=fun{m k v0 y0} hn g6 hj hk=>by
   obtain⟨C',e',h',q1,q2,q3,q4⟩:=mZ1 hM he hv b5 V hn g6 hj hk;obtain⟨e2,B,F,C2,H,G,fs,r1,r2,r3,r4,r5,r6,r7,r8⟩:=eL Y S u rs q E l g C' n _ _ t s K r q1 q3 q2 hN ho hg hgi;exact⟨e2,B,F,C2,H,G,fs,r1,r2,r3,r4,r5,r6,q4.trans r7,r8⟩
  cases j with
  |none=>
   simp only at hk;split at hk;rename_i m k hn;exact fin hn V (.inl ⟨rfl,rfl⟩) hk;exact aD hk
  |some j=>
   simp only at hk;cases v with
   |agg cs=>
    obtain⟨cs',rfl,hl⟩:=nI V;obtain⟨hj,hk⟩:=gA _ _ _ _ hk;split at hk;rename_i c tl b9
    have b8:cs[j]? =some c:=by
     have:(cs.drop j)[0]? =some c:=by rw[b9];rfl
     simpa using this
    obtain⟨y0,k1,k2⟩:=hl.get b8;split at hk;rename_i m k hn;exact fin hn k2 (.inr ⟨j,cs',rfl,rfl,k1⟩) hk;exact aD hk;exact aD hk
   |_=>exact aD hk
 |.opn d m x kl js rs,q,E,l,g,C,n,h,e,t,s,K,r,hk,he,hM,hN,ho,hg,hgi=>by
  simp only[lD,fF3,fX3,iW,hR3]at ho;obtain⟨⟨⟨o1,o2⟩,o3⟩,o4⟩:=ho;have hd:d<t.length:=by omega
  have J:d∉q:=by simpa using o2
  unfold fU at hk;rw[kU,fC3]at hk;obtain⟨vs,Z,hk⟩:=hk;obtain⟨ys,h1,h2⟩:=mB he o3 Z
  have fin:∀{k:iV},k≠.callV->(∀f,k≠.callF f)->xQ1 C n h lim s k ys (fun v h n=>mF e (d::kl) fun e=>fU O X dr rs ((d,v)::e) h n K) r->
    ∃e' h' n' C' M s' fs,K e' h' n'=some r/\Tr T X.is dr lim (⟨some d,k,[eX x],g⟩::rV g rs) {t:=t,s:=s} fs {t:=M,s:=s'}/\eU C' e' M/\dR C' n' h' lim s'/\M.length=N/\n<=n'/\Fr C h s C' h' s'/\∀(i:Nat),i∉d::eI rs []->M[i]? =t[i]? :=fun{k} f9 f8 hr=>by
   obtain⟨v,h',n',C',y',p1,p2,p3,p4,p5,p6,p7⟩:=hr;simp only[gE]at p1
   have A:eU C' ((d,v)::edel e (d::kl)) (t.set d y'):=.put hd p3 (fun i w hw=>by
    obtain⟨z,p1,p2,p3⟩:=(he.mono p6).edel (d::kl) i w hw;exact⟨z,p1,p2,fun W=>p3 (by simp[W])⟩)
   obtain⟨e2,B,F,C2,H,G,fs,r1,r2,r3,r4,r5,r6,r7,r8⟩:=eL Y S u rs q (d::E) l g C' n' h' _ _ s K r p1 A p4 (by simpa using hN) o4 (hg.set hgi J) hgi;refine⟨e2,B,F,C2,H,G,_,r1,.op (o:=⟨some d,k,[eX x],g⟩) (out:={v:=y'}) hg.wanted h1 ?_ p2 r2,r3,r4,r5,by omega,p7.trans r7,fun i hi=>?_⟩;cases k<;>first|rfl|exact absurd rfl f9|exact absurd rfl (f8 _)
   simp only[fT3,iH3]at hi;rw[r8 i hi.2,fU3 (Ne.symm hi.1)]
  split at hk;rename_i k i o;obtain⟨y,_,rfl,B,h4⟩:=h2.inv_cons;rw[h4.inv_nil]at fin;rw[iC,fC3]at hk;obtain⟨ob,U,hk⟩:=hk;cases ob with
  |tr tt rows hs=>
   cases m with
   |none=>exact fin (k:=.loadS) (fun h=>by cases h) (fun f h=>by cases h) ((Xr hM U B).1 hk)
   |some m=>exact fin (k:=.loadA m) (fun h=>by cases h) (fun f h=>by cases h) ((Xr hM U B).2 m hk)
  |_=>exact aD hk
  exact aD hk
 |.bst d tt len zero parts xs kl rs,q,E,l,g,C,n,h,e,t,s,K,r,hk,he,hM,hN,ho,hg,hgi=>by
  simp only[lD,fF3,fX3,iW,hR3]at ho;obtain⟨⟨⟨o1,o2⟩,o3⟩,o4⟩:=ho;have hd:d<t.length:=by omega
  have J:d∉q:=by simpa using o2
  unfold fU at hk;rw[kU,fC3]at hk;obtain⟨vs,Z,hk⟩:=hk;obtain⟨ys,h1,h2⟩:=mB he o3 Z;obtain⟨ty,es,ks⟩:=tt;simp only at hk;cases hc:(Lb 0 parts&&(Nat.beq zero.length es&&(!(iA ty)&&Nat.beq parts.length len)))with
  |false=>rw[hc]at hk;exact aD hk
  |true=>
  rw[hc,fS3]at hk;obtain⟨rows,hs,C',out,q0,q1,q2,q3,q4,q5⟩:=nF1 hM h2 hc hk;rw[gE]at q0
  have A:eU C' ((d,.own n)::edel e (d::kl)) (t.set d out.v):=.put hd q2 (fun i w hw=>by
   obtain⟨z,p1,p2,p3⟩:=(he.mono q4).edel (d::kl) i w hw;exact⟨z,p1,p2,fun W=>p3 (by simp[W])⟩)
  obtain⟨e2,B,F,C2,H,G,fs,r1,r2,r3,r4,r5,r6,r7,r8⟩:=eL Y S u rs q (d::E) l g C' (n+1) _ _ _ _ K r q0 A q3 (by simpa using hN) o4 (hg.set hgi J) hgi;refine⟨e2,B,F,C2,H,G,_,r1,.op (o:=⟨some d,.buildSl ty es len zero parts,xs.map eX,g⟩) hg.wanted h1 rfl q1 r2,r3,r4,r5,by omega,q5.trans r7,fun i hi=>?_⟩;simp only[eI,fT3,iH3]at hi;rw[r8 i hi.2,fU3 (Ne.symm hi.1)]
 |.clr d es zero x y' kl rs,q,E,l,g,C,n,h,e,t,s,K,r,hk,he,hM,hN,ho,hg,hgi=>by
  simp only[lD,fF3,fX3,iW,hR3]at ho;obtain⟨⟨⟨o1,o2⟩,o3⟩,o4⟩:=ho;have hd:d<t.length:=by omega
  have J:d∉q:=by simpa using o2
  unfold fU at hk;rw[kU,fC3]at hk;obtain⟨vs,Z,hk⟩:=hk;obtain⟨ys,h1,h2⟩:=mB he o3 Z;split at hk;rename_i k kd lo;obtain⟨y1,b6,rfl,B,h4⟩:=h2.inv_cons;obtain⟨y2,d9,rfl,h5,h6⟩:=h4.inv_cons;have:=h6.inv_nil;subst this;rw[iX h5]at h1;rw[iC,fC3]at hk;obtain⟨ob,U,hk⟩:=hk;split at hk;rename_i ty es' g' rows;cases hc:(Nat.beq es' es&&Nat.beq zero.length es)with
  |false=>rw[hc]at hk;exact aD hk
  |true=>
   rw[hc,fS3,rW,cF,fC3]at hk;obtain⟨g7,e5,hk⟩:=hk;simp only[fF3,bJ,fO3]at hc;obtain⟨rfl,hz⟩:=hc;have hk:=eD _ _ _ _ _ hk;rw[gE]at hk;obtain⟨v,out,q1,q2,q3,q4⟩:=nH1 (kd:=kd) hM U hz B e5
   have A:eU C (edel e (d::kl)) (t.set d v):=fun i w hw=>by
    obtain⟨z,p1,p2,p3⟩:=he.edel (d::kl) i w hw;exact⟨z,by rw[fU3 (fun W=>p3 (by simp[W]))];exact p1,p2⟩
   have d0:=hg.set (y:=v) hgi J;obtain⟨e2,h7,F,C2,H,G,fs,r1,r2,r3,r4,r5,r6,r7,r8⟩:=eL Y S u rs q (d::E) l g C n _ _ _ _ K r hk A q3 (by simpa using hN) o4 d0 hgi;refine⟨e2,h7,F,C2,H,G,_,r1,.op (o:=⟨some d,.slc es' true false false,[eX x,eX y'],g⟩) (out:={v:=v}) hg.wanted h1 rfl q1 (.op (o:=⟨none,.clear es' zero,[.t d],g⟩) (xs:=[v]) d0.wanted ?_ rfl q2 r2),r3,r4,r5,r6,q4.trans r7,fun i hi=>?_⟩;show Sim.evs (t.set d v) [.t d]=some [v]
   simp[Sim.evs,Sim.IX.ev,hd];simp only[eI,fT3,iH3]at hi;rw[r8 i hi.2,fU3 (Ne.symm hi.1)]
  exact aD hk;exact aD hk
 |.gc kp rs,q,E,l,g,C,n,h,e,t,s,K,r,hk,he,hM,hN,ho,hg,hgi=>by
  simp only[lD]at ho;unfold fU at hk;obtain⟨e0,hk,f0⟩:=Uu hk;obtain⟨h8,hk⟩:=wH (jE 5) _ _ _ _ hk;obtain⟨ns,hk⟩:=gM _ _ _ _ _ hk;obtain⟨h0,hk,g3⟩:=Gc hk;obtain⟨m1,m2⟩:=nI1 hM g3;obtain⟨C',e',h',q1,q2,q3,q4⟩:=gU1 _ m1 (fun i v hv=>he i v (f0 i v hv)) hk;obtain⟨e2,B,F,C2,H,G,fs,r1,r2,r3,r4,r5,r6,r7,r8⟩:=eL Y S u rs q E l g C' n h' _ t s K r q1 q3 q2 hN ho hg hgi;exact⟨e2,B,F,C2,H,G,fs,r1,r2,r3,r4,r5,r6,(m2.trans q4).trans r7,r8⟩
 |.up m rs,q,E,l,g,C,n,h,e,t,s,K,r,hk,he,hM,hN,ho,hg,hgi=>by
  unfold fU at hk;cases hb:Nat.ble n m with
  |false=>rw[hb]at hk;exact aD hk
  |true=>
   rw[hb,fS3]at hk;have e8:=fK3 hb;obtain⟨e2,B,F,C2,H,G,fs,r1,r2,r3,r4,r5,r6,r7,r8⟩:=eL Y S u rs q E l g C m h e t s K r hk he ⟨hM.hr,fun k pl hk=>gN3 (hM.dom k pl hk) e8,hM.wf,hM.lim⟩ hN (by simpa only[lD]using ho) hg hgi;exact⟨e2,B,F,C2,H,G,fs,r1,r2,r3,r4,r5,gH3 e8 r6,r7,fun i hi=>r8 i (by simpa only[eI]using hi)⟩
 |.tre d j tt rs,q,E,l,g,C,n,h,e,t,s,K,r,hk,he,hM,hN,ho,hg,hgi=>by
  simp only[lD]at ho;unfold fU at hk;obtain⟨v,hk⟩:=Ut hk;split at hk;rename_i k;rw[iC,fC3]at hk;obtain⟨ob,U,hk⟩:=hk;split at hk;rename_i ty es g';obtain⟨ty',es',ks⟩:=tt;simp only at hk;cases hc:(Nat.beq ty ty'&&(Nat.beq es es'&& !(iA ty)))with
  |false=>rw[hc]at hk;exact aD hk
  |true=>
   rw[hc,fS3]at hk;simp only[fF3,bJ,fO3,fX3]at hc;obtain⟨rfl,rfl,hf⟩:=hc;have hk:=eD _ _ _ _ _ hk;obtain⟨m1,m2⟩:=nG1 (ks:=ks) hM U hf;obtain⟨e2,B,F,C2,H,G,fs,r1,r2,r3,r4,r5,r6,r7,r8⟩:=eL Y S u rs q E l g C n _ _ t s K r hk he m1 hN ho hg hgi;exact⟨e2,B,F,C2,H,G,fs,r1,r2,r3,r4,r5,r6,m2.trans r7,r8⟩
  exact aD hk;exact aD hk
end
end Go.P
namespace Go.P
open Go.Sim (AV AO Hp mQ upd St IC IX Ex iV CK Wf Out doOp mO exec Foot wanted put popMark)
variable {lim n:Nat}
def dS (C:Cx) (n:Nat):Cx:=⟨fun k=>if k<n then C k else none,C.z,C.w⟩
def pM {C} {n} {x} {y} (h:RV C x y):∀{d:Nat},rA n d x=true->RV (dS C n) x y:=by
 have lt:∀{k d:Nat} {pl:Pl},C k=some pl->Nat.blt k n=true->dS C n k=some pl:=fun h1 h2=>by
  simp only[hR3]at h2;simp[dS,h2,h1]
 induction h with
 |cl h=>intro d hb;exact .cl h
 |undef=>intro d hb;exact .undef
 |ref h=>intro d hb;cases d with
  |zero=>cases hb
  |succ d=>exact .ref (lt (d:=0) h hb)
 |own h=>intro d hb;cases d with
  |zero=>cases hb
  |succ d=>exact .own (lt (d:=0) h hb)
 |ownn h hy=>intro d hb;cases d with
  |zero=>cases hb
  |succ d=>exact .ownn (lt (d:=0) h hb) hy
 |el h=>intro d hb;cases d with
  |zero=>cases hb
  |succ d=>exact .el (lt (d:=0) h hb)
 |map h=>intro d hb;cases d with
  |zero=>cases hb
  |succ d=>exact .map (lt (d:=0) h hb)
 |yld h=>intro d hb;cases d with
  |zero=>cases hb
  |succ d=>exact .yld (lt (d:=0) h hb)
 |fn h1 h2 v1 v2 i1 i2=>intro d hb;cases d with
  |zero=>cases hb
  |succ d=>
   simp only[rA,fF3]at hb;exact .fn h1 h2 (fun j x y a hy=>i1 j x y a hy (fH3.1 hb.1 x (fL3 a))) (fun j x y a hy=>i2 j x y a hy (fH3.1 hb.2 x (fL3 a)))
 |agg hl hc ih=>intro d hb;cases d with
  |zero=>cases hb
  |succ d=>exact .agg hl (fun j x y a hy=>ih j x y a hy (fH3.1 hb x (fL3 a)))
 |tup hl hc ih=>intro d hb;cases d with
  |zero=>cases hb
  |succ d=>exact .tup hl (fun j x y a hy=>ih j x y a hy (fH3.1 hb x (fL3 a)))
 |zs h=>intro d hb;exact .zs h
 |zp h=>intro d hb;exact .zp h
def gH.lk {L L'} {w} {lim nS} (c:∀id ty e v els,L id=some (.arr false ty e v els)->L' id=some (.arr false ty e v els)):∀{d} {sl} {t} {x} {y},gH L w lim nS d sl t x y->gH L' w lim nS d sl t x y
 |0,_,_,_,_,h=>h.elim
 |d+1,sl,.nd ty e ks,x,y,h=>by
  obtain⟨rows,h1,h2⟩:=h
  refine⟨rows,h1,?_⟩
  rcases h2 with h2|⟨id,ver,els,k1,k2,k3,k4,kf,k5,k6,k7⟩
  exact .inl h2
  refine .inr ⟨id,ver,els,k1,k2,k3,k4,kf,c _ _ _ _ _ k5,k6,fun i r r' a b=>⟨(k7 i r r' a b).1,fun j f g a1 b1=>?_⟩⟩
  have:=(k7 i r r' a b).2 j f g a1 b1
  cases hk:gZ ks j with
  |none=>rw[hk]at this;exact this
  |some t=>rw[hk]at this;exact gH.lk c this
section
variable {R:Type}
def Qu:∀(e:gL) (i:Nat) (K:PV->aB R) (D:aB R),Wt e i K D=match fQ e i with|some v=>K v|none=>D
 |[],_,_,_=>rfl
 |(j,v)::r,i,K,D=>by
  simp only[Wt,fQ,bJ]
  by_cases h:j=i<;>simp[h,Qu r i K D]
def Ao {e} {n}:∀{is:aA Nat} {K:gL->aB R} {r:R},Pw e is n K=some r->∃e',K e'=some r/\∀i v,fQ e' i=some v->fQ e i=some v/\rA n 4 v=true
 |[],K,r,h=>⟨[],h,fun i v h=>by simp[fQ]at h⟩
 |i::is,K,r,h=>by
  unfold Pw at h
  rw[Qu]at h
  cases hv:fQ e i with
  |none=>rw[hv]at h;exact Ao h
  |some v=>
   rw[hv]at h
   simp only at h
   cases hb:rA n 4 v with
   |false=>rw[hb]at h;exact aD h
   |true=>
    rw[hb,fS3]at h
    obtain⟨e',h1,h2⟩:=Ao h
    refine⟨_,h1,fun j w hw=>?_⟩
    simp only[fQ]at hw
    split at hw
    grind
    exact h2 j w hw
def Jw {h} {n}:∀{r:bA} {K:bA->aB R} {x:R},Wu r h n K=some x->∃h',K h'=some x/\∀k,(aK r k=none->aK h' k=none)/\(aK r k≠none->∃o,aK h' k=some o/\aK h k=some o/\xX n o=true)
 |[],K,x,hk=>⟨[],hk,fun k=>⟨fun _=>rfl,fun h=>absurd rfl h⟩⟩
 |(j,o)::r,K,x,hk=>by
  unfold Wu at hk
  rw[iC,fC3]at hk
  obtain⟨o',b,hk⟩:=hk
  cases hb:xX n o' with
  |false=>rw[hb]at hk;exact aD hk
  |true=>
   rw[hb,fS3]at hk
   obtain⟨h',h1,h2⟩:=Jw hk
   refine⟨_,h1,fun k=>?_⟩
   simp only[aK]
   by_cases a:j=k
   grind
   grind
variable {C0 C:Cx} {n0:Nat} {h0 h:bA} {e:gL} {t:List AV} {s0 s:Hp}
def rG (hd:∀k,aK h0 k≠none->k<n0) (p:dR C n h lim s) (he:eU C e t) {keep:aA Nat} {K:Sw->aB R} {r:R} (hk:pG keep h0 n0 e h K=some r):
  ∃st,K st=some r/\eU (dS C n0) st.e t/\dR (dS C n0) n0 st.h lim s/\(∀k o,aK st.h k=some o->aK h k=some o)/\(∀k,aK h0 k=none↔aK st.h k=none):=by
 unfold pG at hk;obtain⟨e',hk,h1⟩:=Ao hk;obtain⟨h',hk,h2⟩:=Jw hk;have u:∀k o,aK h' k=some o->aK h k=some o/\xX n0 o=true/\k<n0:=fun k o w=>by grind
 have hr:∀k pl,dS C n0 k=some pl->C k=some pl/\k<n0:=fun k pl hk=>by
  simp only[dS]at hk;split at hk
  grind
  cases hk
 have B:∀k,aK h' k≠none->aK h k≠none:=fun k hk=>by grind
 refine⟨_,hk,fun i v hv=>?_,⟨⟨fun k o A=>?_,fun k k' id v e l v' e' l' a b c d=>?_,fun id o D=>?_,fun k id v e l a b=>p.hr.wn k id v e l (B k a) (hr _ _ b).1,p.hr.wb,p.hr.wz⟩,fun k pl hk=>(hr k pl hk).2,p.wf,p.lim⟩,fun k o w=>(u k o w).1,fun k=>⟨(h2 k).1,fun D=>?_⟩⟩;obtain⟨q1,q2⟩:=h1 i v hv;obtain⟨y,p1,p2⟩:=he i v q1;exact⟨y,p1,pM p2 q2⟩;obtain⟨q1,q2,q3⟩:=u k o A;obtain⟨pl,p1,p2⟩:=p.hr.ob k o q1;refine⟨pl,by simp[dS,q3,p1],?_⟩;cases o with
 |box cs=>
  cases pl with
  |nil=>exact p2
  |atp id ver e len=>
   obtain⟨a1,a2,ty,esz,row,a3,a4⟩:=p2;exact⟨a1,a2,ty,esz,row,a3,a4.1,fun j x y m hy=>pM (a4.2 j x y m hy) (fH3.1 q2 x (fL3 m))⟩
 |lst ty e g rows=>cases pl<;>exact p2
 |mp es=>cases pl<;>exact p2
 |tr tt rows hs=>
  obtain⟨ty,e,ks⟩:=tt;cases pl with
  |nil=>exact p2
  |atp id ver e len=>
   obtain⟨a1,a2,a3,a4,E,els,d,a5,a6,a7⟩:=p2;refine⟨a1,a2,a3,a4,E,els,d,a5,a6,fun i r r' c1 c2=>⟨(a7 i r r' c1 c2).1,fun j a b c3 c4=>?_⟩⟩;have:=(a7 i r r' c1 c2).2 j a b c3 c4;unfold TC at this ⊢;cases hkd:gZ ks j with
   |none=>rw[hkd]at this;exact this
   |some t2=>
    rw[hkd]at this;rcases this with⟨b1,b2⟩|b1;exact .inl ⟨b1,fun x m=>pM (b2 x m) (fH3.1 q2 _ m)⟩;exact .inr b1
 |fl fs=>
  cases pl with
  |nil=>exact p2
  |atp id ver e len=>
   obtain⟨a1,a2,a3,a4,ty,els,a5,a6,a7⟩:=p2;refine⟨a1,a2,a3,a4,ty,els,a5,a6,fun i f row hf q=>?_⟩;have z:=fH3.1 q2 f (fL3 hf);refine⟨(a7 i f row hf q).1,fun j x y m hy=>?_⟩;cases j with
   |zero=>simp at m;subst m;exact pM ((a7 i f row hf q).2 0 f y rfl hy) z
   |succ j=>simp at m
 |loop N' e ps a b busy fin=>
  cases pl with
  |nil=>exact p2
  |atp id ver e' len=>
   obtain⟨a1,a2,st,pend,tmps,a3,a4,a5,a6⟩:=p2;refine⟨a1,a2,st,pend,tmps,a3,a4,fun i v hv=>?_,a6⟩;obtain⟨y,F,G⟩:=a5 i v hv;exact⟨y,F,pM G (fH3.1 q2 _ (Fw hv))⟩
 exact p.hr.inj k k' id v e l v' e' l' (B k a) (B k' b) (hr _ _ c).1 (hr _ _ d).1;obtain⟨z1,z2,z3,z4⟩:=p.hr.zr id o D;refine⟨z1,z2,fun k v e l a b=>z3 k v e l ?_ (hr _ _ b).1,z4⟩;cases w:aK h' k with
 |none=>exact absurd w a
 |some o=>rw[(u k o w).1];simp
 grind
def Fr.canon {h1 hc} (d:dR C0 n0 h1 lim s0) (hf:Fr C0 h1 s0 C h s) (a:∀k o,aK hc k=some o->aK h k=some o) (b:∀k,aK h1 k=none↔aK hc k=none):Fr C0 h1 s0 (dS C n0) hc s:=by
 refine⟨hf.sk,hf.n,hf.keep,fun id f c=>hf.own id f ?_,fun k o hk=>?_,hf.zl,hf.zn⟩;rcases c with⟨k,v,e,l,q1,q2⟩|c;refine .inl ⟨k,v,e,l,?_,?_⟩;cases c:aK hc k with
 |none=>exact absurd c q1
 |some o=>rw[a k o c];simp
 simp only[dS]at q2;split at q2;exact q2;cases q2;exact .inr c;obtain⟨o',q1,q2⟩:=hf.kd k o hk
 have g:k<n0:=by
  obtain⟨pl,p1,_⟩:=d.hr.ob k o hk;exact d.dom k pl p1
 cases hz:aK hc k with
 |none=>rw[(b k).2 hz]at hk;cases hk
 |some o2=>
  have:=a k o2 hz;rw[q1]at this;cases this;exact⟨o',rfl,fun hb=>⟨(q2 hb).1,by simp[dS,g,(q2 hb).2]⟩⟩
def hZ:∀{h} {id} {o},Sim.look h id=some o->(∀ty e v els,o≠.arr true ty e v els)->Sim.look (popMark h) id=some o
 |[],id,o,h,_=>by simp[Sim.look]at h
 |.mark::r,id,o,h,_=>h
 |.ob i o'::r,id,o,h,hne=>by
  simp only[Sim.look]at h
  simp only[popMark]
  split at h
  rename_i a
  cases h
  split
  grind
  simp[Sim.look,a]
  rename_i a
  have ih:=hZ h hne
  split
  exact ih
  simp[Sim.look,a,ih]
def dR.pop {C1} {h1 hc} {s1} (p:dR C0 n0 h1 lim s0) (c:dR C1 n0 hc lim s1) (hf:Fr C0 h1 {h:=.mark::s0.h,n:=s0.n} C1 hc s1) (f:∀k,aK h1 k=none↔aK hc k=none):
  dR C1 n0 hc lim {h:=popMark s1.h,n:=s1.n}/\Fr C0 h1 s0 C1 hc {h:=popMark s1.h,n:=s1.n}:=by
 obtain⟨p1,p2⟩:=hf.sk.pop;refine⟨⟨⟨fun k o hk=>?_,c.hr.inj,fun id o m=>?_,c.hr.wn,c.hr.wb,c.hr.wz⟩,c.dom,c.wf.pop,c.lim⟩,⟨p1,hf.n,fun id l hn=>?_,hf.own,hf.kd,hf.zl,hf.zn⟩⟩;obtain⟨pl,q1,q2⟩:=c.hr.ob k o hk;refine⟨pl,q1,?_⟩;cases o with
 |box cs=>
  cases pl with
  |nil=>exact q2
  |atp id ver e len=>
   obtain⟨a1,a2,ty,esz,row,a3,a4⟩:=q2
   have q:id<s0.n:=by
    cases m:aK h1 k with
    |none=>rw[(f k).1 m]at hk;cases hk
    |some o0=>
     obtain⟨o',w1,w2⟩:=hf.kd k o0 m;rw[hk]at w1;cases w1;obtain⟨_,w3⟩:=w2 rfl;rw[q1]at w3;exact(p.hr.lt (by rw[m];simp) w3.symm).2
   exact⟨a1,a2,ty,esz,row,by rw[p2 id q];exact a3,a4⟩
 |lst ty e g rows=>
  cases pl with
  |nil=>exact q2
  |atp id ver e' len=>
   obtain⟨a1,a2,a3,a4,els,a5,a6⟩:=q2;exact⟨a1,a2,a3,a4,els,hZ a5 (fun _ _ _ _ e=>by cases e),a6⟩
 |tr tt rows hs=>
  obtain⟨ty,e,ks⟩:=tt;cases pl with
  |nil=>exact q2
  |atp id ver e' len=>
   obtain⟨a1,a2,a3,a4,s,els,d,a5,a6,a7⟩:=q2;refine⟨a1,a2,a3,a4,s,els,d,hZ a5 (fun _ _ _ _ e=>by cases e),a6,fun i r r' c1 c2=>⟨(a7 i r r' c1 c2).1,fun j a b c3 c4=>?_⟩⟩;have:=(a7 i r r' c1 c2).2 j a b c3 c4;unfold TC at this ⊢;cases hkd:gZ ks j with
   |none=>rw[hkd]at this;exact this
   |some t2=>
    rw[hkd]at this;rcases this with b1|⟨b1,b2⟩
    exact .inl b1;exact .inr ⟨b1,b2.lk fun _ _ _ _ _ h=>hZ h (fun _ _ _ _ e=>by cases e)⟩
 |mp es=>
  cases pl with
  |nil=>exact q2
  |atp id ver e' len=>
   obtain⟨a1,a2,es',a3,a4⟩:=q2;exact⟨a1,a2,es',hZ a3 (fun _ _ _ _ e=>by cases e),a4⟩
 |fl fs=>
  cases pl with
  |nil=>exact q2
  |atp id ver e' len=>
   obtain⟨a1,a2,a3,a4,ty,els,a5,a6⟩:=q2;exact⟨a1,a2,a3,a4,ty,els,hZ a5 (fun _ _ _ _ e=>by cases e),a6⟩
 |loop N' e ps a b busy fin=>
  cases pl with
  |nil=>exact q2
  |atp id ver e' len=>
   obtain⟨a1,a2,st,pend,tmps,a3,a4⟩:=q2;exact⟨a1,a2,st,pend,tmps,hZ a3 (fun _ _ _ _ e=>by cases e),a4⟩
 obtain⟨z1,z2,z3,z4⟩:=c.hr.zr id o m;exact⟨hZ z1 (fun _ _ _ _ e=>by subst e;cases z4),z2,z3,z4⟩;rw[p2 id l];exact hf.keep id l hn
end
end Go.P
namespace Go.P
open Go.Sim (AV AO Hp mQ upd St IC IX Ex iV CK Wf Out doOp mO exec Foot wanted put popMark)
variable {C:Cx} {N lim n:Nat} {R:Type} {h:bA} {s:Hp} {t:aA AV}
def zI (NF:FuncId->Bool) (N:Nat) (rd:Bool):PC->Bool
 |.reg ops=>lD N [] false [] ops
 |.regD dr ops before=>(Nat.beq dr 3||Nat.beq dr 4||(Nat.ble 5 dr&&fY1 ((rV none ops).map fun o=>lI NF dr o.k)))&&lD N [] false [] ops&&Lj ((rV none ops).map fun o=>lI NF dr o.k) before
 |.regX dr ops before ex=>((Nat.beq dr 3||Nat.beq dr 4)&&ex.all (fun p=> !(Nat.beq p.2.2.1 999999))||(Nat.ble 6 dr&&fY1 ((rV none ops).map fun o=>lI NF dr o.k)&&ex.all fun p=> !(Nat.beq (((rV none ops).map fun o=>lI NF dr o.k).getD p.1 7) 7)))&&lD N [] false [] ops&&Xi ((rV none ops).map fun o=>lI NF dr o.k) before ex&&ex.all (aP1 (rV none ops))
 |.seq a b=>zI NF N rd a&&zI NF N rd b
 |.cond c a b=>Qm N c&&zI NF N rd a&&zI NF N rd b
 |.condJ _ c a b=>Qm N c&&zI NF N rd a&&zI NF N rd b
 |.condL c a b=>Qm N c&&zI NF N rd a&&zI NF N rd b
 |.block _ c=>zI NF N rd c
 |.loop _ _ c=>zI NF N rd c
 |.loopU _ _ c=>zI NF N rd c
 |.rangeF N' _ f _ _ _=>Nat.beq N' N&&Qm N f
 |_=>true
def okL (NF:FuncId->Bool) (N:Nat) (ps:aA Nat) (a b:PC):Bool:=ps.all (fun p=>Nat.blt p N)&&zI NF N true a&&zI NF N true b
def qO:∀{ops} {g},tR ops=true->rV g ops=[]
 |.nil,g,_=>rfl
 |.lax _ _ r,g,h=>qO (ops:=r) h
 |.own _ _ _ _ r,g,h=>qO (ops:=r) h
 |.ownc _ _ _ _ _ r,g,h=>qO (ops:=r) h
 |.laxc _ _ _ r,g,h=>qO (ops:=r) h
 |.fz _ _ r,g,h=>qO (ops:=r) h
 |.gc _ r,g,h=>qO (ops:=r) h
 |.tre _ _ _ r,g,h=>qO (ops:=r) h
 |.up _ r,g,h=>qO (ops:=r) h
section
variable {T:mO} {O:Hk} {X:NX}
def Res (T:mO) (N lim:Nat) (rd:Bool) (c:IC) (C:Cx) (n:Nat) (h:bA) (t:aA AV) (s:Hp) (K:Ex->gL->bA->Nat->aB R) (r:R):Prop:=
 ∃x e' h' n' C' a s',K x e' h' n'=some r/\eU C' e' a/\dR C' n' h' lim s'/\a.length=N/\n<=n'/\Fr C h s C' h' s'/\∃D,∀d,D<=d->exec T d lim rd c {t:=t,s:=s}=some (x,{t:=a,s:=s'})
variable {rd:Bool}
def Tr.nil_inv {NF} {dr} {σ τ} {fs} (h:Tr T NF dr lim [] σ fs τ):τ=σ:=by cases h;rfl
def Qv {C} {x} {a} (h:RV C x a) (hf:fG1 x=true):Sim.idOf a=[]:=by
 cases h with
 |cl h=>cases h<;>first|rfl|simp[fG1]at hf
 |_=>simp[fG1]at hf
def gY1 {C} {x} {a} {k i} (h:RV C x a) (hk:xY x=some k) (hi:i∈Sim.idOf a):∃v e l,C k=some (.atp i v e l):=by
 cases h with
 |cl h=>cases h<;>simp[xY]at hk
 |ownn h hy=>subst hy;simp[Sim.idOf]at hi
 |ref h=>simp[xY]at hk;simp[Sim.idOf]at hi;subst hk;subst hi;exact⟨_,_,_,h⟩
 |own h=>simp[xY]at hk;simp[Sim.idOf]at hi;subst hk;subst hi;exact⟨_,_,_,h⟩
 |el h=>simp[xY]at hk;simp[Sim.idOf]at hi;subst hk;subst hi;exact⟨_,_,_,h⟩
 |map h=>simp[xY]at hk;simp[Sim.idOf]at hi;subst hk;subst hi;exact⟨_,_,_,h⟩
 |_=>simp[xY]at hk
def gZ1 {C} {e} {t} {n lim} {h} {s} (he:eU C e t) (o:dR C n h lim s) {p}
  (hp:(match fQ e p.2.2.1,fQ e p.2.2.2 with|some x,some y=>Uj h x y|_,_=>false)=true):Qf {t:=t,s:=s} p:=by
 split at hp;rename_i x y r hy;obtain⟨a,q,g⟩:=he _ _ r;obtain⟨b,hb,j⟩:=he _ _ hy;refine⟨a,b,q,hb,fun i hi d=>?_⟩;unfold Uj at hp;simp only[fW3]at hp;rcases hp with(hp|hp)|hp;rw[Qv g hp]at hi;simp at hi;rw[Qv j hp]at d;simp at d;split at hp;rename_i k k' h1 h2;simp only[fF3,fX3,bJ,gO3]at hp;obtain⟨⟨f,hk⟩,c⟩:=hp;obtain⟨v,m,l,c1⟩:=gY1 g h1 hi;obtain⟨v',e2,l',c2⟩:=gY1 j h2 d;exact f (o.hr.inj k k' i v m l v' e2 l' (fun h=>by rw[h]at hk;cases hk) (fun h=>by rw[h]at c;cases c) c1 c2);cases hp;cases hp
def Bz {h} {k} (hb:Le h k=true):∃cs,aK h k=some (.box cs):=by
 unfold Le at hb;split at hb
 grind
 cases hb
def nM1 {a b:IC} {K:Ex->gL->bA->Nat->aB R} {r:R} {q:PC}
  (v:Res T N lim rd a C n h t s (fun x e h n=>match x with|.normal=>jB O X q e h n K|.exit i=>K (.exit i) e h n|.ret=>K .ret e h n) r)
  (hb:∀C n h e t s,jB O X q e h n K=some r->eU C e t->dR C n h lim s->t.length=N->Res T N lim rd b C n h t s K r):
  Res T N lim rd (.seq a b) C n h t s K r:=by
 obtain⟨x,f,h1,n1,C1,p,s1,g,j,k,l,u,m,D,o⟩:=v;cases x with
 |normal=>
  obtain⟨A,e2,h2,w,C2,z,y,q1,q2,q3,q4,q5,q6,D2,q7⟩:=hb C1 n1 h1 f p s1 g j k l;refine⟨A,e2,h2,w,C2,z,y,q1,q2,q3,q4,by omega,m.trans q6,D+D2+1,fun d hd=>?_⟩;obtain⟨d,rfl⟩:∃c,d=c+1:=⟨d-1,by omega⟩
  simp only[exec,o d (by omega)];exact q7 d (by omega)
 |exit i=>
  refine⟨.exit i,f,h1,n1,C1,p,s1,g,j,k,l,u,m,D+1,fun d hd=>?_⟩;obtain⟨d,rfl⟩:∃c,d=c+1:=⟨d-1,by omega⟩
  simp only[exec,o d (by omega)]
 |ret=>
  refine⟨.ret,f,h1,n1,C1,p,s1,g,j,k,l,u,m,D+1,fun d hd=>?_⟩;obtain⟨d,rfl⟩:∃c,d=c+1:=⟨d-1,by omega⟩
  simp only[exec,o d (by omega)]
def Ge {c:IX} {a b:IC} {K:Ex->gL->bA->Nat->aB R} {r:R} {v:Bool} (hc:c.ev t=some (.v (.bool v)))
  (g:Res T N lim rd (if v then a else b) C n h t s K r):Res T N lim rd (.cond c a b) C n h t s K r:=by
 obtain⟨x,f,h1,n1,C1,q,s1,i,j,k,l,m,o,D,p⟩:=g;refine⟨x,f,h1,n1,C1,q,s1,i,j,k,l,m,o,D+1,fun d hd=>?_⟩;obtain⟨d,rfl⟩:∃e,d=e+1:=⟨d-1,by omega⟩
 simp only[exec,hc];exact p d (by omega)
def Lu {C} {e} {t} {c} {vs} (he:eU C e t) (f:Qm N c=true) (a:evs e [c]=some vs) {v} (hv:vs=[.v (.bool v)]):(eX c).ev t=some (.v (.bool v)):=by
 obtain⟨ys,h1,h2⟩:=mB he (xs:=[c]) (by simpa using f) a;subst hv;obtain⟨y,_,rfl,b,d⟩:=h2.inv_cons;rw[d.inv_nil,iX b]at h1;simp only[iA3,jG3,Sim.evs]at h1;split at h1
 grind
 cases h1
def Qw {c} {pc} {keep kx} {n} {h0} (hd:∀k,aK h0 k≠none->k<n)
  (hb:∀{R'} (K':Ex->gL->bA->Nat->aB R') (r':R') C n h e t s,jB O X pc e h n K'=some r'->eU C e t->dR C n h lim s->t.length=N->Res T N lim rd c C n h t s K' r'):
  ∀k st C t s x st',
   aS (fun s:Sw=>jB O X pc s.e s.h n fun x e' h' _=>pG (lk x keep kx) h0 n e' h' fun s'=>some (match x with|.normal=>(.inl s':Sw⊕(Ex×Sw))|x=>.inr (x,s'))) k st=some (x,st')->
   eU C st.e t->dR C n st.h lim s->t.length=N->(∀k,aK h0 k=none↔aK st.h k=none)->
   ∃C' j s',eU C' st'.e j/\dR C' n st'.h lim s'/\j.length=N/\Fr C st.h s C' st'.h s'/\∃D,∀d,D<=d->exec T d lim rd (.loop c) {t:=t,s:=s}=some (x,{t:=j,s:=s'})
 |0,st,C,t,s,x,st',h,_,_,_,_=>by simp[aS]at h
 |k+1,st,C,t,s,x,st',h,he,hM,hN,hkeys=>by
  simp only[aS,fC3]at h
  obtain⟨q,y,h⟩:=h
  have b:dR C n st.h lim {h:=.mark::s.h,n:=s.n}:=⟨⟨hM.hr.ob,hM.hr.inj,hM.hr.zr,hM.hr.wn,hM.hr.wb,hM.hr.wz⟩,hM.dom,hM.wf,hM.lim⟩
  obtain⟨G,H,h1,n1,C1,v,s1,A,B,E,o,J,F,D,p⟩:=hb _ q C n st.h st.e t _ y he b hN
  have w:∀k,aK st.h k≠none->k<n:=fun k hk=>hd k (fun z=>hk ((hkeys k).1 z))
  obtain⟨g,w1,w2,w3,w4,w5⟩:=rG hd E B A
  have l:∀k,aK st.h k=none↔aK g.h k=none:=fun k=>(hkeys k).symm.trans (w5 k)
  have m:=Fr.canon b F w4 l
  obtain⟨r,u⟩:=dR.pop hM w3 m l
  cases G with
  |normal=>
   simp only[fN3]at w1
   subst w1
   simp only at h
   obtain⟨C',j,s',p1,p2,p3,p4,D2,p5⟩:=Qw hd hb k g _ v _ x st' h w2 r o w5
   refine⟨C',j,s',p1,p2,p3,u.trans p4,D+D2+1,fun d f=>?_⟩
   obtain⟨d,rfl⟩:∃a,d=a+1:=⟨d-1,by omega⟩
   rw[exec]
   simp only[p d (by omega)]
   exact p5 d (by omega)
  |exit i=>
   simp only[fN3]at w1
   subst w1
   simp only[fN3,gD3]at h
   obtain⟨rfl,rfl⟩:=h
   refine⟨_,v,_,w2,r,o,u,D+1,fun d f=>?_⟩
   obtain⟨d,rfl⟩:∃a,d=a+1:=⟨d-1,by omega⟩
   rw[exec]
   simp only[p d (by omega)]
  |ret=>
   simp only[fN3]at w1
   subst w1
   simp only[fN3,gD3]at h
   obtain⟨rfl,rfl⟩:=h
   refine⟨_,v,_,w2,r,o,u,D+1,fun d f=>?_⟩
   obtain⟨d,rfl⟩:∃a,d=a+1:=⟨d-1,by omega⟩
   rw[exec]
   simp only[p d (by omega)]
def Jx {c} {pc} {keep} {n} {h0} (hd:∀k,aK h0 k≠none->k<n)
  (hb:∀{R'} (K':Ex->gL->bA->Nat->aB R') (r':R') C n h e t s,jB O X pc e h n K'=some r'->eU C e t->dR C n h lim s->t.length=N->Res T N lim rd c C n h t s K' r'):
  ∀(k:Nat) (st:Sw) (C:Cx) (t:aA AV) (s:Hp) (K:Ex->Sw->aB R) (r:R),
   Fg (fun e h K=>jB O X pc e h n fun x e h _=>K x e h) (fun e' h' K=>pG keep h0 n e' h' K) k st K=some r->
   eU C st.e t->dR C n st.h lim s->t.length=N->(∀k,aK h0 k=none↔aK st.h k=none)->
   ∃x st' C' j s',K x st'=some r/\eU C' st'.e j/\dR C' n st'.h lim s'/\j.length=N/\Fr C st.h s C' st'.h s'/\∃D,∀d,D<=d->exec T d lim rd (.loop c) {t:=t,s:=s}=some (x,{t:=j,s:=s'})
 |0,st,C,t,s,K,r,h,_,_,_,_=>by simp[Fg]at h
 |k+1,st,C,t,s,K,r,hq,he,hM,hN,hkeys=>by
  simp only[Fg]at hq
  have f:dR C n st.h lim {h:=.mark::s.h,n:=s.n}:=⟨⟨hM.hr.ob,hM.hr.inj,hM.hr.zr,hM.hr.wn,hM.hr.wb,hM.hr.wz⟩,hM.dom,hM.wf,hM.lim⟩
  obtain⟨F,G,h1,n1,C1,v,s1,z,A,B,o,H,E,D,p⟩:=hb _ r C n st.h st.e t _ hq he f hN
  have w:∀k,aK st.h k≠none->k<n:=fun k hk=>hd k (fun y=>hk ((hkeys k).1 y))
  obtain⟨a,w1,w2,w3,w4,w5⟩:=rG hd B A z
  have l:∀k,aK st.h k=none↔aK a.h k=none:=fun k=>(hkeys k).symm.trans (w5 k)
  have m:=Fr.canon f E w4 l
  obtain⟨q,u⟩:=dR.pop hM w3 m l
  cases F with
  |normal=>
   obtain⟨x,st',C',j,s',p0,p1,p2,p3,p4,D2,p5⟩:=Jx hd hb k a _ v _ K r w1 w2 q o w5
   refine⟨x,st',C',j,s',p0,p1,p2,p3,u.trans p4,D+D2+1,fun d g=>?_⟩
   obtain⟨d,rfl⟩:∃b,d=b+1:=⟨d-1,by omega⟩
   rw[exec]
   simp only[p d (by omega)]
   exact p5 d (by omega)
  |exit i=>
   refine⟨.exit i,a,_,v,_,w1,w2,q,o,u,D+1,fun d g=>?_⟩
   obtain⟨d,rfl⟩:∃b,d=b+1:=⟨d-1,by omega⟩
   rw[exec]
   simp only[p d (by omega)]
  |ret=>
   refine⟨.ret,a,_,v,_,w1,w2,q,o,u,D+1,fun d g=>?_⟩
   obtain⟨d,rfl⟩:∃b,d=b+1:=⟨d-1,by omega⟩
   rw[exec]
   simp only[p d (by omega)]
def Ci:bA->Nat->bA
 |[],_=>[]
 |(j,o)::r,k=>if j=k then Ci r k else(j,o)::Ci r k
def Qx:∀(h:bA) (k:Nat) (K:bA->aB R),Pu h k K=K (Ci h k)
 |[],_,_=>rfl
 |(j,o)::r,k,K=>by
  simp only[Pu,Ci,bJ]
  by_cases e:j=k<;>simp[e,Qx r k]
def rH:∀h k j,aK (Ci h k) j=if j=k then none else aK h j
 |[],k,j=>by simp[Ci,aK]
 |(i,o)::r,k,j=>by
  have ih:=rH r k j
  simp only[Ci]
  by_cases e:i=k
  subst e
  rw[fJ3 rfl,ih]
  by_cases e2:j=i
  simp[e2]
  simp[e2,aK,Ne.symm e2]
  rw[fM3 e]
  simp only[aK]
  by_cases e2:i=j
  subst e2;simp[e]
  grind
def Gf {e}:∀{is:aA Nat} {K:gL->aB R} {r:R},Wv e is K=some r->∃e',K e'=some r/\∀i v,fQ e' i=some v->fQ e i=some v
 |[],K,r,h=>⟨[],h,fun i v h=>by simp[fQ]at h⟩
 |i::is,K,r,h=>by
  unfold Wv at h
  rw[kE,fC3]at h
  obtain⟨v,hv,h⟩:=h
  obtain⟨e',h1,h2⟩:=Gf h
  refine⟨_,h1,fun j w hw=>?_⟩
  simp only[fQ]at hw
  split at hw
  grind
  exact h2 j w hw
def Db {C} {n} {h} {lim} {s} (d:dR C n h lim s) {k id ver e len N} {e0} {ps} {a b} {busy} {fin} (hg:aK h k=some (.loop N e0 ps a b busy fin)) (c:C k=some (.atp id ver e len)):
  lim<=id/\∃st pend tmps,Sim.look s.h id=some (.loop st pend tmps ps (mY a) (mY b))/\tmps.length=N/\eU C e0 tmps/\StR busy fin st pend:=by
 obtain⟨pl,h1,h2⟩:=d.hr.ob k _ hg;rw[c]at h1;cases h1;exact⟨h2.1,h2.2.2⟩
def gV (H:∀f xs v,O f xs=some v->sB T f xs v) (F:NOK T X):∀(c:PC) {R:Type} (K:Ex->gL->bA->Nat->aB R) (r:R) (C:Cx) (n:Nat) (h:bA) (e:gL) (t:aA AV) (s:Hp),jB O X c e h n K=some r->eU C e t->dR C n h lim s->t.length=N->
  zI X.is N rd c=true->Res T N lim rd (mY c) C n h t s K r
 |.skip,R,K,r,C,n,h,e,t,s,hk,he,j,w,u=>⟨.normal,e,h,n,C,t,s,hk,he,j,w,fI3 _,.refl _ _ _,1,fun d hd=>by
   obtain⟨d,rfl⟩:∃L,d=L+1:=⟨d-1,by omega⟩
   simp only[mY,exec]⟩
 |.exit i,R,K,r,C,n,h,e,t,s,hk,he,j,w,u=>⟨.exit i,e,h,n,C,t,s,hk,he,j,w,fI3 _,.refl _ _ _,1,fun d hd=>by
   obtain⟨d,rfl⟩:∃L,d=L+1:=⟨d-1,by omega⟩
   simp only[mY,exec]⟩
 |.ret,R,K,r,C,n,h,e,t,s,hk,he,j,w,u=>⟨.ret,e,h,n,C,t,s,hk,he,j,w,fI3 _,.refl _ _ _,1,fun d hd=>by
   obtain⟨d,rfl⟩:∃L,d=L+1:=⟨d-1,by omega⟩
   simp only[mY,exec]⟩
 |.reg ops,R,K,r,C,n,h,e,t,s,hk,he,j,w,u=>by
  obtain⟨e',h',n',C',t',s',fs,q1,q2,q3,q4,q5,q6,q7,_⟩:=eL H F (.inl rfl) ops [] [] false none C n h e t s _ r hk he j w u trivial (fun _ _ e=>by cases e)
  obtain⟨D,hD⟩:=q2.run rfl
  refine⟨.normal,e',h',n',C',t',s',q1,q3,q4,q5,q6,q7,D+1,fun d hd=>?_⟩
  obtain⟨d,rfl⟩:∃L,d=L+1:=⟨d-1,by omega⟩
  simp only[mY,exec,hD d (by omega),gB3]
 |.regD dr ops before,R,K,r,C,n,h,e,t,s,hk,he,j,w,u=>by
  simp only[zI,fF3,fW3,bJ,fO3,iO3]at u
  have U:dr=0\/dr=3\/dr=4\/5<=dr:=by rcases u.1.1 with(h|h)|h<;>simp[h]
  obtain⟨e',h',n',C',t',s',fs,q1,q2,q3,q4,q5,q6,q7,_⟩:=eL H F U ops [] [] false none C n h e t s _ r hk he j w u.1.2 trivial (fun _ _ e=>by cases e)
  obtain⟨D,hD⟩:=q2.draw (by rcases u.1.1 with(h|h)|h<;>omega) u.2 (fun h5=>by
   rcases u.1.1 with(h|h)|h
   .omega
   .omega
   .exact h.2)
  refine⟨.normal,e',h',n',C',t',s',q1,q3,q4,q5,q6,q7,D+1,fun d hd=>?_⟩
  obtain⟨d,rfl⟩:∃L,d=L+1:=⟨d-1,by omega⟩
  obtain⟨gs,g1,g2⟩:=hD d (by omega)
  simp only[mY,exec,g1,g2,gF3]
 |.dead _,R,K,r,C,n,h,e,t,s,hk,he,j,w,u=>nomatch hk
 |.regX dr ops before ex,R,K,r,C,n,h,e,t,s,hk,he,j,w,u=>by
  simp only[zI,fF3,fW3,bJ,fO3,iO3]at u
  obtain⟨⟨⟨U,d8⟩,b6⟩,d6⟩:=u
  unfold jB at hk
  have b8:dr=0\/dr=3\/dr=4\/5<=dr:=by rcases U with⟨h|h,_⟩|⟨⟨h,_⟩,_⟩<;>omega
  obtain⟨e',h',n',C',t',s',fs,q1,q2,q3,q4,q5,q6,q7,_⟩:=eL H F b8 ops [] [] false none C n h e t s _ r hk he j w d8 trivial (fun _ _ e=>by cases e)
  cases hb:exB h e' h' ex with
  |false=>rw[hb]at q1;cases q1
  |true=>
   rw[hb]at q1
   obtain⟨D,hD⟩:=q2.drawX (by rcases U with⟨h|h,_⟩|⟨⟨h,_⟩,_⟩<;>omega) b6 d6 (fun p hp=>by
    have hb:=fH3.1 hb p hp
    cases hm:Nat.beq p.2.2.1 999999 with
    |true=>
     rw[hm,fS3]at hb
     rw[fJ3 (fY3 hm)]
     have h5:5<=dr/\((rV none ops).map fun o=>lI X.is dr o.k)[p.1]? ≠some 7:=by
      rcases U with⟨_,h⟩|⟨⟨h,_⟩,h7⟩
      .have:=fH3.1 h p hp
       rw[fY3 hm]at this;simp at this
      .refine ⟨by omega,fun hc=>?_⟩
       have:=fH3.1 h7 p hp;rw[List.getD_eq_getElem?_getD,hc]at this;simp at this
     refine⟨h5,?_⟩;split at hb
     .rename_i k o hk
      simp only[fF3]at hb;obtain⟨z,S,rz⟩:=q3 _ _ hk;obtain⟨id,ver,A,len,hC,rfl⟩:=mG rz;refine⟨_,S,fun x hx=>?_⟩;simp only[Sim.idOf,fT3,iY3,or_false]at hx;subst hx;obtain⟨cs0,b7⟩:=Bz hb.1;obtain⟨e3,d4⟩:=Bz hb.2;obtain⟨o',J,k2⟩:=q7.kd k _ b7;rw[d4]at J;cases J;have:=(k2 rfl).2;rw[hC]at this;exact(j.hr.lt (by rw[b7];simp) this.symm).2
     .cases hb
    |false=>
     rw[hm,fZ3]at hb;rw[fM3 (fun h=>by rw[h]at hm;cases hm)];exact gZ1 q3 q4 hb) (fun h5=>by
    rcases U with⟨h|h,_⟩|⟨⟨_,h⟩,_⟩
    .omega
    .omega
    .exact h)
   refine⟨.normal,e',h',n',C',t',s',q1,q3,q4,q5,q6,q7,D+1,fun d hd=>?_⟩;obtain⟨d,rfl⟩:∃L,d=L+1:=⟨d-1,by omega⟩
   obtain⟨gs,g1,g2⟩:=hD d (by omega);simp only[mY,exec,g1,g2,gF3]
 |.seq a b,R,K,r,C,n,h,e,t,s,hk,he,j,w,u=>by
  simp only[zI,fF3]at u;have ha:=gV H F a _ r C n h e t s hk he j w u.1;have hb:=fun C n h e t s hk he j w=>gV H F b K r C n h e t s hk he j w u.2;have Z:=nM1 ha hb;unfold mY;split
  .rename_i ops
   split
   .rename_i G
    simp only[fF3]at G;obtain⟨e',h',n',C',t',s',fs,q1,q2,q3,q4,q5,q6,q7,_⟩:=eL H F (.inl rfl) ops [] [] false none C n h e t s _ r hk he j w u.1 trivial (fun _ _ e=>by cases e);rw[qO G.1]at q2;have:=q2.nil_inv;cases this;obtain⟨x2,e2,h2,n2,C2,t2,s2,w1,w2,w3,w4,w5,w6,D2,w7⟩:=hb C' n' h' e' t s q1 q3 q4 w;exact⟨x2,e2,h2,n2,C2,t2,s2,w1,w2,w3,w4,by omega,q7.trans w6,D2,w7⟩
   .exact Z
  .split
   .rename_i ops
    split
    .rename_i G
     simp only[fF3]at G;obtain⟨x1,A,h1,n1,C1,t1,s1,J,k2,k3,k4,k5,k6,k7⟩:=ha;cases x1 with
     |normal=>
      obtain⟨e',h',n',C',t',s',fs,q1,q2,q3,q4,q5,q6,q7,_⟩:=eL H F (.inl rfl) ops [] [] false none C1 n1 h1 A t1 s1 _ r J k2 k3 k4 u.2 trivial (fun _ _ e=>by cases e);rw[qO G.1]at q2;have:=q2.nil_inv;cases this;exact⟨.normal,e',h',n',C',t1,s1,q1,q3,q4,k4,by omega,k6.trans q7,k7⟩
     |exit i=>exact⟨.exit i,A,h1,n1,C1,t1,s1,J,k2,k3,k4,k5,k6,k7⟩
     |ret=>exact⟨.ret,A,h1,n1,C1,t1,s1,J,k2,k3,k4,k5,k6,k7⟩
    .exact Z
   .exact Z
 |.cond c a b,R,K,r,C,n,h,e,t,s,hk,he,j,w,u=>by
  simp only[zI,fF3]at u;unfold jB at hk;rw[kU,fC3]at hk;obtain⟨vs,M,hk⟩:=hk;split at hk
  .rename_i v
   rw[tL]at hk;refine Ge (Lu he u.1.1 M rfl) ?_;cases v with
   |true=>exact gV H F a K r C n h e t s hk he j w u.1.2
   |false=>exact gV H F b K r C n h e t s hk he j w u.2
  .exact aD hk
 |.condJ keep c a b,R,K,r,C,n,h,e,t,s,hk,he,j,w,u=>by
  simp only[zI,fF3]at u;unfold jB at hk;rw[kU,fC3]at hk;obtain⟨vs,M,hk⟩:=hk;split at hk
  .rename_i v
   rw[cF,fC3]at hk;obtain⟨q,hq,hk⟩:=hk;rw[tL]at hq;refine Ge (Lu he u.1.1 M rfl) ?_
   have fin:∀{c:IC},Res T N lim rd c C n h t s (fun x e' h' _=>pG keep h n e' h' fun s=>some (x,s)) q->Res T N lim rd c C n h t s K r:=by
    intro c b9;obtain⟨x1,A,h1,n1,C1,t1,s1,J,k2,k3,k4,k5,k6,D,k7⟩:=b9
    obtain⟨W,w1,w2,w3,w4,w5⟩:=rG (fun k hk=>by
     cases S:aK h k with
     |none=>exact absurd S hk
     |some o=>obtain⟨pl,p1,_⟩:=j.hr.ob k o S;exact j.dom k pl p1) k3 k2 J
    cases w1;exact⟨x1,W.e,W.h,n,_,t1,s1,hk,w2,w3,k4,fI3 _,Fr.canon j k6 w4 w5,D,k7⟩
   cases v with
   |true=>exact fin (gV H F a _ q C n h e t s hq he j w u.1.2)
   |false=>exact fin (gV H F b _ q C n h e t s hq he j w u.2)
  .exact aD hk
 |.condL c a b,R,K,r,C,n,h,e,t,s,hk,he,j,w,u=>by
  simp only[zI,fF3]at u;unfold jB at hk;rw[kU,fC3]at hk;obtain⟨vs,M,hk⟩:=hk;split at hk
  .rename_i v
   refine Ge (Lu he u.1.1 M rfl) ?_;cases v with
   |true=>exact gV H F a K r C n h e t s hk he j w u.1.2
   |false=>exact gV H F b K r C n h e t s hk he j w u.2
  .exact aD hk
 |.loopU m keep c,R,K,r,C,n,h,e,t,s,hk,he,j,w,u=>by
  unfold jB at hk
  have hd:∀k,aK h k≠none->k<n:=fun k hk=>by
   cases S:aK h k with
   |none=>exact absurd S hk
   |some o=>obtain⟨pl,p1,_⟩:=j.hr.ob k o S;exact j.dom k pl p1
  obtain⟨W,w1,w2,w3,w4,w5⟩:=rG hd j he hk;obtain⟨x,st',C',t',s',p0,p1,p2,p3,p4,D,p5⟩:=Jx (T:=T) (rd:=rd) (N:=N) (lim:=lim) hd (fun K' r' C n h e t s hk he j w=>gV H F c K' r' C n h e t s hk he j w u) m W _ t s _ r w1 w2 w3 w w5;exact⟨x,st'.e,st'.h,n,C',t',s',p0,p1,p2,p3,fI3 _,(Fr.canon j (.refl _ _ _) w4 w5).trans p4,D,p5⟩
 |.rangeF N' keep f ps a b,R,K,r,C,n,h,e,t,s,hk,he,j,w,u=>by
  simp only[zI,fF3,fX3,bJ,fO3]at u;obtain⟨rfl,u⟩:=u;unfold jB at hk;rw[kU,fC3]at hk;obtain⟨vs,M,hk⟩:=hk;obtain⟨ys,h1,h2⟩:=mB he (xs:=[f]) (by simpa using u) M;split at hk
  .rename_i g first cap
   obtain⟨y,_,rfl,h3,h4⟩:=h2.inv_cons;rw[h4.inv_nil]at h1;obtain⟨a',b',rfl,h5,h6⟩:=tU h3
   have hf:(eX f).ev t=some (.fn (.func g) a' b'):=by
    simp only[iA3,jG3,Sim.evs]at h1;split at h1
    .rename_i ha hb;simp only[fN3,List.cons.injEq]at h1;rw[<-h1.1];exact ha
    .cases h1
   cases hX1:X.is g with
   |false=>rw[hX1]at hk;exact aD hk
   |true=>
   rw[hX1,fS3]at hk;obtain⟨e0,hk,d5⟩:=Gf hk;have b4:=nH j (.atp s.n 0 0 0)
   obtain⟨m1,m2,m3⟩:=rX j (po:=.loop N' e0 ps a b false none) (ao:=.loop .ready none t ps (mY a) (mY b)) (ver:=0) (e:=0) (len:=0)
    ⟨j.lim,by omega,_,_,t,by rw[gG,fJ3 rfl],w,fun i v hv=>(he i v (d5 i v hv)).imp fun y hy=>⟨hy.1,hy.2.mono b4⟩,rfl,rfl⟩
   have hx:LR (RV (ext C n (.atp s.n 0 0 0))) (first++[.yld n]++cap) (a'++[.fn (.yield s.n) [] []]++b'):=
    ((h5.mono fun _ _ h=>h.mono b4).append (.cons (.yld (pJ C n _)) .nil)).append (h6.mono fun _ _ h=>h.mono b4)
   obtain⟨v,e',h',n',C',y,s',q1,q2,q3,q4,q5,q6,q7⟩:=Lp (P:=fun y s'=>∃D,∀d,D<=d->Sim.callF T (exec T d) lim g (a'++[.fn (.yield s.n) [] []]++b') _=some (y,s')) m1 (he.mono b4) hx
    (fun hs C0 m K' r' d3 d9 hr=>by
     obtain⟨v,h',n',C',y,s',w1,w2,w3,w4,w5,w6,w7⟩:=F.run g _ hs m K' r' C0 _ lim _ hX1 hr d9 d3;exact⟨v,h',n',C',y,s',w1,w2,w3,w4,w5,w7⟩) hk
   rw[iC,fC3]at q1;obtain⟨ob,Y,q1⟩:=q1;obtain⟨o',z1,z2⟩:=q6.kd n (.loop N' e0 ps a b false none) (by simp[aK]);rw[Y]at z1;cases z1;split at q1
   .rename_i N2 e2 V a2 b2 fin
    have b0:C' n=some (.atp s.n 0 0 0):=by
     have:=(z2 rfl).2;rw[pJ]at this;exact this
    obtain⟨_,st,pend,tmps,g1,g2,g3,g4⟩:=Db q4 Y b0;rw[Qx]at q1;obtain⟨D,hD⟩:=q7;have e4:n<n':=by omega
    have d2:dR C' n' (Ci h' n) lim {h:=upd s'.h s.n (.loop .exhausted pend tmps V (mY a2) (mY b2)),n:=s'.n}:=by
     have nn:∀{k},aK (Ci h' n) k≠none->aK h' k≠none:=fun{k} hk=>by
      rw[rH]at hk;split at hk
      .exact absurd rfl hk
      .exact hk
     refine⟨⟨fun k o B=>?_,fun k k' id v e l v' e' l' a b c d=>q4.hr.inj k k' id v e l v' e' l' (nn a) (nn b) c d,fun id o S=>?_,fun k id v e l a b=>q4.hr.wn k id v e l (nn a) b,q4.hr.wb,q4.hr.wz⟩,q4.dom,q4.wf.upd _ _,q4.lim⟩
     .rw [rH]at B
      split at B
      .cases B
      .rename_i d7
       obtain⟨pl,p1,p2⟩:=q4.hr.ob k o B
       refine⟨pl,p1,p2.mono (fI3 _) (.refl _) (fun id v e l hp=>?_) (fun o sl u=>⟨u,by
        rw[Sim.look_upd,fM3 (fun A=>?_)];have:=q4.hr.wn n s.n _ _ _ (by rw[Y];simp) b0;rw[<-A.1,u]at this;cases this⟩)⟩
       subst hp;rw[Sim.look_upd];rw[fM3 (fun A=>d7 (q4.hr.inj k n s.n _ _ _ _ _ _ (by rw[B];simp) (by rw[Y];simp) (by rw[<-A.1];exact p1) b0))]
     .obtain ⟨z1,z2,z3,z4⟩:=q4.hr.zr id o S
      refine⟨?_,z2,fun k v e l a b=>z3 k v e l (nn a) b,z4⟩;rw[Sim.look_upd,fM3 (fun A=>z3 n 0 0 0 (by rw[Y];simp) (by rw[A.1];exact b0))];exact z1
    have E:=m2.trans q6
    have d0:Fr C h s C' (Ci h' n) {h:=upd s'.h s.n (.loop .exhausted pend tmps V (mY a2) (mY b2)),n:=s'.n}:=by
     refine⟨E.sk.trans (.upd _ _ _ _) E.n,E.n,fun id b5 hn=>?_,fun id b5 hn=>E.own id b5 ?_,fun k o B=>?_,E.zl,E.zn⟩
     .rw [Sim.look_upd,fM3 (by omega)]
      exact E.keep id b5 hn
     .rcases hn with⟨k,v,e,l,p1,p2⟩|hn
      .refine .inl ⟨k,v,e,l,?_,p2⟩
       rw[rH]at p1;split at p1
       .exact absurd rfl p1
       .exact p1
      .exact .inr hn
     .obtain ⟨o',p1,p2⟩:=E.kd k o B
      refine⟨o',?_,p2⟩;rw[rH,fM3 (fun A=>?_)]
      .exact p1
      .subst A
       rw[uS j (fI3 _)]at B;cases B
    have go:∀x,K x e' (Ci h' n) n'=some r->st≠.busy->(match pend with
       |none=>some (Ex.normal,({t:=t,s:={h:=upd s'.h s.n (.loop .exhausted pend tmps V (mY a2) (mY b2)),n:=s'.n}}:St))
       |some .ret=>some (.ret,{t:=t,s:={h:=upd s'.h s.n (.loop .exhausted pend tmps V (mY a2) (mY b2)),n:=s'.n}})
       |some (.exit id)=>some (.exit id,{t:=t,s:={h:=upd s'.h s.n (.loop .exhausted pend tmps V (mY a2) (mY b2)),n:=s'.n}})
       |_=>none)=some (x,{t:=t,s:={h:=upd s'.h s.n (.loop .exhausted pend tmps V (mY a2) (mY b2)),n:=s'.n}})->
      Res T N' lim rd (mY (.rangeF N' keep f ps a b)) C n h t s K r:=by
     intro x hK b6 hx;refine⟨x,e',Ci h' n,n',C',t,_,hK,fun i v hv=>(q3 i v hv).imp fun z S=>⟨S.1,S.2.1⟩,d2,w,by omega,d0,D+1,fun d hd=>?_⟩;obtain⟨d,rfl⟩:∃L,d=L+1:=⟨d-1,by omega⟩
     simp only[mY,exec,hf,hD d (by omega),g1,Sim.endRound,fR3,gT3];rw[fM3 b6];exact hx
    split at q1
    .obtain ⟨rfl,rfl⟩:=g4
     exact go _ q1 (by simp) rfl
    .obtain ⟨rfl,rfl⟩:=g4
     exact go _ q1 (by simp) rfl
    .obtain ⟨rfl,rfl⟩:=g4
     exact go _ q1 (by simp) rfl
    .exact aD q1
   .exact aD q1
  .exact aD hk
 |.block id c,R,K,r,C,n,h,e,t,s,hk,he,j,w,u=>by
  unfold jB at hk;obtain⟨x1,A,h1,n1,C1,t1,s1,J,k2,k3,k4,k5,k6,D,k7⟩:=gV H F c _ r C n h e t s hk he j w u
  have go:∀(x:Ex),(∀d,D<=d->(match exec T d lim rd (mY c) {t:=t,s:=s}with|some (.exit i,σ)=>if i=id then some (.normal,σ)else some (.exit i,σ)|r=>r)=some (x,{t:=t1,s:=s1}))->K x A h1 n1=some r->Res T N lim rd (mY (.block id c)) C n h t s K r:=by
   intro x hx hK;refine⟨x,A,h1,n1,C1,t1,s1,hK,k2,k3,k4,k5,k6,D+1,fun d hd=>?_⟩;obtain⟨d,rfl⟩:∃L,d=L+1:=⟨d-1,by omega⟩
   rw[mY,exec];exact hx d (by omega)
  cases x1 with
  |normal=>exact go .normal (fun d hd=>by rw[k7 d hd]) J
  |ret=>exact go .ret (fun d hd=>by rw[k7 d hd]) J
  |exit i=>
   simp only[bJ]at J;by_cases A:i=id
   .subst A
    simp only[hB3,fS3]at J;exact go .normal (fun d hd=>by rw[k7 d hd];simp) J
   .simp only[gJ3 A,fZ3]at J
    exact go (.exit i) (fun d hd=>by rw[k7 d hd];simp[A]) J
 |.loop keep kx c,R,K,r,C,n,h,e,t,s,hk,he,j,w,u=>by
  unfold jB at hk
  have hd:∀k,aK h k≠none->k<n:=fun k hk=>by
   cases S:aK h k with
   |none=>exact absurd S hk
   |some o=>obtain⟨pl,p1,_⟩:=j.hr.ob k o S;exact j.dom k pl p1
  obtain⟨W,w1,w2,w3,w4,w5⟩:=rG hd j he hk;rw[cF,fC3]at w1;obtain⟨⟨x,st'⟩,hq,hK⟩:=w1;obtain⟨C',t',s',p1,p2,p3,p4,D,p5⟩:=Qw (T:=T) (rd:=rd) (N:=N) (lim:=lim) hd (fun K' r' C n h e t s hk he j w=>gV H F c K' r' C n h e t s hk he j w u) bK W _ t s x st' hq w2 w3 w w5;exact⟨x,st'.e,st'.h,n,C',t',s',hK,p1,p2,p3,fI3 _,(Fr.canon j (.refl _ _ _) w4 w5).trans p4,D,p5⟩
end
end Go.P
namespace Go.P
open Go.Sim (AV AO Hp mQ upd St IC IX Ex iV CK Wf Out doOp mO exec Foot wanted put popMark mapO oQ Su fzC fz1 fz)
open Go.Sim (RV IFn)
variable {C:Cx} {R:Type} {h:bA} {id lim n ver:Nat} {s:Hp} {v x:PV} {xs:aA PV} {y:AV} {ys:aA AV}
structure cQ where
 ntmps:Nat
 res:List Sim.RV
 code:PC
 frz:Bool
 deriving Inhabited
noncomputable section
def Qy:aA PV->Nat->(gL->aB R)->aB R
 |[],_,K=>K []
 |x::xs,i,K=>fV x fun x=>Qy xs (i+1) fun e=>K ((i,x)::e)
def Gg (e:gL) (h:bA) (n:Nat):aA Sim.RV->(aA PV->aB R)->aB R
 |[],K=>K []
 |.tmp i::rs,K=>tM e i fun v=>Gg e h n rs fun vs=>K (v::vs)
 |.cellS i::rs,K=>tM e i fun p=>fZ .loadS [p] h n fun v _ _=>Gg e h n rs fun vs=>K (v::vs)
 |.cellA i m::rs,K=>tM e i fun p=>fZ (.loadA m) [p] h n fun v _ _=>Gg e h n rs fun vs=>K (v::vs)
def Qz (h:bA):Nat->PV->(PV->aB R)->aB R
 |0,_,_=>none
 |d+1,x,K=>match x with
  |.own k=>hK h k fun ob=>match ob with
   |.lst _ e _ rows=>K (.is e rows)
   |.tr t rows hs=>match hs with
    |[]=>match t with|.nd ty e ks=>bif Ht (d+1) (.nd ty e ks)then K (.is e rows)else none
    |_=>none
   |_=>none
  |.zs dp e rows=>bif Nat.ble dp (d+2)then K (.is e rows)else none
  |.ref k o=>hK h k fun ob=>match ob with
   |.box cs=>kK o cs fun cs=>vE (Qz h d) cs fun cs=>K (.ip cs)
   |_=>none
  |.v x=>K (.v x)
  |.is e rows=>K (.is e rows)
  |.ip cs=>K (.ip cs)
  |_=>none
def nN1 (h:bA) (x:PV) (K:PV->aB R):aB R:=match x with
 |.fn f [] cap=>vE (Qz h 4) cap fun c=>K (.fn f [] c)
 |x=>Qz h 4 x K
def nO1 (h:bA):aA PV->(aA PV->aB R)->aB R
 |[],K=>K []
 |x::xs,K=>nN1 h x fun x=>nO1 h xs fun xs=>K (x::xs)
def nP1 (h:bA) (x:PV) (K:PV->aB R):aB R:=match x with
 |.agg cs=>nO1 h cs fun cs=>K (.agg cs)
 |x=>nN1 h x K
def nQ1 (h:bA):aA PV->(aA PV->aB R)->aB R
 |[],K=>K []
 |x::xs,K=>nP1 h x fun x=>nQ1 h xs fun xs=>K (x::xs)
def rzK (h:bA) (x:PV) (K:PV->aB R):aB R:=match x with
 |.tup vs=>nQ1 h vs fun vs=>K (.tup vs)
 |.map k=>hK h k fun ob=>match ob with
  |.mp es=>K (.im es)
  |_=>none
 |x=>nP1 h x K
def Gi (C:Hk) (X:NX) (fn:cQ) (xs:aA PV) (K:PV->aB R):aB R:=
 bif Nat.ble xs.length fn.ntmps then Qy xs 0 fun e=>jB C X fn.code e [] 0 fun x e h n=>match x with
  |.exit _=>none
  |_=>Gg e h n fn.res fun vs=>match vs with
   |[v]=>rzK h v K
   |vs=>rzK h (.tup vs) K
 else none
def hA1 (C:Hk) (X:NX) (fn:cQ) (xs:aA PV) (h:bA) (n:Nat) (K:PV->bA->Nat->aB R):aB R:=
 bif Nat.ble xs.length fn.ntmps then Qy xs 0 fun e=>jB C X fn.code e h n fun x e h n=>match x with
  |.exit _=>none
  |_=>Gg e h n fn.res fun vs=>match vs with
   |[v]=>K v h n
   |vs=>K (.tup vs) h n
 else none
def Hu:gL->aA Nat->aA PV->(gL->aB R)->aB R
 |e,[],[],K=>K e
 |e,p::ps,x::xs,K=>mF e [p] fun e=>Hu ((p,x)::e) ps xs K
 |_,_,_,_=>none
def okG (NF:FuncId->Bool) (N:Nat) (ps:aA Nat) (a b:PC):aB Unit:=if okL NF N ps a b=true then some ()else none
def nR1 (C:Hk) (X:NX) (k:Nat) (xs:aA PV) (h:bA) (n:Nat) (K:PV->bA->Nat->aB R):aB R:=
 hK h k fun ob=>match ob with
 |.loop N e ps a b false none=>cM (okG X.is N ps a b) fun _=>Hu e ps xs fun e=>jB C X a e h n fun x e h n=>match x with
  |.normal=>hK h k fun ob=>match ob with
   |.loop N e' ps a b' false none=>iF h k (.loop N e' ps a b' true none) fun h=>jB C X b e h n fun x _ h n=>hK h k fun ob=>match ob with
    |.loop N e' ps a b' _ _=>match x with
     |.normal=>iF h k (.loop N e' ps a b' false none) fun h=>K (.v (.bool true)) h n
     |.exit i=>iF h k (.loop N e' ps a b' false (some (.exit i))) fun h=>K (.v (.bool false)) h n
     |.ret=>iF h k (.loop N e' ps a b' false (some .ret)) fun h=>K (.v (.bool false)) h n
    |_=>none
   |_=>none
  |_=>none
 |_=>none
abbrev aY1:=Nat->aB cQ
abbrev xT1:=FuncId->aA PV->bA->Nat->aB (PV×bA×Nat)
structure NB where
 nw:FuncId->Bool
 xw:FuncId->Bool:=fun _=>false
 run:xT1:=fun _ _ _ _=>none
def OX (B:Hk) (NF:FuncId->Bool) (NW:NB) (P:aY1):Nat->Hk×NX
 |0=>(fun f xs=>bif NF f then none else B f xs,⟨NF,NW.nw,NW.xw,fun _ _ _ _ _=>none,fun _ _ _ _ _=>none⟩)
 |d+1=>(fun f xs=>bif NF f then none else match P f with
   |some fn=>bif fn.frz then Gi (OX B NF NW P d).1 (OX B NF NW P d).2 fn xs some else(Gi (OX B NF NW P d).1 (OX B NF NW P d).2 fn xs some).bind fun v=>bif Aa 4 v then none else some v
   |none=>B f xs,
  ⟨NF,NW.nw,NW.xw,fun f xs h n K=>match P f with
   |some fn=>hA1 (OX B NF NW P d).1 (OX B NF NW P d).2 fn xs h n K
   |none=>(NW.run f xs h n).bind fun r=>K r.1 r.2.1 r.2.2,fun k xs h n K=>nR1 (OX B NF NW P d).1 (OX B NF NW P d).2 k xs h n K⟩)
def Od (B:Hk) (NF:FuncId->Bool) (NW:NB) (P:aY1) (d:Nat):Hk:=(OX B NF NW P d).1
def Xd (B:Hk) (NF:FuncId->Bool) (NW:NB) (P:aY1) (d:Nat):NX:=(OX B NF NW P d).2
end
def Uv (n x:Bool) (fn:cQ):IFn:={ntmps:=fn.ntmps,res:=fn.res,body:=mY fn.code,pure:= !n,frz:=bif n then x else fn.frz}
section
def Ca:aA PV->Nat->gL
 |[],_=>[]
 |x::xs,i=>(i,x)::Ca xs (i+1)
def Gj:∀(xs:aA PV) (i:Nat) (K:gL->aB R),Qy xs i K=K (Ca xs i)
 |[],i,K=>rfl
 |x::xs,i,K=>by simp[Qy,Px,Ca,Gj xs]
def Ap:∀xs i j v,fQ (Ca xs i) j=some v->i<=j/\xs[j-i]? =some v
 |[],i,j,v,h=>by simp[Ca,fQ]at h
 |x::xs,i,j,v,h=>by
  simp only[Ca,fQ]at h
  split at h
  grind
  obtain⟨h1,h2⟩:=Ap xs (i+1) j v h
  refine⟨by omega,?_⟩
  rw[show j-i=(j-(i+1))+1 by omega]
  simpa using h2
variable {e:gL} {t:List AV}
def Ra {k:iV} {K:PV->bA->Nat->aB R} {r:R} (hs:Fo C n h s k [y] K r):
  ∃w z,K w h n=some r/\(doOp (Sim.look s.h) 0 0 k [y]).map (·.v)=some z/\RV C w z:=by
 obtain⟨w,z,h1,h2,a⟩:=hs;exact⟨w,z,a,by rw[h1 0 0];rfl,h2⟩
def yK (b:dR C n h lim s) (he:eU C e t):∀{g:aA Sim.RV} {K:aA PV->aB R} {r:R},Gg e h n g K=some r->
  ∃vs a,K vs=some r/\mapO (Sim.readRes (Sim.look s.h) t) g=some a/\LR (RV C) vs a
 |[],K,r,hk=>⟨[],[],hk,rfl,.nil⟩
 |.tmp i::g,K,r,hk=>by
  unfold Gg at hk
  rw[kE,fC3]at hk
  obtain⟨v,hv,hk⟩:=hk
  obtain⟨y,h1,h2⟩:=he i v hv
  obtain⟨vs,a,c,d,f⟩:=yK b he hk
  exact⟨_,y::a,c,by simp[mapO,Sim.readRes,h1,d],.cons h2 f⟩
 |.cellS i::g,K,r,hk=>by
  unfold Gg at hk
  rw[kE,fC3]at hk
  obtain⟨v,hv,hk⟩:=hk
  obtain⟨y,h1,h2⟩:=he i v hv
  obtain⟨w,z,q1,q2,q3⟩:=Ra (Fp b (.cons h2 .nil) hk)
  obtain⟨vs,a,c,d,f⟩:=yK b he q1
  exact⟨_,z::a,c,by simp only[mapO,Sim.readRes,h1,q2,d],.cons q3 f⟩
 |.cellA i m::g,K,r,hk=>by
  unfold Gg at hk
  rw[kE,fC3]at hk
  obtain⟨v,hv,hk⟩:=hk
  obtain⟨y,h1,h2⟩:=he i v hv
  obtain⟨w,z,q1,q2,q3⟩:=Ra (Fq b (.cons h2 .nil) hk)
  obtain⟨vs,a,c,d,f⟩:=yK b he q1
  exact⟨_,z::a,c,by simp only[mapO,Sim.readRes,h1,q2,d],.cons q3 f⟩
def nS1 {L} {d id ver e o} {bx} {ty} {esz} {els} {row cs} (a:L id=some (.arr bx ty esz ver els)) (hr:els[e]? =some row) (hc:mapO (oQ L 0 d) (row.drop o)=some cs):oQ L 0 (d+1) (.ptr id ver e o)=some (.ip cs):=by
 simp[oQ,a,hr,hc]
def Lv (j:dR C n h lim s):∀(d:Nat) (x:PV) (y:AV) (K:PV->aB R) (r:R),Qz h d x K=some r->RV C x y->∃E B,K E=some r/\oQ (Sim.look s.h) 0 (d+2) y=some B/\RC false E B
 |0,x,y,K,r,hk,_=>by unfold Qz at hk;exact aD hk
 |d+1,x,y,K,r,hk,hv=>by
  unfold Qz at hk
  cases x with
  |own k=>
   simp only[iC,fC3]at hk
   obtain⟨ob,hg,hk⟩:=hk
   cases ob with
   |lst ty e g rows=>
    rcases hJ hv with⟨id,ver,F,len,i,rfl⟩|⟨i,rfl⟩
    obtain⟨_,rfl,hlen,els,u,hr,l,_⟩:=lS j hg i
    subst hlen
    exact⟨_,_,hk,Xj (d:=d+1) (gU3 _) u hr l.1,hr.is⟩
    have:=mZ j hg i
    subst this
    exact⟨_,_,hk,rfl,.isn⟩
   |tr t rows hs=>
    obtain⟨ty,e,ks⟩:=t
    cases hs with
    |cons a b=>exact aD hk
    |nil=>
    cases hb:Ht (d+1) (.nd ty e ks)with
    |false=>simp only[hb,fZ3]at hk;exact aD hk
    |true=>
    simp only[hb,fS3]at hk
    rcases hJ hv with⟨id,ver,F,len,i,rfl⟩|⟨i,rfl⟩
    obtain⟨w,_,rfl,hlen,_,els,J,u,l,hr⟩:=nA j hg i
    subst hlen
    obtain⟨D,q,m⟩:=uL1 (n0:=0) (f:=d+1) (gU3 _) w hb u l.1 hr
    exact⟨_,_,hk,q,m.is⟩
    have:=(tV j hg i).1
    subst this
    exact⟨_,_,hk,rfl,.isn⟩
   |_=>exact aD hk
  |zs dp e rows=>
   cases hb:Nat.ble dp (d+2)with
   |false=>simp only[hb,fZ3]at hk;exact aD hk
   |true=>
   simp only[hb,fS3]at hk
   have hb:=fK3 hb
   obtain⟨B,q,m⟩:=Xk (L:=Sim.look s.h) (n0:=0) (fun id o G=>⟨gU3 _,(j.hr.zr id o G).1⟩) dp (d+3) (by omega) _ _ (yA hv)
   exact⟨_,_,hk,q,m.weak⟩
  |ref k o=>
   simp only[iC,fC3]at hk
   obtain⟨ob,hg,hk⟩:=hk
   cases ob with
   |box cs=>
    obtain⟨q,m⟩:=gA _ _ _ _ hk
    obtain⟨id,ver,e,len,i,rfl⟩:=mG hv
    obtain⟨_,ty,esz,row,u,hl⟩:=Af j hg i
    have p:∀(xs:aA PV) (ys:aA AV) (K:aA PV->aB R) (r:R),vE (Qz h d) xs K=some r->LR (RV C) xs ys->
      ∃xs' c,K xs'=some r/\mapO (oQ (Sim.look s.h) 0 (d+2)) ys=some c/\LR (RC false) xs' c:=by
     intro xs
     induction xs with
     |nil=>
      intro ys K r hk hl;rw[hl.inv_nil];unfold vE at hk;exact⟨[],[],hk,rfl,.nil⟩
     |cons a as ih=>
      intro ys K r hk hl;obtain⟨y,c,rfl,h1,h2⟩:=hl.inv_cons;unfold vE at hk;obtain⟨a',b',q,m,H⟩:=Lv j d a y _ r hk h1;obtain⟨z,A,q1,q2,q3⟩:=ih c _ r q h2;exact⟨a'::z,b'::A,q1,by simp only[mapO,m,q2],.cons H q3⟩
    obtain⟨xs',c,q1,q2,q3⟩:=p _ _ _ r m (hl.drop o);refine⟨_,.ip c,q1,?_,.ip q3.1 q3.2⟩;exact nS1 u rfl q2
   |_=>exact aD hk
  |v x=>
   rw[iX hv];exact⟨_,_,hk,rfl,.v x⟩
  |is e rows=>
   rcases wC hv with⟨rows',rfl,hr⟩|⟨rfl,rfl⟩
   exact⟨_,_,hk,rfl,hr.is⟩;exact⟨_,_,hk,rfl,.isn⟩
  |ip cs=>
   obtain⟨cs',rfl,hl⟩:=Bt hv;exact⟨_,_,hk,rfl,.ip hl.1 hl.2⟩
  |_=>exact aD hk
def aZ1 {L} {y y'} (h:oQ L 0 6 y=some y'):fzC L 0 y=some y':=by
 cases y with
 |sl=>simp only[fzC,Nat.not_lt_zero,gT3];exact h
 |ptr=>simp only[fzC,Nat.not_lt_zero,gT3];exact h
 |map=>simp[oQ]at h
 |fn v a b=>simp[oQ]at h
 |_=>exact h
def bA1 {L} {y y'} (h:fzC L 0 y=some y') (hy:∀cs,y≠.agg cs):fz1 L 0 y=some y':=by
 cases y with
 |agg cs=>exact absurd rfl (hy cs)
 |_=>exact h
def hB1 {L} {y y'} (h:fz1 L 0 y=some y') (hy:∀cs,y≠.tup cs) (a:∀id,y≠.map id):fz L 0 y=some y':=by
 cases y with
 |tup cs=>exact absurd rfl (hy cs)
 |map id=>exact absurd rfl (a id)
 |_=>exact h
def Rb (f:dR C n h lim s) (d:Nat):∀(xs:aA PV) (ys:aA AV) (K:aA PV->aB R) (r:R),vE (Qz h d) xs K=some r->LR (RV C) xs ys->
  ∃xs' b,K xs'=some r/\mapO (oQ (Sim.look s.h) 0 (d+2)) ys=some b/\LR (RC false) xs' b
 |[],ys,K,r,hk,hl=>by
  rw[hl.inv_nil]
  unfold vE at hk
  exact⟨[],[],hk,rfl,.nil⟩
 |a::as,ys,K,r,hk,hl=>by
  obtain⟨y,b,rfl,h1,h2⟩:=hl.inv_cons
  unfold vE at hk
  obtain⟨a',b',g,i,j⟩:=Lv f d a y _ r hk h1
  obtain⟨c,e,q1,q2,q3⟩:=Rb f d as b _ r g h2
  exact⟨a'::c,b'::e,q1,by simp only[mapO,i,q2],.cons j q3⟩
def Xw (d:dR C n h lim s) {K:PV->aB R} {r:R} (hk:nN1 h x K=some r) (hv:RV C x y):∃a b,K a=some r/\fzC (Sim.look s.h) 0 y=some b/\RC false a b:=by
 unfold nN1 at hk;split at hk;rename_i f cap;obtain⟨a',b',rfl,h1,h2⟩:=tU hv;rw[h1.inv_nil];obtain⟨xs',c,q1,q2,q3⟩:=Rb d 4 _ _ _ r hk h2;exact⟨.fn f [] xs',.fn (.func f) [] c,q1,by simp only[fzC,q2,gB3],.fn rfl q3.1 (fun j x y h=>by simp at h) q3.2⟩;obtain⟨a,b,h1,h2,e⟩:=Lv d 4 x y K r hk hv;exact⟨a,b,h1,aZ1 h2,e⟩
def Rc (d:dR C n h lim s):∀{xs:aA PV} {ys:aA AV} {K:aA PV->aB R} {r:R},nO1 h xs K=some r->LR (RV C) xs ys->∃xs' a,K xs'=some r/\mapO (fzC (Sim.look s.h) 0) ys=some a/\LR (RC false) xs' a
 |[],ys,K,r,hk,hl=>by rw[hl.inv_nil];exact⟨[],[],hk,rfl,.nil⟩
 |x::xs,ys,K,r,hk,hl=>by
  obtain⟨y,a,rfl,h1,h2⟩:=hl.inv_cons
  unfold nO1 at hk
  obtain⟨a',b',e,f,g⟩:=Xw d hk h1
  obtain⟨b,c,q1,q2,q3⟩:=Rc d e h2
  exact⟨a'::b,b'::c,q1,by simp only[mapO,f,q2],.cons g q3⟩
def bB1 {x} {y} (hv:RV C x y) (a:∀cs,x≠.agg cs) (b:x≠.undef):∀cs,y≠.agg cs:=by
 intro cs hy;subst hy;cases hv with
 |cl h=>cases h;exact a _ rfl
 |undef=>exact b rfl
 |ownn _ hy=>cases hy
 |agg=>exact a _ rfl
 |zs h=>rcases Fk h with(⟨_,h,_⟩|⟨_,h⟩)|⟨_,_,_,_,_,_,h,_⟩<;>cases h
 |zp h=>rcases h with⟨_,h,_⟩|⟨_,_,_,_,_,_,_,h,_⟩<;>cases h
def bC1 {x} {y} (hv:RV C x y) (a:∀cs,x≠.tup cs) (b:x≠.undef):∀cs,y≠.tup cs:=by
 intro cs hy;subst hy;cases hv with
 |cl h=>cases h;exact a _ rfl
 |undef=>exact b rfl
 |ownn _ hy=>cases hy
 |tup=>exact a _ rfl
 |zs h=>rcases Fk h with(⟨_,h,_⟩|⟨_,h⟩)|⟨_,_,_,_,_,_,h,_⟩<;>cases h
 |zp h=>rcases h with⟨_,h,_⟩|⟨_,_,_,_,_,_,_,h,_⟩<;>cases h
def bD1 {x} {y} (hv:RV C x y) (b:∀k,x≠.map k) (a:x≠.undef):∀id,y≠.map id:=by
 intro id hy;subst hy;cases hv with
 |cl h=>cases h
 |undef=>exact a rfl
 |ownn _ hy=>cases hy
 |map=>exact b _ rfl
 |zs h=>rcases Fk h with(⟨_,h,_⟩|⟨_,h⟩)|⟨_,_,_,_,_,_,h,_⟩<;>cases h
 |zp h=>rcases h with⟨_,h,_⟩|⟨_,_,_,_,_,_,_,h,_⟩<;>cases h
def Xx (d:dR C n h lim s) {K:PV->aB R} {r:R} (hk:nP1 h x K=some r) (hv:RV C x y):∃a b,K a=some r/\fz1 (Sim.look s.h) 0 y=some b/\RC false a b:=by
 unfold nP1 at hk;split at hk;rename_i cs;obtain⟨cs',rfl,hl⟩:=nI hv;obtain⟨xs',c,j,k,f⟩:=Rc d hk hl;exact⟨_,.agg c,j,by simp only[fz1,k,gB3],.agg f.1 f.2⟩;rename_i i;obtain⟨a,b,h1,h2,g⟩:=Xw d hk hv;by_cases e:x=.undef;subst e;exact aD hk;exact⟨a,b,h1,bA1 h2 (bB1 hv i e),g⟩
def Re (d:dR C n h lim s):∀{xs:aA PV} {ys:aA AV} {K:aA PV->aB R} {r:R},nQ1 h xs K=some r->LR (RV C) xs ys->∃xs' a,K xs'=some r/\mapO (fz1 (Sim.look s.h) 0) ys=some a/\LR (RC false) xs' a
 |[],ys,K,r,hk,hl=>by rw[hl.inv_nil];exact⟨[],[],hk,rfl,.nil⟩
 |x::xs,ys,K,r,hk,hl=>by
  obtain⟨y,a,rfl,h1,h2⟩:=hl.inv_cons
  unfold nQ1 at hk
  obtain⟨a',b',e,f,g⟩:=Xx d hk h1
  obtain⟨b,c,q1,q2,q3⟩:=Re d e h2
  exact⟨a'::b,b'::c,q1,by simp only[mapO,f,q2],.cons g q3⟩
def hD1 (c:dR C n h lim s) {K:PV->aB R} {r:R} (hk:rzK h x K=some r) (hv:RV C x y):∃a b,K a=some r/\fz (Sim.look s.h) 0 y=some b/\RC false a b:=by
 unfold rzK at hk;split at hk;rename_i vs;obtain⟨cs',rfl,hl⟩:=Ac hv;obtain⟨xs',f,p,q,g⟩:=Re c hk hl;exact⟨_,.tup f,p,by simp only[fz,q,gB3],.tup g.1 g.2⟩;rename_i k;rw[iC,fC3]at hk;obtain⟨ob,hg,hk⟩:=hk;cases ob with
 |mp es=>
  obtain⟨id,ver,e,len,j,rfl⟩:=Ad hv;obtain⟨_,es',l,he⟩:=Py c hg j;refine⟨_,.im es',hk,?_,he.er.im⟩;simp only[fz,Nat.not_lt_zero,gT3,l];exact congrArg (Option.map AV.im) (gG1 he)
 |_=>exact aD hk
 rename_i o m;obtain⟨a,b,h1,h2,i⟩:=Xx c hk hv;by_cases d:x=.undef;subst d;exact aD hk;exact⟨a,b,h1,hB1 h2 (bC1 hv o d) (bD1 hv m d),i⟩
variable {T:mO} {O:Hk} {X:NX}
def Rf (u:∀f xs v,O f xs=some v->sB T f xs v) (z:NOK T X) {fn:cQ} (j:zI X.is fn.ntmps false fn.code=true) (hl:LR (RC false) xs ys) (hk:Gi O X fn xs some=some v):
  ∃D,∀d,D<=d->∃w s' y,Sim.body (exec T d) 0 (Uv false false fn) ys {h:=[],n:=0}=some (w,s')/\Sim.fz (Sim.look s'.h) 0 w=some y/\RC false v y:=by
 unfold Gi at hk;cases c:Nat.ble xs.length fn.ntmps with
 |false=>rw[c]at hk;exact aD hk
 |true=>
  rw[c,fS3,Gj]at hk;have c:xs.length<=fn.ntmps:=by simpa[iO3]using c
  have hlen:=hl.1;have s:dR ⟨fun _=>none,fun _=>none,fun _=>none⟩ 0 [] 0 ({h:=[],n:=0}:Hp):=⟨⟨fun k po h=>by simp[aK]at h,fun k k' id v e l v' e' l' a=>absurd rfl a,fun id o h=>(by cases h),fun k id v e l a=>absurd rfl a,fun id sl h=>(by cases h),fun id o h=>(by cases h)⟩,fun k pl h=>(by cases h),trivial,fI3 _⟩
  have he:eU ⟨fun _=>none,fun _=>none,fun _=>none⟩ (Ca xs 0) (ys++List.replicate (fn.ntmps-ys.length) .undef):=fun i v hv=>by
   obtain⟨_,h2⟩:=Ap xs 0 i v hv;obtain⟨y,p,r⟩:=hl.get (by simpa using h2);exact⟨y,by rw[iD3 (fE3.1 p).1];exact p,.cl r⟩
  obtain⟨x,e',h',n',C',E,s',q1,q2,q3,q4,q5,q6,D,q7⟩:=gV (T:=T) (rd:=false) (lim:=0) (N:=fn.ntmps) u z fn.code _ v _ 0 [] _ (ys++List.replicate (fn.ntmps-ys.length) .undef) _ hk he s (by simp;omega) j
  have fin:(∀i,x≠.exit i)->(Gg e' h' n' fn.res fun vs=>match vs with|[v]=>rzK h' v some|vs=>rzK h' (.tup vs) some)=some v->
    ∃D,∀d,D<=d->∃w s' y,Sim.body (exec T d) 0 (Uv false false fn) ys {h:=[],n:=0}=some (w,s')/\Sim.fz (Sim.look s'.h) 0 w=some y/\RC false v y:=by
   intro A hr;obtain⟨vs,q,r1,r2,r3⟩:=yK q3 q2 hr
   obtain⟨w,y,p1,p2,p3⟩:∃w y,Sim.results (Sim.look s'.h) E fn.res=some w/\Sim.fz (Sim.look s'.h) 0 w=some y/\RC false v y:=by
    split at r1;rename_i v1;obtain⟨w,F,rfl,B,C⟩:=r3.inv_cons;have:=C.inv_nil;subst this;obtain⟨G,m,z1,z2,z3⟩:=hD1 q3 r1 B;cases z1;exact⟨w,m,by simp only[Sim.results,r2],z2,z3⟩;rename_i g;obtain⟨G,m,z1,z2,z3⟩:=hD1 q3 r1 (y:=.tup q) (.tup r3.1 r3.2);cases z1;refine⟨.tup q,m,?_,z2,z3⟩;simp only[Sim.results,r2];split;rename_i w hw;cases hw;have:=r3.1;rcases vs with _|⟨a,_|⟨b,t⟩⟩<;>simp at this;exact absurd rfl (g a)
    grind
    grind
   refine⟨D,fun d hd=>⟨w,s',y,?_,p2,p3⟩⟩;simp only[Sim.body,Uv,q7 d hd];cases x with
   |exit i=>exact absurd rfl (A i)
   |normal=>simp only[p1,gB3]
   |ret=>simp only[p1,gB3]
  cases x with
  |exit i=>exact aD q1
  |normal=>exact fin (fun i h=>by cases h) q1
  |ret=>exact fin (fun i h=>by cases h) q1
def nT1 {k:Bool} (o:∀f xs v,O f xs=some v->sB T f xs v) (p:NOK T X) {fn:cQ} (g:zI X.is fn.ntmps false fn.code=true) {K:PV->bA->Nat->aB R} {r:R}
  (hk:hA1 O X fn xs h n K=some r) (hl:LR (RV C) xs ys) (m:dR C n h lim s):
  ∃v h' n' C' y s',K v h' n'=some r/\RV C' v y/\dR C' n' h' lim s'/\n<=n'/\Fr C h s C' h' s'/\∃D,∀d,D<=d->Sim.body (exec T d) lim (Uv true k fn) ys s=some (y,s'):=by
 unfold hA1 at hk;cases c:Nat.ble xs.length fn.ntmps with
 |false=>rw[c]at hk;exact aD hk
 |true=>
  rw[c,fS3,Gj]at hk;have c:xs.length<=fn.ntmps:=by simpa[iO3]using c
  have hlen:=hl.1
  have he:eU C (Ca xs 0) (ys++List.replicate (fn.ntmps-ys.length) .undef):=fun i v hv=>by
   obtain⟨_,h2⟩:=Ap xs 0 i v hv;obtain⟨y,j,l⟩:=hl.get (by simpa using h2);exact⟨y,by rw[iD3 (fE3.1 j).1];exact j,l⟩
  obtain⟨x,e',h',n',C',A,s',q1,q2,q3,q4,q5,q6,D,q7⟩:=gV (T:=T) (rd:=false) (lim:=lim) (N:=fn.ntmps) o p fn.code _ r _ n h _ (ys++List.replicate (fn.ntmps-ys.length) .undef) s hk he m (by simp;omega) g
  have fin:(∀i,x≠.exit i)->(Gg e' h' n' fn.res fun vs=>match vs with|[v]=>K v h' n'|vs=>K (.tup vs) h' n')=some r->
    ∃v h' n' C' y s',K v h' n'=some r/\RV C' v y/\dR C' n' h' lim s'/\n<=n'/\Fr C h s C' h' s'/\∃D,∀d,D<=d->Sim.body (exec T d) lim (Uv true k fn) ys s=some (y,s'):=by
   intro q hr;obtain⟨vs,B,r1,r2,r3⟩:=yK q3 q2 hr
   obtain⟨v,w,p1,p2,p3⟩:∃v w,K v h' n'=some r/\Sim.results (Sim.look s'.h) A fn.res=some w/\RV C' v w:=by
    split at r1;rename_i v1;obtain⟨w,E,rfl,u,z⟩:=r3.inv_cons;have:=z.inv_nil;subst this;exact⟨v1,w,r1,by simp only[Sim.results,r2],u⟩;rename_i e;refine⟨.tup vs,.tup B,r1,?_,.tup r3.1 r3.2⟩;simp only[Sim.results,r2];split;rename_i w hw;cases hw;have:=r3.1;rcases vs with _|⟨a,_|⟨b,t⟩⟩<;>simp at this;exact absurd rfl (e a)
    grind
    grind
   refine⟨v,h',n',C',w,s',p1,p3,q3,q5,q6,D,fun d hd=>?_⟩;simp only[Sim.body,Uv,q7 d hd];cases x with
   |exit i=>exact absurd rfl (q i)
   |normal=>simp only[p2,gB3]
   |ret=>simp only[p2,gB3]
  cases x with
  |exit i=>exact aD q1
  |normal=>exact fin (fun i h=>by cases h) q1
  |ret=>exact fin (fun i h=>by cases h) q1
def Rg {C}:∀{ps:aA Nat} {xs:aA PV} {ys:aA AV} {e:gL} {t:aA AV} {K:gL->aB R} {r:R},Hu e ps xs K=some r->eU C e t->LR (RV C) xs ys->ps.all (fun p=>Nat.blt p t.length)=true->
  ∃e',K e'=some r/\eU C e' (Sim.putAll t ps ys)/\ps.length=ys.length/\(Sim.putAll t ps ys).length=t.length
 |[],[],ys,e,t,K,r,hk,he,hl,_=>by
  rw[hl.inv_nil]
  exact⟨e,by unfold Hu at hk;exact hk,he,rfl,rfl⟩
 |p::ps,x::xs,ys,e,t,K,r,hk,he,hl,hp=>by
  obtain⟨y,h,rfl,h1,h2⟩:=hl.inv_cons
  unfold Hu at hk
  rw[gE]at hk
  simp only[hA3,fF3,hR3]at hp
  have a:eU C ((p,x)::edel e [p]) (t.set p y):=.put hp.1 h1 (fun i w hw=>by
   obtain⟨z,p1,p2,p3⟩:=he.edel [p] i w hw
   exact⟨z,p1,p2,fun b=>p3 (by simp[b])⟩)
  obtain⟨e2,c,d,f,g⟩:=Rg hk a h2 (by simpa using hp.2)
  exact⟨e2,c,d,by simp[f],by simpa[Sim.putAll]using g⟩
 |[],_::_,_,_,_,_,_,hk,_,_,_=>by unfold Hu at hk;exact aD hk
 |_::_,[],_,_,_,_,_,hk,_,_,_=>by unfold Hu at hk;exact aD hk
def nU1 (hO:∀f xs v,O f xs=some v->sB T f xs v) (hX:NOK T X) {k:Nat} {K:PV->bA->Nat->aB R} {r:R} {e1 len:Nat}
  (hk:nR1 O X k xs h n K=some r) (hl:LR (RV C) xs ys) (hC:C k=some (.atp id ver e1 len)) (hM:dR C n h lim s):
  ∃v h' n' C' y s',K v h' n'=some r/\RV C' v y/\dR C' n' h' lim s'/\n<=n'/\Fr C h s C' h' s'/\∃D,∀d,D<=d->Sim.round (exec T d) lim id ys s=some (y,s'):=by
 unfold nR1 at hk;rw[iC,fC3]at hk;obtain⟨ob,M,hk⟩:=hk;split at hk
 .rename_i N e ps a b
  rw[cF,fC3]at hk;obtain⟨_,p,hk⟩:=hk;unfold okG at p;split at p
  .rename_i g
   unfold okL at g;rw[fF3,fF3]at g;have o1:=g.1.1;have o2:=g.1.2;have o3:=g.2;clear p g;obtain⟨L,st,pend,tmps,g1,g2,g3,g4⟩:=Db hM M hC;obtain⟨rfl,rfl⟩:=g4;subst g2;obtain⟨e2,hk,he,W,Y⟩:=Rg hk g3 hl o1;obtain⟨x,e',h1,n1,C1,t1,s1,q1,q2,q3,q4,q5,q6,D1,q7⟩:=gV (T:=T) (rd:=true) (lim:=lim) (N:=tmps.length) hO hX a _ r _ n h _ _ s hk he hM Y o2;cases x with
   |exit i=>exact aD q1
   |ret=>exact aD q1
   |normal=>
   simp only[iC,fC3]at q1;obtain⟨q,l,q1⟩:=q1
   have place:∀{C1:Cx} {h1:bA} {s1:Hp} {q:eT},Fr C h s C1 h1 s1->aK h1 k=some q->gX q=true->C1 k=some (.atp id ver e1 len):=fun{C1 h1 s1 q} hf hg hb=>by
    obtain⟨o',p1,p2⟩:=hf.kd k _ M;rw[hg]at p1;cases p1;rw[(p2 hb).2,hC]
   split at q1
   .rename_i N2 V F a2 b2
    have A:=place q6 l rfl;obtain⟨_,st,pend,j,w1,w2,w3,w4⟩:=Db q3 l A;obtain⟨rfl,rfl⟩:=w4;subst w2;have q1:=eD _ _ _ _ _ q1;have w:=(q3.hr.lt (by rw[l];simp) A)
    obtain⟨m1,m2⟩:=tS q3 (po':=.loop j.length V F a2 b2 true none) (ao:=.loop .busy none j F (mY a2) (mY b2)) l A ⟨w.1,w.2,.busy,none,j,by rw[Sim.look_upd,fJ3 ⟨rfl,by rw[w1];rfl⟩],rfl,w3,rfl⟩ rfl;obtain⟨x2,e3,h2,n2,C2,t2,S,z1,z2,z3,z4,z5,z6,D2,z7⟩:=gV (T:=T) (rd:=true) (lim:=lim) (N:=tmps.length) hO hX b _ r _ n1 _ _ _ _ q1 q2 m1 q4 o3;simp only[fC3]at z1;obtain⟨b5,m,z1⟩:=z1;have H:=(q6.trans m2).trans z6;split at z1
    .rename_i N3 G u a3 b3 U b4
     have B:=place H m rfl;obtain⟨_,b6,b0,c,v1,v2,v3,v4⟩:=Db z3 m B;subst v2;have z:=(z3.hr.lt (by rw[m];simp) B)
     have fin:∀(fn:aB Ex) (st:LoopState) (E:aB IC) (bv:Bool),StR false fn st E->(iF h2 k (.loop c.length G u a3 b3 false fn) fun h=>K (.v (.bool bv)) h n2)=some r->
       (∀s',Sim.endRound id S st E=some s'->∀d,D2<=d->(match exec T d lim true (mY b) {t:=t1,s:={h:=upd s1.h id (.loop .busy none j F (mY a2) (mY b2)),n:=s1.n}}with
        |some (.normal,τ)=>(Sim.endRound id τ.s .ready none).map fun s=>(AV.bool true,s)
        |some (.ret,τ)=>(Sim.endRound id τ.s .done (some .ret)).map fun s=>(AV.bool false,s)
        |some (.exit i,τ)=>(Sim.endRound id τ.s .done (some (.exit i))).map fun s=>(AV.bool false,s)
        |none=>none)=some (AV.bool bv,s'))->
       ∃v h' n' C' y s',K v h' n'=some r/\RV C' v y/\dR C' n' h' lim s'/\n<=n'/\Fr C h s C' h' s'/\∃D,∀d,D<=d->Sim.round (exec T d) lim id ys s=some (y,s'):=by
      intro fn st E bv Z hk P;have hk:=eD _ _ _ _ _ hk;obtain⟨m3,m4⟩:=tS z3 (po':=.loop c.length G u a3 b3 false fn) (ao:=.loop st E c u (mY a3) (mY b3)) m B ⟨z.1,z.2,st,E,c,by rw[Sim.look_upd,fJ3 ⟨rfl,by rw[v1];rfl⟩],rfl,v3,Z⟩ rfl;refine⟨_,_,_,_,.v (.bool bv),_,hk,.cl (.v _),m3,by omega,H.trans m4,D1+D2,fun d hd=>?_⟩;have J:Sim.endRound id S st E=some {h:=upd S.h id (.loop st E c u (mY a3) (mY b3)),n:=S.n}:=by simp only[Sim.endRound,v1]
      simp only[Sim.round,g1];rw[fJ3 ⟨L,W⟩,q7 d (by omega)];simp only[w1];exact P _ J d (by omega)
     cases x2 with
     |normal=>exact fin none .ready none true ⟨rfl,rfl⟩ z1 (fun s' o d hd=>by rw[z7 d hd];simp only[o,gB3])
     |exit i=>exact fin (some (.exit i)) .done (some (.exit i)) false ⟨rfl,rfl⟩ z1 (fun s' o d hd=>by rw[z7 d hd];simp only[o,gB3])
     |ret=>exact fin (some .ret) .done (some .ret) false ⟨rfl,rfl⟩ z1 (fun s' o d hd=>by rw[z7 d hd];simp only[o,gB3])
    .exact aD z1
   .exact aD q1
  .cases p
 .exact aD hk
def Xy {B} {NF} {NW} {P} (d:Nat):(OX B NF NW P d).2.is=NF:=by cases d<;>rfl
def Lw {f} {ifn} {ys} {v} (b:T.memo f ys=none) (h:∃D,∀d,D<=d->∃w s' y,Sim.body (exec T d) 0 ifn ys {h:=[],n:=0}=some (w,s')/\Sim.fz (Sim.look s'.h) 0 w=some y/\RC false v y):
  ∃D,∀d,D<=d->∃y,Sim.runP T (exec T d) f ifn ys=some y/\RC false v y:=by
 obtain⟨D,a⟩:=h;refine⟨D,fun d hd=>?_⟩;obtain⟨w,s',y,c,e,g⟩:=a d hd;exact⟨y,by simp only[Sim.runP,b,c,e],g⟩
def nV1 (T:mO) (NF xw:FuncId->Bool) (P:aY1) (run:xT1):Prop:=∀(f:FuncId) (xs:aA PV) (h:bA) (n:Nat) (v:PV) (h':bA) (n':Nat) (C:Cx) (s:Hp) (lim:Nat) (ys:aA AV),
 NF f=true->P f=none->run f xs h n=some (v,h',n')->LR (RV C) xs ys->dR C n h lim s->
 ∃C' y s',RV C' v y/\dR C' n' h' lim s'/\n<=n'/\Fr C h s C' h' s'/\(∃ifn,T f=some ifn/\ifn.pure=false/\ifn.frz=xw f)/\∃D,∀d,D<=d->Sim.callF T (exec T d) lim f ys s=some (y,s')
def uO1 {B:Hk} {NF:FuncId->Bool} {NW:NB} {P:aY1} (l:∀f xs v,NF f=false->B f xs=some v->sB T f xs v) (p:nV1 T NF NW.xw P NW.run) (m:∀f fn,P f=some fn->T f=some (Uv (NF f) (NW.xw f) fn)/\zI NF fn.ntmps false fn.code=true/\∀ys,T.memo f ys=none):
  ∀d,(∀f xs v,(OX B NF NW P d).1 f xs=some v->sB T f xs v)/\NOK T (OX B NF NW P d).2
 |0=>⟨fun f xs v h=>by
   simp only[OX]at h
   cases hn:NF f with
   |true=>rw[hn]at h;exact aD h
   |false=>rw[hn]at h;exact l f xs v hn h,⟨fun f xs h n K r C s lim ys c hk=>by simp[OX]at hk,fun k xs h n K r C s lim ys id ver e len hk=>by simp[OX]at hk⟩⟩
 |d+1=>by
  obtain⟨g,i⟩:=uO1 l p m d
  refine⟨fun f xs v h=>?_,⟨fun f xs h n K r C s lim ys c hk hl b=>?_,fun k xs h n K r C s lim ys id ver e len hk hl t b=>?_⟩⟩
  simp only[OX]at h
  cases hn:NF f with
  |true=>rw[hn]at h;exact aD h
  |false=>
   rw[hn,fZ3]at h
   split at h
   rename_i fn a
   obtain⟨h1,h2,j⟩:=m f fn a
   rw[hn]at h1
   cases hz:fn.frz with
   |true=>
    rw[hz,fS3]at h
    exact⟨Uv false _ fn,h1,rfl,fun _=>by simp[Uv,hz],fun ys hl=>Lw (j ys) (Rf g i (by rw[Xy];exact h2) hl h)⟩
   |false=>
    rw[hz,fZ3,fC3]at h
    obtain⟨v',h,hg⟩:=h
    cases hq:Aa 4 v' with
    |true=>rw[hq]at hg;exact aD hg
    |false=>
     rw[hq]at hg
     cases hg
     exact⟨Uv false _ fn,h1,rfl,fun q=>(by rw[hq]at q;cases q),fun ys hl=>Lw (j ys) (Rf g i (by rw[Xy];exact h2) hl h)⟩
   exact l f xs v hn h
  simp only[OX]at c hk
  split at hk
  rename_i fn a
  obtain⟨h1,h2,j⟩:=m f fn a
  rw[c]at h1
  obtain⟨v,h',n',C',y,s',p1,p2,p3,p4,p5,D,p6⟩:=nT1 g i (by rw[Xy];exact h2) hk hl b
  refine⟨v,h',n',C',y,s',p1,p2,p3,p4,p5,⟨_,h1,rfl,rfl⟩,D,fun d hd=>?_⟩
  simp only[Sim.callF,h1]
  exact p6 d hd
  rename_i a
  rw[fC3]at hk
  obtain⟨⟨v,h',n'⟩,o,hk⟩:=hk
  obtain⟨C',y,s',p2,p3,p4,p5,p6,p7⟩:=p f xs h n v h' n' C s lim ys c a o hl b
  exact⟨v,h',n',C',y,s',hk,p2,p3,p4,p5,p6,p7⟩
  simp only[OX]at hk
  exact nU1 g i hk hl t b
def hF1 {B} {NF} {NW} {P} (a:∀f xs v,NF f=false->B f xs=some v->sB T f xs v) (b:nV1 T NF NW.xw P NW.run) (c:∀f fn,P f=some fn->T f=some (Uv (NF f) (NW.xw f) fn)/\zI NF fn.ntmps false fn.code=true/\∀ys,T.memo f ys=none) (d:Nat) (f:FuncId) (xs:aA PV) (v:PV) (h:Od B NF NW P d f xs=some v):sB T f xs v:=(uO1 a b c d).1 f xs v h
def cO2 {B} {NF} {NW} {P} {f} {fn} (hn:NF f=false) (h:P f=some fn) (a:fn.frz=true) (d:Nat) (xs:aA PV):Od B NF NW P (d+1) f xs=Gi (Od B NF NW P d) (Xd B NF NW P d) fn xs some:=by
 simp only[Od,Xd,OX,h,hn,a,fZ3,fS3]
def cP2 {R} {B} {NF} {NW} {P} {f} {fn} (h:P f=some fn) (d:Nat) (xs:aA PV) (a:bA) (n:Nat) (K:PV->bA->Nat->aB R):(Xd B NF NW P (d+1)).run f xs a n K=hA1 (Od B NF NW P d) (Xd B NF NW P d) fn xs a n K:=by
 simp only[Od,Xd,OX,h]
def nW1 {R} {B} {NF} {NW} {P} {f} (h:P f=none) (d:Nat) (xs:aA PV) (a:bA) (n:Nat) (K:PV->bA->Nat->aB R):(Xd B NF NW P (d+1)).run f xs a n K=(NW.run f xs a n).bind fun r=>K r.1 r.2.1 r.2.2:=by
 simp only[Xd,OX,h]
def Xz {B} {NF} {NW} {P} {f} (hn:NF f=false) (h:P f=none) (d:Nat) (xs:aA PV):Od B NF NW P d f xs=B f xs:=by
 cases d with
 |zero=>simp only[Od,OX,hn,fZ3]
 |succ d=>simp only[Od,OX,h,hn,fZ3]
end
def yL (cl:Nat->aB (Nat×Nat)):xT1:=fun f xs h n=>match xs,h with
 |[.is e rows],[]=>(cl f).bind fun p=>bif Nat.beq p.2 e&&Nat.ble rows.length 1073741824 then some (.own n,[(n,.lst p.1 e true rows)],n+1)else none
 |_,_=>none
end Go.P
namespace Go.P
open Go.Sim (Ex iV CK)
variable {A α β γ δ:Type}
def nX1 {X:aB γ} {Y:aB α} {e:α->γ} {K:γ->aB δ} {F:α->aB β} {enc:β->δ} (h:X=Y.map e) (hk:∀y,K (e y)=(F y).map enc):cM X K=(Y.bind F).map enc:=by
 rw[cF];subst h;cases Y<;>simp[hk]
def cQ2 {b:Bool} {X Y:aB γ} {FX FY:aB β} {enc:β->γ} (a:X=FX.map enc) (hy:Y=FY.map enc):Sv b X Y=(if b then FX else FY).map enc:=by
 rw[tL];subst a hy;cases b<;>rfl
def aL {S E S' E':Type} {enc:S->S'} {a:E->E'} {B:S'->aB (S'⊕E')} {F:S->aB (S⊕E)} (h:∀s,B (enc s)=(F s).map (Sum.map enc a)):∀n s,aS B n (enc s)=(aS F n s).map a
 |0,s=>rfl
 |n+1,s=>by
  simp only[aS,h]
  cases F s with
  |none=>rfl
  |some r=>
   cases r with
   |inl s'=>exact aL h n s'
   |inr e=>rfl
def bU (l:aA A) (i:Int):aB A:=if 0<=i then l[i.toNat]? else none
def Uw {A} (f:A->aA PV) (l:aA A) (i:Int):qL (l.map f) i=(bU l i).map f:=by
 unfold qL bU;split<;>simp
def i64 (n:Int):PV:=.v (.int .i64 n)
def bv (b:Bool):PV:=.v (.bool b)
end Go.P
namespace Go.P
open Go.Sim (Ex iV CK maxRoom)
variable {A K V γ δ:Type}
def bF (n:Int):Int:=IntKind.wrap .i64 n
def eA (f:A->aA PV) (x:A):PV:=.agg (f x)
def cI (n:Int):aA PV:=[i64 n]
def cR2 (b:UInt8):aA PV:=[.v (.int .u8 (b.toNat:Int))]
def cB (b:Bool):aA PV:=[bv b]
def kS (f:K->PV) (g:V->PV) (p:K×V):PV×PV:=(f p.1,g p.2)
section
def cS2 {X:aB γ} {x:γ} {K:γ->aB δ} {r:aB δ} (h:X=some x) (hk:K x=r):cM X K=r:=by
 rw[cF,h];exact hk
def jC {b x} {X} (h:X=some x):Sv b X (some false)=some (b&&x):=by
 rw[tL,h];cases b<;>rfl
def kB {b x} {X} (h:X=some x):Sv b (some true) X=some (b||x):=by
 rw[tL,h];cases b<;>rfl
def oid {A} (x:aB A):x=x.map id:=by simp
end
section
def dG (c:A->aA PV) (l:aA A):some (l.map c).length=some l.length:=by simp
def eE (l:aA A) (i:Int):aB Nat:=qX l.length i
def bL (c:A->aA PV) (l:aA A) (i:Int):qX (l.map c).length i=(eE l i).map id:=by simp[eE]
def dX (l:aA A) (i:Nat):aB A:=l[i]?
def cY {c} {o} {g} (h:∀x,(c x)[o]? =some (g x)) (l:aA A) (i:Nat):lR (l.map c) i o=(dX l i).map g:=by
 unfold lR dX;rw[gG3];cases l[i]? with
 |none=>rfl
 |some x=>exact h x
def fJ {c} {o n m} {g} (h:∀x,(c x).length=m/\((c x).drop o).take n=g x) (hn:o+n<=m) (l:aA A) (i:Nat):mV (l.map c) i o n=(dX l i).map g:=by
 unfold mV dX;rw[gG3];cases l[i]? with
 |none=>rfl
 |some x=>simp[(h x).1,(h x).2,hn]
def gR (l:aA A) (i:Nat) (f:A->A):aB (aA A):=(l[i]?).map fun x=>l.set i (f x)
def cZ {c} {o} {cs} {f} {m} (h:∀x,(c x).length=m/\Sim.setL (c x) o cs=c (f x)) (hn:o+cs.length<=m) (l:aA A) (i:Nat):pD (l.map c) i o cs=(gR l i f).map (List.map c):=by
 unfold pD gR;rw[gG3];cases l[i]? with
 |none=>rfl
 |some x=>simp[(h x).1,(h x).2,hn]
def wM (l:aA A) (a b:Int):aB (aA A):=if 0<=a/\a<=b/\b<=l.length then some ((l.drop a.toNat).take (b.toNat-a.toNat))else none
def yM (f:A->aA PV) (l:aA A) (a b:Int):qY (l.map f) a b=(wM l a b).map (List.map f):=by
 unfold qY wM;simp only[gV3];split;simp_all;rfl
def Hv (f:A->aA PV) (l:aA A) (a:Int):qY (l.map f) a (l.map f).length=(wM l a l.length).map (List.map f):=by
 rw[yM,gV3]
def tZ (l:aA A) (h:Int):aB (aA A):=if 0<=h/\h<=l.length then some (l.take h.toNat)else none
def vO (f:A->aA PV) (l:aA A) (h:Int):uR (l.map f) h=(tZ l h).map (List.map f):=by
 unfold uR tZ;simp only[gV3];split;simp[List.map_take];rfl
def lM (g:Bool) (l m:aA A):aB (aA A):=if l.length+m.length<=maxRoom/\(g=true->m.length<=1)then some (l++m)else none
def dN (g:Bool) (f:A->aA PV) (l m:aA A):appRows g (l.map f) (m.map f)=(lM g l m).map (List.map f):=by
 unfold appRows lM;simp only[gV3];split;simp;rfl
def Cb (l c:Int) (z:A):aB (aA A):=if 0<=l/\l<=c/\c<=maxRoom then some (List.replicate l.toNat z)else none
def oK (f:A->aA PV) (l c:Int) (z:A):pE l c (f z)=(Cb l c z).map (List.map f):=by
 unfold pE Cb;split;simp;rfl
def pN (i:Nat):Pn i i=some ():=fJ3 rfl
def bE1 (c:Int):aB Unit:=if 0<=c/\c<=maxRoom then some ()else none
def Jy (c:Int) (z:aA PV):pE 0 c z=(bE1 c).map fun _=>[]:=by
 unfold pE bE1;by_cases h:0<=c/\c<=maxRoom
 grind
 grind
def hG1 (l:aA A) (lo:Int) (z:A):aB (aA A):=if 0<=lo/\lo<=l.length then some (l.take lo.toNat++List.replicate (l.length-lo.toNat) z)else none
def Rh (f:A->aA PV) (l:aA A) (lo:Int) (z:A):xW (l.map f) lo (f z)=(hG1 l lo z).map (List.map f):=by
 unfold xW hG1;simp only[gV3];split;simp[List.map_take];rfl
def sD (k:IntKind) (l:aA Int) (i:Int) {n} (h:l.length=n):xO (l.map fun x=>PV.v (.int k x)) i n 1=(bU l i).map (fun x=>PV.v (.int k x)):=by
 subst h;unfold xO bU;by_cases h0:0<=i
 grind
 grind
def Ri {c:A->aA PV} {e:Nat} (hc:∀x,(c x).length=e):∀(l:aA A) (j:Nat),j<l.length->((l.flatMap c).drop (j*e)).take e=((l[j]?).map c).getD []/\(j+1)*e<=(l.flatMap c).length
 |[],j,h=>by simp at h
 |x::l,0,h=>by grind
 |x::l,j+1,h=>by
  have a:=hc x
  obtain⟨h1,h2⟩:=Ri hc l j (by simpa using h)
  constructor
  rw[jH3,show(j+1)*e=(c x).length+j*e by rw[a,hK3];omega,<-iB3,List.drop_left]
  simpa using h1
  grind
def Rj (c:A->aA PV) (l:aA A) (i:Int) {n e} (h:l.length=n) (hc:∀x,(c x).length=e) {cs} (a:cs=l.flatMap c):tP cs i n e=(bU l i).map c:=by
 subst h a;unfold tP bU;by_cases h0:0<=i;by_cases h1:i<l.length;obtain⟨h2,b⟩:=Ri hc l i.toNat (by omega)
 rw[fJ3 ⟨h0,h1,b⟩,h2,fJ3 h0];rw[fP3 (by omega)];rfl
 grind
 grind
end
def nY1 (k:IntKind) (a b:Int):aB Int:=if b<0 then none else some (k.wrap (a*2^min b.toNat k.bits))
def Ux (k:IntKind) (a b:Int):aB Int:=if b<0 then none else some (a.fdiv (2^min b.toNat k.bits))
def Rk (k:IntKind) (a b:Int):aB Int:=if b=0 then none else some (k.wrap (a.tdiv b))
def bF1 (k:IntKind) (a b:Int):aB Int:=if b=0 then none else some (a.tmod b)
def Rl (k:IntKind) (a b:Int):Int:=k.wrap (BitVec.ofInt k.bits a&&&BitVec.ofInt k.bits b).toNat
def Uy (k:IntKind) (a b:Int):Int:=k.wrap (BitVec.ofInt k.bits a|||BitVec.ofInt k.bits b).toNat
structure Rm {K:Type} [DecidableEq K] (ek:K->PV) (agg:Bool) (ks:List CK):Prop where
 ok:∀a,zZ agg ks (ek a)=true
 eq:∀a b,zY agg ks (ek a) (ek b)=some (decide (a=b))
section
variable [DecidableEq K] {ek:K->PV} {agg:Bool} {ks:List CK}
def Gk (k:K):aA (K×V)->Nat->aB (Nat×V)
 |[],_=>none
 |p::r,i=>if k=p.1 then some (i,p.2)else Gk k r (i+1)
def nZ1 (l:aA (K×V)) (k:K) (z:V):V:=match Gk k l 0 with|some p=>p.2|none=>z
def bG1 (l:aA (K×V)) (k:K) (x:V):aA (K×V):=match Gk k l 0 with|some p=>l.set p.1 (k,x)|none=>l++[(k,x)]
def Aq (h:Rm ek agg ks) (ev:V->PV) (k:K):∀l i,xQ agg ks (ek k) (l.map (kS ek ev)) i=some ((Gk k l i).map fun p=>(p.1,ev p.2))
 |[],i=>rfl
 |p::r,i=>by
  simp only[iA3,kS,xQ,h.eq,Gk]
  by_cases e:k=p.1
  simp[e]
  simp only[e,hZ3,fM3 e]
  exact Aq h ev k r (i+1)
def Gl (h:Rm ek agg ks) (ev:V->PV) (l:aA (K×V)) (k:K) (z:V):vZ agg ks (ev z) (ek k) (l.map (kS ek ev))=some (ev (nZ1 l k z)):=by
 unfold vZ nZ1;rw[h.ok,fJ3 rfl,Aq h];cases Gk k l 0<;>rfl
def sF (h:Rm ek agg ks) (ev:V->PV) (l:aA (K×V)) (k:K) (x:V):Ez agg ks (ek k) (ev x) (l.map (kS ek ev))=some ((bG1 l k x).map (kS ek ev)):=by
 unfold Ez bG1;rw[h.ok,fJ3 rfl,Aq h];cases Gk k l 0 with
 |none=>simp[kS]
 |some p=>simp[kS,List.map_set]
end
end Go.P
namespace Go.P
open Go.Sim (Ex iV CK maxRoom)
variable {A α β γ δ:Type} {b:Bool}
section
variable {f:A->List PV} {l m:List A} {i:Int}
def rg:qL (l.map f) i=(bU l i).map f:=Uw f l i
def lm:some (l.map f).length=some l.length:=dG f l
def im:qX (l.map f).length i=(eE l i).map id:=bL f l i
def lf {x:γ} {y:β} {enc:β->γ} (h:x=enc y):some x=(some y).map enc:=by subst h;rfl
def bo {X:aB γ} {Y:aB α} {e:α->γ} {K:γ->aB δ} {F:α->aB β} {enc:β->δ} (h:X=Y.map e) (hk:∀y,K (e y)=(F y).map enc:=by intro _;rfl):cM X K=(Y.bind F).map enc:=nX1 h hk
def boE {X:aB γ} {Y:aB α} {e:α->γ} {K:γ->aB δ} {F:α->aB β} {enc:β->δ} (h:X=Y.map e) (hk:∀y,Y=some y->K (e y)=(F y).map enc):cM X K=(Y.bind F).map enc:=by
 subst h;rw[cF];cases Y with
 |none=>rfl
 |some y=>exact hk y rfl
def ixE {X Y:aB Nat} {y:Nat} (h:X=Y.map id) (h2:Y=some y):X=some y:=by rw[h,h2];rfl
def bz {X:aB γ} {x:γ} {K:γ->aB δ} {r:aB δ} (h:X=some x) (hk:K x=r:=by rfl):cM X K=r:=cS2 h hk
def io {X Y:aB γ} {FX FY:aB β} {enc:β->γ} (a:X=FX.map enc:=by rfl) (hy:Y=FY.map enc:=by rfl):Sv b X Y=(if b then FX else FY).map enc:=cQ2 a hy
def be {X Y:aB γ} {K:γ->aB δ} {F:γ->aB β} {enc:β->δ} (h:X=Y.map id) (hk:∀y,K y=(F y).map enc:=by intro _;rfl):cM X K=(Y.bind F).map enc:=bo (e:=id) h hk
def bl {K:Nat->aB δ} {r:aB δ} (hk:K l.length=r:=by rfl):cM (some (l.map f).length) K=r:=bz lm hk
def iy {X Y:aB γ} {FX FY:aB β} {enc:β->γ} (hy:Y=FY.map enc) (a:X=FX.map enc:=by rfl):Sv b X Y=(if b then FX else FY).map enc:=io a hy
def zLo {S E S' E'} (enc:S->S') (a:E->E') {B} {F} (h:∀s,B (enc s)=(F s).map (Sum.map enc a)) (s:S):aS B bK (enc s)=(aS F bK s).map a:=aL h bK s
def oi {x:aB A}:x=x.map id:=oid x
end
end Go.P
set_option maxRecDepth 100000
namespace Go.P
open Go.Sim (AV AO Hp IFn IC IX Ex mO exec)
def eP (ty esz k:Nat) (zero:aA Value):IFn:={ntmps:=8,res:=[.tmp 2],pure:=true,frz:=false,body:=(
  .seq (.reg [⟨some 2,.mov,[.c (.v (.slice none 0 0))],none⟩])
   (.seq (.seq (.reg [⟨some 3,.mov,[.t 0],none⟩,⟨some 4,.eqNil false 0,[.t 3,.c (.v (.slice none 0 0))],none⟩])
     (.cond (.t 4) (.seq (.reg [⟨some 2,.mov,[.c (.v (.slice none 0 0))],none⟩]) .ret) .skip))
   (.seq (.reg [⟨some 5,.buildSl ty esz 0 zero [],[],none⟩,⟨some 6,.mov,[.t 0],none⟩,⟨some 7,.append ty esz k zero false,[.t 5,.t 6],none⟩,⟨some 2,.mov,[.t 7],none⟩]) .ret)))}
section
variable {T:mO} (ty esz k:Nat) (zero:List Value) (d:Nat)
def bH1:Sim.body (exec T (d+8)) 0 (eP ty esz k zero) [.v (.slice none 0 0)] {h:=[],n:=0}=some (.v (.slice none 0 0),{h:=[],n:=0}):=rfl
def oA1:∃s,Sim.body (exec T (d+8)) 0 (eP ty esz k zero) [.is esz []] {h:=[],n:=0}=some (.sl esz 0 0 0 0 none,s)/\Sim.look s.h 0=some (.arr false ty esz 0 []):=by
 simp[Sim.body,exec,eP,Sim.runOps,Sim.wanted,Sim.evs,Sim.IX.ev,Sim.step,Sim.doOp,Sim.put,Sim.isNilv,Sim.appRows,Sim.rowsOf,Sim.appendTo,Sim.fillParts,Sim.look,Sim.results,Sim.mapO,Sim.readRes,Sim.Out.apply]
def oB1 (r:aA AV) (a:aA (aA AV)) (h:(r::a).length<=1073741824):∃s,Sim.body (exec T (d+8)) 0 (eP ty esz k zero) [.is esz (r::a)] {h:=[],n:=0}=some (.sl esz 0 1 0 (r::a).length none,s)/\Sim.look s.h 0=some (.arr false ty esz 1 (r::a)):=by
 have b:Sim.maxRoom=1073741824:=rfl;simp only[gR3]at h;simp[Sim.body,exec,eP,Sim.runOps,Sim.wanted,Sim.evs,Sim.IX.ev,Sim.step,Sim.doOp,Sim.put,Sim.isNilv,Sim.appRows,Sim.rowsOf,Sim.appendTo,Sim.fillParts,Sim.look,Sim.results,Sim.mapO,Sim.readRes,Sim.Out.apply,b,h];rfl
def uA {f} {ty esz k} {zero} (i:T f=some (eP ty esz k zero)) (j:∀ys,T.memo f ys=none) {rows} (hl:rows.length<=1073741824):sB T f [.is esz rows] (.is esz rows):=by
 refine⟨_,i,rfl,fun h=>(by cases h),fun ys hy=>Lw (j ys) ⟨8,fun d hd=>?_⟩⟩;obtain⟨d,rfl⟩:∃g,d=g+8:=⟨d-8,by omega⟩
 obtain⟨y,l,rfl,h1,h2⟩:=hy.inv_cons;rw[h2.inv_nil];rcases wC (C:=⟨fun _=>none,fun _=>none,fun _=>none⟩) (.cl h1)with⟨rows',rfl,hr⟩|⟨rfl,rfl⟩
 cases rows' with
 |nil=>
  have:rows=[]:=hO3 hr.1;subst this;obtain⟨s,a,e2⟩:=oA1 (T:=T) ty esz k zero d;exact⟨_,_,_,a,Xj (d:=4) (rows:=[]) (gU3 _) e2 .nil (fI3 _),h1⟩
 |cons r rs=>
  obtain⟨s,a,e2⟩:=oB1 (T:=T) ty esz k zero d r rs (by rw[<-hr.1];exact hl);have b:(r::rs).length=rows.length:=hr.1.symm;rw[b]at a;have e:(r::rs).take rows.length=r::rs:=by rw[<-b,hC3]
  have c:=Xj (n0:=0) (L:=Sim.look s.h) (d:=4) (rows:=rows) (id:=0) (gU3 _) e2 (by rw[e];exact hr) (by omega);rw[e]at c;exact⟨_,_,_,a,c,h1⟩
 exact⟨_,_,_,bH1 ty esz k zero d,rfl,.isn⟩
def Uz (lim:Nat) (b:Bool) (s:Hp):Sim.body (exec T (d+8)) lim {eP ty esz k zero with pure:=false,frz:=b} [.v (.slice none 0 0)] s=some (.v (.slice none 0 0),s):=rfl
def hH1 {lim} {b} {s} (hl:lim<=s.n):Sim.body (exec T (d+8)) lim {eP ty esz k zero with pure:=false,frz:=b} [.is esz []] s=some (.sl esz s.n 0 0 0 none,⟨.ob s.n (.arr false ty esz 0 [])::s.h,s.n+1⟩):=by
 simp[Sim.body,exec,eP,Sim.runOps,Sim.wanted,Sim.evs,Sim.IX.ev,Sim.step,Sim.doOp,Sim.put,Sim.isNilv,Sim.appRows,Sim.rowsOf,Sim.appendTo,Sim.fillParts,Sim.look,Sim.results,Sim.mapO,Sim.readRes,Sim.Out.apply]
def hJ1 {lim} {b} {s} (hl:lim<=s.n) (r:aA AV) (a:aA (aA AV)) (h:(r::a).length<=1073741824):Sim.body (exec T (d+8)) lim {eP ty esz k zero with pure:=false,frz:=b} [.is esz (r::a)] s=some (.sl esz s.n 1 0 (r::a).length none,⟨.ob s.n (.arr false ty esz 1 (r::a))::s.h,s.n+1⟩):=by
 have c:Sim.maxRoom=1073741824:=rfl;simp only[gR3]at h;simp[Sim.body,exec,eP,Sim.runOps,Sim.wanted,Sim.evs,Sim.IX.ev,Sim.step,Sim.doOp,Sim.put,Sim.isNilv,Sim.appRows,Sim.rowsOf,Sim.appendTo,Sim.fillParts,Sim.look,Sim.results,Sim.mapO,Sim.readRes,Sim.Out.apply,Sim.upd,c,h,hl]
end
def bI1 {T} {NF xw} {P} {cl} (t:∀f p,cl f=some p->iA p.1=false/\Nat.ble 4294967296 p.2=false/\∃k zero,T f=some {eP p.1 p.2 k zero with pure:=false,frz:=xw f}):nV1 T NF xw P (yL cl):=by
 intro f xs h n v h' n' C s lim ys _ _ hk hl b;unfold yL at hk;split at hk;rename_i e rows;rw[fC3]at hk;obtain⟨⟨ty,e2⟩,hc,hk⟩:=hk;simp only at hk;by_cases he:(Nat.beq e2 e&&Nat.ble rows.length 1073741824)=true;rw[he,fS3]at hk;cases hk;simp only[fF3,iO3]at he;obtain⟨h1,hn⟩:=he;have:=fY3 h1;subst this;obtain⟨c,hs,k,zero,a⟩:=t f _ hc;simp only at c hs a;have q:Ct ty=ty:=by simp[Ct,c]
 obtain⟨y,u,rfl,a1,a2⟩:=hl.inv_cons;rw[a2.inv_nil]
 have nilc:rows=[]->y=.v (.slice none 0 0)->∃C' i s',RV C' (.own n) i/\dR C' (n+1) [(n,.lst ty e2 true rows)] lim s'/\n<=n+1/\Fr C [] s C' [(n,.lst ty e2 true rows)] s'/\(∃ifn,T f=some ifn/\ifn.pure=false/\ifn.frz=xw f)/\∃D,∀d,D<=d->Sim.callF T (exec T d) lim f [y] s=some (i,s'):=by
  rintro rfl rfl;obtain⟨j,l⟩:=Uk b (ty:=ty) (e:=e2) (g:=true);have o:qZ ty e2 true=.lst ty e2 true []:=rfl;rw[o]at j l;refine⟨_,_,s,.ownn (C:=ext C n .nil) (pJ C n .nil) rfl,j,by omega,l,⟨_,a,rfl,rfl⟩,8,fun d hd=>?_⟩;obtain⟨d,rfl⟩:∃m,d=m+8:=⟨d-8,by omega⟩
  simp only[Sim.callF,a];exact Uz (T:=T) ty e2 k zero d lim (xw f) s
 rcases wC a1 with⟨rows',rfl,hr⟩|⟨hr,hy⟩
 have fin:∀ver,(∀d,Sim.body (exec T (d+8)) lim {eP ty e2 k zero with pure:=false,frz:=xw f} [.is e2 rows'] s=some (.sl e2 s.n ver 0 rows.length none,⟨.ob s.n (.arr false ty e2 ver rows')::s.h,s.n+1⟩))->
   ∃C' i s',RV C' (.own n) i/\dR C' (n+1) [(n,.lst ty e2 true rows)] lim s'/\n<=n+1/\Fr C [] s C' [(n,.lst ty e2 true rows)] s'/\(∃ifn,T f=some ifn/\ifn.pure=false/\ifn.frz=xw f)/\∃D,∀d,D<=d->Sim.callF T (exec T d) lim f [.is e2 rows'] s=some (i,s'):=by
  intro ver hb;obtain⟨j,l,w⟩:=rX b (po:=.lst ty e2 true rows) (ao:=.arr false ty e2 ver rows') (ver:=ver) (e:=e2) (len:=rows.length) ⟨b.lim,by omega,rfl,rfl,rows',by rw[gG,fJ3 rfl,q],by rw[gW3 (by rw[hr.1];exact fI3 _)];exact hr,⟨by rw[hr.1];exact fI3 _,.exact (by rw[hr.1];exact fI3 _)⟩,fun h=>by cases h⟩;refine⟨_,_,_,.own (pJ C n _),j,by omega,l,⟨_,a,rfl,rfl⟩,8,fun d hd=>?_⟩;obtain⟨d,rfl⟩:∃m,d=m+8:=⟨d-8,by omega⟩
  simp only[Sim.callF,a];exact hb d
 cases rows' with
 |nil=>
  have:rows=[]:=hO3 hr.1;subst this;exact fin 0 fun d=>hH1 (T:=T) ty e2 k zero d b.lim
 |cons r rs=>exact fin 1 fun d=>by rw[hr.1];exact hJ1 (T:=T) ty e2 k zero d b.lim r rs (by rw[<-hr.1];exact hn)
 exact nilc hr hy
 grind
 cases hk
end Go.P
namespace Go.P
open Go.Sim
variable {A α:Type}
section
variable {P:Program} {D:Nat} {t:TypeId} {cs:List AV}
def sR {n} (h:n<=maxLen):n<9223372036854775808:=Nat.lt_of_le_of_lt h (by decide)
def jF {k} (a:P.underlying t=some (.int k)) (h:nX P D t cs):∃n,LR (RC false) [.v (.int k n)] cs:=by
 cases D with
 |zero=>exact h.elim
 |succ D=>
  unfold nX at h;rw[a]at h;obtain⟨n,rfl,_⟩:=h;exact⟨n,.cons (.v _) .nil⟩
def Rn (a:P.underlying t=some .bool) (h:nX P D t cs):∃n,LR (RC false) [.v (.bool n)] cs:=by
 cases D with
 |zero=>exact h.elim
 |succ D=>
  unfold nX at h;rw[a]at h;obtain⟨n,rfl⟩:=h;exact⟨n,.cons (.v _) .nil⟩
def oC1 (a:P.underlying t=some .string) (h:nX P D t cs):∃s:ByteArray,s.size<=maxLen/\LR (RC false) [.v (.string s)] cs:=by
 cases D with
 |zero=>exact h.elim
 |succ D=>
  unfold nX at h;rw[a]at h;obtain⟨s,rfl,hs⟩:=h;exact⟨s,hs,.cons (.v _) .nil⟩
def Ya {B:A->Prop} {c:A->aA PV} {e:TypeId} {m:Nat} (g:P.underlying t=some (.slice e)) (f:P.cellsOf e=m) (a:∀D row,nX P D e row->∃x:A,B x/\LR (RC false) (c x) row) (hp:∀x,(c x).all iO=true) (h:nX P D t cs):
  ∃l:aA A,(l.length<=maxLen/\∀x∈l,B x)/\LR (RC false) [.is m (l.map c)] cs:=by
 cases D with
 |zero=>exact h.elim
 |succ D=>
  unfold nX at h;rw[g]at h;rcases h with rfl|⟨els,rfl,hl,h⟩
  exact⟨[],⟨gU3 _,fun x d=>(iY3 d).elim⟩,.cons .isn .nil⟩;rw[f]
  have:∃l:aA A,l.length=els.length/\(∀x∈l,B x)/\RR (l.map c) els:=by
   clear hl
   induction els with
   |nil=>exact⟨[],rfl,fun x d=>(iY3 d).elim,.nil⟩
   |cons row els ih=>
    obtain⟨l,h1,h2,b⟩:=ih (fun row a=>h row (by simp[a]));obtain⟨x,i,j⟩:=a D row (h row (by simp)).2;refine⟨x::l,by simp[h1],fun y hy=>?_,.cons ?_ b⟩;rcases fT3.1 hy with rfl|hy;exact i;exact h2 y hy;exact(LR.closed (C:=⟨fun _=>none,fun _=>none,fun _=>none⟩) j).plain (hp x)
  obtain⟨l,h1,h2,b⟩:=this;exact⟨l,⟨by omega,h2⟩,.cons b.is .nil⟩
def iP {fs} (a:P.underlying t=some (.struct fs)) (h:nX P D t cs):∃D',mF1 (nX P D') P fs.toList cs:=by
 cases D with
 |zero=>exact h.elim
 |succ D=>
  unfold nX at h;rw[a]at h;exact⟨D,h⟩
def nW2 {n} {e} (b:P.underlying t=some (.array n e)) (h:nX P D t cs):∃(D':Nat) (rows:aA (aA AV)),cs=rows.flatten/\rows.length=n/\∀row∈rows,row.length=P.cellsOf e/\nX P D' e row:=by
 cases D with
 |zero=>exact h.elim
 |succ D=>
  unfold nX at h;rw[b]at h;obtain⟨rows,h1,h2,a⟩:=h;exact⟨D,rows,h1,h2,a⟩
def cT2 {l:aA α} (h:l.length=6):∃a b c d e f,l=[a,b,c,d,e,f]:=by
 rcases l with _|⟨a,_|⟨b,_|⟨c,_|⟨d,_|⟨e,_|⟨f,_|⟨g,l⟩⟩⟩⟩⟩⟩⟩<;>simp at h;exact⟨a,b,c,d,e,f,rfl⟩
end
end Go.P
namespace Go.P
open Go.Sim
def hK1 {T} {f} {xs} (h:sB T f xs (bv true)) {ys} (hl:LR (RC false) xs ys) (hc:ys.all (closed 4)=true):∃d s,callF T (exec T d) 0 f ys {h:=[],n:=0}=some (.v (.bool true),s):=by
 obtain⟨ifn,h1,h2,g,a⟩:=h;obtain⟨D,b⟩:=a ys hl;obtain⟨y,c,e⟩:=b D (fI3 _);cases e;exact⟨D,_,by simp only[callF,h1,h2,gF3,hc,c,gB3];rfl⟩
def Lx {x} {y} {d} (h:RC false x y) (hp:iO x=true):closed (d+1) y=true:=by
 cases h<;>first|rfl|simp[iO]at hp
def Va {xs} {ys} (h:LR (RC false) xs ys) (hp:xs.all iO=true):closed 4 (.agg ys)=true:=by
 unfold closed;rw[fH3];intro y hy;obtain⟨j,b⟩:=fQ3.1 hy;have a:j<xs.length:=by rw[h.1];exact(fE3.1 b).1
 have c:xs[j]? =some xs[j]:=fP3 a;exact Lx (h.2 j _ _ c b) (fH3.1 hp _ (gX3 a))
def xU1:Value->Value->Bool
 |.int k a,.int k' b=>decide (k=k')&&decide (a=b)
 |.bool a,.bool b=>decide (a=b)
 |.string a,.string b=>decide (a=b)
 |.slice none 0 0,.slice none 0 0=>true
 |_,_=>false
def oD1 {x y} (h:xU1 x y=true):x=y:=by
 unfold xU1 at h;split at h<;>simp_all
def Ro {α β:Type} (f:α->β->Bool):aA α->aA β->Bool
 |[],[]=>true
 |a::as,b::bs=>f a b&&Ro f as bs
 |_,_=>false
def rI {α β} {f}:∀{xs:aA α} {ys:aA β},Ro f xs ys=true->xs.length=ys.length/\∀(j:Nat) (x:α) (y:β),xs[j]? =some x->ys[j]? =some y->f x y=true
 |[],[],_=>⟨rfl,fun j x y h=>by simp at h⟩
 |[],b::bs,h=>by simp[Ro]at h
 |a::as,[],h=>by simp[Ro]at h
 |a::as,b::bs,h=>by
  simp only[Ro,fF3]at h
  obtain⟨h1,h2⟩:=h
  have ih:=rI h2
  refine⟨by simp[ih.1],fun j x y c hy=>?_⟩
  cases j with
  |zero=>simp at c hy;subst c;subst hy;exact h1
  |succ j=>simp at c hy;exact ih.2 j x y c hy
def rcB:Nat->PV->AV->Bool
 |0,_,_=>false
 |d+1,x,y=>match x,y with
  |.v x,.v y=>xU1 x y
  |.is e rows,.is e' rows'=>decide (e=e')&&Ro (Ro (rcB d)) rows rows'
  |.is _ [],.v (.slice none 0 0)=>true
  |_,_=>false
def hO1:∀(d:Nat) {x:PV} {y:AV} (p:Bool),rcB d x y=true->RC p x y
 |0,x,y,p,h=>by simp[rcB]at h
 |d+1,x,y,p,h=>by
  unfold rcB at h
  split at h
  rw[oD1 h];exact .v _
  simp only[fF3,fO3]at h
  obtain⟨rfl,h⟩:=h
  have h1:=rI h
  refine .is h1.1 (fun i r r' hr a=>(rI (h1.2 i r r' hr a)).1) (fun i r r' j x y hr a b hy=>hO1 d true ((rI (h1.2 i r r' hr a)).2 j x y b hy))
  exact .isn
  cases h
end Go.P
namespace Go.P
open Go.Sim (IC IX AV iV nY)
section
variable {R:Type}
def fN (s:Nat) (K:Nat->R):R:=match s with
 |0=>K 0
 |n+1=>K (n+1)
def num:Nat->Nat->(Nat->Nat->R)->R
 |0,s,K=>K 0 s
 |k+1,s,K=>bif Nat.ble 8 (s%16)then fN (s/16) fun t=>num k t fun n t=>K (s%16-8+8*n) t else fN (s/16) fun t=>K (s%16) t
def cV2:Nat->Nat->(aA Nat->Nat->R)->R
 |0,s,K=>K [] s
 |k+1,s,K=>num 16 s fun n t=>fN n fun n=>cV2 k t fun l u=>K (n::l) u
def sG (s:Nat) (K:aA Nat->Nat->R):R:=num 16 s fun n t=>cV2 n t K
def Yb:Nat->Nat->(aA (aA Nat)->Nat->R)->R
 |0,s,K=>K [] s
 |k+1,s,K=>sG s fun n t=>Yb k t fun l u=>K (n::l) u
def uV:AV->PV
 |.v x=>.v x
 |.fn (.func f) _ _=>.fn f [] []
 |.agg cs=>.agg (cs.map fun c=>match c with|.v x=>.v x|_=>.undef)
 |_=>.undef
def uX:IX->PX
 |.t i=>.t i
 |.c x=>.c (uV x)
def hP1:aA PX->aA Nat
 |[]=>[]
 |.t i::xs=>i::hP1 xs
 |_::xs=>hP1 xs
def kil (h:Nat) (xs:aA PX) (s:Nat) (K:aA Nat->Nat->R):R:=match h with
 |0=>K [] s
 |1=>K (hP1 xs) s
 |_=>sG s K
def tdL:Nat->Nat->aA Nat->(aA (Nat×TD)->kT)->(aA (Nat×TD)->aA Nat->kT)->kT
 |_,0,l,_,K=>K [] l
 |n+1,c+1,j::a::b::k::l,E,K=>tdL n k l E fun ks l=>tdL n c l E fun r l=>K ((j,.nd a b ks)::r) l
 |_,_,_,E,_=>E []
def tdK (l:aA Nat) (K:TD->kT):kT:=tdL 16 1 (0::l) (fun _=>.nil) fun r _=>match r with
 |(_,t)::_=>K t
 |[]=>.nil
def nZ2:Nat->aB Nat
 |0=>none
 |n+1=>some n
def mrk:aA Nat->kT->kT
 |9::d::j::l,r=>tdK l fun t=>.tre d (nZ2 j) t r
 |[11,m],r=>.up m r
 |10::l,r=>.gc l r
 |[0,d,ty,e,g],r=>.own d ty e (Nat.beq g 1) r
 |[1,d],r=>.fz d none r
 |[2,d,j],r=>.fz d (some j) r
 |[5,d,e],r=>.lax d [some e] r
 |[6,d,j,ty,e,g],r=>.ownc d j ty e (Nat.beq g 1) r
 |[7,d,j,e],r=>.laxc d j e r
 |[8,d,m,j,e],r=>.lax d ((List.range m).map fun q=>bif Nat.beq q j then some e else none) r
 |_,r=>r
def hQ1:aA (aA Nat)->kT->kT
 |[],r=>r
 |m::ms,r=>mrk m (hQ1 ms r)
def opO (d:aB Nat) (k:iV) (xs:aA PX) (l:aA Nat) (r:kT):kT:=match d with
 |some d=>.op d k xs l r
 |none=>.sto k xs l r
def pie (f:aA Sim.Op1->Nat->(kT->Nat->R)->R) (h:Nat) (os:aA Sim.Op1) (s:Nat) (K:(kT->kT)->aA Sim.Op1->Nat->R):R:=num 16 s fun k s=>f (os.take k) s fun b s=>match os.drop k with
 |[]=>K (fun r=>r) [] s
 |o::os=>match o.dst,o.xs with
  |some d,[.t c,x,y]=>kil (s%16) [.t c] (s/16) fun l s=>match y with
   |.c (.v (.bool false))=>K (.ifx d c true b (uX x) l) os s
   |_=>K (.ifx d c false b (uX y) l) os s
  |_,_=>K (fun r=>r) [] s
def its:Nat->aA Sim.Op1->Nat->(kT->Nat->R)->R
 |0,_,s,K=>K .nil s
 |_,[],s,K=>K .nil s
 |n+1,o::os,s,K=>match s%16 with
  |3=>sG (s/16) fun l s=>its n os s fun r s=>(match o.k,o.dst with
   |.buildSl ty _ _ z _,some d=>K (.mkfl d ty z (o.xs.map uX) l r) s
   |_,_=>K .nil s)
  |4=>kil (s/16%16) (o.xs.map uX) (s/256) fun l s=>num 16 s fun m s=>Yb m s fun b s=>its n os s fun r s=>K (opO o.dst o.k (o.xs.map uX) l (hQ1 b r)) s
  |7=>sG (s/16) fun l s=>sG s fun q s=>num 16 s fun m s=>Yb m s fun b s=>its n os s fun r s=>(match o.k,o.dst with
   |.buildSl _ _ m z ps,some d=>K (tdK q fun t=>.bst d t m z ps (o.xs.map uX) l (hQ1 b r)) s
   |_,_=>K .nil s)
  |8=>sG (s/16) fun l s=>sG s fun js s=>num 16 s fun m s=>Yb m s fun b s=>its n os s fun r s=>(match o.k,o.dst,o.xs with
   |.loadS,some d,[x]=>K (.opn d none (uX x) l js (hQ1 b r)) s
   |.loadA i,some d,[x]=>K (.opn d (some i) (uX x) l js (hQ1 b r)) s
   |_,_,_=>K .nil s)
  |5=>pie (its n) 5 (o::os) (s/16) fun a os s=>its n os s fun r s=>K (a r) s
  |6=>pie (its n) 6 (o::os) (s/16) fun a os s=>its n os s fun r s=>K (a r) s
  |h=>fN (s/16) fun t=>kil h (o.xs.map uX) t fun l s=>its n os s fun r s=>K (opO o.dst o.k (o.xs.map uX) l r) s
def uP1:aA Nat->aA (Nat×Nat×Nat×Nat)
 |a::b::c::d::r=>(a,b,c,d)::uP1 r
 |_=>[]
def gcB (m:Nat) (c:IC) (l:aA Nat) (x:PC):PC:=match c with
 |.reg _=>.seq (.seq (.reg (.gc (List.range m) .nil)) x) (.reg (.gc l .nil))
 |.regD _ _=>.seq (.seq (.reg (.gc (List.range m) .nil)) x) (.reg (.gc l .nil))
 |_=>.seq x (.reg (.gc l .nil))
def cX2 (g:Bool) (x:PC) (s:Nat) (K:PC->Nat->R):R:=bif g then(bif Nat.beq (s%16) 0 then fN (s/16) fun s=>K x s else sG (s/16) fun l s=>K (.seq (.reg (.gc l .nil)) x) s)else K x s
def Nr (m:Nat) (g:Bool):IC->Nat->(PC->Nat->R)->R
 |.skip,s,K=>K .skip s
 |.reg ops,s,K=>its ops.length ops s fun b s=>K (.reg b) s
 |.regD ops bf,s,K=>num 16 s fun dr s=>its ops.length ops s fun b s=>sG s fun q s=>(match q with
  |[]=>K (.regD dr b bf) s
  |q=>K (.regX dr b bf (uP1 q)) s)
 |.seq a b,s,K=>Nr m g a s fun x s=>Nr m g b s fun y s=>K (.seq x y) s
 |.cond c a b,s,K=>match s%16 with
  |1=>sG (s/16) fun l s=>Nr m g a s fun x s=>Nr m g b s fun y s=>K (.condJ l (uX c) x y) s
  |2=>fN (s/16) fun s=>Nr m g a s fun x s=>Nr m g b s fun y s=>K (.condL (uX c) x y) s
  |3=>sG (s/16) fun l s=>Nr m g a s fun x s=>Nr m g b s fun y s=>K (.condJ l (uX c) (gcB m a l x) (gcB m b l y)) s
  |_=>fN (s/16) fun s=>Nr m g a s fun x s=>Nr m g b s fun y s=>K (.cond (uX c) x y) s
 |.block id c,s,K=>Nr m g c s fun x s=>K (.block id x) s
 |.loop c,s,K=>match s%16 with
  |1=>num 16 (s/16) fun n s=>sG s fun l s=>Nr m g c s fun x s=>K (.loopU n l x) s
  |2=>sG (s/16) fun l s=>sG s fun d s=>Nr m g c s fun x s=>K (.loop l d (gcB m c l x)) s
  |3=>sG (s/16) fun l s=>sG s fun d s=>Nr m g c s fun x s=>K (.seq (.reg (.gc l .nil)) (.loop l d (gcB m c l x))) s
  |_=>sG (s/16) fun l s=>sG s fun d s=>Nr m g c s fun x s=>K (.loop l d x) s
 |.rangeF _ _ _ _,s,K=>K .skip s
 |.exit id,s,K=>cX2 g (.exit id) s K
 |.ret,s,K=>cX2 g .ret s K
def oA2 (m:Nat) (c:IC) (s:Nat) (K:PC->R):R:=bif Nat.beq (s%16) 15 then fN (s/16) fun s=>bif Nat.beq (s%16) 0 then fN (s/16) fun s=>Nr m true c s fun x _=>K x else sG (s/16) fun l s=>Nr m true c s fun x _=>K (gcB m c l x)else Nr m false c s fun x _=>K x
def anF (P:Program) (f s:Nat) (z:Bool):cQ:=match P.funcs[f]? with
 |some fn=>match fn.body with
  |some c=>match Sim.comp P c,Sim.mapO (Sim.compRes P) fn.results.toList with
   |some ic,some rs=>oA2 fn.ntmps ic s fun c=>⟨fn.ntmps,rs,c,z⟩
   |_,_=>default
  |none=>default
 |none=>default
end
end Go.P
namespace Go.P
open Go.Sim
def Rp {Q} {T} (e:kJ Q T) (a:Q.follows .mixedOrders=true) {f} {xs} {ys} {b} (h:sB T f xs (bv b)) (hl:LR (RC false) xs ys) (hc:ys.all (closed 4)=true):nM Q f ys (.v (.bool b)):=by
 obtain⟨fn,h1,h2,_,c⟩:=h;obtain⟨D,d⟩:=c ys hl;obtain⟨y,g,i⟩:=d D (fI3 _);cases i;exact Ey e a h1 h2 hc g
def hS1 {T} {f} {fn} {b} (a:T f=some fn) (hp:fn.pure=true) (e:fn.frz=true) (c:T.memo f []=some (.v (.bool b))):sB T f [] (bv b):=
 ⟨fn,a,hp,fun _=>e,fun ys hy=>⟨0,fun d _=>⟨_,by rw[hy.inv_nil];simp only[runP,c],.v _⟩⟩⟩
def uQ1:Nat->PV->AV
 |0,_=>.es
 |d+1,x=>match x with
  |.v x=>.v x
  |.is _ []=>.v (.slice none 0 0)
  |.is e rows=>.is e (rows.map fun r=>r.map (uQ1 d))
  |_=>.es
def Jz (d:Nat) (xs:aA PV):aA AV:=xs.map (uQ1 d)
def Yc {cells} {d} (h:Ro (rcB 12) cells (Jz d cells)=true):LR (RC false) [.agg cells] [.agg (Jz d cells)]:=by
 have:=rI h;exact .cons (.agg this.1 (fun j x y a hy=>hO1 12 false (this.2 j x y a hy))) (.nil)
end Go.P
