import Derived.Test.YtcbmkpbljlaghaaGreatGaB
/- A text of the proof. -/
set_option linter.all false
namespace Go.P
def Ok {α:Type} (x:aB α) (Q:α->Prop):Prop:=∃v,x=some v/\Q v
section
variable {α β:Type} {Q:α->Prop}
theorem Ok.mk {v:α} (h:Q v):Ok (some v) Q:=⟨v,rfl,h⟩
theorem bW {α:Type} {v:α} {Q:α->Prop} (h:Q v:=by exact trivial):Ok (some v) Q:=⟨v,rfl,h⟩
theorem Ob {P:β->Prop} {x:aB β} {k:β->aB α} (h:Ok x P) (hk:∀v,P v->Ok (k v) Q):Ok (x.bind k) Q:=by
 obtain⟨v,rfl,hv⟩:=h;exact hk v hv
theorem Oi {c:Prop} [Decidable c] {a b:aB α} (h1:c->Ok a Q) (h2:¬c->Ok b Q):Ok (if c then a else b) Q:=by
 split;rename_i h;exact h1 h;rename_i h;exact h2 h
theorem oJ {α:Type} {c:Prop} [Decidable c] {v:α} {y:aB α} {Q:α->Prop} (h:¬c->Ok y Q) (q:Q v:=by exact trivial):Ok (if c then some v else y) Q:=Oi (fun _=>.mk q) h
theorem Ok.mono {P:α->Prop} {x:aB α} (h:Ok x P) (a:∀v,P v->Q v):Ok x Q:=by
 obtain⟨v,h1,h2⟩:=h;exact⟨v,h1,a v h2⟩
theorem Ok.ex {x:aB α} (h:Ok x Q):∃v,x=some v:=by
 obtain⟨v,h1,_⟩:=h;exact⟨v,h1⟩
theorem cM {S E:Type} {body:S->aB (S⊕E)} {Q:E->Prop} (I:S->Prop) (μ:S->Nat)
  (h:∀s,I s->Ok (body s) (fun r=>match r with|.inl s'=>I s'/\μ s'<μ s|.inr e=>Q e)):∀(n:Nat) (s:S),I s->μ s<n->Ok (aZ body n s) Q
 |0,s,_,hn=>by omega
 |n+1,s,hi,hn=>by
  obtain⟨r,h1,h2⟩:=h s hi
  simp only[aZ,h1,wJ2]
  cases r with
  |inl s'=>exact cM I μ h n s' h2.1 (by have:=h2.2;omega)
  |inr e=>exact .mk h2
end
theorem bK {n:Int} (h1: -9223372036854775808<=n) (h2:n<9223372036854775808):bF n=n:=by
 have e:bF n=if n%18446744073709551616>=9223372036854775808 then n%18446744073709551616-18446744073709551616 else n%18446744073709551616:=by
  unfold bF IntKind.wrap;rw[show((2:Int)^IntKind.bits .i64)=18446744073709551616 from rfl,show((2:Int)^(IntKind.bits .i64-1))=9223372036854775808 from rfl];simp[IntKind.signed]
 rw[e];split<;>omega
theorem cK {A:Type} {l:aA A} {i:Int} {Q:A->Prop} (h0:0<=i) (h1:i<(l.length:Int)) (h:∀x,x∈l->l[i.toNat]? =some x->Q x):Ok (bB l i) Q:=by
 unfold bB;rw[wO2 h0];have hi:i.toNat<l.length:=by omega
 exact⟨l[i.toNat],by simp[hi],h _ (yR2 hi) (by simp[hi])⟩
end Go.P
set_option maxRecDepth 100000
namespace Go.P
def tC1 {A:Type} (l:aA A) (g:A->aB Bool):aB Int:=
 (aZ (E:=Int⊕Unit) (fun(a:Int)=>
  if(decide (a<(l.length:Int)))then
   (bB l a).bind fun d=>
   (g d).bind fun b=>
   if b then
    some (.inr (.inl a))
   else
   some (.inl (bF (a+1)))
  else
  some (.inr (.inr ()))) bN 0).bind fun c=>
 match c with
 |.inl x_7=>
  some x_7
 |.inr _=>
  some (-1)
theorem Ul {A:Type} {l:aA A} {g:A->aB Bool} (hl:l.length<9223372036854775808) (hg:∀x∈l,∃b,g x=some b):Ok (tC1 l g) (fun v=>(v= -1/\∀x∈l,g x=some false)\/(0<=v/\v<l.length/\∃x,l[v.toNat]? =some x/\g x=some true)):=by
 unfold tC1
 refine Ob (P:=fun r=>match r with|.inl v=>0<=v/\v<l.length/\∃x,l[v.toNat]? =some x/\g x=some true|.inr _=>∀x∈l,g x=some false)
  (cM (S:=Int) (fun i=>0<=i/\i<=l.length/\∀j,j<i.toNat->∀x,l[j]? =some x->g x=some false) (fun i=>l.length-i.toNat) (fun i hi=>?_) bN 0 ⟨by omega,by omega,fun j c=>by simp at c⟩ (by simp[bN];omega)) fun r hr=>?_
 obtain⟨h0,h1,h2⟩:=hi;refine Oi (fun hc=>?_) (fun hc=>?_);simp only[wS2]at hc;refine Ob (cK (Q:=fun x=>x∈l/\l[i.toNat]? =some x) h0 hc (fun x a b=>⟨a,b⟩)) fun x d=>?_;obtain⟨b,hb⟩:=hg x d.1;rw[hb];cases b with
 |true=>exact .mk ⟨h0,hc,x,d.2,hb⟩
 |false=>
  rw[wJ2,bK (by omega) (by omega)];refine .mk ⟨⟨by omega,by omega,fun j c y hy=>?_⟩,by omega⟩;by_cases e:j=i.toNat
  subst e;rw[d.2]at hy;cases hy;exact hb;exact h2 j (by omega) y hy
 simp only[wS2]at hc;refine .mk (fun x d=>?_);obtain⟨j,c⟩:=xE2.1 d;have:=(wI2.1 c).1;exact h2 j (by omega) x c;cases r with
 |inl v=>exact .mk (.inr hr)
 |inr u=>exact .mk (.inl ⟨rfl,hr⟩)
end Go.P
namespace Go.P
structure YY.b (x:YY):Prop where
 nZ:x.nZ.size<9223372036854775808
structure YE.b (x:YE):Prop where
 cW:x.cW.length<9223372036854775808
 gN:x.gN.length<9223372036854775808
 dP:x.dP.length<9223372036854775808
 wC:∀y∈x.dP,y.b
structure YO.b (x:YO):Prop where
 aT:x.aT.length<9223372036854775808
 dQ:∀y∈x.aT,y.b
 gJ:x.gJ.length<9223372036854775808
structure YW.b (x:YW):Prop where
 kQ:x.kQ.length<9223372036854775808
 aQ:x.aQ.length<9223372036854775808
 eF:∀y∈x.aQ,y.b
structure YM.b (x:YM):Prop where
 iY:x.iY.size<9223372036854775808
 kW:x.kW.length<9223372036854775808
 aR:x.aR.length<9223372036854775808
 fY:∀y∈x.aR,y.b
structure YJ.b (x:YJ):Prop where
 Dv:x.Dv.size<9223372036854775808
 dZ:x.dZ.length<9223372036854775808
structure Y0.b (x:Y0):Prop where
 pS:x.pS.size<9223372036854775808
 bV:x.bV.length<9223372036854775808
 nY:∀y∈x.bV,y.b
 aD:x.aD.length<9223372036854775808
 cC:∀y∈x.aD,y.b
 bY:x.bY.length<9223372036854775808
 kZ:x.kZ.length<9223372036854775808
structure YY.sm (x:YY):Prop where
 nZ:x.nZ.size<=300
structure YE.sm (x:YE):Prop where
 cW:x.cW.length<=12
 gN:x.gN.length<=12
 dP:x.dP.length<=12
 wC:∀y∈x.dP,y.sm
structure YO.sm (x:YO):Prop where
 aT:x.aT.length<=20
 dQ:∀y∈x.aT,y.sm
 gJ:x.gJ.length<=6
structure YW.sm (x:YW):Prop where
 kQ:x.kQ.length<=5
 aQ:x.aQ.length<=3
 eF:∀y∈x.aQ,y.sm
structure YM.sm (x:YM):Prop where
 iY:x.iY.size<=300
 kW:x.kW.length<=5
 aR:x.aR.length<=5
 fY:∀y∈x.aR,y.sm
structure YJ.sm (x:YJ):Prop where
 Dv:x.Dv.size<=300
 dZ:x.dZ.length<=5
structure Y0.sm (x:Y0):Prop where
 pS:x.pS.size<=300
 bV:x.bV.length<=4
 nY:∀y∈x.bV,y.sm
 aD:x.aD.length<=12
 cC:∀y∈x.aD,y.sm
 bY:x.bY.length<=10
 kZ:x.kZ.length<=5
end Go.P
namespace Go.P
theorem xJ {A E:Type} {l:aA A} {body:Int->aB (Int⊕E)} {Q:E->Prop} (P:A->Prop) (hl:l.length<9223372036854775808)
  (h:∀(i:Int) (x:A),0<=i->i<(l.length:Int)->x∈l->bB l i=some x->bF (i+1)=i+1->Ok (body i) (fun r=>match r with|.inl j=>j=i+1/\P x|.inr e=>Q e))
  (a:∀i:Int,i=(l.length:Int)->(∀x∈l,P x)->Ok (body i) (fun r=>match r with|.inl j=>False|.inr e=>Q e)):Ok (aZ body bN 0) Q:=by
 have hl:l.length<9223372036854775808:=hl;refine cM (fun(i:Int)=>0<=i/\i<=l.length/\∀j,j<i.toNat->∀x,l[j]? =some x->P x) (fun i=>l.length-i.toNat) (fun i hi=>?_) bN 0 ⟨by omega,by omega,fun j b=>by simp at b⟩ (by simp[bN];omega);obtain⟨h0,h1,h2⟩:=hi;by_cases c:i<(l.length:Int);have hi:i.toNat<l.length:=by omega
 have hg:bB l i=some l[i.toNat]:=by unfold bB;rw[wO2 h0];simp[hi]
 refine(h i l[i.toNat] h0 c (yR2 hi) hg (bK (by omega) (by omega))).mono fun r hr=>?_;cases r with
 |inl j=>
  obtain⟨rfl,hp⟩:=hr;refine⟨⟨by omega,by omega,fun j b y hy=>?_⟩,by omega⟩;by_cases e:j=i.toNat
  subst e;rw[wX2 hi]at hy;cases hy;exact hp;exact h2 j (by omega) y hy
 |inr e=>exact hr
 refine(a i (by omega) (fun x d=>?_)).mono fun r hr=>?_;obtain⟨j,b⟩:=xE2.1 d;have:=(wI2.1 b).1;exact h2 j (by omega) x b;cases r with
 |inl j=>exact hr.elim
 |inr e=>exact hr
theorem U33 {v:YO} (hv:v.b):Ok (F16 v) (fun r=>r=true->v.sm):=by
 unfold F16;refine Ob (P:=fun r=>match r with|.inl _=>True|.inr _=>∀e∈v.aT,e.sm) (xJ (fun e=>e.sm) hv.aT (fun i x h0 h1 c hg hw=>?_) (fun i hi hp=>?_)) fun r hr=>?_;simp only[h1,yO2,xM2,hg,wJ2];refine Oi (fun hc=>.mk trivial) (fun hc=>?_);have a:=hv.dQ x c;simp only[wY2,wS2,zK2]at hc;refine Ob (P:=fun r=>match r with|.inl _=>True|.inr _=>∀e∈x.dP,e.sm) (xJ (fun e=>e.sm) a.dP (fun k y j d hy f g=>?_) (fun k hk hp=>?_)) fun r hr=>?_;simp only[d,yO2,xM2,f,wJ2];refine Oi (fun hd=>.mk trivial) (fun hd=>?_);rw[g];exact .mk ⟨rfl,⟨by simp at hd;omega⟩⟩;simp only[hk,Int.lt_irrefl,yZ2,wU2,xQ2];exact .mk hp;cases r with
 |inl u=>exact .mk trivial
 |inr u=>simp only;rw[hw];exact .mk ⟨rfl,⟨by omega,by omega,by omega,hr⟩⟩
 simp only[hi,Int.lt_irrefl,yZ2,wU2,xQ2];exact .mk hp;cases r with
 |inl u=>exact .mk (fun h=>by cases h)
 |inr u=>
  refine .mk (fun h=>?_);simp only[wL2,wS2]at h;exact⟨by omega,hr,by omega⟩
end Go.P
namespace Go.P
theorem bO {A S E:Type} {l:aA A} {body:S->aB (S⊕E)} {Q:E->Prop} {s0:S} (a:S->Int) (I:Nat->S->Prop) (hl:l.length<9223372036854775808) (h0:a s0=0) (f:I 0 s0)
  (h:∀(i:Nat) (x:A) (s:S),l[i]? =some x->x∈l->a s=(i:Int)->a s<(l.length:Int)->I i s->bB l (a s)=some x->bF (a s+1)=(i:Int)+1->Ok (body s) (fun r=>match r with|.inl s'=>a s'=(i:Int)+1/\I (i+1) s'|.inr e=>Q e))
  (b:∀s,a s=(l.length:Int)->I l.length s->Ok (body s) (fun r=>match r with|.inl _=>False|.inr e=>Q e)):Ok (aZ body bN s0) Q:=by
 have hl:l.length<9223372036854775808:=hl;refine cM (fun s=>0<=a s/\a s<=l.length/\I (a s).toNat s) (fun s=>l.length-(a s).toNat) (fun s hi=>?_) bN s0 ⟨by omega,by omega,by rw[h0];exact f⟩ (by simp[bN];omega);obtain⟨g,m,d⟩:=hi;by_cases c:a s<(l.length:Int);have hi:(a s).toNat<l.length:=by omega
 have hc:(((a s).toNat:Nat):Int)=a s:=by omega
 have hg:bB l (a s)=some l[(a s).toNat]:=by unfold bB;rw[wO2 g];simp[hi]
 refine(h (a s).toNat l[(a s).toNat] s (by simp[hi]) (yR2 hi) hc.symm c d hg (by rw[bK (by omega) (by omega)];omega)).mono fun r hr=>?_;cases r with
 |inl s'=>
  obtain⟨k,e2⟩:=hr;refine⟨⟨by omega,by omega,?_⟩,by omega⟩;rw[show(a s').toNat=(a s).toNat+1 by omega];exact e2
 |inr e=>exact hr
 refine(b s (by omega) ?_).mono fun r hr=>?_;rw[show(a s).toNat=l.length by omega]at d;exact d;cases r with
 |inl j=>exact hr.elim
 |inr e=>exact hr
theorem eM {A:Type} {g:Bool} {l:aA A} {x:A} (h:l.length<1073741824) {Q:aA A->Prop} (a:Q (l++[x])):Ok (iP g l [x]) Q:=by
 unfold iP;have e:Sim.maxRoom=1073741824:=rfl;rw[wO2 ⟨by rw[e,xR2,wW2];omega,fun _=>wK2 _⟩];exact .mk a
theorem mA2 {w:Bool} {id:YZ} {l:aA YV} {s:Y0} {r:Int} (h:l.length<1000000):Ok (kO w id l s r) (fun v=>v.length<=l.length+1):=by
 unfold kO;refine Ob (P:=fun v=>v.length<=l.length+1) (Oi (fun _=>Ob (eM (Q:=fun v=>v.length<=l.length+1) (by omega) (by simp)) fun v hv=>.mk hv) (fun _=>.mk (by omega))) fun v hv=>.mk hv
theorem tD1 (n a b:Int):zS n a b=some (decide (n>=a)&&decide (n<=b)):=rfl
theorem mB2 (i:YL):F64 i=some (if((((decide (i.pV<(-77)))||(decide (i.pV>77)))||(decide (i.fG<(-140))))||(decide (i.fG>140)))then 2 else 0):=by
 unfold F64;split<;>rfl
theorem cB2 {s:ByteArray} (h:s.size<9223372036854775808):Ok (F62 s) (fun _=>True):=by
 unfold F62;refine Ob (P:=fun _=>True) (Oi (fun _=>?_) (fun _=>.mk trivial)) fun v hv=>.mk hv
 have:Ok (Wz s.data.toList) (fun _=>True):=by
  unfold Wz;refine Ob (Ul (l:=s.data.toList) (g:=fun b=>cL1 (b.toNat:Int)) (by rw[aA3];exact h) (fun x _=>⟨_,rfl⟩)) fun v hv=>.mk trivial
 exact Ob this fun v hv=>.mk trivial
end Go.P
namespace Go.P
section
variable {α β:Type} {Q:α->Prop}
theorem Ok.bindE {P:β->Prop} {x:aB β} {k:β->aB α} (h:Ok x P) (hk:∀v,x=some v->P v->Ok (k v) Q):Ok (x.bind k) Q:=by
 obtain⟨v,rfl,hv⟩:=h;exact hk v rfl hv
theorem Ok.of {x:aB α} (h:Ok x Q) {v:α} (hv:x=some v):Q v:=by
 obtain⟨w,h1,h2⟩:=h;rw[h1]at hv;cases hv;exact h2
theorem nI {k:IntKind} {a b:Int} (h:b≠0):Ok (Mv k a b) (fun v=>v=k.wrap (a.tdiv b)):=by
 unfold Mv;rw[wN2 h];exact .mk rfl
theorem zV {k:IntKind} {a b:Int} (h:b≠0):Ok (cA1 k a b) (fun v=>v=a.tmod b):=by
 unfold cA1;rw[wN2 h];exact .mk rfl
theorem vU {k:IntKind} {a b:Int} (h:0<=b):Ok (mB k a b) (fun v=>v=a.fdiv (2^min b.toNat k.bits)):=by
 unfold mB;rw[wN2 (by omega)];exact .mk rfl
theorem Um {k:IntKind} {a b:Int} (h:0<=b):Ok (bZ1 k a b) (fun _=>True):=by
 unfold bZ1;rw[wN2 (by omega)];exact .mk trivial
end
section
variable {A:Type} {l:List A}
theorem gR {i:Int} (h0:0<=i) (h1:i<(l.length:Int)):Ok (dA l i) (fun v=>v=i.toNat/\v<l.length):=by
 unfold dA qR;rw[wO2 ⟨h0,h1⟩];exact .mk ⟨rfl,by omega⟩
theorem kP {j:Nat} (h:j<l.length):Ok (eL l j) (fun x=>l[j]? =some x/\x∈l):=by
 unfold eL;rw[wX2 h];exact .mk ⟨rfl,yR2 h⟩
theorem Jl {j:Nat} {f:A->A} (h:j<l.length):Ok (lP l j f) (fun m=>m.length=l.length):=by
 unfold lP;rw[wX2 h];exact .mk (by simp)
theorem mU {n c:Int} {z:A} (h0:0<=n) (h1:n<=c) (h2:c<=1073741824):Ok (yP n c z) (fun v=>v=List.replicate n.toNat z):=by
 unfold yP;rw[wO2 ⟨h0,h1,h2⟩];exact .mk rfl
theorem Gu {a b:Int} (h0:0<=a) (h1:a<=b) (h2:b<=(l.length:Int)):Ok (pI l a b) (fun v=>v.length<=l.length/\∀x∈v,x∈l):=by
 unfold pI;rw[wO2 ⟨h0,h1,h2⟩];exact .mk ⟨by simp;omega,fun x c=>List.mem_of_mem_drop (zZ2 c)⟩
theorem Yd {h:Int} (_:0<l.length) (h1:0<=h) (h2:h<=(l.length:Int)):Ok (Cp l h) (fun v=>v.length=h.toNat/\∀x∈v,x∈l):=by
 unfold Cp;rw[wO2 ⟨h1,h2⟩];exact .mk ⟨by simp;omega,fun x a=>zZ2 a⟩
theorem fF {i:Int} {x:A} (h:bB l i=some x):0<=i/\i<(l.length:Int)/\x∈l/\l[i.toNat]? =some x:=by
 unfold bB at h;split at h;obtain⟨hi,_⟩:=wI2.1 h;exact⟨by omega,by omega,wT2 h,h⟩;cases h
end
theorem xK {s:ByteArray} {i:Int} (h0:0<=i) (h1:i<(s.size:Int)):Ok (qS s i) (fun v=>0<=v/\v<=255):=by
 unfold qS;rw[wO2 h0];have h:i.toNat<s.data.toList.length:=by rw[aA3];show i.toNat<s.size;omega
 rw[wX2 h];have:=(s.data.toList[i.toNat]).toNat_lt;exact .mk ⟨by dsimp only;omega,by dsimp only;omega⟩
theorem xL {A:Type} {l:aA A} (h:l.length<=1073741824):tM l=some l:=by
 unfold tM;rw[Nat.ble_eq_true_of_le h];rfl
theorem nm:(∀a b:Bool,((a||b)=true)=(a=true\/b=true))/\(∀a b:Bool,((a&&b)=true)=(a=true/\b=true))/\(∀b:Bool,((!b)=true)=(b=false))/\(∀(p:Prop) [Decidable p],(decide p=true)=p)/\
  (∀(p:Prop) [Decidable p],(decide p=false)=¬p)/\(∀p q:Prop,(¬(p\/q))=(¬p/\¬q))/\(∀p q:Prop,(¬(p/\q))=(p->¬q))/\(∀b:Bool,(¬b=true)=(b=false))/\(∀a b:Int,((a !=b)=true)=¬a=b)/\
  (∀a b:Int,((a==b)=true)=(a=b))/\(∀p:Prop,(¬¬p)=p):=
 ⟨fun a b=>by simp,fun a b=>by simp,fun b=>by simp,fun p _=>by simp,fun p _=>by simp,fun p q=>by simp,fun p q=>by simp,fun b=>by simp,fun a b=>by simp,fun a b=>by simp,fun p=>by simp⟩
theorem nl {A:Type}:(∀(a:A) (l:aA A),(a::l).length=l.length+1)/\([]:aA A).length=0:=⟨fun _ _=>rfl,rfl⟩
theorem nt:(∀[Decidable True],decide True=true)/\(∀(α:Type) [Decidable True] (a b:α),(if True then a else b)=a)/\∀(α β:Type) (a:α) (f:α->aB β),(some a).bind f=f a:=⟨yO2 _,fun _ _ _ _=>xM2 ..,fun _ _ _ _=>rfl⟩
theorem nf:(∀a:Int,(a<a)=False)/\(∀[Decidable False],decide False=false)/\((false=true)=False)/\∀(α:Type) [Decidable False] (a b:α),(if False then a else b)=b:=⟨fun a=>by simp,yZ2 _,by simp,fun _ _ _ _=>xQ2 ..⟩
theorem cO {α β:Type} {Q:α->Prop} {x:aB β} {k:β->aB α} (h:Ok x fun _=>True) (hk:∀v,Ok (k v) Q):Ok (x.bind k) Q:=Ob h fun v _=>hk v
theorem sH {A S E β:Type} {l:aA A} {body:S->aB (S⊕E)} {s0:S} {k:E->aB β} {Q:β->Prop} (a:S->Int) (hl:l.length<9223372036854775808) (h0:a s0=0)
  (h:∀(i:Nat) (x:A) (s:S),x∈l->a s=(i:Int)->a s<(l.length:Int)->bB l (a s)=some x->bF (a s+1)=(i:Int)+1->Ok (body s) (fun r=>match r with|.inl s'=>a s'=(i:Int)+1|.inr _=>True))
  (b:∀s,a s=(l.length:Int)->Ok (body s) (fun r=>match r with|.inl _=>False|.inr _=>True)) (hk:∀e,Ok (k e) Q):Ok ((aZ body bN s0).bind k) Q:=
 cO (bO (l:=l) a (fun _ _=>True) hl h0 trivial (fun i x s _ d hi c _ hg hw=>(h i x s d hi c hg hw).mono fun r hr=>by cases r with|inl s'=>exact⟨hr,trivial⟩|inr e=>trivial) (fun s hi _=>b s hi)) hk
theorem eM1 {s:ByteArray} {n:Nat} (h:s.size<=n):s.data.toList.length<=n:=by rw[aA3];exact h
theorem eN1 (n:Int): -9223372036854775808<=bF n/\bF n<=9223372036854775807:=by
 have e:bF n=if n%18446744073709551616>=9223372036854775808 then n%18446744073709551616-18446744073709551616 else n%18446744073709551616:=by
  unfold bF IntKind.wrap;rw[show((2:Int)^IntKind.bits .i64)=18446744073709551616 from rfl,show((2:Int)^(IntKind.bits .i64-1))=9223372036854775808 from rfl];simp[IntKind.signed]
 rw[e];split<;>omega
theorem iW {S E:Type} {body:S->aB (S⊕E)} {Q:E->Prop} {s0:S} (d:S->Int) (N:Int) (I:S->Prop) (g:N<=9223372036854775807) (h0: -1000<=d s0) (f:I s0)
  (h:∀s,I s->d s0<=d s->(d s<N->bF (d s+1)=d s+1)->Ok (body s) (fun r=>match r with|.inl s'=>d s<N/\d s'=d s+1/\I s'|.inr e=>Q e)):Ok (aZ body bN s0) Q:=by
 refine cM (fun s=>I s/\d s0<=d s) (fun s=>(N-d s).toNat) (fun s hs=>?_) bN s0 ⟨f,yD2 _⟩ (by simp only[bN];omega);refine(h s hs.1 hs.2 (fun hc=>bK (by omega) (by omega))).mono fun r hr=>?_;cases r with
 |inl s'=>obtain⟨a,b,c⟩:=hr;exact⟨⟨c,by omega⟩,by omega⟩
 |inr e=>exact hr
theorem Er {w:Bool} {id:YZ} {l:aA YV} {s:Y0} {r:Int} (h:l.length<1000000):Ok (kO w id l s r) (fun v=>(w=true->v.length=l.length+1)/\(w=false->v.length=l.length)):=by
 unfold kO;refine Ob (P:=fun v=>(w=true->v.length=l.length+1)/\(w=false->v.length=l.length)) (Oi (fun h=>Ob (eM (Q:=fun v=>v.length=l.length+1) (by omega) (by simp)) fun v hv=>.mk ⟨fun _=>hv,fun h2=>by rw[h]at h2;cases h2⟩) (fun h=>.mk ⟨fun h2=>absurd h2 h,fun _=>rfl⟩)) fun v hv=>.mk hv
theorem cC2 (n:Int):0<=IntKind.wrap .u8 n/\IntKind.wrap .u8 n<256:=by
 unfold IntKind.wrap;rw[show((2:Int)^IntKind.bits .u8)=256 from rfl];simp[IntKind.signed];omega
theorem mC2 {l:aA YV} {s:Y0} {r:Int} (hs:s.sm) (h0:s.aD.length=0) (h:l.length<900000):Ok (Qn l s r) (fun v=>0<v.length):=by
 unfold Qn;have hp:=hs.bV;refine Ob (P:=fun v=>v.length<=l.length+4) (bO (l:=s.bV) (fun q=>q.1) (fun i q=>q.2.length<=l.length+i) (by omega) rfl (by simp) (fun i x q k f hi e d hg hw=>?_) (fun q hi d=>?_)) fun v1 h1=>?_;obtain⟨x1,j⟩:=q;have g:=hs.nY x f;have m:=g.Dv;simp only at hi e d hg hw;simp only[e,yO2,xM2,hg,wJ2,tD1,mB2];refine Ob (cB2 (by omega)) fun a _=>?_;refine Ob (P:=fun _=>True) (by split<;>exact .mk trivial) fun b _=>?_;refine Ob (P:=fun _=>True) (by split<;>exact .mk trivial) fun c _=>?_;refine Ob (mA2 (by omega)) fun v hv=>.mk ⟨hw,by dsimp only;omega⟩;obtain⟨x1,j⟩:=q;simp only at hi d;simp only[hi,Int.lt_irrefl,yZ2,wU2,xQ2];exact .mk (by omega);refine Ob (P:=fun v=>v.length<=l.length+4) (bO (l:=s.aD) (fun q=>q.1) (fun i q=>q.2.length<=l.length+4) (by omega) rfl h1 (fun i x q k f hi e d hg hw=>by omega) (fun q hi d=>?_)) fun v1 h1=>?_;obtain⟨x1,j⟩:=q;simp only at hi d;simp only[hi,Int.lt_irrefl,yZ2,wU2,xQ2];exact .mk d;have n:=hs.pS;refine Ob (cB2 (by omega)) fun a _=>?_;simp only[tD1,wJ2];refine Ob (P:=fun _=>True) (by split<;>exact .mk trivial) fun b _=>?_;refine Ob (P:=fun r=>r=true) (Oi (fun _=>.mk rfl) (fun _=>.mk (by simp[h0]))) fun c hc=>?_;subst hc;simp only[Bool.true_or];refine Ob (Er (by omega)) fun v hv=>.mk (by have:=hv.1 rfl;omega)
def YU.ok (n:Int) (t:YU):Prop:=1<=t.gO/\t.gO<=n/\0<=t.jJ/\t.jJ+t.gO<=n/\1<=t.eG/\t.eG<=32/\1<=t.eT/\t.eT<=32
def Y0.pl (s:Y0) (m c v:Int):Prop:=∃x y z,bB s.aD m=some x/\bB x.aR c=some y/\bB y.aQ v=some z
theorem og {A α V:Type} (l:aA A) (v:aA V) (K k:Nat) {body:Int×aA V->aB ((Int×aA V)⊕aA V)} {m:aA V->aB α} {Q:α->Prop} (hl:l.length<9223372036854775808)
  (h:∀(i:Nat) (x:A) (s:Int×aA V),l[i]? =some x->x∈l->s.1=(i:Int)->s.1<(l.length:Int)->(v.length<=s.2.length/\s.2.length<=v.length+i*k)->bB l s.1=some x->bF (s.1+1)=(i:Int)+1->Ok (body s) (fun r=>match r with|.inl s'=>s'.1=(i:Int)+1/\v.length<=s'.2.length/\s'.2.length<=v.length+(i+1)*k|.inr e=>v.length<=e.length/\e.length<=v.length+K))
  (j:∀s,s.1=(l.length:Int)->(v.length<=s.2.length/\s.2.length<=v.length+l.length*k)->Ok (body s) (fun r=>match r with|.inl _=>False|.inr e=>v.length<=e.length/\e.length<=v.length+K))
  (hk:∀r,(v.length<=r.length/\r.length<=v.length+K)->Ok (m r) Q):Ok ((aZ body bN (0,v)).bind m) Q:=
 Ob (P:=fun r=>v.length<=r.length/\r.length<=v.length+K) (bO (l:=l) (fun q=>q.1) (fun i q=>v.length<=q.2.length/\q.2.length<=v.length+i*k) hl rfl ⟨wK2 _,by dsimp only;omega⟩ (fun i x s a b c d e f g=>(h i x s a b c d e f g).mono fun r hr=>by cases r<;>exact hr) (fun s a b=>(j s a b).mono fun r hr=>by cases r<;>exact hr)) hk
end Go.P
set_option maxHeartbeats 1000000
namespace Go.P
theorem U34 {v:YO} (hv:v.b):Ok (F17 v) (fun _=>True):=by
 unfold F17;refine Ob (P:=fun _=>True) (bO (l:=v.aT) (fun q=>q.2) (fun _ _=>True) hv.aT rfl trivial (fun i e q c a hi hl _ hg hw=>?_) (fun q hi _=>?_)) fun v _=>.mk trivial;obtain⟨n,k⟩:=q;dsimp only at hi hl hg hw;simp only[hl,hg,yO2,xM2,wJ2];refine Ob (P:=fun _=>True) (bO (l:=e.dP) (fun q=>q.2) (fun _ _=>True) (hv.dQ e a).dP rfl trivial (fun i e q c a hi hl _ hg hw=>?_) (fun q hi _=>?_)) fun x _=>.mk ⟨hw,trivial⟩;obtain⟨n,k⟩:=q;dsimp only at hi hl hg hw;simp only[hl,hg,yO2,xM2,wJ2];exact .mk ⟨hw,trivial⟩;obtain⟨n,k⟩:=q;dsimp only at hi;simp only[hi,Int.lt_irrefl,yZ2,wU2,xQ2];exact .mk trivial;obtain⟨n,k⟩:=q;dsimp only at hi;simp only[hi,Int.lt_irrefl,yZ2,wU2,xQ2];exact .mk trivial
theorem U13 {s:Y0} (hb:s.b):Ok (F6 s) (fun r=>r=true->s.sm):=by
 unfold F6;refine Ob (P:=fun r=>match r with|.inl _=>True|.inr _=>∀p∈s.bV,p.sm) (xJ (l:=s.bV) (fun p=>p.sm) hb.bV (fun i p h0 h1 d hg hw=>?_) (fun i hi o=>?_)) fun r hr=>?_;simp only[h1,hg,hw,yO2,xM2,wJ2];refine Ob (P:=fun b=>b=true\/p.sm) (Oi (fun _=>.mk (.inl rfl)) (fun hc=>.mk ?_)) fun b hb=>?_;simp only[wS2]at hc;by_cases h:(p.Dv.size:Int)>300;exact .inl (by simpa using h);exact .inr ⟨by omega,by omega⟩;exact Oi (fun _=>.mk trivial) (fun hc=>.mk ⟨rfl,hb.resolve_left hc⟩);simp only[hi,Int.lt_irrefl,yZ2,wU2,xQ2];exact .mk o;rcases r with _|_;exact .mk (fun h=>by cases h);refine Ob (P:=fun r=>match r with|.inl _=>True|.inr _=>∀m∈s.aD,m.sm) (bO (l:=s.aD) (fun q=>q.2.2) (fun i q=>∀m∈s.aD.take i,m.sm) hb.aD rfl (fun m j=>by simp at j) (fun i m q d j hi hl g hg hw=>?_) (fun q hi g=>?_)) fun r B=>?_;obtain⟨ev,by',k⟩:=q;have F:=hb.cC m j;dsimp only at hi hl hg hw;simp only[hl,hg,yO2,xM2,wJ2];refine Oi (fun _=>.mk trivial) (fun hc=>?_);simp only[wY2,wS2,zK2]at hc;refine Ob (P:=fun r=>match r with|.inl _=>True|.inr _=>∀c∈m.aR,c.sm) (bO (l:=m.aR) (fun q=>q.2.2) (fun i q=>∀c∈m.aR.take i,c.sm) F.aR rfl (fun m j=>by simp at j) (fun i c q C z hi hl w hg t=>?_) (fun q hi g=>?_)) fun r hr=>?_;obtain⟨ev,by',k⟩:=q;have E:=F.fY c z;dsimp only at hi hl hg t;simp only[hl,hg,yO2,xM2,wJ2];refine Ob (P:=fun b=>b=true\/(c.kQ.length<=5/\c.aQ.length<=3)) (Oi (fun _=>.mk (.inl rfl)) (fun hc=>.mk ?_)) fun b hb=>?_;simp only[wS2]at hc;by_cases h:(c.aQ.length:Int)>3;exact .inl (by simpa using h);exact .inr ⟨by omega,by omega⟩;refine Oi (fun _=>.mk trivial) (fun hcc=>?_);have hcc:=hb.resolve_left hcc;refine Ob (P:=fun r=>match r with|.inl _=>True|.inr _=>∀v∈c.aQ,v.sm) (bO (l:=c.aQ) (fun q=>q.2.2) (fun i q=>∀v∈c.aQ.take i,v.sm) E.aQ rfl (fun m j=>by simp at j) (fun i v q D A hi hl g hg u=>?_) (fun q hi g=>?_)) fun r hr=>?_;obtain⟨ev,by',k⟩:=q;have bv:=E.eF v A;dsimp only at hi hl hg u;simp only[hl,hg,yO2,xM2,wJ2];refine Ob (U33 bv) fun f hf=>?_;refine Oi (fun _=>.mk trivial) (fun y=>?_);refine Ob (U34 bv) fun n _=>?_;refine Oi (fun _=>.mk trivial) (fun _=>.mk ⟨u,fun x d=>?_⟩);rw[List.take_add_one,D]at d;rcases xV2.1 d with d|d;exact g x d;simp at d;subst d;exact hf (by simpa using y);obtain⟨ev,by',k⟩:=q;dsimp only at hi;simp only[hi,Int.lt_irrefl,yZ2,wU2,xQ2];rw[zC2]at g;exact .mk g;rcases r with⟨a,b⟩|⟨a,b⟩
 exact .mk trivial;refine .mk ⟨t,fun x d=>?_⟩;rw[List.take_add_one,C]at d;rcases xV2.1 d with d|d;exact w x d;simp at d;subst d;exact⟨hcc.1,hcc.2,hr⟩;obtain⟨ev,by',k⟩:=q;dsimp only at hi;simp only[hi,Int.lt_irrefl,yZ2,wU2,xQ2];rw[zC2]at g;exact .mk g;rcases r with⟨a,b⟩|⟨a,b⟩
 exact .mk trivial;refine .mk ⟨hw,fun x e=>?_⟩;rw[List.take_add_one,d]at e;rcases xV2.1 e with e|e;exact g x e;simp at e;subst e;exact⟨by omega,by omega,by omega,hr⟩;obtain⟨ev,by',k⟩:=q;dsimp only at hi;simp only[hi,Int.lt_irrefl,yZ2,wU2,xQ2];rw[zC2]at g;exact .mk g;rcases r with _|_;exact .mk (fun h=>by cases h);refine .mk (fun h=>?_);simp only[wL2,wS2]at h;exact⟨by omega,by omega,hr,by omega,B,by omega,by omega⟩
end Go.P
set_option maxHeartbeats 2000000
namespace Go.P
theorem mD2 {x1:Int}:Ok (cL1 x1) (fun _=>True):=by
 unfold cL1;exact bW
theorem mE2 {x1:aA UInt8} (a:x1.length<=300):Ok (jC1 x1) (fun _=>True):=by
 unfold jC1;have f:=a;refine sH (l:=x1) (fun q=>q) (wQ2 a (by decide)) rfl (fun j i x4 g b d c e=>?_) (fun x4 b=>?_) fun h=>?_;simp only[d,c,nt];refine cO (mD2) fun k=>?_;refine oJ (fun _=>?_);exact .mk e;simp only[b,nf];exact bW;rcases h with m|_;exact bW;exact bW
theorem mF2 {x1:aA UInt8} (a:x1.length<=300):Ok (Wz x1) (fun _=>True):=by
 unfold Wz;refine cO (mE2 a) fun x2=>?_;exact bW
theorem T62 {x1:ByteArray} (a:x1.size<=300):Ok (F62 x1) (fun _=>True):=by
 unfold F62;refine Ob (P:=fun r=>r=true->(decide ((x1.size:Int)<=256))=true) ?_ fun x3 b=>?_;refine Oi (fun c16=>?_) (fun _=>.mk (fun h=>by cases h));refine cO (mF2 (eM1 a)) fun x2=>?_;exact .mk (fun _=>c16);exact bW
theorem Oh {x1 x2 x3:Int}:Ok (zS x1 x2 x3) (fun _=>True):=by
 unfold zS;exact bW
theorem T64 {x1:YL}:Ok (F64 x1) (fun _=>True):=by
 unfold F64;refine oJ (fun _=>?_);exact bW
theorem mX {x1:Bool} {x2:YZ} {x3:aA YV} {x4:Y0} {c:Int} (a:x3.length+1<=1000000) (b:x4.sm):Ok (kO x1 x2 x3 x4 c) (fun v=>x3.length<=v.length/\v.length<=x3.length+1):=by
 exact(Er (by omega)).mono fun v h=>by cases x1<;>simp at h<;>omega
theorem mG1 {x1:aA YV} {x2:Y0} {x3:Int} (b9:x1.length+17<=1000000) (a:x2.sm):Ok (Qn x1 x2 x3) (fun v=>x1.length<=v.length/\v.length<=x1.length+17):=by
 unfold Qn;have Z:=a.bV;refine og x2.bV x1 4 1 (wQ2 a.bV (by decide)) (fun d6 b7 q30 b5 A c o g m u=>?_) (fun q30 c g=>?_) fun O z19=>?_;obtain⟨K,L⟩:=q30;dsimp only at c o m u g;simp only[o,m,nt];have J:=a.nY _ A;refine cO (T62 J.Dv) fun M=>?_;refine Ob (P:=fun r=>¬r=true->¬(!M)=true) ?_ fun N G=>?_;refine Oi (fun _=>.mk (fun h=>absurd rfl h)) (fun c35=>?_);refine cO (Oh) fun e4=>?_;exact .mk (fun _=>c35);refine Ob (P:=fun r=>¬r=true->¬N=true) ?_ fun e6 d1=>?_;refine Oi (fun _=>.mk (fun h=>absurd rfl h)) (fun c38=>?_);have e0:=G c38;refine cO (T64) fun e5=>?_;exact .mk (fun _=>c38);refine Ob (mX (by first|omega|(simp only[wW2]at *;omega)) a) fun e7 d2=>?_;exact .mk ⟨u,by dsimp only;omega⟩;obtain⟨K,L⟩:=q30;dsimp only at c g;simp only[c,nf];exact .mk (by dsimp only;omega);have a0:=a.aD;refine og x2.aD O 12 1 (wQ2 a.aD (by decide)) (fun d7 E q53 b6 B d p i b w=>?_) (fun q53 d i=>?_) fun f3 f9=>?_;obtain⟨R,S⟩:=q53;dsimp only at d p b w i;simp only[p,b,nt];have k:=a.cC _ B;refine cO (T62 k.iY) fun e8=>?_;have b0:=k.aR;refine sH (l:=E.aR) (fun q=>q.2) (wQ2 k.aR (by decide)) rfl (fun d8 F q67 C e s j x=>?_) (fun q67 e=>?_) fun f1=>?_;obtain⟨T,U⟩:=q67;dsimp only at e s j x;simp only[s,b,j,nt];have z:=k.fY _ C;have b4:=z.aQ;refine sH (l:=F.aQ) (fun q=>q.2) (wQ2 z.aQ (by decide)) rfl (fun d9 b8 q80 D f t n y=>?_) (fun q80 f=>?_) fun e9=>?_;obtain⟨V,W⟩:=q80;dsimp only at f t n y;simp only[t,b,j,n,nt];have e3:=z.eF _ D;exact .mk y;obtain⟨V,W⟩:=q80;dsimp only at f;simp only[f,nf];exact bW;exact .mk x;obtain⟨T,U⟩:=q67;dsimp only at e;simp only[e,nf];exact bW;refine Ob (mX (by first|omega|(simp only[wW2]at *;omega)) a) fun f2 d3=>?_;exact .mk ⟨w,by dsimp only;omega⟩;obtain⟨R,S⟩:=q53;dsimp only at d i;simp only[d,nf];exact .mk (by dsimp only;omega);refine cO (T62 a.pS) fun X=>?_;refine Ob (P:=fun r=>¬r=true->¬(!X)=true) ?_ fun Y H=>?_;refine Oi (fun _=>.mk (fun h=>absurd rfl h)) (fun c86=>?_);refine cO (Oh) fun f5=>?_;exact .mk (fun _=>c86);refine Ob (P:=fun r=>¬r=true->¬Y=true) ?_ fun f7 d4=>?_;refine Oi (fun _=>.mk (fun h=>absurd rfl h)) (fun c89=>?_);have e1:=H c89;refine cO (Oh) fun f6=>?_;exact .mk (fun _=>c89);refine Ob (mX (by first|omega|(simp only[wW2]at *;omega)) a) fun f8 d5=>?_;exact .mk (by omega)
theorem cD2 {x1:Y0} (a:x1.sm):Ok (Ty x1) (fun _=>True):=by
 unfold Ty;exact bW
theorem tE1 {x1 x2:Int} {x3 x4:Int} {g h i:Int} {b:YJ} {a:aA YZ} (c:b.sm) (e:a.length+1<=1000000):Ok (Ir x1 x2 x3 x4 g h i b a) (fun v=>v.length<=a.length+1):=by
 unfold Ir;refine Ob (eM (Q:=fun v=>v.length=a.length+1) (by omega) (by simp)) fun f d=>?_;exact .mk (by omega)
theorem eO1 {x1 x2:Int} {x3 x4:Int} {e f g:Int} {h:YF} {a:aA YZ} (c:a.length+1<=1000000):Ok (vN x1 x2 x3 x4 e f g h a) (fun v=>v.length<=a.length+1):=by
 unfold vN;refine Ob (eM (Q:=fun v=>v.length=a.length+1) (by omega) (by simp)) fun d b=>?_;exact .mk (by omega)
theorem eP1 {x1 x2:Int} {x3 x4:Int} {g h i:Int} {b:YM} {a:aA YZ} (c:b.sm) (e:a.length+1<=1000000):Ok (vO x1 x2 x3 x4 g h i b a) (fun v=>v.length<=a.length+1):=by
 unfold vO;refine Ob (eM (Q:=fun v=>v.length=a.length+1) (by omega) (by simp)) fun f d=>?_;exact .mk (by omega)
theorem eQ1 {x1 x2:Int} {x3 x4:Int} {g h i:Int} {b:YE} {a:aA YZ} (c:b.sm) (e:a.length+1<=1000000):Ok (vP x1 x2 x3 x4 g h i b a) (fun v=>v.length<=a.length+1):=by
 unfold vP;refine Ob (eM (Q:=fun v=>v.length=a.length+1) (by omega) (by simp)) fun f d=>?_;exact .mk (by omega)
theorem eR1 {x1 x2:Int} {x3 x4:Int} {e f g:Int} {h:YN} {a:aA YZ} (c:a.length+1<=1000000):Ok (vQ x1 x2 x3 x4 e f g h a) (fun v=>v.length<=a.length+1):=by
 unfold vQ;refine Ob (eM (Q:=fun v=>v.length=a.length+1) (by omega) (by simp)) fun d b=>?_;exact .mk (by omega)
theorem cE2 {x1:Y0} {x2:aA YZ} (k:x1.sm) (j8:x2.length+3646<=1000000):Ok (Tz x1 x2) (fun v=>v.length<=x2.length+3646):=by
 unfold Tz;have e7:=k.bV;refine Ob (P:=fun r=>r.length<=x2.length+24) (bO (l:=x1.bV) (fun q=>q.2.1) (fun i q=>q.2.2.length<=x2.length+i*6) (wQ2 k.bV (by decide)) rfl (by dsimp only;omega) (fun j9 b7 q109 f6 a0 c C m w K=>?_) (fun q109 c m=>?_)) fun e3 k3=>?_;obtain⟨g5,g6,g7⟩:=q109;dsimp only at c C w K m;simp only[C,w,nt];have T:=k.nY _ a0;refine Ob (tE1 T (by first|omega|(simp only[wW2]at *;omega))) fun e1 h5=>?_;have e8:=T.dZ;refine Ob (P:=fun r=>r.2.length<=e1.length+5) (bO (l:=b7.dZ) (fun q=>q.2.1) (fun i q=>q.2.2.length<=e1.length+i*1) (wQ2 T.dZ (by decide)) rfl (by dsimp only;omega) (fun i0 h2 q125 f7 e5 d D n z L=>?_) (fun q125 d n=>?_)) fun⟨k1,k2⟩ e4=>?_;obtain⟨g8,g9,h0⟩:=q125;dsimp only at d D z L n;simp only[D,w,z,nt];refine Ob (eO1 (by first|omega|(simp only[wW2]at *;omega))) fun k0 h6=>?_;exact .mk ⟨L,by dsimp only;omega⟩;obtain⟨g8,g9,h0⟩:=q125;dsimp only at d n;simp only[d,nf];exact .mk (by dsimp only;omega)
 try dsimp only at e4
 exact .mk ⟨K,by dsimp only;omega⟩;obtain⟨g5,g6,g7⟩:=q109;dsimp only at c m;simp only[c,nf];exact .mk (by dsimp only;omega);have e9:=k.aD;refine Ob (P:=fun r=>r.length<=e3.length+3612) (bO (l:=x1.aD) (fun q=>q.1) (fun i q=>q.2.length<=e3.length+i*301) (wQ2 k.aD (by decide)) rfl (by dsimp only;omega) (fun i1 b8 q140 f8 b0 e E o a M=>?_) (fun q140 e o=>?_)) fun Z j3=>?_;obtain⟨d3,d4⟩:=q140;dsimp only at e E a M o;simp only[E,a,nt];have y:=k.cC _ b0;refine Ob (eP1 y (by first|omega|(simp only[wW2]at *;omega))) fun Y h7=>?_;have f1:=y.aR;refine Ob (P:=fun r=>r.length<=Y.length+300) (bO (l:=b8.aR) (fun q=>q.1) (fun i q=>q.2.length<=Y.length+i*60) (wQ2 y.aR (by decide)) rfl (by dsimp only;omega) (fun i2 b9 q156 f9 b4 f F p b N=>?_) (fun q156 f p=>?_)) fun j0 j4=>?_;obtain⟨d5,W⟩:=q156;dsimp only at f F b N p;simp only[F,a,b,nt];have U:=y.fY _ b4;have f2:=U.aQ;refine Ob (P:=fun r=>r.length<=W.length+60) (bO (l:=b9.aQ) (fun q=>q.1) (fun i q=>q.2.length<=W.length+i*20) (wQ2 U.aQ (by decide)) rfl (by dsimp only;omega) (fun i3 d1 q171 g1 b5 g G s x O=>?_) (fun q171 g s=>?_)) fun i9 j5=>?_;obtain⟨d6,X⟩:=q171;dsimp only at g G x O s;simp only[G,a,b,x,nt];have V:=U.eF _ b5;have f3:=V.aT;refine Ob (P:=fun r=>r.length<=X.length+20) (bO (l:=d1.aT) (fun q=>q.1) (fun i q=>q.2.length<=X.length+i*1) (wQ2 V.aT (by decide)) rfl (by dsimp only;omega) (fun i4 h3 q187 g3 b6 h H t A R=>?_) (fun q187 h t=>?_)) fun i7 j6=>?_;obtain⟨d7,d8⟩:=q187;dsimp only at h H A R t;simp only[H,a,b,x,A,nt];have d2:=V.dQ _ b6;refine Ob (eQ1 d2 (by first|omega|(simp only[wW2]at *;omega))) fun i6 h8=>?_;exact .mk ⟨R,by dsimp only;omega⟩;obtain⟨d7,d8⟩:=q187;dsimp only at h t;simp only[h,nf];exact .mk (by dsimp only;omega);exact .mk ⟨O,by dsimp only;omega⟩;obtain⟨d6,X⟩:=q171;dsimp only at g s;simp only[g,nf];exact .mk (by dsimp only;omega);exact .mk ⟨N,by dsimp only;omega⟩;obtain⟨d5,W⟩:=q156;dsimp only at f p;simp only[f,nf];exact .mk (by dsimp only;omega);exact .mk ⟨M,by dsimp only;omega⟩;obtain⟨d3,d4⟩:=q140;dsimp only at e o;simp only[e,nf];exact .mk (by dsimp only;omega);have f5:=k.bY;refine Ob (P:=fun r=>r.length<=Z.length+10) (bO (l:=x1.bY) (fun q=>q.1) (fun i q=>q.2.length<=Z.length+i*1) (wQ2 k.bY (by decide)) rfl (by dsimp only;omega) (fun i5 h4 q205 g4 e6 j J u B S=>?_) (fun q205 j u=>?_)) fun j2 j7=>?_;obtain⟨d9,e0⟩:=q205;dsimp only at j J B S u;simp only[J,B,nt];refine Ob (eR1 (by first|omega|(simp only[wW2]at *;omega))) fun j1 h9=>?_;exact .mk ⟨S,by dsimp only;omega⟩;obtain⟨d9,e0⟩:=q205;dsimp only at j u;simp only[j,nf];exact .mk (by dsimp only;omega);exact .mk (by omega)
theorem T65 {x1:Y0} (a:x1.sm):Ok (F65 x1) (fun v=>v.length<=4000):=by
 unfold F65;refine cO (cD2 a) fun _=>?_;refine Ob (cE2 a (by first|omega|(simp only[wW2]at *;omega))) fun x2 b=>?_;exact .mk (by simp only[wW2]at *;omega)
theorem T66 {x1:YZ}:Ok (F66 x1) (fun _=>True):=by
 unfold F66;refine cO (Oh) fun x2=>?_;refine Ob (P:=fun r=>r=true->x2=true) ?_ fun x4 a=>?_;refine Oi (fun c212=>?_) (fun _=>.mk (fun h=>by cases h));refine cO (Oh) fun x3=>?_;exact .mk (fun _=>c212);exact bW
theorem T67 {x1:Y0} {x2:Int} (e:x1.sm):Ok (F67 x1 x2) (fun _=>True):=by
 unfold F67;have g:=e.kZ;refine sH (l:=x1.kZ) (fun q=>q) (wQ2 e.kZ (by decide)) rfl (fun i h x4 f a c b d=>?_) (fun x4 a=>?_) fun j=>?_;simp only[c,b,nt];refine oJ (fun _=>?_);exact .mk d;simp only[a,nf];exact bW;rcases j with k|_;exact bW;exact bW
theorem mH1 {x1:aA YV} {x2:Y0} {x3:Int} (V:x1.length+4001<=1000000) (c:x2.sm):Ok (cM1 x1 x2 x3) (fun v=>x1.length<=v.length/\v.length<=x1.length+4001):=by
 unfold cM1;refine Ob (T65 c) fun x4 n=>?_;have B:=n;refine Ob (P:=fun r=>x1.length<=r.2.length/\r.2.length<=x1.length+4000) (bO (l:=x4) (fun q=>q.1) (fun i q=>x1.length<=q.2.2.length/\q.2.2.length<=x1.length+i*1) (wQ2 n (by decide)) rfl (by dsimp only;omega) (fun S o q238 E y a g d e k=>?_) (fun q238 a d=>?_)) fun⟨Z,a0⟩ w=>?_;obtain⟨F,s,G⟩:=q238;dsimp only at a g e k d;simp only[g,e,nt];refine cO (T66) fun H=>?_;refine Ob (P:=fun r=>¬r=true->¬((!H)||(fJ s o false))=true) ?_ fun X L=>?_;refine Oi (fun _=>.mk (fun h=>absurd rfl h)) (fun c242=>?_);refine cO (T67 c) fun W=>?_;exact .mk (fun _=>c242);refine Ob (mX (by first|omega|(simp only[wW2]at *;omega)) c) fun Y M=>?_;exact .mk ⟨k,by dsimp only;omega⟩;obtain⟨F,s,G⟩:=q238;dsimp only at a d;simp only[a,nf];exact .mk (by dsimp only;omega)
 try dsimp only at w
 have C:=c.kZ;refine sH (l:=x2.kZ) (fun q=>q.2) (wQ2 c.kZ (by decide)) rfl (fun T K q255 z b j f m=>?_) (fun q255 b=>?_) fun b7=>?_;obtain⟨t,u⟩:=q255;dsimp only at b j f m;simp only[j,f,nt];refine Ob (P:=fun r=>¬r=true->¬t=true) ?_ fun J p=>?_;refine Oi (fun _=>.mk (fun h=>absurd rfl h)) (fun c258=>?_);refine cO (T66) fun b0=>?_;exact .mk (fun _=>c258);refine Ob (P:=fun r=>¬r=true->¬J=true) ?_ fun b6 N=>?_;refine Oi (fun _=>.mk (fun h=>absurd rfl h)) (fun c261=>?_);have U:=p c261;refine Ob (P:=fun r=>r=true->(decide (u>0))=true) ?_ fun b5 O=>?_;refine Oi (fun c264=>?_) (fun _=>.mk (fun h=>by cases h));have D:=c.kZ;refine Ob (P:=fun x=>x∈x2.kZ) (cK (by(simp only[nm]at *;rw[bK (by omega) (by omega)];omega)) (by(simp only[nm]at *;rw[bK (by omega) (by omega)];omega)) (fun _ h _=>h)) fun b4 A=>?_;exact .mk (fun _=>c264);exact .mk (fun _=>c261);exact .mk m;obtain⟨t,u⟩:=q255;dsimp only at b;simp only[b,nf];exact bW;refine Ob (mX (by first|omega|(simp only[wW2]at *;omega)) c) fun b8 R=>?_;exact .mk (by omega)
theorem T26 {x1:Y0} (a:x1.sm):Ok (F26 x1) (fun v=>v<=9223372036854775807):=by
 unfold F26;have hp:=a.bV;refine Ob (P:=fun v=>v<=9223372036854775807) (bO (l:=x1.bV) (fun q=>q.2) (fun i q=>q.1<=9223372036854775807) (by omega) rfl (by decide) (fun i e q d c hi hl _ hg hw=>?_) (fun q hi b=>?_)) fun v hv=>.mk hv;obtain⟨n,x⟩:=q;dsimp only at hi hl hg hw;simp only[hl,hg,nt];exact .mk ⟨hw,(eN1 _).2⟩;obtain⟨n,x⟩:=q;dsimp only at hi b;simp only[hi,nf];exact .mk b
theorem T69 {x1:Int} {x2:YM} {x3:Int} (m:x2.sm):Ok (F69 x1 x2 x3) (fun _=>True):=by
 unfold F69;have v:=m.aR;refine sH (l:=x2.aR) (fun q=>q.2) (wQ2 m.aR (by decide)) rfl (fun G e q279 n b g d j=>?_) (fun q279 b=>?_) fun T=>?_;obtain⟨u,A⟩:=q279;dsimp only at b g d j;simp only[g,d,nt];have a:=m.fY _ n;refine Ob (P:=fun r=>¬r=true->¬(u||((e.aQ.length:Int)==0))=true) ?_ fun B t=>?_;refine Oi (fun _=>.mk (fun h=>absurd rfl h)) (fun c283=>?_);have w:=a.aQ;refine Ob (P:=fun x=>x∈e.aQ) (cK (by omega) (by(simp only[nm]at *;omega)) (fun _ h _=>h)) fun N o=>?_;have K:=a.eF _ o;exact .mk (fun _=>c283);refine Ob (P:=fun r=>¬r=true->¬B=true) ?_ fun R F=>?_;refine Oi (fun _=>.mk (fun h=>absurd rfl h)) (fun c289=>?_);have J:=t c289;have y:=a.aQ;refine Ob (P:=fun x=>x∈e.aQ) (cK (by(simp only[nm]at *;rw[bK (by omega) (by omega)];omega)) (by(simp only[nm]at *;rw[bK (by omega) (by omega)];omega)) (fun _ h _=>h)) fun O p=>?_;have L:=a.eF _ p;exact .mk (fun _=>c289);have z:=a.aQ;refine sH (l:=e.aQ) (fun q=>q.2) (wQ2 a.aQ (by decide)) rfl (fun H E q305 s c i f k=>?_) (fun q305 c=>?_) fun S=>?_;obtain⟨C,D⟩:=q305;dsimp only at c i f k;simp only[i,d,f,nt];have M:=a.eF _ s;exact .mk k;obtain⟨C,D⟩:=q305;dsimp only at c;simp only[c,nf];exact bW;exact .mk j;obtain⟨u,A⟩:=q279;dsimp only at b;simp only[b,nf];exact bW;exact bW
theorem mH2 {x1:Int} {x2:aA YV} {x3:Y0} {x4:Int} (o:x2.length+12<=1000000) (f:x3.sm):Ok (jE1 x1 x2 x3 x4) (fun v=>x2.length<=v.length/\v.length<=x2.length+12):=by
 unfold jE1;have i:=f.aD;refine og x3.aD x2 12 1 (wQ2 f.aD (by decide)) (fun m k q319 j g a d b c e=>?_) (fun q319 a b=>?_) fun r n=>?_;obtain⟨s,t⟩:=q319;dsimp only at a d c e b;simp only[d,c,nt];have h:=f.cC _ g;refine cO (T69 h) fun p=>?_;refine Ob (mX (by first|omega|(simp only[wW2]at *;omega)) f) fun q l=>?_;exact .mk ⟨e,by dsimp only;omega⟩;obtain⟨s,t⟩:=q319;dsimp only at a b;simp only[a,nf];exact .mk (by dsimp only;omega);exact .mk (by omega)
theorem mI1 {x1:aA YV} {x2:Y0} {x3:Int} (d:x1.length+12<=1000000) (a:x2.sm):Ok (cN1 x1 x2 x3) (fun v=>x1.length<=v.length/\v.length<=x1.length+12):=by
 unfold cN1;refine Ob (T26 a) fun x4 b=>?_;refine Ob (mH2 (by first|omega|(simp only[wW2]at *;omega)) a) fun e c=>?_;exact .mk (by omega)
theorem mI2:Ok (jF1) (fun _=>True):=by
 unfold jF1;exact bW
theorem mJ2 {x1:Int}:Ok (jG1 x1) (fun _=>True):=by
 unfold jG1;refine oJ (fun _=>?_);refine cO (mI2) fun x2=>?_;refine Ob (cK (Q:=fun _=>True) (by(simp only[nm]at *;rw[bK (by omega) (by omega)];omega)) (by(simp only[nm,nl]at *;rw[bK (by omega) (by omega)];omega)) (fun _ _ _=>trivial)) fun x3 a=>?_;exact bW
theorem T70 {x1:Int}:Ok (F70 x1) (fun _=>True):=by
 unfold F70;refine cO (mJ2) fun⟨x2,x3⟩=>?_;exact bW
theorem mK2 {x1:YX}:Ok (jH1 x1) (fun _=>True):=by
 unfold jH1;refine Oi (fun _=>bW) (fun _=>?_);refine Ob (P:=fun _=>True) (iW (fun q=>q.2.2) 6 (fun _=>True) (by decide) (by decide) trivial (fun q _ h1 h2=>?_)) fun r _=>?_;obtain⟨a,n,i⟩:=q;dsimp only at h1 h2 ⊢;refine Oi (fun hc=>?_) (fun _=>bW);simp only[wS2]at hc;refine Ob (cK (Q:=fun _=>True) h1 hc (fun _ _ _=>trivial)) fun x _=>?_;refine Oi (fun _=>bW) (fun _=>?_);refine Ob (P:=fun _=>True) (Oi (fun _=>bW) (fun _=>bW)) fun v _=>.mk ⟨hc,h2 hc,trivial⟩;rcases r with⟨a,b⟩|⟨a,b⟩<;>exact bW
theorem mL2 {x1:YX}:Ok (cO1 x1) (fun v=>v=0->x1.Unit≠0):=by
 unfold cO1;refine Oi (fun c330=>.mk (by omega)) (fun c330=>?_);refine Oi (fun c331=>.mk (by omega)) (fun c331=>?_);refine cO (mK2) fun x2=>?_;refine Oi (fun c333=>.mk (by omega)) (fun c333=>?_);exact .mk (by(simp only[nm]at *;omega))
theorem mM2 {x1:YX} (b:x1.Unit≠0):Ok (cP1 x1) (fun _=>True):=by
 unfold cP1;refine Ob (nI (by omega)) fun x2 a=>?_;exact bW
theorem mN2 {x1:YX} (a:x1.Unit≠0):Ok (cQ1 x1) (fun _=>True):=by
 unfold cQ1;refine cO (mM2 (by omega)) fun x2=>?_;exact bW
theorem T53 {x1:YX}:Ok (F53 x1) (fun _=>True):=by
 unfold F53;refine Ob (mL2) fun x2 a=>?_;refine oJ (fun _=>?_);refine cO (mN2 (by(simp only[nm]at *;omega))) fun x3=>?_;exact bW
theorem T24 {x1:YM} (b:x1.sm):Ok (Dy x1) (fun _=>True):=by
 unfold Dy;refine cO (T53) fun⟨x2,x3⟩=>?_;refine oJ (fun _=>?_);refine oJ (fun _=>?_);refine cO ?_ fun x4=>?_;refine oJ (fun _=>?_);exact bW;refine Ob (zV (by omega)) fun c a=>?_;refine oJ (fun _=>?_);refine oJ (fun _=>?_);exact bW
theorem T71 {x1:Int} {x2:YM} (k:x2.sm):Ok (F71 x1 x2) (fun _=>True):=by
 unfold F71;refine cO (T24 k) fun⟨x3,x4⟩=>?_;have y:=k.aR;refine sH (l:=x2.aR) (fun q=>q.2) (wQ2 k.aR (by decide)) rfl (fun J m q358 o a e c g=>?_) (fun q358 a=>?_) fun V=>?_;obtain⟨B,C⟩:=q358;dsimp only at a e c g;simp only[e,c,nt];have j:=k.fY _ o;have z:=j.kQ;refine sH (l:=m.kQ) (fun q=>q.2) (wQ2 j.kQ (by decide)) rfl (fun K F q371 v b f d i=>?_) (fun q371 b=>?_) fun U=>?_;obtain⟨t,u⟩:=q371;dsimp only at b f d i;simp only[f,c,d,nt];refine Ob (P:=fun r=>¬r=true->¬t=true) ?_ fun D n=>?_;refine Oi (fun _=>.mk (fun h=>absurd rfl h)) (fun c374=>?_);refine cO (T70) fun N=>?_;exact .mk (fun _=>c374);refine Ob (P:=fun r=>¬r=true->¬D=true) ?_ fun E p=>?_;refine Oi (fun _=>.mk (fun h=>absurd rfl h)) (fun c377=>?_);have L:=n c377;refine cO (Oh) fun O=>?_;exact .mk (fun _=>c377);refine Ob (P:=fun r=>¬r=true->¬E=true) ?_ fun T G=>?_;refine Oi (fun _=>.mk (fun h=>absurd rfl h)) (fun c381=>?_);have s:=p c381;have M:=n s;refine Ob (P:=fun r=>r=true->(decide (u>0))=true) ?_ fun S H=>?_;refine Oi (fun c385=>?_) (fun _=>.mk (fun h=>by cases h));have A:=j.kQ;refine Ob (P:=fun x=>x∈m.kQ) (cK (by(simp only[nm]at *;rw[bK (by omega) (by omega)];omega)) (by(simp only[nm]at *;rw[bK (by omega) (by omega)];omega)) (fun _ h _=>h)) fun R w=>?_;exact .mk (fun _=>c385);exact .mk (fun _=>c381);exact .mk i;obtain⟨t,u⟩:=q371;dsimp only at b;simp only[b,nf];exact bW;exact .mk g;obtain⟨B,C⟩:=q358;dsimp only at a;simp only[a,nf];exact bW;exact bW
theorem tF1 {x1:aA YV} {x2:Y0} {x3:Int} (o:x1.length+12<=1000000) (f:x2.sm):Ok (It x1 x2 x3) (fun v=>x1.length<=v.length/\v.length<=x1.length+12):=by
 unfold It;have i:=f.aD;refine og x2.aD x1 12 1 (wQ2 f.aD (by decide)) (fun m k q400 j g a d b c e=>?_) (fun q400 a b=>?_) fun r n=>?_;obtain⟨s,t⟩:=q400;dsimp only at a d c e b;simp only[d,c,nt];have h:=f.cC _ g;refine cO (T71 h) fun p=>?_;refine Ob (mX (by first|omega|(simp only[wW2]at *;omega)) f) fun q l=>?_;exact .mk ⟨e,by dsimp only;omega⟩;obtain⟨s,t⟩:=q400;dsimp only at a b;simp only[a,nf];exact .mk (by dsimp only;omega);exact .mk (by omega)
theorem mJ1 {x1:aA YV} {x2:Y0} {x3:Int} (F:x1.length+32<=1000000) (f:x2.sm):Ok (cR1 x1 x2 x3) (fun v=>x1.length<=v.length/\v.length<=x1.length+32):=by
 unfold cR1;have q:=f.bV;refine og x2.bV x1 20 5 (wQ2 f.bV (by decide)) (fun B n q416 s m a h c e j=>?_) (fun q416 a c=>?_) fun K D=>?_;obtain⟨u,o⟩:=q416;dsimp only at a h e j c;simp only[h,e,nt];have l:=f.nY _ m;have r:=l.dZ;refine og n.dZ o 5 1 (wQ2 l.dZ (by decide)) (fun C y q430 t p b i d g k=>?_) (fun q430 b d=>?_) fun J E=>?_;obtain⟨w,x⟩:=q430;dsimp only at b i g k d;simp only[i,e,g,nt];refine cO (T70) fun G=>?_;refine Ob (mX (by first|omega|(simp only[wW2]at *;omega)) f) fun H z=>?_;exact .mk ⟨k,by dsimp only;omega⟩;obtain⟨w,x⟩:=q430;dsimp only at b d;simp only[b,nf];exact .mk (by dsimp only;omega);exact .mk ⟨j,by dsimp only;omega⟩;obtain⟨u,o⟩:=q416;dsimp only at a c;simp only[a,nf];exact .mk (by dsimp only;omega);refine Ob (tF1 (by first|omega|(simp only[wW2]at *;omega)) f) fun L A=>?_;exact .mk (by omega)
theorem mO2 {x1:Int}:Ok (jJ1 x1) (fun _=>True):=by
 unfold jJ1;refine oJ (fun _=>?_);exact bW
theorem T73 {x1:Int} {x2:YL}:Ok (F73 x1 x2) (fun _=>True):=by
 unfold F73;refine Ob mO2 fun c _=>?_;refine Oi (fun _=>bW) (fun _=>?_);refine Oi (fun _=>bW) (fun _=>?_);have hw:=eN1 (x1+(bF ((bF (7*x2.fG))-(bF (12*x2.pV)))));generalize bF (x1+(bF ((bF (7*x2.fG))-(bF (12*x2.pV)))))=x0 at hw ⊢;refine Ob (P:=fun v=> -9223372036854775808<=v/\v<=7) (cM (fun x=> -9223372036854775808<=x/\x<=9223372036854775807) (fun x=>(x+9223372036854775808).toNat) (fun x a=>?_) bN x0 hw (by simp only[bN];omega)) fun x1 h1=>?_;refine Oi (fun hc=>?_) (fun hc=>?_)<;>simp only[wS2]at hc;rw[bK (by omega) (by omega)];exact .mk ⟨by omega,by omega⟩;exact .mk (by omega);refine Ob (P:=fun v=>True) (cM (fun x=> -9223372036854775808<=x/\x<=7) (fun x=>(7-x).toNat) (fun x a=>?_) bN x1 h1 (by simp only[bN];omega)) fun x2 _=>bW;refine Oi (fun hc=>?_) (fun hc=>?_)<;>simp only[wS2]at hc;rw[bK (by omega) (by omega)];exact .mk ⟨by omega,by omega⟩;exact bW
theorem T72 {x1:Int} {x2:YM} {x3:YK} (g:x2.sm) (e:x3.s'.sm):Ok (F72 x1 x2 x3) (fun _=>True):=by
 unfold F72;refine cO (T24 g) fun⟨x4,w⟩=>?_;refine Ob (P:=fun r=>¬r=true->¬(w !=0)=true) ?_ fun y n=>?_;refine Oi (fun _=>.mk (fun h=>absurd rfl h)) (fun c438=>?_);refine cO (Oh) fun x=>?_;exact .mk (fun _=>c438);have i:=e.bV;refine sH (l:=x3.s'.bV) (fun q=>q.2) (wQ2 e.bV (by decide)) rfl (fun o m q450 f a c b d=>?_) (fun q450 a=>?_) fun v=>?_;obtain⟨j,k⟩:=q450;dsimp only at a c b d;simp only[c,b,nt];have p:=e.nY _ f;refine cO ?_ fun u=>?_;refine Oi (fun c454=>?_) (fun c454=>?_);refine cO (T73) fun⟨s,t⟩=>?_;exact bW;exact bW;exact .mk d;obtain⟨j,k⟩:=q450;dsimp only at a;simp only[a,nf];exact bW;exact bW
theorem tG1 {x1:aA YV} {x2:Y0} {x3:Int} (o:x1.length+12<=1000000) (c:x2.sm):Ok (xE x1 x2 x3) (fun v=>x1.length<=v.length/\v.length<=x1.length+12):=by
 unfold xE;have i:=c.aD;refine og x2.aD x1 12 1 (wQ2 c.aD (by decide)) (fun m k q467 j g a e b d f=>?_) (fun q467 a b=>?_) fun r n=>?_;obtain⟨s,t⟩:=q467;dsimp only at a e d f b;simp only[e,d,nt];have h:=c.cC _ g;refine cO (T72 h c) fun p=>?_;refine Ob (mX (by first|omega|(simp only[wW2]at *;omega)) c) fun q l=>?_;exact .mk ⟨f,by dsimp only;omega⟩;obtain⟨s,t⟩:=q467;dsimp only at a b;simp only[a,nf];exact .mk (by dsimp only;omega);exact .mk (by omega)
theorem mK1 {x1:aA YV} {x2:Y0} {x3:Int} (c:x1.length+12<=1000000) (a:x2.sm):Ok (Xf x1 x2 x3) (fun v=>x1.length<=v.length/\v.length<=x1.length+12):=by
 unfold Xf;refine Ob (tG1 (by first|omega|(simp only[wW2]at *;omega)) a) fun x4 b=>?_;exact .mk (by omega)
theorem xM {x1 x2:Int}:Ok (sG x1 x2) (fun _=>True):=by
 unfold sG;refine oJ (fun _=>?_);exact bW
theorem eS1 {x1:aA Int} (e:x1.length<=20):Ok (Nc x1) (fun _=>True):=by
 unfold Nc;have g:=e;refine sH (l:=x1) (fun q=>q) (wQ2 e (by decide)) rfl (fun i h x3 f a c b d=>?_) (fun x3 a=>?_) fun j=>?_;simp only[c,b,nt];refine oJ (fun _=>?_);exact .mk d;simp only[a,nf];exact bW;rcases j with k|_;exact bW;exact bW
theorem cF2 {x1:Int}:Ok (cS1 x1) (fun _=>True):=by
 unfold cS1;exact bW
theorem mP2 {x1:Int}:Ok (jL1 x1) (fun _=>True):=by
 unfold jL1;refine oJ (fun _=>?_);exact bW
theorem mQ2 {x1:YE} (c:x1.sm):Ok (cT1 x1) (fun v=>v.sm):=by
 unfold cT1;refine Ob (P:=fun r=>¬r=true->¬(x1.dD==1)=true) ?_ fun x3 a=>?_;refine Oi (fun _=>.mk (fun h=>absurd rfl h)) (fun c488=>?_);refine cO (cF2) fun x2=>?_;exact .mk (fun _=>c488);refine Oi (fun c490=>?_) (fun c490=>?_);exact .mk (by first|assumption|exact⟨xA2 _,xA2 _,xA2 _,fun _ h=>nomatch h⟩);have b:=a c490;refine cO ?_ fun x4=>?_;refine oJ (fun _=>?_);exact bW;refine cO ?_ fun e=>?_;refine Oi (fun c495=>?_) (fun c495=>?_);refine cO (mP2) fun d=>?_;exact bW;exact bW;exact .mk (by first|assumption|exact⟨xA2 _,xA2 _,xA2 _,fun _ h=>nomatch h⟩)
theorem mR2 {x1 x2:aA YB} (e:x1.length<=12) (f:x2.length<=12):Ok (Xg x1 x2) (fun _=>True):=by
 unfold Xg;refine oJ (fun _=>?_);have j:=e;refine sH (l:=x1) (fun q=>q) (wQ2 e (by decide)) rfl (fun n m o g a c b d=>?_) (fun o a=>?_) fun p=>?_;simp only[c,b,nt];have k:=f;refine Ob (P:=fun x=>x∈x2) (cK (by omega) (by(simp only[nm]at *;omega)) (fun _ h _=>h)) fun r i=>?_;refine oJ (fun _=>?_);exact .mk d;simp only[a,nf];exact bW;rcases p with _|_;exact bW;exact bW
theorem mS2 {x1 x2:aA YD} (e:x1.length<=12) (f:x2.length<=12):Ok (jM1 x1 x2) (fun _=>True):=by
 unfold jM1;refine oJ (fun _=>?_);have j:=e;refine sH (l:=x1) (fun q=>q) (wQ2 e (by decide)) rfl (fun n m o g a c b d=>?_) (fun o a=>?_) fun p=>?_;simp only[c,b,nt];have k:=f;refine Ob (P:=fun x=>x∈x2) (cK (by omega) (by(simp only[nm]at *;omega)) (fun _ h _=>h)) fun r i=>?_;refine oJ (fun _=>?_);exact .mk d;simp only[a,nf];exact bW;rcases p with _|_;exact bW;exact bW
theorem mT2 {x1 x2:aA YY} (g:x1.length<=12) (i:∀y∈x1,y.sm) (k:x2.length<=12) (j:∀y∈x2,y.sm):Ok (jN1 x1 x2) (fun _=>True):=by
 unfold jN1;refine oJ (fun _=>?_);have m:=g;refine sH (l:=x1) (fun q=>q) (wQ2 g (by decide)) rfl (fun p o t d a c b f=>?_) (fun t a=>?_) fun u=>?_;simp only[c,b,nt];have r:=i _ d;have n:=k;refine Ob (P:=fun x=>x∈x2) (cK (by omega) (by(simp only[nm]at *;omega)) (fun _ h _=>h)) fun v e=>?_;have s:=j _ e;refine oJ (fun _=>?_);exact .mk f;simp only[a,nf];exact bW;rcases u with _|_;exact bW;exact bW
theorem mU2 {x1 x2:YE} (a:x1.sm) (b:x2.sm):Ok (cU1 x1 x2) (fun _=>True):=by
 unfold cU1;refine Ob (P:=fun r=>r=true->(((((((x1.dD==x2.dD)&&(((x1.Value.Log==x2.Value.Log)&&((x1.Value.rK==x2.Value.rK)&&true))!=false))&&(x1.dI==x2.dI))&&(x1.jK==x2.jK))&&(x1.iZ==x2.iZ))&&(x1.Ew==x2.Ew))&&(x1.Eu==x2.Eu))=true) ?_ fun x4 c=>?_;refine Oi (fun c548=>?_) (fun _=>.mk (fun h=>by cases h));refine cO (mR2 a.cW b.cW) fun x3=>?_;exact .mk (fun _=>c548);refine Ob (P:=fun r=>r=true->x4=true) ?_ fun j d=>?_;refine Oi (fun c551=>?_) (fun _=>.mk (fun h=>by cases h));have g:=c c551;refine cO (mS2 a.gN b.gN) fun k=>?_;exact .mk (fun _=>c551);refine Ob (P:=fun r=>r=true->j=true) ?_ fun m f=>?_;refine Oi (fun c555=>?_) (fun _=>.mk (fun h=>by cases h));have e:=d c555;have i:=c e;refine cO (mT2 a.dP a.wC b.dP b.wC) fun l=>?_;exact .mk (fun _=>c555);exact bW
theorem cG2 {x1:YA}:Ok (cV1 x1) (fun v=>v=0-> -1<=x1.Log/\x1.Log<=8/\0<=x1.rK/\x1.rK<=3):=by
 unfold cV1;refine Oi (fun c559=>.mk (by omega)) (fun c559=>?_);exact .mk (by(simp only[nm]at *;omega))
theorem mV2:Ok (jO1) (fun _=>True):=by
 unfold jO1;exact bW
theorem cH2 {x1:YH} (b:0<=x1.rL/\x1.rL<=6):Ok (cW1 x1) (fun _=>True):=by
 unfold cW1;refine cO (mV2) fun x2=>?_;refine Ob (cK (Q:=fun _=>True) (by omega) (by(simp only[nm,nl]at *;omega)) (fun _ _ _=>trivial)) fun x3 a=>?_;exact bW
theorem mW2 {x1:YH}:Ok (jP1 x1) (fun v=>v=0->0<=x1.rL/\x1.rL<=6):=by
 unfold jP1;refine Oi (fun c562=>.mk (by omega)) (fun c562=>?_);refine cO (cH2 (by(simp only[nm]at *;omega))) fun x2=>?_;refine Oi (fun c564=>.mk (by omega)) (fun c564=>?_);exact .mk (by(simp only[nm]at *;omega))
theorem T82 {x1:YH}:Ok (F82 x1) (fun _=>True):=by
 unfold F82;refine Ob (mW2) fun x2 a=>?_;refine oJ (fun _=>?_);refine cO (cH2 (by(simp only[nm]at *;omega))) fun x3=>?_;exact bW
theorem tH1 {x1:YH}:Ok (Xh x1) (fun _=>True):=by
 unfold Xh;refine cO (T82) fun⟨x2,x3⟩=>?_;refine oJ (fun _=>?_);exact bW
theorem mY2 {x1:YB}:Ok (jQ1 x1) (fun _=>True):=by
 unfold jQ1;refine cO (tH1) fun⟨x2,x3⟩=>?_;refine cO (xM) fun x4=>?_;refine cO (eS1 (by simp)) fun a=>?_;exact bW
theorem mZ2 {x1:aA YB} (e:x1.length<=12):Ok (jR1 x1) (fun _=>True):=by
 unfold jR1;refine oJ (fun _=>?_);refine oJ (fun _=>?_);have g:=e;refine sH (l:=x1) (fun q=>q.2) (wQ2 e (by decide)) rfl (fun j i q585 f a c b d=>?_) (fun q585 a=>?_) fun h=>?_;obtain⟨o,p⟩:=q585;dsimp only at a c b d;simp only[c,b,nt];refine cO (mY2) fun r=>?_;refine oJ (fun _=>?_);refine cO (tH1) fun⟨k,m⟩=>?_;refine oJ (fun _=>?_);exact .mk d;obtain⟨o,p⟩:=q585;dsimp only at a;simp only[a,nf];exact bW;rcases h with n|_;exact bW;exact bW
theorem nA2 {x1:aA YD} (e:x1.length<=12):Ok (jS1 x1) (fun _=>True):=by
 unfold jS1;refine oJ (fun _=>?_);have g:=e;refine sH (l:=x1) (fun q=>q) (wQ2 e (by decide)) rfl (fun j i k f a c b d=>?_) (fun k a=>?_) fun h=>?_;simp only[c,b,nt];refine cO (tH1) fun⟨m,n⟩=>?_;refine oJ (fun _=>?_);refine oJ (fun _=>?_);exact .mk d;simp only[a,nf];exact bW;rcases h with o|_;exact bW;exact bW
theorem nB2 {x1:YY} (a:x1.sm):Ok (jT1 x1) (fun _=>True):=by
 unfold jT1;refine Oi (fun _=>bW) (fun _=>?_);refine Oi (fun _=>bW) (fun _=>?_);have hs:=a.nZ;refine Ob (P:=fun _=>True) (iW (fun q=>q) (x1.nZ.size:Int) (fun _=>True) (by omega) (by decide) trivial (fun i _ h1 h2=>?_)) fun r _=>?_;refine Oi (fun hc=>?_) (fun _=>bW);simp only[wS2]at hc;refine Ob (xK h1 hc) fun b _=>?_;refine Ob (P:=fun _=>True) (Oi (fun _=>bW) (fun _=>Ob (xK h1 hc) fun b _=>bW)) fun b _=>?_;exact Oi (fun _=>bW) (fun _=>.mk ⟨hc,h2 hc,trivial⟩);rcases r with _|_;exact bW;exact Oi (fun _=>bW) (fun _=>bW)
theorem nC2 {x1:YY} (a:x1.sm):Ok (jU1 x1) (fun _=>True):=by
 unfold jU1;exact bW
theorem nD2 {x1:aA YY} (c:x1.length<=12) (b:∀y∈x1,y.sm):Ok (jV1 x1) (fun _=>True):=by
 unfold jV1;refine oJ (fun _=>?_);have n:=c;refine sH (l:=x1) (fun q=>q) (wQ2 c (by decide)) rfl (fun s p x4 f a e d i=>?_) (fun x4 a=>?_) fun w=>?_;simp only[e,d,nt];have k:=b _ f;refine cO (nB2 k) fun z=>?_;refine oJ (fun _=>?_);exact .mk i;simp only[a,nf];exact bW;rcases w with A|_;exact bW;refine Ob (P:=fun r=>r=true->(decide ((x1.length:Int)>0))=true) ?_ fun v j=>?_;refine Oi (fun c622=>?_) (fun _=>.mk (fun h=>by cases h));have o:=c;refine Ob (P:=fun x=>x∈x1) (cK (by(simp only[nm]at *;rw[bK (by omega) (by omega)];omega)) (by(simp only[nm]at *;rw[bK (by omega) (by omega)];omega)) (fun _ h _=>h)) fun B g=>?_;have m:=b _ g;refine cO (nC2 m) fun u=>?_;exact .mk (fun _=>c622);refine Oi (fun c628=>?_) (fun c628=>?_);have t:=j c628;exact bW;exact bW
theorem T79 {x1:YE} (a:x1.sm):Ok (Xi x1) (fun _=>True):=by
 unfold Xi;refine cO (xM) fun x2=>?_;refine cO (xM) fun x3=>?_;refine cO (eS1 (by simp)) fun x4=>?_;refine oJ (fun _=>?_);refine cO (cF2) fun x=>?_;refine oJ (fun _=>?_);refine Ob (mQ2 a) fun y b=>?_;refine cO (mU2 a b) fun z=>?_;refine oJ (fun _=>?_);refine Ob (P:=fun r=>r=true->(x1.dD !=3)=true) ?_ fun B c=>?_;refine Oi (fun c640=>?_) (fun _=>.mk (fun h=>by cases h));refine Ob (cG2) fun A d=>?_;exact .mk (fun _=>c640);refine Oi (fun c642=>?_) (fun c642=>?_);have e:=c c642;exact bW;refine Oi (fun c644=>?_) (fun c644=>?_);refine cO (mZ2 a.cW) fun f=>?_;refine cO (nA2 a.gN) fun g=>?_;refine cO (nD2 a.dP a.wC) fun i=>?_;refine cO (eS1 (by simp)) fun j=>?_;refine oJ (fun _=>?_);refine cO (xM) fun k=>?_;refine cO (xM) fun l=>?_;refine cO (xM) fun m=>?_;refine cO (xM) fun n=>?_;refine cO (xM) fun o=>?_;refine cO (eS1 (by simp)) fun p=>?_;exact bW;refine cO (xM) fun q=>?_;refine cO (xM) fun s=>?_;refine cO (xM) fun t=>?_;refine cO (xM) fun u=>?_;refine cO (xM) fun v=>?_;refine cO (eS1 (by simp)) fun w=>?_;exact bW
theorem nE2 {x1:YE} (a:x1.sm):Ok (jW1 x1) (fun _=>True):=by
 unfold jW1;refine cO (T79 a) fun x2=>?_;exact bW
theorem nF2 {x1:aA YE} (f:x1.length<=20) (g:∀y∈x1,y.sm):Ok (jX1 x1) (fun _=>True):=by
 unfold jX1;have i:=f;refine sH (l:=x1) (fun q=>q) (wQ2 f (by decide)) rfl (fun k j x4 d a c b e=>?_) (fun x4 a=>?_) fun m=>?_;simp only[c,b,nt];have h:=g _ d;refine cO (nE2 h) fun n=>?_;refine oJ (fun _=>?_);exact .mk e;simp only[a,nf];exact bW;rcases m with o|_;exact bW;exact bW
theorem cI2 {x1:aA YE} (b:x1.length<=20) (a:∀y∈x1,y.sm):Ok (cY1 x1) (fun _=>True):=by
 unfold cY1;refine cO (nF2 b a) fun x2=>?_;exact bW
theorem cJ2 {x1:YO} (b:x1.sm):Ok (jY1 x1) (fun _=>True):=by
 unfold jY1;refine Ob (P:=fun r=>r=true->(decide ((x1.aT.length:Int)>0))=true) ?_ fun x3 d=>?_;refine Oi (fun c679=>?_) (fun _=>.mk (fun h=>by cases h));have c:=b.aT;refine Ob (P:=fun x=>x∈x1.aT) (cK (by omega) (by(simp only[nm]at *;omega)) (fun _ h _=>h)) fun x2 a=>?_;have e:=b.dQ _ a;exact .mk (fun _=>c679);exact bW
theorem nG2 {x1:YA} (b: -1<=x1.Log/\x1.Log<=8/\0<=x1.rK/\x1.rK<=3):Ok (jZ1 x1) (fun _=>True):=by
 unfold jZ1;refine Ob (vU (by rw[bK (by omega) (by omega)];omega)) fun n _=>?_;refine Ob (P:=fun _=>True) (iW (fun q=>q.2.2) x1.rK (fun _=>True) (by omega) (by dsimp only;omega) trivial (fun q _ h1 h2=>?_)) fun r _=>bW;obtain⟨a,n,i⟩:=q;dsimp only at h1 h2 ⊢;refine Oi (fun hc=>?_) (fun _=>bW);simp only[wS2]at hc;exact Ob (nI (by decide)) fun x _=>.mk ⟨hc,h2 hc,trivial⟩
theorem nH2 {x1:YA}:Ok (kA1 x1) (fun _=>True):=by
 unfold kA1;refine Ob (cG2) fun x2 a=>?_;refine oJ (fun _=>?_);refine cO (nG2 (by(simp only[nm]at *;omega))) fun x3=>?_;exact bW
theorem cK2 {x1:YE} (a:x1.sm):Ok (kB1 x1) (fun _=>True):=by
 unfold kB1;refine cO (T79 a) fun x2=>?_;refine oJ (fun _=>?_);refine cO (nH2) fun⟨x3,x4⟩=>?_;exact bW
theorem nI2 {x1:aA YE} (g:x1.length<=20) (c:∀y∈x1,y.sm):Ok (Xk x1) (fun v=>v.length<=20):=by
 unfold Xk;refine Ob (mU (by omega) (by omega) (by omega)) fun n h2=>?_;refine Ob (P:=fun v=>v.length=x1.length) (bO (l:=x1) (fun q=>q.1) (fun _ q=>q.2.length=x1.length) (by omega) rfl (by rw[h2];simp) (fun i e q k f hi hl d hg hw=>?_) (fun q hi d=>?_)) fun v hv=>.mk (by omega);obtain⟨x,l⟩:=q;dsimp only at hi hl d hg hw;simp only[hl,hg,nt];refine Ob (cK2 (c e f)) fun⟨a,b⟩ _=>?_;refine Ob (gR (by omega) (by omega)) fun j h=>?_;refine Ob (Jl (by omega)) fun m f=>.mk ⟨hw,by dsimp only;omega⟩;obtain⟨x,l⟩:=q;dsimp only at hi d;simp only[hi,nf];exact .mk d
theorem cL2 {x1:Int}:Ok (cZ1 x1) (fun v=>v=true->1<=x1/\x1<=32):=by
 unfold cZ1;exact .mk (by(simp only[nm]at *;omega))
theorem nJ2 {x1 x2:YU}:Ok (kC1 x1 x2) (fun _=>True):=by
 unfold kC1;refine Oi (fun c690=>?_) (fun c690=>?_);refine oJ (fun _=>?_);exact bW;refine Oi (fun c692=>?_) (fun c692=>?_);refine oJ (fun _=>?_);exact bW;exact bW
theorem mL1 {x1:YU}:Ok (Qo x1) (fun v=>v=bF (x1.jJ+x1.gO)):=by
 unfold Qo;exact .mk (by rfl)
theorem cM2 {x1:YU} {x2:aA YU} (f:x2.length<=6) (g:x2.length<=3):Ok (Ub x1 x2) (fun v=>v.2.length<=3):=by
 unfold Ub;refine Ob (P:=fun v=>v.length<=3) (cM (fun l=>l.length<=3) (fun l=>l.length) (fun l hl=>?_) bN x2 g (by simp only[bN];omega)) fun x c=>?_;refine Ob (P:=fun r=>r=true->0<l.length) (Oi (fun hc=>?_) (fun _=>.mk (fun h=>by cases h))) fun b hb=>?_;simp only[wS2]at hc;refine Ob (gR (by rw[bK (by omega) (by omega)];omega) (by rw[bK (by omega) (by omega)];omega)) fun j a=>?_;exact Ob (kP a.2) fun y _=>Ob mL1 fun e _=>.mk (fun _=>by omega);refine Oi (fun hc=>?_) (fun _=>.mk hl);have:=hb hc;refine Ob (Yd this (by rw[bK (by omega) (by omega)];omega) (by rw[bK (by omega) (by omega)];omega)) fun m d=>?_;have:=d.1;rw[bK (by omega) (by omega)]at this;exact .mk ⟨by omega,by omega⟩;refine Ob (P:=fun r=>r=true\/x.length<3) (Oi (fun hc=>.mk (.inl rfl)) (fun hc=>?_)) fun b hb=>?_;have hc:x.length<3:=by simp only[yI2]at hc;omega
 refine Ob (P:=fun _=>True) (Oi (fun hd=>?_) (fun _=>bW)) fun b _=>.mk (.inr hc);simp only[wS2]at hd;refine Ob mL1 fun e _=>?_;refine Ob (gR (by rw[bK (by omega) (by omega)];omega) (by rw[bK (by omega) (by omega)];omega)) fun j a=>?_;exact Ob (kP a.2) fun y _=>Ob mL1 fun e _=>bW;refine Oi (fun _=>.mk c) (fun hc=>?_);have hb:x.length<3:=by rcases hb with h|h;exact absurd h hc;exact h
 refine Ob (eM (Q:=fun v=>v.length=x.length+1) (by omega) (by simp)) fun m d=>.mk (by dsimp only;omega)
theorem cN2 {x1:aA YU} {x2:Int} (u:x1.length<=6):Ok (kD1 x1 x2) (fun v=>v=0->∀t∈x1,t.ok x2):=by
 unfold kD1;refine Oi (fun _=>.mk (fun h=>by cases h)) (fun g=>?_);refine Oi (fun _=>.mk (fun h=>by cases h)) (fun _=>?_);simp only[wY2,wS2,zK2]at g;refine Ob (P:=fun r=>match r with|.inl p=>p.1≠0|.inr _=>∀t∈x1,t.ok x2) (bO (l:=x1) (fun q=>q.1) (fun i q=>q.2.length<=3/\∀j,j<i->∀t,x1[j]? =some t->t.ok x2) (by omega) rfl ⟨by decide,fun j f=>by omega⟩ (fun i e q w s hi hl c hg hw=>?_) (fun q hi c=>?_)) fun v hv=>?_;obtain⟨x,l⟩:=q;dsimp only at hi hl c hg hw;simp only[hl,hg,nt];refine Ob (P:=fun r=>r=false->(1<=e.gO/\e.gO<=x2/\0<=e.jJ/\e.jJ+e.gO<=x2/\1<=e.eG/\e.eG<=32)) (Oi (fun _=>.mk (fun h=>by cases h)) (fun hc=>?_)) fun b1 h1=>?_;simp only[wY2,wS2,zK2]at hc;rw[bK (by omega) (by omega)]at hc;refine Ob cL2 fun r hr=>.mk (fun h=>?_);have:=hr (by simpa using h);omega;refine Ob (P:=fun r=>r=false->e.ok x2) (Oi (fun hc=>.mk (fun h=>by cases h)) (fun hc=>?_)) fun b2 h2=>?_;refine Ob cL2 fun r hr=>.mk (fun h=>?_);have:=hr (by simpa using h);have:=h1 (by simpa using hc);unfold YU.ok;omega;refine Oi (fun _=>.mk (show(2:Int)≠0 by decide)) (fun hc=>?_);have n:e.ok x2:=h2 (by simp only[wY2,zK2,Bool.not_eq_true]at hc;exact hc.1);refine Ob (P:=fun _=>True) (Oi (fun hd=>?_) (fun _=>bW)) fun b3 _=>?_;simp only[wS2]at hd;have:=fF hg;refine Ob (cK (Q:=fun _=>True) (by rw[bK (by omega) (by omega)];omega) (by rw[bK (by omega) (by omega)];omega) (fun _ _ _=>trivial)) fun y _=>?_;exact Ob nJ2 fun o _=>bW;refine Oi (fun _=>.mk (show(25:Int)≠0 by decide)) (fun _=>?_);refine Ob (cM2 (xJ2 c.1 (by decide)) c.1) fun⟨a,m⟩ s=>?_;refine Oi (fun _=>.mk (show(21:Int)≠0 by decide)) (fun _=>.mk ⟨hw,s,fun j f t d=>?_⟩);by_cases k:j=i;subst k;rw[w]at d;cases d;exact n;exact c.2 j (by omega) t d;obtain⟨x,l⟩:=q;dsimp only at hi c;simp only[hi,nf];refine .mk (fun t d=>?_);obtain⟨j,f⟩:=xE2.1 d;exact c.2 j (wI2.1 f).1 t f;rcases v with⟨a,b⟩|b;exact .mk (fun h=>absurd h hv);exact .mk (fun _=>hv)
theorem cO2 {x1:YU} {x2:Int}:Ok (kE1 x1 x2) (fun _=>True):=by
 unfold kE1;exact bW
theorem cP2 {x1 x2:Int} (i:0<x1/\0<x2/\x2<9223372036854775808):Ok (kF1 x1 x2) (fun v=>0<v/\v∣x1/\v∣x2):=by
 unfold kF1;refine Ob (P:=fun v=>0<v/\v∣x1/\v∣x2) (cM (fun q=>0<q.1/\0<=q.2/\∀d:Int,d∣q.1->d∣q.2->d∣x1/\d∣x2) (fun q=>q.2.toNat) (fun q h=>?_) bN (x1,x2) ⟨i.1,by dsimp only;omega,fun d h1 h2=>⟨h1,h2⟩⟩ (by simp only[bN];omega)) fun v hv=>.mk hv;obtain⟨a,b⟩:=q;obtain⟨h1,h2,h3⟩:=h;dsimp only at h1 h2 h3;refine Oi (fun hc=>?_) (fun hc=>?_)<;>simp only[wS2]at hc;refine Ob (zV (by omega)) fun n g=>?_;have f:n=a%b:=by rw[g,Int.tmod_eq_emod_of_nonneg (by omega)]
 have e2:=Int.emod_nonneg a (by omega:b≠0);have j:=Int.emod_lt_of_pos a hc;refine .mk ⟨⟨hc,by dsimp only;omega,fun d c e=>h3 d ?_ c⟩,by dsimp only;omega⟩;dsimp only at c e;rw[f]at e;have:=Int.emod_add_mul_ediv a b;rw[<-this];exact Int.dvd_add e (Int.dvd_trans c (Int.dvd_mul_right b _));have:b=0:=by omega
 subst this;exact .mk ⟨h1,h3 a (Int.dvd_refl a) (Int.dvd_zero a)⟩
theorem nK2 {x1:aA YU} {x2:Int} (u:x1.length<=6) (B:∀t∈x1,1<=t.eG/\t.eG<=32/\1<=t.eT/\t.eT<=32):Ok (Xl x1 x2) (fun v=>1<=v.2):=by
 unfold Xl;refine Ob (P:=fun v=>1<=v.2) (bO (l:=x1) (fun q=>q.2.2) (fun i q=>1<=q.1/\q.1<=32^i/\1<=q.2.1/\q.2.1<=32^i) (by omega) rfl ⟨by decide,by decide,by decide,by decide⟩ (fun i e q C y hi hl f hg hw=>?_) (fun q hi f=>?_)) fun v hv=>.mk hv;obtain⟨a,b,x⟩:=q;dsimp only at hi hl f hg hw;simp only[hl,hg,nt];have j:=B e y;refine Ob cO2 fun c _=>?_;have w:i<=5:=by omega
 have z:(32:Int)^i<=33554432:=by
  have:i=0\/i=1\/i=2\/i=3\/i=4\/i=5:=by omega
  rcases this with rfl|rfl|rfl|rfl|rfl|rfl<;>decide
 have A:(32:Int)^(i+1)=32^i*32:=Int.pow_succ 32 i;refine Ob (P:=fun v=>1<=v.1/\v.1<=32^(i+1)/\1<=v.2/\v.2<=32^(i+1)) (Oi (fun _=>?_) (fun _=>?_)) fun⟨v1,v2⟩ hv=>.mk ⟨hw,hv⟩;have E:1<=a*e.eT:=Int.le_trans (by decide) (yM2 f.1 j.2.2.1 (by decide) (by omega));have F:a*e.eT<=32^i*32:=yM2 f.2.1 j.2.2.2 (by omega) (by omega);have r:1<=b*e.eG:=Int.le_trans (by decide) (yM2 f.2.2.1 j.1 (by decide) (by omega));have s:b*e.eG<=32^i*32:=yM2 f.2.2.2 j.2.1 (by omega) (by omega);rw[bK (n:=a*e.eT) (by omega) (by omega),bK (n:=b*e.eG) (by omega) (by omega)];generalize a*e.eT=N at E F ⊢;generalize b*e.eG=D at r s ⊢;refine Ob (cP2 ⟨by omega,by omega,by omega⟩) fun g hg=>?_;obtain⟨G,⟨k,rfl⟩,⟨m,rfl⟩⟩:=hg
 have H:1<=k:=by
  rcases Int.lt_or_le k 1 with h|h;have:=Int.mul_nonneg (a:=g) (b:= -k) (by omega) (by omega);rw[Int.mul_neg]at this;omega;exact h
 have K:1<=m:=by
  rcases Int.lt_or_le m 1 with h|h;have:=Int.mul_nonneg (a:=g) (b:= -m) (by omega) (by omega);rw[Int.mul_neg]at this;omega;exact h
 have J:k<=g*k:=by
  have:=yM2 (a:=1) (b:=k) (c:=g) (d:=k) (by omega) (yD2 k) (by omega) (by omega);omega
 have L:m<=g*m:=by
  have:=yM2 (a:=1) (b:=m) (c:=g) (d:=m) (by omega) (yD2 m) (by omega) (by omega);omega
 refine Ob (nI (by omega)) fun q1 o=>?_;refine Ob (nI (by omega)) fun q2 p=>?_;rw[Int.mul_tdiv_cancel_left k (by omega),show IntKind.wrap .i64 k=bF k from rfl,bK (by omega) (by omega)]at o;rw[Int.mul_tdiv_cancel_left m (by omega),show IntKind.wrap .i64 m=bF m from rfl,bK (by omega) (by omega)]at p;exact .mk ⟨by dsimp only;omega,by dsimp only;omega,by dsimp only;omega,by dsimp only;omega⟩;exact .mk ⟨f.1,by dsimp only;omega,f.2.2.1,by dsimp only;omega⟩;obtain⟨a,b,x⟩:=q;dsimp only at hi f;simp only[hi,nf];exact .mk f.2.2.1
theorem cQ2 {x1:aA YU} {x2 x3:Int} (b:x1.length<=6) (e:∀t∈x1,1<=t.eG/\t.eG<=32/\1<=t.eT/\t.eT<=32):Ok (Qp x1 x2 x3) (fun _=>True):=by
 unfold Qp;refine oJ (fun _=>?_);refine Ob (nK2 b (by omega)) fun⟨x4,f⟩ a=>?_
 try dsimp only at a
 refine Ob (zV (by omega)) fun g c=>?_;refine oJ (fun _=>?_);refine Ob (nI (by omega)) fun h d=>?_;exact bW
theorem cR2 {x1:aA YU} {x2:aA Int} (d:x1.length<=6) (g:x2.length<=20):Ok (Qq x1 x2) (fun v=>v.1.length<=20/\(v.2=0->∀t∈x1,t.ok x2.length)):=by
 unfold Qq;refine Ob (cN2 d) fun c hc=>?_;refine Oi (fun hd=>.mk ⟨xA2 _,fun h=>absurd h (by simpa using hd)⟩) (fun hd=>?_);have j:=hc (by simpa using hd);refine Ob (mU (by decide) (by omega) (by omega)) fun o h4=>?_;refine Ob (P:=fun r=>match r with|.inl p=>p.1≠0|.inr l=>l.length<=x2.length) (bO (l:=x2) (fun q=>q.1) (fun i q=>q.2.length<=i) (by omega) rfl (by rw[h4];decide) (fun i e q n k hi hl f hg hw=>?_) (fun q hi f=>?_)) fun v hv=>?_;obtain⟨x,l⟩:=q;dsimp only at hi hl f hg hw;simp only[hl,hg,nt];refine Ob (cQ2 d (fun t h=>by have:=j t h;unfold YU.ok at this;omega)) fun⟨a,b⟩ _=>?_;refine Oi (fun hb=>.mk (by simpa using hb)) (fun _=>?_);exact Ob (eM (Q:=fun v=>v.length=l.length+1) (by omega) (by simp)) fun m k=>.mk ⟨hw,by dsimp only;omega⟩;obtain⟨x,l⟩:=q;dsimp only at hi f;simp only[hi,nf];exact .mk f;rcases v with⟨a,b⟩|b;exact .mk ⟨xA2 _,fun h=>absurd h hv⟩;exact .mk ⟨xJ2 hv g,fun _=>j⟩
theorem nL2 {x1:aA YU} {x2:Int} {x3:aA Int} (f:x1.length<=6) (g:x3.length<=20) (d:0<=x2/\x2<(x1.length:Int)) (hy:∀t∈x1,t.ok x3.length):Ok (kG1 x1 x2 x3) (fun _=>True):=by
 unfold kG1;refine Ob (cK (Q:=fun x=>x∈x1) d.1 d.2 (fun _ h _=>h)) fun x4 c=>?_;have h4:=hy x4 c;unfold YU.ok at h4;refine Ob (P:=fun _=>True) (iW (fun q=>q.2) (x4.jJ+x4.gO) (fun _=>True) (by omega) (by dsimp only;omega) trivial (fun q _ h1 h2=>?_)) fun r _=>?_;obtain⟨s,i⟩:=q;dsimp only at h1 h2 ⊢;refine Ob mL1 fun e he=>?_;rw[bK (by omega) (by omega)]at he;subst he;refine Oi (fun hc=>?_) (fun _=>bW);simp only[wS2]at hc;refine Ob (Gu (by rw[bK (by omega) (by omega)];omega) (by rw[bK (by omega) (by omega)];omega) (by omega)) fun l hl=>?_;refine Ob (cK (Q:=fun _=>True) (by omega) (by omega) (fun _ _ _=>trivial)) fun y _=>?_;refine Ob (cQ2 (by omega) (fun t h=>by have:=hy t (hl.2 t h);unfold YU.ok at this;omega)) fun⟨a,b⟩ _=>?_;exact Oi (fun _=>bW) (fun _=>.mk ⟨hc,h2 hc,trivial⟩);rcases r with a|a;exact bW;refine Ob (P:=fun _=>True) (iW (fun q=>q) 9 (fun _=>True) (by decide) (by decide) trivial (fun q _ h1 h2=>?_)) fun r _=>?_;refine Oi (fun hc=>?_) (fun _=>bW);simp only[wS2]at hc;refine Ob (vU (by rw[bK (by omega) (by omega)];omega)) fun n _=>?_;exact Oi (fun _=>bW) (fun _=>.mk ⟨by omega,h2 (by omega),trivial⟩);rcases r with a|a<;>exact bW
theorem cS2 {x1:aA YU} {x2:aA Int} (c:x1.length<=6) (d:x2.length<=20):Ok (kH1 x1 x2) (fun _=>True):=by
 unfold kH1;refine Ob (cR2 c d) fun⟨a,b⟩ f=>?_;dsimp only at f;refine Oi (fun _=>bW) (fun hd=>?_);have j:=f.2 (by simpa using hd);refine Ob (mU (by decide) (by omega) (by omega)) fun n h4=>?_;refine Ob (P:=fun _=>True) (bO (l:=x1) (fun q=>q.1) (fun i q=>q.2.length<=i) (by omega) rfl (by rw[h4];decide) (fun i e q k h hi hl g hg hw=>?_) (fun q hi g=>?_)) fun v hv=>?_;obtain⟨x,l⟩:=q;dsimp only at hi hl g hg hw;simp only[hl,nt];refine Ob (nL2 c d ⟨by omega,hl⟩ j) fun⟨a,b⟩ _=>?_;refine Oi (fun hb=>bW) (fun _=>?_);exact Ob (eM (Q:=fun v=>v.length=l.length+1) (by omega) (by simp)) fun m h=>.mk ⟨hw,by dsimp only;omega⟩;obtain⟨x,l⟩:=q;dsimp only at hi g;simp only[hi,nf];exact bW;rcases v with a|b<;>exact bW
theorem nM2 {x1:YO} (a:x1.sm):Ok (Xm x1) (fun v=>v.1.length<=20):=by
 unfold Xm;have j:=a.aT;refine sH (l:=x1.aT) (fun q=>q) (wQ2 a.aT (by decide)) rfl (fun m k x4 f b e d g=>?_) (fun x4 b=>?_) fun s=>?_;simp only[e,d,nt];have i:=a.dQ _ f;refine cO (T79 i) fun t=>?_;refine oJ (fun _=>?_);refine oJ (fun _=>?_);exact .mk g;simp only[b,nf];exact bW;rcases s with u|_;exact .mk (by(simp only[nm,nl]at *;omega));refine Ob (nI2 a.aT a.dQ) fun w c=>?_;refine Ob (cR2 a.gJ c) fun⟨n,o⟩ h=>?_
 try dsimp only at h
 refine Oi (fun c716=>?_) (fun c716=>?_);exact .mk (by(simp only[nm,nl]at *;omega));refine cO (cS2 a.gJ c) fun⟨p,r⟩=>?_;refine Oi (fun c718=>?_) (fun c718=>?_);exact .mk (by(simp only[nm,nl]at *;omega));exact .mk (by(simp only[nm]at *;omega))
theorem nN2 {x1:YO} {x2:Int} (a:x1.sm):Ok (Xn x1 x2) (fun v=>v.1.length<=20):=by
 unfold Xn;refine Oi (fun c719=>?_) (fun c719=>?_);exact .mk (by(simp only[nm,nl]at *;omega));refine Oi (fun c720=>?_) (fun c720=>?_);exact .mk (by(simp only[nm,nl]at *;omega));refine cO (cJ2 a) fun x3=>?_;refine Oi (fun c722=>?_) (fun c722=>?_);have e:=a.aT;refine Ob (P:=fun x=>x∈x1.aT) (cK (by omega) (by(simp only[nm]at *;omega)) (fun _ h _=>h)) fun x4 b=>?_;have d:=a.dQ _ b;refine cO (T79 d) fun f=>?_;refine Oi (fun c728=>?_) (fun c728=>?_);exact .mk (by(simp only[nm,nl]at *;omega));refine Oi (fun c729=>?_) (fun c729=>?_);exact .mk (by(simp only[nm,nl]at *;omega));exact .mk (by(simp only[nm,nl]at *;omega));refine Ob (nM2 a) fun⟨g,i⟩ c=>?_
 try dsimp only at c
 exact .mk (by omega)
theorem nO2 {x1:aA Int} (e:x1.length<=20):Ok (Xo x1) (fun _=>True):=by
 unfold Xo;have g:=e;refine sH (l:=x1) (fun q=>q.2) (wQ2 e (by decide)) rfl (fun i h q741 f a c b d=>?_) (fun q741 a=>?_) fun j=>?_;obtain⟨x3,x4⟩:=q741;dsimp only at a c b d;simp only[c,b,nt];exact .mk d;obtain⟨x3,x4⟩:=q741;dsimp only at a;simp only[a,nf];exact bW;exact bW
theorem cT2 {x1:YO} {x2:Int} (c:x1.sm):Ok (Qr x1 x2) (fun v=>v.1.length<=20):=by
 unfold Qr;refine Ob (nN2 c) fun⟨x3,x4⟩ a=>?_
 try dsimp only at a
 refine Ob (P:=fun r=>r=true->((x4==0)&&(decide ((x3.length:Int)>0)))=true) ?_ fun f b=>?_;refine Oi (fun c745=>?_) (fun _=>.mk (fun h=>by cases h));refine cO (nO2 a) fun e=>?_;exact .mk (fun _=>c745);refine cO ?_ fun g=>?_;refine Oi (fun c748=>?_) (fun c748=>?_);have d:=b c748;exact bW;exact bW;refine Oi (fun c750=>?_) (fun c750=>?_);exact .mk (by(simp only[nm,nl]at *;omega));exact .mk (by omega)
theorem cU2 {x1:YO} {x2:Int} (b:x1.sm):Ok (dA1 x1 x2) (fun _=>True):=by
 unfold dA1;refine Ob (cT2 b) fun⟨x3,x4⟩ a=>?_
 try dsimp only at a
 exact bW
theorem T75 {x1:Int}:Ok (F75 x1) (fun _=>True):=by
 unfold F75;exact bW
theorem nP2 {x1:YO} {x2:Int} (a:x1.sm):Ok (kI1 x1 x2) (fun _=>True):=by
 unfold kI1;refine cO (cI2 a.aT a.dQ) fun x3=>?_;refine Ob (P:=fun r=>r=true->(!x3)=true) ?_ fun d b=>?_;refine Oi (fun c754=>?_) (fun _=>.mk (fun h=>by cases h));refine cO (cU2 a) fun x4=>?_;refine cO (T75) fun c=>?_;exact .mk (fun _=>c754);exact bW
theorem nQ2 {x1:aA YO} {x2:Int} (f:x1.length<=3) (g:∀y∈x1,y.sm):Ok (kJ1 x1 x2) (fun _=>True):=by
 unfold kJ1;have i:=f;refine sH (l:=x1) (fun q=>q) (wQ2 f (by decide)) rfl (fun k j m d a c b e=>?_) (fun m a=>?_) fun n=>?_;simp only[c,b,nt];have h:=g _ d;refine cO (nP2 h) fun o=>?_;refine oJ (fun _=>?_);exact .mk e;simp only[a,nf];exact bW;rcases n with p|_;exact bW;exact bW
theorem nR2 {x1:aA YO} {x2:Int} (b:x1.length<=3) (a:∀y∈x1,y.sm):Ok (kK1 x1 x2) (fun _=>True):=by
 unfold kK1;refine cO (nQ2 b a) fun x3=>?_;exact bW
theorem nS2 {x1:YW} {x2:Int} (a:x1.sm):Ok (kL1 x1 x2) (fun _=>True):=by
 unfold kL1;refine cO (nR2 a.aQ a.eF) fun x3=>?_;exact bW
theorem nT2 {x1:aA YW} {x2:Int} (f:x1.length<=5) (g:∀y∈x1,y.sm):Ok (kM1 x1 x2) (fun _=>True):=by
 unfold kM1;have i:=f;refine sH (l:=x1) (fun q=>q) (wQ2 f (by decide)) rfl (fun k j m d a c b e=>?_) (fun m a=>?_) fun n=>?_;simp only[c,b,nt];have h:=g _ d;refine cO (nS2 h) fun o=>?_;refine oJ (fun _=>?_);exact .mk e;simp only[a,nf];exact bW;rcases n with p|_;exact bW;exact bW
theorem nU2 {x1:aA YW} {x2:Int} (b:x1.length<=5) (a:∀y∈x1,y.sm):Ok (kN1 x1 x2) (fun _=>True):=by
 unfold kN1;refine cO (nT2 b a) fun x3=>?_;exact bW
theorem nV2 {x1:Int} {x2:YM} (a:x2.sm):Ok (kO1 x1 x2) (fun _=>True):=by
 unfold kO1;refine cO (T24 a) fun⟨x3,x4⟩=>?_;refine oJ (fun _=>?_);refine cO (nU2 a.aR a.fY) fun b=>?_;exact bW
theorem tI1 {x1:aA YV} {x2:Y0} {x3:Int} (o:x1.length+12<=1000000) (f:x2.sm):Ok (Iu x1 x2 x3) (fun v=>x1.length<=v.length/\v.length<=x1.length+12):=by
 unfold Iu;have i:=f.aD;refine og x2.aD x1 12 1 (wQ2 f.aD (by decide)) (fun m k q802 j g a d b c e=>?_) (fun q802 a b=>?_) fun r n=>?_;obtain⟨s,t⟩:=q802;dsimp only at a d c e b;simp only[d,c,nt];have h:=f.cC _ g;refine cO (nV2 h) fun p=>?_;refine Ob (mX (by first|omega|(simp only[wW2]at *;omega)) f) fun q l=>?_;exact .mk ⟨e,by dsimp only;omega⟩;obtain⟨s,t⟩:=q802;dsimp only at a b;simp only[a,nf];exact .mk (by dsimp only;omega);exact .mk (by omega)
theorem nW2 {x1:aA YV} {x2:Y0} {x3:Int} (c:x1.length+12<=1000000) (a:x2.sm):Ok (kQ1 x1 x2 x3) (fun v=>x1.length<=v.length/\v.length<=x1.length+12):=by
 unfold kQ1;refine Ob (tI1 (by first|omega|(simp only[wW2]at *;omega)) a) fun x4 b=>?_;exact .mk (by omega)
theorem mM1 {x1:aA YV} {x2:Y0} {x3:Int} (c:x1.length+12<=1000000) (a:x2.sm):Ok (dB1 x1 x2 x3) (fun v=>x1.length<=v.length/\v.length<=x1.length+12):=by
 unfold dB1;refine Ob (nW2 (by first|omega|(simp only[wW2]at *;omega)) a) fun x4 b=>?_;exact .mk (by omega)
theorem T76 {x1:Int}:Ok (F76 x1) (fun _=>True):=by
 unfold F76;refine Ob (P:=fun r=>r=true->(x1 !=0)=true) ?_ fun x3 a=>?_;refine Oi (fun c810=>?_) (fun _=>.mk (fun h=>by cases h));refine cO (T75) fun x2=>?_;exact .mk (fun _=>c810);exact bW
theorem tJ1 {x1:YO} {x2:Int} (a:x1.sm):Ok (Iv x1 x2) (fun _=>True):=by
 unfold Iv;refine cO (cI2 a.aT a.dQ) fun x3=>?_;refine Ob (P:=fun r=>r=true->(!x3)=true) ?_ fun d b=>?_;refine Oi (fun c814=>?_) (fun _=>.mk (fun h=>by cases h));refine cO (cU2 a) fun x4=>?_;refine cO (T76) fun c=>?_;exact .mk (fun _=>c814);exact bW
theorem tK1 {x1:aA YO} {x2:Int} (f:x1.length<=3) (g:∀y∈x1,y.sm):Ok (Iw x1 x2) (fun _=>True):=by
 unfold Iw;have i:=f;refine sH (l:=x1) (fun q=>q) (wQ2 f (by decide)) rfl (fun k j m d a c b e=>?_) (fun m a=>?_) fun n=>?_;simp only[c,b,nt];have h:=g _ d;refine cO (tJ1 h) fun o=>?_;refine oJ (fun _=>?_);exact .mk e;simp only[a,nf];exact bW;rcases n with p|_;exact bW;exact bW
theorem tL1 {x1:aA YO} {x2:Int} (b:x1.length<=3) (a:∀y∈x1,y.sm):Ok (Ix x1 x2) (fun _=>True):=by
 unfold Ix;refine cO (tK1 b a) fun x3=>?_;exact bW
theorem tM1 {x1:YW} {x2:Int} (a:x1.sm):Ok (Iy x1 x2) (fun _=>True):=by
 unfold Iy;refine cO (tL1 a.aQ a.eF) fun x3=>?_;exact bW
theorem tN1 {x1:aA YW} {x2:Int} (f:x1.length<=5) (g:∀y∈x1,y.sm):Ok (Iz x1 x2) (fun _=>True):=by
 unfold Iz;have i:=f;refine sH (l:=x1) (fun q=>q) (wQ2 f (by decide)) rfl (fun k j m d a c b e=>?_) (fun m a=>?_) fun n=>?_;simp only[c,b,nt];have h:=g _ d;refine cO (tM1 h) fun o=>?_;refine oJ (fun _=>?_);exact .mk e;simp only[a,nf];exact bW;rcases n with p|_;exact bW;exact bW
theorem tO1 {x1:aA YW} {x2:Int} (b:x1.length<=5) (a:∀y∈x1,y.sm):Ok (Ja x1 x2) (fun _=>True):=by
 unfold Ja;refine cO (tN1 b a) fun x3=>?_;exact bW
theorem tP1 {x1:Int} {x2:YM} (a:x2.sm):Ok (Jb x1 x2) (fun _=>True):=by
 unfold Jb;refine cO (T24 a) fun⟨x3,x4⟩=>?_;refine oJ (fun _=>?_);refine cO (tO1 a.aR a.fY) fun b=>?_;exact bW
theorem tQ1 {x1:aA YV} {x2:Y0} {x3:Int} (o:x1.length+12<=1000000) (f:x2.sm):Ok (Jc x1 x2 x3) (fun v=>x1.length<=v.length/\v.length<=x1.length+12):=by
 unfold Jc;have i:=f.aD;refine og x2.aD x1 12 1 (wQ2 f.aD (by decide)) (fun m k q862 j g a d b c e=>?_) (fun q862 a b=>?_) fun r n=>?_;obtain⟨s,t⟩:=q862;dsimp only at a d c e b;simp only[d,c,nt];have h:=f.cC _ g;refine cO (tP1 h) fun p=>?_;refine Ob (mX (by first|omega|(simp only[wW2]at *;omega)) f) fun q l=>?_;exact .mk ⟨e,by dsimp only;omega⟩;obtain⟨s,t⟩:=q862;dsimp only at a b;simp only[a,nf];exact .mk (by dsimp only;omega);exact .mk (by omega)
theorem tR1 {x1:aA YV} {x2:Y0} {x3:Int} (c:x1.length+12<=1000000) (a:x2.sm):Ok (Jd x1 x2 x3) (fun v=>x1.length<=v.length/\v.length<=x1.length+12):=by
 unfold Jd;refine Ob (tQ1 (by first|omega|(simp only[wW2]at *;omega)) a) fun x4 b=>?_;exact .mk (by omega)
theorem mN1 {x1:aA YV} {x2:Y0} {x3:Int} (c:x1.length+12<=1000000) (a:x2.sm):Ok (dC1 x1 x2 x3) (fun v=>x1.length<=v.length/\v.length<=x1.length+12):=by
 unfold dC1;refine Ob (tR1 (by first|omega|(simp only[wW2]at *;omega)) a) fun x4 b=>?_;exact .mk (by omega)
theorem T78 {x1:YP} {x2:YE} (a:x2.sm):Ok (F78 x1 x2) (fun _=>True):=by
 unfold F78;refine cO (T79 a) fun x3=>?_;exact bW
theorem nX2 {x1:aA YV} {x2:Y0} {x3:Int} (d8:x1.length+3600<=1000000) (y:x2.sm):Ok (Xp x1 x2 x3) (fun v=>x1.length<=v.length/\v.length<=x1.length+3600):=by
 unfold Xp;have N:=y.aD;refine og x2.aD x1 3600 300 (wQ2 y.aD (by decide)) (fun b0 D q881 S z c m g a q=>?_) (fun q881 c g=>?_) fun d3 d4=>?_;obtain⟨W,K⟩:=q881;dsimp only at c m a q g;simp only[m,a,nt];have u:=y.cC _ z;have O:=u.aR;refine og D.aR K 300 60 (wQ2 u.aR (by decide)) (fun b4 E q895 T A d n h b r=>?_) (fun q895 d h=>?_) fun d2 d5=>?_;obtain⟨X,L⟩:=q895;dsimp only at d n b r h;simp only[n,a,b,nt];have w:=u.fY _ A;have P:=w.aQ;refine og E.aQ L 60 20 (wQ2 w.aQ (by decide)) (fun b5 F q909 U B e o i k s=>?_) (fun q909 e i=>?_) fun d1 d6=>?_;obtain⟨Y,M⟩:=q909;dsimp only at e o k s i;simp only[o,a,b,k,nt];have x:=w.eF _ B;have R:=x.aT;refine og F.aT M 20 1 (wQ2 x.aT (by decide)) (fun b6 Z q923 V C f p j l t=>?_) (fun q923 f j=>?_) fun b9 d7=>?_;obtain⟨H,J⟩:=q923;dsimp only at f p l t j;simp only[p,a,b,k,l,nt];have G:=x.dQ _ C;refine cO (T78 G) fun b7=>?_;refine Ob (mX (by first|omega|(simp only[wW2]at *;omega)) y) fun b8 a0=>?_;exact .mk ⟨t,by dsimp only;omega⟩;obtain⟨H,J⟩:=q923;dsimp only at f j;simp only[f,nf];exact .mk (by dsimp only;omega);exact .mk ⟨s,by dsimp only;omega⟩;obtain⟨Y,M⟩:=q909;dsimp only at e i;simp only[e,nf];exact .mk (by dsimp only;omega);exact .mk ⟨r,by dsimp only;omega⟩;obtain⟨X,L⟩:=q895;dsimp only at d h;simp only[d,nf];exact .mk (by dsimp only;omega);exact .mk ⟨q,by dsimp only;omega⟩;obtain⟨W,K⟩:=q881;dsimp only at c g;simp only[c,nf];exact .mk (by dsimp only;omega);exact .mk (by omega)
theorem mO1 {x1:aA YV} {x2:Y0} {x3:Int} (c:x1.length+3600<=1000000) (a:x2.sm):Ok (Xq x1 x2 x3) (fun v=>x1.length<=v.length/\v.length<=x1.length+3600):=by
 unfold Xq;refine Ob (nX2 (by first|omega|(simp only[wW2]at *;omega)) a) fun x4 b=>?_;exact .mk (by omega)
theorem T27 {x1:Y0} {x2:Int} (c:x1.sm):Ok (F27 x1 x2) (fun v=>v.2.2=0->0<=v.1/\v.1<(x1.bV.length:Int)):=by
 unfold F27;have d:=c.bV;refine Oi (fun _=>.mk (fun h=>absurd (show(2:Int)=0 from h) (by decide))) (fun _=>?_);refine Ob (P:=fun r=>match r with|.inl p=>0<=p.1/\p.1<(x1.bV.length:Int)|.inr _=>True) (bO (l:=x1.bV) (fun q=>q.2) (fun _ _=>True) (by omega) rfl trivial (fun i e q g f hi hl _ hg hw=>?_) (fun q hi _=>?_)) fun r hr=>?_;obtain⟨s,x⟩:=q;dsimp only at hi hl hg hw;simp only[hl,hg,nt];exact Oi (fun _=>.mk ⟨by dsimp only;omega,hl⟩) (fun _=>.mk ⟨hw,trivial⟩);obtain⟨s,x⟩:=q;dsimp only at hi;simp only[hi,nf];exact bW;rcases r with⟨a,b⟩|_;exact .mk (fun _=>hr);exact .mk (fun h=>absurd (show(2:Int)=0 from h) (by decide))
theorem T81 {x1:YH} {x2:Int}:Ok (F81 x1 x2) (fun _=>True):=by
 unfold F81;refine cO (T82) fun⟨x3,x4⟩=>?_;refine cO (Oh) fun a=>?_;exact bW
theorem T84 {x1:YB} {x2:Int}:Ok (F84 x1 x2) (fun _=>True):=by
 unfold F84;refine cO (T81) fun x3=>?_;exact bW
theorem nY2 {x1:aA YB} {x2:Int} (e:x1.length<=12):Ok (lA1 x1 x2) (fun _=>True):=by
 unfold lA1;have g:=e;refine sH (l:=x1) (fun q=>q) (wQ2 e (by decide)) rfl (fun i h j f a c b d=>?_) (fun j a=>?_) fun k=>?_;simp only[c,b,nt];refine cO (T84) fun m=>?_;refine oJ (fun _=>?_);exact .mk d;simp only[a,nf];exact bW;rcases k with n|_;exact bW;exact bW
theorem T83 {x1:aA YB} {x2:Int} (a:x1.length<=12):Ok (F83 x1 x2) (fun _=>True):=by
 unfold F83;refine cO (nY2 a) fun x3=>?_;exact bW
theorem T86 {x1:YD} {x2:Int}:Ok (F86 x1 x2) (fun _=>True):=by
 unfold F86;refine cO (T81) fun x3=>?_;exact bW
theorem nZ2 {x1:aA YD} {x2:Int} (e:x1.length<=12):Ok (lB1 x1 x2) (fun _=>True):=by
 unfold lB1;have g:=e;refine sH (l:=x1) (fun q=>q) (wQ2 e (by decide)) rfl (fun i h j f a c b d=>?_) (fun j a=>?_) fun k=>?_;simp only[c,b,nt];refine cO (T86) fun m=>?_;refine oJ (fun _=>?_);exact .mk d;simp only[a,nf];exact bW;rcases k with n|_;exact bW;exact bW
theorem T85 {x1:aA YD} {x2:Int} (a:x1.length<=12):Ok (F85 x1 x2) (fun _=>True):=by
 unfold F85;refine cO (nZ2 a) fun x3=>?_;exact bW
theorem T80 {x1:YP} {x2:YE} {x3:YK} (a:x2.sm) (b:x3.s'.sm):Ok (F80 x1 x2 x3) (fun _=>True):=by
 unfold F80;refine cO (T79 a) fun x4=>?_;refine oJ (fun _=>?_);refine Ob (T27 b) fun⟨m,n,o⟩ d=>?_
 try dsimp only at d
 refine cO ?_ fun q=>?_;refine Oi (fun c965=>?_) (fun c965=>?_);have e:=b.bV;refine Ob (P:=fun x=>x∈x3.s'.bV) (cK (by(simp only[nm]at *;omega)) (by(simp only[nm]at *;omega)) (fun _ h _=>h)) fun p c=>?_;have i:=b.nY _ c;exact bW;exact bW;refine cO ?_ fun j=>?_;refine oJ (fun _=>?_);exact bW;refine cO (T83 a.cW) fun f=>?_;refine Ob (P:=fun r=>¬r=true->¬f=true) ?_ fun l g=>?_;refine Oi (fun _=>.mk (fun h=>absurd rfl h)) (fun c974=>?_);refine cO (T85 a.gN) fun k=>?_;exact .mk (fun _=>c974);exact bW
theorem tS1 {x1:aA YV} {x2:Y0} {x3:Int} (d8:x1.length+3600<=1000000) (s:x2.sm):Ok (Je x1 x2 x3) (fun v=>x1.length<=v.length/\v.length<=x1.length+3600):=by
 unfold Je;have V:=s.aD;refine og x2.aD x1 3600 300 (wQ2 s.aD (by decide)) (fun b7 F q987 W C h t j c w=>?_) (fun q987 h j=>?_) fun d5 d6=>?_;obtain⟨a0,K⟩:=q987;dsimp only at h t c w j;simp only[t,c,nt];have y:=s.cC _ C;have N:=y.aR;refine og F.aR K 300 60 (wQ2 y.aR (by decide)) (fun b8 G q1001 X D i u k g x=>?_) (fun q1001 i k=>?_) fun d4 d7=>?_;obtain⟨b0,L⟩:=q1001;dsimp only at i u g x k;simp only[u,c,g,nt];have l:=y.fY _ D;have O:=l.aQ;refine og G.aQ L 60 20 (wQ2 l.aQ (by decide)) (fun Y B q1015 R z a o d f q=>?_) (fun q1015 a d=>?_) fun d3 b5=>?_;obtain⟨b4,M⟩:=q1015;dsimp only at a o f q d;simp only[o,c,g,f,nt];have m:=l.eF _ z;have P:=m.aT;refine og B.aT M 20 1 (wQ2 m.aT (by decide)) (fun Z T q1029 S A b p e n r=>?_) (fun q1029 b e=>?_) fun d2 b6=>?_;obtain⟨H,J⟩:=q1029;dsimp only at b p n r e;simp only[p,c,g,f,n,nt];have E:=m.dQ _ A;refine cO (T80 E s) fun b9=>?_;refine Ob (mX (by first|omega|(simp only[wW2]at *;omega)) s) fun d1 U=>?_;exact .mk ⟨r,by dsimp only;omega⟩;obtain⟨H,J⟩:=q1029;dsimp only at b e;simp only[b,nf];exact .mk (by dsimp only;omega);exact .mk ⟨q,by dsimp only;omega⟩;obtain⟨b4,M⟩:=q1015;dsimp only at a d;simp only[a,nf];exact .mk (by dsimp only;omega);exact .mk ⟨x,by dsimp only;omega⟩;obtain⟨b0,L⟩:=q1001;dsimp only at i k;simp only[i,nf];exact .mk (by dsimp only;omega);exact .mk ⟨w,by dsimp only;omega⟩;obtain⟨a0,K⟩:=q987;dsimp only at h j;simp only[h,nf];exact .mk (by dsimp only;omega);exact .mk (by omega)
theorem mP1 {x1:aA YV} {x2:Y0} {x3:Int} (c:x1.length+3600<=1000000) (b:x2.sm):Ok (dE1 x1 x2 x3) (fun v=>x1.length<=v.length/\v.length<=x1.length+3600):=by
 unfold dE1;refine Ob (tS1 (by first|omega|(simp only[wW2]at *;omega)) b) fun x4 a=>?_;exact .mk (by omega)
theorem oA2 {x1:YB}:Ok (dF1 x1) (fun _=>True):=by
 unfold dF1;exact bW
theorem tT1 {x1:aA YB} (e:x1.length<=12):Ok (Jf x1) (fun _=>True):=by
 unfold Jf;have g:=e;refine sH (l:=x1) (fun q=>q) (wQ2 e (by decide)) rfl (fun i h x4 f a c b d=>?_) (fun x4 a=>?_) fun j=>?_;simp only[c,b,nt];refine cO (oA2) fun k=>?_;refine oJ (fun _=>?_);exact .mk d;simp only[a,nf];exact bW;rcases j with m|_;exact bW;exact bW
theorem cV2 {x1:aA YB} (a:x1.length<=12):Ok (Nf x1) (fun _=>True):=by
 unfold Nf;refine cO (tT1 a) fun x2=>?_;exact bW
theorem T88 {x1:YE} (b:x1.sm):Ok (F88 x1) (fun _=>True):=by
 unfold F88;refine Ob (P:=fun r=>r=true->(x1.dD==1)=true) ?_ fun x3 a=>?_;refine Oi (fun c1050=>?_) (fun _=>.mk (fun h=>by cases h));refine cO (cV2 b.cW) fun x2=>?_;exact .mk (fun _=>c1050);exact bW
theorem eT1 {x1:Y0} {x2 x3 x4:Int} (b:x1.sm):Ok (Cv x1 x2 x3 x4) (fun v=>v.length<=20/\(∀y∈v,y.sm)/\(v=[]\/∃x y z,bB x1.aD x2=some x/\bB x.aR x3=some y/\bB y.aQ x4=some z/\v=z.aT)):=by
 unfold Cv;refine Ob (P:=fun r=>¬r=true->0<=x2/\0<=x3/\∃x,bB x1.aD x2=some x/\x3<(x.aR.length:Int)) ?_ fun g e=>?_;refine Oi (fun _=>.mk (fun h=>absurd rfl h)) (fun hc=>?_);simp only[wY2,wS2,zK2]at hc;exact Ok.bindE (cK (Q:=fun _=>True) (by omega) (by omega) (fun _ _ _=>trivial)) fun x a _=>.mk (fun h=>⟨by omega,by omega,x,a,by simp at h;omega⟩);refine Ob (P:=fun r=>¬r=true->∃x y,bB x1.aD x2=some x/\bB x.aR x3=some y/\0<=x4/\x4<(y.aQ.length:Int)) ?_ fun i f=>?_;refine Oi (fun _=>.mk (fun h=>absurd rfl h)) (fun hc=>?_);simp only[wY2,wS2,zK2]at hc;obtain⟨h0,h1,x,a,hs⟩:=e hc.1;rw[a,wJ2];exact Ok.bindE (cK (Q:=fun _=>True) h1 hs (fun _ _ _=>trivial)) fun y hy _=>.mk (fun h=>⟨x,y,rfl,hy,by omega,by simp at h;omega⟩);refine Oi (fun _=>.mk ⟨xA2 _,fun _ h=>(List.not_mem_nil h).elim,.inl rfl⟩) (fun hc=>?_);obtain⟨x,y,a,hy,h0,h1⟩:=f hc;rw[a,wJ2,hy,wJ2];refine Ok.bindE (cK (Q:=fun _=>True) h0 h1 (fun _ _ _=>trivial)) fun z c _=>?_;have d:=((b.cC x (fF a).2.2.1).fY y (fF hy).2.2.1).eF z (fF c).2.2.1;exact .mk ⟨d.aT,d.dQ,.inr ⟨x,y,z,rfl,hy,c,rfl⟩⟩
theorem cW2 {x1:Y0} {x2:YP} (a:x1.sm):Ok (Qs x1 x2) (fun r=>r=0->x2.dD=4/\0<=x2.bP/\∃l,Cv x1 x2.aY x2.bS x2.bU=some l/\x2.bP<(l.length:Int)):=by
 unfold Qs;refine Oi (fun _=>.mk (fun h=>by cases h)) (fun hk=>?_);refine Ob (P:=fun r=>¬r=true->0<=x2.bP/\∃l,Cv x1 x2.aY x2.bS x2.bU=some l/\x2.bP<(l.length:Int)) (Oi (fun _=>.mk (fun h=>absurd rfl h)) (fun hc=>?_)) fun b hb=>?_;exact Ok.bindE (eT1 a) fun l hl _=>.mk (fun h=>⟨by simpa using hc,l,hl,by simpa using h⟩);exact Oi (fun _=>.mk (fun h=>by cases h)) (fun hc=>.mk (fun _=>⟨by simpa using hk,hb hc⟩))
theorem cX2 {x1 x2:Int} {x3 x4:Int}:Ok (dG1 x1 x2 x3 x4) (fun v=>v.aY=x1):=by
 unfold dG1;exact .mk (by rfl)
theorem T89 {x1:Y0} {x2:YP} (b:x1.sm):Ok (F89 x1 x2) (fun v=>v.2=true->0<=x2.aY/\x2.aY<(x1.aD.length:Int)/\0<=v.1.aY/\v.1.aY<(x1.aD.length:Int)):=by
 unfold F89;refine Ob (cW2 b) fun c hc=>?_;refine Oi (fun _=>.mk (fun h=>by cases h)) (fun hd=>?_);obtain⟨hk,h0,l,hl,g⟩:=hc (by simpa using hd);have f:=(eT1 b).of hl
 have d:0<=x2.aY/\x2.aY<(x1.aD.length:Int):=by
  rcases f.2.2 with h|⟨x,y,z,hx,_⟩
  rw[h,wW2]at g;omega;have:=fF hx;exact⟨this.1,this.2.1⟩
 rw[hl,wJ2];refine Oi (fun _=>?_) (fun _=>?_);exact Ob cX2 fun a e=>.mk (fun _=>⟨d.1,d.2,by dsimp only;omega,by dsimp only;omega⟩);refine Ob (eT1 b) fun i h2=>?_;refine Oi (fun hc=>?_) (fun _=>.mk (fun h=>by cases h));refine Ob cX2 fun a e=>.mk (fun _=>?_);dsimp only at e ⊢;rcases h2.2.2 with h|⟨x,y,z,hx,_⟩
 rw[h]at hc;simp at hc;have:=fF hx;rw[e];exact⟨d.1,d.2,this.1,this.2.1⟩
theorem oB2 {x1:YE} (a:x1.sm):Ok (lE1 x1) (fun v=>v.sm):=by
 unfold lE1;rw[xL (xJ2 a.cW (by decide)),xL (xJ2 a.gN (by decide)),xL (xJ2 a.dP (by decide))];exact .mk ⟨a.cW,a.gN,a.dP,a.wC⟩
theorem T90 {x1:Y0} {x2:YP} (a:x1.sm):Ok (F90 x1 x2) (fun v=>v.1.sm):=by
 unfold F90;refine Ob (cW2 a) fun c hc=>?_;refine Oi (fun _=>.mk ⟨xA2 _,xA2 _,xA2 _,fun _ h=>(List.not_mem_nil h).elim⟩) (fun hd=>?_);obtain⟨hk,h0,l,hl,d⟩:=hc (by simpa using hd);have b:=(eT1 a).of hl;rw[hl,wJ2];exact Ob (cK (Q:=fun x=>x.sm) h0 d (fun x e _=>b.2.1 x e)) fun x e=>Ob (oB2 e) fun y hy=>.mk hy
theorem oC2 {x1 x2:YB}:Ok (lF1 x1 x2) (fun _=>True):=by
 unfold lF1;exact bW
theorem tU1 {x1:aA YB} {x2:YB} (e:x1.length<=12):Ok (Jg x1 x2) (fun _=>True):=by
 unfold Jg;have g:=e;refine sH (l:=x1) (fun q=>q) (wQ2 e (by decide)) rfl (fun i h j f a c b d=>?_) (fun j a=>?_) fun k=>?_;simp only[c,b,nt];refine cO (oC2) fun m=>?_;refine oJ (fun _=>?_);exact .mk d;simp only[a,nf];exact bW;rcases k with n|_;exact bW;exact bW
theorem cY2 {x1:aA YB} {x2:YB} (a:x1.length<=12):Ok (Ud x1 x2) (fun _=>True):=by
 unfold Ud;refine cO (tU1 a) fun x3=>?_;exact bW
theorem T91 {x1 x2:YE} (g:x1.sm) (m:x2.sm):Ok (F91 x1 x2) (fun _=>True):=by
 unfold F91;refine oJ (fun _=>?_);have j:=g.cW;refine sH (l:=x1.cW) (fun q=>q) (wQ2 g.cW (by decide)) rfl (fun n e u i a c b d=>?_) (fun u a=>?_) fun p=>?_;simp only[c,b,nt];refine Ob (P:=fun r=>r=true->e.tU=true) ?_ fun t f=>?_;refine Oi (fun c1079=>?_) (fun _=>.mk (fun h=>by cases h));refine Ob (P:=fun r=>r=true->(x2.dD==1)=true) ?_ fun s k=>?_;refine Oi (fun c1081=>?_) (fun _=>.mk (fun h=>by cases h));refine cO (cY2 m.cW) fun v=>?_;exact .mk (fun _=>c1081);exact .mk (fun _=>c1079);refine Oi (fun c1083=>?_) (fun c1083=>?_);have o:=f c1083;exact bW;exact .mk d;simp only[a,nf];exact bW;rcases p with _|_;exact bW;exact bW
theorem T87 {x1:YP} {x2:YE} {x3:YK} (c:x2.sm) (d:x3.s'.sm):Ok (F87 x1 x2 x3) (fun _=>True):=by
 unfold F87;refine cO (T88 c) fun x4=>?_;refine oJ (fun _=>?_);refine Ob (T89 d) fun⟨i,g⟩ b=>?_
 try dsimp only at b
 refine Ob (T90 d) fun⟨j,k⟩ a=>?_
 try dsimp only at a
 refine Ob (P:=fun r=>¬r=true->¬(!g)=true) ?_ fun f e=>?_;refine Oi (fun _=>.mk (fun h=>absurd rfl h)) (fun c1090=>?_);refine cO (T91 c a) fun l=>?_;exact .mk (fun _=>c1090);exact bW
theorem tV1 {x1:aA YV} {x2:Y0} {x3:Int} (d8:x1.length+3600<=1000000) (y:x2.sm):Ok (xF x1 x2 x3) (fun v=>x1.length<=v.length/\v.length<=x1.length+3600):=by
 unfold xF;have N:=y.aD;refine og x2.aD x1 3600 300 (wQ2 y.aD (by decide)) (fun Y D q1103 S z c p g a t=>?_) (fun q1103 c g=>?_) fun d7 b7=>?_;obtain⟨b4,K⟩:=q1103;dsimp only at c p a t g;simp only[p,a,nt];have l:=y.cC _ z;have O:=l.aR;refine og D.aR K 300 60 (wQ2 l.aR (by decide)) (fun Z E q1117 T A d q h b u=>?_) (fun q1117 d h=>?_) fun d6 b8=>?_;obtain⟨b5,L⟩:=q1117;dsimp only at d q b u h;simp only[q,a,b,nt];have m:=l.fY _ A;have P:=m.aQ;refine og E.aQ L 60 20 (wQ2 m.aQ (by decide)) (fun a0 F q1131 U B e r i k w=>?_) (fun q1131 e i=>?_) fun d5 b9=>?_;obtain⟨b6,M⟩:=q1131;dsimp only at e r k w i;simp only[r,a,b,k,nt];have n:=m.eF _ B;have R:=n.aT;refine og F.aT M 20 1 (wQ2 n.aT (by decide)) (fun b0 W q1145 V C f s j o x=>?_) (fun q1145 f j=>?_) fun d4 d1=>?_;obtain⟨H,J⟩:=q1145;dsimp only at f s o x j;simp only[s,a,b,k,o,nt];have G:=n.dQ _ C;refine cO (T87 G y) fun d2=>?_;refine Ob (mX (by first|omega|(simp only[wW2]at *;omega)) y) fun d3 X=>?_;exact .mk ⟨x,by dsimp only;omega⟩;obtain⟨H,J⟩:=q1145;dsimp only at f j;simp only[f,nf];exact .mk (by dsimp only;omega);exact .mk ⟨w,by dsimp only;omega⟩;obtain⟨b6,M⟩:=q1131;dsimp only at e i;simp only[e,nf];exact .mk (by dsimp only;omega);exact .mk ⟨u,by dsimp only;omega⟩;obtain⟨b5,L⟩:=q1117;dsimp only at d h;simp only[d,nf];exact .mk (by dsimp only;omega);exact .mk ⟨t,by dsimp only;omega⟩;obtain⟨b4,K⟩:=q1103;dsimp only at c g;simp only[c,nf];exact .mk (by dsimp only;omega);exact .mk (by omega)
theorem mQ1 {x1:aA YV} {x2:Y0} {x3:Int} (c:x1.length+3600<=1000000) (b:x2.sm):Ok (Xr x1 x2 x3) (fun v=>x1.length<=v.length/\v.length<=x1.length+3600):=by
 unfold Xr;refine Ob (tV1 (by first|omega|(simp only[wW2]at *;omega)) b) fun x4 a=>?_;exact .mk (by omega)
theorem oD2 {x1:YE} {x2:Int} (a:x1.sm) (c:0<=x2):Ok (lI1 x1 x2) (fun v=>v=false->x2<(x1.dP.length:Int)):=by
 unfold lI1;refine Ob (P:=fun r=>r=false->x2<(x1.dP.length:Int)) (Oi (fun _=>.mk (fun h=>by cases h)) (fun hc=>?_)) fun b hb=>.mk hb;simp only[wS2]at hc;exact Ob (cK (Q:=fun _=>True) c (by omega) (fun _ _ _=>trivial)) fun y _=>.mk (fun _=>by omega)
theorem oE2 {x1 x2 x3:Int} {x4:aA (YP×Bool)} {t:aA YV} {o:Y0} {B:Int} (u:t.length+0<=1000000) (d:o.sm) (A:0<=x1) (hy:0<=x2) (p:0<=x3):Ok (lJ1 x1 x2 x3 x4 t o B) (fun _=>True):=by
 unfold lJ1;have D:=d.aD;refine Ob (P:=fun _=>True) (bO (l:=o.aD) (fun q=>q.1) (fun _ _=>True) (by omega) rfl trivial (fun i e q _ g hi hl _ hg hw=>?_) (fun q hi _=>?_)) fun⟨a1,a2,a3,a4,a5,a6,a7⟩ _=>?_;obtain⟨x,k,st,m,n,ev,y,l⟩:=q;dsimp only at hi hl hg hw;simp only[hl,hg,nt];refine Ob (P:=fun r=>¬r=true->∃y,bB e.aR x1=some y/\x2<(y.aQ.length:Int)) (Oi (fun _=>.mk (fun h=>absurd rfl h)) (fun hc=>?_)) fun b hb=>?_;simp only[wS2]at hc;exact Ok.bindE (cK (Q:=fun _=>True) A (by omega) (fun _ _ _=>trivial)) fun y hy _=>.mk (fun h=>⟨y,hy,by simpa using h⟩);refine Oi (fun _=>.mk ⟨hw,trivial⟩) (fun hc=>?_);obtain⟨c,f,hv⟩:=hb hc;rw[f,wJ2];refine Ok.bindE (cK (Q:=fun _=>True) hy hv (fun _ _ _=>trivial)) fun z j _=>?_;have s:=((d.cC e g).fY c (fF f).2.2.1).eF z (fF j).2.2.1;have C:=s.aT;refine Ob (P:=fun _=>True) (bO (l:=z.aT) (fun q=>q.1) (fun _ _=>True) (by omega) rfl trivial (fun i e q _ g hi hl _ hg hw=>?_) (fun q hi _=>?_)) fun⟨a1,a2,a3,a4,a5,a6,a7⟩ _=>.mk ⟨hw,trivial⟩;obtain⟨x,k,st,m,n,ev,y,l⟩:=q;dsimp only at hi hl hg hw;simp only[hl,hg,nt];refine Ob (oD2 (s.dQ e g) p) fun a v=>?_;refine Oi (fun _=>.mk ⟨hw,trivial⟩) (fun hc=>?_);refine Ob (cK (Q:=fun _=>True) p (v (by simpa using hc)) (fun _ _ _=>trivial)) fun w _=>?_;refine Ob (P:=fun _=>True) (Oi (fun _=>bW) (fun _=>bW)) fun _ _=>?_;exact Ob (P:=fun _=>True) (Oi (fun _=>bW) (fun _=>bW)) fun _ _=>.mk ⟨hw,trivial⟩;obtain⟨x,k,st,m,n,ev,y,l⟩:=q;dsimp only at hi;simp only[hi,nf];exact bW;obtain⟨x,k,st,m,n,ev,y,l⟩:=q;dsimp only at hi;simp only[hi,nf];exact bW;exact Ob (P:=fun _=>True) (Oi (fun _=>bW) (fun _=>bW)) fun _ _=>bW
theorem T93 {x1:YP} {x2:YE} {x3:aA (YP×Bool)} (a:x2.sm):Ok (F93 x1 x2 x3) (fun _=>True):=by
 unfold F93;exact bW
theorem tW1 {x1:aA (YP×Bool)} {x2:aA YV} {x3:Y0} {x4:Int} (d8:x2.length+3600<=1000000) (y:x3.sm):Ok (Jh x1 x2 x3 x4) (fun v=>x2.length<=v.length/\v.length<=x2.length+3600):=by
 unfold Jh;have N:=y.aD;refine og x3.aD x2 3600 300 (wQ2 y.aD (by decide)) (fun Y D q1162 S z c p g a t=>?_) (fun q1162 c g=>?_) fun d7 b7=>?_;obtain⟨b4,K⟩:=q1162;dsimp only at c p a t g;simp only[p,a,nt];have l:=y.cC _ z;have O:=l.aR;refine og D.aR K 300 60 (wQ2 l.aR (by decide)) (fun Z E q1176 T A d q h b u=>?_) (fun q1176 d h=>?_) fun d6 b8=>?_;obtain⟨b5,L⟩:=q1176;dsimp only at d q b u h;simp only[q,a,b,nt];have m:=l.fY _ A;have P:=m.aQ;refine og E.aQ L 60 20 (wQ2 m.aQ (by decide)) (fun a0 F q1190 U B e r i k w=>?_) (fun q1190 e i=>?_) fun d5 b9=>?_;obtain⟨b6,M⟩:=q1190;dsimp only at e r k w i;simp only[r,a,b,k,nt];have n:=m.eF _ B;have R:=n.aT;refine og F.aT M 20 1 (wQ2 n.aT (by decide)) (fun b0 W q1204 V C f s j o x=>?_) (fun q1204 f j=>?_) fun d4 d1=>?_;obtain⟨H,J⟩:=q1204;dsimp only at f s o x j;simp only[s,a,b,k,o,nt];have G:=n.dQ _ C;refine cO (T93 G) fun d2=>?_;refine Ob (mX (by first|omega|(simp only[wW2]at *;omega)) y) fun d3 X=>?_;exact .mk ⟨x,by dsimp only;omega⟩;obtain⟨H,J⟩:=q1204;dsimp only at f j;simp only[f,nf];exact .mk (by dsimp only;omega);exact .mk ⟨w,by dsimp only;omega⟩;obtain⟨b6,M⟩:=q1190;dsimp only at e i;simp only[e,nf];exact .mk (by dsimp only;omega);exact .mk ⟨u,by dsimp only;omega⟩;obtain⟨b5,L⟩:=q1176;dsimp only at d h;simp only[d,nf];exact .mk (by dsimp only;omega);exact .mk ⟨t,by dsimp only;omega⟩;obtain⟨b4,K⟩:=q1162;dsimp only at c g;simp only[c,nf];exact .mk (by dsimp only;omega);exact .mk (by omega)
theorem mR1 {x1:aA YV} {x2:Y0} {x3:Int} (e:x1.length+3600<=1000000) (a:x2.sm):Ok (dI1 x1 x2 x3) (fun v=>x1.length<=v.length/\v.length<=x1.length+3600):=by
 unfold dI1;refine Ob (T26 a) fun n f=>?_;refine Ob (P:=fun _=>True) (iW (fun q=>q.1) n (fun _=>True) f (by decide) trivial (fun q _ h1 h2=>?_)) fun m _=>?_;obtain⟨x,l⟩:=q;dsimp only at h1 h2 ⊢;refine Oi (fun hc=>?_) (fun _=>bW);simp only[wS2]at hc;refine Ob (P:=fun _=>True) (iW (fun q=>q.1) 2 (fun _=>True) (by decide) (by dsimp only;omega) trivial (fun q _ b g2=>?_)) fun m _=>.mk ⟨hc,h2 hc,trivial⟩;obtain⟨y,l⟩:=q;dsimp only at b g2 ⊢;refine Oi (fun hd=>?_) (fun _=>bW);simp only[wS2]at hd;refine Ob (P:=fun _=>True) (iW (fun q=>q.1) 4 (fun _=>True) (by decide) (by dsimp only;omega) trivial (fun q _ c d=>?_)) fun m _=>.mk ⟨hd,g2 hd,trivial⟩;obtain⟨z,l⟩:=q;dsimp only at c d ⊢;refine Oi (fun he=>?_) (fun _=>bW);simp only[wS2]at he;exact Ob (oE2 (by omega) a h1 b c) fun m _=>.mk ⟨he,d he,trivial⟩;exact Ob (tW1 (by omega) a) fun v hv=>.mk (by omega)
theorem mS1 {x1:Y0} (a:x1.sm):Ok (zT x1) (fun _=>True):=by
 unfold zT;exact bW
theorem eU1 {x1 x2:Int} {x3 x4:Int} {e f g:Int} {c:YJ} {h:Bool} {a:YP} {b:YZ} (d:c.sm):Ok (vR x1 x2 x3 x4 e f g c h a b) (fun _=>True):=by
 unfold vR;refine oJ (fun _=>?_);exact bW
theorem Ra {x1 x2:Int} {x3 x4:Int} {c d e:Int} {f:YF} {g:Bool} {a:YP} {b:YZ}:Ok (pJ x1 x2 x3 x4 c d e f g a b) (fun _=>True):=by
 unfold pJ;refine oJ (fun _=>?_);exact bW
theorem Rb {x1 x2:Int} {x3 x4:Int} {e f g:Int} {c:YM} {h:Bool} {a:YP} {b:YZ} (d:c.sm):Ok (pK x1 x2 x3 x4 e f g c h a b) (fun _=>True):=by
 unfold pK;refine oJ (fun _=>?_);exact bW
theorem Re {x1 x2:Int} {x3 x4:Int} {e f g:Int} {c:YE} {h:Bool} {a:YP} {b:YZ} (d:c.sm):Ok (pL x1 x2 x3 x4 e f g c h a b) (fun _=>True):=by
 unfold pL;refine oJ (fun _=>?_);exact bW
theorem Rf {x1 x2:Int} {x3 x4:Int} {c d e:Int} {f:YN} {g:Bool} {a:YP} {b:YZ}:Ok (pM x1 x2 x3 x4 c d e f g a b) (fun _=>True):=by
 unfold pM;refine oJ (fun _=>?_);exact bW
theorem mT1 {x1:Y0} {x2:Bool} {x3:YP} {x4:YZ} (g:x1.sm):Ok (zU x1 x2 x3 x4) (fun v=>match v with|.inl p=>p.dD=4->0<=p.bP/\x1.pl p.aY p.bS p.bU|.inr _=>True):=by
 unfold zU;have hP:=g.bV;have Z:=g.aD;have U:=g.bY;refine Ob (P:=fun r=>match r with|.inl p=>p.1≠4|.inr _=>True) (bO (l:=x1.bV) (fun q=>q.2) (fun _ _=>True) (by omega) rfl trivial (fun i e q D B hi hl _ hg hw=>?_) (fun q hi _=>?_)) fun r hr=>?_;obtain⟨s,x⟩:=q;dsimp only at hi hl hg hw;simp only[hl,hg,nt];refine Ob (eU1 (g.nY e B)) fun r _=>?_;rcases r with _|_;exact .mk (show(1:Int)≠4 by decide);have U:=(g.nY e B).dZ;refine Ob (P:=fun _=>True) (bO (l:=e.dZ) (fun q=>q.2) (fun _ _=>True) (by omega) rfl trivial (fun i2 e2 q W V F A _ m C=>?_) (fun q hi _=>?_)) fun r _=>?_;obtain⟨s,y⟩:=q;dsimp only at F A m C;simp only[A,m,nt];refine Ob Ra fun r _=>?_;rcases r with _|_;exact bW;exact .mk ⟨C,trivial⟩;obtain⟨s,y⟩:=q;dsimp only at hi;simp only[hi,nf];exact bW;rcases r with⟨a,b⟩|a;exact .mk (show(2:Int)≠4 by decide);exact .mk ⟨hw,trivial⟩;obtain⟨s,y⟩:=q;dsimp only at hi;simp only[hi,nf];exact bW;rcases r with⟨k,p,st⟩|_;exact .mk (fun h=>absurd h hr);refine Ob (P:=fun r=>match r with|.inl p=>p.1=4->0<=p.2.2.2.2/\x1.pl p.2.2.1 p.2.1 p.2.2.2.1|.inr _=>True) (bO (l:=x1.aD) (fun q=>q) (fun _ _=>True) (by omega) rfl trivial (fun i e q D B hi hl _ hg hw=>?_) (fun q hi _=>?_)) fun r hr=>?_;simp only[hl,hg,nt];have R:=g.cC e B;have X:=R.aR;refine Ob (Rb R) fun r _=>?_;rcases r with _|_;exact .mk (fun h=>absurd (show(3:Int)=4 from h) (by decide));refine Ob (P:=fun r=>match r with|.inl p=>0<=p.2.2/\x1.pl q p.1 p.2.1|.inr _=>True) (bO (l:=e.aR) (fun q=>q) (fun _ _=>True) (by omega) rfl trivial (fun j c w D J hj hlc _ o M=>?_) (fun q hi _=>?_)) fun r hr=>?_;simp only[hlc,o,nt];have S:=R.fY c J;have hV:=S.aQ;refine Ob (P:=fun r=>match r with|.inl p=>0<=p.2/\x1.pl q w p.1|.inr _=>True) (bO (l:=c.aQ) (fun q=>q) (fun _ _=>True) (by omega) rfl trivial (fun k v u D L hk H _ z O=>?_) (fun q hi _=>?_)) fun r hr=>?_;simp only[H,z,nt];have T:=S.eF v L;have Y:=T.aT;refine Ob (P:=fun r=>match r with|.inl x=>0<=x|.inr _=>True) (bO (l:=v.aT) (fun q=>q) (fun _ _=>True) (by omega) rfl trivial (fun n ev t D K ht G _ E N=>?_) (fun q hi _=>?_)) fun r hr=>?_;simp only[G,E,nt];refine Ob (Re (T.dQ ev K)) fun r _=>?_;rcases r with _|_;exact .mk (show(0:Int)<=t by omega);exact .mk ⟨N,trivial⟩;simp only[hi,nf];exact bW;rcases r with x|_;exact .mk ⟨hr,e,c,v,hg,o,z⟩;exact .mk ⟨O,trivial⟩;simp only[hi,nf];exact bW;rcases r with⟨a,b⟩|_;exact .mk hr;exact .mk ⟨M,trivial⟩;simp only[hi,nf];exact bW;rcases r with⟨a,b,c⟩|_;exact .mk (fun _=>hr);exact .mk ⟨hw,trivial⟩;simp only[hi,nf];exact bW;rcases r with⟨a,b,c,d,f⟩|_;exact .mk hr;refine Ob (P:=fun _=>True) (bO (l:=x1.bY) (fun q=>q) (fun _ _=>True) (by omega) rfl trivial (fun i e q D B hi hl _ hg hw=>?_) (fun q hi _=>?_)) fun r hr=>?_;simp only[hl,hg,nt];refine Ob Rf fun r _=>?_;rcases r with _|_;exact bW;exact .mk ⟨hw,trivial⟩;simp only[hi,nf];exact bW;rcases r with x|_;exact .mk (fun h=>absurd (show(5:Int)=4 from h) (by decide));exact bW
theorem oF2 {x1:Y0} {x2:YZ} (a:x1.sm):Ok (lL1 x1 x2) (fun v=>v.2=true->v.1.dD=4->0<=v.1.bP/\x1.pl v.1.aY v.1.bS v.1.bU):=by
 unfold lL1;refine Oi (fun _=>.mk (fun h=>by cases h)) (fun _=>?_);refine Ob (mS1 a) fun _ _=>?_;refine Ob (mT1 a) fun r hr=>?_;rcases r with p|_;exact .mk (fun _=>hr);exact .mk (fun h=>by cases h)
theorem oG2 {x1:aA Int} (b:x1.length<=20):Ok (Xu x1) (fun _=>True):=by
 unfold Xu;refine Ob (mU (by omega) (by omega) (by omega)) fun g h2=>?_;refine Ob (P:=fun v=>v.length=x1.length) (iW (fun q=>q.1) (x1.length:Int) (fun q=>q.2.length=x1.length) (by omega) (by dsimp only;omega) (by rw[h2];simp) (fun q a h1 h2=>?_)) fun v hv=>bW;obtain⟨i,l⟩:=q;dsimp only at a h1 h2 ⊢;refine Oi (fun hc=>?_) (fun _=>.mk a);simp only[wS2]at hc;rw[bK (n:=i-1) (by omega) (by omega)];refine Ob (gR (by omega) (by omega)) fun j d=>?_;refine Ob (kP (by omega)) fun x _=>?_;refine Ob (cK (Q:=fun _=>True) (by omega) (by omega) (fun _ _ _=>trivial)) fun y _=>?_;refine Ob (gR (by omega) (by omega)) fun f c=>?_;exact Ob (Jl (by omega)) fun m e=>.mk ⟨hc,h2 hc,by dsimp only;omega⟩
theorem oH2 {x1:YO} {x2:Int} (b:x1.sm):Ok (Qt x1 x2) (fun _=>True):=by
 unfold Qt;refine Ob (cT2 b) fun⟨x3,x4⟩ a=>?_
 try dsimp only at a
 refine oJ (fun _=>?_);refine cO (oG2 a) fun c=>?_;exact bW
theorem cZ2 {x1:YK} {x2:YZ} (c:x1.s'.sm):Ok (dL1 x1 x2) (fun _=>True):=by
 unfold dL1;refine Ob (oF2 c) fun⟨p,f⟩ hp=>?_;dsimp only at hp;refine Oi (fun _=>bW) (fun hc=>?_);simp only[wY2,zK2,xG2,Bool.not_eq_false,bne_iff_ne,ne_eq,Decidable.not_not]at hc;obtain⟨h0,x,y,z,d,hy,g⟩:=hp hc.1 hc.2;simp only[d,hy,g,wJ2];have h:=c.cC x (fF d).2.2.1;have i:=(h.fY y (fF hy).2.2.1).eF z (fF g).2.2.1;refine Ob (T24 h) fun⟨a,b⟩ _=>?_;refine Ob (oH2 i) fun⟨on,e⟩ _=>?_;refine Oi (fun _=>bW) (fun hd=>?_);simp only[wS2]at hd;exact Ob (cK (Q:=fun _=>True) h0 (by dsimp only at hd ⊢;omega) (fun _ _ _=>trivial)) fun w _=>bW
theorem mU1 {x1 x2:Int}:Ok (Qu x1 x2) (fun _=>True):=by
 unfold Qu;exact bW
theorem dA2 {x1:YQ}:Ok (dM1 x1) (fun _=>True):=by
 unfold dM1;refine cO (mU1) fun x2=>?_;refine Ob (P:=fun r=>r=true->x2=true) ?_ fun x4 a=>?_;refine Oi (fun c1219=>?_) (fun _=>.mk (fun h=>by cases h));refine cO (mU1) fun x3=>?_;exact .mk (fun _=>c1219);refine Ob (P:=fun r=>r=true->x4=true) ?_ fun g b=>?_;refine Oi (fun c1222=>?_) (fun _=>.mk (fun h=>by cases h));have e:=a c1222;refine cO (mU1) fun i=>?_;exact .mk (fun _=>c1222);refine Ob (P:=fun r=>r=true->g=true) ?_ fun k d=>?_;refine Oi (fun c1226=>?_) (fun _=>.mk (fun h=>by cases h));have c:=b c1226;have f:=a c;refine cO (mU1) fun j=>?_;exact .mk (fun _=>c1226);exact bW
theorem dB2 {x1:Int}:Ok (dN1 x1) (fun _=>True):=by
 unfold dN1;exact bW
theorem dC2 {x1:Int}:Ok (Xv x1) (fun _=>True):=by
 unfold Xv;exact bW
theorem T60 {x1 x2:Int}:Ok (Og x1 x2) (fun _=>True):=by
 unfold Og;refine cO (dC2) fun x3=>?_;refine cO (dC2) fun x4=>?_;refine Oi (fun c1232=>?_) (fun c1232=>?_);refine oJ (fun _=>?_);exact bW;refine oJ (fun _=>?_);refine oJ (fun _=>?_);refine oJ (fun _=>?_);exact bW
theorem T59 {x1:aA Int} (e:x1.length<=20):Ok (F59 x1) (fun _=>True):=by
 unfold F59;have g:=e;refine sH (l:=x1) (fun q=>q) (wQ2 e (by decide)) rfl (fun i h x3 f a c b d=>?_) (fun x3 a=>?_) fun j=>?_;simp only[c,b,nt];refine oJ (fun _=>?_);exact .mk d;simp only[a,nf];exact bW;rcases j with k|_;exact bW;exact bW
theorem Rg {x1 x2:YQ}:Ok (Ep x1 x2) (fun _=>True):=by
 unfold Ep;refine cO (T60) fun x3=>?_;refine cO (T60) fun x4=>?_;refine cO (T59 (by simp)) fun a=>?_;exact bW
theorem oI2 {x1:YS}:Ok (lM1 x1) (fun _=>True):=by
 unfold lM1;refine oJ (fun _=>?_);refine cO (dA2) fun x2=>?_;refine Ob (P:=fun r=>¬r=true->¬(!x2)=true) ?_ fun x4 a=>?_;refine Oi (fun _=>.mk (fun h=>absurd rfl h)) (fun c1255=>?_);refine cO (dA2) fun x3=>?_;exact .mk (fun _=>c1255);refine oJ (fun c1257=>?_);have c:=a c1257;refine Ob (P:=fun r=>¬r=true->¬(x1.gZ.bS !=x1.To.bS)=true) ?_ fun f b=>?_;refine Oi (fun _=>.mk (fun h=>absurd rfl h)) (fun c1260=>?_);refine cO (dB2) fun e=>?_;exact .mk (fun _=>c1260);refine oJ (fun c1262=>?_);have d:=b c1262;refine cO (Rg) fun g=>?_;refine oJ (fun _=>?_);exact bW
theorem dD2 {x1:aA YV} {x2:Y0} {x3:Int} (h:x1.length+0<=1000000) (c:x2.sm):Ok (dO1 x1 x2 x3) (fun v=>v.1.length=x2.bY.length/\v.2.length=x2.bY.length):=by
 unfold dO1;have m:=c.bY;refine Ob (P:=fun v=>v.1.length=x2.bY.length/\v.2.length=x2.bY.length) (bO (l:=x2.bY) (fun q=>q.1) (fun i q=>q.2.1.length=i/\q.2.2.length=i) (by omega) rfl ⟨rfl,rfl⟩ (fun i e q o n hi hl d hg hw=>?_) (fun q hi d=>?_)) fun⟨a,b⟩ hv=>.mk hv;obtain⟨x,f,g⟩:=q;dsimp only at hi hl d hg hw;simp only[hl,hg,nt];refine Ob (cZ2 c) fun⟨p1,j⟩ _=>?_;refine Ob (cZ2 c) fun⟨p2,k⟩ _=>?_;refine Ob (eM (Q:=fun v=>v.length=g.length+1) (by omega) (by simp)) fun p h1=>?_;refine Ob (P:=fun _=>True) (Oi (fun _=>bW) (fun _=>Ob oI2 fun _ _=>bW)) fun b _=>?_;exact Ob (eM (Q:=fun v=>v.length=f.length+1) (by omega) (by simp)) fun r h2=>.mk ⟨hw,by dsimp only;omega,by dsimp only;omega⟩;obtain⟨x,f,g⟩:=q;dsimp only at hi d;simp only[hi,nf];exact .mk d
theorem mV1 {x1:aA YV} {x2:Y0} {x3:Int} (g:x1.length+10<=1000000) (c:x2.sm):Ok (dP1 x1 x2 x3) (fun v=>x1.length<=v.length/\v.length<=x1.length+10):=by
 unfold dP1;have k:=c.bY;refine Ob (dD2 (by omega) c) fun⟨a,b⟩ f=>?_;dsimp only at f;refine Ob (P:=fun v=>x1.length<=v.length/\v.length<=x1.length+10) (bO (l:=x2.bY) (fun q=>q.1) (fun i q=>x1.length<=q.2.length/\q.2.length<=x1.length+i) (by omega) rfl (by dsimp only;omega) (fun i e q n m hi hl d hg hw=>?_) (fun q hi d=>?_)) fun v hv=>.mk (by omega);obtain⟨x,l⟩:=q;dsimp only at hi hl d hg hw;simp only[hl,hg,nt];refine Ob (gR (by omega) (by omega)) fun j h=>?_;refine Ob (kP h.2) fun y _=>?_;exact Ob (mX (by omega) c) fun v hv=>.mk ⟨hw,by dsimp only;omega⟩;obtain⟨x,l⟩:=q;dsimp only at hi d;simp only[hi,nf];exact .mk (by omega)
theorem tX1 {x1:Int}:Ok (Xw x1) (fun v=>v>0->1<=x1/\x1<=7):=by
 unfold Xw;refine Oi (fun c1266=>.mk (by omega)) (fun c1266=>?_);refine Ob (cK (Q:=fun _=>True) (by(simp only[nm]at *;rw[bK (by omega) (by omega)];omega)) (by(simp only[nm,nl]at *;rw[bK (by omega) (by omega)];omega)) (fun _ _ _=>trivial)) fun x2 a=>?_;exact .mk (by(simp only[nm]at *;omega))
theorem oJ2 {x1 x2:YS}:Ok (lN1 x1 x2) (fun v=>v=true->1<=x1.dD/\x1.dD<=7):=by
 unfold lN1;refine Ob tX1 fun f hf=>?_;refine Ob (P:=fun r=>r=true->1<=x1.dD/\x1.dD<=7) (Oi (fun hc=>?_) (fun _=>.mk (fun h=>by cases h))) fun b hb=>?_;simp only[wS2]at hc;have:=hf hc;exact Ob tX1 fun _ _=>Ob tX1 fun _ _=>.mk (fun _=>this);refine Ob (P:=fun r=>r=true->1<=x1.dD/\x1.dD<=7) (Oi (fun hc=>?_) (fun _=>.mk (fun h=>by cases h))) fun b hb=>.mk hb;simp only[wL2]at hc;have:=hb hc.1;exact Ob dB2 fun _ _=>.mk (fun _=>this)
theorem oK2 {x1 x2:YS}:Ok (lO1 x1 x2) (fun _=>True):=by
 unfold lO1;refine cO (Rg) fun x3=>?_;refine Ob (P:=fun r=>¬r=true->¬(decide (x3<0))=true) ?_ fun b a=>?_;refine Oi (fun _=>.mk (fun h=>absurd rfl h)) (fun c1270=>?_);refine cO (Rg) fun x4=>?_;exact .mk (fun _=>c1270);exact bW
theorem tY1 {x1 x2:YS}:Ok (Xx x1 x2) (fun _=>True):=by
 unfold Xx;refine cO (oK2) fun x3=>?_;exact bW
theorem dE2 {x1 x2:YS}:Ok (dS1 x1 x2) (fun _=>True):=by
 unfold dS1;refine cO (Rg) fun x3=>?_;refine Ob (P:=fun r=>¬r=true->¬(decide (x3<=0))=true) ?_ fun b a=>?_;refine Oi (fun _=>.mk (fun h=>absurd rfl h)) (fun c1275=>?_);refine cO (Rg) fun x4=>?_;exact .mk (fun _=>c1275);exact bW
theorem tZ1 {x1 x2:YS}:Ok (Xy x1 x2) (fun _=>True):=by
 unfold Xy;refine cO (dE2) fun x3=>?_;exact bW
theorem dF2 {x1 x2:YS}:Ok (dU1 x1 x2) (fun _=>True):=by
 unfold dU1;refine cO (Rg) fun x3=>?_;refine Ob (P:=fun r=>r=true->(decide (x3>=0))=true) ?_ fun b a=>?_;refine Oi (fun c1280=>?_) (fun _=>.mk (fun h=>by cases h));refine cO (Rg) fun x4=>?_;exact .mk (fun _=>c1280);exact bW
theorem oL2 {x1 x2:YS}:Ok (lP1 x1 x2) (fun _=>True):=by
 unfold lP1;refine cO (dE2) fun x3=>?_;refine Ob (P:=fun r=>r=true->(!x3)=true) ?_ fun c a=>?_;refine Oi (fun c1284=>?_) (fun _=>.mk (fun h=>by cases h));refine cO (dF2) fun x4=>?_;refine cO (dF2) fun b=>?_;exact .mk (fun _=>c1284);exact bW
theorem T95 {x1 x2:YS}:Ok (F95 x1 x2) (fun _=>True):=by
 unfold F95;refine Ob oJ2 fun g hg=>?_;refine Oi (fun _=>bW) (fun hc=>?_);have hk:=hg (by simpa using hc);rw[bK (n:=x1.dD-1) (by omega) (by omega)];refine Oi (fun _=>Ob tY1 fun _ _=>bW) (fun a=>?_);refine Oi (fun _=>Ob tZ1 fun _ _=>bW) (fun h5=>?_);refine Oi (fun _=>Ob tY1 fun _ _=>bW) (fun h4=>?_);refine Oi (fun _=>Ob tY1 fun _ _=>bW) (fun h3=>?_);refine Oi (fun _=>Ob tZ1 fun _ _=>bW) (fun h2=>?_);refine Oi (fun _=>Ob tZ1 fun _ _=>bW) (fun h1=>?_);refine Oi (fun _=>Ob oL2 fun _ _=>bW) (fun h0=>?_);simp only[yI2]at h0 h1 h2 h3 h4 h5 a;omega
theorem mW1 {x1:aA YV} {x2:Y0} {x3:Int} (n:x1.length+10<=1000000) (c:x2.sm):Ok (dV1 x1 x2 x3) (fun v=>x1.length<=v.length/\v.length<=x1.length+10):=by
 unfold dV1;have o:=c.bY;refine Ob (dD2 (by omega) c) fun⟨a,b⟩ g=>?_;dsimp only at g;refine Ob (P:=fun v=>x1.length<=v.length/\v.length<=x1.length+10) (bO (l:=x2.bY) (fun q=>q.1) (fun i q=>x1.length<=q.2.length/\q.2.length<=x1.length+i) (by omega) rfl (by dsimp only;omega) (fun i e q s p hi hl f hg hw=>?_) (fun q hi f=>?_)) fun v hv=>.mk (by omega);obtain⟨x,l⟩:=q;dsimp only at hi hl f hg hw;simp only[hl,hg,nt];refine Ob (P:=fun _=>True) (iW (fun q=>q.2) x (fun _=>True) (by omega) (by dsimp only;omega) trivial (fun q _ h1 h2=>?_)) fun b _=>?_;obtain⟨ex,k⟩:=q;dsimp only at h1 h2 ⊢;refine Ob (P:=fun r=>r=true->k<x) (Oi (fun hc=>?_) (fun _=>.mk (fun h=>by cases h))) fun b hb=>?_;simp only[wS2]at hc;exact Ob (gR (by omega) (by omega)) fun j d=>Ob (kP d.2) fun y _=>.mk (fun _=>hc);refine Oi (fun hc=>?_) (fun _=>bW);simp only[wL2]at hc;have hk:=hb hc.1;refine Ob (gR (by omega) (by omega)) fun j d=>Ob (kP d.2) fun y _=>?_;refine Ob (P:=fun _=>True) (Oi (fun _=>?_) (fun _=>bW)) fun b _=>.mk ⟨hk,h2 hk,trivial⟩;exact Ob (gR (by omega) (by omega)) fun j d=>Ob (kP d.2) fun u _=>Ob (gR (by omega) (by omega)) fun t m=>Ob (kP m.2) fun w _=>Ob T95 fun b _=>bW;exact Ob (mX (by omega) c) fun v hv=>.mk ⟨hw,by dsimp only;omega⟩;obtain⟨x,l⟩:=q;dsimp only at hi f;simp only[hi,nf];exact .mk (by omega)
theorem T96 {x1:Int} {x2:YM} (a:x2.sm):Ok (F96 x1 x2) (fun v=>v=false->x2.aW<=8):=by
 unfold F96;simp only[tD1,wJ2];refine Ob (P:=fun r=>r=false->x2.aW<=8) (Oi (fun hc=>.mk (fun h=>?_)) (fun hc=>.mk (fun _=>?_))) fun b hb=>?_;simp at h;omega;simp at hc;omega;exact Ob (P:=fun r=>r=false->x2.aW<=8) (Oi (fun hc=>.mk (fun h=>by cases h)) (fun hc=>.mk (fun _=>hb (by simpa using hc)))) fun b hb=>.mk hb
theorem uA1 {x1:aA YV} {x2:Y0} {x3:Int} (n:x1.length+12<=1000000) (c:x2.sm):Ok (xG x1 x2 x3) (fun v=>(x1.length<=v.length/\v.length<=x1.length+12)/\(v.length<=x1.length->∀m∈x2.aD,m.aW<=8)):=by
 unfold xG;have p:=c.aD;refine Ob (P:=fun v=>(x1.length<=v.length/\v.length<=x1.length+12)/\(v.length<=x1.length->∀m∈x2.aD,m.aW<=8)) (bO (l:=x2.aD) (fun q=>q.1) (fun i q=>q.2.length<=x1.length+i/\x1.length<=q.2.length/\(q.2.length<=x1.length->∀j,j<i->∀m,x2.aD[j]? =some m->m.aW<=8)) (by omega) rfl ⟨by dsimp only;omega,wK2 _,fun _ j f=>by omega⟩ (fun i e q o k hi hl d hg hw=>?_) (fun q hi d=>?_)) fun v hv=>.mk hv;obtain⟨x,l⟩:=q;dsimp only at hi hl d hg hw;simp only[hl,hg,nt];refine Ob (T96 (c.cC e k)) fun b hb=>?_;refine Ob (Er (by omega)) fun v hv=>.mk ⟨hw,?_,?_,fun h j f m a=>?_⟩;dsimp only;cases b<;>simp at hv<;>omega;dsimp only;cases b<;>simp at hv<;>omega;dsimp only at h;cases b with
 |true=>simp at hv;omega
 |false=>
  simp only[wU2,false_implies,forall_const,true_and]at hv;by_cases g:j=i;subst g;rw[o]at a;cases a;exact hb rfl;exact d.2.2 (by omega) j (by omega) m a
 obtain⟨x,l⟩:=q;dsimp only at hi d;simp only[hi,nf];refine .mk ⟨⟨by omega,by omega⟩,fun h m k=>?_⟩;obtain⟨j,f⟩:=xE2.1 k;exact d.2.2 h j (wI2.1 f).1 m f
theorem oM2 {x1:Int}:Ok (lR1 x1) (fun v=>0<=v/\v<=1000):=by
 unfold lR1;refine Ob (P:=fun v=>0<=v.2/\v.2<=32) (Oi (fun _=>Ob (vU (by decide)) fun n _=>.mk (by dsimp only;omega)) (fun _=>.mk (by dsimp only;omega))) fun⟨x3,x4⟩ h4=>?_;dsimp only at h4;refine Ob (P:=fun v=>0<=v.2/\v.2<=48) (Oi (fun _=>Ob (vU (by decide)) fun n _=>.mk (by dsimp only;rw[bK (by omega) (by omega)];omega)) (fun _=>.mk (by dsimp only;omega))) fun⟨f,g⟩ c=>?_;dsimp only at c;refine Ob (P:=fun v=>0<=v.2/\v.2<=56) (Oi (fun _=>Ob (vU (by decide)) fun n _=>.mk (by dsimp only;rw[bK (by omega) (by omega)];omega)) (fun _=>.mk (by dsimp only;omega))) fun⟨e,d⟩ a=>?_;dsimp only at a;have hw:=cC2 e;refine Ob (xK hw.1 hw.2) fun b hb=>.mk ?_;rw[bK (n:=b) (by omega) (by omega),bK (by omega) (by omega)];omega
theorem mX1 {x1:Int}:Ok (Cz x1) (fun v=>0<=v/\v<=1000):=by
 unfold Cz;refine Ob (oM2) fun x2 a=>?_;exact .mk (by omega)
theorem T98 {x1:YG} (c:x1.passes<=1000):Ok (Yt x1) (fun _=>True):=by
 unfold Yt;refine Ob (P:=fun r=>r=true->(decide (x1.passes>0))=true) ?_ fun x3 a=>?_;refine Oi (fun c1289=>?_) (fun _=>.mk (fun h=>by cases h));refine Ob (Um (by(simp only[nm]at *;rw[bK (by omega) (by omega)];omega))) fun x2 b=>?_;exact .mk (fun _=>c1289);exact bW
theorem oN2 {x1:YG} {x2:YM} (t:x2.sm) (C:x1.passes<=8) (hy:x2.aW<=8):Ok (dW1 x1 x2) (fun v=>v.1.passes<=8):=by
 unfold dW1;refine Oi (fun c1291=>.mk (by omega)) (fun c1291=>?_);refine Oi (fun c1292=>?_) (fun c1292=>?_);refine Oi (fun c1293=>.mk (by omega)) (fun c1293=>?_);refine Ob (mX1) fun x3 e=>?_;refine Oi (fun c1295=>?_) (fun c1295=>?_);refine Oi (fun c1296=>.mk (by omega)) (fun c1296=>?_);refine Oi (fun c1297=>?_) (fun c1297=>?_);refine cO (T98 (by(simp only[nm]at *;omega))) fun x4=>?_;refine Ob (P:=fun r=>¬r=true->¬(x4||((x1.passes !=0)&&(x2.aW !=x1.passes)))=true) ?_ fun E a=>?_;refine Oi (fun _=>.mk (fun h=>absurd rfl h)) (fun c1300=>?_);refine Ob (mX1) fun D f=>?_;exact .mk (fun _=>c1300);refine Oi (fun c1302=>.mk (by omega)) (fun c1302=>?_);have m:=a c1302;exact .mk (by omega);exact .mk (by omega);refine Ob (P:=fun r=>¬r=true->¬(decide ((bF (x3-1))>=x1.passes))=true) ?_ fun w b=>?_;refine Oi (fun _=>.mk (fun h=>absurd rfl h)) (fun c1305=>?_);refine Ob (P:=fun r=>r=true->((bF (x3-1))==(bF (x1.passes-1)))=true) ?_ fun u g=>?_;refine Oi (fun c1307=>?_) (fun _=>.mk (fun h=>by cases h));refine cO (T98 (by(simp only[nm]at *;omega))) fun B=>?_;refine Ob (P:=fun r=>¬r=true->¬(!B)=true) ?_ fun G i=>?_;refine Oi (fun _=>.mk (fun h=>absurd rfl h)) (fun c1310=>?_);refine Ob (Um (by(simp(disch:=omega) only[bK,nm]at *;omega))) fun F j=>?_;exact .mk (fun _=>c1310);exact .mk (fun _=>c1307);exact .mk (fun _=>c1305);refine Oi (fun c1312=>.mk (by omega)) (fun c1312=>?_);have n:=b c1312;refine Oi (fun c1314=>?_) (fun c1314=>?_);refine cO (T98 (by(simp only[nm]at *;omega))) fun q=>?_;refine Ob (P:=fun r=>¬r=true->¬(q||((x1.passes !=0)&&(x2.aW !=x1.passes)))=true) ?_ fun y c=>?_;refine Oi (fun _=>.mk (fun h=>absurd rfl h)) (fun c1317=>?_);refine Ob (mX1) fun x k=>?_;exact .mk (fun _=>c1317);refine Oi (fun c1319=>.mk (by omega)) (fun c1319=>?_);have o:=c c1319;exact .mk (by omega);exact .mk (by omega);refine Oi (fun c1321=>.mk (by omega)) (fun c1321=>?_);refine Oi (fun c1322=>?_) (fun c1322=>?_);refine cO (T98 (by omega)) fun s=>?_;refine Ob (P:=fun r=>¬r=true->¬(s||((x1.passes !=0)&&(x2.aW !=x1.passes)))=true) ?_ fun A d=>?_;refine Oi (fun _=>.mk (fun h=>absurd rfl h)) (fun c1325=>?_);refine Ob (mX1) fun z l=>?_;exact .mk (fun _=>c1325);refine Oi (fun c1327=>.mk (by omega)) (fun c1327=>?_);have p:=d c1327;exact .mk (by omega);exact .mk (by omega)
theorem T97 {x1:YG} {x2:YM} (d:x2.sm) (c:x1.passes<=8) (hy:x2.aW<=8):Ok (F97 x1 x2) (fun v=>v.1.passes<=8):=by
 unfold F97;refine Oi (fun _=>Ob (oN2 d c hy) fun⟨a,b⟩ h=>.mk h) (fun _=>?_);refine Oi (fun _=>?_) (fun _=>?_);refine Ob (T98 (by omega)) fun f _=>?_;refine Oi (fun _=>.mk c) (fun _=>?_);refine Oi (fun _=>Oi (fun h=>by cases h) (fun _=>?_)) (fun _=>?_);exact Ob (P:=fun _=>True) (Oi (fun _=>bW) (fun _=>bW)) fun⟨a,b⟩ _=>.mk (show(0:Int)<=8 by decide);exact Ob (P:=fun _=>True) (Oi (fun _=>bW) (fun _=>bW)) fun a _=>.mk (show(0:Int)<=8 by decide);refine Oi (fun _=>Oi (fun _=>.mk c) (fun _=>?_)) (fun _=>?_);exact Ob (P:=fun _=>True) (Oi (fun _=>bW) (fun _=>bW)) fun⟨a,b⟩ _=>.mk (show(0:Int)<=8 by decide);exact Ob (P:=fun g=>g.passes<=8) (Oi (fun _=>.mk (show(0:Int)<=8 by decide)) (fun _=>.mk c)) fun g hg=>.mk hg
theorem mY1 {x1:aA YV} {x2:Y0} {x3:Int} (h:x1.length+25<=1000000) (c:x2.sm) (m:0<x2.aD.length):Ok (Qv x1 x2 x3) (fun v=>x1.length<=v.length/\v.length<=x1.length+25):=by
 unfold Qv;have n:=c.aD;refine Ob (uA1 (by omega) c) fun x4 h4=>?_;refine Oi (fun _=>.mk (by omega)) (fun hc=>?_);simp only[wS2]at hc;have k:=h4.2 (by omega);have j:=h4.1;refine Ob (P:=fun r=>match r with|.inl p=>x4.length<=p.2.length/\p.2.length<=x4.length+1|.inr g=>g.passes<=8) (bO (l:=x2.aD) (fun q=>q.1) (fun i q=>q.2.passes<=8) (by omega) rfl (show(0:Int)<=8 by decide) (fun i e q m f hi hl d hg hw=>?_) (fun q hi d=>?_)) fun r hr=>?_;obtain⟨x,g⟩:=q;dsimp only at hi hl d hg hw;simp only[hl,hg,nt];refine Ob (T97 (c.cC e f) d (k e f)) fun⟨g2,b⟩ hb=>?_;refine Oi (fun _=>?_) (fun _=>.mk ⟨hw,hb⟩);exact Ob (mX (by omega) c) fun v hv=>.mk (by dsimp only;omega);obtain⟨x,g⟩:=q;dsimp only at hi d;simp only[hi,nf];exact .mk d;rcases r with⟨a,v⟩|g;exact .mk (by dsimp only at hr;omega);dsimp only at hr;refine Ob (P:=fun _=>True) (Oi (fun _=>bW) (fun _=>?_)) fun b _=>?_;exact Ob (P:=fun _=>True) (Oi (fun _=>Ob (T98 (by omega)) fun _ _=>bW) (fun _=>bW)) fun _ _=>bW;refine Ob (cK (Q:=fun _=>True) (by rw[bK (by omega) (by omega)];omega) (by rw[bK (by omega) (by omega)];omega) (fun _ _ _=>trivial)) fun y _=>?_;exact Ob (mX (by omega) c) fun v hv=>.mk (by omega)
theorem oO2 {x1 x2:YM} (a:x1.sm) (b:x2.sm):Ok (dX1 x1 x2) (fun _=>True):=by
 unfold dX1;exact bW
theorem oP2 {x1:aA YM} {x2:YM} (g:x1.length<=12) (h:∀y∈x1,y.sm) (k:x2.sm):Ok (dY1 x1 x2) (fun _=>True):=by
 unfold dY1;have i:=g;refine sH (l:=x1) (fun q=>q) (wQ2 g (by decide)) rfl (fun m j n d a c b e=>?_) (fun n a=>?_) fun o=>?_;simp only[c,b,nt];have f:=h _ d;refine cO (oO2 f k) fun p=>?_;refine oJ (fun _=>?_);exact .mk e;simp only[a,nf];exact bW;rcases o with r|_;exact bW;exact bW
theorem oQ2 {x1:aA YM} {x2:YM} (b:x1.length<=12) (a:∀y∈x1,y.sm) (c:x2.sm):Ok (dZ1 x1 x2) (fun _=>True):=by
 unfold dZ1;refine cO (oP2 b a c) fun x3=>?_;exact bW
theorem oR2 {x1:YM} {x2:Int} (a:x1.sm):Ok (eA1 x1 x2) (fun _=>True):=by
 unfold eA1;exact bW
theorem uB1 {x1:aA YM} {x2:Int} (g:x1.length<=12) (h:∀y∈x1,y.sm):Ok (xH x1 x2) (fun _=>True):=by
 unfold xH;have i:=g;refine sH (l:=x1) (fun q=>q) (wQ2 g (by decide)) rfl (fun k j m d a c b e=>?_) (fun m a=>?_) fun n=>?_;simp only[c,b,nt];have f:=h _ d;refine cO (oR2 f) fun o=>?_;refine oJ (fun _=>?_);exact .mk e;simp only[a,nf];exact bW;rcases n with p|_;exact bW;exact bW
theorem uC1 {x1:YK} {x2:Int} (a:x1.s'.sm):Ok (Qw x1 x2) (fun _=>True):=by
 unfold Qw;refine cO (uB1 a.aD a.cC) fun x3=>?_;exact bW
theorem uD1 {x1:Int} {x2:YK} {x3:Int} (a:x2.s'.sm):Ok (Qx x1 x2 x3) (fun _=>True):=by
 unfold Qx;refine cO (uC1 a) fun x4=>?_;refine cO (Oh) fun b=>?_;exact bW
theorem oS2 {x1:YK} {x2 x3:Int} (a:x1.s'.sm):Ok (eD1 x1 x2 x3) (fun _=>True):=by
 unfold eD1;refine Ob (P:=fun r=>r=true->(decide (x2>=4))=true) ?_ fun j b=>?_;refine Oi (fun c1362=>?_) (fun _=>.mk (fun h=>by cases h));refine cO (uD1 a) fun x4=>?_;exact .mk (fun _=>c1362);refine Oi (fun c1364=>?_) (fun c1364=>?_);have d:=b c1364;exact bW;refine cO ?_ fun k=>?_;refine oJ (fun _=>?_);exact bW;refine Oi (fun c1368=>?_) (fun c1368=>?_);refine cO (uD1 a) fun l=>?_;exact bW;refine cO ?_ fun m=>?_;refine oJ (fun _=>?_);exact bW;refine Oi (fun c1372=>?_) (fun c1372=>?_);refine cO (uD1 a) fun i=>?_;refine Ob (P:=fun r=>r=true->i=true) ?_ fun g c=>?_;refine Oi (fun c1375=>?_) (fun _=>.mk (fun h=>by cases h));refine cO (uC1 a) fun e=>?_;refine cO (uC1 a) fun f=>?_;exact .mk (fun _=>c1375);exact bW;exact bW
theorem T99 {x1:Int} {x2:YM} {x3:YK} (d:x2.sm) (a:x3.s'.sm) (e:0<=x1/\x1<=(x3.s'.aD.length:Int)):Ok (F99 x1 x2 x3) (fun _=>True):=by
 unfold F99;refine Ob Oh fun w _=>?_;refine Ob (P:=fun _=>True) (Oi (fun _=>bW) (fun _=>Ob Oh fun _ _=>bW)) fun b _=>?_;refine Oi (fun _=>bW) (fun _=>?_);refine Ob (Gu (by decide) e.1 e.2) fun l hl=>?_;refine Ob (oQ2 (xJ2 hl.1 a.aD) (fun y hy=>a.cC y (hl.2 y hy)) d) fun c _=>?_;exact Ob (P:=fun _=>True) (Oi (fun _=>bW) (fun _=>Ob (oS2 a) fun _ _=>bW)) fun b _=>bW
theorem uE1 {x1:aA YV} {x2:Y0} {x3:Int} (o:x1.length+12<=1000000) (f:x2.sm):Ok (Da x1 x2 x3) (fun v=>x1.length<=v.length/\v.length<=x1.length+12):=by
 unfold Da;have i:=f.aD;refine og x2.aD x1 12 1 (wQ2 f.aD (by decide)) (fun m k q1389 j g a d b c e=>?_) (fun q1389 a b=>?_) fun r n=>?_;obtain⟨s,t⟩:=q1389;dsimp only at a d c e b;simp only[d,c,nt];have h:=f.cC _ g;refine cO (T99 h f (by(simp only[nm]at *;omega))) fun p=>?_;refine Ob (mX (by first|omega|(simp only[wW2]at *;omega)) f) fun q l=>?_;exact .mk ⟨e,by dsimp only;omega⟩;obtain⟨s,t⟩:=q1389;dsimp only at a b;simp only[a,nf];exact .mk (by dsimp only;omega);exact .mk (by omega)
theorem mZ1 {x1:aA YV} {x2:Y0} {x3:Int} (c:x1.length+12<=1000000) (b:x2.sm):Ok (Qy x1 x2 x3) (fun v=>x1.length<=v.length/\v.length<=x1.length+12):=by
 unfold Qy;refine Ob (uE1 (by first|omega|(simp only[wW2]at *;omega)) b) fun x4 a=>?_;exact .mk (by omega)
theorem oT2 {x1:Int} {x2:YM} (f:x2.sm):Ok (lU1 x1 x2) (fun _=>True):=by
 unfold lU1;refine cO (T24 f) fun⟨x3,x4⟩=>?_;refine Ob (P:=fun r=>r=true->(x2.Oa !=0)=true) ?_ fun K t=>?_;refine Oi (fun c1397=>?_) (fun _=>.mk (fun h=>by cases h));refine cO (Oh) fun L=>?_;exact .mk (fun _=>c1397);refine Ob (P:=fun r=>¬r=true->¬K=true) ?_ fun N u=>?_;refine Oi (fun _=>.mk (fun h=>absurd rfl h)) (fun c1400=>?_);refine cO (Oh) fun M=>?_;exact .mk (fun _=>c1400);have o:=f.kW;refine sH (l:=x2.kW) (fun q=>q.2) (wQ2 f.kW (by decide)) rfl (fun y s q1412 m a c b d=>?_) (fun q1412 a=>?_) fun J=>?_;obtain⟨j,k⟩:=q1412;dsimp only at a c b d;simp only[c,b,nt];refine Ob (P:=fun r=>¬r=true->¬j=true) ?_ fun B e=>?_;refine Oi (fun _=>.mk (fun h=>absurd rfl h)) (fun c1415=>?_);refine cO (Oh) fun D=>?_;exact .mk (fun _=>c1415);refine Ob (P:=fun r=>¬r=true->¬B=true) ?_ fun C g=>?_;refine Oi (fun _=>.mk (fun h=>absurd rfl h)) (fun c1418=>?_);have z:=e c1418;refine cO (Oh) fun E=>?_;exact .mk (fun _=>c1418);refine Ob (P:=fun r=>¬r=true->¬C=true) ?_ fun H v=>?_;refine Oi (fun _=>.mk (fun h=>absurd rfl h)) (fun c1422=>?_);have i:=g c1422;have A:=e i;refine Ob (P:=fun r=>r=true->(decide (k>0))=true) ?_ fun G w=>?_;refine Oi (fun c1426=>?_) (fun _=>.mk (fun h=>by cases h));have p:=f.kW;refine Ob (P:=fun x=>x∈x2.kW) (cK (by(simp only[nm]at *;rw[bK (by omega) (by omega)];omega)) (by(simp only[nm]at *;rw[bK (by omega) (by omega)];omega)) (fun _ h _=>h)) fun F n=>?_;exact .mk (fun _=>c1426);exact .mk (fun _=>c1422);exact .mk d;obtain⟨j,k⟩:=q1412;dsimp only at a;simp only[a,nf];exact bW;exact bW
theorem uF1 {x1:aA YV} {x2:Y0} {x3:Int} (o:x1.length+12<=1000000) (f:x2.sm):Ok (Ji x1 x2 x3) (fun v=>x1.length<=v.length/\v.length<=x1.length+12):=by
 unfold Ji;have i:=f.aD;refine og x2.aD x1 12 1 (wQ2 f.aD (by decide)) (fun m k q1441 j g a d b c e=>?_) (fun q1441 a b=>?_) fun r n=>?_;obtain⟨s,t⟩:=q1441;dsimp only at a d c e b;simp only[d,c,nt];have h:=f.cC _ g;refine cO (oT2 h) fun p=>?_;refine Ob (mX (by first|omega|(simp only[wW2]at *;omega)) f) fun q l=>?_;exact .mk ⟨e,by dsimp only;omega⟩;obtain⟨s,t⟩:=q1441;dsimp only at a b;simp only[a,nf];exact .mk (by dsimp only;omega);exact .mk (by omega)
theorem nA1 {x1:aA YV} {x2:Y0} {x3:Int} (c:x1.length+12<=1000000) (b:x2.sm):Ok (eE1 x1 x2 x3) (fun v=>x1.length<=v.length/\v.length<=x1.length+12):=by
 unfold eE1;refine Ob (uF1 (by first|omega|(simp only[wW2]at *;omega)) b) fun x4 a=>?_;exact .mk (by omega)
theorem dG2 {x1:YP} {x2:YE} {x3:YK} (a:x2.sm) (c:x3.s'.sm):Ok (Db x1 x2 x3) (fun _=>True):=by
 unfold Db;refine Ob (T89 c) fun⟨q,f⟩ d=>?_;dsimp only at d;refine Ob (P:=fun r=>¬r=true->f=true) (Oi (fun _=>.mk (fun h=>absurd rfl h)) (fun hc=>Ob (T88 a) fun t _=>.mk (fun _=>by simpa using hc))) fun b hb=>?_;refine Oi (fun _=>bW) (fun hc=>?_);simp only[wY2,zK2]at hc;have:=d (hb hc.1);exact Ob (cK (Q:=fun _=>True) this.1 this.2.1 (fun _ _ _=>trivial)) fun x _=>Ob (cK (Q:=fun _=>True) this.2.2.1 this.2.2.2 (fun _ _ _=>trivial)) fun y _=>bW
theorem uG1 {x1:aA YV} {x2:Y0} {x3:Int} (d8:x1.length+3600<=1000000) (y:x2.sm):Ok (xI x1 x2 x3) (fun v=>x1.length<=v.length/\v.length<=x1.length+3600):=by
 unfold xI;have N:=y.aD;refine og x2.aD x1 3600 300 (wQ2 y.aD (by decide)) (fun Y D q1458 S z c p g a t=>?_) (fun q1458 c g=>?_) fun d7 b7=>?_;obtain⟨b4,K⟩:=q1458;dsimp only at c p a t g;simp only[p,a,nt];have l:=y.cC _ z;have O:=l.aR;refine og D.aR K 300 60 (wQ2 l.aR (by decide)) (fun Z E q1472 T A d q h b u=>?_) (fun q1472 d h=>?_) fun d6 b8=>?_;obtain⟨b5,L⟩:=q1472;dsimp only at d q b u h;simp only[q,a,b,nt];have m:=l.fY _ A;have P:=m.aQ;refine og E.aQ L 60 20 (wQ2 m.aQ (by decide)) (fun a0 F q1486 U B e r i k w=>?_) (fun q1486 e i=>?_) fun d5 b9=>?_;obtain⟨b6,M⟩:=q1486;dsimp only at e r k w i;simp only[r,a,b,k,nt];have n:=m.eF _ B;have R:=n.aT;refine og F.aT M 20 1 (wQ2 n.aT (by decide)) (fun b0 W q1500 V C f s j o x=>?_) (fun q1500 f j=>?_) fun d4 d1=>?_;obtain⟨H,J⟩:=q1500;dsimp only at f s o x j;simp only[s,a,b,k,o,nt];have G:=n.dQ _ C;refine cO (dG2 G y) fun d2=>?_;refine Ob (mX (by first|omega|(simp only[wW2]at *;omega)) y) fun d3 X=>?_;exact .mk ⟨x,by dsimp only;omega⟩;obtain⟨H,J⟩:=q1500;dsimp only at f j;simp only[f,nf];exact .mk (by dsimp only;omega);exact .mk ⟨w,by dsimp only;omega⟩;obtain⟨b6,M⟩:=q1486;dsimp only at e i;simp only[e,nf];exact .mk (by dsimp only;omega);exact .mk ⟨u,by dsimp only;omega⟩;obtain⟨b5,L⟩:=q1472;dsimp only at d h;simp only[d,nf];exact .mk (by dsimp only;omega);exact .mk ⟨t,by dsimp only;omega⟩;obtain⟨b4,K⟩:=q1458;dsimp only at c g;simp only[c,nf];exact .mk (by dsimp only;omega);exact .mk (by omega)
theorem nB1 {x1:aA YV} {x2:Y0} {x3:Int} (c:x1.length+3600<=1000000) (b:x2.sm):Ok (Ya x1 x2 x3) (fun v=>x1.length<=v.length/\v.length<=x1.length+3600):=by
 unfold Ya;refine Ob (uG1 (by first|omega|(simp only[wW2]at *;omega)) b) fun x4 a=>?_;exact .mk (by omega)
theorem rF {c1 c2:Bool} {x:aA YV} {R:aB (aA YV)} (c:Ok R fun _=>True):Ok (((if decide ((x.length:Int)>0)=true then((if c1=true then some true else((if c2=true then(dA x 0).bind fun a=>(eL x a).bind fun v=>some (decide (v.iF<10))else some false:aB Bool)).bind fun y=>some y:aB Bool)).bind fun z=>some z else some false:aB Bool)).bind fun b=>if b=true then some x else R) fun _=>True:=by
 have k:∀D:aB Bool,(∃b,D=some b)->Ok (D.bind fun b=>if b=true then some x else R) fun _=>True:=fun D h=>by
  obtain⟨b,rfl⟩:=h;cases b with
  |true=>exact bW
  |false=>exact c
 refine k _ ?_;cases x with
 |nil=>exact⟨_,rfl⟩
 |cons v r=>
  have e:dA (v::r) 0=some 0:=by
   unfold dA qR;rw[wO2 ⟨by decide,by simp⟩];rfl
  rw[wO2 (by simp),e];cases c1<;>cases c2<;>exact⟨_,rfl⟩
theorem T21 {x1:Y0} (a:x1.sm) (b:0<x1.aD.length):Ok (F21 x1) (fun _=>True):=by
 unfold F21;refine rF (Ob (mG1 (by simp only[nl]at *;omega) a) fun _ _=>?_);refine rF (Ob (mH1 (by simp only[nl]at *;omega) a) fun _ _=>?_);refine rF (Ob (mI1 (by simp only[nl]at *;omega) a) fun _ _=>?_);refine rF (Ob (mJ1 (by simp only[nl]at *;omega) a) fun _ _=>?_);refine rF (Ob (mK1 (by simp only[nl]at *;omega) a) fun _ _=>?_);refine rF (Ob (mM1 (by simp only[nl]at *;omega) a) fun _ _=>?_);refine rF (Ob (mN1 (by simp only[nl]at *;omega) a) fun _ _=>?_);refine rF (Ob (mO1 (by simp only[nl]at *;omega) a) fun _ _=>?_);refine rF (Ob (mP1 (by simp only[nl]at *;omega) a) fun _ _=>?_);refine rF (Ob (mQ1 (by simp only[nl]at *;omega) a) fun _ _=>?_);refine rF (Ob (mR1 (by simp only[nl]at *;omega) a) fun _ _=>?_);refine rF (Ob (mV1 (by simp only[nl]at *;omega) a) fun _ _=>?_);refine rF (Ob (mW1 (by simp only[nl]at *;omega) a) fun _ _=>?_);refine rF (Ob (mY1 (by simp only[nl]at *;omega) a b) fun _ _=>?_);refine rF (Ob (mZ1 (by simp only[nl]at *;omega) a) fun _ _=>?_);refine rF (Ob (nA1 (by simp only[nl]at *;omega) a) fun _ _=>?_);refine rF (Ob (nB1 (by simp only[nl]at *;omega) a) fun _ _=>?_);exact bW
theorem T11 {x1:Y0} (a:x1.sm):Ok (Dc x1) (fun _=>True):=by
 unfold Dc;refine Ob (P:=fun _=>True) ?_ fun v _=>bW;by_cases h0:0<x1.aD.length;exact(T21 a h0).mono fun _ _=>trivial;unfold F21;refine Ob (P:=fun r=>r=false) (Oi (fun h=>by simp at h) (fun _=>.mk rfl)) fun b hb=>?_;subst hb;refine Oi (fun h=>by cases h) (fun _=>?_);refine Ob (mC2 a (by omega) (by decide)) fun v hv=>?_;refine Ob (P:=fun r=>r=true) (Oi (fun h=>Ob (P:=fun r=>r=true) (Oi (fun _=>.mk rfl) (fun h=>absurd rfl h)) fun b hb=>.mk hb) (fun h=>by simp at h;simp[h]at hv)) fun b hb=>?_;subst hb;exact Oi (fun _=>bW) (fun h=>absurd rfl h)
end Go.P
set_option maxHeartbeats 1000000
namespace Go.P
theorem Jn {α β:Type} {x:aB α} {a:α} {K:α->aB β} {r:aB β} (h:x=some a) (hk:K a=r):x.bind K=r:=by subst h;exact hk
theorem Ok.eq {α:Type} {x:aB α} {a:α} (h:Ok x (fun v=>v=a)):x=some a:=by
 obtain⟨v,h1,rfl⟩:=h;exact h1
theorem nC1 {A:Type} {l:aA A} {g:A->aB Bool} (p:A->Bool) (hl:l.length<9223372036854775808) (hg:∀x∈l,g x=some (p x)):((tC1 l g).bind fun v=>some (decide (v>=0)))=some (l.any p):=by
 obtain⟨v,h1,h2⟩:=Ul hl (fun x a=>⟨_,hg x a⟩);rw[h1,wJ2];rcases h2 with⟨rfl,h⟩|⟨h0,_,x,a,hp⟩
 have:l.any p=false:=by
  rw[List.any_eq_false];intro x a;have:=h x a;rw[hg x a]at this;rw[yK2 this];exact Bool.false_ne_true
 rw[this];rfl;have b:=wT2 a;rw[hg x b]at hp;have:l.any p=true:=List.any_eq_true.2 ⟨x,b,yK2 hp⟩;rw[this,xX2 (show v>=0 from h0)]
section
variable {K V:Type} [DecidableEq K]
theorem tO (k:K):∀(l:aA (K×V)) (i:Nat),kL k l (i+1)=(kL k l i).map fun p=>(p.1+1,p.2)
 |[],i=>rfl
 |p::r,i=>by
  simp only[kL]
  by_cases e:k=p.1
  rw[wO2 e,wO2 e];rfl
  rw[wN2 e,wN2 e];exact tO k r (i+1)
theorem rW (p:K×V) (r:aA (K×V)) (k:K) (z:V):fJ (p::r) k z=if k=p.1 then p.2 else fJ r k z:=by
 unfold fJ;simp only[kL];by_cases e:k=p.1;rw[wO2 e,wO2 e];rw[wN2 e,wN2 e,tO];cases kL k r 0<;>rfl
theorem Ye (p:K×V) (r:aA (K×V)) (k:K) (x:V):kM (p::r) k x=if k=p.1 then(k,x)::r else p::kM r k x:=by
 unfold kM;simp only[kL];by_cases e:k=p.1;rw[wO2 e,wO2 e];rfl;rw[wN2 e,wN2 e,tO];cases kL k r 0<;>rfl
theorem rX (k a:K) (x z:V):∀l:aA (K×V),fJ (kM l k x) a z=if a=k then x else fJ l a z
 |[]=>by
  show fJ ([]++[(k,x)]) a z=_
  rw[aB3,rW]
 |p::r=>by
  rw[Ye,rW]
  by_cases e:k=p.1
  rw[wO2 e,rW]
  by_cases e2:a=k
  rw[wO2 e2,wO2 e2]
  rw[wN2 e2,wN2 e2,wN2 (fun h=>e2 (h.trans e.symm))]
  rw[wN2 e,rW,rX k a x z r]
  by_cases e2:a=p.1
  rw[wO2 e2,wO2 e2,wN2 (fun h=>e (h.symm.trans e2))]
  rw[wN2 e2,wN2 e2]
end
end Go.P
namespace Go.P
variable {s:Y0}
def dO (s:Y0):Prop:=∀m∈s.aD,∃n,Dy m=some (n,0)
theorem oU2 {x:Int} {m:YM} {c:YK} (f:m.sm) (hc:c.s'.sm):Ok (F72 x m c) (fun b=>b=false->∃n,Dy m=some (n,0)):=by
 unfold F72;refine Ok.bindE (T24 f) fun⟨n,e⟩ hv _=>?_;dsimp only;refine Ob (P:=fun b=>e≠0->b=true) (Oi (fun _=>.mk fun _=>rfl) (fun h=>Ob Oh fun _ _=>.mk (fun h2=>absurd (by simpa using h2) h))) fun d h0=>?_;have g:=hc.bV;refine Ob (P:=fun r=>d=true->r=true) (bO (l:=c.s'.bV) (fun q=>q.2) (fun _ q=>d=true->q.1=true) (by omega) rfl (fun h=>h) (fun i y q j f hi hl a hg hw=>?_) (fun q hi a=>?_)) fun r hr=>.mk (fun hf=>⟨n,?_⟩);obtain⟨b,k⟩:=q;dsimp only at hi hl a hg hw;simp only[hl,hg,nt];refine Ob (P:=fun r=>d=true->r=true) (Oi (fun hd=>Ob T73 fun⟨u,v⟩ _=>.mk (fun h=>?_)) (fun _=>.mk a)) fun r hr=>.mk ⟨hw,hr⟩;rw[a h]at hd;simp at hd;obtain⟨b,k⟩:=q;dsimp only at hi a;simp only[hi,nf];exact .mk a
 have:e=0:=by
  by_cases he:e=0;exact he;have:=hr (h0 he);rw[hf]at this;cases this
 rw[hv,this]
theorem oV2 {l:aA YV} {r:Int} (h:l.length+12<=1000000) (hs:s.sm):Ok (xE l s r) (fun v=>v.length<=l.length->dO s):=by
 unfold xE;have p:=hs.aD;refine Ob (P:=fun v=>v.length<=l.length->dO s) (bO (l:=s.aD) (fun q=>q.1) (fun i q=>q.2.length<=l.length+i/\l.length<=q.2.length/\(q.2.length<=l.length->∀j,j<i->∀m,s.aD[j]? =some m->∃n,Dy m=some (n,0))) (by omega) rfl ⟨by dsimp only;omega,wK2 _,fun _ j d=>by omega⟩ (fun i e q o k hi hl c hg hw=>?_) (fun q hi c=>?_)) fun v hv=>.mk hv;obtain⟨x,v⟩:=q;dsimp only at hi hl c hg hw;simp only[hl,hg,nt];refine Ob (oU2 (hs.cC e k) hs) fun b hb=>?_;refine Ob (Er (by omega)) fun u f=>.mk ⟨hw,?_,?_,fun h j d m a=>?_⟩;dsimp only;cases b<;>simp at f<;>omega;dsimp only;cases b<;>simp at f<;>omega;dsimp only at h;cases b with
 |true=>simp at f;omega
 |false=>
  simp only[wU2,false_implies,forall_const,true_and]at f;by_cases g:j=i;subst g;rw[o]at a;cases a;exact hb rfl;exact c.2.2 (by omega) j (by omega) m a
 obtain⟨x,v⟩:=q;dsimp only at hi c;simp only[hi,nf];refine .mk (fun h m k=>?_);obtain⟨j,d⟩:=xE2.1 k;exact c.2.2 h j (wI2.1 d).1 m d
theorem rY {x v:aA YV} {D:aB Bool} {R:aB (aA YV)} (h:((if decide ((x.length:Int)>0)then D else some false).bind fun b=>if b then some x else R)=some v) (h0:v.length=0):R=some v:=by
 by_cases a:((x.length:Int)>0);rw[wO2 (by simpa using a)]at h;cases D with
 |none=>cases h
 |some b=>
  cases b with
  |true=>simp at h;subst h;omega
  |false=>exact h
 rw[wN2 (by simpa using a)]at h;exact h
theorem eJ {A B:Type} {x:aB A} {k:A->aB B} {v:B} (h:x.bind k=some v):∃a,x=some a/\k a=some v:=wH2.1 h
theorem E38 (hs:s.sm) (r:0<s.aD.length) {v:aA YV} (h:F21 s=some v) (h0:v.length=0):dO s:=by
 unfold F21 at h;have h:=rY h h0;obtain⟨x1,k,h⟩:=eJ h;have L:=(mG1 (by decide) hs).of k;have h:=rY h h0;obtain⟨x2,e2,h⟩:=eJ h;have M:=(mH1 (by simp only[nl]at *;omega) hs).of e2;have h:=rY h h0;obtain⟨x3,l,h⟩:=eJ h;have N:=(mI1 (by simp only[nl]at *;omega) hs).of l;have h:=rY h h0;obtain⟨x4,m,h⟩:=eJ h;have O:=(mJ1 (by simp only[nl]at *;omega) hs).of m;have h:=rY h h0;obtain⟨U,a,h⟩:=eJ h;have P:=(mK1 (by simp only[nl]at *;omega) hs).of a;have h:=rY h h0;obtain⟨V,n,h⟩:=eJ h;have R:=(mM1 (by simp only[nl]at *;omega) hs).of n;have h:=rY h h0;obtain⟨W,o,h⟩:=eJ h;have S:=(mN1 (by simp only[nl]at *;omega) hs).of o;have h:=rY h h0;obtain⟨X,p,h⟩:=eJ h;have i8:=(mO1 (by simp only[nl]at *;omega) hs).of p;have h:=rY h h0;obtain⟨Y,q,h⟩:=eJ h;have T:=(mP1 (by simp only[nl]at *;omega) hs).of q;have h:=rY h h0;obtain⟨C,b,h⟩:=eJ h;have t:=(mQ1 (by simp only[nl]at *;omega) hs).of b;have h:=rY h h0;obtain⟨D,c,h⟩:=eJ h;have u:=(mR1 (by simp only[nl]at *;omega) hs).of c;have h:=rY h h0;obtain⟨E,d,h⟩:=eJ h;have w:=(mV1 (by simp only[nl]at *;omega) hs).of d;have h:=rY h h0;obtain⟨F,e,h⟩:=eJ h;have x:=(mW1 (by simp only[nl]at *;omega) hs).of e;have h:=rY h h0;obtain⟨G,f,h⟩:=eJ h;have z:=(mY1 (by simp only[nl]at *;omega) hs r).of f;have h:=rY h h0;obtain⟨H,g,h⟩:=eJ h;have A:=(mZ1 (by simp only[nl]at *;omega) hs).of g;have h:=rY h h0;obtain⟨J,i,h⟩:=eJ h;have i16:=(nA1 (by simp only[nl]at *;omega) hs).of i;have h:=rY h h0;obtain⟨K,j,h⟩:=eJ h;have B:=(nB1 (by simp only[nl]at *;omega) hs).of j;cases h;unfold Xf at a;obtain⟨y,a,h5⟩:=eJ a;cases h5;exact(oV2 (by simp only[nl]at *;omega) hs).of a (by omega)
theorem dH2 (hs:s.sm) (hv:Dc s=some true):dO s:=by
 by_cases a:0<s.aD.length;unfold Dc at hv;obtain⟨v,h,hv⟩:=eJ hv;exact E38 hs a h (by simp at hv;simp[hv]);intro m b;have:=List.length_pos_of_mem b;omega
theorem U65:∀u:Fin 65,0<u.val->0<(1935360:Int).tdiv u.val/\(1935360:Int).tdiv u.val<=1935360:=by decide+kernel
theorem E94 {m:YM} {n:Int} (h:Dy m=some (n,0)):0<n/\n<=15482880:=by
 unfold Dy at h;obtain⟨⟨a,e⟩,h1,h⟩:=eJ h;dsimp only at h;split at h;rename_i he;cases h;simp at he;rename_i he;have he:e=0:=by simpa using he
 subst he;split at h;cases h;rename_i o;obtain⟨x,b,h⟩:=eJ h;obtain⟨y,_,h⟩:=eJ h;split at h;cases h;split at h;cases h;rename_i p;cases h;simp only[wS2]at o b p;refine⟨?_,by omega⟩;split at b;cases b;assumption;cases b;unfold F53 cO1 cQ1 cP1 at h1;obtain⟨c,hc,h1⟩:=eJ h1
 have f:c=0:=by
  by_cases d:c=0;exact d;rw[wO2 (by simpa using d)]at h1;cases h1;exact absurd rfl d
 subst f;rw[wN2 (by simp)]at h1;split at hc;cases hc;rename_i l;split at hc;cases hc;rename_i g2;simp only[wY2,wS2,zK2,bne_iff_ne,ne_eq,Decidable.not_not]at l g2;obtain⟨z,j,h1⟩:=eJ h1;cases h1;obtain⟨q,g,j⟩:=eJ j;cases j;generalize m.pU.Unit=u at *;generalize m.pU.gO=k at *;have i:=U65 ⟨u.toNat,by omega⟩ (by dsimp only;omega);dsimp only at i;rw[Int.toNat_of_nonneg (by omega)]at i;unfold Mv at g;rw[wN2 (by omega),show IntKind.wrap .i64 ((1935360:Int).tdiv u)=bF ((1935360:Int).tdiv u)from rfl,bK (by omega) (by omega)]at g;cases g;generalize(1935360:Int).tdiv u=z at *;have h3:k*z<=64*1935360:=yM2 (by omega) i.2 (by omega) (by decide);have h4:1*1<=k*z:=yM2 (by omega) (by omega) (by decide) (by omega);rw[bK (by omega) (by omega)];omega
end Go.P
namespace Go.P
variable {s:Y0}
theorem rG {x v:aA YV} {D:aB Bool} {R:aB (aA YV)} (h:((if decide ((x.length:Int)>0)then D else some false).bind fun b=>if b then some x else R)=some v) (h0:v.length=0):R=some v:=by
 by_cases a:((x.length:Int)>0);rw[wO2 (by simpa using a)]at h;cases D with
 |none=>cases h
 |some b=>
  cases b with
  |true=>simp at h;subst h;omega
  |false=>exact h
 rw[wN2 (by simpa using a)]at h;exact h
theorem gE {A B:Type} {x:aB A} {k:A->aB B} {v:B} (h:x.bind k=some v):∃a,x=some a/\k a=some v:=wH2.1 h
theorem rH {A:Type} {l:aA A} (h:l.length=0):l=[]:=yX2 h
structure pY1 (s:Y0):Prop where
 r1:Qn [] s 1=some []
 r2:cM1 [] s 2=some []
 r3:cN1 [] s 3=some []
 r4:cR1 [] s 4=some []
 r5:Xf [] s 5=some []
 r6:dB1 [] s 6=some []
 r7:dC1 [] s 7=some []
 r8:Xq [] s 8=some []
 r9:dE1 [] s 9=some []
 r10:Xr [] s 10=some []
 r11:dI1 [] s 11=some []
 r12:dP1 [] s 12=some []
 r13:dV1 [] s 13=some []
 r14:Qv [] s 14=some []
 r15:Qy [] s 15=some []
 r16:eE1 [] s 16=some []
 r17:Ya [] s 17=some []
theorem nD1 (hs:s.sm) (A:0<s.aD.length) {v:aA YV} (h:F21 s=some v) (h0:v.length=0):pY1 s:=by
 unfold F21 at h;have h:=rG h h0;obtain⟨x1,q,h⟩:=gE h;have P:=(mG1 (by decide) hs).of q;have h:=rG h h0;obtain⟨x2,e2,h⟩:=gE h;have R:=(mH1 (by simp only[nl]at *;omega) hs).of e2;have h:=rG h h0;obtain⟨x3,r,h⟩:=gE h;have S:=(mI1 (by simp only[nl]at *;omega) hs).of r;have h:=rG h h0;obtain⟨x4,t,h⟩:=gE h;have T:=(mJ1 (by simp only[nl]at *;omega) hs).of t;have h:=rG h h0;obtain⟨K,u,h⟩:=gE h;have U:=(mK1 (by simp only[nl]at *;omega) hs).of u;have h:=rG h h0;obtain⟨L,w,h⟩:=gE h;have V:=(mM1 (by simp only[nl]at *;omega) hs).of w;have h:=rG h h0;obtain⟨M,x,h⟩:=gE h;have W:=(mN1 (by simp only[nl]at *;omega) hs).of x;have h:=rG h h0;obtain⟨N,y,h⟩:=gE h;have i8:=(mO1 (by simp only[nl]at *;omega) hs).of y;have h:=rG h h0;obtain⟨O,z,h⟩:=gE h;have X:=(mP1 (by simp only[nl]at *;omega) hs).of z;have h:=rG h h0;obtain⟨j,a,h⟩:=gE h;have B:=(mQ1 (by simp only[nl]at *;omega) hs).of a;have h:=rG h h0;obtain⟨k,b,h⟩:=gE h;have C:=(mR1 (by simp only[nl]at *;omega) hs).of b;have h:=rG h h0;obtain⟨l,c,h⟩:=gE h;have D:=(mV1 (by simp only[nl]at *;omega) hs).of c;have h:=rG h h0;obtain⟨m,d,h⟩:=gE h;have E:=(mW1 (by simp only[nl]at *;omega) hs).of d;have h:=rG h h0;obtain⟨n,e,h⟩:=gE h;have F:=(mY1 (by simp only[nl]at *;omega) hs A).of e;have h:=rG h h0;obtain⟨o,f,h⟩:=gE h;have G:=(mZ1 (by simp only[nl]at *;omega) hs).of f;have h:=rG h h0;obtain⟨p,g,h⟩:=gE h;have i16:=(nA1 (by simp only[nl]at *;omega) hs).of g;have h:=rG h h0;obtain⟨J,i,h⟩:=gE h;have H:=(nB1 (by simp only[nl]at *;omega) hs).of i;cases h;have z17:v=[]:=rH h0;have z16:p=[]:=rH (by simp only[nl]at *;omega);have z15:o=[]:=rH (by simp only[nl]at *;omega);have z14:n=[]:=rH (by simp only[nl]at *;omega);have z13:m=[]:=rH (by simp only[nl]at *;omega);have z12:l=[]:=rH (by simp only[nl]at *;omega);have z11:k=[]:=rH (by simp only[nl]at *;omega);have z10:j=[]:=rH (by simp only[nl]at *;omega);have z9:O=[]:=rH (by simp only[nl]at *;omega);have z8:N=[]:=rH (by simp only[nl]at *;omega);have z7:M=[]:=rH (by simp only[nl]at *;omega);have z6:L=[]:=rH (by simp only[nl]at *;omega);have z5:K=[]:=rH (by simp only[nl]at *;omega);have z4:x4=[]:=rH (by simp only[nl]at *;omega);have z3:x3=[]:=rH (by simp only[nl]at *;omega);have z2:x2=[]:=rH (by simp only[nl]at *;omega);have z1:x1=[]:=rH (by simp only[nl]at *;omega);subst z1 z2 z3 z4 z5 z6 z7 z8 z9 z10 z11 z12 z13 z14 z15 z16 z17;exact⟨q,e2,r,t,u,w,x,y,z,a,b,c,d,e,f,g,i⟩
theorem eV1 (hs:s.sm) (a:0<s.aD.length) (hv:Dc s=some true):pY1 s:=by
 unfold Dc at hv;obtain⟨v,h,hv⟩:=gE hv;exact nD1 hs a h (by simp at hv;simp[hv])
end Go.P
namespace Go.P
theorem dI2 {α:Type} {x:aB α} {a:α} (h:Ok x (fun v=>v=a)):x=some a:=by
 obtain⟨v,rfl,rfl⟩:=h;rfl
theorem okb {α β:Type} {x:aB α} {v:α} {k:α->aB β} {Q:β->Prop} (h:x=some v) (hk:Ok (k v) Q):Ok (x.bind k) Q:=by
 subst h;exact hk
def tP:aA Int->aA Int->Int
 |a::aqs,b::bs=>if a<b then -1 else if a>b then 1 else tP aqs bs
 |_,_=>0
theorem nE1 {a b:Int} {aqs c:aA Int}:tP (a::aqs) (b::c)<=0↔a<b\/a=b/\tP aqs c<=0:=by
 rw[tP];split;omega;split<;>omega
theorem Nn:∀a b:aA Int,tP b a= -tP a b
 |[],[]=>rfl
 |[],_::_=>rfl
 |_::_,[]=>rfl
 |a::aqs,b::bs=>by
  have:=Nn aqs bs
  simp only[tP]
  repeat' split
  all_goals omega
theorem Df:∀a b c:aA Int,a.length=b.length->b.length=c.length->tP a b<=0->tP b c<=0->tP a c<=0
 |[],[],[],_,_,_,_=>yD2 _
 |a::aqs,b::bs,c::cs,h1,h2,h3,h4=>by
  rw[nE1]at h3 h4 ⊢
  have:=Df aqs bs cs (by simpa using h1) (by simpa using h2)
  rcases h3 with h3|⟨h3,h5⟩
  rcases h4 with h4|⟨h4,h6⟩<;>exact .inl (by omega)
  rcases h4 with h4|⟨h4,h6⟩
  exact .inl (by omega)
  exact .inr ⟨by omega,this h5 h6⟩
def KN (x:aI):aA Int:=[x.On,x.bG,x.eS,x.bS,x.bU,x.Off,x.bP.dH,x.bP.bG,x.fL]
def cN (x y:aI):Int:=tP (KN x) (KN y)
def Jo (x y:aI):Prop:=cN x y<=0
theorem Jq (x:aI):(KN x).length=9:=rfl
theorem Jr (x y:aI):cN y x= -cN x y:=Nn _ _
theorem iX {x y z:aI} (h1:Jo x y) (h2:Jo y z):Jo x z:=Df _ _ _ (by rw[Jq,Jq]) (by rw[Jq,Jq]) h1 h2
theorem Js {x y:aI} (h:cN x y<0):Jo x y:=by unfold Jo;omega
theorem Jt {x y:aI} (h:¬cN y x<0):Jo x y:=by have:=Jr x y;unfold Jo;omega
def Sd (r l:aA aI):Prop:=r.Perm l/\r.Pairwise Jo
def d0:aI:=⟨0,0,0,0,0,0,⟨0,0⟩,0⟩
def gn (l:aA aI) (p:Nat):aI:=l.getD p d0
theorem Dg {l:aA aI} {p:Nat} (h:p<l.length):gn l p=l[p]:=by simp[gn,h]
theorem jN {l:aA aI} {p:Nat} (h:p<l.length):eL l p=some (gn l p):=by
 rw[Dg h];exact wX2 h
theorem gS {A:Type} {l:aA A} {i:Int} {p:Nat} (hi:i=(p:Int)) (h:p<l.length):dA l i=some p:=by
 subst hi;unfold dA qR;rw[wO2 ⟨by omega,by omega⟩,Int.toNat_natCast]
def swp (l:aA aI) (p q:Nat):aA aI:=(l.set p (gn l q)).set q (gn l p)
theorem zW (l:aA aI) (p q:Nat):(swp l p q).length=l.length:=by simp[swp]
theorem eW1 {l:aA aI} {p q:Nat} {v:aI} (h:p<l.length):gn (l.set p v) q=if q=p then v else gn l q:=by
 unfold gn;rw[List.getD_eq_getElem?_getD,List.getD_eq_getElem?_getD,xH2];by_cases a:p=q;subst a;simp[h];rw[wN2 a,wN2 (fun h=>a h.symm)]
theorem tQ {l:aA aI} {p q k:Nat} (hp:p<l.length) (a:q<l.length):gn (swp l p q) k=if k=q then gn l p else if k=p then gn l q else gn l k:=by
 unfold swp;rw[eW1 (by simpa using a),eW1 hp]
theorem vV {l:aA aI} {p q:Nat} (hp:p<l.length) (a:q<l.length):(swp l p q).Perm l:=by
 unfold swp;rw[Dg hp,Dg a];exact List.set_set_perm hp a
theorem rZ {l:aA aI} {p:Nat} {v:aI} (h:p<l.length):lP l p (fun _=>v)=some (l.set p v):=by
 unfold lP;rw[wX2 h];rfl
theorem uH1 {l:aA aI} {f g:Int} {p q:Nat} (h:f=(q:Int)) (e2:g=(p:Int)) (hp:p<l.length) (e:q<l.length) {B:Type} {k:aA aI->aB B} {Q:B->Prop} (hk:Ok (k (swp l p q)) Q):
  Ok ((dA l f).bind fun a=>(eL l a).bind fun x=>(dA l g).bind fun b=>(eL l b).bind fun y=>(dA l g).bind fun c=>(lP l c (fun _=>x)).bind fun i=>(dA i f).bind fun d=>(lP i d (fun _=>y)).bind k) Q:=by
 refine okb (gS h e) (okb (jN e) (okb (gS e2 hp) (okb (jN hp) (okb (gS e2 hp) (okb (rZ hp) ?_)))));exact okb (gS h (by simpa using e)) (okb (rZ (by simpa using e)) hk)
theorem nF1 {x:Int} (h0:0<=x) (h1:x<9223372036854775808):mB .u64 (IntKind.wrap .u64 (bF x)) 1=some (x/2):=by
 rw[bK (by omega) h1]
 have e:IntKind.wrap .u64 x=x:=by
  unfold IntKind.wrap;rw[show((2:Int)^IntKind.bits .u64)=18446744073709551616 from rfl];simp[IntKind.signed];omega
 rw[e];unfold mB;rw[wN2 (by decide),show min (Int.toNat 1) (IntKind.bits .u64)=1 from rfl];simp only[Int.pow_succ,Int.pow_zero,Int.one_mul];rw[Int.fdiv_eq_ediv_of_nonneg _ (by decide)]
def Sg (r l:aA aI) (a b:Nat):Prop:=r.Perm l/\r.length=l.length/\(∀p,p<a\/b<=p->gn r p=gn l p)/\∀p,a<=p->p<b->∃q,a<=q/\q<b/\gn r p=gn l q
theorem Sg.refl (l:aA aI) (a b:Nat):Sg l l a b:=⟨.refl _,rfl,fun _ _=>rfl,fun p h1 h2=>⟨p,h1,h2,rfl⟩⟩
theorem Sg.trans {r l m:aA aI} {a b:Nat} (h1:Sg r l a b) (h2:Sg l m a b):Sg r m a b:=
 ⟨h1.1.trans h2.1,h1.2.1.trans h2.2.1,fun p hp=>(h1.2.2.1 p hp).trans (h2.2.2.1 p hp),fun p c d=>by
  obtain⟨q,q1,q2,q3⟩:=h1.2.2.2 p c d
  obtain⟨s,e,f,g⟩:=h2.2.2.2 q q1 q2
  exact⟨s,e,f,q3.trans g⟩⟩
theorem Sg.mono {r l:aA aI} {a b a' b':Nat} (h:Sg r l a b) (e:a'<=a) (hb:b<=b'):Sg r l a' b':=
 ⟨h.1,h.2.1,fun p hp=>h.2.2.1 p (by omega),fun p c d=>by
  by_cases hc:a<=p/\p<b
  obtain⟨q,q1,q2,q3⟩:=h.2.2.2 p hc.1 hc.2
  exact⟨q,by omega,by omega,q3⟩
  exact⟨p,c,d,h.2.2.1 p (by omega)⟩⟩
theorem Sg.swp {l:aA aI} {a b p q:Nat} (hb:b<=l.length) (h1:a<=p) (h2:p<b) (h3:a<=q) (h4:q<b):Sg (swp l p q) l a b:=by
 refine⟨vV (by omega) (by omega),zW _ _ _,fun k hk=>?_,fun k d e=>?_⟩;rw[tQ (by omega) (by omega),wN2 (by omega),wN2 (by omega)];rw[tQ (by omega) (by omega)];by_cases c:k=q;exact⟨p,h1,h2,by rw[wO2 c]⟩;by_cases e2:k=p;exact⟨q,h3,h4,by rw[wN2 c,wO2 e2]⟩;exact⟨k,d,e,by rw[wN2 c,wN2 e2]⟩
def SS (l:aA aI) (a b:Nat):Prop:=∀p q,a<=p->p<=q->q<b->Jo (gn l p) (gn l q)
theorem Dh (x:aI):Jo x x:=by have:=Jr x x;unfold Jo;omega
theorem SS.sub {l:aA aI} {a b a' b':Nat} (h:SS l a b) (c:a<=a') (hb:b'<=b):SS l a' b':=fun p q h1 h2 h3=>h p q (by omega) h2 (by omega)
theorem SS.off {r l:aA aI} {a b x y:Nat} (h:SS l x y) (hs:Sg r l a b) (hd:y<=a\/b<=x):SS r x y:=fun p q h1 h2 h3=>by
 rw[hs.2.2.1 p (by omega),hs.2.2.1 q (by omega)];exact h p q h1 h2 h3
end Go.P
namespace Go.P
def Un (a b:Int):Int:=if a<b then -1 else if b<a then 1 else 0
theorem uI1 (a b:Int):Og a b=some (Un a b):=by
 unfold Og Xv Un;simp only[bne_self_eq_false,wJ2,wU2,xQ2,wS2];split;rfl;split<;>rfl
def Dw:aA Int->Int
 |[]=>0
 |a::r=>if a=0 then Dw r else a
theorem eX1:∀a b:aA Int,Dw (List.zipWith Un a b)=tP a b
 |[],_=>by simp[Dw,tP]
 |_::_,[]=>by simp[Dw,tP]
 |a::aqs,b::bs=>by
  rw[List.zipWith_cons_cons,Dw,tP,eX1 aqs bs]
  unfold Un
  repeat' split
  all_goals omega
theorem uJ1 {l:aA Int} (hl:l.length<1000):F59 l=some (Dw l):=by
 refine dI2 ?_;unfold F59;refine Ob (P:=fun r=>match r with|.inl v=>v=Dw l|.inr _=>0=Dw l) (bO (l:=l) (fun q=>q) (fun i _=>Dw (l.drop i)=Dw l) (by omega) rfl rfl (fun i e q d f hi b a hg hw=>?_) (fun q hi a=>?_)) fun r hr=>?_;rw[hi]at hg b hw ⊢;obtain⟨c,rfl⟩:=wI2.1 d;rw[wO2 (by simpa using b),hg];simp only[wJ2];rw[List.drop_eq_getElem_cons c,Dw]at a;by_cases h0:l[i]=0;rw[wO2 h0]at a;rw[wN2 (by simpa using h0),hw];exact .mk ⟨rfl,a⟩;rw[wN2 h0]at a;rw[wO2 (by simpa using h0)];exact .mk a;rw[hi,wN2 (by simp)];rw[List.drop_length]at a;exact .mk a;rcases r with v|_;exact .mk hr;exact .mk hr
theorem Ju (x y:aI):F31 x y=some (cN x y):=by
 unfold F31;simp only[uI1,wJ2];rw[uJ1 (by simp)];rw[show[Un x.On y.On,Un x.bG y.bG,Un x.eS y.eS,Un x.bS y.bS,Un x.bU y.bU,Un x.Off y.Off,Un x.bP.dH y.bP.dH,Un x.bP.bG y.bP.bG,Un x.fL y.fL]=List.zipWith Un (KN x) (KN y)from rfl,eX1];rfl
theorem Di {a b n:Nat} {l:aA aI} (h1:a+n<=b) (h2:b+n<=l.length) (hl:l.length<4611686018427387904):
  Ok (Gt ((a:Nat):Int) ((b:Nat):Int) ((n:Nat):Int) l) (fun r=>r.Perm l/\r.length=l.length/\∀p,gn r p=if a<=p/\p<a+n then gn l (p+(b-a))else if b<=p/\p<b+n then gn l (p-(b-a))else gn l p):=by
 unfold Gt;refine Ob (P:=fun r=>r.Perm l/\r.length=l.length/\∀p,gn r p=if a<=p/\p<a+n then gn l (p+(b-a))else if b<=p/\p<b+n then gn l (p-(b-a))else gn l p) (cM (fun(q:Int×aA aI)=>∃i:Nat,q.1=(i:Int)/\i<=n/\q.2.Perm l/\q.2.length=l.length/\∀p,gn q.2 p=if a<=p/\p<a+i then gn l (p+(b-a))else if b<=p/\p<b+i then gn l (p-(b-a))else gn l p) (fun(q:Int×aA aI)=>n-q.1.toNat) (fun q s=>?_) bN (0,l) ⟨0,rfl,by omega,.refl _,rfl,fun p=>by rw[wN2 (by omega),wN2 (by omega)]⟩ (by simp only[bN];omega)) fun r hr=>.mk hr;obtain⟨k,c⟩:=q;obtain⟨i,m,g2,e,f,d⟩:=s;dsimp only at m e f d ⊢;subst m;by_cases hc:(i:Int)<(n:Int);rw[wO2 (by simpa using hc)];have o:i<n:=by omega
 refine uH1 (p:=a+i) (q:=b+i) (by rw[bK (by omega) (by omega)];omega) (by rw[bK (by omega) (by omega)];omega) (by omega) (by omega) ?_;rw[bK (n:=(i:Int)+1) (by omega) (by omega)];refine .mk ⟨⟨i+1,by simp,by omega,(vV (by omega) (by omega)).trans e,by rw[zW];exact f,fun p=>?_⟩,by dsimp only;omega⟩;dsimp only;rw[tQ (by omega) (by omega)];by_cases g:p=b+i;rw[wO2 g,d,wN2 (by omega),wN2 (by omega),wN2 (by omega),wO2 (by omega)];exact congrArg (gn l) (by omega);rw[wN2 g];by_cases e2:p=a+i;rw[wO2 e2,d,wN2 (by omega),wN2 (by omega),wO2 (by omega)];exact congrArg (gn l) (by omega);rw[wN2 e2,d];by_cases h:a<=p/\p<a+i;rw[wO2 h,wO2 (by omega)];rw[wN2 h,wN2 (c:=a<=p/\p<a+(i+1)) (by omega)];by_cases j:b<=p/\p<b+i;rw[wO2 j,wO2 (by omega)];rw[wN2 j,wN2 (by omega)];rw[wN2 (by simpa using hc)];have:i=n:=by omega
 subst this;exact .mk ⟨e,f,d⟩
def lQ (f:Nat->aI) (x y z p:Nat):aI:=if x<=p/\p<x+(z-y)then f (p+(y-x))else if x+(z-y)<=p/\p<z then f (p-(z-y))else f p
theorem eY1 {a m b:Nat} {l:aA aI} (h1:a<m) (h2:m<b) (h3:b<=l.length) (hl:l.length<4611686018427387904):
  Ok (Uj ((a:Nat):Int) ((m:Nat):Int) ((b:Nat):Int) l) (fun r=>r.Perm l/\r.length=l.length/\∀p,gn r p=lQ (gn l) a m b p):=by
 unfold Uj
 refine Ob (P:=fun r=>∃i:Nat,r.1=(i:Int)/\0<i/\a+i<=m/\m+i<=b/\r.2.Perm l/\r.2.length=l.length/\∀p,lQ (gn r.2) (m-i) m (m+i) p=lQ (gn l) a m b p) (cM (fun(q:Int×Int×aA aI)=>∃i j:Nat,q.1=(i:Int)/\q.2.1=(j:Int)/\0<i/\0<j/\a+i<=m/\m+j<=b/\q.2.2.Perm l/\q.2.2.length=l.length/\∀p,lQ (gn q.2.2) (m-i) m (m+j) p=lQ (gn l) a m b p) (fun(q:Int×Int×aA aI)=>q.1.toNat+q.2.1.toNat) (fun q z=>?_) bN (bF ((m:Int)-a),bF ((b:Int)-m),l) ⟨m-a,b-m,by show bF _=_;rw[bK (by omega) (by omega)];omega,by show bF _=_;rw[bK (by omega) (by omega)];omega,by omega,by omega,by omega,by omega,.refl _,rfl,fun p=>by
   rw[show m-(m-a)=a by omega,show m+(b-m)=b by omega]⟩ (by show(bF ((m:Int)-a)).toNat+(bF ((b:Int)-m)).toNat<bN;rw[bK (by omega) (by omega),bK (by omega) (by omega)];simp only[bN];omega)) fun r hr=>?_
 obtain⟨A,B,c⟩:=q;obtain⟨i,j,h,g2,w,y,k,o,g,s,t⟩:=z;dsimp only at h g2 g s t ⊢;subst h g2;by_cases x:i=j;rw[wN2 (by simp;omega)];subst x;exact .mk ⟨i,rfl,w,k,o,g,s,t⟩;rw[wO2 (by simp;omega)];by_cases f:(i:Int)>(j:Int);rw[wO2 (by simpa using f)];have f:j<i:=by omega
 rw[bK (n:=(m:Int)-i) (by omega) (by omega),bK (n:=(i:Int)-j) (by omega) (by omega),show(m:Int)-i=((m-i:Nat):Int)by omega,show(i:Int)-j=((i-j:Nat):Int)by omega];obtain⟨d,u,e2,v,e⟩:=Di (a:=m-i) (b:=m) (n:=j) (l:=c) (by omega) (by omega) (by omega);rw[u];simp only[wJ2];refine .mk ⟨⟨i-j,j,rfl,rfl,by omega,y,by omega,o,e2.trans g,v.trans s,fun p=>?_⟩,by dsimp only;omega⟩;rw[<-t p];dsimp only;unfold lQ;rw[show m+j-m=j by omega,show m-(m-(i-j))=i-j by omega,show m-(m-i)=i by omega];by_cases c1:m-i<=p/\p<m-i+j;rw[wN2 (by omega),wN2 (by omega),wO2 (by omega),e,wO2 (by omega)];exact congrArg (gn c) (by omega);by_cases c2:m-i+j<=p/\p<m+j;rw[wN2 (c:=m-i<=p/\p<m-i+j) c1,wO2 (c:=m-i+j<=p/\p<m+j) c2];by_cases c3:p<m-(i-j)+j;rw[wO2 (by omega),e,wN2 (by omega),wO2 (by omega)];exact congrArg (gn c) (by omega);rw[wN2 (by omega),wO2 (by omega),e,wN2 (by omega),wN2 (by omega)];rw[wN2 (by omega),wN2 (by omega),wN2 (by omega),wN2 (by omega),e,wN2 (by omega),wN2 (by omega)];rw[wN2 (by simpa using f)];have f:i<j:=by omega
 rw[bK (n:=(m:Int)-i) (by omega) (by omega),bK (n:=(m:Int)+j) (by omega) (by omega),bK (n:=(m:Int)+j-i) (by omega) (by omega),bK (n:=(j:Int)-i) (by omega) (by omega),show(m:Int)-i=((m-i:Nat):Int)by omega,show(m:Int)+j-i=((m+j-i:Nat):Int)by omega,show(j:Int)-i=((j-i:Nat):Int)by omega];obtain⟨d,u,e2,v,e⟩:=Di (a:=m-i) (b:=m+j-i) (n:=i) (l:=c) (by omega) (by omega) (by omega);rw[u];simp only[wJ2];refine .mk ⟨⟨i,j-i,rfl,rfl,w,by omega,k,by omega,e2.trans g,v.trans s,fun p=>?_⟩,by dsimp only;omega⟩;rw[<-t p];dsimp only;unfold lQ;rw[show m+(j-i)-m=j-i by omega,show m-(m-i)=i by omega,show m+j-m=j by omega];by_cases c1:m+j-i<=p/\p<m+j;rw[wN2 (by omega),wN2 (by omega),wN2 (by omega),wO2 (by omega),e,wN2 (by omega),wO2 (by omega)];exact congrArg (gn c) (by omega);by_cases c2:m-i<=p/\p<m+j-i;by_cases c3:p<m-i+(j-i);rw[wO2 (by omega),wO2 (by omega),e,wN2 (by omega),wN2 (by omega)];rw[wN2 (by omega),wO2 (by omega),wO2 (by omega),e,wO2 (by omega)];exact congrArg (gn c) (by omega);rw[wN2 (by omega),wN2 (by omega),wN2 (by omega),wN2 (by omega),e,wN2 (by omega),wN2 (by omega)];obtain⟨A,c⟩:=r;obtain⟨i,h,g2,w,y,k,o,g⟩:=hr;dsimp only at h k o g ⊢;subst h;rw[bK (n:=(m:Int)-i) (by omega) (by omega),show(m:Int)-i=((m-i:Nat):Int)by omega];refine(Ob (Di (a:=m-i) (b:=m) (n:=i) (l:=c) (by omega) (by omega) (by omega)) fun d hd=>.mk ⟨hd.1.trans k,hd.2.1.trans o,fun p=>?_⟩);rw[<-g p,hd.2.2 p];unfold lQ;rw[show m-(m-i)=i by omega,show m+i-m=i by omega];by_cases c1:m-i<=p/\p<m-i+i;rw[wO2 c1,wO2 c1];rw[wN2 c1,wN2 c1];by_cases c2:m<=p/\p<m+i;rw[wO2 c2,wO2 (by omega)];rw[wN2 c2,wN2 (by omega)]
end Go.P
namespace Go.P
theorem eZ1 {body:Int×Int->aB ((Int×Int)⊕Int)} {lo hi:Nat} (T:Nat->Prop) (m:∀c a,lo<=c->c<=a->a<hi->T a->T c) (hl:lo<=hi) (o:hi<4611686018427387904)
  (h1:∀i j h:Nat,lo<=i->i<j->j<=hi->i<=h->h<j->((i:Int)+j)/2=(h:Int)->(T h/\body ((i:Int),(j:Int))=some (.inl (((h+1:Nat):Int),(j:Int))))\/(¬T h/\body ((i:Int),(j:Int))=some (.inl ((i:Int),(h:Int)))))
  (h2:∀i j:Int,¬i<j->body (i,j)=some (.inr i)):
  Ok (aZ body bN ((lo:Int),(hi:Int))) (fun r=>∃k:Nat,r=(k:Int)/\lo<=k/\k<=hi/\(∀c,lo<=c->c<k->T c)/\∀c,k<=c->c<hi->¬T c):=by
 refine cM (fun(q:Int×Int)=>∃i j:Nat,q=((i:Int),(j:Int))/\lo<=i/\i<=j/\j<=hi/\(∀c,lo<=c->c<i->T c)/\∀c,j<=c->c<hi->¬T c) (fun(q:Int×Int)=>(q.2-q.1).toNat) (fun q n=>?_) bN _ ⟨lo,hi,rfl,wK2 _,hl,wK2 _,fun c _ _=>by omega,fun c _ _=>by omega⟩ (by simp only[bN];omega);obtain⟨i,j,rfl,b,g2,d,g,l⟩:=n;by_cases hc:i<j;rcases h1 i j ((i+j)/2) b hc d (by omega) (by omega) (by omega)with⟨f,e⟩|⟨f,e⟩
 rw[e];exact .mk ⟨⟨(i+j)/2+1,j,rfl,by omega,by omega,d,fun c c1 c2=>m c ((i+j)/2) c1 (by omega) (by omega) f,l⟩,by dsimp only;omega⟩;rw[e];refine .mk ⟨⟨i,(i+j)/2,rfl,b,by omega,by omega,g,fun c c1 c2 c3=>?_⟩,by dsimp only;omega⟩;exact f (m _ c (by omega) c1 c2 c3);rw[h2 _ _ (by omega)];have:i=j:=by omega
 subst this;exact .mk ⟨i,rfl,b,d,g,l⟩
theorem yU {f:Nat->aI} {x y z p:Nat} (h:p<x):lQ f x y z p=f p:=by
 unfold lQ;rw[wN2 (by omega),wN2 (by omega)]
theorem Dj {f:Nat->aI} {x y z p:Nat} (h1:x<=p) (h2:p<x+(z-y)):lQ f x y z p=f (p+(y-x)):=by
 unfold lQ;rw[wO2 ⟨h1,h2⟩]
theorem yV {f:Nat->aI} {x y z p:Nat} (h1:x+(z-y)<=p) (h2:p<z):lQ f x y z p=f (p-(z-y)):=by
 unfold lQ;rw[wN2 (by omega),wO2 ⟨h1,h2⟩]
theorem xN {f:Nat->aI} {x y z p:Nat} (h0:x<=y) (h:z<=p) (h1:y<=z):lQ f x y z p=f p:=by
 unfold lQ;rw[wN2 (by omega),wN2 (by omega)]
theorem Rh {f:Nat->aI} {x y z p:Nat} (h0:x<=y) (h1:y<=z) (h:x=y\/y=z):lQ f x y z p=f p:=by
 by_cases c1:p<x;exact yU c1;by_cases c2:p<x+(z-y);rw[Dj (by omega) c2];exact congrArg f (by omega);by_cases c3:p<z;rw[yV (by omega) c3];exact congrArg f (by omega);exact xN h0 (by omega) h1
section
variable {l r:List aI} {a s m e b:Nat}
theorem Ri (f:a<=s) (hs:s<=m) (he:m<=e) (hb:e<=b) (hp:r.Perm l) (hl:r.length=l.length) (h:∀p,gn r p=lQ (gn l) s m e p):Sg r l a b:=by
 refine⟨hp,hl,fun p k=>?_,fun p c d=>?_⟩;rw[h];rcases k with k|k;exact yU (by omega);exact xN hs (by omega) he;rw[h];by_cases c1:p<s;exact⟨p,c,d,yU c1⟩;by_cases c2:p<s+(e-m);exact⟨_,by omega,by omega,Dj (by omega) c2⟩;by_cases c3:p<e;exact⟨_,by omega,by omega,yV (by omega) c3⟩;exact⟨p,c,d,xN hs (by omega) he⟩
theorem Rj (f:a<=s) (hs:s<=m) (he:m<=e) (hb:e<=b) (h:∀p,gn r p=lQ (gn l) s m e p) (c:SS l a m) (d:SS l m b):
  SS r a s/\SS r s (s+(e-m))/\SS r (s+(e-m)) e/\SS r e b:=by
 refine⟨fun p q h1 h2 h3=>?_,fun p q h1 h2 h3=>?_,fun p q h1 h2 h3=>?_,fun p q h1 h2 h3=>?_⟩;rw[h,h,yU (by omega),yU (by omega)];exact c p q h1 h2 (by omega);rw[h,h,Dj (by omega) (by omega),Dj (by omega) (by omega)];exact d _ _ (by omega) (by omega) (by omega);rw[h,h,yV (by omega) (by omega),yV (by omega) (by omega)];exact c _ _ (by omega) (by omega) (by omega);rw[h,h,xN hs (by omega) he,xN hs (by omega) he];exact d p q (by omega) h2 h3
def Cr (l:aA aI) (a m b:Nat):Prop:=∀p q,a<=p->p<m->m<=q->q<b->Jo (gn l p) (gn l q)
theorem Cr.glue (h:Cr l a m b) (c:SS l a m) (d:SS l m b):SS l a b:=fun p q h1 h2 h3=>by
 by_cases c1:q<m
 exact c p q h1 h2 c1
 by_cases c2:p<m
 exact h p q h1 c2 (by omega) h3
 exact d p q (by omega) h2 h3
theorem Cr.left (h:Cr l a m b) (hs:Sg r l a m):Cr r a m b:=fun p q h1 h2 h3 h4=>by
 obtain⟨u,c,d,e⟩:=hs.2.2.2 p h1 h2
 rw[e,hs.2.2.1 q (by omega)]
 exact h u q c d h3 h4
theorem Cr.right (h:Cr l a m b) (hs:Sg r l m b):Cr r a m b:=fun p q h1 h2 h3 h4=>by
 obtain⟨u,c,d,e⟩:=hs.2.2.2 q h3 h4
 rw[e,hs.2.2.1 p (by omega)]
 exact h p u h1 h2 c d
theorem Rk (j:a<=s) (hs:s<=m) (he:m<=e) (hb:e<=b) (h:∀p,gn r p=lQ (gn l) s m e p) (g:SS l a m) (i:SS l m b)
  (h1:∀u v,a<=u->u<s->e<=v->v<b->Jo (gn l u) (gn l v)) (h2:∀w u,m<=w->w<e->s<=u->u<m->Jo (gn l w) (gn l u)):Cr r a (s+(e-m)) b:=by
 intro p q c f k d;rw[h,h];by_cases c1:p<s;rw[yU c1];by_cases c2:q<e;rw[yV (by omega) c2];exact g _ _ c (by omega) (by omega);rw[xN hs (by omega) he];exact h1 _ _ c c1 (by omega) d;rw[Dj (by omega) f];by_cases c2:q<e;rw[yV (by omega) c2];exact h2 _ _ (by omega) (by omega) (by omega) (by omega);rw[xN hs (by omega) he];exact i _ _ (by omega) (by omega) d
end
theorem pN {x y:aI}:¬cN x y<0↔Jo y x:=by have:=Jr x y;unfold Jo;omega
theorem dJ2 {a z:Nat} {l:aA aI} (h1:a<z) (h2:z<=l.length) (hl:l.length<4611686018427387904) {body:Int×aA aI->aB ((Int×aA aI)⊕aA aI)}
  (hb:∀(k:Nat) (c:aA aI),a<=k->k+1<z->c.length=l.length->body ((k:Int),c)=some (.inl (((k+1:Nat):Int),swp c k (k+1)))) (he:∀c,body (((z-1:Nat):Int),c)=some (.inr c)):
  Ok (aZ body bN ((a:Int),l)) (fun r=>r.Perm l/\r.length=l.length/\∀p,gn r p=lQ (gn l) a (a+1) z p):=by
 refine cM (fun(q:Int×aA aI)=>∃k:Nat,q.1=(k:Int)/\a<=k/\k<z/\q.2.Perm l/\q.2.length=l.length/\∀p,gn q.2 p=lQ (gn l) a (a+1) (k+1) p) (fun(q:Int×aA aI)=>z-q.1.toNat) (fun q g=>?_) bN _ ⟨a,rfl,by omega,h1,.refl _,rfl,fun p=>(Rh (by omega) (by omega) (by omega)).symm⟩ (by simp only[bN];omega);obtain⟨i,c⟩:=q;obtain⟨k,f,g2,h,e,d,b⟩:=g;dsimp only at f e d b;subst f;by_cases hc:k+1<z;rw[hb k c g2 hc d];refine .mk ⟨⟨k+1,rfl,by omega,hc,(vV (by omega) (by omega)).trans e,by rw[zW];exact d,fun p=>?_⟩,by dsimp only;omega⟩;dsimp only;rw[tQ (by omega) (by omega),b,b,b];by_cases c1:p=k+1;rw[wO2 c1,yV (by omega) (by omega),yV (by omega) (by omega)];exact congrArg (gn l) (by omega);rw[wN2 c1];by_cases c2:p=k;rw[wO2 c2,xN (by omega) (by omega) (by omega),Dj (by omega) (by omega)];exact congrArg (gn l) (by omega);rw[wN2 c2];by_cases c3:p<a;rw[yU c3,yU c3];by_cases c4:p<k;rw[Dj (by omega) (by omega),Dj (by omega) (by omega)];rw[xN (by omega) (by omega) (by omega),xN (by omega) (by omega) (by omega)];have:k=z-1:=by omega
 rw[this,he];exact .mk ⟨e,d,fun p=>by rw[b,show k+1=z by omega]⟩
theorem dK2 {a z:Nat} {l:aA aI} (h1:a<=z) (h2:z<l.length) (hl:l.length<4611686018427387904) {body:Int×aA aI->aB ((Int×aA aI)⊕aA aI)}
  (hb:∀(k:Nat) (c:aA aI),a<k->k<=z->c.length=l.length->body ((k:Int),c)=some (.inl (((k-1:Nat):Int),swp c k (k-1)))) (he:∀c,body ((a:Int),c)=some (.inr c)):
  Ok (aZ body bN ((z:Int),l)) (fun r=>r.Perm l/\r.length=l.length/\∀p,gn r p=lQ (gn l) a z (z+1) p):=by
 refine cM (fun(q:Int×aA aI)=>∃k:Nat,q.1=(k:Int)/\a<=k/\k<=z/\q.2.Perm l/\q.2.length=l.length/\∀p,gn q.2 p=lQ (gn l) k z (z+1) p) (fun(q:Int×aA aI)=>q.1.toNat) (fun q h=>?_) bN _ ⟨z,rfl,h1,by omega,.refl _,rfl,fun p=>(Rh (by omega) (by omega) (by omega)).symm⟩ (by simp only[bN];omega);obtain⟨i,c⟩:=q;obtain⟨k,f,g2,g,e,d,b⟩:=h;dsimp only at f e d b;subst f;by_cases hc:a<k;rw[hb k c hc g d];refine .mk ⟨⟨k-1,rfl,by omega,by omega,(vV (by omega) (by omega)).trans e,by rw[zW];exact d,fun p=>?_⟩,by dsimp only;omega⟩;dsimp only;rw[tQ (by omega) (by omega),b,b,b];by_cases c1:p=k-1;rw[wO2 c1,Dj (by omega) (by omega),Dj (by omega) (by omega)];exact congrArg (gn l) (by omega);rw[wN2 c1];by_cases c2:p=k;rw[wO2 c2,yU (by omega),yV (by omega) (by omega)];exact congrArg (gn l) (by omega);rw[wN2 c2];by_cases c3:p<k;rw[yU (by omega),yU (by omega)];by_cases c4:p<z+1;rw[yV (by omega) (by omega),yV (by omega) (by omega)];rw[xN (by omega) (by omega) (by omega),xN (by omega) (by omega) (by omega)];have:k=a:=by omega
 subst this;rw[he];exact .mk ⟨e,d,b⟩
end Go.P
namespace Go.P
theorem Es {a b:Int} {n:Nat} (h:a+b=(n:Int)) (c:n<9223372036854775808):bF (a+b)=(n:Int):=by rw[bK (by omega) (by omega)];exact h
theorem Jv {a b:Int} {n:Nat} (h:a-b=(n:Int)) (c:n<9223372036854775808):bF (a-b)=(n:Int):=by rw[bK (by omega) (by omega)];exact h
theorem nG1 {n:Nat} (a:n<9223372036854775808):bF (n:Int)=(n:Int):=bK (by omega) (by omega)
theorem hlf {a b:Int} {h:Nat} (h0:0<=a+b) (h1:a+b<9223372036854775808) (e:(a+b)/2=(h:Int)):mB .u64 (IntKind.wrap .u64 (bF (a+b))) 1=some (h:Int):=by rw[nF1 h0 h1,e]
theorem Uo {l:aA aI} {f g:Int} {p q:Nat} (h:f=(q:Int)) (e2:g=(p:Int)) (hp:p<l.length) (e:q<l.length) {B:Type} {k:aA aI->aB B}:
  ((dA l f).bind fun a=>(eL l a).bind fun x=>(dA l g).bind fun b=>(eL l b).bind fun y=>(dA l g).bind fun c=>(lP l c (fun _=>x)).bind fun i=>(dA i f).bind fun d=>(lP i d (fun _=>y)).bind k)=k (swp l p q):=by
 rw[gS h e,wJ2,jN e,wJ2,gS e2 hp,wJ2,jN hp,wJ2,wJ2,rZ hp,wJ2,gS h (by simpa using e),wJ2,rZ (by simpa using e),wJ2];rfl
theorem Yf {rec:Int->Int->Int->aA aI->aB (aA aI)} {w a m b:Nat} {l:aA aI}
  (ih:∀(a m b:Nat) (l:aA aI),a<m->m<b->b<=l.length->l.length<4611686018427387904->b-a<=w->SS l a m->SS l m b->Ok (rec ((a:Nat):Int) ((m:Nat):Int) ((b:Nat):Int) l) (fun r=>Sg r l a b/\SS r a b))
  (h1:a<m) (h2:m<b) (h3:b<=l.length) (hl:l.length<4611686018427387904) (hw:b-a<=2*w) (F:SS l a m) (G:SS l m b):Ok (De rec ((a:Nat):Int) ((m:Nat):Int) ((b:Nat):Int) l) (fun r=>Sg r l a b/\SS r a b):=by
 unfold De;rw[Jv (a:=(m:Int)) (n:=m-a) (by omega) (by omega),Jv (a:=(b:Int)) (n:=b-m) (by omega) (by omega)];refine Oi (fun hc=>?_) (fun hc=>Oi (fun hd=>?_) (fun hd=>?_))
 have hc:m=a+1:=by
  have:=eq_of_beq hc;omega
 subst hc;refine Ob (eZ1 (lo:=a+1) (hi:=b) (fun c=>cN (gn l c) (gn l a)<0) (fun c L A t B C=>?_) (by omega) (by omega) (fun i j h A t B C Z R=>?_) (fun i j E=>?_)) fun x V=>?_;have H:=G c L A t B;have N:=Jr (gn l c) (gn l a);apply Decidable.byContradiction;intro J;have e4:Jo (gn l a) (gn l c):=Jt J;have e5:Jo (gn l a) (gn l L):=iX e4 H;have e6:=pN.2 e5;exact e6 C;dsimp only;rw[wO2 (by simpa using t),hlf (by omega) (by omega) R];simp only[wJ2];rw[nG1 (by omega),gS rfl (show h<l.length by omega),gS rfl (show a<l.length by omega)];simp only[wJ2];rw[jN (by omega),jN (by omega)];simp only[wJ2,Ju];by_cases o:cN (gn l h) (gn l a)<0;refine .inl ⟨o,?_⟩;rw[wO2 (by simpa using o),Es (n:=h+1) (by omega) (by omega)];rfl;refine .inr ⟨o,?_⟩;rw[wN2 (by simpa using o)];rfl;dsimp only;rw[wN2 (by simpa using E)];obtain⟨z,rfl,z1,z2,z3,z4⟩:=V;rw[Jv (n:=z-1) (by omega) (by omega)];refine Ob (dJ2 (a:=a) (z:=z) (l:=l) (by omega) (by omega) hl (fun k c A t B=>?_) (fun c=>?_)) fun r hr=>?_;dsimp only;rw[wO2 (by simp;omega),Es (n:=k+1) (by omega) (by omega)];exact Uo rfl rfl (by omega) (by omega);dsimp only;rw[wN2 (by simp)];refine .mk ⟨Ri (wK2 _) (by omega) (by omega) z2 hr.1 hr.2.1 hr.2.2,?_⟩;have q:=Rj (s:=a) (m:=a+1) (e:=z) (b:=b) (wK2 _) (by omega) (by omega) z2 hr.2.2 F G;refine Cr.glue (m:=a+(z-(a+1))) (Rk (wK2 _) (by omega) (by omega) z2 hr.2.2 F G (fun u v A t=>by omega) (fun w u A t B C=>?_)) q.2.1 ?_;rw[show u=a by omega];exact Js (z3 w A t);refine Cr.glue (m:=z) (fun p q A t B C=>?_) q.2.2.1 q.2.2.2;rw[hr.2.2,hr.2.2,yV (by omega) (by omega),xN (by omega) (by omega) (by omega),show p-(z-(a+1))=a by omega];exact Jt (z4 q B C)
 have hd:b=m+1:=by
  have:=eq_of_beq hd;omega
 subst hd;refine Ob (eZ1 (lo:=a) (hi:=m) (fun c=>¬cN (gn l m) (gn l c)<0) (fun c L A t B C=>?_) (by omega) (by omega) (fun i j h A t B C Z R=>?_) (fun i j E=>?_)) fun x V=>?_;have H:=F c L A t B;exact pN.2 (iX H (pN.1 C));dsimp only;rw[wO2 (by simpa using t),hlf (by omega) (by omega) R];simp only[wJ2];rw[nG1 (by omega),gS rfl (show h<l.length by omega),gS rfl (show m<l.length by omega)];simp only[wJ2];rw[jN (by omega),jN (by omega)];simp only[wJ2,Ju];by_cases o:cN (gn l m) (gn l h)<0;refine .inr ⟨fun J=>J o,?_⟩;rw[wN2 (by simpa using o)];rfl;refine .inl ⟨o,?_⟩;rw[wO2 (by simpa using o),Es (n:=h+1) (by omega) (by omega)];rfl;dsimp only;rw[wN2 (by simpa using E)];obtain⟨z,rfl,z1,z2,z3,z4⟩:=V;refine Ob (dK2 (a:=z) (z:=m) (l:=l) (by omega) (by omega) hl (fun k c A t B=>?_) (fun c=>?_)) fun r hr=>?_;dsimp only;rw[wO2 (by simp;omega),Jv (n:=k-1) (by omega) (by omega)];exact Uo rfl rfl (by omega) (by omega);dsimp only;rw[wN2 (by simp)];refine .mk ⟨Ri z1 z2 (by omega) (wK2 _) hr.1 hr.2.1 hr.2.2,?_⟩;have q:=Rj (s:=z) (m:=m) (e:=m+1) (b:=m+1) z1 z2 (by omega) (wK2 _) hr.2.2 F G;refine Cr.glue (m:=z+(m+1-m)) (Rk z1 z2 (by omega) (wK2 _) hr.2.2 F G (fun u v A t=>by omega) (fun w u A t B C=>?_)) ?_ q.2.2.1;rw[show w=m by omega];exact Js (Decidable.byContradiction fun J=>z4 u B C J);refine Cr.glue (m:=z) (fun p q A t B C=>?_) q.1 q.2.1;rw[hr.2.2,hr.2.2,yU (by omega),Dj (by omega) (by omega),show q+(m-z)=m by omega];exact pN.1 (z3 p A t);have hc:m-a≠1:=fun h=>hc (by rw[h];rfl);have hd:b-m≠1:=fun h=>hd (by rw[h];rfl);have K:∃g:Nat,g=(a+b)/2:=⟨_,rfl⟩
 obtain⟨g,K⟩:=K;rw[hlf (h:=g) (by omega) (by omega) (by omega)];simp only[wJ2];rw[nG1 (by omega),Es (n:=g+m) (by omega) (by omega),Jv (b:=1) (n:=g+m-1) (by omega) (by omega)];refine Ob (P:=fun r=>∃x y:Nat,r=((x:Int),(y:Int))/\(m>g/\x=g+m-b/\y=g\/m<=g/\x=a/\y=m)) ?_ fun r hr=>?_;by_cases O:(m:Int)>(g:Int);rw[wO2 (by simpa using O),Jv (n:=g+m-b) (by omega) (by omega)];exact .mk ⟨_,_,rfl,.inl ⟨by omega,rfl,rfl⟩⟩;rw[wN2 (by simpa using O)];exact .mk ⟨_,_,rfl,.inr ⟨by omega,rfl,rfl⟩⟩;obtain⟨x,y,rfl,b4⟩:=hr;dsimp only;have x1:a<=x:=by omega
 have x2:x<=y:=by omega
 have x3:y<=m:=by omega
 have x4:y<=g:=by omega
 have x5:g+m-x<=b:=by omega
 have x6:m<=g+m-y:=by omega
 refine Ob (eZ1 (lo:=x) (hi:=y) (fun c=>¬cN (gn l (g+m-1-c)) (gn l c)<0) (fun c L A t B C=>?_) x2 (by omega) (fun i j h A t B C Z R=>?_) (fun i j E=>?_)) fun u hu=>?_;have H:=F c L (by omega) t (by omega);have e2:=G (g+m-1-L) (g+m-1-c) (by omega) (by omega) (by omega);exact pN.2 (iX H (iX (pN.1 C) e2));dsimp only;rw[wO2 (by simpa using t),hlf (by omega) (by omega) R];simp only[wJ2];rw[nG1 (by omega),Jv (n:=g+m-1-h) (by omega) (by omega),gS rfl (show g+m-1-h<l.length by omega),gS rfl (show h<l.length by omega)];simp only[wJ2];rw[jN (by omega),jN (by omega)];simp only[wJ2,Ju];by_cases o:cN (gn l (g+m-1-h)) (gn l h)<0;refine .inr ⟨fun J=>J o,?_⟩;rw[wN2 (by simpa using o)];rfl;refine .inl ⟨o,?_⟩;rw[wO2 (by simpa using o),Es (n:=h+1) (by omega) (by omega)];rfl;dsimp only;rw[wN2 (by simpa using E)];obtain⟨s,rfl,z1,z2,z3,z4⟩:=hu;rw[Jv (n:=g+m-s) (by omega) (by omega)];obtain⟨e,he⟩:∃e:Nat,e=g+m-s:=⟨_,rfl⟩
 rw[<-he];have T:a<=s:=by omega
 have U:s<=m:=by omega
 have S:m<=e:=by omega
 have W:e<=b:=by omega
 have t5:s+(e-m)=g:=by omega
 refine Ob (P:=fun r=>r.Perm l/\r.length=l.length/\∀p,gn r p=lQ (gn l) s m e p) ?_ fun r hr=>?_;by_cases D:s<m/\m<e;rw[wO2 (by simpa using D)];exact Ob (eY1 D.1 D.2 (by omega) hl) fun d hd=>.mk hd;rw[wN2 (by simpa using D)];exact .mk ⟨.refl _,rfl,fun p=>(Rh U S (by omega)).symm⟩;have g0:=Ri T U S W hr.1 hr.2.1 hr.2.2;have M:=Rj T U S W hr.2.2 F G
 have g2:=Rk T U S W hr.2.2 F G (fun u v A t B C=>by
  have H:=F u (s-1) A (by omega) (by omega);have e2:=G e v S B C;have N:=pN.1 (z3 (s-1) (by omega) (by omega));rw[show g+m-1-(s-1)=e by omega]at N;exact iX H (iX N e2)) (fun w u A t B C=>by
  have H:=G w (e-1) A (by omega) (by omega);have e2:=F s u T B C;have N:=Js (Decidable.byContradiction fun J=>z4 s (wK2 _) (by omega) J);rw[show g+m-1-s=e-1 by omega]at N;exact iX H (iX N e2))
 rw[t5]at M g2;have b0:=hr.2.1;refine Ob (P:=fun d=>Sg d r a g/\SS d a g) ?_ fun d hd=>?_;by_cases D:a<s/\s<g;rw[wO2 (by simpa using D)];exact Ob (ih a s g r D.1 D.2 (by omega) (by omega) (by omega) M.1 M.2.1) fun d hd=>.mk hd;rw[wN2 (by simpa using D)];refine .mk ⟨Sg.refl _ _ _,?_⟩;by_cases hs:s=a;rw[<-hs];exact M.2.1;rw[show g=s by omega];exact M.1;have a0:=hd.1.2.1;have c2:=g2.left hd.1;have X:SS d g e:=M.2.2.1.off hd.1 (.inr (wK2 _));have Y:SS d e b:=M.2.2.2.off hd.1 (.inr (by omega));refine Ob (P:=fun f=>Sg f d g b/\SS f g b) ?_ fun f hf=>?_;by_cases D:g<e/\e<b;rw[wO2 (by simpa using D)];exact Ob (ih g e b d D.1 D.2 (by omega) (by omega) (by omega) X Y) fun d hd=>.mk hd;rw[wN2 (by simpa using D)];refine .mk ⟨Sg.refl _ _ _,?_⟩;by_cases hs:e=g;rw[<-hs];exact Y;rw[show b=e by omega];exact X;refine .mk ⟨((hf.1.mono (by omega) (wK2 _)).trans (hd.1.mono (wK2 _) (by omega))).trans g0,?_⟩;exact Cr.glue (c2.right hf.1) (hd.2.off hf.1 (.inl (wK2 _))) hf.2
theorem Up:∀(k:Nat) (a m b:Nat) (l:aA aI),a<m->m<b->b<=l.length->l.length<4611686018427387904->b-a<=2^k->SS l a m->SS l m b->Ok (Jk k ((a:Nat):Int) ((m:Nat):Int) ((b:Nat):Int) l) (fun r=>Sg r l a b/\SS r a b)
 |0,a,m,b,l,h1,h2,h3,hl,hw,s1,s2=>by omega
 |k+1,a,m,b,l,h1,h2,h3,hl,hw,s1,s2=>Yf (rec:=Jk k) (w:=2^k) (Up k) h1 h2 h3 hl (by rw[Nat.pow_succ]at hw;omega) s1 s2
theorem No {a m b:Nat} {l:aA aI} (h1:a<m) (h2:m<b) (h3:b<=l.length) (hl:l.length<4611686018427387904) (c:SS l a m) (d:SS l m b):Ok (Nm ((a:Nat):Int) ((m:Nat):Int) ((b:Nat):Int) l) (fun r=>Sg r l a b/\SS r a b):=
 Up 64 a m b l h1 h2 h3 hl (by rw[show(2:Nat)^64=18446744073709551616 from rfl];omega) c d
end Go.P
namespace Go.P
theorem Np {a b:Nat} {l:aA aI} (h1:a<=b) (h2:b<=l.length) (hl:l.length<4611686018427387904):Ok (Nl ((a:Nat):Int) ((b:Nat):Int) l) (fun r=>Sg r l a b/\SS r a b):=by
 unfold Nl;rw[Es (n:=a+1) (by omega) (by omega)];refine Ob (P:=fun r=>Sg r l a b/\SS r a b) (cM (fun(q:Int×aA aI)=>∃i:Nat,q.1=(i:Int)/\a+1<=i/\(i<=b\/i=a+1)/\Sg q.2 l a b/\SS q.2 a i) (fun(q:Int×aA aI)=>b-q.1.toNat) (fun q w=>?_) bN _ ⟨a+1,rfl,wK2 _,.inr rfl,.refl _ _ _,fun p q e m h=>by rw[show p=q by omega];exact Dh _⟩ (by simp only[bN];omega)) fun r hr=>.mk hr;obtain⟨F,c⟩:=q;obtain⟨i,y,g2,E,t,v⟩:=w;dsimp only at y t v ⊢;subst y;have A:=t.2.1;by_cases k:(i:Int)<(b:Int);rw[wO2 (by simpa using k)];refine Ob (P:=fun r=>Sg r l a b/\SS r a (i+1)) (cM (fun(q:Int×aA aI)=>∃j:Nat,q.1=(j:Int)/\a<=j/\j<=i/\Sg q.2 l a b/\∀p s,a<=p->p<s->s<=i->s≠j->Jo (gn q.2 p) (gn q.2 s)) (fun(q:Int×aA aI)=>q.1.toNat) (fun q w=>?_) bN _ ⟨i,rfl,by omega,wK2 _,t,fun p s e m h z=>v p s e (by omega) (by omega)⟩ (by simp only[bN];omega)) fun r hr=>?_;obtain⟨G,d⟩:=q;obtain⟨j,x,C,D,f4,g⟩:=w;dsimp only at x f4 g ⊢;subst x;have B:=f4.2.1;by_cases h0:(j:Int)>(a:Int);rw[wO2 (by simpa using h0),Jv (n:=j-1) (by omega) (by omega),gS rfl (show j<d.length by omega),gS rfl (show j-1<d.length by omega)];simp only[wJ2];rw[jN (by omega),jN (by omega)];simp only[wJ2,Ju];by_cases hc:cN (gn d j) (gn d (j-1))<0;rw[wO2 (by simpa using hc),rZ (by omega)];simp only[wJ2];rw[gS rfl (show j-1<(d.set j (gn d (j-1))).length by simp;omega)];simp only[wJ2];rw[rZ (by simp;omega)];simp only[wJ2];rw[show(d.set j (gn d (j-1))).set (j-1) (gn d j)=swp d j (j-1)from rfl];refine .mk ⟨⟨j-1,rfl,by omega,by omega,(Sg.swp (by omega) (by omega) (by omega) (by omega) (by omega)).trans f4,fun p s e m h z=>?_⟩,by dsimp only;omega⟩;dsimp only;rw[tQ (by omega) (by omega),tQ (by omega) (by omega),wN2 z];by_cases f:s=j;subst f;rw[wO2 rfl];by_cases e2:p=s-1;rw[wO2 e2];exact Js hc;rw[wN2 e2,wN2 (by omega)];exact g p (s-1) e (by omega) (by omega) (by omega);rw[wN2 f];by_cases e2:p=j-1;rw[wO2 e2];exact g j s (by omega) (by omega) h f;rw[wN2 e2];by_cases o:p=j;rw[wO2 o];exact g (j-1) s (by omega) (by omega) h f;rw[wN2 o];exact g p s e m h f;rw[wN2 (by simpa using hc)];refine .mk ⟨f4,fun p s e m h=>?_⟩;by_cases u:p=s;subst u;exact Dh _;by_cases f:s=j;have e2:=Jt hc;by_cases o:p=j-1;rw[f,o];exact e2;rw[f];exact iX (g p (j-1) e (by omega) (by omega) (by omega)) e2;exact g p s e (by omega) (by omega) f;rw[wN2 (by simpa using h0)];simp only[wJ2,wU2,xQ2];refine .mk ⟨f4,fun p s e m h=>?_⟩;by_cases u:p=s;subst u;exact Dh _;exact g p s e (by omega) (by omega) (by omega);rw[Es (n:=i+1) (by omega) (by omega)];exact .mk ⟨⟨i+1,rfl,by omega,.inl (by omega),hr.1,hr.2⟩,by dsimp only;omega⟩;rw[wN2 (by simpa using k)];exact .mk ⟨t,v.sub (wK2 _) (by omega)⟩
def Bk (w n:Nat) (c:aA aI):Prop:=∀t,SS c (t*w) (min (t*w+w) n)
theorem SS.nil {l:aA aI} {a b:Nat} (h:b<=a):SS l a b:=fun p q h1 h2 h3=>by omega
theorem fA1 {l:aA aI} (hl:l.length<1152921504606846976):Ok (Uk (l.length:Int) l) (fun r=>Sg r l 0 l.length/\SS r 0 l.length):=by
 unfold Uk;refine Ob (P:=fun r=>∃t:Nat,r.1=((t*20:Nat):Int)/\t*20<=l.length/\l.length<t*20+20/\Sg r.2 l 0 l.length/\∀u,u<t->SS r.2 (u*20) (u*20+20)) (cM (fun(q:Int×Int×aA aI)=>∃t:Nat,q.1=((t*20:Nat):Int)/\q.2.1=((t*20+20:Nat):Int)/\t*20<=l.length/\Sg q.2.2 l 0 l.length/\∀u,u<t->SS q.2.2 (u*20) (u*20+20)) (fun(q:Int×Int×aA aI)=>l.length-q.1.toNat) (fun q p=>?_) bN _ ⟨0,rfl,rfl,by omega,.refl _ _ _,fun u h=>by omega⟩ (by simp only[bN];omega)) fun r hr=>?_;obtain⟨x,D,c⟩:=q;obtain⟨t,i,g2,o,f,g⟩:=p;dsimp only at i g2 f g ⊢;subst i g2;have k:=f.2.1;by_cases hc:((t*20+20:Nat):Int)<=(l.length:Int);rw[wO2 (by simpa using hc)];refine Ob (Np (a:=t*20) (b:=t*20+20) (l:=c) (by omega) (by omega) (by omega)) fun d hd=>?_;rw[Es (n:=(t+1)*20+20) (by omega) (by omega)];refine .mk ⟨⟨t+1,by dsimp only;omega,rfl,by omega,(hd.1.mono (by omega) (by omega)).trans f,fun u C=>?_⟩,by dsimp only;omega⟩;by_cases e:u=t;subst e;exact hd.2;exact(g u (by omega)).off hd.1 (.inl (by omega));rw[wN2 (by simpa using hc)];exact .mk ⟨t,rfl,o,by omega,f,g⟩;obtain⟨x,c⟩:=r;obtain⟨t,i,g2,o,f,g⟩:=hr;dsimp only at i f g ⊢;subst i;have k:=f.2.1;refine Ob (Np (a:=t*20) (b:=l.length) (l:=c) g2 (by omega) (by omega)) fun d hd=>?_
 have G:Bk 20 l.length d:=fun u=>by
  by_cases y:u<t;exact((g u y).off hd.1 (.inl (by omega))).sub (wK2 _) (by omega);by_cases e2:u=t;subst e2;exact hd.2.sub (wK2 _) (by omega);exact .nil (by omega)
 have H:Sg d l 0 l.length:=(hd.1.mono (by omega) (wK2 _)).trans f;refine Ob (P:=fun r=>Sg r l 0 l.length/\SS r 0 l.length) (cM (fun(q:Int×aA aI)=>∃w:Nat,q.1=(w:Int)/\0<w/\w<2305843009213693952/\Sg q.2 l 0 l.length/\Bk w l.length q.2) (fun(q:Int×aA aI)=>l.length-q.1.toNat) (fun q p=>?_) bN _ ⟨20,rfl,by omega,by omega,H,G⟩ (by simp only[bN];omega)) fun r hr=>.mk hr;obtain⟨N,c⟩:=q;obtain⟨w,A,K,L,f4,z⟩:=p;dsimp only at A f4 z ⊢;subst A;have k:=f4.2.1;by_cases hw:(w:Int)<(l.length:Int);rw[wO2 (by simpa using hw),bK (n:=2*(w:Int)) (by omega) (by omega),bK (n:=(w:Int)*2) (by omega) (by omega)]
 refine Ob (P:=fun r=>∃t:Nat,r.1=((2*(t*w):Nat):Int)/\2*(t*w)<=l.length/\l.length<2*(t*w)+2*w/\Sg r.2 l 0 l.length/\(∀u,u<t->SS r.2 (2*(u*w)) (2*(u*w)+2*w))/\∀u,2*t<=u->SS r.2 (u*w) (min (u*w+w) l.length))
  (cM (fun(q:Int×Int×aA aI)=>∃t:Nat,q.1=((2*(t*w):Nat):Int)/\q.2.1=((2*(t*w)+2*w:Nat):Int)/\2*(t*w)<=l.length/\Sg q.2.2 l 0 l.length/\(∀u,u<t->SS q.2.2 (2*(u*w)) (2*(u*w)+2*w))/\∀u,2*t<=u->SS q.2.2 (u*w) (min (u*w+w) l.length)) (fun(q:Int×Int×aA aI)=>l.length-q.1.toNat) (fun q p=>?_) bN _ ⟨0,by simp,by simp,by omega,f4,fun u h=>by omega,fun u _=>z u⟩ (by simp only[bN];omega)) fun r hr=>?_
 obtain⟨x,D,c⟩:=q;obtain⟨t,i,g2,o,f,g,j⟩:=p;dsimp only at i g2 f g j ⊢;subst i g2;have k:=f.2.1;have s:(2*t)*w=2*(t*w):=Nat.mul_assoc _ _ _;have v:(2*t+1)*w=2*(t*w)+w:=by rw[xZ2,s]
 have M:(t+1)*w=t*w+w:=xZ2 _ _;by_cases hc:((2*(t*w)+2*w:Nat):Int)<=(l.length:Int);rw[wO2 (by simpa using hc),Es (n:=2*(t*w)+w) (by omega) (by omega),bK (n:=((2*(t*w)+2*w:Nat):Int)+2*(w:Int)) (by omega) (by omega)];have q1:=j (2*t) (wK2 _);have q2:=j (2*t+1) (by omega);rw[s]at q1;rw[v]at q2;refine Ob (No (a:=2*(t*w)) (m:=2*(t*w)+w) (b:=2*(t*w)+2*w) (l:=c) (by omega) (by omega) (by omega) (by omega) (q1.sub (wK2 _) (by omega)) (q2.sub (wK2 _) (by omega))) fun d hd=>?_;refine .mk ⟨⟨t+1,by dsimp only;omega,by dsimp only;omega,by omega,(hd.1.mono (by omega) (by omega)).trans f,fun u C=>?_,fun u C=>?_⟩,by dsimp only;omega⟩;by_cases e:u=t;subst e;exact hd.2;have:=xK2 w (show u+1<=t by omega);rw[xZ2]at this;exact(g u (by omega)).off hd.1 (.inl (by omega));have:=xK2 w (show 2*t+1+1<=u by omega);rw[xZ2,v]at this;exact(j u (by omega)).off hd.1 (.inr (by omega));rw[wN2 (by simpa using hc)];exact .mk ⟨t,rfl,o,by omega,f,g,j⟩;obtain⟨x,c⟩:=r;obtain⟨t,i,g2,o,f,g,j⟩:=hr;dsimp only at i f g j ⊢;subst i;have k:=f.2.1;have s:(2*t)*w=2*(t*w):=Nat.mul_assoc _ _ _;have v:(2*t+1)*w=2*(t*w)+w:=by rw[xZ2,s]
 have q1:=j (2*t) (wK2 _);have q2:=j (2*t+1) (by omega);rw[s]at q1;rw[v]at q2;rw[Es (n:=2*(t*w)+w) (by omega) (by omega)];refine Ob (P:=fun d=>Sg d l 0 l.length/\Bk (w*2) l.length d) ?_ fun d hd=>?_
 have fin:∀d,Sg d c (2*(t*w)) l.length->SS d (2*(t*w)) l.length->Bk (w*2) l.length d:=fun d E F u=>by
  have J:u*(w*2)=2*(u*w):=by rw[<-Nat.mul_assoc,Nat.mul_comm]
  rw[J];by_cases y:u<t;have:=xK2 w (show u+1<=t by omega);rw[xZ2]at this;exact((g u y).off E (.inl (by omega))).sub (wK2 _) (by omega);by_cases e2:u=t;subst e2;exact F.sub (wK2 _) (by omega);have:=xK2 w (show t+1<=u by omega);rw[xZ2]at this;exact .nil (by omega)
 by_cases B:((2*(t*w)+w:Nat):Int)<(l.length:Int);rw[wO2 (by simpa using B)];refine Ob (No (a:=2*(t*w)) (m:=2*(t*w)+w) (b:=l.length) (l:=c) (by omega) (by omega) (by omega) (by omega) (q1.sub (wK2 _) (by omega)) (q2.sub (wK2 _) (by omega))) fun d hd=>?_;exact .mk ⟨(hd.1.mono (by omega) (wK2 _)).trans f,fin d hd.1 hd.2⟩;rw[wN2 (by simpa using B)];exact .mk ⟨f,fin c (.refl _ _ _) (q1.sub (wK2 _) (by omega))⟩;exact .mk ⟨⟨w*2,by dsimp only;omega,by omega,by omega,hd.1,hd.2⟩,by dsimp only;omega⟩;rw[wN2 (by simpa using hw)];have q:=z 0;rw[aG3]at q;exact .mk ⟨f4,q.sub (wK2 _) (by omega)⟩
theorem nH1 {l:aA aI} (hl:l.length<1152921504606846976):Ok (mF1 l) (fun r=>Sd r l):=by
 unfold mF1;refine Ob (fA1 hl) fun r hr=>.mk ⟨hr.1.1,List.pairwise_iff_getElem.2 fun i j hi a b=>?_⟩;have:=hr.2 i j (by omega) (by omega) (by rw[<-hr.1.2.1];exact a)
 rwa [Dg hi,Dg a]at this
theorem nI1 {A:Type} {l m:aA A} (h:l.length+m.length<=1073741824):iP false l m=some (l++m):=by
 have e:Sim.maxRoom=1073741824:=rfl;unfold iP;rw[wO2 ⟨by rw[e];omega,fun h=>by cases h⟩]
theorem nJ1 {l:aA aI} (hl:l.length<=1073741824):mD1 [] l=some l:=by
 refine dI2 ?_;unfold mD1;refine Ob (P:=fun r=>r=l) (bO (l:=l) (fun(q:Int×aA aI)=>q.1) (fun(i:Nat) (q:Int×aA aI)=>q.2=l.take i) (by omega) rfl rfl (fun i e q d m hi a b hg hw=>?_) (fun q hi b=>?_)) fun r hr=>.mk hr;obtain⟨k,o⟩:=q;dsimp only at hi a b hg hw ⊢;subst hi b;obtain⟨h,rfl⟩:=wI2.1 d;rw[wO2 (by simpa using a)];refine Ob (gR (by omega) a) fun j g=>?_;refine Ob (kP g.2) fun y hy=>?_;have c:j=i:=by have:=g.1;omega
 have f:l[i]=y:=by rw[c]at hy;exact yK2 (d.symm.trans hy.1)
 rw[<-f];unfold Jj;rw[nI1 (by simp;omega)];refine .mk ⟨hw,?_⟩;dsimp only;rw[List.take_add_one,d];rfl;obtain⟨k,o⟩:=q;dsimp only at hi b ⊢;rw[hi,wN2 (by simp)];exact .mk (by rw[b,zC2])
theorem Uq {l:aA aI} (hl:l.length<=1073741824):Ok (Yc l) (fun r=>Sd r l):=by
 unfold Yc tB1 sT1 sV1 eJ1;simp only[wJ2];rw[nJ1 hl];simp only[wJ2];exact Ob (P:=fun r=>Sd r l) (Ob (nH1 (by omega)) fun r hr=>.mk hr) fun r hr=>.mk hr
end Go.P
namespace Go.P
variable {s:Y0}
def cnt (l:aA bJ) (m:Int):Nat:=l.countP (fun b=>b.aY==m)
theorem uK1 (l:aA bJ) (m:Int):cnt l m<=l.length:=List.countP_le_length
theorem fC1 {l:aA bJ} {i:Nat} {b:bJ} (h:l[i]? =some b) (m:Int):cnt (l.take (i+1)) m=cnt (l.take i) m+(if b.aY=m then 1 else 0):=by
 unfold cnt;rw[List.take_add_one,h,List.countP_append];simp
theorem Nq {l:aA bJ} {i:Nat} {m:Int}:cnt (l.take i) m<=i:=xJ2 (uK1 _ _) (by rw[zJ2];omega)
def wr (n:Nat):aA bJ->aA bJ->Int
 |_,[]=>0
 |seen,b::r=>if b.aY<0\/b.aY>=n then 2 else if b.gL1≠(cnt seen b.aY:Int)then 38 else wr n (seen++[b]) r
theorem nK1 {n:Nat} {l:aA bJ} {i:Nat} {b:bJ} (h:l[i]? =some b):
  wr n (l.take i) (l.drop i)=if b.aY<0\/b.aY>=n then 2 else if b.gL1≠(cnt (l.take i) b.aY:Int)then 38 else wr n (l.take (i+1)) (l.drop (i+1)):=by
 obtain⟨hi,rfl⟩:=wI2.1 h;rw[List.drop_eq_getElem_cons hi,wr,List.take_add_one,h];rfl
theorem uL1 {n:Nat} {l:aA bJ}:wr n (l.take l.length) (l.drop l.length)=0:=by
 rw[List.drop_length];rfl
theorem dL2 {n:Nat} {l:aA bJ} (h:wr n [] l=0):∀b∈l,0<=b.aY/\b.aY<n:=by
 have:∀(l c:aA bJ),wr n c l=0->∀b∈l,0<=b.aY/\b.aY<n:=by
  intro l
  induction l with
  |nil=>intro c _ b hb;cases hb
  |cons a r ih=>
   intro c h b hb;rw[wr]at h;split at h;cases h;split at h;cases h;rename_i h1 _;rcases xF2.1 hb with rfl|hb;omega;exact ih _ h b hb
 exact this l [] h
theorem dM2 {l:aA bJ} (hs:s.sm) (hv:Dc s=some true) (hl:l.length<=8192):F23 s l=some (wr s.aD.length [] l):=by
 have j:=hs.aD;refine Ok.eq ?_;unfold F23;rw[hv];simp only[wJ2,zI2,wU2,xQ2];rw[wN2 (by simp;omega)];generalize hW:wr s.aD.length [] l=W;refine Ob (P:=fun r=>match r with|.inl e=>e.1=W|.inr _=>0=W) (bO (l:=l) (fun q=>q.1) (fun i q=>wr s.aD.length (l.take i) (l.drop i)=W/\∀m,fJ q.2 m 0=(cnt (l.take i) m:Int)) (by omega) rfl ⟨hW,fun m=>rfl⟩ (fun i e q d n hi c a hg hw=>?_) (fun q hi a=>?_)) fun r hr=>?_;obtain⟨k,E⟩:=q;dsimp only at hi c a hg hw;obtain⟨a,f⟩:=a;rw[hi]at hg c hw ⊢;simp only[c,hg,nt];rw[nK1 d]at a;by_cases h1:e.aY<0\/e.aY>=(s.aD.length:Int);rw[wO2 h1]at a;rw[wO2 (by simpa using h1)];exact .mk a;rw[wN2 h1]at a;rw[wN2 (by simpa using h1),f];have hc:=Nq (l:=l) (i:=i) (m:=e.aY);by_cases h2:e.gL1=(cnt (l.take i) e.aY:Int);rw[wN2 (fun h=>h h2)]at a;rw[wN2 (by simpa using h2),hw];have g:=(wI2.1 d).1;refine .mk ⟨rfl,a,fun m=>?_⟩;rw[rX,bK (by omega) (by omega),fC1 d];by_cases b:e.aY=m;rw[wO2 b.symm,wO2 b,<-b];omega;rw[wN2 (fun h=>b h.symm),wN2 b,f];omega;rw[wO2 h2]at a;rw[wO2 (by simpa using h2)];exact .mk a;obtain⟨k,E⟩:=q;dsimp only at hi a;rw[hi];rw[wN2 (by simp)];rw[uL1]at a;exact .mk a.1;rcases r with⟨e,m⟩|_;exact .mk hr;exact .mk hr
def ln (s:Y0) (b:bJ):Int:=match bB s.aD b.aY with|some m=>(match Dy m with|some r=>r.1|none=>0)|none=>0
def kY (s:Y0) (l:aA bJ) (i:Nat):Int:=((l.take i).map (ln s)).sum
def ons (s:Y0) (l:aA bJ):aA Int:=(List.range (l.length+1)).map (kY s l)
theorem sA {l:aA bJ} {i:Nat} {b:bJ} (h:l[i]? =some b):kY s l (i+1)=kY s l i+ln s b:=by
 unfold kY;rw[List.take_add_one,h,zQ2,List.sum_append];simp
theorem fD1 (hg:dO s) {b:bJ} (h:0<=b.aY/\b.aY<s.aD.length):∃m,bB s.aD b.aY=some m/\Dy m=some (ln s b,0)/\0<ln s b/\ln s b<=15482880:=by
 obtain⟨m,d,a⟩:=cK (Q:=fun x=>x∈s.aD) h.1 h.2 (fun _ h _=>h);obtain⟨n,c⟩:=hg m a;have:=E94 c;have hl:ln s b=n:=by unfold ln;rw[d];dsimp only;rw[c]
 exact⟨m,d,by rw[hl];exact c,by omega,by omega⟩
theorem zX (hg:dO s) {l:aA bJ} (a:∀b∈l,0<=b.aY/\b.aY<s.aD.length):∀{i:Nat},i<=l.length->0<=kY s l i/\kY s l i<=15482880*i
 |0,_=>by simp[kY]
 |i+1,h=>by
  have ih:=zX hg a (i:=i) (by omega)
  have c:l[i]? =some l[i]:=wX2 (by omega)
  obtain⟨_,_,_,h1,h2⟩:=fD1 hg (a l[i] (yR2 (by omega)))
  rw[sA c]
  omega
theorem Yg (hg:dO s) {l:aA bJ} (a:∀b∈l,0<=b.aY/\b.aY<s.aD.length) {i:Nat} (h:i<l.length):kY s l i<kY s l (i+1):=by
 have c:l[i]? =some l[i]:=wX2 h;obtain⟨_,_,_,h1,_⟩:=fD1 hg (a l[i] (yR2 h));rw[sA c];omega
theorem Dk (hg:dO s) {l:aA bJ} (a:∀b∈l,0<=b.aY/\b.aY<s.aD.length) {i:Nat}:∀{j:Nat},i<j->j<=l.length->kY s l i<kY s l j
 |j+1,h,hj=>by
  have h1:=Yg hg a (i:=j) (by omega)
  by_cases c:i=j
  rw[c];exact h1
  exact Int.lt_trans (Dk hg a (i:=i) (j:=j) (by omega) (by omega)) h1
def pY (s:Y0) (l:aA bJ) (i:Nat):aA Int:=(List.range (i+1)).map (kY s l)
theorem Ur {l:aA bJ} {i:Nat}:(pY s l i).length=i+1:=by simp[pY]
theorem nL1 {l:aA bJ} {i j:Nat} (h:j<=i):(pY s l i)[j]? =some (kY s l j):=by
 unfold pY;rw[xN2,yF2 (by omega)];rfl
theorem fE1 {l:aA bJ} {i:Nat}:pY s l (i+1)=pY s l i++[kY s l (i+1)]:=by
 unfold pY;rw[List.range_succ,zQ2];rfl
theorem nM1 {A:Type} {l:aA A} {i:Nat} (h:i<l.length):dA l (i:Int)=some i:=by
 unfold dA qR;rw[wO2 ⟨by omega,by omega⟩,Int.toNat_natCast]
theorem zY {A:Type} {l:aA A} {i:Nat}:bB l (i:Int)=l[i]? :=by
 unfold bB;rw[wO2 (by omega),Int.toNat_natCast]
theorem nN1 {A:Type} {l:aA A} {x:A} (h:l.length<1073741824):iP false l [x]=some (l++[x]):=by
 have:=eM (g:=false) (x:=x) h (Q:=fun v=>v=l++[x]) rfl;exact Ok.eq this
theorem uN1 (hs:s.sm) (hg:dO s) {l:aA bJ} (hl:l.length<=8192) (h0:F23 s l=some 0) (g:∀b∈l,0<=b.aY/\b.aY<s.aD.length):F13 s l=some (ons s l,0):=by
 unfold F13;rw[h0];simp only[wJ2];rw[wN2 (by simp)];refine Jn (a:=.inr (ons s l)) (Ok.eq (bO (l:=l) (fun q=>q.1) (fun i q=>q.2=pY s l i) (by omega) rfl rfl (fun i e q h n hi d f c hw=>?_) (fun q hi f=>?_))) rfl;obtain⟨k,o⟩:=q;dsimp only at hi d f c hw;subst f;rw[hi]at d c hw ⊢;have j:=(wI2.1 h).1;obtain⟨m,h1,h2,h3,h4⟩:=fD1 hg (g e n);simp only[d,c,h1,h2,nt];rw[wN2 (by simp),nM1 (by rw[Ur];omega)];simp only[wJ2];rw[show eL (pY s l i) i=some (kY s l i)from nL1 (wK2 _)];simp only[wJ2];have hp:=zX hg g (i:=i) (by omega);rw[nN1 (by rw[Ur];omega),bK (by omega) (by omega),<-sA h,<-fE1];exact .mk ⟨hw,rfl⟩;obtain⟨k,o⟩:=q;dsimp only at hi f;subst f;simp only[hi,nf];exact .mk rfl
end Go.P
set_option maxHeartbeats 2000000
namespace Go.P
theorem oX2 {x1:aA YE} (g:x1.length<=20) (c:∀y∈x1,y.sm):Ok (Xk x1) (fun v=>v.length=x1.length):=by
 unfold Xk;refine Ob (mU (by omega) (by omega) (by omega)) fun n h2=>?_;refine Ob (P:=fun v=>v.length=x1.length) (bO (l:=x1) (fun q=>q.1) (fun _ q=>q.2.length=x1.length) (by omega) rfl (by rw[h2];simp) (fun i e q k f hi hl d hg hw=>?_) (fun q hi d=>?_)) fun v hv=>.mk hv;obtain⟨x,l⟩:=q;dsimp only at hi hl d hg hw;simp only[hl,hg,nt];refine Ob (cK2 (c e f)) fun⟨a,b⟩ _=>?_;refine Ob (gR (by omega) (by omega)) fun j h=>?_;refine Ob (Jl (by omega)) fun m f=>.mk ⟨hw,by dsimp only;omega⟩;obtain⟨x,l⟩:=q;dsimp only at hi d;simp only[hi,nf];exact .mk d
end Go.P
set_option maxHeartbeats 1000000
namespace Go.P
section
variable {K V:Type} [DecidableEq K]
theorem Gv {k:K}:∀{l:aA (K×V)} {i:Nat} {p:Nat×V},kL k l i=some p->∃q∈l,q.2=p.2
 |q::l,i,p,h=>by
  simp only[kL]at h
  split at h
  cases h;exact⟨q,List.mem_cons_self ..,rfl⟩
  obtain⟨r,h1,h2⟩:=Gv h;exact⟨r,yA2 _ h1,h2⟩
theorem fF1 {k:K} {l:aA (K×V)} {z:V} (h:Wr l k=true):∃q∈l,q.2=fJ l k z:=by
 unfold Wr at h;cases e:kL k l 0 with
 |none=>rw[e]at h;cases h
 |some p=>unfold fJ;rw[e];exact Gv e
theorem fG1 {k:K} {x:V} {l:aA (K×V)} {q:K×V} (h:q∈kM l k x):q∈l\/q.2=x:=by
 unfold kM at h;split at h;rcases List.mem_or_eq_of_mem_set h with h|h;exact .inl h;exact .inr (by rw[h]);rcases xV2.1 h with h|h;exact .inl h;exact .inr (by rw[yJ2.1 h])
end
def Hd (m:aA (YH×Int)) (n:Nat):Prop:=∀q∈m,0<=q.2/\q.2<(n:Int)
theorem Hd.mono {m:aA (YH×Int)} {a b:Nat} (h:Hd m a) (c:a<=b):Hd m b:=fun q d=>by have:=h q d;omega
def oY2 (m:YM) (s:aX):Prop:=∃c v e,bB m.aR s.bS=some c/\bB c.aQ s.bU=some v/\bB v.aT s.bP=some e/\e.sm
end Go.P
namespace Go.P
variable {s:Y0}
theorem uO1 (hs:s.sm):Ok (F26 s) (fun v=>0<=v/\v<=5*(s.bV.length:Int)):=by
 unfold F26;have g:=hs.bV;refine Ob (P:=fun v=>0<=v/\v<=5*(s.bV.length:Int)) (bO (l:=s.bV) (fun q=>q.2) (fun i q=>0<=q.1/\q.1<=5*(i:Int)) (by omega) rfl ⟨by decide,by decide⟩ (fun i e q f d hi a b hg hw=>?_) (fun q hi b=>?_)) fun r hr=>.mk hr;obtain⟨n,k⟩:=q;dsimp only at hi a b hg hw;have h:=(hs.nY e d).dZ;have c:=(wI2.1 f).1;simp only[a,hg,nt];rw[bK (n:=n+(e.dZ.length:Int)) (by omega) (by omega)];exact .mk ⟨hw,by dsimp only;omega,by dsimp only;omega⟩;obtain⟨n,k⟩:=q;dsimp only at hi b;simp only[hi,nf];exact .mk b
theorem S27 {x2:Int} (hs:s.sm) (hp:0<s.bV.length):Ok (F27 s x2) (fun v=>0<=v.1/\v.1<(s.bV.length:Int)):=by
 unfold F27;have c:=hs.bV;refine Oi (fun _=>.mk ⟨yD2 _,by dsimp only;omega⟩) (fun _=>?_);refine Ob (P:=fun r=>match r with|.inl p=>0<=p.1/\p.1<(s.bV.length:Int)|.inr _=>True) (bO (l:=s.bV) (fun q=>q.2) (fun _ _=>True) (by omega) rfl trivial (fun i e q f d hi hl _ hg hw=>?_) (fun q hi _=>?_)) fun r hr=>?_;obtain⟨n,x⟩:=q;dsimp only at hi hl hg hw;simp only[hl,hg,nt];exact Oi (fun _=>.mk ⟨by dsimp only;omega,hl⟩) (fun _=>.mk ⟨hw,trivial⟩);obtain⟨n,x⟩:=q;dsimp only at hi;simp only[hi,nf];exact .mk trivial;rcases r with⟨a,b⟩|_;exact .mk hr;exact .mk ⟨yD2 _,by dsimp only;omega⟩
def NL (on st:aA Int) (all:aA aI) (l:aA bJ):aB (aA aI):=(aZ (E:=aA aI) (fun(⟨b,h⟩:Int×(aA aI))=>if decide (b<(l.length:Int))then(bB l b).bind fun e=>(aZ (E:=aA aI) (fun(⟨f,g⟩:Int×(aA aI))=>if decide (f<(all.length:Int))then(bB all f).bind fun a=>(bB st e.aY).bind fun i=>((if decide (a.On>=i)then(bB st (bF (e.aY+1))).bind fun j=>some (decide (a.On<j))else some false:aB (Bool))).bind fun k=>((if k then(bB on b).bind fun c=>(bB st e.aY).bind fun d=>(iP false g [(aI.mk (bF (a.On+(bF (c-d)))) (bF (a.Off+(bF (c-d)))) a.bG a.eS a.bS a.bU a.bP a.fL)]).bind fun m=>some ((bF (a.On+(bF (c-d)))),(bF (a.Off+(bF (c-d)))),m)else some (a.On,a.Off,g):aB (Int×Int×(aA aI)))).bind fun⟨p,q,n⟩=>some (.inl ((bF (f+1)),n))else some (.inr g)) bN (0,h)).bind fun o=>some (.inl ((bF (b+1)),o))else some (.inr h)) bN (0,[]))
theorem dN2 {l:aA bJ} {on st:aA Int} {all:aA aI} (a:F13 s l=some (on,0)) (b:F14 s=some (st,0)) (c:F15 s=some (all,0)):F8 s l=(NL on st all l).bind fun n=>(Yc n).bind fun r=>some (r,0):=by
 unfold F8;rw[a,b,c];rfl
theorem nO1 {l:aA aI} (hl:l.length<9223372036854775808) {body:Int->aB (Int⊕(Unit⊕Unit))} (h:∀(i:Nat) (x:aI),l[i]? =some x->bB l (i:Int)=some x->bF ((i:Int)+1)=(i:Int)+1->body (i:Int)=some (.inl ((i:Int)+1))) (a:body (l.length:Int)=some (.inr (.inr ()))):aZ body bN 0=some (.inr ()):=by
 refine Ok.eq (bO (l:=l) (fun q=>q) (fun _ _=>True) hl rfl trivial (fun i x q b _ hi _ _ hg hw=>?_) (fun q hi _=>?_));rw[hi]at hg hw ⊢;rw[h i x b hg hw];exact .mk ⟨rfl,trivial⟩;rw[hi,a];exact .mk rfl
end Go.P
namespace Go.P
theorem gF {A V:Type} {xs:aA A} {body:Int×aA V->aB ((Int×aA V)⊕aA V)} {l:aA V} (K:Nat) (G:Nat->A->Prop) (g:xs.length<9223372036854775808)
  (h:∀(i:Nat) (x:A) (v:aA V),xs[i]? =some x->x∈xs->v.length<=l.length+K*i->i<xs.length->bB xs (i:Int)=some x->bF ((i:Int)+1)=(i:Int)+1->Ok (body ((i:Int),v)) (fun r=>match r with|.inl q=>q.1=(i:Int)+1/\v.length<=q.2.length/\q.2.length<=v.length+K/\(q.2.length<=v.length->G i x)|.inr _=>False))
  (b:∀v,body ((xs.length:Int),v)=some (.inr v)):Ok (aZ body bN (0,l)) (fun v=>l.length<=v.length/\v.length<=l.length+K*xs.length/\(v.length<=l.length->∀i x,xs[i]? =some x->G i x)):=by
 refine bO (l:=xs) (fun q=>q.1) (fun i q=>l.length<=q.2.length/\q.2.length<=l.length+K*i/\(q.2.length<=l.length->∀j x,j<i->xs[j]? =some x->G j x)) g rfl ⟨wK2 _,Nat.le_add_right _ _,fun _ j x m=>by omega⟩ (fun i x q d n hi f a hg hw=>?_) (fun q hi a=>?_);obtain⟨k,v⟩:=q;dsimp only at hi f a hg hw;rw[hi]at hg hw ⊢;obtain⟨s,o,p⟩:=a;refine(h i x v d n o (by omega) hg hw).mono fun r hr=>?_;cases r with
 |inr _=>exact hr.elim
 |inl q=>
  obtain⟨h1,h2,h3,h4⟩:=hr;refine⟨h1,by omega,by rw[Nat.mul_succ];omega,fun c j y m hy=>?_⟩;by_cases e:j=i;subst e;rw[d]at hy;cases hy;exact h4 (by omega);exact p (by omega) j y (by omega) hy
 obtain⟨k,v⟩:=q;dsimp only at hi a;rw[hi,b];exact .mk ⟨a.1,a.2.1,fun c j x d=>a.2.2 c j x (wI2.1 d).1 d⟩
def Jw (s:Y0) (P:Nat->Nat->Nat->Nat->YE->Prop):Prop:=∀(i j k n:Nat) m c v e,s.aD[i]? =some m->m.aR[j]? =some c->c.aQ[k]? =some v->v.aT[n]? =some e->P i j k n e
theorem dO2 {l:aA YV} {s:Y0} {r:Int} (h:l.length+3600<=1000000) (hs:s.sm):Ok (xI l s r) (fun v=>v.length<=l.length->Jw s fun i j k n e=>∃l',Db (YP.mk 4 0 j i k n 0) e (YK.mk s r l')=some false):=by
 unfold xI;have V:=hs.aD;refine Ob (gF (xs:=s.aD) (l:=l) 300 (fun i m=>∀(j k n:Nat) c v e,m.aR[j]? =some c->c.aQ[k]? =some v->v.aT[n]? =some e->∃l',Db (YP.mk 4 0 j i k n 0) e (YK.mk s r l')=some false) (by omega) (fun i m P X C H hi hg hw=>?_) (fun v=>by dsimp only;rw[wN2 (by simp)])) fun v hv=>.mk fun f i j k n m c v e a b o d=>hv.2.2 f i m a j k n c v e b o d;have T:=(hs.cC m C).aR;dsimp only;rw[wO2 (by simp;omega),hg];simp only[wJ2];refine Ob (gF (xs:=m.aR) (l:=P) 60 (fun j c=>∀(k n:Nat) v e,c.aQ[k]? =some v->v.aT[n]? =some e->∃l',Db (YP.mk 4 0 j i k n 0) e (YK.mk s r l')=some false) (by omega) (fun j c R M w J E p z=>?_) (fun v=>by dsimp only;rw[wN2 (by simp)])) fun v hv=>.mk ⟨hw,hv.1,by have:=hv.2.1;dsimp only;omega,fun f j k n c v e a b o=>hv.2.2 f j c a k n v e b o⟩;have hc:=(hs.cC m C).fY c w;have W:=hc.aQ;dsimp only;rw[wO2 (by simp;omega),p];simp only[wJ2];refine Ob (gF (xs:=c.aQ) (l:=R) 20 (fun k v=>∀(n:Nat) e,v.aT[n]? =some e->∃l',Db (YP.mk 4 0 j i k n 0) e (YK.mk s r l')=some false) (by omega) (fun k v S N x K F q A=>?_) (fun v=>by dsimp only;rw[wN2 (by simp)])) fun v hv=>.mk ⟨z,hv.1,by have:=hv.2.1;dsimp only;omega,fun f k n v e a b=>hv.2.2 f k v a n e b⟩;have hv:=hc.eF v x;have U:=hv.aT;dsimp only;rw[wO2 (by simp;omega),q];simp only[wJ2];refine Ob (gF (xs:=v.aT) (l:=S) 1 (fun n e=>∃l',Db (YP.mk 4 0 j i k n 0) e (YK.mk s r l')=some false) (by omega) (fun n e D O y L G t B=>?_) (fun v=>by dsimp only;rw[wN2 (by simp)])) fun u g=>.mk ⟨A,g.1,by have:=g.2.1;dsimp only;omega,fun f n e a=>g.2.2 f n e a⟩;dsimp only;rw[wO2 (by simp;omega),t];simp only[wJ2];refine Ok.bindE (dG2 (x3:=YK.mk s r D) (hv.dQ e y) hs) fun b hb _=>?_;refine Ob (Er (by omega)) fun u g=>.mk ⟨B,?_,?_,fun f=>?_⟩;dsimp only;cases b<;>simp at g<;>omega;dsimp only;cases b<;>simp at g<;>omega;dsimp only at f;cases b with
 |true=>simp at g;omega
 |false=>exact⟨D,hb⟩
end Go.P
set_option maxHeartbeats 2000000
namespace Go.P
variable {s:Y0}
theorem dP2 {l:aA YV} {s:Y0} {r:Int} (h:l.length+3600<=1000000) (hs:s.sm):Ok (xF l s r) (fun v=>v.length<=l.length->Jw s fun i j k n e=>∃l',F87 (YP.mk 4 0 j i k n 0) e (YK.mk s r l')=some false):=by
 unfold xF;have V:=hs.aD;refine Ob (gF (xs:=s.aD) (l:=l) 300 (fun i m=>∀(j k n:Nat) c v e,m.aR[j]? =some c->c.aQ[k]? =some v->v.aT[n]? =some e->∃l',F87 (YP.mk 4 0 j i k n 0) e (YK.mk s r l')=some false) (by omega) (fun i m P X C H hi hg hw=>?_) (fun v=>by dsimp only;rw[wN2 (by simp)])) fun v hv=>.mk fun f i j k n m c v e a b o d=>hv.2.2 f i m a j k n c v e b o d;have T:=(hs.cC m C).aR;dsimp only;rw[wO2 (by simp;omega),hg];simp only[wJ2];refine Ob (gF (xs:=m.aR) (l:=P) 60 (fun j c=>∀(k n:Nat) v e,c.aQ[k]? =some v->v.aT[n]? =some e->∃l',F87 (YP.mk 4 0 j i k n 0) e (YK.mk s r l')=some false) (by omega) (fun j c R M w J E p z=>?_) (fun v=>by dsimp only;rw[wN2 (by simp)])) fun v hv=>.mk ⟨hw,hv.1,by have:=hv.2.1;dsimp only;omega,fun f j k n c v e a b o=>hv.2.2 f j c a k n v e b o⟩;have hc:=(hs.cC m C).fY c w;have W:=hc.aQ;dsimp only;rw[wO2 (by simp;omega),p];simp only[wJ2];refine Ob (gF (xs:=c.aQ) (l:=R) 20 (fun k v=>∀(n:Nat) e,v.aT[n]? =some e->∃l',F87 (YP.mk 4 0 j i k n 0) e (YK.mk s r l')=some false) (by omega) (fun k v S N x K F q A=>?_) (fun v=>by dsimp only;rw[wN2 (by simp)])) fun v hv=>.mk ⟨z,hv.1,by have:=hv.2.1;dsimp only;omega,fun f k n v e a b=>hv.2.2 f k v a n e b⟩;have hv:=hc.eF v x;have U:=hv.aT;dsimp only;rw[wO2 (by simp;omega),q];simp only[wJ2];refine Ob (gF (xs:=v.aT) (l:=S) 1 (fun n e=>∃l',F87 (YP.mk 4 0 j i k n 0) e (YK.mk s r l')=some false) (by omega) (fun n e D O y L G t B=>?_) (fun v=>by dsimp only;rw[wN2 (by simp)])) fun u g=>.mk ⟨A,g.1,by have:=g.2.1;dsimp only;omega,fun f n e a=>g.2.2 f n e a⟩;dsimp only;rw[wO2 (by simp;omega),t];simp only[wJ2];refine Ok.bindE (T87 (x3:=YK.mk s r D) (hv.dQ e y) hs) fun b hb _=>?_;refine Ob (Er (by omega)) fun u g=>.mk ⟨B,?_,?_,fun f=>?_⟩;dsimp only;cases b<;>simp at g<;>omega;dsimp only;cases b<;>simp at g<;>omega;dsimp only at f;cases b with
 |true=>simp at g;omega
 |false=>exact⟨D,hb⟩
theorem dQ2 {l:aA YV} {s:Y0} {r:Int} (h:l.length+3600<=1000000) (hs:s.sm):Ok (Xp l s r) (fun v=>v.length<=l.length->Jw s fun i j k n e=>F78 (YP.mk 4 0 j i k n 0) e=some false):=by
 unfold Xp;have U:=hs.aD;refine Ob (gF (xs:=s.aD) (l:=l) 300 (fun i m=>∀(j k n:Nat) c v e,m.aR[j]? =some c->c.aQ[k]? =some v->v.aT[n]? =some e->F78 (YP.mk 4 0 j i k n 0) e=some false) (by omega) (fun i m O W C G hi hg hw=>?_) (fun v=>by dsimp only;rw[wN2 (by simp)])) fun v hv=>.mk fun f i j k n m c v e a b o d=>hv.2.2 f i m a j k n c v e b o d;have S:=(hs.cC m C).aR;dsimp only;rw[wO2 (by simp;omega),hg];simp only[wJ2];refine Ob (gF (xs:=m.aR) (l:=O) 60 (fun j c=>∀(k n:Nat) v e,c.aQ[k]? =some v->v.aT[n]? =some e->F78 (YP.mk 4 0 j i k n 0) e=some false) (by omega) (fun j c P L w H D p z=>?_) (fun v=>by dsimp only;rw[wN2 (by simp)])) fun v hv=>.mk ⟨hw,hv.1,by have:=hv.2.1;dsimp only;omega,fun f j k n c v e a b o=>hv.2.2 f j c a k n v e b o⟩;have hc:=(hs.cC m C).fY c w;have V:=hc.aQ;dsimp only;rw[wO2 (by simp;omega),p];simp only[wJ2];refine Ob (gF (xs:=c.aQ) (l:=P) 20 (fun k v=>∀(n:Nat) e,v.aT[n]? =some e->F78 (YP.mk 4 0 j i k n 0) e=some false) (by omega) (fun k v R M x J E q A=>?_) (fun v=>by dsimp only;rw[wN2 (by simp)])) fun v hv=>.mk ⟨z,hv.1,by have:=hv.2.1;dsimp only;omega,fun f k n v e a b=>hv.2.2 f k v a n e b⟩;have hv:=hc.eF v x;have T:=hv.aT;dsimp only;rw[wO2 (by simp;omega),q];simp only[wJ2];refine Ob (gF (xs:=v.aT) (l:=R) 1 (fun n e=>F78 (YP.mk 4 0 j i k n 0) e=some false) (by omega) (fun n e X N y K F t B=>?_) (fun v=>by dsimp only;rw[wN2 (by simp)])) fun u g=>.mk ⟨A,g.1,by have:=g.2.1;dsimp only;omega,fun f n e a=>g.2.2 f n e a⟩;dsimp only;rw[wO2 (by simp;omega),t];simp only[wJ2];refine Ok.bindE (T78 (hv.dQ e y)) fun b hb _=>?_;refine Ob (Er (by omega)) fun u g=>.mk ⟨B,?_,?_,fun f=>?_⟩;dsimp only;cases b<;>simp at g<;>omega;dsimp only;cases b<;>simp at g<;>omega;dsimp only at f;cases b with
 |true=>simp at g;omega
 |false=>exact hb
def Mg (s:Y0):Prop:=Jw s fun i j k n e=>∃r l',Db (YP.mk 4 0 j i k n 0) e (YK.mk s r l')=some false
def Ti (s:Y0):Prop:=Jw s fun i j k n e=>∃r l',F87 (YP.mk 4 0 j i k n 0) e (YK.mk s r l')=some false
def Ev (s:Y0):Prop:=Jw s fun _ _ _ _ e=>Xi e=some 0
theorem dR2 {p:YP} {e:YE} (h:F78 p e=some false):Xi e=some 0:=by
 unfold F78 at h;obtain⟨x,h1,h⟩:=eJ h;have h:=yK2 h;rw[h1,show x=0 by simpa using h]
theorem Jw.imp {P Q:Nat->Nat->Nat->Nat->YE->Prop} (h:Jw s P) (k:∀i j k n e,P i j k n e->Q i j k n e):Jw s Q:=fun i j k' n m c v e a b f d=>k i j k' n e (h i j k' n m c v e a b f d)
theorem oZ2 (hs:s.sm) (w:0<s.aD.length) {v:aA YV} (h:F21 s=some v) (h0:v.length=0):Mg s/\Ti s/\Ev s:=by
 unfold F21 at h;have h:=rY h h0;obtain⟨x1,m,h⟩:=eJ h;have P:=(mG1 (by decide) hs).of m;have h:=rY h h0;obtain⟨x2,e2,h⟩:=eJ h;have R:=(mH1 (by simp only[nl]at *;omega) hs).of e2;have h:=rY h h0;obtain⟨x3,n,h⟩:=eJ h;have S:=(mI1 (by simp only[nl]at *;omega) hs).of n;have h:=rY h h0;obtain⟨x4,o,h⟩:=eJ h;have T:=(mJ1 (by simp only[nl]at *;omega) hs).of o;have h:=rY h h0;obtain⟨Y,p,h⟩:=eJ h;have U:=(mK1 (by simp only[nl]at *;omega) hs).of p;have h:=rY h h0;obtain⟨Z,q,h⟩:=eJ h;have V:=(mM1 (by simp only[nl]at *;omega) hs).of q;have h:=rY h h0;obtain⟨x7,r,h⟩:=eJ h;have W:=(mN1 (by simp only[nl]at *;omega) hs).of r;have h:=rY h h0;obtain⟨x8,c,h⟩:=eJ h;have i8:=(mO1 (by simp only[nl]at *;omega) hs).of c;have h:=rY h h0;obtain⟨x9,t,h⟩:=eJ h;have X:=(mP1 (by simp only[nl]at *;omega) hs).of t;have h:=rY h h0;obtain⟨E,a,h⟩:=eJ h;have x:=(mQ1 (by simp only[nl]at *;omega) hs).of a;have h:=rY h h0;obtain⟨F,d,h⟩:=eJ h;have y:=(mR1 (by simp only[nl]at *;omega) hs).of d;have h:=rY h h0;obtain⟨G,e,h⟩:=eJ h;have z:=(mV1 (by simp only[nl]at *;omega) hs).of e;have h:=rY h h0;obtain⟨H,f,h⟩:=eJ h;have A:=(mW1 (by simp only[nl]at *;omega) hs).of f;have h:=rY h h0;obtain⟨J,g,h⟩:=eJ h;have B:=(mY1 (by simp only[nl]at *;omega) hs w).of g;have h:=rY h h0;obtain⟨K,i,h⟩:=eJ h;have C:=(mZ1 (by simp only[nl]at *;omega) hs).of i;have h:=rY h h0;obtain⟨L,j,h⟩:=eJ h;have i16:=(nA1 (by simp only[nl]at *;omega) hs).of j;have h:=rY h h0;obtain⟨M,b,h⟩:=eJ h;have D:=(nB1 (by simp only[nl]at *;omega) hs).of b;cases h;unfold Ya at b;obtain⟨O,b,l⟩:=eJ b;cases l;unfold Xr at a;obtain⟨N,a,k⟩:=eJ a;cases k;unfold Xq at c;obtain⟨y8,c,u⟩:=eJ c;cases u;exact⟨(dO2 (by simp only[nl]at *;omega) hs).of b (by omega)|>.imp fun _ _ _ _ _ h=>⟨_,h⟩,(dP2 (by simp only[nl]at *;omega) hs).of a (by omega)|>.imp fun _ _ _ _ _ h=>⟨_,h⟩,(dQ2 (by simp only[nl]at *;omega) hs).of c (by omega)|>.imp fun _ _ _ _ _ h=>dR2 h⟩
theorem mgV (hs:s.sm) (hv:Dc s=some true) (a:0<s.aD.length):Mg s/\Ti s/\Ev s:=by
 unfold Dc at hv;obtain⟨v,h,hv⟩:=eJ hv;exact oZ2 hs a h (by simp at hv;simp[hv])
end Go.P
set_option maxHeartbeats 1000000
namespace Go.P
variable {s:Y0}
theorem qA1 {A:Type} {l:aA A} {i:Nat}:bB l (i:Int)=l[i]? :=by
 unfold bB;rw[wO2 (by omega),Int.toNat_natCast]
def vEv (s:Y0) (i j k:Nat):aA YE:=match s.aD[i]? with
 |some m=>match m.aR[j]? with
  |some c=>match c.aQ[k]? with
   |some v=>v.aT
   |none=>[]
  |none=>[]
 |none=>[]
theorem zZ (i j k:Nat):Cv s (i:Int) (j:Int) (k:Int)=some (vEv s i j k):=by
 unfold Cv vEv;have a:decide ((i:Int)<0)=false:=by simp
 have b:decide ((j:Int)<0)=false:=by simp
 have d:decide ((k:Int)<0)=false:=by simp
 simp only[a,b,d,qA1,Bool.false_or,Bool.or_false];cases hm:s.aD[i]? with
 |none=>
  have h:decide ((i:Int)>=(s.aD.length:Int))=true:=by
   have:=List.getElem?_eq_none_iff.1 hm;simp;omega
  simp only[h,xM2,wJ2]
 |some m=>
  have h:decide ((i:Int)>=(s.aD.length:Int))=false:=by
   have:=(wI2.1 hm).1;simp;omega
  simp only[h,wU2,xQ2,wJ2];cases hc:m.aR[j]? with
  |none=>
   have h:decide ((j:Int)>=(m.aR.length:Int))=true:=by
    have:=List.getElem?_eq_none_iff.1 hc;simp;omega
   simp only[h,Bool.true_or,xM2,wJ2]
  |some c=>
   have h:decide ((j:Int)>=(m.aR.length:Int))=false:=by
    have:=(wI2.1 hc).1;simp;omega
   simp only[h,wU2,xQ2,wJ2];cases hv:c.aQ[k]? with
   |none=>
    have h:decide ((k:Int)>=(c.aQ.length:Int))=true:=by
     have:=List.getElem?_eq_none_iff.1 hv;simp;omega
    simp only[h,xM2,wJ2]
   |some v=>
    have h:decide ((k:Int)>=(c.aQ.length:Int))=false:=by
     have:=(wI2.1 hv).1;simp;omega
    simp only[h,wU2,xQ2,wJ2]
theorem fH1 (hs:s.sm) {i j k n:Nat} (hi:i<s.aD.length) (b:n+1=(vEv s i j k).length):F89 s (YP.mk 4 0 j i k n 0)=if(vEv s (i+1) j k).length=0 then some (YP.mk 0 0 0 0 0 0 0,false)else some (YP.mk 4 0 j ((i+1:Nat):Int) k 0 0,true):=by
 have a:=hs.aD;have hl:=((eT1 (x2:=i) (x3:=j) (x4:=k) hs).of (zZ i j k)).1
 have h0:Qs s (YP.mk 4 0 j i k n 0)=some 0:=by
  unfold Qs;dsimp only;rw[wN2 (by decide),wN2 (by simp),zZ,wJ2,wJ2];rw[wN2 (by rw[wS2];omega)]
 unfold F89;rw[h0,wJ2,wN2 (by decide)];dsimp only;rw[zZ,wJ2,bK (n:=(n:Int)+1) (by omega) (by omega),bK (n:=(i:Int)+1) (by omega) (by omega)];rw[wN2 (by rw[wS2];omega),show((i:Int)+1)=((i+1:Nat):Int)by omega,zZ,wJ2];by_cases h:(vEv s (i+1) j k).length=0;rw[wO2 h,wN2 (by rw[wS2];omega)];rw[wN2 h,wO2 (by rw[wS2];omega)];rfl
def Mk2 (a b:YM):Prop:=a.aW=0/\a.hU=0/\dU .i64 a.cZ 12=0/\a.aN=b.aN/\b.dG=false/\dU .i64 b.cZ 3=0
theorem fI1 (hs:s.sm) (l:Mg s) (p:Ti s) {i j k n:Nat} {m:YM} {c:YW} {v:YO} {e:YE} (h1:s.aD[i]? =some m) (h2:m.aR[j]? =some c) (h3:c.aQ[k]? =some v) (h4:v.aT[n]? =some e) (o:n+1=v.aT.length) (f:F88 e=some true):∃b,s.aD[i+1]? =some b/\Mk2 m b:=by
 have hi:=(wI2.1 h1).1;have g:vEv s i j k=v.aT:=by unfold vEv;simp[h1,h2,h3]
 have d:=fH1 hs (i:=i) (j:=j) (k:=k) (n:=n) hi (by rw[g];exact o);by_cases h:(vEv s (i+1) j k).length=0;rw[wO2 h]at d;obtain⟨r,l',hf⟩:=p i j k n m c v e h1 h2 h3 h4;unfold F87 at hf;rw[f,wJ2,wN2 (by decide)]at hf;dsimp only at hf;rw[d,wJ2]at hf;dsimp only at hf;obtain⟨⟨a,b⟩,_,hf⟩:=eJ hf;simp at hf;rw[wN2 h]at d;obtain⟨r,l',hf⟩:=l i j k n m c v e h1 h2 h3 h4;unfold Db at hf;dsimp only at hf;rw[d,wJ2]at hf;dsimp only at hf;rw[f]at hf;simp only[zI2,wU2,xQ2,wJ2,qA1,h1]at hf;rw[wN2 (by simp;omega)]at hf;cases hb:s.aD[i+1]? with
 |none=>rw[hb]at hf;cases hf
 |some b=>
  rw[hb,wJ2]at hf;refine⟨b,rfl,?_⟩;have hf:=yK2 hf;simp only[yV2,bne_eq_false_iff_eq]at hf;exact⟨hf.1.1.1.1.1,hf.1.1.1.1.2,hf.1.1.1.2,hf.1.1.2,hf.1.2,hf.2⟩
end Go.P
namespace Go.P
variable {s:Y0}
theorem fJ1 {l:aA YB} (h:Xg l []=some true):l=[]:=by
 unfold Xg at h;split at h;cases h;rename_i hc;exact List.length_eq_zero_iff.1 (by simpa using hc)
theorem Yh {e:YE} (h:Xi e=some 0):e.dD=1\/e.cW=[]:=by
 by_cases hk:e.dD=1;exact .inl hk;right;unfold Xi at h;obtain⟨x2,_,h⟩:=eJ h;obtain⟨x3,_,h⟩:=eJ h;obtain⟨x4,_,h⟩:=eJ h;split at h;rename_i hc;cases h;simp at hc;obtain⟨j,h5,h⟩:=eJ h;split at h;cases h;rename_i c;have c:j=true:=by simpa using c
 subst c;obtain⟨l,a,h⟩:=eJ h;obtain⟨k,b,h⟩:=eJ h;split at h;cases h;rename_i d;have d:k=true:=by simpa using d
 subst d;unfold cT1 at a;rw[wN2 (by simpa using hk),h5]at a;simp only[wJ2,zI2,wU2,xQ2]at a;obtain⟨m,_,a⟩:=eJ a;obtain⟨n,_,a⟩:=eJ a;cases a;unfold cU1 at b;obtain⟨z4,f,b⟩:=eJ b;obtain⟨z6,g,b⟩:=eJ b;obtain⟨z8,i,b⟩:=eJ b;cases b
 have q6:z6=true:=by
  cases z6 with
  |true=>rfl
  |false=>simp at i
 subst q6
 have q4:z4=true:=by
  cases z4 with
  |true=>rfl
  |false=>simp at g
 subst q4;split at f;obtain⟨w,w1,w2⟩:=eJ f;cases w2;exact fJ1 w1;cases f
end Go.P
set_option maxHeartbeats 2000000
namespace Go.P
theorem pA2 {n:Nat} (h:n<=6):(32:Int)^n<=1073741824:=by
 have:n=0\/n=1\/n=2\/n=3\/n=4\/n=5\/n=6:=by omega
 rcases this with rfl|rfl|rfl|rfl|rfl|rfl|rfl<;>decide
def el (l:aA Int):Prop:=∀x∈l,0<=x/\x<=9007199254740992
theorem mV:el []:=fun x a=>by cases a
theorem el.app {l:aA Int} {x:Int} (h:el l) (a:0<=x/\x<=9007199254740992):el (l++[x]):=fun y hy=>by
 rcases xV2.1 hy with hy|hy
 exact h y hy
 rw[yJ2.1 hy];exact a
theorem pB2 {x1:aA YU} {x2:Int} (o:x1.length<=6) (B:∀t∈x1,1<=t.eG/\t.eG<=32/\1<=t.eT/\t.eT<=32):Ok (Xl x1 x2) (fun v=>1<=v.1/\v.1<=1073741824/\1<=v.2):=by
 unfold Xl;refine Ob (P:=fun v=>1<=v.1/\v.1<=1073741824/\1<=v.2) (bO (l:=x1) (fun q=>q.2.2) (fun i q=>1<=q.1/\q.1<=32^i/\1<=q.2.1/\q.2.1<=32^i) (by omega) rfl ⟨by decide,by decide,by decide,by decide⟩ (fun i e q C y hi hl f hg hw=>?_) (fun q hi f=>?_)) fun v hv=>.mk hv;obtain⟨a,b,x⟩:=q;dsimp only at hi hl f hg hw;simp only[hl,hg,nt];have j:=B e y;refine Ob cO2 fun c _=>?_;have w:i<=5:=by omega
 have z:(32:Int)^i<=33554432:=by
  have:i=0\/i=1\/i=2\/i=3\/i=4\/i=5:=by omega
  rcases this with rfl|rfl|rfl|rfl|rfl|rfl<;>decide
 have A:(32:Int)^(i+1)=32^i*32:=Int.pow_succ 32 i;refine Ob (P:=fun v=>1<=v.1/\v.1<=32^(i+1)/\1<=v.2/\v.2<=32^(i+1)) (Oi (fun _=>?_) (fun _=>?_)) fun⟨v1,v2⟩ hv=>.mk ⟨hw,hv⟩;have E:1<=a*e.eT:=Int.le_trans (by decide) (yM2 f.1 j.2.2.1 (by decide) (by omega));have F:a*e.eT<=32^i*32:=yM2 f.2.1 j.2.2.2 (by omega) (by omega);have s:1<=b*e.eG:=Int.le_trans (by decide) (yM2 f.2.2.1 j.1 (by decide) (by omega));have u:b*e.eG<=32^i*32:=yM2 f.2.2.2 j.2.1 (by omega) (by omega);rw[bK (n:=a*e.eT) (by omega) (by omega),bK (n:=b*e.eG) (by omega) (by omega)];generalize a*e.eT=N at E F ⊢;generalize b*e.eG=D at s u ⊢;refine Ob (cP2 ⟨by omega,by omega,by omega⟩) fun g hg=>?_;obtain⟨G,⟨k,rfl⟩,⟨m,rfl⟩⟩:=hg
 have H:1<=k:=by
  rcases Int.lt_or_le k 1 with h|h;have:=Int.mul_nonneg (a:=g) (b:= -k) (by omega) (by omega);rw[Int.mul_neg]at this;omega;exact h
 have K:1<=m:=by
  rcases Int.lt_or_le m 1 with h|h;have:=Int.mul_nonneg (a:=g) (b:= -m) (by omega) (by omega);rw[Int.mul_neg]at this;omega;exact h
 have J:k<=g*k:=by
  have:=yM2 (a:=1) (b:=k) (c:=g) (d:=k) (by omega) (yD2 k) (by omega) (by omega);omega
 have L:m<=g*m:=by
  have:=yM2 (a:=1) (b:=m) (c:=g) (d:=m) (by omega) (yD2 m) (by omega) (by omega);omega
 refine Ob (nI (by omega)) fun q1 p=>?_;refine Ob (nI (by omega)) fun q2 r=>?_;rw[Int.mul_tdiv_cancel_left k (by omega),show IntKind.wrap .i64 k=bF k from rfl,bK (by omega) (by omega)]at p;rw[Int.mul_tdiv_cancel_left m (by omega),show IntKind.wrap .i64 m=bF m from rfl,bK (by omega) (by omega)]at r;exact .mk ⟨by dsimp only;omega,by dsimp only;omega,by dsimp only;omega,by dsimp only;omega⟩;exact .mk ⟨f.1,by dsimp only;omega,f.2.2.1,by dsimp only;omega⟩;obtain⟨a,b,x⟩:=q;dsimp only at hi f;simp only[hi,nf];exact .mk ⟨f.1,Int.le_trans f.2.1 (pA2 o),f.2.2.1⟩
theorem pC2 {x1:aA YU} {x2 x3:Int} (d:x1.length<=6) (g:∀t∈x1,1<=t.eG/\t.eG<=32/\1<=t.eT/\t.eT<=32):Ok (Qp x1 x2 x3) (fun v=>v.2=0->0<=v.1/\v.1<=9007199254740992):=by
 unfold Qp;refine Oi (fun _=>.mk (fun h=>absurd (show(2:Int)=0 from h) (by decide))) (fun c=>?_);refine Ob (pB2 d g) fun⟨x4,b⟩ h=>?_;dsimp only at h;refine Ob (zV (by omega)) fun i e=>?_;refine Oi (fun _=>.mk (fun h=>absurd (show(16:Int)=0 from h) (by decide))) (fun _=>?_);simp only[wY2,wS2,zK2]at c;have p0:0<=x3*x4:=Int.mul_nonneg (by omega) (by omega);have p1:x3*x4<=7741440*1073741824:=yM2 (by omega) h.2.1 (by omega) (by decide);rw[bK (n:=x3*x4) (by omega) (by omega)];refine Ob (nI (by omega)) fun j f=>.mk (fun _=>?_);dsimp only;generalize x3*x4=a at p0 p1 f;have q0:0<=a.tdiv b:=Int.tdiv_nonneg p0 (by omega);have q1:a.tdiv b<=a:=Int.tdiv_le_self b p0;rw[show IntKind.wrap .i64 (a.tdiv b)=bF (a.tdiv b)from rfl,bK (by omega) (by omega)]at f;omega
theorem pD2 {x1:aA YU} {x2:aA Int} (d:x1.length<=6) (n:x2.length<=20):Ok (Qq x1 x2) (fun v=>el v.1/\v.1.length<=x2.length/\(v.2=0->∀t∈x1,t.ok x2.length)/\(v.2=0->v.1.length=x2.length)):=by
 unfold Qq;refine Ob (cN2 d) fun c hc=>?_;refine Oi (fun hd=>.mk ⟨mV,xA2 _,fun h=>absurd h (by simpa using hd),fun h=>absurd h (by simpa using hd)⟩) (fun hd=>?_);have k:=hc (by simpa using hd);refine Ob (mU (by decide) (by omega) (by omega)) fun s h4=>?_;refine Ob (P:=fun r=>match r with|.inl p=>p.1≠0|.inr l=>el l/\l.length=x2.length) (bO (l:=x2) (fun q=>q.1) (fun i q=>el q.2/\q.2.length=i) (by omega) rfl ⟨by rw[h4];exact mV,by rw[h4];rfl⟩ (fun i e q o j hi hl f hg hw=>?_) (fun q hi f=>?_)) fun v hv=>?_;obtain⟨x,l⟩:=q;dsimp only at hi hl f hg hw;simp only[hl,hg,nt];refine Ob (pC2 d (fun t h=>by have:=k t h;unfold YU.ok at this;omega)) fun⟨a,b⟩ g=>?_;refine Oi (fun hb=>.mk (by simpa using hb)) (fun hb=>?_);exact Ob (eM (Q:=fun v=>el v/\v.length=l.length+1) (by omega) ⟨f.1.app (g (by simpa using hb)),by simp⟩) fun m j=>.mk ⟨hw,j.1,by dsimp only;omega⟩;obtain⟨x,l⟩:=q;dsimp only at hi f;simp only[hi,nf];exact .mk f;rcases v with⟨a,b⟩|b;exact .mk ⟨mV,xA2 _,fun h=>absurd h hv,fun h=>absurd h hv⟩;exact .mk ⟨hv.1,Nat.le_of_eq hv.2,fun _=>k,fun _=>hv.2⟩
theorem pE2 {x1:YO} (b:x1.sm):Ok (Xm x1) (fun v=>el v.1/\v.1.length<=x1.aT.length/\(v.2=0->v.1.length=x1.aT.length)):=by
 unfold Xm;have f:=b.aT;refine Ob (P:=fun r=>match r with|.inl x=>x≠0|.inr _=>True) (bO (l:=x1.aT) (fun q=>q) (fun _ _=>True) (by omega) rfl trivial (fun i e q s j hi hl _ hg hw=>?_) (fun q hi _=>?_)) fun p g=>?_;simp only[hl,hg,nt];refine cO (T79 (b.dQ _ j)) fun t=>?_;refine Oi (fun c=>.mk (by simpa using c)) (fun _=>?_);exact Oi (fun _=>.mk (show(11:Int)≠0 by decide)) (fun _=>.mk ⟨hw,trivial⟩);simp only[hi,nf];exact .mk trivial;rcases p with u|_;exact .mk ⟨mV,xA2 _,fun h=>absurd h g⟩;refine Ob (oX2 b.aT b.dQ) fun w d=>?_;refine Ob (pD2 b.gJ (by omega)) fun⟨k,m⟩ a=>?_
 try dsimp only at a
 refine Oi (fun c716=>?_) (fun c716=>?_);exact .mk ⟨mV,xA2 _,fun h=>absurd h (by simpa using c716)⟩;refine cO (cS2 b.gJ (by omega)) fun⟨n,o⟩=>?_;refine Oi (fun c718=>?_) (fun c718=>?_);exact .mk ⟨mV,xA2 _,fun h=>absurd (show(21:Int)=0 from h) (by decide)⟩;exact .mk ⟨a.1,xJ2 a.2.1 (Nat.le_of_eq d),fun _=>(a.2.2.2 (by simpa using c716)).trans d⟩
theorem pF2 {x1:YO} {x2:Int} (a:x1.sm):Ok (Xn x1 x2) (fun v=>el v.1/\v.1.length<=x1.aT.length/\(v.2=0->v.1.length=x1.aT.length)):=by
 unfold Xn;refine Oi (fun c719=>?_) (fun c719=>?_);exact .mk ⟨mV,xA2 _,fun h=>absurd (show(2:Int)=0 from h) (by decide)⟩;refine Oi (fun c720=>?_) (fun c720=>?_);exact .mk ⟨mV,xA2 _,fun h=>absurd (show(9:Int)=0 from h) (by decide)⟩;refine cO (cJ2 a) fun x3=>?_;refine Oi (fun c722=>?_) (fun c722=>?_);have e:=a.aT;refine Ob (P:=fun x=>x∈x1.aT) (cK (by omega) (by(simp only[nm]at *;omega)) (fun _ h _=>h)) fun x4 c=>?_;have d:=a.dQ _ c;refine cO (T79 d) fun g=>?_;refine Oi (fun c728=>?_) (fun c728=>?_);exact .mk ⟨mV,xA2 _,fun h=>absurd h (by simpa using c728)⟩;refine Oi (fun c729=>?_) (fun c729=>?_);exact .mk ⟨mV,xA2 _,fun h=>absurd (show(21:Int)=0 from h) (by decide)⟩;refine .mk ⟨fun x f=>?_,?_,fun _=>?_⟩;rw[yJ2.1 f];simp only[nm]at c719;omega;simp only[nm]at c722;dsimp only[List.length_singleton];omega;simp only[nm]at c722;dsimp only[List.length_singleton];omega;refine Ob (pE2 a) fun⟨i,j⟩ b=>?_
 try dsimp only at b
 exact .mk b
theorem Jx {l:aA Int} (h:el l):0<=l.sum/\l.sum<=9007199254740992*(l.length:Int):=by
 induction l with
 |nil=>exact⟨yD2 _,yD2 _⟩
 |cons a r ih=>
  have h1:=h a (List.mem_cons_self ..);have h2:=ih fun x b=>h x (yA2 _ b);rw[List.sum_cons,xR2];omega
theorem el.take {l:aA Int} (h:el l) (i:Nat):el (l.take i):=fun x a=>h x (zZ2 a)
theorem Dl {l:aA Int} {i:Nat} {x:Int} (h:l[i]? =some x):(l.take (i+1)).sum=(l.take i).sum+x:=by
 rw[List.take_add_one,h,List.sum_append];simp
theorem pG2 {x1:aA Int} (d:x1.length<=20) (he:el x1):Ok (Xo x1) (fun v=>v=x1.sum):=by
 unfold Xo;refine Ob (P:=fun v=>v=x1.sum) (bO (l:=x1) (fun q=>q.2) (fun i q=>q.1=(x1.take i).sum) (by omega) rfl rfl (fun i e q c g hi hl b hg hw=>?_) (fun q hi b=>?_)) fun v hv=>.mk hv;obtain⟨a,k⟩:=q;dsimp only at hi hl b hg hw;simp only[hl,hg,nt];have h1:=Jx (he.take (i+1));have h2:=List.length_take_le (i+1) x1;have f:=(wI2.1 c).1;rw[Dl c,<-b]at h1;refine .mk ⟨hw,?_⟩;dsimp only;rw[Dl c,<-b,bK (by omega) (by rw[zJ2]at h1;omega)];obtain⟨a,k⟩:=q;dsimp only at hi b;simp only[hi,nf];rw[zC2]at b;exact .mk b
theorem pH2 {x1:YO} {x2:Int} (a:x1.sm):Ok (Qr x1 x2) (fun v=>el v.1/\v.1.length<=x1.aT.length/\(v.1≠[]->v.1.sum=x2)/\(v.2=0->v.1.length=x1.aT.length)):=by
 have i:=a.aT;unfold Qr;refine Ob (pF2 a) fun⟨x3,x4⟩ h=>?_;dsimp only at h;refine Ob (P:=fun r=>r=true\/x4≠0\/x3=[]\/x3.sum=x2) (Oi (fun c=>Ob (pG2 (by omega) h.1) fun v hv=>.mk ?_) (fun c=>.mk ?_)) fun b hb=>?_;by_cases e:v=x2;exact .inr (.inr (.inr (hv ▸ e)));exact .inl (by simpa using e);by_cases e:x4=0;refine .inr (.inr (.inl ?_));simp only[wL2,yI2,wS2,not_and]at c;exact List.length_eq_zero_iff.1 (by have:=c e;omega);exact .inr (.inl e);refine Ob (P:=fun c=>c=0->b=false/\x4=0) (Oi (fun _=>.mk (fun h=>absurd h (by decide))) (fun h=>.mk (fun h2=>⟨by simpa using h,h2⟩))) fun c hc=>?_;refine Oi (fun h0=>.mk ⟨mV,xA2 _,fun h=>absurd rfl h,fun h=>absurd h (by simpa using h0)⟩) (fun h0=>.mk ⟨h.1,h.2.1,fun d=>?_,fun _=>h.2.2 (hc (by simpa using h0)).2⟩);obtain⟨f,g⟩:=hc (by simpa using h0);subst f g;simpa[show ¬x3=[]from d]using hb
theorem pI2 {x1:aA Int} (s:x1.length<=20) (he:el x1):Ok (Xu x1) (fun v=>v.length=x1.length/\∀i:Nat,i<x1.length->v[i]? =some (x1.take i).sum):=by
 unfold Xu;refine Ob (mU (by omega) (by omega) (by omega)) fun D h2=>?_;refine Ob (P:=fun v=>v.length=x1.length/\∀i:Nat,i<x1.length->v[i]? =some (x1.take i).sum) (iW (fun q=>q.1) (x1.length:Int) (fun q=>q.2.length=x1.length/\1<=q.1/\(q.1<=x1.length\/q.1=1)/\∀i:Nat,(i:Int)<q.1->i<x1.length->q.2[i]? =some (x1.take i).sum) (by omega) (by dsimp only;omega) ⟨by rw[h2];simp,yD2 _,.inr rfl,fun i hi d=>?_⟩ (fun q p h1 hw=>?_)) fun v hv=>.mk hv;dsimp only at hi ⊢;have:i=0:=by omega
 subst this;rw[h2,zU2];rw[wO2 (by omega)];rfl;obtain⟨k,l⟩:=q;dsimp only at p h1 hw;obtain⟨r,B,C,o⟩:=p;refine Oi (fun hc=>?_) (fun hc=>.mk ⟨r,fun i hi=>o i ?_ hi⟩);have hc:k<(x1.length:Int):=by simpa using hc
 rw[bK (n:=k-1) (by omega) (by omega)];obtain⟨j,rfl⟩:∃j:Nat,k=(j:Int)+1:=⟨(k-1).toNat,by omega⟩
 refine Ob (gR (by omega) (by omega)) fun a t=>?_;refine Ob (kP t.2) fun y hy=>?_;obtain⟨z,u,w,m⟩:=cK (l:=x1) (i:=(j:Int)+1-1) (Q:=fun x=>x∈x1/\x1[j]? =some x) (by omega) (by omega) (fun x h1 h2=>⟨h1,by rw[show((j:Int)+1-1).toNat=j by omega]at h2;exact h2⟩);rw[u,wJ2];refine Ob (gR (by omega) (by omega)) fun b hb=>?_;have f:a=j:=by omega
 have g:b=j+1:=by omega
 subst f g
 have h:y=(x1.take a).sum:=by
  have:=o a (by omega) (by omega);rw[hy.1]at this;exact yK2 this
 have E:=Jx (he.take (a+1));have F:=List.length_take_le (a+1) x1;have A:=Dl m
 have e:lP l (a+1) (fun _=>bF (y+z))=some (l.set (a+1) (bF (y+z))):=by
  unfold lP;rw[wX2 hb.2];rfl
 rw[e,wJ2,bK (n:=y+z) (by omega) (by omega)];refine .mk ⟨hc,hw hc,by simpa using r,by rw[hw hc];omega,.inl (by rw[hw hc];omega),fun i hi d=>?_⟩;dsimp only at hi ⊢;rw[xH2];rw[hw hc]at hi;by_cases c:a+1=i;rw[wO2 c,wO2 (by omega),<-c,A,h];rw[wN2 c];exact o i (by omega) d;have hc:¬k<(x1.length:Int):=by simpa using hc
 omega
theorem dS2 {x1:YO} {x2:Int} (a:x1.sm):Ok (Qt x1 x2) (fun v=>v.1.length<=x1.aT.length/\(∀o∈v.1,0<=o/\o<=x2)/\(v.2=0->v.1.length=x1.aT.length)):=by
 have g:=a.aT;unfold Qt;refine Ob (pH2 a) fun⟨x3,x4⟩ h=>?_;dsimp only at h;refine Oi (fun c0=>.mk ⟨xA2 _,fun o c=>(by cases c),fun h=>absurd h (by simpa using c0)⟩) (fun c0=>?_);refine Ob (pI2 (by omega) h.1) fun m h5=>.mk ⟨by dsimp only;omega,fun o c=>?_,fun _=>h5.1.trans (h.2.2.2 (by simpa using c0))⟩;dsimp only at c;obtain⟨i,hi⟩:=xE2.1 c;have b:=(wI2.1 hi).1;have hv:=h5.2 i (by omega);rw[hi]at hv;have hv:=yK2 hv;have d:x3≠[]:=fun e=>by rw[e]at h5;simp at h5;rw[h5]at b;simp at b
 have hs:=h.2.2.1 d;have j:=Jx (h.1.take i);have k:(x3.take i).sum+(x3.drop i).sum=x3.sum:=by rw[<-List.sum_append,zX2]
 have l:=Jx (fun x f=>h.1 x (List.mem_of_mem_drop f):el (x3.drop i));omega
end Go.P
set_option maxHeartbeats 1000000
namespace Go.P
def uP1 (m:YM) (n:Int) (s:aX):Prop:=oY2 m s/\(0<=s.On/\s.On<=n)/\0<=s.Off/\s.Off<=n
def dT2 (m:YM) (s:aX):Prop:=∃c v,bB m.aR s.bS=some c/\bB c.aQ s.bU=some v/\s.bP+1=(v.aT.length:Int)
def nxA (m:YM) (l:aA aX) (p:Nat) (s:aX):Prop:=dT2 m s\/∃s',l[p+1]? =some s'/\s'.bS=s.bS/\s'.bU=s.bU
def SO (m:YM) (n:Int) (l:aA aX):Prop:=(∀s∈l,uP1 m n s)/\∀(p:Nat) s,l[p]? =some s->nxA m l p s
theorem fK1 {m:YM} {n:Int}:SO m n []:=⟨fun s hs=>(by cases hs),fun p s hp=>by simp at hp⟩
def PB (m:YM) (l:aA aX) (st a:Int) (t:Nat):Prop:=∀(p:Nat) s,l[p]? =some s->nxA m l p s\/(p+1=l.length/\s.bS=st/\s.bU=a/\s.bP+1=(t:Int))
theorem uQ1 {m:YM} {l:aA aX} {st g:Int} {t:Nat} {x:aX} (h:PB m l st g t) (h1:x.bS=st) (h2:x.bU=g) (h3:x.bP=(t:Int)):PB m (l++[x]) st g (t+1):=fun p s hp=>by
 by_cases f:p<l.length
 rw[yE2 f]at hp
 left
 rcases h p s hp with(h|⟨s',a,b,c⟩)|⟨a,b,c,d⟩
 exact .inl h
 exact .inr ⟨s',by rw[yE2 (wI2.1 a).1];exact a,b,c⟩
 exact .inr ⟨x,by rw[a,yW2 (wK2 _)];simp,by rw[h1,b],by rw[h2,c]⟩
 rw[yW2 (by omega)]at hp
 have e:=(wI2.1 hp).1
 simp at e
 have:p=l.length:=by omega
 subst this
 simp at hp
 subst hp
 exact .inr ⟨by simp,h1,h2,by omega⟩
theorem uR1 {m:YM} {l:aA aX} {st e:Int} {c:YW} {v:YO} {t:Nat} (h:PB m l st e t) (h1:bB m.aR st=some c) (h2:bB c.aQ e=some v) (h3:t=v.aT.length):∀(p:Nat) s,l[p]? =some s->nxA m l p s:=fun p s hp=>by
 rcases h p s hp with h|⟨a,b,c',d⟩
 exact h
 exact .inl ⟨c,v,by rw[b];exact h1,by rw[c'];exact h2,by omega⟩
theorem R54 {x1:YM} {n:Int} (h1:x1.sm) (hn:Dy x1=some (n,0)) (S:0<=n):Ok (F54 x1) (fun r=>r.1.length<=300/\SO x1 n r.1):=by
 unfold F54;have hC:=h1.aR;rw[hn,wJ2];refine Ob (P:=fun r=>r.2.length<=300/\SO x1 n r.2) (bO (l:=x1.aR) (fun q=>q.2.1) (fun i q=>q.2.2.length<=60*i/\SO x1 n q.2.2) (by omega) rfl ⟨xA2 _,fK1⟩ (fun i c q hx hm hi J F hg hw=>?_) (fun q hi F=>?_)) fun⟨a,b⟩ h=>Oi (fun _=>.mk ⟨xA2 _,fK1⟩) (fun _=>.mk h);obtain⟨e,k,l⟩:=q;dsimp only at hi J F hg hw;have a0:=(wI2.1 hx).1;have hc:=h1.fY c hm;have hV:=hc.aQ;simp only[J,hg,nt];refine Ob (P:=fun r=>match r with|.inl p=>p.2.length<=l.length+60/\SO x1 n p.2|.inr p=>p.2.length<=l.length+60/\SO x1 n p.2) (bO (l:=c.aQ) (fun q=>q.2.1) (fun j q=>q.2.2.length<=l.length+20*j/\SO x1 n q.2.2) (by omega) rfl ⟨wK2 _,F.2⟩ (fun j v q V O u A d m D=>?_) (fun q u d=>?_)) fun r hr=>?_;obtain⟨e,X,Y⟩:=q;dsimp only at u A d m D;have b0:=(wI2.1 V).1;have hv:=hc.eF v O;have hE:=hv.aT;simp only[A,m,nt];refine Oi (fun _=>.mk ⟨by dsimp only;omega,d.2⟩) (fun _=>?_);refine Ob (P:=fun _=>True) (by unfold mA1;exact .mk trivial) fun p _=>?_;refine Oi (fun _=>.mk ⟨D,by dsimp only;omega,d.2⟩) (fun _=>?_);refine Ob (dS2 hv) fun⟨on,e2⟩ ⟨L,C,g⟩=>?_;dsimp only at L C g;refine Oi (fun _=>.mk ⟨by dsimp only;omega,d.2⟩) (fun G=>?_);have g:=g (by simpa using G);refine Ob (P:=fun w=>w.length<=Y.length+20/\SO x1 n w) (bO (l:=on) (fun q=>q.1) (fun t q=>q.2.length<=Y.length+t/\(∀s∈q.2,uP1 x1 n s)/\PB x1 q.2 k X t) (by omega) rfl ⟨wK2 _,d.2.1,fun p s hp=>.inl (d.2.2 p s hp)⟩ (fun t o q W R z B f H E=>?_) (fun q z f=>?_)) fun w T=>.mk ⟨D,by dsimp only;omega,T.2⟩;obtain⟨Z,l3⟩:=q;dsimp only at z B f H E;have b4:=(wI2.1 W).1;simp only[B,H,nt];refine Ob (P:=fun off=>0<=off/\off<=n) (Oi (fun hc=>?_) (fun _=>.mk ⟨S,yD2 _⟩)) fun off K=>?_;rw[E]at hc ⊢;exact Ob (cK (Q:=fun y=>y∈on) (by omega) (by simpa using hc) (fun _ h _=>h)) fun y hy=>.mk (C y hy);refine Ob (eM (Q:=fun w=>w.length=l3.length+1/\(∀s∈w,uP1 x1 n s)/\PB x1 w k X (t+1)) (by omega) ⟨by simp,fun s hs=>?_,uQ1 f.2.2 rfl rfl (by dsimp only;omega)⟩) fun w U=>.mk ⟨E,by dsimp only;omega,U.2⟩;rcases xV2.1 hs with hs|hs;exact f.2.1 s hs;rw[yJ2.1 hs];obtain⟨ev,M,N⟩:=cK (l:=v.aT) (i:=Z) (Q:=fun x=>x∈v.aT) (by omega) (by omega) (fun _ h _=>h);exact⟨⟨c,v,ev,hg,m,M,hv.dQ _ N⟩,C o R,K⟩;obtain⟨Z,l3⟩:=q;dsimp only at z f;simp only[z,nf];exact .mk ⟨by omega,f.2.1,uR1 f.2.2 hg m g⟩;obtain⟨e,X,Y⟩:=q;dsimp only at u d;simp only[u,nf];exact .mk ⟨by dsimp only;omega,d.2⟩;rcases r with⟨a,b⟩|⟨a,b⟩
 exact .mk ⟨by dsimp only at hr ⊢;omega,hr.2⟩;exact .mk ⟨hw,by dsimp only at hr ⊢;omega,hr.2⟩;obtain⟨e,k,l⟩:=q;dsimp only at hi F;simp only[hi,nf];exact .mk ⟨by dsimp only;omega,F.2⟩
end Go.P
namespace Go.P
def isS (a b:Int) (s:aX):Bool:=(s.bS==a)&&(s.bU==b)
def kS (a b:Int) (l:aA aX):Nat:=l.countP fun s=>isS a b s
theorem nQ1 {a b:Int} {l:aA aX} {t:Nat} {s:aX} (h:l[t]? =some s):kS a b (l.take (t+1))=kS a b (l.take t)+(if isS a b s=true then 1 else 0):=by
 unfold kS;rw[List.take_add_one,h,List.countP_append];simp[List.countP_cons]
theorem nR1 (a b:Int) (l:aA aX) (t:Nat):kS a b (l.take t)<=kS a b (l.take (t+1)):=by
 unfold kS;rw[List.take_add_one,List.countP_append];omega
theorem dU2 (a b:Int) (l:aA aX) (t:Nat):kS a b (l.take t)<=kS a b l:=by
 unfold kS;exact(List.take_sublist t l).countP_le
theorem uS1 {a b:Int} {l:aA aX} {x:aX}:kS a b (l++[x])=kS a b l+(if isS a b x=true then 1 else 0):=by
 unfold kS;rw[List.countP_append];simp[List.countP_cons]
theorem Ok.both {A:Type} {x:aB A} {P Q:A->Prop} (h:Ok x P) (h':Ok x Q):Ok x (fun a=>P a/\Q a):=by
 obtain⟨a,h1,h2⟩:=h;obtain⟨b,h3,h4⟩:=h';rw[h1]at h3;cases h3;exact⟨a,h1,h2,h4⟩
def CL (l:aA aX) (i j:Int) (t:Nat):Prop:=∀a b,kS a b l<=(if a<i\/(a=i/\b<j)then 20 else if a=i/\b=j then t else 0)
theorem CL.next {l:aA aX} {i j:Int} {t:Nat} (h:CL l i j t) (c:t<=20):CL l i (j+1) 0:=fun a b=>by
 have:=h a b
 refine xJ2 this ?_
 repeat' split
 all_goals omega
theorem CL.cell {l:aA aX} {i j:Int} (h:CL l i j 0):CL l (i+1) 0 0:=fun a b=>by
 have:=h a b
 refine xJ2 this ?_
 repeat' split
 all_goals omega
theorem CL.app {l:aA aX} {i j:Int} {t:Nat} {x:aX} (h:CL l i j t) (h1:x.bS=i) (h2:x.bU=j):CL (l++[x]) i j (t+1):=fun a b=>by
 have:=h a b
 rw[uS1]
 unfold isS
 rw[h1,h2]
 by_cases hc:a=i/\b=j
 rw[hc.1,hc.2]at this ⊢
 simp at this ⊢
 omega
 have hf:((i==a)&&(j==b))=false:=by
  simp;omega
 rw[hf];simp only[wU2,xQ2,zD2];rw[wN2 hc]at this ⊢;exact this
theorem CL.all {l:aA aX} {i j:Int} {t:Nat} (h:CL l i j t) (c:t<=20):∀a b,kS a b l<=20:=fun a b=>by
 have:=h a b
 refine xJ2 this ?_
 repeat' split
 all_goals omega
theorem C54 {x1:YM} (h1:x1.sm):Ok (F54 x1) (fun r=>∀a b,kS a b r.1<=20):=by
 unfold F54;have hC:=h1.aR;refine Ob (P:=fun _=>True) (T24 h1) fun⟨n,Z⟩ _=>?_;refine Ob (P:=fun r=>r.2.length<=300/\∀a b,kS a b r.2<=20) (bO (l:=x1.aR) (fun q=>q.2.1) (fun i q=>q.2.2.length<=60*i/\CL q.2.2 (i:Int) 0 0) (by omega) rfl ⟨xA2 _,fun a b=>xA2 _⟩ (fun i c q W T hi D A hg hw=>?_) (fun q hi A=>?_)) fun⟨a,b⟩ h=>Oi (fun _=>.mk fun a b=>xA2 _) (fun _=>.mk h.2)
 .obtain ⟨e,k,l⟩:=q
  dsimp only at hi D A hg hw;have R:=(wI2.1 W).1;have hc:=h1.fY c T;have hV:=hc.aQ;simp only[D,hg,nt];refine Ob (P:=fun r=>match r with|.inl p=>p.2.length<=l.length+60/\∀a b,kS a b p.2<=20|.inr p=>p.2.length<=l.length+60/\CL p.2 (i+1:Int) 0 0) (bO (l:=c.aQ) (fun q=>q.2.1) (fun j q=>q.2.2.length<=l.length+20*j/\CL q.2.2 (i:Int) (j:Int) 0) (by omega) rfl ⟨wK2 _,A.2⟩ (fun j v q J F g s d B x=>?_) (fun q g d=>?_)) fun r hr=>?_
  .obtain ⟨e,X,L⟩:=q
   dsimp only at g s d B x;have S:=(wI2.1 J).1;have hv:=hc.eF v F;have hE:=hv.aT;simp only[s,B,nt];refine Oi (fun _=>.mk ⟨by dsimp only;omega,d.2.all (by omega)⟩) (fun _=>?_);refine Ob (P:=fun _=>True) (by unfold mA1;exact .mk trivial) fun p _=>?_;refine Oi (fun _=>.mk ⟨x,by dsimp only;omega,d.2.next (by omega)⟩) (fun _=>?_);refine Ob (dS2 hv) fun⟨on,e2⟩ ⟨E,_⟩=>?_;dsimp only at E;refine Oi (fun _=>.mk ⟨by dsimp only;omega,d.2.all (by omega)⟩) (fun M=>?_);refine Ob (P:=fun w=>w.length<=L.length+20/\CL w (i:Int) ((j+1:Nat):Int) 0) (bO (l:=on) (fun q=>q.1) (fun t q=>q.2.length<=L.length+t/\CL q.2 (i:Int) (j:Int) t) (by omega) rfl ⟨wK2 _,d.2⟩ (fun t o q K U m u f C z=>?_) (fun q m f=>?_)) fun w G=>.mk ⟨x,by dsimp only;omega,G.2⟩
   .obtain ⟨Y,O⟩:=q
    dsimp only at m u f C z;have V:=(wI2.1 K).1;simp only[u,C,nt];refine Ob (P:=fun off=>True) (Oi (fun hc=>?_) (fun _=>.mk trivial)) fun off N=>?_
    .rw [z]at hc ⊢
     exact Ob (cK (Q:=fun y=>y∈on) (by omega) (by simpa using hc) (fun _ h _=>h)) fun y hy=>.mk trivial
    .exact Ob (eM (Q:=fun w=>w.length=O.length+1/\CL w (i:Int) (j:Int) (t+1)) (by omega) ⟨by simp,f.2.app hi g⟩) fun w H=>.mk ⟨z,by dsimp only;omega,H.2⟩
   .obtain ⟨Y,O⟩:=q
    dsimp only at m f;simp only[m,nf];exact .mk ⟨by omega,f.2.next (by omega)⟩
  .obtain ⟨e,X,L⟩:=q
   dsimp only at g d;simp only[g,nf];exact .mk ⟨by dsimp only;omega,d.2.cell⟩
  .rcases r with⟨a,b⟩|⟨a,b⟩
   .exact .mk ⟨by dsimp only at hr ⊢;omega,hr.2⟩
   .exact .mk ⟨hw,by dsimp only at hr ⊢;omega,hr.2⟩
 .obtain ⟨e,k,l⟩:=q
  dsimp only at hi A;simp only[hi,nf];exact .mk ⟨by dsimp only;omega,A.2.all (by omega)⟩
end Go.P
namespace Go.P
variable {st:Nat->Int} {S:Nat->Prop}
def nS (st:Nat->Int) (S:Nat->Prop) (n:aI):Prop:=0<=n.Off/\∀j,S j->¬(n.On<st (j+1)/\st (j+1)<n.Off)
def aS (st:Nat->Int) (S:Nat->Prop) (l:aA aI):Prop:=∀n∈l,nS st S n
def dS (st:Nat->Int) (S:Nat->Prop) (i:Nat) (n:aI):Prop:=∀j,j<i->S j->st (j+1)<=n.On
def Hs (st:Nat->Int) (S:Nat->Prop) (i:Nat) (m:aA (YH×Int)) (l:aA aI):Prop:=∀q∈m,0<=q.2/\q.2<(l.length:Int)/\∀n,l[q.2.toNat]? =some n->dS st S i n
theorem Hs.hd {i:Nat} {m:aA (YH×Int)} {l:aA aI} (h:Hs st S i m l):Hd m l.length:=fun q a=>⟨(h q a).1,(h q a).2.1⟩
def Ex2 (l a:aA aI):Prop:=l.length<=a.length/\∀(p:Nat) n',p<l.length->a[p]? =some n'->∃n,l[p]? =some n/\n.On=n'.On
theorem Hs.ex {i:Nat} {m:aA (YH×Int)} {l d:aA aI} (h:Hs st S i m l) (e:Ex2 l d):Hs st S i m d:=fun q k=>by
 obtain⟨a,b,c⟩:=h q k
 refine⟨a,by have:=e.1;omega,fun n g j f hs=>?_⟩
 obtain⟨n0,h0,h1⟩:=e.2 q.2.toNat n (by omega) g
 rw[<-h1]
 exact c n0 h0 j f hs
theorem Hs.next {i:Nat} {m:aA (YH×Int)} {l:aA aI} (h:Hs st S i m l) (g:S i->m=[]):Hs st S (i+1) m l:=fun q f=>by
 obtain⟨a,b,c⟩:=h q f
 refine⟨a,b,fun n e j k hs=>?_⟩
 by_cases d:j=i
 .subst d
  rw[g hs]at f
  cases f
 .exact c n e j (by omega) hs
theorem dV2 (mono:∀a b:Nat,a<=b->st a<=st b) {i:Nat} {x1:YE} {x2 x3 U:Int} {x4:aA (YH×Int)} {E:aI} {s:aA aI} (h1:x1.sm) (h2:st i<=x2) (h3:0<=x3/\x3<=st (i+1)) (X:Hs st S i x4 s) (W:aS st S s) (hl:s.length<=900000000):
  Ok (mB1 x1 x2 x3 x4 E U s) (fun r=>Hs st S i r.1 r.2/\aS st S r.2/\s.length<=r.2.length/\r.2.length<=s.length+12/\(r.1≠[]->∃h∈x1.cW,h.tU=true)):=by
 unfold mB1;have hb:=h1.cW;refine Ob (P:=fun r=>Hs st S i r.1 r.2/\aS st S r.2/\s.length<=r.2.length/\r.2.length<=s.length+12/\(r.1≠[]->∃h∈x1.cW,h.tU=true)) (bO (l:=x1.cW) (fun q=>q.1) (fun k q=>Hs st S i q.2.1 q.2.2/\Hs st S i x4 q.2.2/\aS st S q.2.2/\s.length<=q.2.2.length/\q.2.2.length<=s.length+k/\(q.2.1≠[]->∃h∈x1.cW,h.tU=true)) (by omega) rfl ⟨fun q y=>(by cases y),X,W,wK2 _,wK2 _,fun h=>absurd rfl h⟩ (fun t e q hx Z hi B u hg hw=>?_) (fun q hi u=>?_)) fun⟨a,b⟩ h=>.mk h;obtain⟨k,m,l⟩:=q;dsimp only at hi B u hg hw;obtain⟨M,N,i3,i4,i5,i6⟩:=u;have Y:=(wI2.1 hx).1;simp only[B,hg,nt];refine Ob (P:=fun r=>0<=r.1/\r.1<(r.2.length:Int)/\l.length<=r.2.length/\r.2.length<=l.length+1/\(∀n,r.2[r.1.toNat]? =some n->dS st S i n)/\(∀p n,p≠r.1.toNat->r.2[p]? =some n->l[p]? =some n)/\∀p n,p<l.length->r.2[p]? =some n->l[p]? =some n) (Oi (fun hc=>?_) (fun hc=>?_)) fun⟨n,c⟩ o=>?_;refine Ob T82 fun⟨p,_⟩ _=>?_;refine Ob (eM (Q:=fun v=>v=l++[(aI.mk x2 E.Off (bF (p-U)) E.eS E.bS E.bU x1.ID k)]) (by omega) rfl) fun v hv=>?_;subst hv;refine .mk ⟨by dsimp only;omega,by dsimp only;simp;omega,by dsimp only;simp,by dsimp only;simp,fun n o j H hs=>?_,fun p n hp o=>?_,fun p n hp o=>?_⟩;dsimp only at o;rw[Int.toNat_natCast,yW2 (wK2 _)]at o;simp at o;rw[<-o];exact Int.le_trans (mono _ _ H) h2;dsimp only at hp o;rw[Int.toNat_natCast]at hp;have J:=(wI2.1 o).1;simp at J
 rwa [yE2 (by omega)]at o
 dsimp only at o
 rwa [yE2 hp]at o
 have hc:Wr x4 e.dW=true:=by simpa using hc
 obtain⟨q,q1,q2⟩:=fF1 (z:=0) hc;have:=N q q1;rw[q2]at this;exact .mk ⟨this.1,this.2.1,wK2 _,Nat.le_succ _,this.2.2,fun p n _ h=>h,fun p n _ h=>h⟩;dsimp only at o;obtain⟨O,R,n3,n4,n5,n6,T⟩:=o;refine Ob (gR O R) fun j H=>?_;obtain⟨x,w⟩:=H
 have D:∀f:aI->aI,lP c j f=some (c.set j (f c[j])):=fun f=>by
  unfold lP;rw[wX2 w];rfl
 rw[D,wJ2];have A:=n5 c[j] (by rw[<-x];exact wX2 w)
 have F:∀(p:Nat) n',(c.set j (aI.mk c[j].On x3 c[j].bG c[j].eS c[j].bS c[j].bU c[j].bP c[j].fL))[p]? =some n'->(p=j/\n'=aI.mk c[j].On x3 c[j].bG c[j].eS c[j].bS c[j].bU c[j].bP c[j].fL)\/(p≠j/\c[p]? =some n'):=fun p n' h=>by
  rw[xH2]at h;by_cases d:j=p;rw[wO2 d,wO2 w]at h;exact .inl ⟨d.symm,(yK2 h).symm⟩;rw[wN2 d]at h;exact .inr ⟨fun e=>d e.symm,h⟩
 have G:Ex2 l (c.set j (aI.mk c[j].On x3 c[j].bG c[j].eS c[j].bS c[j].bU c[j].bP c[j].fL)):=by
  refine⟨by simpa using n3,fun p n' hp g=>?_⟩;rcases F p n' g with⟨rfl,rfl⟩|⟨d,g⟩
  exact⟨c[p],T p _ hp (wX2 w),rfl⟩;exact⟨n',T p _ hp g,rfl⟩
 have V:aS st S (c.set j (aI.mk c[j].On x3 c[j].bG c[j].eS c[j].bS c[j].bU c[j].bP c[j].fL)):=fun n' g=>by
  obtain⟨p,hp⟩:=xE2.1 g;rcases F p n' hp with⟨_,rfl⟩|⟨d,hp⟩
  refine⟨h3.1,fun K hs ⟨c1,c2⟩=>?_⟩;dsimp only at c1 c2;by_cases C:K<i;have:=A K C hs;omega;have:=mono (i+1) (K+1) (by omega);omega;exact i3 n' (wT2 (n6 p n' (by rw[<-x];exact d) hp))
 refine Ob (P:=fun L=>Hs st S i L (c.set j (aI.mk c[j].On x3 c[j].bG c[j].eS c[j].bS c[j].bU c[j].bP c[j].fL))/\(L≠[]->∃h∈x1.cW,h.tU=true)) (Oi (fun ht=>.mk ⟨fun q y=>?_,fun _=>⟨e,Z,by simpa using ht⟩⟩) (fun _=>.mk ⟨M.ex G,i6⟩)) fun L h2=>.mk ⟨hw,h2.1,N.ex G,V,by dsimp only;simp;omega,by dsimp only;simp;omega,h2.2⟩;rcases fG1 y with y|y;exact(M.ex G) q y;rw[y];refine⟨O,by simpa using R,fun n' g=>?_⟩;rcases F _ n' g with⟨_,rfl⟩|⟨d,_⟩
 exact A;exact absurd x.symm d;obtain⟨k,m,l⟩:=q;dsimp only at hi u;simp only[hi,nf];exact .mk ⟨u.1,u.2.2.1,u.2.2.2.1,by have:=u.2.2.2.2.1;dsimp only;omega,u.2.2.2.2.2⟩
end Go.P
namespace Go.P
variable {st:Nat->Int} {S:Nat->Prop}
def noT (m:YM):Prop:=∀(j k n:Nat) c v e,m.aR[j]? =some c->c.aQ[k]? =some v->v.aT[n]? =some e->n+1=v.aT.length->∀h∈e.cW,h.tU=false
def Src (m:YM) (sl:aA aX) (a b:Int) (t:Nat):Prop:=∃(p:Nat) (s:aX),p<t/\sl[p]? =some s/\s.bS=a/\s.bU=b/\(∀d,p<d->d<t->∀s',sl[d]? =some s'->¬(s'.bS=a/\s'.bU=b))/\∃c v e,bB m.aR s.bS=some c/\bB c.aQ s.bU=some v/\bB v.aT s.bP=some e/\∃h∈e.cW,h.tU=true
theorem nS1 {m:YM} {n:Int} {sl:aA aX} {a b:Int} (h:Src m sl a b sl.length) (hs:SO m n sl) (i:noT m):False:=by
 obtain⟨p,s,p1,p2,p3,p4,p5,c,v,e,d,f,k,h,g,j⟩:=h;rcases hs.2 p s p2 with⟨l,v',q1,q2,q3⟩|⟨s',q1,q2,q3⟩
 rw[d]at q1;cases q1;rw[f]at q2;cases q2;obtain⟨a1,_,_,a2⟩:=fF d;obtain⟨b1,_,_,b2⟩:=fF f;obtain⟨c1,_,_,c2⟩:=fF k;have:=i _ _ _ c v e a2 b2 c2 (by omega) h g;rw[j]at this;cases this;exact p5 (p+1) (by omega) (wI2.1 q1).1 s' q1 ⟨by rw[q2,p3],by rw[q3,p4]⟩
theorem dX2 (mono:∀a b:Nat,a<=b->st a<=st b) {i:Nat} {n:Int} {x1:YM} {x2 x3 x4 Z:Int} {L:aA (YH×Int)} {Y:aI} {d:aA aI} (h1:x1.sm) (T:Dy x1=some (n,0)) (hb:0<=n/\n<=15482880) (h2:x2=st i) (h3:st (i+1)=st i+n) (h4:0<=st i/\st i<=15482880*12) (C:S i->noT x1) (O:Hs st S i L d) (N:aS st S d) (hl:d.length<=800000000):
  Ok (mC1 x1 x2 x3 x4 L Y Z d) (fun r=>Hs st S (i+1) r.1 r.2/\aS st S r.2/\d.length<=r.2.length/\r.2.length<=d.length+240):=by
 unfold mC1;refine Ob (Ok.both (R54 h1 T hb.1) (C54 h1)) fun⟨sl,e0⟩ ⟨⟨B,j⟩,o⟩=>?_;dsimp only at B j o;have o:=o x3 x4;refine Ob (P:=fun r=>Hs st S i r.2.1 r.2.2/\aS st S r.2.2/\d.length<=r.2.2.length/\r.2.2.length<=d.length+240/\(r.1=true->r.2.1≠[]->Src x1 sl x3 x4 sl.length)) (bO (l:=sl) (fun q=>q.2.1) (fun t q=>Hs st S i q.2.2.1 q.2.2.2/\aS st S q.2.2.2/\d.length<=q.2.2.2.length/\q.2.2.2.length<=d.length+12*kS x3 x4 (sl.take t)/\(q.1=true->q.2.2.1≠[]->Src x1 sl x3 x4 t)) (by omega) rfl ⟨O,N,wK2 _,wK2 _,fun h=>(by cases h)⟩ (fun t s q y x hi w f hg hw=>?_) (fun q hi f=>?_)) fun⟨a,b,c⟩ h=>Ob (P:=fun m=>Hs st S i m c/\(S i->m=[])) (Oi (fun _=>.mk ⟨fun q U=>(by cases U),fun _=>rfl⟩) (fun V=>.mk ⟨h.1,fun hs=>?_⟩)) fun m x=>.mk ⟨x.1.next x.2,h.2.1,h.2.2.1,h.2.2.2.1⟩
 .obtain ⟨M,k,m,l⟩:=q
  dsimp only at hi w f hg hw;obtain⟨F,G,i3,i4,W⟩:=f;have R:=(wI2.1 y).1;simp only[w,hg,nt];refine Ob (P:=fun r=>Hs st S i r.2.1 r.2.2/\aS st S r.2.2/\l.length<=r.2.2.length/\r.2.2.length+12*kS x3 x4 (sl.take t)<=l.length+12*kS x3 x4 (sl.take (t+1))/\(r.1=true->r.2.1≠[]->Src x1 sl x3 x4 (t+1))) (Oi (fun hc=>?_) (fun hc=>.mk ⟨F,G,wK2 _,by have:=nR1 x3 x4 sl t;dsimp only;omega,fun z g=>?_⟩)) fun⟨a,b,c⟩ h=>.mk ⟨hw,h.1,h.2.1,by have:=h.2.2.1;dsimp only at this ⊢;omega,by have:=h.2.2.2.1;dsimp only at this ⊢;omega,h.2.2.2.2⟩
  .obtain ⟨⟨c,v,e,H,J,K,X⟩,k5,k6⟩:=j.1 s x
   have A:=nQ1 (a:=x3) (b:=x4) y;rw[wO2 (show isS x3 x4 s=true from hc)]at A;simp only[wL2,yI2]at hc;rw[<-hc.1,<-hc.2,H];simp only[wJ2,J,K];rw[bK (n:=x2+s.On) (by omega) (by omega),bK (n:=x2+s.Off) (by omega) (by omega)];refine Ob (dV2 mono X (by omega) (by omega) F G (by have:=dU2 x3 x4 sl t;omega)) fun⟨a,b⟩ h=>.mk ⟨h.1,h.2.1,h.2.2.1,by have:=h.2.2.2.1;dsimp only at this ⊢;rw[hc.1,hc.2];omega,fun _ g=>⟨t,s,by omega,y,rfl,rfl,fun D _ _=>by omega,c,v,e,H,J,K,h.2.2.2.2 g⟩⟩
  .obtain ⟨p,s',p1,p2,p3,p4,p5,p6⟩:=W z g
   refine⟨p,s',by omega,p2,p3,p4,fun D q1 q2 E q3 q4=>?_,p6⟩;by_cases hp:D=t
   .subst hp
    rw[y]at q3;cases q3;exact hc (by simp[q4.1,q4.2])
   .exact p5 D q1 (by omega) E q3 q4
 .obtain ⟨M,k,m,l⟩:=q
  dsimp only at hi f;simp only[hi,nf];exact .mk ⟨f.1,f.2.1,f.2.2.1,by have:=f.2.2.2.1;rw[zC2]at this;dsimp only;omega,f.2.2.2.2⟩
 .by_cases u:b=[]
  .exact u
  .exact (nS1 (h.2.2.2.2 (by simpa using V) u) j (C hs)).elim
end Go.P
namespace Go.P
variable {s:Y0}
def ml (m:YM):Int:=match Dy m with|some r=>r.1|none=>0
def jO (s:Y0) (j:Nat):Int:=((s.aD.take j).map ml).sum
def Yu (s:Y0) (j:Nat):Prop:=∃m,s.aD[j]? =some m/\noT m
theorem vW {j:Nat} {m:YM} (h:s.aD[j]? =some m):jO s (j+1)=jO s j+ml m:=by
 unfold jO;rw[List.take_add_one,h,zQ2,List.sum_append];simp
theorem fL1 {j:Nat} (h:s.aD.length<=j):jO s (j+1)=jO s j:=by
 unfold jO;rw[xS2 (by omega),xS2 (by omega)]
theorem dY2 (hg:dO s) {m:YM} (b:m∈s.aD):0<ml m/\ml m<=15482880:=by
 obtain⟨n,a⟩:=hg m b;have:=E94 a;unfold ml;rw[a];exact this
theorem Nr (hg:dO s) (j:Nat):jO s j<=jO s (j+1)/\jO s (j+1)<=jO s j+15482880:=by
 by_cases h:j<s.aD.length;have a:s.aD[j]? =some s.aD[j]:=wX2 h;have:=dY2 hg (yR2 h);rw[vW a];omega;rw[fL1 (by omega)];omega
theorem Ns (hs:s.sm) (hg:dO s):∀a b:Nat,a<=b->jO s a<=jO s b:=fun a b h=>by
 induction h with
 |refl=>exact yD2 _
 |step _ ih=>exact Int.le_trans ih (Nr hg _).1
theorem Aa (hs:s.sm) (hg:dO s):∀j:Nat,0<=jO s j/\jO s j<=15482880*(j:Int)
 |0=>by simp[jO]
 |j+1=>by
  have:=Aa hs hg j
  have h2:=Nr hg j
  omega
theorem Dm (hs:s.sm) (hg:dO s) (j:Nat):0<=jO s j/\jO s j<=15482880*12:=by
 have a:=hs.aD;refine⟨(Aa hs hg j).1,?_⟩;by_cases h:j<=s.aD.length;have:=(Aa hs hg j).2;omega
 have h1:jO s j=jO s s.aD.length:=by
  unfold jO;rw[xS2 (by omega),xS2 (wK2 _)]
 have:=(Aa hs hg s.aD.length).2;omega
theorem fM1 (hs:s.sm) (hg:dO s):F25 s=some ((List.range (s.aD.length+1)).map (jO s)):=by
 have z:=hs.aD;unfold F25;refine Ok.eq (Ob (P:=fun r=>r=(List.range (s.aD.length+1)).map (jO s)) (bO (l:=s.aD) (fun q=>q.1) (fun i q=>q.2=(List.range (i+1)).map (jO s)) (by omega) rfl rfl (fun i m q p v hi c a b hw=>?_) (fun q hi a=>?_)) fun r hr=>.mk hr);obtain⟨k,o⟩:=q;dsimp only at hi c a b hw;have t:=(wI2.1 p).1;obtain⟨n,h⟩:=hg m v;have e:ml m=n:=by unfold ml;rw[h]
 simp only[c,b,h,nt];have x:o.length=i+1:=by rw[a];simp
 refine Ob (gR (by omega) (by omega)) fun j u=>Ob (kP u.2) fun y hy=>?_;have d:j=i:=by omega
 have g:y=jO s i:=by
  rw[d,a,xN2,yF2 (by omega)]at hy;exact(yK2 hy.1).symm
 have h1:=Dm hs hg i;have h2:=Dm hs hg (i+1);have h3:=vW p;rw[g,bK (n:=jO s i+n) (by omega) (by omega)];refine Ob (eM (Q:=fun w=>w=o++[jO s i+n]) (by omega) rfl) fun w f=>.mk ⟨hw,?_⟩;dsimp only;rw[f,a,List.range_succ (n:=i+1),zQ2];show _++_=_++[jO s (i+1)]
 rw[h3,e];obtain⟨k,o⟩:=q;dsimp only at hi a;simp only[hi,nf];exact .mk a
theorem pK2 (hs:s.sm) (hv:Dc s=some true) (hg:dO s):Ok (F15 s) (fun r=>r.2=0/\aS (jO s) (Yu s) r.1/\r.1.length<=115200):=by
 have S:=hs.aD;have T:=hs.bV;unfold F15;rw[hv];simp only[wJ2];rw[wN2 (by decide)];rw[fM1 hs hg,wJ2];refine Ob (uO1 hs) fun n A=>?_;refine Ob (P:=fun l=>aS (jO s) (Yu s) l/\l.length<=115200) (iW (fun q=>q.1) n (fun q=>q.1<=n/\aS (jO s) (Yu s) q.2/\q.2.length<=5760*q.1.toNat) (by omega) (by dsimp only;omega) ⟨by dsimp only;omega,fun n A=>(by cases A),xA2 _⟩ (fun q C h0 hw=>?_)) fun l hl=>Ob (Uq (by omega)) fun r hr=>.mk ⟨rfl,fun n A=>hl.1 n (hr.1.mem_iff.1 A),by dsimp only;rw[hr.1.length_eq];exact hl.2⟩;obtain⟨x,l⟩:=q;dsimp only at C h0 hw;refine Oi (fun hc=>?_) (fun hc=>.mk ⟨C.2.1,by dsimp only;omega⟩);have hc:x<n:=by simpa using hc
 refine Ob (S27 hs (by omega)) fun⟨p,k,e⟩ hp=>?_;dsimp only at hp;refine Ob (P:=fun _=>True) (Oi (fun _=>Ob (cK (Q:=fun _=>True) hp.1 hp.2 (fun _ _ _=>trivial)) fun _ _=>.mk trivial) (fun _=>.mk trivial)) fun d _=>?_;refine Ob (P:=fun t=>aS (jO s) (Yu s) t/\t.length<=l.length+5760) (iW (fun q=>q.1) 2 (fun q=>q.1<=2/\aS (jO s) (Yu s) q.2/\q.2.length<=l.length+2880*q.1.toNat) (by omega) (by dsimp only;omega) ⟨by dsimp only;omega,C.2.1,wK2 _⟩ (fun q o B j=>?_)) fun t v=>.mk ⟨hc,hw hc,by rw[hw hc];omega,v.1,by have:=v.2;dsimp only;rw[hw hc];omega⟩;obtain⟨y,t⟩:=q;dsimp only at o B j;refine Oi (fun f=>?_) (fun f=>.mk ⟨o.2.1,by dsimp only;omega⟩);have f:y<2:=by simpa using f
 refine Ob (P:=fun r=>aS (jO s) (Yu s) r.2.2/\r.2.2.length<=t.length+2880) (bO (l:=s.aD) (fun q=>q.1) (fun i q=>Hs (jO s) (Yu s) i q.2.1 q.2.2.2/\aS (jO s) (Yu s) q.2.2.2/\q.2.2.2.length<=t.length+240*i) (by omega) rfl ⟨fun q N=>(by cases N),o.2.1,wK2 _⟩ (fun i m q F J hi w g u z=>?_) (fun q hi g=>?_)) fun⟨a,b,c⟩ h=>.mk ⟨f,j f,by rw[j f];omega,h.1,by have:=h.2;dsimp only at this ⊢;rw[j f];omega⟩;obtain⟨O,hd,H,R⟩:=q;dsimp only at hi w g u z;have M:=(wI2.1 F).1;simp only[w,u,nt]
 rw[hi,show bB ((List.range (s.aD.length+1)).map (jO s)) (i:Int)=some (jO s i)by
  unfold bB;rw[wO2 (by omega),Int.toNat_natCast,xN2,yF2 (by omega)];rfl,wJ2]
 obtain⟨K,G⟩:=hg m J;have E:ml m=K:=by unfold ml;rw[G]
 have L:=E94 G;have D:=Dm hs hg i;refine Ob (dX2 (Ns hs hg) (i:=i) (n:=K) (hs.cC m J) G (by omega) rfl (by rw[vW F,E]) ⟨D.1,by omega⟩ (fun⟨U,h1,h2⟩=>by rw[F]at h1;cases h1;exact h2) g.1 g.2.1 (by omega)) fun⟨a,b⟩ h=>.mk ⟨by have:=z;rw[hi]at this;exact this,h.1,h.2.1,by have:=h.2.2.2;dsimp only at this ⊢;omega⟩;obtain⟨O,hd,H,R⟩:=q;dsimp only at hi g;simp only[hi,nf];exact .mk ⟨g.2.1,by dsimp only;omega⟩
end Go.P
namespace Go.P
variable {s:Y0}
theorem nT1 {e:YE} (he:e.sm) (hk:e.dD=1):F88 e=some (e.cW.any fun h=>h.tU):=by
 have hb:=he.cW;have h1:Nf e.cW=some (e.cW.any fun h=>h.tU):=nC1 (g:=dF1) _ (by omega) (fun x _=>rfl);unfold F88;rw[wO2 (by simpa using hk),h1];rfl
theorem dZ2 (hs:s.sm) (hv:Dc s=some true) {n:aI} (x:nS (jO s) (Yu s) n) {i:Nat} {m:YM} (h1:s.aD[i]? =some m) (h2:n.On<jO s (i+1)) (h3:jO s (i+1)<n.Off):∃b,s.aD[i+1]? =some b/\Mk2 m b:=by
 have hi:=(wI2.1 h1).1;obtain⟨w,y,g⟩:=mgV hs hv (by omega);have a:¬noT m:=fun h=>x.2 i ⟨m,h1,h⟩ ⟨h2,h3⟩;unfold noT at a;simp only[Classical.not_forall]at a;obtain⟨j,k,n',c,v,e,p,q,r,z,h,t,u⟩:=a;have l:=hs.cC m (wT2 h1);have d:=l.fY c (wT2 p);have o:=d.eF v (wT2 q);have f:=o.dQ e (wT2 r)
 have hk:e.dD=1:=by
  rcases Yh (g i j k n' m c v e h1 p q r)with h|h;exact h;rw[h]at t;cases t
 refine fI1 hs w y h1 p q r z ?_;rw[nT1 f hk,List.any_eq_true.2 ⟨h,t,by simpa using u⟩]
end Go.P
namespace Go.P
variable {s:Y0}
def dM:YM:=⟨⟨0,0⟩,⟨0,0,⟨0,0,0,0,0,0⟩⟩,0,0,false,0,0,0,0,0,0,⟨#[]⟩,[],[]⟩
def gm (s:Y0) (i:Nat):YM:=s.aD.getD i dM
theorem vX {i:Nat} {m:YM} (h:s.aD[i]? =some m):gm s i=m:=by simp[gm,List.getD_eq_getElem?_getD,h]
theorem mC {i:Nat} (h:i<s.aD.length):bB s.aD (i:Int)=some (gm s i):=by
 unfold bB;rw[wO2 (by omega),Int.toNat_natCast,wX2 h,vX (wX2 h)]
theorem eA2 {i:Nat} (hs:s.sm) (h:i<s.aD.length):(gm s i).sm:=by
 rw[vX (wX2 h)];exact hs.cC _ (yR2 h)
theorem E87 {x:Int} {m:YM}:Ok (F96 x m) (fun v=>v=false->(m.aW=0\/2<=m.aW/\m.aW<=8)/\0<=m.aN/\m.aN<=255):=by
 unfold F96 zS;simp only[wJ2];by_cases h1:m.aW=0;rw[wN2 (by simpa using h1)];simp only[wJ2,wU2,xQ2];refine .mk (fun h=>⟨.inl h1,?_⟩);simpa using h;rw[wO2 (by simpa using h1)];simp only[wJ2];cases hb:(decide (m.aW>=2)&&decide (m.aW<=8))with
 |false=>exact .mk (fun h=>by cases h)
 |true=>
  refine .mk (fun h=>⟨.inr (by simpa using hb),?_⟩);simpa using h
theorem uT1 {l:aA YV} {r:Int} (h1:l.length+20<=1000000) (hs:s.sm):Ok (xG l s r) (fun v=>l.length<=v.length/\(v.length<=l.length->v.length=l.length/\∀i,i<s.aD.length->((gm s i).aW=0\/2<=(gm s i).aW/\(gm s i).aW<=8)/\0<=(gm s i).aN/\(gm s i).aN<=255)):=by
 unfold xG;have k:=hs.aD;refine Ob (P:=fun v=>l.length<=v.length/\(v.length<=l.length->v.length=l.length/\∀i,i<s.aD.length->((gm s i).aW=0\/2<=(gm s i).aW/\(gm s i).aW<=8)/\0<=(gm s i).aN/\(gm s i).aN<=255)) (bO (l:=s.aD) (fun q=>q.1) (fun i q=>q.2.length<=l.length+i/\l.length<=q.2.length/\(q.2.length<=l.length->∀j,j<i->((gm s j).aW=0\/2<=(gm s j).aW/\(gm s j).aW<=8)/\0<=(gm s j).aN/\(gm s j).aN<=255)) (by omega) rfl ⟨by dsimp only;omega,wK2 _,fun _ j f=>by omega⟩ (fun i e q g m hi hl a hg hw=>?_) (fun q hi a=>?_)) fun v hv=>.mk hv;obtain⟨x,v⟩:=q;dsimp only at hi hl a hg hw;simp only[hl,hg,nt];refine Ob E87 fun b hb=>?_;refine Ob (Er (by omega)) fun u c=>.mk ⟨hw,?_,?_,fun h j f=>?_⟩;dsimp only;cases b<;>simp at c<;>omega;dsimp only;cases b<;>simp at c<;>omega;dsimp only at h;cases b with
 |true=>simp at c;omega
 |false=>
  simp only[wU2,false_implies,forall_const,true_and]at c;by_cases d:j=i;subst d;rw[vX g];exact hb rfl;exact a.2.2 (by omega) j (by omega)
 obtain⟨x,v⟩:=q;dsimp only at hi a;simp only[hi,nf];exact .mk ⟨a.2.1,fun h=>⟨by omega,a.2.2 h⟩⟩
def z0:YG:=⟨false,0,0,0,false,0⟩
structure kV (s:Y0) (g:Nat->YG):Prop where
 z:g 0=z0
 st:∀i,i<s.aD.length->F97 (g i) (gm s i)=some (g (i+1),true)
 b:∀i,i<s.aD.length->((gm s i).aW=0\/2<=(gm s i).aW/\(gm s i).aW<=8)/\0<=(gm s i).aN/\(gm s i).aN<=255
def TQ (s:Y0) (r:(YG×aA YV)⊕YG):Prop:=match r with|.inl e=>e.2≠[]|.inr _=>∃g,kV s g
theorem fN1 (hs:s.sm) (h:Qv [] s 14=some []):∃g,kV s g:=by
 unfold Qv at h;have y:=hs.aD;obtain⟨v,t,h⟩:=gE h;have hv:=(uT1 (by decide) hs).of t;by_cases hc:((v.length:Int)>(([]:aA YV).length:Int));rw[wO2 (by simpa using hc)]at h;cases h;simp at hc;rw[wN2 (by simpa using hc)]at h;have f:v=[]:=yX2 (by simpa using hc);subst f;obtain⟨_,hb⟩:=hv.2 (wK2 _);obtain⟨r,e2,h⟩:=gE h
 have hr:TQ s r:=by
  refine Ok.of (Q:=TQ s) (bO (l:=s.aD) (fun(q:Int×YG)=>q.1) (fun i q=>q.2.passes<=8/\∃g:Nat->YG,g 0=z0/\g i=q.2/\∀j,j<i->F97 (g j) (gm s j)=some (g (j+1),true)) (by omega) rfl ⟨by decide,fun _=>z0,rfl,rfl,fun j A=>by omega⟩ (fun i e q m B hi hl a hg hw=>?_) (fun q hi a=>?_)) e2;obtain⟨x,g0⟩:=q;dsimp only at hi hl a hg hw;simp only[hl,hg,nt];obtain⟨w,g,n,p,o⟩:=a;have z:e.aW<=8:=by have:=(hb i (wI2.1 m).1).1;rw[vX m]at this;omega
  refine Ok.bindE (T97 (hs.cC e B) w z) fun⟨c,b⟩ hv hp=>?_;dsimp only at hp ⊢;cases b with
  |false=>
   rw[wO2 (show(!false)=true from rfl)];refine Ob (Er (by decide)) fun u C=>.mk ?_;show u≠[]
   intro h;have:=C.1 rfl;rw[h]at this;simp at this
  |true=>
   rw[wN2 (show ¬(!true)=true by decide)];refine .mk ⟨hw,hp,fun k=>if k<=i then g k else c,by dsimp only;rw[wO2 (xA2 _)];exact n,by dsimp only;rw[wN2 (by omega)],fun j A=>?_⟩;dsimp only;by_cases d:j=i;subst d;rw[wO2 (wK2 _),wN2 (by omega),vX m,p];exact hv;rw[wO2 (by omega),wO2 (by omega)];exact o j (by omega)
  obtain⟨x,g0⟩:=q;dsimp only at hi a;simp only[hi,nf];obtain⟨_,g,n,p,o⟩:=a;exact .mk (show ∃g,kV s g from⟨g,n,o,hb⟩)
 rcases r with⟨c,u⟩|c;dsimp only at h hr;cases h;exact absurd rfl hr;exact hr
theorem b2t {b:Bool} (h:¬b=true):b=false:=by cases b<;>simp_all
theorem qC1 {g g':YG} {m:YM} (h:F97 g m=some (g',true)) (c:m.aN=0):(g.ending≠0->Yt g=some true)/\g'.ending=0/\(g.ending=0/\g'.used=g.used\/g'.used=0):=by
 unfold F97 at h;rw[wN2 (by simpa using c)]at h;by_cases h1:g.ending=0;rw[wN2 (by simpa using h1)]at h;refine⟨fun h=>absurd h1 h,?_⟩;by_cases h2:m.dG=true;rw[wO2 h2]at h;by_cases h3:g.started=true;rw[wO2 h3]at h;cases h;rw[wN2 h3]at h;obtain⟨⟨a,b⟩,_,h⟩:=gE h;cases h;exact⟨rfl,.inr rfl⟩;rw[wN2 h2]at h;obtain⟨x,e,h⟩:=gE h;cases h;split at e;cases e;exact⟨rfl,.inr rfl⟩;cases e;exact⟨h1,.inl ⟨h1,rfl⟩⟩;rw[wO2 (by simpa using h1)]at h;obtain⟨f,e,h⟩:=gE h;cases f with
 |false=>rw[wO2 (show(!false)=true from rfl)]at h;cases h
 |true=>
  rw[wN2 (show ¬(!true)=true by decide)]at h;refine⟨fun _=>e,?_⟩;by_cases h2:m.dG=true;rw[wO2 h2,wN2 (by decide)]at h;obtain⟨⟨a,b⟩,_,h⟩:=gE h;cases h;exact⟨rfl,.inr rfl⟩;rw[wN2 h2]at h;obtain⟨x,_,h⟩:=gE h;cases h;exact⟨rfl,.inr rfl⟩
structure uU1 (g':YG) (m:YM) (used:Int):Prop where
 e:g'.ending=m.aN
 u:g'.used=used
 d:g'.ended=true↔m.aW≠0
 r:m.aW≠0->g'.passes=m.aW/\∃k,Cz (IntKind.wrap .u64 m.aN)=some k/\k<m.aW
theorem Gw {g g':YG} {m:YM} (h:F97 g m=some (g',true)) (l:m.aN≠0):
  (m.aN≠g.ending/\(g.ending≠0->g.ended=true)/\dU .i64 m.aN g.used=0/\uU1 g' m (ior .i64 g.used m.aN))\/(m.aN=g.ending/\g.ended=false/\uU1 g' m g.used):=by
 unfold F97 at h;rw[wO2 (by simpa using l)]at h;obtain⟨⟨a,b⟩,h,h2⟩:=gE h;cases h2;unfold dW1 at h;by_cases h1:(m.dG||(g.body==0))=true;rw[wO2 h1]at h;cases h;rw[wN2 h1]at h;by_cases h2:m.aN=g.ending;rw[wN2 (by simpa using h2)]at h;refine .inr ⟨h2,?_⟩;by_cases h3:g.ended=true;rw[wO2 h3]at h;cases h;rw[wN2 h3]at h;refine⟨b2t h3,?_⟩;by_cases h4:m.aW=0;rw[wN2 (by simpa using h4)]at h;cases h;exact⟨h2.symm,rfl,by rw[b2t h3];simp[h4],fun h=>absurd h4 h⟩;rw[wO2 (by simpa using h4)]at h;obtain⟨f,j,h⟩:=gE h;obtain⟨c,e2,h⟩:=gE h;cases c with
 |true=>rw[wO2 rfl]at h;cases h
 |false=>
  rw[wN2 (by decide)]at h;cases h;split at e2;cases e2;obtain⟨k,d,e2⟩:=gE e2;simp only[wP2,xT2]at e2;exact⟨h2.symm,rfl,by simp[h4],fun _=>⟨rfl,k,by rw[h2];exact d,by omega⟩⟩
 rw[wO2 (by simpa using h2)]at h;refine .inl ⟨h2,?_⟩;by_cases h3:(((g.ending !=0)&&(!g.ended))||((dU .i64 m.aN g.used)!=0))=true;rw[wO2 h3]at h;cases h;rw[wN2 h3]at h
 have h5:(g.ending≠0->g.ended=true)/\dU .i64 m.aN g.used=0:=by
  have h3:=b2t h3;simp only[yV2,Bool.and_eq_false_iff,bne_eq_false_iff_eq,Bool.not_eq_false']at h3;exact⟨fun n=>h3.1.resolve_left n,h3.2⟩
 refine⟨h5.1,h5.2,?_⟩;obtain⟨o,r,h⟩:=gE h
 have tail:∀{h:(if(m.aW !=0)=true then(Yt (YG.mk g.started g.body (ior .i64 g.used m.aN) m.aN false g.passes)).bind fun x4=>((if(x4||((g.passes !=0)&&(m.aW !=g.passes)))=true then some true else(Cz (IntKind.wrap .u64 (m.aN))).bind fun p=>some (decide (p>=m.aW)):aB Bool)).bind fun q=>if q=true then some ((YG.mk g.started g.body (ior .i64 g.used m.aN) m.aN false g.passes),false)else some ((YG.mk g.started g.body (ior .i64 g.used m.aN) m.aN true m.aW),true)else some ((YG.mk g.started g.body (ior .i64 g.used m.aN) m.aN false g.passes),true))=some (g',true)},uU1 g' m (ior .i64 g.used m.aN):=by
  intro h;by_cases h4:m.aW=0;rw[wN2 (by simpa using h4)]at h;cases h;exact⟨rfl,rfl,by simp[h4],fun h=>absurd h4 h⟩;rw[wO2 (by simpa using h4)]at h;obtain⟨f,j,h⟩:=gE h;obtain⟨c,e2,h⟩:=gE h;cases c with
  |true=>rw[wO2 rfl]at h;cases h
  |false=>
   rw[wN2 (by decide)]at h;cases h;split at e2;cases e2;obtain⟨k,d,e2⟩:=gE e2;simp only[wP2,xT2]at e2;exact⟨rfl,rfl,by simp[h4],fun _=>⟨rfl,k,d,by omega⟩⟩
 by_cases e:(g.passes==0)=true;rw[wO2 e]at h;by_cases i:(((dU .i64 m.aN 1)==0)||(decide ((bF (o-1))>6)))=true;rw[wO2 i]at h;cases h;rw[wN2 i]at h;exact tail (h:=h);rw[wN2 e]at h;obtain⟨c,e2,h⟩:=gE h;cases c with
 |true=>rw[wO2 rfl]at h;cases h
 |false=>
  rw[wN2 (by decide)]at h;exact tail (h:=h)
end Go.P
namespace Go.P
variable {s:Y0}
def pcN:Nat->Nat->Nat
 |0,_=>0
 |k+1,x=>pcN k x+(x.testBit k).toNat
def By (a:Int):Prop:=0<=a/\a<=255
def pcI (a:Int):Int:=(pcN 8 a.toNat:Nat)
theorem Gx (a:Nat) (h:a<256):(BitVec.ofInt 64 (a:Int)).toNat=a:=by
 rw[BitVec.ofInt_natCast,BitVec.toNat_ofNat];omega
theorem fO1 (a:Nat) (h:a<256):IntKind.wrap .i64 (a:Int)=(a:Int):=by
 rw[show IntKind.wrap .i64 (a:Int)=bF (a:Int)from rfl,bK (by omega) (by omega)]
theorem nU1 (a b:Nat) (c:a<256) (hb:b<256):ior .i64 ((a:Nat):Int) ((b:Nat):Int)=((a|||b:Nat):Int):=by
 unfold ior;rw[show IntKind.bits .i64=64 from rfl,BitVec.toNat_or,Gx a c,Gx b hb];exact fO1 _ (Nat.or_lt_two_pow (n:=8) c hb)
theorem By.nat {a:Int} (h:By a):∃n:Nat,a=(n:Int)/\n<256:=⟨a.toNat,by unfold By at h;omega,by unfold By at h;omega⟩
theorem By.ior {a b:Int} (d:By a) (hb:By b):By (ior .i64 a b):=by
 obtain⟨x,rfl,c⟩:=d.nat
 obtain⟨y,rfl,hy⟩:=hb.nat
 rw[nU1 x y c hy];have:=Nat.or_lt_two_pow (n:=8) c hy;exact⟨by omega,by omega⟩
theorem nV1:∀a:Fin 256,lX1 (IntKind.wrap .u64 (a.val:Int))=some (pcN 8 a.val:Nat):=by decide+kernel
theorem uV1 {a:Int} (h:By a):lX1 (IntKind.wrap .u64 a)=some (pcI a):=by
 obtain⟨x,rfl,b⟩:=h.nat
 exact nV1 ⟨x,b⟩
theorem eD2 (a:Int):0<=pcI a/\pcI a<=8:=by
 have h:∀k x,pcN k x<=k:=fun k=>by
  induction k with
  |zero=>intro x;exact wK2 _
  |succ k ih=>intro x;have:=ih x;simp only[pcN];cases x.testBit k<;>simp<;>omega
 have:=h 8 a.toNat
 unfold pcI;omega
theorem nW1:∀r:Fin 9,2<=r.val->Cz (IntKind.wrap .u64 ((2^(r.val-1):Nat):Int))=some (r.val:Int)/\bZ1 .i64 1 ((r.val-1:Nat):Int)=some ((2^(r.val-1):Nat):Int):=by decide+kernel
variable {g:Nat->YG}
theorem kV.E (h:kV s g) {i:Nat} (hi:i<s.aD.length):By (gm s i).aN:=(h.b i hi).2
theorem kV.end0 (h:kV s g) {i:Nat} (hi:i<s.aD.length):(g (i+1)).ending=(gm s i).aN:=by
 by_cases a:(gm s i).aN=0;rw[(qC1 (h.st i hi) a).2.1,a];rcases Gw (h.st i hi) a with⟨_,_,_,f⟩|⟨_,_,f⟩<;>exact f.e
theorem kV.A (h:kV s g) {i:Nat} (hi:i+1<s.aD.length) (h1:(gm s i).aN≠0) (h2:(gm s (i+1)).aN≠0) (h3:(gm s (i+1)).aN≠(gm s i).aN):(gm s i).aW≠0:=by
 have e:=h.end0 (i:=i) (by omega)
 have hd:(g (i+1)).ended=true↔(gm s i).aW≠0:=by
  rcases Gw (h.st i (by omega)) h1 with⟨_,_,_,f⟩|⟨_,_,f⟩<;>exact f.d
 rcases Gw (h.st (i+1) hi) h2 with⟨_,k,_⟩|⟨k,_⟩
 exact hd.1 (k (by rw[e];exact h1));rw[e]at k;exact absurd k h3
theorem kV.B (h:kV s g) {i:Nat} (hi:i+1<s.aD.length) (h1:(gm s i).aN≠0) (h2:(gm s (i+1)).aN=0):(gm s i).aW=0:=by
 apply Decidable.byContradiction;intro a;have e:=h.end0 (i:=i) (by omega);have f0:=(qC1 (h.st (i+1) hi) h2).1 (by rw[e];exact h1)
 have hr:(g (i+1)).passes=(gm s i).aW/\∃k,Cz (IntKind.wrap .u64 (gm s i).aN)=some k/\k<(gm s i).aW:=by
  rcases Gw (h.st i (by omega)) h1 with⟨_,_,_,f⟩|⟨_,_,f⟩<;>exact f.r a
 obtain⟨hp,k,hk,d⟩:=hr;have hb:=(h.b i (by omega)).1.resolve_left a;obtain⟨r,hr⟩:∃r:Nat,(gm s i).aW=(r:Int):=⟨(gm s i).aW.toNat,by omega⟩
 obtain⟨j,l⟩:=nW1 ⟨r,by omega⟩ (by show 2<=r;omega);unfold Yt at f0;rw[hp,hr,wO2 (by simp;omega)]at f0;rw[show bF ((r:Int)-1)=((r-1:Nat):Int)by rw[bK (by omega) (by omega)];omega,l]at f0;simp only[wJ2,wP2,yI2]at f0;rw[e]at f0;rw[f0,j]at hk;have c:(r:Int)=k:=yK2 hk;omega
theorem kV.same (h:kV s g) {i:Nat} (hi:i<s.aD.length) (h1:(gm s i).aN≠0) (h2:(gm s i).aN=(g i).ending):(g (i+1)).used=(g i).used:=by
 rcases Gw (h.st i hi) h1 with⟨k,_,_,f⟩|⟨_,_,f⟩
 exact absurd h2 k;exact f.u
theorem kV.new (h:kV s g) {i:Nat} (hi:i<s.aD.length) (h1:(gm s i).aN≠0) (h2:(gm s i).aN≠(g i).ending):dU .i64 (gm s i).aN (g i).used=0/\(g (i+1)).used=ior .i64 (g i).used (gm s i).aN:=by
 rcases Gw (h.st i hi) h1 with⟨_,_,k,f⟩|⟨k,_⟩
 exact⟨k,f.u⟩;exact absurd k h2
def Run (s:Y0) (i j:Nat):Prop:=i<j/\j<=s.aD.length/\(∀k,i<=k->k<j->(gm s k).aN=(gm s i).aN)/\(j=s.aD.length\/(gm s j).aN≠(gm s i).aN)
theorem kV.run (h:kV s g) {i j:Nat} (hr:Run s i j) (h1:(gm s i).aN≠0) (h2:(gm s i).aN≠(g i).ending):dU .i64 (gm s i).aN (g i).used=0/\(g j).used=ior .i64 (g i).used (gm s i).aN:=by
 obtain⟨r1,r2,r3,_⟩:=hr;have a:=h.new (i:=i) (by omega) h1 h2;refine⟨a.1,?_⟩
 have:∀k,i+1+k<=j->(g (i+1+k)).used=ior .i64 (g i).used (gm s i).aN:=fun k=>by
  induction k with
  |zero=>intro _;exact a.2
  |succ k ih=>
   intro hk;have e:=h.end0 (i:=i+k) (by omega);rw[show i+k+1=i+1+k by omega,r3 (i+k) (by omega) (by omega)]at e;have e2:=r3 (i+1+k) (by omega) (by omega);rw[show i+1+(k+1)=(i+1+k)+1 by omega,h.same (i:=i+1+k) (by omega) (by rw[e2];exact h1) (by rw[e2,e])];exact ih (by omega)
 have:=this (j-(i+1)) (by omega)
 rwa [show i+1+(j-(i+1))=j by omega]at this
end Go.P
namespace Go.P
variable {s:Y0} {g:Nat->YG}
inductive Ch (s:Y0):Nat->List bE->Int->(List bE×Int×Nat)->Prop
 |stop {i acc all} (h:i=s.aD.length\/(gm s i).aN=0):Ch s i acc all (acc,all,i)
 |step {i j acc all r} (h1:(gm s i).aN≠0) (h2:Run s i j) (h3:Ch s j (acc++[⟨⟨(i:Int),(j:Int)⟩,(gm s i).aN⟩]) (ior .i64 all (gm s i).aN) r):Ch s i acc all r
theorem Run.det {i j k:Nat} (h:Run s i j) (h':Run s i k):j=k:=by
 obtain⟨a1,a2,a3,a4⟩:=h;obtain⟨b1,b2,b3,a⟩:=h';apply Decidable.byContradiction;intro b;by_cases hl:j<k
 grind
 grind
theorem Ch.det {i:Nat} {acc:aA bE} {all:Int} {r r':aA bE×Int×Nat} (h:Ch s i acc all r):Ch s i acc all r'->r=r':=by
 induction h with
 |stop h=>
  intro h';cases h' with
  |stop _=>rfl
  |step h1 h2 _=>
   rcases h with h|h
   .have:=h2.1;have:=h2.2.1;omega
   .exact absurd h h1
 |step h1 h2 h3 ih=>
  intro h';cases h' with
  |stop h=>
   rcases h with h|h
   .have:=h2.1;have:=h2.2.1;omega
   .exact absurd h h1
  |step k1 k2 k3=>
   have:=h2.det k2;subst this;exact ih k3
inductive Sc (s:Y0):Nat->Nat->List aJ->List aJ->Prop
 |fin1 {b o} (h:b<s.aD.length):Sc s b s.aD.length o (o++[⟨⟨(b:Int),(s.aD.length:Int)⟩,[],1⟩])
 |fin0 {b o} (h:¬b<s.aD.length):Sc s b s.aD.length o o
 |ends {b i o acc all e r} (h1:i<s.aD.length) (h2:(gm s i).aN≠0) (h3:Ch s i [] 0 (acc,all,e)) (h4:Sc s e e (o++[⟨⟨(b:Int),(i:Int)⟩,acc,pcI all⟩]) r):Sc s b i o r
 |start {b i o r} (h1:i<s.aD.length) (h2:(gm s i).aN=0) (h3:(gm s i).dG=true/\b<i) (h4:Sc s i i (o++[⟨⟨(b:Int),(i:Int)⟩,[],1⟩]) r):Sc s b i o r
 |rep {b i o r} (h1:i<s.aD.length) (h2:(gm s i).aN=0) (h3:¬((gm s i).dG=true/\b<i)) (h4:(gm s i).aW≠0) (h5:Sc s (i+1) (i+1) (o++[⟨⟨(b:Int),((i+1:Nat):Int)⟩,[],(gm s i).aW⟩]) r):Sc s b i o r
 |skip {b i o r} (h1:i<s.aD.length) (h2:(gm s i).aN=0) (h3:¬((gm s i).dG=true/\b<i)) (h4:(gm s i).aW=0) (h5:Sc s b (i+1) o r):Sc s b i o r
theorem Sc.det {b i:Nat} {o r r':aA aJ} (h:Sc s b i o r):Sc s b i o r'->r=r':=by
 induction h with
 |fin1 h=>
  intro h';cases h' with
  |fin1 _=>rfl
  |fin0 k=>exact absurd h k
  |ends k=>omega
  |start k=>omega
  |rep k=>omega
  |skip k=>omega
 |fin0 h=>
  intro h';cases h' with
  |fin1 k=>exact absurd k h
  |fin0 k=>rfl
  |ends k=>omega
  |start k=>omega
  |rep k=>omega
  |skip k=>omega
 |ends h1 h2 h3 h4 ih=>
  intro h';cases h' with
  |fin1 k=>omega
  |fin0 k=>omega
  |ends k1 k2 k3 k4=>
   have:=h3.det k3;cases this;exact ih k4
  |start k1 k2=>exact absurd k2 h2
  |rep k1 k2=>exact absurd k2 h2
  |skip k1 k2=>exact absurd k2 h2
 |start h1 h2 h3 h4 ih=>
  intro h';cases h' with
  |fin1 k=>omega
  |fin0 k=>omega
  |ends k1 k2=>exact absurd h2 k2
  |start k1 k2 k3 k4=>exact ih k4
  |rep k1 k2 k3=>exact absurd h3 k3
  |skip k1 k2 k3=>exact absurd h3 k3
 |rep h1 h2 h3 h4 h5 ih=>
  intro h';cases h' with
  |fin1 k=>omega
  |fin0 k=>omega
  |ends k1 k2=>exact absurd h2 k2
  |start k1 k2 k3=>exact absurd k3 h3
  |rep k1 k2 k3 k4 k5=>exact ih k5
  |skip k1 k2 k3 k4=>exact absurd k4 h4
 |skip h1 h2 h3 h4 h5 ih=>
  intro h';cases h' with
  |fin1 k=>omega
  |fin0 k=>omega
  |ends k1 k2=>exact absurd h2 k2
  |start k1 k2 k3=>exact absurd k3 h3
  |rep k1 k2 k3 k4=>exact absurd h4 k4
  |skip k1 k2 k3 k4 k5=>exact ih k5
theorem nJ {n:Nat} (h:n<1000000):bF ((n:Int)+1)=((n+1:Nat):Int):=by rw[bK (by omega) (by omega)];rfl
theorem fP1 {n:Nat} (h:n<1000000):bF ((n:Int)-1)=(n:Int)-1:=bK (by omega) (by omega)
theorem uW1 {body:Int->aB (Int⊕Int)} {i:Nat} (f:s.aD.length<100000) (hi:i<s.aD.length)
  (h1:∀k,i<=k->k<s.aD.length->(gm s k).aN=(gm s i).aN->body (k:Int)=some (.inl ((k+1:Nat):Int)))
  (h2:∀k,i<=k->k<s.aD.length->(gm s k).aN≠(gm s i).aN->body (k:Int)=some (.inr (k:Int)))
  (h3:body (s.aD.length:Int)=some (.inr (s.aD.length:Int))):
  Ok (aZ body bN (i:Int)) (fun r=>∃j:Nat,r=(j:Int)/\Run s i j):=by
 refine cM (fun(q:Int)=>∃k:Nat,q=(k:Int)/\i<=k/\k<=s.aD.length/\∀u,i<=u->u<k->(gm s u).aN=(gm s i).aN) (fun q=>s.aD.length-q.toNat) (fun q c=>?_) bN _ ⟨i,rfl,wK2 _,by omega,fun u _ _=>by omega⟩ (by simp only[bN];omega);obtain⟨k,rfl,a,e,b⟩:=c;by_cases hk:k<s.aD.length;by_cases he:(gm s k).aN=(gm s i).aN;rw[h1 k a hk he];refine .mk ⟨⟨k+1,rfl,by omega,hk,fun u g h=>?_⟩,by omega⟩;by_cases d:u=k;subst d;exact he
 grind
 rw[h2 k a hk he];have:i<k:=by grind
 exact .mk ⟨k,rfl,this,e,b,.inr he⟩;have:k=s.aD.length:=by omega
 subst this;rw[h3];exact .mk ⟨_,rfl,hi,wK2 _,b,.inl rfl⟩
theorem tR {A:Type} {l:aA A} {x:A} (h:l.length<1000000):iP false l [x]=some (l++[x]):=by
 have e:Sim.maxRoom=1073741824:=rfl;unfold iP;rw[wO2 ⟨by rw[e];simp;omega,fun h=>by cases h⟩]
theorem uX1 (F:s.aD.length<100000) (D:∀i,i<s.aD.length->By (gm s i).aN):Ok (F50 s) (fun r=>Sc s 0 0 [] r):=by
 unfold F50;refine Ob (P:=fun r=>∃b:Nat,r.1=(b:Int)/\r.2.length<=b/\b<=s.aD.length/\∀x,Sc s b s.aD.length r.2 x->Sc s 0 0 [] x) (cM (fun(q:Int×Int×aA aJ)=>∃b i:Nat,q.1=(b:Int)/\q.2.1=(i:Int)/\q.2.2.length<=b/\b<=i/\i<=s.aD.length/\∀x,Sc s b i q.2.2 x->Sc s 0 0 [] x) (fun q=>2*(s.aD.length-q.2.1.toNat)+(if q.1<q.2.1 then 1 else 0)) (fun q y=>?_) bN _ ⟨0,0,rfl,rfl,wK2 _,wK2 _,xA2 _,fun x h=>h⟩ (by simp only[bN];split<;>omega)) fun r hr=>?_
 .obtain ⟨B,K,o⟩:=q
  obtain⟨b,i,l,g2,t,m,J,g⟩:=y;dsimp only at l g2 t g ⊢;subst l g2;by_cases hi:(i:Int)<(s.aD.length:Int)
  .rw [wO2 (by simpa using hi),mC (by omega)]
   have hi:i<s.aD.length:=by omega
   simp only[wJ2];by_cases h1:(gm s i).aN=0
   .rw [wN2 (by simpa using h1)]
    by_cases h2:(gm s i).dG=true/\b<i
    .rw [wO2 (by simp[h2.1];omega),tR (by omega)]
     simp only[wJ2];rw[fP1 (by omega),bK (n:=(i:Int)-1+1) (by omega) (by omega),show(i:Int)-1+1=(i:Int)by omega];refine .mk ⟨⟨i,i,rfl,rfl,by dsimp only;rw[xD2];simp;omega,wK2 _,by omega,fun x h=>g x (.start hi h1 h2 h)⟩,?_⟩;dsimp only;rw[wN2 (by omega),wO2 (by omega)];omega
    .rw [wN2 (by intro h;apply h2;simpa using h)]
     by_cases h3:(gm s i).aW=0
     .rw [wN2 (by simpa using h3)]
      simp only[wJ2];rw[nJ (by omega)];refine .mk ⟨⟨b,i+1,rfl,rfl,t,by omega,hi,fun x h=>g x (.skip hi h1 h2 h3 h)⟩,?_⟩;dsimp only;split<;>split<;>omega
     .rw [wO2 (by simpa using h3),nJ (by omega),tR (by omega)]
      simp only[wJ2];rw[nJ (by omega)];refine .mk ⟨⟨i+1,i+1,rfl,rfl,by dsimp only;rw[xD2];simp;omega,wK2 _,hi,fun x h=>g x (.rep hi h1 h2 h3 h)⟩,?_⟩;dsimp only;rw[wN2 (by omega)];split<;>omega
   .rw [wO2 (by simpa using h1)]
    refine Ob (P:=fun r=>∃(e:Nat) (c:aA aJ),r=((e:Int),(e:Int)-1,c)/\c.length<=e/\i<e/\e<=s.aD.length/\∀x,Sc s e e c x->Sc s 0 0 [] x) ?_ fun r hr=>?_
    .refine Ob (P:=fun r=>∃e:Nat,r.1=(e:Int)/\i<e/\e<=s.aD.length/\By r.2.1/\Ch s i [] 0 (r.2.2,r.2.1,e)) (cM (fun(q:Int×Int×aA bE)=>∃k:Nat,q.1=(k:Int)/\i<=k/\k<=s.aD.length/\q.2.2.length<=k/\By q.2.1/\(k=i->q.2=(0,[]))/\∀x,Ch s k q.2.2 q.2.1 x->Ch s i [] 0 x) (fun q=>s.aD.length-q.1.toNat) (fun q y=>?_) bN _ ⟨i,rfl,wK2 _,by omega,by simp,⟨by show(0:Int)<=0;decide,by show(0:Int)<=255;decide⟩,fun _=>rfl,fun x h=>h⟩ (by simp only[bN];omega)) fun r hr=>?_
     .obtain ⟨L,all,acc⟩:=q
      obtain⟨k,a,v,f,f4,d,C,p⟩:=y;dsimp only at a f4 d C p ⊢;subst a;by_cases hk:(k:Int)<(s.aD.length:Int)
      .rw [wO2 (by simpa using hk),mC (by omega)]
       have hk:k<s.aD.length:=by omega
       simp only[wJ2];by_cases h2:(gm s k).aN=0
       .rw [wN2 (by simpa using h2)]
        have w:i<k:=by grind
        exact .mk ⟨k,rfl,w,f,d,p _ (.stop (.inr h2))⟩
       .rw [wO2 (by simpa using h2)]
        refine Ob (uW1 F hk (fun u G z A=>?_) (fun u G z A=>?_) ?_) fun j E=>?_
        .rw [wO2 (by simp;omega),mC z]
         simp only[wJ2];rw[wO2 (by simpa using A),nJ (by omega)]
        .rw [wO2 (by simp;omega),mC z]
         simp only[wJ2];rw[wN2 (by simpa using A)]
        .grind
        .obtain ⟨j,rfl,hr⟩:=E
         have r1:=hr.1;have r2:=hr.2.1;rw[tR (by omega)];simp only[wJ2];refine .mk ⟨⟨j,rfl,by omega,r2,by dsimp only;rw[xD2];simp;omega,d.ior (D k hk),fun h=>by omega,fun x h=>p x (.step h2 hr h)⟩,by dsimp only;omega⟩
      .rw [wN2 (by simpa using hk)]
       simp only[wJ2,wU2,xQ2];exact .mk ⟨k,rfl,by omega,f,d,p _ (.stop (.inl (by omega)))⟩
     .obtain ⟨H,all,acc⟩:=r
      obtain⟨e,a,v,f,f4,d⟩:=hr;dsimp only at a f4 d ⊢;subst a;rw[uV1 f4];simp only[wJ2];rw[tR (by omega),fP1 (by omega)];refine .mk ⟨e,_,rfl,by rw[xD2];simp;omega,v,f,fun x h=>g x (.ends hi h1 d h)⟩
    .obtain ⟨e,c,rfl,a,v,f,f4⟩:=hr
     dsimp only;rw[bK (n:=(e:Int)-1+1) (by omega) (by omega),show(e:Int)-1+1=(e:Int)by omega];refine .mk ⟨⟨e,e,rfl,rfl,a,wK2 _,f,f4⟩,?_⟩;dsimp only;rw[wN2 (by omega)];split<;>omega
  .rw [wN2 (by simpa using hi)]
   have:i=s.aD.length:=by omega
   subst this;exact .mk ⟨b,rfl,t,m,g⟩
 .obtain ⟨B,o⟩:=r
  obtain⟨b,l,g2,t,m⟩:=hr;dsimp only at l g2 m ⊢;subst l;by_cases hb:(b:Int)<(s.aD.length:Int)
  .rw [wO2 (by simpa using hb),tR (by omega)]
   exact .mk (m _ (.fin1 (by omega)))
  .rw [wN2 (by simpa using hb)]
   exact .mk (m _ (.fin0 (by omega)))
end Go.P
namespace Go.P
variable {s:Y0}
def vY (a b:Int):aA Int:=(List.range (b-a).toNat).map fun(k:Nat)=>a+k
theorem vZ {a b:Int} (h:¬a<b):vY a b=[]:=by
 unfold vY;rw[show(b-a).toNat=0 by omega];rfl
theorem oN {a b:Int} (h:a<b):vY a b=a::vY (a+1) b:=by
 unfold vY;rw[show(b-a).toNat=(b-(a+1)).toNat+1 by omega,List.range_succ_eq_map];simp only[yY2,List.map_map];congr 1;simp;apply List.map_congr_left;intro k _;simp only[Function.comp];omega
theorem Us {a b x:Int} (h:x∈vY a b):a<=x/\x<b:=by
 unfold vY at h;obtain⟨k,hk,rfl⟩:=zR2.1 h;have:=aI3.1 hk;omega
theorem Ab (a b:Int):(vY a b).length=(b-a).toNat:=by simp[vY]
def nX:aA Int->aA Int->aA bJ
 |_,[]=>[]
 |p,m::r=>⟨m,(p.count m:Nat)⟩::nX (p++[m]) r
theorem Dn (m:Int):∀(a p:aA Int),nX p (a++[m])=nX p a++[⟨m,((p++a).count m:Nat)⟩]
 |[],p=>by simp[nX]
 |x::r,p=>by
  simp only[zV2,nX,Dn m r (p++[x])]
  simp
theorem pO:∀(a p:aA Int),(nX p a).length=a.length
 |[],p=>rfl
 |x::r,p=>by simp[nX,pO r]
theorem Jy:∀(a p:aA Int) (i:Nat) (h:i<a.length),(nX p a)[i]? =some ⟨a[i],((p++a.take i).count a[i]:Nat)⟩
 |x::r,p,0,h=>by simp[nX]
 |x::r,p,i+1,h=>by
  simp only[nX,List.getElem?_cons_succ,List.getElem_cons_succ,List.take_succ_cons]
  rw[Jy r (p++[x]) i (by simpa using h)]
  simp
def St (a:aA Int) (mp:aA (Int×Int)) (l:aA bJ):Prop:=l=nX [] a/\∀k,fJ mp k 0=(a.count k:Nat)
theorem St.nil:St [] [] []:=⟨rfl,fun k=>rfl⟩
theorem St.next {b:aA Int} {mp:aA (Int×Int)} {l:aA bJ} (h:St b mp l) (m:Int) (hl:b.length<100000):St (b++[m]) (kM mp m (bF (fJ mp m 0+1))) (l++[⟨m,fJ mp m 0⟩]):=by
 have hc:=List.count_le_length (a:=m) (l:=b);refine⟨by rw[h.1,Dn,h.2];rfl,fun k=>?_⟩;rw[rX,h.2 m,bK (by omega) (by omega),h.2 k,List.count_append,List.count_singleton];by_cases hk:k=m
 .subst hk;simp
 .rw [wN2 hk]
  have:(m==k)=false:=by simpa using fun h=>hk h.symm
  rw[this];simp
theorem St.play {c:aA Int} {mp:aA (Int×Int)} {l:aA bJ} (h:St c mp l) (hl:c.length<8192) (m a:Int) (b:aA bJ):vS m mp l a b=some (.inr (l++[⟨m,fJ mp m 0⟩])):=by
 unfold vS;have:l.length=c.length:=by rw[h.1,pO]
 rw[wN2 (by simp;omega),tR (by omega)];rfl
end Go.P
namespace Go.P
variable {s:Y0}
def tS (s:Y0) (i:Nat) (b:Int):Bool:=dU .i64 (gm s i).cZ b !=0
def Yv (s:Y0) (b:Int) (r:Int):Prop:=(r= -1/\∀i,i<s.aD.length->tS s i b=false)\/∃i:Nat,r=(i:Int)/\i<s.aD.length/\tS s i b=true/\∀k,k<i->tS s k b=false
theorem Yv.det {b r r':Int} (h:Yv s b r) (h':Yv s b r'):r=r':=by
 rcases h with⟨rfl,h⟩|⟨i,rfl,h1,h2,h3⟩
 rcases h' with⟨rfl,_⟩|⟨i,rfl,k1,k2,_⟩
 rfl;rw[h i k1]at k2;cases k2;rcases h' with⟨rfl,k⟩|⟨k,rfl,k1,k2,k3⟩
 rw[k i h1]at h2;cases h2
 have:i=k:=by
  apply Decidable.byContradiction;intro a;by_cases hl:i<k;rw[k3 i hl]at h2;cases h2;rw[h3 k (by omega)]at k2;cases k2
 rw[this]
theorem fQ1 {p:Nat->Bool} {body:Int->aB (Int⊕(Int⊕Unit))} (d:s.aD.length<100000)
  (h1:∀i,i<s.aD.length->body (i:Int)=if p i=true then some (.inr (.inl (i:Int)))else some (.inl ((i+1:Nat):Int))) (h2:body (s.aD.length:Int)=some (.inr (.inr ()))):
  Ok (aZ body bN 0) (fun r=>match r with|.inl x=>∃i:Nat,x=(i:Int)/\i<s.aD.length/\p i=true/\∀k,k<i->p k=false|.inr _=>∀i,i<s.aD.length->p i=false):=by
 refine cM (fun(q:Int)=>∃i:Nat,q=(i:Int)/\i<=s.aD.length/\∀k,k<i->p k=false) (fun q=>s.aD.length-q.toNat) (fun q b=>?_) bN 0 ⟨0,rfl,xA2 _,fun k h=>by omega⟩ (by simp only[bN];omega);obtain⟨i,rfl,c,g2⟩:=b;by_cases hi:i<s.aD.length;rw[h1 i hi];cases hp:p i with
 |true=>exact .mk ⟨i,rfl,hi,hp,g2⟩
 |false=>
  refine .mk ⟨⟨i+1,rfl,hi,fun k hk=>?_⟩,by omega⟩;by_cases a:k=i;subst a;exact hp;exact g2 k (by omega)
 have:i=s.aD.length:=by omega
 subst this;rw[h2];exact .mk g2
theorem xO (a:s.aD.length<100000) (b:Int):Ok (xH s.aD b) (fun r=>Yv s b r):=by
 unfold xH;refine Ob (fQ1 (p:=fun i=>tS s i b) a (fun i hi=>?_) ?_) fun r hr=>?_;rw[wO2 (by simp;omega),mC hi];simp only[wJ2,eA1];rw[nJ (by omega)];rfl;rw[wN2 (by simp)];rcases r with x|_;obtain⟨i,rfl,h⟩:=hr;exact .mk (.inr ⟨i,rfl,h⟩);exact .mk (.inl ⟨rfl,hr⟩)
theorem Yi (a:s.aD.length<100000) (b:Int):Ok (Dd s.aD b) (fun r=>Yv s b r):=by
 unfold Dd;refine Ob (fQ1 (p:=fun i=>tS s i b) a (fun i hi=>?_) ?_) fun r hr=>?_;rw[wO2 (by simp;omega),mC hi];simp only[wJ2,sQ1];rw[nJ (by omega)];rfl;rw[wN2 (by simp)];rcases r with x|_;obtain⟨i,rfl,h⟩:=hr;exact .mk (.inr ⟨i,rfl,h⟩);exact .mk (.inl ⟨rfl,hr⟩)
structure Jm (s:Y0) (i:Nat):Prop where
 j:0<=(gm s i).hU/\(gm s i).hU<=6
 l:0<=(gm s i).cZ/\(gm s i).cZ<=15
 u:∀k,k<i->dU .i64 (gm s i).cZ (gm s k).cZ=0
 d:(gm s i).hU>=4->∃r,Yv s 1 r/\0<=r
 c:(gm s i).hU=3\/(gm s i).hU=6->∃t c,Yv s 8 t/\Yv s 2 c/\0<=t/\t<c
theorem fR1 {i k:Nat} (hi:i<=s.aD.length) (hk:k<i):bB (s.aD.take i) (k:Int)=some (gm s k):=by
 unfold bB;rw[wO2 (by omega),Int.toNat_natCast,xW2,wO2 hk,wX2 (by omega),vX (wX2 (by omega))]
def UQ (s:Y0) (i:Nat) (a:Int⊕Unit):Prop:=match a with|.inl x=>0<=x|.inr _=>∀k,k<i->dU .i64 (gm s i).cZ (gm s k).cZ=0
theorem E90 (p:s.aD.length<100000) {i:Nat} {r:Int} {v:aA YV} (hi:i<s.aD.length) {b:Bool} (h:F99 (i:Int) (gm s i) ⟨s,r,v⟩=some b) (hb:b=false):Jm s i:=by
 subst hb;unfold F99 zS at h;simp only[wJ2]at h;obtain⟨x,f,h⟩:=gE h;by_cases c:(x||(((gm s i).hU !=0||(gm s i).cZ !=0)&&((gm s i).aW !=0||(gm s i).aN !=0)))=true;rw[wO2 c]at h;cases h;rw[wN2 c]at h;have G:x=false:=by cases x<;>simp_all
 subst G
 have C:0<=(gm s i).hU/\(gm s i).hU<=6:=by
  cases hb:(decide ((gm s i).hU>=0)&&decide ((gm s i).hU<=6))with
  |true=>simpa using hb
  |false=>rw[hb,wO2 (show(!false)=true from rfl)]at f;cases f
 rw[wN2 (by simp;exact C)]at f;have F:0<=(gm s i).cZ/\(gm s i).cZ<=15:=by simpa using f
 rw[show pI s.aD 0 (i:Int)=some (s.aD.take i)by
  unfold pI;rw[wO2 ⟨by omega,by omega,by omega⟩];simp]at h
 obtain⟨_,e2,h⟩:=gE h;cases e2;obtain⟨y,e2,h⟩:=gE h;obtain⟨z,a,h⟩:=gE h;cases h;cases y with
 |true=>rw[wO2 rfl]at a;cases a
 |false=>
 rw[wN2 (by decide)]at a;obtain⟨w,a,B⟩:=gE a;simp only[wP2,Bool.not_eq_false']at B;subst B
 have D:∀k,k<i->dU .i64 (gm s i).cZ (gm s k).cZ=0:=by
  unfold dZ1 at e2;obtain⟨n,d,e2⟩:=gE e2;unfold dY1 at d;obtain⟨E,j,d⟩:=gE d
  have g:UQ s i E:=by
   refine Ok.of (Q:=UQ s i) (cM (fun(q:Int)=>∃k:Nat,q=(k:Int)/\k<=i/\∀u,u<k->dU .i64 (gm s i).cZ (gm s u).cZ=0) (fun q=>i-q.toNat) (fun q g=>?_) bN 0 ⟨0,rfl,xA2 _,fun k h=>by omega⟩ (by simp only[bN];omega)) j;obtain⟨k,rfl,J,g2⟩:=g;have hlen:(s.aD.take i).length=i:=by rw[zJ2];omega
   by_cases hk:k<i;rw[wO2 (by rw[hlen];simp;omega),fR1 (by omega) hk];simp only[wJ2,dX1];rw[nJ (by omega)];by_cases hc:(((gm s i).hU !=0&&(gm s k).hU !=0)||(dU .i64 (gm s i).cZ (gm s k).cZ !=0))=true;rw[wO2 hc];exact .mk (show(0:Int)<=(k:Int)by omega);rw[wN2 hc];refine .mk ⟨⟨k+1,rfl,hk,fun u D=>?_⟩,by omega⟩;by_cases t:u=k;subst t;simp only[wY2,zK2]at hc;simpa using hc.2;exact g2 u (by omega);rw[wN2 (by rw[hlen];simp;omega)];have:k=i:=by omega
   subst this;exact .mk g2
  rcases E with x|_;cases d;simp only[wP2,xT2]at e2;exact absurd g e2;exact g
 unfold eD1 Qx zS Qw at a;dsimp only at a;obtain⟨x,d,a⟩:=gE a;cases x with
 |true=>rw[wO2 rfl]at a;cases a
 |false=>
 rw[wN2 (by decide)]at a;refine⟨C,F,D,fun h4=>?_,fun h3=>?_⟩;rw[wO2 (by simpa using h4)]at d;obtain⟨r1,A,e⟩:=xO (s:=s) p 1;rw[A]at d;simp only[wJ2,wP2,Bool.not_eq_false']at d;exact⟨r1,e,by simp at d;omega⟩
 have l:(((if((gm s i).hU==2)=true then some ((gm s i).hU==2)else some ((gm s i).hU==5)):aB Bool))=some false:=by
  rcases h3 with h3|h3<;>rw[h3]<;>rfl
 have m:(((if((gm s i).hU==3)=true then some ((gm s i).hU==3)else some ((gm s i).hU==6)):aB Bool))=some true:=by
  rcases h3 with h3|h3<;>rw[h3]<;>rfl
 rw[l,m]at a;simp only[wJ2,wU2,xQ2,xM2]at a;obtain⟨r1,A,e⟩:=xO (s:=s) p 8;obtain⟨r2,H,o⟩:=xO (s:=s) p 2;rw[A,H]at a;simp only[wJ2]at a;obtain⟨q,a,j⟩:=gE a;cases j;by_cases hc:(decide (r1>=0)&&decide (r1<=(i:Int)))=true;rw[wO2 hc]at a;simp only[wP2,wS2]at a;exact⟨r1,r2,e,o,by simp at hc;omega,by omega⟩;rw[wN2 hc]at a;cases a
theorem Nt (hs:s.sm) (h:Qy [] s 15=some []):∀i,i<s.aD.length->Jm s i:=by
 unfold Qy at h;obtain⟨v,e,h⟩:=gE h;cases h;unfold Da at e;obtain⟨v,e,h⟩:=gE e;cases h;have l:=hs.aD;refine Ok.of (Q:=fun(v:aA YV)=>v.length=0->∀i,i<s.aD.length->Jm s i) (cM (fun(q:Int×aA YV)=>∃i:Nat,q.1=(i:Int)/\i<=s.aD.length/\q.2.length<=i/\(q.2.length=0->∀k,k<i->Jm s k)) (fun q=>s.aD.length-q.1.toNat) (fun q j=>?_) bN (0,[]) ⟨0,rfl,xA2 _,wK2 _,fun _ k h=>by omega⟩ (by simp only[bN];omega)) e rfl;obtain⟨m,v⟩:=q;obtain⟨i,f,g2,g,a⟩:=j;dsimp only at f g a ⊢;subst f;by_cases hi:i<s.aD.length;rw[wO2 (by simp;omega),mC hi];simp only[wJ2];refine Ok.bindE (T99 (x1:=(i:Int)) (x3:=⟨s,15,v⟩) (eA2 hs hi) hs ⟨by omega,by show(i:Int)<=(s.aD.length:Int);omega⟩) fun b hb _=>?_;refine Ob (Er (by omega)) fun u d=>?_;rw[nJ (by omega)];refine .mk ⟨⟨i+1,rfl,hi,?_,fun h0 k hk=>?_⟩,by dsimp only;omega⟩;dsimp only;cases b<;>simp at d<;>omega;dsimp only at h0;cases b with
 |true=>simp at d;omega
 |false=>
  simp at d;by_cases c:k=i;subst c;exact E90 (by omega) hi hb rfl;exact a (by omega) k (by omega)
 rw[wN2 (by simp;omega)];have:i=s.aD.length:=by omega
 subst this;exact .mk a
end Go.P
namespace Go.P
variable {s:Y0}
def GE (n:Nat) (x:bE):Prop:=(∃f e:Nat,x.span=⟨(f:Int),(e:Int)⟩/\f<=e/\e<=n)/\By x.bits
def Ut (l:aA bE):Int:=(l.map fun x=>x.span.end'-x.span.first).sum
structure GG (n:Nat) (x:aJ):Prop where
 b:∃f e:Nat,x.body=⟨(f:Int),(e:Int)⟩/\f<=e/\e<=n
 e:∀y∈x.endings,GE n y
 p:0<=x.passes/\x.passes<=8
 l:x.endings.length<=n
 t:x.body.end'-x.body.first+Ut x.endings<=n
theorem fS1 (l:aA bE) (x:bE):Ut (l++[x])=Ut l+(x.span.end'-x.span.first):=by simp[Ut]
theorem Ch.good (c:∀i,i<s.aD.length->By (gm s i).aN) {i:Nat} {acc:aA bE} {all:Int} {r:aA bE×Int×Nat} (h:Ch s i acc all r) (hi:i<=s.aD.length) (hg:∀x∈acc,GE s.aD.length x) (hl:acc.length<=i):
  (∀x∈r.1,GE s.aD.length x)/\r.1.length<=r.2.2/\i<=r.2.2/\r.2.2<=s.aD.length/\Ut r.1=Ut acc+((r.2.2:Int)-i):=by
 induction h with
 |stop h=>exact⟨hg,hl,wK2 _,hi,by dsimp only;omega⟩
 |@step i j acc all r h1 h2 h3 ih=>
  have r1:=h2.1;have r2:=h2.2.1
  obtain⟨d,e,g,f,b⟩:=ih r2 (fun x a=>by
   rcases xV2.1 a with a|a
   .exact hg x a
   .rw [yJ2]at a
    subst a;exact⟨⟨i,j,rfl,by omega,r2⟩,c i (by omega)⟩) (by rw[xD2];simp;omega)
  refine⟨d,e,by omega,f,?_⟩;rw[fS1]at b;dsimp only at b;omega
theorem Sc.good (f:∀i,i<s.aD.length->By (gm s i).aN/\((gm s i).aW=0\/2<=(gm s i).aW/\(gm s i).aW<=8)) {b i:Nat} {o r:aA aJ} (h:Sc s b i o r) (hb:b<=i) (hi:i<=s.aD.length) (hg:∀x∈o,GG s.aD.length x) (hl:o.length<=b):
  (∀x∈r,GG s.aD.length x)/\r.length<=s.aD.length:=by
 have d:∀{o:aA aJ} {y:aJ},(∀x∈o,GG s.aD.length x)->GG s.aD.length y->∀x∈o++[y],GG s.aD.length x:=fun h1 h2 x c=>by grind
 have pl:∀{a b:Nat} {p:Int},a<=b->b<=s.aD.length->0<=p->p<=8->GG s.aD.length ⟨⟨(a:Int),(b:Int)⟩,[],p⟩:=fun{a b p} h1 h2 h3 h4=>⟨⟨a,b,rfl,h1,h2⟩,fun y hy=>by simp at hy,⟨h3,h4⟩,xA2 _,by simp[Ut];omega⟩
 induction h with
 |fin1 h=>exact⟨d hg (pl (by omega) (wK2 _) (by decide) (by decide)),by rw[xD2];simp;omega⟩
 |fin0 h=>exact⟨hg,by omega⟩
 |@ends b i o acc all e r h1 h2 h3 h4 ih=>
  obtain⟨j,k,n,g,l⟩:=h3.good (fun i hi=>(f i hi).1) (by omega) (fun x c=>by simp at c) (by simp)
  have m:i<e:=by
   cases h3 with
   |stop h=>rcases h with h|h;omega;exact absurd h h2
   |step q1 q2 q3=>
    have:=q2.1;have:=(q3.good (fun i hi=>(f i hi).1) q2.2.1 (fun x c=>by simp at c;subst c;exact⟨⟨i,_,rfl,by omega,q2.2.1⟩,(f i h1).1⟩) (by simp;omega)).2.2.1;dsimp only at this;omega
  have hp:=eD2 all;dsimp only at j k n g l;refine ih (wK2 _) g (d hg ⟨⟨b,i,rfl,hb,hi⟩,j,hp,xJ2 k g,?_⟩) (by rw[xD2];simp;omega);show(i:Int)-(b:Int)+Ut acc<=_
  rw[l];simp[Ut];omega
 |start h1 h2 h3 h4 ih=>
  exact ih (wK2 _) (by omega) (d hg (pl hb (by omega) (by decide) (by decide))) (by rw[xD2];simp;omega)
 |rep h1 h2 h3 h4 h5 ih=>
  have q:=(f _ h1).2.resolve_left h4;exact ih (wK2 _) (by omega) (d hg (pl (by omega) (by omega) (by omega) (by omega))) (by rw[xD2];simp;omega)
 |skip h1 h2 h3 h4 h5 ih=>exact ih (by omega) (by omega) hg hl
def kE:aA bE->aA Int
 |[]=>[]
 |[_]=>[]
 |x::y::r=>vY x.span.first x.span.end'++kE (y::r)
def iD (m:aA (Int×Bool)) (ks:aA Int):aA (Int×Bool):=ks.foldl (fun m k=>kM m k true) m
def fK (G:aA aJ):aA Int:=G.flatMap fun g=>kE g.endings
theorem Rl (x:aJ) (r:aA aJ):fK (x::r)=kE x.endings++fK r:=by simp[fK]
theorem Nu (m:aA (Int×Bool)) (a b:aA Int):iD m (a++b)=iD (iD m a) b:=by simp[iD]
theorem fT1 {S E:Type} {body:Int×S->aB ((Int×S)⊕E)} {a b:Nat} (f:S->Int->S) (fin:S->E) (hb:b<100000) (e:a<100000) (s0:S)
  (h1:∀(k:Nat) (st:S),k<b->body ((k:Int),st)=some (.inl (((k+1:Nat):Int),f st (k:Int)))) (h2:∀(k:Nat) (st:S),¬k<b->body ((k:Int),st)=some (.inr (fin st))):
  aZ body bN ((a:Int),s0)=some (fin ((vY ((a:Nat):Int) ((b:Nat):Int)).foldl f s0)):=by
 refine Ok.eq (cM (fun(q:Int×S)=>∃k:Nat,q.1=(k:Int)/\(vY ((k:Nat):Int) ((b:Nat):Int)).foldl f q.2=(vY ((a:Nat):Int) ((b:Nat):Int)).foldl f s0) (fun q=>b-q.1.toNat) (fun q d=>?_) bN _ ⟨a,rfl,rfl⟩ (by simp only[bN];omega));obtain⟨g,st⟩:=q;obtain⟨k,c,g2⟩:=d;dsimp only at c g2;subst c;by_cases hk:k<b;rw[h1 k st hk];rw[oN (by omega),List.foldl_cons]at g2;exact .mk ⟨⟨k+1,rfl,g2⟩,by dsimp only;omega⟩;rw[h2 k st hk];rw[vZ (by omega)]at g2;exact .mk (by rw[<-g2];rfl)
theorem Uu {A:Type} {l:aA A} {i:Nat} {x:A} (h:l[i]? =some x):l.drop i=x::l.drop (i+1):=by
 obtain⟨hi,rfl⟩:=wI2.1 h;exact List.drop_eq_getElem_cons hi
theorem nX1 (x:bE) (r:aA bE):kE (x::r)=if r=[]then[]else vY x.span.first x.span.end'++kE r:=by
 cases r with
 |nil=>rfl
 |cons y r=>rfl
theorem Dp {A:Type} {l:aA A} {i:Nat}:l.drop i=[]↔l.length<=i:=List.drop_eq_nil_iff
theorem fU1 {n:Nat} (F:n<100000) {G:aA aJ} (z:∀x∈G,GG n x) (hl:G.length<=n):Ug G=some (iD [] (fK G)):=by
 refine Ok.eq ?_;unfold Ug;refine Ob (P:=fun r=>r=iD [] (fK G)) (bO (l:=G) (fun(q:Int×aA (Int×Bool))=>q.1) (fun i q=>iD q.2 (fK (G.drop i))=iD [] (fK G)) (by omega) rfl rfl (fun i x q C A hi o c hg hw=>?_) (fun q hi c=>?_)) fun r hr=>.mk hr;obtain⟨D,m⟩:=q;dsimp only at hi o c hg hw ⊢;have d:=z x A;rw[wO2 (by simpa using o),hg];simp only[wJ2];refine Ob (P:=fun r=>r=iD m (kE x.endings)) (bO (l:=x.endings) (fun(q:Int×aA (Int×Bool))=>q.1) (fun j q=>iD q.2 (kE (x.endings.drop j))=iD m (kE x.endings)) (by have:=d.l;omega) rfl rfl (fun j y q hy v t h a g p=>?_) (fun q t a=>?_)) fun r hr=>?_;obtain⟨E,s⟩:=q;dsimp only at t h a g p ⊢;have w:j<x.endings.length:=(wI2.1 hy).1;have:=d.l;rw[wO2 (by simpa using h),g];simp only[wJ2];obtain⟨⟨f,e,hs,h1,h2⟩,_⟩:=d.e y v;rw[Uu hy,nX1]at a;rw[p,hs];dsimp only;by_cases u:j+1<x.endings.length;rw[wN2 (by rw[Dp];omega),hs,Nu]at a
 rw[fT1 (b:=e) (fun m k=>kM m k true) id (by omega) (by omega) s (fun k st hk=>by
  rw[wO2 (by simp;omega),nJ (by omega)]) (fun k st hk=>by rw[wN2 (by simp;omega)];rfl)]
 exact .mk ⟨rfl,a⟩;rw[wO2 (by rw[Dp];omega)]at a;refine Ob (P:=fun r=>r=s) (cM (Q:=fun r=>r=s) (fun(q:Int×aA (Int×Bool))=>q=((f:Int),s)) (fun _=>0) (fun q B=>?_) bN _ rfl (by decide)) fun r hr=>?_;subst B;dsimp only;rw[wN2 (by simp;omega)];exact .mk rfl;subst hr;refine .mk ⟨rfl,?_⟩;dsimp only;rw[Dp.2 (by omega)];exact a;obtain⟨E,s⟩:=q;dsimp only at t a ⊢;rw[t,wN2 (by simp)];rw[List.drop_length]at a;exact .mk a;subst hr;refine .mk ⟨hw,?_⟩;dsimp only;rw[Uu C]at c;rw[<-c,Rl,Nu];obtain⟨D,m⟩:=q;dsimp only at hi c ⊢;rw[hi,wN2 (by simp)];rw[List.drop_length]at c;exact .mk c
def jH (SK:aA (Int×Bool)) (n:Nat) (f:Int):aA Int:=(vY f (n:Int)).filter fun k=> !(fJ SK k false)
end Go.P
