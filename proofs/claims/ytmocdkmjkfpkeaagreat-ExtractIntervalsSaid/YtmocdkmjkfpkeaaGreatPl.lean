import Derived.Test.YtmocdkmjkfpkeaaGreatGa
/- A text of the proof. -/
set_option linter.all false
namespace Go.P
def Ok {α:Type} (x:aB α) (Q:α->Prop):Prop:=∃v,x=some v/\Q v
section
variable {α β:Type} {Q:α->Prop}
theorem Ok.mk {v:α} (h:Q v):Ok (some v) Q:=⟨v,rfl,h⟩
theorem bH {α:Type} {v:α} {Q:α->Prop} (h:Q v:=by exact trivial):Ok (some v) Q:=⟨v,rfl,h⟩
theorem Ob {P:β->Prop} {x:aB β} {k:β->aB α} (h:Ok x P) (hk:∀v,P v->Ok (k v) Q):Ok (x.bind k) Q:=by
 obtain⟨v,rfl,hv⟩:=h;exact hk v hv
theorem Oi {c:Prop} [Decidable c] {a b:aB α} (h1:c->Ok a Q) (h2:¬c->Ok b Q):Ok (if c then a else b) Q:=by
 split;rename_i h;exact h1 h;rename_i h;exact h2 h
theorem oJ {α:Type} {c:Prop} [Decidable c] {v:α} {y:aB α} {Q:α->Prop} (h:¬c->Ok y Q) (q:Q v:=by exact trivial):Ok (if c then some v else y) Q:=Oi (fun _=>.mk q) h
theorem Ok.mono {P:α->Prop} {x:aB α} (h:Ok x P) (a:∀v,P v->Q v):Ok x Q:=by
 obtain⟨v,h1,h2⟩:=h;exact⟨v,h1,a v h2⟩
theorem Ok.ex {x:aB α} (h:Ok x Q):∃v,x=some v:=by
 obtain⟨v,h1,_⟩:=h;exact⟨v,h1⟩
theorem fZ {S E:Type} {body:S->aB (S⊕E)} {Q:E->Prop} (I:S->Prop) (μ:S->Nat)
  (h:∀s,I s->Ok (body s) (fun r=>match r with|.inl s'=>I s'/\μ s'<μ s|.inr e=>Q e)):∀(n:Nat) (s:S),I s->μ s<n->Ok (aX body n s) Q
 |0,s,_,hn=>by omega
 |n+1,s,hi,hn=>by
  obtain⟨r,h1,h2⟩:=h s hi
  simp only[aX,h1,nT2]
  cases r with
  |inl s'=>exact fZ I μ h n s' h2.1 (by have:=h2.2;omega)
  |inr e=>exact .mk h2
end
theorem bM {n:Int} (h1: -9223372036854775808<=n) (h2:n<9223372036854775808):bD n=n:=by
 have e:bD n=if n%18446744073709551616>=9223372036854775808 then n%18446744073709551616-18446744073709551616 else n%18446744073709551616:=by
  unfold bD IntKind.wrap;rw[show((2:Int)^IntKind.bits .i64)=18446744073709551616 from rfl,show((2:Int)^(IntKind.bits .i64-1))=9223372036854775808 from rfl];simp[IntKind.signed]
 rw[e];split<;>omega
theorem cK {A:Type} {l:aA A} {i:Int} {Q:A->Prop} (h0:0<=i) (h1:i<(l.length:Int)) (h:∀x,x∈l->l[i.toNat]? =some x->Q x):Ok (aV l i) Q:=by
 unfold aV;rw[nQ2 h0];have hi:i.toNat<l.length:=by omega
 exact⟨l[i.toNat],by simp[hi],h _ (qI2 hi) (by simp[hi])⟩
end Go.P
set_option maxRecDepth 100000
namespace Go.P
def Na {A:Type} (l:aA A) (g:A->aB Bool):aB Int:=
 (aX (E:=Int⊕Unit) (fun(a:Int)=>
  if(decide (a<(l.length:Int)))then
   (aV l a).bind fun d=>
   (g d).bind fun b=>
   if b then
    some (.inr (.inl a))
   else
   some (.inl (bD (a+1)))
  else
  some (.inr (.inr ()))) bK 0).bind fun c=>
 match c with
 |.inl x_7=>
  some x_7
 |.inr _=>
  some (-1)
theorem Qh {A:Type} {l:aA A} {g:A->aB Bool} (hl:l.length<9223372036854775808) (hg:∀x∈l,∃b,g x=some b):Ok (Na l g) (fun v=>(v= -1/\∀x∈l,g x=some false)\/(0<=v/\v<l.length/\∃x,l[v.toNat]? =some x/\g x=some true)):=by
 unfold Na
 refine Ob (P:=fun r=>match r with|.inl v=>0<=v/\v<l.length/\∃x,l[v.toNat]? =some x/\g x=some true|.inr _=>∀x∈l,g x=some false)
  (fZ (S:=Int) (fun i=>0<=i/\i<=l.length/\∀j,j<i.toNat->∀x,l[j]? =some x->g x=some false) (fun i=>l.length-i.toNat) (fun i hi=>?_) bK 0 ⟨by omega,by omega,fun j c=>by simp at c⟩ (by simp[bK];omega)) fun r hr=>?_
 obtain⟨h0,h1,h2⟩:=hi;refine Oi (fun hc=>?_) (fun hc=>?_);simp only[nR2]at hc;refine Ob (cK (Q:=fun x=>x∈l/\l[i.toNat]? =some x) h0 hc (fun x a b=>⟨a,b⟩)) fun x d=>?_;obtain⟨b,hb⟩:=hg x d.1;rw[hb];cases b with
 |true=>exact .mk ⟨h0,hc,x,d.2,hb⟩
 |false=>
  rw[nT2,bM (by omega) (by omega)];refine .mk ⟨⟨by omega,by omega,fun j c y hy=>?_⟩,by omega⟩;by_cases e:j=i.toNat
  subst e;rw[d.2]at hy;cases hy;exact hb;exact h2 j (by omega) y hy
 simp only[nR2]at hc;refine .mk (fun x d=>?_);obtain⟨j,c⟩:=oF2.1 d;have:=(nK2.1 c).1;exact h2 j (by omega) x c;cases r with
 |inl v=>exact .mk (.inr hr)
 |inr u=>exact .mk (.inl ⟨rfl,hr⟩)
end Go.P
namespace Go.P
structure YY.b (x:YY):Prop where
 mR:x.mR.size<9223372036854775808
structure YE.b (x:YE):Prop where
 eR:x.eR.length<9223372036854775808
 fS:x.fS.length<9223372036854775808
 dA:x.dA.length<9223372036854775808
 uJ:∀y∈x.dA,y.b
structure YO.b (x:YO):Prop where
 aU:x.aU.length<9223372036854775808
 fH:∀y∈x.aU,y.b
 gN:x.gN.length<9223372036854775808
structure YW.b (x:YW):Prop where
 jT:x.jT.length<9223372036854775808
 aO:x.aO.length<9223372036854775808
 fI:∀y∈x.aO,y.b
structure YM.b (x:YM):Prop where
 gU:x.gU.size<9223372036854775808
 jW:x.jW.length<9223372036854775808
 aS:x.aS.length<9223372036854775808
 gZ:∀y∈x.aS,y.b
structure YJ.b (x:YJ):Prop where
 xI:x.xI.size<9223372036854775808
 dR:x.dR.length<9223372036854775808
structure Y0.b (x:Y0):Prop where
 nI:x.nI.size<9223372036854775808
 bE:x.bE.length<9223372036854775808
 mQ:∀y∈x.bE,y.b
 aE:x.aE.length<9223372036854775808
 cH:∀y∈x.aE,y.b
 bF:x.bF.length<9223372036854775808
 jU:x.jU.length<9223372036854775808
structure YY.sm (x:YY):Prop where
 mR:x.mR.size<=300
structure YE.sm (x:YE):Prop where
 eR:x.eR.length<=12
 fS:x.fS.length<=12
 dA:x.dA.length<=12
 uJ:∀y∈x.dA,y.sm
structure YO.sm (x:YO):Prop where
 aU:x.aU.length<=20
 fH:∀y∈x.aU,y.sm
 gN:x.gN.length<=6
structure YW.sm (x:YW):Prop where
 jT:x.jT.length<=5
 aO:x.aO.length<=3
 fI:∀y∈x.aO,y.sm
structure YM.sm (x:YM):Prop where
 gU:x.gU.size<=300
 jW:x.jW.length<=5
 aS:x.aS.length<=5
 gZ:∀y∈x.aS,y.sm
structure YJ.sm (x:YJ):Prop where
 xI:x.xI.size<=300
 dR:x.dR.length<=5
structure Y0.sm (x:Y0):Prop where
 nI:x.nI.size<=300
 bE:x.bE.length<=4
 mQ:∀y∈x.bE,y.sm
 aE:x.aE.length<=12
 cH:∀y∈x.aE,y.sm
 bF:x.bF.length<=10
 jU:x.jU.length<=5
end Go.P
namespace Go.P
theorem qO {A E:Type} {l:aA A} {body:Int->aB (Int⊕E)} {Q:E->Prop} (P:A->Prop) (hl:l.length<9223372036854775808)
  (h:∀(i:Int) (x:A),0<=i->i<(l.length:Int)->x∈l->aV l i=some x->bD (i+1)=i+1->Ok (body i) (fun r=>match r with|.inl j=>j=i+1/\P x|.inr e=>Q e))
  (a:∀i:Int,i=(l.length:Int)->(∀x∈l,P x)->Ok (body i) (fun r=>match r with|.inl j=>False|.inr e=>Q e)):Ok (aX body bK 0) Q:=by
 have hl:l.length<9223372036854775808:=hl;refine fZ (fun(i:Int)=>0<=i/\i<=l.length/\∀j,j<i.toNat->∀x,l[j]? =some x->P x) (fun i=>l.length-i.toNat) (fun i hi=>?_) bK 0 ⟨by omega,by omega,fun j b=>by simp at b⟩ (by simp[bK];omega);obtain⟨h0,h1,h2⟩:=hi;by_cases c:i<(l.length:Int);have hi:i.toNat<l.length:=by omega
 have hg:aV l i=some l[i.toNat]:=by unfold aV;rw[nQ2 h0];simp[hi]
 refine(h i l[i.toNat] h0 c (qI2 hi) hg (bM (by omega) (by omega))).mono fun r hr=>?_;cases r with
 |inl j=>
  obtain⟨rfl,hp⟩:=hr;refine⟨⟨by omega,by omega,fun j b y hy=>?_⟩,by omega⟩;by_cases e:j=i.toNat
  subst e;rw[oT2 hi]at hy;cases hy;exact hp;exact h2 j (by omega) y hy
 |inr e=>exact hr
 refine(a i (by omega) (fun x d=>?_)).mono fun r hr=>?_;obtain⟨j,b⟩:=oF2.1 d;have:=(nK2.1 b).1;exact h2 j (by omega) x b;cases r with
 |inl j=>exact hr.elim
 |inr e=>exact hr
theorem U33 {v:YO} (hv:v.b):Ok (F17 v) (fun r=>r=true->v.sm):=by
 unfold F17;refine Ob (P:=fun r=>match r with|.inl _=>True|.inr _=>∀e∈v.aU,e.sm) (qO (fun e=>e.sm) hv.aU (fun i x h0 h1 c hg hw=>?_) (fun i hi hp=>?_)) fun r hr=>?_;simp only[h1,pJ2,oK2,hg,nT2];refine Oi (fun hc=>.mk trivial) (fun hc=>?_);have a:=hv.fH x c;simp only[oE2,nR2,qG2]at hc;refine Ob (P:=fun r=>match r with|.inl _=>True|.inr _=>∀e∈x.dA,e.sm) (qO (fun e=>e.sm) a.dA (fun k y j d hy f g=>?_) (fun k hk hp=>?_)) fun r hr=>?_;simp only[d,pJ2,oK2,f,nT2];refine Oi (fun hd=>.mk trivial) (fun hd=>?_);rw[g];exact .mk ⟨rfl,⟨by simp at hd;omega⟩⟩;simp only[hk,Int.lt_irrefl,qB2,nV2,oQ2];exact .mk hp;cases r with
 |inl u=>exact .mk trivial
 |inr u=>simp only;rw[hw];exact .mk ⟨rfl,⟨by omega,by omega,by omega,hr⟩⟩
 simp only[hi,Int.lt_irrefl,qB2,nV2,oQ2];exact .mk hp;cases r with
 |inl u=>exact .mk (fun h=>by cases h)
 |inr u=>
  refine .mk (fun h=>?_);simp only[nJ2,nR2]at h;exact⟨by omega,hr,by omega⟩
end Go.P
namespace Go.P
theorem bX {A S E:Type} {l:aA A} {body:S->aB (S⊕E)} {Q:E->Prop} {s0:S} (a:S->Int) (I:Nat->S->Prop) (hl:l.length<9223372036854775808) (h0:a s0=0) (f:I 0 s0)
  (h:∀(i:Nat) (x:A) (s:S),l[i]? =some x->x∈l->a s=(i:Int)->a s<(l.length:Int)->I i s->aV l (a s)=some x->bD (a s+1)=(i:Int)+1->Ok (body s) (fun r=>match r with|.inl s'=>a s'=(i:Int)+1/\I (i+1) s'|.inr e=>Q e))
  (b:∀s,a s=(l.length:Int)->I l.length s->Ok (body s) (fun r=>match r with|.inl _=>False|.inr e=>Q e)):Ok (aX body bK s0) Q:=by
 have hl:l.length<9223372036854775808:=hl;refine fZ (fun s=>0<=a s/\a s<=l.length/\I (a s).toNat s) (fun s=>l.length-(a s).toNat) (fun s hi=>?_) bK s0 ⟨by omega,by omega,by rw[h0];exact f⟩ (by simp[bK];omega);obtain⟨g,m,d⟩:=hi;by_cases c:a s<(l.length:Int);have hi:(a s).toNat<l.length:=by omega
 have hc:(((a s).toNat:Nat):Int)=a s:=by omega
 have hg:aV l (a s)=some l[(a s).toNat]:=by unfold aV;rw[nQ2 g];simp[hi]
 refine(h (a s).toNat l[(a s).toNat] s (by simp[hi]) (qI2 hi) hc.symm c d hg (by rw[bM (by omega) (by omega)];omega)).mono fun r hr=>?_;cases r with
 |inl s'=>
  obtain⟨k,e2⟩:=hr;refine⟨⟨by omega,by omega,?_⟩,by omega⟩;rw[show(a s').toNat=(a s).toNat+1 by omega];exact e2
 |inr e=>exact hr
 refine(b s (by omega) ?_).mono fun r hr=>?_;rw[show(a s).toNat=l.length by omega]at d;exact d;cases r with
 |inl j=>exact hr.elim
 |inr e=>exact hr
theorem gA {A:Type} {g:Bool} {l:aA A} {x:A} (h:l.length<1073741824) {Q:aA A->Prop} (a:Q (l++[x])):Ok (qQ g l [x]) Q:=by
 unfold qQ;have e:Sim.maxRoom=1073741824:=rfl;rw[nQ2 ⟨by rw[e,oS2,nZ2];omega,fun _=>nM2 _⟩];exact .mk a
theorem dN2 {w:Bool} {id:YZ} {l:aA YV} {s:Y0} {r:Int} (h:l.length<1000000):Ok (jS w id l s r) (fun v=>v.length<=l.length+1):=by
 unfold jS;refine Ob (P:=fun v=>v.length<=l.length+1) (Oi (fun _=>Ob (gA (Q:=fun v=>v.length<=l.length+1) (by omega) (by simp)) fun v hv=>.mk hv) (fun _=>.mk (by omega))) fun v hv=>.mk hv
theorem lO1 (n a b:Int):Bp n a b=some (decide (n>=a)&&decide (n<=b)):=rfl
theorem dO2 (i:YL):Kq i=some (if((((decide (i.cW<(-77)))||(decide (i.cW>77)))||(decide (i.bB<(-140))))||(decide (i.bB>140)))then 2 else 0):=by
 unfold Kq;split<;>rfl
theorem tH1 {s:ByteArray} (h:s.size<9223372036854775808):Ok (F59 s) (fun _=>True):=by
 unfold F59;refine Ob (P:=fun _=>True) (Oi (fun _=>?_) (fun _=>.mk trivial)) fun v hv=>.mk hv
 have:Ok (Sl s.data.toList) (fun _=>True):=by
  unfold Sl;refine Ob (Qh (l:=s.data.toList) (g:=fun b=>Ya (b.toNat:Int)) (by rw[rE2];exact h) (fun x _=>⟨_,rfl⟩)) fun v hv=>.mk trivial
 exact Ob this fun v hv=>.mk trivial
end Go.P
namespace Go.P
section
variable {α β:Type} {Q:α->Prop}
theorem Ok.bindE {P:β->Prop} {x:aB β} {k:β->aB α} (h:Ok x P) (hk:∀v,x=some v->P v->Ok (k v) Q):Ok (x.bind k) Q:=by
 obtain⟨v,rfl,hv⟩:=h;exact hk v rfl hv
theorem Ok.of {x:aB α} (h:Ok x Q) {v:α} (hv:x=some v):Q v:=by
 obtain⟨w,h1,h2⟩:=h;rw[h1]at hv;cases hv;exact h2
theorem uH {k:IntKind} {a b:Int} (h:b≠0):Ok (Mp k a b) (fun v=>v=k.wrap (a.tdiv b)):=by
 unfold Mp;rw[nS2 h];exact .mk rfl
theorem Gd {k:IntKind} {a b:Int} (h:b≠0):Ok (Xq k a b) (fun v=>v=a.tmod b):=by
 unfold Xq;rw[nS2 h];exact .mk rfl
theorem uI {k:IntKind} {a b:Int} (h:0<=b):Ok (Mo k a b) (fun v=>v=a.fdiv (2^min b.toNat k.bits)):=by
 unfold Mo;rw[nS2 (by omega)];exact .mk rfl
theorem Qi {k:IntKind} {a b:Int} (h:0<=b):Ok (cX1 k a b) (fun _=>True):=by
 unfold cX1;rw[nS2 (by omega)];exact .mk trivial
end
section
variable {A:Type} {l:List A}
theorem kG {i:Int} (h0:0<=i) (h1:i<(l.length:Int)):Ok (fK l i) (fun v=>v=i.toNat/\v<l.length):=by
 unfold fK mW;rw[nQ2 ⟨h0,h1⟩];exact .mk ⟨rfl,by omega⟩
theorem mG {j:Nat} (h:j<l.length):Ok (gQ l j) (fun x=>l[j]? =some x/\x∈l):=by
 unfold gQ;rw[oT2 h];exact .mk ⟨rfl,qI2 h⟩
theorem Qj {j:Nat} {f:A->A} (h:j<l.length):Ok (Fc l j f) (fun m=>m.length=l.length):=by
 unfold Fc;rw[oT2 h];exact .mk (by simp)
theorem pX {n c:Int} {z:A} (h0:0<=n) (h1:n<=c) (h2:c<=1073741824):Ok (rB n c z) (fun v=>v=List.replicate n.toNat z):=by
 unfold rB;rw[nQ2 ⟨h0,h1,h2⟩];exact .mk rfl
theorem Dp {a b:Int} (h0:0<=a) (h1:a<=b) (h2:b<=(l.length:Int)):Ok (rX l a b) (fun v=>v.length<=l.length/\∀x∈v,x∈l):=by
 unfold rX;rw[nQ2 ⟨h0,h1,h2⟩];exact .mk ⟨by simp;omega,fun x c=>List.mem_of_mem_drop (List.mem_of_mem_take c)⟩
theorem Tb {h:Int} (_:0<l.length) (h1:0<=h) (h2:h<=(l.length:Int)):Ok (pU l h) (fun v=>v.length=h.toNat/\∀x∈v,x∈l):=by
 unfold pU;rw[nQ2 ⟨h1,h2⟩];exact .mk ⟨by simp;omega,fun x a=>List.mem_of_mem_take a⟩
theorem gB {i:Int} {x:A} (h:aV l i=some x):0<=i/\i<(l.length:Int)/\x∈l/\l[i.toNat]? =some x:=by
 unfold aV at h;split at h;obtain⟨hi,_⟩:=nK2.1 h;exact⟨by omega,by omega,nU2 h,h⟩;cases h
end
theorem vY {s:ByteArray} {i:Int} (h0:0<=i) (h1:i<(s.size:Int)):Ok (pI s i) (fun v=>0<=v/\v<=255):=by
 unfold pI;rw[nQ2 h0];have h:i.toNat<s.data.toList.length:=by rw[rE2];show i.toNat<s.size;omega
 rw[oT2 h];have:=(s.data.toList[i.toNat]).toNat_lt;exact .mk ⟨by dsimp only;omega,by dsimp only;omega⟩
theorem vZ {A:Type} {l:aA A} (h:l.length<=1073741824):rZ l=some l:=by
 unfold rZ;rw[Nat.ble_eq_true_of_le h];rfl
theorem nm:(∀a b:Bool,((a||b)=true)=(a=true\/b=true))/\(∀a b:Bool,((a&&b)=true)=(a=true/\b=true))/\(∀b:Bool,((!b)=true)=(b=false))/\(∀(p:Prop) [Decidable p],(decide p=true)=p)/\
  (∀(p:Prop) [Decidable p],(decide p=false)=¬p)/\(∀p q:Prop,(¬(p\/q))=(¬p/\¬q))/\(∀p q:Prop,(¬(p/\q))=(p->¬q))/\(∀b:Bool,(¬b=true)=(b=false))/\(∀a b:Int,((a !=b)=true)=¬a=b)/\
  (∀a b:Int,((a==b)=true)=(a=b))/\(∀p:Prop,(¬¬p)=p):=
 ⟨fun a b=>by simp,fun a b=>by simp,fun b=>by simp,fun p _=>by simp,fun p _=>by simp,fun p q=>by simp,fun p q=>by simp,fun b=>by simp,fun a b=>by simp,fun a b=>by simp,fun p=>by simp⟩
theorem nl {A:Type}:(∀(a:A) (l:aA A),(a::l).length=l.length+1)/\([]:aA A).length=0:=⟨fun _ _=>rfl,rfl⟩
theorem nt:(∀[Decidable True],decide True=true)/\(∀(α:Type) [Decidable True] (a b:α),(if True then a else b)=a)/\∀(α β:Type) (a:α) (f:α->aB β),(some a).bind f=f a:=⟨pJ2 _,fun _ _ _ _=>oK2 ..,fun _ _ _ _=>rfl⟩
theorem nf:(∀a:Int,(a<a)=False)/\(∀[Decidable False],decide False=false)/\((false=true)=False)/\∀(α:Type) [Decidable False] (a b:α),(if False then a else b)=b:=⟨fun a=>by simp,qB2 _,by simp,fun _ _ _ _=>oQ2 ..⟩
theorem cA {α β:Type} {Q:α->Prop} {x:aB β} {k:β->aB α} (h:Ok x fun _=>True) (hk:∀v,Ok (k v) Q):Ok (x.bind k) Q:=Ob h fun v _=>hk v
theorem pY {A S E β:Type} {l:aA A} {body:S->aB (S⊕E)} {s0:S} {k:E->aB β} {Q:β->Prop} (a:S->Int) (hl:l.length<9223372036854775808) (h0:a s0=0)
  (h:∀(i:Nat) (x:A) (s:S),x∈l->a s=(i:Int)->a s<(l.length:Int)->aV l (a s)=some x->bD (a s+1)=(i:Int)+1->Ok (body s) (fun r=>match r with|.inl s'=>a s'=(i:Int)+1|.inr _=>True))
  (b:∀s,a s=(l.length:Int)->Ok (body s) (fun r=>match r with|.inl _=>False|.inr _=>True)) (hk:∀e,Ok (k e) Q):Ok ((aX body bK s0).bind k) Q:=
 cA (bX (l:=l) a (fun _ _=>True) hl h0 trivial (fun i x s _ d hi c _ hg hw=>(h i x s d hi c hg hw).mono fun r hr=>by cases r with|inl s'=>exact⟨hr,trivial⟩|inr e=>trivial) (fun s hi _=>b s hi)) hk
theorem Zu {s:ByteArray} {n:Nat} (h:s.size<=n):s.data.toList.length<=n:=by rw[rE2];exact h
theorem Zv (n:Int): -9223372036854775808<=bD n/\bD n<=9223372036854775807:=by
 have e:bD n=if n%18446744073709551616>=9223372036854775808 then n%18446744073709551616-18446744073709551616 else n%18446744073709551616:=by
  unfold bD IntKind.wrap;rw[show((2:Int)^IntKind.bits .i64)=18446744073709551616 from rfl,show((2:Int)^(IntKind.bits .i64-1))=9223372036854775808 from rfl];simp[IntKind.signed]
 rw[e];split<;>omega
theorem kH {S E:Type} {body:S->aB (S⊕E)} {Q:E->Prop} {s0:S} (d:S->Int) (N:Int) (I:S->Prop) (g:N<=9223372036854775807) (h0: -1000<=d s0) (f:I s0)
  (h:∀s,I s->d s0<=d s->(d s<N->bD (d s+1)=d s+1)->Ok (body s) (fun r=>match r with|.inl s'=>d s<N/\d s'=d s+1/\I s'|.inr e=>Q e)):Ok (aX body bK s0) Q:=by
 refine fZ (fun s=>I s/\d s0<=d s) (fun s=>(N-d s).toNat) (fun s hs=>?_) bK s0 ⟨f,qJ2 _⟩ (by simp only[bK];omega);refine(h s hs.1 hs.2 (fun hc=>bM (by omega) (by omega))).mono fun r hr=>?_;cases r with
 |inl s'=>obtain⟨a,b,c⟩:=hr;exact⟨⟨c,by omega⟩,by omega⟩
 |inr e=>exact hr
theorem Tc {w:Bool} {id:YZ} {l:aA YV} {s:Y0} {r:Int} (h:l.length<1000000):Ok (jS w id l s r) (fun v=>(w=true->v.length=l.length+1)/\(w=false->v.length=l.length)):=by
 unfold jS;refine Ob (P:=fun v=>(w=true->v.length=l.length+1)/\(w=false->v.length=l.length)) (Oi (fun h=>Ob (gA (Q:=fun v=>v.length=l.length+1) (by omega) (by simp)) fun v hv=>.mk ⟨fun _=>hv,fun h2=>by rw[h]at h2;cases h2⟩) (fun h=>.mk ⟨fun h2=>absurd h2 h,fun _=>rfl⟩)) fun v hv=>.mk hv
theorem tI1 (n:Int):0<=IntKind.wrap .u8 n/\IntKind.wrap .u8 n<256:=by
 unfold IntKind.wrap;rw[show((2:Int)^IntKind.bits .u8)=256 from rfl];simp[IntKind.signed];omega
theorem tJ1 {l:aA YV} {s:Y0} {r:Int} (hs:s.sm) (h0:s.aE.length=0) (h:l.length<900000):Ok (Kc l s r) (fun v=>0<v.length):=by
 unfold Kc;have hp:=hs.bE;refine Ob (P:=fun v=>v.length<=l.length+4) (bX (l:=s.bE) (fun q=>q.1) (fun i q=>q.2.length<=l.length+i) (by omega) rfl (by simp) (fun i x q k f hi e d hg hw=>?_) (fun q hi d=>?_)) fun v1 h1=>?_;obtain⟨x1,j⟩:=q;have g:=hs.mQ x f;have hn:=g.xI;simp only at hi e d hg hw;simp only[e,pJ2,oK2,hg,nT2,lO1,dO2];refine Ob (tH1 (by omega)) fun a _=>?_;refine Ob (P:=fun _=>True) (by split<;>exact .mk trivial) fun b _=>?_;refine Ob (P:=fun _=>True) (by split<;>exact .mk trivial) fun c _=>?_;refine Ob (dN2 (by omega)) fun v hv=>.mk ⟨hw,by dsimp only;omega⟩;obtain⟨x1,j⟩:=q;simp only at hi d;simp only[hi,Int.lt_irrefl,qB2,nV2,oQ2];exact .mk (by omega);refine Ob (P:=fun v=>v.length<=l.length+4) (bX (l:=s.aE) (fun q=>q.1) (fun i q=>q.2.length<=l.length+4) (by omega) rfl h1 (fun i x q k f hi e d hg hw=>by omega) (fun q hi d=>?_)) fun v1 h1=>?_;obtain⟨x1,j⟩:=q;simp only at hi d;simp only[hi,Int.lt_irrefl,qB2,nV2,oQ2];exact .mk d;have m:=hs.nI;refine Ob (tH1 (by omega)) fun a _=>?_;simp only[lO1,nT2];refine Ob (P:=fun _=>True) (by split<;>exact .mk trivial) fun b _=>?_;refine Ob (P:=fun r=>r=true) (Oi (fun _=>.mk rfl) (fun _=>.mk (by simp[h0]))) fun c hc=>?_;subst hc;simp only[Bool.true_or];refine Ob (Tc (by omega)) fun v hv=>.mk (by have:=hv.1 rfl;omega)
def YU.ok (n:Int) (t:YU):Prop:=1<=t.gC/\t.gC<=n/\0<=t.iV/\t.iV+t.gC<=n/\1<=t.fO/\t.fO<=32/\1<=t.gO/\t.gO<=32
def Y0.pl (s:Y0) (m c v:Int):Prop:=∃x y z,aV s.aE m=some x/\aV x.aS c=some y/\aV y.aO v=some z
theorem og {A α V:Type} (l:aA A) (v:aA V) (K k:Nat) {body:Int×aA V->aB ((Int×aA V)⊕aA V)} {m:aA V->aB α} {Q:α->Prop} (hl:l.length<9223372036854775808)
  (h:∀(i:Nat) (x:A) (s:Int×aA V),l[i]? =some x->x∈l->s.1=(i:Int)->s.1<(l.length:Int)->(v.length<=s.2.length/\s.2.length<=v.length+i*k)->aV l s.1=some x->bD (s.1+1)=(i:Int)+1->Ok (body s) (fun r=>match r with|.inl s'=>s'.1=(i:Int)+1/\v.length<=s'.2.length/\s'.2.length<=v.length+(i+1)*k|.inr e=>v.length<=e.length/\e.length<=v.length+K))
  (j:∀s,s.1=(l.length:Int)->(v.length<=s.2.length/\s.2.length<=v.length+l.length*k)->Ok (body s) (fun r=>match r with|.inl _=>False|.inr e=>v.length<=e.length/\e.length<=v.length+K))
  (hk:∀r,(v.length<=r.length/\r.length<=v.length+K)->Ok (m r) Q):Ok ((aX body bK (0,v)).bind m) Q:=
 Ob (P:=fun r=>v.length<=r.length/\r.length<=v.length+K) (bX (l:=l) (fun q=>q.1) (fun i q=>v.length<=q.2.length/\q.2.length<=v.length+i*k) hl rfl ⟨nM2 _,by dsimp only;omega⟩ (fun i x s a b c d e f g=>(h i x s a b c d e f g).mono fun r hr=>by cases r<;>exact hr) (fun s a b=>(j s a b).mono fun r hr=>by cases r<;>exact hr)) hk
end Go.P
set_option maxHeartbeats 1000000
namespace Go.P
theorem U34 {v:YO} (hv:v.b):Ok (F18 v) (fun _=>True):=by
 unfold F18;refine Ob (P:=fun _=>True) (bX (l:=v.aU) (fun q=>q.2) (fun _ _=>True) hv.aU rfl trivial (fun i e q c a hi hl _ hg hw=>?_) (fun q hi _=>?_)) fun v _=>.mk trivial;obtain⟨n,k⟩:=q;dsimp only at hi hl hg hw;simp only[hl,hg,pJ2,oK2,nT2];refine Ob (P:=fun _=>True) (bX (l:=e.dA) (fun q=>q.2) (fun _ _=>True) (hv.fH e a).dA rfl trivial (fun i e q c a hi hl _ hg hw=>?_) (fun q hi _=>?_)) fun x _=>.mk ⟨hw,trivial⟩;obtain⟨n,k⟩:=q;dsimp only at hi hl hg hw;simp only[hl,hg,pJ2,oK2,nT2];exact .mk ⟨hw,trivial⟩;obtain⟨n,k⟩:=q;dsimp only at hi;simp only[hi,Int.lt_irrefl,qB2,nV2,oQ2];exact .mk trivial;obtain⟨n,k⟩:=q;dsimp only at hi;simp only[hi,Int.lt_irrefl,qB2,nV2,oQ2];exact .mk trivial
theorem U13 {s:Y0} (hb:s.b):Ok (F5 s) (fun r=>r=true->s.sm):=by
 unfold F5;refine Ob (P:=fun r=>match r with|.inl _=>True|.inr _=>∀p∈s.bE,p.sm) (qO (l:=s.bE) (fun p=>p.sm) hb.bE (fun i p h0 h1 d hg hw=>?_) (fun i hi o=>?_)) fun r hr=>?_;simp only[h1,hg,hw,pJ2,oK2,nT2];refine Ob (P:=fun b=>b=true\/p.sm) (Oi (fun _=>.mk (.inl rfl)) (fun hc=>.mk ?_)) fun b hb=>?_;simp only[nR2]at hc;by_cases h:(p.xI.size:Int)>300;exact .inl (by simpa using h);exact .inr ⟨by omega,by omega⟩;exact Oi (fun _=>.mk trivial) (fun hc=>.mk ⟨rfl,hb.resolve_left hc⟩);simp only[hi,Int.lt_irrefl,qB2,nV2,oQ2];exact .mk o;rcases r with _|_;exact .mk (fun h=>by cases h);refine Ob (P:=fun r=>match r with|.inl _=>True|.inr _=>∀m∈s.aE,m.sm) (bX (l:=s.aE) (fun q=>q.2.2) (fun i q=>∀m∈s.aE.take i,m.sm) hb.aE rfl (fun m j=>by simp at j) (fun i m q d j hi hl g hg hw=>?_) (fun q hi g=>?_)) fun r B=>?_;obtain⟨ev,by',k⟩:=q;have F:=hb.cH m j;dsimp only at hi hl hg hw;simp only[hl,hg,pJ2,oK2,nT2];refine Oi (fun _=>.mk trivial) (fun hc=>?_);simp only[oE2,nR2,qG2]at hc;refine Ob (P:=fun r=>match r with|.inl _=>True|.inr _=>∀c∈m.aS,c.sm) (bX (l:=m.aS) (fun q=>q.2.2) (fun i q=>∀c∈m.aS.take i,c.sm) F.aS rfl (fun m j=>by simp at j) (fun i c q C z hi hl w hg t=>?_) (fun q hi g=>?_)) fun r hr=>?_;obtain⟨ev,by',k⟩:=q;have E:=F.gZ c z;dsimp only at hi hl hg t;simp only[hl,hg,pJ2,oK2,nT2];refine Ob (P:=fun b=>b=true\/(c.jT.length<=5/\c.aO.length<=3)) (Oi (fun _=>.mk (.inl rfl)) (fun hc=>.mk ?_)) fun b hb=>?_;simp only[nR2]at hc;by_cases h:(c.aO.length:Int)>3;exact .inl (by simpa using h);exact .inr ⟨by omega,by omega⟩;refine Oi (fun _=>.mk trivial) (fun hcc=>?_);have hcc:=hb.resolve_left hcc;refine Ob (P:=fun r=>match r with|.inl _=>True|.inr _=>∀v∈c.aO,v.sm) (bX (l:=c.aO) (fun q=>q.2.2) (fun i q=>∀v∈c.aO.take i,v.sm) E.aO rfl (fun m j=>by simp at j) (fun i v q D A hi hl g hg u=>?_) (fun q hi g=>?_)) fun r hr=>?_;obtain⟨ev,by',k⟩:=q;have bv:=E.fI v A;dsimp only at hi hl hg u;simp only[hl,hg,pJ2,oK2,nT2];refine Ob (U33 bv) fun f hf=>?_;refine Oi (fun _=>.mk trivial) (fun y=>?_);refine Ob (U34 bv) fun n _=>?_;refine Oi (fun _=>.mk trivial) (fun _=>.mk ⟨u,fun x d=>?_⟩);rw[List.take_add_one,D]at d;rcases pI2.1 d with d|d;exact g x d;simp at d;subst d;exact hf (by simpa using y);obtain⟨ev,by',k⟩:=q;dsimp only at hi;simp only[hi,Int.lt_irrefl,qB2,nV2,oQ2];rw[pW2]at g;exact .mk g;rcases r with⟨a,b⟩|⟨a,b⟩
 exact .mk trivial;refine .mk ⟨t,fun x d=>?_⟩;rw[List.take_add_one,C]at d;rcases pI2.1 d with d|d;exact w x d;simp at d;subst d;exact⟨hcc.1,hcc.2,hr⟩;obtain⟨ev,by',k⟩:=q;dsimp only at hi;simp only[hi,Int.lt_irrefl,qB2,nV2,oQ2];rw[pW2]at g;exact .mk g;rcases r with⟨a,b⟩|⟨a,b⟩
 exact .mk trivial;refine .mk ⟨hw,fun x e=>?_⟩;rw[List.take_add_one,d]at e;rcases pI2.1 e with e|e;exact g x e;simp at e;subst e;exact⟨by omega,by omega,by omega,hr⟩;obtain⟨ev,by',k⟩:=q;dsimp only at hi;simp only[hi,Int.lt_irrefl,qB2,nV2,oQ2];rw[pW2]at g;exact .mk g;rcases r with _|_;exact .mk (fun h=>by cases h);refine .mk (fun h=>?_);simp only[nJ2,nR2]at h;exact⟨by omega,by omega,hr,by omega,B,by omega,by omega⟩
end Go.P
set_option maxHeartbeats 2000000
namespace Go.P
theorem dP2 {x1:Int}:Ok (Ya x1) (fun _=>True):=by
 unfold Ya;exact bH
theorem dQ2 {x1:aA UInt8} (a:x1.length<=300):Ok (dG1 x1) (fun _=>True):=by
 unfold dG1;have f:=a;refine pY (l:=x1) (fun q=>q) (nO2 a (by decide)) rfl (fun k j h g b d c e=>?_) (fun h b=>?_) fun i=>?_;simp only[d,c,nt];refine cA (dP2) fun m=>?_;refine oJ (fun _=>?_);exact .mk e;simp only[b,nf];exact bH;rcases i with n|_;exact bH;exact bH
theorem dR2 {x1:aA UInt8} (a:x1.length<=300):Ok (Sl x1) (fun _=>True):=by
 unfold Sl;refine cA (dQ2 a) fun b=>?_;exact bH
theorem T59 {x1:ByteArray} (a:x1.size<=300):Ok (F59 x1) (fun _=>True):=by
 unfold F59;refine Ob (P:=fun r=>r=true->(decide ((x1.size:Int)<=256))=true) ?_ fun d b=>?_;refine Oi (fun c16=>?_) (fun _=>.mk (fun h=>by cases h));refine cA (dR2 (Zu a)) fun c=>?_;exact .mk (fun _=>c16);exact bH
theorem Gk {x1 a b:Int}:Ok (Bp x1 a b) (fun _=>True):=by
 unfold Bp;exact bH
theorem T48 {x1:YL}:Ok (Kq x1) (fun _=>True):=by
 unfold Kq;refine oJ (fun _=>?_);exact bH
theorem lZ {x1:Bool} {e:YZ} {a:aA YV} {b:Y0} {f:Int} (c:a.length+1<=1000000) (d:b.sm):Ok (jS x1 e a b f) (fun v=>a.length<=v.length/\v.length<=a.length+1):=by
 exact(Tc (by omega)).mono fun v h=>by cases x1<;>simp at h<;>omega
theorem tK1 {x1:aA YV} {E:Y0} {x3:Int} (d0:x1.length+17<=1000000) (a:E.sm):Ok (Kc x1 E x3) (fun v=>x1.length<=v.length/\v.length<=x1.length+17):=by
 unfold Kc;have a0:=a.bE;refine og E.bE x1 4 1 (nO2 a.bE (by decide)) (fun d7 b8 q30 b6 A c o g m u=>?_) (fun q30 c g=>?_) fun R f9=>?_;obtain⟨L,M⟩:=q30;dsimp only at c o m u g;simp only[o,m,nt];have K:=a.mQ _ A;refine cA (T59 K.xI) fun N=>?_;refine Ob (P:=fun r=>¬r=true->¬(!N)=true) ?_ fun O H=>?_;refine Oi (fun _=>.mk (fun h=>absurd rfl h)) (fun c35=>?_);refine cA (Gk) fun e5=>?_;exact .mk (fun _=>c35);refine Ob (P:=fun r=>¬r=true->¬O=true) ?_ fun e7 d2=>?_;refine Oi (fun _=>.mk (fun h=>absurd rfl h)) (fun c38=>?_);have e1:=H c38;refine cA (T48) fun e6=>?_;exact .mk (fun _=>c38);refine Ob (lZ (by first|omega|(simp only[nZ2]at *;omega)) a) fun e8 d3=>?_;exact .mk ⟨u,by dsimp only;omega⟩;obtain⟨L,M⟩:=q30;dsimp only at c g;simp only[c,nf];exact .mk (by dsimp only;omega);have b0:=a.aE;refine og E.aE R 12 1 (nO2 a.aE (by decide)) (fun d8 F q53 b7 B d p i b w=>?_) (fun q53 d i=>?_) fun f4 g1=>?_;obtain⟨S,T⟩:=q53;dsimp only at d p b w i;simp only[p,b,nt];have k:=a.cH _ B;refine cA (T59 k.gU) fun e9=>?_;have b4:=k.aS;refine pY (l:=F.aS) (fun q=>q.2) (nO2 k.aS (by decide)) rfl (fun d9 G q67 C e s j x=>?_) (fun q67 e=>?_) fun f1=>?_;obtain⟨U,V⟩:=q67;dsimp only at e s j x;simp only[s,b,j,nt];have z:=k.gZ _ C;have b5:=z.aO;refine pY (l:=G.aO) (fun q=>q.2) (nO2 z.aO (by decide)) rfl (fun e0 b9 q80 D f t n y=>?_) (fun q80 f=>?_) fun f0=>?_;obtain⟨W,X⟩:=q80;dsimp only at f t n y;simp only[t,b,j,n,nt];have e4:=z.fI _ D;exact .mk y;obtain⟨W,X⟩:=q80;dsimp only at f;simp only[f,nf];exact bH;exact .mk x;obtain⟨U,V⟩:=q67;dsimp only at e;simp only[e,nf];exact bH;refine Ob (lZ (by first|omega|(simp only[nZ2]at *;omega)) a) fun f2 d4=>?_;exact .mk ⟨w,by dsimp only;omega⟩;obtain⟨S,T⟩:=q53;dsimp only at d i;simp only[d,nf];exact .mk (by dsimp only;omega);refine cA (T59 a.nI) fun Y=>?_;refine Ob (P:=fun r=>¬r=true->¬(!Y)=true) ?_ fun Z J=>?_;refine Oi (fun _=>.mk (fun h=>absurd rfl h)) (fun c86=>?_);refine cA (Gk) fun f5=>?_;exact .mk (fun _=>c86);refine Ob (P:=fun r=>¬r=true->¬Z=true) ?_ fun f7 d5=>?_;refine Oi (fun _=>.mk (fun h=>absurd rfl h)) (fun c89=>?_);have e3:=J c89;refine cA (Gk) fun f6=>?_;exact .mk (fun _=>c89);refine Ob (lZ (by first|omega|(simp only[nZ2]at *;omega)) a) fun f8 d6=>?_;exact .mk (by omega)
theorem tL1 {x1:Y0} (a:x1.sm):Ok (Py x1) (fun _=>True):=by
 unfold Py;exact bH
theorem lP1 {x1 g:Int} {h i:Int} {j k l:Int} {b:YJ} {a:aA YZ} (c:b.sm) (e:a.length+1<=1000000):Ok (Fd x1 g h i j k l b a) (fun v=>v.length<=a.length+1):=by
 unfold Fd;refine Ob (gA (Q:=fun v=>v.length=a.length+1) (by omega) (by simp)) fun f d=>?_;exact .mk (by omega)
theorem Zw {x1 e:Int} {f g:Int} {h i j:Int} {k:YF} {a:aA YZ} (c:a.length+1<=1000000):Ok (uC x1 e f g h i j k a) (fun v=>v.length<=a.length+1):=by
 unfold uC;refine Ob (gA (Q:=fun v=>v.length=a.length+1) (by omega) (by simp)) fun d b=>?_;exact .mk (by omega)
theorem Zx {x1 g:Int} {h i:Int} {j k l:Int} {b:YM} {a:aA YZ} (c:b.sm) (e:a.length+1<=1000000):Ok (uD x1 g h i j k l b a) (fun v=>v.length<=a.length+1):=by
 unfold uD;refine Ob (gA (Q:=fun v=>v.length=a.length+1) (by omega) (by simp)) fun f d=>?_;exact .mk (by omega)
theorem Zy {x1 g:Int} {h i:Int} {j k l:Int} {b:YE} {a:aA YZ} (c:b.sm) (e:a.length+1<=1000000):Ok (uE x1 g h i j k l b a) (fun v=>v.length<=a.length+1):=by
 unfold uE;refine Ob (gA (Q:=fun v=>v.length=a.length+1) (by omega) (by simp)) fun f d=>?_;exact .mk (by omega)
theorem Zz {x1 e:Int} {f g:Int} {h i j:Int} {k:YN} {a:aA YZ} (c:a.length+1<=1000000):Ok (uF x1 e f g h i j k a) (fun v=>v.length<=a.length+1):=by
 unfold uF;refine Ob (gA (Q:=fun v=>v.length=a.length+1) (by omega) (by simp)) fun d b=>?_;exact .mk (by omega)
theorem tM1 {x1:Y0} {x2:aA YZ} (k:x1.sm) (j8:x2.length+3646<=1000000):Ok (Pz x1 x2) (fun v=>v.length<=x2.length+3646):=by
 unfold Pz;have e7:=k.bE;refine Ob (P:=fun r=>r.length<=x2.length+24) (bX (l:=x1.bE) (fun q=>q.2.1) (fun i q=>q.2.2.length<=x2.length+i*6) (nO2 k.bE (by decide)) rfl (by dsimp only;omega) (fun j9 b7 q109 f5 a0 c C m w K=>?_) (fun q109 c m=>?_)) fun e3 k3=>?_;obtain⟨g4,g5,g6⟩:=q109;dsimp only at c C w K m;simp only[C,w,nt];have T:=k.mQ _ a0;refine Ob (lP1 T (by first|omega|(simp only[nZ2]at *;omega))) fun e1 h4=>?_;have e8:=T.dR;refine Ob (P:=fun r=>r.2.length<=e1.length+5) (bX (l:=b7.dR) (fun q=>q.2.1) (fun i q=>q.2.2.length<=e1.length+i*1) (nO2 T.dR (by decide)) rfl (by dsimp only;omega) (fun h9 h0 q125 f6 e5 d D n z L=>?_) (fun q125 d n=>?_)) fun⟨k1,k2⟩ e4=>?_;obtain⟨g7,g8,g9⟩:=q125;dsimp only at d D z L n;simp only[D,w,z,nt];refine Ob (Zw (by first|omega|(simp only[nZ2]at *;omega))) fun k0 h5=>?_;exact .mk ⟨L,by dsimp only;omega⟩;obtain⟨g7,g8,g9⟩:=q125;dsimp only at d n;simp only[d,nf];exact .mk (by dsimp only;omega)
 try dsimp only at e4
 exact .mk ⟨K,by dsimp only;omega⟩;obtain⟨g4,g5,g6⟩:=q109;dsimp only at c m;simp only[c,nf];exact .mk (by dsimp only;omega);have e9:=k.aE;refine Ob (P:=fun r=>r.length<=e3.length+3612) (bX (l:=x1.aE) (fun q=>q.1) (fun i q=>q.2.length<=e3.length+i*301) (nO2 k.aE (by decide)) rfl (by dsimp only;omega) (fun i0 b8 q140 f7 b0 e E o a M=>?_) (fun q140 e o=>?_)) fun Z j3=>?_;obtain⟨d3,d4⟩:=q140;dsimp only at e E a M o;simp only[E,a,nt];have y:=k.cH _ b0;refine Ob (Zx y (by first|omega|(simp only[nZ2]at *;omega))) fun Y h6=>?_;have f0:=y.aS;refine Ob (P:=fun r=>r.length<=Y.length+300) (bX (l:=b8.aS) (fun q=>q.1) (fun i q=>q.2.length<=Y.length+i*60) (nO2 y.aS (by decide)) rfl (by dsimp only;omega) (fun i1 b9 q156 f8 b4 f F p b N=>?_) (fun q156 f p=>?_)) fun i9 j4=>?_;obtain⟨d5,W⟩:=q156;dsimp only at f F b N p;simp only[F,a,b,nt];have U:=y.gZ _ b4;have f1:=U.aO;refine Ob (P:=fun r=>r.length<=W.length+60) (bX (l:=b9.aO) (fun q=>q.1) (fun i q=>q.2.length<=W.length+i*20) (nO2 U.aO (by decide)) rfl (by dsimp only;omega) (fun i2 d0 q171 f9 b5 g G s x O=>?_) (fun q171 g s=>?_)) fun i7 j5=>?_;obtain⟨d6,X⟩:=q171;dsimp only at g G x O s;simp only[G,a,b,x,nt];have V:=U.fI _ b5;have f2:=V.aU;refine Ob (P:=fun r=>r.length<=X.length+20) (bX (l:=d0.aU) (fun q=>q.1) (fun i q=>q.2.length<=X.length+i*1) (nO2 V.aU (by decide)) rfl (by dsimp only;omega) (fun i3 h2 q187 g1 b6 h H t A R=>?_) (fun q187 h t=>?_)) fun i6 j6=>?_;obtain⟨d7,d8⟩:=q187;dsimp only at h H A R t;simp only[H,a,b,x,A,nt];have d2:=V.fH _ b6;refine Ob (Zy d2 (by first|omega|(simp only[nZ2]at *;omega))) fun i5 h7=>?_;exact .mk ⟨R,by dsimp only;omega⟩;obtain⟨d7,d8⟩:=q187;dsimp only at h t;simp only[h,nf];exact .mk (by dsimp only;omega);exact .mk ⟨O,by dsimp only;omega⟩;obtain⟨d6,X⟩:=q171;dsimp only at g s;simp only[g,nf];exact .mk (by dsimp only;omega);exact .mk ⟨N,by dsimp only;omega⟩;obtain⟨d5,W⟩:=q156;dsimp only at f p;simp only[f,nf];exact .mk (by dsimp only;omega);exact .mk ⟨M,by dsimp only;omega⟩;obtain⟨d3,d4⟩:=q140;dsimp only at e o;simp only[e,nf];exact .mk (by dsimp only;omega);have f4:=k.bF;refine Ob (P:=fun r=>r.length<=Z.length+10) (bX (l:=x1.bF) (fun q=>q.1) (fun i q=>q.2.length<=Z.length+i*1) (nO2 k.bF (by decide)) rfl (by dsimp only;omega) (fun i4 h3 q205 g3 e6 j J u B S=>?_) (fun q205 j u=>?_)) fun j2 j7=>?_;obtain⟨d9,e0⟩:=q205;dsimp only at j J B S u;simp only[J,B,nt];refine Ob (Zz (by first|omega|(simp only[nZ2]at *;omega))) fun j0 h8=>?_;exact .mk ⟨S,by dsimp only;omega⟩;obtain⟨d9,e0⟩:=q205;dsimp only at j u;simp only[j,nf];exact .mk (by dsimp only;omega);exact .mk (by omega)
theorem T61 {x1:Y0} (a:x1.sm):Ok (F61 x1) (fun v=>v.length<=4000):=by
 unfold F61;refine cA (tL1 a) fun _=>?_;refine Ob (tM1 a (by first|omega|(simp only[nZ2]at *;omega))) fun c b=>?_;exact .mk (by simp only[nZ2]at *;omega)
theorem T62 {x1:YZ}:Ok (F62 x1) (fun _=>True):=by
 unfold F62;refine cA (Gk) fun b=>?_;refine Ob (P:=fun r=>r=true->b=true) ?_ fun d a=>?_;refine Oi (fun c212=>?_) (fun _=>.mk (fun h=>by cases h));refine cA (Gk) fun c=>?_;exact .mk (fun _=>c212);exact bH
theorem T63 {x1:Y0} {j:Int} (e:x1.sm):Ok (F63 x1 j) (fun _=>True):=by
 unfold F63;have g:=e.jU;refine pY (l:=x1.jU) (fun q=>q) (nO2 e.jU (by decide)) rfl (fun i h k f a c b d=>?_) (fun k a=>?_) fun m=>?_;simp only[c,b,nt];refine oJ (fun _=>?_);exact .mk d;simp only[a,nf];exact bH;rcases m with n|_;exact bH;exact bH
theorem tN1 {x1:aA YV} {y:Y0} {x3:Int} (W:x1.length+4001<=1000000) (c:y.sm):Ok (Yb x1 y x3) (fun v=>x1.length<=v.length/\v.length<=x1.length+4001):=by
 unfold Yb;refine Ob (T61 c) fun x4 n=>?_;have C:=n;refine Ob (P:=fun r=>x1.length<=r.2.length/\r.2.length<=x1.length+4000) (bX (l:=x4) (fun q=>q.1) (fun i q=>x1.length<=q.2.2.length/\q.2.2.length<=x1.length+i*1) (nO2 n (by decide)) rfl (by dsimp only;omega) (fun T o q238 F z a g d e k=>?_) (fun q238 a d=>?_)) fun⟨a0,b0⟩ w=>?_;obtain⟨G,s,H⟩:=q238;dsimp only at a g e k d;simp only[g,e,nt];refine cA (T62) fun J=>?_;refine Ob (P:=fun r=>¬r=true->¬((!J)||(Xr s o false))=true) ?_ fun Y M=>?_;refine Oi (fun _=>.mk (fun h=>absurd rfl h)) (fun c242=>?_);refine cA (T63 c) fun X=>?_;exact .mk (fun _=>c242);refine Ob (lZ (by first|omega|(simp only[nZ2]at *;omega)) c) fun Z N=>?_;exact .mk ⟨k,by dsimp only;omega⟩;obtain⟨G,s,H⟩:=q238;dsimp only at a d;simp only[a,nf];exact .mk (by dsimp only;omega)
 try dsimp only at w
 have D:=c.jU;refine pY (l:=y.jU) (fun q=>q.2) (nO2 c.jU (by decide)) rfl (fun U L q255 A b j f m=>?_) (fun q255 b=>?_) fun b8=>?_;obtain⟨t,u⟩:=q255;dsimp only at b j f m;simp only[j,f,nt];refine Ob (P:=fun r=>¬r=true->¬t=true) ?_ fun K p=>?_;refine Oi (fun _=>.mk (fun h=>absurd rfl h)) (fun c258=>?_);refine cA (T62) fun b4=>?_;exact .mk (fun _=>c258);refine Ob (P:=fun r=>¬r=true->¬K=true) ?_ fun b7 O=>?_;refine Oi (fun _=>.mk (fun h=>absurd rfl h)) (fun c261=>?_);have V:=p c261;refine Ob (P:=fun r=>r=true->(decide (u>0))=true) ?_ fun b6 R=>?_;refine Oi (fun c264=>?_) (fun _=>.mk (fun h=>by cases h));have E:=c.jU;refine Ob (P:=fun x=>x∈y.jU) (cK (by(simp only[nm]at *;rw[bM (by omega) (by omega)];omega)) (by(simp only[nm]at *;rw[bM (by omega) (by omega)];omega)) (fun _ h _=>h)) fun b5 B=>?_;exact .mk (fun _=>c264);exact .mk (fun _=>c261);exact .mk m;obtain⟨t,u⟩:=q255;dsimp only at b;simp only[b,nf];exact bH;refine Ob (lZ (by first|omega|(simp only[nZ2]at *;omega)) c) fun b9 S=>?_;exact .mk (by omega)
theorem T49 {x1:Y0} (a:x1.sm):Ok (F49 x1) (fun v=>v<=9223372036854775807):=by
 unfold F49;have hp:=a.bE;refine Ob (P:=fun v=>v<=9223372036854775807) (bX (l:=x1.bE) (fun q=>q.2) (fun i q=>q.1<=9223372036854775807) (by omega) rfl (by decide) (fun i e q d c hi hl _ hg hw=>?_) (fun q hi b=>?_)) fun v hv=>.mk hv;obtain⟨n,x⟩:=q;dsimp only at hi hl hg hw;simp only[hl,hg,nt];exact .mk ⟨hw,(Zv _).2⟩;obtain⟨n,x⟩:=q;dsimp only at hi b;simp only[hi,nf];exact .mk b
theorem T65 {x1:Int} {C:YM} {V:Int} (m:C.sm):Ok (F65 x1 C V) (fun _=>True):=by
 unfold F65;have v:=m.aS;refine pY (l:=C.aS) (fun q=>q.2) (nO2 m.aS (by decide)) rfl (fun H e q279 n b g d j=>?_) (fun q279 b=>?_) fun U=>?_;obtain⟨u,A⟩:=q279;dsimp only at b g d j;simp only[g,d,nt];have a:=m.gZ _ n;refine Ob (P:=fun r=>¬r=true->¬(u||((e.aO.length:Int)==0))=true) ?_ fun B t=>?_;refine Oi (fun _=>.mk (fun h=>absurd rfl h)) (fun c283=>?_);have w:=a.aO;refine Ob (P:=fun x=>x∈e.aO) (cK (by omega) (by(simp only[nm]at *;omega)) (fun _ h _=>h)) fun O o=>?_;have L:=a.fI _ o;exact .mk (fun _=>c283);refine Ob (P:=fun r=>¬r=true->¬B=true) ?_ fun S G=>?_;refine Oi (fun _=>.mk (fun h=>absurd rfl h)) (fun c289=>?_);have K:=t c289;have y:=a.aO;refine Ob (P:=fun x=>x∈e.aO) (cK (by(simp only[nm]at *;rw[bM (by omega) (by omega)];omega)) (by(simp only[nm]at *;rw[bM (by omega) (by omega)];omega)) (fun _ h _=>h)) fun R p=>?_;have M:=a.fI _ p;exact .mk (fun _=>c289);have z:=a.aO;refine pY (l:=e.aO) (fun q=>q.2) (nO2 a.aO (by decide)) rfl (fun J F q305 s c i f k=>?_) (fun q305 c=>?_) fun T=>?_;obtain⟨D,E⟩:=q305;dsimp only at c i f k;simp only[i,d,f,nt];have N:=a.fI _ s;exact .mk k;obtain⟨D,E⟩:=q305;dsimp only at c;simp only[c,nf];exact bH;exact .mk j;obtain⟨u,A⟩:=q279;dsimp only at b;simp only[b,nf];exact bH;exact bH
theorem dS2 {x1:Int} {i:aA YV} {l:Y0} {u:Int} (q:i.length+12<=1000000) (f:l.sm):Ok (dI1 x1 i l u) (fun v=>i.length<=v.length/\v.length<=i.length+12):=by
 unfold dI1;have j:=f.aE;refine og l.aE i 12 1 (nO2 f.aE (by decide)) (fun o m q319 k g a d b c e=>?_) (fun q319 a b=>?_) fun t p=>?_;obtain⟨w,x⟩:=q319;dsimp only at a d c e b;simp only[d,c,nt];have h:=f.cH _ g;refine cA (T65 h) fun r=>?_;refine Ob (lZ (by first|omega|(simp only[nZ2]at *;omega)) f) fun s n=>?_;exact .mk ⟨e,by dsimp only;omega⟩;obtain⟨w,x⟩:=q319;dsimp only at a b;simp only[a,nf];exact .mk (by dsimp only;omega);exact .mk (by omega)
theorem tO1 {x1:aA YV} {d:Y0} {f:Int} (e:x1.length+12<=1000000) (a:d.sm):Ok (Yc x1 d f) (fun v=>x1.length<=v.length/\v.length<=x1.length+12):=by
 unfold Yc;refine Ob (T49 a) fun g b=>?_;refine Ob (dS2 (by first|omega|(simp only[nZ2]at *;omega)) a) fun h c=>?_;exact .mk (by omega)
theorem dT2:Ok (dJ1) (fun _=>True):=by
 unfold dJ1;exact bH
theorem dU2 {x1:Int}:Ok (dK1 x1) (fun _=>True):=by
 unfold dK1;refine oJ (fun _=>?_);refine cA (dT2) fun b=>?_;refine Ob (cK (Q:=fun _=>True) (by(simp only[nm]at *;rw[bM (by omega) (by omega)];omega)) (by(simp only[nm,nl]at *;rw[bM (by omega) (by omega)];omega)) (fun _ _ _=>trivial)) fun c a=>?_;exact bH
theorem T66 {x1:Int}:Ok (F66 x1) (fun _=>True):=by
 unfold F66;refine cA (dU2) fun⟨a,b⟩=>?_;exact bH
theorem dV2 {x1:YX}:Ok (dL1 x1) (fun _=>True):=by
 unfold dL1;refine Oi (fun _=>bH) (fun _=>?_);refine Ob (P:=fun _=>True) (kH (fun q=>q.2.2) 6 (fun _=>True) (by decide) (by decide) trivial (fun q _ h1 h2=>?_)) fun r _=>?_;obtain⟨a,n,i⟩:=q;dsimp only at h1 h2 ⊢;refine Oi (fun hc=>?_) (fun _=>bH);simp only[nR2]at hc;refine Ob (cK (Q:=fun _=>True) h1 hc (fun _ _ _=>trivial)) fun x _=>?_;refine Oi (fun _=>bH) (fun _=>?_);refine Ob (P:=fun _=>True) (Oi (fun _=>bH) (fun _=>bH)) fun v _=>.mk ⟨hc,h2 hc,trivial⟩;rcases r with⟨a,b⟩|⟨a,b⟩<;>exact bH
theorem dW2 {x1:YX}:Ok (dM1 x1) (fun v=>v=0->x1.Unit≠0):=by
 unfold dM1;refine Oi (fun c330=>.mk (by omega)) (fun c330=>?_);refine Oi (fun c331=>.mk (by omega)) (fun c331=>?_);refine cA (dV2) fun a=>?_;refine Oi (fun c333=>.mk (by omega)) (fun c333=>?_);exact .mk (by(simp only[nm]at *;omega))
theorem dX2 {x1:YX} (b:x1.Unit≠0):Ok (dN1 x1) (fun _=>True):=by
 unfold dN1;refine Ob (uH (by omega)) fun c a=>?_;exact bH
theorem dY2 {x1:YX} (a:x1.Unit≠0):Ok (dO1 x1) (fun _=>True):=by
 unfold dO1;refine cA (dX2 (by omega)) fun b=>?_;exact bH
theorem dZ2 {x1:YX}:Ok (dP1 x1) (fun _=>True):=by
 unfold dP1;refine Ob (dW2) fun b a=>?_;refine oJ (fun _=>?_);refine cA (dY2 (by(simp only[nm]at *;omega))) fun c=>?_;exact bH
theorem T68 {x1:YM} (b:x1.sm):Ok (F68 x1) (fun _=>True):=by
 unfold F68;refine cA (dZ2) fun⟨c,d⟩=>?_;refine oJ (fun _=>?_);refine oJ (fun _=>?_);refine cA ?_ fun e=>?_;refine oJ (fun _=>?_);exact bH;refine Ob (Gd (by omega)) fun f a=>?_;refine oJ (fun _=>?_);refine oJ (fun _=>?_);exact bH
theorem T67 {x1:Int} {B:YM} (k:B.sm):Ok (F67 x1 B) (fun _=>True):=by
 unfold F67;refine cA (T68 k) fun⟨X,Y⟩=>?_;have y:=k.aS;refine pY (l:=B.aS) (fun q=>q.2) (nO2 k.aS (by decide)) rfl (fun K m q358 o a e c g=>?_) (fun q358 a=>?_) fun W=>?_;obtain⟨C,D⟩:=q358;dsimp only at a e c g;simp only[e,c,nt];have j:=k.gZ _ o;have z:=j.jT;refine pY (l:=m.jT) (fun q=>q.2) (nO2 j.jT (by decide)) rfl (fun L G q371 v b f d i=>?_) (fun q371 b=>?_) fun V=>?_;obtain⟨t,u⟩:=q371;dsimp only at b f d i;simp only[f,c,d,nt];refine Ob (P:=fun r=>¬r=true->¬t=true) ?_ fun E n=>?_;refine Oi (fun _=>.mk (fun h=>absurd rfl h)) (fun c374=>?_);refine cA (T66) fun O=>?_;exact .mk (fun _=>c374);refine Ob (P:=fun r=>¬r=true->¬E=true) ?_ fun F p=>?_;refine Oi (fun _=>.mk (fun h=>absurd rfl h)) (fun c377=>?_);have M:=n c377;refine cA (Gk) fun R=>?_;exact .mk (fun _=>c377);refine Ob (P:=fun r=>¬r=true->¬F=true) ?_ fun U H=>?_;refine Oi (fun _=>.mk (fun h=>absurd rfl h)) (fun c381=>?_);have s:=p c381;have N:=n s;refine Ob (P:=fun r=>r=true->(decide (u>0))=true) ?_ fun T J=>?_;refine Oi (fun c385=>?_) (fun _=>.mk (fun h=>by cases h));have A:=j.jT;refine Ob (P:=fun x=>x∈m.jT) (cK (by(simp only[nm]at *;rw[bM (by omega) (by omega)];omega)) (by(simp only[nm]at *;rw[bM (by omega) (by omega)];omega)) (fun _ h _=>h)) fun S w=>?_;exact .mk (fun _=>c385);exact .mk (fun _=>c381);exact .mk i;obtain⟨t,u⟩:=q371;dsimp only at b;simp only[b,nf];exact bH;exact .mk g;obtain⟨C,D⟩:=q358;dsimp only at a;simp only[a,nf];exact bH;exact bH
theorem lQ1 {x1:aA YV} {k:Y0} {t:Int} (p:x1.length+12<=1000000) (f:k.sm):Ok (Fe x1 k t) (fun v=>x1.length<=v.length/\v.length<=x1.length+12):=by
 unfold Fe;have i:=f.aE;refine og k.aE x1 12 1 (nO2 f.aE (by decide)) (fun n l q400 j g a d b c e=>?_) (fun q400 a b=>?_) fun s o=>?_;obtain⟨u,w⟩:=q400;dsimp only at a d c e b;simp only[d,c,nt];have h:=f.cH _ g;refine cA (T67 h) fun q=>?_;refine Ob (lZ (by first|omega|(simp only[nZ2]at *;omega)) f) fun r m=>?_;exact .mk ⟨e,by dsimp only;omega⟩;obtain⟨u,w⟩:=q400;dsimp only at a b;simp only[a,nf];exact .mk (by dsimp only;omega);exact .mk (by omega)
theorem tP1 {x1:aA YV} {w:Y0} {N:Int} (G:x1.length+32<=1000000) (f:w.sm):Ok (Yd x1 w N) (fun v=>x1.length<=v.length/\v.length<=x1.length+32):=by
 unfold Yd;have q:=f.bE;refine og w.bE x1 20 5 (nO2 f.bE (by decide)) (fun C n q416 s m a h c e j=>?_) (fun q416 a c=>?_) fun L E=>?_;obtain⟨u,o⟩:=q416;dsimp only at a h e j c;simp only[h,e,nt];have l:=f.mQ _ m;have r:=l.dR;refine og n.dR o 5 1 (nO2 l.dR (by decide)) (fun D z q430 t p b i d g k=>?_) (fun q430 b d=>?_) fun K F=>?_;obtain⟨x,y⟩:=q430;dsimp only at b i g k d;simp only[i,e,g,nt];refine cA (T66) fun H=>?_;refine Ob (lZ (by first|omega|(simp only[nZ2]at *;omega)) f) fun J A=>?_;exact .mk ⟨k,by dsimp only;omega⟩;obtain⟨x,y⟩:=q430;dsimp only at b d;simp only[b,nf];exact .mk (by dsimp only;omega);exact .mk ⟨j,by dsimp only;omega⟩;obtain⟨u,o⟩:=q416;dsimp only at a c;simp only[a,nf];exact .mk (by dsimp only;omega);refine Ob (lQ1 (by first|omega|(simp only[nZ2]at *;omega)) f) fun M B=>?_;exact .mk (by omega)
theorem T26 {x1:Int}:Ok (F26 x1) (fun _=>True):=by
 unfold F26;refine oJ (fun _=>?_);exact bH
theorem T12 {x1:Int} {a:YL}:Ok (Tl x1 a) (fun _=>True):=by
 unfold Tl;refine Ob T26 fun c _=>?_;refine Oi (fun _=>bH) (fun _=>?_);refine Oi (fun _=>bH) (fun _=>?_);have hw:=Zv (x1+(bD ((bD (7*a.bB))-(bD (12*a.cW)))));generalize bD (x1+(bD ((bD (7*a.bB))-(bD (12*a.cW)))))=x0 at hw ⊢;refine Ob (P:=fun v=> -9223372036854775808<=v/\v<=7) (fZ (fun x=> -9223372036854775808<=x/\x<=9223372036854775807) (fun x=>(x+9223372036854775808).toNat) (fun x b=>?_) bK x0 hw (by simp only[bK];omega)) fun x1 h1=>?_;refine Oi (fun hc=>?_) (fun hc=>?_)<;>simp only[nR2]at hc;rw[bM (by omega) (by omega)];exact .mk ⟨by omega,by omega⟩;exact .mk (by omega);refine Ob (P:=fun v=>True) (fZ (fun x=> -9223372036854775808<=x/\x<=7) (fun x=>(7-x).toNat) (fun x b=>?_) bK x1 h1 (by simp only[bK];omega)) fun a _=>bH;refine Oi (fun hc=>?_) (fun hc=>?_)<;>simp only[nR2]at hc;rw[bM (by omega) (by omega)];exact .mk ⟨by omega,by omega⟩;exact bH
theorem T69 {x1:Int} {t:YM} {m:YK} (g:t.sm) (e:m.s'.sm):Ok (F69 x1 t m) (fun _=>True):=by
 unfold F69;refine cA (T68 g) fun⟨z,y⟩=>?_;refine Ob (P:=fun r=>¬r=true->¬(y !=0)=true) ?_ fun B o=>?_;refine Oi (fun _=>.mk (fun h=>absurd rfl h)) (fun c438=>?_);refine cA (Gk) fun A=>?_;exact .mk (fun _=>c438);have i:=e.bE;refine pY (l:=m.s'.bE) (fun q=>q.2) (nO2 e.bE (by decide)) rfl (fun p n q450 f a c b d=>?_) (fun q450 a=>?_) fun x=>?_;obtain⟨j,k⟩:=q450;dsimp only at a c b d;simp only[c,b,nt];have s:=e.mQ _ f;refine cA ?_ fun w=>?_;refine Oi (fun c454=>?_) (fun c454=>?_);refine cA (T12) fun⟨u,v⟩=>?_;exact bH;exact bH;exact .mk d;obtain⟨j,k⟩:=q450;dsimp only at a;simp only[a,nf];exact bH;exact bH
theorem lR1 {x1:aA YV} {k:Y0} {t:Int} (p:x1.length+12<=1000000) (c:k.sm):Ok (Ff x1 k t) (fun v=>x1.length<=v.length/\v.length<=x1.length+12):=by
 unfold Ff;have i:=c.aE;refine og k.aE x1 12 1 (nO2 c.aE (by decide)) (fun n l q467 j g a e b d f=>?_) (fun q467 a b=>?_) fun s o=>?_;obtain⟨u,w⟩:=q467;dsimp only at a e d f b;simp only[e,d,nt];have h:=c.cH _ g;refine cA (T69 h c) fun q=>?_;refine Ob (lZ (by first|omega|(simp only[nZ2]at *;omega)) c) fun r m=>?_;exact .mk ⟨f,by dsimp only;omega⟩;obtain⟨u,w⟩:=q467;dsimp only at a b;simp only[a,nf];exact .mk (by dsimp only;omega);exact .mk (by omega)
theorem tQ1 {x1:aA YV} {c:Y0} {e:Int} (d:x1.length+12<=1000000) (a:c.sm):Ok (Ye x1 c e) (fun v=>x1.length<=v.length/\v.length<=x1.length+12):=by
 unfold Ye;refine Ob (lR1 (by first|omega|(simp only[nZ2]at *;omega)) a) fun f b=>?_;exact .mk (by omega)
theorem wA {x1 a:Int}:Ok (qR x1 a) (fun _=>True):=by
 unfold qR;refine oJ (fun _=>?_);exact bH
theorem aA1 {x1:aA Int} (e:x1.length<=20):Ok (Kd x1) (fun _=>True):=by
 unfold Kd;have g:=e;refine pY (l:=x1) (fun q=>q) (nO2 e (by decide)) rfl (fun i h j f a c b d=>?_) (fun j a=>?_) fun k=>?_;simp only[c,b,nt];refine oJ (fun _=>?_);exact .mk d;simp only[a,nf];exact bH;rcases k with m|_;exact bH;exact bH
theorem tR1 {x1:Int}:Ok (Yf x1) (fun _=>True):=by
 unfold Yf;exact bH
theorem eA2 {x1:Int}:Ok (dT1 x1) (fun _=>True):=by
 unfold dT1;refine oJ (fun _=>?_);exact bH
theorem eB2 {x1:YE} (c:x1.sm):Ok (dU1 x1) (fun v=>v.sm):=by
 unfold dU1;refine Ob (P:=fun r=>¬r=true->¬(x1.cU==1)=true) ?_ fun e a=>?_;refine Oi (fun _=>.mk (fun h=>absurd rfl h)) (fun c488=>?_);refine cA (tR1) fun d=>?_;exact .mk (fun _=>c488);refine Oi (fun c490=>?_) (fun c490=>?_);exact .mk (by first|assumption|exact⟨oX2 _,oX2 _,oX2 _,fun _ h=>nomatch h⟩);have b:=a c490;refine cA ?_ fun f=>?_;refine oJ (fun _=>?_);exact bH;refine cA ?_ fun i=>?_;refine Oi (fun c495=>?_) (fun c495=>?_);refine cA (eA2) fun g=>?_;exact bH;exact bH;exact .mk (by first|assumption|exact⟨oX2 _,oX2 _,oX2 _,fun _ h=>nomatch h⟩)
theorem eC2 {x1 m:aA YB} (e:x1.length<=12) (f:m.length<=12):Ok (dV1 x1 m) (fun _=>True):=by
 unfold dV1;refine oJ (fun _=>?_);have j:=e;refine pY (l:=x1) (fun q=>q) (nO2 e (by decide)) rfl (fun o n p g a c b d=>?_) (fun p a=>?_) fun r=>?_;simp only[c,b,nt];have k:=f;refine Ob (P:=fun x=>x∈m) (cK (by omega) (by(simp only[nm]at *;omega)) (fun _ h _=>h)) fun s i=>?_;refine oJ (fun _=>?_);exact .mk d;simp only[a,nf];exact bH;rcases r with _|_;exact bH;exact bH
theorem eD2 {x1 m:aA YD} (e:x1.length<=12) (f:m.length<=12):Ok (dW1 x1 m) (fun _=>True):=by
 unfold dW1;refine oJ (fun _=>?_);have j:=e;refine pY (l:=x1) (fun q=>q) (nO2 e (by decide)) rfl (fun o n p g a c b d=>?_) (fun p a=>?_) fun r=>?_;simp only[c,b,nt];have k:=f;refine Ob (P:=fun x=>x∈m) (cK (by omega) (by(simp only[nm]at *;omega)) (fun _ h _=>h)) fun s i=>?_;refine oJ (fun _=>?_);exact .mk d;simp only[a,nf];exact bH;rcases r with _|_;exact bH;exact bH
theorem eE2 {x1 k:aA YY} (g:x1.length<=12) (i:∀y∈x1,y.sm) (m:k.length<=12) (j:∀y∈k,y.sm):Ok (dX1 x1 k) (fun _=>True):=by
 unfold dX1;refine oJ (fun _=>?_);have n:=g;refine pY (l:=x1) (fun q=>q) (nO2 g (by decide)) rfl (fun r p u d a c b f=>?_) (fun u a=>?_) fun v=>?_;simp only[c,b,nt];have s:=i _ d;have o:=m;refine Ob (P:=fun x=>x∈k) (cK (by omega) (by(simp only[nm]at *;omega)) (fun _ h _=>h)) fun w e=>?_;have t:=j _ e;refine oJ (fun _=>?_);exact .mk f;simp only[a,nf];exact bH;rcases v with _|_;exact bH;exact bH
theorem eF2 {x1 a:YE} (b:x1.sm) (c:a.sm):Ok (dY1 x1 a) (fun _=>True):=by
 unfold dY1;refine Ob (P:=fun r=>r=true->(((((((x1.cU==a.cU)&&(((x1.Value.Log==a.Value.Log)&&((x1.Value.qD==a.Value.qD)&&true))!=false))&&(x1.cV==a.cV))&&(x1.iU==a.iU))&&(x1.iL==a.iL))&&(x1.Bs==a.Bs))&&(x1.Br==a.Br))=true) ?_ fun k d=>?_;refine Oi (fun c548=>?_) (fun _=>.mk (fun h=>by cases h));refine cA (eC2 b.eR c.eR) fun m=>?_;exact .mk (fun _=>c548);refine Ob (P:=fun r=>r=true->k=true) ?_ fun l e=>?_;refine Oi (fun c551=>?_) (fun _=>.mk (fun h=>by cases h));have i:=d c551;refine cA (eD2 b.fS c.fS) fun n=>?_;exact .mk (fun _=>c551);refine Ob (P:=fun r=>r=true->l=true) ?_ fun p g=>?_;refine Oi (fun c555=>?_) (fun _=>.mk (fun h=>by cases h));have f:=e c555;have j:=d f;refine cA (eE2 b.dA b.uJ c.dA c.uJ) fun o=>?_;exact .mk (fun _=>c555);exact bH
theorem tS1 {x1:YA}:Ok (Yg x1) (fun v=>v=0-> -1<=x1.Log/\x1.Log<=8/\0<=x1.qD/\x1.qD<=3):=by
 unfold Yg;refine Oi (fun c559=>.mk (by omega)) (fun c559=>?_);exact .mk (by(simp only[nm]at *;omega))
theorem eG2:Ok (dZ1) (fun _=>True):=by
 unfold dZ1;exact bH
theorem T51 {x1:YH} (b:0<=x1.qC/\x1.qC<=6):Ok (F51 x1) (fun _=>True):=by
 unfold F51;refine cA (eG2) fun c=>?_;refine Ob (cK (Q:=fun _=>True) (by omega) (by(simp only[nm,nl]at *;omega)) (fun _ _ _=>trivial)) fun d a=>?_;exact bH
theorem T50 {x1:YH}:Ok (F50 x1) (fun v=>v=0->0<=x1.qC/\x1.qC<=6):=by
 unfold F50;refine Oi (fun c562=>.mk (by omega)) (fun c562=>?_);refine cA (T51 (by(simp only[nm]at *;omega))) fun a=>?_;refine Oi (fun c564=>.mk (by omega)) (fun c564=>?_);exact .mk (by(simp only[nm]at *;omega))
theorem T28 {x1:YH}:Ok (F28 x1) (fun _=>True):=by
 unfold F28;refine Ob (T50) fun b a=>?_;refine oJ (fun _=>?_);refine cA (T51 (by(simp only[nm]at *;omega))) fun c=>?_;exact bH
theorem lS1 {x1:YH}:Ok (Sr x1) (fun _=>True):=by
 unfold Sr;refine cA (T28) fun⟨a,b⟩=>?_;refine oJ (fun _=>?_);exact bH
theorem eH2 {x1:YB}:Ok (eA1 x1) (fun _=>True):=by
 unfold eA1;refine cA (lS1) fun⟨a,b⟩=>?_;refine cA (wA) fun c=>?_;refine cA (aA1 (by simp)) fun d=>?_;exact bH
theorem eI2 {x1:aA YB} (e:x1.length<=12):Ok (eB1 x1) (fun _=>True):=by
 unfold eB1;refine oJ (fun _=>?_);refine oJ (fun _=>?_);have g:=e;refine pY (l:=x1) (fun q=>q.2) (nO2 e (by decide)) rfl (fun j i q585 f a c b d=>?_) (fun q585 a=>?_) fun h=>?_;obtain⟨o,p⟩:=q585;dsimp only at a c b d;simp only[c,b,nt];refine cA (eH2) fun r=>?_;refine oJ (fun _=>?_);refine cA (lS1) fun⟨k,m⟩=>?_;refine oJ (fun _=>?_);exact .mk d;obtain⟨o,p⟩:=q585;dsimp only at a;simp only[a,nf];exact bH;rcases h with n|_;exact bH;exact bH
theorem eJ2 {x1:aA YD} (e:x1.length<=12):Ok (eC1 x1) (fun _=>True):=by
 unfold eC1;refine oJ (fun _=>?_);have g:=e;refine pY (l:=x1) (fun q=>q) (nO2 e (by decide)) rfl (fun j i k f a c b d=>?_) (fun k a=>?_) fun h=>?_;simp only[c,b,nt];refine cA (lS1) fun⟨m,n⟩=>?_;refine oJ (fun _=>?_);refine oJ (fun _=>?_);exact .mk d;simp only[a,nf];exact bH;rcases h with o|_;exact bH;exact bH
theorem eK2 {x1:YY} (a:x1.sm):Ok (eD1 x1) (fun _=>True):=by
 unfold eD1;refine Oi (fun _=>bH) (fun _=>?_);refine Oi (fun _=>bH) (fun _=>?_);have hs:=a.mR;refine Ob (P:=fun _=>True) (kH (fun q=>q) (x1.mR.size:Int) (fun _=>True) (by omega) (by decide) trivial (fun i _ h1 h2=>?_)) fun r _=>?_;refine Oi (fun hc=>?_) (fun _=>bH);simp only[nR2]at hc;refine Ob (vY h1 hc) fun b _=>?_;refine Ob (P:=fun _=>True) (Oi (fun _=>bH) (fun _=>Ob (vY h1 hc) fun b _=>bH)) fun b _=>?_;exact Oi (fun _=>bH) (fun _=>.mk ⟨hc,h2 hc,trivial⟩);rcases r with _|_;exact bH;exact Oi (fun _=>bH) (fun _=>bH)
theorem eL2 {x1:YY} (a:x1.sm):Ok (eE1 x1) (fun _=>True):=by
 unfold eE1;exact bH
theorem eM2 {x1:aA YY} (c:x1.length<=12) (b:∀y∈x1,y.sm):Ok (eF1 x1) (fun _=>True):=by
 unfold eF1;refine oJ (fun _=>?_);have n:=c;refine pY (l:=x1) (fun q=>q) (nO2 c (by decide)) rfl (fun s p w f a e d i=>?_) (fun w a=>?_) fun z=>?_;simp only[e,d,nt];have k:=b _ f;refine cA (eK2 k) fun A=>?_;refine oJ (fun _=>?_);exact .mk i;simp only[a,nf];exact bH;rcases z with B|_;exact bH;refine Ob (P:=fun r=>r=true->(decide ((x1.length:Int)>0))=true) ?_ fun v j=>?_;refine Oi (fun c622=>?_) (fun _=>.mk (fun h=>by cases h));have o:=c;refine Ob (P:=fun x=>x∈x1) (cK (by(simp only[nm]at *;rw[bM (by omega) (by omega)];omega)) (by(simp only[nm]at *;rw[bM (by omega) (by omega)];omega)) (fun _ h _=>h)) fun C g=>?_;have m:=b _ g;refine cA (eL2 m) fun u=>?_;exact .mk (fun _=>c622);refine Oi (fun c628=>?_) (fun c628=>?_);have t:=j c628;exact bH;exact bH
theorem T75 {x1:YE} (a:x1.sm):Ok (F75 x1) (fun _=>True):=by
 unfold F75;refine cA (wA) fun x=>?_;refine cA (wA) fun y=>?_;refine cA (aA1 (by simp)) fun z=>?_;refine oJ (fun _=>?_);refine cA (tR1) fun A=>?_;refine oJ (fun _=>?_);refine Ob (eB2 a) fun B b=>?_;refine cA (eF2 a b) fun C=>?_;refine oJ (fun _=>?_);refine Ob (P:=fun r=>r=true->(x1.cU !=3)=true) ?_ fun E c=>?_;refine Oi (fun c640=>?_) (fun _=>.mk (fun h=>by cases h));refine Ob (tS1) fun D d=>?_;exact .mk (fun _=>c640);refine Oi (fun c642=>?_) (fun c642=>?_);have e:=c c642;exact bH;refine Oi (fun c644=>?_) (fun c644=>?_);refine cA (eI2 a.eR) fun f=>?_;refine cA (eJ2 a.fS) fun g=>?_;refine cA (eM2 a.dA a.uJ) fun i=>?_;refine cA (aA1 (by simp)) fun j=>?_;refine oJ (fun _=>?_);refine cA (wA) fun k=>?_;refine cA (wA) fun l=>?_;refine cA (wA) fun m=>?_;refine cA (wA) fun n=>?_;refine cA (wA) fun o=>?_;refine cA (aA1 (by simp)) fun p=>?_;exact bH;refine cA (wA) fun q=>?_;refine cA (wA) fun s=>?_;refine cA (wA) fun t=>?_;refine cA (wA) fun u=>?_;refine cA (wA) fun v=>?_;refine cA (aA1 (by simp)) fun w=>?_;exact bH
theorem eN2 {x1:YE} (a:x1.sm):Ok (eH1 x1) (fun _=>True):=by
 unfold eH1;refine cA (T75 a) fun b=>?_;exact bH
theorem eO2 {x1:aA YE} (f:x1.length<=20) (g:∀y∈x1,y.sm):Ok (eI1 x1) (fun _=>True):=by
 unfold eI1;have i:=f;refine pY (l:=x1) (fun q=>q) (nO2 f (by decide)) rfl (fun k j m d a c b e=>?_) (fun m a=>?_) fun n=>?_;simp only[c,b,nt];have h:=g _ d;refine cA (eN2 h) fun o=>?_;refine oJ (fun _=>?_);exact .mk e;simp only[a,nf];exact bH;rcases n with p|_;exact bH;exact bH
theorem tT1 {x1:aA YE} (b:x1.length<=20) (a:∀y∈x1,y.sm):Ok (Yi x1) (fun _=>True):=by
 unfold Yi;refine cA (eO2 b a) fun c=>?_;exact bH
theorem eP2 {x1:YO} (b:x1.sm):Ok (eJ1 x1) (fun _=>True):=by
 unfold eJ1;refine Ob (P:=fun r=>r=true->(decide ((x1.aU.length:Int)>0))=true) ?_ fun g d=>?_;refine Oi (fun c679=>?_) (fun _=>.mk (fun h=>by cases h));have c:=b.aU;refine Ob (P:=fun x=>x∈x1.aU) (cK (by omega) (by(simp only[nm]at *;omega)) (fun _ h _=>h)) fun f a=>?_;have e:=b.fH _ a;exact .mk (fun _=>c679);exact bH
theorem eQ2 {x1:YA} (b: -1<=x1.Log/\x1.Log<=8/\0<=x1.qD/\x1.qD<=3):Ok (eK1 x1) (fun _=>True):=by
 unfold eK1;refine Ob (uI (by rw[bM (by omega) (by omega)];omega)) fun n _=>?_;refine Ob (P:=fun _=>True) (kH (fun q=>q.2.2) x1.qD (fun _=>True) (by omega) (by dsimp only;omega) trivial (fun q _ h1 h2=>?_)) fun r _=>bH;obtain⟨a,n,i⟩:=q;dsimp only at h1 h2 ⊢;refine Oi (fun hc=>?_) (fun _=>bH);simp only[nR2]at hc;exact Ob (uH (by decide)) fun x _=>.mk ⟨hc,h2 hc,trivial⟩
theorem eR2 {x1:YA}:Ok (eL1 x1) (fun _=>True):=by
 unfold eL1;refine Ob (tS1) fun b a=>?_;refine oJ (fun _=>?_);refine cA (eQ2 (by(simp only[nm]at *;omega))) fun c=>?_;exact bH
theorem eS2 {x1:YE} (a:x1.sm):Ok (eM1 x1) (fun _=>True):=by
 unfold eM1;refine cA (T75 a) fun b=>?_;refine oJ (fun _=>?_);refine cA (eR2) fun⟨c,d⟩=>?_;exact bH
theorem eT2 {x1:aA YE} (g:x1.length<=20) (c:∀y∈x1,y.sm):Ok (eN1 x1) (fun v=>v.length<=20):=by
 unfold eN1;refine Ob (pX (by omega) (by omega) (by omega)) fun n h2=>?_;refine Ob (P:=fun v=>v.length=x1.length) (bX (l:=x1) (fun q=>q.1) (fun _ q=>q.2.length=x1.length) (by omega) rfl (by rw[h2];simp) (fun i e q k f hi hl d hg hw=>?_) (fun q hi d=>?_)) fun v hv=>.mk (by omega);obtain⟨x,l⟩:=q;dsimp only at hi hl d hg hw;simp only[hl,hg,nt];refine Ob (eS2 (c e f)) fun⟨a,b⟩ _=>?_;refine Ob (kG (by omega) (by omega)) fun j h=>?_;refine Ob (Qj (by omega)) fun m f=>.mk ⟨hw,by dsimp only;omega⟩;obtain⟨x,l⟩:=q;dsimp only at hi d;simp only[hi,nf];exact .mk d
theorem tU1 {x1:Int}:Ok (Yj x1) (fun v=>v=true->1<=x1/\x1<=32):=by
 unfold Yj;exact .mk (by(simp only[nm]at *;omega))
theorem eU2 {x1 a:YU}:Ok (eO1 x1 a) (fun _=>True):=by
 unfold eO1;refine Oi (fun c690=>?_) (fun c690=>?_);refine oJ (fun _=>?_);exact bH;refine Oi (fun c692=>?_) (fun c692=>?_);refine oJ (fun _=>?_);exact bH;exact bH
theorem gW1 {x1:YU}:Ok (Mv x1) (fun v=>v=bD (x1.iV+x1.gC)):=by
 unfold Mv;exact .mk (by rfl)
theorem tV1 {x1:YU} {a:aA YU} (g:a.length<=6) (i:a.length<=3):Ok (Qb x1 a) (fun v=>v.2.length<=3):=by
 unfold Qb;refine Ob (P:=fun v=>v.length<=3) (fZ (fun l=>l.length<=3) (fun l=>l.length) (fun l hl=>?_) bK a i (by simp only[bK];omega)) fun x d=>?_;refine Ob (P:=fun r=>r=true->0<l.length) (Oi (fun hc=>?_) (fun _=>.mk (fun h=>by cases h))) fun b hb=>?_;simp only[nR2]at hc;refine Ob (kG (by rw[bM (by omega) (by omega)];omega) (by rw[bM (by omega) (by omega)];omega)) fun j c=>?_;exact Ob (mG c.2) fun y _=>Ob gW1 fun e _=>.mk (fun _=>by omega);refine Oi (fun hc=>?_) (fun _=>.mk hl);have:=hb hc;refine Ob (Tb this (by rw[bM (by omega) (by omega)];omega) (by rw[bM (by omega) (by omega)];omega)) fun m f=>?_;have:=f.1;rw[bM (by omega) (by omega)]at this;exact .mk ⟨by omega,by omega⟩;refine Ob (P:=fun r=>r=true\/x.length<3) (Oi (fun hc=>.mk (.inl rfl)) (fun hc=>?_)) fun b hb=>?_;have hc:x.length<3:=by simp only[pU2]at hc;omega
 refine Ob (P:=fun _=>True) (Oi (fun hd=>?_) (fun _=>bH)) fun b _=>.mk (.inr hc);simp only[nR2]at hd;refine Ob gW1 fun e _=>?_;refine Ob (kG (by rw[bM (by omega) (by omega)];omega) (by rw[bM (by omega) (by omega)];omega)) fun j c=>?_;exact Ob (mG c.2) fun y _=>Ob gW1 fun e _=>bH;refine Oi (fun _=>.mk d) (fun hc=>?_);have hb:x.length<3:=by rcases hb with h|h;exact absurd h hc;exact h
 refine Ob (gA (Q:=fun v=>v.length=x.length+1) (by omega) (by simp)) fun m f=>.mk (by dsimp only;omega)
theorem eV2 {x1:aA YU} {c:Int} (w:x1.length<=6):Ok (eP1 x1 c) (fun v=>v=0->∀t∈x1,t.ok c):=by
 unfold eP1;refine Oi (fun _=>.mk (fun h=>by cases h)) (fun k=>?_);refine Oi (fun _=>.mk (fun h=>by cases h)) (fun _=>?_);simp only[oE2,nR2,qG2]at k;refine Ob (P:=fun r=>match r with|.inl p=>p.1≠0|.inr _=>∀t∈x1,t.ok c) (bX (l:=x1) (fun q=>q.1) (fun i q=>q.2.length<=3/\∀j,j<i->∀t,x1[j]? =some t->t.ok c) (by omega) rfl ⟨by decide,fun j g=>by omega⟩ (fun i e q z u hi hl d hg hw=>?_) (fun q hi d=>?_)) fun v hv=>?_;obtain⟨x,l⟩:=q;dsimp only at hi hl d hg hw;simp only[hl,hg,nt];refine Ob (P:=fun r=>r=false->(1<=e.gC/\e.gC<=c/\0<=e.iV/\e.iV+e.gC<=c/\1<=e.fO/\e.fO<=32)) (Oi (fun _=>.mk (fun h=>by cases h)) (fun hc=>?_)) fun b1 h1=>?_;simp only[oE2,nR2,qG2]at hc;rw[bM (by omega) (by omega)]at hc;refine Ob tU1 fun r hr=>.mk (fun h=>?_);have:=hr (by simpa using h);omega;refine Ob (P:=fun r=>r=false->e.ok c) (Oi (fun hc=>.mk (fun h=>by cases h)) (fun hc=>?_)) fun b2 h2=>?_;refine Ob tU1 fun r hr=>.mk (fun h=>?_);have:=hr (by simpa using h);have:=h1 (by simpa using hc);unfold YU.ok;omega;refine Oi (fun _=>.mk (show(2:Int)≠0 by decide)) (fun hc=>?_);have s:e.ok c:=h2 (by simp only[oE2,qG2,qC2]at hc;exact hc.1);refine Ob (P:=fun _=>True) (Oi (fun hd=>?_) (fun _=>bH)) fun b3 _=>?_;simp only[nR2]at hd;have:=gB hg;refine Ob (cK (Q:=fun _=>True) (by rw[bM (by omega) (by omega)];omega) (by rw[bM (by omega) (by omega)];omega) (fun _ _ _=>trivial)) fun y _=>?_;exact Ob eU2 fun o _=>bH;refine Oi (fun _=>.mk (show(25:Int)≠0 by decide)) (fun _=>?_);refine Ob (tV1 (oL2 d.1 (by decide)) d.1) fun⟨a,m⟩ u=>?_;refine Oi (fun _=>.mk (show(21:Int)≠0 by decide)) (fun _=>.mk ⟨hw,u,fun j g t f=>?_⟩);by_cases n:j=i;subst n;rw[z]at f;cases f;exact s;exact d.2 j (by omega) t f;obtain⟨x,l⟩:=q;dsimp only at hi d;simp only[hi,nf];refine .mk (fun t f=>?_);obtain⟨j,g⟩:=oF2.1 f;exact d.2 j (nK2.1 g).1 t g;rcases v with⟨a,b⟩|b;exact .mk (fun h=>absurd h hv);exact .mk (fun _=>hv)
theorem eW2 {x1:YU} {a:Int}:Ok (eQ1 x1 a) (fun _=>True):=by
 unfold eQ1;exact bH
theorem eX2 {x1 c:Int} (i:0<x1/\0<c/\c<9223372036854775808):Ok (eR1 x1 c) (fun v=>0<v/\v∣x1/\v∣c):=by
 unfold eR1;refine Ob (P:=fun v=>0<v/\v∣x1/\v∣c) (fZ (fun q=>0<q.1/\0<=q.2/\∀d:Int,d∣q.1->d∣q.2->d∣x1/\d∣c) (fun q=>q.2.toNat) (fun q h=>?_) bK (x1,c) ⟨i.1,by dsimp only;omega,fun d h1 h2=>⟨h1,h2⟩⟩ (by simp only[bK];omega)) fun v hv=>.mk hv;obtain⟨a,b⟩:=q;obtain⟨h1,h2,f⟩:=h;dsimp only at h1 h2 f;refine Oi (fun hc=>?_) (fun hc=>?_)<;>simp only[nR2]at hc;refine Ob (Gd (by omega)) fun n hn=>?_;have g:n=a%b:=by rw[hn,Int.tmod_eq_emod_of_nonneg (by omega)]
 have e2:=Int.emod_nonneg a (by omega:b≠0);have j:=Int.emod_lt_of_pos a hc;refine .mk ⟨⟨hc,by dsimp only;omega,fun d d1 e=>f d ?_ d1⟩,by dsimp only;omega⟩;dsimp only at d1 e;rw[g]at e;have:=Int.emod_add_mul_ediv a b;rw[<-this];exact Int.dvd_add e (Int.dvd_trans d1 (Int.dvd_mul_right b _));have:b=0:=by omega
 subst this;exact .mk ⟨h1,f a (Int.dvd_refl a) (Int.dvd_zero a)⟩
theorem eY2 {x1:aA YU} {F:Int} (s:x1.length<=6) (A:∀t∈x1,1<=t.fO/\t.fO<=32/\1<=t.gO/\t.gO<=32):Ok (eS1 x1 F) (fun v=>1<=v.2):=by
 unfold eS1;refine Ob (P:=fun v=>1<=v.2) (bX (l:=x1) (fun q=>q.2.2) (fun i q=>1<=q.1/\q.1<=32^i/\1<=q.2.1/\q.2.1<=32^i) (by omega) rfl ⟨by decide,by decide,by decide,by decide⟩ (fun i e q B w hi hl f hg hw=>?_) (fun q hi f=>?_)) fun v hv=>.mk hv;obtain⟨a,b,x⟩:=q;dsimp only at hi hl f hg hw;simp only[hl,hg,nt];have j:=A e w;refine Ob eW2 fun c _=>?_;have u:i<=5:=by omega
 have y:(32:Int)^i<=33554432:=by
  have:i=0\/i=1\/i=2\/i=3\/i=4\/i=5:=by omega
  rcases this with rfl|rfl|rfl|rfl|rfl|rfl<;>decide
 have z:(32:Int)^(i+1)=32^i*32:=Int.pow_succ 32 i;refine Ob (P:=fun v=>1<=v.1/\v.1<=32^(i+1)/\1<=v.2/\v.2<=32^(i+1)) (Oi (fun _=>?_) (fun _=>?_)) fun⟨v1,v2⟩ hv=>.mk ⟨hw,hv⟩;have C:1<=a*e.gO:=Int.le_trans (by decide) (rC2 f.1 j.2.2.1 (by decide) (by omega));have E:a*e.gO<=32^i*32:=rC2 f.2.1 j.2.2.2 (by omega) (by omega);have d1:1<=b*e.fO:=Int.le_trans (by decide) (rC2 f.2.2.1 j.1 (by decide) (by omega));have r:b*e.fO<=32^i*32:=rC2 f.2.2.2 j.2.1 (by omega) (by omega);rw[bM (n:=a*e.gO) (by omega) (by omega),bM (n:=b*e.fO) (by omega) (by omega)];generalize a*e.gO=N at C E ⊢;generalize b*e.fO=D at d1 r ⊢;refine Ob (eX2 ⟨by omega,by omega,by omega⟩) fun g hg=>?_;obtain⟨G,⟨k,rfl⟩,⟨m,rfl⟩⟩:=hg
 have H:1<=k:=by
  rcases Int.lt_or_le k 1 with h|h;have:=Int.mul_nonneg (a:=g) (b:= -k) (by omega) (by omega);rw[Int.mul_neg]at this;omega;exact h
 have K:1<=m:=by
  rcases Int.lt_or_le m 1 with h|h;have:=Int.mul_nonneg (a:=g) (b:= -m) (by omega) (by omega);rw[Int.mul_neg]at this;omega;exact h
 have J:k<=g*k:=by
  have:=rC2 (a:=1) (b:=k) (c:=g) (d:=k) (by omega) (qJ2 k) (by omega) (by omega);omega
 have L:m<=g*m:=by
  have:=rC2 (a:=1) (b:=m) (c:=g) (d:=m) (by omega) (qJ2 m) (by omega) (by omega);omega
 refine Ob (uH (by omega)) fun q1 o=>?_;refine Ob (uH (by omega)) fun q2 p=>?_;rw[Int.mul_tdiv_cancel_left k (by omega),show IntKind.wrap .i64 k=bD k from rfl,bM (by omega) (by omega)]at o;rw[Int.mul_tdiv_cancel_left m (by omega),show IntKind.wrap .i64 m=bD m from rfl,bM (by omega) (by omega)]at p;exact .mk ⟨by dsimp only;omega,by dsimp only;omega,by dsimp only;omega,by dsimp only;omega⟩;exact .mk ⟨f.1,by dsimp only;omega,f.2.2.1,by dsimp only;omega⟩;obtain⟨a,b,x⟩:=q;dsimp only at hi f;simp only[hi,nf];exact .mk f.2.2.1
theorem tW1 {x1:aA YU} {e f:Int} (b:x1.length<=6) (g:∀t∈x1,1<=t.fO/\t.fO<=32/\1<=t.gO/\t.gO<=32):Ok (Yk x1 e f) (fun _=>True):=by
 unfold Yk;refine oJ (fun _=>?_);refine Ob (eY2 b (by omega)) fun⟨h,i⟩ a=>?_
 try dsimp only at a
 refine Ob (Gd (by omega)) fun j c=>?_;refine oJ (fun _=>?_);refine Ob (uH (by omega)) fun k d=>?_;exact bH
theorem tX1 {x1:aA YU} {f:aA Int} (d:x1.length<=6) (j:f.length<=20):Ok (Yl x1 f) (fun v=>v.1.length<=20/\(v.2=0->∀t∈x1,t.ok f.length)):=by
 unfold Yl;refine Ob (eV2 d) fun c hc=>?_;refine Oi (fun hd=>.mk ⟨oX2 _,fun h=>absurd h (by simpa using hd)⟩) (fun hd=>?_);have k:=hc (by simpa using hd);refine Ob (pX (by decide) (by omega) (by omega)) fun u n=>?_;refine Ob (P:=fun r=>match r with|.inl p=>p.1≠0|.inr l=>l.length<=f.length) (bX (l:=f) (fun q=>q.1) (fun i q=>q.2.length<=i) (by omega) rfl (by rw[n];decide) (fun i e q s o hi hl g hg hw=>?_) (fun q hi g=>?_)) fun v hv=>?_;obtain⟨x,l⟩:=q;dsimp only at hi hl g hg hw;simp only[hl,hg,nt];refine Ob (tW1 d (fun t h=>by have:=k t h;unfold YU.ok at this;omega)) fun⟨a,b⟩ _=>?_;refine Oi (fun hb=>.mk (by simpa using hb)) (fun _=>?_);exact Ob (gA (Q:=fun v=>v.length=l.length+1) (by omega) (by simp)) fun m o=>.mk ⟨hw,by dsimp only;omega⟩;obtain⟨x,l⟩:=q;dsimp only at hi g;simp only[hi,nf];exact .mk g;rcases v with⟨a,b⟩|b;exact .mk ⟨oX2 _,fun h=>absurd h hv⟩;exact .mk ⟨oL2 hv j,fun _=>k⟩
theorem eZ2 {x1:aA YU} {d:Int} {f:aA Int} (k:x1.length<=6) (m:f.length<=20) (j:0<=d/\d<(x1.length:Int)) (hy:∀t∈x1,t.ok f.length):Ok (eT1 x1 d f) (fun _=>True):=by
 unfold eT1;refine Ob (cK (Q:=fun x=>x∈x1) j.1 j.2 (fun _ h _=>h)) fun g c=>?_;have o:=hy g c;unfold YU.ok at o;refine Ob (P:=fun _=>True) (kH (fun q=>q.2) (g.iV+g.gC) (fun _=>True) (by omega) (by dsimp only;omega) trivial (fun q _ h1 h2=>?_)) fun r _=>?_;obtain⟨s,i⟩:=q;dsimp only at h1 h2 ⊢;refine Ob gW1 fun e he=>?_;rw[bM (by omega) (by omega)]at he;subst he;refine Oi (fun hc=>?_) (fun _=>bH);simp only[nR2]at hc;refine Ob (Dp (by rw[bM (by omega) (by omega)];omega) (by rw[bM (by omega) (by omega)];omega) (by omega)) fun l hl=>?_;refine Ob (cK (Q:=fun _=>True) (by omega) (by omega) (fun _ _ _=>trivial)) fun y _=>?_;refine Ob (tW1 (by omega) (fun t h=>by have:=hy t (hl.2 t h);unfold YU.ok at this;omega)) fun⟨a,b⟩ _=>?_;exact Oi (fun _=>bH) (fun _=>.mk ⟨hc,h2 hc,trivial⟩);rcases r with a|a;exact bH;refine Ob (P:=fun _=>True) (kH (fun q=>q) 9 (fun _=>True) (by decide) (by decide) trivial (fun q _ h1 h2=>?_)) fun r _=>?_;refine Oi (fun hc=>?_) (fun _=>bH);simp only[nR2]at hc;refine Ob (uI (by rw[bM (by omega) (by omega)];omega)) fun n _=>?_;exact Oi (fun _=>bH) (fun _=>.mk ⟨by omega,h2 (by omega),trivial⟩);rcases r with a|a<;>exact bH
theorem fA2 {x1:aA YU} {h:aA Int} (c:x1.length<=6) (d:h.length<=20):Ok (eU1 x1 h) (fun _=>True):=by
 unfold eU1;refine Ob (tX1 c d) fun⟨a,b⟩ f=>?_;dsimp only at f;refine Oi (fun _=>bH) (fun hd=>?_);have n:=f.2 (by simpa using hd);refine Ob (pX (by decide) (by omega) (by omega)) fun p j=>?_;refine Ob (P:=fun _=>True) (bX (l:=x1) (fun q=>q.1) (fun i q=>q.2.length<=i) (by omega) rfl (by rw[j];decide) (fun i e q o k hi hl g hg hw=>?_) (fun q hi g=>?_)) fun v hv=>?_;obtain⟨x,l⟩:=q;dsimp only at hi hl g hg hw;simp only[hl,nt];refine Ob (eZ2 c d ⟨by omega,hl⟩ n) fun⟨a,b⟩ _=>?_;refine Oi (fun hb=>bH) (fun _=>?_);exact Ob (gA (Q:=fun v=>v.length=l.length+1) (by omega) (by simp)) fun m k=>.mk ⟨hw,by dsimp only;omega⟩;obtain⟨x,l⟩:=q;dsimp only at hi g;simp only[hi,nf];exact bH;rcases v with a|b<;>exact bH
theorem fB2 {x1:YO} (a:x1.sm):Ok (eV1 x1) (fun v=>v.1.length<=20):=by
 unfold eV1;have j:=a.aU;refine pY (l:=x1.aU) (fun q=>q) (nO2 a.aU (by decide)) rfl (fun m k s f b e d g=>?_) (fun s b=>?_) fun t=>?_;simp only[e,d,nt];have i:=a.fH _ f;refine cA (T75 i) fun u=>?_;refine oJ (fun _=>?_);refine oJ (fun _=>?_);exact .mk g;simp only[b,nf];exact bH;rcases t with w|_;exact .mk (by(simp only[nm,nl]at *;omega));refine Ob (eT2 a.aU a.fH) fun x c=>?_;refine Ob (tX1 a.gN c) fun⟨n,o⟩ h=>?_
 try dsimp only at h
 refine Oi (fun c716=>?_) (fun c716=>?_);exact .mk (by(simp only[nm,nl]at *;omega));refine cA (fA2 a.gN c) fun⟨p,r⟩=>?_;refine Oi (fun c718=>?_) (fun c718=>?_);exact .mk (by(simp only[nm,nl]at *;omega));exact .mk (by(simp only[nm]at *;omega))
theorem fC2 {x1:YO} {f:Int} (a:x1.sm):Ok (eW1 x1 f) (fun v=>v.1.length<=20):=by
 unfold eW1;refine Oi (fun c719=>?_) (fun c719=>?_);exact .mk (by(simp only[nm,nl]at *;omega));refine Oi (fun c720=>?_) (fun c720=>?_);exact .mk (by(simp only[nm,nl]at *;omega));refine cA (eP2 a) fun g=>?_;refine Oi (fun c722=>?_) (fun c722=>?_);have e:=a.aU;refine Ob (P:=fun x=>x∈x1.aU) (cK (by omega) (by(simp only[nm]at *;omega)) (fun _ h _=>h)) fun i b=>?_;have d:=a.fH _ b;refine cA (T75 d) fun j=>?_;refine Oi (fun c728=>?_) (fun c728=>?_);exact .mk (by(simp only[nm,nl]at *;omega));refine Oi (fun c729=>?_) (fun c729=>?_);exact .mk (by(simp only[nm,nl]at *;omega));exact .mk (by(simp only[nm,nl]at *;omega));refine Ob (fB2 a) fun⟨k,l⟩ c=>?_
 try dsimp only at c
 exact .mk (by omega)
theorem fD2 {x1:aA Int} (e:x1.length<=20):Ok (eX1 x1) (fun _=>True):=by
 unfold eX1;have g:=e;refine pY (l:=x1) (fun q=>q.2) (nO2 e (by decide)) rfl (fun i h q741 f a c b d=>?_) (fun q741 a=>?_) fun m=>?_;obtain⟨j,k⟩:=q741;dsimp only at a c b d;simp only[c,b,nt];exact .mk d;obtain⟨j,k⟩:=q741;dsimp only at a;simp only[a,nf];exact bH;exact bH
theorem tY1 {x1:YO} {e:Int} (c:x1.sm):Ok (Ym x1 e) (fun v=>v.1.length<=20):=by
 unfold Ym;refine Ob (fC2 c) fun⟨f,g⟩ a=>?_
 try dsimp only at a
 refine Ob (P:=fun r=>r=true->((g==0)&&(decide ((f.length:Int)>0)))=true) ?_ fun j b=>?_;refine Oi (fun c745=>?_) (fun _=>.mk (fun h=>by cases h));refine cA (fD2 a) fun i=>?_;exact .mk (fun _=>c745);refine cA ?_ fun k=>?_;refine Oi (fun c748=>?_) (fun c748=>?_);have d:=b c748;exact bH;exact bH;refine Oi (fun c750=>?_) (fun c750=>?_);exact .mk (by(simp only[nm,nl]at *;omega));exact .mk (by omega)
theorem tZ1 {x1:YO} {c:Int} (b:x1.sm):Ok (Yn x1 c) (fun _=>True):=by
 unfold Yn;refine Ob (tY1 b) fun⟨d,e⟩ a=>?_
 try dsimp only at a
 exact bH
theorem T71 {x1:Int}:Ok (F71 x1) (fun _=>True):=by
 unfold F71;exact bH
theorem fE2 {x1:YO} {c:Int} (a:x1.sm):Ok (eY1 x1 c) (fun _=>True):=by
 unfold eY1;refine cA (tT1 a.aU a.fH) fun d=>?_;refine Ob (P:=fun r=>r=true->(!d)=true) ?_ fun g b=>?_;refine Oi (fun c754=>?_) (fun _=>.mk (fun h=>by cases h));refine cA (tZ1 a) fun e=>?_;refine cA (T71) fun f=>?_;exact .mk (fun _=>c754);exact bH
theorem fF2 {x1:aA YO} {m:Int} (f:x1.length<=3) (g:∀y∈x1,y.sm):Ok (eZ1 x1 m) (fun _=>True):=by
 unfold eZ1;have i:=f;refine pY (l:=x1) (fun q=>q) (nO2 f (by decide)) rfl (fun k j n d a c b e=>?_) (fun n a=>?_) fun o=>?_;simp only[c,b,nt];have h:=g _ d;refine cA (fE2 h) fun p=>?_;refine oJ (fun _=>?_);exact .mk e;simp only[a,nf];exact bH;rcases o with r|_;exact bH;exact bH
theorem fG2 {x1:aA YO} {c:Int} (b:x1.length<=3) (a:∀y∈x1,y.sm):Ok (fA1 x1 c) (fun _=>True):=by
 unfold fA1;refine cA (fF2 b a) fun d=>?_;exact bH
theorem fH2 {x1:YW} {b:Int} (a:x1.sm):Ok (fB1 x1 b) (fun _=>True):=by
 unfold fB1;refine cA (fG2 a.aO a.fI) fun c=>?_;exact bH
theorem fI2 {x1:aA YW} {m:Int} (f:x1.length<=5) (g:∀y∈x1,y.sm):Ok (fC1 x1 m) (fun _=>True):=by
 unfold fC1;have i:=f;refine pY (l:=x1) (fun q=>q) (nO2 f (by decide)) rfl (fun k j n d a c b e=>?_) (fun n a=>?_) fun o=>?_;simp only[c,b,nt];have h:=g _ d;refine cA (fH2 h) fun p=>?_;refine oJ (fun _=>?_);exact .mk e;simp only[a,nf];exact bH;rcases o with r|_;exact bH;exact bH
theorem fJ2 {x1:aA YW} {c:Int} (b:x1.length<=5) (a:∀y∈x1,y.sm):Ok (fD1 x1 c) (fun _=>True):=by
 unfold fD1;refine cA (fI2 b a) fun d=>?_;exact bH
theorem fK2 {x1:Int} {b:YM} (a:b.sm):Ok (fE1 x1 b) (fun _=>True):=by
 unfold fE1;refine cA (T68 a) fun⟨c,d⟩=>?_;refine oJ (fun _=>?_);refine cA (fJ2 a.aS a.gZ) fun e=>?_;exact bH
theorem lT1 {x1:aA YV} {k:Y0} {t:Int} (p:x1.length+12<=1000000) (f:k.sm):Ok (Fg x1 k t) (fun v=>x1.length<=v.length/\v.length<=x1.length+12):=by
 unfold Fg;have i:=f.aE;refine og k.aE x1 12 1 (nO2 f.aE (by decide)) (fun n l q802 j g a d b c e=>?_) (fun q802 a b=>?_) fun s o=>?_;obtain⟨u,w⟩:=q802;dsimp only at a d c e b;simp only[d,c,nt];have h:=f.cH _ g;refine cA (fK2 h) fun q=>?_;refine Ob (lZ (by first|omega|(simp only[nZ2]at *;omega)) f) fun r m=>?_;exact .mk ⟨e,by dsimp only;omega⟩;obtain⟨u,w⟩:=q802;dsimp only at a b;simp only[a,nf];exact .mk (by dsimp only;omega);exact .mk (by omega)
theorem fL2 {x1:aA YV} {c:Y0} {e:Int} (d:x1.length+12<=1000000) (a:c.sm):Ok (fG1 x1 c e) (fun v=>x1.length<=v.length/\v.length<=x1.length+12):=by
 unfold fG1;refine Ob (lT1 (by first|omega|(simp only[nZ2]at *;omega)) a) fun f b=>?_;exact .mk (by omega)
theorem uA1 {x1:aA YV} {c:Y0} {e:Int} (d:x1.length+12<=1000000) (a:c.sm):Ok (Yo x1 c e) (fun v=>x1.length<=v.length/\v.length<=x1.length+12):=by
 unfold Yo;refine Ob (fL2 (by first|omega|(simp only[nZ2]at *;omega)) a) fun f b=>?_;exact .mk (by omega)
theorem T72 {x1:Int}:Ok (F72 x1) (fun _=>True):=by
 unfold F72;refine Ob (P:=fun r=>r=true->(x1 !=0)=true) ?_ fun c a=>?_;refine Oi (fun c810=>?_) (fun _=>.mk (fun h=>by cases h));refine cA (T71) fun b=>?_;exact .mk (fun _=>c810);exact bH
theorem lU1 {x1:YO} {c:Int} (a:x1.sm):Ok (Fh x1 c) (fun _=>True):=by
 unfold Fh;refine cA (tT1 a.aU a.fH) fun d=>?_;refine Ob (P:=fun r=>r=true->(!d)=true) ?_ fun g b=>?_;refine Oi (fun c814=>?_) (fun _=>.mk (fun h=>by cases h));refine cA (tZ1 a) fun e=>?_;refine cA (T72) fun f=>?_;exact .mk (fun _=>c814);exact bH
theorem lV1 {x1:aA YO} {m:Int} (f:x1.length<=3) (g:∀y∈x1,y.sm):Ok (Fi x1 m) (fun _=>True):=by
 unfold Fi;have i:=f;refine pY (l:=x1) (fun q=>q) (nO2 f (by decide)) rfl (fun k j n d a c b e=>?_) (fun n a=>?_) fun o=>?_;simp only[c,b,nt];have h:=g _ d;refine cA (lU1 h) fun p=>?_;refine oJ (fun _=>?_);exact .mk e;simp only[a,nf];exact bH;rcases o with r|_;exact bH;exact bH
theorem lW1 {x1:aA YO} {c:Int} (b:x1.length<=3) (a:∀y∈x1,y.sm):Ok (Fj x1 c) (fun _=>True):=by
 unfold Fj;refine cA (lV1 b a) fun d=>?_;exact bH
theorem lX1 {x1:YW} {b:Int} (a:x1.sm):Ok (Fk x1 b) (fun _=>True):=by
 unfold Fk;refine cA (lW1 a.aO a.fI) fun c=>?_;exact bH
theorem lY1 {x1:aA YW} {m:Int} (f:x1.length<=5) (g:∀y∈x1,y.sm):Ok (Fl x1 m) (fun _=>True):=by
 unfold Fl;have i:=f;refine pY (l:=x1) (fun q=>q) (nO2 f (by decide)) rfl (fun k j n d a c b e=>?_) (fun n a=>?_) fun o=>?_;simp only[c,b,nt];have h:=g _ d;refine cA (lX1 h) fun p=>?_;refine oJ (fun _=>?_);exact .mk e;simp only[a,nf];exact bH;rcases o with r|_;exact bH;exact bH
theorem lZ1 {x1:aA YW} {c:Int} (b:x1.length<=5) (a:∀y∈x1,y.sm):Ok (Fm x1 c) (fun _=>True):=by
 unfold Fm;refine cA (lY1 b a) fun d=>?_;exact bH
theorem mA1 {x1:Int} {b:YM} (a:b.sm):Ok (Fo x1 b) (fun _=>True):=by
 unfold Fo;refine cA (T68 a) fun⟨c,d⟩=>?_;refine oJ (fun _=>?_);refine cA (lZ1 a.aS a.gZ) fun e=>?_;exact bH
theorem mB1 {x1:aA YV} {k:Y0} {t:Int} (p:x1.length+12<=1000000) (f:k.sm):Ok (Fp x1 k t) (fun v=>x1.length<=v.length/\v.length<=x1.length+12):=by
 unfold Fp;have i:=f.aE;refine og k.aE x1 12 1 (nO2 f.aE (by decide)) (fun n l q862 j g a d b c e=>?_) (fun q862 a b=>?_) fun s o=>?_;obtain⟨u,w⟩:=q862;dsimp only at a d c e b;simp only[d,c,nt];have h:=f.cH _ g;refine cA (mA1 h) fun q=>?_;refine Ob (lZ (by first|omega|(simp only[nZ2]at *;omega)) f) fun r m=>?_;exact .mk ⟨e,by dsimp only;omega⟩;obtain⟨u,w⟩:=q862;dsimp only at a b;simp only[a,nf];exact .mk (by dsimp only;omega);exact .mk (by omega)
theorem mC1 {x1:aA YV} {c:Y0} {e:Int} (d:x1.length+12<=1000000) (a:c.sm):Ok (Fq x1 c e) (fun v=>x1.length<=v.length/\v.length<=x1.length+12):=by
 unfold Fq;refine Ob (mB1 (by first|omega|(simp only[nZ2]at *;omega)) a) fun f b=>?_;exact .mk (by omega)
theorem uB1 {x1:aA YV} {c:Y0} {e:Int} (d:x1.length+12<=1000000) (a:c.sm):Ok (Yp x1 c e) (fun v=>x1.length<=v.length/\v.length<=x1.length+12):=by
 unfold Yp;refine Ob (mC1 (by first|omega|(simp only[nZ2]at *;omega)) a) fun f b=>?_;exact .mk (by omega)
theorem T74 {x1:YP} {b:YE} (a:b.sm):Ok (F74 x1 b) (fun _=>True):=by
 unfold F74;refine cA (T75 a) fun c=>?_;exact bH
theorem fM2 {x1:aA YV} {W:Y0} {x3:Int} (d9:x1.length+3600<=1000000) (y:W.sm):Ok (fQ1 x1 W x3) (fun v=>x1.length<=v.length/\v.length<=x1.length+3600):=by
 unfold fQ1;have N:=y.aE;refine og W.aE x1 3600 300 (nO2 y.aE (by decide)) (fun b4 D q881 S z c m g a q=>?_) (fun q881 c g=>?_) fun d4 d5=>?_;obtain⟨X,K⟩:=q881;dsimp only at c m a q g;simp only[m,a,nt];have u:=y.cH _ z;have O:=u.aS;refine og D.aS K 300 60 (nO2 u.aS (by decide)) (fun b5 E q895 T A d n h b r=>?_) (fun q895 d h=>?_) fun d3 d6=>?_;obtain⟨Y,L⟩:=q895;dsimp only at d n b r h;simp only[n,a,b,nt];have w:=u.gZ _ A;have P:=w.aO;refine og E.aO L 60 20 (nO2 w.aO (by decide)) (fun b6 F q909 U B e o i k s=>?_) (fun q909 e i=>?_) fun d2 d7=>?_;obtain⟨Z,M⟩:=q909;dsimp only at e o k s i;simp only[o,a,b,k,nt];have x:=w.fI _ B;have R:=x.aU;refine og F.aU M 20 1 (nO2 x.aU (by decide)) (fun b7 a0 q923 V C f p j l t=>?_) (fun q923 f j=>?_) fun d0 d8=>?_;obtain⟨H,J⟩:=q923;dsimp only at f p l t j;simp only[p,a,b,k,l,nt];have G:=x.fH _ C;refine cA (T74 G) fun b8=>?_;refine Ob (lZ (by first|omega|(simp only[nZ2]at *;omega)) y) fun b9 b0=>?_;exact .mk ⟨t,by dsimp only;omega⟩;obtain⟨H,J⟩:=q923;dsimp only at f j;simp only[f,nf];exact .mk (by dsimp only;omega);exact .mk ⟨s,by dsimp only;omega⟩;obtain⟨Z,M⟩:=q909;dsimp only at e i;simp only[e,nf];exact .mk (by dsimp only;omega);exact .mk ⟨r,by dsimp only;omega⟩;obtain⟨Y,L⟩:=q895;dsimp only at d h;simp only[d,nf];exact .mk (by dsimp only;omega);exact .mk ⟨q,by dsimp only;omega⟩;obtain⟨X,K⟩:=q881;dsimp only at c g;simp only[c,nf];exact .mk (by dsimp only;omega);exact .mk (by omega)
theorem uC1 {x1:aA YV} {c:Y0} {e:Int} (d:x1.length+3600<=1000000) (a:c.sm):Ok (Yq x1 c e) (fun v=>x1.length<=v.length/\v.length<=x1.length+3600):=by
 unfold Yq;refine Ob (fM2 (by first|omega|(simp only[nZ2]at *;omega)) a) fun f b=>?_;exact .mk (by omega)
theorem T77 {x1:Y0} {d:Int} (c:x1.sm):Ok (F77 x1 d) (fun v=>v.2.2=0->0<=v.1/\v.1<(x1.bE.length:Int)):=by
 unfold F77;have f:=c.bE;refine Oi (fun _=>.mk (fun h=>absurd (show(2:Int)=0 from h) (by decide))) (fun _=>?_);refine Ob (P:=fun r=>match r with|.inl p=>0<=p.1/\p.1<(x1.bE.length:Int)|.inr _=>True) (bX (l:=x1.bE) (fun q=>q.2) (fun _ _=>True) (by omega) rfl trivial (fun i e q j g hi hl _ hg hw=>?_) (fun q hi _=>?_)) fun r hr=>?_;obtain⟨s,x⟩:=q;dsimp only at hi hl hg hw;simp only[hl,hg,nt];exact Oi (fun _=>.mk ⟨by dsimp only;omega,hl⟩) (fun _=>.mk ⟨hw,trivial⟩);obtain⟨s,x⟩:=q;dsimp only at hi;simp only[hi,nf];exact bH;rcases r with⟨a,b⟩|_;exact .mk (fun _=>hr);exact .mk (fun h=>absurd (show(2:Int)=0 from h) (by decide))
theorem T78 {x1:YH} {a:Int}:Ok (F78 x1 a) (fun _=>True):=by
 unfold F78;refine cA (T28) fun⟨b,c⟩=>?_;refine cA (Gk) fun d=>?_;exact bH
theorem T80 {x1:YB} {a:Int}:Ok (F80 x1 a) (fun _=>True):=by
 unfold F80;refine cA (T78) fun b=>?_;exact bH
theorem fN2 {x1:aA YB} {j:Int} (e:x1.length<=12):Ok (fR1 x1 j) (fun _=>True):=by
 unfold fR1;have g:=e;refine pY (l:=x1) (fun q=>q) (nO2 e (by decide)) rfl (fun i h k f a c b d=>?_) (fun k a=>?_) fun m=>?_;simp only[c,b,nt];refine cA (T80) fun n=>?_;refine oJ (fun _=>?_);exact .mk d;simp only[a,nf];exact bH;rcases m with o|_;exact bH;exact bH
theorem T79 {x1:aA YB} {b:Int} (a:x1.length<=12):Ok (F79 x1 b) (fun _=>True):=by
 unfold F79;refine cA (fN2 a) fun c=>?_;exact bH
theorem T82 {x1:YD} {a:Int}:Ok (F82 x1 a) (fun _=>True):=by
 unfold F82;refine cA (T78) fun b=>?_;exact bH
theorem fO2 {x1:aA YD} {j:Int} (e:x1.length<=12):Ok (fS1 x1 j) (fun _=>True):=by
 unfold fS1;have g:=e;refine pY (l:=x1) (fun q=>q) (nO2 e (by decide)) rfl (fun i h k f a c b d=>?_) (fun k a=>?_) fun m=>?_;simp only[c,b,nt];refine cA (T82) fun n=>?_;refine oJ (fun _=>?_);exact .mk d;simp only[a,nf];exact bH;rcases m with o|_;exact bH;exact bH
theorem T81 {x1:aA YD} {b:Int} (a:x1.length<=12):Ok (F81 x1 b) (fun _=>True):=by
 unfold F81;refine cA (fO2 a) fun c=>?_;exact bH
theorem T76 {x1:YP} {k:YE} {g:YK} (a:k.sm) (b:g.s'.sm):Ok (F76 x1 k g) (fun _=>True):=by
 unfold F76;refine cA (T75 a) fun o=>?_;refine oJ (fun _=>?_);refine Ob (T77 b) fun⟨p,q,s⟩ d=>?_
 try dsimp only at d
 refine cA ?_ fun u=>?_;refine Oi (fun c965=>?_) (fun c965=>?_);have e:=b.bE;refine Ob (P:=fun x=>x∈g.s'.bE) (cK (by(simp only[nm]at *;omega)) (by(simp only[nm]at *;omega)) (fun _ h _=>h)) fun t c=>?_;have j:=b.mQ _ c;exact bH;exact bH;refine cA ?_ fun l=>?_;refine oJ (fun _=>?_);exact bH;refine cA (T79 a.eR) fun f=>?_;refine Ob (P:=fun r=>¬r=true->¬f=true) ?_ fun n i=>?_;refine Oi (fun _=>.mk (fun h=>absurd rfl h)) (fun c974=>?_);refine cA (T81 a.fS) fun m=>?_;exact .mk (fun _=>c974);exact bH
theorem mD1 {x1:aA YV} {x2:Y0} {x3:Int} (d8:x1.length+3600<=1000000) (s:x2.sm):Ok (Fs x1 x2 x3) (fun v=>x1.length<=v.length/\v.length<=x1.length+3600):=by
 unfold Fs;have V:=s.aE;refine og x2.aE x1 3600 300 (nO2 s.aE (by decide)) (fun b7 F q987 W C h t j c w=>?_) (fun q987 h j=>?_) fun d5 d6=>?_;obtain⟨a0,K⟩:=q987;dsimp only at h t c w j;simp only[t,c,nt];have y:=s.cH _ C;have N:=y.aS;refine og F.aS K 300 60 (nO2 y.aS (by decide)) (fun b8 G q1001 X D i u k g x=>?_) (fun q1001 i k=>?_) fun d4 d7=>?_;obtain⟨b0,L⟩:=q1001;dsimp only at i u g x k;simp only[u,c,g,nt];have l:=y.gZ _ D;have O:=l.aO;refine og G.aO L 60 20 (nO2 l.aO (by decide)) (fun Y B q1015 R z a o d f q=>?_) (fun q1015 a d=>?_) fun d3 b5=>?_;obtain⟨b4,M⟩:=q1015;dsimp only at a o f q d;simp only[o,c,g,f,nt];have m:=l.fI _ z;have P:=m.aU;refine og B.aU M 20 1 (nO2 m.aU (by decide)) (fun Z T q1029 S A b p e n r=>?_) (fun q1029 b e=>?_) fun d2 b6=>?_;obtain⟨H,J⟩:=q1029;dsimp only at b p n r e;simp only[p,c,g,f,n,nt];have E:=m.fH _ A;refine cA (T76 E s) fun b9=>?_;refine Ob (lZ (by first|omega|(simp only[nZ2]at *;omega)) s) fun d0 U=>?_;exact .mk ⟨r,by dsimp only;omega⟩;obtain⟨H,J⟩:=q1029;dsimp only at b e;simp only[b,nf];exact .mk (by dsimp only;omega);exact .mk ⟨q,by dsimp only;omega⟩;obtain⟨b4,M⟩:=q1015;dsimp only at a d;simp only[a,nf];exact .mk (by dsimp only;omega);exact .mk ⟨x,by dsimp only;omega⟩;obtain⟨b0,L⟩:=q1001;dsimp only at i k;simp only[i,nf];exact .mk (by dsimp only;omega);exact .mk ⟨w,by dsimp only;omega⟩;obtain⟨a0,K⟩:=q987;dsimp only at h j;simp only[h,nf];exact .mk (by dsimp only;omega);exact .mk (by omega)
theorem uD1 {x1:aA YV} {c:Y0} {e:Int} (d:x1.length+3600<=1000000) (b:c.sm):Ok (Yr x1 c e) (fun v=>x1.length<=v.length/\v.length<=x1.length+3600):=by
 unfold Yr;refine Ob (mD1 (by first|omega|(simp only[nZ2]at *;omega)) b) fun f a=>?_;exact .mk (by omega)
theorem fP2 {x1:YB}:Ok (fU1 x1) (fun _=>True):=by
 unfold fU1;exact bH
theorem mE1 {x1:aA YB} (e:x1.length<=12):Ok (Ft x1) (fun _=>True):=by
 unfold Ft;have g:=e;refine pY (l:=x1) (fun q=>q) (nO2 e (by decide)) rfl (fun i h j f a c b d=>?_) (fun j a=>?_) fun k=>?_;simp only[c,b,nt];refine cA (fP2) fun m=>?_;refine oJ (fun _=>?_);exact .mk d;simp only[a,nf];exact bH;rcases k with n|_;exact bH;exact bH
theorem uE1 {x1:aA YB} (a:x1.length<=12):Ok (Qc x1) (fun _=>True):=by
 unfold Qc;refine cA (mE1 a) fun b=>?_;exact bH
theorem T84 {x1:YE} (b:x1.sm):Ok (F84 x1) (fun _=>True):=by
 unfold F84;refine Ob (P:=fun r=>r=true->(x1.cU==1)=true) ?_ fun d a=>?_;refine Oi (fun c1050=>?_) (fun _=>.mk (fun h=>by cases h));refine cA (uE1 b.eR) fun c=>?_;exact .mk (fun _=>c1050);exact bH
theorem gX1 {x1:Y0} {b c d:Int} (e:x1.sm):Ok (Fu x1 b c d) (fun v=>v.length<=20/\(∀y∈v,y.sm)/\(v=[]\/∃x y z,aV x1.aE b=some x/\aV x.aS c=some y/\aV y.aO d=some z/\v=z.aU)):=by
 unfold Fu;refine Ob (P:=fun r=>¬r=true->0<=b/\0<=c/\∃x,aV x1.aE b=some x/\c<(x.aS.length:Int)) ?_ fun k i=>?_;refine Oi (fun _=>.mk (fun h=>absurd rfl h)) (fun hc=>?_);simp only[oE2,nR2,qG2]at hc;exact Ok.bindE (cK (Q:=fun _=>True) (by omega) (by omega) (fun _ _ _=>trivial)) fun x a _=>.mk (fun h=>⟨by omega,by omega,x,a,by simp at h;omega⟩);refine Ob (P:=fun r=>¬r=true->∃x y,aV x1.aE b=some x/\aV x.aS c=some y/\0<=d/\d<(y.aO.length:Int)) ?_ fun l j=>?_;refine Oi (fun _=>.mk (fun h=>absurd rfl h)) (fun hc=>?_);simp only[oE2,nR2,qG2]at hc;obtain⟨h0,h1,x,a,hs⟩:=i hc.1;rw[a,nT2];exact Ok.bindE (cK (Q:=fun _=>True) h1 hs (fun _ _ _=>trivial)) fun y hy _=>.mk (fun h=>⟨x,y,rfl,hy,by omega,by simp at h;omega⟩);refine Oi (fun _=>.mk ⟨oX2 _,fun _ h=>(rD2 h).elim,.inl rfl⟩) (fun hc=>?_);obtain⟨x,y,a,hy,h0,h1⟩:=j hc;rw[a,nT2,hy,nT2];refine Ok.bindE (cK (Q:=fun _=>True) h0 h1 (fun _ _ _=>trivial)) fun z f _=>?_;have g:=((e.cH x (gB a).2.2.1).gZ y (gB hy).2.2.1).fI z (gB f).2.2.1;exact .mk ⟨g.aU,g.fH,.inr ⟨x,y,z,rfl,hy,f,rfl⟩⟩
theorem uF1 {x1:Y0} {a:YP} (c:x1.sm):Ok (Yt x1 a) (fun r=>r=0->a.cU=4/\0<=a.lY/\∃l,Fu x1 a.bS a.dZ a.eW=some l/\a.lY<(l.length:Int)):=by
 unfold Yt;refine Oi (fun _=>.mk (fun h=>by cases h)) (fun hk=>?_);refine Ob (P:=fun r=>¬r=true->0<=a.lY/\∃l,Fu x1 a.bS a.dZ a.eW=some l/\a.lY<(l.length:Int)) (Oi (fun _=>.mk (fun h=>absurd rfl h)) (fun hc=>?_)) fun b hb=>?_;exact Ok.bindE (gX1 c) fun l hl _=>.mk (fun h=>⟨by simpa using hc,l,hl,by simpa using h⟩);exact Oi (fun _=>.mk (fun h=>by cases h)) (fun hc=>.mk (fun _=>⟨by simpa using hk,hb hc⟩))
theorem uG1 {x1 a:Int} {b c:Int}:Ok (Yu x1 a b c) (fun v=>v.bS=x1):=by
 unfold Yu;exact .mk (by rfl)
theorem T85 {x1:Y0} {d:YP} (b:x1.sm):Ok (F85 x1 d) (fun v=>v.2=true->0<=d.bS/\d.bS<(x1.aE.length:Int)/\0<=v.1.bS/\v.1.bS<(x1.aE.length:Int)):=by
 unfold F85;refine Ob (uF1 b) fun c hc=>?_;refine Oi (fun _=>.mk (fun h=>by cases h)) (fun hd=>?_);obtain⟨hk,h0,l,hl,i⟩:=hc (by simpa using hd);have g:=(gX1 b).of hl
 have e:0<=d.bS/\d.bS<(x1.aE.length:Int):=by
  rcases g.2.2 with h|⟨x,y,z,hx,_⟩
  rw[h,nZ2]at i;omega;have:=gB hx;exact⟨this.1,this.2.1⟩
 rw[hl,nT2];refine Oi (fun _=>?_) (fun _=>?_);exact Ob uG1 fun a f=>.mk (fun _=>⟨e.1,e.2,by dsimp only;omega,by dsimp only;omega⟩);refine Ob (gX1 b) fun j h2=>?_;refine Oi (fun hc=>?_) (fun _=>.mk (fun h=>by cases h));refine Ob uG1 fun a f=>.mk (fun _=>?_);dsimp only at f ⊢;rcases h2.2.2 with h|⟨x,y,z,hx,_⟩
 rw[h]at hc;simp at hc;have:=gB hx;rw[f];exact⟨e.1,e.2,this.1,this.2.1⟩
theorem fQ2 {x1:YE} (a:x1.sm):Ok (fW1 x1) (fun v=>v.sm):=by
 unfold fW1;rw[vZ (oL2 a.eR (by decide)),vZ (oL2 a.fS (by decide)),vZ (oL2 a.dA (by decide))];exact .mk ⟨a.eR,a.fS,a.dA,a.uJ⟩
theorem T86 {x1:Y0} {f:YP} (a:x1.sm):Ok (F86 x1 f) (fun v=>v.1.sm):=by
 unfold F86;refine Ob (uF1 a) fun c hc=>?_;refine Oi (fun _=>.mk ⟨oX2 _,oX2 _,oX2 _,fun _ h=>(rD2 h).elim⟩) (fun hd=>?_);obtain⟨hk,h0,l,hl,d⟩:=hc (by simpa using hd);have b:=(gX1 a).of hl;rw[hl,nT2];exact Ob (cK (Q:=fun x=>x.sm) h0 d (fun x e _=>b.2.1 x e)) fun x e=>Ob (fQ2 e) fun y hy=>.mk hy
theorem fR2 {x1 a:YB}:Ok (fX1 x1 a) (fun _=>True):=by
 unfold fX1;exact bH
theorem mF1 {x1:aA YB} {j:YB} (e:x1.length<=12):Ok (Fv x1 j) (fun _=>True):=by
 unfold Fv;have g:=e;refine pY (l:=x1) (fun q=>q) (nO2 e (by decide)) rfl (fun i h k f a c b d=>?_) (fun k a=>?_) fun m=>?_;simp only[c,b,nt];refine cA (fR2) fun n=>?_;refine oJ (fun _=>?_);exact .mk d;simp only[a,nf];exact bH;rcases m with o|_;exact bH;exact bH
theorem uH1 {x1:aA YB} {b:YB} (a:x1.length<=12):Ok (Qe x1 b) (fun _=>True):=by
 unfold Qe;refine cA (mF1 a) fun c=>?_;exact bH
theorem T87 {x1 s:YE} (g:x1.sm) (m:s.sm):Ok (F87 x1 s) (fun _=>True):=by
 unfold F87;refine oJ (fun _=>?_);have j:=g.eR;refine pY (l:=x1.eR) (fun q=>q) (nO2 g.eR (by decide)) rfl (fun n e v i a c b d=>?_) (fun v a=>?_) fun p=>?_;simp only[c,b,nt];refine Ob (P:=fun r=>r=true->e.Tf=true) ?_ fun u f=>?_;refine Oi (fun c1079=>?_) (fun _=>.mk (fun h=>by cases h));refine Ob (P:=fun r=>r=true->(s.cU==1)=true) ?_ fun t k=>?_;refine Oi (fun c1081=>?_) (fun _=>.mk (fun h=>by cases h));refine cA (uH1 m.eR) fun w=>?_;exact .mk (fun _=>c1081);exact .mk (fun _=>c1079);refine Oi (fun c1083=>?_) (fun c1083=>?_);have o:=f c1083;exact bH;exact .mk d;simp only[a,nf];exact bH;rcases p with _|_;exact bH;exact bH
theorem T83 {x1:YP} {f:YE} {g:YK} (c:f.sm) (d:g.s'.sm):Ok (F83 x1 f g) (fun _=>True):=by
 unfold F83;refine cA (T84 c) fun k=>?_;refine oJ (fun _=>?_);refine Ob (T85 d) fun⟨l,j⟩ b=>?_
 try dsimp only at b
 refine Ob (T86 d) fun⟨m,n⟩ a=>?_
 try dsimp only at a
 refine Ob (P:=fun r=>¬r=true->¬(!j)=true) ?_ fun i e=>?_;refine Oi (fun _=>.mk (fun h=>absurd rfl h)) (fun c1090=>?_);refine cA (T87 c a) fun o=>?_;exact .mk (fun _=>c1090);exact bH
theorem mG1 {x1:aA YV} {x2:Y0} {x3:Int} (d8:x1.length+3600<=1000000) (y:x2.sm):Ok (Fw x1 x2 x3) (fun v=>x1.length<=v.length/\v.length<=x1.length+3600):=by
 unfold Fw;have N:=y.aE;refine og x2.aE x1 3600 300 (nO2 y.aE (by decide)) (fun Y D q1103 S z c p g a t=>?_) (fun q1103 c g=>?_) fun d7 b7=>?_;obtain⟨b4,K⟩:=q1103;dsimp only at c p a t g;simp only[p,a,nt];have l:=y.cH _ z;have O:=l.aS;refine og D.aS K 300 60 (nO2 l.aS (by decide)) (fun Z E q1117 T A d q h b u=>?_) (fun q1117 d h=>?_) fun d6 b8=>?_;obtain⟨b5,L⟩:=q1117;dsimp only at d q b u h;simp only[q,a,b,nt];have m:=l.gZ _ A;have P:=m.aO;refine og E.aO L 60 20 (nO2 m.aO (by decide)) (fun a0 F q1131 U B e r i k w=>?_) (fun q1131 e i=>?_) fun d5 b9=>?_;obtain⟨b6,M⟩:=q1131;dsimp only at e r k w i;simp only[r,a,b,k,nt];have n:=m.fI _ B;have R:=n.aU;refine og F.aU M 20 1 (nO2 n.aU (by decide)) (fun b0 W q1145 V C f s j o x=>?_) (fun q1145 f j=>?_) fun d4 d0=>?_;obtain⟨H,J⟩:=q1145;dsimp only at f s o x j;simp only[s,a,b,k,o,nt];have G:=n.fH _ C;refine cA (T83 G y) fun d2=>?_;refine Ob (lZ (by first|omega|(simp only[nZ2]at *;omega)) y) fun d3 X=>?_;exact .mk ⟨x,by dsimp only;omega⟩;obtain⟨H,J⟩:=q1145;dsimp only at f j;simp only[f,nf];exact .mk (by dsimp only;omega);exact .mk ⟨w,by dsimp only;omega⟩;obtain⟨b6,M⟩:=q1131;dsimp only at e i;simp only[e,nf];exact .mk (by dsimp only;omega);exact .mk ⟨u,by dsimp only;omega⟩;obtain⟨b5,L⟩:=q1117;dsimp only at d h;simp only[d,nf];exact .mk (by dsimp only;omega);exact .mk ⟨t,by dsimp only;omega⟩;obtain⟨b4,K⟩:=q1103;dsimp only at c g;simp only[c,nf];exact .mk (by dsimp only;omega);exact .mk (by omega)
theorem uI1 {x1:aA YV} {c:Y0} {e:Int} (d:x1.length+3600<=1000000) (b:c.sm):Ok (Yv x1 c e) (fun v=>x1.length<=v.length/\v.length<=x1.length+3600):=by
 unfold Yv;refine Ob (mG1 (by first|omega|(simp only[nZ2]at *;omega)) b) fun f a=>?_;exact .mk (by omega)
theorem fS2 {x1:YE} {a:Int} (c:x1.sm) (d:0<=a):Ok (gA1 x1 a) (fun v=>v=false->a<(x1.dA.length:Int)):=by
 unfold gA1;refine Ob (P:=fun r=>r=false->a<(x1.dA.length:Int)) (Oi (fun _=>.mk (fun h=>by cases h)) (fun hc=>?_)) fun b hb=>.mk hb;simp only[nR2]at hc;exact Ob (cK (Q:=fun _=>True) d (by omega) (fun _ _ _=>trivial)) fun y _=>.mk (fun _=>by omega)
theorem fT2 {x1 o u:Int} {D:aA (YP×Bool)} {v:aA YV} {p:Y0} {E:Int} (A:v.length+0<=1000000) (d:p.sm) (C:0<=x1) (hy:0<=o) (s:0<=u):Ok (gB1 x1 o u D v p E) (fun _=>True):=by
 unfold gB1;have G:=d.aE;refine Ob (P:=fun _=>True) (bX (l:=p.aE) (fun q=>q.1) (fun _ _=>True) (by omega) rfl trivial (fun i e q _ g hi hl _ hg hw=>?_) (fun q hi _=>?_)) fun⟨a1,a2,a3,a4,a5,a6,a7⟩ _=>?_;obtain⟨x,k,st,m,n,ev,y,l⟩:=q;dsimp only at hi hl hg hw;simp only[hl,hg,nt];refine Ob (P:=fun r=>¬r=true->∃y,aV e.aS x1=some y/\o<(y.aO.length:Int)) (Oi (fun _=>.mk (fun h=>absurd rfl h)) (fun hc=>?_)) fun b hb=>?_;simp only[nR2]at hc;exact Ok.bindE (cK (Q:=fun _=>True) C (by omega) (fun _ _ _=>trivial)) fun y hy _=>.mk (fun h=>⟨y,hy,by simpa using h⟩);refine Oi (fun _=>.mk ⟨hw,trivial⟩) (fun hc=>?_);obtain⟨c,f,hv⟩:=hb hc;rw[f,nT2];refine Ok.bindE (cK (Q:=fun _=>True) hy hv (fun _ _ _=>trivial)) fun z j _=>?_;have t:=((d.cH e g).gZ c (gB f).2.2.1).fI z (gB j).2.2.1;have F:=t.aU;refine Ob (P:=fun _=>True) (bX (l:=z.aU) (fun q=>q.1) (fun _ _=>True) (by omega) rfl trivial (fun i e q _ g hi hl _ hg hw=>?_) (fun q hi _=>?_)) fun⟨a1,a2,a3,a4,a5,a6,a7⟩ _=>.mk ⟨hw,trivial⟩;obtain⟨x,k,st,m,n,ev,y,l⟩:=q;dsimp only at hi hl hg hw;simp only[hl,hg,nt];refine Ob (fS2 (t.fH e g) s) fun a B=>?_;refine Oi (fun _=>.mk ⟨hw,trivial⟩) (fun hc=>?_);refine Ob (cK (Q:=fun _=>True) s (B (by simpa using hc)) (fun _ _ _=>trivial)) fun w _=>?_;refine Ob (P:=fun _=>True) (Oi (fun _=>bH) (fun _=>bH)) fun _ _=>?_;exact Ob (P:=fun _=>True) (Oi (fun _=>bH) (fun _=>bH)) fun _ _=>.mk ⟨hw,trivial⟩;obtain⟨x,k,st,m,n,ev,y,l⟩:=q;dsimp only at hi;simp only[hi,nf];exact bH;obtain⟨x,k,st,m,n,ev,y,l⟩:=q;dsimp only at hi;simp only[hi,nf];exact bH;exact Ob (P:=fun _=>True) (Oi (fun _=>bH) (fun _=>bH)) fun _ _=>bH
theorem T89 {x1:YP} {a:YE} {c:aA (YP×Bool)} (b:a.sm):Ok (F89 x1 a c) (fun _=>True):=by
 unfold F89;exact bH
theorem mH1 {x1:aA (YP×Bool)} {K:aA YV} {x3:Y0} {x4:Int} (d9:K.length+3600<=1000000) (y:x3.sm):Ok (Fx x1 K x3 x4) (fun v=>K.length<=v.length/\v.length<=K.length+3600):=by
 unfold Fx;have O:=y.aE;refine og x3.aE K 3600 300 (nO2 y.aE (by decide)) (fun Z D q1162 T z c p g a t=>?_) (fun q1162 c g=>?_) fun d8 b8=>?_;obtain⟨b5,L⟩:=q1162;dsimp only at c p a t g;simp only[p,a,nt];have l:=y.cH _ z;have P:=l.aS;refine og D.aS L 300 60 (nO2 l.aS (by decide)) (fun a0 E q1176 U A d q h b u=>?_) (fun q1176 d h=>?_) fun d7 b9=>?_;obtain⟨b6,M⟩:=q1176;dsimp only at d q b u h;simp only[q,a,b,nt];have m:=l.gZ _ A;have R:=m.aO;refine og E.aO M 60 20 (nO2 m.aO (by decide)) (fun b0 F q1190 V B e r i k w=>?_) (fun q1190 e i=>?_) fun d6 d0=>?_;obtain⟨b7,N⟩:=q1190;dsimp only at e r k w i;simp only[r,a,b,k,nt];have n:=m.fI _ B;have S:=n.aU;refine og F.aU N 20 1 (nO2 n.aU (by decide)) (fun b4 X q1204 W C f s j o x=>?_) (fun q1204 f j=>?_) fun d5 d2=>?_;obtain⟨H,J⟩:=q1204;dsimp only at f s o x j;simp only[s,a,b,k,o,nt];have G:=n.fH _ C;refine cA (T89 G) fun d3=>?_;refine Ob (lZ (by first|omega|(simp only[nZ2]at *;omega)) y) fun d4 Y=>?_;exact .mk ⟨x,by dsimp only;omega⟩;obtain⟨H,J⟩:=q1204;dsimp only at f j;simp only[f,nf];exact .mk (by dsimp only;omega);exact .mk ⟨w,by dsimp only;omega⟩;obtain⟨b7,N⟩:=q1190;dsimp only at e i;simp only[e,nf];exact .mk (by dsimp only;omega);exact .mk ⟨u,by dsimp only;omega⟩;obtain⟨b6,M⟩:=q1176;dsimp only at d h;simp only[d,nf];exact .mk (by dsimp only;omega);exact .mk ⟨t,by dsimp only;omega⟩;obtain⟨b5,L⟩:=q1162;dsimp only at c g;simp only[c,nf];exact .mk (by dsimp only;omega);exact .mk (by omega)
theorem uJ1 {x1:aA YV} {e:Y0} {g:Int} (f:x1.length+3600<=1000000) (a:e.sm):Ok (Yw x1 e g) (fun v=>x1.length<=v.length/\v.length<=x1.length+3600):=by
 unfold Yw;refine Ob (T49 a) fun n hn=>?_;refine Ob (P:=fun _=>True) (kH (fun q=>q.1) n (fun _=>True) hn (by decide) trivial (fun q _ h1 h2=>?_)) fun m _=>?_;obtain⟨x,l⟩:=q;dsimp only at h1 h2 ⊢;refine Oi (fun hc=>?_) (fun _=>bH);simp only[nR2]at hc;refine Ob (P:=fun _=>True) (kH (fun q=>q.1) 2 (fun _=>True) (by decide) (by dsimp only;omega) trivial (fun q _ b g2=>?_)) fun m _=>.mk ⟨hc,h2 hc,trivial⟩;obtain⟨y,l⟩:=q;dsimp only at b g2 ⊢;refine Oi (fun hd=>?_) (fun _=>bH);simp only[nR2]at hd;refine Ob (P:=fun _=>True) (kH (fun q=>q.1) 4 (fun _=>True) (by decide) (by dsimp only;omega) trivial (fun q _ c d=>?_)) fun m _=>.mk ⟨hd,g2 hd,trivial⟩;obtain⟨z,l⟩:=q;dsimp only at c d ⊢;refine Oi (fun he=>?_) (fun _=>bH);simp only[nR2]at he;exact Ob (fT2 (by omega) a h1 b c) fun m _=>.mk ⟨he,d he,trivial⟩;exact Ob (mH1 (by omega) a) fun v hv=>.mk (by omega)
theorem gY1 {x1:Y0} (a:x1.sm):Ok (yB x1) (fun _=>True):=by
 unfold yB;exact bH
theorem aB1 {x1 e:Int} {f g:Int} {h i j:Int} {c:YJ} {k:Bool} {a:YP} {b:YZ} (d:c.sm):Ok (uG x1 e f g h i j c k a b) (fun _=>True):=by
 unfold uG;refine oJ (fun _=>?_);exact bH
theorem Nb {x1 c:Int} {d e:Int} {f g h:Int} {i:YF} {j:Bool} {a:YP} {b:YZ}:Ok (oF x1 c d e f g h i j a b) (fun _=>True):=by
 unfold oF;refine oJ (fun _=>?_);exact bH
theorem Nc {x1 e:Int} {f g:Int} {h i j:Int} {c:YM} {k:Bool} {a:YP} {b:YZ} (d:c.sm):Ok (oG x1 e f g h i j c k a b) (fun _=>True):=by
 unfold oG;refine oJ (fun _=>?_);exact bH
theorem Nd {x1 e:Int} {f g:Int} {h i j:Int} {c:YE} {k:Bool} {a:YP} {b:YZ} (d:c.sm):Ok (oH x1 e f g h i j c k a b) (fun _=>True):=by
 unfold oH;refine oJ (fun _=>?_);exact bH
theorem Nf {x1 c:Int} {d e:Int} {f g h:Int} {i:YN} {j:Bool} {a:YP} {b:YZ}:Ok (oI x1 c d e f g h i j a b) (fun _=>True):=by
 unfold oI;refine oJ (fun _=>?_);exact bH
theorem gZ1 {x1:Y0} {X:Bool} {Y:YP} {Z:YZ} (g:x1.sm):Ok (yC x1 X Y Z) (fun v=>match v with|.inl p=>p.cU=4->0<=p.lY/\x1.pl p.bS p.dZ p.eW|.inr _=>True):=by
 unfold yC;have hP:=g.bE;have hM:=g.aE;have U:=g.bF;refine Ob (P:=fun r=>match r with|.inl p=>p.1≠4|.inr _=>True) (bX (l:=x1.bE) (fun q=>q.2) (fun _ _=>True) (by omega) rfl trivial (fun i e q D B hi hl _ hg hw=>?_) (fun q hi _=>?_)) fun r hr=>?_;obtain⟨s,x⟩:=q;dsimp only at hi hl hg hw;simp only[hl,hg,nt];refine Ob (aB1 (g.mQ e B)) fun r _=>?_;rcases r with _|_;exact .mk (show(1:Int)≠4 by decide);have U:=(g.mQ e B).dR;refine Ob (P:=fun _=>True) (bX (l:=e.dR) (fun q=>q.2) (fun _ _=>True) (by omega) rfl trivial (fun i2 e2 q W V F A _ m C=>?_) (fun q hi _=>?_)) fun r _=>?_;obtain⟨s,y⟩:=q;dsimp only at F A m C;simp only[A,m,nt];refine Ob Nb fun r _=>?_;rcases r with _|_;exact bH;exact .mk ⟨C,trivial⟩;obtain⟨s,y⟩:=q;dsimp only at hi;simp only[hi,nf];exact bH;rcases r with⟨a,b⟩|a;exact .mk (show(2:Int)≠4 by decide);exact .mk ⟨hw,trivial⟩;obtain⟨s,y⟩:=q;dsimp only at hi;simp only[hi,nf];exact bH;rcases r with⟨k,p,st⟩|_;exact .mk (fun h=>absurd h hr);refine Ob (P:=fun r=>match r with|.inl p=>p.1=4->0<=p.2.2.2.2/\x1.pl p.2.2.1 p.2.1 p.2.2.2.1|.inr _=>True) (bX (l:=x1.aE) (fun q=>q) (fun _ _=>True) (by omega) rfl trivial (fun i e q D B hi hl _ hg hw=>?_) (fun q hi _=>?_)) fun r hr=>?_;simp only[hl,hg,nt];have R:=g.cH e B;have hC:=R.aS;refine Ob (Nc R) fun r _=>?_;rcases r with _|_;exact .mk (fun h=>absurd (show(3:Int)=4 from h) (by decide));refine Ob (P:=fun r=>match r with|.inl p=>0<=p.2.2/\x1.pl q p.1 p.2.1|.inr _=>True) (bX (l:=e.aS) (fun q=>q) (fun _ _=>True) (by omega) rfl trivial (fun j c w D J hj hlc _ o M=>?_) (fun q hi _=>?_)) fun r hr=>?_;simp only[hlc,o,nt];have S:=R.gZ c J;have hV:=S.aO;refine Ob (P:=fun r=>match r with|.inl p=>0<=p.2/\x1.pl q w p.1|.inr _=>True) (bX (l:=c.aO) (fun q=>q) (fun _ _=>True) (by omega) rfl trivial (fun k v u D L hk H _ z O=>?_) (fun q hi _=>?_)) fun r hr=>?_;simp only[H,z,nt];have T:=S.fI v L;have hE:=T.aU;refine Ob (P:=fun r=>match r with|.inl x=>0<=x|.inr _=>True) (bX (l:=v.aU) (fun q=>q) (fun _ _=>True) (by omega) rfl trivial (fun n ev t D K ht G _ E N=>?_) (fun q hi _=>?_)) fun r hr=>?_;simp only[G,E,nt];refine Ob (Nd (T.fH ev K)) fun r _=>?_;rcases r with _|_;exact .mk (show(0:Int)<=t by omega);exact .mk ⟨N,trivial⟩;simp only[hi,nf];exact bH;rcases r with x|_;exact .mk ⟨hr,e,c,v,hg,o,z⟩;exact .mk ⟨O,trivial⟩;simp only[hi,nf];exact bH;rcases r with⟨a,b⟩|_;exact .mk hr;exact .mk ⟨M,trivial⟩;simp only[hi,nf];exact bH;rcases r with⟨a,b,c⟩|_;exact .mk (fun _=>hr);exact .mk ⟨hw,trivial⟩;simp only[hi,nf];exact bH;rcases r with⟨a,b,c,d,f⟩|_;exact .mk hr;refine Ob (P:=fun _=>True) (bX (l:=x1.bF) (fun q=>q) (fun _ _=>True) (by omega) rfl trivial (fun i e q D B hi hl _ hg hw=>?_) (fun q hi _=>?_)) fun r hr=>?_;simp only[hl,hg,nt];refine Ob Nf fun r _=>?_;rcases r with _|_;exact bH;exact .mk ⟨hw,trivial⟩;simp only[hi,nf];exact bH;rcases r with x|_;exact .mk (fun h=>absurd (show(5:Int)=4 from h) (by decide));exact bH
theorem fU2 {x1:Y0} {b:YZ} (a:x1.sm):Ok (gD1 x1 b) (fun v=>v.2=true->v.1.cU=4->0<=v.1.lY/\x1.pl v.1.bS v.1.dZ v.1.eW):=by
 unfold gD1;refine Oi (fun _=>.mk (fun h=>by cases h)) (fun _=>?_);refine Ob (gY1 a) fun _ _=>?_;refine Ob (gZ1 a) fun r hr=>?_;rcases r with p|_;exact .mk (fun _=>hr);exact .mk (fun h=>by cases h)
theorem fV2 {x1:aA Int} (b:x1.length<=20):Ok (gE1 x1) (fun _=>True):=by
 unfold gE1;refine Ob (pX (by omega) (by omega) (by omega)) fun g h2=>?_;refine Ob (P:=fun v=>v.length=x1.length) (kH (fun q=>q.1) (x1.length:Int) (fun q=>q.2.length=x1.length) (by omega) (by dsimp only;omega) (by rw[h2];simp) (fun q a h1 h2=>?_)) fun v hv=>bH;obtain⟨i,l⟩:=q;dsimp only at a h1 h2 ⊢;refine Oi (fun hc=>?_) (fun _=>.mk a);simp only[nR2]at hc;rw[bM (n:=i-1) (by omega) (by omega)];refine Ob (kG (by omega) (by omega)) fun j d=>?_;refine Ob (mG (by omega)) fun x _=>?_;refine Ob (cK (Q:=fun _=>True) (by omega) (by omega) (fun _ _ _=>trivial)) fun y _=>?_;refine Ob (kG (by omega) (by omega)) fun f c=>?_;exact Ob (Qj (by omega)) fun m e=>.mk ⟨hc,h2 hc,by dsimp only;omega⟩
theorem fW2 {x1:YO} {c:Int} (b:x1.sm):Ok (gF1 x1 c) (fun _=>True):=by
 unfold gF1;refine Ob (tY1 b) fun⟨d,e⟩ a=>?_
 try dsimp only at a
 refine oJ (fun _=>?_);refine cA (fV2 a) fun f=>?_;exact bH
theorem uK1 {x1:YK} {j:YZ} (c:x1.s'.sm):Ok (Yz x1 j) (fun _=>True):=by
 unfold Yz;refine Ob (fU2 c) fun⟨p,f⟩ hp=>?_;dsimp only at hp;refine Oi (fun _=>bH) (fun hc=>?_);simp only[oE2,qG2,oB2,Bool.not_eq_false,bne_iff_ne,ne_eq,Decidable.not_not]at hc;obtain⟨h0,x,y,z,d,hy,g⟩:=hp hc.1 hc.2;simp only[d,hy,g,nT2];have h:=c.cH x (gB d).2.2.1;have i:=(h.gZ y (gB hy).2.2.1).fI z (gB g).2.2.1;refine Ob (T68 h) fun⟨a,b⟩ _=>?_;refine Ob (fW2 i) fun⟨on,e⟩ _=>?_;refine Oi (fun _=>bH) (fun hd=>?_);simp only[nR2]at hd;exact Ob (cK (Q:=fun _=>True) h0 (by dsimp only at hd ⊢;omega) (fun _ _ _=>trivial)) fun w _=>bH
theorem hA1 {x1 a:Int}:Ok (Mw x1 a) (fun _=>True):=by
 unfold Mw;exact bH
theorem uL1 {x1:YQ}:Ok (Za x1) (fun _=>True):=by
 unfold Za;refine cA (hA1) fun g=>?_;refine Ob (P:=fun r=>r=true->g=true) ?_ fun i a=>?_;refine Oi (fun c1219=>?_) (fun _=>.mk (fun h=>by cases h));refine cA (hA1) fun k=>?_;exact .mk (fun _=>c1219);refine Ob (P:=fun r=>r=true->i=true) ?_ fun j b=>?_;refine Oi (fun c1222=>?_) (fun _=>.mk (fun h=>by cases h));have e:=a c1222;refine cA (hA1) fun l=>?_;exact .mk (fun _=>c1222);refine Ob (P:=fun r=>r=true->j=true) ?_ fun n d=>?_;refine Oi (fun c1226=>?_) (fun _=>.mk (fun h=>by cases h));have c:=b c1226;have f:=a c;refine cA (hA1) fun m=>?_;exact .mk (fun _=>c1226);exact bH
theorem uM1 {x1:Int}:Ok (Zb x1) (fun _=>True):=by
 unfold Zb;exact bH
theorem uN1 {x1:Int}:Ok (Zc x1) (fun _=>True):=by
 unfold Zc;exact bH
theorem uO1 {x1 a:Int}:Ok (Zd x1 a) (fun _=>True):=by
 unfold Zd;refine cA (uN1) fun b=>?_;refine cA (uN1) fun c=>?_;refine Oi (fun c1232=>?_) (fun c1232=>?_);refine oJ (fun _=>?_);exact bH;refine oJ (fun _=>?_);refine oJ (fun _=>?_);refine oJ (fun _=>?_);exact bH
theorem fX2 {x1:aA Int} (e:x1.length<=20):Ok (gG1 x1) (fun _=>True):=by
 unfold gG1;have g:=e;refine pY (l:=x1) (fun q=>q) (nO2 e (by decide)) rfl (fun i h j f a c b d=>?_) (fun j a=>?_) fun k=>?_;simp only[c,b,nt];refine oJ (fun _=>?_);exact .mk d;simp only[a,nf];exact bH;rcases k with m|_;exact bH;exact bH
theorem Ng {x1 a:YQ}:Ok (Bq x1 a) (fun _=>True):=by
 unfold Bq;refine cA (uO1) fun b=>?_;refine cA (uO1) fun c=>?_;refine cA (fX2 (by simp)) fun d=>?_;exact bH
theorem fY2 {x1:YS}:Ok (gH1 x1) (fun _=>True):=by
 unfold gH1;refine oJ (fun _=>?_);refine cA (uL1) fun e=>?_;refine Ob (P:=fun r=>¬r=true->¬(!e)=true) ?_ fun g a=>?_;refine Oi (fun _=>.mk (fun h=>absurd rfl h)) (fun c1255=>?_);refine cA (uL1) fun f=>?_;exact .mk (fun _=>c1255);refine oJ (fun c1257=>?_);have c:=a c1257;refine Ob (P:=fun r=>¬r=true->¬(x1.gF.dZ !=x1.To.dZ)=true) ?_ fun j b=>?_;refine Oi (fun _=>.mk (fun h=>absurd rfl h)) (fun c1260=>?_);refine cA (uM1) fun i=>?_;exact .mk (fun _=>c1260);refine oJ (fun c1262=>?_);have d:=b c1262;refine cA (Ng) fun k=>?_;refine oJ (fun _=>?_);exact bH
theorem uP1 {x1:aA YV} {d:Y0} {k:Int} (j:x1.length+0<=1000000) (c:d.sm):Ok (Ze x1 d k) (fun v=>v.1.length=d.bF.length/\v.2.length=d.bF.length):=by
 unfold Ze;have o:=c.bF;refine Ob (P:=fun v=>v.1.length=d.bF.length/\v.2.length=d.bF.length) (bX (l:=d.bF) (fun q=>q.1) (fun i q=>q.2.1.length=i/\q.2.2.length=i) (by omega) rfl ⟨rfl,rfl⟩ (fun i e q r p hi hl f hg hw=>?_) (fun q hi f=>?_)) fun⟨a,b⟩ hv=>.mk hv;obtain⟨x,g,h⟩:=q;dsimp only at hi hl f hg hw;simp only[hl,hg,nt];refine Ob (uK1 c) fun⟨p1,m⟩ _=>?_;refine Ob (uK1 c) fun⟨p2,n⟩ _=>?_;refine Ob (gA (Q:=fun v=>v.length=h.length+1) (by omega) (by simp)) fun s h1=>?_;refine Ob (P:=fun _=>True) (Oi (fun _=>bH) (fun _=>Ob fY2 fun _ _=>bH)) fun b _=>?_;exact Ob (gA (Q:=fun v=>v.length=g.length+1) (by omega) (by simp)) fun t h2=>.mk ⟨hw,by dsimp only;omega,by dsimp only;omega⟩;obtain⟨x,g,h⟩:=q;dsimp only at hi f;simp only[hi,nf];exact .mk f
theorem uQ1 {x1:aA YV} {g:Y0} {m:Int} (h:x1.length+10<=1000000) (c:g.sm):Ok (Zf x1 g m) (fun v=>x1.length<=v.length/\v.length<=x1.length+10):=by
 unfold Zf;have n:=c.bF;refine Ob (uP1 (by omega) c) fun⟨a,b⟩ f=>?_;dsimp only at f;refine Ob (P:=fun v=>x1.length<=v.length/\v.length<=x1.length+10) (bX (l:=g.bF) (fun q=>q.1) (fun i q=>x1.length<=q.2.length/\q.2.length<=x1.length+i) (by omega) rfl (by dsimp only;omega) (fun i e q p o hi hl d hg hw=>?_) (fun q hi d=>?_)) fun v hv=>.mk (by omega);obtain⟨x,l⟩:=q;dsimp only at hi hl d hg hw;simp only[hl,hg,nt];refine Ob (kG (by omega) (by omega)) fun j k=>?_;refine Ob (mG k.2) fun y _=>?_;exact Ob (lZ (by omega) c) fun v hv=>.mk ⟨hw,by dsimp only;omega⟩;obtain⟨x,l⟩:=q;dsimp only at hi d;simp only[hi,nf];exact .mk (by omega)
theorem mI1 {x1:Int}:Ok (Sv x1) (fun v=>v>0->1<=x1/\x1<=7):=by
 unfold Sv;refine Oi (fun c1266=>.mk (by omega)) (fun c1266=>?_);refine Ob (cK (Q:=fun _=>True) (by(simp only[nm]at *;rw[bM (by omega) (by omega)];omega)) (by(simp only[nm,nl]at *;rw[bM (by omega) (by omega)];omega)) (fun _ _ _=>trivial)) fun b a=>?_;exact .mk (by(simp only[nm]at *;omega))
theorem fZ2 {x1 a:YS}:Ok (gI1 x1 a) (fun v=>v=true->1<=x1.cU/\x1.cU<=7):=by
 unfold gI1;refine Ob mI1 fun f hf=>?_;refine Ob (P:=fun r=>r=true->1<=x1.cU/\x1.cU<=7) (Oi (fun hc=>?_) (fun _=>.mk (fun h=>by cases h))) fun b hb=>?_;simp only[nR2]at hc;have:=hf hc;exact Ob mI1 fun _ _=>Ob mI1 fun _ _=>.mk (fun _=>this);refine Ob (P:=fun r=>r=true->1<=x1.cU/\x1.cU<=7) (Oi (fun hc=>?_) (fun _=>.mk (fun h=>by cases h))) fun b hb=>.mk hb;simp only[nJ2]at hc;have:=hb hc.1;exact Ob uM1 fun _ _=>.mk (fun _=>this)
theorem gA2 {x1 b:YS}:Ok (gJ1 x1 b) (fun _=>True):=by
 unfold gJ1;refine cA (Ng) fun c=>?_;refine Ob (P:=fun r=>¬r=true->¬(decide (c<0))=true) ?_ fun e a=>?_;refine Oi (fun _=>.mk (fun h=>absurd rfl h)) (fun c1270=>?_);refine cA (Ng) fun d=>?_;exact .mk (fun _=>c1270);exact bH
theorem mJ1 {x1 a:YS}:Ok (Sw x1 a) (fun _=>True):=by
 unfold Sw;refine cA (gA2) fun b=>?_;exact bH
theorem uR1 {x1 b:YS}:Ok (Zi x1 b) (fun _=>True):=by
 unfold Zi;refine cA (Ng) fun c=>?_;refine Ob (P:=fun r=>¬r=true->¬(decide (c<=0))=true) ?_ fun e a=>?_;refine Oi (fun _=>.mk (fun h=>absurd rfl h)) (fun c1275=>?_);refine cA (Ng) fun d=>?_;exact .mk (fun _=>c1275);exact bH
theorem mK1 {x1 a:YS}:Ok (Sx x1 a) (fun _=>True):=by
 unfold Sx;refine cA (uR1) fun b=>?_;exact bH
theorem uS1 {x1 b:YS}:Ok (Zk x1 b) (fun _=>True):=by
 unfold Zk;refine cA (Ng) fun c=>?_;refine Ob (P:=fun r=>r=true->(decide (c>=0))=true) ?_ fun e a=>?_;refine Oi (fun c1280=>?_) (fun _=>.mk (fun h=>by cases h));refine cA (Ng) fun d=>?_;exact .mk (fun _=>c1280);exact bH
theorem gB2 {x1 b:YS}:Ok (gK1 x1 b) (fun _=>True):=by
 unfold gK1;refine cA (uR1) fun c=>?_;refine Ob (P:=fun r=>r=true->(!c)=true) ?_ fun f a=>?_;refine Oi (fun c1284=>?_) (fun _=>.mk (fun h=>by cases h));refine cA (uS1) fun d=>?_;refine cA (uS1) fun e=>?_;exact .mk (fun _=>c1284);exact bH
theorem T91 {x1 e:YS}:Ok (F91 x1 e) (fun _=>True):=by
 unfold F91;refine Ob fZ2 fun g hg=>?_;refine Oi (fun _=>bH) (fun hc=>?_);have hk:=hg (by simpa using hc);rw[bM (n:=x1.cU-1) (by omega) (by omega)];refine Oi (fun _=>Ob mJ1 fun _ _=>bH) (fun d=>?_);refine Oi (fun _=>Ob mK1 fun _ _=>bH) (fun c=>?_);refine Oi (fun _=>Ob mJ1 fun _ _=>bH) (fun b=>?_);refine Oi (fun _=>Ob mJ1 fun _ _=>bH) (fun a=>?_);refine Oi (fun _=>Ob mK1 fun _ _=>bH) (fun h2=>?_);refine Oi (fun _=>Ob mK1 fun _ _=>bH) (fun h1=>?_);refine Oi (fun _=>Ob gB2 fun _ _=>bH) (fun h0=>?_);simp only[pU2]at h0 h1 h2 a b c d;omega
theorem uT1 {x1:aA YV} {n:Y0} {p:Int} (o:x1.length+10<=1000000) (c:n.sm):Ok (Zl x1 n p) (fun v=>x1.length<=v.length/\v.length<=x1.length+10):=by
 unfold Zl;have s:=c.bF;refine Ob (uP1 (by omega) c) fun⟨a,b⟩ g=>?_;dsimp only at g;refine Ob (P:=fun v=>x1.length<=v.length/\v.length<=x1.length+10) (bX (l:=n.bF) (fun q=>q.1) (fun i q=>x1.length<=q.2.length/\q.2.length<=x1.length+i) (by omega) rfl (by dsimp only;omega) (fun i e q u t hi hl f hg hw=>?_) (fun q hi f=>?_)) fun v hv=>.mk (by omega);obtain⟨x,l⟩:=q;dsimp only at hi hl f hg hw;simp only[hl,hg,nt];refine Ob (P:=fun _=>True) (kH (fun q=>q.2) x (fun _=>True) (by omega) (by dsimp only;omega) trivial (fun q _ h1 h2=>?_)) fun b _=>?_;obtain⟨ex,k⟩:=q;dsimp only at h1 h2 ⊢;refine Ob (P:=fun r=>r=true->k<x) (Oi (fun hc=>?_) (fun _=>.mk (fun h=>by cases h))) fun b hb=>?_;simp only[nR2]at hc;exact Ob (kG (by omega) (by omega)) fun j d=>Ob (mG d.2) fun y _=>.mk (fun _=>hc);refine Oi (fun hc=>?_) (fun _=>bH);simp only[nJ2]at hc;have hk:=hb hc.1;refine Ob (kG (by omega) (by omega)) fun j d=>Ob (mG d.2) fun y _=>?_;refine Ob (P:=fun _=>True) (Oi (fun _=>?_) (fun _=>bH)) fun b _=>.mk ⟨hk,h2 hk,trivial⟩;exact Ob (kG (by omega) (by omega)) fun j d=>Ob (mG d.2) fun z _=>Ob (kG (by omega) (by omega)) fun w m=>Ob (mG m.2) fun A _=>Ob T91 fun b _=>bH;exact Ob (lZ (by omega) c) fun v hv=>.mk ⟨hw,by dsimp only;omega⟩;obtain⟨x,l⟩:=q;dsimp only at hi f;simp only[hi,nf];exact .mk (by omega)
theorem T92 {x1:Int} {a:YM} (c:a.sm):Ok (F92 x1 a) (fun v=>v=false->a.bO<=8):=by
 unfold F92;simp only[lO1,nT2];refine Ob (P:=fun r=>r=false->a.bO<=8) (Oi (fun hc=>.mk (fun h=>?_)) (fun hc=>.mk (fun _=>?_))) fun b hb=>?_;simp at h;omega;simp at hc;omega;exact Ob (P:=fun r=>r=false->a.bO<=8) (Oi (fun hc=>.mk (fun h=>by cases h)) (fun hc=>.mk (fun _=>hb (by simpa using hc)))) fun b hb=>.mk hb
theorem mL1 {x1:aA YV} {c:Y0} {r:Int} (o:x1.length+12<=1000000) (d:c.sm):Ok (Fy x1 c r) (fun v=>(x1.length<=v.length/\v.length<=x1.length+12)/\(v.length<=x1.length->∀m∈c.aE,m.bO<=8)):=by
 unfold Fy;have s:=d.aE;refine Ob (P:=fun v=>(x1.length<=v.length/\v.length<=x1.length+12)/\(v.length<=x1.length->∀m∈c.aE,m.bO<=8)) (bX (l:=c.aE) (fun q=>q.1) (fun i q=>q.2.length<=x1.length+i/\x1.length<=q.2.length/\(q.2.length<=x1.length->∀j,j<i->∀m,c.aE[j]? =some m->m.bO<=8)) (by omega) rfl ⟨by dsimp only;omega,nM2 _,fun _ j g=>by omega⟩ (fun i e q p n hi hl f hg hw=>?_) (fun q hi f=>?_)) fun v hv=>.mk hv;obtain⟨x,l⟩:=q;dsimp only at hi hl f hg hw;simp only[hl,hg,nt];refine Ob (T92 (d.cH e n)) fun b hb=>?_;refine Ob (Tc (by omega)) fun v hv=>.mk ⟨hw,?_,?_,fun h j g m a=>?_⟩;dsimp only;cases b<;>simp at hv<;>omega;dsimp only;cases b<;>simp at hv<;>omega;dsimp only at h;cases b with
 |true=>simp at hv;omega
 |false=>
  simp only[nV2,false_implies,forall_const,true_and]at hv;by_cases k:j=i;subst k;rw[p]at a;cases a;exact hb rfl;exact f.2.2 (by omega) j (by omega) m a
 obtain⟨x,l⟩:=q;dsimp only at hi f;simp only[hi,nf];refine .mk ⟨⟨by omega,by omega⟩,fun h m n=>?_⟩;obtain⟨j,g⟩:=oF2.1 n;exact f.2.2 h j (nK2.1 g).1 m g
theorem gC2 {x1:Int}:Ok (gM1 x1) (fun v=>0<=v/\v<=1000):=by
 unfold gM1;refine Ob (P:=fun v=>0<=v.2/\v.2<=32) (Oi (fun _=>Ob (uI (by decide)) fun n _=>.mk (by dsimp only;omega)) (fun _=>.mk (by dsimp only;omega))) fun⟨g,h⟩ c=>?_;dsimp only at c;refine Ob (P:=fun v=>0<=v.2/\v.2<=48) (Oi (fun _=>Ob (uI (by decide)) fun n _=>.mk (by dsimp only;rw[bM (by omega) (by omega)];omega)) (fun _=>.mk (by dsimp only;omega))) fun⟨i,j⟩ d=>?_;dsimp only at d;refine Ob (P:=fun v=>0<=v.2/\v.2<=56) (Oi (fun _=>Ob (uI (by decide)) fun n _=>.mk (by dsimp only;rw[bM (by omega) (by omega)];omega)) (fun _=>.mk (by dsimp only;omega))) fun⟨f,e⟩ a=>?_;dsimp only at a;have hw:=tI1 f;refine Ob (vY hw.1 hw.2) fun b hb=>.mk ?_;rw[bM (n:=b) (by omega) (by omega),bM (by omega) (by omega)];omega
theorem hB1 {x1:Int}:Ok (My x1) (fun v=>0<=v/\v<=1000):=by
 unfold My;refine Ob (gC2) fun b a=>?_;exact .mk (by omega)
theorem T94 {x1:YG} (c:x1.passes<=1000):Ok (F94 x1) (fun _=>True):=by
 unfold F94;refine Ob (P:=fun r=>r=true->(decide (x1.passes>0))=true) ?_ fun e a=>?_;refine Oi (fun c1289=>?_) (fun _=>.mk (fun h=>by cases h));refine Ob (Qi (by(simp only[nm]at *;rw[bM (by omega) (by omega)];omega))) fun d b=>?_;exact .mk (fun _=>c1289);exact bH
theorem gD2 {x1:YG} {e:YM} (w:e.sm) (F:x1.passes<=8) (hy:e.bO<=8):Ok (gO1 x1 e) (fun v=>v.1.passes<=8):=by
 unfold gO1;refine Oi (fun c1291=>.mk (by omega)) (fun c1291=>?_);refine Oi (fun c1292=>?_) (fun c1292=>?_);refine Oi (fun c1293=>.mk (by omega)) (fun c1293=>?_);refine Ob (hB1) fun u f=>?_;refine Oi (fun c1295=>?_) (fun c1295=>?_);refine Oi (fun c1296=>.mk (by omega)) (fun c1296=>?_);refine Oi (fun c1297=>?_) (fun c1297=>?_);refine cA (T94 (by(simp only[nm]at *;omega))) fun D=>?_;refine Ob (P:=fun r=>¬r=true->¬(D||((x1.passes !=0)&&(e.bO !=x1.passes)))=true) ?_ fun H a=>?_;refine Oi (fun _=>.mk (fun h=>absurd rfl h)) (fun c1300=>?_);refine Ob (hB1) fun G g=>?_;exact .mk (fun _=>c1300);refine Oi (fun c1302=>.mk (by omega)) (fun c1302=>?_);have n:=a c1302;exact .mk (by omega);exact .mk (by omega);refine Ob (P:=fun r=>¬r=true->¬(decide ((bD (u-1))>=x1.passes))=true) ?_ fun y b=>?_;refine Oi (fun _=>.mk (fun h=>absurd rfl h)) (fun c1305=>?_);refine Ob (P:=fun r=>r=true->((bD (u-1))==(bD (x1.passes-1)))=true) ?_ fun x i=>?_;refine Oi (fun c1307=>?_) (fun _=>.mk (fun h=>by cases h));refine cA (T94 (by(simp only[nm]at *;omega))) fun E=>?_;refine Ob (P:=fun r=>¬r=true->¬(!E)=true) ?_ fun K j=>?_;refine Oi (fun _=>.mk (fun h=>absurd rfl h)) (fun c1310=>?_);refine Ob (Qi (by(simp(disch:=omega) only[bM,nm]at *;omega))) fun J k=>?_;exact .mk (fun _=>c1310);exact .mk (fun _=>c1307);exact .mk (fun _=>c1305);refine Oi (fun c1312=>.mk (by omega)) (fun c1312=>?_);have o:=b c1312;refine Oi (fun c1314=>?_) (fun c1314=>?_);refine cA (T94 (by(simp only[nm]at *;omega))) fun s=>?_;refine Ob (P:=fun r=>¬r=true->¬(s||((x1.passes !=0)&&(e.bO !=x1.passes)))=true) ?_ fun A c=>?_;refine Oi (fun _=>.mk (fun h=>absurd rfl h)) (fun c1317=>?_);refine Ob (hB1) fun z l=>?_;exact .mk (fun _=>c1317);refine Oi (fun c1319=>.mk (by omega)) (fun c1319=>?_);have p:=c c1319;exact .mk (by omega);exact .mk (by omega);refine Oi (fun c1321=>.mk (by omega)) (fun c1321=>?_);refine Oi (fun c1322=>?_) (fun c1322=>?_);refine cA (T94 (by omega)) fun t=>?_;refine Ob (P:=fun r=>¬r=true->¬(t||((x1.passes !=0)&&(e.bO !=x1.passes)))=true) ?_ fun C d=>?_;refine Oi (fun _=>.mk (fun h=>absurd rfl h)) (fun c1325=>?_);refine Ob (hB1) fun B m=>?_;exact .mk (fun _=>c1325);refine Oi (fun c1327=>.mk (by omega)) (fun c1327=>?_);have q:=d c1327;exact .mk (by omega);exact .mk (by omega)
theorem T93 {x1:YG} {e:YM} (d:e.sm) (c:x1.passes<=8) (hy:e.bO<=8):Ok (F93 x1 e) (fun v=>v.1.passes<=8):=by
 unfold F93;refine Oi (fun _=>Ob (gD2 d c hy) fun⟨a,b⟩ h=>.mk h) (fun _=>?_);refine Oi (fun _=>?_) (fun _=>?_);refine Ob (T94 (by omega)) fun f _=>?_;refine Oi (fun _=>.mk c) (fun _=>?_);refine Oi (fun _=>Oi (fun h=>by cases h) (fun _=>?_)) (fun _=>?_);exact Ob (P:=fun _=>True) (Oi (fun _=>bH) (fun _=>bH)) fun⟨a,b⟩ _=>.mk (show(0:Int)<=8 by decide);exact Ob (P:=fun _=>True) (Oi (fun _=>bH) (fun _=>bH)) fun a _=>.mk (show(0:Int)<=8 by decide);refine Oi (fun _=>Oi (fun _=>.mk c) (fun _=>?_)) (fun _=>?_);exact Ob (P:=fun _=>True) (Oi (fun _=>bH) (fun _=>bH)) fun⟨a,b⟩ _=>.mk (show(0:Int)<=8 by decide);exact Ob (P:=fun g=>g.passes<=8) (Oi (fun _=>.mk (show(0:Int)<=8 by decide)) (fun _=>.mk c)) fun g hg=>.mk hg
theorem uU1 {x1:aA YV} {f:Y0} {t:Int} (m:x1.length+25<=1000000) (c:f.sm) (s:0<f.aE.length):Ok (Zm x1 f t) (fun v=>x1.length<=v.length/\v.length<=x1.length+25):=by
 unfold Zm;have u:=c.aE;refine Ob (mL1 (by omega) c) fun k h=>?_;refine Oi (fun _=>.mk (by omega)) (fun hc=>?_);simp only[nR2]at hc;have o:=h.2 (by omega);have n:=h.1;refine Ob (P:=fun r=>match r with|.inl p=>k.length<=p.2.length/\p.2.length<=k.length+1|.inr g=>g.passes<=8) (bX (l:=f.aE) (fun q=>q.1) (fun i q=>q.2.passes<=8) (by omega) rfl (show(0:Int)<=8 by decide) (fun i e q s j hi hl d hg hw=>?_) (fun q hi d=>?_)) fun r hr=>?_;obtain⟨x,g⟩:=q;dsimp only at hi hl d hg hw;simp only[hl,hg,nt];refine Ob (T93 (c.cH e j) d (o e j)) fun⟨g2,b⟩ hb=>?_;refine Oi (fun _=>?_) (fun _=>.mk ⟨hw,hb⟩);exact Ob (lZ (by omega) c) fun v hv=>.mk (by dsimp only;omega);obtain⟨x,g⟩:=q;dsimp only at hi d;simp only[hi,nf];exact .mk d;rcases r with⟨a,v⟩|g;exact .mk (by dsimp only at hr;omega);dsimp only at hr;refine Ob (P:=fun _=>True) (Oi (fun _=>bH) (fun _=>?_)) fun b _=>?_;exact Ob (P:=fun _=>True) (Oi (fun _=>Ob (T94 (by omega)) fun _ _=>bH) (fun _=>bH)) fun _ _=>bH;refine Ob (cK (Q:=fun _=>True) (by rw[bM (by omega) (by omega)];omega) (by rw[bM (by omega) (by omega)];omega) (fun _ _ _=>trivial)) fun y _=>?_;exact Ob (lZ (by omega) c) fun v hv=>.mk (by omega)
theorem T96 {x1 a:YM} (b:x1.sm) (c:a.sm):Ok (F96 x1 a) (fun _=>True):=by
 unfold F96;exact bH
theorem gE2 {x1:aA YM} {n:YM} (g:x1.length<=12) (h:∀y∈x1,y.sm) (k:n.sm):Ok (gP1 x1 n) (fun _=>True):=by
 unfold gP1;have i:=g;refine pY (l:=x1) (fun q=>q) (nO2 g (by decide)) rfl (fun m j o d a c b e=>?_) (fun o a=>?_) fun p=>?_;simp only[c,b,nt];have f:=h _ d;refine cA (T96 f k) fun r=>?_;refine oJ (fun _=>?_);exact .mk e;simp only[a,nf];exact bH;rcases p with s|_;exact bH;exact bH
theorem T56 {x1:aA YM} {d:YM} (b:x1.length<=12) (a:∀y∈x1,y.sm) (c:d.sm):Ok (F56 x1 d) (fun _=>True):=by
 unfold F56;refine cA (gE2 b a c) fun e=>?_;exact bH
theorem gF2 {x1:YM} {b:Int} (a:x1.sm):Ok (gQ1 x1 b) (fun _=>True):=by
 unfold gQ1;exact bH
theorem mM1 {x1:aA YM} {m:Int} (g:x1.length<=12) (h:∀y∈x1,y.sm):Ok (Fz x1 m) (fun _=>True):=by
 unfold Fz;have i:=g;refine pY (l:=x1) (fun q=>q) (nO2 g (by decide)) rfl (fun k j n d a c b e=>?_) (fun n a=>?_) fun o=>?_;simp only[c,b,nt];have f:=h _ d;refine cA (gF2 f) fun p=>?_;refine oJ (fun _=>?_);exact .mk e;simp only[a,nf];exact bH;rcases o with r|_;exact bH;exact bH
theorem mN1 {x1:YK} {b:Int} (a:x1.s'.sm):Ok (Sz x1 b) (fun _=>True):=by
 unfold Sz;refine cA (mM1 a.aE a.cH) fun c=>?_;exact bH
theorem mO1 {x1:Int} {b:YK} {c:Int} (a:b.s'.sm):Ok (Ta x1 b c) (fun _=>True):=by
 unfold Ta;refine cA (mN1 a) fun d=>?_;refine cA (Gk) fun e=>?_;exact bH
theorem T97 {x1:YK} {e j:Int} (a:x1.s'.sm):Ok (F97 x1 e j) (fun _=>True):=by
 unfold F97;refine Ob (P:=fun r=>r=true->(decide (e>=4))=true) ?_ fun m b=>?_;refine Oi (fun c1362=>?_) (fun _=>.mk (fun h=>by cases h));refine cA (mO1 a) fun l=>?_;exact .mk (fun _=>c1362);refine Oi (fun c1364=>?_) (fun c1364=>?_);have d:=b c1364;exact bH;refine cA ?_ fun n=>?_;refine oJ (fun _=>?_);exact bH;refine Oi (fun c1368=>?_) (fun c1368=>?_);refine cA (mO1 a) fun o=>?_;exact bH;refine cA ?_ fun p=>?_;refine oJ (fun _=>?_);exact bH;refine Oi (fun c1372=>?_) (fun c1372=>?_);refine cA (mO1 a) fun k=>?_;refine Ob (P:=fun r=>r=true->k=true) ?_ fun i c=>?_;refine Oi (fun c1375=>?_) (fun _=>.mk (fun h=>by cases h));refine cA (mN1 a) fun f=>?_;refine cA (mN1 a) fun g=>?_;exact .mk (fun _=>c1375);exact bH;exact bH
theorem T95 {x1:Int} {g:YM} {e:YK} (d:g.sm) (a:e.s'.sm) (f:0<=x1/\x1<=(e.s'.aE.length:Int)):Ok (F95 x1 g e) (fun _=>True):=by
 unfold F95;refine Ob Gk fun w _=>?_;refine Ob (P:=fun _=>True) (Oi (fun _=>bH) (fun _=>Ob Gk fun _ _=>bH)) fun b _=>?_;refine Oi (fun _=>bH) (fun _=>?_);refine Ob (Dp (by decide) f.1 f.2) fun l hl=>?_;refine Ob (T56 (oL2 hl.1 a.aE) (fun y hy=>a.cH y (hl.2 y hy)) d) fun c _=>?_;exact Ob (P:=fun _=>True) (Oi (fun _=>bH) (fun _=>Ob (T97 a) fun _ _=>bH)) fun b _=>bH
theorem mP1 {x1:aA YV} {n:Y0} {t:Int} (p:x1.length+12<=1000000) (f:n.sm):Ok (Ga x1 n t) (fun v=>x1.length<=v.length/\v.length<=x1.length+12):=by
 unfold Ga;have i:=f.aE;refine og n.aE x1 12 1 (nO2 f.aE (by decide)) (fun m k q1389 j g a d b c e=>?_) (fun q1389 a b=>?_) fun s o=>?_;obtain⟨u,w⟩:=q1389;dsimp only at a d c e b;simp only[d,c,nt];have h:=f.cH _ g;refine cA (T95 h f (by(simp only[nm]at *;omega))) fun q=>?_;refine Ob (lZ (by first|omega|(simp only[nZ2]at *;omega)) f) fun r l=>?_;exact .mk ⟨e,by dsimp only;omega⟩;obtain⟨u,w⟩:=q1389;dsimp only at a b;simp only[a,nf];exact .mk (by dsimp only;omega);exact .mk (by omega)
theorem uV1 {x1:aA YV} {c:Y0} {e:Int} (d:x1.length+12<=1000000) (b:c.sm):Ok (Zp x1 c e) (fun v=>x1.length<=v.length/\v.length<=x1.length+12):=by
 unfold Zp;refine Ob (mP1 (by first|omega|(simp only[nZ2]at *;omega)) b) fun f a=>?_;exact .mk (by omega)
theorem T98 {x1:Int} {m:YM} (f:m.sm):Ok (F98 x1 m) (fun _=>True):=by
 unfold F98;refine cA (T68 f) fun⟨M,N⟩=>?_;refine Ob (P:=fun r=>r=true->(m.Kn !=0)=true) ?_ fun L u=>?_;refine Oi (fun c1397=>?_) (fun _=>.mk (fun h=>by cases h));refine cA (Gk) fun O=>?_;exact .mk (fun _=>c1397);refine Ob (P:=fun r=>¬r=true->¬L=true) ?_ fun S v=>?_;refine Oi (fun _=>.mk (fun h=>absurd rfl h)) (fun c1400=>?_);refine cA (Gk) fun R=>?_;exact .mk (fun _=>c1400);have p:=f.jW;refine pY (l:=m.jW) (fun q=>q.2) (nO2 f.jW (by decide)) rfl (fun z t q1412 n a c b d=>?_) (fun q1412 a=>?_) fun K=>?_;obtain⟨j,k⟩:=q1412;dsimp only at a c b d;simp only[c,b,nt];refine Ob (P:=fun r=>¬r=true->¬j=true) ?_ fun C e=>?_;refine Oi (fun _=>.mk (fun h=>absurd rfl h)) (fun c1415=>?_);refine cA (Gk) fun E=>?_;exact .mk (fun _=>c1415);refine Ob (P:=fun r=>¬r=true->¬C=true) ?_ fun D g=>?_;refine Oi (fun _=>.mk (fun h=>absurd rfl h)) (fun c1418=>?_);have A:=e c1418;refine cA (Gk) fun F=>?_;exact .mk (fun _=>c1418);refine Ob (P:=fun r=>¬r=true->¬D=true) ?_ fun J w=>?_;refine Oi (fun _=>.mk (fun h=>absurd rfl h)) (fun c1422=>?_);have i:=g c1422;have B:=e i;refine Ob (P:=fun r=>r=true->(decide (k>0))=true) ?_ fun H y=>?_;refine Oi (fun c1426=>?_) (fun _=>.mk (fun h=>by cases h));have s:=f.jW;refine Ob (P:=fun x=>x∈m.jW) (cK (by(simp only[nm]at *;rw[bM (by omega) (by omega)];omega)) (by(simp only[nm]at *;rw[bM (by omega) (by omega)];omega)) (fun _ h _=>h)) fun G o=>?_;exact .mk (fun _=>c1426);exact .mk (fun _=>c1422);exact .mk d;obtain⟨j,k⟩:=q1412;dsimp only at a;simp only[a,nf];exact bH;exact bH
theorem mQ1 {x1:aA YV} {n:Y0} {t:Int} (p:x1.length+12<=1000000) (f:n.sm):Ok (Gb x1 n t) (fun v=>x1.length<=v.length/\v.length<=x1.length+12):=by
 unfold Gb;have i:=f.aE;refine og n.aE x1 12 1 (nO2 f.aE (by decide)) (fun m k q1441 j g a d b c e=>?_) (fun q1441 a b=>?_) fun s o=>?_;obtain⟨u,w⟩:=q1441;dsimp only at a d c e b;simp only[d,c,nt];have h:=f.cH _ g;refine cA (T98 h) fun q=>?_;refine Ob (lZ (by first|omega|(simp only[nZ2]at *;omega)) f) fun r l=>?_;exact .mk ⟨e,by dsimp only;omega⟩;obtain⟨u,w⟩:=q1441;dsimp only at a b;simp only[a,nf];exact .mk (by dsimp only;omega);exact .mk (by omega)
theorem uW1 {x1:aA YV} {c:Y0} {e:Int} (d:x1.length+12<=1000000) (b:c.sm):Ok (Zq x1 c e) (fun v=>x1.length<=v.length/\v.length<=x1.length+12):=by
 unfold Zq;refine Ob (mQ1 (by first|omega|(simp only[nZ2]at *;omega)) b) fun f a=>?_;exact .mk (by omega)
theorem T99 {x1:YP} {e:YE} {g:YK} (a:e.sm) (c:g.s'.sm):Ok (F99 x1 e g) (fun _=>True):=by
 unfold F99;refine Ob (T85 c) fun⟨q,f⟩ d=>?_;dsimp only at d;refine Ob (P:=fun r=>¬r=true->f=true) (Oi (fun _=>.mk (fun h=>absurd rfl h)) (fun hc=>Ob (T84 a) fun t _=>.mk (fun _=>by simpa using hc))) fun b hb=>?_;refine Oi (fun _=>bH) (fun hc=>?_);simp only[oE2,qG2]at hc;have:=d (hb hc.1);exact Ob (cK (Q:=fun _=>True) this.1 this.2.1 (fun _ _ _=>trivial)) fun x _=>Ob (cK (Q:=fun _=>True) this.2.2.1 this.2.2.2 (fun _ _ _=>trivial)) fun y _=>bH
theorem mR1 {x1:aA YV} {x2:Y0} {x3:Int} (d8:x1.length+3600<=1000000) (y:x2.sm):Ok (Gc x1 x2 x3) (fun v=>x1.length<=v.length/\v.length<=x1.length+3600):=by
 unfold Gc;have N:=y.aE;refine og x2.aE x1 3600 300 (nO2 y.aE (by decide)) (fun Y D q1458 S z c p g a t=>?_) (fun q1458 c g=>?_) fun d7 b7=>?_;obtain⟨b4,K⟩:=q1458;dsimp only at c p a t g;simp only[p,a,nt];have l:=y.cH _ z;have O:=l.aS;refine og D.aS K 300 60 (nO2 l.aS (by decide)) (fun Z E q1472 T A d q h b u=>?_) (fun q1472 d h=>?_) fun d6 b8=>?_;obtain⟨b5,L⟩:=q1472;dsimp only at d q b u h;simp only[q,a,b,nt];have m:=l.gZ _ A;have P:=m.aO;refine og E.aO L 60 20 (nO2 m.aO (by decide)) (fun a0 F q1486 U B e r i k w=>?_) (fun q1486 e i=>?_) fun d5 b9=>?_;obtain⟨b6,M⟩:=q1486;dsimp only at e r k w i;simp only[r,a,b,k,nt];have n:=m.fI _ B;have R:=n.aU;refine og F.aU M 20 1 (nO2 n.aU (by decide)) (fun b0 W q1500 V C f s j o x=>?_) (fun q1500 f j=>?_) fun d4 d0=>?_;obtain⟨H,J⟩:=q1500;dsimp only at f s o x j;simp only[s,a,b,k,o,nt];have G:=n.fH _ C;refine cA (T99 G y) fun d2=>?_;refine Ob (lZ (by first|omega|(simp only[nZ2]at *;omega)) y) fun d3 X=>?_;exact .mk ⟨x,by dsimp only;omega⟩;obtain⟨H,J⟩:=q1500;dsimp only at f j;simp only[f,nf];exact .mk (by dsimp only;omega);exact .mk ⟨w,by dsimp only;omega⟩;obtain⟨b6,M⟩:=q1486;dsimp only at e i;simp only[e,nf];exact .mk (by dsimp only;omega);exact .mk ⟨u,by dsimp only;omega⟩;obtain⟨b5,L⟩:=q1472;dsimp only at d h;simp only[d,nf];exact .mk (by dsimp only;omega);exact .mk ⟨t,by dsimp only;omega⟩;obtain⟨b4,K⟩:=q1458;dsimp only at c g;simp only[c,nf];exact .mk (by dsimp only;omega);exact .mk (by omega)
theorem uX1 {x1:aA YV} {c:Y0} {e:Int} (d:x1.length+3600<=1000000) (b:c.sm):Ok (Zr x1 c e) (fun v=>x1.length<=v.length/\v.length<=x1.length+3600):=by
 unfold Zr;refine Ob (mR1 (by first|omega|(simp only[nZ2]at *;omega)) b) fun f a=>?_;exact .mk (by omega)
theorem pZ {c1 c2:Bool} {x:aA YV} {R:aB (aA YV)} (c:Ok R fun _=>True):Ok (((if decide ((x.length:Int)>0)=true then((if c1=true then some true else((if c2=true then(fK x 0).bind fun a=>(gQ x a).bind fun v=>some (decide (v.hJ<10))else some false:aB Bool)).bind fun y=>some y:aB Bool)).bind fun z=>some z else some false:aB Bool)).bind fun b=>if b=true then some x else R) fun _=>True:=by
 have k:∀D:aB Bool,(∃b,D=some b)->Ok (D.bind fun b=>if b=true then some x else R) fun _=>True:=fun D h=>by
  obtain⟨b,rfl⟩:=h;cases b with
  |true=>exact bH
  |false=>exact c
 refine k _ ?_;cases x with
 |nil=>exact⟨_,rfl⟩
 |cons v r=>
  have e:fK (v::r) 0=some 0:=by
   unfold fK mW;rw[nQ2 ⟨by decide,by simp⟩];rfl
  rw[nQ2 (by simp),e];cases c1<;>cases c2<;>exact⟨_,rfl⟩
theorem T24 {x1:Y0} (a:x1.sm) (b:0<x1.aE.length):Ok (F24 x1) (fun _=>True):=by
 unfold F24;refine pZ (Ob (tK1 (by simp only[nl]at *;omega) a) fun _ _=>?_);refine pZ (Ob (tN1 (by simp only[nl]at *;omega) a) fun _ _=>?_);refine pZ (Ob (tO1 (by simp only[nl]at *;omega) a) fun _ _=>?_);refine pZ (Ob (tP1 (by simp only[nl]at *;omega) a) fun _ _=>?_);refine pZ (Ob (tQ1 (by simp only[nl]at *;omega) a) fun _ _=>?_);refine pZ (Ob (uA1 (by simp only[nl]at *;omega) a) fun _ _=>?_);refine pZ (Ob (uB1 (by simp only[nl]at *;omega) a) fun _ _=>?_);refine pZ (Ob (uC1 (by simp only[nl]at *;omega) a) fun _ _=>?_);refine pZ (Ob (uD1 (by simp only[nl]at *;omega) a) fun _ _=>?_);refine pZ (Ob (uI1 (by simp only[nl]at *;omega) a) fun _ _=>?_);refine pZ (Ob (uJ1 (by simp only[nl]at *;omega) a) fun _ _=>?_);refine pZ (Ob (uQ1 (by simp only[nl]at *;omega) a) fun _ _=>?_);refine pZ (Ob (uT1 (by simp only[nl]at *;omega) a) fun _ _=>?_);refine pZ (Ob (uU1 (by simp only[nl]at *;omega) a b) fun _ _=>?_);refine pZ (Ob (uV1 (by simp only[nl]at *;omega) a) fun _ _=>?_);refine pZ (Ob (uW1 (by simp only[nl]at *;omega) a) fun _ _=>?_);refine pZ (Ob (uX1 (by simp only[nl]at *;omega) a) fun _ _=>?_);exact bH
theorem T9 {x1:Y0} (a:x1.sm):Ok (F9 x1) (fun _=>True):=by
 unfold F9;refine Ob (P:=fun _=>True) ?_ fun v _=>bH;by_cases h0:0<x1.aE.length;exact(T24 a h0).mono fun _ _=>trivial;unfold F24;refine Ob (P:=fun r=>r=false) (Oi (fun h=>by simp at h) (fun _=>.mk rfl)) fun b hb=>?_;subst hb;refine Oi (fun h=>by cases h) (fun _=>?_);refine Ob (tJ1 a (by omega) (by decide)) fun v hv=>?_;refine Ob (P:=fun r=>r=true) (Oi (fun h=>Ob (P:=fun r=>r=true) (Oi (fun _=>.mk rfl) (fun h=>absurd rfl h)) fun b hb=>.mk hb) (fun h=>by simp at h;simp[h]at hv)) fun b hb=>?_;subst hb;exact Oi (fun _=>bH) (fun h=>absurd rfl h)
end Go.P
set_option maxHeartbeats 1000000
namespace Go.P
theorem Ge {α β:Type} {x:aB α} {a:α} {K:α->aB β} {r:aB β} (h:x=some a) (hk:K a=r):x.bind K=r:=by subst h;exact hk
theorem Ok.eq {α:Type} {x:aB α} {a:α} (h:Ok x (fun v=>v=a)):x=some a:=by
 obtain⟨v,h1,rfl⟩:=h;exact h1
theorem aC1 {A:Type} {l:aA A} {body:Int->aB (Int⊕(Unit⊕Unit))} (p:A->Bool) (hl:l.length<9223372036854775808)
  (h:∀(i:Int) (x:A),0<=i->i<(l.length:Int)->x∈l->aV l i=some x->bD (i+1)=i+1->body i=some (if p x then .inr (.inl ())else .inl (i+1)))
  (b:body (l.length:Int)=some (.inr (.inr ()))):aX body bK 0=some (if l.any p then .inl ()else .inr ()):=by
 refine Ok.eq (qO (fun x=>p x=false) hl (fun i x h0 h1 c hg hw=>?_) (fun i hi a=>?_));rw[h i x h0 h1 c hg hw];cases hp:p x with
 |false=>exact .mk ⟨rfl,rfl⟩
 |true=>
  refine .mk ?_;have:l.any p=true:=List.any_eq_true.2 ⟨x,c,hp⟩;rw[this];rfl
 rw[hi,b];refine .mk ?_;have:l.any p=false:=by rw[List.any_eq_false];intro x c;rw[a x c];exact Bool.false_ne_true
 rw[this];rfl
theorem hD1 {A:Type} {l:aA A} {g:A->aB Bool} (p:A->Bool) (hl:l.length<9223372036854775808) (hg:∀x∈l,g x=some (p x)):((Na l g).bind fun v=>some (decide (v>=0)))=some (l.any p):=by
 obtain⟨v,h1,h2⟩:=Qh hl (fun x a=>⟨_,hg x a⟩);rw[h1,nT2];rcases h2 with⟨rfl,h⟩|⟨h0,_,x,a,hp⟩
 have:l.any p=false:=by
  rw[List.any_eq_false];intro x a;have:=h x a;rw[hg x a]at this;rw[pN2 this];exact Bool.false_ne_true
 rw[this];rfl;have b:=nU2 a;rw[hg x b]at hp;have:l.any p=true:=List.any_eq_true.2 ⟨x,b,pN2 hp⟩;rw[this,oP2 (show v>=0 from h0)]
section
variable {K V:Type} [DecidableEq K]
end
end Go.P
namespace Go.P
variable {s:Y0}
theorem qA {x v:aA YV} {D:aB Bool} {R:aB (aA YV)} (h:((if decide ((x.length:Int)>0)then D else some false).bind fun b=>if b then some x else R)=some v) (h0:v.length=0):R=some v:=by
 by_cases a:((x.length:Int)>0);rw[nQ2 (by simpa using a)]at h;cases D with
 |none=>cases h
 |some b=>
  cases b with
  |true=>simp at h;subst h;omega
  |false=>exact h
 rw[nS2 (by simpa using a)]at h;exact h
theorem oK {A B:Type} {x:aB A} {k:A->aB B} {v:B} (h:x.bind k=some v):∃a,x=some a/\k a=some v:=nI2.1 h
theorem qB {A:Type} {l:aA A} (h:l.length=0):l=[]:=pY2 h
structure jE1 (s:Y0):Prop where
 r1:Kc [] s 1=some []
 r2:Yb [] s 2=some []
 r3:Yc [] s 3=some []
 r4:Yd [] s 4=some []
 r5:Ye [] s 5=some []
 r6:Yo [] s 6=some []
 r7:Yp [] s 7=some []
 r8:Yq [] s 8=some []
 r9:Yr [] s 9=some []
 r10:Yv [] s 10=some []
 r11:Yw [] s 11=some []
 r12:Zf [] s 12=some []
 r13:Zl [] s 13=some []
 r14:Zm [] s 14=some []
 r15:Zp [] s 15=some []
 r16:Zq [] s 16=some []
 r17:Zr [] s 17=some []
theorem hF1 (hs:s.sm) (A:0<s.aE.length) {v:aA YV} (h:F24 s=some v) (h0:v.length=0):jE1 s:=by
 unfold F24 at h;have h:=qA h h0;obtain⟨x1,q,h⟩:=oK h;have i1:=(tK1 (by decide) hs).of q;have h:=qA h h0;obtain⟨K,e2,h⟩:=oK h;have T:=(tN1 (by simp only[nl]at *;omega) hs).of e2;have h:=qA h h0;obtain⟨L,r,h⟩:=oK h;have U:=(tO1 (by simp only[nl]at *;omega) hs).of r;have h:=qA h h0;obtain⟨M,t,h⟩:=oK h;have V:=(tP1 (by simp only[nl]at *;omega) hs).of t;have h:=qA h h0;obtain⟨N,u,h⟩:=oK h;have W:=(tQ1 (by simp only[nl]at *;omega) hs).of u;have h:=qA h h0;obtain⟨O,w,h⟩:=oK h;have X:=(uA1 (by simp only[nl]at *;omega) hs).of w;have h:=qA h h0;obtain⟨P,x,h⟩:=oK h;have Y:=(uB1 (by simp only[nl]at *;omega) hs).of x;have h:=qA h h0;obtain⟨R,y,h⟩:=oK h;have i8:=(uC1 (by simp only[nl]at *;omega) hs).of y;have h:=qA h h0;obtain⟨S,z,h⟩:=oK h;have Z:=(uD1 (by simp only[nl]at *;omega) hs).of z;have h:=qA h h0;obtain⟨j,a,h⟩:=oK h;have B:=(uI1 (by simp only[nl]at *;omega) hs).of a;have h:=qA h h0;obtain⟨k,b,h⟩:=oK h;have C:=(uJ1 (by simp only[nl]at *;omega) hs).of b;have h:=qA h h0;obtain⟨l,c,h⟩:=oK h;have D:=(uQ1 (by simp only[nl]at *;omega) hs).of c;have h:=qA h h0;obtain⟨m,d,h⟩:=oK h;have E:=(uT1 (by simp only[nl]at *;omega) hs).of d;have h:=qA h h0;obtain⟨n,e,h⟩:=oK h;have F:=(uU1 (by simp only[nl]at *;omega) hs A).of e;have h:=qA h h0;obtain⟨o,f,h⟩:=oK h;have G:=(uV1 (by simp only[nl]at *;omega) hs).of f;have h:=qA h h0;obtain⟨p,g,h⟩:=oK h;have i16:=(uW1 (by simp only[nl]at *;omega) hs).of g;have h:=qA h h0;obtain⟨J,i,h⟩:=oK h;have H:=(uX1 (by simp only[nl]at *;omega) hs).of i;cases h;have z17:v=[]:=qB h0;have z16:p=[]:=qB (by simp only[nl]at *;omega);have z15:o=[]:=qB (by simp only[nl]at *;omega);have z14:n=[]:=qB (by simp only[nl]at *;omega);have z13:m=[]:=qB (by simp only[nl]at *;omega);have z12:l=[]:=qB (by simp only[nl]at *;omega);have z11:k=[]:=qB (by simp only[nl]at *;omega);have z10:j=[]:=qB (by simp only[nl]at *;omega);have z9:S=[]:=qB (by simp only[nl]at *;omega);have z8:R=[]:=qB (by simp only[nl]at *;omega);have z7:P=[]:=qB (by simp only[nl]at *;omega);have z6:O=[]:=qB (by simp only[nl]at *;omega);have z5:N=[]:=qB (by simp only[nl]at *;omega);have z4:M=[]:=qB (by simp only[nl]at *;omega);have z3:L=[]:=qB (by simp only[nl]at *;omega);have z2:K=[]:=qB (by simp only[nl]at *;omega);have z1:x1=[]:=qB (by simp only[nl]at *;omega);subst z1 z2 z3 z4 z5 z6 z7 z8 z9 z10 z11 z12 z13 z14 z15 z16 z17;exact⟨q,e2,r,t,u,w,x,y,z,a,b,c,d,e,f,g,i⟩
theorem mS1 (hs:s.sm) (a:0<s.aE.length) (hv:F9 s=some true):jE1 s:=by
 unfold F9 at hv;obtain⟨v,h,hv⟩:=oK hv;exact hF1 hs a h (by simp at hv;simp[hv])
end Go.P
namespace Go.P
variable {s:Y0}
theorem uY1 (hs:s.sm) (hM:0<s.aE.length) (hv:F9 s=some true):∀p∈s.bE,Kq p.cG=some 0:=by
 have h:=(mS1 hs hM hv).r1;unfold Kc at h;have hp:=hs.bE;obtain⟨v1,h1,h⟩:=oK h
 have g1:v1.length<=4/\(v1.length=0->∀p∈s.bE,Kq p.cG=some 0):=by
  refine Ok.of (Q:=fun v:aA YV=>v.length<=4/\(v.length=0->∀p∈s.bE,Kq p.cG=some 0)) (bX (l:=s.bE) (fun q=>q.1) (fun i q=>q.2.length<=i/\(q.2.length=0->∀j,j<i->∀p,s.bE[j]? =some p->Kq p.cG=some 0)) (by omega) rfl ⟨by simp,fun _ j K=>by omega⟩ (fun i p q hx hm hi hl D hg hw=>?_) (fun q hi D=>?_)) h1;obtain⟨V,W⟩:=q;dsimp only at hi hl D hg hw;have R:=(nK2.1 hx).1;simp only[hl,hg,nt];have T:=hs.mQ _ hm;refine cA (T59 T.xI) fun d7=>?_;refine Ob (P:=fun _=>True) ?_ fun d9 d2=>?_;refine Oi (fun _=>.mk trivial) (fun c35=>?_);refine cA (Gk) fun d8=>?_;exact .mk trivial;refine Ob (P:=fun r=>r=false->Kq p.cG=some 0) ?_ fun H N=>?_;refine Oi (fun h=>.mk (fun h=>by cases h)) (fun c38=>?_);obtain⟨n,hn,_⟩:=T48 (x1:=p.cG);rw[hn];exact .mk (fun h=>by simp at h;rw[h]);refine Ob (Tc (by omega)) fun u C=>.mk ⟨hw,?_,fun h j K m A=>?_⟩;dsimp only;cases H<;>simp at C<;>omega;dsimp only at h;cases H with
  |true=>simp at C;omega
  |false=>
   simp only[nV2,false_implies,forall_const,true_and]at C;by_cases S:j=i;subst S;rw[hx]at A;cases A;exact N rfl;exact D.2 (by omega) j (by omega) m A
  obtain⟨V,W⟩:=q;dsimp only at hi D;simp only[hi,nf];refine .mk ⟨by omega,fun h p hp=>?_⟩;obtain⟨j,K⟩:=oF2.1 hp;exact D.2 h j (nK2.1 K).1 p K
 refine g1.2 ?_;have d3:=g1.1
 have:v1.length<=([]:aA YV).length:=by
  refine Ok.of (Q:=fun v:aA YV=>v1.length<=v.length) ?_ h;have b7:=hs.aE;refine og s.aE v1 12 1 (by omega) (fun d4 L q53 G E b k e a w=>?_) (fun q53 b e=>?_) fun e4 e6=>?_;obtain⟨X,Y⟩:=q53;dsimp only at b k a w e;simp only[k,a,nt];have R:=(nK2.1 G).1;have B:=hs.cH _ E;refine cA (T59 B.gU) fun e0=>?_;have b8:=B.aS;refine pY (l:=L.aS) (fun q=>q.2) (by omega) rfl (fun d5 M q67 F c o f y=>?_) (fun q67 c=>?_) fun b5=>?_;obtain⟨Z,a0⟩:=q67;dsimp only at c o f y;simp only[o,a,f,nt];have U:=B.gZ _ F;have b9:=U.aO;refine pY (l:=M.aO) (fun q=>q.2) (by omega) rfl (fun d6 d0 q80 b6 d t g z=>?_) (fun q80 d=>?_) fun e1=>?_;obtain⟨b0,b4⟩:=q80;dsimp only at d t g z;simp only[t,a,f,g,nt];exact .mk z;obtain⟨b0,b4⟩:=q80;dsimp only at d;simp only[d,nf];exact .mk trivial;exact .mk y;obtain⟨Z,a0⟩:=q67;dsimp only at c;simp only[c,nf];exact .mk trivial;refine Ob (Tc (by omega)) fun e3 O=>?_;refine .mk ⟨w,?_,?_⟩<;>dsimp only<;>cases b5<;>simp at O<;>omega;obtain⟨X,Y⟩:=q53;dsimp only at b e;simp only[b,nf];exact .mk (by dsimp only;omega);refine cA (T59 hs.nI) fun e5=>?_;refine cA ?_ fun J=>?_;exact Oi (fun _=>.mk trivial) (fun _=>cA Gk fun x=>.mk trivial);refine cA ?_ fun J=>?_;exact Oi (fun _=>.mk trivial) (fun _=>cA Gk fun x=>.mk trivial);refine Ob (Tc (by omega)) fun u C=>.mk ?_;by_cases h:(J||decide ((s.bF.length:Int)>4096)||decide ((s.jU.length:Int)>100))=true;have:=C.1 h;omega;have:=C.2 (by simpa using h);omega
 simpa using this
theorem uZ1 (hs:s.sm) (hv:F9 s=some true):0<s.aE.length:=by
 rcases Nat.eq_zero_or_pos s.aE.length with h0|h0;exfalso
 have:Ok (F9 s) (fun b=>b=false):=by
  unfold F9 F24;refine Ob (P:=fun v=>0<v.length) ?_ fun v hv=>.mk (by simp;intro h;rw[h]at hv;simp at hv);refine Ob (P:=fun r=>r=false) (Oi (fun h=>by simp at h) (fun _=>.mk rfl)) fun b hb=>?_;subst hb;refine Oi (fun h=>by cases h) (fun _=>?_);refine Ob (tJ1 hs h0 (by decide)) fun v hv=>?_;refine Ob (P:=fun r=>r=true) (Oi (fun h=>Ob (P:=fun r=>r=true) (Oi (fun _=>.mk rfl) (fun h=>absurd rfl h)) fun b hb=>.mk hb) (fun h=>by simp at h;simp[h]at hv)) fun b hb=>?_;subst hb;exact Oi (fun _=>.mk hv) (fun h=>absurd rfl h)
 have:=this.of hv;cases this;exact h0
end Go.P
namespace Go.P
variable {s:Y0}
theorem wB {A B:Type} {l:aA A} {body:Int->aB (Int⊕(B⊕Unit))} (p:A->Bool) (f:Int->A->B) (hl:l.length<9223372036854775808)
  (h:∀(i:Int) (x:A),0<=i->i<(l.length:Int)->x∈l->aV l i=some x->bD (i+1)=i+1->body i=some (if p x then .inr (.inl (f i x))else .inl (i+1)))
  (c:body (l.length:Int)=some (.inr (.inr ()))):
  Ok (aX body bK 0) (fun r=>match r with|.inl b=>∃(n:Nat) (x:A),l[n]? =some x/\p x=true/\l.find? p=some x/\b=f (n:Int) x/\∀y∈l.take n,p y=false|.inr _=>∀y∈l,p y=false):=by
 refine bX (l:=l) (fun q=>q) (fun i _=>∀y∈l.take i,p y=false) hl rfl (by simp) (fun i x q d j hi g a hg hw=>?_) (fun q hi a=>?_);rw[h q x (by omega) g j hg (by omega)];cases hp:p x with
 |true=>
  refine .mk ⟨i,x,d,hp,?_,by rw[hi],a⟩;have e:=(nK2.1 d).1;rw[<-qS2 i l,List.find?_append,List.drop_eq_getElem_cons e,(nK2.1 d).2]
  have:(l.take i).find? p=none:=by
   rw[List.find?_eq_none];intro y hy;rw[a y hy];exact Bool.false_ne_true
  rw[this,Option.none_or,List.find?_cons_of_pos hp]
 |false=>
  refine .mk ⟨by omega,fun y hy=>?_⟩;rw[List.take_add_one,d]at hy;rcases pI2.1 hy with h|h;exact a y h;simp at h;rw[h];exact hp
 rw[hi,c];rw[pW2]at a;exact .mk a
def mT1 {A:Type} (l:aA A) (g:A->aB Bool) (z:A):aB (Unit⊕(aA A)):=
 (Na l g).bind fun k=>if k==(-1)then some (.inl ())else(aX (E:=Int×(aA A)) (fun(⟨b,c,a⟩:Int×Int×(aA A))=>if decide (c<(a.length:Int))then(fK a c).bind fun f=>(gQ a f).bind fun d=>(g d).bind fun h=>((if !h then(fK a b).bind fun i=>(Fc a i (fun r=>d)).bind fun j=>some ((bD (b+1)),j)else some (b,a):aB (Int×(aA A)))).bind fun⟨m,n⟩=>some (.inl (m,(bD (c+1)),n))else some (.inr (b,a))) bK (k,(bD (k+1)),l)).bind fun⟨e,o⟩=>(Xp o e z).bind fun p=>(pU p e).bind fun q=>some (.inr q)
theorem aD1 (l:aA YL):Zs l=mT1 l Mz (YL.mk 0 0):=by rfl
theorem Nh {A:Type} {l:aA A} {g:A->aB Bool} (p:A->Bool) (hl:l.length<9223372036854775808) (hg:∀x∈l,g x=some (p x)):
  Ok (Na l g) (fun v=>(v= -1/\∀x∈l,p x=false)\/∃(n:Nat) (x:A),v=(n:Int)/\l[n]? =some x/\p x=true/\∀y∈l.take n,p y=false):=by
 unfold Na;refine Ob (wB p (fun i _=>i) hl (fun i x h0 h1 d a hw=>?_) (by simp)) fun r hr=>?_;rw[nQ2 (by simpa using h1),a,nT2,hg x d,nT2,hw];cases p x<;>rfl;cases r with
 |inl v=>
  obtain⟨n,x,h1,h2,_,b,c⟩:=hr;exact .mk (.inr ⟨n,x,b,h1,h2,c⟩)
 |inr u=>exact .mk (.inl ⟨rfl,hr⟩)
theorem Kk {A:Type} {l:aA A} {n:Nat} (h:n<l.length):fK l (n:Int)=some n:=by
 unfold fK mW;rw[nQ2 ⟨by omega,by omega⟩,Int.toNat_natCast]
theorem hG1 {A:Type} {l:aA A} {g:A->aB Bool} (p:A->Bool) (z:A) (hl:l.length<4611686018427387904) (hg:∀x∈l,g x=some (p x)):
  Ok (mT1 l g z) (fun r=>(match r with|.inl _=>l|.inr m=>m)=l.filter (fun x=> !p x)):=by
 unfold mT1;refine Ob (Nh p (by omega) hg) fun v hv=>?_;rcases hv with⟨rfl,h⟩|⟨n,x,rfl,hx,hp,hb⟩
 rw[nQ2 (by rfl)];refine .mk ?_;dsimp only;rw[List.filter_eq_self.2];intro y hy;rw[h y hy];rfl;have hn:=(nK2.1 hx).1;rw[nS2 (by simp)]
 refine Ob (P:=fun q:Int×aA A=>∃a:Nat,q.1=(a:Int)/\a<=l.length/\q.2.length=l.length/\q.2.take a=l.filter (fun x=> !p x))
  (fZ (fun q:Int×Int×aA A=>∃a b:Nat,q.1=(a:Int)/\q.2.1=(b:Int)/\a<b/\b<=l.length/\q.2.2.length=l.length/\q.2.2.drop b=l.drop b/\q.2.2.take a=(l.take b).filter (fun x=> !p x)) (fun q=>(l.length-q.2.1).toNat) (fun q o=>?_) bK _ ?_ ?_) fun q o=>?_
 obtain⟨i,j,v⟩:=q;obtain⟨a,b,h1,h2,w,B,hlen,hd,d⟩:=o;dsimp only at h1 h2 hlen hd d;subst h1 h2;dsimp only;by_cases c:b<l.length;rw[nQ2 (by simp;omega),Kk (by omega),nT2]
 have t:v[b]? =some l[b]:=by
  have u:(v.drop b)[0]? =v[b]? :=by rw[oN2];rfl
  rw[<-u,hd,oN2];simp[c]
 have e:v.drop (b+1)=l.drop (b+1):=by
  rw[<-qF2,<-qF2,hd]
 unfold gQ;rw[t,nT2,hg _ (qI2 c),nT2,bM (n:=(b:Int)+1) (by omega) (by omega)]
 have f:(l.take (b+1)).filter (fun x=> !p x)=(l.take b).filter (fun x=> !p x)++[l[b]].filter (fun x=> !p x):=by
  rw[List.take_add_one,oT2 c,List.filter_append];rfl
 cases hpb:p l[b]with
 |true=>
  refine .mk ⟨⟨a,b+1,rfl,by dsimp only;omega,by omega,by omega,hlen,e,?_⟩,by dsimp only;omega⟩;rw[f,<-d];simp[hpb]
 |false=>
  simp only[Bool.not_false,oK2];rw[Kk (by omega),nT2];unfold Fc;have s:v[a]? =some v[a]:=oT2 (by omega);rw[s,oM2,nT2,nT2,bM (n:=(a:Int)+1) (by omega) (by omega)];refine .mk ⟨⟨a+1,b+1,by dsimp only;omega,by dsimp only;omega,by omega,by omega,by dsimp only;rw[rF2];exact hlen,?_,?_⟩,by dsimp only;omega⟩;dsimp only;rw[List.drop_set_of_lt (by omega)];exact e;dsimp only;rw[f,<-d,List.set_eq_take_append_cons_drop,nQ2 (by omega),List.take_append,qH2,pR2 (by omega),oZ2 (by rw[qH2];omega)];simp[hpb]
 have k:b=l.length:=by omega
 rw[nS2 (by simp;omega)];refine .mk ⟨a,rfl,by omega,hlen,?_⟩;dsimp only;rw[d,k,pW2];refine⟨n,n+1,rfl,?_,by omega,by omega,rfl,rfl,?_⟩;dsimp only;rw[bM (by omega) (by omega)];omega;dsimp only;rw[List.take_add_one,hx,List.filter_append];rw[List.filter_eq_self.2 (fun y hy=>by rw[hb y hy];rfl)];simp[hp];dsimp only;rw[bM (by omega) (by omega)];simp only[bK];omega;obtain⟨i,v⟩:=q;obtain⟨a,h1,C,hlen,d⟩:=o;dsimp only at h1 hlen d;subst h1;dsimp only;unfold Xp pU;rw[nQ2 ⟨by omega,by omega⟩,nT2,Int.toNat_natCast,nQ2 ⟨by omega,by simp;omega⟩,nT2];refine .mk ?_;dsimp only;rw[<-d,List.take_append,qH2,pR2 (by omega),oZ2 (by rw[qH2];omega)];simp
def Gf (x:YL):Bool:= !((((decide (x.cW<(-77)))||(decide (x.cW>77)))||(decide (x.bB<(-140))))||(decide (x.bB>140)))
theorem Ni (x:YL):Kq x=some (if Gf x then 0 else 2):=by
 unfold Kq Gf;cases((((decide (x.cW<(-77)))||(decide (x.cW>77)))||(decide (x.bB<(-140))))||(decide (x.bB>140)))<;>rfl
theorem hH1 (x:YL):Mz x=some (!Gf x):=by
 unfold Mz;rw[Ni];cases Gf x<;>rfl
def mvI (i:YL):Int:=bD (bD (7*i.bB)-bD (12*i.cW))
theorem wC (n:Int):∃k:Int,bD n=n+k*18446744073709551616/\ -9223372036854775808<=bD n/\bD n<9223372036854775808:=by
 have e:bD n=if n%18446744073709551616>=9223372036854775808 then n%18446744073709551616-18446744073709551616 else n%18446744073709551616:=by
  unfold bD IntKind.wrap;rw[show((2:Int)^IntKind.bits .i64)=18446744073709551616 from rfl,show((2:Int)^(IntKind.bits .i64-1))=9223372036854775808 from rfl];simp[IntKind.signed]
 rw[e];split;exact⟨-(n/18446744073709551616)-1,by omega,by omega,by omega⟩;exact⟨-(n/18446744073709551616),by omega,by omega,by omega⟩
theorem aE1 (f:Int) (i:YL):F23 f i=some (bD (f+mvI i)):=by
 unfold F23 mvI;obtain⟨a,o,k,l⟩:=wC (7*i.bB);obtain⟨b,hb,m,n⟩:=wC (12*i.cW);generalize bD (7*i.bB)=A at *;generalize bD (12*i.cW)=B at *;obtain⟨c,hc,e,g⟩:=wC (f+A);obtain⟨d,hd,h,j⟩:=wC (A-B);generalize bD (f+A)=C at *;generalize bD (A-B)=D at *;obtain⟨c,hc,e,g⟩:=wC (C-B);obtain⟨d,hd,h,j⟩:=wC (f+D);generalize bD (C-B)=E at *;generalize bD (f+D)=G at *;congr 1;omega
def okM (i:YL) (m:YM):Bool:=decide (bD (m.dJ+mvI i)>= -7)&&decide (bD (m.dJ+mvI i)<=7)
theorem aF1 (n:Int):F26 n=some (if(decide (n>= -7)&&decide (n<=7))=true then 0 else 2):=by
 unfold F26;by_cases h1:n< -7<;>by_cases h2:n>7<;>simp[h1,h2]<;>omega
theorem mU1 (m:YM) (i:YL):F57 m i=some (!okM i m):=by
 unfold F57;rw[aE1,nT2,aF1,nT2];unfold okM;cases(decide (bD (m.dJ+mvI i)>= -7)&&decide (bD (m.dJ+mvI i)<=7))<;>rfl
def xG (s:Y0) (i:YL):Bool:=s.aE.all (okM i)
theorem mV1 (hs:s.sm) (i:YL):Kj s.aE i=some (!xG s i):=by
 have a:=hs.aE;have:Kj s.aE i=((Na s.aE (fun m=>F57 m i)).bind fun v=>some (decide (v>=0))):=rfl;rw[this,hD1 (fun m=> !okM i m) (by omega) (fun m _=>mU1 m i)];unfold xG;simp[List.all_eq_not_any_not]
def xA (i:YL) (d:Int):YL:=⟨bD (i.cW+d),i.bB⟩
def chI (s:Y0) (i:YL):aB Int:=([0,1,-1]:aA Int).find? (fun d=>Gf (xA i d)&&xG s (xA i d))
theorem mW1 (hs:s.sm) {i:YL} (hi:Gf i=true):F30 s i=some (match chI s i with|some d=>(xA i d,0)|none=>(⟨0,0⟩,18)):=by
 have h0:i=xA i 0:=by
  unfold Gf at hi;simp at hi;unfold xA;rw[Int.add_zero,bM (by omega) (by omega)]
 have c:F55 i=some ((([0,1,-1]:aA Int).map (xA i)).filter Gf):=by
  unfold F55
  have e:[i,YL.mk (bD (i.cW+1)) i.bB,YL.mk (bD (i.cW-1)) i.bB]=([0,1,-1]:aA Int).map (xA i):=by
   simp only[pZ2,qZ2];rw[<-h0];rfl
  rw[e,aD1];obtain⟨r,hr,h⟩:=hG1 (l:=([0,1,-1]:aA Int).map (xA i)) (g:=Mz) (fun x=> !Gf x) (YL.mk 0 0) (by simp) (fun x _=>hH1 x);rw[hr,nT2];simp only[Bool.not_not]at h;rw[<-h];cases r<;>rfl
 unfold F30;rw[c,nT2];generalize hL:(([0,1,-1]:aA Int).map (xA i)).filter Gf=L
 have hlen:L.length<=3:=by
  rw[<-hL];exact oL2 (List.length_filter_le _ _) (by simp)
 have hf:L.find? (xG s)=(chI s i).map (xA i):=by
  rw[<-hL,List.find?_filter,List.find?_map];unfold chI;congr 2;funext d;cases h:Gf (xA i d)<;>cases h2:xG s (xA i d)<;>simp[h,h2]
 obtain⟨r,hr,h⟩:=wB (l:=L) (body:=fun(f:Int)=>if decide (f<(L.length:Int))then(aV L f).bind fun j=>(Kj s.aE j).bind fun o=>if !o then some (.inr (.inl j))else some (.inl (bD (f+1)))else some (.inr (.inr ()))) (xG s) (fun _ x=>x) (by omega) (fun k x h0 h1 p hg hw=>by
  rw[nQ2 (by simpa using h1),hg,nT2,mV1 hs,nT2,hw];cases xG s x<;>rfl) (by simp)
 rw[hr,nT2];cases r with
 |inl b=>
  obtain⟨n,x,_,_,a,m,_⟩:=h;rw[hf]at a;cases hc:chI s i with
  |none=>rw[hc]at a;cases a
  |some d=>rw[hc]at a;simp at a;simp[m,a]
 |inr u=>
  have:L.find? (xG s)=none:=by
   rw[List.find?_eq_none];intro y hy;rw[h y hy];exact Bool.false_ne_true
  rw[hf]at this;cases hc:chI s i with
  |none=>rfl
  |some d=>rw[hc]at this;cases this
theorem Td {A:Type} {l:aA A} {i:Nat} (h:i<l.length):aV l (i:Int)=some l[i]:=by
 unfold aV;rw[nQ2 (by omega),Int.toNat_natCast];exact oT2 h
theorem aG1 {A:Type} {l:aA A} {body:Bool×Int->aB ((Bool×Int)⊕Bool)} (p:A->Bool) (hl:l.length<9223372036854775808) (d:Bool)
  (h:∀(i:Int) (x:A),0<=i->i<(l.length:Int)->aV l i=some x->bD (i+1)=i+1->body (true,i)=some (.inl (p x,i+1)))
  (h2:∀i,body (false,i)=some (.inr false))
  (c:∀b,body (b,(l.length:Int))=some (.inr b)):aX body bK (d,0)=some (d&&l.all p):=by
 refine Ok.eq (fZ (fun q:Bool×Int=>∃n:Nat,q.2=(n:Int)/\n<=l.length/\q.1=(d&&(l.take n).all p)) (fun q=>(l.length-q.2).toNat) (fun q f=>?_) bK _ ⟨0,rfl,by omega,by simp⟩ (by simp only[bK];omega));obtain⟨b,i⟩:=q;obtain⟨n,e,g,a⟩:=f;dsimp only at e a;subst e;by_cases hn:n<l.length;cases b with
 |true=>
  rw[h n l[n] (by omega) (by omega) (Td hn) (bM (by omega) (by omega))];refine .mk ⟨⟨n+1,by dsimp only;omega,by omega,?_⟩,by dsimp only;omega⟩;dsimp only;rw[List.take_add_one,oT2 hn,List.all_append,<-Bool.and_assoc,<-a];simp
 |false=>
  rw[h2];refine .mk ?_;rw[<-qS2 n l,List.all_append,<-Bool.and_assoc,<-a];rfl
 have:n=l.length:=by omega
 subst this;rw[c];rw[pW2]at a;exact .mk a
end Go.P
namespace Go.P
variable {s:Y0}
theorem mX1 (hs:s.sm) (i:YL):F25 s i=some (match chI s i with|some d=>(xA i d,true)|none=>(⟨0,0⟩,false)):=by
 have z:=hs.aE;unfold F25
 obtain⟨r,hr,h⟩:=wB (l:=([0,1,-1]:aA Int)) (body:=fun(a:Int)=>if decide (a<([0,1,(-1)].length:Int))then(fK [0,1,(-1)] a).bind fun p=>(gQ [0,1,(-1)] p).bind fun c=>(Kq (YL.mk (bD (i.cW+c)) i.bB)).bind fun q=>(aX (E:=Bool) (fun(⟨f,e⟩:Bool×Int)=>if(decide (e<(s.aE.length:Int)))&&f then(aV s.aE e).bind fun g=>(F11 (YL.mk (bD (i.cW+c)) i.bB)).bind fun o=>some (.inl (((decide ((bD (g.dJ+o))>=(-7)))&&(decide ((bD (g.dJ+o))<=7))),(bD (e+1))))else some (.inr f)) bK ((q==0),0)).bind fun t=>if t then some (.inr (.inl (bD (i.cW+c))))else some (.inl (bD (a+1)))else some (.inr (.inr ()))) (fun d=>Gf (xA i d)&&xG s (xA i d)) (fun _ d=>bD (i.cW+d)) (by simp) (fun k d h0 h1 A hg hw=>by
  rw[nQ2 (by simpa using h1)]
  have hk:fK ([0,1,-1]:aA Int) k=some k.toNat:=by
   unfold fK mW;rw[nQ2 ⟨h0,h1⟩]
  have hn:gQ ([0,1,-1]:aA Int) k.toNat=some d:=by
   unfold aV at hg;rw[nQ2 h0]at hg;exact hg
  rw[hk,nT2,hn,nT2,Ni,nT2];rw[aG1 (l:=s.aE) (okM (xA i d)) (by omega) _ (fun j m h0 h1 hg hw=>?_) (fun j=>?_) (fun b=>?_)];rw[nT2,hw]
  have:(((if Gf (xA i d)=true then(0:Int)else 2)==0)&&s.aE.all (okM (xA i d)))=(Gf (xA i d)&&xG s (xA i d)):=by
   unfold xG;cases Gf (xA i d)<;>rfl
  show(if(((if Gf (xA i d)=true then(0:Int)else 2)==0)&&s.aE.all (okM (xA i d)))=true then _ else _)=_
  rw[this];cases(Gf (xA i d)&&xG s (xA i d))<;>rfl;dsimp only;rw[nQ2 (by simpa using h1),hg,nT2,hw];rfl;dsimp only;rw[nS2 (by simp)];dsimp only;rw[nS2 (by simp)]) (by simp)
 rw[hr,nT2];cases r with
 |inl b=>
  obtain⟨n,x,_,_,v,w,_⟩:=h;unfold chI;rw[v,w];rfl
 |inr u=>
  have:chI s i=none:=by
   unfold chI;rw[List.find?_eq_none];intro y hy;rw[h y hy];exact Bool.false_ne_true
  rw[this]
theorem mY1 (f:Int) (i:YL):∃n e,Tl f i=some (n,e)/\ -7<=n/\n<=7:=by
 have:Ok (Tl f i) (fun r=> -7<=r.1/\r.1<=7):=by
  unfold Tl;rw[aF1,nT2];by_cases hf:(decide (f>= -7)&&decide (f<=7))=true;rw[nQ2 hf,nS2 (by simp)];simp at hf;refine Oi (fun _=>.mk (by simp)) (fun hc=>?_);simp only[nm]at hc;rw[bM (n:=7*i.bB) (by omega) (by omega),bM (n:=12*i.cW) (by omega) (by omega),bM (n:=7*i.bB-12*i.cW) (by omega) (by omega),bM (n:=f+_) (by omega) (by omega)];refine Ob (P:=fun n=> -5000<=n/\n<=7) (fZ (fun n:Int=> -5000<=n/\n<=5000) (fun n=>(n+5000).toNat) (fun n hn=>?_) bK _ (by omega) (by simp only[bK];omega)) fun n hn=>?_;refine Oi (fun h=>?_) (fun h=>?_);simp only[nR2]at h;rw[bM (by omega) (by omega)];exact .mk (by dsimp only;omega);simp only[nR2]at h;exact .mk (by omega);refine Ob (P:=fun n=> -7<=n/\n<=7) (fZ (fun n:Int=> -5000<=n/\n<=7) (fun n=>(7-n).toNat) (fun n hn=>?_) bK _ hn (by simp only[bK];omega)) fun n hn=>.mk hn;refine Oi (fun h=>?_) (fun h=>?_);simp only[nR2]at h;rw[bM (by omega) (by omega)];exact .mk (by dsimp only;omega);simp only[nR2]at h;exact .mk (by omega);rw[nS2 hf,nQ2 (by simp)];exact .mk (by simp)
 obtain⟨⟨n,e⟩,h1,h2⟩:=this;exact⟨n,e,h1,h2⟩
def Nj (s:Y0) (i:YL) (m:YM):Int:=if s.gM then((Tl m.dJ i).getD (0,0)).1 else bD (m.dJ+mvI i)
theorem vA1 (hs:s.sm) {x:Int} {i:YL} (h:F7 s x=some (i,0)):F8 s x=some (s.aE.map (Nj s i),0):=by
 have p:=hs.aE;unfold F8;rw[h,nT2];dsimp only;rw[nS2 (by simp)];have d:rB 0 (s.aE.length:Int) (0:Int)=some []:=Ok.eq (pX (by omega) (by omega) (by omega));rw[d,nT2];refine Ge (a:=s.aE.map (Nj s i)) (Ok.eq (bX (l:=s.aE) (fun q=>q.1) (fun k q=>q.2=(s.aE.take k).map (Nj s i)) (by omega) rfl (by simp) (fun k m q g r hi hl b hg hw=>?_) (fun q hi b=>?_))) rfl;obtain⟨j,c⟩:=q;dsimp only at hi hl b hg hw;have hk:=(nK2.1 g).1;simp only[hl,hg,nt,aE1]
 have e:((if s.gM then(Tl m.dJ i).bind fun⟨f,o⟩=>some f else some (bD (m.dJ+mvI i)):aB Int))=some (Nj s i m):=by
  unfold Nj;cases s.gM with
  |false=>rfl
  |true=>
   obtain⟨n,e,h1,_⟩:=mY1 m.dJ i;rw[h1];rfl
 refine Ob (P:=fun v=>v=Nj s i m) ⟨_,e,rfl⟩ fun v hv=>?_;subst hv;refine Ob (gA (Q:=fun v=>v=c++[Nj s i m]) (by rw[b];simp;omega) rfl) fun v hv=>.mk ⟨hw,?_⟩;dsimp only;rw[hv,b,List.take_add_one,g];simp;obtain⟨j,c⟩:=q;dsimp only at hi b;simp only[hi,nf];rw[pW2]at b;exact .mk b
theorem gG2 (hb:s.b) (x:Int):F3 s x=some true:=by
 unfold F3;obtain⟨r,hr,A⟩:=U13 hb;rw[hr];cases r with
 |false=>rfl
 |true=>
 have hs:=A rfl;have C:=hs.aE;obtain⟨v,hv,_⟩:=T9 hs;simp only[nT2,qA2,nV2,oQ2];cases v with
 |false=>
  have c:F7 s x=some (⟨0,0⟩,24):=by
   unfold F7 F21;rw[hv];rfl
  have j:F8 s x=some ([],24):=by
   unfold F8;rw[c];rfl
  rw[c,j,hv];rfl
 |true=>
 by_cases g:((decide (x<0))||(decide (x>=(s.bE.length:Int))))=true
 have c:F7 s x=some (⟨0,0⟩,2):=by
  unfold F7 F21;rw[hv,nT2,nS2 (by simp),nQ2 g];rfl
 have j:F8 s x=some ([],2):=by
  unfold F8;rw[c];rfl
 rw[c,j,hv];simp only[nT2,qA2,nV2,oQ2];rw[nQ2 g];rfl
 have o:0<=x/\x<(s.bE.length:Int):=by
  simp at g;omega
 obtain⟨p,hp,z⟩:∃p,aV s.bE x=some p/\p∈s.bE:=by
  obtain⟨p,h1,h2⟩:=cK (l:=s.bE) (Q:=fun p=>p∈s.bE) o.1 o.2 (fun p h _=>h);exact⟨p,h1,h2⟩
 have w:Gf p.cG=true:=by
  have:=uY1 hs (uZ1 hs hv) hv p z;rw[Ni]at this;cases h:Gf p.cG with
  |true=>rfl
  |false=>rw[h]at this;cases this
 have u:F21 s x=some 0:=by
  unfold F21;rw[hv,nT2,nS2 (by simp),nS2 g]
 have key:∃i e,F7 s x=some (i,e)/\((e=18/\F10 s x=some (i,false)/\i=⟨0,0⟩)\/(e=0/\F10 s x=some (i,true)/\∀m∈s.aE,-7<=Nj s i m/\Nj s i m<=7)):=by
  unfold F7 F22 F10;rw[u,hp];simp only[nT2];cases hw:s.gM with
  |true=>
   refine⟨p.cG,0,rfl,.inr ⟨rfl,rfl,fun m q=>?_⟩⟩;unfold Nj;rw[hw];obtain⟨n,e,h1,h2⟩:=mY1 m.dJ p.cG;rw[h1];exact h2
  |false=>
   simp only[nV2,oQ2];rw[mW1 hs w,mX1 hs];cases hc:chI s p.cG with
   |none=>exact⟨⟨0,0⟩,18,rfl,.inl ⟨rfl,rfl,rfl⟩⟩
   |some d=>
    refine⟨xA p.cG d,0,rfl,.inr ⟨rfl,rfl,fun m q=>?_⟩⟩;have h1:=List.find?_some hc;simp only[nJ2]at h1;have h2:=nN2.1 h1.2 m q;unfold okM at h2;unfold Nj;rw[hw];simp only[nJ2,nR2]at h2;exact h2
 obtain⟨i,e,c,h⟩:=key;rcases h with⟨rfl,f,rfl⟩|⟨rfl,f,hall⟩
 have j:F8 s x=some ([],18):=by
  unfold F8;rw[c];rfl
 rw[c,j,hv,f];simp only[nT2,qA2,nV2,oQ2];rw[nS2 g];rfl;rw[c,vA1 hs c,hv,f];simp only[nT2,qA2,nV2,oQ2];rw[nS2 g];simp only[nT2];rw[nS2 (by simp),nS2 (by simp)];refine Ge (a:=.inr ()) ?_ (by simp);rw[aC1 (l:=s.aE) (fun _=>false) (by omega) (fun k m h0 h1 q hg hw=>?_) ?_];simp;rw[nS2 (by simp)];rw[nQ2 (by simpa using h1),hg,nT2];have t:F11 i=some (mvI i):=rfl;rw[t,nT2]
 have e:((if s.gM=true then(some m).bind fun B=>(Tl B.dJ i).bind fun x=>some x.1 else some (bD (m.dJ+mvI i)):aB Int))=some (Nj s i m):=by
  unfold Nj;cases s.gM with
  |false=>rfl
  |true=>
   obtain⟨n,e,h1,_⟩:=mY1 m.dJ i;rw[nT2,h1];rfl
 refine Ge e ?_
 have y:aV (s.aE.map (Nj s i)) k=some (Nj s i m):=by
  unfold aV at hg ⊢;rw[nQ2 h0]at hg ⊢;rw[oW2,hg];rfl
 rw[nS2 (by simp;omega),y,nT2,nT2];have:=hall m q;rw[nS2 (by simp;omega),hw];rfl
end Go.P
