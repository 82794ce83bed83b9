import Derived.Test.YtolknogilcdomaaGreatGaB
/- A text of the proof. -/
set_option linter.all false
namespace Go.P
variable {A α β:Type} {i n:Int}
def Ok (x:aB α) (Q:α->Prop):Prop:=∃v,x=some v/\Q v
section
variable {Q:α->Prop}
def Ok.mk {v:α} (h:Q v):Ok (some v) Q:=⟨v,rfl,h⟩
def cD {v:α} {Q:α->Prop} (h:Q v:=by exact trivial):Ok (some v) Q:=⟨v,rfl,h⟩
def Ob {P:β->Prop} {x:aB β} {k:β->aB α} (h:Ok x P) (hk:∀v,P v->Ok (k v) Q):Ok (x.bind k) Q:=by
 obtain⟨v,rfl,hv⟩:=h;exact hk v hv
def Oi {c:Prop} [Decidable c] {a b:aB α} (h1:c->Ok a Q) (h2:¬c->Ok b Q):Ok (if c then a else b) Q:=by
 split;rename_i h;exact h1 h;rename_i h;exact h2 h
def oJ {c:Prop} [Decidable c] {v:α} {y:aB α} {Q:α->Prop} (h:¬c->Ok y Q) (q:Q v:=by exact trivial):Ok (if c then some v else y) Q:=Oi (fun _=>.mk q) h
def Ok.mono {P:α->Prop} {x:aB α} (h:Ok x P) (a:∀v,P v->Q v):Ok x Q:=by
 obtain⟨v,h1,h2⟩:=h;exact⟨v,h1,a v h2⟩
def Ok.ex {x:aB α} (h:Ok x Q):∃v,x=some v:=by
 obtain⟨v,h1,_⟩:=h;exact⟨v,h1⟩
def iM {S E:Type} {body:S->aB (S⊕E)} {Q:E->Prop} (I:S->Prop) (μ:S->Nat)
  (h:∀s,I s->Ok (body s) (fun r=>match r with|.inl s'=>I s'/\μ s'<μ s|.inr e=>Q e)):∀(n:Nat) (s:S),I s->μ s<n->Ok (aS body n s) Q
 |0,s,_,hn=>by omega
 |n+1,s,hi,hn=>by
  obtain⟨r,h1,h2⟩:=h s hi
  simp only[aS,h1,fD3]
  cases r with
  |inl s'=>exact iM I μ h n s' h2.1 (by have:=h2.2;omega)
  |inr e=>exact .mk h2
end
def bO (h1: -9223372036854775808<=n) (h2:n<9223372036854775808):bF n=n:=by
 have e:bF n=if n%18446744073709551616>=9223372036854775808 then n%18446744073709551616-18446744073709551616 else n%18446744073709551616:=by
  unfold bF IntKind.wrap;rw[show((2:Int)^IntKind.bits .i64)=18446744073709551616 from rfl,show((2:Int)^(IntKind.bits .i64-1))=9223372036854775808 from rfl];simp[IntKind.signed]
 rw[e];split<;>omega
def dZ {l:aA A} {Q:A->Prop} (h0:0<=i) (h1:i<(l.length:Int)) (h:∀x,x∈l->l[i.toNat]? =some x->Q x):Ok (bU l i) Q:=by
 unfold bU;rw[fJ3 h0];have hi:i.toNat<l.length:=by omega
 exact⟨l[i.toNat],by simp[hi],h _ (gX3 hi) (by simp[hi])⟩
end Go.P
set_option maxRecDepth 100000
namespace Go.P
variable {A:Type}
def Nj (n a b:Int):Hl n a b=some (decide (n>=a)&&decide (n<=b)):=by rfl
def Nk (l:aA A) (g:A->aB Bool):aB Int:=
 (aS (E:=Int⊕Unit) (fun(a:Int)=>
  if(decide (a<(l.length:Int)))then
   (bU l a).bind fun d=>
   (g d).bind fun b=>
   if b then
    some (.inr (.inl a))
   else
   some (.inl (bF (a+1)))
  else
  some (.inr (.inr ()))) bK 0).bind fun c=>
 match c with
 |.inl x_7=>
  some x_7
 |.inr _=>
  some (-1)
def Yp {l:aA A} {g:A->aB Bool} (hl:l.length<9223372036854775808) (hg:∀x∈l,∃b,g x=some b):Ok (Nk l g) (fun v=>(v= -1/\∀x∈l,g x=some false)\/(0<=v/\v<l.length/\∃x,l[v.toNat]? =some x/\g x=some true)):=by
 unfold Nk
 refine Ob (P:=fun r=>match r with|.inl v=>0<=v/\v<l.length/\∃x,l[v.toNat]? =some x/\g x=some true|.inr _=>∀x∈l,g x=some false)
  (iM (S:=Int) (fun i=>0<=i/\i<=l.length/\∀j,j<i.toNat->∀x,l[j]? =some x->g x=some false) (fun i=>l.length-i.toNat) (fun i hi=>?_) bK 0 ⟨by omega,by omega,fun j c=>by simp at c⟩ (by simp[bK];omega)) fun r hr=>?_
 obtain⟨h0,h1,h2⟩:=hi;refine Oi (fun hc=>?_) (fun hc=>?_);simp only[fO3]at hc;refine Ob (dZ (Q:=fun x=>x∈l/\l[i.toNat]? =some x) h0 hc (fun x a b=>⟨a,b⟩)) fun x d=>?_;obtain⟨b,hb⟩:=hg x d.1;rw[hb];cases b with
 |true=>exact .mk ⟨h0,hc,x,d.2,hb⟩
 |false=>
  rw[fD3,bO (by omega) (by omega)];refine .mk ⟨⟨by omega,by omega,fun j c y hy=>?_⟩,by omega⟩;by_cases e:j=i.toNat
  subst e;rw[d.2]at hy;cases hy;exact hb;exact h2 j (by omega) y hy
 simp only[fO3]at hc;refine .mk (fun x d=>?_);obtain⟨j,c⟩:=fQ3.1 d;have:=(fE3.1 c).1;exact h2 j (by omega) x c;cases r with
 |inl v=>exact .mk (.inr hr)
 |inr u=>exact .mk (.inl ⟨rfl,hr⟩)
end Go.P
namespace Go.P
structure YY.b (x:YY):Prop where
 qQ:x.qQ.size<9223372036854775808
structure YE.b (x:YE):Prop where
 cE:x.cE.length<9223372036854775808
 bR:x.bR.length<9223372036854775808
 cX:x.cX.length<9223372036854775808
 zG:∀y∈x.cX,y.b
structure YO.b (x:YO):Prop where
 aW:x.aW.length<9223372036854775808
 fP:∀y∈x.aW,y.b
 cT:x.cT.length<9223372036854775808
structure YW.b (x:YW):Prop where
 iI:x.iI.length<9223372036854775808
 aT:x.aT.length<9223372036854775808
 fI:∀y∈x.aT,y.b
structure YM.b (x:YM):Prop where
 cW:x.cW.size<9223372036854775808
 fR:x.fR.length<9223372036854775808
 aO:x.aO.length<9223372036854775808
 gK:∀y∈x.aO,y.b
structure YJ.b (x:YJ):Prop where
 oP:x.oP.size<9223372036854775808
 cO:x.cO.length<9223372036854775808
structure Y0.b (x:Y0):Prop where
 jJ:x.jJ.size<9223372036854775808
 aU:x.aU.length<9223372036854775808
 lV:∀y∈x.aU,y.b
 aF:x.aF.length<9223372036854775808
 cH:∀y∈x.aF,y.b
 bT:x.bT.length<9223372036854775808
 kI:x.kI.length<9223372036854775808
structure YY.sm (x:YY):Prop where
 qQ:x.qQ.size<=300
structure YE.sm (x:YE):Prop where
 cE:x.cE.length<=12
 bR:x.bR.length<=12
 cX:x.cX.length<=12
 zG:∀y∈x.cX,y.sm
structure YO.sm (x:YO):Prop where
 aW:x.aW.length<=20
 fP:∀y∈x.aW,y.sm
 cT:x.cT.length<=6
structure YW.sm (x:YW):Prop where
 iI:x.iI.length<=5
 aT:x.aT.length<=3
 fI:∀y∈x.aT,y.sm
structure YM.sm (x:YM):Prop where
 cW:x.cW.size<=300
 fR:x.fR.length<=5
 aO:x.aO.length<=5
 gK:∀y∈x.aO,y.sm
structure YJ.sm (x:YJ):Prop where
 oP:x.oP.size<=300
 cO:x.cO.length<=5
structure Y0.sm (x:Y0):Prop where
 jJ:x.jJ.size<=300
 aU:x.aU.length<=4
 lV:∀y∈x.aU,y.sm
 aF:x.aF.length<=12
 cH:∀y∈x.aF,y.sm
 bT:x.bT.length<=10
 kI:x.kI.length<=5
end Go.P
namespace Go.P
variable {A E:Type}
def oT {l:aA A} {body:Int->aB (Int⊕E)} {Q:E->Prop} (P:A->Prop) (hl:l.length<9223372036854775808)
  (h:∀(i:Int) (x:A),0<=i->i<(l.length:Int)->x∈l->bU l i=some x->bF (i+1)=i+1->Ok (body i) (fun r=>match r with|.inl j=>j=i+1/\P x|.inr e=>Q e))
  (a:∀i:Int,i=(l.length:Int)->(∀x∈l,P x)->Ok (body i) (fun r=>match r with|.inl j=>False|.inr e=>Q e)):Ok (aS body bK 0) Q:=by
 have hl:l.length<9223372036854775808:=hl;refine iM (fun(i:Int)=>0<=i/\i<=l.length/\∀j,j<i.toNat->∀x,l[j]? =some x->P x) (fun i=>l.length-i.toNat) (fun i hi=>?_) bK 0 ⟨by omega,by omega,fun j b=>by simp at b⟩ (by simp[bK];omega);obtain⟨h0,h1,h2⟩:=hi;by_cases c:i<(l.length:Int);have hi:i.toNat<l.length:=by omega
 have hg:bU l i=some l[i.toNat]:=by unfold bU;rw[fJ3 h0];simp[hi]
 refine(h i l[i.toNat] h0 c (gX3 hi) hg (bO (by omega) (by omega))).mono fun r hr=>?_;cases r with
 |inl j=>
  obtain⟨rfl,hp⟩:=hr;refine⟨⟨by omega,by omega,fun j b y hy=>?_⟩,by omega⟩;by_cases e:j=i.toNat
  subst e;rw[fP3 hi]at hy;cases hy;exact hp;exact h2 j (by omega) y hy
 |inr e=>exact hr
 refine(a i (by omega) (fun x d=>?_)).mono fun r hr=>?_;obtain⟨j,b⟩:=fQ3.1 d;have:=(fE3.1 b).1;exact h2 j (by omega) x b;cases r with
 |inl j=>exact hr.elim
 |inr e=>exact hr
def U33 {v:YO} (hv:v.b):Ok (F13 v) (fun r=>r=true->v.sm):=by
 unfold F13 dM;refine Ob (P:=fun r=>match r with|.inl _=>True|.inr _=>∀e∈v.aW,e.sm) (oT (fun e=>e.sm) hv.aW (fun i x h0 h1 c hg hw=>?_) (fun i hi hp=>?_)) fun r hr=>?_;simp only[h1,hB3,gF3,hg,fD3];refine Oi (fun hc=>.mk trivial) (fun hc=>?_);have a:=hv.fP x c;simp only[fW3,fO3,iH3]at hc;refine Ob (P:=fun r=>match r with|.inl _=>True|.inr _=>∀e∈x.cX,e.sm) (oT (fun e=>e.sm) a.cX (fun k y j d hy f g=>?_) (fun k hk hp=>?_)) fun r hr=>?_;simp only[d,hB3,gF3,f,fD3];refine Oi (fun hd=>.mk trivial) (fun hd=>?_);rw[g];exact .mk ⟨rfl,⟨by simp at hd;omega⟩⟩;simp only[hk,Int.lt_irrefl,hZ3,fR3,gT3];exact .mk hp;cases r with
 |inl u=>exact .mk trivial
 |inr u=>simp only;rw[hw];exact .mk ⟨rfl,⟨by omega,by omega,by omega,hr⟩⟩
 simp only[hi,Int.lt_irrefl,hZ3,fR3,gT3];exact .mk hp;cases r with
 |inl u=>exact .mk (fun h=>by cases h)
 |inr u=>
  refine .mk (fun h=>?_);simp only[fF3,fO3]at h;exact⟨by omega,hr,by omega⟩
end Go.P
namespace Go.P
variable {A E S:Type}
def dP {l:aA A} {body:S->aB (S⊕E)} {Q:E->Prop} {s0:S} (a:S->Int) (I:Nat->S->Prop) (hl:l.length<9223372036854775808) (h0:a s0=0) (f:I 0 s0)
  (h:∀(i:Nat) (x:A) (s:S),l[i]? =some x->x∈l->a s=(i:Int)->a s<(l.length:Int)->I i s->bU l (a s)=some x->bF (a s+1)=(i:Int)+1->Ok (body s) (fun r=>match r with|.inl s'=>a s'=(i:Int)+1/\I (i+1) s'|.inr e=>Q e))
  (b:∀s,a s=(l.length:Int)->I l.length s->Ok (body s) (fun r=>match r with|.inl _=>False|.inr e=>Q e)):Ok (aS body bK s0) Q:=by
 have hl:l.length<9223372036854775808:=hl;refine iM (fun s=>0<=a s/\a s<=l.length/\I (a s).toNat s) (fun s=>l.length-(a s).toNat) (fun s hi=>?_) bK s0 ⟨by omega,by omega,by rw[h0];exact f⟩ (by simp[bK];omega);obtain⟨g,m,d⟩:=hi;by_cases c:a s<(l.length:Int);have hi:(a s).toNat<l.length:=by omega
 have hc:(((a s).toNat:Nat):Int)=a s:=by omega
 have hg:bU l (a s)=some l[(a s).toNat]:=by unfold bU;rw[fJ3 g];simp[hi]
 refine(h (a s).toNat l[(a s).toNat] s (by simp[hi]) (gX3 hi) hc.symm c d hg (by rw[bO (by omega) (by omega)];omega)).mono fun r hr=>?_;cases r with
 |inl s'=>
  obtain⟨k,e2⟩:=hr;refine⟨⟨by omega,by omega,?_⟩,by omega⟩;rw[show(a s').toNat=(a s).toNat+1 by omega];exact e2
 |inr e=>exact hr
 refine(b s (by omega) ?_).mono fun r hr=>?_;rw[show(a s).toNat=l.length by omega]at d;exact d;cases r with
 |inl j=>exact hr.elim
 |inr e=>exact hr
def jV {g:Bool} {l:aA A} {x:A} (h:l.length<1073741824) {Q:aA A->Prop} (a:Q (l++[x])):Ok (lM g l [x]) Q:=by
 unfold lM;have e:Sim.maxRoom=1073741824:=rfl;rw[fJ3 ⟨by rw[e,gR3,fV3];omega,fun _=>fI3 _⟩];exact .mk a
def uE2 {w:Bool} {id:YZ} {l:aA YV} {s:Y0} {r:Int} (h:l.length<1000000):Ok (mP w id l s r) (fun v=>v.length<=l.length+1):=by
 unfold mP;refine Ob (P:=fun v=>v.length<=l.length+1) (Oi (fun _=>Ob (jV (Q:=fun v=>v.length<=l.length+1) (by omega) (by simp)) fun v hv=>.mk hv) (fun _=>.mk (by omega))) fun v hv=>.mk hv
def yY1 (n a b:Int):Hl n a b=some (decide (n>=a)&&decide (n<=b)):=rfl
def uF2 (i:YL):F81 i=some (if((((decide (i.eC<(-77)))||(decide (i.eC>77)))||(decide (i.bC<(-140))))||(decide (i.bC>140)))then 2 else 0):=by
 unfold F81;split<;>rfl
def jK2 {s:ByteArray} (h:s.size<9223372036854775808):Ok (F79 s) (fun _=>True):=by
 unfold F79;refine Ob (P:=fun _=>True) (Oi (fun _=>?_) (fun _=>.mk trivial)) fun v hv=>.mk hv
 have:Ok (bW1 s.data.toList) (fun _=>True):=by
  unfold bW1;refine Ob (Yp (l:=s.data.toList) (g:=fun b=>iC1 (b.toNat:Int)) (by rw[iZ3];exact h) (fun x _=>⟨_,rfl⟩)) fun v hv=>.mk trivial
 exact Ob this fun v hv=>.mk trivial
end Go.P
namespace Go.P
variable {A E S V α β:Type} {a b c h i n r:Int} {s:Y0} {y:aB Bool}
section
variable {Q:α->Prop}
def Ok.bindE {P:β->Prop} {x:aB β} {k:β->aB α} (h:Ok x P) (hk:∀v,x=some v->P v->Ok (k v) Q):Ok (x.bind k) Q:=by
 obtain⟨v,rfl,hv⟩:=h;exact hk v rfl hv
def Ok.of {x:aB α} (h:Ok x Q) {v:α} (hv:x=some v):Q v:=by
 obtain⟨w,h1,h2⟩:=h;rw[h1]at hv;cases hv;exact h2
def vB {k:IntKind} (h:b≠0):Ok (Rk k a b) (fun v=>v=k.wrap (a.tdiv b)):=by
 unfold Rk;rw[fM3 h];exact .mk rfl
def Dm {k:IntKind} (h:b≠0):Ok (bF1 k a b) (fun v=>v=a.tmod b):=by
 unfold bF1;rw[fM3 h];exact .mk rfl
def zA {k:IntKind} (h:0<=b):Ok (Ux k a b) (fun v=>v=a.fdiv (2^min b.toNat k.bits)):=by
 unfold Ux;rw[fM3 (by omega)];exact .mk rfl
def Yq {k:IntKind} (h:0<=b):Ok (nY1 k a b) (fun _=>True):=by
 unfold nY1;rw[fM3 (by omega)];exact .mk trivial
end
section
variable {l:List A}
def nO (h0:0<=i) (h1:i<(l.length:Int)):Ok (eE l i) (fun v=>v=i.toNat/\v<l.length):=by
 unfold eE qX;rw[fJ3 ⟨h0,h1⟩];exact .mk ⟨rfl,by omega⟩
def qD {j:Nat} (h:j<l.length):Ok (dX l j) (fun x=>l[j]? =some x/\x∈l):=by
 unfold dX;rw[fP3 h];exact .mk ⟨rfl,gX3 h⟩
def Yr {j:Nat} {f:A->A} (h:j<l.length):Ok (gR l j f) (fun m=>m.length=l.length):=by
 unfold gR;rw[fP3 h];exact .mk (by simp)
def zB {z:A} (h0:0<=n) (h1:n<=c) (h2:c<=1073741824):Ok (Cb n c z) (fun v=>v=List.replicate n.toNat z):=by
 unfold Cb;rw[fJ3 ⟨h0,h1,h2⟩];exact .mk rfl
def Kg (h0:0<=a) (h1:a<=b) (h2:b<=(l.length:Int)):Ok (wM l a b) (fun v=>v.length<=l.length/\∀x∈v,x∈l):=by
 unfold wM;rw[fJ3 ⟨h0,h1,h2⟩];exact .mk ⟨by simp;omega,fun x c=>List.mem_of_mem_drop (iV3 c)⟩
def cW1 (_:0<l.length) (h1:0<=h) (h2:h<=(l.length:Int)):Ok (tZ l h) (fun v=>v.length=h.toNat/\∀x∈v,x∈l):=by
 unfold tZ;rw[fJ3 ⟨h1,h2⟩];exact .mk ⟨by simp;omega,fun x a=>iV3 a⟩
def jW {x:A} (h:bU l i=some x):0<=i/\i<(l.length:Int)/\x∈l/\l[i.toNat]? =some x:=by
 unfold bU at h;split at h;obtain⟨hi,_⟩:=fE3.1 h;exact⟨by omega,by omega,fL3 h,h⟩;cases h
end
def Bb {s:ByteArray} (h0:0<=i) (h1:i<(s.size:Int)):Ok (tO s i) (fun v=>0<=v/\v<=255):=by
 unfold tO;rw[fJ3 h0];have h:i.toNat<s.data.toList.length:=by rw[iZ3];show i.toNat<s.size;omega
 rw[fP3 h];have:=(s.data.toList[i.toNat]).toNat_lt;exact .mk ⟨by dsimp only;omega,by dsimp only;omega⟩
def jX {l:aA A} (h:l.length<=1073741824):nD l=some l:=by
 unfold nD;rw[Nat.ble_eq_true_of_le h];rfl
def nm:(∀a b:Bool,((a||b)=true)=(a=true\/b=true))/\(∀a b:Bool,((a&&b)=true)=(a=true/\b=true))/\(∀b:Bool,((!b)=true)=(b=false))/\(∀(p:Prop) [Decidable p],(decide p=true)=p)/\
  (∀(p:Prop) [Decidable p],(decide p=false)=¬p)/\(∀p q:Prop,(¬(p\/q))=(¬p/\¬q))/\(∀p q:Prop,(¬(p/\q))=(p->¬q))/\(∀b:Bool,(¬b=true)=(b=false))/\(∀a b:Int,((a !=b)=true)=¬a=b)/\
  (∀a b:Int,((a==b)=true)=(a=b))/\(∀p:Prop,(¬¬p)=p):=
 ⟨fun a b=>by simp,fun a b=>by simp,fun b=>by simp,fun p _=>by simp,fun p _=>by simp,fun p q=>by simp,fun p q=>by simp,fun b=>by simp,fun a b=>by simp,fun a b=>by simp,fun p=>by simp⟩
def nl:(∀(a:A) (l:aA A),(a::l).length=l.length+1)/\([]:aA A).length=0:=⟨fun _ _=>rfl,rfl⟩
def nt:(∀[Decidable True],decide True=true)/\(∀(α:Type) [Decidable True] (a b:α),(if True then a else b)=a)/\∀(α β:Type) (a:α) (f:α->aB β),(some a).bind f=f a:=⟨hB3 _,fun _ _ _ _=>gF3 ..,fun _ _ _ _=>rfl⟩
def nf:(∀a:Int,(a<a)=False)/\(∀[Decidable False],decide False=false)/\((false=true)=False)/\∀(α:Type) [Decidable False] (a b:α),(if False then a else b)=b:=⟨fun a=>by simp,hZ3 _,by simp,fun _ _ _ _=>gT3 ..⟩
def dT {Q:α->Prop} {x:aB β} {k:β->aB α} (h:Ok x fun _=>True) (hk:∀v,Ok (k v) Q):Ok (x.bind k) Q:=Ob h fun v _=>hk v
def lpT {l:aA A} {body:S->aB (S⊕E)} {s0:S} {k:E->aB β} {Q:β->Prop} (a:S->Int) (hl:l.length<9223372036854775808) (h0:a s0=0)
  (h:∀(i:Nat) (x:A) (s:S),x∈l->a s=(i:Int)->a s<(l.length:Int)->bU l (a s)=some x->bF (a s+1)=(i:Int)+1->Ok (body s) (fun r=>match r with|.inl s'=>a s'=(i:Int)+1|.inr _=>True))
  (b:∀s,a s=(l.length:Int)->Ok (body s) (fun r=>match r with|.inl _=>False|.inr _=>True)) (hk:∀e,Ok (k e) Q):Ok ((aS body bK s0).bind k) Q:=
 dT (dP (l:=l) a (fun _ _=>True) hl h0 trivial (fun i x s _ d hi c _ hg hw=>(h i x s d hi c hg hw).mono fun r hr=>by cases r with|inl s'=>exact⟨hr,trivial⟩|inr e=>trivial) (fun s hi _=>b s hi)) hk
def kD1 {s:ByteArray} {n:Nat} (h:s.size<=n):s.data.toList.length<=n:=by rw[iZ3];exact h
def kE1 (n:Int): -9223372036854775808<=bF n/\bF n<=9223372036854775807:=by
 have e:bF n=if n%18446744073709551616>=9223372036854775808 then n%18446744073709551616-18446744073709551616 else n%18446744073709551616:=by
  unfold bF IntKind.wrap;rw[show((2:Int)^IntKind.bits .i64)=18446744073709551616 from rfl,show((2:Int)^(IntKind.bits .i64-1))=9223372036854775808 from rfl];simp[IntKind.signed]
 rw[e];split<;>omega
def nP {body:S->aB (S⊕E)} {Q:E->Prop} {s0:S} (d:S->Int) (N:Int) (I:S->Prop) (g:N<=9223372036854775807) (h0: -1000<=d s0) (f:I s0)
  (h:∀s,I s->d s0<=d s->(d s<N->bF (d s+1)=d s+1)->Ok (body s) (fun r=>match r with|.inl s'=>d s<N/\d s'=d s+1/\I s'|.inr e=>Q e)):Ok (aS body bK s0) Q:=by
 refine iM (fun s=>I s/\d s0<=d s) (fun s=>(N-d s).toNat) (fun s hs=>?_) bK s0 ⟨f,iF3 _⟩ (by simp only[bK];omega);refine(h s hs.1 hs.2 (fun hc=>bO (by omega) (by omega))).mono fun r hr=>?_;cases r with
 |inl s'=>obtain⟨a,b,c⟩:=hr;exact⟨⟨c,by omega⟩,by omega⟩
 |inr e=>exact hr
def Nl {w:Bool} {id:YZ} {l:aA YV} (h:l.length<1000000):Ok (mP w id l s r) (fun v=>(w=true->v.length=l.length+1)/\(w=false->v.length=l.length)):=by
 unfold mP;refine Ob (P:=fun v=>(w=true->v.length=l.length+1)/\(w=false->v.length=l.length)) (Oi (fun h=>Ob (jV (Q:=fun v=>v.length=l.length+1) (by omega) (by simp)) fun v hv=>.mk ⟨fun _=>hv,fun h2=>by rw[h]at h2;cases h2⟩) (fun h=>.mk ⟨fun h2=>absurd h2 h,fun _=>rfl⟩)) fun v hv=>.mk hv
def jL2 (n:Int):0<=IntKind.wrap .u8 n/\IntKind.wrap .u8 n<256:=by
 unfold IntKind.wrap;rw[show((2:Int)^IntKind.bits .u8)=256 from rfl];simp[IntKind.signed];omega
def jM2 {l:aA YV} (hs:s.sm) (h0:s.aF.length=0) (h:l.length<900000):Ok (Me l s r) (fun v=>0<v.length):=by
 unfold Me dM;have hp:=hs.aU;refine Ob (P:=fun v=>v.length<=l.length+4) (dP (l:=s.aU) (fun q=>q.1) (fun i q=>q.2.length<=l.length+i) (by omega) rfl (by simp) (fun i x q m f hi e d hg hw=>?_) (fun q hi d=>?_)) fun v1 h1=>?_;obtain⟨k,j⟩:=q;have g:=hs.lV x f;have hn:=g.oP;simp only at hi e d hg hw;simp only[e,hB3,gF3,hg,fD3,yY1,uF2];refine Ob (jK2 (by omega)) fun a _=>?_;refine Ob (P:=fun _=>True) (by split<;>exact .mk trivial) fun b _=>?_;refine Ob (P:=fun _=>True) (by split<;>exact .mk trivial) fun c _=>?_;refine Ob (uE2 (by omega)) fun v hv=>.mk ⟨hw,by dsimp only;omega⟩;obtain⟨k,j⟩:=q;simp only at hi d;simp only[hi,Int.lt_irrefl,hZ3,fR3,gT3];exact .mk (by omega);refine Ob (P:=fun v=>v.length<=l.length+4) (dP (l:=s.aF) (fun q=>q.1) (fun i q=>q.2.length<=l.length+4) (by omega) rfl h1 (fun i x q m f hi e d hg hw=>by omega) (fun q hi d=>?_)) fun v1 h1=>?_;obtain⟨k,j⟩:=q;simp only at hi d;simp only[hi,Int.lt_irrefl,hZ3,fR3,gT3];exact .mk d;have n:=hs.jJ;refine Ob (jK2 (by omega)) fun a _=>?_;simp only[yY1,fD3];refine Ob (P:=fun _=>True) (by split<;>exact .mk trivial) fun b _=>?_;refine Ob (P:=fun r=>r=true) (Oi (fun _=>.mk rfl) (fun _=>.mk (by simp[h0]))) fun c hc=>?_;subst hc;simp only[jI3];refine Ob (Nl (by omega)) fun v hv=>.mk (by have:=hv.1 rfl;omega)
def YU.ok (n:Int) (t:YU):Prop:=1<=t.gS/\t.gS<=n/\0<=t.lH/\t.lH+t.gS<=n/\1<=t.iQ/\t.iQ<=32/\1<=t.jM/\t.jM<=32
def Y0.pl (s:Y0) (m c v:Int):Prop:=∃x y z,bU s.aF m=some x/\bU x.aO c=some y/\bU y.aT v=some z
def og (l:aA A) (v:aA V) (K k:Nat) {body:Int×aA V->aB ((Int×aA V)⊕aA V)} {m:aA V->aB α} {Q:α->Prop} (hl:l.length<9223372036854775808)
  (h:∀(i:Nat) (x:A) (s:Int×aA V),l[i]? =some x->x∈l->s.1=(i:Int)->s.1<(l.length:Int)->(v.length<=s.2.length/\s.2.length<=v.length+i*k)->bU l s.1=some x->bF (s.1+1)=(i:Int)+1->Ok (body s) (fun r=>match r with|.inl s'=>s'.1=(i:Int)+1/\v.length<=s'.2.length/\s'.2.length<=v.length+(i+1)*k|.inr e=>v.length<=e.length/\e.length<=v.length+K))
  (j:∀s,s.1=(l.length:Int)->(v.length<=s.2.length/\s.2.length<=v.length+l.length*k)->Ok (body s) (fun r=>match r with|.inl _=>False|.inr e=>v.length<=e.length/\e.length<=v.length+K))
  (hk:∀r,(v.length<=r.length/\r.length<=v.length+K)->Ok (m r) Q):Ok ((aS body bK (0,v)).bind m) Q:=
 Ob (P:=fun r=>v.length<=r.length/\r.length<=v.length+K) (dP (l:=l) (fun q=>q.1) (fun i q=>v.length<=q.2.length/\q.2.length<=v.length+i*k) hl rfl ⟨fI3 _,by dsimp only;omega⟩ (fun i x s a b c d e f g=>(h i x s a b c d e f g).mono fun r hr=>by cases r<;>exact hr) (fun s a b=>(j s a b).mono fun r hr=>by cases r<;>exact hr)) hk
def vG {l:aA A} {body:S->aB (S⊕E)} {s0:S} {k:E->aB β} {Q:β->Prop} (a:S->Int)
  (h:∀(i:Nat) (x:A) (s:S),x∈l->a s=(i:Int)->a s<(l.length:Int)->bU l (a s)=some x->bF (a s+1)=(i:Int)+1->Ok (body s) (fun r=>match r with|.inl s'=>a s'=(i:Int)+1|.inr _=>True))
  (hk:∀e,Ok (k e) Q) (hl:l.length<9223372036854775808:=by omega) (h0:a s0=0:=by rfl)
  (b:∀s,a s=(l.length:Int)->Ok (body s) (fun r=>match r with|.inl _=>False|.inr _=>True):=by intro q h;first|(simp only[h,nf];exact .mk trivial)|(obtain⟨_,_⟩:=q;dsimp only at h;simp only[h,nf];exact .mk trivial)|(obtain⟨_,_,_⟩:=q;dsimp only at h;simp only[h,nf];exact .mk trivial)|(obtain⟨_,_,_,_⟩:=q;dsimp only at h;simp only[h,nf];exact .mk trivial)):Ok ((aS body bK s0).bind k) Q:=lpT (l:=l) a hl h0 h b hk
def oh (l:aA A) (v:aA V) (K k:Nat) {body:Int×aA V->aB ((Int×aA V)⊕aA V)} {b:aA V->aB α} {Q:α->Prop}
  (h:∀(i:Nat) (x:A) (s:Int×aA V),l[i]? =some x->x∈l->s.1=(i:Int)->s.1<(l.length:Int)->(v.length<=s.2.length/\s.2.length<=v.length+i*k)->bU l s.1=some x->bF (s.1+1)=(i:Int)+1->Ok (body s) (fun r=>match r with|.inl s'=>s'.1=(i:Int)+1/\v.length<=s'.2.length/\s'.2.length<=v.length+(i+1)*k|.inr e=>v.length<=e.length/\e.length<=v.length+K))
  (hk:∀r,(v.length<=r.length/\r.length<=v.length+K)->Ok (b r) Q) (hl:l.length<9223372036854775808:=by omega)
  (a:∀s,s.1=(l.length:Int)->(v.length<=s.2.length/\s.2.length<=v.length+l.length*k)->Ok (body s) (fun r=>match r with|.inl _=>False|.inr e=>v.length<=e.length/\e.length<=v.length+K):=by intro q h c;obtain⟨_,_⟩:=q;dsimp only at h c;simp only[h,nf];exact .mk (by dsimp only;omega)):Ok ((aS body bK (0,v)).bind b) Q:=og l v K k hl h a hk
def qE {l:aA A} {body:S->aB (S⊕E)} {Q:E->Prop} {s0:S} (a:S->Int) (I:Nat->S->Prop)
  (h:∀(i:Nat) (x:A) (s:S),l[i]? =some x->x∈l->a s=(i:Int)->a s<(l.length:Int)->I i s->bU l (a s)=some x->bF (a s+1)=(i:Int)+1->Ok (body s) (fun r=>match r with|.inl s'=>a s'=(i:Int)+1/\I (i+1) s'|.inr e=>Q e)) (hl:l.length<9223372036854775808:=by omega) (h0:a s0=0:=by rfl) (b:I 0 s0:=by dsimp only;omega)
  (c:∀s,a s=(l.length:Int)->I l.length s->Ok (body s) (fun r=>match r with|.inl _=>False|.inr e=>Q e):=by intro q h b;first|(obtain⟨_,_⟩:=q;dsimp only at h b;simp only[h,nf];exact .mk (by dsimp only;omega))|(obtain⟨_,_,_⟩:=q;dsimp only at h b;simp only[h,nf];exact .mk (by dsimp only;omega))|(obtain⟨_,_,_,_⟩:=q;dsimp only at h b;simp only[h,nf];exact .mk (by dsimp only;omega))):Ok (aS body bK s0) Q:=dP (l:=l) a I hl h0 b h c
def oN {c:Bool} {k:Bool->aB α} {Q:α->Prop} (h:¬c=true->Ok y fun _=>True) (hk:∀r,(¬r=true->¬c=true)->Ok (k r) Q):Ok ((if c=true then some true else y).bind k) Q:=by
 cases c with
 |true=>exact hk true (fun h=>absurd rfl h)
 |false=>exact Ob (h (by simp)) fun r _=>hk r (fun _=>by simp)
def oM {c:Bool} {k:Bool->aB α} {Q:α->Prop} (h:c=true->Ok y fun _=>True) (hk:∀r,(r=true->c=true)->Ok (k r) Q):Ok ((if c=true then y else some false).bind k) Q:=by
 cases c with
 |true=>exact Ob (h rfl) fun r _=>hk r (fun _=>rfl)
 |false=>exact hk false (fun h=>by cases h)
abbrev fX {α:Type} (x:aB α):Prop:=Ok x fun _=>True
end Go.P
set_option maxHeartbeats 1000000
namespace Go.P
def U34 {v:YO} (hv:v.b):Ok (F14 v) (fun _=>True):=by
 unfold F14;refine Ob (P:=fun _=>True) (dP (l:=v.aW) (fun q=>q.2) (fun _ _=>True) hv.aW rfl trivial (fun i e q c a hi hl _ hg hw=>?_) (fun q hi _=>?_)) fun v _=>.mk trivial;obtain⟨n,k⟩:=q;dsimp only at hi hl hg hw;simp only[hl,hg,hB3,gF3,fD3];refine Ob (P:=fun _=>True) (dP (l:=e.cX) (fun q=>q.2) (fun _ _=>True) (hv.fP e a).cX rfl trivial (fun i e q c a hi hl _ hg hw=>?_) (fun q hi _=>?_)) fun x _=>.mk ⟨hw,trivial⟩;obtain⟨n,k⟩:=q;dsimp only at hi hl hg hw;simp only[hl,hg,hB3,gF3,fD3];exact .mk ⟨hw,trivial⟩;obtain⟨n,k⟩:=q;dsimp only at hi;simp only[hi,Int.lt_irrefl,hZ3,fR3,gT3];exact .mk trivial;obtain⟨n,k⟩:=q;dsimp only at hi;simp only[hi,Int.lt_irrefl,hZ3,fR3,gT3];exact .mk trivial
def U13 {s:Y0} (hb:s.b):Ok (F4 s) (fun r=>r=true->s.sm):=by
 unfold F4 dM;refine Ob (P:=fun r=>match r with|.inl _=>True|.inr _=>∀p∈s.aU,p.sm) (oT (l:=s.aU) (fun p=>p.sm) hb.aU (fun i p h0 h1 d hg hw=>?_) (fun i hi t=>?_)) fun r hr=>?_;simp only[h1,hg,hw,hB3,gF3,fD3];refine Ob (P:=fun b=>b=true\/p.sm) (Oi (fun _=>.mk (.inl rfl)) (fun hc=>.mk ?_)) fun b hb=>?_;simp only[fO3]at hc;by_cases h:(p.oP.size:Int)>300;exact .inl (by simpa using h);exact .inr ⟨by omega,by omega⟩;exact Oi (fun _=>.mk trivial) (fun hc=>.mk ⟨rfl,hb.resolve_left hc⟩);simp only[hi,Int.lt_irrefl,hZ3,fR3,gT3];exact .mk t;rcases r with _|_;exact .mk (fun h=>by cases h);refine Ob (P:=fun r=>match r with|.inl _=>True|.inr _=>∀m∈s.aF,m.sm) (dP (l:=s.aF) (fun q=>q.2.2) (fun i q=>∀m∈s.aF.take i,m.sm) hb.aF rfl (fun m o=>by simp at o) (fun i m q d o hi hl g hg hw=>?_) (fun q hi g=>?_)) fun r C=>?_;obtain⟨ev,by',k⟩:=q;have G:=hb.cH m o;dsimp only at hi hl hg hw;simp only[hl,hg,hB3,gF3,fD3];refine Oi (fun _=>.mk trivial) (fun hc=>?_);simp only[fW3,fO3,iH3]at hc;refine Ob (P:=fun r=>match r with|.inl _=>True|.inr _=>∀c∈m.aO,c.sm) (dP (l:=m.aO) (fun q=>q.2.2) (fun i q=>∀c∈m.aO.take i,c.sm) G.aO rfl (fun m o=>by simp at o) (fun i c q D A hi hl y hg u=>?_) (fun q hi g=>?_)) fun r hr=>?_;obtain⟨ev,by',k⟩:=q;have F:=G.gK c A;dsimp only at hi hl hg u;simp only[hl,hg,hB3,gF3,fD3];refine Ob (P:=fun b=>b=true\/(c.iI.length<=5/\c.aT.length<=3)) (Oi (fun _=>.mk (.inl rfl)) (fun hc=>.mk ?_)) fun b hb=>?_;simp only[fO3]at hc;by_cases h:(c.aT.length:Int)>3;exact .inl (by simpa using h);exact .inr ⟨by omega,by omega⟩;refine Oi (fun _=>.mk trivial) (fun j=>?_);have j:=hb.resolve_left j;refine Ob (P:=fun r=>match r with|.inl _=>True|.inr _=>∀v∈c.aT,v.sm) (dP (l:=c.aT) (fun q=>q.2.2) (fun i q=>∀v∈c.aT.take i,v.sm) F.aT rfl (fun m o=>by simp at o) (fun i v q E B hi hl g hg w=>?_) (fun q hi g=>?_)) fun r hr=>?_;obtain⟨ev,by',k⟩:=q;have bv:=F.fI v B;dsimp only at hi hl hg w;simp only[hl,hg,hB3,gF3,fD3];refine Ob (U33 bv) fun f hf=>?_;refine Oi (fun _=>.mk trivial) (fun z=>?_);refine Ob (U34 bv) fun n _=>?_;refine Oi (fun _=>.mk trivial) (fun _=>.mk ⟨w,fun x d=>?_⟩);rw[List.take_add_one,E]at d;rcases gK3.1 d with d|d;exact g x d;simp at d;subst d;exact hf (by simpa using z);obtain⟨ev,by',k⟩:=q;dsimp only at hi;simp only[hi,Int.lt_irrefl,hZ3,fR3,gT3];rw[hC3]at g;exact .mk g;rcases r with⟨a,b⟩|⟨a,b⟩
 exact .mk trivial;refine .mk ⟨u,fun x d=>?_⟩;rw[List.take_add_one,D]at d;rcases gK3.1 d with d|d;exact y x d;simp at d;subst d;exact⟨j.1,j.2,hr⟩;obtain⟨ev,by',k⟩:=q;dsimp only at hi;simp only[hi,Int.lt_irrefl,hZ3,fR3,gT3];rw[hC3]at g;exact .mk g;rcases r with⟨a,b⟩|⟨a,b⟩
 exact .mk trivial;refine .mk ⟨hw,fun x e=>?_⟩;rw[List.take_add_one,d]at e;rcases gK3.1 e with e|e;exact g x e;simp at e;subst e;exact⟨by omega,by omega,by omega,hr⟩;obtain⟨ev,by',k⟩:=q;dsimp only at hi;simp only[hi,Int.lt_irrefl,hZ3,fR3,gT3];rw[hC3]at g;exact .mk g;rcases r with _|_;exact .mk (fun h=>by cases h);refine .mk (fun h=>?_);simp only[fF3,fO3]at h;exact⟨by omega,by omega,hr,by omega,C,by omega,by omega⟩
end Go.P
set_option maxHeartbeats 2000000
namespace Go.P
variable {F a b c d e f g h i j k n r u x3:Int} {H x:aA YV} {Y s:Y0} {o:YM} {x1:YH}
def uH2:fX (iC1 a):=by
 unfold iC1;exact cD
def uI2 {e:aA UInt8} (a:e.length<=300):fX (oI1 e):=by
 unfold oI1 dM;have f:=a;refine vG (l:=e) (fun q=>q) (fun k j m h g c b d=>?_) fun i=>?_;simp only[c,b,nt];refine dT (uH2) fun n=>?_;refine oJ (fun _=>?_);exact .mk d;rcases i with o|_;exact cD;exact cD
def uJ2 {b:aA UInt8} (a:b.length<=300):fX (bW1 b):=by
 unfold bW1;refine dT (uI2 a) fun c=>?_;exact cD
def T79 {b:ByteArray} (a:b.size<=300):fX (F79 b):=by
 unfold F79;refine oM (fun _=>?_) fun e c=>?_;refine dT (uJ2 (kD1 a)) fun d=>?_;exact cD;exact cD
def Sj:fX (Hl a b c):=by
 unfold Hl;exact cD
def T81 {x1:YL}:fX (F81 x1):=by
 unfold F81;refine oJ (fun _=>?_);exact cD
def pW {b:Bool} {f:YZ} {a:aA YV} {c:Y0} (d:a.length+1<=1000000) (e:c.sm):Ok (mP b f a c g) (fun v=>a.length<=v.length/\v.length<=a.length+1):=by
 exact(Nl (by omega)).mono fun v h=>by cases b<;>simp at h<;>omega
def jN2 {C:aA YV} {D:Y0} (U:C.length+17<=1000000) (a:D.sm):Ok (Me C D x3) (fun v=>C.length<=v.length/\v.length<=C.length+17):=by
 unfold Me dM;have L:=a.aU;refine oh D.aU C 4 1 (fun b0 S q30 P x s f p d j=>?_) fun K z19=>?_;obtain⟨d0,d2⟩:=q30;dsimp only at s f d j p;simp only[f,d,nt];have J:=a.lV _ x;refine dT (T79 J.oP) fun d3=>?_;refine oN (fun _=>?_) fun d5 G=>?_;refine dT (Sj) fun d4=>?_;exact cD;refine oN (fun c38=>?_) fun d7 V=>?_;have b7:=G c38;refine dT (T81) fun d6=>?_;exact cD;refine Ob (pW (by first|omega|(simp only[fV3]at *;omega)) a) fun d8 W=>?_;exact .mk ⟨j,by dsimp only;omega⟩;have M:=a.aF;refine oh D.aF K 12 1 (fun b4 E q53 R y t g r b k=>?_) fun f0 f8=>?_;obtain⟨d9,e0⟩:=q53;dsimp only at t g b k r;simp only[g,b,nt];have o:=a.cH _ y;refine dT (T79 o.cW) fun e1=>?_;have N:=o.aO;refine vG (l:=E.aO) (fun q=>q.2) (fun b5 F q67 z u h c m=>?_) fun e8=>?_;obtain⟨e3,e4⟩:=q67;dsimp only at u h c m;simp only[h,b,c,nt];have B:=o.gK _ z;have O:=B.aT;refine vG (l:=F.aT) (fun q=>q.2) (fun b6 T q80 A w i e n=>?_) fun e7=>?_;obtain⟨e5,e6⟩:=q80;dsimp only at w i e n;simp only[i,b,c,e,nt];have b9:=B.fI _ A;exact .mk n;exact .mk m;refine Ob (pW (by first|omega|(simp only[fV3]at *;omega)) a) fun e9 X=>?_;exact .mk ⟨k,by dsimp only;omega⟩;refine dT (T79 a.jJ) fun f1=>?_;refine oN (fun _=>?_) fun f4 H=>?_;refine dT (Sj) fun f2=>?_;exact cD;refine oN (fun c89=>?_) fun f6 Y=>?_;have b8:=H c89;refine dT (Sj) fun f5=>?_;exact cD;refine Ob (pW (by first|omega|(simp only[fV3]at *;omega)) a) fun f7 Z=>?_;exact .mk (by omega)
def jO2 {a:Y0} (b:a.sm):fX (Ye a):=by
 unfold Ye;exact cD
def yZ1 {l m:Int} {b:YJ} {a:aA YZ} (c:b.sm) (e:a.length+1<=1000000):Ok (Mf f h i j k l m b a) (fun v=>v.length<=a.length+1):=by
 unfold Mf;refine Ob (jV (Q:=fun v=>v.length=a.length+1) (by omega) (by simp)) fun g d=>?_;exact .mk (by omega)
def kF1 {l:YF} {a:aA YZ} (c:a.length+1<=1000000):Ok (yV d f g h i j k l a) (fun v=>v.length<=a.length+1):=by
 unfold yV;refine Ob (jV (Q:=fun v=>v.length=a.length+1) (by omega) (by simp)) fun e b=>?_;exact .mk (by omega)
def kG1 {l m:Int} {b:YM} {a:aA YZ} (c:b.sm) (e:a.length+1<=1000000):Ok (yW f h i j k l m b a) (fun v=>v.length<=a.length+1):=by
 unfold yW;refine Ob (jV (Q:=fun v=>v.length=a.length+1) (by omega) (by simp)) fun g d=>?_;exact .mk (by omega)
def kH1 {l m:Int} {b:YE} {a:aA YZ} (c:b.sm) (e:a.length+1<=1000000):Ok (yX f h i j k l m b a) (fun v=>v.length<=a.length+1):=by
 unfold yX;refine Ob (jV (Q:=fun v=>v.length=a.length+1) (by omega) (by simp)) fun g d=>?_;exact .mk (by omega)
def kI1 {l:YN} {a:aA YZ} (c:a.length+1<=1000000):Ok (yY d f g h i j k l a) (fun v=>v.length<=a.length+1):=by
 unfold yY;refine Ob (jV (Q:=fun v=>v.length=a.length+1) (by omega) (by simp)) fun e b=>?_;exact .mk (by omega)
def jP2 {x1:Y0} {x2:aA YZ} (e:x1.sm) (j3:x2.length+3646<=1000000):Ok (Yf x1 x2) (fun v=>v.length<=x2.length+3646):=by
 unfold Yf dM;have d9:=e.aU;refine Ob (P:=fun r=>r.length<=x2.length+24) (qE (l:=x1.aU) (fun q=>q.2.1) (fun i q=>q.2.2.length<=x2.length+i*6) (fun j4 b8 q109 e7 b0 T j K c t=>?_)) fun d5 k4=>?_;obtain⟨j5,j6,j7⟩:=q109;dsimp only at T j c t K;simp only[j,c,nt];have C:=e.lV _ b0;refine Ob (yZ1 C (by first|omega|(simp only[fV3]at *;omega))) fun d4 f8=>?_;have e0:=C.cO;refine Ob (P:=fun r=>r.2.length<=d4.length+5) (qE (l:=b8.cO) (fun q=>q.2.1) (fun i q=>q.2.2.length<=d4.length+i*1) (fun g5 f5 q125 e8 d7 U k L f u=>?_)) fun⟨k2,k3⟩ d6=>?_;obtain⟨j8,j9,k0⟩:=q125;dsimp only at U k f u L;simp only[k,c,f,nt];refine Ob (kF1 (by first|omega|(simp only[fV3]at *;omega))) fun k1 f9=>?_;exact .mk ⟨u,by dsimp only;omega⟩
 try dsimp only at d6
 exact .mk ⟨t,by dsimp only;omega⟩;have e1:=e.aF;refine Ob (P:=fun r=>r.length<=d5.length+3612) (qE (l:=x1.aF) (fun q=>q.1) (fun i q=>q.2.length<=d5.length+i*301) (fun g6 b9 q140 e9 b4 V m M a w=>?_)) fun J i6=>?_;obtain⟨h2,h3⟩:=q140;dsimp only at V m a w M;simp only[m,a,nt];have B:=e.cH _ b4;refine Ob (kG1 B (by first|omega|(simp only[fV3]at *;omega))) fun F g1=>?_;have e3:=B.aO;refine Ob (P:=fun r=>r.length<=F.length+300) (qE (l:=b9.aO) (fun q=>q.1) (fun i q=>q.2.length<=F.length+i*60) (fun g7 d0 q156 f0 b5 W n N b x=>?_)) fun i1 i7=>?_;obtain⟨h4,G⟩:=q156;dsimp only at W n b x N;simp only[n,a,b,nt];have D:=B.gK _ b5;have e4:=D.aT;refine Ob (P:=fun r=>r.length<=G.length+60) (qE (l:=d0.aT) (fun q=>q.1) (fun i q=>q.2.length<=G.length+i*20) (fun g8 d2 q171 f1 b6 X o O d y=>?_)) fun i0 i9=>?_;obtain⟨h5,H⟩:=q171;dsimp only at X o d y O;simp only[o,a,b,d,nt];have E:=D.fI _ b6;have e5:=E.aW;refine Ob (P:=fun r=>r.length<=H.length+20) (qE (l:=d2.aW) (fun q=>q.1) (fun i q=>q.2.length<=H.length+i*1) (fun g9 f6 q187 f2 b7 Y p R g z=>?_)) fun h9 j0=>?_;obtain⟨h6,h7⟩:=q187;dsimp only at Y p g z R;simp only[p,a,b,d,g,nt];have d3:=E.fP _ b7;refine Ob (kH1 d3 (by first|omega|(simp only[fV3]at *;omega))) fun h8 g3=>?_;exact .mk ⟨z,by dsimp only;omega⟩;exact .mk ⟨y,by dsimp only;omega⟩;exact .mk ⟨x,by dsimp only;omega⟩;exact .mk ⟨w,by dsimp only;omega⟩;have e6:=e.bT;refine Ob (P:=fun r=>r.length<=J.length+10) (qE (l:=x1.bT) (fun q=>q.1) (fun i q=>q.2.length<=J.length+i*1) (fun h0 f7 q205 f4 d8 Z s S h A=>?_)) fun i5 j2=>?_;obtain⟨i2,i3⟩:=q205;dsimp only at Z s h A S;simp only[s,h,nt];refine Ob (kI1 (by first|omega|(simp only[fV3]at *;omega))) fun i4 g4=>?_;exact .mk ⟨A,by dsimp only;omega⟩;exact .mk (by omega)
def T82 {c:Y0} (a:c.sm):Ok (F82 c) (fun v=>v.length<=4000):=by
 unfold F82;refine dT (jO2 a) fun _=>?_;refine Ob (jP2 a (by first|omega|(simp only[fV3]at *;omega))) fun d b=>?_;exact .mk (by simp only[fV3]at *;omega)
def T83 {b:YZ}:fX (F83 b):=by
 unfold F83;refine dT (Sj) fun c=>?_;refine oM (fun _=>?_) fun e a=>?_;refine dT (Sj) fun d=>?_;exact cD;exact cD
def T84 {h:Y0} (d:h.sm):fX (F84 h k):=by
 unfold F84 dM;have g:=d.kI;refine vG (l:=h.kI) (fun q=>q) (fun j i n f e b a c=>?_) fun m=>?_;simp only[b,a,nt];refine oJ (fun _=>?_);exact .mk c;rcases m with o|_;exact cD;exact cD
def jQ2 {j:aA YV} {t:Y0} (O:j.length+4001<=1000000) (a:t.sm):Ok (iD1 j t x3) (fun v=>j.length<=v.length/\v.length<=j.length+4001):=by
 unfold iD1 dM;refine Ob (T82 a) fun x4 o=>?_;have z:=o;refine Ob (P:=fun r=>j.length<=r.2.length/\r.2.length<=j.length+4000) (qE (l:=x4) (fun q=>q.1) (fun i q=>j.length<=q.2.2.length/\q.2.2.length<=j.length+i*1) (fun L D q238 C u m d k b f=>?_)) fun⟨Y,Z⟩ s=>?_;obtain⟨R,S,T⟩:=q238;dsimp only at m d b f k;simp only[d,b,nt];refine dT (T83) fun U=>?_;refine oN (fun _=>?_) fun W F=>?_;refine dT (T84 a) fun V=>?_;exact cD;refine Ob (pW (by first|omega|(simp only[fV3]at *;omega)) a) fun X G=>?_;exact .mk ⟨f,by dsimp only;omega⟩
 try dsimp only at s
 have A:=a.kI;refine vG (l:=t.kI) (fun q=>q.2) (fun M E q255 w n e c g=>?_) fun d0=>?_;obtain⟨b0,b4⟩:=q255;dsimp only at n e c g;simp only[e,c,nt];refine oN (fun _=>?_) fun b6 p=>?_;refine dT (T83) fun b5=>?_;exact cD;refine oN (fun c261=>?_) fun b9 H=>?_;have N:=p c261;refine oM (fun _=>?_) fun b8 J=>?_;have B:=a.kI;refine Ob (P:=fun x=>x∈t.kI) (dZ (by(simp only[nm]at *;rw[bO (by omega) (by omega)];omega)) (by(simp only[nm]at *;rw[bO (by omega) (by omega)];omega)) (fun _ h _=>h)) fun b7 y=>?_;exact cD;exact cD;exact .mk g;refine Ob (pW (by first|omega|(simp only[fV3]at *;omega)) a) fun d2 K=>?_;exact .mk (by omega)
def T85 {b:Y0} (a:b.sm):Ok (F85 b) (fun v=>v<=9223372036854775807):=by
 unfold F85 dM;have hp:=a.aU;refine Ob (P:=fun v=>v<=9223372036854775807) (dP (l:=b.aU) (fun q=>q.2) (fun i q=>q.1<=9223372036854775807) (by omega) rfl (by decide) (fun i e q f d hi hl _ hg hw=>?_) (fun q hi c=>?_)) fun v hv=>.mk hv;obtain⟨n,x⟩:=q;dsimp only at hi hl hg hw;simp only[hl,hg,nt];exact .mk ⟨hw,(kE1 _).2⟩;obtain⟨n,x⟩:=q;dsimp only at hi c;simp only[hi,nf];exact .mk c
def T87 {H:Int} {y:YM} {V:Int} (s:y.sm):fX (F87 H y V):=by
 unfold F87 dM;have t:=s.aO;refine vG (l:=y.aO) (fun q=>q.2) (fun B c q279 m j e b g=>?_) fun U=>?_;obtain⟨J,K⟩:=q279;dsimp only at j e b g;simp only[e,b,nt];have a:=s.gK _ m;refine oN (fun _=>?_) fun M r=>?_;have u:=a.aT;refine Ob (P:=fun x=>x∈c.aT) (dZ (by omega) (by(simp only[nm]at *;omega)) (fun _ h _=>h)) fun L n=>?_;have E:=a.fI _ n;exact cD;refine oN (fun c289=>?_) fun O A=>?_;have D:=r c289;have v:=a.aT;refine Ob (P:=fun x=>x∈c.aT) (dZ (by(simp only[nm]at *;rw[bO (by omega) (by omega)];omega)) (by(simp only[nm]at *;rw[bO (by omega) (by omega)];omega)) (fun _ h _=>h)) fun N o=>?_;have F:=a.fI _ o;exact cD;have w:=a.aT;refine vG (l:=c.aT) (fun q=>q.2) (fun C z q305 p k f d i=>?_) fun T=>?_;obtain⟨R,S⟩:=q305;dsimp only at k f d i;simp only[f,b,d,nt];have G:=a.fI _ p;exact .mk i;exact .mk g;exact cD
def uK2 {i:aA YV} {l:Y0} {w:Int} (q:i.length+12<=1000000) (d:l.sm):Ok (cC1 r i l w) (fun v=>i.length<=v.length/\v.length<=i.length+12):=by
 unfold cC1 dM;have j:=d.aF;refine oh l.aF i 12 1 (fun o m q319 k g f b e a c=>?_) fun u p=>?_;obtain⟨x,y⟩:=q319;dsimp only at f b a c e;simp only[b,a,nt];have h:=d.cH _ g;refine dT (T87 h) fun s=>?_;refine Ob (pW (by first|omega|(simp only[fV3]at *;omega)) d) fun t n=>?_;exact .mk ⟨c,by dsimp only;omega⟩;exact .mk (by omega)
def jR2 {b:aA YV} {e:Y0} (f:b.length+12<=1000000) (a:e.sm):Ok (cD1 b e g) (fun v=>b.length<=v.length/\v.length<=b.length+12):=by
 unfold cD1;refine Ob (T85 a) fun h c=>?_;refine Ob (uK2 (by first|omega|(simp only[fV3]at *;omega)) a) fun i d=>?_;exact .mk (by omega)
def uL2:fX (oL1):=by
 unfold oL1;exact cD
def uM2:fX (oM1 b):=by
 unfold oM1;refine oJ (fun _=>?_);refine dT (uL2) fun c=>?_;refine Ob (dZ (Q:=fun _=>True) (by(simp only[nm]at *;rw[bO (by omega) (by omega)];omega)) (by(simp only[nm,nl]at *;rw[bO (by omega) (by omega)];omega)) (fun _ _ _=>trivial)) fun d a=>?_;exact cD
def T88:fX (F88 a):=by
 unfold F88;refine dT (uM2) fun⟨b,c⟩=>?_;exact cD
def uN2 {c:YX}:fX (oN1 c):=by
 unfold oN1;refine Oi (fun _=>cD) (fun _=>?_);refine Ob (P:=fun _=>True) (nP (fun q=>q.2.2) 6 (fun _=>True) (by decide) (by decide) trivial (fun q _ h1 h2=>?_)) fun r _=>?_;obtain⟨a,n,i⟩:=q;dsimp only at h1 h2 ⊢;refine Oi (fun hc=>?_) (fun _=>cD);simp only[fO3]at hc;refine Ob (dZ (Q:=fun _=>True) h1 hc (fun _ _ _=>trivial)) fun x _=>?_;refine Oi (fun _=>cD) (fun _=>?_);refine Ob (P:=fun _=>True) (Oi (fun _=>cD) (fun _=>cD)) fun v _=>.mk ⟨hc,h2 hc,trivial⟩;rcases r with⟨a,b⟩|⟨a,b⟩<;>exact cD
def uO2 {a:YX}:Ok (oO1 a) (fun v=>v=0->a.Unit≠0):=by
 unfold oO1;refine Oi (fun c330=>.mk (by omega)) (fun c330=>?_);refine Oi (fun c331=>.mk (by omega)) (fun c331=>?_);refine dT (uN2) fun b=>?_;refine Oi (fun c333=>.mk (by omega)) (fun c333=>?_);exact .mk (by(simp only[nm]at *;omega))
def uP2 {b:YX} (c:b.Unit≠0):fX (oP1 b):=by
 unfold oP1;refine Ob (vB (by omega)) fun d a=>?_;exact cD
def uQ2 {a:YX} (b:a.Unit≠0):fX (oQ1 a):=by
 unfold oQ1;refine dT (uP2 (by omega)) fun c=>?_;exact cD
def uR2 {b:YX}:fX (oR1 b):=by
 unfold oR1;refine Ob (uO2) fun c a=>?_;refine oJ (fun _=>?_);refine dT (uQ2 (by(simp only[nm]at *;omega))) fun d=>?_;exact cD
def T90 {b:YM} (c:b.sm):fX (F90 b):=by
 unfold F90;refine dT (uR2) fun⟨d,e⟩=>?_;refine oJ (fun _=>?_);refine oJ (fun _=>?_);refine dT ?_ fun f=>?_;refine oJ (fun _=>?_);exact cD;refine Ob (Dm (by omega)) fun g a=>?_;refine oJ (fun _=>?_);refine oJ (fun _=>?_);exact cD
def T89 {G:Int} {y:YM} (k:y.sm):fX (F89 G y):=by
 unfold F89 dM;refine dT (T90 k) fun⟨X,Y⟩=>?_;have u:=k.aO;refine vG (l:=y.aO) (fun q=>q.2) (fun C g q358 o m c a e=>?_) fun W=>?_;obtain⟨H,J⟩:=q358;dsimp only at m c a e;simp only[c,a,nt];have j:=k.gK _ o;have v:=j.iI;refine vG (l:=g.iI) (fun q=>q.2) (fun D z q371 s n d b f=>?_) fun V=>?_;obtain⟨K,L⟩:=q371;dsimp only at n d b f;simp only[d,a,b,nt];refine oN (fun _=>?_) fun N i=>?_;refine dT (T88) fun M=>?_;exact cD;refine oN (fun c377=>?_) fun R p=>?_;have E:=i c377;refine dT (Sj) fun O=>?_;exact cD;refine oN (fun c381=>?_) fun U A=>?_;have r:=p c381;have F:=i r;refine oM (fun _=>?_) fun T B=>?_;have w:=j.iI;refine Ob (P:=fun x=>x∈g.iI) (dZ (by(simp only[nm]at *;rw[bO (by omega) (by omega)];omega)) (by(simp only[nm]at *;rw[bO (by omega) (by omega)];omega)) (fun _ h _=>h)) fun S t=>?_;exact cD;exact cD;exact .mk f;exact .mk e;exact cD
def zB1 {i:aA YV} {l:Y0} (q:i.length+12<=1000000) (d:l.sm):Ok (Mg i l u) (fun v=>i.length<=v.length/\v.length<=i.length+12):=by
 unfold Mg dM;have j:=d.aF;refine oh l.aF i 12 1 (fun o m q400 k g f b e a c=>?_) fun t p=>?_;obtain⟨w,x⟩:=q400;dsimp only at f b a c e;simp only[b,a,nt];have h:=d.cH _ g;refine dT (T89 h) fun r=>?_;refine Ob (pW (by first|omega|(simp only[fV3]at *;omega)) d) fun s n=>?_;exact .mk ⟨c,by dsimp only;omega⟩;exact .mk (by omega)
def jS2 {o:aA YV} {w:Y0} {O:Int} (E:o.length+32<=1000000) (g:w.sm):Ok (iE1 o w O) (fun v=>o.length<=v.length/\v.length<=o.length+32):=by
 unfold iE1 dM;have q:=g.aU;refine oh w.aU o 20 5 (fun A m q416 s l j c h a e=>?_) fun M C=>?_;obtain⟨F,u⟩:=q416;dsimp only at j c a e h;simp only[c,a,nt];have n:=g.lV _ l;have r:=n.cO;refine oh m.cO u 5 1 (fun B x q430 t p k d i b f=>?_) fun L D=>?_;obtain⟨G,H⟩:=q430;dsimp only at k d b f i;simp only[d,a,b,nt];refine dT (T88) fun J=>?_;refine Ob (pW (by first|omega|(simp only[fV3]at *;omega)) g) fun K y=>?_;exact .mk ⟨f,by dsimp only;omega⟩;exact .mk ⟨e,by dsimp only;omega⟩;refine Ob (zB1 (by first|omega|(simp only[fV3]at *;omega)) g) fun N z=>?_;exact .mk (by omega)
def T68:fX (F68 a):=by
 unfold F68;refine oJ (fun _=>?_);exact cD
def T35 {a:YL}:fX (F35 b a):=by
 unfold F35;refine Ob T68 fun c _=>?_;refine Oi (fun _=>cD) (fun _=>?_);refine Oi (fun _=>cD) (fun _=>?_);have hw:=kE1 (b+(bF ((bF (7*a.bC))-(bF (12*a.eC)))));generalize bF (b+(bF ((bF (7*a.bC))-(bF (12*a.eC)))))=x0 at hw ⊢;refine Ob (P:=fun v=> -9223372036854775808<=v/\v<=7) (iM (fun x=> -9223372036854775808<=x/\x<=9223372036854775807) (fun x=>(x+9223372036854775808).toNat) (fun x d=>?_) bK x0 hw (by simp only[bK];omega)) fun b h1=>?_;refine Oi (fun hc=>?_) (fun hc=>?_)<;>simp only[fO3]at hc;rw[bO (by omega) (by omega)];exact .mk ⟨by omega,by omega⟩;exact .mk (by omega);refine Ob (P:=fun v=>True) (iM (fun x=> -9223372036854775808<=x/\x<=7) (fun x=>(7-x).toNat) (fun x d=>?_) bK b h1 (by simp only[bK];omega)) fun a _=>cD;refine Oi (fun hc=>?_) (fun hc=>?_)<;>simp only[fO3]at hc;rw[bO (by omega) (by omega)];exact .mk ⟨by omega,by omega⟩;exact cD
def T91 {p:Int} {i:YK} (g:o.sm) (f:i.s'.sm):fX (F91 p o i):=by
 unfold F91 dM;refine dT (T90 g) fun⟨x,y⟩=>?_;refine oN (fun _=>?_) fun A k=>?_;refine dT (Sj) fun z=>?_;exact cD;have h:=f.aU;refine vG (l:=i.s'.aU) (fun q=>q.2) (fun m j q450 e d b a c=>?_) fun w=>?_;obtain⟨r,s⟩:=q450;dsimp only at d b a c;simp only[b,a,nt];have n:=f.lV _ e;refine dT ?_ fun v=>?_;refine Oi (fun c454=>?_) (fun c454=>?_);refine dT (T35) fun⟨t,u⟩=>?_;exact cD;exact cD;exact .mk c;exact cD
def zC1 {i:aA YV} {l:Y0} (q:i.length+12<=1000000) (d:l.sm):Ok (Mh i l u) (fun v=>i.length<=v.length/\v.length<=i.length+12):=by
 unfold Mh dM;have j:=d.aF;refine oh l.aF i 12 1 (fun o m q467 k g f b e a c=>?_) fun t p=>?_;obtain⟨w,x⟩:=q467;dsimp only at f b a c e;simp only[b,a,nt];have h:=d.cH _ g;refine dT (T91 h d) fun r=>?_;refine Ob (pW (by first|omega|(simp only[fV3]at *;omega)) d) fun s n=>?_;exact .mk ⟨c,by dsimp only;omega⟩;exact .mk (by omega)
def jT2 {a:aA YV} {d:Y0} (e:a.length+12<=1000000) (b:d.sm):Ok (iF1 a d f) (fun v=>a.length<=v.length/\v.length<=a.length+12):=by
 unfold iF1;refine Ob (zC1 (by first|omega|(simp only[fV3]at *;omega)) b) fun g c=>?_;exact .mk (by omega)
def Bc:fX (vF a b):=by
 unfold vF;refine oJ (fun _=>?_);exact cD
def kJ1 {h:aA Int} (d:h.length<=20):fX (Gv h):=by
 unfold Gv dM;have g:=d;refine vG (l:=h) (fun q=>q) (fun j i m f e b a c=>?_) fun k=>?_;simp only[b,a,nt];refine oJ (fun _=>?_);exact .mk c;rcases k with n|_;exact cD;exact cD
def jU2:fX (iG1 a):=by
 unfold iG1;exact cD
def uS2:fX (oV1 a):=by
 unfold oV1;refine oJ (fun _=>?_);exact cD
def uT2 {c:YE} (d:c.sm):Ok (cF1 c) (fun v=>v.sm):=by
 unfold cF1;refine oN (fun _=>?_) fun f a=>?_;refine dT (jU2) fun e=>?_;exact cD;refine Oi (fun c490=>?_) (fun c490=>?_);exact .mk (by first|assumption|exact⟨gU3 _,gU3 _,gU3 _,fun _ h=>nomatch h⟩);have b:=a c490;refine dT ?_ fun g=>?_;refine oJ (fun _=>?_);exact cD;refine dT ?_ fun j=>?_;refine Oi (fun c495=>?_) (fun c495=>?_);refine dT (uS2) fun i=>?_;exact cD;exact cD;exact .mk (by first|assumption|exact⟨gU3 _,gU3 _,gU3 _,fun _ h=>nomatch h⟩)
def uU2 {m n:aA YB} (d:m.length<=12) (e:n.length<=12):fX (Rw m n):=by
 unfold Rw dM;refine oJ (fun _=>?_);have j:=d;refine vG (l:=m) (fun q=>q) (fun p o s g f b a c=>?_) fun r=>?_;simp only[b,a,nt];have k:=e;refine Ob (P:=fun x=>x∈n) (dZ (by omega) (by(simp only[nm]at *;omega)) (fun _ h _=>h)) fun t i=>?_;refine oJ (fun _=>?_);exact .mk c;rcases r with _|_;exact cD;exact cD
def uV2 {m n:aA YD} (d:m.length<=12) (e:n.length<=12):fX (Rx m n):=by
 unfold Rx dM;refine oJ (fun _=>?_);have j:=d;refine vG (l:=m) (fun q=>q) (fun p o s g f b a c=>?_) fun r=>?_;simp only[b,a,nt];have k:=e;refine Ob (P:=fun x=>x∈n) (dZ (by omega) (by(simp only[nm]at *;omega)) (fun _ h _=>h)) fun t i=>?_;refine oJ (fun _=>?_);exact .mk c;rcases r with _|_;exact cD;exact cD
def uW2 {i j:aA YY} (k:i.length<=12) (f:∀y∈i,y.sm) (m:j.length<=12) (g:∀y∈j,y.sm):fX (cG1 i j):=by
 unfold cG1 dM;refine oJ (fun _=>?_);have o:=k;refine vG (l:=i) (fun q=>q) (fun s r w c n b a e=>?_) fun v=>?_;simp only[b,a,nt];have t:=f _ c;have p:=m;refine Ob (P:=fun x=>x∈j) (dZ (by omega) (by(simp only[nm]at *;omega)) (fun _ h _=>h)) fun z d=>?_;have u:=g _ d;refine oJ (fun _=>?_);exact .mk e;rcases v with _|_;exact cD;exact cD
def uX2 {i j:YE} (a:i.sm) (b:j.sm):fX (Ry i j):=by
 unfold Ry;refine oM (fun _=>?_) fun l c=>?_;refine dT (uU2 a.cE b.cE) fun k=>?_;exact cD;refine oM (fun c551=>?_) fun n d=>?_;have g:=c c551;refine dT (uV2 a.bR b.bR) fun m=>?_;exact cD;refine oM (fun c555=>?_) fun p f=>?_;have e:=d c555;have h:=c e;refine dT (uW2 a.cX a.zG b.cX b.zG) fun o=>?_;exact cD;exact cD
def jV2 {a:YA}:Ok (iH1 a) (fun v=>v=0-> -1<=a.Log/\a.Log<=8/\0<=a.qR/\a.qR<=3):=by
 unfold iH1;refine Oi (fun c559=>.mk (by omega)) (fun c559=>?_);exact .mk (by(simp only[nm]at *;omega))
def uY2:fX (cH1):=by
 unfold cH1;exact cD
def jW2 {a:YH} (c:0<=a.jP/\a.jP<=6):fX (Ve a):=by
 unfold Ve;refine dT (uY2) fun d=>?_;refine Ob (dZ (Q:=fun _=>True) (by omega) (by(simp only[nm,nl]at *;omega)) (fun _ _ _=>trivial)) fun e b=>?_;exact cD
def zD1:Ok (qP x1) (fun v=>v=0->0<=x1.jP/\x1.jP<=6):=by
 unfold qP;refine Oi (fun c562=>.mk (by omega)) (fun c562=>?_);refine dT (jW2 (by(simp only[nm]at *;omega))) fun x2=>?_;refine Oi (fun c564=>.mk (by omega)) (fun c564=>?_);exact .mk (by(simp only[nm]at *;omega))
def jX2 {b:YH}:fX (Hx b):=by
 unfold Hx;refine Ob (zD1) fun c a=>?_;refine oJ (fun _=>?_);refine dT (jW2 (by(simp only[nm]at *;omega))) fun d=>?_;exact cD
def kK1:fX (Hy x1):=by
 unfold Hy;refine dT (jX2) fun⟨x2,x3⟩=>?_;refine oJ (fun _=>?_);exact cD
def jY2 {x1:YB}:fX (Vf x1):=by
 unfold Vf;refine dT (kK1) fun⟨x2,x3⟩=>?_;refine dT (Bc) fun x4=>?_;refine dT (kJ1 (by simp)) fun x5=>?_;exact cD
def uZ2 {h:aA YB} (e:h.length<=12):fX (cI1 h):=by
 unfold cI1 dM;refine oJ (fun _=>?_);refine oJ (fun _=>?_);have g:=e;refine vG (l:=h) (fun q=>q.2) (fun k j q585 f d b a c=>?_) fun i=>?_;obtain⟨p,r⟩:=q585;dsimp only at d b a c;simp only[b,a,nt];refine dT (jY2) fun s=>?_;refine oJ (fun _=>?_);refine dT (kK1) fun⟨m,n⟩=>?_;refine oJ (fun _=>?_);exact .mk c;rcases i with o|_;exact cD;exact cD
def vA2 {h:aA YD} (d:h.length<=12):fX (Vg h):=by
 unfold Vg dM;refine oJ (fun _=>?_);have g:=d;refine vG (l:=h) (fun q=>q) (fun k j m f e b a c=>?_) fun i=>?_;simp only[b,a,nt];refine dT (kK1) fun⟨n,o⟩=>?_;refine oJ (fun _=>?_);refine oJ (fun _=>?_);exact .mk c;rcases i with p|_;exact cD;exact cD
def vB2 {c:YY} (a:c.sm):fX (oW1 c):=by
 unfold oW1;refine Oi (fun _=>cD) (fun _=>?_);refine Oi (fun _=>cD) (fun _=>?_);have hs:=a.qQ;refine Ob (P:=fun _=>True) (nP (fun q=>q) (c.qQ.size:Int) (fun _=>True) (by omega) (by decide) trivial (fun i _ h1 h2=>?_)) fun r _=>?_;refine Oi (fun hc=>?_) (fun _=>cD);simp only[fO3]at hc;refine Ob (Bb h1 hc) fun b _=>?_;refine Ob (P:=fun _=>True) (Oi (fun _=>cD) (fun _=>Ob (Bb h1 hc) fun b _=>cD)) fun b _=>?_;exact Oi (fun _=>cD) (fun _=>.mk ⟨hc,h2 hc,trivial⟩);rcases r with _|_;exact cD;exact Oi (fun _=>cD) (fun _=>cD)
def vC2 {a:YY} (b:a.sm):fX (oX1 a):=by
 unfold oX1;exact cD
def vD2 {m:aA YY} (g:m.length<=12) (a:∀y∈m,y.sm):fX (oY1 m):=by
 unfold oY1 dM;refine oJ (fun _=>?_);have o:=g;refine vG (l:=m) (fun q=>q) (fun s r z d n c b f=>?_) fun w=>?_;simp only[c,b,nt];have j:=a _ d;refine dT (vB2 j) fun A=>?_;refine oJ (fun _=>?_);exact .mk f;rcases w with B|_;exact cD;refine oM (fun _=>?_) fun v i=>?_;have p:=g;refine Ob (P:=fun x=>x∈m) (dZ (by(simp only[nm]at *;rw[bO (by omega) (by omega)];omega)) (by(simp only[nm]at *;rw[bO (by omega) (by omega)];omega)) (fun _ h _=>h)) fun C e=>?_;have k:=a _ e;refine dT (vC2 k) fun u=>?_;exact cD;refine Oi (fun c628=>?_) (fun c628=>?_);have t:=i c628;exact cD;exact cD
def T97 {f:YE} (a:f.sm):fX (Ns f):=by
 unfold Ns;refine dT (Bc) fun w=>?_;refine dT (Bc) fun x=>?_;refine dT (kJ1 (by simp)) fun y=>?_;refine oJ (fun _=>?_);refine dT (jU2) fun z=>?_;refine oJ (fun _=>?_);refine Ob (uT2 a) fun A b=>?_;refine dT (uX2 a b) fun B=>?_;refine oJ (fun _=>?_);refine oM (fun _=>?_) fun D c=>?_;refine Ob (jV2) fun C d=>?_;exact cD;refine Oi (fun c642=>?_) (fun c642=>?_);have e:=c c642;exact cD;refine Oi (fun c644=>?_) (fun c644=>?_);refine dT (uZ2 a.cE) fun g=>?_;refine dT (vA2 a.bR) fun h=>?_;refine dT (vD2 a.cX a.zG) fun i=>?_;refine dT (kJ1 (by simp)) fun j=>?_;refine oJ (fun _=>?_);refine dT (Bc) fun k=>?_;refine dT (Bc) fun l=>?_;refine dT (Bc) fun m=>?_;refine dT (Bc) fun n=>?_;refine dT (Bc) fun o=>?_;refine dT (kJ1 (by simp)) fun p=>?_;exact cD;refine dT (Bc) fun q=>?_;refine dT (Bc) fun r=>?_;refine dT (Bc) fun s=>?_;refine dT (Bc) fun t=>?_;refine dT (Bc) fun u=>?_;refine dT (kJ1 (by simp)) fun v=>?_;exact cD
def vE2 {b:YE} (a:b.sm):fX (oZ1 b):=by
 unfold oZ1;refine dT (T97 a) fun c=>?_;exact cD
def vF2 {g:aA YE} (h:g.length<=20) (e:∀y∈g,y.sm):fX (pA1 g):=by
 unfold pA1 dM;have j:=h;refine vG (l:=g) (fun q=>q) (fun m k o c i b a d=>?_) fun n=>?_;simp only[b,a,nt];have f:=e _ c;refine dT (vE2 f) fun p=>?_;refine oJ (fun _=>?_);exact .mk d;rcases n with r|_;exact cD;exact cD
def jZ2 {c:aA YE} (b:c.length<=20) (a:∀y∈c,y.sm):fX (iL1 c):=by
 unfold iL1;refine dT (vF2 b a) fun d=>?_;exact cD
def vG2 {d:YO} (b:d.sm):fX (pB1 d):=by
 unfold pB1;refine oM (fun _=>?_) fun i e=>?_;have c:=b.aW;refine Ob (P:=fun x=>x∈d.aW) (dZ (by omega) (by(simp only[nm]at *;omega)) (fun _ h _=>h)) fun g a=>?_;have f:=b.fP _ a;exact cD;exact cD
def vH2 {b:YA} (c: -1<=b.Log/\b.Log<=8/\0<=b.qR/\b.qR<=3):fX (pC1 b):=by
 unfold pC1;refine Ob (zA (by rw[bO (by omega) (by omega)];omega)) fun n _=>?_;refine Ob (P:=fun _=>True) (nP (fun q=>q.2.2) b.qR (fun _=>True) (by omega) (by dsimp only;omega) trivial (fun q _ h1 h2=>?_)) fun r _=>cD;obtain⟨a,n,i⟩:=q;dsimp only at h1 h2 ⊢;refine Oi (fun hc=>?_) (fun _=>cD);simp only[fO3]at hc;exact Ob (vB (by decide)) fun x _=>.mk ⟨hc,h2 hc,trivial⟩
def vI2 {b:YA}:fX (pD1 b):=by
 unfold pD1;refine Ob (jV2) fun c a=>?_;refine oJ (fun _=>?_);refine dT (vH2 (by(simp only[nm]at *;omega))) fun d=>?_;exact cD
def vJ2 {b:YE} (a:b.sm):fX (pE1 b):=by
 unfold pE1;refine dT (T97 a) fun c=>?_;refine oJ (fun _=>?_);refine dT (vI2) fun⟨d,e⟩=>?_;exact cD
def vK2 {c:aA YE} (h:c.length<=20) (d:∀y∈c,y.sm):Ok (pF1 c) (fun v=>v.length<=20):=by
 unfold pF1 dM;refine Ob (zB (by omega) (by omega) (by omega)) fun o h2=>?_;refine Ob (P:=fun v=>v.length=c.length) (dP (l:=c) (fun q=>q.1) (fun _ q=>q.2.length=c.length) (by omega) rfl (by rw[h2];simp) (fun i e q n g hi hl f hg hw=>?_) (fun q hi f=>?_)) fun v hv=>.mk (by omega);obtain⟨x,l⟩:=q;dsimp only at hi hl f hg hw;simp only[hl,hg,nt];refine Ob (vJ2 (d e g)) fun⟨a,b⟩ _=>?_;refine Ob (nO (by omega) (by omega)) fun j k=>?_;refine Ob (Yr (by omega)) fun m g=>.mk ⟨hw,by dsimp only;omega⟩;obtain⟨x,l⟩:=q;dsimp only at hi f;simp only[hi,nf];exact .mk f
def kA2:Ok (iM1 a) (fun v=>v=true->1<=a/\a<=32):=by
 unfold iM1;exact .mk (by(simp only[nm]at *;omega))
def vL2 {a b:YU}:fX (pG1 a b):=by
 unfold pG1;refine Oi (fun c690=>?_) (fun c690=>?_);refine oJ (fun _=>?_);exact cD;refine Oi (fun c692=>?_) (fun c692=>?_);refine oJ (fun _=>?_);exact cD;exact cD
def sP1 {a:YU}:Ok (Vh a) (fun v=>v=bF (a.lH+a.gS)):=by
 unfold Vh;exact .mk (by rfl)
def kB2 {k:YU} {a:aA YU} (g:a.length<=6) (i:a.length<=3):Ok (Yh k a) (fun v=>v.2.length<=3):=by
 unfold Yh;refine Ob (P:=fun v=>v.length<=3) (iM (fun l=>l.length<=3) (fun l=>l.length) (fun l hl=>?_) bK a i (by simp only[bK];omega)) fun x d=>?_;refine Ob (P:=fun r=>r=true->0<l.length) (Oi (fun hc=>?_) (fun _=>.mk (fun h=>by cases h))) fun b hb=>?_;simp only[fO3]at hc;refine Ob (nO (by rw[bO (by omega) (by omega)];omega) (by rw[bO (by omega) (by omega)];omega)) fun j c=>?_;exact Ob (qD c.2) fun y _=>Ob sP1 fun e _=>.mk (fun _=>by omega);refine Oi (fun hc=>?_) (fun _=>.mk hl);have:=hb hc;refine Ob (cW1 this (by rw[bO (by omega) (by omega)];omega) (by rw[bO (by omega) (by omega)];omega)) fun m f=>?_;have:=f.1;rw[bO (by omega) (by omega)]at this;exact .mk ⟨by omega,by omega⟩;refine Ob (P:=fun r=>r=true\/x.length<3) (Oi (fun hc=>.mk (.inl rfl)) (fun hc=>?_)) fun b hb=>?_;have hc:x.length<3:=by simp only[hX3]at hc;omega
 refine Ob (P:=fun _=>True) (Oi (fun hd=>?_) (fun _=>cD)) fun b _=>.mk (.inr hc);simp only[fO3]at hd;refine Ob sP1 fun e _=>?_;refine Ob (nO (by rw[bO (by omega) (by omega)];omega) (by rw[bO (by omega) (by omega)];omega)) fun j c=>?_;exact Ob (qD c.2) fun y _=>Ob sP1 fun e _=>cD;refine Oi (fun _=>.mk d) (fun hc=>?_);have hb:x.length<3:=by rcases hb with h|h;exact absurd h hc;exact h
 refine Ob (jV (Q:=fun v=>v.length=x.length+1) (by omega) (by simp)) fun m f=>.mk (by dsimp only;omega)
def vM2 {f:aA YU} (z:f.length<=6):Ok (pH1 f c) (fun v=>v=0->∀t∈f,t.ok c):=by
 unfold pH1 dM;refine Oi (fun _=>.mk (fun h=>by cases h)) (fun n=>?_);refine Oi (fun _=>.mk (fun h=>by cases h)) (fun _=>?_);simp only[fW3,fO3,iH3]at n;refine Ob (P:=fun r=>match r with|.inl p=>p.1≠0|.inr _=>∀t∈f,t.ok c) (dP (l:=f) (fun q=>q.1) (fun i q=>q.2.length<=3/\∀j,j<i->∀t,f[j]? =some t->t.ok c) (by omega) rfl ⟨by decide,fun j k=>by omega⟩ (fun i e q A w hi hl d hg hw=>?_) (fun q hi d=>?_)) fun v hv=>?_;obtain⟨x,l⟩:=q;dsimp only at hi hl d hg hw;simp only[hl,hg,nt];refine Ob (P:=fun r=>r=false->(1<=e.gS/\e.gS<=c/\0<=e.lH/\e.lH+e.gS<=c/\1<=e.iQ/\e.iQ<=32)) (Oi (fun _=>.mk (fun h=>by cases h)) (fun hc=>?_)) fun b1 h1=>?_;simp only[fW3,fO3,iH3]at hc;rw[bO (by omega) (by omega)]at hc;refine Ob kA2 fun r hr=>.mk (fun h=>?_);have:=hr (by simpa using h);omega;refine Ob (P:=fun r=>r=false->e.ok c) (Oi (fun hc=>.mk (fun h=>by cases h)) (fun hc=>?_)) fun b2 h2=>?_;refine Ob kA2 fun r hr=>.mk (fun h=>?_);have:=hr (by simpa using h);have:=h1 (by simpa using hc);unfold YU.ok;omega;refine Oi (fun _=>.mk (show(2:Int)≠0 by decide)) (fun hc=>?_);have u:e.ok c:=h2 (by simp only[fW3,iH3,iX3]at hc;exact hc.1);refine Ob (P:=fun _=>True) (Oi (fun hd=>?_) (fun _=>cD)) fun b3 _=>?_;simp only[fO3]at hd;have:=jW hg;refine Ob (dZ (Q:=fun _=>True) (by rw[bO (by omega) (by omega)];omega) (by rw[bO (by omega) (by omega)];omega) (fun _ _ _=>trivial)) fun y _=>?_;exact Ob vL2 fun o _=>cD;refine Oi (fun _=>.mk (show(25:Int)≠0 by decide)) (fun _=>?_);refine Ob (kB2 (gH3 d.1 (by decide)) d.1) fun⟨a,m⟩ w=>?_;refine Oi (fun _=>.mk (show(21:Int)≠0 by decide)) (fun _=>.mk ⟨hw,w,fun j k t g=>?_⟩);by_cases s:j=i;subst s;rw[A]at g;cases g;exact u;exact d.2 j (by omega) t g;obtain⟨x,l⟩:=q;dsimp only at hi d;simp only[hi,nf];refine .mk (fun t g=>?_);obtain⟨j,k⟩:=fQ3.1 g;exact d.2 j (fE3.1 k).1 t k;rcases v with⟨a,b⟩|b;exact .mk (fun h=>absurd h hv);exact .mk (fun _=>hv)
def vN2 {a:YU}:fX (pI1 a b):=by
 unfold pI1;exact cD
def vO2 (j:0<e/\0<c/\c<9223372036854775808):Ok (pJ1 e c) (fun v=>0<v/\v∣e/\v∣c):=by
 unfold pJ1;refine Ob (P:=fun v=>0<v/\v∣e/\v∣c) (iM (fun q=>0<q.1/\0<=q.2/\∀d:Int,d∣q.1->d∣q.2->d∣e/\d∣c) (fun q=>q.2.toNat) (fun q i=>?_) bK (e,c) ⟨j.1,by dsimp only;omega,fun d h1 h2=>⟨h1,h2⟩⟩ (by simp only[bK];omega)) fun v hv=>.mk hv;obtain⟨a,b⟩:=q;obtain⟨h1,h2,g⟩:=i;dsimp only at h1 h2 g;refine Oi (fun hc=>?_) (fun hc=>?_)<;>simp only[fO3]at hc;refine Ob (Dm (by omega)) fun n hn=>?_;have h:n=a%b:=by rw[hn,Int.tmod_eq_emod_of_nonneg (by omega)]
 have e2:=Int.emod_nonneg a (by omega:b≠0);have k:=Int.emod_lt_of_pos a hc;refine .mk ⟨⟨hc,by dsimp only;omega,fun d d1 f=>g d ?_ d1⟩,by dsimp only;omega⟩;dsimp only at d1 f;rw[h]at f;have:=Int.emod_add_mul_ediv a b;rw[<-this];exact Int.dvd_add f (Int.dvd_trans d1 (Int.dvd_mul_right b _));have:b=0:=by omega
 subst this;exact .mk ⟨h1,g a (Int.dvd_refl a) (Int.dvd_zero a)⟩
def vP2 {o:aA YU} (u:o.length<=6) (B:∀t∈o,1<=t.iQ/\t.iQ<=32/\1<=t.jM/\t.jM<=32):Ok (pK1 o F) (fun v=>1<=v.2):=by
 unfold pK1 dM;refine Ob (P:=fun v=>1<=v.2) (dP (l:=o) (fun q=>q.2.2) (fun i q=>1<=q.1/\q.1<=32^i/\1<=q.2.1/\q.2.1<=32^i) (by omega) rfl ⟨by decide,by decide,by decide,by decide⟩ (fun i e q C y hi hl f hg hw=>?_) (fun q hi f=>?_)) fun v hv=>.mk hv;obtain⟨a,b,x⟩:=q;dsimp only at hi hl f hg hw;simp only[hl,hg,nt];have j:=B e y;refine Ob vN2 fun c _=>?_;have w:i<=5:=by omega
 have z:(32:Int)^i<=33554432:=by
  have:i=0\/i=1\/i=2\/i=3\/i=4\/i=5:=by omega
  rcases this with rfl|rfl|rfl|rfl|rfl|rfl<;>decide
 have A:(32:Int)^(i+1)=32^i*32:=Int.pow_succ 32 i;refine Ob (P:=fun v=>1<=v.1/\v.1<=32^(i+1)/\1<=v.2/\v.2<=32^(i+1)) (Oi (fun _=>?_) (fun _=>?_)) fun⟨v1,v2⟩ hv=>.mk ⟨hw,hv⟩;have n1:1<=a*e.jM:=Int.le_trans (by decide) (iW3 f.1 j.2.2.1 (by decide) (by omega));have E:a*e.jM<=32^i*32:=iW3 f.2.1 j.2.2.2 (by omega) (by omega);have d1:1<=b*e.iQ:=Int.le_trans (by decide) (iW3 f.2.2.1 j.1 (by decide) (by omega));have s:b*e.iQ<=32^i*32:=iW3 f.2.2.2 j.2.1 (by omega) (by omega);rw[bO (n:=a*e.jM) (by omega) (by omega),bO (n:=b*e.iQ) (by omega) (by omega)];generalize a*e.jM=N at n1 E ⊢;generalize b*e.iQ=D at d1 s ⊢;refine Ob (vO2 ⟨by omega,by omega,by omega⟩) fun g hg=>?_;obtain⟨G,⟨k,rfl⟩,⟨m,rfl⟩⟩:=hg
 have H:1<=k:=by
  rcases Int.lt_or_le k 1 with h|h;have:=Int.mul_nonneg (a:=g) (b:= -k) (by omega) (by omega);rw[Int.mul_neg]at this;omega;exact h
 have K:1<=m:=by
  rcases Int.lt_or_le m 1 with h|h;have:=Int.mul_nonneg (a:=g) (b:= -m) (by omega) (by omega);rw[Int.mul_neg]at this;omega;exact h
 have J:k<=g*k:=by
  have:=iW3 (a:=1) (b:=k) (c:=g) (d:=k) (by omega) (iF3 k) (by omega) (by omega);omega
 have L:m<=g*m:=by
  have:=iW3 (a:=1) (b:=m) (c:=g) (d:=m) (by omega) (iF3 m) (by omega) (by omega);omega
 refine Ob (vB (by omega)) fun q1 p=>?_;refine Ob (vB (by omega)) fun q2 r=>?_;rw[Int.mul_tdiv_cancel_left k (by omega),show IntKind.wrap .i64 k=bF k from rfl,bO (by omega) (by omega)]at p;rw[Int.mul_tdiv_cancel_left m (by omega),show IntKind.wrap .i64 m=bF m from rfl,bO (by omega) (by omega)]at r;exact .mk ⟨by dsimp only;omega,by dsimp only;omega,by dsimp only;omega,by dsimp only;omega⟩;exact .mk ⟨f.1,by dsimp only;omega,f.2.2.1,by dsimp only;omega⟩;obtain⟨a,b,x⟩:=q;dsimp only at hi f;simp only[hi,nf];exact .mk f.2.2.1
def kC2 {c:aA YU} (b:c.length<=6) (h:∀t∈c,1<=t.iQ/\t.iQ<=32/\1<=t.jM/\t.jM<=32):fX (iN1 c f g):=by
 unfold iN1;refine oJ (fun _=>?_);refine Ob (vP2 b (by omega)) fun⟨i,j⟩ a=>?_
 try dsimp only at a
 refine Ob (Dm (by omega)) fun k d=>?_;refine oJ (fun _=>?_);refine Ob (vB (by omega)) fun l e=>?_;exact cD
def kD2 {k:aA YU} {f:aA Int} (d:k.length<=6) (j:f.length<=20):Ok (iO1 k f) (fun v=>v.1.length<=20/\(v.2=0->∀t∈k,t.ok f.length)):=by
 unfold iO1 dM;refine Ob (vM2 d) fun c hc=>?_;refine Oi (fun hd=>.mk ⟨gU3 _,fun h=>absurd h (by simpa using hd)⟩) (fun hd=>?_);have n:=hc (by simpa using hd);refine Ob (zB (by decide) (by omega) (by omega)) fun w o=>?_;refine Ob (P:=fun r=>match r with|.inl p=>p.1≠0|.inr l=>l.length<=f.length) (dP (l:=f) (fun q=>q.1) (fun i q=>q.2.length<=i) (by omega) rfl (by rw[o];decide) (fun i e q u s hi hl g hg hw=>?_) (fun q hi g=>?_)) fun v hv=>?_;obtain⟨x,l⟩:=q;dsimp only at hi hl g hg hw;simp only[hl,hg,nt];refine Ob (kC2 d (fun t h=>by have:=n t h;unfold YU.ok at this;omega)) fun⟨a,b⟩ _=>?_;refine Oi (fun hb=>.mk (by simpa using hb)) (fun _=>?_);exact Ob (jV (Q:=fun v=>v.length=l.length+1) (by omega) (by simp)) fun m s=>.mk ⟨hw,by dsimp only;omega⟩;obtain⟨x,l⟩:=q;dsimp only at hi g;simp only[hi,nf];exact .mk g;rcases v with⟨a,b⟩|b;exact .mk ⟨gU3 _,fun h=>absurd h hv⟩;exact .mk ⟨gH3 hv j,fun _=>n⟩
def vQ2 {c:aA YU} {g:aA Int} (m:c.length<=6) (o:g.length<=20) (k:0<=f/\f<(c.length:Int)) (hy:∀t∈c,t.ok g.length):fX (pL1 c f g):=by
 unfold pL1;refine Ob (dZ (Q:=fun x=>x∈c) k.1 k.2 (fun _ h _=>h)) fun j d=>?_;have p:=hy j d;unfold YU.ok at p;refine Ob (P:=fun _=>True) (nP (fun q=>q.2) (j.lH+j.gS) (fun _=>True) (by omega) (by dsimp only;omega) trivial (fun q _ h1 h2=>?_)) fun r _=>?_;obtain⟨s,i⟩:=q;dsimp only at h1 h2 ⊢;refine Ob sP1 fun e he=>?_;rw[bO (by omega) (by omega)]at he;subst he;refine Oi (fun hc=>?_) (fun _=>cD);simp only[fO3]at hc;refine Ob (Kg (by rw[bO (by omega) (by omega)];omega) (by rw[bO (by omega) (by omega)];omega) (by omega)) fun l hl=>?_;refine Ob (dZ (Q:=fun _=>True) (by omega) (by omega) (fun _ _ _=>trivial)) fun y _=>?_;refine Ob (kC2 (by omega) (fun t h=>by have:=hy t (hl.2 t h);unfold YU.ok at this;omega)) fun⟨a,b⟩ _=>?_;exact Oi (fun _=>cD) (fun _=>.mk ⟨hc,h2 hc,trivial⟩);rcases r with a|a;exact cD;refine Ob (P:=fun _=>True) (nP (fun q=>q) 9 (fun _=>True) (by decide) (by decide) trivial (fun q _ h1 h2=>?_)) fun r _=>?_;refine Oi (fun hc=>?_) (fun _=>cD);simp only[fO3]at hc;refine Ob (zA (by rw[bO (by omega) (by omega)];omega)) fun n _=>?_;exact Oi (fun _=>cD) (fun _=>.mk ⟨by omega,h2 (by omega),trivial⟩);rcases r with a|a<;>exact cD
def vR2 {h:aA YU} {j:aA Int} (c:h.length<=6) (d:j.length<=20):fX (pM1 h j):=by
 unfold pM1;refine Ob (kD2 c d) fun⟨a,b⟩ f=>?_;dsimp only at f;refine Oi (fun _=>cD) (fun hd=>?_);have o:=f.2 (by simpa using hd);refine Ob (zB (by decide) (by omega) (by omega)) fun r k=>?_;refine Ob (P:=fun _=>True) (dP (l:=h) (fun q=>q.1) (fun i q=>q.2.length<=i) (by omega) rfl (by rw[k];decide) (fun i e q p n hi hl g hg hw=>?_) (fun q hi g=>?_)) fun v hv=>?_;obtain⟨x,l⟩:=q;dsimp only at hi hl g hg hw;simp only[hl,nt];refine Ob (vQ2 c d ⟨by omega,hl⟩ o) fun⟨a,b⟩ _=>?_;refine Oi (fun hb=>cD) (fun _=>?_);exact Ob (jV (Q:=fun v=>v.length=l.length+1) (by omega) (by simp)) fun m n=>.mk ⟨hw,by dsimp only;omega⟩;obtain⟨x,l⟩:=q;dsimp only at hi g;simp only[hi,nf];exact cD;rcases v with a|b<;>exact cD
def vS2 {k:YO} (a:k.sm):Ok (pN1 k) (fun v=>v.1.length<=20):=by
 unfold pN1 dM;have j:=a.aW;refine vG (l:=k.aW) (fun q=>q) (fun n m u e i d c f=>?_) fun t=>?_;simp only[d,c,nt];have h:=a.fP _ e;refine dT (T97 h) fun w=>?_;refine oJ (fun _=>?_);refine oJ (fun _=>?_);exact .mk f;rcases t with x|_;exact .mk (by(simp only[nm,nl]at *;omega));refine Ob (vK2 a.aW a.fP) fun y b=>?_;refine Ob (kD2 a.cT b) fun⟨o,p⟩ g=>?_
 try dsimp only at g
 refine Oi (fun c716=>?_) (fun c716=>?_);exact .mk (by(simp only[nm,nl]at *;omega));refine dT (vR2 a.cT b) fun⟨r,s⟩=>?_;refine Oi (fun c718=>?_) (fun c718=>?_);exact .mk (by(simp only[nm,nl]at *;omega));exact .mk (by(simp only[nm]at *;omega))
def vT2 {f:YO} (a:f.sm):Ok (pO1 f g) (fun v=>v.1.length<=20):=by
 unfold pO1;refine Oi (fun c719=>?_) (fun c719=>?_);exact .mk (by(simp only[nm,nl]at *;omega));refine Oi (fun c720=>?_) (fun c720=>?_);exact .mk (by(simp only[nm,nl]at *;omega));refine dT (vG2 a) fun i=>?_;refine Oi (fun c722=>?_) (fun c722=>?_);have e:=a.aW;refine Ob (P:=fun x=>x∈f.aW) (dZ (by omega) (by(simp only[nm]at *;omega)) (fun _ h _=>h)) fun j b=>?_;have d:=a.fP _ b;refine dT (T97 d) fun k=>?_;refine Oi (fun c728=>?_) (fun c728=>?_);exact .mk (by(simp only[nm,nl]at *;omega));refine Oi (fun c729=>?_) (fun c729=>?_);exact .mk (by(simp only[nm,nl]at *;omega));exact .mk (by(simp only[nm,nl]at *;omega));refine Ob (vS2 a) fun⟨l,m⟩ c=>?_
 try dsimp only at c
 exact .mk (by omega)
def vU2 {h:aA Int} (e:h.length<=20):fX (pP1 h):=by
 unfold pP1 dM;have g:=e;refine vG (l:=h) (fun q=>q.2) (fun j i q741 f d b a c=>?_) fun n=>?_;obtain⟨k,m⟩:=q741;dsimp only at d b a c;simp only[b,a,nt];exact .mk c;exact cD
def kE2 {e:YO} (c:e.sm):Ok (iP1 e f) (fun v=>v.1.length<=20):=by
 unfold iP1;refine Ob (vT2 c) fun⟨g,h⟩ a=>?_
 try dsimp only at a
 refine oM (fun _=>?_) fun j b=>?_;refine dT (vU2 a) fun i=>?_;exact cD;refine dT ?_ fun k=>?_;refine Oi (fun c748=>?_) (fun c748=>?_);have d:=b c748;exact cD;exact cD;refine Oi (fun c750=>?_) (fun c750=>?_);exact .mk (by(simp only[nm,nl]at *;omega));exact .mk (by omega)
def kF2 {c:YO} (b:c.sm):fX (iQ1 c d):=by
 unfold iQ1;refine Ob (kE2 b) fun⟨e,f⟩ a=>?_
 try dsimp only at a
 exact cD
def T93:fX (F93 a):=by
 unfold F93;exact cD
def vV2 {c:YO} (a:c.sm):fX (pQ1 c d):=by
 unfold pQ1;refine dT (jZ2 a.aW a.fP) fun e=>?_;refine oM (fun _=>?_) fun h b=>?_;refine dT (kF2 a) fun f=>?_;refine dT (T93) fun g=>?_;exact cD;exact cD
def vW2 {g:aA YO} (h:g.length<=3) (e:∀y∈g,y.sm):fX (pR1 g n):=by
 unfold pR1 dM;have j:=h;refine vG (l:=g) (fun q=>q) (fun m k p c i b a d=>?_) fun o=>?_;simp only[b,a,nt];have f:=e _ c;refine dT (vV2 f) fun r=>?_;refine oJ (fun _=>?_);exact .mk d;rcases o with s|_;exact cD;exact cD
def vX2 {c:aA YO} (b:c.length<=3) (a:∀y∈c,y.sm):fX (pS1 c d):=by
 unfold pS1;refine dT (vW2 b a) fun e=>?_;exact cD
def vY2 {b:YW} (a:b.sm):fX (pT1 b c):=by
 unfold pT1;refine dT (vX2 a.aT a.fI) fun d=>?_;exact cD
def vZ2 {g:aA YW} (h:g.length<=5) (e:∀y∈g,y.sm):fX (pU1 g n):=by
 unfold pU1 dM;have j:=h;refine vG (l:=g) (fun q=>q) (fun m k p c i b a d=>?_) fun o=>?_;simp only[b,a,nt];have f:=e _ c;refine dT (vY2 f) fun r=>?_;refine oJ (fun _=>?_);exact .mk d;rcases o with s|_;exact cD;exact cD
def wA2 {c:aA YW} (b:c.length<=5) (a:∀y∈c,y.sm):fX (pV1 c d):=by
 unfold pV1;refine dT (vZ2 b a) fun e=>?_;exact cD
def wB2 {b:YM} (a:b.sm):fX (pW1 c b):=by
 unfold pW1;refine dT (T90 a) fun⟨d,e⟩=>?_;refine oJ (fun _=>?_);refine dT (wA2 a.aO a.gK) fun f=>?_;exact cD
def zF1 {i:aA YV} {l:Y0} (q:i.length+12<=1000000) (d:l.sm):Ok (Mi i l u) (fun v=>i.length<=v.length/\v.length<=i.length+12):=by
 unfold Mi dM;have j:=d.aF;refine oh l.aF i 12 1 (fun o m q802 k g f b e a c=>?_) fun t p=>?_;obtain⟨w,x⟩:=q802;dsimp only at f b a c e;simp only[b,a,nt];have h:=d.cH _ g;refine dT (wB2 h) fun r=>?_;refine Ob (pW (by first|omega|(simp only[fV3]at *;omega)) d) fun s n=>?_;exact .mk ⟨c,by dsimp only;omega⟩;exact .mk (by omega)
def wC2 {a:aA YV} {d:Y0} (e:a.length+12<=1000000) (b:d.sm):Ok (pY1 a d f) (fun v=>a.length<=v.length/\v.length<=a.length+12):=by
 unfold pY1;refine Ob (zF1 (by first|omega|(simp only[fV3]at *;omega)) b) fun g c=>?_;exact .mk (by omega)
def kG2 {a:aA YV} {d:Y0} (e:a.length+12<=1000000) (b:d.sm):Ok (iR1 a d f) (fun v=>a.length<=v.length/\v.length<=a.length+12):=by
 unfold iR1;refine Ob (wC2 (by first|omega|(simp only[fV3]at *;omega)) b) fun g c=>?_;exact .mk (by omega)
def T94:fX (F94 b):=by
 unfold F94;refine oM (fun _=>?_) fun d a=>?_;refine dT (T93) fun c=>?_;exact cD;exact cD
def zG1 {c:YO} (a:c.sm):fX (Mj c d):=by
 unfold Mj;refine dT (jZ2 a.aW a.fP) fun e=>?_;refine oM (fun _=>?_) fun h b=>?_;refine dT (kF2 a) fun f=>?_;refine dT (T94) fun g=>?_;exact cD;exact cD
def zH1 {g:aA YO} (h:g.length<=3) (e:∀y∈g,y.sm):fX (Mk g n):=by
 unfold Mk dM;have j:=h;refine vG (l:=g) (fun q=>q) (fun m k p c i b a d=>?_) fun o=>?_;simp only[b,a,nt];have f:=e _ c;refine dT (zG1 f) fun r=>?_;refine oJ (fun _=>?_);exact .mk d;rcases o with s|_;exact cD;exact cD
def zI1 {c:aA YO} (b:c.length<=3) (a:∀y∈c,y.sm):fX (Ml c d):=by
 unfold Ml;refine dT (zH1 b a) fun e=>?_;exact cD
def zJ1 {b:YW} (a:b.sm):fX (Mn b c):=by
 unfold Mn;refine dT (zI1 a.aT a.fI) fun d=>?_;exact cD
def zK1 {g:aA YW} (h:g.length<=5) (e:∀y∈g,y.sm):fX (Mo g n):=by
 unfold Mo dM;have j:=h;refine vG (l:=g) (fun q=>q) (fun m k p c i b a d=>?_) fun o=>?_;simp only[b,a,nt];have f:=e _ c;refine dT (zJ1 f) fun r=>?_;refine oJ (fun _=>?_);exact .mk d;rcases o with s|_;exact cD;exact cD
def zL1 {c:aA YW} (b:c.length<=5) (a:∀y∈c,y.sm):fX (Mp c d):=by
 unfold Mp;refine dT (zK1 b a) fun e=>?_;exact cD
def zM1 {b:YM} (a:b.sm):fX (Mq c b):=by
 unfold Mq;refine dT (T90 a) fun⟨d,e⟩=>?_;refine oJ (fun _=>?_);refine dT (zL1 a.aO a.gK) fun f=>?_;exact cD
def zN1 {i:aA YV} {l:Y0} (q:i.length+12<=1000000) (d:l.sm):Ok (Mr i l u) (fun v=>i.length<=v.length/\v.length<=i.length+12):=by
 unfold Mr dM;have j:=d.aF;refine oh l.aF i 12 1 (fun o m q862 k g f b e a c=>?_) fun t p=>?_;obtain⟨w,x⟩:=q862;dsimp only at f b a c e;simp only[b,a,nt];have h:=d.cH _ g;refine dT (zM1 h) fun r=>?_;refine Ob (pW (by first|omega|(simp only[fV3]at *;omega)) d) fun s n=>?_;exact .mk ⟨c,by dsimp only;omega⟩;exact .mk (by omega)
def zO1 {a:aA YV} {d:Y0} (e:a.length+12<=1000000) (b:d.sm):Ok (Ms a d f) (fun v=>a.length<=v.length/\v.length<=a.length+12):=by
 unfold Ms;refine Ob (zN1 (by first|omega|(simp only[fV3]at *;omega)) b) fun g c=>?_;exact .mk (by omega)
def kH2 {a:aA YV} {d:Y0} (e:a.length+12<=1000000) (b:d.sm):Ok (iS1 a d f) (fun v=>a.length<=v.length/\v.length<=a.length+12):=by
 unfold iS1;refine Ob (zO1 (by first|omega|(simp only[fV3]at *;omega)) b) fun g c=>?_;exact .mk (by omega)
def T96 {c:YP} {b:YE} (a:b.sm):fX (F96 c b):=by
 unfold F96;refine dT (T97 a) fun d=>?_;exact cD
def wD2 {S:Y0} (d8:H.length+3600<=1000000) (p:S.sm):Ok (cK1 H S x3) (fun v=>H.length<=v.length/\v.length<=H.length+3600):=by
 unfold cK1 dM;have J:=p.aF;refine oh S.aF H 3600 300 (fun Y D q881 N z u e q a i=>?_) fun d3 d4=>?_;obtain⟨d9,T⟩:=q881;dsimp only at u e a i q;simp only[e,a,nt];have m:=p.cH _ z;have K:=m.aO;refine oh D.aO T 300 60 (fun Z E q895 O A w f r b j=>?_) fun d2 d5=>?_;obtain⟨e0,U⟩:=q895;dsimp only at w f b j r;simp only[f,a,b,nt];have n:=m.gK _ A;have L:=n.aT;refine oh E.aT U 60 20 (fun b0 F q909 P B x g s c k=>?_) fun d0 d6=>?_;obtain⟨e1,V⟩:=q909;dsimp only at x g c k s;simp only[g,a,b,c,nt];have o:=n.fI _ B;have M:=o.aW;refine oh F.aW V 20 1 (fun b4 W q923 R C y h t d l=>?_) fun b9 d7=>?_;obtain⟨b5,b6⟩:=q923;dsimp only at y h d l t;simp only[h,a,b,c,d,nt];have G:=o.fP _ C;refine dT (T96 G) fun b7=>?_;refine Ob (pW (by first|omega|(simp only[fV3]at *;omega)) p) fun b8 X=>?_;exact .mk ⟨l,by dsimp only;omega⟩;exact .mk ⟨k,by dsimp only;omega⟩;exact .mk ⟨j,by dsimp only;omega⟩;exact .mk ⟨i,by dsimp only;omega⟩;exact .mk (by omega)
def kI2 {a:aA YV} {d:Y0} (e:a.length+3600<=1000000) (b:d.sm):Ok (cL1 a d f) (fun v=>a.length<=v.length/\v.length<=a.length+3600):=by
 unfold cL1;refine Ob (wD2 (by first|omega|(simp only[fV3]at *;omega)) b) fun g c=>?_;exact .mk (by omega)
def T42 {c:Y0} (d:c.sm):Ok (F42 c f) (fun v=>v.2.2=0->0<=v.1/\v.1<(c.aU.length:Int)):=by
 unfold F42 dM;have g:=d.aU;refine Oi (fun _=>.mk (fun h=>absurd (show(2:Int)=0 from h) (by decide))) (fun _=>?_);refine Ob (P:=fun r=>match r with|.inl p=>0<=p.1/\p.1<(c.aU.length:Int)|.inr _=>True) (dP (l:=c.aU) (fun q=>q.2) (fun _ _=>True) (by omega) rfl trivial (fun i e q k j hi hl _ hg hw=>?_) (fun q hi _=>?_)) fun r hr=>?_;obtain⟨s,x⟩:=q;dsimp only at hi hl hg hw;simp only[hl,hg,nt];exact Oi (fun _=>.mk ⟨by dsimp only;omega,hl⟩) (fun _=>.mk ⟨hw,trivial⟩);obtain⟨s,x⟩:=q;dsimp only at hi;simp only[hi,nf];exact cD;rcases r with⟨a,b⟩|_;exact .mk (fun _=>hr);exact .mk (fun h=>absurd (show(2:Int)=0 from h) (by decide))
def T99 {x2:Int}:fX (F99 x1 x2):=by
 unfold F99;refine dT (jX2) fun⟨x3,x4⟩=>?_;refine dT (Sj) fun x5=>?_;exact cD
def wE2 {a:YB}:fX (Rz a b):=by
 unfold Rz;refine dT (T99) fun c=>?_;exact cD
def wF2 {h:aA YB} (d:h.length<=12):fX (iT1 h k):=by
 unfold iT1 dM;have g:=d;refine vG (l:=h) (fun q=>q) (fun j i n f e b a c=>?_) fun m=>?_;simp only[b,a,nt];refine dT (wE2) fun o=>?_;refine oJ (fun _=>?_);exact .mk c;rcases m with p|_;exact cD;exact cD
def wG2 {b:aA YB} (a:b.length<=12):fX (cM1 b c):=by
 unfold cM1;refine dT (wF2 a) fun d=>?_;exact cD
def wH2 {a:YD}:fX (Sa a b):=by
 unfold Sa;refine dT (T99) fun c=>?_;exact cD
def wI2 {h:aA YD} (d:h.length<=12):fX (iU1 h k):=by
 unfold iU1 dM;have g:=d;refine vG (l:=h) (fun q=>q) (fun j i n f e b a c=>?_) fun m=>?_;simp only[b,a,nt];refine dT (wH2) fun o=>?_;refine oJ (fun _=>?_);exact .mk c;rcases m with p|_;exact cD;exact cD
def wJ2 {b:aA YD} (a:b.length<=12):fX (cN1 b c):=by
 unfold cN1;refine dT (wI2 a) fun d=>?_;exact cD
def T98 {x1:YP} {x2:YE} {x3:YK} (a:x2.sm) (b:x3.s'.sm):fX (F98 x1 x2 x3):=by
 unfold F98;refine dT (T97 a) fun x4=>?_;refine oJ (fun _=>?_);refine Ob (T42 b) fun⟨x5,x6,x7⟩ d=>?_
 try dsimp only at d
 refine dT ?_ fun x9=>?_;refine Oi (fun c965=>?_) (fun c965=>?_);have e:=b.aU;refine Ob (P:=fun x=>x∈x3.s'.aU) (dZ (by(simp only[nm]at *;omega)) (by(simp only[nm]at *;omega)) (fun _ h _=>h)) fun x8 c=>?_;have g:=b.lV _ c;exact cD;exact cD;refine dT ?_ fun x10=>?_;refine oJ (fun _=>?_);exact cD;refine dT (wG2 a.cE) fun x11=>?_;refine oN (fun _=>?_) fun x13 f=>?_;refine dT (wJ2 a.bR) fun x12=>?_;exact cD;exact cD
def zP1 {W:Y0} (d8:H.length+3600<=1000000) (o:W.sm):Ok (Ba H W x3) (fun v=>H.length<=v.length/\v.length<=H.length+3600):=by
 unfold Ba dM;have R:=o.aF;refine oh W.aF H 3600 300 (fun b5 F q987 S C A i y a k=>?_) fun d5 d6=>?_;obtain⟨d9,X⟩:=q987;dsimp only at A i a k y;simp only[i,a,nt];have w:=o.cH _ C;have J:=w.aO;refine oh F.aO X 300 60 (fun b6 G q1001 T D B j z c l=>?_) fun d4 d7=>?_;obtain⟨e0,Y⟩:=q1001;dsimp only at B j c l z;simp only[j,a,c,nt];have m:=w.gK _ D;have K:=m.aT;refine oh G.aT Y 60 20 (fun U x q1015 M t r e p b g=>?_) fun d3 b0=>?_;obtain⟨e1,Z⟩:=q1015;dsimp only at r e b g p;simp only[e,a,c,b,nt];have n:=m.fI _ t;have L:=n.aW;refine oh x.aW Z 20 1 (fun V O q1029 N u s f q d h=>?_) fun d2 b4=>?_;obtain⟨b7,b8⟩:=q1029;dsimp only at s f d h q;simp only[f,a,c,b,d,nt];have E:=n.fP _ u;refine dT (T98 E o) fun b9=>?_;refine Ob (pW (by first|omega|(simp only[fV3]at *;omega)) o) fun d0 P=>?_;exact .mk ⟨h,by dsimp only;omega⟩;exact .mk ⟨g,by dsimp only;omega⟩;exact .mk ⟨l,by dsimp only;omega⟩;exact .mk ⟨k,by dsimp only;omega⟩;exact .mk (by omega)
def kJ2 {a:aA YV} {d:Y0} (e:a.length+3600<=1000000) (c:d.sm):Ok (cO1 a d f) (fun v=>a.length<=v.length/\v.length<=a.length+3600):=by
 unfold cO1;refine Ob (zP1 (by first|omega|(simp only[fV3]at *;omega)) c) fun g b=>?_;exact .mk (by omega)
def wK2 {a:YB}:fX (qK1 a):=by
 unfold qK1;exact cD
def zR1 {j:aA YB} (h:j.length<=12):fX (Mt j):=by
 unfold Mt dM;have f:=h;refine vG (l:=j) (fun q=>q) (fun i g m e d b a c=>?_) fun k=>?_;simp only[b,a,nt];refine dT (wK2) fun n=>?_;refine oJ (fun _=>?_);exact .mk c;rcases k with o|_;exact cD;exact cD
def zS1 {b:aA YB} (a:b.length<=12):fX (Mu b):=by
 unfold Mu;refine dT (zR1 a) fun c=>?_;exact cD
def kK2 {c:YE} (b:c.sm):fX (iV1 c):=by
 unfold iV1;refine oM (fun _=>?_) fun e a=>?_;refine dT (zS1 b.cE) fun d=>?_;exact cD;exact cD
def sQ1 {b:Y0} (f:b.sm):Ok (Mv b c d e) (fun v=>v.length<=20/\(∀y∈v,y.sm)/\(v=[]\/∃x y z,bU b.aF c=some x/\bU x.aO d=some y/\bU y.aT e=some z/\v=z.aW)):=by
 unfold Mv;refine Ob (P:=fun r=>¬r=true->0<=c/\0<=d/\∃x,bU b.aF c=some x/\d<(x.aO.length:Int)) ?_ fun l j=>?_;refine Oi (fun _=>.mk (fun h=>absurd rfl h)) (fun hc=>?_);simp only[fW3,fO3,iH3]at hc;exact Ok.bindE (dZ (Q:=fun _=>True) (by omega) (by omega) (fun _ _ _=>trivial)) fun x a _=>.mk (fun h=>⟨by omega,by omega,x,a,by simp at h;omega⟩);refine Ob (P:=fun r=>¬r=true->∃x y,bU b.aF c=some x/\bU x.aO d=some y/\0<=e/\e<(y.aT.length:Int)) ?_ fun m k=>?_;refine Oi (fun _=>.mk (fun h=>absurd rfl h)) (fun hc=>?_);simp only[fW3,fO3,iH3]at hc;obtain⟨h0,h1,x,a,hs⟩:=j hc.1;rw[a,fD3];exact Ok.bindE (dZ (Q:=fun _=>True) h1 hs (fun _ _ _=>trivial)) fun y hy _=>.mk (fun h=>⟨x,y,rfl,hy,by omega,by simp at h;omega⟩);refine Oi (fun _=>.mk ⟨gU3 _,fun _ h=>(iY3 h).elim,.inl rfl⟩) (fun hc=>?_);obtain⟨x,y,a,hy,h0,h1⟩:=k hc;rw[a,fD3,hy,fD3];refine Ok.bindE (dZ (Q:=fun _=>True) h0 h1 (fun _ _ _=>trivial)) fun z g _=>?_;have i:=((f.cH x (jW a).2.2.1).gK y (jW hy).2.2.1).fI z (jW g).2.2.1;exact .mk ⟨i.aW,i.fP,.inr ⟨x,y,z,rfl,hy,g,rfl⟩⟩
def kL2 {c:Y0} {a:YP} (d:c.sm):Ok (iW1 c a) (fun r=>r=0->a.dH=4/\0<=a.pV/\∃l,Mv c a.dF a.iE a.iN=some l/\a.pV<(l.length:Int)):=by
 unfold iW1;refine Oi (fun _=>.mk (fun h=>by cases h)) (fun hk=>?_);refine Ob (P:=fun r=>¬r=true->0<=a.pV/\∃l,Mv c a.dF a.iE a.iN=some l/\a.pV<(l.length:Int)) (Oi (fun _=>.mk (fun h=>absurd rfl h)) (fun hc=>?_)) fun b hb=>?_;exact Ok.bindE (sQ1 d) fun l hl _=>.mk (fun h=>⟨by simpa using hc,l,hl,by simpa using h⟩);exact Oi (fun _=>.mk (fun h=>by cases h)) (fun hc=>.mk (fun _=>⟨by simpa using hk,hb hc⟩))
def kM2:Ok (iX1 a b c d) (fun v=>v.dF=a):=by
 unfold iX1;exact .mk (by rfl)
def kN2 {d:Y0} {e:YP} (b:d.sm):Ok (iY1 d e) (fun v=>v.2=true->0<=e.dF/\e.dF<(d.aF.length:Int)/\0<=v.1.dF/\v.1.dF<(d.aF.length:Int)):=by
 unfold iY1;refine Ob (kL2 b) fun c hc=>?_;refine Oi (fun _=>.mk (fun h=>by cases h)) (fun hd=>?_);obtain⟨hk,h0,l,hl,j⟩:=hc (by simpa using hd);have i:=(sQ1 b).of hl
 have f:0<=e.dF/\e.dF<(d.aF.length:Int):=by
  rcases i.2.2 with h|⟨x,y,z,hx,_⟩
  rw[h,fV3]at j;omega;have:=jW hx;exact⟨this.1,this.2.1⟩
 rw[hl,fD3];refine Oi (fun _=>?_) (fun _=>?_);exact Ob kM2 fun a g=>.mk (fun _=>⟨f.1,f.2,by dsimp only;omega,by dsimp only;omega⟩);refine Ob (sQ1 b) fun k h2=>?_;refine Oi (fun hc=>?_) (fun _=>.mk (fun h=>by cases h));refine Ob kM2 fun a g=>.mk (fun _=>?_);dsimp only at g ⊢;rcases h2.2.2 with h|⟨x,y,z,hx,_⟩
 rw[h]at hc;simp at hc;have:=jW hx;rw[g];exact⟨f.1,f.2,this.1,this.2.1⟩
def kO2 {b:YE} (a:b.sm):Ok (Gw b) (fun v=>v=(b.cX,b.bR,b.cE)):=by
 unfold Gw;rw[jX (gH3 a.cE (by decide)),jX (gH3 a.bR (by decide)),jX (gH3 a.cX (by decide))];exact .mk rfl
def wL2 {f:Y0} {g:YP} (a:f.sm):Ok (qN1 f g) (fun v=>v.1.sm):=by
 unfold qN1;refine Ob (kL2 a) fun c hc=>?_;refine Oi (fun _=>.mk ⟨gU3 _,gU3 _,gU3 _,fun _ h=>(iY3 h).elim⟩) (fun hd=>?_);obtain⟨hk,h0,l,hl,e⟩:=hc (by simpa using hd);have d:=(sQ1 a).of hl;rw[hl,fD3];exact Ob (dZ (Q:=fun x=>x.sm) h0 e (fun x b _=>d.2.1 x b)) fun x b=>Ob (kO2 b) fun y hy=>by subst hy;exact .mk b
def wM2 {a b:YB}:fX (qO1 a b):=by
 unfold qO1;exact cD
def zT1 {j:aA YB} {k:YB} (h:j.length<=12):fX (Mw j k):=by
 unfold Mw dM;have f:=h;refine vG (l:=j) (fun q=>q) (fun i g n e d b a c=>?_) fun m=>?_;simp only[b,a,nt];refine dT (wM2) fun o=>?_;refine oJ (fun _=>?_);exact .mk c;rcases m with p|_;exact cD;exact cD
def zU1 {b:aA YB} {c:YB} (a:b.length<=12):fX (My b c):=by
 unfold My;refine dT (zT1 a) fun d=>?_;exact cD
def wN2 {o r:YE} (j:o.sm) (k:r.sm):fX (qR1 o r):=by
 unfold qR1 dM;refine oJ (fun _=>?_);have g:=j.cE;refine vG (l:=o.cE) (fun q=>q) (fun m h u f e b a c=>?_) fun p=>?_;simp only[b,a,nt];refine oM (fun _=>?_) fun t d=>?_;refine oM (fun _=>?_) fun s i=>?_;refine dT (zU1 k.cE) fun v=>?_;exact cD;exact cD;refine Oi (fun c1083=>?_) (fun c1083=>?_);have n:=d c1083;exact cD;exact .mk c;rcases p with _|_;exact cD;exact cD
def wO2 {h:YP} {f:YE} {g:YK} (c:f.sm) (d:g.s'.sm):fX (qS1 h f g):=by
 unfold qS1;refine dT (kK2 c) fun j=>?_;refine oJ (fun _=>?_);refine Ob (kN2 d) fun⟨k,l⟩ b=>?_
 try dsimp only at b
 refine Ob (wL2 d) fun⟨m,n⟩ a=>?_
 try dsimp only at a
 refine oN (fun _=>?_) fun i e=>?_;refine dT (wN2 c a) fun o=>?_;exact cD;exact cD
def zV1 (d8:H.length+3600<=1000000) (p:Y.sm):Ok (Mz H Y x3) (fun v=>H.length<=v.length/\v.length<=H.length+3600):=by
 unfold Mz dM;have J:=p.aF;refine oh Y.aF H 3600 300 (fun U D q1103 N z u e q a i=>?_) fun d7 b5=>?_;obtain⟨d9,Z⟩:=q1103;dsimp only at u e a i q;simp only[e,a,nt];have m:=p.cH _ z;have K:=m.aO;refine oh D.aO Z 300 60 (fun V E q1117 O A w f r b j=>?_) fun d6 b6=>?_;obtain⟨e0,b0⟩:=q1117;dsimp only at w f b j r;simp only[f,a,b,nt];have n:=m.gK _ A;have L:=n.aT;refine oh E.aT b0 60 20 (fun W F q1131 P B x g s c k=>?_) fun d5 b7=>?_;obtain⟨e1,b4⟩:=q1131;dsimp only at x g c k s;simp only[g,a,b,c,nt];have o:=n.fI _ B;have M:=o.aW;refine oh F.aW b4 20 1 (fun X S q1145 R C y h t d l=>?_) fun d4 b8=>?_;obtain⟨b9,d0⟩:=q1145;dsimp only at y h d l t;simp only[h,a,b,c,d,nt];have G:=o.fP _ C;refine dT (wO2 G p) fun d2=>?_;refine Ob (pW (by first|omega|(simp only[fV3]at *;omega)) p) fun d3 T=>?_;exact .mk ⟨l,by dsimp only;omega⟩;exact .mk ⟨k,by dsimp only;omega⟩;exact .mk ⟨j,by dsimp only;omega⟩;exact .mk ⟨i,by dsimp only;omega⟩;exact .mk (by omega)
def kP2 {a:aA YV} {d:Y0} (e:a.length+3600<=1000000) (c:d.sm):Ok (jA1 a d f) (fun v=>a.length<=v.length/\v.length<=a.length+3600):=by
 unfold jA1;refine Ob (zV1 (by first|omega|(simp only[fV3]at *;omega)) c) fun g b=>?_;exact .mk (by omega)
def wP2 {a:YE} (d:a.sm) (e:0<=c):Ok (qU1 a c) (fun v=>v=false->c<(a.cX.length:Int)):=by
 unfold qU1;refine Ob (P:=fun r=>r=false->c<(a.cX.length:Int)) (Oi (fun _=>.mk (fun h=>by cases h)) (fun hc=>?_)) fun b hb=>.mk hb;simp only[fO3]at hc;exact Ob (dZ (Q:=fun _=>True) e (by omega) (fun _ _ _=>trivial)) fun y _=>.mk (fun _=>by omega)
def kQ2 {o p v:Int} {E:aA (YP×Bool)} {A:aA YV} (B:A.length+0<=1000000) (d:s.sm) (D:0<=o) (hy:0<=p) (t:0<=v):fX (Yj o p v E A s F):=by
 unfold Yj dM;have H:=d.aF;refine Ob (P:=fun _=>True) (dP (l:=s.aF) (fun q=>q.1) (fun _ _=>True) (by omega) rfl trivial (fun i e q _ g hi hl _ hg hw=>?_) (fun q hi _=>?_)) fun⟨a1,a2,a3,a4,a5,a6,a7⟩ _=>?_;obtain⟨x,k,st,m,n,ev,y,l⟩:=q;dsimp only at hi hl hg hw;simp only[hl,hg,nt];refine Ob (P:=fun r=>¬r=true->∃y,bU e.aO o=some y/\p<(y.aT.length:Int)) (Oi (fun _=>.mk (fun h=>absurd rfl h)) (fun hc=>?_)) fun b hb=>?_;simp only[fO3]at hc;exact Ok.bindE (dZ (Q:=fun _=>True) D (by omega) (fun _ _ _=>trivial)) fun y hy _=>.mk (fun h=>⟨y,hy,by simpa using h⟩);refine Oi (fun _=>.mk ⟨hw,trivial⟩) (fun hc=>?_);obtain⟨c,f,hv⟩:=hb hc;rw[f,fD3];refine Ok.bindE (dZ (Q:=fun _=>True) hy hv (fun _ _ _=>trivial)) fun z j _=>?_;have u:=((d.cH e g).gK c (jW f).2.2.1).fI z (jW j).2.2.1;have G:=u.aW;refine Ob (P:=fun _=>True) (dP (l:=z.aW) (fun q=>q.1) (fun _ _=>True) (by omega) rfl trivial (fun i e q _ g hi hl _ hg hw=>?_) (fun q hi _=>?_)) fun⟨a1,a2,a3,a4,a5,a6,a7⟩ _=>.mk ⟨hw,trivial⟩;obtain⟨x,k,st,m,n,ev,y,l⟩:=q;dsimp only at hi hl hg hw;simp only[hl,hg,nt];refine Ob (wP2 (u.fP e g) t) fun a C=>?_;refine Oi (fun _=>.mk ⟨hw,trivial⟩) (fun hc=>?_);refine Ob (dZ (Q:=fun _=>True) t (C (by simpa using hc)) (fun _ _ _=>trivial)) fun w _=>?_;refine Ob (P:=fun _=>True) (Oi (fun _=>cD) (fun _=>cD)) fun _ _=>?_;exact Ob (P:=fun _=>True) (Oi (fun _=>cD) (fun _=>cD)) fun _ _=>.mk ⟨hw,trivial⟩;obtain⟨x,k,st,m,n,ev,y,l⟩:=q;dsimp only at hi;simp only[hi,nf];exact cD;obtain⟨x,k,st,m,n,ev,y,l⟩:=q;dsimp only at hi;simp only[hi,nf];exact cD;exact Ob (P:=fun _=>True) (Oi (fun _=>cD) (fun _=>cD)) fun _ _=>cD
def wQ2 {c:YP} {a:YE} {d:aA (YP×Bool)} (b:a.sm):fX (qV1 c a d):=by
 unfold qV1;exact cD
def zW1 {x1:aA (YP×Bool)} {x4:Int} (d8:H.length+3600<=1000000) (F:Y.sm):Ok (Na x1 H Y x4) (fun v=>H.length<=v.length/\v.length<=H.length+3600):=by
 unfold Na dM;have J:=F.aF;refine oh Y.aF H 3600 300 (fun U C q1162 N y t e p a i=>?_) fun d7 b5=>?_;obtain⟨d9,Z⟩:=q1162;dsimp only at t e a i p;simp only[e,a,nt];have m:=F.cH _ y;have K:=m.aO;refine oh C.aO Z 300 60 (fun V D q1176 O z u f q b j=>?_) fun d6 b6=>?_;obtain⟨e0,b0⟩:=q1176;dsimp only at u f b j q;simp only[f,a,b,nt];have n:=m.gK _ z;have L:=n.aT;refine oh D.aT b0 60 20 (fun W E q1190 P A w g r c k=>?_) fun d5 b7=>?_;obtain⟨e1,b4⟩:=q1190;dsimp only at w g c k r;simp only[g,a,b,c,nt];have o:=n.fI _ A;have M:=o.aW;refine oh E.aW b4 20 1 (fun X S q1204 R B x h s d l=>?_) fun d4 b8=>?_;obtain⟨b9,d0⟩:=q1204;dsimp only at x h d l s;simp only[h,a,b,c,d,nt];have G:=o.fP _ B;refine dT (wQ2 G) fun d2=>?_;refine Ob (pW (by first|omega|(simp only[fV3]at *;omega)) F) fun d3 T=>?_;exact .mk ⟨l,by dsimp only;omega⟩;exact .mk ⟨k,by dsimp only;omega⟩;exact .mk ⟨j,by dsimp only;omega⟩;exact .mk ⟨i,by dsimp only;omega⟩;exact .mk (by omega)
def kR2 {b:aA YV} {f:Y0} (g:b.length+3600<=1000000) (a:f.sm):Ok (jB1 b f h) (fun v=>b.length<=v.length/\v.length<=b.length+3600):=by
 unfold jB1;refine Ob (T85 a) fun n hn=>?_;refine Ob (P:=fun _=>True) (nP (fun q=>q.1) n (fun _=>True) hn (by decide) trivial (fun q _ h1 h2=>?_)) fun m _=>?_;obtain⟨x,l⟩:=q;dsimp only at h1 h2 ⊢;refine Oi (fun hc=>?_) (fun _=>cD);simp only[fO3]at hc;refine Ob (P:=fun _=>True) (nP (fun q=>q.1) 2 (fun _=>True) (by decide) (by dsimp only;omega) trivial (fun q _ c g2=>?_)) fun m _=>.mk ⟨hc,h2 hc,trivial⟩;obtain⟨y,l⟩:=q;dsimp only at c g2 ⊢;refine Oi (fun hd=>?_) (fun _=>cD);simp only[fO3]at hd;refine Ob (P:=fun _=>True) (nP (fun q=>q.1) 4 (fun _=>True) (by decide) (by dsimp only;omega) trivial (fun q _ d e=>?_)) fun m _=>.mk ⟨hd,g2 hd,trivial⟩;obtain⟨z,l⟩:=q;dsimp only at d e ⊢;refine Oi (fun he=>?_) (fun _=>cD);simp only[fO3]at he;exact Ob (kQ2 (by omega) a h1 c d) fun m _=>.mk ⟨he,e he,trivial⟩;exact Ob (zW1 (by omega) a) fun v hv=>.mk (by omega)
def sR1 {a:Y0} (b:a.sm):fX (Dk a):=by
 unfold Dk;exact cD
def kL1 {c:YJ} {l:Bool} {a:YP} {b:YZ} (d:c.sm):fX (yZ e f g h i j k c l a b):=by
 unfold yZ;refine oJ (fun _=>?_);exact cD
def Vk {j:YF} {k:Bool} {a:YP} {b:YZ}:fX (sJ c d e f g h i j k a b):=by
 unfold sJ;refine oJ (fun _=>?_);exact cD
def Vl {c:YM} {l:Bool} {a:YP} {b:YZ} (d:c.sm):fX (sK e f g h i j k c l a b):=by
 unfold sK;refine oJ (fun _=>?_);exact cD
def Vm {c:YE} {l:Bool} {a:YP} {b:YZ} (d:c.sm):fX (sL e f g h i j k c l a b):=by
 unfold sL;refine oJ (fun _=>?_);exact cD
def Vn {j:YN} {k:Bool} {a:YP} {b:YZ}:fX (sM c d e f g h i j k a b):=by
 unfold sM;refine oJ (fun _=>?_);exact cD
def sS1 {m:Y0} {Y:Bool} {Z:YP} {x4:YZ} (g:m.sm):Ok (Dl m Y Z x4) (fun v=>match v with|.inl p=>p.dH=4->0<=p.pV/\m.pl p.dF p.iE p.iN|.inr _=>True):=by
 unfold Dl dM;have hP:=g.aU;have hM:=g.aF;have V:=g.bT;refine Ob (P:=fun r=>match r with|.inl p=>p.1≠4|.inr _=>True) (dP (l:=m.aU) (fun q=>q.2) (fun _ _=>True) (by omega) rfl trivial (fun i e q E C hi hl _ hg hw=>?_) (fun q hi _=>?_)) fun r hr=>?_;obtain⟨s,x⟩:=q;dsimp only at hi hl hg hw;simp only[hl,hg,nt];refine Ob (kL1 (g.lV e C)) fun r _=>?_;rcases r with _|_;exact .mk (show(1:Int)≠4 by decide);have V:=(g.lV e C).cO;refine Ob (P:=fun _=>True) (dP (l:=e.cO) (fun q=>q.2) (fun _ _=>True) (by omega) rfl trivial (fun i2 e2 q X W G B _ o D=>?_) (fun q hi _=>?_)) fun r _=>?_;obtain⟨s,y⟩:=q;dsimp only at G B o D;simp only[B,o,nt];refine Ob Vk fun r _=>?_;rcases r with _|_;exact cD;exact .mk ⟨D,trivial⟩;obtain⟨s,y⟩:=q;dsimp only at hi;simp only[hi,nf];exact cD;rcases r with⟨a,b⟩|a;exact .mk (show(2:Int)≠4 by decide);exact .mk ⟨hw,trivial⟩;obtain⟨s,y⟩:=q;dsimp only at hi;simp only[hi,nf];exact cD;rcases r with⟨k,p,st⟩|_;exact .mk (fun h=>absurd h hr);refine Ob (P:=fun r=>match r with|.inl p=>p.1=4->0<=p.2.2.2.2/\m.pl p.2.2.1 p.2.1 p.2.2.2.1|.inr _=>True) (dP (l:=m.aF) (fun q=>q) (fun _ _=>True) (by omega) rfl trivial (fun i e q E C hi hl _ hg hw=>?_) (fun q hi _=>?_)) fun r hr=>?_;simp only[hl,hg,nt];have S:=g.cH e C;have hC:=S.aO;refine Ob (Vl S) fun r _=>?_;rcases r with _|_;exact .mk (fun h=>absurd (show(3:Int)=4 from h) (by decide));refine Ob (P:=fun r=>match r with|.inl p=>0<=p.2.2/\m.pl q p.1 p.2.1|.inr _=>True) (dP (l:=e.aO) (fun q=>q) (fun _ _=>True) (by omega) rfl trivial (fun j c w E K hj hlc _ z N=>?_) (fun q hi _=>?_)) fun r hr=>?_;simp only[hlc,z,nt];have T:=S.gK c K;have hV:=T.aT;refine Ob (P:=fun r=>match r with|.inl p=>0<=p.2/\m.pl q w p.1|.inr _=>True) (dP (l:=c.aT) (fun q=>q) (fun _ _=>True) (by omega) rfl trivial (fun k v u E M hk J _ A R=>?_) (fun q hi _=>?_)) fun r hr=>?_;simp only[J,A,nt];have U:=T.fI v M;have hE:=U.aW;refine Ob (P:=fun r=>match r with|.inl x=>0<=x|.inr _=>True) (dP (l:=v.aW) (fun q=>q) (fun _ _=>True) (by omega) rfl trivial (fun n ev t E L ht H _ F O=>?_) (fun q hi _=>?_)) fun r hr=>?_;simp only[H,F,nt];refine Ob (Vm (U.fP ev L)) fun r _=>?_;rcases r with _|_;exact .mk (show(0:Int)<=t by omega);exact .mk ⟨O,trivial⟩;simp only[hi,nf];exact cD;rcases r with x|_;exact .mk ⟨hr,e,c,v,hg,z,A⟩;exact .mk ⟨R,trivial⟩;simp only[hi,nf];exact cD;rcases r with⟨a,b⟩|_;exact .mk hr;exact .mk ⟨N,trivial⟩;simp only[hi,nf];exact cD;rcases r with⟨a,b,c⟩|_;exact .mk (fun _=>hr);exact .mk ⟨hw,trivial⟩;simp only[hi,nf];exact cD;rcases r with⟨a,b,c,d,f⟩|_;exact .mk hr;refine Ob (P:=fun _=>True) (dP (l:=m.bT) (fun q=>q) (fun _ _=>True) (by omega) rfl trivial (fun i e q E C hi hl _ hg hw=>?_) (fun q hi _=>?_)) fun r hr=>?_;simp only[hl,hg,nt];refine Ob Vn fun r _=>?_;rcases r with _|_;exact cD;exact .mk ⟨hw,trivial⟩;simp only[hi,nf];exact cD;rcases r with x|_;exact .mk (fun h=>absurd (show(5:Int)=4 from h) (by decide));exact cD
def wR2 {b:Y0} {c:YZ} (a:b.sm):Ok (qX1 b c) (fun v=>v.2=true->v.1.dH=4->0<=v.1.pV/\b.pl v.1.dF v.1.iE v.1.iN):=by
 unfold qX1;refine Oi (fun _=>.mk (fun h=>by cases h)) (fun _=>?_);refine Ob (sR1 a) fun _ _=>?_;refine Ob (sS1 a) fun r hr=>?_;rcases r with p|_;exact .mk (fun _=>hr);exact .mk (fun h=>by cases h)
def wS2 {a:aA Int} (c:a.length<=20):fX (qY1 a):=by
 unfold qY1;refine Ob (zB (by omega) (by omega) (by omega)) fun h h2=>?_;refine Ob (P:=fun v=>v.length=a.length) (nP (fun q=>q.1) (a.length:Int) (fun q=>q.2.length=a.length) (by omega) (by dsimp only;omega) (by rw[h2];simp) (fun q b h1 h2=>?_)) fun v hv=>cD;obtain⟨i,l⟩:=q;dsimp only at b h1 h2 ⊢;refine Oi (fun hc=>?_) (fun _=>.mk b);simp only[fO3]at hc;rw[bO (n:=i-1) (by omega) (by omega)];refine Ob (nO (by omega) (by omega)) fun j e=>?_;refine Ob (qD (by omega)) fun x _=>?_;refine Ob (dZ (Q:=fun _=>True) (by omega) (by omega) (fun _ _ _=>trivial)) fun y _=>?_;refine Ob (nO (by omega) (by omega)) fun g d=>?_;exact Ob (Yr (by omega)) fun m f=>.mk ⟨hc,h2 hc,by dsimp only;omega⟩
def wT2 {c:YO} (b:c.sm):fX (qZ1 c d):=by
 unfold qZ1;refine Ob (kE2 b) fun⟨e,f⟩ a=>?_
 try dsimp only at a
 refine oJ (fun _=>?_);refine dT (wS2 a) fun g=>?_;exact cD
def kS2 {i:YK} {k:YZ} (c:i.s'.sm):fX (jE1 i k):=by
 unfold jE1;refine Ob (wR2 c) fun⟨p,f⟩ hp=>?_;dsimp only at hp;refine Oi (fun _=>cD) (fun hc=>?_);simp only[fW3,iH3,fX3,Bool.not_eq_false,bne_iff_ne,ne_eq,Decidable.not_not]at hc;obtain⟨h0,x,y,z,d,hy,g⟩:=hp hc.1 hc.2;simp only[d,hy,g,fD3];have h:=c.cH x (jW d).2.2.1;have j:=(h.gK y (jW hy).2.2.1).fI z (jW g).2.2.1;refine Ob (T90 h) fun⟨a,b⟩ _=>?_;refine Ob (wT2 j) fun⟨on,e⟩ _=>?_;refine Oi (fun _=>cD) (fun hd=>?_);simp only[fO3]at hd;exact Ob (dZ (Q:=fun _=>True) h0 (by dsimp only at hd ⊢;omega) (fun _ _ _=>trivial)) fun w _=>cD
def sT1:fX (Vi a b):=by
 unfold Vi;exact cD
def kT2 {g:YQ}:fX (jF1 g):=by
 unfold jF1;refine dT (sT1) fun h=>?_;refine oM (fun _=>?_) fun j a=>?_;refine dT (sT1) fun i=>?_;exact cD;refine oM (fun c1222=>?_) fun l b=>?_;have e:=a c1222;refine dT (sT1) fun k=>?_;exact cD;refine oM (fun c1226=>?_) fun n d=>?_;have c:=b c1226;have f:=a c;refine dT (sT1) fun m=>?_;exact cD;exact cD
def kU2:fX (jG1 a):=by
 unfold jG1;exact cD
def kV2:fX (jH1 a):=by
 unfold jH1;exact cD
def kW2:fX (jI1 a b):=by
 unfold jI1;refine dT (kV2) fun c=>?_;refine dT (kV2) fun d=>?_;refine Oi (fun c1232=>?_) (fun c1232=>?_);refine oJ (fun _=>?_);exact cD;refine oJ (fun _=>?_);refine oJ (fun _=>?_);refine oJ (fun _=>?_);exact cD
def wU2 {j:aA Int} (h:j.length<=20):fX (rA1 j):=by
 unfold rA1 dM;have f:=h;refine vG (l:=j) (fun q=>q) (fun i g m e d b a c=>?_) fun k=>?_;simp only[b,a,nt];refine oJ (fun _=>?_);exact .mk c;rcases k with n|_;exact cD;exact cD
def Vo {a b:YQ}:fX (Hz a b):=by
 unfold Hz;refine dT (kW2) fun c=>?_;refine dT (kW2) fun d=>?_;refine dT (wU2 (by simp)) fun e=>?_;exact cD
def wV2 {e:YS}:fX (rB1 e):=by
 unfold rB1;refine oJ (fun _=>?_);refine dT (kT2) fun f=>?_;refine oN (fun _=>?_) fun h a=>?_;refine dT (kT2) fun g=>?_;exact cD;refine oJ (fun c1257=>?_);have c:=a c1257;refine oN (fun _=>?_) fun j b=>?_;refine dT (kU2) fun i=>?_;exact cD;refine oJ (fun c1262=>?_);have d:=b c1262;refine dT (Vo) fun k=>?_;refine oJ (fun _=>?_);exact cD
def vT1 {h:aA YV} {d:Y0} (j:h.length+0<=1000000) (c:d.sm):Ok (Sf h d k) (fun v=>v.1.length=d.bT.length/\v.2.length=d.bT.length):=by
 unfold Sf dM;have o:=c.bT;refine Ob (P:=fun v=>v.1.length=d.bT.length/\v.2.length=d.bT.length) (dP (l:=d.bT) (fun q=>q.1) (fun i q=>q.2.1.length=i/\q.2.2.length=i) (by omega) rfl ⟨rfl,rfl⟩ (fun i e q r p hi hl f hg hw=>?_) (fun q hi f=>?_)) fun⟨a,b⟩ hv=>.mk hv;obtain⟨x,bs,g⟩:=q;dsimp only at hi hl f hg hw;simp only[hl,hg,nt];refine Ob (kS2 c) fun⟨p1,m⟩ _=>?_;refine Ob (kS2 c) fun⟨p2,n⟩ _=>?_;refine Ob (jV (Q:=fun v=>v.length=g.length+1) (by omega) (by simp)) fun s h1=>?_;refine Ob (P:=fun _=>True) (Oi (fun _=>cD) (fun _=>Ob wV2 fun _ _=>cD)) fun b _=>?_;exact Ob (jV (Q:=fun v=>v.length=bs.length+1) (by omega) (by simp)) fun t h2=>.mk ⟨hw,by dsimp only;omega,by dsimp only;omega⟩;obtain⟨x,bs,g⟩:=q;dsimp only at hi f;simp only[hi,nf];exact .mk f
def kX2 {c:aA YV} {h:Y0} (k:c.length+10<=1000000) (d:h.sm):Ok (jK1 c h n) (fun v=>c.length<=v.length/\v.length<=c.length+10):=by
 unfold jK1 dM;have o:=d.bT;refine Ob (vT1 (by omega) d) fun⟨a,b⟩ g=>?_;dsimp only at g;refine Ob (P:=fun v=>c.length<=v.length/\v.length<=c.length+10) (dP (l:=h.bT) (fun q=>q.1) (fun i q=>c.length<=q.2.length/\q.2.length<=c.length+i) (by omega) rfl (by dsimp only;omega) (fun i e q r p hi hl f hg hw=>?_) (fun q hi f=>?_)) fun v hv=>.mk (by omega);obtain⟨x,l⟩:=q;dsimp only at hi hl f hg hw;simp only[hl,hg,nt];refine Ob (nO (by omega) (by omega)) fun j m=>?_;refine Ob (qD m.2) fun y _=>?_;exact Ob (pW (by omega) d) fun v hv=>.mk ⟨hw,by dsimp only;omega⟩;obtain⟨x,l⟩:=q;dsimp only at hi f;simp only[hi,nf];exact .mk (by omega)
def zX1:Ok (cQ1 b) (fun v=>v>0->1<=b/\b<=7):=by
 unfold cQ1;refine Oi (fun c1266=>.mk (by omega)) (fun c1266=>?_);refine Ob (dZ (Q:=fun _=>True) (by(simp only[nm]at *;rw[bO (by omega) (by omega)];omega)) (by(simp only[nm,nl]at *;rw[bO (by omega) (by omega)];omega)) (fun _ _ _=>trivial)) fun c a=>?_;exact .mk (by(simp only[nm]at *;omega))
def wW2 {a c:YS}:Ok (rC1 a c) (fun v=>v=true->1<=a.dH/\a.dH<=7):=by
 unfold rC1;refine Ob zX1 fun f hf=>?_;refine Ob (P:=fun r=>r=true->1<=a.dH/\a.dH<=7) (Oi (fun hc=>?_) (fun _=>.mk (fun h=>by cases h))) fun b hb=>?_;simp only[fO3]at hc;have:=hf hc;exact Ob zX1 fun _ _=>Ob zX1 fun _ _=>.mk (fun _=>this);refine Ob (P:=fun r=>r=true->1<=a.dH/\a.dH<=7) (Oi (fun hc=>?_) (fun _=>.mk (fun h=>by cases h))) fun b hb=>.mk hb;simp only[fF3]at hc;have:=hb hc.1;exact Ob kU2 fun _ _=>.mk (fun _=>this)
def wX2 {b c:YS}:fX (rD1 b c):=by
 unfold rD1;refine dT (Vo) fun d=>?_;refine oN (fun _=>?_) fun f a=>?_;refine dT (Vo) fun e=>?_;exact cD;exact cD
def zY1 {a b:YS}:fX (cR1 a b):=by
 unfold cR1;refine dT (wX2) fun c=>?_;exact cD
def kY2 {b c:YS}:fX (jN1 b c):=by
 unfold jN1;refine dT (Vo) fun d=>?_;refine oN (fun _=>?_) fun f a=>?_;refine dT (Vo) fun e=>?_;exact cD;exact cD
def zZ1 {a b:YS}:fX (cS1 a b):=by
 unfold cS1;refine dT (kY2) fun c=>?_;exact cD
def kZ2 {b c:YS}:fX (jP1 b c):=by
 unfold jP1;refine dT (Vo) fun d=>?_;refine oM (fun _=>?_) fun f a=>?_;refine dT (Vo) fun e=>?_;exact cD;exact cD
def wY2 {b c:YS}:fX (rE1 b c):=by
 unfold rE1;refine dT (kY2) fun d=>?_;refine oM (fun _=>?_) fun g a=>?_;refine dT (kZ2) fun e=>?_;refine dT (kZ2) fun f=>?_;exact cD;exact cD
def wZ2 {a f:YS}:fX (rF1 a f):=by
 unfold rF1;refine Ob wW2 fun g hg=>?_;refine Oi (fun _=>cD) (fun hc=>?_);have hk:=hg (by simpa using hc);rw[bO (n:=a.dH-1) (by omega) (by omega)];refine Oi (fun _=>Ob zY1 fun _ _=>cD) (fun e=>?_);refine Oi (fun _=>Ob zZ1 fun _ _=>cD) (fun d=>?_);refine Oi (fun _=>Ob zY1 fun _ _=>cD) (fun c=>?_);refine Oi (fun _=>Ob zY1 fun _ _=>cD) (fun b=>?_);refine Oi (fun _=>Ob zZ1 fun _ _=>cD) (fun h2=>?_);refine Oi (fun _=>Ob zZ1 fun _ _=>cD) (fun h1=>?_);refine Oi (fun _=>Ob wY2 fun _ _=>cD) (fun h0=>?_);simp only[hX3]at h0 h1 h2 b c d e;omega
def lA2 {c:aA YV} {o:Y0} {s:Int} (p:c.length+10<=1000000) (d:o.sm):Ok (jQ1 c o s) (fun v=>c.length<=v.length/\v.length<=c.length+10):=by
 unfold jQ1 dM;have t:=d.bT;refine Ob (vT1 (by omega) d) fun⟨a,b⟩ m=>?_;dsimp only at m;refine Ob (P:=fun v=>c.length<=v.length/\v.length<=c.length+10) (dP (l:=o.bT) (fun q=>q.1) (fun i q=>c.length<=q.2.length/\q.2.length<=c.length+i) (by omega) rfl (by dsimp only;omega) (fun i e q w u hi hl g hg hw=>?_) (fun q hi g=>?_)) fun v hv=>.mk (by omega);obtain⟨x,l⟩:=q;dsimp only at hi hl g hg hw;simp only[hl,hg,nt];refine Ob (P:=fun _=>True) (nP (fun q=>q.2) x (fun _=>True) (by omega) (by dsimp only;omega) trivial (fun q _ h1 h2=>?_)) fun b _=>?_;obtain⟨ex,k⟩:=q;dsimp only at h1 h2 ⊢;refine Ob (P:=fun r=>r=true->k<x) (Oi (fun hc=>?_) (fun _=>.mk (fun h=>by cases h))) fun b hb=>?_;simp only[fO3]at hc;exact Ob (nO (by omega) (by omega)) fun j f=>Ob (qD f.2) fun y _=>.mk (fun _=>hc);refine Oi (fun hc=>?_) (fun _=>cD);simp only[fF3]at hc;have hk:=hb hc.1;refine Ob (nO (by omega) (by omega)) fun j f=>Ob (qD f.2) fun y _=>?_;refine Ob (P:=fun _=>True) (Oi (fun _=>?_) (fun _=>cD)) fun b _=>.mk ⟨hk,h2 hk,trivial⟩;exact Ob (nO (by omega) (by omega)) fun j f=>Ob (qD f.2) fun A _=>Ob (nO (by omega) (by omega)) fun z n=>Ob (qD n.2) fun B _=>Ob wZ2 fun b _=>cD;exact Ob (pW (by omega) d) fun v hv=>.mk ⟨hw,by dsimp only;omega⟩;obtain⟨x,l⟩:=q;dsimp only at hi g;simp only[hi,nf];exact .mk (by omega)
def xA2 {a:YM} (c:a.sm):Ok (rG1 d a) (fun v=>v=false->a.bN<=8):=by
 unfold rG1;simp only[yY1,fD3];refine Ob (P:=fun r=>r=false->a.bN<=8) (Oi (fun hc=>.mk (fun h=>?_)) (fun hc=>.mk (fun _=>?_))) fun b hb=>?_;simp at h;omega;simp at hc;omega;exact Ob (P:=fun r=>r=false->a.bN<=8) (Oi (fun hc=>.mk (fun h=>by cases h)) (fun hc=>.mk (fun _=>hb (by simpa using hc)))) fun b hb=>.mk hb
def aA2 {a:aA YV} {d:Y0} {s:Int} (p:a.length+12<=1000000) (f:d.sm):Ok (Nb a d s) (fun v=>(a.length<=v.length/\v.length<=a.length+12)/\(v.length<=a.length->∀m∈d.aF,m.bN<=8)):=by
 unfold Nb dM;have t:=f.aF;refine Ob (P:=fun v=>(a.length<=v.length/\v.length<=a.length+12)/\(v.length<=a.length->∀m∈d.aF,m.bN<=8)) (dP (l:=d.aF) (fun q=>q.1) (fun i q=>q.2.length<=a.length+i/\a.length<=q.2.length/\(q.2.length<=a.length->∀j,j<i->∀m,d.aF[j]? =some m->m.bN<=8)) (by omega) rfl ⟨by dsimp only;omega,fI3 _,fun _ j k=>by omega⟩ (fun i e q r o hi hl g hg hw=>?_) (fun q hi g=>?_)) fun v hv=>.mk hv;obtain⟨x,l⟩:=q;dsimp only at hi hl g hg hw;simp only[hl,hg,nt];refine Ob (xA2 (f.cH e o)) fun b hb=>?_;refine Ob (Nl (by omega)) fun v hv=>.mk ⟨hw,?_,?_,fun h j k m c=>?_⟩;dsimp only;cases b<;>simp at hv<;>omega;dsimp only;cases b<;>simp at hv<;>omega;dsimp only at h;cases b with
 |true=>simp at hv;omega
 |false=>
  simp only[fR3,false_implies,forall_const,true_and]at hv;by_cases n:j=i;subst n;rw[r]at c;cases c;exact hb rfl;exact g.2.2 (by omega) j (by omega) m c
 obtain⟨x,l⟩:=q;dsimp only at hi g;simp only[hi,nf];refine .mk ⟨⟨by omega,by omega⟩,fun h m o=>?_⟩;obtain⟨j,k⟩:=fQ3.1 o;exact g.2.2 h j (fE3.1 k).1 m k
def xB2:Ok (rI1 e) (fun v=>0<=v/\v<=1000):=by
 unfold rI1;refine Ob (P:=fun v=>0<=v.2/\v.2<=32) (Oi (fun _=>Ob (zA (by decide)) fun n _=>.mk (by dsimp only;omega)) (fun _=>.mk (by dsimp only;omega))) fun⟨h,i⟩ c=>?_;dsimp only at c;refine Ob (P:=fun v=>0<=v.2/\v.2<=48) (Oi (fun _=>Ob (zA (by decide)) fun n _=>.mk (by dsimp only;rw[bO (by omega) (by omega)];omega)) (fun _=>.mk (by dsimp only;omega))) fun⟨j,k⟩ d=>?_;dsimp only at d;refine Ob (P:=fun v=>0<=v.2/\v.2<=56) (Oi (fun _=>Ob (zA (by decide)) fun n _=>.mk (by dsimp only;rw[bO (by omega) (by omega)];omega)) (fun _=>.mk (by dsimp only;omega))) fun⟨g,f⟩ a=>?_;dsimp only at a;have hw:=jL2 g;refine Ob (Bb hw.1 hw.2) fun b hb=>.mk ?_;rw[bO (n:=b) (by omega) (by omega),bO (by omega) (by omega)];omega
def kM1:Ok (Sg b) (fun v=>0<=v/\v<=1000):=by
 unfold Sg;refine Ob (xB2) fun c a=>?_;exact .mk (by omega)
def cX1 {c:YG} (d:c.passes<=1000):fX (Nc c):=by
 unfold Nc;refine oM (fun _=>?_) fun f a=>?_;refine Ob (Yq (by(simp only[nm]at *;rw[bO (by omega) (by omega)];omega))) fun e b=>?_;exact cD;exact cD
def xC2 {q:YG} {p:YM} (r:p.sm) (B:q.passes<=8) (hy:p.bN<=8):Ok (rJ1 q p) (fun v=>v.1.passes<=8):=by
 unfold rJ1;refine Oi (fun c1291=>.mk (by omega)) (fun c1291=>?_);refine Oi (fun c1292=>?_) (fun c1292=>?_);refine Oi (fun c1293=>.mk (by omega)) (fun c1293=>?_);refine Ob (kM1) fun C e=>?_;refine Oi (fun c1295=>?_) (fun c1295=>?_);refine Oi (fun c1296=>.mk (by omega)) (fun c1296=>?_);refine Oi (fun c1297=>?_) (fun c1297=>?_);refine dT (cX1 (by(simp only[nm]at *;omega))) fun D=>?_;refine oN (fun _=>?_) fun F a=>?_;refine Ob (kM1) fun E f=>?_;exact cD;refine Oi (fun c1302=>.mk (by omega)) (fun c1302=>?_);have l:=a c1302;exact .mk (by omega);exact .mk (by omega);refine oN (fun _=>?_) fun t b=>?_;refine oM (fun _=>?_) fun s g=>?_;refine dT (cX1 (by(simp only[nm]at *;omega))) fun G=>?_;refine oN (fun _=>?_) fun J h=>?_;refine Ob (Yq (by(simp(disch:=omega) only[bO,nm]at *;omega))) fun H i=>?_;exact cD;exact cD;exact cD;refine Oi (fun c1312=>.mk (by omega)) (fun c1312=>?_);have m:=b c1312;refine Oi (fun c1314=>?_) (fun c1314=>?_);refine dT (cX1 (by(simp only[nm]at *;omega))) fun u=>?_;refine oN (fun _=>?_) fun x c=>?_;refine Ob (kM1) fun w j=>?_;exact cD;refine Oi (fun c1319=>.mk (by omega)) (fun c1319=>?_);have n:=c c1319;exact .mk (by omega);exact .mk (by omega);refine Oi (fun c1321=>.mk (by omega)) (fun c1321=>?_);refine Oi (fun c1322=>?_) (fun c1322=>?_);refine dT (cX1 (by omega)) fun y=>?_;refine oN (fun _=>?_) fun A d=>?_;refine Ob (kM1) fun z k=>?_;exact cD;refine Oi (fun c1327=>.mk (by omega)) (fun c1327=>?_);have o:=d c1327;exact .mk (by omega);exact .mk (by omega)
def xD2 {i:YG} {e:YM} (d:e.sm) (c:i.passes<=8) (hy:e.bN<=8):Ok (rK1 i e) (fun v=>v.1.passes<=8):=by
 unfold rK1;refine Oi (fun _=>Ob (xC2 d c hy) fun⟨a,b⟩ h=>.mk h) (fun _=>?_);refine Oi (fun _=>?_) (fun _=>?_);refine Ob (cX1 (by omega)) fun f _=>?_;refine Oi (fun _=>.mk c) (fun _=>?_);refine Oi (fun _=>Oi (fun h=>by cases h) (fun _=>?_)) (fun _=>?_);exact Ob (P:=fun _=>True) (Oi (fun _=>cD) (fun _=>cD)) fun⟨a,b⟩ _=>.mk (show(0:Int)<=8 by decide);exact Ob (P:=fun _=>True) (Oi (fun _=>cD) (fun _=>cD)) fun a _=>.mk (show(0:Int)<=8 by decide);refine Oi (fun _=>Oi (fun _=>.mk c) (fun _=>?_)) (fun _=>?_);exact Ob (P:=fun _=>True) (Oi (fun _=>cD) (fun _=>cD)) fun⟨a,b⟩ _=>.mk (show(0:Int)<=8 by decide);exact Ob (P:=fun g=>g.passes<=8) (Oi (fun _=>.mk (show(0:Int)<=8 by decide)) (fun _=>.mk c)) fun g hg=>.mk hg
def lB2 {f:aA YV} {h:Y0} (n:f.length+25<=1000000) (c:h.sm) (t:0<h.aF.length):Ok (jR1 f h u) (fun v=>f.length<=v.length/\v.length<=f.length+25):=by
 unfold jR1 dM;have w:=c.aF;refine Ob (aA2 (by omega) c) fun m j=>?_;refine Oi (fun _=>.mk (by omega)) (fun hc=>?_);simp only[fO3]at hc;have s:=j.2 (by omega);have o:=j.1;refine Ob (P:=fun r=>match r with|.inl p=>m.length<=p.2.length/\p.2.length<=m.length+1|.inr g=>g.passes<=8) (dP (l:=h.aF) (fun q=>q.1) (fun i q=>q.2.passes<=8) (by omega) rfl (show(0:Int)<=8 by decide) (fun i e q t k hi hl d hg hw=>?_) (fun q hi d=>?_)) fun r hr=>?_;obtain⟨x,g⟩:=q;dsimp only at hi hl d hg hw;simp only[hl,hg,nt];refine Ob (xD2 (c.cH e k) d (s e k)) fun⟨g2,b⟩ hb=>?_;refine Oi (fun _=>?_) (fun _=>.mk ⟨hw,hb⟩);exact Ob (pW (by omega) c) fun v hv=>.mk (by dsimp only;omega);obtain⟨x,g⟩:=q;dsimp only at hi d;simp only[hi,nf];exact .mk d;rcases r with⟨a,v⟩|g;exact .mk (by dsimp only at hr;omega);dsimp only at hr;refine Ob (P:=fun _=>True) (Oi (fun _=>cD) (fun _=>?_)) fun b _=>?_;exact Ob (P:=fun _=>True) (Oi (fun _=>Ob (cX1 (by omega)) fun _ _=>cD) (fun _=>cD)) fun _ _=>cD;refine Ob (dZ (Q:=fun _=>True) (by rw[bO (by omega) (by omega)];omega) (by rw[bO (by omega) (by omega)];omega) (fun _ _ _=>trivial)) fun y _=>?_;exact Ob (pW (by omega) c) fun v hv=>.mk (by omega)
def xE2 {a b:YM} (c:a.sm) (d:b.sm):fX (rL1 a b):=by
 unfold rL1;exact cD
def xF2 {i:aA YM} (k:i.length<=12) (f:∀y∈i,y.sm) (m:o.sm):fX (rM1 i o):=by
 unfold rM1 dM;have h:=k;refine vG (l:=i) (fun q=>q) (fun n j r c g b a d=>?_) fun p=>?_;simp only[b,a,nt];have e:=f _ c;refine dT (xE2 e m) fun s=>?_;refine oJ (fun _=>?_);exact .mk d;rcases p with t|_;exact cD;exact cD
def xG2 {d:aA YM} {e:YM} (b:d.length<=12) (a:∀y∈d,y.sm) (c:e.sm):fX (rN1 d e):=by
 unfold rN1;refine dT (xF2 b a c) fun f=>?_;exact cD
def xH2 {a:YM} (b:a.sm):fX (rO1 a c):=by
 unfold rO1;exact cD
def aB2 {i:aA YM} (k:i.length<=12) (f:∀y∈i,y.sm):fX (Nd i n):=by
 unfold Nd dM;have h:=k;refine vG (l:=i) (fun q=>q) (fun m j p c g b a d=>?_) fun o=>?_;simp only[b,a,nt];have e:=f _ c;refine dT (xH2 e) fun r=>?_;refine oJ (fun _=>?_);exact .mk d;rcases o with s|_;exact cD;exact cD
def aC2 {b:YK} (a:b.s'.sm):fX (cT1 b c):=by
 unfold cT1;refine dT (aB2 a.aF a.cH) fun d=>?_;exact cD
def aD2 {b:YK} (a:b.s'.sm):fX (cU1 c b d):=by
 unfold cU1;refine dT (aC2 a) fun e=>?_;refine dT (Sj) fun f=>?_;exact cD
def xI2 {e:YK} (a:e.s'.sm):fX (rQ1 e i j):=by
 unfold rQ1;refine oM (fun _=>?_) fun l b=>?_;refine dT (aD2 a) fun k=>?_;exact cD;refine Oi (fun c1364=>?_) (fun c1364=>?_);have d:=b c1364;exact cD;refine dT ?_ fun m=>?_;refine oJ (fun _=>?_);exact cD;refine Oi (fun c1368=>?_) (fun c1368=>?_);refine dT (aD2 a) fun n=>?_;exact cD;refine dT ?_ fun o=>?_;refine oJ (fun _=>?_);exact cD;refine Oi (fun c1372=>?_) (fun c1372=>?_);refine dT (aD2 a) fun p=>?_;refine oM (fun _=>?_) fun h c=>?_;refine dT (aC2 a) fun f=>?_;refine dT (aC2 a) fun g=>?_;exact cD;exact cD;exact cD
def xJ2 {h:YM} {f:YK} (d:h.sm) (a:f.s'.sm) (g:0<=e/\e<=(f.s'.aF.length:Int)):fX (rR1 e h f):=by
 unfold rR1;refine Ob Sj fun w _=>?_;refine Ob (P:=fun _=>True) (Oi (fun _=>cD) (fun _=>Ob Sj fun _ _=>cD)) fun b _=>?_;refine Oi (fun _=>cD) (fun _=>?_);refine Ob (Kg (by decide) g.1 g.2) fun l hl=>?_;refine Ob (xG2 (gH3 hl.1 a.aF) (fun y hy=>a.cH y (hl.2 y hy)) d) fun c _=>?_;exact Ob (P:=fun _=>True) (Oi (fun _=>cD) (fun _=>Ob (xI2 a) fun _ _=>cD)) fun b _=>cD
def aE2 {i:aA YV} {o:Y0} (q:i.length+12<=1000000) (d:o.sm):Ok (Nf i o u) (fun v=>i.length<=v.length/\v.length<=i.length+12):=by
 unfold Nf dM;have j:=d.aF;refine oh o.aF i 12 1 (fun n l q1389 k g f b e a c=>?_) fun t p=>?_;obtain⟨w,x⟩:=q1389;dsimp only at f b a c e;simp only[b,a,nt];have h:=d.cH _ g;refine dT (xJ2 h d (by(simp only[nm]at *;omega))) fun r=>?_;refine Ob (pW (by first|omega|(simp only[fV3]at *;omega)) d) fun s m=>?_;exact .mk ⟨c,by dsimp only;omega⟩;exact .mk (by omega)
def lC2 {a:aA YV} {d:Y0} (e:a.length+12<=1000000) (c:d.sm):Ok (jU1 a d f) (fun v=>a.length<=v.length/\v.length<=a.length+12):=by
 unfold jU1;refine Ob (aE2 (by first|omega|(simp only[fV3]at *;omega)) c) fun g b=>?_;exact .mk (by omega)
def xK2 {z:Int} (g:o.sm):fX (rT1 z o):=by
 unfold rT1 dM;refine dT (T90 g) fun⟨L,M⟩=>?_;refine oM (fun _=>?_) fun O r=>?_;refine dT (Sj) fun N=>?_;exact cD;refine oN (fun _=>?_) fun S s=>?_;refine dT (Sj) fun R=>?_;exact cD;have m:=g.fR;refine vG (l:=o.fR) (fun q=>q.2) (fun v p q1412 j e b a c=>?_) fun K=>?_;obtain⟨A,B⟩:=q1412;dsimp only at e b a c;simp only[b,a,nt];refine oN (fun _=>?_) fun D d=>?_;refine dT (Sj) fun C=>?_;exact cD;refine oN (fun c1418=>?_) fun F f=>?_;have w:=d c1418;refine dT (Sj) fun E=>?_;exact cD;refine oN (fun c1422=>?_) fun J t=>?_;have i:=f c1422;have y:=d i;refine oM (fun _=>?_) fun H u=>?_;have n:=g.fR;refine Ob (P:=fun x=>x∈o.fR) (dZ (by(simp only[nm]at *;rw[bO (by omega) (by omega)];omega)) (by(simp only[nm]at *;rw[bO (by omega) (by omega)];omega)) (fun _ h _=>h)) fun G k=>?_;exact cD;exact cD;exact .mk c;exact cD
def aF2 {i:aA YV} {o:Y0} (q:i.length+12<=1000000) (g:o.sm):Ok (Ng i o u) (fun v=>i.length<=v.length/\v.length<=i.length+12):=by
 unfold Ng dM;have j:=g.aF;refine oh o.aF i 12 1 (fun n l q1441 k f e b d a c=>?_) fun t p=>?_;obtain⟨w,x⟩:=q1441;dsimp only at e b a c d;simp only[b,a,nt];have h:=g.cH _ f;refine dT (xK2 h) fun r=>?_;refine Ob (pW (by first|omega|(simp only[fV3]at *;omega)) g) fun s m=>?_;exact .mk ⟨c,by dsimp only;omega⟩;exact .mk (by omega)
def lD2 {a:aA YV} {d:Y0} (e:a.length+12<=1000000) (c:d.sm):Ok (jV1 a d f) (fun v=>a.length<=v.length/\v.length<=a.length+12):=by
 unfold jV1;refine Ob (aF2 (by first|omega|(simp only[fV3]at *;omega)) c) fun g b=>?_;exact .mk (by omega)
def xL2 {i:YP} {e:YE} {g:YK} (a:e.sm) (c:g.s'.sm):fX (rV1 i e g):=by
 unfold rV1;refine Ob (kN2 c) fun⟨q,f⟩ d=>?_;dsimp only at d;refine Ob (P:=fun r=>¬r=true->f=true) (Oi (fun _=>.mk (fun h=>absurd rfl h)) (fun hc=>Ob (kK2 a) fun t _=>.mk (fun _=>by simpa using hc))) fun b hb=>?_;refine Oi (fun _=>cD) (fun hc=>?_);simp only[fW3,iH3]at hc;have:=d (hb hc.1);exact Ob (dZ (Q:=fun _=>True) this.1 this.2.1 (fun _ _ _=>trivial)) fun x _=>Ob (dZ (Q:=fun _=>True) this.2.2.1 this.2.2.2 (fun _ _ _=>trivial)) fun y _=>cD
def aG2 (d8:H.length+3600<=1000000) (p:Y.sm):Ok (Nh H Y x3) (fun v=>H.length<=v.length/\v.length<=H.length+3600):=by
 unfold Nh dM;have J:=p.aF;refine oh Y.aF H 3600 300 (fun U D q1458 N z u e q a i=>?_) fun d7 b5=>?_;obtain⟨d9,Z⟩:=q1458;dsimp only at u e a i q;simp only[e,a,nt];have m:=p.cH _ z;have K:=m.aO;refine oh D.aO Z 300 60 (fun V E q1472 O A w f r b j=>?_) fun d6 b6=>?_;obtain⟨e0,b0⟩:=q1472;dsimp only at w f b j r;simp only[f,a,b,nt];have n:=m.gK _ A;have L:=n.aT;refine oh E.aT b0 60 20 (fun W F q1486 P B x g s c k=>?_) fun d5 b7=>?_;obtain⟨e1,b4⟩:=q1486;dsimp only at x g c k s;simp only[g,a,b,c,nt];have o:=n.fI _ B;have M:=o.aW;refine oh F.aW b4 20 1 (fun X S q1500 R C y h t d l=>?_) fun d4 b8=>?_;obtain⟨b9,d0⟩:=q1500;dsimp only at y h d l t;simp only[h,a,b,c,d,nt];have G:=o.fP _ C;refine dT (xL2 G p) fun d2=>?_;refine Ob (pW (by first|omega|(simp only[fV3]at *;omega)) p) fun d3 T=>?_;exact .mk ⟨l,by dsimp only;omega⟩;exact .mk ⟨k,by dsimp only;omega⟩;exact .mk ⟨j,by dsimp only;omega⟩;exact .mk ⟨i,by dsimp only;omega⟩;exact .mk (by omega)
def lE2 {a:aA YV} {d:Y0} (e:a.length+3600<=1000000) (c:d.sm):Ok (jW1 a d f) (fun v=>a.length<=v.length/\v.length<=a.length+3600):=by
 unfold jW1;refine Ob (aG2 (by first|omega|(simp only[fV3]at *;omega)) c) fun g b=>?_;exact .mk (by omega)
def uG {c1 c2:Bool} {R:aB (aA YV)} (c:Ok R fun _=>True):Ok ((if decide ((x.length:Int)>0)=true then(if c1=true then some true else(if c2=true then(eE x 0).bind fun a=>(dX x a).bind fun v=>some (decide (v.kW<10))else some false:aB Bool).bind fun y=>some y:aB Bool).bind fun z=>some z else some false:aB Bool).bind fun b=>if b=true then some x else R) fun _=>True:=by
 have k:∀D:aB Bool,(∃b,D=some b)->Ok (D.bind fun b=>if b=true then some x else R) fun _=>True:=fun D h=>by
  obtain⟨b,rfl⟩:=h;cases b with
  |true=>exact cD
  |false=>exact c
 refine k _ ?_;cases x with
 |nil=>exact⟨_,rfl⟩
 |cons v r=>
  have e:eE (v::r) 0=some 0:=by
   unfold eE qX;rw[fJ3 ⟨by decide,by simp⟩];rfl
  rw[fJ3 (by simp),e];cases c1<;>cases c2<;>exact⟨_,rfl⟩
def T22 {b:Y0} (a:b.sm) (c:0<b.aF.length):fX (F22 b):=by
 unfold F22;refine uG (Ob (jN2 (by simp only[nl]at *;omega) a) fun _ _=>?_);refine uG (Ob (jQ2 (by simp only[nl]at *;omega) a) fun _ _=>?_);refine uG (Ob (jR2 (by simp only[nl]at *;omega) a) fun _ _=>?_);refine uG (Ob (jS2 (by simp only[nl]at *;omega) a) fun _ _=>?_);refine uG (Ob (jT2 (by simp only[nl]at *;omega) a) fun _ _=>?_);refine uG (Ob (kG2 (by simp only[nl]at *;omega) a) fun _ _=>?_);refine uG (Ob (kH2 (by simp only[nl]at *;omega) a) fun _ _=>?_);refine uG (Ob (kI2 (by simp only[nl]at *;omega) a) fun _ _=>?_);refine uG (Ob (kJ2 (by simp only[nl]at *;omega) a) fun _ _=>?_);refine uG (Ob (kP2 (by simp only[nl]at *;omega) a) fun _ _=>?_);refine uG (Ob (kR2 (by simp only[nl]at *;omega) a) fun _ _=>?_);refine uG (Ob (kX2 (by simp only[nl]at *;omega) a) fun _ _=>?_);refine uG (Ob (lA2 (by simp only[nl]at *;omega) a) fun _ _=>?_);refine uG (Ob (lB2 (by simp only[nl]at *;omega) a c) fun _ _=>?_);refine uG (Ob (lC2 (by simp only[nl]at *;omega) a) fun _ _=>?_);refine uG (Ob (lD2 (by simp only[nl]at *;omega) a) fun _ _=>?_);refine uG (Ob (lE2 (by simp only[nl]at *;omega) a) fun _ _=>?_);exact cD
def T8 {c:Y0} (a:c.sm):fX (F8 c):=by
 unfold F8;refine Ob (P:=fun _=>True) ?_ fun v _=>cD;by_cases h0:0<c.aF.length;exact(T22 a h0).mono fun _ _=>trivial;unfold F22;refine Ob (P:=fun r=>r=false) (Oi (fun h=>by simp at h) (fun _=>.mk rfl)) fun b hb=>?_;subst hb;refine Oi (fun h=>by cases h) (fun _=>?_);refine Ob (jM2 a (by omega) (by decide)) fun v hv=>?_;refine Ob (P:=fun r=>r=true) (Oi (fun h=>Ob (P:=fun r=>r=true) (Oi (fun _=>.mk rfl) (fun h=>absurd rfl h)) fun b hb=>.mk hb) (fun h=>by simp at h;simp[h]at hv)) fun b hb=>?_;subst hb;exact Oi (fun _=>cD) (fun h=>absurd rfl h)
end Go.P
set_option maxHeartbeats 1000000
namespace Go.P
variable {A V α β:Type}
def sU1 {x:aB α} {a:α} {K:α->aB β} {r:aB β} (h:x=some a) (hk:K a=r):x.bind K=r:=by subst h;exact hk
def Ok.eq {x:aB α} {a:α} (h:Ok x (fun v=>v=a)):x=some a:=by
 obtain⟨v,h1,rfl⟩:=h;exact h1
def sV1 {l:aA A} {g:A->aB Bool} (p:A->Bool) (hl:l.length<9223372036854775808) (hg:∀x∈l,g x=some (p x)):((Nk l g).bind fun v=>some (decide (v>=0)))=some (l.any p):=by
 obtain⟨v,h1,h2⟩:=Yp hl (fun x a=>⟨_,hg x a⟩);rw[h1,fD3];rcases h2 with⟨rfl,h⟩|⟨h0,_,x,a,hp⟩
 have:l.any p=false:=by
  rw[List.any_eq_false];intro x a;have:=h x a;rw[hg x a]at this;rw[gC3 this];exact Bool.false_ne_true
 rw[this];rfl;have b:=fL3 a;rw[hg x b]at hp;have:l.any p=true:=List.any_eq_true.2 ⟨x,b,gC3 hp⟩;rw[this,gP3 (show v>=0 from h0)]
section
variable {K:Type} [DecidableEq K]
end
end Go.P
namespace Go.P
variable {A B:Type}
variable {s:Y0}
def uH {x v:aA YV} {D:aB Bool} {R:aB (aA YV)} (h:((if decide ((x.length:Int)>0)then D else some false).bind fun b=>if b then some x else R)=some v) (h0:v.length=0):R=some v:=by
 by_cases a:((x.length:Int)>0);rw[fJ3 (by simpa using a)]at h;cases D with
 |none=>cases h
 |some b=>
  cases b with
  |true=>simp at h;subst h;omega
  |false=>exact h
 rw[fM3 (by simpa using a)]at h;exact h
def dW {x:aB A} {k:A->aB B} {v:B} (h:x.bind k=some v):∃a,x=some a/\k a=some v:=fC3.1 h
def uI {l:aA A} (h:l.length=0):l=[]:=hO3 h
structure vU1 (s:Y0):Prop where
 r1:Me [] s 1=some []
 r2:iD1 [] s 2=some []
 r3:cD1 [] s 3=some []
 r4:iE1 [] s 4=some []
 r5:iF1 [] s 5=some []
 r6:iR1 [] s 6=some []
 r7:iS1 [] s 7=some []
 r8:cL1 [] s 8=some []
 r9:cO1 [] s 9=some []
 r10:jA1 [] s 10=some []
 r11:jB1 [] s 11=some []
 r12:jK1 [] s 12=some []
 r13:jQ1 [] s 13=some []
 r14:jR1 [] s 14=some []
 r15:jU1 [] s 15=some []
 r16:jV1 [] s 16=some []
 r17:jW1 [] s 17=some []
def sW1 (hs:s.sm) (A:0<s.aF.length) {v:aA YV} (h:F22 s=some v) (h0:v.length=0):vU1 s:=by
 unfold F22 at h;have h:=uH h h0;obtain⟨J,q,h⟩:=dW h;have U:=(jN2 (by decide) hs).of q;have h:=uH h h0;obtain⟨L,e2,h⟩:=dW h;have V:=(jQ2 (by simp only[nl]at *;omega) hs).of e2;have h:=uH h h0;obtain⟨M,r,h⟩:=dW h;have W:=(jR2 (by simp only[nl]at *;omega) hs).of r;have h:=uH h h0;obtain⟨N,t,h⟩:=dW h;have X:=(jS2 (by simp only[nl]at *;omega) hs).of t;have h:=uH h h0;obtain⟨O,u,h⟩:=dW h;have Y:=(jT2 (by simp only[nl]at *;omega) hs).of u;have h:=uH h h0;obtain⟨P,w,h⟩:=dW h;have Z:=(kG2 (by simp only[nl]at *;omega) hs).of w;have h:=uH h h0;obtain⟨R,x,h⟩:=dW h;have i7:=(kH2 (by simp only[nl]at *;omega) hs).of x;have h:=uH h h0;obtain⟨S,y,h⟩:=dW h;have i8:=(kI2 (by simp only[nl]at *;omega) hs).of y;have h:=uH h h0;obtain⟨T,z,h⟩:=dW h;have i9:=(kJ2 (by simp only[nl]at *;omega) hs).of z;have h:=uH h h0;obtain⟨j,a,h⟩:=dW h;have B:=(kP2 (by simp only[nl]at *;omega) hs).of a;have h:=uH h h0;obtain⟨k,b,h⟩:=dW h;have C:=(kR2 (by simp only[nl]at *;omega) hs).of b;have h:=uH h h0;obtain⟨l,c,h⟩:=dW h;have D:=(kX2 (by simp only[nl]at *;omega) hs).of c;have h:=uH h h0;obtain⟨m,d,h⟩:=dW h;have E:=(lA2 (by simp only[nl]at *;omega) hs).of d;have h:=uH h h0;obtain⟨n,e,h⟩:=dW h;have F:=(lB2 (by simp only[nl]at *;omega) hs A).of e;have h:=uH h h0;obtain⟨o,f,h⟩:=dW h;have G:=(lC2 (by simp only[nl]at *;omega) hs).of f;have h:=uH h h0;obtain⟨p,g,h⟩:=dW h;have i16:=(lD2 (by simp only[nl]at *;omega) hs).of g;have h:=uH h h0;obtain⟨K,i,h⟩:=dW h;have H:=(lE2 (by simp only[nl]at *;omega) hs).of i;cases h;have z17:v=[]:=uI h0;have z16:p=[]:=uI (by simp only[nl]at *;omega);have z15:o=[]:=uI (by simp only[nl]at *;omega);have z14:n=[]:=uI (by simp only[nl]at *;omega);have z13:m=[]:=uI (by simp only[nl]at *;omega);have z12:l=[]:=uI (by simp only[nl]at *;omega);have z11:k=[]:=uI (by simp only[nl]at *;omega);have z10:j=[]:=uI (by simp only[nl]at *;omega);have z9:T=[]:=uI (by simp only[nl]at *;omega);have z8:S=[]:=uI (by simp only[nl]at *;omega);have z7:R=[]:=uI (by simp only[nl]at *;omega);have z6:P=[]:=uI (by simp only[nl]at *;omega);have z5:O=[]:=uI (by simp only[nl]at *;omega);have z4:N=[]:=uI (by simp only[nl]at *;omega);have z3:M=[]:=uI (by simp only[nl]at *;omega);have z2:L=[]:=uI (by simp only[nl]at *;omega);have z1:J=[]:=uI (by simp only[nl]at *;omega);subst z1 z2 z3 z4 z5 z6 z7 z8 z9 z10 z11 z12 z13 z14 z15 z16 z17;exact⟨q,e2,r,t,u,w,x,y,z,a,b,c,d,e,f,g,i⟩
def Gz (hs:s.sm) (a:0<s.aF.length) (hv:F8 s=some true):vU1 s:=by
 unfold F8 at hv;obtain⟨v,h,hv⟩:=dW hv;exact sW1 hs a h (by simp at hv;simp[hv])
end Go.P
namespace Go.P
variable {A E S V:Type} {s:Y0}
def cY1 {T:Type} {l:aA A} {body:S->aB (S⊕E)} {s0:S} {Q:E->Prop} (a:S->Int) (b:S->T) (f:T->A->T) (hl:l.length<9223372036854775808) (h0:a s0=0)
  (h:∀(i:Nat) (x:A) (q:S),l[i]? =some x->x∈l->a q=(i:Int)->a q<(l.length:Int)->b q=(l.take i).foldl f (b s0)->bU l (a q)=some x->bF (a q+1)=(i:Int)+1->Ok (body q) (fun r=>match r with|.inl q'=>a q'=(i:Int)+1/\b q'=f (b q) x|.inr e=>False))
  (d:∀q,a q=(l.length:Int)->b q=l.foldl f (b s0)->Ok (body q) (fun r=>match r with|.inl _=>False|.inr e=>Q e)):Ok (aS body bK s0) Q:=by
 refine dP (l:=l) a (fun i q=>b q=(l.take i).foldl f (b s0)) hl h0 (by simp) (fun i x q j k hi g c hg hw=>?_) (fun q hi c=>?_);refine(h i x q j k hi g c hg hw).mono fun r hr=>?_;cases r with
 |inl q'=>
  refine⟨hr.1,?_⟩;rw[hr.2,c,List.take_add_one,j];simp
 |inr e=>exact hr.elim
 rw[hC3]at c;exact(d q hi c).mono fun r hr=>by cases r<;>exact hr
def kL {l:aA A} {i:Nat} (h:i<l.length):bU l (i:Int)=some l[i]:=by
 unfold bU;rw[fJ3 (by omega),Int.toNat_natCast];exact fP3 h
def stv (s:Y0):Nat:=(s.aU.map fun p=>p.cO.length).sum
def Kh (l:aA YJ) (n:Int):l.foldl (fun t p=>t+(p.cO.length:Int)) n=n+(((l.map fun p=>p.cO.length).sum:Nat):Int):=by
 induction l generalizing n with
 |nil=>simp
 |cons p l ih=>rw[List.foldl_cons,ih];simp;omega
def aH2 {l:aA YJ} (h:∀p∈l,p.cO.length<=5):(l.map fun p=>p.cO.length).sum<=5*l.length:=by
 induction l with
 |nil=>simp
 |cons p l ih=>
  have h1:=h p (by simp);have h2:=ih (fun q a=>h q (by simp[a]));simp only[iA3,List.sum_cons,gR3];omega
def mN {xs:aA A} {body:Int×aA V->aB ((Int×aA V)⊕aA V)} {l:aA V} (K:Nat) (G:Nat->A->Prop) (g:xs.length<9223372036854775808)
  (h:∀(i:Nat) (x:A) (v:aA V),xs[i]? =some x->x∈xs->v.length<=l.length+K*i->i<xs.length->bU xs (i:Int)=some x->bF ((i:Int)+1)=(i:Int)+1->Ok (body ((i:Int),v)) (fun r=>match r with|.inl q=>q.1=(i:Int)+1/\v.length<=q.2.length/\q.2.length<=v.length+K/\(q.2.length<=v.length->G i x)|.inr _=>False))
  (b:∀v,body ((xs.length:Int),v)=some (.inr v)):Ok (aS body bK (0,l)) (fun v=>l.length<=v.length/\v.length<=l.length+K*xs.length/\(v.length<=l.length->∀i x,xs[i]? =some x->G i x)):=by
 refine dP (l:=xs) (fun q=>q.1) (fun i q=>l.length<=q.2.length/\q.2.length<=l.length+K*i/\(q.2.length<=l.length->∀j x,j<i->xs[j]? =some x->G j x)) g rfl ⟨fI3 _,Nat.le_add_right _ _,fun _ j x n=>by omega⟩ (fun i x q d o hi f a hg hw=>?_) (fun q hi a=>?_);obtain⟨k,v⟩:=q;dsimp only at hi f a hg hw;rw[hi]at hg hw ⊢;obtain⟨u,p,s⟩:=a;refine(h i x v d o p (by omega) hg hw).mono fun r hr=>?_;cases r with
 |inr _=>exact hr.elim
 |inl q=>
  obtain⟨h1,h2,t,m⟩:=hr;refine⟨h1,by omega,by rw[Nat.mul_succ];omega,fun c j y n hy=>?_⟩;by_cases e:j=i;subst e;rw[d]at hy;cases hy;exact m (by omega);exact s (by omega) j y (by omega) hy
 obtain⟨k,v⟩:=q;dsimp only at hi a;rw[hi,b];exact .mk ⟨a.1,a.2.1,fun c j x d=>a.2.2 c j x (fE3.1 d).1 d⟩
def sX1 (s:Y0) (P:Nat->Nat->Nat->Nat->YE->Prop):Prop:=∀(i j k n:Nat) m c v e,s.aF[i]? =some m->m.aO[j]? =some c->c.aT[k]? =some v->v.aW[n]? =some e->P i j k n e
def xM2 {l:aA YV} {r:Int} (h:l.length+3600<=1000000) (hs:s.sm):Ok (cK1 l s r) (fun v=>v.length<=l.length->sX1 s fun i j k n e=>F96 (YP.mk 4 0 j i k n 0) e=some false):=by
 unfold cK1 dM;have U:=hs.aF;refine Ob (mN (xs:=s.aF) (l:=l) 300 (fun i m=>∀(j k n:Nat) c v e,m.aO[j]? =some c->c.aT[k]? =some v->v.aW[n]? =some e->F96 (YP.mk 4 0 j i k n 0) e=some false) (by omega) (fun i m O W C G hi hg hw=>?_) (fun v=>by dsimp only;rw[fM3 (by simp)])) fun v hv=>.mk fun f i j k n m c v e a b o d=>hv.2.2 f i m a j k n c v e b o d;have S:=(hs.cH m C).aO;dsimp only;rw[fJ3 (by simp;omega),hg];simp only[fD3];refine Ob (mN (xs:=m.aO) (l:=O) 60 (fun j c=>∀(k n:Nat) v e,c.aT[k]? =some v->v.aW[n]? =some e->F96 (YP.mk 4 0 j i k n 0) e=some false) (by omega) (fun j c P L w H D p z=>?_) (fun v=>by dsimp only;rw[fM3 (by simp)])) fun v hv=>.mk ⟨hw,hv.1,by have:=hv.2.1;dsimp only;omega,fun f j k n c v e a b o=>hv.2.2 f j c a k n v e b o⟩;have hc:=(hs.cH m C).gK c w;have V:=hc.aT;dsimp only;rw[fJ3 (by simp;omega),p];simp only[fD3];refine Ob (mN (xs:=c.aT) (l:=P) 20 (fun k v=>∀(n:Nat) e,v.aW[n]? =some e->F96 (YP.mk 4 0 j i k n 0) e=some false) (by omega) (fun k v R M x J E q A=>?_) (fun v=>by dsimp only;rw[fM3 (by simp)])) fun v hv=>.mk ⟨z,hv.1,by have:=hv.2.1;dsimp only;omega,fun f k n v e a b=>hv.2.2 f k v a n e b⟩;have hv:=hc.fI v x;have T:=hv.aW;dsimp only;rw[fJ3 (by simp;omega),q];simp only[fD3];refine Ob (mN (xs:=v.aW) (l:=R) 1 (fun n e=>F96 (YP.mk 4 0 j i k n 0) e=some false) (by omega) (fun n e X N y K F t B=>?_) (fun v=>by dsimp only;rw[fM3 (by simp)])) fun u g=>.mk ⟨A,g.1,by have:=g.2.1;dsimp only;omega,fun f n e a=>g.2.2 f n e a⟩;dsimp only;rw[fJ3 (by simp;omega),t];simp only[fD3];refine Ok.bindE (T96 (hv.fP e y)) fun b hb _=>?_;refine Ob (Nl (by omega)) fun u g=>.mk ⟨B,?_,?_,fun f=>?_⟩;dsimp only;cases b<;>simp at g<;>omega;dsimp only;cases b<;>simp at g<;>omega;dsimp only at f;cases b with
 |true=>simp at g;omega
 |false=>exact hb
def evV (hs:s.sm) (g:0<s.aF.length) (hv:F8 s=some true):sX1 s fun _ _ _ _ e=>Ns e=some 0:=by
 have h:=(Gz hs g hv).r8;unfold cL1 at h;obtain⟨v,h1,h2⟩:=dW h;cases h2;intro i j k n m c v e a b f d;have h:=(xM2 (by simp) hs).of h1 (by simp) i j k n m c v e a b f d;unfold F96 at h;obtain⟨x,h1,h⟩:=dW h;have h:=gC3 h;rw[h1,show x=0 by simpa using h]
def cZ1 {l:aA YB} (h:Rw l []=some true):l=[]:=by
 unfold Rw dM at h;split at h;cases h;rename_i hc;exact List.length_eq_zero_iff.1 (by simpa using hc)
def dA1 {e:YE} (h:Ns e=some 0):e.dH=1\/e.cE=[]:=by
 by_cases hk:e.dH=1;exact .inl hk;right;unfold Ns at h;obtain⟨m,_,h⟩:=dW h;obtain⟨n,_,h⟩:=dW h;obtain⟨o,_,h⟩:=dW h;split at h;rename_i hc;cases h;simp at hc;obtain⟨k,g,h⟩:=dW h;split at h;cases h;rename_i c;have c:k=true:=by simpa using c
 subst c;obtain⟨p,a,h⟩:=dW h;obtain⟨l,b,h⟩:=dW h;split at h;cases h;rename_i d;have d:l=true:=by simpa using d
 subst d;unfold cF1 at a;rw[fM3 (by simpa using hk),g]at a;simp only[fD3,jA3,fR3,gT3]at a;obtain⟨q,_,a⟩:=dW a;obtain⟨r,_,a⟩:=dW a;cases a;unfold Ry at b;obtain⟨z4,f,b⟩:=dW b;obtain⟨z6,i,b⟩:=dW b;obtain⟨z8,j,b⟩:=dW b;cases b
 have q6:z6=true:=by
  cases z6 with
  |true=>rfl
  |false=>simp at j
 subst q6
 have q4:z4=true:=by
  cases z4 with
  |true=>rfl
  |false=>simp at i
 subst q4;split at f;obtain⟨w,w1,w2⟩:=dW f;cases w2;exact cZ1 w1;cases f
def Vp {l:aA Int} (hl:l.length<1000) (h:Gv l=some 0):∀x∈l,x=0:=by
 have:Ok (Gv l) (fun v=>v=0->∀x∈l,x=0):=by
  unfold Gv dM;refine Ob (P:=fun r=>match r with|.inl v=>v≠0|.inr _=>∀x∈l,x=0) (oT (l:=l) (fun x=>x=0) (by omega) (fun i x h0 h1 c hg hw=>?_) (fun i hi b=>?_)) fun r hr=>?_;simp only[h1,hg,hw,hB3,gF3,fD3];by_cases a:x=0;rw[fM3 (by simp[a])];exact .mk ⟨rfl,a⟩;rw[fJ3 (by simp[a])];exact .mk a;simp only[hi,nf];exact .mk b;cases r with
  |inl v=>exact .mk (fun h=>absurd h hr)
  |inr u=>exact .mk (fun _=>hr)
 exact this.of h rfl
def lG2 {h:YB} (hw:Vf h=some 0):qP h.cA=some 0:=by
 unfold Vf Hy at hw;obtain⟨⟨g,d⟩,h1,hw⟩:=dW hw;obtain⟨i,f,hw⟩:=dW hw;obtain⟨j,b,hw⟩:=dW hw;cases hw;have a:=Vp (by simp) b d (by simp);subst a;obtain⟨⟨k,e⟩,h2,h1⟩:=dW h1;dsimp only at h1;split at h1;simp at h1;rename_i hc;have hy:e=0:=by simp at hc;omega
 subst hy;unfold Hx at h2;obtain⟨z,c,h2⟩:=dW h2;split at h2;rename_i hc;simp at h2 hc;omega;rename_i hc;rw[c];simp at hc;rw[hc]
def aI2 {l:aA YB} (hl:l.length<1000) (h:cI1 l=some 0):l≠[]/\∀x∈l,qP x.cA=some 0:=by
 unfold cI1 dM at h;split at h;cases h;rename_i hc;split at h;cases h;obtain⟨r,h1,h⟩:=dW h;refine⟨fun h=>by rw[h]at hc;exact hc rfl,?_⟩
 have:Ok (aS (E:=Int⊕Unit) (fun(⟨p,f⟩:Int×Int)=>if decide (f<(l.length:Int))then(bU l f).bind fun j=>(Vf j).bind fun c=>if c !=0 then some (.inr (.inl c))else(Hy j.cA).bind fun⟨b,o⟩=>if decide (b<=p)then some (.inr (.inl 25))else some (.inl (b,bF (f+1)))else some (.inr (.inr ()))) bK (-1,0)) (fun r=>match r with|.inl v=>v≠0|.inr _=>∀x∈l,qP x.cA=some 0):=by
  refine dP (l:=l) (fun q=>q.2) (fun i q=>∀x∈l.take i,qP x.cA=some 0) (by omega) rfl (by simp) (fun i x q m t hi hl a hg hw=>?_) (fun q hi a=>?_);obtain⟨n,k⟩:=q;dsimp only at hi hl a hg hw;simp only[hl,hg,nt];refine Ok.bindE (jY2 (x1:=x)) fun c e _=>?_;by_cases d:c=0;subst d;rw[fM3 (by simp)];refine Ob (P:=fun _=>True) ((kK1 (x1:=x.cA)).mono fun _ _=>trivial) fun y _=>?_;obtain⟨s,w⟩:=y;dsimp only;by_cases hy:s<=n;rw[fJ3 (by simpa using hy)];exact .mk (show(25:Int)≠0 by decide);rw[fM3 (by simpa using hy)];refine .mk ⟨hw,fun z g=>?_⟩;rw[List.take_add_one,m]at g;rcases gK3.1 g with h|h;exact a z h;simp at h;rw[h];exact lG2 e;rw[fJ3 (by simpa using d)];exact .mk d;obtain⟨n,k⟩:=q;dsimp only at hi a;simp only[hi,nf];rw[hC3]at a;exact .mk a
 have h2:=this.of h1;cases r with
 |inl v=>simp at h;exact absurd h h2
 |inr u=>exact h2
def sY1 {e:YE} (c:e.sm) (h:Ns e=some 0):(e.dH=1->e.cE≠[])/\∀x∈e.cE,qP x.cA=some 0:=by
 by_cases hk:e.dH=1;have p:=c.cE
 have:e.cE≠[]/\∀x∈e.cE,qP x.cA=some 0:=by
  unfold Ns at h;obtain⟨q,_,h⟩:=dW h;obtain⟨r,_,h⟩:=dW h;obtain⟨s,_,h⟩:=dW h;split at h;rename_i hc;cases h;simp at hc;obtain⟨t,l,h⟩:=dW h;split at h;cases h;obtain⟨u,m,h⟩:=dW h;obtain⟨v,n,h⟩:=dW h;split at h;cases h;obtain⟨w,o,h⟩:=dW h;split at h;cases h;split at h;obtain⟨d,a,h⟩:=dW h;obtain⟨i,f,h⟩:=dW h;obtain⟨j,g,h⟩:=dW h;obtain⟨k,b,h⟩:=dW h;split at h;rename_i hc;cases h;simp at hc;rename_i hc;simp at hc;subst hc;have:=Vp (by simp) b d (by simp);subst this;exact aI2 (by omega) a;rename_i hc;simp[hk]at hc
 exact⟨fun _=>this.1,this.2⟩;have:=(dA1 h).resolve_left hk;rw[this];exact⟨fun h=>absurd h hk,by simp⟩
end Go.P
namespace Go.P
variable {s:Y0}
def sZ1 {A:Type} {l:aA A} {i:Int} (h0:0<=i) (h:i<l.length):eE l i=some i.toNat:=by
 unfold eE qX;rw[fJ3 ⟨h0,h⟩]
end Go.P
namespace Go.P
variable {n r:Int}
variable {s:Y0}
def aJ2 (hs:s.sm):F85 s=some (stv s:Int):=by
 unfold F85 dM;have hp:=hs.aU;refine sU1 (a:=(stv s:Int)) (Ok.eq (cY1 (l:=s.aU) (fun q=>q.2) (fun q=>q.1) (fun t p=>t+(p.cO.length:Int)) (by omega) rfl (fun i p q g c hi hl b hg hw=>?_) (fun q hi b=>?_))) rfl;obtain⟨t,k⟩:=q;dsimp only at hi hl b hg hw;have d:=aH2 (l:=s.aU.take i) (fun p hp=>(hs.lV p (iV3 hp)).cO);have e:(s.aU.take i).length<=4:=by rw[hW3];omega
 have f:=(hs.lV p c).cO;rw[Kh]at b;simp only[hl,hg,nt];refine .mk ⟨hw,?_⟩;dsimp only;rw[bO (by omega) (by omega)];obtain⟨t,k⟩:=q;dsimp only at hi b;rw[Kh]at b;simp only[hi,nf];refine .mk ?_;rw[b];unfold stv;omega
def xN2 {x:Int} {m:YM} (o:m.sm):Ok (F87 x m n) (fun b=>b=false->(m.aO.length:Int)=n):=by
 unfold F87 dM;have hc:=o.aO;refine Ob (P:=fun r=>((m.aO.length:Int)!=n)=true->r=true) (dP (l:=m.aO) (fun q=>q.2) (fun _ q=>((m.aO.length:Int)!=n)=true->q.1=true) (by omega) rfl (fun h=>h) (fun i y q s g hi hl a hg hw=>?_) (fun q hi a=>?_)) fun r hr=>.mk (fun h=>?_);obtain⟨b,k⟩:=q;dsimp only at hi hl a hg hw;have hv:=(o.gK y g).aT;simp only[hl,hg,nt];have first:∀{c:Bool} {z:aB Bool},(b=true->c=true)->(b=false->Ok z (fun _=>True))->True:=fun _ _=>trivial
 refine Ob (P:=fun r=>(b=true->r=true)/\(r=false->0<y.aT.length)) (Oi (fun h=>.mk ⟨fun _=>rfl,fun h=>(by cases h)⟩) (fun h=>?_)) fun j d=>?_;simp only[nm]at h
 have h0:0<y.aT.length:=by
  have:=h.2;omega
 exact Ob (dZ (Q:=fun _=>True) (by omega) (by omega) (fun _ _ _=>trivial)) fun z _=>.mk ⟨fun hb=>(by rw[hb]at h;cases h.1),fun _=>h0⟩;refine Ob (P:=fun r=>(j=true->r=true)) (Oi (fun h=>.mk (fun _=>rfl)) (fun h=>?_)) fun e f=>?_;have h0:=d.2 (by simpa using h);exact Ob (dZ (Q:=fun _=>True) (by rw[bO (by omega) (by omega)];omega) (by rw[bO (by omega) (by omega)];omega) (fun _ _ _=>trivial)) fun z _=>.mk (fun h2=>absurd h2 h);refine Ob (P:=fun r=>e=true->r=true) (dP (l:=y.aT) (fun q=>q.2) (fun _ q=>e=true->q.1=true) (by omega) rfl (fun h=>h) (fun i z q s p hi hl a hg hw=>?_) (fun q hi a=>?_)) fun r hr=>.mk ⟨hw,fun h=>hr (f (d.1 (a h)))⟩;obtain⟨b2,t⟩:=q;dsimp only at hi hl a hg hw;simp only[hl,hg,nt];exact .mk ⟨hw,fun h=>by rw[a h];rfl⟩;obtain⟨b2,t⟩:=q;dsimp only at hi a;simp only[hi,nf];exact .mk a;obtain⟨b,k⟩:=q;dsimp only at hi a;simp only[hi,nf];exact .mk a;by_cases he:(m.aO.length:Int)=n;exact he;have:=hr (by simpa using he);rw[h]at this;cases this
def xO2 (hs:s.sm) (h:cC1 n [] s r=some []):∀m∈s.aF,(m.aO.length:Int)=n:=by
 unfold cC1 dM at h;have p:=hs.aF;obtain⟨v,h1,h2⟩:=dW h;cases h2;have:=Ok.of (Q:=fun v:aA YV=>v.length=0->∀m∈s.aF,(m.aO.length:Int)=n) (dP (l:=s.aF) (fun q=>q.1) (fun i q=>q.2.length<=i/\(q.2.length=0->∀j,j<i->∀m,s.aF[j]? =some m->(m.aO.length:Int)=n)) (by omega) rfl ⟨by simp,fun _ j d=>by omega⟩ (fun i e q o g hi hl c hg hw=>?_) (fun q hi c=>?_)) h1 rfl;exact this;obtain⟨x,v⟩:=q;dsimp only at hi hl c hg hw;simp only[hl,hg,nt];refine Ob (xN2 (hs.cH e g)) fun b hb=>?_;refine Ob (Nl (by omega)) fun u k=>.mk ⟨hw,?_,fun h j d m a=>?_⟩;dsimp only;cases b<;>simp at k<;>omega;dsimp only at h;cases b with
 |true=>simp at k;omega
 |false=>
  simp only[fR3,false_implies,forall_const,true_and]at k;by_cases f:j=i;subst f;rw[o]at a;cases a;exact hb rfl;exact c.2 (by omega) j (by omega) m a
 obtain⟨x,v⟩:=q;dsimp only at hi c;simp only[hi,nf];refine .mk (fun h m g=>?_);obtain⟨j,d⟩:=fQ3.1 g;exact c.2 h j (fE3.1 d).1 m d
def aK2 (hs:s.sm) (hv:F8 s=some true):∀m∈s.aF,m.aO.length=stv s:=by
 intro m b;have a:=(Gz hs (List.length_pos_of_mem b) hv).r3;unfold cD1 at a;rw[aJ2 hs]at a;simp only[fD3]at a;obtain⟨v,h1,h2⟩:=dW a;cases h2;have:=xO2 hs h1 m b;omega
def RP (p:YJ):Prop:=F81 p.bG=some 0/\1<=p.cO.length
def lH2 (hs:s.sm) (hM:0<s.aF.length) (hv:F8 s=some true):∀p∈s.aU,RP p:=by
 have h:=(Gz hs hM hv).r1;unfold Me dM at h;have hp:=hs.aU;obtain⟨v1,h1,h⟩:=dW h
 have g1:v1.length<=4/\(v1.length=0->∀p∈s.aU,RP p):=by
  refine Ok.of (Q:=fun v:aA YV=>v.length<=4/\(v.length=0->∀p∈s.aU,RP p)) (dP (l:=s.aU) (fun q=>q.1) (fun i q=>q.2.length<=i/\(q.2.length=0->∀j,j<i->∀p,s.aU[j]? =some p->RP p)) (by omega) rfl ⟨by simp,fun _ j K=>by omega⟩ (fun i p q hx hm hi hl D hg hw=>?_) (fun q hi D=>?_)) h1;obtain⟨W,X⟩:=q;dsimp only at hi hl D hg hw;have S:=(fE3.1 hx).1;simp only[hl,hg,nt];have U:=hs.lV _ hm;refine dT (T79 U.oP) fun d8=>?_;refine Ob (P:=fun r=>r=false->1<=p.cO.length) ?_ fun d9 N=>?_;refine Oi (fun _=>.mk (fun h=>by cases h)) (fun c35=>?_);rw[Nj];exact .mk (fun h=>by simp at h;omega);refine Ob (P:=fun r=>r=false->RP p) ?_ fun H O=>?_;refine Oi (fun h=>.mk (fun h=>by cases h)) (fun c38=>?_);obtain⟨n,hn,_⟩:=T81 (x1:=p.bG);rw[hn];refine .mk (fun h=>⟨?_,N (by simpa using c38)⟩);simp at h;rw[hn,h];refine Ob (Nl (by omega)) fun u C=>.mk ⟨hw,?_,fun h j K m A=>?_⟩;dsimp only;cases H<;>simp at C<;>omega;dsimp only at h;cases H with
  |true=>simp at C;omega
  |false=>
   simp only[fR3,false_implies,forall_const,true_and]at C;by_cases T:j=i;subst T;rw[hx]at A;cases A;exact O rfl;exact D.2 (by omega) j (by omega) m A
  obtain⟨W,X⟩:=q;dsimp only at hi D;simp only[hi,nf];refine .mk ⟨by omega,fun h p hp=>?_⟩;obtain⟨j,K⟩:=fQ3.1 hp;exact D.2 h j (fE3.1 K).1 p K
 refine g1.2 ?_;have d4:=g1.1
 have:v1.length<=([]:aA YV).length:=by
  refine Ok.of (Q:=fun v:aA YV=>v1.length<=v.length) ?_ h;have b9:=hs.aF;refine og s.aF v1 12 1 (by omega) (fun d5 L q53 G E b k e a w=>?_) (fun q53 b e=>?_) fun e4 e6=>?_;obtain⟨Y,Z⟩:=q53;dsimp only at b k a w e;simp only[k,a,nt];have S:=(fE3.1 G).1;have B:=hs.cH _ E;refine dT (T79 B.cW) fun e0=>?_;have d0:=B.aO;refine lpT (l:=L.aO) (fun q=>q.2) (by omega) rfl (fun d6 M q67 F c o f y=>?_) (fun q67 c=>?_) fun b7=>?_;obtain⟨b0,b4⟩:=q67;dsimp only at c o f y;simp only[o,a,f,nt];have V:=B.gK _ F;have d2:=V.aT;refine lpT (l:=M.aT) (fun q=>q.2) (by omega) rfl (fun d7 d3 q80 b8 d t g z=>?_) (fun q80 d=>?_) fun e1=>?_;obtain⟨b5,b6⟩:=q80;dsimp only at d t g z;simp only[t,a,f,g,nt];exact .mk z;obtain⟨b5,b6⟩:=q80;dsimp only at d;simp only[d,nf];exact .mk trivial;exact .mk y;obtain⟨b0,b4⟩:=q67;dsimp only at c;simp only[c,nf];exact .mk trivial;refine Ob (Nl (by omega)) fun e3 R=>?_;refine .mk ⟨w,?_,?_⟩<;>dsimp only<;>cases b7<;>simp at R<;>omega;obtain⟨Y,Z⟩:=q53;dsimp only at b e;simp only[b,nf];exact .mk (by dsimp only;omega);refine dT (T79 hs.jJ) fun e5=>?_;refine dT ?_ fun J=>?_;exact Oi (fun _=>.mk trivial) (fun _=>dT Sj fun x=>.mk trivial);refine dT ?_ fun J=>?_;exact Oi (fun _=>.mk trivial) (fun _=>dT Sj fun x=>.mk trivial);refine Ob (Nl (by omega)) fun u C=>.mk ?_;by_cases h:(J||decide ((s.bT.length:Int)>4096)||decide ((s.kI.length:Int)>100))=true;have:=C.1 h;omega;have:=C.2 (by simpa using h);omega
 simpa using this
def Yt (hs:s.sm) (hv:F8 s=some true):0<s.aF.length:=by
 rcases Nat.eq_zero_or_pos s.aF.length with h0|h0;exfalso
 have:Ok (F8 s) (fun b=>b=false):=by
  unfold F8 F22;refine Ob (P:=fun v=>0<v.length) ?_ fun v hv=>.mk (by simp;intro h;rw[h]at hv;simp at hv);refine Ob (P:=fun r=>r=false) (Oi (fun h=>by simp at h) (fun _=>.mk rfl)) fun b hb=>?_;subst hb;refine Oi (fun h=>by cases h) (fun _=>?_);refine Ob (jM2 hs h0 (by decide)) fun v hv=>?_;refine Ob (P:=fun r=>r=true) (Oi (fun h=>Ob (P:=fun r=>r=true) (Oi (fun _=>.mk rfl) (fun h=>absurd rfl h)) fun b hb=>.mk hb) (fun h=>by simp at h;simp[h]at hv)) fun b hb=>?_;subst hb;exact Oi (fun _=>.mk hv) (fun h=>absurd rfl h)
 have:=this.of hv;cases this;exact h0
end Go.P
namespace Go.P
variable {A B:Type}
variable {s:Y0}
def Bd {l:aA A} {body:Int->aB (Int⊕(B⊕Unit))} (p:A->Bool) (f:Int->A->B) (hl:l.length<9223372036854775808)
  (h:∀(i:Int) (x:A),0<=i->i<(l.length:Int)->x∈l->bU l i=some x->bF (i+1)=i+1->body i=some (if p x then .inr (.inl (f i x))else .inl (i+1)))
  (c:body (l.length:Int)=some (.inr (.inr ()))):
  Ok (aS body bK 0) (fun r=>match r with|.inl b=>∃(n:Nat) (x:A),l[n]? =some x/\p x=true/\l.find? p=some x/\b=f (n:Int) x/\∀y∈l.take n,p y=false|.inr _=>∀y∈l,p y=false):=by
 refine dP (l:=l) (fun q=>q) (fun i _=>∀y∈l.take i,p y=false) hl rfl (by simp) (fun i x q d j hi g a hg hw=>?_) (fun q hi a=>?_);rw[h q x (by omega) g j hg (by omega)];cases hp:p x with
 |true=>
  refine .mk ⟨i,x,d,hp,?_,by rw[hi],a⟩;have e:=(fE3.1 d).1;rw[<-iN3 i l,List.find?_append,List.drop_eq_getElem_cons e,(fE3.1 d).2]
  have:(l.take i).find? p=none:=by
   rw[List.find?_eq_none];intro y hy;rw[a y hy];exact Bool.false_ne_true
  rw[this,Option.none_or,List.find?_cons_of_pos hp]
 |false=>
  refine .mk ⟨by omega,fun y hy=>?_⟩;rw[List.take_add_one,d]at hy;rcases gK3.1 hy with h|h;exact a y h;simp at h;rw[h];exact hp
 rw[hi,c];rw[hC3]at a;exact .mk a
def aL2 (l:aA A) (g:A->aB Bool) (z:A):aB (Unit⊕(aA A)):=
 (Nk l g).bind fun k=>if k==(-1)then some (.inl ())else(aS (E:=Int×(aA A)) (fun(⟨b,c,a⟩:Int×Int×(aA A))=>if decide (c<(a.length:Int))then(eE a c).bind fun f=>(dX a f).bind fun d=>(g d).bind fun h=>(if !h then(eE a b).bind fun i=>(gR a i (fun r=>d)).bind fun j=>some (bF (b+1),j)else some (b,a):aB (Int×(aA A))).bind fun⟨m,n⟩=>some (.inl (m,bF (c+1),n))else some (.inr (b,a))) bK (k,bF (k+1),l)).bind fun⟨e,o⟩=>(hG1 o e z).bind fun p=>(tZ p e).bind fun q=>some (.inr q)
def kN1 (l:aA YL):jX1 l=aL2 l Vj (YL.mk 0 0):=by rfl
def wP {l:aA A} {g:A->aB Bool} (p:A->Bool) (hl:l.length<9223372036854775808) (hg:∀x∈l,g x=some (p x)):
  Ok (Nk l g) (fun v=>(v= -1/\∀x∈l,p x=false)\/∃(n:Nat) (x:A),v=(n:Int)/\l[n]? =some x/\p x=true/\∀y∈l.take n,p y=false):=by
 unfold Nk;refine Ob (Bd p (fun i _=>i) hl (fun i x h0 h1 d a hw=>?_) (by simp)) fun r hr=>?_;rw[fJ3 (by simpa using h1),a,fD3,hg x d,fD3,hw];cases p x<;>rfl;cases r with
 |inl v=>
  obtain⟨n,x,h1,h2,_,b,c⟩:=hr;exact .mk (.inr ⟨n,x,b,h1,h2,c⟩)
 |inr u=>exact .mk (.inl ⟨rfl,hr⟩)
def kM {l:aA A} {n:Nat} (h:n<l.length):eE l (n:Int)=some n:=by
 unfold eE qX;rw[fJ3 ⟨by omega,by omega⟩,Int.toNat_natCast]
def tA1 {l:aA A} {g:A->aB Bool} (p:A->Bool) (z:A) (hl:l.length<4611686018427387904) (hg:∀x∈l,g x=some (p x)):
  Ok (aL2 l g z) (fun r=>(match r with|.inl _=>l|.inr m=>m)=l.filter (fun x=> !p x)):=by
 unfold aL2;refine Ob (wP p (by omega) hg) fun v hv=>?_;rcases hv with⟨rfl,h⟩|⟨n,x,rfl,hx,hp,hb⟩
 rw[fJ3 (by rfl)];refine .mk ?_;dsimp only;rw[List.filter_eq_self.2];intro y hy;rw[h y hy];rfl;have hn:=(fE3.1 hx).1;rw[fM3 (by simp)]
 refine Ob (P:=fun q:Int×aA A=>∃a:Nat,q.1=(a:Int)/\a<=l.length/\q.2.length=l.length/\q.2.take a=l.filter (fun x=> !p x))
  (iM (fun q:Int×Int×aA A=>∃a b:Nat,q.1=(a:Int)/\q.2.1=(b:Int)/\a<b/\b<=l.length/\q.2.2.length=l.length/\q.2.2.drop b=l.drop b/\q.2.2.take a=(l.take b).filter (fun x=> !p x)) (fun q=>(l.length-q.2.1).toNat) (fun q o=>?_) bK _ ?_ ?_) fun q o=>?_
 obtain⟨i,j,v⟩:=q;obtain⟨a,b,h1,h2,w,B,hlen,hd,d⟩:=o;dsimp only at h1 h2 hlen hd d;subst h1 h2;dsimp only;by_cases c:b<l.length;rw[fJ3 (by simp;omega),kM (by omega),fD3]
 have t:v[b]? =some l[b]:=by
  have u:(v.drop b)[0]? =v[b]? :=by rw[gM3];rfl
  rw[<-u,hd,gM3];simp[c]
 have e:v.drop (b+1)=l.drop (b+1):=by
  rw[<-iB3,<-iB3,hd]
 unfold dX;rw[t,fD3,hg _ (gX3 c),fD3,bO (n:=(b:Int)+1) (by omega) (by omega)]
 have f:(l.take (b+1)).filter (fun x=> !p x)=(l.take b).filter (fun x=> !p x)++[l[b]].filter (fun x=> !p x):=by
  rw[List.take_add_one,fP3 c,List.filter_append];rfl
 cases hpb:p l[b]with
 |true=>
  refine .mk ⟨⟨a,b+1,rfl,by dsimp only;omega,by omega,by omega,hlen,e,?_⟩,by dsimp only;omega⟩;rw[f,<-d];simp[hpb]
 |false=>
  simp only[Bool.not_false,gF3];rw[kM (by omega),fD3];unfold gR;have s:v[a]? =some v[a]:=fP3 (by omega);rw[s,gB3,fD3,fD3,bO (n:=(a:Int)+1) (by omega) (by omega)];refine .mk ⟨⟨a+1,b+1,by dsimp only;omega,by dsimp only;omega,by omega,by omega,by dsimp only;rw[hU3];exact hlen,?_,?_⟩,by dsimp only;omega⟩;dsimp only;rw[List.drop_set_of_lt (by omega)];exact e;dsimp only;rw[f,<-d,List.set_eq_take_append_cons_drop,fJ3 (by omega),List.take_append,hW3,hI3 (by omega),gW3 (by rw[hW3];omega)];simp[hpb]
 have k:b=l.length:=by omega
 rw[fM3 (by simp;omega)];refine .mk ⟨a,rfl,by omega,hlen,?_⟩;dsimp only;rw[d,k,hC3];refine⟨n,n+1,rfl,?_,by omega,by omega,rfl,rfl,?_⟩;dsimp only;rw[bO (by omega) (by omega)];omega;dsimp only;rw[List.take_add_one,hx,List.filter_append];rw[List.filter_eq_self.2 (fun y hy=>by rw[hb y hy];rfl)];simp[hp];dsimp only;rw[bO (by omega) (by omega)];simp only[bK];omega;obtain⟨i,v⟩:=q;obtain⟨a,h1,C,hlen,d⟩:=o;dsimp only at h1 hlen d;subst h1;dsimp only;unfold hG1 tZ;rw[fJ3 ⟨by omega,by omega⟩,fD3,Int.toNat_natCast,fJ3 ⟨by omega,by simp;omega⟩,fD3];refine .mk ?_;dsimp only;rw[<-d,List.take_append,hW3,hI3 (by omega),gW3 (by rw[hW3];omega)];simp
def uJ (x:YL):Bool:= !((((decide (x.eC<(-77)))||(decide (x.eC>77)))||(decide (x.bC<(-140))))||(decide (x.bC>140)))
def Ha (x:YL):F81 x=some (if uJ x then 0 else 2):=by
 unfold F81 uJ;cases((((decide (x.eC<(-77)))||(decide (x.eC>77)))||(decide (x.bC<(-140))))||(decide (x.bC>140)))<;>rfl
def tB1 (x:YL):Vj x=some (!uJ x):=by
 unfold Vj;rw[Ha];cases uJ x<;>rfl
def mvI (i:YL):Int:=bF (bF (7*i.bC)-bF (12*i.eC))
def Be (n:Int):∃k:Int,bF n=n+k*18446744073709551616/\ -9223372036854775808<=bF n/\bF n<9223372036854775808:=by
 have e:bF n=if n%18446744073709551616>=9223372036854775808 then n%18446744073709551616-18446744073709551616 else n%18446744073709551616:=by
  unfold bF IntKind.wrap;rw[show((2:Int)^IntKind.bits .i64)=18446744073709551616 from rfl,show((2:Int)^(IntKind.bits .i64-1))=9223372036854775808 from rfl];simp[IntKind.signed]
 rw[e];split;exact⟨-(n/18446744073709551616)-1,by omega,by omega,by omega⟩;exact⟨-(n/18446744073709551616),by omega,by omega,by omega⟩
def aM2 (f:Int) (i:YL):F34 f i=some (bF (f+mvI i)):=by
 unfold F34 mvI;obtain⟨a,o,k,l⟩:=Be (7*i.bC);obtain⟨b,hb,m,n⟩:=Be (12*i.eC);generalize bF (7*i.bC)=A at *;generalize bF (12*i.eC)=B at *;obtain⟨c,hc,e,g⟩:=Be (f+A);obtain⟨d,hd,h,j⟩:=Be (A-B);generalize bF (f+A)=C at *;generalize bF (A-B)=D at *;obtain⟨c,hc,e,g⟩:=Be (C-B);obtain⟨d,hd,h,j⟩:=Be (f+D);generalize bF (C-B)=E at *;generalize bF (f+D)=G at *;congr 1;omega
def okM (i:YL) (m:YM):Bool:=decide (bF (m.eM+mvI i)>= -7)&&decide (bF (m.eM+mvI i)<=7)
def aN2 (n:Int):F68 n=some (if(decide (n>= -7)&&decide (n<=7))=true then 0 else 2):=by
 unfold F68;by_cases h1:n< -7<;>by_cases h2:n>7<;>simp[h1,h2]<;>omega
def tC1 (m:YM) (i:YL):jY1 m i=some (!okM i m):=by
 unfold jY1;rw[aM2,fD3,aN2,fD3];unfold okM;cases(decide (bF (m.eM+mvI i)>= -7)&&decide (bF (m.eM+mvI i)<=7))<;>rfl
def Ck (s:Y0) (i:YL):Bool:=s.aF.all (okM i)
def tD1 (hs:s.sm) (i:YL):Gy s.aF i=some (!Ck s i):=by
 have a:=hs.aF;have:Gy s.aF i=((Nk s.aF (fun m=>jY1 m i)).bind fun v=>some (decide (v>=0))):=rfl;rw[this,sV1 (fun m=> !okM i m) (by omega) (fun m _=>tC1 m i)];unfold Ck;simp[List.all_eq_not_any_not]
def Cl (i:YL) (d:Int):YL:=⟨bF (i.eC+d),i.bC⟩
def Yu (s:Y0) (i:YL):aB Int:=([0,1,-1]:aA Int).find? (fun d=>uJ (Cl i d)&&Ck s (Cl i d))
def aO2 (hs:s.sm) {i:YL} (hi:uJ i=true):F67 s i=some (match Yu s i with|some d=>(Cl i d,0)|none=>(⟨0,0⟩,18)):=by
 have h0:i=Cl i 0:=by
  unfold uJ at hi;simp at hi;unfold Cl;rw[Int.add_zero,bO (by omega) (by omega)]
 have c:rZ1 i=some ((([0,1,-1]:aA Int).map (Cl i)).filter uJ):=by
  unfold rZ1
  have e:[i,YL.mk (bF (i.eC+1)) i.bC,YL.mk (bF (i.eC-1)) i.bC]=([0,1,-1]:aA Int).map (Cl i):=by
   simp only[iA3,jG3];rw[<-h0];rfl
  rw[e,kN1];obtain⟨r,hr,h⟩:=tA1 (l:=([0,1,-1]:aA Int).map (Cl i)) (g:=Vj) (fun x=> !uJ x) (YL.mk 0 0) (by simp) (fun x _=>tB1 x);rw[hr,fD3];simp only[Bool.not_not]at h;rw[<-h];cases r<;>rfl
 unfold F67 dM;rw[c,fD3];generalize hL:(([0,1,-1]:aA Int).map (Cl i)).filter uJ=L
 have hlen:L.length<=3:=by
  rw[<-hL];exact gH3 (List.length_filter_le _ _) (by simp)
 have hf:L.find? (Ck s)=(Yu s i).map (Cl i):=by
  rw[<-hL,List.find?_filter,List.find?_map];unfold Yu;congr 2;funext d;cases h:uJ (Cl i d)<;>cases h2:Ck s (Cl i d)<;>simp[h,h2]
 obtain⟨r,hr,h⟩:=Bd (l:=L) (body:=fun(f:Int)=>if decide (f<(L.length:Int))then(bU L f).bind fun j=>(Gy s.aF j).bind fun o=>if !o then some (.inr (.inl j))else some (.inl (bF (f+1)))else some (.inr (.inr ()))) (Ck s) (fun _ x=>x) (by omega) (fun k x h0 h1 p hg hw=>by
  rw[fJ3 (by simpa using h1),hg,fD3,tD1 hs,fD3,hw];cases Ck s x<;>rfl) (by simp)
 rw[hr,fD3];cases r with
 |inl b=>
  obtain⟨n,x,_,_,a,m,_⟩:=h;rw[hf]at a;cases hc:Yu s i with
  |none=>rw[hc]at a;cases a
  |some d=>rw[hc]at a;simp at a;simp[m,a]
 |inr u=>
  have:L.find? (Ck s)=none:=by
   rw[List.find?_eq_none];intro y hy;rw[h y hy];exact Bool.false_ne_true
  rw[hf]at this;cases hc:Yu s i with
  |none=>rfl
  |some d=>rw[hc]at this;cases this
def dB1 {l:aA A} {i:Nat} (h:i<l.length):bU l (i:Int)=some l[i]:=by
 unfold bU;rw[fJ3 (by omega),Int.toNat_natCast];exact fP3 h
def kO1 {l:aA A} {body:Bool×Int->aB ((Bool×Int)⊕Bool)} (p:A->Bool) (hl:l.length<9223372036854775808) (d:Bool)
  (h:∀(i:Int) (x:A),0<=i->i<(l.length:Int)->bU l i=some x->bF (i+1)=i+1->body (true,i)=some (.inl (p x,i+1)))
  (h2:∀i,body (false,i)=some (.inr false))
  (c:∀b,body (b,(l.length:Int))=some (.inr b)):aS body bK (d,0)=some (d&&l.all p):=by
 refine Ok.eq (iM (fun q:Bool×Int=>∃n:Nat,q.2=(n:Int)/\n<=l.length/\q.1=(d&&(l.take n).all p)) (fun q=>(l.length-q.2).toNat) (fun q f=>?_) bK _ ⟨0,rfl,by omega,by simp⟩ (by simp only[bK];omega));obtain⟨b,i⟩:=q;obtain⟨n,e,g,a⟩:=f;dsimp only at e a;subst e;by_cases hn:n<l.length;cases b with
 |true=>
  rw[h n l[n] (by omega) (by omega) (dB1 hn) (bO (by omega) (by omega))];refine .mk ⟨⟨n+1,by dsimp only;omega,by omega,?_⟩,by dsimp only;omega⟩;dsimp only;rw[List.take_add_one,fP3 hn,List.all_append,<-Bool.and_assoc,<-a];simp
 |false=>
  rw[h2];refine .mk ?_;rw[<-iN3 n l,List.all_append,<-Bool.and_assoc,<-a];rfl
 have:n=l.length:=by omega
 subst this;rw[c];rw[hC3]at a;exact .mk a
end Go.P
namespace Go.P
variable {a k n:Int} {p q:YH}
variable {s:Y0}
def Cm:aA Int:=[0,2,4,5,7,9,11]
def Sl (k:Int):Int:=Cm[k.toNat]!
def rL (p:YH):Int:=12*(p.eZ+1)+Sl p.jP+p.iJ
def Vq (p:YH):Int:=7*p.eZ+p.jP
structure VP (p:YH):Prop where
 s0:0<=p.jP
 s1:p.jP<=6
 a0: -2<=p.iJ
 a1:p.iJ<=2
 o0: -1<=p.eZ
 o1:p.eZ<=9
 n0:0<=rL p
 n1:rL p<=127
def Sm (h0:0<=k) (h1:k<=6):0<=Sl k/\Sl k<=11/\bU Cm k=some (Sl k):=by
 have:k=0\/k=1\/k=2\/k=3\/k=4\/k=5\/k=6:=by omega
 rcases this with rfl|rfl|rfl|rfl|rfl|rfl|rfl<;>exact⟨by decide,by decide,rfl⟩
def Nm (h0:0<=p.jP) (h1:p.jP<=6) (h2: -1<=p.eZ) (b:p.eZ<=9) (c: -2<=p.iJ) (d:p.iJ<=2):Ve p=some (rL p):=by
 obtain⟨f,r1,r2⟩:=Sm h0 h1;have e:Ve p=(bU Cm p.jP).bind fun a=>some (bF ((bF ((bF (12*(bF (p.eZ+1))))+a))+p.iJ)):=rfl;rw[e,r2,fD3,bO (n:=p.eZ+1) (by omega) (by omega),bO (n:=12*(p.eZ+1)) (by omega) (by omega),bO (n:=12*(p.eZ+1)+Sl p.jP) (by omega) (by omega),bO (by omega) (by omega)];rfl
def pT (p:YH):qP p=some 0↔VP p:=by
 unfold qP;by_cases hc:((((((decide (p.jP<0))||(decide (p.jP>6)))||(decide (p.iJ<(-2))))||(decide (p.iJ>2)))||(decide (p.eZ<(-1))))||(decide (p.eZ>9)))=true;rw[fJ3 hc];constructor;intro h;cases h;intro h;have:=h.s0;have:=h.s1;have:=h.a0;have:=h.a1;have:=h.o0;have:=h.o1;simp at hc;omega;rw[fM3 hc];simp at hc;rw[Nm (by omega) (by omega) (by omega) (by omega) (by omega) (by omega),fD3];by_cases hn:(decide (rL p<0)||decide (rL p>127))=true;rw[fJ3 hn];constructor;intro h;cases h;intro h;have:=h.n0;have:=h.n1;simp at hn;omega;rw[fM3 hn];simp at hn;exact⟨fun _=>⟨by omega,by omega,by omega,by omega,by omega,by omega,by omega,by omega⟩,fun _=>rfl⟩
def kP1 (h:VP p):F75 p=some (Vq p):=by
 have:=h.s0;have:=h.s1;have:=h.o0;have:=h.o1;unfold F75 Vq;rw[bO (n:=7*p.eZ) (by omega) (by omega),bO (by omega) (by omega)]
def wQ (h:VP p): -7<=Vq p/\Vq p<=69:=by
 have:=h.s0;have:=h.s1;have:=h.o0;have:=h.o1;unfold Vq;omega
def VP.eq (hp:VP p) (g:VP q) (h1:Vq p=Vq q) (h2:rL p=rL q):p=q:=by
 obtain⟨a,b,c⟩:=p;obtain⟨d,e,f⟩:=q;have:=hp.s0;have:=hp.s1;have:=g.s0;have:=g.s1;unfold Vq at h1;dsimp only at *;have hc:c=f:=by omega
 have h:a=d:=by omega
 subst hc h;unfold rL at h2;dsimp only at h2;have:b=e:=by omega
 rw[this]
def kQ1 (h:VP p):cV1 p=some (Vq p,rL p,0):=by
 have b:=(pT p).2 h;have c:=wQ h;unfold cV1 sC1 Hx;rw[b,fD3,fM3 (by simp)];have a:=kP1 h;unfold F75 at a;have a:=gC3 a;rw[a,fD3];dsimp only;rw[fM3 (by simp),fD3,fM3 (by simp),Nm h.s0 h.s1 h.o0 h.o1 h.a0 h.a1];rfl
def tE1 (h:¬VP p):cV1 p=some (0,0,18):=by
 obtain⟨n,hn,_⟩:=zD1 (x1:=p);have h0:n≠0:=fun h2=>h ((pT p).1 (by rw[hn,h2]));unfold cV1 sC1;rw[hn,fD3,fJ3 (by simpa using h0),fD3];dsimp only;rw[fJ3 (by simpa using h0)]
def Hb {i:YL} (h:uJ i=true): -77<=i.eC/\i.eC<=77/\ -140<=i.bC/\i.bC<=140:=by
 unfold uJ at h;simp at h;omega
def kR1 {i:YL} (h:VP p) (hi:uJ i=true):F72 p i=some (Vq p+i.eC,rL p+i.bC,0):=by
 have a:=wQ h;have hr:=Hb hi;have:=h.n0;have:=h.n1;unfold F72;rw[kQ1 h,fD3];dsimp only;rw[fM3 (by simp),Ha,hi,fJ3 rfl,fD3,fM3 (by simp),bO (by omega) (by omega),bO (by omega) (by omega)]
def tF1 {i:YL} (h:¬(VP p/\uJ i=true)):∃a b e,F72 p i=some (a,b,e)/\e≠0:=by
 unfold F72;by_cases hp:VP p
 have hi:uJ i=false:=by
  cases hc:uJ i with
  |false=>rfl
  |true=>exact absurd ⟨hp,hc⟩ h
 rw[kQ1 hp,fD3];dsimp only;rw[fM3 (by simp),Ha,hi];exact⟨_,_,2,rfl,by decide⟩;rw[tE1 hp];exact⟨_,_,18,rfl,by decide⟩
def tG1 (h0: -2<=a) (h1:a<=200):sD1 a 12=some (a/12,a%12):=by
 by_cases hn:0<=a;unfold sD1;obtain⟨x,b,r1⟩:=vB (k:=.i64) (a:=a) (show(12:Int)≠0 by decide);obtain⟨y,e2,r2⟩:=Dm (k:=.i64) (a:=a) (show(12:Int)≠0 by decide);rw[b,e2,fD3,fD3]
 have c:x=a/12:=by
  rw[Int.tdiv_eq_ediv_of_nonneg hn]at r1;have:x=bF (a/12):=r1;rw[this,bO (by omega) (by omega)]
 have hy:y=a%12:=by rw[r2,Int.tmod_eq_emod_of_nonneg hn]
 subst c hy;rw[fM3 (by simp;omega),fD3];have:a= -1\/a= -2:=by omega
 rcases this with rfl|rfl<;>rfl
def kS1 {A:Type} {l:aA A} {i j:Nat} (hi:i<l.length) (a:j<l.length) (x:A):x∈(l.set i l[j]).set j l[i]↔x∈l:=by
 constructor;intro h;rcases List.mem_or_eq_of_mem_set h with h|h;rcases List.mem_or_eq_of_mem_set h with h|h;exact h;rw[h];exact gX3 _;rw[h];exact gX3 _;intro h;obtain⟨k,hk⟩:=fQ3.1 h;have hkl:=(fE3.1 hk).1;by_cases h1:k=i;subst h1;refine fL3 (i:=j) ?_;rw[List.getElem?_set_self (by rw[hU3];exact a),<-hk,fP3 hkl];by_cases h2:k=j;subst h2;refine fL3 (i:=i) ?_;rw[fU3 (by omega),List.getElem?_set_self hi,<-hk,fP3 hkl];refine fL3 (i:=k) ?_;rw[fU3 (by omega),fU3 (by omega),hk]
def kT1:∀(i j:Nat),i<7->j<7->Cm[i]? =Cm[j]? ->i=j:=by
 intro i j hi c h;have:∀a:Fin 7,∀b:Fin 7,Cm[a.1]? =Cm[b.1]? ->a.1=b.1:=by decide
 exact this ⟨i,hi⟩ ⟨j,c⟩ h
def Sn (h0:0<=n) (h1:n<=127):Ok (Kf n) (fun r=>r.1=0/\r.2.length<=5/\∀q,q∈r.2↔VP q/\rL q=n):=by
 unfold Kf;rw[fM3 (by simp;omega)];refine Ob (P:=fun l:aA YH=>l.length<=5/\∀q,q∈l↔VP q/\rL q=n) (iM (fun q:Int×aA YH=> -3<=q.1/\q.1<=2/\(q.2.length:Int)<=2-q.1/\∀x,x∈q.2↔VP x/\rL x=n/\q.1<x.iJ) (fun q=>(q.1+3).toNat) (fun q R=>?_) bK _ ⟨by decide,by decide,by decide,fun x=>⟨fun h=>by simp at h,fun h=>by have:=h.1.a1;have:=h.2.2;dsimp only at this;omega⟩⟩ (by decide)) fun l hl=>.mk ⟨rfl,hl.1,hl.2⟩;obtain⟨al,l⟩:=q;obtain⟨L,g2,M,D⟩:=R;dsimp only at L g2 M D;dsimp only;refine Oi (fun hc=>?_) (fun hc=>.mk ?_);simp only[fO3]at hc;rw[bO (n:=n-al) (by omega) (by omega),tG1 (by omega) (by omega),fD3];have y:cH1=some (Ar.mk 0 2 4 5 7 9 11):=rfl;rw[y,fD3];dsimp only;rw[bO (n:=(n-al)/12-1) (by omega) (by omega)];refine Ob (P:=fun m:aA YH=>m.length<=l.length+1/\∀x,x∈m↔x∈l\/(VP x/\rL x=n/\x.iJ=al)) (dP (l:=Cm) (fun q=>q.1) (fun k q=>(q.2.length<=l.length\/(q.2.length<=l.length+1/\∃j:Nat,j<k/\Cm[j]? =some ((n-al)%12)))/\∀x,x∈q.2↔x∈l\/(VP x/\rL x=n/\x.iJ=al/\x.jP<(k:Int))) (by decide) rfl ⟨.inl (fI3 _),fun x=>⟨.inl,fun h=>h.elim id (fun h=>by have:=h.1.s0;have:=h.2.2.2;omega)⟩⟩ (fun i x q C K hi F u hg hw=>?_) (fun q hi u=>?_)) fun m K=>?_;obtain⟨k,m⟩:=q;dsimp only at hi F u hg hw;obtain⟨p,z⟩:=u;have N:m.length<=l.length+1:=by rcases p with h|h<;>omega
 have g:m.length<=l.length\/(m.length<=l.length+1/\∃j:Nat,j<i+1/\Cm[j]? =some ((n-al)%12)):=p.imp id (fun⟨a,j,b,c⟩=>⟨a,j,by omega,c⟩);have s:=(fE3.1 C).1;have s:i<7:=s;rw[hi]at hw hg
 have f:Sl (i:Int)=x:=by
  unfold Sl;rw[Int.toNat_natCast,List.getElem!_eq_getElem?_getD,C];rfl
 have H:=Sm (k:=(i:Int)) (by omega) (by omega);rw[f]at H;have E:bU [0,2,4,5,7,9,11] (i:Int)=some x:=hg;dsimp only;rw[hi,fJ3 (by simp;omega),E,fD3]
 have key:∀q:YH,(VP q/\rL q=n/\q.iJ=al/\q.jP=(i:Int))↔(q=⟨(i:Int),al,(n-al)/12-1⟩/\x=(n-al)%12/\VP ⟨(i:Int),al,(n-al)/12-1⟩):=by
  intro q;obtain⟨a,b,c⟩:=q;constructor;rintro⟨v,e,e2,o⟩;dsimp only at e2 o;subst e2 o;have O:12*(c+1)+x+b=n:=by rw[<-e];unfold rL;dsimp only;rw[f]
  have A:c=(n-b)/12-1:=by omega
  exact⟨by rw[<-A],by omega,by rw[<-A];exact v⟩;rintro⟨e,e2,v⟩;cases e;refine⟨v,?_,rfl,rfl⟩;unfold rL;dsimp only;rw[f];omega
 have keep:(¬(x=(n-al)%12/\VP ⟨(i:Int),al,(n-al)/12-1⟩))->∀q,q∈m↔q∈l\/(VP q/\rL q=n/\q.iJ=al/\q.jP<((i+1:Nat):Int)):=fun G q=>by
  rw[z];constructor;rintro(h|⟨v,e,e2,o⟩);exact .inl h;exact .inr ⟨v,e,e2,by omega⟩;rintro(h|⟨v,e,e2,o⟩);exact .inl h;by_cases he:q.jP=(i:Int);exact absurd ((key q).1 ⟨v,e,e2,he⟩).2 G;exact .inr ⟨v,e,e2,by omega⟩
 by_cases hr:x=(n-al)%12;rw[fJ3 (by simpa using hr)];obtain⟨v,hv,_⟩:=zD1 (x1:=YH.mk (i:Int) al ((n-al)/12-1));rw[hv,fD3,fD3];by_cases t:v=0;subst t;rw[fJ3 (by simp)];have J:=(pT _).1 hv;refine Ob (P:=fun w=>w=m++[YH.mk (i:Int) al ((n-al)/12-1)]) (Ob (jV (Q:=fun w=>w=m++[YH.mk (i:Int) al ((n-al)/12-1)]) (by omega) rfl) fun w hw=>.mk hw) fun w B=>.mk ⟨hw,.inr ⟨?_,i,by omega,by rw[C,hr]⟩,fun q=>?_⟩;dsimp only;rcases p with h|⟨_,j,hj,hj2⟩
 rw[B];simp;omega;exact absurd (kT1 i j s (by omega) (by rw[C,hj2,hr])) (by omega);dsimp only;rw[B,gK3,iT3,z];constructor;rintro((h|⟨v,e,e2,o⟩)|h);exact .inl h;exact .inr ⟨v,e,e2,by omega⟩;obtain⟨a,b,c,d⟩:=(key q).2 ⟨h,hr,J⟩;exact .inr ⟨a,b,c,by omega⟩;rintro(h|⟨v,e,e2,o⟩);exact .inl (.inl h);by_cases he:q.jP=(i:Int);exact .inr ((key q).1 ⟨v,e,e2,he⟩).1;exact .inl (.inr ⟨v,e,e2,by omega⟩);rw[fM3 (by simpa using t)];refine .mk ⟨hw,g,keep fun h=>t ?_⟩;have:=(pT _).2 h.2;rw[hv]at this;exact gC3 this;rw[fM3 (by simpa using hr)];exact .mk ⟨hw,g,keep fun h=>hr h.1⟩;obtain⟨k,m⟩:=q;dsimp only at hi u;dsimp only;rw[fM3 (by rw[hi];simp[Cm])];refine .mk ⟨by rcases u.1 with h|h<;>omega,fun q=>?_⟩;rw[u.2];constructor;rintro(h|⟨v,e,e2,o⟩);exact .inl h;exact .inr ⟨v,e,e2⟩;rintro(h|⟨v,e,e2⟩);exact .inl h;exact .inr ⟨v,e,e2,by have:=v.s1;have:Cm.length=7:=rfl;omega⟩;refine .mk ⟨⟨?_,?_,?_,fun q=>?_⟩,?_⟩;dsimp only;rw[bO (by omega) (by omega)];omega;dsimp only;rw[bO (by omega) (by omega)];omega;dsimp only;rw[bO (by omega) (by omega)];omega;dsimp only;rw[bO (by omega) (by omega),K.2,D];constructor;rintro(⟨v,e,e2⟩|⟨v,e,e2⟩);exact⟨v,e,by omega⟩;exact⟨v,e,by omega⟩;rintro⟨v,e,e2⟩;by_cases he:q.iJ=al;exact .inr ⟨v,e,he⟩;exact .inl ⟨v,e,by omega⟩;dsimp only;rw[bO (by omega) (by omega)];omega;simp only[fO3]at hc;refine⟨by omega,fun q=>?_⟩;rw[D];exact⟨fun h=>⟨h.1,h.2.1⟩,fun h=>⟨h.1,h.2,by have:=h.1.a0;omega⟩⟩
end Go.P
namespace Go.P
variable {s:Y0}
def dC1 {l:aA YH} (hl:l.length<=1000):Ok (Yn 0 (l.length:Int) l) (fun m=>m.length=l.length/\∀x,x∈m↔x∈l):=by
 unfold Yn;refine Ob (P:=fun m:aA YH=>m.length=l.length/\∀x,x∈m↔x∈l) (iM (fun q:Int×aA YH=>1<=q.1/\q.1<=1001/\q.2.length=l.length/\∀x,x∈q.2↔x∈l) (fun q=>(1001-q.1).toNat) (fun q g=>?_) bK _ ?_ ?_) fun m r=>.mk r;obtain⟨i,m⟩:=q;obtain⟨h1,c,h2,d⟩:=g;dsimp only at h1 c h2 d;dsimp only;refine Oi (fun hc=>?_) (fun hc=>.mk ⟨h2,d⟩);simp only[fO3]at hc;refine Ob (P:=fun v:aA YH=>v.length=l.length/\∀x,x∈v↔x∈l) (iM (fun q:Int×aA YH=>0<=q.1/\q.1<(l.length:Int)/\q.2.length=l.length/\∀x,x∈q.2↔x∈l) (fun q=>q.1.toNat) (fun q g=>?_) bK _ ⟨by dsimp only;omega,hc,h2,d⟩ (by dsimp only[bK];omega)) fun v hv=>?_;obtain⟨k,v⟩:=q;obtain⟨g0,p,g2,a⟩:=g;dsimp only at g0 p g2 a;dsimp only;refine Ob (P:=fun b=>b=true->0<k) (Oi (fun hc=>?_) (fun hc=>.mk (fun h=>by cases h))) fun b hb=>?_;simp only[fO3]at hc;obtain⟨j,rfl⟩:∃j:Nat,k=(j:Int):=⟨k.toNat,by omega⟩
 have f:((j:Int)-1)=((j-1:Nat):Int):=by omega
 rw[bO (by omega) (by omega),f,kM (by omega),kM (by omega)];unfold dX;rw[fD3,fP3 (show j<v.length by omega),fD3,fD3,fP3 (show j-1<v.length by omega),fD3];unfold yR1 F75;rw[fD3,fD3,fD3];exact .mk (fun _=>hc);refine Oi (fun e=>?_) (fun _=>.mk ⟨g2,a⟩);have hk:=hb e;obtain⟨j,rfl⟩:∃j:Nat,k=(j:Int):=⟨k.toNat,by omega⟩
 have f:((j:Int)-1)=((j-1:Nat):Int):=by omega
 have n:v[j-1]? =some v[j-1]:=fP3 (by omega);have e2:v[j]? =some v[j]:=fP3 (by omega);have o:(v.set j v[j-1])[j-1]? =some v[j-1]:=by rw[fU3 (by omega)];exact n
 rw[bO (by omega) (by omega),f,kM (by omega),kM (by omega)];unfold dX gR;rw[fD3,n,fD3,fD3,e2,fD3,fD3,e2,gB3,fD3,kM (by rw[hU3];omega),fD3,o,gB3,fD3];refine .mk ⟨⟨by dsimp only;omega,by dsimp only;omega,by dsimp only;simp[g2],fun x=>?_⟩,by dsimp only;omega⟩;dsimp only;rw[kS1 (by omega) (by omega)];exact a x;have:bF (i+1)=i+1:=bO (by omega) (by omega);exact .mk ⟨⟨by dsimp only;omega,by dsimp only;omega,hv.1,hv.2⟩,by dsimp only;omega⟩;exact⟨by show(1:Int)<=bF (0+1);decide,by show bF (0+1)<=(1001:Int);decide,rfl,fun _=>Iff.rfl⟩;show(1001-bF (0+1)).toNat<bK
 decide
def So {l:aA YH} (hl:l.length<=12):Ok (Yo l) (fun m=>m.length=l.length/\∀x,x∈m↔x∈l):=by
 unfold Yo;refine Ob (kM1) fun v _=>?_;unfold kA1;have e:bF ((l.length:Int)-0)=(l.length:Int):=by rw[bO (by omega) (by omega)];omega
 refine Ob (P:=fun m:aA YH=>m.length=l.length/\∀x,x∈m↔x∈l) (Ob (P:=fun m:aA YH=>m.length=l.length/\∀x,x∈m↔x∈l) (iM (fun _=>True) (fun _=>0) (fun _ _=>?_) bK () trivial (by decide)) fun m a=>.mk a) fun m a=>.mk a;rw[e,fJ3 (by simp;omega)];exact Ob (dC1 (by omega)) fun m a=>.mk a
def Yv {n:Int}:Ok (F73 n) (fun r=>(r.2=0/\r.1≠[]/\∀q,q∈r.1↔VP q/\rL q=n)\/(r.2≠0/\r.1=[]/\∀q,¬(VP q/\rL q=n))):=by
 unfold F73;by_cases hn:0<=n/\n<=127;refine Ok.bindE (Sn hn.1 hn.2) fun r _ hr=>?_;obtain⟨e,l⟩:=r;obtain⟨h1,c,h2⟩:=hr;dsimp only at h1 c h2;subst h1;dsimp only;by_cases hl:l=[];subst hl;rw[fJ3 (by simp)];exact .mk (.inr ⟨by decide,rfl,fun q a=>by simpa using(h2 q).2 a⟩);rw[fM3 (by simpa using hl)];refine Ob (So (by omega)) fun m b=>.mk (.inl ⟨rfl,?_,fun q=>(b.2 q).trans (h2 q)⟩);intro hn;dsimp only at hn;rw[hn]at b;exact hl (List.length_eq_zero_iff.1 b.1.symm);unfold Kf;rw[fJ3 (by simp;omega)];exact .mk (.inr ⟨by decide,rfl,fun q a=>by have:=a.1.n0;have:=a.1.n1;omega⟩)
end Go.P
namespace Go.P
variable {n:Int} {p q:YH}
variable {s:Y0}
def Yw (n:Int) (p:YH):Nat:=(Vq p-n).natAbs
def kU1 (h:VP p) (h0: -1000<=n) (h1:n<=1000):F74 p n=some ((Yw n p:Nat):Int):=by
 have hr:=wQ h;unfold F74;rw[kP1 h,fD3,fD3,bO (n:=n-Vq p) (by omega) (by omega),bO (n:=Vq p-n) (by omega) (by omega)];unfold Yw;congr 1;split<;>omega
def aP2 (h:VP p) (h2:VP q) (h0: -1000<=n) (h1:n<=1000):F77 p q n=some ((Yw n p:Int)-(Yw n q:Int)):=by
 have hr:=wQ h;have a:=wQ h2;unfold F77;rw[kU1 h h0 h1,fD3,kU1 h2 h0 h1,fD3];congr 1;unfold Yw;exact bO (by omega) (by omega)
def Yx {l:aA YH} (hl:l.length<=1000) (hn:l≠[]) (hv:∀x∈l,VP x) (h0: -1000<=n) (h1:n<=1000):Ok (F76 l n) (fun r=>r∈l/\∀x∈l,Yw n r<=Yw n x):=by
  have hp:0<l.length:=List.length_pos_iff.2 hn;unfold F76 dM;rw[fM3 (by simp;omega),show bU l 0=some l[0]from kL (i:=0) hp,fD3];refine Ob (P:=fun r=>r∈l/\∀x∈l,Yw n r<=Yw n x) (iM (fun q:Int×YH=>∃k:Nat,q.1=(k:Int)/\k<=l.length/\q.2∈l/\∀x∈l.take k,Yw n q.2<=Yw n x) (fun q=>(l.length-q.1).toNat) (fun q g=>?_) bK _ ⟨1,rfl,hp,gX3 hp,fun x a=>?_⟩ (by simp only[bK];omega)) fun m f=>.mk f;obtain⟨i,r⟩:=q;obtain⟨k,d,g2,c,b⟩:=g;dsimp only at d c b;subst d;dsimp only;refine Oi (fun hc=>?_) (fun hc=>?_);have hk:k<l.length:=by simpa using hc
  rw[kL hk,fD3,aP2 (hv _ (gX3 hk)) (hv _ c) h0 h1,fD3,bO (n:=(k:Int)+1) (by omega) (by omega),fD3]
  have e:∀x∈l.take (k+1),x∈l.take k\/x=l[k]:=fun x a=>by
    rw[List.take_add_one,fP3 hk]at a;rcases gK3.1 a with h|h;exact .inl h;exact .inr (by simpa using h)
  by_cases hd:((Yw n l[k]:Int)-(Yw n r:Int))<0;rw[fJ3 (by simpa using hd),fD3];refine .mk ⟨⟨k+1,by dsimp only;omega,by omega,gX3 hk,fun x a=>?_⟩,by dsimp only;omega⟩;dsimp only;rcases e x a with h|h;have:=b x h;omega;rw[h];omega;rw[fM3 (by simpa using hd),fD3];refine .mk ⟨⟨k+1,by dsimp only;omega,by omega,c,fun x a=>?_⟩,by dsimp only;omega⟩;dsimp only;rcases e x a with h|h;exact b x h;rw[h];omega
  have hk : k = l.length := by have:¬(k<l.length):=by simpa using hc
                               omega
  subst hk;rw[hC3]at b;exact .mk ⟨c,b⟩;rw[List.take_add_one,fP3 hp]at a;simp at a;rw[a];exact fI3 _
def Yy:Ok (F73 n) (fun r=>r.1.length<=5):=by
 unfold F73;by_cases hn:0<=n/\n<=127;refine Ob (Sn hn.1 hn.2) fun r hr=>?_;refine Oi (fun _=>.mk (by simp)) (fun _=>?_);exact Ob (So (by omega)) fun m a=>.mk (by have:=a.1;dsimp only;omega);unfold Kf;rw[fJ3 (by simp;omega)];exact .mk (by simp)
def tH1 (p:YH) (i:YL):Ok (Sy p i) (fun r=>VP p/\uJ i=true/\∀q,VP q->Vq q=Vq p+i.eC->rL q=rL p+i.bC->r=(q,0))\/(¬(VP p/\uJ i=true)/\Ok (Sy p i) (fun _=>True)):=by
 by_cases h:VP p/\uJ i=true;left;obtain⟨hp,hi⟩:=h;have hr:=wQ hp;have hk:=Hb hi;unfold Sy;rw[kR1 hp hi,fD3];dsimp only;rw[fM3 (by simp)];obtain⟨⟨l,e⟩,h1,h2⟩:=Yv (n:=rL p+i.bC);have j:=Yy.of h1;rw[h1,fD3];dsimp only at h2 j ⊢;rcases h2 with⟨a,b,c⟩|⟨a,b,c⟩
 rw[fM3 (by simp[a])];refine Ob (Yx (by omega) b (fun x f=>((c x).1 f).1) (by omega) (by omega)) fun r g=>.mk ⟨hp,hi,fun q d q1 q2=>?_⟩;have f:=(c r).1 g.1;have:=g.2 q ((c q).2 ⟨d,q2⟩);unfold Yw at this;rw[VP.eq f.1 d (by omega) (by omega)];rw[fJ3 (by simpa using a)];exact .mk ⟨hp,hi,fun q d q1 q2=>absurd ⟨d,q2⟩ (c q)⟩;right;refine⟨h,?_⟩;obtain⟨a,b,e,h1,h2⟩:=tF1 h;unfold Sy;rw[h1,fD3];dsimp only;rw[fJ3 (by simpa using h2)];exact .mk trivial
def tI1 (p:YH) (i:YL):∃r,Sy p i=some r:=by
 rcases tH1 p i with h|⟨_,h⟩<;>exact h.ex
def tqP (i:YL) (p:YH):YH:=((Sy p i).getD (p,0)).1
def Yz (i:YL) (p:YH):Int:=((Sy p i).getD (p,0)).2
def Nn (p:YH) (i:YL):Sy p i=some (tqP i p,Yz i p):=by
 obtain⟨r,hr⟩:=tI1 p i;unfold tqP Yz;rw[hr];rfl
def ngI (i:YL):YL:=⟨0-i.eC,0-i.bC⟩
def lJ2 {i:YL} (h:uJ i=true):uJ (ngI i)=true:=by
 unfold uJ at h ⊢;unfold ngI;simp at h ⊢;omega
def exP (h0:0<=n) (h1:n<=127):∃q,VP q/\rL q=n:=by
 have h:=(by omega:n%12=0\/n%12=1\/n%12=2\/n%12=3\/n%12=4\/n%12=5\/n%12=6\/n%12=7\/n%12=8\/n%12=9\/n%12=10\/n%12=11)
 have f:∀(st al:Int),0<=st->st<=6->0<=al->al<=1->Sl st+al=n%12->∃q,VP q/\rL q=n:=fun st al a b c d e=>by
  have e2:rL ⟨st,al,n/12-1⟩=n:=by unfold rL;dsimp only;omega
  exact⟨⟨st,al,n/12-1⟩,⟨a,b,by dsimp only;omega,by dsimp only;omega,by dsimp only;omega,by dsimp only;omega,by rw[e2];exact h0,by rw[e2];exact h1⟩,e2⟩
 rcases h with h|h|h|h|h|h|h|h|h|h|h|h;exact f 0 0 (by decide) (by decide) (by decide) (by decide) (by rw[h];decide);exact f 0 1 (by decide) (by decide) (by decide) (by decide) (by rw[h];decide);exact f 1 0 (by decide) (by decide) (by decide) (by decide) (by rw[h];decide);exact f 1 1 (by decide) (by decide) (by decide) (by decide) (by rw[h];decide);exact f 2 0 (by decide) (by decide) (by decide) (by decide) (by rw[h];decide);exact f 3 0 (by decide) (by decide) (by decide) (by decide) (by rw[h];decide);exact f 3 1 (by decide) (by decide) (by decide) (by decide) (by rw[h];decide);exact f 4 0 (by decide) (by decide) (by decide) (by decide) (by rw[h];decide);exact f 4 1 (by decide) (by decide) (by decide) (by decide) (by rw[h];decide);exact f 5 0 (by decide) (by decide) (by decide) (by decide) (by rw[h];decide);exact f 5 1 (by decide) (by decide) (by decide) (by decide) (by rw[h];decide);exact f 6 0 (by decide) (by decide) (by decide) (by decide) (by rw[h];decide)
def lK2 {i:YL} (hp:VP p) (hi:uJ i=true) (h0:0<=rL p+i.bC) (h1:rL p+i.bC<=127):Yz i p=0:=by
 have hr:=wQ hp;have hk:=Hb hi
 have:Ok (Sy p i) (fun r=>r.2=0):=by
  unfold Sy;rw[kR1 hp hi,fD3];dsimp only;rw[fM3 (by simp)];obtain⟨⟨l,e⟩,q1,q2⟩:=Yv (n:=rL p+i.bC);have q3:=Yy.of q1;rw[q1,fD3];dsimp only at q2 q3 ⊢;rcases q2 with⟨a,b,c⟩|⟨a,b,c⟩
  rw[fM3 (by simp[a])];exact Ob (Yx (by omega) b (fun x f=>((c x).1 f).1) (by omega) (by omega)) fun r g=>.mk rfl;obtain⟨q,d⟩:=exP h0 h1;exact absurd d (c q)
 exact this.of (Nn p i)
end Go.P
namespace Go.P
variable {A:Type}
variable {s:Y0}
def Ia {l:aA A} {body:Int->aB (Int⊕(Unit⊕Unit))} (hl:l.length<9223372036854775808) (h:∀(i:Int) (x:A),i<(l.length:Int)->x∈l->bU l i=some x->bF (i+1)=i+1->body i=some (.inl (i+1))) (a:body (l.length:Int)=some (.inr (.inr ()))):aS body bK 0=some (.inr ()):=by
 refine Ok.eq (oT (l:=l) (fun _=>True) hl (fun i x h0 h1 b hg hw=>?_) (fun i hi _=>?_));rw[h i x h1 b hg hw];exact .mk ⟨rfl,trivial⟩;rw[hi,a];exact .mk rfl
def eqP {l:aA A} {c:A->A->Bool} (hl:l.length<9223372036854775808) (hc:∀x,c x x=true):(if(l.length:Int)!=(l.length:Int)then some false else(aS (E:=Unit⊕Unit) (fun(a:Int)=>if decide (a<(l.length:Int))then(bU l a).bind fun b=>(bU l a).bind fun d=>if(c b d)!=true then some (.inr (.inl ()))else some (.inl (bF (a+1)))else some (.inr (.inr ()))) bK 0).bind fun e=>(match e with|.inl _=>some false|.inr _=>some true))=some true:=by
 rw[fM3 (by simp),Ia (l:=l) hl (fun i x h1 f hg hw=>by rw[fJ3 (by simpa using h1),hg,fD3,fD3,hc,hw];rfl) (by simp)];rfl
def eqQ {l:aA A} {g:A->A->aB Bool} (hl:l.length<9223372036854775808) (hc:∀x∈l,g x x=some true):(if(l.length:Int)!=(l.length:Int)then some false else(aS (E:=Unit⊕Unit) (fun(a:Int)=>if decide (a<(l.length:Int))then(bU l a).bind fun c=>(bU l a).bind fun d=>(g c d).bind fun f=>if !f then some (.inr (.inl ()))else some (.inl (bF (a+1)))else some (.inr (.inr ()))) bK 0).bind fun e=>(match e with|.inl _=>some false|.inr _=>some true))=some true:=by
 rw[fM3 (by simp),Ia (l:=l) hl (fun i x h1 b hg hw=>by rw[fJ3 (by simpa using h1),hg,fD3,fD3,hc x b,hw];rfl) (by simp)];rfl
def rfB (b:ByteArray):(b==b)=true:=by cases b with|mk d=>exact(show(d==d)=true by simp)
def R35 {l:aA YF} (hl:l.length<=100000):F26 l l=some true:=by unfold F26 dM;exact eqP (by omega) (fun x=>by simp)
def R34 {p:YJ} (hp:p.sm):F25 p p=some true:=by
 have:=hp.cO;unfold F25;rw[R35 (by omega)];simp
def R36 {l:aA YJ} (hl:l.length<=100000) (h:∀p∈l,p.sm):F27 l l=some true:=by unfold F27 dM;exact eqQ (by omega) (fun x a=>R34 (h x a))
def R87 {l:aA YT} (hl:l.length<=100000):F64 l l=some true:=by unfold F64 dM;exact eqP (by omega) (fun x=>by simp)
def xP2 {l:aA YC} (hl:l.length<=100000):sI1 l l=some true:=by unfold sI1 dM;exact eqP (by omega) (fun x=>by simp)
def xQ2 {l:aA YB} (hl:l.length<=100000):Rw l l=some true:=by unfold Rw dM;exact eqP (by omega) (fun x=>by simp)
def xR2 {l:aA YD} (hl:l.length<=100000):Rx l l=some true:=by unfold Rx dM;exact eqP (by omega) (fun x=>by simp)
def xS2 {l:aA YY} (hl:l.length<=100000):cG1 l l=some true:=by unfold cG1 dM;exact eqP (by omega) (fun x=>by simp[rfB])
def xT2 {l:aA YU} (hl:l.length<=100000):sM1 l l=some true:=by
 have:sL1 l l=some true:=by unfold sL1 dM;exact eqP (by omega) (fun x=>by simp)
 unfold sM1;rw[this];rfl
def R39 {l:aA YN} (hl:l.length<=100000):F30 l l=some true:=by unfold F30 dM;exact eqP (by omega) (fun x=>by simp)
def R40 {l:aA YZ} (hl:l.length<=100000):F31 l l=some true:=by unfold F31 dM;exact eqP (by omega) (fun x=>by simp)
def xU2 {e:YE} (he:e.sm):sJ1 e e=some true:=by
 have:=he.cE;have:=he.bR;have:=he.cX;unfold sJ1 Ry;rw[xQ2 (by omega),xR2 (by omega),xS2 (by omega)];simp
def xV2 {l:aA YE} (hl:l.length<=100000) (h:∀p∈l,p.sm):sK1 l l=some true:=by unfold sK1 dM;exact eqQ (by omega) (fun x a=>xU2 (h x a))
def xW2 {v:YO} (hv:v.sm):sN1 v v=some true:=by
 have:=hv.aW;have:=hv.cT;unfold sN1;rw[xV2 (by omega) hv.fP,xT2 (by omega)];rfl
def xX2 {l:aA YO} (hl:l.length<=100000) (h:∀p∈l,p.sm):sO1 l l=some true:=by unfold sO1 dM;exact eqQ (by omega) (fun x a=>xW2 (h x a))
def R89 {c:YW} (hc:c.sm):F66 c c=some true:=by
 have:=hc.iI;have:=hc.aT;unfold F66;rw[xP2 (by omega),xX2 (by omega) hc.fI];rfl
def R88 {l:aA YW} (hl:l.length<=100000) (h:∀p∈l,p.sm):F65 l l=some true:=by unfold F65 dM;exact eqQ (by omega) (fun x a=>R89 (h x a))
def R38 {m:YM} (a:m.sm):F29 m m=some true:=by
 have:=a.fR;have:=a.aO;unfold F29 F63;rw[R87 (by omega),R88 (by omega) a.gK];simp[rfB]
def R37 {l:aA YM} (hl:l.length<=100000) (h:∀p∈l,p.sm):F28 l l=some true:=by unfold F28 dM;exact eqQ (by omega) (fun x a=>R38 (h x a))
def R11 (hs:s.sm):F11 s s=some true:=by
 have:=hs.aU;have:=hs.aF;have:=hs.bT;have:=hs.kI;unfold F11;rw[R36 (by omega) hs.lV,R37 (by omega) hs.cH,R39 (by omega),R40 (by omega)];simp
end Go.P
namespace Go.P
variable {L:aA YL}
variable {s:Y0}
def Sp:aA YJ->Nat->Nat->aB Nat
 |[],_,_=>none
 |p::r,i,k=>if k<p.cO.length then some i else Sp r (i+1) (k-p.cO.length)
def Sz (s:Y0) (k:Nat):Nat:=(Sp s.aU 0 k).getD 0
def Vr:∀(l:aA YJ) (i k n:Nat),Sp l i k=some n->i<=n/\n<i+l.length
 |[],_,_,_,h=>by cases h
 |p::r,i,k,n,h=>by
  unfold Sp at h
  split at h
  cases h;simp
  have:=Vr r (i+1) _ n h
  simp;omega
def kV1 (a:0<s.aU.length) (k:Nat):Sz s k<s.aU.length:=by
 unfold Sz;cases h:Sp s.aU 0 k with
 |none=>exact a
 |some n=>have:=Vr _ _ _ _ h;simp;omega
def Za:∀(l:aA YJ) (i k:Nat),k<(l.map fun p=>p.cO.length).sum->Sp l i k≠none
 |[],_,_,h=>by simp at h
 |p::r,i,k,h=>by
  unfold Sp
  split
  simp
  exact Za r (i+1) _ (by simp at h;omega)
def Zb {X:Type} {l:aA YJ} {body:Int×Int->aB ((Int×Int)⊕(X⊕Unit))} {res:Int->Int->X} (hl:l.length<1000) {k:Nat} (hk:k<1000000)
  (h:∀(i j:Nat) (p:YJ),l[i]? =some p->j<=k->body ((j:Int),(i:Int))=if j<p.cO.length then some (.inr (.inl (res ((i:Nat):Int) ((j:Nat):Int))))else some (.inl (((j-p.cO.length:Nat):Int),((i+1:Nat):Int))))
  (a:∀j,body (j,(l.length:Int))=some (.inr (.inr ()))):(Sp l 0 k=none->aS body bK ((k:Int),0)=some (.inr ()))/\∀n,Sp l 0 k=some n->∃j,aS body bK ((k:Int),0)=some (.inl (res (n:Int) j)):=by
 have d:∀(m i j:Nat),i+m=l.length->j<=k->∀f,m<f->(Sp (l.drop i) i j=none->aS body f ((j:Int),(i:Int))=some (.inr ()))/\∀n,Sp (l.drop i) i j=some n->∃q,aS body f ((j:Int),(i:Int))=some (.inl (res (n:Int) q)):=by
  intro m
  induction m with
  |zero=>
   intro i j hi c f hf;obtain⟨f,rfl⟩:∃g,f=g+1:=⟨f-1,by omega⟩
   have hi:i=l.length:=by omega
   subst hi;rw[List.drop_length];refine⟨fun _=>?_,fun n h=>by cases h⟩;simp only[aS];rw[a];rfl
  |succ m ih=>
   intro i j hi c f hf;obtain⟨f,rfl⟩:∃g,f=g+1:=⟨f-1,by omega⟩
   have b:i<l.length:=by omega
   rw[List.drop_eq_getElem_cons b];unfold Sp;simp only[aS];rw[h i j l[i] (fP3 b) c];by_cases hc:j<l[i].cO.length;rw[fJ3 hc,fJ3 hc];exact⟨fun h=>(by cases h),fun n h=>by cases h;exact⟨_,rfl⟩⟩;rw[fM3 hc,fM3 hc];exact ih (i+1) _ (by omega) (by omega) f (by omega)
 exact d l.length 0 k (by omega) (fI3 _) bK (by simp only[bK];omega)
def aQ2 {k:Nat} (hk:k<1000000) (b:s.aU.length<1000):F62 s (k:Int)=some (Sz s k:Int):=by
 unfold F62 dM
 obtain⟨h1,h2⟩:=Zb (l:=s.aU) (k:=k) (res:=fun i j=>i) (body:=fun(⟨c,a⟩:Int×Int)=>if decide (a<(s.aU.length:Int))then(bU s.aU a).bind fun e=>if decide (c<(e.cO.length:Int))then some (.inr (.inl a))else(bU s.aU a).bind fun f=>some (.inl (bF (c-(f.cO.length:Int)),bF (a+1)))else some (.inr (.inr ()))) b hk (fun i j p hp g=>by
  have hi:=(fE3.1 hp).1;have he:=(fE3.1 hp).2;dsimp only;rw[fJ3 (by simpa using hi),kL hi,he,fD3,fD3];by_cases hc:j<p.cO.length;rw[fJ3 (by simpa using hc),fJ3 hc];rw[fM3 (by simpa using hc),fM3 hc,bO (by omega) (by omega),bO (by omega) (by omega)];congr 4;omega) (fun j=>by dsimp only;rw[fM3 (by simp)])
 unfold Sz;cases h:Sp s.aU 0 k with
 |none=>rw[h1 h];rfl
 |some n=>obtain⟨j,d⟩:=h2 n h;rw[d];rfl
def kW1 {k:Nat} (hk:k<1000000) (b:s.aU.length<1000):∃j e,F42 s (k:Int)=some ((Sz s k:Int),j,e)/\(Sp s.aU 0 k≠none->e=0):=by
 unfold F42 dM;rw[fM3 (by simp)]
 obtain⟨h1,h2⟩:=Zb (l:=s.aU) (k:=k) (res:=fun i j=>(i,j)) (body:=fun(⟨c,a⟩:Int×Int)=>if decide (a<(s.aU.length:Int))then(bU s.aU a).bind fun d=>if decide (c<(d.cO.length:Int))then some (.inr (.inl (a,c)))else some (.inl (bF (c-(d.cO.length:Int)),bF (a+1)))else some (.inr (.inr ()))) b hk (fun i j p hp g=>by
  have hi:=(fE3.1 hp).1;have he:=(fE3.1 hp).2;dsimp only;rw[fJ3 (by simpa using hi),kL hi,he,fD3];by_cases hc:j<p.cO.length;rw[fJ3 (by simpa using hc),fJ3 hc];rw[fM3 (by simpa using hc),fM3 hc,bO (by omega) (by omega),bO (by omega) (by omega)];congr 4;omega) (fun j=>by dsimp only;rw[fM3 (by simp)])
 unfold Sz;cases h:Sp s.aU 0 k with
 |none=>rw[h1 h];exact⟨0,2,rfl,fun h=>absurd rfl h⟩
 |some n=>obtain⟨j,f⟩:=h2 n h;rw[f];exact⟨j,0,rfl,fun _=>rfl⟩
def vC (s:Y0) (L:aA YL) (k:Nat):YL:=(L[Sz s k]?).getD ⟨0,0⟩
def Zc (b:L.length=s.aU.length) (a:0<s.aU.length) (k:Nat):bU L (Sz s k:Int)=some (vC s L k):=by
 have h:=kV1 a k;rw[kL (by omega)];unfold vC;rw[fP3 (by omega)];rfl
def kX1 {k:Nat} {p:YH} (b:L.length=s.aU.length) (c:0<s.aU.length) (a:s.aU.length<1000) (hk:k<1000000):F41 (k:Int) p s L=some (tqP (vC s L k) p,Yz (vC s L k) p):=by
 obtain⟨j,e,h1,_⟩:=kW1 (s:=s) hk a;unfold F41;rw[h1,fD3];dsimp only;rw[Zc b c,fD3,Nn];rfl
end Go.P
namespace Go.P
variable {A S X:Type} {L:aA YL} {c e:Int}
variable {s:Y0}
def Bf (l G:aA A) (p:G.length=l.length) {body:S->aB (S⊕X)} (mk:Int->aA A->Int->S) (z:Nat->Prop) (F:aA A->Int->X) (g:Int) (hl:l.length<4611686018427387904)
  (h:∀(i:Nat) (x y:A) (d:aA A) (e:Int),l[i]? =some x->G[i]? =some y->i<d.length->d.length=l.length->eE d (i:Int)=some i->d[i]? =some x->bF ((i:Int)+1)=((i+1:Nat):Int)->(i:Int)<(l.length:Int)->∃e',body (mk (i:Int) d e)=some (.inl (mk ((i+1:Nat):Int) (d.set i y) e'))/\(e'=0↔e=0/\z i))
  (o:∀d e,d.length=l.length->body (mk (l.length:Int) d e)=some (.inr (F d e))):∃e,aS body bK (mk 0 l g)=some (F G e)/\(e=0↔g=0/\∀i,i<l.length->z i):=by
 have key:Ok (aS body bK (mk 0 l g)) (fun r=>∃e,r=F G e/\(e=0↔g=0/\∀i,i<l.length->z i)):=by
  have s:∀(m n:Nat) (e:Int),n+m=l.length->(e=0↔g=0/\∀i,i<n->z i)->∀k,m<k->Ok (aS body k (mk (n:Int) (G.take n++l.drop n) e)) (fun r=>∃e,r=F G e/\(e=0↔g=0/\∀i,i<l.length->z i)):=by
   intro m
   induction m with
   |zero=>
    intro n e hn he k hk;obtain⟨k,rfl⟩:∃j,k=j+1:=⟨k-1,by omega⟩
    have hn:n=l.length:=by omega
    subst hn;rw[<-p,hC3,p,List.drop_length,hS3];simp only[aS];rw[o _ _ p];exact .mk ⟨e,rfl,he⟩
   |succ m ih=>
    intro n e hn he k hk;obtain⟨k,rfl⟩:∃j,k=j+1:=⟨k-1,by omega⟩
    have hnl:n<l.length:=by omega
    have f:n<G.length:=by omega
    have hlen:(G.take n++l.drop n).length=l.length:=by simp;omega
    have hd:l.drop n=l[n]::l.drop (n+1):=List.drop_eq_getElem_cons hnl
    have aK:(G.take n++l.drop n)[n]? =some l[n]:=by
     rw[iL3 (by simp;omega)];simp[hnl,hI3 (gQ3 f)]
    obtain⟨e',h1,h2⟩:=h n l[n] G[n] (G.take n++l.drop n) e (fP3 hnl) (fP3 f) (by omega) hlen (kM (by omega)) aK (bO (by omega) (by omega)) (by omega)
    have dB:(G.take n++l.drop n).set n G[n]=G.take (n+1)++l.drop (n+1):=by
     rw[List.set_append_right _ _ (by simp;omega),hd];simp only[hW3,hI3 (gQ3 f),Nat.sub_self,List.set_cons_zero];rw[List.take_add_one,fP3 f,List.append_assoc];rfl
    simp only[aS];rw[h1,dB];refine ih (n+1) e' (by omega) ?_ k (by omega);rw[h2,he];constructor;rintro⟨⟨a,b⟩,c⟩;refine⟨a,fun i hi=>?_⟩;by_cases q:i<n;exact b i q;have:i=n:=by omega
    rw[this];exact c;rintro⟨a,b⟩;exact⟨⟨a,fun i hi=>b i (by omega)⟩,b n (by omega)⟩
  have:=s l.length 0 g (by omega) ⟨fun h=>⟨h,fun i hi=>by omega⟩,fun h=>h.1⟩ bK (by simp only[bK];omega);simpa using this
 obtain⟨r,h1,e,h2,t⟩:=key;exact⟨e,by rw[h1,h2],t⟩
def uK (l:aA A) {body:S->aB (S⊕X)} (mk:Int->aA A->Int->S) (f:A->A) (z:A->Prop) (F:aA A->Int->X) (n:Int) (hl:l.length<4611686018427387904)
  (h:∀(i:Nat) (x:A) (g:aA A) (e:Int),x∈l->i<g.length->g.length=l.length->eE g (i:Int)=some i->g[i]? =some x->bF ((i:Int)+1)=((i+1:Nat):Int)->(i:Int)<(l.length:Int)->∃e',body (mk (i:Int) g e)=some (.inl (mk ((i+1:Nat):Int) (g.set i (f x)) e'))/\(e'=0↔e=0/\z x))
  (k:∀g e,g.length=l.length->body (mk (l.length:Int) g e)=some (.inr (F g e))):∃e,aS body bK (mk 0 l n)=some (F (l.map f) e)/\(e=0↔n=0/\∀x∈l,z x):=by
 obtain⟨e,h1,h2⟩:=Bf l (l.map f) (gV3 _) mk (fun i=>∀x,l[i]? =some x->z x) F n hl (fun i x y g e j hy a b c d w q=>by
  rw[gG3,j]at hy;cases hy;obtain⟨e',o,p⟩:=h i x g e (fL3 j) a b c d w q;exact⟨e',o,p.trans ⟨fun h=>⟨h.1,fun r m=>by rw[j]at m;cases m;exact h.2⟩,fun h=>⟨h.1,h.2 x j⟩⟩⟩) k
 refine⟨e,h1,h2.trans ⟨fun h=>⟨h.1,fun x j=>?_⟩,fun h=>⟨h.1,fun i hi x j=>h.2 x (fL3 j)⟩⟩⟩;obtain⟨i,hi⟩:=fQ3.1 j;exact h.2 i (fE3.1 hi).1 x hi
def fH (i:YL) (h:YB):YB:=⟨tqP i h.cA,h.Hj,h.Hh⟩
def fG (i:YL) (h:YD):YD:=⟨tqP i h.cA,h.Log,h.zF⟩
def fE (i:YL) (e:YE):YE:=⟨e.ID,e.dH,e.Value,e.cE.map (fH i),e.bR.map (fG i),e.bD,e.cS,e.dC,e.cX,e.jO,e.jQ⟩
def fVo (i:YL) (v:YO):YO:=⟨v.aW.map (fE i),v.cT⟩
def fC (i:YL) (c:YW):YW:=⟨c.iI,c.aT.map (fVo i)⟩
def fCs (a:Nat->YL) (cs:aA YW):aA YW:=cs.mapIdx fun k c=>fC (a k) c
def fM (a:Nat->YL) (m:YM):YM:=⟨m.ID,m.dK,m.gQ,m.eM,m.cN,m.bN,m.bS,m.lU,m.fL,m.jN,m.jY,m.cW,m.fR,fCs a m.aO⟩
def zE (i:YL) (e:YE):Prop:=(∀h∈e.cE,Yz i h.cA=0)/\∀g∈e.bR,Yz i g.cA=0
def zV (i:YL) (v:YO):Prop:=∀e∈v.aW,zE i e
def zC (i:YL) (c:YW):Prop:=∀v∈c.aT,zV i v
def zM (a:Nat->YL) (m:YM):Prop:=∀k c,m.aO[k]? =some c->zC (a k) c
def cmb (a b:Int):∃c,(if a==0 then some b else some a:aB Int)=some c/\(c=0↔a=0/\b=0):=by
 by_cases h:a=0;subst h;exact⟨b,by simp,by simp⟩;exact⟨a,by rw[fM3 (by simpa using h)],by simp[h]⟩
def kV {l:aA A} {i:Nat} {x:A} {f:A->A} (h:l[i]? =some x):gR l i f=some (l.set i (f x)):=by
 unfold gR;rw[h];rfl
def tM1 {k i:Nat} {l:aA YB} {x:YB} (h:l[i]? =some x) (b:L.length=s.aU.length) (d:0<s.aU.length) (a:s.aU.length<1000) (hk:k<1000000):∃e',sG1 (k:Int) i l e L s=some (l.set i (fH (vC s L k) x),e')/\(e'=0↔e=0/\Yz (vC s L k) x.cA=0):=by
 obtain⟨c,h1,h2⟩:=cmb e (Yz (vC s L k) x.cA);refine⟨c,?_,h2⟩;unfold sG1;rw[show dX l i=some x from h,fD3,kX1 b d a hk,fD3];dsimp only;rw[h1,fD3,kV h];rfl
def kY1 {k i:Nat} {l:aA YD} {x:YD} (h:l[i]? =some x) (b:L.length=s.aU.length) (d:0<s.aU.length) (a:s.aU.length<1000) (hk:k<1000000):∃e',Ni (k:Int) i l e L s=some (l.set i (fG (vC s L k) x),e')/\(e'=0↔e=0/\Yz (vC s L k) x.cA=0):=by
 obtain⟨c,h1,h2⟩:=cmb e (Yz (vC s L k) x.cA);refine⟨c,?_,h2⟩;unfold Ni;rw[show dX l i=some x from h,fD3,kX1 b d a hk,fD3];dsimp only;rw[h1,fD3,kV h];rfl
def Hc {b:Bool} {l m:aA A} (h:l.length+m.length<1000000) (h2:m.length<=1\/b=false):lM b l m=some (l++m):=by
 unfold lM;have e:Sim.maxRoom=1073741824:=rfl;rw[fJ3 ⟨by rw[e];omega,fun hb=>h2.elim id (fun h2=>by rw[hb]at h2;cases h2)⟩]
def kZ1 {l:aA A} {x:A} (h:l.length<1000):lM true l [x]=some (l++[x]):=Hc (by simp;omega) (.inl (by simp))
def Zd (h:0<=c) (h2:c<=1000000):bE1 c=some ():=by
 unfold bE1;have e:Sim.maxRoom=1073741824:=rfl;rw[fJ3 ⟨h,by rw[e];omega⟩]
def uL (l:aA A) {body:Int×aA A->aB ((Int×aA A)⊕aA A)} (hl:l.length<1000)
  (h:∀(i:Nat) (x:A) (a:aA A),x∈l->a.length=i->i<l.length->bU l (i:Int)=some x->bF ((i:Int)+1)=((i+1:Nat):Int)->body ((i:Int),a)=some (.inl (((i+1:Nat):Int),a++[x])))
  (b:∀a,body ((l.length:Int),a)=some (.inr a)):aS body bK (0,[])=some l:=by
 have c:∀(m n:Nat),n+m=l.length->∀k,m<k->aS body k ((n:Int),l.take n)=some l:=by
  intro m
  induction m with
  |zero=>
   intro n hn k hk;obtain⟨k,rfl⟩:∃j,k=j+1:=⟨k-1,by omega⟩
   have hn:n=l.length:=by omega
   subst hn;simp only[aS];rw[b,hC3];rfl
  |succ m ih=>
   intro n hn k hk;obtain⟨k,rfl⟩:∃j,k=j+1:=⟨k-1,by omega⟩
   have hnl:n<l.length:=by omega
   simp only[aS];rw[h n l[n] (l.take n) (gX3 hnl) (by simp;omega) hnl (kL hnl) (bO (by omega) (by omega))];have e:l.take n++[l[n]]=l.take (n+1):=by rw[List.take_add_one,fP3 hnl];rfl
   rw[e];exact ih (n+1) (by omega) k (by omega)
 exact c l.length 0 (by omega) bK (by simp only[bK];omega)
def lA1 {e:YE} (he:e.sm):Gw e=some (e.cX,e.bR,e.cE):=by
 have:=he.cE;have:=he.bR;have:=he.cX;unfold Gw;rw[jX (by omega),jX (by omega),jX (by omega)];rfl
def lB1 {v:YO} (hv:v.sm):Yl v=some (v.cT,v.aW):=by
 have:=hv.aW;have:=hv.cT;unfold Yl dM;rw[uL v.aW (by omega) (fun i x a c d hi hg hw=>?_) (fun a=>by dsimp only;rw[fM3 (by simp)]),fD3,Hc (by simp;omega) (.inr rfl)];rfl;dsimp only;rw[fJ3 (by simp;omega),hg,fD3,lA1 (hv.fP x c),hw];exact congrArg (fun z:aB (aA YE)=>z.bind fun b=>some (Sum.inl (((i+1:Nat):Int),b))) (kZ1 (l:=a) (x:=x) (by omega))
def tN1 {c:YW} (hc:c.sm):rX1 c=some (c.iI,c.aT):=by
 have:=hc.iI;have:=hc.aT;unfold rX1 dM;rw[jX (by omega),fD3,uL c.aT (by omega) (fun i x a d e hi hg hw=>?_) (fun a=>by dsimp only;rw[fM3 (by simp)])];rfl;dsimp only;rw[fJ3 (by simp;omega),hg,fD3,lB1 (hc.fI x d),hw];exact congrArg (fun z:aB (aA YO)=>z.bind fun b=>some (Sum.inl (((i+1:Nat):Int),b))) (kZ1 (l:=a) (x:=x) (by omega))
def tO1 {m:YM} (b:m.sm):rY1 m=some (m.fR,m.aO):=by
 have:=b.fR;have:=b.aO;unfold rY1 dM;rw[jX (by omega),fD3,uL m.aO (by omega) (fun i x a d e hi hg hw=>?_) (fun a=>by dsimp only;rw[fM3 (by simp)])];rfl;dsimp only;rw[fJ3 (by simp;omega),hg,fD3,tN1 (b.gK x d),hw];exact congrArg (fun z:aB (aA YW)=>z.bind fun c=>some (Sum.inl (((i+1:Nat):Int),c))) (kZ1 (l:=a) (x:=x) (by omega))
def aR2 {p:YJ} (hp:p.sm):F36 p=some p:=by
 have:=hp.cO;unfold F36;rw[jX (by omega)];rfl
def Dn (hs:s.sm):Si s=some (s.bT,s.kI,s.aF,s.aU):=by
 have:=hs.aU;have:=hs.aF;have:=hs.bT;have:=hs.kI;unfold Si dM;rw[Zd (by omega) (by omega),fD3,uL s.aU (by omega) (fun i x a b d hi hg hw=>?_) (fun a=>by dsimp only;rw[fM3 (by simp)]),fD3,Zd (by omega) (by omega),fD3,uL s.aF (by omega) (fun i x a b d hi hg hw=>?_) (fun a=>by dsimp only;rw[fM3 (by simp)]),fD3,jX (by omega),jX (by omega)];rfl;dsimp only;rw[fJ3 (by simp;omega),hg,fD3,tO1 (hs.cH x b),hw];exact congrArg (fun z:aB (aA YM)=>z.bind fun c=>some (Sum.inl (((i+1:Nat):Int),c))) (kZ1 (l:=a) (x:=x) (by omega));dsimp only;rw[fJ3 (by simp;omega),hg,fD3,aR2 (hs.lV x b),fD3,hw,kZ1 (l:=a) (x:=x) (by omega)];rfl
end Go.P
namespace Go.P
variable {s:Y0}
def exU {X Y:Type} {x:aB X} {k:X->aB Y} {F:Int->X} {P:Int->Prop} {R:Int->aB Y} {W:Int->Prop} (h:∃e,x=some (F e)/\P e) (hk:∀e,P e->∃e',k (F e)=R e'/\W e'):∃e',x.bind k=R e'/\W e':=by
 obtain⟨e,h1,h2⟩:=h;rw[h1];exact hk e h2
def Dp (a:Nat->YL) (l:aA YW):(fCs a l).length=l.length:=by unfold fCs;simp
def No (a:Nat->YL) {l:aA YW} {i:Nat} {x y:YW} (b:l[i]? =some x) (hy:(fCs a l)[i]? =some y):y=fC (a i) x:=by
 unfold fCs at hy;rw[List.getElem?_mapIdx,b]at hy;exact(gC3 hy).symm
def Ze (hs:s.sm) {L:aA YL} (hL:L.length=s.aU.length) (hP:0<s.aU.length):∃e,kB1 s L s=some (if(e !=0)=true then .inl e else .inr (s.bT,s.kI,s.aF.map (fM (vC s L)),s.aU))/\(e=0↔∀m∈s.aF,zM (vC s L) m):=by
 have hM:=hs.aF;have d0:=hs.aU;unfold kB1;rw[Dn hs,fD3];dsimp only;refine exU (F:=fun e=>(e,s.aF.map (fM (vC s L)))) (P:=fun e=>(e=0↔(0:Int)=0/\∀m∈s.aF,zM (vC s L) m)) (uK s.aF (fun k a e=>(k,e,a)) (fM (vC s L)) (zM (vC s L)) (fun a e=>(e,a)) 0 (by omega) (fun i m a e O hi hlen Z hg hw Y=>?_) (fun a e _=>by dsimp only;rw[fM3 (by simp)])) (fun e he=>⟨e,?_,by simpa using he⟩)
 rotate_left
 .dsimp only
  by_cases h:e=0
  .rw [fM3 (by simp[h]),fM3 (by simp[h])]
  .rw [fJ3 (by simp[h]),fJ3 (by simp[h])]
 have hC:=(hs.cH m O).aO;dsimp only;rw[fJ3 (by simpa using Y),Z,fD3,show dX a i=some m from hg,fD3,hw];refine exU (F:=fun e=>(e,a.set i (fM (vC s L) m))) (P:=fun e'=>(e'=0↔e=0/\∀k,k<m.aO.length->∀c,m.aO[k]? =some c->zC (vC s L k) c)) (Bf m.aO (fCs (vC s L) m.aO) (Dp _ _) (fun k a e=>(k,a,e)) (fun k=>∀c,m.aO[k]? =some c->zC (vC s L k) c) (fun cs e=>(e,a.set i (YM.mk m.ID m.dK m.gQ m.eM m.cN m.bN m.bS m.lU m.fL m.jN m.jY m.cW m.fR cs))) e (by omega) (fun N c yc r e2 g b8 d2 V H A b0 D=>?_) (fun cs e _=>by dsimp only;rw[fM3 (by simp),kV hg];rfl)) (fun e he=>⟨e,rfl,he.trans ⟨fun h=>⟨h.1,fun k c hc=>h.2 k (fE3.1 hc).1 c hc⟩,fun h=>⟨h.1,fun k _ c hc=>h.2 k c hc⟩⟩⟩);have l:=fL3 g;have hV:=((hs.cH m O).gK c l).aT;have b9:=No _ g b8;subst b9;have j:N<1000000:=by omega
 generalize hv:vC s L N=v;dsimp only;rw[fJ3 (by simpa using D),H,fD3,show dX r N=some c from A,fD3,b0];refine exU (F:=fun e=>(c.aT.map (fVo v),e)) (P:=fun e'=>(e'=0↔e2=0/\∀x∈c.aT,zV v x)) (uK c.aT (fun k a e=>(k,a,e)) (fVo v) (zV v) (fun cs e=>(cs,e)) e2 (by omega) (fun i3 w b e3 M d3 W J B b4 E=>?_) (fun cs e _=>by dsimp only;rw[fM3 (by simp)])) (fun e he=>⟨e,by dsimp only;rw[kV A];rfl,he.trans ⟨fun h=>⟨h.1,fun c' z=>by rw[g]at z;cases z;exact h.2⟩,fun h=>⟨h.1,h.2 c g⟩⟩⟩);have hE:=(((hs.cH m O).gK c l).fI w M).aW;dsimp only;rw[fJ3 (by simpa using E),J,fD3,show dX b i3=some w from B,fD3,b4];refine exU (F:=fun e=>(b.set i3 (fVo v w),e)) (P:=fun e'=>(e'=0↔e3=0/\∀x∈w.aW,zE v x)) (uK w.aW (fun k a e=>(k,a,e)) (fE v) (zE v) (fun cs e=>(b.set i3 (YO.mk cs w.cT),e)) e3 (by omega) (fun i4 y t e4 b6 T X K C b5 G=>?_) (fun cs e _=>by dsimp only;rw[fM3 (by simp),kV B];rfl)) (fun e he=>⟨e,rfl,he⟩);have hY:=(((hs.cH m O).gK c l).fI w M).fP y b6;have hH:=hY.cE;have hG:=hY.bR;dsimp only;rw[fJ3 (by simpa using G),K,fD3,show dX t i4=some y from C,fD3,b5];refine exU (F:=fun e=>(y.cE.map (fH v),e)) (P:=fun e'=>(e'=0↔e4=0/\∀x∈y.cE,Yz v x.cA=0)) (uK y.cE (fun k a e=>(k,a,e)) (fH v) (fun x=>Yz v x.cA=0) (fun cs e=>(cs,e)) e4 (by omega) (fun i5 x u q b7 U o f n p d=>?_) (fun cs e _=>by dsimp only;rw[fM3 (by simp)])) (fun q R=>?_)
 .dsimp only
  rw[fJ3 (by simpa using d),f,fD3,p];obtain⟨e',h1,h2⟩:=tM1 (s:=s) (L:=L) (k:=N) (e:=q) n hL hP (by omega) j;rw[hv]at h1 h2;exact⟨e',by rw[h1];rfl,h2⟩
 dsimp only;refine exU (F:=fun e=>(y.bR.map (fG v),e)) (P:=fun e'=>(e'=0↔q=0/\∀x∈y.bR,Yz v x.cA=0)) (uK y.bR (fun k a e=>(k,a,e)) (fG v) (fun x=>Yz v x.cA=0) (fun cs e=>(cs,e)) q (by omega) (fun i5 x u q b7 U o f n p d=>?_) (fun cs e _=>by dsimp only;rw[fM3 (by simp)])) (fun e6 S=>?_)
 .dsimp only
  rw[fJ3 (by simpa using d),f,fD3,p];obtain⟨e',h1,h2⟩:=kY1 (s:=s) (L:=L) (k:=N) (e:=q) n hL hP (by omega) j;rw[hv]at h1 h2;exact⟨e',by rw[h1];rfl,h2⟩
 refine⟨e6,?_,?_⟩
 .dsimp only
  rw[kV C,fD3,kV (x:=(YE.mk y.ID y.dH y.Value y.cE (y.bR.map (fG v)) y.bD y.cS y.dC y.cX y.jO y.jQ)) (by rw[List.getElem?_set_self T]),fD3,List.set_set];rfl
 .rw [S,R]
  unfold zE;exact⟨fun h=>⟨h.1.1,h.1.2,h.2⟩,fun h=>⟨⟨h.1,h.2.1⟩,h.2.2⟩⟩
end Go.P
namespace Go.P
variable {A B S X:Type} {L:aA YL}
variable {s:Y0}
def Np {l:aA A} {i:Nat} {x:A} (h:l[i]? =some x):l.set i x=l:=by
 obtain⟨hi,he⟩:=fE3.1 h;rw[<-he];exact List.set_getElem_self hi
def pU {l:aA A} {i:Nat} {x y:A} (h:l[i]? =some x):(l.set i y)[i]? =some y:=List.getElem?_set_self (fE3.1 h).1
def nW {l:aA A} {i:Nat} {x y:A} {f:A->A} (h:l[i]? =some x):gR (l.set i y) i f=some (l.set i (f y)):=by
 rw[kV (pU h),List.set_set]
def eH (e:YE) (hs:aA YB):YE:=⟨e.ID,e.dH,e.Value,hs,e.bR,e.bD,e.cS,e.dC,e.cX,e.jO,e.jQ⟩
def eG (e:YE) (a:aA YD):YE:=⟨e.ID,e.dH,e.Value,e.cE,a,e.bD,e.cS,e.dC,e.cX,e.jO,e.jQ⟩
def mC (m:YM) (cs:aA YW):YM:=⟨m.ID,m.dK,m.gQ,m.eM,m.cN,m.bN,m.bS,m.lU,m.fL,m.jN,m.jY,m.cW,m.fR,cs⟩
def bP {x:aB A} {y:A} {k:A->aB B} {r:aB B} (h:x=some y) (hk:k y=r):x.bind k=r:=by rw[h];exact hk
def Sq (l G:aA A) (n:G.length=l.length) {body:S->aB (S⊕X)} (mk:Int->aA A->S) (F:aA A->X) (hl:l.length<4611686018427387904)
  (h:∀(i:Nat) (x y:A) (j:aA A),l[i]? =some x->G[i]? =some y->i<j.length->j.length=l.length->eE j (i:Int)=some i->j[i]? =some x->bF ((i:Int)+1)=((i+1:Nat):Int)->(i:Int)<(l.length:Int)->body (mk (i:Int) j)=some (.inl (mk ((i+1:Nat):Int) (j.set i y))))
  (m:∀j,j.length=l.length->body (mk (l.length:Int) j)=some (.inr (F j))):aS body bK (mk 0 l)=some (F G):=by
 obtain⟨e,h1,_⟩:=Bf l G n (body:=body) (fun k j _=>mk k j) (fun _=>True) (fun j _=>F j) 0 hl (fun i x y j e a b c d f g q t=>⟨e,h i x y j a b c d f g q t,by simp⟩) (fun j e hc=>m j hc);exact h1
def lpH (v:YL) (j:Nat) (E:aA YE):aB (aA YE):=aS (E:=aA YE) (fun(⟨e,d⟩:Int×(aA YE))=>(dX d j).bind fun c=>if decide (e<(c.cE.length:Int))then(dX d j).bind fun o=>(dX d j).bind fun p=>(eE c.cE e).bind fun g=>(dX c.cE g).bind fun h=>(Sy h.cA v).bind fun⟨i,q⟩=>(eE c.cE e).bind fun k=>(gR c.cE k (fun f=>(YB.mk i f.Hj f.Hh))).bind fun l=>(gR d j (fun a=>(YE.mk a.ID a.dH a.Value l a.bR a.bD a.cS a.dC a.cX a.jO a.jQ))).bind fun m=>some (.inl (bF (e+1),m))else(gR d j (fun b=>(YE.mk b.ID b.dH b.Value c.cE b.bR b.bD b.cS b.dC b.cX b.jO b.jQ))).bind fun n=>some (.inr n)) bK (0,E)
def lpG (v:YL) (V:aA YO) (q j:Nat) (E:aA YE):aB (aA YO):=aS (E:=aA YO) (fun(⟨e,d⟩:Int×(aA YE))=>(dX d j).bind fun c=>if decide (e<(c.bR.length:Int))then(dX d j).bind fun r=>(dX d j).bind fun s=>(eE c.bR e).bind fun g=>(dX c.bR g).bind fun h=>(Sy h.cA v).bind fun⟨i,t⟩=>(eE c.bR e).bind fun k=>(gR c.bR k (fun f=>(YD.mk i f.Log f.zF))).bind fun l=>(gR d j (fun a=>(YE.mk a.ID a.dH a.Value a.cE l a.bD a.cS a.dC a.cX a.jO a.jQ))).bind fun m=>some (.inl (bF (e+1),m))else(gR d j (fun b=>(YE.mk b.ID b.dH b.Value b.cE c.bR b.bD b.cS b.dC b.cX b.jO b.jQ))).bind fun n=>(gR V q (fun o=>(YO.mk n o.cT))).bind fun p=>some (.inr p)) bK (0,E)
def lpE (v:YL) (q:Int) (V:aA YO):aB (aA YO):=aS (E:=aA YO) (fun(⟨d,a⟩:Int×(aA YO))=>(eE a q).bind fun b=>(dX a b).bind fun c=>if decide (d<(c.aW.length:Int))then(dX a b).bind fun j=>(eE c.aW d).bind fun e=>(lpH v e c.aW).bind fun f=>(lpG v a b e f).bind fun g=>some (.inl (bF (d+1),g))else(gR a b (fun h=>(YO.mk c.aW h.cT))).bind fun i=>some (.inr i)) bK (0,V)
def lpV (v:YL) (V:aA YO):aB (aA YO):=aS (E:=aA YO) (fun(⟨a,b⟩:Int×(aA YO))=>if decide (a<(b.length:Int))then(lpE v a b).bind fun c=>some (.inl (bF (a+1),c))else some (.inr b)) bK (0,V)
def lpC (u:Y0) (v:aA YL) (w:aA YN) (x:aA YZ) (y:aA YJ) (j:Int) (M:aA YM):aB (aA YM):=aS (E:=aA YM) (fun(⟨d,e⟩:Int×(aA YM))=>(eE e j).bind fun g=>(dX e g).bind fun h=>if decide (d<(h.aO.length:Int))then(gR e g (fun c=>(YM.mk c.ID c.dK c.gQ c.eM c.cN c.bN c.bS c.lU c.fL c.jN c.jY c.cW c.fR h.aO))).bind fun f=>(F62 (Y0.mk u.jJ u.cJ y f w x) d).bind fun r=>(bU v r).bind fun s=>(eE f j).bind fun k=>(dX f k).bind fun i=>(eE i.aO d).bind fun l=>(dX i.aO l).bind fun t=>(lpV s t.aT).bind fun m=>(gR i.aO l (fun n=>(YW.mk n.iI m))).bind fun o=>(gR f k (fun a=>(YM.mk a.ID a.dK a.gQ a.eM a.cN a.bN a.bS a.lU a.fL a.jN a.jY a.cW a.fR o))).bind fun p=>some (.inl (bF (d+1),p))else(gR e g (fun b=>(YM.mk b.ID b.dK b.gQ b.eM b.cN b.bN b.bS b.lU b.fL b.jN b.jY b.cW b.fR h.aO))).bind fun q=>some (.inr q)) bK (0,M)
def lC1 (e:Y0) (f:aA YL):kC1 e f=(Si e).bind fun z=>(aS (E:=aA YM) (fun(⟨a,b⟩:Int×(aA YM))=>if decide (a<(b.length:Int))then(lpC e f z.1 z.2.1 z.2.2.2 a b).bind fun c=>some (.inl (bF (a+1),c))else some (.inr b)) bK (0,z.2.2.1)).bind fun d=>some (z.1,z.2.1,d,z.2.2.2):=rfl
def yE2 {v:YL} {E:aA YE} {j:Nat} {e:YE} (b:E[j]? =some e) (h:e.cE.length<=1000):lpH v j E=some (E.set j (eH e (e.cE.map (fH v)))):=by
 unfold lpH;have h0:((0:Int),E)=((0:Int),E.set j (eH e e.cE)):=by rw[show eH e e.cE=e from rfl,Np b]
 rw[h0];refine Sq e.cE (e.cE.map (fH v)) (gV3 _) (fun k hs=>(k,E.set j (eH e hs))) (fun hs=>E.set j (eH e hs)) (by omega) (fun i x y a g hy hi hlen c hg hw f=>?_) (fun a hc=>?_);have hn:dX (E.set j (eH e a)) j=some (eH e a):=pU b;have d:y=fH v x:=by rw[gG3,g]at hy;exact(gC3 hy).symm
 subst d;dsimp only;refine bP hn ?_;rw[fJ3 (by show decide ((i:Int)<(a.length:Int))=true;simp;omega)];refine bP hn (bP hn (bP c (bP hg (bP (Nn x.cA v) (bP c (bP (kV hg) (bP (nW b) ?_)))))));rw[hw];rfl;have hn:dX (E.set j (eH e a)) j=some (eH e a):=pU b;dsimp only;refine bP hn ?_;rw[fM3 (by show ¬decide ((e.cE.length:Int)<(a.length:Int))=true;simp;omega)];exact bP (nW b) rfl
def yF2 {v:YL} {E:aA YE} {j:Nat} {e:YE} (b:E[j]? =some e) (l:e.bR.length<=1000) {V:aA YO} {q:Nat} {w:YO} (f:V[q]? =some w):lpG v V q j E=some (V.set q (YO.mk (E.set j (eG e (e.bR.map (fG v)))) w.cT)):=by
 unfold lpG;have h0:((0:Int),E)=((0:Int),E.set j (eG e e.bR)):=by rw[show eG e e.bR=e from rfl,Np b]
 rw[h0];refine Sq e.bR (e.bR.map (fG v)) (gV3 _) (fun k hs=>(k,E.set j (eG e hs))) (fun hs=>V.set q (YO.mk (E.set j (eG e hs)) w.cT)) (by omega) (fun i x y a h hy hi hlen c hg hw g=>?_) (fun a hc=>?_);have hn:dX (E.set j (eG e a)) j=some (eG e a):=pU b;have d:y=fG v x:=by rw[gG3,h]at hy;exact(gC3 hy).symm
 subst d;dsimp only;refine bP hn ?_;rw[fJ3 (by show decide ((i:Int)<(a.length:Int))=true;simp;omega)];refine bP hn (bP hn (bP c (bP hg (bP (Nn x.cA v) (bP c (bP (kV hg) (bP (nW b) ?_)))))));rw[hw];rfl;have hn:dX (E.set j (eG e a)) j=some (eG e a):=pU b;dsimp only;refine bP hn ?_;rw[fM3 (by show ¬decide ((e.bR.length:Int)<(a.length:Int))=true;simp;omega)];exact bP (nW b) (bP (kV f) rfl)
def yG2 {v:YL} {V:aA YO} {q:Nat} {w:YO} (b:V[q]? =some w) (hw:w.sm):lpE v (q:Int) V=some (V.set q (fVo v w)):=by
 unfold lpE;have m:=hw.aW;have h:=(fE3.1 b).1;have h0:((0:Int),V)=((0:Int),V.set q (YO.mk w.aW w.cT)):=by rw[show YO.mk w.aW w.cT=w from rfl,Np b]
 rw[h0];refine Sq w.aW (w.aW.map (fE v)) (gV3 _) (fun k es=>(k,V.set q (YO.mk es w.cT))) (fun es=>V.set q (YO.mk es w.cT)) (by omega) (fun i x y a j hy hi hlen c hg d l=>?_) (fun a hc=>?_);have hn:dX (V.set q (YO.mk a w.cT)) q=some (YO.mk a w.cT):=pU b;have hl:eE (V.set q (YO.mk a w.cT)) (q:Int)=some q:=kM (by rw[hU3];exact h);have f:y=fE v x:=by rw[gG3,j]at hy;exact(gC3 hy).symm
 subst f;have g:=hw.fP x (fL3 j);have o:=g.cE;have n:=g.bR;dsimp only;refine bP hl (bP hn ?_);rw[fJ3 (by show decide ((i:Int)<(a.length:Int))=true;simp;omega)];refine bP hn (bP c (bP (yE2 hg (by omega)) (bP (yF2 (e:=eH x (x.cE.map (fH v))) (pU hg) (by show x.bR.length<=1000;omega) (pU b)) ?_)));rw[d,List.set_set,List.set_set];rfl;have hn:dX (V.set q (YO.mk a w.cT)) q=some (YO.mk a w.cT):=pU b;have hl:eE (V.set q (YO.mk a w.cT)) (q:Int)=some q:=kM (by rw[hU3];exact h);dsimp only;refine bP hl (bP hn ?_);rw[fM3 (by show ¬decide ((w.aW.length:Int)<(a.length:Int))=true;simp;omega)];exact bP (nW b) rfl
def yH2 {v:YL} {c:YW} (hc:c.sm):lpV v c.aT=some (c.aT.map (fVo v)):=by
 unfold lpV;have g:=hc.aT;refine Sq c.aT (c.aT.map (fVo v)) (gV3 _) (fun k vs=>(k,vs)) (fun vs=>vs) (by omega) (fun i x y a d hy hi hlen f hg hw e=>?_) (fun a hc=>?_);have b:y=fVo v x:=by rw[gG3,d]at hy;exact(gC3 hy).symm
 subst b;dsimp only;rw[fJ3 (by simp;omega)];refine bP (yG2 hg (hc.fI x (fL3 d))) ?_;rw[hw];dsimp only;rw[fM3 (by simp;omega)]
def yI2 (hs:s.sm) (h:L.length=s.aU.length) (j:0<s.aU.length) {M:aA YM} {i:Nat} {m:YM} (hi:M[i]? =some m) (e:m.sm):lpC s L s.bT s.kI s.aU (i:Int) M=some (M.set i (fM (vC s L) m)):=by
 unfold lpC;have p:=e.aO;have l:=hs.aU;have b:=(fE3.1 hi).1;have h0:((0:Int),M)=((0:Int),M.set i (mC m m.aO)):=by rw[show mC m m.aO=m from rfl,Np hi]
 rw[h0];refine Sq m.aO (fCs (vC s L) m.aO) (Dp _ _) (fun k cs=>(k,M.set i (mC m cs))) (fun cs=>M.set i (mC m cs)) (by omega) (fun k x y a f hy hk hlen c hg hw o=>?_) (fun a hc=>?_);have hn:dX (M.set i (mC m a)) i=some (mC m a):=pU hi;have hl:eE (M.set i (mC m a)) (i:Int)=some i:=kM (by rw[hU3];exact b);have d:=No _ f hy;subst d;have n:=e.gK x (fL3 f);dsimp only;refine bP hl (bP hn ?_);rw[fJ3 (by show decide ((k:Int)<(a.length:Int))=true;simp;omega)];refine bP (nW hi) ?_;have g:F62 (Y0.mk s.jJ s.cJ s.aU (M.set i (mC m a)) s.bT s.kI) (k:Int)=some (Sz s k:Int):=aQ2 (s:=Y0.mk s.jJ s.cJ s.aU (M.set i (mC m a)) s.bT s.kI) (by omega) (by show s.aU.length<1000;omega);refine bP g (bP (Zc h j k) (bP hl (bP hn (bP c (bP hg (bP (yH2 n) (bP (kV hg) (bP (nW hi) ?_))))))));rw[hw];rfl;have hn:dX (M.set i (mC m a)) i=some (mC m a):=pU hi;have hl:eE (M.set i (mC m a)) (i:Int)=some i:=kM (by rw[hU3];exact b);dsimp only;refine bP hl (bP hn ?_);rw[fM3 (by show ¬decide ((m.aO.length:Int)<(a.length:Int))=true;simp;omega)];exact bP (nW hi) rfl
def Zf (hs:s.sm) (e:L.length=s.aU.length) (f:0<s.aU.length):kC1 s L=some (s.bT,s.kI,s.aF.map (fM (vC s L)),s.aU):=by
 have j:=hs.aF;rw[lC1];refine bP (Dn hs) ?_;dsimp only;refine bP (y:=s.aF.map (fM (vC s L))) ?_ rfl;refine Sq s.aF (s.aF.map (fM (vC s L))) (gV3 _) (fun k c=>(k,c)) (fun c=>c) (by omega) (fun i x y a d hy hi hlen h hg hw g=>?_) (fun a hc=>?_);have b:y=fM (vC s L) x:=by rw[gG3,d]at hy;exact(gC3 hy).symm
 subst b;dsimp only;rw[fJ3 (by simp;omega)];refine bP (yI2 hs e f hg (hs.cH x (fL3 d))) ?_;rw[hw];dsimp only;rw[fM3 (by simp;omega)]
end Go.P
namespace Go.P
variable {a n r:Int} {p:YH} {s:Y0}
def aS2 {l:aA YD} (h:Rx l []=some true):l=[]:=by
 unfold Rx dM at h;split at h;cases h;rename_i hc;exact List.length_eq_zero_iff.1 (by simpa using hc)
def Vt {e:YE} (h:Ns e=some 0):e.dH=1\/e.bR=[]:=by
 by_cases hk:e.dH=1;exact .inl hk;right;unfold Ns at h;obtain⟨m,_,h⟩:=dW h;obtain⟨n,_,h⟩:=dW h;obtain⟨o,_,h⟩:=dW h;split at h;rename_i hc;cases h;simp at hc;obtain⟨j,i,h⟩:=dW h;split at h;cases h;rename_i c;have c:j=true:=by simpa using c
 subst c;obtain⟨p,a,h⟩:=dW h;obtain⟨k,b,h⟩:=dW h;split at h;cases h;rename_i d;have d:k=true:=by simpa using d
 subst d;unfold cF1 at a;rw[fM3 (by simpa using hk),i]at a;simp only[fD3,jA3,fR3,gT3]at a;obtain⟨q,_,a⟩:=dW a;obtain⟨r,_,a⟩:=dW a;cases a;unfold Ry at b;obtain⟨z4,l,b⟩:=dW b;obtain⟨z6,f,b⟩:=dW b;obtain⟨z8,g,b⟩:=dW b;cases b;split at f;obtain⟨w,w1,w2⟩:=dW f
 have q6:z6=true:=by
  cases z6 with
  |true=>rfl
  |false=>simp at g
 cases w2;rw[q6]at w1;exact aS2 w1
 have q6:z6=true:=by
  cases z6 with
  |true=>rfl
  |false=>simp at g
 subst q6;cases f
def tP1 (h1:Hy p=some (a,0)):qP p=some 0:=by
 unfold Hy at h1;obtain⟨⟨d,c⟩,h2,h1⟩:=dW h1;dsimp only at h1;split at h1;simp at h1;rename_i hc;have hy:c=0:=by simp at hc;omega
 subst hy;unfold Hx at h2;obtain⟨z,b,h2⟩:=dW h2;split at h2;rename_i hc;simp at h2 hc;omega;rename_i hc;rw[b];simp at hc;rw[hc]
def tQ1 {l:aA YD} (hl:l.length<1000) (h:Vg l=some 0):∀x∈l,qP x.cA=some 0:=by
 have:Ok (Vg l) (fun v=>v=0->∀x∈l,qP x.cA=some 0):=by
  unfold Vg dM;refine Oi (fun _=>.mk (fun h=>by cases h)) (fun _=>?_);refine Ob (P:=fun r=>match r with|.inl v=>v≠0|.inr _=>∀x∈l,qP x.cA=some 0) (oT (l:=l) (fun x=>qP x.cA=some 0) (by omega) (fun i x h0 h1 c hg hw=>?_) (fun i hi a=>?_)) fun r hr=>?_;simp only[h1,hg,hw,hB3,gF3,fD3];refine Ok.bindE (P:=fun _=>True) ((kK1 (x1:=x.cA)).mono fun _ _=>trivial) fun y hy _=>?_;obtain⟨d,b⟩:=y;dsimp only;by_cases h2:b=0;subst h2;rw[fM3 (by simp)];exact Oi (fun _=>.mk (show(2:Int)≠0 by decide)) (fun _=>.mk ⟨rfl,tP1 hy⟩);rw[fJ3 (by simpa using h2)];exact .mk h2;simp only[hi,nf];exact .mk a;cases r with
  |inl v=>exact .mk (fun h=>absurd h hr)
  |inr u=>exact .mk (fun _=>hr)
 exact this.of h rfl
def lD1 {e:YE} (c:e.sm) (h:Ns e=some 0):∀x∈e.bR,qP x.cA=some 0:=by
 by_cases hk:e.dH=1;have p:=c.bR
 have:∀x∈e.bR,qP x.cA=some 0:=by
  unfold Ns at h;obtain⟨q,_,h⟩:=dW h;obtain⟨r,_,h⟩:=dW h;obtain⟨s,_,h⟩:=dW h;split at h;rename_i hc;cases h;simp at hc;obtain⟨t,l,h⟩:=dW h;split at h;cases h;obtain⟨u,m,h⟩:=dW h;obtain⟨v,n,h⟩:=dW h;split at h;cases h;obtain⟨w,o,h⟩:=dW h;split at h;cases h;split at h;obtain⟨i,f,h⟩:=dW h;obtain⟨d,a,h⟩:=dW h;obtain⟨j,g,h⟩:=dW h;obtain⟨k,b,h⟩:=dW h;split at h;rename_i hc;cases h;simp at hc;rename_i hc;simp at hc;subst hc;have:=Vp (by simp) b d (by simp);subst this;exact tQ1 (by omega) a;rename_i hc;simp[hk]at hc
 exact this;have:=(Vt h).resolve_left hk;rw[this];simp
def yJ2 {l:aA YV} (h:l.length+3600<=1000000) (hs:s.sm):Ok (Ba l s r) (fun v=>v.length<=l.length->sX1 s fun i j k n e=>∃q,F98 (YP.mk 4 0 j i k n 0) e (YK.mk s r q)=some false):=by
 unfold Ba dM;have W:=hs.aF;refine Ob (mN (xs:=s.aF) (l:=l) 300 (fun i m=>∀(j k n:Nat) c v e,m.aO[j]? =some c->c.aT[k]? =some v->v.aW[n]? =some e->∃q,F98 (YP.mk 4 0 j i k n 0) e (YK.mk s r q)=some false) (by omega) (fun i m P Y D H hi hg hw=>?_) (fun v=>by dsimp only;rw[fM3 (by simp)])) fun v hv=>.mk fun f i j k n m c v e a b o d=>hv.2.2 f i m a j k n c v e b o d;have U:=(hs.cH m D).aO;dsimp only;rw[fJ3 (by simp;omega),hg];simp only[fD3];refine Ob (mN (xs:=m.aO) (l:=P) 60 (fun j c=>∀(k n:Nat) v e,c.aT[k]? =some v->v.aW[n]? =some e->∃q,F98 (YP.mk 4 0 j i k n 0) e (YK.mk s r q)=some false) (by omega) (fun j c R M x J E p A=>?_) (fun v=>by dsimp only;rw[fM3 (by simp)])) fun v hv=>.mk ⟨hw,hv.1,by have:=hv.2.1;dsimp only;omega,fun f j k n c v e a b o=>hv.2.2 f j c a k n v e b o⟩;have hc:=(hs.cH m D).gK c x;have X:=hc.aT;dsimp only;rw[fJ3 (by simp;omega),p];simp only[fD3];refine Ob (mN (xs:=c.aT) (l:=R) 20 (fun k v=>∀(n:Nat) e,v.aW[n]? =some e->∃q,F98 (YP.mk 4 0 j i k n 0) e (YK.mk s r q)=some false) (by omega) (fun k v S N y K F t B=>?_) (fun v=>by dsimp only;rw[fM3 (by simp)])) fun v hv=>.mk ⟨A,hv.1,by have:=hv.2.1;dsimp only;omega,fun f k n v e a b=>hv.2.2 f k v a n e b⟩;have hv:=hc.fI v y;have V:=hv.aW;dsimp only;rw[fJ3 (by simp;omega),t];simp only[fD3];refine Ob (mN (xs:=v.aW) (l:=S) 1 (fun n e=>∃q,F98 (YP.mk 4 0 j i k n 0) e (YK.mk s r q)=some false) (by omega) (fun n e T O z L G w C=>?_) (fun v=>by dsimp only;rw[fM3 (by simp)])) fun u g=>.mk ⟨B,g.1,by have:=g.2.1;dsimp only;omega,fun f n e a=>g.2.2 f n e a⟩;dsimp only;rw[fJ3 (by simp;omega),w];simp only[fD3];refine Ok.bindE (T98 (x3:=YK.mk s r T) (hv.fP e z) hs) fun b hb _=>?_;refine Ob (Nl (by omega)) fun u g=>.mk ⟨C,?_,?_,fun f=>?_⟩;dsimp only;cases b<;>simp at g<;>omega;dsimp only;cases b<;>simp at g<;>omega;dsimp only at f;cases b with
 |true=>simp at g;omega
 |false=>exact⟨_,hb⟩
def shS (s:Y0) (k:Nat):Int:=let n:=((s.aU[Sz s k]?).map fun p=>p.bG.bC).getD 0;if s.cJ then 0-n else n
def lE1 (hp:VP p) (h0: -1000<=n) (h1:n<=1000) (h:F99 p n=some false):0<=rL p+n/\rL p+n<=127:=by
 have h2:=hp.n0;have a:=hp.n1;unfold F99 Hx at h;rw[(pT p).2 hp,fD3,fM3 (by simp),Nm hp.s0 hp.s1 hp.o0 hp.o1 hp.a0 hp.a1,fD3,fD3]at h;dsimp only at h;rw[Nj,fD3,bO (by omega) (by omega)]at h;have h:=gC3 h;simp at h;omega
def tR1 {l:aA YB} (hl:l.length<1000) (h0: -1000<=n) (h1:n<=1000) (hp:∀x∈l,VP x.cA) (h:cM1 l n=some false):∀x∈l,0<=rL x.cA+n/\rL x.cA+n<=127:=by
 unfold cM1 at h;obtain⟨v,hv,h⟩:=dW h;have h:=gC3 h;have e:iT1 l n=Nk l (fun x=>Rz x n):=rfl;rw[e]at hv
 obtain⟨w,w1,w2⟩:=wP (l:=l) (g:=fun x=>Rz x n) (fun x=>(F99 x.cA n).getD false) (by omega) (fun x c=>by
  obtain⟨b,hb,_⟩:=T99 (x1:=x.cA) (x2:=n);show Rz x n=_
  unfold Rz;rw[hb];rfl)
 rw[w1]at hv;cases hv;intro x c;obtain⟨b,hb,_⟩:=T99 (x1:=x.cA) (x2:=n);rcases w2 with⟨_,w2⟩|⟨k,y,rfl,_⟩
 have:=w2 x c;rw[hb]at this;have a:b=false:=this;rw[a]at hb;exact lE1 (hp x c) h0 h1 hb;simp at h
def tS1 {l:aA YD} (hl:l.length<1000) (h0: -1000<=n) (h1:n<=1000) (hp:∀x∈l,VP x.cA) (h:cN1 l n=some false):∀x∈l,0<=rL x.cA+n/\rL x.cA+n<=127:=by
 unfold cN1 at h;obtain⟨v,hv,h⟩:=dW h;have h:=gC3 h;have e:iU1 l n=Nk l (fun x=>Sa x n):=rfl;rw[e]at hv
 obtain⟨w,w1,w2⟩:=wP (l:=l) (g:=fun x=>Sa x n) (fun x=>(F99 x.cA n).getD false) (by omega) (fun x c=>by
  obtain⟨b,hb,_⟩:=T99 (x1:=x.cA) (x2:=n);show Sa x n=_
  unfold Sa;rw[hb];rfl)
 rw[w1]at hv;cases hv;intro x c;obtain⟨b,hb,_⟩:=T99 (x1:=x.cA) (x2:=n);rcases w2 with⟨_,w2⟩|⟨k,y,rfl,_⟩
 have:=w2 x c;rw[hb]at this;have a:b=false:=this;rw[a]at hb;exact lE1 (hp x c) h0 h1 hb;simp at h
def Hd (hs:s.sm) (a:0<s.aF.length) (hv:F8 s=some true) {i:Nat} {p:YJ} (hp:s.aU[i]? =some p):uJ p.bG=true:=by
 have h:=(lH2 hs a hv p (fL3 hp)).1;rw[Ha]at h;by_cases hc:uJ p.bG=true;exact hc;rw[fM3 hc]at h;cases h
def yK2 (hs:s.sm) (L:0<s.aF.length) (hv:F8 s=some true):sX1 s fun _ j _ _ e=>(∀x∈e.cE,VP x.cA/\0<=rL x.cA+shS s j/\rL x.cA+shS s j<=127)/\∀x∈e.bR,VP x.cA/\0<=rL x.cA+shS s j/\rL x.cA+shS s j<=127:=by
 have h:=(Gz hs L hv).r9;have U:=hs.aU;unfold cO1 at h;obtain⟨v,h1,h2⟩:=dW h;cases h2;intro i j k n m c v e a b F d;obtain⟨q,h⟩:=(yJ2 (by simp) hs).of h1 (by simp) i j k n m c v e a b F d;have r:=evV hs L hv i j k n m c v e a b F d;have l:=(((hs.cH m (fL3 a)).gK c (fL3 b)).fI v (fL3 F)).fP e (fL3 d);have C:∀x∈e.cE,VP x.cA:=fun x p=>(pT _).1 ((sY1 l r).2 x p);have z:∀x∈e.bR,VP x.cA:=fun x p=>(pT _).1 (lD1 l r x p);have N:=aK2 hs hv m (fL3 a);have T:=(hs.cH m (fL3 a)).aO;have V:=(fE3.1 b).1;have Y:=l.cE;have X:=l.bR;obtain⟨w,e2,J,K⟩:=kW1 (s:=s) (k:=j) (by omega) (by omega);have u:Sp s.aU 0 j≠none:=Za _ _ _ (by unfold stv at N;omega);have O:=K u;subst O
 have g:Sz s j<s.aU.length:=by
  unfold Sz;cases hq:Sp s.aU 0 j with
  |none=>exact absurd hq u
  |some n=>have:=Vr _ _ _ _ hq;simp;omega
 have M:=Hd hs L hv (fP3 g);have W:=Hb M;unfold F98 at h;rw[r,fD3,fM3 (by simp)]at h;dsimp only at h;rw[J,fD3]at h;dsimp only at h;rw[fJ3 (by simp),kL g,fD3,fD3]at h
 have y:(if s.cJ then some (bF (0-(s.aU[Sz s j]).bG.bC))else some ((s.aU[Sz s j]).bG.bC):aB Int)=some (shS s j):=by
  unfold shS;rw[fP3 g];cases s.cJ with
  |true=>simp only[gF3,gB3,Option.getD_some];rw[bO (by omega) (by omega)]
  |false=>rfl
 have o: -1000<=shS s j/\shS s j<=1000:=by
  have t:=y;cases hW:s.cJ with
  |true=>rw[hW,fJ3 rfl,bO (by omega) (by omega)]at t;have t:=gC3 t;omega
  |false=>rw[hW,fM3 (by simp)]at t;have t:=gC3 t;omega
 rw[y,fD3]at h;obtain⟨P,G,h⟩:=dW h;obtain⟨S,f,h⟩:=dW h;have E:S=false:=gC3 h;subst E;cases P with
 |true=>simp at f
 |false=>
  rw[fM3 (by simp)]at f;obtain⟨R,H,f⟩:=dW f;have D:R=false:=gC3 f;subst D;have A:=tR1 (by omega) o.1 o.2 C G;have B:=tS1 (by omega) o.1 o.2 z H;exact⟨fun x p=>⟨C x p,A x p⟩,fun x p=>⟨z x p,B x p⟩⟩
end Go.P
namespace Go.P
variable {A B X:Type} {ps:aA YJ}
variable {s:Y0}
def aT2 (hs:s.sm) (i:YL):F61 s i=some (match Yu s i with|some d=>(Cl i d,true)|none=>(⟨0,0⟩,false)):=by
 have A:=hs.aF;unfold F61
 obtain⟨r,hr,h⟩:=Bd (l:=([0,1,-1]:aA Int)) (body:=fun(a:Int)=>if decide (a<([0,1,-1].length:Int))then(eE [0,1,-1] a).bind fun t=>(dX [0,1,-1] t).bind fun c=>(F81 (YL.mk (bF (i.eC+c)) i.bC)).bind fun v=>(aS (E:=Bool) (fun(⟨g,f⟩:Bool×Int)=>if(decide (f<(s.aF.length:Int)))&&g then(bU s.aF f).bind fun j=>(yX1 (YL.mk (bF (i.eC+c)) i.bC)).bind fun m=>some (.inl ((decide ((bF (j.eM+m))>=(-7)))&&(decide ((bF (j.eM+m))<=7)),bF (f+1)))else some (.inr g)) bK ((v==0),0)).bind fun w=>if w then some (.inr (.inl (bF (i.eC+c))))else some (.inl (bF (a+1)))else some (.inr (.inr ()))) (fun d=>uJ (Cl i d)&&Ck s (Cl i d)) (fun _ d=>bF (i.eC+d)) (by decide) (fun k d h0 h1 hd hg hw=>by
  have q:dX ([0,1,-1]:aA Int) k.toNat=some d:=by
   have:bU ([0,1,-1]:aA Int) k=([0,1,-1]:aA Int)[k.toNat]? :=by unfold bU;rw[fJ3 h0]
   rw[this]at hg;exact hg
  rw[fJ3 (by simpa using h1),sZ1 h0 h1,fD3,q,fD3];have e:YL.mk (bF (i.eC+d)) i.bC=Cl i d:=rfl;rw[e,Ha,fD3];refine bP (kO1 (l:=s.aF) (okM (Cl i d)) (by omega) _ (fun n x h2 o p z=>?_) (fun n=>?_) (fun b=>?_)) ?_;dsimp only;rw[fJ3 (by simpa using o),p,z];rfl;dsimp only;rw[fM3 (by simp)];dsimp only;rw[fM3 (by simp)]
  have e2:(((if uJ (Cl i d)=true then 0 else 2:Int)==0)&&s.aF.all (okM (Cl i d)))=(uJ (Cl i d)&&Ck s (Cl i d)):=by
   unfold Ck;cases uJ (Cl i d)<;>rfl
  rw[e2,hw];cases(uJ (Cl i d)&&Ck s (Cl i d))<;>rfl) (by simp)
 rw[hr,fD3];cases r with
 |inl b=>
  obtain⟨n,x,_,_,o,p,_⟩:=h;have:Yu s i=some x:=o;rw[this];simp only[p];rfl
 |inr u=>
  have:Yu s i=none:=by
   unfold Yu;rw[List.find?_eq_none];intro y hy;rw[h y hy];exact Bool.false_ne_true
  rw[this]
def Zg (l:aA A) (ok:A->Bool) (f:A->B) {body:Int×aA B->aB ((Int×aA B)⊕(X⊕aA B))} (er:aA B->X) (hl:l.length<1000)
  (h:∀(i:Nat) (x:A) (a:aA B),l[i]? =some x->bU l (i:Int)=some x->a.length=i->(i:Int)<(l.length:Int)->bF ((i:Int)+1)=((i+1:Nat):Int)->body ((i:Int),a)=if ok x then some (.inl (((i+1:Nat):Int),a++[f x]))else some (.inr (.inl (er a))))
  (b:∀a,body ((l.length:Int),a)=some (.inr (.inr a))):(l.all ok=true->aS body bK (0,[])=some (.inr (l.map f)))/\(l.all ok=false->∃a,aS body bK (0,[])=some (.inl (er a))):=by
 have c:∀(m n:Nat),n+m=l.length->∀k,m<k->((l.drop n).all ok=true->aS body k ((n:Int),(l.take n).map f)=some (.inr (l.map f)))/\((l.drop n).all ok=false->∃a,aS body k ((n:Int),(l.take n).map f)=some (.inl (er a))):=by
  intro m
  induction m with
  |zero=>
   intro n hn k hk;obtain⟨k,rfl⟩:∃j,k=j+1:=⟨k-1,by omega⟩
   have hn:n=l.length:=by omega
   subst hn;rw[hC3,List.drop_length];refine⟨fun _=>?_,fun h=>by simp at h⟩;simp only[aS];rw[b];rfl
  |succ m ih=>
   intro n hn k hk;obtain⟨k,rfl⟩:∃j,k=j+1:=⟨k-1,by omega⟩
   have hnl:n<l.length:=by omega
   rw[List.drop_eq_getElem_cons hnl,hA3];simp only[aS];rw[h n l[n] ((l.take n).map f) (fP3 hnl) (kL hnl) (by simp;omega) (by omega) (bO (by omega) (by omega))];have e:(l.take n).map f++[f l[n]]=(l.take (n+1)).map f:=by rw[List.take_add_one,fP3 hnl,jC3];rfl
   cases ok l[n]with
   |true=>
    rw[fJ3 rfl,e,jL3];exact ih (n+1) (by omega) k (by omega)
   |false=>
    rw[fM3 (by simp),Bool.false_and];exact⟨fun h=>(by cases h),fun _=>⟨_,rfl⟩⟩
 have:=c l.length 0 (by omega) bK (by simp only[bK];omega);simpa using this
def chB (s:Y0) (p:YJ):Bool:=(Yu s p.bG).isSome
def Nt (s:Y0) (p:YJ):YL:=match Yu s p.bG with|some d=>Cl p.bG d|none=>⟨0,0⟩
def aU2 {p:YJ} (h:chB s p=true):uJ (Nt s p)=true/\(Nt s p).bC=p.bG.bC:=by
 unfold chB at h;unfold Nt;cases hc:Yu s p.bG with
 |none=>rw[hc]at h;cases h
 |some d=>
  have:=List.find?_some hc;rw[fF3]at this;exact⟨this.1,rfl⟩
def Zh {f:YJ->YL} {k:Nat} (h:Sz s k<s.aU.length):vC s (s.aU.map f) k=f s.aU[Sz s k]:=by
 unfold vC;rw[gG3,fP3 h];rfl
def lM2 (hs:s.sm) (hv:F8 s=some true) {f:YJ->YL} (hf:∀p∈s.aU,uJ (f p)=true/\(f p).bC=if s.cJ then 0-p.bG.bC else p.bG.bC) (q:0<s.aU.length):∀m∈s.aF,zM (vC s (s.aU.map f)) m:=by
 have o:=Yt hs hv;intro m t k c hc v n e he;obtain⟨i,hi⟩:=fQ3.1 t;obtain⟨a,r⟩:=fQ3.1 n;obtain⟨b,hb⟩:=fQ3.1 he;obtain⟨h1,h2⟩:=yK2 hs o hv i k a b m c v e hi hc r hb;have d:=kV1 q k;have j:=hf _ (gX3 d)
 have l:shS s k=(vC s (s.aU.map f) k).bC:=by
  rw[Zh d,j.2];unfold shS;rw[fP3 d];rfl
 have h:uJ (vC s (s.aU.map f) k)=true:=by rw[Zh d];exact j.1
 rw[l]at h1 h2;exact⟨fun x g=>lK2 (h1 x g).1 h (h1 x g).2.1 (h1 x g).2.2,fun x g=>lK2 (h2 x g).1 h (h2 x g).2.1 (h2 x g).2.2⟩
def Nq {l:aA A} {f:A->A} {P Q:A->Prop} (h:∀x∈l,P x) (hf:∀x,P x->Q (f x)):∀y∈l.map f,Q y:=fun y hy=>by
 obtain⟨x,a,rfl⟩:=iS3.1 hy
 exact hf x (h x a)
def wS (s:Y0) (w:Bool) (ps:aA YJ) (a:Nat->YL):Y0:=⟨s.jJ,w,ps,s.aF.map (fM a),s.bT,s.kI⟩
def vV1 (hs:s.sm) {w:Bool} (h1:ps.length<=4) (h2:∀p∈ps,p.sm) (a:Nat->YL):(wS s w ps a).sm:=by
 refine⟨hs.jJ,h1,h2,?_,Nq hs.cH fun m b=>⟨b.cW,b.fR,?_,fun y hy=>?_⟩,hs.bT,hs.kI⟩;show(s.aF.map (fM a)).length<=12
 rw[gV3];exact hs.aF;show(fCs a m.aO).length<=5
 rw[Dp];exact b.aO;obtain⟨i,hi⟩:=fQ3.1 (show y∈fCs a m.aO from hy);have hl:i<m.aO.length:=by rw[<-Dp a];exact(fE3.1 hi).1
 have hy:=No a (fP3 hl) hi;subst hy;have hc:=b.gK _ (gX3 hl);refine⟨hc.iI,?_,Nq hc.fI fun v hv=>⟨?_,Nq hv.fP fun e he=>⟨?_,?_,he.cX,he.zG⟩,hv.cT⟩⟩;show(m.aO[i].aT.map (fVo (a i))).length<=3
 rw[gV3];exact hc.aT;show(v.aW.map (fE (a i))).length<=20
 rw[gV3];exact hv.aW;show(e.cE.map (fH (a i))).length<=12
 rw[gV3];exact he.cE;show(e.bR.map (fG (a i))).length<=12
 rw[gV3];exact he.bR
def He:Y0:=⟨⟨#[]⟩,false,[],[],[],[]⟩
def Zi:He.sm:=⟨by decide,by decide,by simp[He],by decide,by simp[He],by decide,by decide⟩
def tT1 (hs:s.sm) (hv:F8 s=some true) (a:s.cJ=false) {i:Nat} {p:YJ} (hp:s.aU[i]? =some p):F33 s (i:Int)=some (if chB s p then(Nt s p,0)else(⟨0,0⟩,18)):=by
 have hl:=(fE3.1 hp).1;unfold F33;rw[kL hl,(fE3.1 hp).2,fD3,a,fM3 (by simp),aO2 hs (Hd hs (Yt hs hv) hv hp),fD3];unfold chB Nt;cases Yu s p.bG<;>rfl
def tU1 (hs:s.sm) (a:s.cJ=false) {i:Nat} {p:YJ} (hp:s.aU[i]? =some p):F23 s (i:Int)=some (Nt s p,chB s p):=by
 have hl:=(fE3.1 hp).1;unfold F23;rw[a,fM3 (by simp),kL hl,(fE3.1 hp).2,fD3,aT2 hs,fD3];unfold chB Nt;cases Yu s p.bG<;>rfl
def Vu (L:aA YL) (ps:aA YJ):aA YJ:=ps.mapIdx fun k p=>⟨p.ID,p.oP,(L[k]?).getD ⟨0,0⟩,p.cO⟩
def zD (L:aA YL) (ps:aA YJ):(Vu L ps).length=ps.length:=by unfold Vu;simp
def Hf {L:aA YL} {i:Nat} {x y:YJ} (a:ps[i]? =some x) (hy:(Vu L ps)[i]? =some y):y=⟨x.ID,x.oP,(L[i]?).getD ⟨0,0⟩,x.cO⟩:=by
 unfold Vu at hy;rw[List.getElem?_mapIdx,a]at hy;exact(gC3 hy).symm
def lN2 (hs:s.sm) (hv:F8 s=some true) (r:0<s.aU.length):∃a e,F18 s=some (a,e)/\F10 s=some (a,e)/\a.sm:=by
 have t:=hs.aU;unfold F18 F10;cases hW:s.cJ with
 |true=>
  rw[fJ3 rfl,fJ3 rfl];refine⟨s,0,bP (Dn hs) ?_,rfl,hs⟩;dsimp only;rw[<-hW]
 |false=>
  rw[fM3 (by simp),fM3 (by simp)]
  obtain⟨a1,a2⟩:=Zg s.aU (chB s) (Nt s) (X:=Int×aA YL) (body:=fun(⟨o,m⟩:Int×(aA YL))=>if decide (o<(s.aU.length:Int))then(F33 s o).bind fun⟨v,n⟩=>if n !=0 then some (.inr (.inl (n,m)))else(lM false m [v]).bind fun w=>some (.inl (bF (o+1),w))else some (.inr (.inr m))) (fun b=>(18,b)) (by omega) (fun i x b d hg E c hw=>by
   dsimp only;rw[fJ3 (by simpa using c),tT1 hs hv hW d,fD3,hw];have g:=(fE3.1 d).1;cases hc:chB s x with
   |true=>
    rw[fJ3 rfl,fJ3 rfl];dsimp only;rw[fM3 (by simp),Hc (by simp;omega) (.inr rfl)];rfl
   |false=>rfl) (fun b=>by dsimp only;rw[fM3 (by simp)])
  obtain⟨b1,b2⟩:=Zg s.aU (chB s) (Nt s) (X:=aA YL) (body:=fun(⟨z,A⟩:Int×(aA YL))=>if decide (z<(s.aU.length:Int))then(F23 s z).bind fun⟨G,H⟩=>if !H then some (.inr (.inl A))else(lM false A [G]).bind fun o=>some (.inl (bF (z+1),o))else some (.inr (.inr A))) (fun b=>b) (by omega) (fun i x b d hg E c hw=>by
   dsimp only;rw[fJ3 (by simpa using c),tU1 hs hW d,fD3,hw];have g:=(fE3.1 d).1;cases hc:chB s x with
   |true=>
    rw[fJ3 rfl];dsimp only;rw[fM3 (by simp),Hc (by simp;omega) (.inr rfl)];rfl
   |false=>rfl) (fun b=>by dsimp only;rw[fM3 (by simp)])
  cases hall:s.aU.all (chB s)with
  |false=>
   obtain⟨J,h1⟩:=a2 hall;obtain⟨K,h2⟩:=b2 hall;exact⟨He,18,bP h1 rfl,bP h2 rfl,Zi⟩
  |true=>
   have q:(s.aU.map (Nt s)).length=s.aU.length:=gV3 _;have u:∀p∈s.aU,chB s p=true:=fH3.1 hall;have F:=lM2 hs hv (f:=Nt s) (fun p hp=>by rw[hW,fM3 (by simp)];exact aU2 (u p hp)) r;obtain⟨e,B,D⟩:=Ze hs q r;have he:e=0:=D.2 F;subst he;rw[fM3 (by simp)]at B
   have dB:∀(i:Nat) (x:YJ),s.aU[i]? =some x->bU (s.aU.map (Nt s)) (i:Int)=some (((s.aU.map (Nt s))[i]?).getD ⟨0,0⟩):=fun i x d=>by
    have g:=(fE3.1 d).1;rw[kL (by rw[q];exact g),fP3 (by rw[q];exact g)];rfl
   refine⟨wS s true (Vu (s.aU.map (Nt s)) s.aU) (vC s (s.aU.map (Nt s))),0,bP (a1 hall) ?_,bP (b1 hall) ?_,vV1 hs (by rw[zD];exact t) (fun p hp=>?_) _⟩;dsimp only;refine bP (y:=()) rfl (bP B ?_);dsimp only;rw[fM3 (by simp)];refine bP (Sq s.aU (Vu (s.aU.map (Nt s)) s.aU) (zD _ _) (fun k ps=>(k,ps)) (fun ps=>ps) (by omega) (fun i x y h d hy hi hlen j hg hw c=>?_) (fun h hc=>?_)) rfl;have l:=Hf d hy;subst l;dsimp only;rw[fJ3 (by simpa using c)];refine bP (dB i x d) (bP j (bP (kV hg) ?_));rw[hw];dsimp only;rw[fM3 (by simp)];dsimp only;refine bP (Zf hs q r) ?_;dsimp only;refine bP (Sq s.aU (Vu (s.aU.map (Nt s)) s.aU) (zD _ _) (fun k ps=>(k,ps)) (fun ps=>ps) (by omega) (fun i x y h d hy hi hlen j hg hw c=>?_) (fun h hc=>?_)) rfl;have l:=Hf d hy;subst l;dsimp only;rw[fJ3 (by simp;omega)];refine bP (dB i x d) (bP j (bP (kV hg) ?_));rw[hw];dsimp only;rw[fM3 (by simp;omega)];obtain⟨i,hi⟩:=fQ3.1 hp;have hl:i<s.aU.length:=by rw[<-zD (s.aU.map (Nt s))];exact(fE3.1 hi).1
   have hy:=Hf (fP3 hl) hi;subst hy;have C:=hs.lV _ (gX3 hl);exact⟨C.oP,C.cO⟩
def lO2 (hs:s.sm) (hv:F8 s=some true) (o:0<s.aU.length):∃a,F7 s=some (a,0)/\F12 s=some a/\a.sm:=by
 have q:=hs.aU;unfold F7 F12 dM;rw[hv,fD3,fM3 (by simp)];cases hW:s.cJ with
 |false=>
  refine⟨s,?_,rfl,hs⟩;rw[fJ3 (by simp)];refine bP (Dn hs) ?_;dsimp only;rw[<-hW]
 |true=>
  rw[fM3 (by simp),fM3 (by simp)];have x:=Yt hs hv
  have h:∀p∈s.aU,uJ p.bG=true:=fun p hp=>by
   obtain⟨i,hi⟩:=fQ3.1 hp;exact Hd hs x hv hi
  have u:(s.aU.map fun p=>ngI p.bG).length=s.aU.length:=gV3 _
  have r:∀p∈s.aU,YL.mk (bF (0-p.bG.eC)) (bF (0-p.bG.bC))=ngI p.bG:=fun p hp=>by
   have:=Hb (h p hp);rw[bO (by omega) (by omega),bO (by omega) (by omega)];rfl
  have l:aS (E:=aA YL) (fun(⟨g,b⟩:Int×(aA YL))=>if decide (g<(s.aU.length:Int))then(bU s.aU g).bind fun c=>(lM false b [YL.mk (bF (0-c.bG.eC)) (bF (0-c.bG.bC))]).bind fun d=>some (.inl (bF (g+1),d))else some (.inr b)) bK (0,[])=some (s.aU.map fun p=>ngI p.bG):=by
   have v:∀(m n:Nat),n+m=s.aU.length->∀k,m<k->aS (E:=aA YL) (fun(⟨g,b⟩:Int×(aA YL))=>if decide (g<(s.aU.length:Int))then(bU s.aU g).bind fun c=>(lM false b [YL.mk (bF (0-c.bG.eC)) (bF (0-c.bG.bC))]).bind fun d=>some (.inl (bF (g+1),d))else some (.inr b)) k ((n:Int),(s.aU.take n).map fun p=>ngI p.bG)=some (s.aU.map fun p=>ngI p.bG):=by
    intro m
    induction m with
    |zero=>
     intro n hn k hk;obtain⟨k,rfl⟩:∃j,k=j+1:=⟨k-1,by omega⟩
     have hn:n=s.aU.length:=by omega
     subst hn;simp only[aS];rw[fM3 (by simp),hC3];rfl
    |succ m ih=>
     intro n hn k hk;obtain⟨k,rfl⟩:∃j,k=j+1:=⟨k-1,by omega⟩
     have hnl:n<s.aU.length:=by omega
     simp only[aS];rw[fJ3 (by simpa using hnl),kL hnl,fD3,r _ (gX3 hnl),Hc (by simp;omega) (.inr rfl),fD3,bO (by omega) (by omega)];have e:((s.aU.take n).map fun p=>ngI p.bG)++[ngI s.aU[n].bG]=(s.aU.take (n+1)).map fun p=>ngI p.bG:=by rw[List.take_add_one,fP3 hnl,jC3];rfl
     rw[e];exact ih (n+1) (by omega) k (by omega)
   exact v s.aU.length 0 (by omega) bK (by simp only[bK];omega)
  have z:=lM2 hs hv (f:=fun p=>ngI p.bG) (fun p hp=>by rw[hW,fJ3 rfl];exact⟨lJ2 (h p hp),rfl⟩) o;obtain⟨e,t,w⟩:=Ze hs u o;have he:e=0:=w.2 z;subst he;rw[fM3 (by simp)]at t;refine⟨wS s false s.aU (vC s (s.aU.map fun p=>ngI p.bG)),bP l ?_,bP l ?_,vV1 hs q hs.lV _⟩;refine bP (y:=()) rfl (bP t ?_);dsimp only;rfl;refine bP (Zf hs u o) ?_;dsimp only;rfl
def aV2 (hs:s.sm) (hv:F8 s=some true):0<s.aU.length:=by
 rcases Nat.eq_zero_or_pos s.aU.length with h0|h0;exfalso;have h:=(Gz hs (Yt hs hv) hv).r1;unfold Me dM at h;obtain⟨v1,h1,h⟩:=dW h;obtain⟨v2,h2,h⟩:=dW h;obtain⟨b,m,h⟩:=dW h;obtain⟨g,d,h⟩:=dW h;obtain⟨l,i,h⟩:=dW h;obtain⟨v,e,h⟩:=dW h;cases h
 have k:g=true:=by
  split at d;cases d;rfl;rw[Nj,h0]at d;exact(gC3 d).symm
 subst k;rw[fJ3 rfl]at i;cases i;simp only[jI3]at e;unfold mP at e;obtain⟨u,j,f⟩:=dW e;have f:=gC3 f;subst f;rw[fJ3 rfl]at j;obtain⟨w,c,a⟩:=dW j;have a:=gC3 a;subst a;unfold lM at c;split at c;have c:=gC3 c;simp at c;cases c;exact h0
def yL2 (hb:s.b):F3 s=some true:=by
 unfold F3;obtain⟨k,e2,h2⟩:=U13 hb;rw[e2,fD3];cases k with
 |false=>rfl
 |true=>
  have hs:=h2 rfl;obtain⟨f,c,_⟩:=T8 hs;simp only[jA3,fR3,gT3,fD3];have z9:F9 He=some true:=by unfold F9;exact bP (R11 Zi) rfl
  cases f with
  |false=>
   have d:F6 s=some (He,24):=by unfold F6;rw[c];rfl
   have h:F7 s=some (He,24):=by unfold F7 dM;rw[c];rfl
   rw[d,h,c]
   try dsimp only[fD3]
   simp[z9]
  |true=>
   have hv:=c;have g:=aV2 hs hv;obtain⟨a,e,w1,w2,w3⟩:=lN2 hs hv g;obtain⟨b,s1,i,j⟩:=lO2 hs hv g;have d:F6 s=some (a,e):=by unfold F6;rw[hv,fD3,fM3 (by simp),w1];rfl
   rw[d,s1,hv,w2,i]
   try dsimp only[fD3]
   simp[R11 w3,R11 j]
end Go.P
