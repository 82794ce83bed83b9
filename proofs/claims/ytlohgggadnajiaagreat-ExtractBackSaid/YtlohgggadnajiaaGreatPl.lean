import Derived.Test.YtlohgggadnajiaaGreatGaB
/- A text of the proof. -/
set_option linter.all false
namespace Go.P
def Ok {α:Type} (x:aB α) (Q:α->Prop):Prop:=∃v,x=some v/\Q v
section
variable {α β:Type} {Q:α->Prop}
def Ok.mk {v:α} (h:Q v):Ok (some v) Q:=⟨v,rfl,h⟩
def bZ {α:Type} {v:α} {Q:α->Prop} (h:Q v:=by exact trivial):Ok (some v) Q:=⟨v,rfl,h⟩
def Ob {P:β->Prop} {x:aB β} {k:β->aB α} (h:Ok x P) (hk:∀v,P v->Ok (k v) Q):Ok (x.bind k) Q:=by
 obtain⟨v,rfl,hv⟩:=h;exact hk v hv
def Oi {c:Prop} [Decidable c] {a b:aB α} (h1:c->Ok a Q) (h2:¬c->Ok b Q):Ok (if c then a else b) Q:=by
 split;rename_i h;exact h1 h;rename_i h;exact h2 h
def oJ {α:Type} {c:Prop} [Decidable c] {v:α} {y:aB α} {Q:α->Prop} (h:¬c->Ok y Q) (q:Q v:=by exact trivial):Ok (if c then some v else y) Q:=Oi (fun _=>.mk q) h
def Ok.mono {P:α->Prop} {x:aB α} (h:Ok x P) (a:∀v,P v->Q v):Ok x Q:=by
 obtain⟨v,h1,h2⟩:=h;exact⟨v,h1,a v h2⟩
def Ok.ex {x:aB α} (h:Ok x Q):∃v,x=some v:=by
 obtain⟨v,h1,_⟩:=h;exact⟨v,h1⟩
def iU {S E:Type} {body:S->aB (S⊕E)} {Q:E->Prop} (I:S->Prop) (μ:S->Nat)
  (h:∀s,I s->Ok (body s) (fun r=>match r with|.inl s'=>I s'/\μ s'<μ s|.inr e=>Q e)):∀(n:Nat) (s:S),I s->μ s<n->Ok (aW body n s) Q
 |0,s,_,hn=>by omega
 |n+1,s,hi,hn=>by
  obtain⟨r,h1,h2⟩:=h s hi
  simp only[aW,h1,bE3]
  cases r with
  |inl s'=>exact iU I μ h n s' h2.1 (by have:=h2.2;omega)
  |inr e=>exact .mk h2
end
def bQ {n:Int} (h1: -9223372036854775808<=n) (h2:n<9223372036854775808):bN n=n:=by
 have e:bN n=if n%18446744073709551616>=9223372036854775808 then n%18446744073709551616-18446744073709551616 else n%18446744073709551616:=by
  unfold bN IntKind.wrap;rw[show((2:Int)^IntKind.bits .i64)=18446744073709551616 from rfl,show((2:Int)^(IntKind.bits .i64-1))=9223372036854775808 from rfl];simp[IntKind.signed]
 rw[e];split<;>omega
def dU {A:Type} {l:aA A} {i:Int} {Q:A->Prop} (h0:0<=i) (h1:i<(l.length:Int)) (h:∀x,x∈l->l[i.toNat]? =some x->Q x):Ok (cC l i) Q:=by
 unfold cC;rw[bK3 h0];have hi:i.toNat<l.length:=by omega
 exact⟨l[i.toNat],by simp[hi],h _ (cZ3 hi) (by simp[hi])⟩
end Go.P
set_option maxRecDepth 100000
namespace Go.P
def Rg {A:Type} (l:aA A) (g:A->aB Bool):aB Int:=
 (aW (E:=Int⊕Unit) (fun(a:Int)=>
  if(decide (a<(l.length:Int)))then
   (cC l a).bind fun d=>
   (g d).bind fun b=>
   if b then
    some (.inr (.inl a))
   else
   some (.inl (bN (a+1)))
  else
  some (.inr (.inr ()))) bP 0).bind fun c=>
 match c with
 |.inl x_7=>
  some x_7
 |.inr _=>
  some (-1)
def Xk {A:Type} {l:aA A} {g:A->aB Bool} (hl:l.length<9223372036854775808) (hg:∀x∈l,∃b,g x=some b):Ok (Rg l g) (fun v=>(v= -1/\∀x∈l,g x=some false)\/(0<=v/\v<l.length/\∃x,l[v.toNat]? =some x/\g x=some true)):=by
 unfold Rg
 refine Ob (P:=fun r=>match r with|.inl v=>0<=v/\v<l.length/\∃x,l[v.toNat]? =some x/\g x=some true|.inr _=>∀x∈l,g x=some false)
  (iU (S:=Int) (fun i=>0<=i/\i<=l.length/\∀j,j<i.toNat->∀x,l[j]? =some x->g x=some false) (fun i=>l.length-i.toNat) (fun i hi=>?_) bP 0 ⟨by omega,by omega,fun j c=>by simp at c⟩ (by simp[bP];omega)) fun r hr=>?_
 obtain⟨h0,h1,h2⟩:=hi;refine Oi (fun hc=>?_) (fun hc=>?_);simp only[bN3]at hc;refine Ob (dU (Q:=fun x=>x∈l/\l[i.toNat]? =some x) h0 hc (fun x a b=>⟨a,b⟩)) fun x d=>?_;obtain⟨b,hb⟩:=hg x d.1;rw[hb];cases b with
 |true=>exact .mk ⟨h0,hc,x,d.2,hb⟩
 |false=>
  rw[bE3,bQ (by omega) (by omega)];refine .mk ⟨⟨by omega,by omega,fun j c y hy=>?_⟩,by omega⟩;by_cases e:j=i.toNat
  subst e;rw[d.2]at hy;cases hy;exact hb;exact h2 j (by omega) y hy
 simp only[bN3]at hc;refine .mk (fun x d=>?_);obtain⟨j,c⟩:=bX3.1 d;have:=(bG3.1 c).1;exact h2 j (by omega) x c;cases r with
 |inl v=>exact .mk (.inr hr)
 |inr u=>exact .mk (.inl ⟨rfl,hr⟩)
end Go.P
namespace Go.P
structure YY.b (x:YY):Prop where
 qR:x.qR.size<9223372036854775808
structure YE.b (x:YE):Prop where
 dJ:x.dJ.length<9223372036854775808
 cX:x.cX.length<9223372036854775808
 dL:x.dL.length<9223372036854775808
 zB:∀y∈x.dL,y.b
structure YO.b (x:YO):Prop where
 aX:x.aX.length<9223372036854775808
 gS:∀y∈x.aX,y.b
 eJ:x.eJ.length<9223372036854775808
structure YW.b (x:YW):Prop where
 jG:x.jG.length<9223372036854775808
 aO:x.aO.length<9223372036854775808
 gA:∀y∈x.aO,y.b
structure YM.b (x:YM):Prop where
 cA:x.cA.size<9223372036854775808
 eS:x.eS.length<9223372036854775808
 aQ:x.aQ.length<9223372036854775808
 iD:∀y∈x.aQ,y.b
structure YJ.b (x:YJ):Prop where
 zA:x.zA.size<9223372036854775808
 eG:x.eG.length<9223372036854775808
structure Y0.b (x:Y0):Prop where
 hJ:x.hJ.size<9223372036854775808
 cD:x.cD.length<9223372036854775808
 nB:∀y∈x.cD,y.b
 aE:x.aE.length<9223372036854775808
 cK:∀y∈x.aE,y.b
 bU:x.bU.length<9223372036854775808
 kV:x.kV.length<9223372036854775808
structure YY.sm (x:YY):Prop where
 qR:x.qR.size<=300
structure YE.sm (x:YE):Prop where
 dJ:x.dJ.length<=12
 cX:x.cX.length<=12
 dL:x.dL.length<=12
 zB:∀y∈x.dL,y.sm
structure YO.sm (x:YO):Prop where
 aX:x.aX.length<=20
 gS:∀y∈x.aX,y.sm
 eJ:x.eJ.length<=6
structure YW.sm (x:YW):Prop where
 jG:x.jG.length<=5
 aO:x.aO.length<=3
 gA:∀y∈x.aO,y.sm
structure YM.sm (x:YM):Prop where
 cA:x.cA.size<=300
 eS:x.eS.length<=5
 aQ:x.aQ.length<=5
 iD:∀y∈x.aQ,y.sm
structure YJ.sm (x:YJ):Prop where
 zA:x.zA.size<=300
 eG:x.eG.length<=5
structure Y0.sm (x:Y0):Prop where
 hJ:x.hJ.size<=300
 cD:x.cD.length<=4
 nB:∀y∈x.cD,y.sm
 aE:x.aE.length<=12
 cK:∀y∈x.aE,y.sm
 bU:x.bU.length<=10
 kV:x.kV.length<=5
end Go.P
namespace Go.P
def rM {A E:Type} {l:aA A} {body:Int->aB (Int⊕E)} {Q:E->Prop} (P:A->Prop) (hl:l.length<9223372036854775808)
  (h:∀(i:Int) (x:A),0<=i->i<(l.length:Int)->x∈l->cC l i=some x->bN (i+1)=i+1->Ok (body i) (fun r=>match r with|.inl j=>j=i+1/\P x|.inr e=>Q e))
  (a:∀i:Int,i=(l.length:Int)->(∀x∈l,P x)->Ok (body i) (fun r=>match r with|.inl j=>False|.inr e=>Q e)):Ok (aW body bP 0) Q:=by
 have hl:l.length<9223372036854775808:=hl;refine iU (fun(i:Int)=>0<=i/\i<=l.length/\∀j,j<i.toNat->∀x,l[j]? =some x->P x) (fun i=>l.length-i.toNat) (fun i hi=>?_) bP 0 ⟨by omega,by omega,fun j b=>by simp at b⟩ (by simp[bP];omega);obtain⟨h0,h1,h2⟩:=hi;by_cases c:i<(l.length:Int);have hi:i.toNat<l.length:=by omega
 have hg:cC l i=some l[i.toNat]:=by unfold cC;rw[bK3 h0];simp[hi]
 refine(h i l[i.toNat] h0 c (cZ3 hi) hg (bQ (by omega) (by omega))).mono fun r hr=>?_;cases r with
 |inl j=>
  obtain⟨rfl,hp⟩:=hr;refine⟨⟨by omega,by omega,fun j b y hy=>?_⟩,by omega⟩;by_cases e:j=i.toNat
  subst e;rw[bY3 hi]at hy;cases hy;exact hp;exact h2 j (by omega) y hy
 |inr e=>exact hr
 refine(a i (by omega) (fun x d=>?_)).mono fun r hr=>?_;obtain⟨j,b⟩:=bX3.1 d;have:=(bG3.1 b).1;exact h2 j (by omega) x b;cases r with
 |inl j=>exact hr.elim
 |inr e=>exact hr
def U33 {v:YO} (hv:v.b):Ok (F16 v) (fun r=>r=true->v.sm):=by
 unfold F16 dH;refine Ob (P:=fun r=>match r with|.inl _=>True|.inr _=>∀e∈v.aX,e.sm) (rM (fun e=>e.sm) hv.aX (fun i x h0 h1 c hg hw=>?_) (fun i hi hp=>?_)) fun r hr=>?_;simp only[h1,dD3,cF3,hg,bE3];refine Oi (fun hc=>.mk trivial) (fun hc=>?_);have a:=hv.gS x c;simp only[bZ3,bN3,eC3]at hc;refine Ob (P:=fun r=>match r with|.inl _=>True|.inr _=>∀e∈x.dL,e.sm) (rM (fun e=>e.sm) a.dL (fun k y j d hy f g=>?_) (fun k hk hp=>?_)) fun r hr=>?_;simp only[d,dD3,cF3,f,bE3];refine Oi (fun hd=>.mk trivial) (fun hd=>?_);rw[g];exact .mk ⟨rfl,⟨by simp at hd;omega⟩⟩;simp only[hk,Int.lt_irrefl,dW3,bQ3,cR3];exact .mk hp;cases r with
 |inl u=>exact .mk trivial
 |inr u=>simp only;rw[hw];exact .mk ⟨rfl,⟨by omega,by omega,by omega,hr⟩⟩
 simp only[hi,Int.lt_irrefl,dW3,bQ3,cR3];exact .mk hp;cases r with
 |inl u=>exact .mk (fun h=>by cases h)
 |inr u=>
  refine .mk (fun h=>?_);simp only[bF3,bN3]at h;exact⟨by omega,hr,by omega⟩
end Go.P
namespace Go.P
def dF {A S E:Type} {l:aA A} {body:S->aB (S⊕E)} {Q:E->Prop} {s0:S} (a:S->Int) (I:Nat->S->Prop) (hl:l.length<9223372036854775808) (h0:a s0=0) (f:I 0 s0)
  (h:∀(i:Nat) (x:A) (s:S),l[i]? =some x->x∈l->a s=(i:Int)->a s<(l.length:Int)->I i s->cC l (a s)=some x->bN (a s+1)=(i:Int)+1->Ok (body s) (fun r=>match r with|.inl s'=>a s'=(i:Int)+1/\I (i+1) s'|.inr e=>Q e))
  (b:∀s,a s=(l.length:Int)->I l.length s->Ok (body s) (fun r=>match r with|.inl _=>False|.inr e=>Q e)):Ok (aW body bP s0) Q:=by
 have hl:l.length<9223372036854775808:=hl;refine iU (fun s=>0<=a s/\a s<=l.length/\I (a s).toNat s) (fun s=>l.length-(a s).toNat) (fun s hi=>?_) bP s0 ⟨by omega,by omega,by rw[h0];exact f⟩ (by simp[bP];omega);obtain⟨g,m,d⟩:=hi;by_cases c:a s<(l.length:Int);have hi:(a s).toNat<l.length:=by omega
 have hc:(((a s).toNat:Nat):Int)=a s:=by omega
 have hg:cC l (a s)=some l[(a s).toNat]:=by unfold cC;rw[bK3 g];simp[hi]
 refine(h (a s).toNat l[(a s).toNat] s (by simp[hi]) (cZ3 hi) hc.symm c d hg (by rw[bQ (by omega) (by omega)];omega)).mono fun r hr=>?_;cases r with
 |inl s'=>
  obtain⟨k,e2⟩:=hr;refine⟨⟨by omega,by omega,?_⟩,by omega⟩;rw[show(a s').toNat=(a s).toNat+1 by omega];exact e2
 |inr e=>exact hr
 refine(b s (by omega) ?_).mono fun r hr=>?_;rw[show(a s).toNat=l.length by omega]at d;exact d;cases r with
 |inl j=>exact hr.elim
 |inr e=>exact hr
def jQ {A:Type} {g:Bool} {l:aA A} {x:A} (h:l.length<1073741824) {Q:aA A->Prop} (a:Q (l++[x])):Ok (nE g l [x]) Q:=by
 unfold nE;have e:Sim.maxRoom=1073741824:=rfl;rw[bK3 ⟨by rw[e,cM3,bU3];omega,fun _=>bI3 _⟩];exact .mk a
def rK2 {w:Bool} {id:YZ} {l:aA YV} {s:Y0} {r:Int} (h:l.length<1000000):Ok (nA w id l s r) (fun v=>v.length<=l.length+1):=by
 unfold nA;refine Ob (P:=fun v=>v.length<=l.length+1) (Oi (fun _=>Ob (jQ (Q:=fun v=>v.length<=l.length+1) (by omega) (by simp)) fun v hv=>.mk hv) (fun _=>.mk (by omega))) fun v hv=>.mk hv
def xO1 (n a b:Int):qQ n a b=some (decide (n>=a)&&decide (n<=b)):=rfl
def rL2 (i:YL):F23 i=some (if((((decide (i.eH<(-77)))||(decide (i.eH>77)))||(decide (i.bK<(-140))))||(decide (i.bK>140)))then 2 else 0):=by
 unfold F23;split<;>rfl
def gE2 {s:ByteArray} (h:s.size<9223372036854775808):Ok (F99 s) (fun _=>True):=by
 unfold F99;refine Ob (P:=fun _=>True) (Oi (fun _=>?_) (fun _=>.mk trivial)) fun v hv=>.mk hv
 have:Ok (aI1 s.data.toList) (fun _=>True):=by
  unfold aI1;refine Ob (Xk (l:=s.data.toList) (g:=fun b=>fY1 (b.toNat:Int)) (by rw[eY3];exact h) (fun x _=>⟨_,rfl⟩)) fun v hv=>.mk trivial
 exact Ob this fun v hv=>.mk trivial
end Go.P
namespace Go.P
section
variable {α β:Type} {Q:α->Prop}
def Ok.bindE {P:β->Prop} {x:aB β} {k:β->aB α} (h:Ok x P) (hk:∀v,x=some v->P v->Ok (k v) Q):Ok (x.bind k) Q:=by
 obtain⟨v,rfl,hv⟩:=h;exact hk v rfl hv
def Ok.of {x:aB α} (h:Ok x Q) {v:α} (hv:x=some v):Q v:=by
 obtain⟨w,h1,h2⟩:=h;rw[h1]at hv;cases hv;exact h2
def vD {k:IntKind} {a b:Int} (h:b≠0):Ok (Qi k a b) (fun v=>v=k.wrap (a.tdiv b)):=by
 unfold Qi;rw[bM3 h];exact .mk rfl
def Du {k:IntKind} {a b:Int} (h:b≠0):Ok (Zt k a b) (fun v=>v=a.tmod b):=by
 unfold Zt;rw[bM3 h];exact .mk rfl
def yX {k:IntKind} {a b:Int} (h:0<=b):Ok (Tu k a b) (fun v=>v=a.fdiv (2^min b.toNat k.bits)):=by
 unfold Tu;rw[bM3 (by omega)];exact .mk rfl
def Xl {k:IntKind} {a b:Int} (h:0<=b):Ok (mN1 k a b) (fun _=>True):=by
 unfold mN1;rw[bM3 (by omega)];exact .mk trivial
end
section
variable {A:Type} {l:List A}
def nQ {i:Int} (h0:0<=i) (h1:i<(l.length:Int)):Ok (gI l i) (fun v=>v=i.toNat/\v<l.length):=by
 unfold gI sW;rw[bK3 ⟨h0,h1⟩];exact .mk ⟨rfl,by omega⟩
def qF {j:Nat} (h:j<l.length):Ok (gT l j) (fun x=>l[j]? =some x/\x∈l):=by
 unfold gT;rw[bY3 h];exact .mk ⟨rfl,cZ3 h⟩
def Xm {j:Nat} {f:A->A} (h:j<l.length):Ok (lV l j f) (fun m=>m.length=l.length):=by
 unfold lV;rw[bY3 h];exact .mk (by simp)
def yY {n c:Int} {z:A} (h0:0<=n) (h1:n<=c) (h2:c<=1073741824):Ok (Bx n c z) (fun v=>v=List.replicate n.toNat z):=by
 unfold Bx;rw[bK3 ⟨h0,h1,h2⟩];exact .mk rfl
def Kb {a b:Int} (h0:0<=a) (h1:a<=b) (h2:b<=(l.length:Int)):Ok (wP l a b) (fun v=>v.length<=l.length/\∀x∈v,x∈l):=by
 unfold wP;rw[bK3 ⟨h0,h1,h2⟩];exact .mk ⟨by simp;omega,fun x c=>List.mem_of_mem_drop (eU3 c)⟩
def bB1 {h:Int} (_:0<l.length) (h1:0<=h) (h2:h<=(l.length:Int)):Ok (uE l h) (fun v=>v.length=h.toNat/\∀x∈v,x∈l):=by
 unfold uE;rw[bK3 ⟨h1,h2⟩];exact .mk ⟨by simp;omega,fun x a=>eU3 a⟩
def kB {i:Int} {x:A} (h:cC l i=some x):0<=i/\i<(l.length:Int)/\x∈l/\l[i.toNat]? =some x:=by
 unfold cC at h;split at h;obtain⟨hi,_⟩:=bG3.1 h;exact⟨by omega,by omega,bO3 h,h⟩;cases h
end
def Aw {s:ByteArray} {i:Int} (h0:0<=i) (h1:i<(s.size:Int)):Ok (tU s i) (fun v=>0<=v/\v<=255):=by
 unfold tU;rw[bK3 h0];have h:i.toNat<s.data.toList.length:=by rw[eY3];show i.toNat<s.size;omega
 rw[bY3 h];have:=(s.data.toList[i.toNat]).toNat_lt;exact .mk ⟨by dsimp only;omega,by dsimp only;omega⟩
def kC {A:Type} {l:aA A} (h:l.length<=1073741824):lD l=some l:=by
 unfold lD;rw[Nat.ble_eq_true_of_le h];rfl
def nm:(∀a b:Bool,((a||b)=true)=(a=true\/b=true))/\(∀a b:Bool,((a&&b)=true)=(a=true/\b=true))/\(∀b:Bool,((!b)=true)=(b=false))/\(∀(p:Prop) [Decidable p],(decide p=true)=p)/\
  (∀(p:Prop) [Decidable p],(decide p=false)=¬p)/\(∀p q:Prop,(¬(p\/q))=(¬p/\¬q))/\(∀p q:Prop,(¬(p/\q))=(p->¬q))/\(∀b:Bool,(¬b=true)=(b=false))/\(∀a b:Int,((a !=b)=true)=¬a=b)/\
  (∀a b:Int,((a==b)=true)=(a=b))/\(∀p:Prop,(¬¬p)=p):=
 ⟨fun a b=>by simp,fun a b=>by simp,fun b=>by simp,fun p _=>by simp,fun p _=>by simp,fun p q=>by simp,fun p q=>by simp,fun b=>by simp,fun a b=>by simp,fun a b=>by simp,fun p=>by simp⟩
def nl {A:Type}:(∀(a:A) (l:aA A),(a::l).length=l.length+1)/\([]:aA A).length=0:=⟨fun _ _=>rfl,rfl⟩
def nt:(∀[Decidable True],decide True=true)/\(∀(α:Type) [Decidable True] (a b:α),(if True then a else b)=a)/\∀(α β:Type) (a:α) (f:α->aB β),(some a).bind f=f a:=⟨dD3 _,fun _ _ _ _=>cF3 ..,fun _ _ _ _=>rfl⟩
def nf:(∀a:Int,(a<a)=False)/\(∀[Decidable False],decide False=false)/\((false=true)=False)/\∀(α:Type) [Decidable False] (a b:α),(if False then a else b)=b:=⟨fun a=>by simp,dW3 _,by simp,fun _ _ _ _=>cR3 ..⟩
def dP {α β:Type} {Q:α->Prop} {x:aB β} {k:β->aB α} (h:Ok x fun _=>True) (hk:∀v,Ok (k v) Q):Ok (x.bind k) Q:=Ob h fun v _=>hk v
def lpT {A S E β:Type} {l:aA A} {body:S->aB (S⊕E)} {s0:S} {k:E->aB β} {Q:β->Prop} (a:S->Int) (hl:l.length<9223372036854775808) (h0:a s0=0)
  (h:∀(i:Nat) (x:A) (s:S),x∈l->a s=(i:Int)->a s<(l.length:Int)->cC l (a s)=some x->bN (a s+1)=(i:Int)+1->Ok (body s) (fun r=>match r with|.inl s'=>a s'=(i:Int)+1|.inr _=>True))
  (b:∀s,a s=(l.length:Int)->Ok (body s) (fun r=>match r with|.inl _=>False|.inr _=>True)) (hk:∀e,Ok (k e) Q):Ok ((aW body bP s0).bind k) Q:=
 dP (dF (l:=l) a (fun _ _=>True) hl h0 trivial (fun i x s _ d hi c _ hg hw=>(h i x s d hi c hg hw).mono fun r hr=>by cases r with|inl s'=>exact⟨hr,trivial⟩|inr e=>trivial) (fun s hi _=>b s hi)) hk
def iW1 {s:ByteArray} {n:Nat} (h:s.size<=n):s.data.toList.length<=n:=by rw[eY3];exact h
def iX1 (n:Int): -9223372036854775808<=bN n/\bN n<=9223372036854775807:=by
 have e:bN n=if n%18446744073709551616>=9223372036854775808 then n%18446744073709551616-18446744073709551616 else n%18446744073709551616:=by
  unfold bN IntKind.wrap;rw[show((2:Int)^IntKind.bits .i64)=18446744073709551616 from rfl,show((2:Int)^(IntKind.bits .i64-1))=9223372036854775808 from rfl];simp[IntKind.signed]
 rw[e];split<;>omega
def nR {S E:Type} {body:S->aB (S⊕E)} {Q:E->Prop} {s0:S} (d:S->Int) (N:Int) (I:S->Prop) (g:N<=9223372036854775807) (h0: -1000<=d s0) (f:I s0)
  (h:∀s,I s->d s0<=d s->(d s<N->bN (d s+1)=d s+1)->Ok (body s) (fun r=>match r with|.inl s'=>d s<N/\d s'=d s+1/\I s'|.inr e=>Q e)):Ok (aW body bP s0) Q:=by
 refine iU (fun s=>I s/\d s0<=d s) (fun s=>(N-d s).toNat) (fun s hs=>?_) bP s0 ⟨f,dZ3 _⟩ (by simp only[bP];omega);refine(h s hs.1 hs.2 (fun hc=>bQ (by omega) (by omega))).mono fun r hr=>?_;cases r with
 |inl s'=>obtain⟨a,b,c⟩:=hr;exact⟨⟨c,by omega⟩,by omega⟩
 |inr e=>exact hr
def iY1 {w:Bool} {id:YZ} {l:aA YV} {s:Y0} {r:Int} (h:l.length<1000000):Ok (nA w id l s r) (fun v=>(w=true->v.length=l.length+1)/\(w=false->v.length=l.length)):=by
 unfold nA;refine Ob (P:=fun v=>(w=true->v.length=l.length+1)/\(w=false->v.length=l.length)) (Oi (fun h=>Ob (jQ (Q:=fun v=>v.length=l.length+1) (by omega) (by simp)) fun v hv=>.mk ⟨fun _=>hv,fun h2=>by rw[h]at h2;cases h2⟩) (fun h=>.mk ⟨fun h2=>absurd h2 h,fun _=>rfl⟩)) fun v hv=>.mk hv
def gF2 (n:Int):0<=IntKind.wrap .u8 n/\IntKind.wrap .u8 n<256:=by
 unfold IntKind.wrap;rw[show((2:Int)^IntKind.bits .u8)=256 from rfl];simp[IntKind.signed];omega
def gG2 {l:aA YV} {s:Y0} {r:Int} (hs:s.sm) (h0:s.aE.length=0) (h:l.length<900000):Ok (Ty l s r) (fun v=>0<v.length):=by
 unfold Ty dH;have hp:=hs.cD;refine Ob (P:=fun v=>v.length<=l.length+4) (dF (l:=s.cD) (fun q=>q.1) (fun i q=>q.2.length<=l.length+i) (by omega) rfl (by simp) (fun i x q k f hi e d hg hw=>?_) (fun q hi d=>?_)) fun v1 h1=>?_;obtain⟨x1,j⟩:=q;have g:=hs.nB x f;have hn:=g.zA;simp only at hi e d hg hw;simp only[e,dD3,cF3,hg,bE3,xO1,rL2];refine Ob (gE2 (by omega)) fun a _=>?_;refine Ob (P:=fun _=>True) (by split<;>exact .mk trivial) fun b _=>?_;refine Ob (P:=fun _=>True) (by split<;>exact .mk trivial) fun c _=>?_;refine Ob (rK2 (by omega)) fun v hv=>.mk ⟨hw,by dsimp only;omega⟩;obtain⟨x1,j⟩:=q;simp only at hi d;simp only[hi,Int.lt_irrefl,dW3,bQ3,cR3];exact .mk (by omega);refine Ob (P:=fun v=>v.length<=l.length+4) (dF (l:=s.aE) (fun q=>q.1) (fun i q=>q.2.length<=l.length+4) (by omega) rfl h1 (fun i x q k f hi e d hg hw=>by omega) (fun q hi d=>?_)) fun v1 h1=>?_;obtain⟨x1,j⟩:=q;simp only at hi d;simp only[hi,Int.lt_irrefl,dW3,bQ3,cR3];exact .mk d;have m:=hs.hJ;refine Ob (gE2 (by omega)) fun a _=>?_;simp only[xO1,bE3];refine Ob (P:=fun _=>True) (by split<;>exact .mk trivial) fun b _=>?_;refine Ob (P:=fun r=>r=true) (Oi (fun _=>.mk rfl) (fun _=>.mk (by simp[h0]))) fun c hc=>?_;subst hc;simp only[Bool.true_or];refine Ob (iY1 (by omega)) fun v hv=>.mk (by have:=hv.1 rfl;omega)
def YU.ok (n:Int) (t:YU):Prop:=1<=t.fR/\t.fR<=n/\0<=t.lH/\t.lH+t.fR<=n/\1<=t.iY/\t.iY<=32/\1<=t.jT/\t.jT<=32
def Y0.pl (s:Y0) (m c v:Int):Prop:=∃x y z,cC s.aE m=some x/\cC x.aQ c=some y/\cC y.aO v=some z
def og {A α V:Type} (l:aA A) (v:aA V) (K k:Nat) {body:Int×aA V->aB ((Int×aA V)⊕aA V)} {m:aA V->aB α} {Q:α->Prop} (hl:l.length<9223372036854775808)
  (h:∀(i:Nat) (x:A) (s:Int×aA V),l[i]? =some x->x∈l->s.1=(i:Int)->s.1<(l.length:Int)->(v.length<=s.2.length/\s.2.length<=v.length+i*k)->cC l s.1=some x->bN (s.1+1)=(i:Int)+1->Ok (body s) (fun r=>match r with|.inl s'=>s'.1=(i:Int)+1/\v.length<=s'.2.length/\s'.2.length<=v.length+(i+1)*k|.inr e=>v.length<=e.length/\e.length<=v.length+K))
  (j:∀s,s.1=(l.length:Int)->(v.length<=s.2.length/\s.2.length<=v.length+l.length*k)->Ok (body s) (fun r=>match r with|.inl _=>False|.inr e=>v.length<=e.length/\e.length<=v.length+K))
  (hk:∀r,(v.length<=r.length/\r.length<=v.length+K)->Ok (m r) Q):Ok ((aW body bP (0,v)).bind m) Q:=
 Ob (P:=fun r=>v.length<=r.length/\r.length<=v.length+K) (dF (l:=l) (fun q=>q.1) (fun i q=>v.length<=q.2.length/\q.2.length<=v.length+i*k) hl rfl ⟨bI3 _,by dsimp only;omega⟩ (fun i x s a b c d e f g=>(h i x s a b c d e f g).mono fun r hr=>by cases r<;>exact hr) (fun s a b=>(j s a b).mono fun r hr=>by cases r<;>exact hr)) hk
def vJ {A S E β:Type} {l:aA A} {body:S->aB (S⊕E)} {s0:S} {k:E->aB β} {Q:β->Prop} (a:S->Int)
  (h:∀(i:Nat) (x:A) (s:S),x∈l->a s=(i:Int)->a s<(l.length:Int)->cC l (a s)=some x->bN (a s+1)=(i:Int)+1->Ok (body s) (fun r=>match r with|.inl s'=>a s'=(i:Int)+1|.inr _=>True))
  (hk:∀e,Ok (k e) Q) (hl:l.length<9223372036854775808:=by omega) (h0:a s0=0:=by rfl)
  (b:∀s,a s=(l.length:Int)->Ok (body s) (fun r=>match r with|.inl _=>False|.inr _=>True):=by intro q h;first|(simp only[h,nf];exact .mk trivial)|(obtain⟨_,_⟩:=q;dsimp only at h;simp only[h,nf];exact .mk trivial)|(obtain⟨_,_,_⟩:=q;dsimp only at h;simp only[h,nf];exact .mk trivial)|(obtain⟨_,_,_,_⟩:=q;dsimp only at h;simp only[h,nf];exact .mk trivial)):Ok ((aW body bP s0).bind k) Q:=lpT (l:=l) a hl h0 h b hk
def oh {A α V:Type} (l:aA A) (v:aA V) (K k:Nat) {body:Int×aA V->aB ((Int×aA V)⊕aA V)} {b:aA V->aB α} {Q:α->Prop}
  (h:∀(i:Nat) (x:A) (s:Int×aA V),l[i]? =some x->x∈l->s.1=(i:Int)->s.1<(l.length:Int)->(v.length<=s.2.length/\s.2.length<=v.length+i*k)->cC l s.1=some x->bN (s.1+1)=(i:Int)+1->Ok (body s) (fun r=>match r with|.inl s'=>s'.1=(i:Int)+1/\v.length<=s'.2.length/\s'.2.length<=v.length+(i+1)*k|.inr e=>v.length<=e.length/\e.length<=v.length+K))
  (hk:∀r,(v.length<=r.length/\r.length<=v.length+K)->Ok (b r) Q) (hl:l.length<9223372036854775808:=by omega)
  (a:∀s,s.1=(l.length:Int)->(v.length<=s.2.length/\s.2.length<=v.length+l.length*k)->Ok (body s) (fun r=>match r with|.inl _=>False|.inr e=>v.length<=e.length/\e.length<=v.length+K):=by intro q h c;obtain⟨_,_⟩:=q;dsimp only at h c;simp only[h,nf];exact .mk (by dsimp only;omega)):Ok ((aW body bP (0,v)).bind b) Q:=og l v K k hl h a hk
def qG {A S E:Type} {l:aA A} {body:S->aB (S⊕E)} {Q:E->Prop} {s0:S} (a:S->Int) (I:Nat->S->Prop)
  (h:∀(i:Nat) (x:A) (s:S),l[i]? =some x->x∈l->a s=(i:Int)->a s<(l.length:Int)->I i s->cC l (a s)=some x->bN (a s+1)=(i:Int)+1->Ok (body s) (fun r=>match r with|.inl s'=>a s'=(i:Int)+1/\I (i+1) s'|.inr e=>Q e)) (hl:l.length<9223372036854775808:=by omega) (h0:a s0=0:=by rfl) (b:I 0 s0:=by dsimp only;omega)
  (c:∀s,a s=(l.length:Int)->I l.length s->Ok (body s) (fun r=>match r with|.inl _=>False|.inr e=>Q e):=by intro q h b;first|(obtain⟨_,_⟩:=q;dsimp only at h b;simp only[h,nf];exact .mk (by dsimp only;omega))|(obtain⟨_,_,_⟩:=q;dsimp only at h b;simp only[h,nf];exact .mk (by dsimp only;omega))|(obtain⟨_,_,_,_⟩:=q;dsimp only at h b;simp only[h,nf];exact .mk (by dsimp only;omega))):Ok (aW body bP s0) Q:=dF (l:=l) a I hl h0 b h c
def oN {α:Type} {c:Bool} {y:aB Bool} {k:Bool->aB α} {Q:α->Prop} (h:¬c=true->Ok y fun _=>True) (hk:∀r,(¬r=true->¬c=true)->Ok (k r) Q):Ok ((if c=true then some true else y).bind k) Q:=by
 cases c with
 |true=>exact hk true (fun h=>absurd rfl h)
 |false=>exact Ob (h (by simp)) fun r _=>hk r (fun _=>by simp)
def oM {α:Type} {c:Bool} {y:aB Bool} {k:Bool->aB α} {Q:α->Prop} (h:c=true->Ok y fun _=>True) (hk:∀r,(r=true->c=true)->Ok (k r) Q):Ok ((if c=true then y else some false).bind k) Q:=by
 cases c with
 |true=>exact Ob (h rfl) fun r _=>hk r (fun _=>rfl)
 |false=>exact hk false (fun h=>by cases h)
abbrev fZ {α:Type} (x:aB α):Prop:=Ok x fun _=>True
end Go.P
set_option maxHeartbeats 1000000
namespace Go.P
def U34 {v:YO} (hv:v.b):Ok (F17 v) (fun _=>True):=by
 unfold F17;refine Ob (P:=fun _=>True) (dF (l:=v.aX) (fun q=>q.2) (fun _ _=>True) hv.aX rfl trivial (fun i e q c a hi hl _ hg hw=>?_) (fun q hi _=>?_)) fun v _=>.mk trivial;obtain⟨n,k⟩:=q;dsimp only at hi hl hg hw;simp only[hl,hg,dD3,cF3,bE3];refine Ob (P:=fun _=>True) (dF (l:=e.dL) (fun q=>q.2) (fun _ _=>True) (hv.gS e a).dL rfl trivial (fun i e q c a hi hl _ hg hw=>?_) (fun q hi _=>?_)) fun x _=>.mk ⟨hw,trivial⟩;obtain⟨n,k⟩:=q;dsimp only at hi hl hg hw;simp only[hl,hg,dD3,cF3,bE3];exact .mk ⟨hw,trivial⟩;obtain⟨n,k⟩:=q;dsimp only at hi;simp only[hi,Int.lt_irrefl,dW3,bQ3,cR3];exact .mk trivial;obtain⟨n,k⟩:=q;dsimp only at hi;simp only[hi,Int.lt_irrefl,dW3,bQ3,cR3];exact .mk trivial
def U13 {s:Y0} (hb:s.b):Ok (F5 s) (fun r=>r=true->s.sm):=by
 unfold F5 dH;refine Ob (P:=fun r=>match r with|.inl _=>True|.inr _=>∀p∈s.cD,p.sm) (rM (l:=s.cD) (fun p=>p.sm) hb.cD (fun i p h0 h1 d hg hw=>?_) (fun i hi o=>?_)) fun r hr=>?_;simp only[h1,hg,hw,dD3,cF3,bE3];refine Ob (P:=fun b=>b=true\/p.sm) (Oi (fun _=>.mk (.inl rfl)) (fun hc=>.mk ?_)) fun b hb=>?_;simp only[bN3]at hc;by_cases h:(p.zA.size:Int)>300;exact .inl (by simpa using h);exact .inr ⟨by omega,by omega⟩;exact Oi (fun _=>.mk trivial) (fun hc=>.mk ⟨rfl,hb.resolve_left hc⟩);simp only[hi,Int.lt_irrefl,dW3,bQ3,cR3];exact .mk o;rcases r with _|_;exact .mk (fun h=>by cases h);refine Ob (P:=fun r=>match r with|.inl _=>True|.inr _=>∀m∈s.aE,m.sm) (dF (l:=s.aE) (fun q=>q.2.2) (fun i q=>∀m∈s.aE.take i,m.sm) hb.aE rfl (fun m j=>by simp at j) (fun i m q d j hi hl g hg hw=>?_) (fun q hi g=>?_)) fun r B=>?_;obtain⟨ev,by',k⟩:=q;have F:=hb.cK m j;dsimp only at hi hl hg hw;simp only[hl,hg,dD3,cF3,bE3];refine Oi (fun _=>.mk trivial) (fun hc=>?_);simp only[bZ3,bN3,eC3]at hc;refine Ob (P:=fun r=>match r with|.inl _=>True|.inr _=>∀c∈m.aQ,c.sm) (dF (l:=m.aQ) (fun q=>q.2.2) (fun i q=>∀c∈m.aQ.take i,c.sm) F.aQ rfl (fun m j=>by simp at j) (fun i c q C z hi hl w hg t=>?_) (fun q hi g=>?_)) fun r hr=>?_;obtain⟨ev,by',k⟩:=q;have E:=F.iD c z;dsimp only at hi hl hg t;simp only[hl,hg,dD3,cF3,bE3];refine Ob (P:=fun b=>b=true\/(c.jG.length<=5/\c.aO.length<=3)) (Oi (fun _=>.mk (.inl rfl)) (fun hc=>.mk ?_)) fun b hb=>?_;simp only[bN3]at hc;by_cases h:(c.aO.length:Int)>3;exact .inl (by simpa using h);exact .inr ⟨by omega,by omega⟩;refine Oi (fun _=>.mk trivial) (fun hcc=>?_);have hcc:=hb.resolve_left hcc;refine Ob (P:=fun r=>match r with|.inl _=>True|.inr _=>∀v∈c.aO,v.sm) (dF (l:=c.aO) (fun q=>q.2.2) (fun i q=>∀v∈c.aO.take i,v.sm) E.aO rfl (fun m j=>by simp at j) (fun i v q D A hi hl g hg u=>?_) (fun q hi g=>?_)) fun r hr=>?_;obtain⟨ev,by',k⟩:=q;have bv:=E.gA v A;dsimp only at hi hl hg u;simp only[hl,hg,dD3,cF3,bE3];refine Ob (U33 bv) fun f hf=>?_;refine Oi (fun _=>.mk trivial) (fun y=>?_);refine Ob (U34 bv) fun n _=>?_;refine Oi (fun _=>.mk trivial) (fun _=>.mk ⟨u,fun x d=>?_⟩);rw[List.take_add_one,D]at d;rcases cL3.1 d with d|d;exact g x d;simp at d;subst d;exact hf (by simpa using y);obtain⟨ev,by',k⟩:=q;dsimp only at hi;simp only[hi,Int.lt_irrefl,dW3,bQ3,cR3];rw[dG3]at g;exact .mk g;rcases r with⟨a,b⟩|⟨a,b⟩
 exact .mk trivial;refine .mk ⟨t,fun x d=>?_⟩;rw[List.take_add_one,C]at d;rcases cL3.1 d with d|d;exact w x d;simp at d;subst d;exact⟨hcc.1,hcc.2,hr⟩;obtain⟨ev,by',k⟩:=q;dsimp only at hi;simp only[hi,Int.lt_irrefl,dW3,bQ3,cR3];rw[dG3]at g;exact .mk g;rcases r with⟨a,b⟩|⟨a,b⟩
 exact .mk trivial;refine .mk ⟨hw,fun x e=>?_⟩;rw[List.take_add_one,d]at e;rcases cL3.1 e with e|e;exact g x e;simp at e;subst e;exact⟨by omega,by omega,by omega,hr⟩;obtain⟨ev,by',k⟩:=q;dsimp only at hi;simp only[hi,Int.lt_irrefl,dW3,bQ3,cR3];rw[dG3]at g;exact .mk g;rcases r with _|_;exact .mk (fun h=>by cases h);refine .mk (fun h=>?_);simp only[bF3,bN3]at h;exact⟨by omega,by omega,hr,by omega,B,by omega,by omega⟩
end Go.P
set_option maxHeartbeats 2000000
namespace Go.P
def rM2 {x1:Int}:fZ (fY1 x1):=by
 unfold fY1;exact bZ
def rN2 {x1:aA UInt8} (a:x1.length<=300):fZ (mV1 x1):=by
 unfold mV1 dH;have e:=a;refine vJ (l:=x1) (fun q=>q) (fun j i k g f c b d=>?_) fun h=>?_;simp only[c,b,nt];refine dP (rM2) fun m=>?_;refine oJ (fun _=>?_);exact .mk d;rcases h with n|_;exact bZ;exact bZ
def rO2 {x1:aA UInt8} (a:x1.length<=300):fZ (aI1 x1):=by
 unfold aI1;refine dP (rN2 a) fun b=>?_;exact bZ
def T99 {x1:ByteArray} (a:x1.size<=300):fZ (F99 x1):=by
 unfold F99;refine oM (fun _=>?_) fun d b=>?_;refine dP (rO2 (iW1 a)) fun c=>?_;exact bZ;exact bZ
def wR {x1 a b:Int}:fZ (qQ x1 a b):=by
 unfold qQ;exact bZ
def T23 {x1:YL}:fZ (F23 x1):=by
 unfold F23;refine oJ (fun _=>?_);exact bZ
def pX {x1:Bool} {e:YZ} {a:aA YV} {b:Y0} {f:Int} (c:a.length+1<=1000000) (d:b.sm):Ok (nA x1 e a b f) (fun v=>a.length<=v.length/\v.length<=a.length+1):=by
 exact(iY1 (by omega)).mono fun v h=>by cases x1<;>simp at h<;>omega
def gH2 {x1:aA YV} {C:Y0} {x3:Int} (T:x1.length+17<=1000000) (a:C.sm):Ok (Ty x1 C x3) (fun v=>x1.length<=v.length/\v.length<=x1.length+17):=by
 unfold Ty dH;have K:=a.cD;refine oh C.cD x1 4 1 (fun Z R q30 O x s f p d j=>?_) fun J z19=>?_;obtain⟨b9,d0⟩:=q30;dsimp only at s f d j p;simp only[f,d,nt];have H:=a.nB _ x;refine dP (T99 H.zA) fun d2=>?_;refine oN (fun _=>?_) fun d4 F=>?_;refine dP (wR) fun d3=>?_;exact bZ;refine oN (fun c38=>?_) fun d6 U=>?_;have b6:=F c38;refine dP (T23) fun d5=>?_;exact bZ;refine Ob (pX (by first|omega|(simp only[bU3]at *;omega)) a) fun d7 V=>?_;exact .mk ⟨j,by dsimp only;omega⟩;have L:=a.aE;refine oh C.aE J 12 1 (fun b0 D q53 P y t g r b k=>?_) fun e9 f7=>?_;obtain⟨d8,d9⟩:=q53;dsimp only at t g b k r;simp only[g,b,nt];have o:=a.cK _ y;refine dP (T99 o.cA) fun e0=>?_;have M:=o.aQ;refine vJ (l:=D.aQ) (fun q=>q.2) (fun b4 E q67 z u h c m=>?_) fun e7=>?_;obtain⟨e1,e3⟩:=q67;dsimp only at u h c m;simp only[h,b,c,nt];have B:=o.iD _ z;have N:=B.aO;refine vJ (l:=E.aO) (fun q=>q.2) (fun b5 S q80 A w i e n=>?_) fun e6=>?_;obtain⟨e4,e5⟩:=q80;dsimp only at w i e n;simp only[i,b,c,e,nt];have b8:=B.gA _ A;exact .mk n;exact .mk m;refine Ob (pX (by first|omega|(simp only[bU3]at *;omega)) a) fun e8 W=>?_;exact .mk ⟨k,by dsimp only;omega⟩;refine dP (T99 a.hJ) fun f0=>?_;refine oN (fun _=>?_) fun f2 G=>?_;refine dP (wR) fun f1=>?_;exact bZ;refine oN (fun c89=>?_) fun f5 X=>?_;have b7:=G c89;refine dP (wR) fun f4=>?_;exact bZ;refine Ob (pX (by first|omega|(simp only[bU3]at *;omega)) a) fun f6 Y=>?_;exact .mk (by omega)
def gI2 {x1:Y0} (a:x1.sm):fZ (Wv x1):=by
 unfold Wv;exact bZ
def rA1 {x1 g:Int} {h i:Int} {j k l:Int} {b:YJ} {a:aA YZ} (c:b.sm) (e:a.length+1<=1000000):Ok (Dd x1 g h i j k l b a) (fun v=>v.length<=a.length+1):=by
 unfold Dd;refine Ob (jQ (Q:=fun v=>v.length=a.length+1) (by omega) (by simp)) fun f d=>?_;exact .mk (by omega)
def bC1 {x1 e:Int} {f g:Int} {h i j:Int} {k:YF} {a:aA YZ} (c:a.length+1<=1000000):Ok (uZ x1 e f g h i j k a) (fun v=>v.length<=a.length+1):=by
 unfold uZ;refine Ob (jQ (Q:=fun v=>v.length=a.length+1) (by omega) (by simp)) fun d b=>?_;exact .mk (by omega)
def bD1 {x1 g:Int} {h i:Int} {j k l:Int} {b:YM} {a:aA YZ} (c:b.sm) (e:a.length+1<=1000000):Ok (vA x1 g h i j k l b a) (fun v=>v.length<=a.length+1):=by
 unfold vA;refine Ob (jQ (Q:=fun v=>v.length=a.length+1) (by omega) (by simp)) fun f d=>?_;exact .mk (by omega)
def bE1 {x1 g:Int} {h i:Int} {j k l:Int} {b:YE} {a:aA YZ} (c:b.sm) (e:a.length+1<=1000000):Ok (vB x1 g h i j k l b a) (fun v=>v.length<=a.length+1):=by
 unfold vB;refine Ob (jQ (Q:=fun v=>v.length=a.length+1) (by omega) (by simp)) fun f d=>?_;exact .mk (by omega)
def bF1 {x1 e:Int} {f g:Int} {h i j:Int} {k:YN} {a:aA YZ} (c:a.length+1<=1000000):Ok (vC x1 e f g h i j k a) (fun v=>v.length<=a.length+1):=by
 unfold vC;refine Ob (jQ (Q:=fun v=>v.length=a.length+1) (by omega) (by simp)) fun d b=>?_;exact .mk (by omega)
def gJ2 {x1:Y0} {x2:aA YZ} (e:x1.sm) (j4:x2.length+3646<=1000000):Ok (Ww x1 x2) (fun v=>v.length<=x2.length+3646):=by
 unfold Ww dH;have d9:=e.cD;refine Ob (P:=fun r=>r.length<=x2.length+24) (qG (l:=x1.cD) (fun q=>q.2.1) (fun i q=>q.2.2.length<=x2.length+i*6) (fun j5 b8 q109 e7 b0 T j K c t=>?_)) fun d5 k5=>?_;obtain⟨j6,j7,j8⟩:=q109;dsimp only at T j c t K;simp only[j,c,nt];have C:=e.nB _ b0;refine Ob (rA1 C (by first|omega|(simp only[bU3]at *;omega))) fun d4 f8=>?_;have e0:=C.eG;refine Ob (P:=fun r=>r.2.length<=d4.length+5) (qG (l:=b8.eG) (fun q=>q.2.1) (fun i q=>q.2.2.length<=d4.length+i*1) (fun g5 f5 q125 e8 d7 U k L f u=>?_)) fun⟨k3,k4⟩ d6=>?_;obtain⟨j9,k0,k1⟩:=q125;dsimp only at U k f u L;simp only[k,c,f,nt];refine Ob (bC1 (by first|omega|(simp only[bU3]at *;omega))) fun k2 f9=>?_;exact .mk ⟨u,by dsimp only;omega⟩
 try dsimp only at d6
 exact .mk ⟨t,by dsimp only;omega⟩;have e1:=e.aE;refine Ob (P:=fun r=>r.length<=d5.length+3612) (qG (l:=x1.aE) (fun q=>q.1) (fun i q=>q.2.length<=d5.length+i*301) (fun g6 b9 q140 e9 b4 V m M a w=>?_)) fun J i6=>?_;obtain⟨h2,h3⟩:=q140;dsimp only at V m a w M;simp only[m,a,nt];have B:=e.cK _ b4;refine Ob (bD1 B (by first|omega|(simp only[bU3]at *;omega))) fun F g1=>?_;have e3:=B.aQ;refine Ob (P:=fun r=>r.length<=F.length+300) (qG (l:=b9.aQ) (fun q=>q.1) (fun i q=>q.2.length<=F.length+i*60) (fun g7 d0 q156 f0 b5 W n N b x=>?_)) fun i1 i7=>?_;obtain⟨h4,G⟩:=q156;dsimp only at W n b x N;simp only[n,a,b,nt];have D:=B.iD _ b5;have e4:=D.aO;refine Ob (P:=fun r=>r.length<=G.length+60) (qG (l:=d0.aO) (fun q=>q.1) (fun i q=>q.2.length<=G.length+i*20) (fun g8 d2 q171 f1 b6 X o O d y=>?_)) fun i0 i9=>?_;obtain⟨h5,H⟩:=q171;dsimp only at X o d y O;simp only[o,a,b,d,nt];have E:=D.gA _ b6;have e5:=E.aX;refine Ob (P:=fun r=>r.length<=H.length+20) (qG (l:=d2.aX) (fun q=>q.1) (fun i q=>q.2.length<=H.length+i*1) (fun g9 f6 q187 f2 b7 Y p R g z=>?_)) fun h9 j2=>?_;obtain⟨h6,h7⟩:=q187;dsimp only at Y p g z R;simp only[p,a,b,d,g,nt];have d3:=E.gS _ b7;refine Ob (bE1 d3 (by first|omega|(simp only[bU3]at *;omega))) fun h8 g3=>?_;exact .mk ⟨z,by dsimp only;omega⟩;exact .mk ⟨y,by dsimp only;omega⟩;exact .mk ⟨x,by dsimp only;omega⟩;exact .mk ⟨w,by dsimp only;omega⟩;have e6:=e.bU;refine Ob (P:=fun r=>r.length<=J.length+10) (qG (l:=x1.bU) (fun q=>q.1) (fun i q=>q.2.length<=J.length+i*1) (fun h0 f7 q205 f4 d8 Z s S h A=>?_)) fun i5 j3=>?_;obtain⟨i2,i3⟩:=q205;dsimp only at Z s h A S;simp only[s,h,nt];refine Ob (bF1 (by first|omega|(simp only[bU3]at *;omega))) fun i4 g4=>?_;exact .mk ⟨A,by dsimp only;omega⟩;exact .mk (by omega)
def rQ2 {x1:Y0} (a:x1.sm):Ok (mX1 x1) (fun v=>v.length<=4000):=by
 unfold mX1;refine dP (gI2 a) fun _=>?_;refine Ob (gJ2 a (by first|omega|(simp only[bU3]at *;omega))) fun c b=>?_;exact .mk (by simp only[bU3]at *;omega)
def gK2 {x1:YZ}:fZ (gB1 x1):=by
 unfold gB1;refine dP (wR) fun b=>?_;refine oM (fun _=>?_) fun d a=>?_;refine dP (wR) fun c=>?_;exact bZ;exact bZ
def rR2 {x1:Y0} {j:Int} (d:x1.sm):fZ (mY1 x1 j):=by
 unfold mY1 dH;have g:=d.kV;refine vJ (l:=x1.kV) (fun q=>q) (fun i h m f e b a c=>?_) fun k=>?_;simp only[b,a,nt];refine oJ (fun _=>?_);exact .mk c;rcases k with n|_;exact bZ;exact bZ
def gL2 {x1:aA YV} {s:Y0} {x3:Int} (N:x1.length+4001<=1000000) (a:s.sm):Ok (gC1 x1 s x3) (fun v=>x1.length<=v.length/\v.length<=x1.length+4001):=by
 unfold gC1 dH;refine Ob (rQ2 a) fun x4 n=>?_;have y:=n;refine Ob (P:=fun r=>x1.length<=r.2.length/\r.2.length<=x1.length+4000) (qG (l:=x4) (fun q=>q.1) (fun i q=>x1.length<=q.2.2.length/\q.2.2.length<=x1.length+i*1) (fun K C q238 B t k d j b f=>?_)) fun⟨X,Y⟩ p=>?_;obtain⟨O,R,S⟩:=q238;dsimp only at k d b f j;simp only[d,b,nt];refine dP (gK2) fun T=>?_;refine oN (fun _=>?_) fun V E=>?_;refine dP (rR2 a) fun U=>?_;exact bZ;refine Ob (pX (by first|omega|(simp only[bU3]at *;omega)) a) fun W F=>?_;exact .mk ⟨f,by dsimp only;omega⟩
 try dsimp only at p
 have z:=a.kV;refine vJ (l:=s.kV) (fun q=>q.2) (fun L D q255 u m e c g=>?_) fun b9=>?_;obtain⟨Z,b0⟩:=q255;dsimp only at m e c g;simp only[e,c,nt];refine oN (fun _=>?_) fun b5 o=>?_;refine dP (gK2) fun b4=>?_;exact bZ;refine oN (fun c261=>?_) fun b8 G=>?_;have M:=o c261;refine oM (fun _=>?_) fun b7 H=>?_;have A:=a.kV;refine Ob (P:=fun x=>x∈s.kV) (dU (by(simp only[nm]at *;rw[bQ (by omega) (by omega)];omega)) (by(simp only[nm]at *;rw[bQ (by omega) (by omega)];omega)) (fun _ h _=>h)) fun b6 w=>?_;exact bZ;exact bZ;exact .mk g;refine Ob (pX (by first|omega|(simp only[bU3]at *;omega)) a) fun d0 J=>?_;exact .mk (by omega)
def T46 {x1:Y0} (a:x1.sm):Ok (F46 x1) (fun v=>v<=9223372036854775807):=by
 unfold F46 dH;have hp:=a.cD;refine Ob (P:=fun v=>v<=9223372036854775807) (dF (l:=x1.cD) (fun q=>q.2) (fun i q=>q.1<=9223372036854775807) (by omega) rfl (by decide) (fun i e q d c hi hl _ hg hw=>?_) (fun q hi b=>?_)) fun v hv=>.mk hv;obtain⟨n,x⟩:=q;dsimp only at hi hl hg hw;simp only[hl,hg,nt];exact .mk ⟨hw,(iX1 _).2⟩;obtain⟨n,x⟩:=q;dsimp only at hi b;simp only[hi,nf];exact .mk b
def rS2 {x1:Int} {y:YM} {U:Int} (s:y.sm):fZ (aJ1 x1 y U):=by
 unfold aJ1 dH;have t:=s.aQ;refine vJ (l:=y.aQ) (fun q=>q.2) (fun B c q279 m j e b g=>?_) fun T=>?_;obtain⟨H,J⟩:=q279;dsimp only at j e b g;simp only[e,b,nt];have a:=s.iD _ m;refine oN (fun _=>?_) fun L r=>?_;have u:=a.aO;refine Ob (P:=fun x=>x∈c.aO) (dU (by omega) (by(simp only[nm]at *;omega)) (fun _ h _=>h)) fun K n=>?_;have E:=a.gA _ n;exact bZ;refine oN (fun c289=>?_) fun N A=>?_;have D:=r c289;have v:=a.aO;refine Ob (P:=fun x=>x∈c.aO) (dU (by(simp only[nm]at *;rw[bQ (by omega) (by omega)];omega)) (by(simp only[nm]at *;rw[bQ (by omega) (by omega)];omega)) (fun _ h _=>h)) fun M o=>?_;have F:=a.gA _ o;exact bZ;have w:=a.aO;refine vJ (l:=c.aO) (fun q=>q.2) (fun C z q305 p k f d i=>?_) fun S=>?_;obtain⟨O,R⟩:=q305;dsimp only at k f d i;simp only[f,b,d,nt];have G:=a.gA _ p;exact .mk i;exact .mk g;exact bZ
def gM2 {x1:Int} {i:aA YV} {l:Y0} {u:Int} (q:i.length+12<=1000000) (d:l.sm):Ok (Jy x1 i l u) (fun v=>i.length<=v.length/\v.length<=i.length+12):=by
 unfold Jy dH;have j:=d.aE;refine oh l.aE i 12 1 (fun o m q319 k g f b e a c=>?_) fun t p=>?_;obtain⟨w,x⟩:=q319;dsimp only at f b a c e;simp only[b,a,nt];have h:=d.cK _ g;refine dP (rS2 h) fun r=>?_;refine Ob (pX (by first|omega|(simp only[bU3]at *;omega)) d) fun s n=>?_;exact .mk ⟨c,by dsimp only;omega⟩;exact .mk (by omega)
def gN2 {x1:aA YV} {d:Y0} {f:Int} (e:x1.length+12<=1000000) (a:d.sm):Ok (aK1 x1 d f) (fun v=>x1.length<=v.length/\v.length<=x1.length+12):=by
 unfold aK1;refine Ob (T46 a) fun g b=>?_;refine Ob (gM2 (by first|omega|(simp only[bU3]at *;omega)) a) fun h c=>?_;exact .mk (by omega)
def rT2:fZ (mZ1):=by
 unfold mZ1;exact bZ
def rU2 {x1:Int}:fZ (nA1 x1):=by
 unfold nA1;refine oJ (fun _=>?_);refine dP (rT2) fun b=>?_;refine Ob (dU (Q:=fun _=>True) (by(simp only[nm]at *;rw[bQ (by omega) (by omega)];omega)) (by(simp only[nm,nl]at *;rw[bQ (by omega) (by omega)];omega)) (fun _ _ _=>trivial)) fun c a=>?_;exact bZ
def gO2 {x1:Int}:fZ (gD1 x1):=by
 unfold gD1;refine dP (rU2) fun⟨a,b⟩=>?_;exact bZ
def rV2 {x1:YX}:fZ (nB1 x1):=by
 unfold nB1;refine Oi (fun _=>bZ) (fun _=>?_);refine Ob (P:=fun _=>True) (nR (fun q=>q.2.2) 6 (fun _=>True) (by decide) (by decide) trivial (fun q _ h1 h2=>?_)) fun r _=>?_;obtain⟨a,n,i⟩:=q;dsimp only at h1 h2 ⊢;refine Oi (fun hc=>?_) (fun _=>bZ);simp only[bN3]at hc;refine Ob (dU (Q:=fun _=>True) h1 hc (fun _ _ _=>trivial)) fun x _=>?_;refine Oi (fun _=>bZ) (fun _=>?_);refine Ob (P:=fun _=>True) (Oi (fun _=>bZ) (fun _=>bZ)) fun v _=>.mk ⟨hc,h2 hc,trivial⟩;rcases r with⟨a,b⟩|⟨a,b⟩<;>exact bZ
def rW2 {x1:YX}:Ok (nC1 x1) (fun v=>v=0->x1.Unit≠0):=by
 unfold nC1;refine Oi (fun c330=>.mk (by omega)) (fun c330=>?_);refine Oi (fun c331=>.mk (by omega)) (fun c331=>?_);refine dP (rV2) fun a=>?_;refine Oi (fun c333=>.mk (by omega)) (fun c333=>?_);exact .mk (by(simp only[nm]at *;omega))
def rX2 {x1:YX} (b:x1.Unit≠0):fZ (nD1 x1):=by
 unfold nD1;refine Ob (vD (by omega)) fun c a=>?_;exact bZ
def rY2 {x1:YX} (a:x1.Unit≠0):fZ (nE1 x1):=by
 unfold nE1;refine dP (rX2 (by omega)) fun b=>?_;exact bZ
def rZ2 {x1:YX}:fZ (nF1 x1):=by
 unfold nF1;refine Ob (rW2) fun b a=>?_;refine oJ (fun _=>?_);refine dP (rY2 (by(simp only[nm]at *;omega))) fun c=>?_;exact bZ
def T91 {x1:YM} (b:x1.sm):fZ (F91 x1):=by
 unfold F91;refine dP (rZ2) fun⟨c,d⟩=>?_;refine oJ (fun _=>?_);refine oJ (fun _=>?_);refine dP ?_ fun e=>?_;refine oJ (fun _=>?_);exact bZ;refine Ob (Du (by omega)) fun f a=>?_;refine oJ (fun _=>?_);refine oJ (fun _=>?_);exact bZ
def sA2 {x1:Int} {y:YM} (k:y.sm):fZ (nH1 x1 y):=by
 unfold nH1 dH;refine dP (T91 k) fun⟨W,X⟩=>?_;have u:=k.aQ;refine vJ (l:=y.aQ) (fun q=>q.2) (fun C g q358 o m c a e=>?_) fun V=>?_;obtain⟨G,H⟩:=q358;dsimp only at m c a e;simp only[c,a,nt];have j:=k.iD _ o;have v:=j.jG;refine vJ (l:=g.jG) (fun q=>q.2) (fun D z q371 s n d b f=>?_) fun U=>?_;obtain⟨J,K⟩:=q371;dsimp only at n d b f;simp only[d,a,b,nt];refine oN (fun _=>?_) fun M i=>?_;refine dP (gO2) fun L=>?_;exact bZ;refine oN (fun c377=>?_) fun O p=>?_;have E:=i c377;refine dP (wR) fun N=>?_;exact bZ;refine oN (fun c381=>?_) fun T A=>?_;have r:=p c381;have F:=i r;refine oM (fun _=>?_) fun S B=>?_;have w:=j.jG;refine Ob (P:=fun x=>x∈g.jG) (dU (by(simp only[nm]at *;rw[bQ (by omega) (by omega)];omega)) (by(simp only[nm]at *;rw[bQ (by omega) (by omega)];omega)) (fun _ h _=>h)) fun R t=>?_;exact bZ;exact bZ;exact .mk f;exact .mk e;exact bZ
def rB1 {x1:aA YV} {k:Y0} {t:Int} (p:x1.length+12<=1000000) (d:k.sm):Ok (De x1 k t) (fun v=>x1.length<=v.length/\v.length<=x1.length+12):=by
 unfold De dH;have i:=d.aE;refine oh k.aE x1 12 1 (fun n l q400 j g f b e a c=>?_) fun s o=>?_;obtain⟨u,w⟩:=q400;dsimp only at f b a c e;simp only[b,a,nt];have h:=d.cK _ g;refine dP (sA2 h) fun q=>?_;refine Ob (pX (by first|omega|(simp only[bU3]at *;omega)) d) fun r m=>?_;exact .mk ⟨c,by dsimp only;omega⟩;exact .mk (by omega)
def gP2 {x1:aA YV} {u:Y0} {N:Int} (D:x1.length+32<=1000000) (g:u.sm):Ok (gF1 x1 u N) (fun v=>x1.length<=v.length/\v.length<=x1.length+32):=by
 unfold gF1 dH;have p:=g.cD;refine oh u.cD x1 20 5 (fun z m q416 r l j c h a e=>?_) fun L B=>?_;obtain⟨E,t⟩:=q416;dsimp only at j c a e h;simp only[c,a,nt];have n:=g.nB _ l;have q:=n.eG;refine oh m.eG t 5 1 (fun A w q430 s o k d i b f=>?_) fun K C=>?_;obtain⟨F,G⟩:=q430;dsimp only at k d b f i;simp only[d,a,b,nt];refine dP (gO2) fun H=>?_;refine Ob (pX (by first|omega|(simp only[bU3]at *;omega)) g) fun J x=>?_;exact .mk ⟨f,by dsimp only;omega⟩;exact .mk ⟨e,by dsimp only;omega⟩;refine Ob (rB1 (by first|omega|(simp only[bU3]at *;omega)) g) fun M y=>?_;exact .mk (by omega)
def T76 {x1:Int}:fZ (F76 x1):=by
 unfold F76;refine oJ (fun _=>?_);exact bZ
def T55 {x1:Int} {a:YL}:fZ (F55 x1 a):=by
 unfold F55;refine Ob T76 fun c _=>?_;refine Oi (fun _=>bZ) (fun _=>?_);refine Oi (fun _=>bZ) (fun _=>?_);have hw:=iX1 (x1+(bN ((bN (7*a.bK))-(bN (12*a.eH)))));generalize bN (x1+(bN ((bN (7*a.bK))-(bN (12*a.eH)))))=x0 at hw ⊢;refine Ob (P:=fun v=> -9223372036854775808<=v/\v<=7) (iU (fun x=> -9223372036854775808<=x/\x<=9223372036854775807) (fun x=>(x+9223372036854775808).toNat) (fun x b=>?_) bP x0 hw (by simp only[bP];omega)) fun x1 h1=>?_;refine Oi (fun hc=>?_) (fun hc=>?_)<;>simp only[bN3]at hc;rw[bQ (by omega) (by omega)];exact .mk ⟨by omega,by omega⟩;exact .mk (by omega);refine Ob (P:=fun v=>True) (iU (fun x=> -9223372036854775808<=x/\x<=7) (fun x=>(7-x).toNat) (fun x b=>?_) bP x1 h1 (by simp only[bP];omega)) fun a _=>bZ;refine Oi (fun hc=>?_) (fun hc=>?_)<;>simp only[bN3]at hc;rw[bQ (by omega) (by omega)];exact .mk ⟨by omega,by omega⟩;exact bZ
def sB2 {x1:Int} {o:YM} {i:YK} (g:o.sm) (f:i.s'.sm):fZ (aM1 x1 o i):=by
 unfold aM1 dH;refine dP (T91 g) fun⟨w,x⟩=>?_;refine oN (fun _=>?_) fun z k=>?_;refine dP (wR) fun y=>?_;exact bZ;have h:=f.cD;refine vJ (l:=i.s'.cD) (fun q=>q.2) (fun m j q450 e d b a c=>?_) fun v=>?_;obtain⟨p,r⟩:=q450;dsimp only at d b a c;simp only[b,a,nt];have n:=f.nB _ e;refine dP ?_ fun u=>?_;refine Oi (fun c454=>?_) (fun c454=>?_);refine dP (T55) fun⟨s,t⟩=>?_;exact bZ;exact bZ;exact .mk c;exact bZ
def rC1 {x1:aA YV} {k:Y0} {t:Int} (p:x1.length+12<=1000000) (d:k.sm):Ok (yV x1 k t) (fun v=>x1.length<=v.length/\v.length<=x1.length+12):=by
 unfold yV dH;have i:=d.aE;refine oh k.aE x1 12 1 (fun n l q467 j g f b e a c=>?_) fun s o=>?_;obtain⟨u,w⟩:=q467;dsimp only at f b a c e;simp only[b,a,nt];have h:=d.cK _ g;refine dP (sB2 h d) fun q=>?_;refine Ob (pX (by first|omega|(simp only[bU3]at *;omega)) d) fun r m=>?_;exact .mk ⟨c,by dsimp only;omega⟩;exact .mk (by omega)
def gQ2 {x1:aA YV} {c:Y0} {e:Int} (d:x1.length+12<=1000000) (a:c.sm):Ok (aN1 x1 c e) (fun v=>x1.length<=v.length/\v.length<=x1.length+12):=by
 unfold aN1;refine Ob (rC1 (by first|omega|(simp only[bU3]at *;omega)) a) fun f b=>?_;exact .mk (by omega)
def Ax {x1 a:Int}:fZ (vI x1 a):=by
 unfold vI;refine oJ (fun _=>?_);exact bZ
def iZ1 {x1:aA Int} (d:x1.length<=20):fZ (Qu x1):=by
 unfold Qu dH;have g:=d;refine vJ (l:=x1) (fun q=>q) (fun i h k f e b a c=>?_) fun j=>?_;simp only[b,a,nt];refine oJ (fun _=>?_);exact .mk c;rcases j with m|_;exact bZ;exact bZ
def gR2 {x1:Int}:fZ (gJ1 x1):=by
 unfold gJ1;exact bZ
def sC2 {x1:Int}:fZ (nI1 x1):=by
 unfold nI1;refine oJ (fun _=>?_);exact bZ
def sD2 {x1:YE} (c:x1.sm):Ok (nJ1 x1) (fun v=>v.sm):=by
 unfold nJ1;refine oN (fun _=>?_) fun e a=>?_;refine dP (gR2) fun d=>?_;exact bZ;refine Oi (fun c490=>?_) (fun c490=>?_);exact .mk (by first|assumption|exact⟨cQ3 _,cQ3 _,cQ3 _,fun _ h=>nomatch h⟩);have b:=a c490;refine dP ?_ fun f=>?_;refine oJ (fun _=>?_);exact bZ;refine dP ?_ fun i=>?_;refine Oi (fun c495=>?_) (fun c495=>?_);refine dP (sC2) fun g=>?_;exact bZ;exact bZ;exact .mk (by first|assumption|exact⟨cQ3 _,cQ3 _,cQ3 _,fun _ h=>nomatch h⟩)
def sE2 {x1 m:aA YB} (d:x1.length<=12) (e:m.length<=12):fZ (aO1 x1 m):=by
 unfold aO1 dH;refine oJ (fun _=>?_);have j:=d;refine vJ (l:=x1) (fun q=>q) (fun o n r g f b a c=>?_) fun p=>?_;simp only[b,a,nt];have k:=e;refine Ob (P:=fun x=>x∈m) (dU (by omega) (by(simp only[nm]at *;omega)) (fun _ h _=>h)) fun s i=>?_;refine oJ (fun _=>?_);exact .mk c;rcases p with _|_;exact bZ;exact bZ
def sF2 {x1 m:aA YD} (d:x1.length<=12) (e:m.length<=12):fZ (aP1 x1 m):=by
 unfold aP1 dH;refine oJ (fun _=>?_);have j:=d;refine vJ (l:=x1) (fun q=>q) (fun o n r g f b a c=>?_) fun p=>?_;simp only[b,a,nt];have k:=e;refine Ob (P:=fun x=>x∈m) (dU (by omega) (by(simp only[nm]at *;omega)) (fun _ h _=>h)) fun s i=>?_;refine oJ (fun _=>?_);exact .mk c;rcases p with _|_;exact bZ;exact bZ
def sG2 {x1 i:aA YY} (j:x1.length<=12) (f:∀y∈x1,y.sm) (k:i.length<=12) (g:∀y∈i,y.sm):fZ (aQ1 x1 i):=by
 unfold aQ1 dH;refine oJ (fun _=>?_);have n:=j;refine vJ (l:=x1) (fun q=>q) (fun r p v c m b a e=>?_) fun u=>?_;simp only[b,a,nt];have s:=f _ c;have o:=k;refine Ob (P:=fun x=>x∈i) (dU (by omega) (by(simp only[nm]at *;omega)) (fun _ h _=>h)) fun w d=>?_;have t:=g _ d;refine oJ (fun _=>?_);exact .mk e;rcases u with _|_;exact bZ;exact bZ
def sH2 {x1 i:YE} (a:x1.sm) (b:i.sm):fZ (aR1 x1 i):=by
 unfold aR1;refine oM (fun _=>?_) fun k c=>?_;refine dP (sE2 a.dJ b.dJ) fun j=>?_;exact bZ;refine oM (fun c551=>?_) fun m d=>?_;have g:=c c551;refine dP (sF2 a.cX b.cX) fun l=>?_;exact bZ;refine oM (fun c555=>?_) fun o f=>?_;have e:=d c555;have h:=c e;refine dP (sG2 a.dL a.zB b.dL b.zB) fun n=>?_;exact bZ;exact bZ
def gS2 {x1:YA}:Ok (gK1 x1) (fun v=>v=0-> -1<=x1.Log/\x1.Log<=8/\0<=x1.pY/\x1.pY<=3):=by
 unfold gK1;refine Oi (fun c559=>.mk (by omega)) (fun c559=>?_);exact .mk (by(simp only[nm]at *;omega))
def sI2:fZ (aS1):=by
 unfold aS1;exact bZ
def gT2 {x1:YH} (b:0<=x1.kE/\x1.kE<=6):fZ (Ud x1):=by
 unfold Ud;refine dP (sI2) fun c=>?_;refine Ob (dU (Q:=fun _=>True) (by omega) (by(simp only[nm,nl]at *;omega)) (fun _ _ _=>trivial)) fun d a=>?_;exact bZ
def xQ1 {x1:YH}:Ok (Qw x1) (fun v=>v=0->0<=x1.kE/\x1.kE<=6):=by
 unfold Qw;refine Oi (fun c562=>.mk (by omega)) (fun c562=>?_);refine dP (gT2 (by(simp only[nm]at *;omega))) fun a=>?_;refine Oi (fun c564=>.mk (by omega)) (fun c564=>?_);exact .mk (by(simp only[nm]at *;omega))
def gU2 {x1:YH}:fZ (Ue x1):=by
 unfold Ue;refine Ob (xQ1) fun b a=>?_;refine oJ (fun _=>?_);refine dP (gT2 (by(simp only[nm]at *;omega))) fun c=>?_;exact bZ
def xR1 {x1:YH}:fZ (aT1 x1):=by
 unfold aT1;refine dP (gU2) fun⟨a,b⟩=>?_;refine oJ (fun _=>?_);exact bZ
def sJ2 {x1:YB}:fZ (nK1 x1):=by
 unfold nK1;refine dP (xR1) fun⟨a,b⟩=>?_;refine dP (Ax) fun c=>?_;refine dP (iZ1 (by simp)) fun d=>?_;exact bZ
def sK2 {x1:aA YB} (e:x1.length<=12):fZ (nL1 x1):=by
 unfold nL1 dH;refine oJ (fun _=>?_);refine oJ (fun _=>?_);have g:=e;refine vJ (l:=x1) (fun q=>q.2) (fun j i q585 f d b a c=>?_) fun h=>?_;obtain⟨o,p⟩:=q585;dsimp only at d b a c;simp only[b,a,nt];refine dP (sJ2) fun r=>?_;refine oJ (fun _=>?_);refine dP (xR1) fun⟨k,m⟩=>?_;refine oJ (fun _=>?_);exact .mk c;rcases h with n|_;exact bZ;exact bZ
def sL2 {x1:aA YD} (d:x1.length<=12):fZ (nM1 x1):=by
 unfold nM1 dH;refine oJ (fun _=>?_);have g:=d;refine vJ (l:=x1) (fun q=>q) (fun j i k f e b a c=>?_) fun h=>?_;simp only[b,a,nt];refine dP (xR1) fun⟨m,n⟩=>?_;refine oJ (fun _=>?_);refine oJ (fun _=>?_);exact .mk c;rcases h with o|_;exact bZ;exact bZ
def sM2 {x1:YY} (a:x1.sm):fZ (nN1 x1):=by
 unfold nN1;refine Oi (fun _=>bZ) (fun _=>?_);refine Oi (fun _=>bZ) (fun _=>?_);have hs:=a.qR;refine Ob (P:=fun _=>True) (nR (fun q=>q) (x1.qR.size:Int) (fun _=>True) (by omega) (by decide) trivial (fun i _ h1 h2=>?_)) fun r _=>?_;refine Oi (fun hc=>?_) (fun _=>bZ);simp only[bN3]at hc;refine Ob (Aw h1 hc) fun b _=>?_;refine Ob (P:=fun _=>True) (Oi (fun _=>bZ) (fun _=>Ob (Aw h1 hc) fun b _=>bZ)) fun b _=>?_;exact Oi (fun _=>bZ) (fun _=>.mk ⟨hc,h2 hc,trivial⟩);rcases r with _|_;exact bZ;exact Oi (fun _=>bZ) (fun _=>bZ)
def sN2 {x1:YY} (a:x1.sm):fZ (nO1 x1):=by
 unfold nO1;exact bZ
def sO2 {x1:aA YY} (g:x1.length<=12) (a:∀y∈x1,y.sm):fZ (nP1 x1):=by
 unfold nP1 dH;refine oJ (fun _=>?_);have n:=g;refine vJ (l:=x1) (fun q=>q) (fun r p w d m c b f=>?_) fun v=>?_;simp only[c,b,nt];have j:=a _ d;refine dP (sM2 j) fun z=>?_;refine oJ (fun _=>?_);exact .mk f;rcases v with A|_;exact bZ;refine oM (fun _=>?_) fun u i=>?_;have o:=g;refine Ob (P:=fun x=>x∈x1) (dU (by(simp only[nm]at *;rw[bQ (by omega) (by omega)];omega)) (by(simp only[nm]at *;rw[bQ (by omega) (by omega)];omega)) (fun _ h _=>h)) fun B e=>?_;have k:=a _ e;refine dP (sN2 k) fun t=>?_;exact bZ;refine Oi (fun c628=>?_) (fun c628=>?_);have s:=i c628;exact bZ;exact bZ
def bG1 {x1:YE} (a:x1.sm):fZ (Lx x1):=by
 unfold Lx;refine dP (Ax) fun v=>?_;refine dP (Ax) fun w=>?_;refine dP (iZ1 (by simp)) fun x=>?_;refine oJ (fun _=>?_);refine dP (gR2) fun y=>?_;refine oJ (fun _=>?_);refine Ob (sD2 a) fun z b=>?_;refine dP (sH2 a b) fun A=>?_;refine oJ (fun _=>?_);refine oM (fun _=>?_) fun C c=>?_;refine Ob (gS2) fun B d=>?_;exact bZ;refine Oi (fun c642=>?_) (fun c642=>?_);have e:=c c642;exact bZ;refine Oi (fun c644=>?_) (fun c644=>?_);refine dP (sK2 a.dJ) fun f=>?_;refine dP (sL2 a.cX) fun g=>?_;refine dP (sO2 a.dL a.zB) fun h=>?_;refine dP (iZ1 (by simp)) fun i=>?_;refine oJ (fun _=>?_);refine dP (Ax) fun j=>?_;refine dP (Ax) fun k=>?_;refine dP (Ax) fun l=>?_;refine dP (Ax) fun m=>?_;refine dP (Ax) fun n=>?_;refine dP (iZ1 (by simp)) fun o=>?_;exact bZ;refine dP (Ax) fun p=>?_;refine dP (Ax) fun q=>?_;refine dP (Ax) fun r=>?_;refine dP (Ax) fun s=>?_;refine dP (Ax) fun t=>?_;refine dP (iZ1 (by simp)) fun u=>?_;exact bZ
def sP2 {x1:YE} (a:x1.sm):fZ (nQ1 x1):=by
 unfold nQ1;refine dP (bG1 a) fun b=>?_;exact bZ
def sQ2 {x1:aA YE} (g:x1.length<=20) (e:∀y∈x1,y.sm):fZ (nR1 x1):=by
 unfold nR1 dH;have i:=g;refine vJ (l:=x1) (fun q=>q) (fun k j n c h b a d=>?_) fun m=>?_;simp only[b,a,nt];have f:=e _ c;refine dP (sP2 f) fun o=>?_;refine oJ (fun _=>?_);exact .mk d;rcases m with p|_;exact bZ;exact bZ
def gV2 {x1:aA YE} (b:x1.length<=20) (a:∀y∈x1,y.sm):fZ (gO1 x1):=by
 unfold gO1;refine dP (sQ2 b a) fun c=>?_;exact bZ
def sR2 {x1:YO} (b:x1.sm):fZ (nS1 x1):=by
 unfold nS1;refine oM (fun _=>?_) fun g d=>?_;have c:=b.aX;refine Ob (P:=fun x=>x∈x1.aX) (dU (by omega) (by(simp only[nm]at *;omega)) (fun _ h _=>h)) fun f a=>?_;have e:=b.gS _ a;exact bZ;exact bZ
def sS2 {x1:YA} (b: -1<=x1.Log/\x1.Log<=8/\0<=x1.pY/\x1.pY<=3):fZ (nT1 x1):=by
 unfold nT1;refine Ob (yX (by rw[bQ (by omega) (by omega)];omega)) fun n _=>?_;refine Ob (P:=fun _=>True) (nR (fun q=>q.2.2) x1.pY (fun _=>True) (by omega) (by dsimp only;omega) trivial (fun q _ h1 h2=>?_)) fun r _=>bZ;obtain⟨a,n,i⟩:=q;dsimp only at h1 h2 ⊢;refine Oi (fun hc=>?_) (fun _=>bZ);simp only[bN3]at hc;exact Ob (vD (by decide)) fun x _=>.mk ⟨hc,h2 hc,trivial⟩
def sT2 {x1:YA}:fZ (nU1 x1):=by
 unfold nU1;refine Ob (gS2) fun b a=>?_;refine oJ (fun _=>?_);refine dP (sS2 (by(simp only[nm]at *;omega))) fun c=>?_;exact bZ
def sU2 {x1:YE} (a:x1.sm):fZ (nV1 x1):=by
 unfold nV1;refine dP (bG1 a) fun b=>?_;refine oJ (fun _=>?_);refine dP (sT2) fun⟨c,d⟩=>?_;exact bZ
def sV2 {x1:aA YE} (g:x1.length<=20) (c:∀y∈x1,y.sm):Ok (nW1 x1) (fun v=>v.length<=20):=by
 unfold nW1 dH;refine Ob (yY (by omega) (by omega) (by omega)) fun n h2=>?_;refine Ob (P:=fun v=>v.length=x1.length) (dF (l:=x1) (fun q=>q.1) (fun _ q=>q.2.length=x1.length) (by omega) rfl (by rw[h2];simp) (fun i e q k f hi hl d hg hw=>?_) (fun q hi d=>?_)) fun v hv=>.mk (by omega);obtain⟨x,l⟩:=q;dsimp only at hi hl d hg hw;simp only[hl,hg,nt];refine Ob (sU2 (c e f)) fun⟨a,b⟩ _=>?_;refine Ob (nQ (by omega) (by omega)) fun j h=>?_;refine Ob (Xm (by omega)) fun m f=>.mk ⟨hw,by dsimp only;omega⟩;obtain⟨x,l⟩:=q;dsimp only at hi d;simp only[hi,nf];exact .mk d
def gW2 {x1:Int}:Ok (gP1 x1) (fun v=>v=true->1<=x1/\x1<=32):=by
 unfold gP1;exact .mk (by(simp only[nm]at *;omega))
def sW2 {x1 a:YU}:fZ (nX1 x1 a):=by
 unfold nX1;refine Oi (fun c690=>?_) (fun c690=>?_);refine oJ (fun _=>?_);exact bZ;refine Oi (fun c692=>?_) (fun c692=>?_);refine oJ (fun _=>?_);exact bZ;exact bZ
def rD1 {x1:YU}:Ok (Uf x1) (fun v=>v=bN (x1.lH+x1.fR)):=by
 unfold Uf;exact .mk (by rfl)
def gX2 {x1:YU} {a:aA YU} (g:a.length<=6) (i:a.length<=3):Ok (Wy x1 a) (fun v=>v.2.length<=3):=by
 unfold Wy;refine Ob (P:=fun v=>v.length<=3) (iU (fun l=>l.length<=3) (fun l=>l.length) (fun l hl=>?_) bP a i (by simp only[bP];omega)) fun x d=>?_;refine Ob (P:=fun r=>r=true->0<l.length) (Oi (fun hc=>?_) (fun _=>.mk (fun h=>by cases h))) fun b hb=>?_;simp only[bN3]at hc;refine Ob (nQ (by rw[bQ (by omega) (by omega)];omega) (by rw[bQ (by omega) (by omega)];omega)) fun j c=>?_;exact Ob (qF c.2) fun y _=>Ob rD1 fun e _=>.mk (fun _=>by omega);refine Oi (fun hc=>?_) (fun _=>.mk hl);have:=hb hc;refine Ob (bB1 this (by rw[bQ (by omega) (by omega)];omega) (by rw[bQ (by omega) (by omega)];omega)) fun m f=>?_;have:=f.1;rw[bQ (by omega) (by omega)]at this;exact .mk ⟨by omega,by omega⟩;refine Ob (P:=fun r=>r=true\/x.length<3) (Oi (fun hc=>.mk (.inl rfl)) (fun hc=>?_)) fun b hb=>?_;have hc:x.length<3:=by simp only[dU3]at hc;omega
 refine Ob (P:=fun _=>True) (Oi (fun hd=>?_) (fun _=>bZ)) fun b _=>.mk (.inr hc);simp only[bN3]at hd;refine Ob rD1 fun e _=>?_;refine Ob (nQ (by rw[bQ (by omega) (by omega)];omega) (by rw[bQ (by omega) (by omega)];omega)) fun j c=>?_;exact Ob (qF c.2) fun y _=>Ob rD1 fun e _=>bZ;refine Oi (fun _=>.mk d) (fun hc=>?_);have hb:x.length<3:=by rcases hb with h|h;exact absurd h hc;exact h
 refine Ob (jQ (Q:=fun v=>v.length=x.length+1) (by omega) (by simp)) fun m f=>.mk (by dsimp only;omega)
def sX2 {x1:aA YU} {c:Int} (w:x1.length<=6):Ok (nY1 x1 c) (fun v=>v=0->∀t∈x1,t.ok c):=by
 unfold nY1 dH;refine Oi (fun _=>.mk (fun h=>by cases h)) (fun k=>?_);refine Oi (fun _=>.mk (fun h=>by cases h)) (fun _=>?_);simp only[bZ3,bN3,eC3]at k;refine Ob (P:=fun r=>match r with|.inl p=>p.1≠0|.inr _=>∀t∈x1,t.ok c) (dF (l:=x1) (fun q=>q.1) (fun i q=>q.2.length<=3/\∀j,j<i->∀t,x1[j]? =some t->t.ok c) (by omega) rfl ⟨by decide,fun j g=>by omega⟩ (fun i e q z u hi hl d hg hw=>?_) (fun q hi d=>?_)) fun v hv=>?_;obtain⟨x,l⟩:=q;dsimp only at hi hl d hg hw;simp only[hl,hg,nt];refine Ob (P:=fun r=>r=false->(1<=e.fR/\e.fR<=c/\0<=e.lH/\e.lH+e.fR<=c/\1<=e.iY/\e.iY<=32)) (Oi (fun _=>.mk (fun h=>by cases h)) (fun hc=>?_)) fun b1 h1=>?_;simp only[bZ3,bN3,eC3]at hc;rw[bQ (by omega) (by omega)]at hc;refine Ob gW2 fun r hr=>.mk (fun h=>?_);have:=hr (by simpa using h);omega;refine Ob (P:=fun r=>r=false->e.ok c) (Oi (fun hc=>.mk (fun h=>by cases h)) (fun hc=>?_)) fun b2 h2=>?_;refine Ob gW2 fun r hr=>.mk (fun h=>?_);have:=hr (by simpa using h);have:=h1 (by simpa using hc);unfold YU.ok;omega;refine Oi (fun _=>.mk (show(2:Int)≠0 by decide)) (fun hc=>?_);have s:e.ok c:=h2 (by simp only[bZ3,eC3,eW3]at hc;exact hc.1);refine Ob (P:=fun _=>True) (Oi (fun hd=>?_) (fun _=>bZ)) fun b3 _=>?_;simp only[bN3]at hd;have:=kB hg;refine Ob (dU (Q:=fun _=>True) (by rw[bQ (by omega) (by omega)];omega) (by rw[bQ (by omega) (by omega)];omega) (fun _ _ _=>trivial)) fun y _=>?_;exact Ob sW2 fun o _=>bZ;refine Oi (fun _=>.mk (show(25:Int)≠0 by decide)) (fun _=>?_);refine Ob (gX2 (cH3 d.1 (by decide)) d.1) fun⟨a,m⟩ u=>?_;refine Oi (fun _=>.mk (show(21:Int)≠0 by decide)) (fun _=>.mk ⟨hw,u,fun j g t f=>?_⟩);by_cases n:j=i;subst n;rw[z]at f;cases f;exact s;exact d.2 j (by omega) t f;obtain⟨x,l⟩:=q;dsimp only at hi d;simp only[hi,nf];refine .mk (fun t f=>?_);obtain⟨j,g⟩:=bX3.1 f;exact d.2 j (bG3.1 g).1 t g;rcases v with⟨a,b⟩|b;exact .mk (fun h=>absurd h hv);exact .mk (fun _=>hv)
def sY2 {x1:YU} {a:Int}:fZ (nZ1 x1 a):=by
 unfold nZ1;exact bZ
def sZ2 {x1 c:Int} (i:0<x1/\0<c/\c<9223372036854775808):Ok (oA1 x1 c) (fun v=>0<v/\v∣x1/\v∣c):=by
 unfold oA1;refine Ob (P:=fun v=>0<v/\v∣x1/\v∣c) (iU (fun q=>0<q.1/\0<=q.2/\∀d:Int,d∣q.1->d∣q.2->d∣x1/\d∣c) (fun q=>q.2.toNat) (fun q h=>?_) bP (x1,c) ⟨i.1,by dsimp only;omega,fun d h1 h2=>⟨h1,h2⟩⟩ (by simp only[bP];omega)) fun v hv=>.mk hv;obtain⟨a,b⟩:=q;obtain⟨h1,h2,f⟩:=h;dsimp only at h1 h2 f;refine Oi (fun hc=>?_) (fun hc=>?_)<;>simp only[bN3]at hc;refine Ob (Du (by omega)) fun n hn=>?_;have g:n=a%b:=by rw[hn,Int.tmod_eq_emod_of_nonneg (by omega)]
 have e2:=Int.emod_nonneg a (by omega:b≠0);have j:=Int.emod_lt_of_pos a hc;refine .mk ⟨⟨hc,by dsimp only;omega,fun d d1 e=>f d ?_ d1⟩,by dsimp only;omega⟩;dsimp only at d1 e;rw[g]at e;have:=Int.emod_add_mul_ediv a b;rw[<-this];exact Int.dvd_add e (Int.dvd_trans d1 (Int.dvd_mul_right b _));have:b=0:=by omega
 subst this;exact .mk ⟨h1,f a (Int.dvd_refl a) (Int.dvd_zero a)⟩
def tA2 {x1:aA YU} {E:Int} (s:x1.length<=6) (A:∀t∈x1,1<=t.iY/\t.iY<=32/\1<=t.jT/\t.jT<=32):Ok (oB1 x1 E) (fun v=>1<=v.2):=by
 unfold oB1 dH;refine Ob (P:=fun v=>1<=v.2) (dF (l:=x1) (fun q=>q.2.2) (fun i q=>1<=q.1/\q.1<=32^i/\1<=q.2.1/\q.2.1<=32^i) (by omega) rfl ⟨by decide,by decide,by decide,by decide⟩ (fun i e q B w hi hl f hg hw=>?_) (fun q hi f=>?_)) fun v hv=>.mk hv;obtain⟨a,b,x⟩:=q;dsimp only at hi hl f hg hw;simp only[hl,hg,nt];have j:=A e w;refine Ob sY2 fun c _=>?_;have u:i<=5:=by omega
 have y:(32:Int)^i<=33554432:=by
  have:i=0\/i=1\/i=2\/i=3\/i=4\/i=5:=by omega
  rcases this with rfl|rfl|rfl|rfl|rfl|rfl<;>decide
 have z:(32:Int)^(i+1)=32^i*32:=Int.pow_succ 32 i;refine Ob (P:=fun v=>1<=v.1/\v.1<=32^(i+1)/\1<=v.2/\v.2<=32^(i+1)) (Oi (fun _=>?_) (fun _=>?_)) fun⟨v1,v2⟩ hv=>.mk ⟨hw,hv⟩;have n1:1<=a*e.jT:=Int.le_trans (by decide) (eV3 f.1 j.2.2.1 (by decide) (by omega));have C:a*e.jT<=32^i*32:=eV3 f.2.1 j.2.2.2 (by omega) (by omega);have d1:1<=b*e.iY:=Int.le_trans (by decide) (eV3 f.2.2.1 j.1 (by decide) (by omega));have r:b*e.iY<=32^i*32:=eV3 f.2.2.2 j.2.1 (by omega) (by omega);rw[bQ (n:=a*e.jT) (by omega) (by omega),bQ (n:=b*e.iY) (by omega) (by omega)];generalize a*e.jT=N at n1 C ⊢;generalize b*e.iY=D at d1 r ⊢;refine Ob (sZ2 ⟨by omega,by omega,by omega⟩) fun g hg=>?_;obtain⟨F,⟨k,rfl⟩,⟨m,rfl⟩⟩:=hg
 have G:1<=k:=by
  rcases Int.lt_or_le k 1 with h|h;have:=Int.mul_nonneg (a:=g) (b:= -k) (by omega) (by omega);rw[Int.mul_neg]at this;omega;exact h
 have J:1<=m:=by
  rcases Int.lt_or_le m 1 with h|h;have:=Int.mul_nonneg (a:=g) (b:= -m) (by omega) (by omega);rw[Int.mul_neg]at this;omega;exact h
 have H:k<=g*k:=by
  have:=eV3 (a:=1) (b:=k) (c:=g) (d:=k) (by omega) (dZ3 k) (by omega) (by omega);omega
 have K:m<=g*m:=by
  have:=eV3 (a:=1) (b:=m) (c:=g) (d:=m) (by omega) (dZ3 m) (by omega) (by omega);omega
 refine Ob (vD (by omega)) fun q1 o=>?_;refine Ob (vD (by omega)) fun q2 p=>?_;rw[Int.mul_tdiv_cancel_left k (by omega),show IntKind.wrap .i64 k=bN k from rfl,bQ (by omega) (by omega)]at o;rw[Int.mul_tdiv_cancel_left m (by omega),show IntKind.wrap .i64 m=bN m from rfl,bQ (by omega) (by omega)]at p;exact .mk ⟨by dsimp only;omega,by dsimp only;omega,by dsimp only;omega,by dsimp only;omega⟩;exact .mk ⟨f.1,by dsimp only;omega,f.2.2.1,by dsimp only;omega⟩;obtain⟨a,b,x⟩:=q;dsimp only at hi f;simp only[hi,nf];exact .mk f.2.2.1
def gY2 {x1:aA YU} {e f:Int} (b:x1.length<=6) (g:∀t∈x1,1<=t.iY/\t.iY<=32/\1<=t.jT/\t.jT<=32):fZ (gQ1 x1 e f):=by
 unfold gQ1;refine oJ (fun _=>?_);refine Ob (tA2 b (by omega)) fun⟨h,i⟩ a=>?_
 try dsimp only at a
 refine Ob (Du (by omega)) fun j c=>?_;refine oJ (fun _=>?_);refine Ob (vD (by omega)) fun k d=>?_;exact bZ
def gZ2 {x1:aA YU} {f:aA Int} (d:x1.length<=6) (j:f.length<=20):Ok (gR1 x1 f) (fun v=>v.1.length<=20/\(v.2=0->∀t∈x1,t.ok f.length)):=by
 unfold gR1 dH;refine Ob (sX2 d) fun c hc=>?_;refine Oi (fun hd=>.mk ⟨cQ3 _,fun h=>absurd h (by simpa using hd)⟩) (fun hd=>?_);have k:=hc (by simpa using hd);refine Ob (yY (by decide) (by omega) (by omega)) fun u n=>?_;refine Ob (P:=fun r=>match r with|.inl p=>p.1≠0|.inr l=>l.length<=f.length) (dF (l:=f) (fun q=>q.1) (fun i q=>q.2.length<=i) (by omega) rfl (by rw[n];decide) (fun i e q s o hi hl g hg hw=>?_) (fun q hi g=>?_)) fun v hv=>?_;obtain⟨x,l⟩:=q;dsimp only at hi hl g hg hw;simp only[hl,hg,nt];refine Ob (gY2 d (fun t h=>by have:=k t h;unfold YU.ok at this;omega)) fun⟨a,b⟩ _=>?_;refine Oi (fun hb=>.mk (by simpa using hb)) (fun _=>?_);exact Ob (jQ (Q:=fun v=>v.length=l.length+1) (by omega) (by simp)) fun m o=>.mk ⟨hw,by dsimp only;omega⟩;obtain⟨x,l⟩:=q;dsimp only at hi g;simp only[hi,nf];exact .mk g;rcases v with⟨a,b⟩|b;exact .mk ⟨cQ3 _,fun h=>absurd h hv⟩;exact .mk ⟨cH3 hv j,fun _=>k⟩
def tB2 {x1:aA YU} {d:Int} {f:aA Int} (k:x1.length<=6) (m:f.length<=20) (j:0<=d/\d<(x1.length:Int)) (hy:∀t∈x1,t.ok f.length):fZ (oC1 x1 d f):=by
 unfold oC1;refine Ob (dU (Q:=fun x=>x∈x1) j.1 j.2 (fun _ h _=>h)) fun g c=>?_;have o:=hy g c;unfold YU.ok at o;refine Ob (P:=fun _=>True) (nR (fun q=>q.2) (g.lH+g.fR) (fun _=>True) (by omega) (by dsimp only;omega) trivial (fun q _ h1 h2=>?_)) fun r _=>?_;obtain⟨s,i⟩:=q;dsimp only at h1 h2 ⊢;refine Ob rD1 fun e he=>?_;rw[bQ (by omega) (by omega)]at he;subst he;refine Oi (fun hc=>?_) (fun _=>bZ);simp only[bN3]at hc;refine Ob (Kb (by rw[bQ (by omega) (by omega)];omega) (by rw[bQ (by omega) (by omega)];omega) (by omega)) fun l hl=>?_;refine Ob (dU (Q:=fun _=>True) (by omega) (by omega) (fun _ _ _=>trivial)) fun y _=>?_;refine Ob (gY2 (by omega) (fun t h=>by have:=hy t (hl.2 t h);unfold YU.ok at this;omega)) fun⟨a,b⟩ _=>?_;exact Oi (fun _=>bZ) (fun _=>.mk ⟨hc,h2 hc,trivial⟩);rcases r with a|a;exact bZ;refine Ob (P:=fun _=>True) (nR (fun q=>q) 9 (fun _=>True) (by decide) (by decide) trivial (fun q _ h1 h2=>?_)) fun r _=>?_;refine Oi (fun hc=>?_) (fun _=>bZ);simp only[bN3]at hc;refine Ob (yX (by rw[bQ (by omega) (by omega)];omega)) fun n _=>?_;exact Oi (fun _=>bZ) (fun _=>.mk ⟨by omega,h2 (by omega),trivial⟩);rcases r with a|a<;>exact bZ
def tC2 {x1:aA YU} {h:aA Int} (c:x1.length<=6) (d:h.length<=20):fZ (oD1 x1 h):=by
 unfold oD1;refine Ob (gZ2 c d) fun⟨a,b⟩ f=>?_;dsimp only at f;refine Oi (fun _=>bZ) (fun hd=>?_);have n:=f.2 (by simpa using hd);refine Ob (yY (by decide) (by omega) (by omega)) fun p j=>?_;refine Ob (P:=fun _=>True) (dF (l:=x1) (fun q=>q.1) (fun i q=>q.2.length<=i) (by omega) rfl (by rw[j];decide) (fun i e q o k hi hl g hg hw=>?_) (fun q hi g=>?_)) fun v hv=>?_;obtain⟨x,l⟩:=q;dsimp only at hi hl g hg hw;simp only[hl,nt];refine Ob (tB2 c d ⟨by omega,hl⟩ n) fun⟨a,b⟩ _=>?_;refine Oi (fun hb=>bZ) (fun _=>?_);exact Ob (jQ (Q:=fun v=>v.length=l.length+1) (by omega) (by simp)) fun m k=>.mk ⟨hw,by dsimp only;omega⟩;obtain⟨x,l⟩:=q;dsimp only at hi g;simp only[hi,nf];exact bZ;rcases v with a|b<;>exact bZ
def tD2 {x1:YO} (a:x1.sm):Ok (oE1 x1) (fun v=>v.1.length<=20):=by
 unfold oE1 dH;have j:=a.aX;refine vJ (l:=x1.aX) (fun q=>q) (fun m k t e i d c f=>?_) fun s=>?_;simp only[d,c,nt];have h:=a.gS _ e;refine dP (bG1 h) fun u=>?_;refine oJ (fun _=>?_);refine oJ (fun _=>?_);exact .mk f;rcases s with w|_;exact .mk (by(simp only[nm,nl]at *;omega));refine Ob (sV2 a.aX a.gS) fun x b=>?_;refine Ob (gZ2 a.eJ b) fun⟨n,o⟩ g=>?_
 try dsimp only at g
 refine Oi (fun c716=>?_) (fun c716=>?_);exact .mk (by(simp only[nm,nl]at *;omega));refine dP (tC2 a.eJ b) fun⟨p,r⟩=>?_;refine Oi (fun c718=>?_) (fun c718=>?_);exact .mk (by(simp only[nm,nl]at *;omega));exact .mk (by(simp only[nm]at *;omega))
def tE2 {x1:YO} {f:Int} (a:x1.sm):Ok (oF1 x1 f) (fun v=>v.1.length<=20):=by
 unfold oF1;refine Oi (fun c719=>?_) (fun c719=>?_);exact .mk (by(simp only[nm,nl]at *;omega));refine Oi (fun c720=>?_) (fun c720=>?_);exact .mk (by(simp only[nm,nl]at *;omega));refine dP (sR2 a) fun g=>?_;refine Oi (fun c722=>?_) (fun c722=>?_);have e:=a.aX;refine Ob (P:=fun x=>x∈x1.aX) (dU (by omega) (by(simp only[nm]at *;omega)) (fun _ h _=>h)) fun i b=>?_;have d:=a.gS _ b;refine dP (bG1 d) fun j=>?_;refine Oi (fun c728=>?_) (fun c728=>?_);exact .mk (by(simp only[nm,nl]at *;omega));refine Oi (fun c729=>?_) (fun c729=>?_);exact .mk (by(simp only[nm,nl]at *;omega));exact .mk (by(simp only[nm,nl]at *;omega));refine Ob (tD2 a) fun⟨k,l⟩ c=>?_
 try dsimp only at c
 exact .mk (by omega)
def tF2 {x1:aA Int} (e:x1.length<=20):fZ (oG1 x1):=by
 unfold oG1 dH;have g:=e;refine vJ (l:=x1) (fun q=>q.2) (fun i h q741 f d b a c=>?_) fun m=>?_;obtain⟨j,k⟩:=q741;dsimp only at d b a c;simp only[b,a,nt];exact .mk c;exact bZ
def hA2 {x1:YO} {e:Int} (c:x1.sm):Ok (gS1 x1 e) (fun v=>v.1.length<=20):=by
 unfold gS1;refine Ob (tE2 c) fun⟨f,g⟩ a=>?_
 try dsimp only at a
 refine oM (fun _=>?_) fun i b=>?_;refine dP (tF2 a) fun h=>?_;exact bZ;refine dP ?_ fun j=>?_;refine Oi (fun c748=>?_) (fun c748=>?_);have d:=b c748;exact bZ;exact bZ;refine Oi (fun c750=>?_) (fun c750=>?_);exact .mk (by(simp only[nm,nl]at *;omega));exact .mk (by omega)
def hB2 {x1:YO} {c:Int} (b:x1.sm):fZ (gT1 x1 c):=by
 unfold gT1;refine Ob (hA2 b) fun⟨d,e⟩ a=>?_
 try dsimp only at a
 exact bZ
def hF2 {x1:Int}:fZ (gU1 x1):=by
 unfold gU1;exact bZ
def tG2 {x1:YO} {c:Int} (a:x1.sm):fZ (oH1 x1 c):=by
 unfold oH1;refine dP (gV2 a.aX a.gS) fun d=>?_;refine oM (fun _=>?_) fun g b=>?_;refine dP (hB2 a) fun e=>?_;refine dP (hF2) fun f=>?_;exact bZ;exact bZ
def tH2 {x1:aA YO} {m:Int} (g:x1.length<=3) (e:∀y∈x1,y.sm):fZ (oI1 x1 m):=by
 unfold oI1 dH;have i:=g;refine vJ (l:=x1) (fun q=>q) (fun k j o c h b a d=>?_) fun n=>?_;simp only[b,a,nt];have f:=e _ c;refine dP (tG2 f) fun p=>?_;refine oJ (fun _=>?_);exact .mk d;rcases n with r|_;exact bZ;exact bZ
def tI2 {x1:aA YO} {c:Int} (b:x1.length<=3) (a:∀y∈x1,y.sm):fZ (oJ1 x1 c):=by
 unfold oJ1;refine dP (tH2 b a) fun d=>?_;exact bZ
def tJ2 {x1:YW} {b:Int} (a:x1.sm):fZ (oK1 x1 b):=by
 unfold oK1;refine dP (tI2 a.aO a.gA) fun c=>?_;exact bZ
def tK2 {x1:aA YW} {m:Int} (g:x1.length<=5) (e:∀y∈x1,y.sm):fZ (oL1 x1 m):=by
 unfold oL1 dH;have i:=g;refine vJ (l:=x1) (fun q=>q) (fun k j o c h b a d=>?_) fun n=>?_;simp only[b,a,nt];have f:=e _ c;refine dP (tJ2 f) fun p=>?_;refine oJ (fun _=>?_);exact .mk d;rcases n with r|_;exact bZ;exact bZ
def tL2 {x1:aA YW} {c:Int} (b:x1.length<=5) (a:∀y∈x1,y.sm):fZ (oM1 x1 c):=by
 unfold oM1;refine dP (tK2 b a) fun d=>?_;exact bZ
def tM2 {x1:Int} {b:YM} (a:b.sm):fZ (oN1 x1 b):=by
 unfold oN1;refine dP (T91 a) fun⟨c,d⟩=>?_;refine oJ (fun _=>?_);refine dP (tL2 a.aQ a.iD) fun e=>?_;exact bZ
def rE1 {x1:aA YV} {k:Y0} {t:Int} (p:x1.length+12<=1000000) (d:k.sm):Ok (Df x1 k t) (fun v=>x1.length<=v.length/\v.length<=x1.length+12):=by
 unfold Df dH;have i:=d.aE;refine oh k.aE x1 12 1 (fun n l q802 j g f b e a c=>?_) fun s o=>?_;obtain⟨u,w⟩:=q802;dsimp only at f b a c e;simp only[b,a,nt];have h:=d.cK _ g;refine dP (tM2 h) fun q=>?_;refine Ob (pX (by first|omega|(simp only[bU3]at *;omega)) d) fun r m=>?_;exact .mk ⟨c,by dsimp only;omega⟩;exact .mk (by omega)
def hG2 {x1:aA YV} {c:Y0} {e:Int} (d:x1.length+12<=1000000) (a:c.sm):Ok (Wz x1 c e) (fun v=>x1.length<=v.length/\v.length<=x1.length+12):=by
 unfold Wz;refine Ob (rE1 (by first|omega|(simp only[bU3]at *;omega)) a) fun f b=>?_;exact .mk (by omega)
def hH2 {x1:aA YV} {c:Y0} {e:Int} (d:x1.length+12<=1000000) (a:c.sm):Ok (gW1 x1 c e) (fun v=>x1.length<=v.length/\v.length<=x1.length+12):=by
 unfold gW1;refine Ob (hG2 (by first|omega|(simp only[bU3]at *;omega)) a) fun f b=>?_;exact .mk (by omega)
def tN2 {x1:Int}:fZ (oO1 x1):=by
 unfold oO1;refine oM (fun _=>?_) fun c a=>?_;refine dP (hF2) fun b=>?_;exact bZ;exact bZ
def xS1 {x1:YO} {c:Int} (a:x1.sm):fZ (Ly x1 c):=by
 unfold Ly;refine dP (gV2 a.aX a.gS) fun d=>?_;refine oM (fun _=>?_) fun g b=>?_;refine dP (hB2 a) fun e=>?_;refine dP (tN2) fun f=>?_;exact bZ;exact bZ
def xT1 {x1:aA YO} {m:Int} (g:x1.length<=3) (e:∀y∈x1,y.sm):fZ (Lz x1 m):=by
 unfold Lz dH;have i:=g;refine vJ (l:=x1) (fun q=>q) (fun k j o c h b a d=>?_) fun n=>?_;simp only[b,a,nt];have f:=e _ c;refine dP (xS1 f) fun p=>?_;refine oJ (fun _=>?_);exact .mk d;rcases n with r|_;exact bZ;exact bZ
def xU1 {x1:aA YO} {c:Int} (b:x1.length<=3) (a:∀y∈x1,y.sm):fZ (Ma x1 c):=by
 unfold Ma;refine dP (xT1 b a) fun d=>?_;exact bZ
def xV1 {x1:YW} {b:Int} (a:x1.sm):fZ (Mb x1 b):=by
 unfold Mb;refine dP (xU1 a.aO a.gA) fun c=>?_;exact bZ
def xW1 {x1:aA YW} {m:Int} (g:x1.length<=5) (e:∀y∈x1,y.sm):fZ (Mc x1 m):=by
 unfold Mc dH;have i:=g;refine vJ (l:=x1) (fun q=>q) (fun k j o c h b a d=>?_) fun n=>?_;simp only[b,a,nt];have f:=e _ c;refine dP (xV1 f) fun p=>?_;refine oJ (fun _=>?_);exact .mk d;rcases n with r|_;exact bZ;exact bZ
def xX1 {x1:aA YW} {c:Int} (b:x1.length<=5) (a:∀y∈x1,y.sm):fZ (Md x1 c):=by
 unfold Md;refine dP (xW1 b a) fun d=>?_;exact bZ
def xY1 {x1:Int} {b:YM} (a:b.sm):fZ (Me x1 b):=by
 unfold Me;refine dP (T91 a) fun⟨c,d⟩=>?_;refine oJ (fun _=>?_);refine dP (xX1 a.aQ a.iD) fun e=>?_;exact bZ
def rF1 {x1:aA YV} {k:Y0} {t:Int} (p:x1.length+12<=1000000) (d:k.sm):Ok (Dg x1 k t) (fun v=>x1.length<=v.length/\v.length<=x1.length+12):=by
 unfold Dg dH;have i:=d.aE;refine oh k.aE x1 12 1 (fun n l q862 j g f b e a c=>?_) fun s o=>?_;obtain⟨u,w⟩:=q862;dsimp only at f b a c e;simp only[b,a,nt];have h:=d.cK _ g;refine dP (xY1 h) fun q=>?_;refine Ob (pX (by first|omega|(simp only[bU3]at *;omega)) d) fun r m=>?_;exact .mk ⟨c,by dsimp only;omega⟩;exact .mk (by omega)
def rG1 {x1:aA YV} {c:Y0} {e:Int} (d:x1.length+12<=1000000) (a:c.sm):Ok (Dh x1 c e) (fun v=>x1.length<=v.length/\v.length<=x1.length+12):=by
 unfold Dh;refine Ob (rF1 (by first|omega|(simp only[bU3]at *;omega)) a) fun f b=>?_;exact .mk (by omega)
def hJ2 {x1:aA YV} {c:Y0} {e:Int} (d:x1.length+12<=1000000) (a:c.sm):Ok (gZ1 x1 c e) (fun v=>x1.length<=v.length/\v.length<=x1.length+12):=by
 unfold gZ1;refine Ob (rG1 (by first|omega|(simp only[bU3]at *;omega)) a) fun f b=>?_;exact .mk (by omega)
def tO2 {x1:YP} {b:YE} (a:b.sm):fZ (oW1 x1 b):=by
 unfold oW1;refine dP (bG1 a) fun c=>?_;exact bZ
def hO2 {x1:aA YV} {R:Y0} {x3:Int} (d7:x1.length+3600<=1000000) (p:R.sm):Ok (Xa x1 R x3) (fun v=>x1.length<=v.length/\v.length<=x1.length+3600):=by
 unfold Xa dH;have H:=p.aE;refine oh R.aE x1 3600 300 (fun X D q881 M z u e q a i=>?_) fun d2 d3=>?_;obtain⟨d8,S⟩:=q881;dsimp only at u e a i q;simp only[e,a,nt];have m:=p.cK _ z;have J:=m.aQ;refine oh D.aQ S 300 60 (fun Y E q895 N A w f r b j=>?_) fun d0 d4=>?_;obtain⟨d9,T⟩:=q895;dsimp only at w f b j r;simp only[f,a,b,nt];have n:=m.iD _ A;have K:=n.aO;refine oh E.aO T 60 20 (fun Z F q909 O B x g s c k=>?_) fun b9 d5=>?_;obtain⟨e0,U⟩:=q909;dsimp only at x g c k s;simp only[g,a,b,c,nt];have o:=n.gA _ B;have L:=o.aX;refine oh F.aX U 20 1 (fun b0 V q923 P C y h t d l=>?_) fun b8 d6=>?_;obtain⟨b4,b5⟩:=q923;dsimp only at y h d l t;simp only[h,a,b,c,d,nt];have G:=o.gS _ C;refine dP (tO2 G) fun b6=>?_;refine Ob (pX (by first|omega|(simp only[bU3]at *;omega)) p) fun b7 W=>?_;exact .mk ⟨l,by dsimp only;omega⟩;exact .mk ⟨k,by dsimp only;omega⟩;exact .mk ⟨j,by dsimp only;omega⟩;exact .mk ⟨i,by dsimp only;omega⟩;exact .mk (by omega)
def hP2 {x1:aA YV} {c:Y0} {e:Int} (d:x1.length+3600<=1000000) (a:c.sm):Ok (hA1 x1 c e) (fun v=>x1.length<=v.length/\v.length<=x1.length+3600):=by
 unfold hA1;refine Ob (hO2 (by first|omega|(simp only[bU3]at *;omega)) a) fun f b=>?_;exact .mk (by omega)
def T47 {x1:Y0} {d:Int} (c:x1.sm):Ok (F47 x1 d) (fun v=>v.2.2=0->0<=v.1/\v.1<(x1.cD.length:Int)):=by
 unfold F47 dH;have f:=c.cD;refine Oi (fun _=>.mk (fun h=>absurd (show(2:Int)=0 from h) (by decide))) (fun _=>?_);refine Ob (P:=fun r=>match r with|.inl p=>0<=p.1/\p.1<(x1.cD.length:Int)|.inr _=>True) (dF (l:=x1.cD) (fun q=>q.2) (fun _ _=>True) (by omega) rfl trivial (fun i e q j g hi hl _ hg hw=>?_) (fun q hi _=>?_)) fun r hr=>?_;obtain⟨s,x⟩:=q;dsimp only at hi hl hg hw;simp only[hl,hg,nt];exact Oi (fun _=>.mk ⟨by dsimp only;omega,hl⟩) (fun _=>.mk ⟨hw,trivial⟩);obtain⟨s,x⟩:=q;dsimp only at hi;simp only[hi,nf];exact bZ;rcases r with⟨a,b⟩|_;exact .mk (fun _=>hr);exact .mk (fun h=>absurd (show(2:Int)=0 from h) (by decide))
def hQ2 {x1:YH} {a:Int}:fZ (hB1 x1 a):=by
 unfold hB1;refine dP (gU2) fun⟨b,c⟩=>?_;refine dP (wR) fun d=>?_;exact bZ
def tP2 {x1:YB} {a:Int}:fZ (oX1 x1 a):=by
 unfold oX1;refine dP (hQ2) fun b=>?_;exact bZ
def tQ2 {x1:aA YB} {j:Int} (d:x1.length<=12):fZ (oY1 x1 j):=by
 unfold oY1 dH;have g:=d;refine vJ (l:=x1) (fun q=>q) (fun i h m f e b a c=>?_) fun k=>?_;simp only[b,a,nt];refine dP (tP2) fun n=>?_;refine oJ (fun _=>?_);exact .mk c;rcases k with o|_;exact bZ;exact bZ
def tR2 {x1:aA YB} {b:Int} (a:x1.length<=12):fZ (oZ1 x1 b):=by
 unfold oZ1;refine dP (tQ2 a) fun c=>?_;exact bZ
def tS2 {x1:YD} {a:Int}:fZ (pA1 x1 a):=by
 unfold pA1;refine dP (hQ2) fun b=>?_;exact bZ
def tT2 {x1:aA YD} {j:Int} (d:x1.length<=12):fZ (pB1 x1 j):=by
 unfold pB1 dH;have g:=d;refine vJ (l:=x1) (fun q=>q) (fun i h m f e b a c=>?_) fun k=>?_;simp only[b,a,nt];refine dP (tS2) fun n=>?_;refine oJ (fun _=>?_);exact .mk c;rcases k with o|_;exact bZ;exact bZ
def tU2 {x1:aA YD} {b:Int} (a:x1.length<=12):fZ (pC1 x1 b):=by
 unfold pC1;refine dP (tT2 a) fun c=>?_;exact bZ
def tV2 {x1:YP} {j:YE} {f:YK} (a:j.sm) (b:f.s'.sm):fZ (pD1 x1 j f):=by
 unfold pD1;refine dP (bG1 a) fun o=>?_;refine oJ (fun _=>?_);refine Ob (T47 b) fun⟨p,q,r⟩ d=>?_
 try dsimp only at d
 refine dP ?_ fun t=>?_;refine Oi (fun c965=>?_) (fun c965=>?_);have e:=b.cD;refine Ob (P:=fun x=>x∈f.s'.cD) (dU (by(simp only[nm]at *;omega)) (by(simp only[nm]at *;omega)) (fun _ h _=>h)) fun s c=>?_;have i:=b.nB _ c;exact bZ;exact bZ;refine dP ?_ fun k=>?_;refine oJ (fun _=>?_);exact bZ;refine dP (tR2 a.dJ) fun l=>?_;refine oN (fun _=>?_) fun n g=>?_;refine dP (tU2 a.cX) fun m=>?_;exact bZ;exact bZ
def rH1 {x1:aA YV} {V:Y0} {x3:Int} (d7:x1.length+3600<=1000000) (o:V.sm):Ok (Di x1 V x3) (fun v=>x1.length<=v.length/\v.length<=x1.length+3600):=by
 unfold Di dH;have P:=o.aE;refine oh V.aE x1 3600 300 (fun b4 F q987 R C A i y a k=>?_) fun d4 d5=>?_;obtain⟨d8,W⟩:=q987;dsimp only at A i a k y;simp only[i,a,nt];have w:=o.cK _ C;have H:=w.aQ;refine oh F.aQ W 300 60 (fun b5 G q1001 S D B j z c l=>?_) fun d3 d6=>?_;obtain⟨d9,X⟩:=q1001;dsimp only at B j c l z;simp only[j,a,c,nt];have m:=w.iD _ D;have J:=m.aO;refine oh G.aO X 60 20 (fun T x q1015 L t r e p b g=>?_) fun d2 Z=>?_;obtain⟨e0,Y⟩:=q1015;dsimp only at r e b g p;simp only[e,a,c,b,nt];have n:=m.gA _ t;have K:=n.aX;refine oh x.aX Y 20 1 (fun U N q1029 M u s f q d h=>?_) fun d0 b0=>?_;obtain⟨b6,b7⟩:=q1029;dsimp only at s f d h q;simp only[f,a,c,b,d,nt];have E:=n.gS _ u;refine dP (tV2 E o) fun b8=>?_;refine Ob (pX (by first|omega|(simp only[bU3]at *;omega)) o) fun b9 O=>?_;exact .mk ⟨h,by dsimp only;omega⟩;exact .mk ⟨g,by dsimp only;omega⟩;exact .mk ⟨l,by dsimp only;omega⟩;exact .mk ⟨k,by dsimp only;omega⟩;exact .mk (by omega)
def hR2 {x1:aA YV} {c:Y0} {e:Int} (d:x1.length+3600<=1000000) (b:c.sm):Ok (hF1 x1 c e) (fun v=>x1.length<=v.length/\v.length<=x1.length+3600):=by
 unfold hF1;refine Ob (rH1 (by first|omega|(simp only[bU3]at *;omega)) b) fun f a=>?_;exact .mk (by omega)
def tW2 {x1:YB}:fZ (pE1 x1):=by
 unfold pE1;exact bZ
def xZ1 {x1:aA YB} (h:x1.length<=12):fZ (Mf x1):=by
 unfold Mf dH;have f:=h;refine vJ (l:=x1) (fun q=>q) (fun i g k e d b a c=>?_) fun j=>?_;simp only[b,a,nt];refine dP (tW2) fun m=>?_;refine oJ (fun _=>?_);exact .mk c;rcases j with n|_;exact bZ;exact bZ
def yA1 {x1:aA YB} (a:x1.length<=12):fZ (Mg x1):=by
 unfold Mg;refine dP (xZ1 a) fun b=>?_;exact bZ
def hS2 {x1:YE} (b:x1.sm):fZ (hG1 x1):=by
 unfold hG1;refine oM (fun _=>?_) fun d a=>?_;refine dP (yA1 b.dJ) fun c=>?_;exact bZ;exact bZ
def rI1 {x1:Y0} {b c d:Int} (e:x1.sm):Ok (Mh x1 b c d) (fun v=>v.length<=20/\(∀y∈v,y.sm)/\(v=[]\/∃x y z,cC x1.aE b=some x/\cC x.aQ c=some y/\cC y.aO d=some z/\v=z.aX)):=by
 unfold Mh;refine Ob (P:=fun r=>¬r=true->0<=b/\0<=c/\∃x,cC x1.aE b=some x/\c<(x.aQ.length:Int)) ?_ fun k i=>?_;refine Oi (fun _=>.mk (fun h=>absurd rfl h)) (fun hc=>?_);simp only[bZ3,bN3,eC3]at hc;exact Ok.bindE (dU (Q:=fun _=>True) (by omega) (by omega) (fun _ _ _=>trivial)) fun x a _=>.mk (fun h=>⟨by omega,by omega,x,a,by simp at h;omega⟩);refine Ob (P:=fun r=>¬r=true->∃x y,cC x1.aE b=some x/\cC x.aQ c=some y/\0<=d/\d<(y.aO.length:Int)) ?_ fun l j=>?_;refine Oi (fun _=>.mk (fun h=>absurd rfl h)) (fun hc=>?_);simp only[bZ3,bN3,eC3]at hc;obtain⟨h0,h1,x,a,hs⟩:=i hc.1;rw[a,bE3];exact Ok.bindE (dU (Q:=fun _=>True) h1 hs (fun _ _ _=>trivial)) fun y hy _=>.mk (fun h=>⟨x,y,rfl,hy,by omega,by simp at h;omega⟩);refine Oi (fun _=>.mk ⟨cQ3 _,fun _ h=>(eX3 h).elim,.inl rfl⟩) (fun hc=>?_);obtain⟨x,y,a,hy,h0,h1⟩:=j hc;rw[a,bE3,hy,bE3];refine Ok.bindE (dU (Q:=fun _=>True) h0 h1 (fun _ _ _=>trivial)) fun z f _=>?_;have g:=((e.cK x (kB a).2.2.1).iD y (kB hy).2.2.1).gA z (kB f).2.2.1;exact .mk ⟨g.aX,g.gS,.inr ⟨x,y,z,rfl,hy,f,rfl⟩⟩
def hT2 {x1:Y0} {a:YP} (c:x1.sm):Ok (hH1 x1 a) (fun r=>r=0->a.dW=4/\0<=a.pW/\∃l,Mh x1 a.cW a.iM a.iV=some l/\a.pW<(l.length:Int)):=by
 unfold hH1;refine Oi (fun _=>.mk (fun h=>by cases h)) (fun hk=>?_);refine Ob (P:=fun r=>¬r=true->0<=a.pW/\∃l,Mh x1 a.cW a.iM a.iV=some l/\a.pW<(l.length:Int)) (Oi (fun _=>.mk (fun h=>absurd rfl h)) (fun hc=>?_)) fun b hb=>?_;exact Ok.bindE (rI1 c) fun l hl _=>.mk (fun h=>⟨by simpa using hc,l,hl,by simpa using h⟩);exact Oi (fun _=>.mk (fun h=>by cases h)) (fun hc=>.mk (fun _=>⟨by simpa using hk,hb hc⟩))
def hU2 {x1 a:Int} {b c:Int}:Ok (hJ1 x1 a b c) (fun v=>v.cW=x1):=by
 unfold hJ1;exact .mk (by rfl)
def hX2 {x1:Y0} {d:YP} (b:x1.sm):Ok (hK1 x1 d) (fun v=>v.2=true->0<=d.cW/\d.cW<(x1.aE.length:Int)/\0<=v.1.cW/\v.1.cW<(x1.aE.length:Int)):=by
 unfold hK1;refine Ob (hT2 b) fun c hc=>?_;refine Oi (fun _=>.mk (fun h=>by cases h)) (fun hd=>?_);obtain⟨hk,h0,l,hl,i⟩:=hc (by simpa using hd);have g:=(rI1 b).of hl
 have e:0<=d.cW/\d.cW<(x1.aE.length:Int):=by
  rcases g.2.2 with h|⟨x,y,z,hx,_⟩
  rw[h,bU3]at i;omega;have:=kB hx;exact⟨this.1,this.2.1⟩
 rw[hl,bE3];refine Oi (fun _=>?_) (fun _=>?_);exact Ob hU2 fun a f=>.mk (fun _=>⟨e.1,e.2,by dsimp only;omega,by dsimp only;omega⟩);refine Ob (rI1 b) fun j h2=>?_;refine Oi (fun hc=>?_) (fun _=>.mk (fun h=>by cases h));refine Ob hU2 fun a f=>.mk (fun _=>?_);dsimp only at f ⊢;rcases h2.2.2 with h|⟨x,y,z,hx,_⟩
 rw[h]at hc;simp at hc;have:=kB hx;rw[f];exact⟨e.1,e.2,this.1,this.2.1⟩
def hY2 {x1:YE} (a:x1.sm):Ok (Xc x1) (fun v=>v=(x1.dL,x1.cX,x1.dJ)):=by
 unfold Xc;rw[kC (cH3 a.dJ (by decide)),kC (cH3 a.cX (by decide)),kC (cH3 a.dL (by decide))];exact .mk rfl
def tX2 {x1:Y0} {f:YP} (a:x1.sm):Ok (pH1 x1 f) (fun v=>v.1.sm):=by
 unfold pH1;refine Ob (hT2 a) fun c hc=>?_;refine Oi (fun _=>.mk ⟨cQ3 _,cQ3 _,cQ3 _,fun _ h=>(eX3 h).elim⟩) (fun hd=>?_);obtain⟨hk,h0,l,hl,e⟩:=hc (by simpa using hd);have d:=(rI1 a).of hl;rw[hl,bE3];exact Ob (dU (Q:=fun x=>x.sm) h0 e (fun x b _=>d.2.1 x b)) fun x b=>Ob (hY2 b) fun y hy=>by subst hy;exact .mk b
def tY2 {x1 a:YB}:fZ (pI1 x1 a):=by
 unfold pI1;exact bZ
def yB1 {x1:aA YB} {j:YB} (h:x1.length<=12):fZ (Mi x1 j):=by
 unfold Mi dH;have f:=h;refine vJ (l:=x1) (fun q=>q) (fun i g m e d b a c=>?_) fun k=>?_;simp only[b,a,nt];refine dP (tY2) fun n=>?_;refine oJ (fun _=>?_);exact .mk c;rcases k with o|_;exact bZ;exact bZ
def yC1 {x1:aA YB} {b:YB} (a:x1.length<=12):fZ (Mj x1 b):=by
 unfold Mj;refine dP (yB1 a) fun c=>?_;exact bZ
def tZ2 {x1 p:YE} (j:x1.sm) (k:p.sm):fZ (pL1 x1 p):=by
 unfold pL1 dH;refine oJ (fun _=>?_);have g:=j.dJ;refine vJ (l:=x1.dJ) (fun q=>q) (fun m h t f e b a c=>?_) fun o=>?_;simp only[b,a,nt];refine oM (fun _=>?_) fun s d=>?_;refine oM (fun _=>?_) fun r i=>?_;refine dP (yC1 k.dJ) fun u=>?_;exact bZ;exact bZ;refine Oi (fun c1083=>?_) (fun c1083=>?_);have n:=d c1083;exact bZ;exact .mk c;rcases o with _|_;exact bZ;exact bZ
def uA2 {x1:YP} {f:YE} {g:YK} (c:f.sm) (d:g.s'.sm):fZ (pM1 x1 f g):=by
 unfold pM1;refine dP (hS2 c) fun i=>?_;refine oJ (fun _=>?_);refine Ob (hX2 d) fun⟨j,k⟩ b=>?_
 try dsimp only at b
 refine Ob (tX2 d) fun⟨l,m⟩ a=>?_
 try dsimp only at a
 refine oN (fun _=>?_) fun h e=>?_;refine dP (tZ2 c a) fun n=>?_;exact bZ;exact bZ
def rJ1 {x1:aA YV} {X:Y0} {x3:Int} (d7:x1.length+3600<=1000000) (p:X.sm):Ok (Dj x1 X x3) (fun v=>x1.length<=v.length/\v.length<=x1.length+3600):=by
 unfold Dj dH;have H:=p.aE;refine oh X.aE x1 3600 300 (fun T D q1103 M z u e q a i=>?_) fun d6 b4=>?_;obtain⟨d8,Y⟩:=q1103;dsimp only at u e a i q;simp only[e,a,nt];have m:=p.cK _ z;have J:=m.aQ;refine oh D.aQ Y 300 60 (fun U E q1117 N A w f r b j=>?_) fun d5 b5=>?_;obtain⟨d9,Z⟩:=q1117;dsimp only at w f b j r;simp only[f,a,b,nt];have n:=m.iD _ A;have K:=n.aO;refine oh E.aO Z 60 20 (fun V F q1131 O B x g s c k=>?_) fun d4 b6=>?_;obtain⟨e0,b0⟩:=q1131;dsimp only at x g c k s;simp only[g,a,b,c,nt];have o:=n.gA _ B;have L:=o.aX;refine oh F.aX b0 20 1 (fun W R q1145 P C y h t d l=>?_) fun d3 b7=>?_;obtain⟨b8,b9⟩:=q1145;dsimp only at y h d l t;simp only[h,a,b,c,d,nt];have G:=o.gS _ C;refine dP (uA2 G p) fun d0=>?_;refine Ob (pX (by first|omega|(simp only[bU3]at *;omega)) p) fun d2 S=>?_;exact .mk ⟨l,by dsimp only;omega⟩;exact .mk ⟨k,by dsimp only;omega⟩;exact .mk ⟨j,by dsimp only;omega⟩;exact .mk ⟨i,by dsimp only;omega⟩;exact .mk (by omega)
def hZ2 {x1:aA YV} {c:Y0} {e:Int} (d:x1.length+3600<=1000000) (b:c.sm):Ok (hO1 x1 c e) (fun v=>x1.length<=v.length/\v.length<=x1.length+3600):=by
 unfold hO1;refine Ob (rJ1 (by first|omega|(simp only[bU3]at *;omega)) b) fun f a=>?_;exact .mk (by omega)
def uB2 {x1:YE} {a:Int} (c:x1.sm) (d:0<=a):Ok (pN1 x1 a) (fun v=>v=false->a<(x1.dL.length:Int)):=by
 unfold pN1;refine Ob (P:=fun r=>r=false->a<(x1.dL.length:Int)) (Oi (fun _=>.mk (fun h=>by cases h)) (fun hc=>?_)) fun b hb=>.mk hb;simp only[bN3]at hc;exact Ob (dU (Q:=fun _=>True) d (by omega) (fun _ _ _=>trivial)) fun y _=>.mk (fun _=>by omega)
def iA2 {x1 o u:Int} {D:aA (YP×Bool)} {v:aA YV} {p:Y0} {E:Int} (A:v.length+0<=1000000) (d:p.sm) (C:0<=x1) (hy:0<=o) (s:0<=u):fZ (Xe x1 o u D v p E):=by
 unfold Xe dH;have G:=d.aE;refine Ob (P:=fun _=>True) (dF (l:=p.aE) (fun q=>q.1) (fun _ _=>True) (by omega) rfl trivial (fun i e q _ g hi hl _ hg hw=>?_) (fun q hi _=>?_)) fun⟨a1,a2,a3,a4,a5,a6,a7⟩ _=>?_;obtain⟨x,k,st,m,n,ev,y,l⟩:=q;dsimp only at hi hl hg hw;simp only[hl,hg,nt];refine Ob (P:=fun r=>¬r=true->∃y,cC e.aQ x1=some y/\o<(y.aO.length:Int)) (Oi (fun _=>.mk (fun h=>absurd rfl h)) (fun hc=>?_)) fun b hb=>?_;simp only[bN3]at hc;exact Ok.bindE (dU (Q:=fun _=>True) C (by omega) (fun _ _ _=>trivial)) fun y hy _=>.mk (fun h=>⟨y,hy,by simpa using h⟩);refine Oi (fun _=>.mk ⟨hw,trivial⟩) (fun hc=>?_);obtain⟨c,f,hv⟩:=hb hc;rw[f,bE3];refine Ok.bindE (dU (Q:=fun _=>True) hy hv (fun _ _ _=>trivial)) fun z j _=>?_;have t:=((d.cK e g).iD c (kB f).2.2.1).gA z (kB j).2.2.1;have F:=t.aX;refine Ob (P:=fun _=>True) (dF (l:=z.aX) (fun q=>q.1) (fun _ _=>True) (by omega) rfl trivial (fun i e q _ g hi hl _ hg hw=>?_) (fun q hi _=>?_)) fun⟨a1,a2,a3,a4,a5,a6,a7⟩ _=>.mk ⟨hw,trivial⟩;obtain⟨x,k,st,m,n,ev,y,l⟩:=q;dsimp only at hi hl hg hw;simp only[hl,hg,nt];refine Ob (uB2 (t.gS e g) s) fun a B=>?_;refine Oi (fun _=>.mk ⟨hw,trivial⟩) (fun hc=>?_);refine Ob (dU (Q:=fun _=>True) s (B (by simpa using hc)) (fun _ _ _=>trivial)) fun w _=>?_;refine Ob (P:=fun _=>True) (Oi (fun _=>bZ) (fun _=>bZ)) fun _ _=>?_;exact Ob (P:=fun _=>True) (Oi (fun _=>bZ) (fun _=>bZ)) fun _ _=>.mk ⟨hw,trivial⟩;obtain⟨x,k,st,m,n,ev,y,l⟩:=q;dsimp only at hi;simp only[hi,nf];exact bZ;obtain⟨x,k,st,m,n,ev,y,l⟩:=q;dsimp only at hi;simp only[hi,nf];exact bZ;exact Ob (P:=fun _=>True) (Oi (fun _=>bZ) (fun _=>bZ)) fun _ _=>bZ
def uC2 {x1:YP} {a:YE} {c:aA (YP×Bool)} (b:a.sm):fZ (pO1 x1 a c):=by
 unfold pO1;exact bZ
def rK1 {x1:aA (YP×Bool)} {H:aA YV} {Y:Y0} {x4:Int} (d8:H.length+3600<=1000000) (F:Y.sm):Ok (Dk x1 H Y x4) (fun v=>H.length<=v.length/\v.length<=H.length+3600):=by
 unfold Dk dH;have J:=F.aE;refine oh Y.aE H 3600 300 (fun U C q1162 N y t e p a i=>?_) fun d7 b5=>?_;obtain⟨d9,Z⟩:=q1162;dsimp only at t e a i p;simp only[e,a,nt];have m:=F.cK _ y;have K:=m.aQ;refine oh C.aQ Z 300 60 (fun V D q1176 O z u f q b j=>?_) fun d6 b6=>?_;obtain⟨e0,b0⟩:=q1176;dsimp only at u f b j q;simp only[f,a,b,nt];have n:=m.iD _ z;have L:=n.aO;refine oh D.aO b0 60 20 (fun W E q1190 P A w g r c k=>?_) fun d5 b7=>?_;obtain⟨e1,b4⟩:=q1190;dsimp only at w g c k r;simp only[g,a,b,c,nt];have o:=n.gA _ A;have M:=o.aX;refine oh E.aX b4 20 1 (fun X S q1204 R B x h s d l=>?_) fun d4 b8=>?_;obtain⟨b9,d0⟩:=q1204;dsimp only at x h d l s;simp only[h,a,b,c,d,nt];have G:=o.gS _ B;refine dP (uC2 G) fun d2=>?_;refine Ob (pX (by first|omega|(simp only[bU3]at *;omega)) F) fun d3 T=>?_;exact .mk ⟨l,by dsimp only;omega⟩;exact .mk ⟨k,by dsimp only;omega⟩;exact .mk ⟨j,by dsimp only;omega⟩;exact .mk ⟨i,by dsimp only;omega⟩;exact .mk (by omega)
def iB2 {x1:aA YV} {e:Y0} {g:Int} (f:x1.length+3600<=1000000) (a:e.sm):Ok (hQ1 x1 e g) (fun v=>x1.length<=v.length/\v.length<=x1.length+3600):=by
 unfold hQ1;refine Ob (T46 a) fun n hn=>?_;refine Ob (P:=fun _=>True) (nR (fun q=>q.1) n (fun _=>True) hn (by decide) trivial (fun q _ h1 h2=>?_)) fun m _=>?_;obtain⟨x,l⟩:=q;dsimp only at h1 h2 ⊢;refine Oi (fun hc=>?_) (fun _=>bZ);simp only[bN3]at hc;refine Ob (P:=fun _=>True) (nR (fun q=>q.1) 2 (fun _=>True) (by decide) (by dsimp only;omega) trivial (fun q _ b g2=>?_)) fun m _=>.mk ⟨hc,h2 hc,trivial⟩;obtain⟨y,l⟩:=q;dsimp only at b g2 ⊢;refine Oi (fun hd=>?_) (fun _=>bZ);simp only[bN3]at hd;refine Ob (P:=fun _=>True) (nR (fun q=>q.1) 4 (fun _=>True) (by decide) (by dsimp only;omega) trivial (fun q _ c d=>?_)) fun m _=>.mk ⟨hd,g2 hd,trivial⟩;obtain⟨z,l⟩:=q;dsimp only at c d ⊢;refine Oi (fun he=>?_) (fun _=>bZ);simp only[bN3]at he;exact Ob (iA2 (by omega) a h1 b c) fun m _=>.mk ⟨he,d he,trivial⟩;exact Ob (rK1 (by omega) a) fun v hv=>.mk (by omega)
def rL1 {x1:Y0} (a:x1.sm):fZ (Dl x1):=by
 unfold Dl;exact bZ
def jA1 {x1 e:Int} {f g:Int} {h i j:Int} {c:YJ} {k:Bool} {a:YP} {b:YZ} (d:c.sm):fZ (yW x1 e f g h i j c k a b):=by
 unfold yW;refine oJ (fun _=>?_);exact bZ
def Ui {x1 c:Int} {d e:Int} {f g h:Int} {i:YF} {j:Bool} {a:YP} {b:YZ}:fZ (sR x1 c d e f g h i j a b):=by
 unfold sR;refine oJ (fun _=>?_);exact bZ
def Uj {x1 e:Int} {f g:Int} {h i j:Int} {c:YM} {k:Bool} {a:YP} {b:YZ} (d:c.sm):fZ (sS x1 e f g h i j c k a b):=by
 unfold sS;refine oJ (fun _=>?_);exact bZ
def Uk {x1 e:Int} {f g:Int} {h i j:Int} {c:YE} {k:Bool} {a:YP} {b:YZ} (d:c.sm):fZ (sT x1 e f g h i j c k a b):=by
 unfold sT;refine oJ (fun _=>?_);exact bZ
def Ul {x1 c:Int} {d e:Int} {f g h:Int} {i:YN} {j:Bool} {a:YP} {b:YZ}:fZ (sU x1 c d e f g h i j a b):=by
 unfold sU;refine oJ (fun _=>?_);exact bZ
def rM1 {x1:Y0} {X:Bool} {Y:YP} {Z:YZ} (g:x1.sm):Ok (Dm x1 X Y Z) (fun v=>match v with|.inl p=>p.dW=4->0<=p.pW/\x1.pl p.cW p.iM p.iV|.inr _=>True):=by
 unfold Dm dH;have hP:=g.cD;have hM:=g.aE;have U:=g.bU;refine Ob (P:=fun r=>match r with|.inl p=>p.1≠4|.inr _=>True) (dF (l:=x1.cD) (fun q=>q.2) (fun _ _=>True) (by omega) rfl trivial (fun i e q D B hi hl _ hg hw=>?_) (fun q hi _=>?_)) fun r hr=>?_;obtain⟨s,x⟩:=q;dsimp only at hi hl hg hw;simp only[hl,hg,nt];refine Ob (jA1 (g.nB e B)) fun r _=>?_;rcases r with _|_;exact .mk (show(1:Int)≠4 by decide);have U:=(g.nB e B).eG;refine Ob (P:=fun _=>True) (dF (l:=e.eG) (fun q=>q.2) (fun _ _=>True) (by omega) rfl trivial (fun i2 e2 q W V F A _ m C=>?_) (fun q hi _=>?_)) fun r _=>?_;obtain⟨s,y⟩:=q;dsimp only at F A m C;simp only[A,m,nt];refine Ob Ui fun r _=>?_;rcases r with _|_;exact bZ;exact .mk ⟨C,trivial⟩;obtain⟨s,y⟩:=q;dsimp only at hi;simp only[hi,nf];exact bZ;rcases r with⟨a,b⟩|a;exact .mk (show(2:Int)≠4 by decide);exact .mk ⟨hw,trivial⟩;obtain⟨s,y⟩:=q;dsimp only at hi;simp only[hi,nf];exact bZ;rcases r with⟨k,p,st⟩|_;exact .mk (fun h=>absurd h hr);refine Ob (P:=fun r=>match r with|.inl p=>p.1=4->0<=p.2.2.2.2/\x1.pl p.2.2.1 p.2.1 p.2.2.2.1|.inr _=>True) (dF (l:=x1.aE) (fun q=>q) (fun _ _=>True) (by omega) rfl trivial (fun i e q D B hi hl _ hg hw=>?_) (fun q hi _=>?_)) fun r hr=>?_;simp only[hl,hg,nt];have R:=g.cK e B;have hC:=R.aQ;refine Ob (Uj R) fun r _=>?_;rcases r with _|_;exact .mk (fun h=>absurd (show(3:Int)=4 from h) (by decide));refine Ob (P:=fun r=>match r with|.inl p=>0<=p.2.2/\x1.pl q p.1 p.2.1|.inr _=>True) (dF (l:=e.aQ) (fun q=>q) (fun _ _=>True) (by omega) rfl trivial (fun j c w D J hj hlc _ o M=>?_) (fun q hi _=>?_)) fun r hr=>?_;simp only[hlc,o,nt];have S:=R.iD c J;have hV:=S.aO;refine Ob (P:=fun r=>match r with|.inl p=>0<=p.2/\x1.pl q w p.1|.inr _=>True) (dF (l:=c.aO) (fun q=>q) (fun _ _=>True) (by omega) rfl trivial (fun k v u D L hk H _ z O=>?_) (fun q hi _=>?_)) fun r hr=>?_;simp only[H,z,nt];have T:=S.gA v L;have hE:=T.aX;refine Ob (P:=fun r=>match r with|.inl x=>0<=x|.inr _=>True) (dF (l:=v.aX) (fun q=>q) (fun _ _=>True) (by omega) rfl trivial (fun n ev t D K ht G _ E N=>?_) (fun q hi _=>?_)) fun r hr=>?_;simp only[G,E,nt];refine Ob (Uk (T.gS ev K)) fun r _=>?_;rcases r with _|_;exact .mk (show(0:Int)<=t by omega);exact .mk ⟨N,trivial⟩;simp only[hi,nf];exact bZ;rcases r with x|_;exact .mk ⟨hr,e,c,v,hg,o,z⟩;exact .mk ⟨O,trivial⟩;simp only[hi,nf];exact bZ;rcases r with⟨a,b⟩|_;exact .mk hr;exact .mk ⟨M,trivial⟩;simp only[hi,nf];exact bZ;rcases r with⟨a,b,c⟩|_;exact .mk (fun _=>hr);exact .mk ⟨hw,trivial⟩;simp only[hi,nf];exact bZ;rcases r with⟨a,b,c,d,f⟩|_;exact .mk hr;refine Ob (P:=fun _=>True) (dF (l:=x1.bU) (fun q=>q) (fun _ _=>True) (by omega) rfl trivial (fun i e q D B hi hl _ hg hw=>?_) (fun q hi _=>?_)) fun r hr=>?_;simp only[hl,hg,nt];refine Ob Ul fun r _=>?_;rcases r with _|_;exact bZ;exact .mk ⟨hw,trivial⟩;simp only[hi,nf];exact bZ;rcases r with x|_;exact .mk (fun h=>absurd (show(5:Int)=4 from h) (by decide));exact bZ
def uD2 {x1:Y0} {b:YZ} (a:x1.sm):Ok (pP1 x1 b) (fun v=>v.2=true->v.1.dW=4->0<=v.1.pW/\x1.pl v.1.cW v.1.iM v.1.iV):=by
 unfold pP1;refine Oi (fun _=>.mk (fun h=>by cases h)) (fun _=>?_);refine Ob (rL1 a) fun _ _=>?_;refine Ob (rM1 a) fun r hr=>?_;rcases r with p|_;exact .mk (fun _=>hr);exact .mk (fun h=>by cases h)
def uE2 {x1:aA Int} (b:x1.length<=20):fZ (pQ1 x1):=by
 unfold pQ1;refine Ob (yY (by omega) (by omega) (by omega)) fun g h2=>?_;refine Ob (P:=fun v=>v.length=x1.length) (nR (fun q=>q.1) (x1.length:Int) (fun q=>q.2.length=x1.length) (by omega) (by dsimp only;omega) (by rw[h2];simp) (fun q a h1 h2=>?_)) fun v hv=>bZ;obtain⟨i,l⟩:=q;dsimp only at a h1 h2 ⊢;refine Oi (fun hc=>?_) (fun _=>.mk a);simp only[bN3]at hc;rw[bQ (n:=i-1) (by omega) (by omega)];refine Ob (nQ (by omega) (by omega)) fun j d=>?_;refine Ob (qF (by omega)) fun x _=>?_;refine Ob (dU (Q:=fun _=>True) (by omega) (by omega) (fun _ _ _=>trivial)) fun y _=>?_;refine Ob (nQ (by omega) (by omega)) fun f c=>?_;exact Ob (Xm (by omega)) fun m e=>.mk ⟨hc,h2 hc,by dsimp only;omega⟩
def uF2 {x1:YO} {c:Int} (b:x1.sm):fZ (pR1 x1 c):=by
 unfold pR1;refine Ob (hA2 b) fun⟨d,e⟩ a=>?_
 try dsimp only at a
 refine oJ (fun _=>?_);refine dP (uE2 a) fun f=>?_;exact bZ
def iC2 {x1:YK} {j:YZ} (c:x1.s'.sm):fZ (hT1 x1 j):=by
 unfold hT1;refine Ob (uD2 c) fun⟨p,f⟩ hp=>?_;dsimp only at hp;refine Oi (fun _=>bZ) (fun hc=>?_);simp only[bZ3,eC3,bW3,Bool.not_eq_false,bne_iff_ne,ne_eq,Decidable.not_not]at hc;obtain⟨h0,x,y,z,d,hy,g⟩:=hp hc.1 hc.2;simp only[d,hy,g,bE3];have h:=c.cK x (kB d).2.2.1;have i:=(h.iD y (kB hy).2.2.1).gA z (kB g).2.2.1;refine Ob (T91 h) fun⟨a,b⟩ _=>?_;refine Ob (uF2 i) fun⟨on,e⟩ _=>?_;refine Oi (fun _=>bZ) (fun hd=>?_);simp only[bN3]at hd;exact Ob (dU (Q:=fun _=>True) h0 (by dsimp only at hd ⊢;omega) (fun _ _ _=>trivial)) fun w _=>bZ
def rN1 {x1 a:Int}:fZ (Ug x1 a):=by
 unfold Ug;exact bZ
def iD2 {x1:YQ}:fZ (hU1 x1):=by
 unfold hU1;refine dP (rN1) fun g=>?_;refine oM (fun _=>?_) fun i a=>?_;refine dP (rN1) fun h=>?_;exact bZ;refine oM (fun c1222=>?_) fun k b=>?_;have e:=a c1222;refine dP (rN1) fun j=>?_;exact bZ;refine oM (fun c1226=>?_) fun m d=>?_;have c:=b c1226;have f:=a c;refine dP (rN1) fun l=>?_;exact bZ;exact bZ
def iE2 {x1:Int}:fZ (hV1 x1):=by
 unfold hV1;exact bZ
def iF2 {x1:Int}:fZ (hW1 x1):=by
 unfold hW1;exact bZ
def iG2 {x1 a:Int}:fZ (hY1 x1 a):=by
 unfold hY1;refine dP (iF2) fun b=>?_;refine dP (iF2) fun c=>?_;refine Oi (fun c1232=>?_) (fun c1232=>?_);refine oJ (fun _=>?_);exact bZ;refine oJ (fun _=>?_);refine oJ (fun _=>?_);refine oJ (fun _=>?_);exact bZ
def uG2 {x1:aA Int} (h:x1.length<=20):fZ (pS1 x1):=by
 unfold pS1 dH;have f:=h;refine vJ (l:=x1) (fun q=>q) (fun i g k e d b a c=>?_) fun j=>?_;simp only[b,a,nt];refine oJ (fun _=>?_);exact .mk c;rcases j with m|_;exact bZ;exact bZ
def Um {x1 a:YQ}:fZ (Hw x1 a):=by
 unfold Hw;refine dP (iG2) fun b=>?_;refine dP (iG2) fun c=>?_;refine dP (uG2 (by simp)) fun d=>?_;exact bZ
def uH2 {x1:YS}:fZ (pT1 x1):=by
 unfold pT1;refine oJ (fun _=>?_);refine dP (iD2) fun e=>?_;refine oN (fun _=>?_) fun g a=>?_;refine dP (iD2) fun f=>?_;exact bZ;refine oJ (fun c1257=>?_);have c:=a c1257;refine oN (fun _=>?_) fun i b=>?_;refine dP (iE2) fun h=>?_;exact bZ;refine oJ (fun c1262=>?_);have d:=b c1262;refine dP (Um) fun j=>?_;refine oJ (fun _=>?_);exact bZ
def uI1 {x1:aA YV} {d:Y0} {k:Int} (j:x1.length+0<=1000000) (c:d.sm):Ok (Rb x1 d k) (fun v=>v.1.length=d.bU.length/\v.2.length=d.bU.length):=by
 unfold Rb dH;have o:=c.bU;refine Ob (P:=fun v=>v.1.length=d.bU.length/\v.2.length=d.bU.length) (dF (l:=d.bU) (fun q=>q.1) (fun i q=>q.2.1.length=i/\q.2.2.length=i) (by omega) rfl ⟨rfl,rfl⟩ (fun i e q r p hi hl f hg hw=>?_) (fun q hi f=>?_)) fun⟨a,b⟩ hv=>.mk hv;obtain⟨x,g,h⟩:=q;dsimp only at hi hl f hg hw;simp only[hl,hg,nt];refine Ob (iC2 c) fun⟨p1,m⟩ _=>?_;refine Ob (iC2 c) fun⟨p2,n⟩ _=>?_;refine Ob (jQ (Q:=fun v=>v.length=h.length+1) (by omega) (by simp)) fun s h1=>?_;refine Ob (P:=fun _=>True) (Oi (fun _=>bZ) (fun _=>Ob uH2 fun _ _=>bZ)) fun b _=>?_;exact Ob (jQ (Q:=fun v=>v.length=g.length+1) (by omega) (by simp)) fun t h2=>.mk ⟨hw,by dsimp only;omega,by dsimp only;omega⟩;obtain⟨x,g,h⟩:=q;dsimp only at hi f;simp only[hi,nf];exact .mk f
def iH2 {x1:aA YV} {g:Y0} {m:Int} (h:x1.length+10<=1000000) (c:g.sm):Ok (iA1 x1 g m) (fun v=>x1.length<=v.length/\v.length<=x1.length+10):=by
 unfold iA1 dH;have n:=c.bU;refine Ob (uI1 (by omega) c) fun⟨a,b⟩ f=>?_;dsimp only at f;refine Ob (P:=fun v=>x1.length<=v.length/\v.length<=x1.length+10) (dF (l:=g.bU) (fun q=>q.1) (fun i q=>x1.length<=q.2.length/\q.2.length<=x1.length+i) (by omega) rfl (by dsimp only;omega) (fun i e q p o hi hl d hg hw=>?_) (fun q hi d=>?_)) fun v hv=>.mk (by omega);obtain⟨x,l⟩:=q;dsimp only at hi hl d hg hw;simp only[hl,hg,nt];refine Ob (nQ (by omega) (by omega)) fun j k=>?_;refine Ob (qF k.2) fun y _=>?_;exact Ob (pX (by omega) c) fun v hv=>.mk ⟨hw,by dsimp only;omega⟩;obtain⟨x,l⟩:=q;dsimp only at hi d;simp only[hi,nf];exact .mk (by omega)
def yD1 {x1:Int}:Ok (aV1 x1) (fun v=>v>0->1<=x1/\x1<=7):=by
 unfold aV1;refine Oi (fun c1266=>.mk (by omega)) (fun c1266=>?_);refine Ob (dU (Q:=fun _=>True) (by(simp only[nm]at *;rw[bQ (by omega) (by omega)];omega)) (by(simp only[nm,nl]at *;rw[bQ (by omega) (by omega)];omega)) (fun _ _ _=>trivial)) fun b a=>?_;exact .mk (by(simp only[nm]at *;omega))
def uI2 {x1 a:YS}:Ok (pU1 x1 a) (fun v=>v=true->1<=x1.dW/\x1.dW<=7):=by
 unfold pU1;refine Ob yD1 fun f hf=>?_;refine Ob (P:=fun r=>r=true->1<=x1.dW/\x1.dW<=7) (Oi (fun hc=>?_) (fun _=>.mk (fun h=>by cases h))) fun b hb=>?_;simp only[bN3]at hc;have:=hf hc;exact Ob yD1 fun _ _=>Ob yD1 fun _ _=>.mk (fun _=>this);refine Ob (P:=fun r=>r=true->1<=x1.dW/\x1.dW<=7) (Oi (fun hc=>?_) (fun _=>.mk (fun h=>by cases h))) fun b hb=>.mk hb;simp only[bF3]at hc;have:=hb hc.1;exact Ob iE2 fun _ _=>.mk (fun _=>this)
def uJ2 {x1 b:YS}:fZ (pV1 x1 b):=by
 unfold pV1;refine dP (Um) fun c=>?_;refine oN (fun _=>?_) fun e a=>?_;refine dP (Um) fun d=>?_;exact bZ;exact bZ
def yE1 {x1 a:YS}:fZ (aW1 x1 a):=by
 unfold aW1;refine dP (uJ2) fun b=>?_;exact bZ
def iI2 {x1 b:YS}:fZ (iD1 x1 b):=by
 unfold iD1;refine dP (Um) fun c=>?_;refine oN (fun _=>?_) fun e a=>?_;refine dP (Um) fun d=>?_;exact bZ;exact bZ
def yF1 {x1 a:YS}:fZ (aX1 x1 a):=by
 unfold aX1;refine dP (iI2) fun b=>?_;exact bZ
def iJ2 {x1 b:YS}:fZ (iF1 x1 b):=by
 unfold iF1;refine dP (Um) fun c=>?_;refine oM (fun _=>?_) fun e a=>?_;refine dP (Um) fun d=>?_;exact bZ;exact bZ
def uK2 {x1 b:YS}:fZ (pW1 x1 b):=by
 unfold pW1;refine dP (iI2) fun c=>?_;refine oM (fun _=>?_) fun f a=>?_;refine dP (iJ2) fun d=>?_;refine dP (iJ2) fun e=>?_;exact bZ;exact bZ
def uL2 {x1 e:YS}:fZ (pX1 x1 e):=by
 unfold pX1;refine Ob uI2 fun g hg=>?_;refine Oi (fun _=>bZ) (fun hc=>?_);have hk:=hg (by simpa using hc);rw[bQ (n:=x1.dW-1) (by omega) (by omega)];refine Oi (fun _=>Ob yE1 fun _ _=>bZ) (fun d=>?_);refine Oi (fun _=>Ob yF1 fun _ _=>bZ) (fun c=>?_);refine Oi (fun _=>Ob yE1 fun _ _=>bZ) (fun b=>?_);refine Oi (fun _=>Ob yE1 fun _ _=>bZ) (fun a=>?_);refine Oi (fun _=>Ob yF1 fun _ _=>bZ) (fun h2=>?_);refine Oi (fun _=>Ob yF1 fun _ _=>bZ) (fun h1=>?_);refine Oi (fun _=>Ob uK2 fun _ _=>bZ) (fun h0=>?_);simp only[dU3]at h0 h1 h2 a b c d;omega
def iK2 {x1:aA YV} {n:Y0} {p:Int} (o:x1.length+10<=1000000) (c:n.sm):Ok (iG1 x1 n p) (fun v=>x1.length<=v.length/\v.length<=x1.length+10):=by
 unfold iG1 dH;have s:=c.bU;refine Ob (uI1 (by omega) c) fun⟨a,b⟩ g=>?_;dsimp only at g;refine Ob (P:=fun v=>x1.length<=v.length/\v.length<=x1.length+10) (dF (l:=n.bU) (fun q=>q.1) (fun i q=>x1.length<=q.2.length/\q.2.length<=x1.length+i) (by omega) rfl (by dsimp only;omega) (fun i e q u t hi hl f hg hw=>?_) (fun q hi f=>?_)) fun v hv=>.mk (by omega);obtain⟨x,l⟩:=q;dsimp only at hi hl f hg hw;simp only[hl,hg,nt];refine Ob (P:=fun _=>True) (nR (fun q=>q.2) x (fun _=>True) (by omega) (by dsimp only;omega) trivial (fun q _ h1 h2=>?_)) fun b _=>?_;obtain⟨ex,k⟩:=q;dsimp only at h1 h2 ⊢;refine Ob (P:=fun r=>r=true->k<x) (Oi (fun hc=>?_) (fun _=>.mk (fun h=>by cases h))) fun b hb=>?_;simp only[bN3]at hc;exact Ob (nQ (by omega) (by omega)) fun j d=>Ob (qF d.2) fun y _=>.mk (fun _=>hc);refine Oi (fun hc=>?_) (fun _=>bZ);simp only[bF3]at hc;have hk:=hb hc.1;refine Ob (nQ (by omega) (by omega)) fun j d=>Ob (qF d.2) fun y _=>?_;refine Ob (P:=fun _=>True) (Oi (fun _=>?_) (fun _=>bZ)) fun b _=>.mk ⟨hk,h2 hk,trivial⟩;exact Ob (nQ (by omega) (by omega)) fun j d=>Ob (qF d.2) fun z _=>Ob (nQ (by omega) (by omega)) fun w m=>Ob (qF m.2) fun A _=>Ob uL2 fun b _=>bZ;exact Ob (pX (by omega) c) fun v hv=>.mk ⟨hw,by dsimp only;omega⟩;obtain⟨x,l⟩:=q;dsimp only at hi f;simp only[hi,nf];exact .mk (by omega)
def uM2 {x1:Int} {a:YM} (c:a.sm):Ok (pY1 x1 a) (fun v=>v=false->a.bG<=8):=by
 unfold pY1;simp only[xO1,bE3];refine Ob (P:=fun r=>r=false->a.bG<=8) (Oi (fun hc=>.mk (fun h=>?_)) (fun hc=>.mk (fun _=>?_))) fun b hb=>?_;simp at h;omega;simp at hc;omega;exact Ob (P:=fun r=>r=false->a.bG<=8) (Oi (fun hc=>.mk (fun h=>by cases h)) (fun hc=>.mk (fun _=>hb (by simpa using hc)))) fun b hb=>.mk hb
def rO1 {x1:aA YV} {c:Y0} {r:Int} (o:x1.length+12<=1000000) (d:c.sm):Ok (Dn x1 c r) (fun v=>(x1.length<=v.length/\v.length<=x1.length+12)/\(v.length<=x1.length->∀m∈c.aE,m.bG<=8)):=by
 unfold Dn dH;have s:=d.aE;refine Ob (P:=fun v=>(x1.length<=v.length/\v.length<=x1.length+12)/\(v.length<=x1.length->∀m∈c.aE,m.bG<=8)) (dF (l:=c.aE) (fun q=>q.1) (fun i q=>q.2.length<=x1.length+i/\x1.length<=q.2.length/\(q.2.length<=x1.length->∀j,j<i->∀m,c.aE[j]? =some m->m.bG<=8)) (by omega) rfl ⟨by dsimp only;omega,bI3 _,fun _ j g=>by omega⟩ (fun i e q p n hi hl f hg hw=>?_) (fun q hi f=>?_)) fun v hv=>.mk hv;obtain⟨x,l⟩:=q;dsimp only at hi hl f hg hw;simp only[hl,hg,nt];refine Ob (uM2 (d.cK e n)) fun b hb=>?_;refine Ob (iY1 (by omega)) fun v hv=>.mk ⟨hw,?_,?_,fun h j g m a=>?_⟩;dsimp only;cases b<;>simp at hv<;>omega;dsimp only;cases b<;>simp at hv<;>omega;dsimp only at h;cases b with
 |true=>simp at hv;omega
 |false=>
  simp only[bQ3,false_implies,forall_const,true_and]at hv;by_cases k:j=i;subst k;rw[p]at a;cases a;exact hb rfl;exact f.2.2 (by omega) j (by omega) m a
 obtain⟨x,l⟩:=q;dsimp only at hi f;simp only[hi,nf];refine .mk ⟨⟨by omega,by omega⟩,fun h m n=>?_⟩;obtain⟨j,g⟩:=bX3.1 n;exact f.2.2 h j (bG3.1 g).1 m g
def uN2 {x1:Int}:Ok (pZ1 x1) (fun v=>0<=v/\v<=1000):=by
 unfold pZ1;refine Ob (P:=fun v=>0<=v.2/\v.2<=32) (Oi (fun _=>Ob (yX (by decide)) fun n _=>.mk (by dsimp only;omega)) (fun _=>.mk (by dsimp only;omega))) fun⟨g,h⟩ c=>?_;dsimp only at c;refine Ob (P:=fun v=>0<=v.2/\v.2<=48) (Oi (fun _=>Ob (yX (by decide)) fun n _=>.mk (by dsimp only;rw[bQ (by omega) (by omega)];omega)) (fun _=>.mk (by dsimp only;omega))) fun⟨i,j⟩ d=>?_;dsimp only at d;refine Ob (P:=fun v=>0<=v.2/\v.2<=56) (Oi (fun _=>Ob (yX (by decide)) fun n _=>.mk (by dsimp only;rw[bQ (by omega) (by omega)];omega)) (fun _=>.mk (by dsimp only;omega))) fun⟨f,e⟩ a=>?_;dsimp only at a;have hw:=gF2 f;refine Ob (Aw hw.1 hw.2) fun b hb=>.mk ?_;rw[bQ (n:=b) (by omega) (by omega),bQ (by omega) (by omega)];omega
def jB1 {x1:Int}:Ok (Rc x1) (fun v=>0<=v/\v<=1000):=by
 unfold Rc;refine Ob (uN2) fun b a=>?_;exact .mk (by omega)
def bH1 {x1:YG} (c:x1.passes<=1000):fZ (Mk x1):=by
 unfold Mk;refine oM (fun _=>?_) fun e a=>?_;refine Ob (Xl (by(simp only[nm]at *;rw[bQ (by omega) (by omega)];omega))) fun d b=>?_;exact bZ;exact bZ
def uO2 {x1:YG} {p:YM} (q:p.sm) (A:x1.passes<=8) (hy:p.bG<=8):Ok (qA1 x1 p) (fun v=>v.1.passes<=8):=by
 unfold qA1;refine Oi (fun c1291=>.mk (by omega)) (fun c1291=>?_);refine Oi (fun c1292=>?_) (fun c1292=>?_);refine Oi (fun c1293=>.mk (by omega)) (fun c1293=>?_);refine Ob (jB1) fun B e=>?_;refine Oi (fun c1295=>?_) (fun c1295=>?_);refine Oi (fun c1296=>.mk (by omega)) (fun c1296=>?_);refine Oi (fun c1297=>?_) (fun c1297=>?_);refine dP (bH1 (by(simp only[nm]at *;omega))) fun C=>?_;refine oN (fun _=>?_) fun E a=>?_;refine Ob (jB1) fun D f=>?_;exact bZ;refine Oi (fun c1302=>.mk (by omega)) (fun c1302=>?_);have l:=a c1302;exact .mk (by omega);exact .mk (by omega);refine oN (fun _=>?_) fun s b=>?_;refine oM (fun _=>?_) fun r g=>?_;refine dP (bH1 (by(simp only[nm]at *;omega))) fun F=>?_;refine oN (fun _=>?_) fun H h=>?_;refine Ob (Xl (by(simp(disch:=omega) only[bQ,nm]at *;omega))) fun G i=>?_;exact bZ;exact bZ;exact bZ;refine Oi (fun c1312=>.mk (by omega)) (fun c1312=>?_);have m:=b c1312;refine Oi (fun c1314=>?_) (fun c1314=>?_);refine dP (bH1 (by(simp only[nm]at *;omega))) fun t=>?_;refine oN (fun _=>?_) fun w c=>?_;refine Ob (jB1) fun u j=>?_;exact bZ;refine Oi (fun c1319=>.mk (by omega)) (fun c1319=>?_);have n:=c c1319;exact .mk (by omega);exact .mk (by omega);refine Oi (fun c1321=>.mk (by omega)) (fun c1321=>?_);refine Oi (fun c1322=>?_) (fun c1322=>?_);refine dP (bH1 (by omega)) fun x=>?_;refine oN (fun _=>?_) fun z d=>?_;refine Ob (jB1) fun y k=>?_;exact bZ;refine Oi (fun c1327=>.mk (by omega)) (fun c1327=>?_);have o:=d c1327;exact .mk (by omega);exact .mk (by omega)
def uP2 {x1:YG} {e:YM} (d:e.sm) (c:x1.passes<=8) (hy:e.bG<=8):Ok (qB1 x1 e) (fun v=>v.1.passes<=8):=by
 unfold qB1;refine Oi (fun _=>Ob (uO2 d c hy) fun⟨a,b⟩ h=>.mk h) (fun _=>?_);refine Oi (fun _=>?_) (fun _=>?_);refine Ob (bH1 (by omega)) fun f _=>?_;refine Oi (fun _=>.mk c) (fun _=>?_);refine Oi (fun _=>Oi (fun h=>by cases h) (fun _=>?_)) (fun _=>?_);exact Ob (P:=fun _=>True) (Oi (fun _=>bZ) (fun _=>bZ)) fun⟨a,b⟩ _=>.mk (show(0:Int)<=8 by decide);exact Ob (P:=fun _=>True) (Oi (fun _=>bZ) (fun _=>bZ)) fun a _=>.mk (show(0:Int)<=8 by decide);refine Oi (fun _=>Oi (fun _=>.mk c) (fun _=>?_)) (fun _=>?_);exact Ob (P:=fun _=>True) (Oi (fun _=>bZ) (fun _=>bZ)) fun⟨a,b⟩ _=>.mk (show(0:Int)<=8 by decide);exact Ob (P:=fun g=>g.passes<=8) (Oi (fun _=>.mk (show(0:Int)<=8 by decide)) (fun _=>.mk c)) fun g hg=>.mk hg
def iL2 {x1:aA YV} {f:Y0} {t:Int} (m:x1.length+25<=1000000) (c:f.sm) (s:0<f.aE.length):Ok (iI1 x1 f t) (fun v=>x1.length<=v.length/\v.length<=x1.length+25):=by
 unfold iI1 dH;have u:=c.aE;refine Ob (rO1 (by omega) c) fun k h=>?_;refine Oi (fun _=>.mk (by omega)) (fun hc=>?_);simp only[bN3]at hc;have o:=h.2 (by omega);have n:=h.1;refine Ob (P:=fun r=>match r with|.inl p=>k.length<=p.2.length/\p.2.length<=k.length+1|.inr g=>g.passes<=8) (dF (l:=f.aE) (fun q=>q.1) (fun i q=>q.2.passes<=8) (by omega) rfl (show(0:Int)<=8 by decide) (fun i e q s j hi hl d hg hw=>?_) (fun q hi d=>?_)) fun r hr=>?_;obtain⟨x,g⟩:=q;dsimp only at hi hl d hg hw;simp only[hl,hg,nt];refine Ob (uP2 (c.cK e j) d (o e j)) fun⟨g2,b⟩ hb=>?_;refine Oi (fun _=>?_) (fun _=>.mk ⟨hw,hb⟩);exact Ob (pX (by omega) c) fun v hv=>.mk (by dsimp only;omega);obtain⟨x,g⟩:=q;dsimp only at hi d;simp only[hi,nf];exact .mk d;rcases r with⟨a,v⟩|g;exact .mk (by dsimp only at hr;omega);dsimp only at hr;refine Ob (P:=fun _=>True) (Oi (fun _=>bZ) (fun _=>?_)) fun b _=>?_;exact Ob (P:=fun _=>True) (Oi (fun _=>Ob (bH1 (by omega)) fun _ _=>bZ) (fun _=>bZ)) fun _ _=>bZ;refine Ob (dU (Q:=fun _=>True) (by rw[bQ (by omega) (by omega)];omega) (by rw[bQ (by omega) (by omega)];omega) (fun _ _ _=>trivial)) fun y _=>?_;exact Ob (pX (by omega) c) fun v hv=>.mk (by omega)
def uQ2 {x1 a:YM} (b:x1.sm) (c:a.sm):fZ (qC1 x1 a):=by
 unfold qC1;exact bZ
def uR2 {x1:aA YM} {n:YM} (j:x1.length<=12) (f:∀y∈x1,y.sm) (k:n.sm):fZ (qD1 x1 n):=by
 unfold qD1 dH;have h:=j;refine vJ (l:=x1) (fun q=>q) (fun m i p c g b a d=>?_) fun o=>?_;simp only[b,a,nt];have e:=f _ c;refine dP (uQ2 e k) fun r=>?_;refine oJ (fun _=>?_);exact .mk d;rcases o with s|_;exact bZ;exact bZ
def T74 {x1:aA YM} {d:YM} (b:x1.length<=12) (a:∀y∈x1,y.sm) (c:d.sm):fZ (F74 x1 d):=by
 unfold F74;refine dP (uR2 b a c) fun e=>?_;exact bZ
def uS2 {x1:YM} {b:Int} (a:x1.sm):fZ (qE1 x1 b):=by
 unfold qE1;exact bZ
def yG1 {x1:aA YM} {m:Int} (j:x1.length<=12) (f:∀y∈x1,y.sm):fZ (Ml x1 m):=by
 unfold Ml dH;have h:=j;refine vJ (l:=x1) (fun q=>q) (fun k i o c g b a d=>?_) fun n=>?_;simp only[b,a,nt];have e:=f _ c;refine dP (uS2 e) fun p=>?_;refine oJ (fun _=>?_);exact .mk d;rcases n with r|_;exact bZ;exact bZ
def yH1 {x1:YK} {b:Int} (a:x1.s'.sm):fZ (aY1 x1 b):=by
 unfold aY1;refine dP (yG1 a.aE a.cK) fun c=>?_;exact bZ
def yI1 {x1:Int} {b:YK} {c:Int} (a:b.s'.sm):fZ (aZ1 x1 b c):=by
 unfold aZ1;refine dP (yH1 a) fun d=>?_;refine dP (wR) fun e=>?_;exact bZ
def uT2 {x1:YK} {h i:Int} (a:x1.s'.sm):fZ (qG1 x1 h i):=by
 unfold qG1;refine oM (fun _=>?_) fun k b=>?_;refine dP (yI1 a) fun j=>?_;exact bZ;refine Oi (fun c1364=>?_) (fun c1364=>?_);have d:=b c1364;exact bZ;refine dP ?_ fun l=>?_;refine oJ (fun _=>?_);exact bZ;refine Oi (fun c1368=>?_) (fun c1368=>?_);refine dP (yI1 a) fun m=>?_;exact bZ;refine dP ?_ fun n=>?_;refine oJ (fun _=>?_);exact bZ;refine Oi (fun c1372=>?_) (fun c1372=>?_);refine dP (yI1 a) fun o=>?_;refine oM (fun _=>?_) fun g c=>?_;refine dP (yH1 a) fun e=>?_;refine dP (yH1 a) fun f=>?_;exact bZ;exact bZ;exact bZ
def uU2 {x1:Int} {g:YM} {e:YK} (d:g.sm) (a:e.s'.sm) (f:0<=x1/\x1<=(e.s'.aE.length:Int)):fZ (qH1 x1 g e):=by
 unfold qH1;refine Ob wR fun w _=>?_;refine Ob (P:=fun _=>True) (Oi (fun _=>bZ) (fun _=>Ob wR fun _ _=>bZ)) fun b _=>?_;refine Oi (fun _=>bZ) (fun _=>?_);refine Ob (Kb (by decide) f.1 f.2) fun l hl=>?_;refine Ob (T74 (cH3 hl.1 a.aE) (fun y hy=>a.cK y (hl.2 y hy)) d) fun c _=>?_;exact Ob (P:=fun _=>True) (Oi (fun _=>bZ) (fun _=>Ob (uT2 a) fun _ _=>bZ)) fun b _=>bZ
def rP1 {x1:aA YV} {n:Y0} {t:Int} (p:x1.length+12<=1000000) (d:n.sm):Ok (Dp x1 n t) (fun v=>x1.length<=v.length/\v.length<=x1.length+12):=by
 unfold Dp dH;have i:=d.aE;refine oh n.aE x1 12 1 (fun m k q1389 j g f b e a c=>?_) fun s o=>?_;obtain⟨u,w⟩:=q1389;dsimp only at f b a c e;simp only[b,a,nt];have h:=d.cK _ g;refine dP (uU2 h d (by(simp only[nm]at *;omega))) fun q=>?_;refine Ob (pX (by first|omega|(simp only[bU3]at *;omega)) d) fun r l=>?_;exact .mk ⟨c,by dsimp only;omega⟩;exact .mk (by omega)
def iM2 {x1:aA YV} {c:Y0} {e:Int} (d:x1.length+12<=1000000) (b:c.sm):Ok (iM1 x1 c e) (fun v=>x1.length<=v.length/\v.length<=x1.length+12):=by
 unfold iM1;refine Ob (rP1 (by first|omega|(simp only[bU3]at *;omega)) b) fun f a=>?_;exact .mk (by omega)
def uV2 {x1:Int} {o:YM} (g:o.sm):fZ (qI1 x1 o):=by
 unfold qI1 dH;refine dP (T91 g) fun⟨K,L⟩=>?_;refine oM (fun _=>?_) fun N r=>?_;refine dP (wR) fun M=>?_;exact bZ;refine oN (fun _=>?_) fun R s=>?_;refine dP (wR) fun O=>?_;exact bZ;have m:=g.eS;refine vJ (l:=o.eS) (fun q=>q.2) (fun v p q1412 j e b a c=>?_) fun J=>?_;obtain⟨z,A⟩:=q1412;dsimp only at e b a c;simp only[b,a,nt];refine oN (fun _=>?_) fun C d=>?_;refine dP (wR) fun B=>?_;exact bZ;refine oN (fun c1418=>?_) fun E f=>?_;have w:=d c1418;refine dP (wR) fun D=>?_;exact bZ;refine oN (fun c1422=>?_) fun H t=>?_;have i:=f c1422;have y:=d i;refine oM (fun _=>?_) fun G u=>?_;have n:=g.eS;refine Ob (P:=fun x=>x∈o.eS) (dU (by(simp only[nm]at *;rw[bQ (by omega) (by omega)];omega)) (by(simp only[nm]at *;rw[bQ (by omega) (by omega)];omega)) (fun _ h _=>h)) fun F k=>?_;exact bZ;exact bZ;exact .mk c;exact bZ
def rQ1 {x1:aA YV} {n:Y0} {t:Int} (p:x1.length+12<=1000000) (g:n.sm):Ok (Dq x1 n t) (fun v=>x1.length<=v.length/\v.length<=x1.length+12):=by
 unfold Dq dH;have i:=g.aE;refine oh n.aE x1 12 1 (fun m k q1441 j f e b d a c=>?_) fun s o=>?_;obtain⟨u,w⟩:=q1441;dsimp only at e b a c d;simp only[b,a,nt];have h:=g.cK _ f;refine dP (uV2 h) fun q=>?_;refine Ob (pX (by first|omega|(simp only[bU3]at *;omega)) g) fun r l=>?_;exact .mk ⟨c,by dsimp only;omega⟩;exact .mk (by omega)
def iN2 {x1:aA YV} {c:Y0} {e:Int} (d:x1.length+12<=1000000) (b:c.sm):Ok (iO1 x1 c e) (fun v=>x1.length<=v.length/\v.length<=x1.length+12):=by
 unfold iO1;refine Ob (rQ1 (by first|omega|(simp only[bU3]at *;omega)) b) fun f a=>?_;exact .mk (by omega)
def uW2 {x1:YP} {e:YE} {g:YK} (a:e.sm) (c:g.s'.sm):fZ (qJ1 x1 e g):=by
 unfold qJ1;refine Ob (hX2 c) fun⟨q,f⟩ d=>?_;dsimp only at d;refine Ob (P:=fun r=>¬r=true->f=true) (Oi (fun _=>.mk (fun h=>absurd rfl h)) (fun hc=>Ob (hS2 a) fun t _=>.mk (fun _=>by simpa using hc))) fun b hb=>?_;refine Oi (fun _=>bZ) (fun hc=>?_);simp only[bZ3,eC3]at hc;have:=d (hb hc.1);exact Ob (dU (Q:=fun _=>True) this.1 this.2.1 (fun _ _ _=>trivial)) fun x _=>Ob (dU (Q:=fun _=>True) this.2.2.1 this.2.2.2 (fun _ _ _=>trivial)) fun y _=>bZ
def rR1 {x1:aA YV} {X:Y0} {x3:Int} (d7:x1.length+3600<=1000000) (p:X.sm):Ok (Dr x1 X x3) (fun v=>x1.length<=v.length/\v.length<=x1.length+3600):=by
 unfold Dr dH;have H:=p.aE;refine oh X.aE x1 3600 300 (fun T D q1458 M z u e q a i=>?_) fun d6 b4=>?_;obtain⟨d8,Y⟩:=q1458;dsimp only at u e a i q;simp only[e,a,nt];have m:=p.cK _ z;have J:=m.aQ;refine oh D.aQ Y 300 60 (fun U E q1472 N A w f r b j=>?_) fun d5 b5=>?_;obtain⟨d9,Z⟩:=q1472;dsimp only at w f b j r;simp only[f,a,b,nt];have n:=m.iD _ A;have K:=n.aO;refine oh E.aO Z 60 20 (fun V F q1486 O B x g s c k=>?_) fun d4 b6=>?_;obtain⟨e0,b0⟩:=q1486;dsimp only at x g c k s;simp only[g,a,b,c,nt];have o:=n.gA _ B;have L:=o.aX;refine oh F.aX b0 20 1 (fun W R q1500 P C y h t d l=>?_) fun d3 b7=>?_;obtain⟨b8,b9⟩:=q1500;dsimp only at y h d l t;simp only[h,a,b,c,d,nt];have G:=o.gS _ C;refine dP (uW2 G p) fun d0=>?_;refine Ob (pX (by first|omega|(simp only[bU3]at *;omega)) p) fun d2 S=>?_;exact .mk ⟨l,by dsimp only;omega⟩;exact .mk ⟨k,by dsimp only;omega⟩;exact .mk ⟨j,by dsimp only;omega⟩;exact .mk ⟨i,by dsimp only;omega⟩;exact .mk (by omega)
def iO2 {x1:aA YV} {c:Y0} {e:Int} (d:x1.length+3600<=1000000) (b:c.sm):Ok (iQ1 x1 c e) (fun v=>x1.length<=v.length/\v.length<=x1.length+3600):=by
 unfold iQ1;refine Ob (rR1 (by first|omega|(simp only[bU3]at *;omega)) b) fun f a=>?_;exact .mk (by omega)
def uI {c1 c2:Bool} {x:aA YV} {R:aB (aA YV)} (c:Ok R fun _=>True):Ok (((if decide ((x.length:Int)>0)=true then((if c1=true then some true else((if c2=true then(gI x 0).bind fun a=>(gT x a).bind fun v=>some (decide (v.kU<10))else some false:aB Bool)).bind fun y=>some y:aB Bool)).bind fun z=>some z else some false:aB Bool)).bind fun b=>if b=true then some x else R) fun _=>True:=by
 have k:∀D:aB Bool,(∃b,D=some b)->Ok (D.bind fun b=>if b=true then some x else R) fun _=>True:=fun D h=>by
  obtain⟨b,rfl⟩:=h;cases b with
  |true=>exact bZ
  |false=>exact c
 refine k _ ?_;cases x with
 |nil=>exact⟨_,rfl⟩
 |cons v r=>
  have e:gI (v::r) 0=some 0:=by
   unfold gI sW;rw[bK3 ⟨by decide,by simp⟩];rfl
  rw[bK3 (by simp),e];cases c1<;>cases c2<;>exact⟨_,rfl⟩
def T22 {x1:Y0} (a:x1.sm) (b:0<x1.aE.length):fZ (F22 x1):=by
 unfold F22;refine uI (Ob (gH2 (by simp only[nl]at *;omega) a) fun _ _=>?_);refine uI (Ob (gL2 (by simp only[nl]at *;omega) a) fun _ _=>?_);refine uI (Ob (gN2 (by simp only[nl]at *;omega) a) fun _ _=>?_);refine uI (Ob (gP2 (by simp only[nl]at *;omega) a) fun _ _=>?_);refine uI (Ob (gQ2 (by simp only[nl]at *;omega) a) fun _ _=>?_);refine uI (Ob (hH2 (by simp only[nl]at *;omega) a) fun _ _=>?_);refine uI (Ob (hJ2 (by simp only[nl]at *;omega) a) fun _ _=>?_);refine uI (Ob (hP2 (by simp only[nl]at *;omega) a) fun _ _=>?_);refine uI (Ob (hR2 (by simp only[nl]at *;omega) a) fun _ _=>?_);refine uI (Ob (hZ2 (by simp only[nl]at *;omega) a) fun _ _=>?_);refine uI (Ob (iB2 (by simp only[nl]at *;omega) a) fun _ _=>?_);refine uI (Ob (iH2 (by simp only[nl]at *;omega) a) fun _ _=>?_);refine uI (Ob (iK2 (by simp only[nl]at *;omega) a) fun _ _=>?_);refine uI (Ob (iL2 (by simp only[nl]at *;omega) a b) fun _ _=>?_);refine uI (Ob (iM2 (by simp only[nl]at *;omega) a) fun _ _=>?_);refine uI (Ob (iN2 (by simp only[nl]at *;omega) a) fun _ _=>?_);refine uI (Ob (iO2 (by simp only[nl]at *;omega) a) fun _ _=>?_);exact bZ
def T7 {x1:Y0} (a:x1.sm):fZ (F7 x1):=by
 unfold F7;refine Ob (P:=fun _=>True) ?_ fun v _=>bZ;by_cases h0:0<x1.aE.length;exact(T22 a h0).mono fun _ _=>trivial;unfold F22;refine Ob (P:=fun r=>r=false) (Oi (fun h=>by simp at h) (fun _=>.mk rfl)) fun b hb=>?_;subst hb;refine Oi (fun h=>by cases h) (fun _=>?_);refine Ob (gG2 a (by omega) (by decide)) fun v hv=>?_;refine Ob (P:=fun r=>r=true) (Oi (fun h=>Ob (P:=fun r=>r=true) (Oi (fun _=>.mk rfl) (fun h=>absurd rfl h)) fun b hb=>.mk hb) (fun h=>by simp at h;simp[h]at hv)) fun b hb=>?_;subst hb;exact Oi (fun _=>bZ) (fun h=>absurd rfl h)
end Go.P
set_option maxHeartbeats 1000000
namespace Go.P
def rS1 {α β:Type} {x:aB α} {a:α} {K:α->aB β} {r:aB β} (h:x=some a) (hk:K a=r):x.bind K=r:=by subst h;exact hk
def Ok.eq {α:Type} {x:aB α} {a:α} (h:Ok x (fun v=>v=a)):x=some a:=by
 obtain⟨v,h1,rfl⟩:=h;exact h1
def rT1 {A:Type} {l:aA A} {g:A->aB Bool} (p:A->Bool) (hl:l.length<9223372036854775808) (hg:∀x∈l,g x=some (p x)):((Rg l g).bind fun v=>some (decide (v>=0)))=some (l.any p):=by
 obtain⟨v,h1,h2⟩:=Xk hl (fun x a=>⟨_,hg x a⟩);rw[h1,bE3];rcases h2 with⟨rfl,h⟩|⟨h0,_,x,a,hp⟩
 have:l.any p=false:=by
  rw[List.any_eq_false];intro x a;have:=h x a;rw[hg x a]at this;rw[dH3 this];exact Bool.false_ne_true
 rw[this];rfl;have b:=bO3 a;rw[hg x b]at hp;have:l.any p=true:=List.any_eq_true.2 ⟨x,b,dH3 hp⟩;rw[this,cJ3 (show v>=0 from h0)]
section
variable {K V:Type} [DecidableEq K]
end
end Go.P
namespace Go.P
variable {s:Y0}
def uJ {x v:aA YV} {D:aB Bool} {R:aB (aA YV)} (h:((if decide ((x.length:Int)>0)then D else some false).bind fun b=>if b then some x else R)=some v) (h0:v.length=0):R=some v:=by
 by_cases a:((x.length:Int)>0);rw[bK3 (by simpa using a)]at h;cases D with
 |none=>cases h
 |some b=>
  cases b with
  |true=>simp at h;subst h;omega
  |false=>exact h
 rw[bM3 (by simpa using a)]at h;exact h
def pU {A B:Type} {x:aB A} {k:A->aB B} {v:B} (h:x.bind k=some v):∃a,x=some a/\k a=some v:=bD3.1 h
def uK {A:Type} {l:aA A} (h:l.length=0):l=[]:=dM3 h
structure uJ1 (s:Y0):Prop where
 r1:Ty [] s 1=some []
 r2:gC1 [] s 2=some []
 r3:aK1 [] s 3=some []
 r4:gF1 [] s 4=some []
 r5:aN1 [] s 5=some []
 r6:gW1 [] s 6=some []
 r7:gZ1 [] s 7=some []
 r8:hA1 [] s 8=some []
 r9:hF1 [] s 9=some []
 r10:hO1 [] s 10=some []
 r11:hQ1 [] s 11=some []
 r12:iA1 [] s 12=some []
 r13:iG1 [] s 13=some []
 r14:iI1 [] s 14=some []
 r15:iM1 [] s 15=some []
 r16:iO1 [] s 16=some []
 r17:iQ1 [] s 17=some []
def rU1 (hs:s.sm) (A:0<s.aE.length) {v:aA YV} (h:F22 s=some v) (h0:v.length=0):uJ1 s:=by
 unfold F22 at h;have h:=uJ h h0;obtain⟨x1,q,h⟩:=pU h;have T:=(gH2 (by decide) hs).of q;have h:=uJ h h0;obtain⟨K,e2,h⟩:=pU h;have U:=(gL2 (by simp only[nl]at *;omega) hs).of e2;have h:=uJ h h0;obtain⟨L,r,h⟩:=pU h;have V:=(gN2 (by simp only[nl]at *;omega) hs).of r;have h:=uJ h h0;obtain⟨M,t,h⟩:=pU h;have W:=(gP2 (by simp only[nl]at *;omega) hs).of t;have h:=uJ h h0;obtain⟨N,u,h⟩:=pU h;have X:=(gQ2 (by simp only[nl]at *;omega) hs).of u;have h:=uJ h h0;obtain⟨O,w,h⟩:=pU h;have Y:=(hH2 (by simp only[nl]at *;omega) hs).of w;have h:=uJ h h0;obtain⟨P,x,h⟩:=pU h;have Z:=(hJ2 (by simp only[nl]at *;omega) hs).of x;have h:=uJ h h0;obtain⟨R,y,h⟩:=pU h;have i8:=(hP2 (by simp only[nl]at *;omega) hs).of y;have h:=uJ h h0;obtain⟨S,z,h⟩:=pU h;have i9:=(hR2 (by simp only[nl]at *;omega) hs).of z;have h:=uJ h h0;obtain⟨j,a,h⟩:=pU h;have B:=(hZ2 (by simp only[nl]at *;omega) hs).of a;have h:=uJ h h0;obtain⟨k,b,h⟩:=pU h;have C:=(iB2 (by simp only[nl]at *;omega) hs).of b;have h:=uJ h h0;obtain⟨l,c,h⟩:=pU h;have D:=(iH2 (by simp only[nl]at *;omega) hs).of c;have h:=uJ h h0;obtain⟨m,d,h⟩:=pU h;have E:=(iK2 (by simp only[nl]at *;omega) hs).of d;have h:=uJ h h0;obtain⟨n,e,h⟩:=pU h;have F:=(iL2 (by simp only[nl]at *;omega) hs A).of e;have h:=uJ h h0;obtain⟨o,f,h⟩:=pU h;have G:=(iM2 (by simp only[nl]at *;omega) hs).of f;have h:=uJ h h0;obtain⟨p,g,h⟩:=pU h;have i16:=(iN2 (by simp only[nl]at *;omega) hs).of g;have h:=uJ h h0;obtain⟨J,i,h⟩:=pU h;have H:=(iO2 (by simp only[nl]at *;omega) hs).of i;cases h;have z17:v=[]:=uK h0;have z16:p=[]:=uK (by simp only[nl]at *;omega);have z15:o=[]:=uK (by simp only[nl]at *;omega);have z14:n=[]:=uK (by simp only[nl]at *;omega);have z13:m=[]:=uK (by simp only[nl]at *;omega);have z12:l=[]:=uK (by simp only[nl]at *;omega);have z11:k=[]:=uK (by simp only[nl]at *;omega);have z10:j=[]:=uK (by simp only[nl]at *;omega);have z9:S=[]:=uK (by simp only[nl]at *;omega);have z8:R=[]:=uK (by simp only[nl]at *;omega);have z7:P=[]:=uK (by simp only[nl]at *;omega);have z6:O=[]:=uK (by simp only[nl]at *;omega);have z5:N=[]:=uK (by simp only[nl]at *;omega);have z4:M=[]:=uK (by simp only[nl]at *;omega);have z3:L=[]:=uK (by simp only[nl]at *;omega);have z2:K=[]:=uK (by simp only[nl]at *;omega);have z1:x1=[]:=uK (by simp only[nl]at *;omega);subst z1 z2 z3 z4 z5 z6 z7 z8 z9 z10 z11 z12 z13 z14 z15 z16 z17;exact⟨q,e2,r,t,u,w,x,y,z,a,b,c,d,e,f,g,i⟩
def jC1 (hs:s.sm) (a:0<s.aE.length) (hv:F7 s=some true):uJ1 s:=by
 unfold F7 at hv;obtain⟨v,h,hv⟩:=pU hv;exact rU1 hs a h (by simp at hv;simp[hv])
end Go.P
namespace Go.P
variable {s:Y0}
def bI1 {A S E T:Type} {l:aA A} {body:S->aB (S⊕E)} {s0:S} {Q:E->Prop} (a:S->Int) (b:S->T) (f:T->A->T) (hl:l.length<9223372036854775808) (h0:a s0=0)
  (h:∀(i:Nat) (x:A) (q:S),l[i]? =some x->x∈l->a q=(i:Int)->a q<(l.length:Int)->b q=(l.take i).foldl f (b s0)->cC l (a q)=some x->bN (a q+1)=(i:Int)+1->Ok (body q) (fun r=>match r with|.inl q'=>a q'=(i:Int)+1/\b q'=f (b q) x|.inr e=>False))
  (d:∀q,a q=(l.length:Int)->b q=l.foldl f (b s0)->Ok (body q) (fun r=>match r with|.inl _=>False|.inr e=>Q e)):Ok (aW body bP s0) Q:=by
 refine dF (l:=l) a (fun i q=>b q=(l.take i).foldl f (b s0)) hl h0 (by simp) (fun i x q j k hi g c hg hw=>?_) (fun q hi c=>?_);refine(h i x q j k hi g c hg hw).mono fun r hr=>?_;cases r with
 |inl q'=>
  refine⟨hr.1,?_⟩;rw[hr.2,c,List.take_add_one,j];simp
 |inr e=>exact hr.elim
 rw[dG3]at c;exact(d q hi c).mono fun r hr=>by cases r<;>exact hr
def uL {A:Type} {l:aA A} {i:Nat} (h:i<l.length):cC l (i:Int)=some l[i]:=by
 unfold cC;rw[bK3 (by omega),Int.toNat_natCast];exact bY3 h
def stv (s:Y0):Nat:=(s.cD.map fun p=>p.eG.length).sum
def Kc (l:aA YJ) (n:Int):l.foldl (fun t p=>t+(p.eG.length:Int)) n=n+(((l.map fun p=>p.eG.length).sum:Nat):Int):=by
 induction l generalizing n with
 |nil=>simp
 |cons p l ih=>rw[List.foldl_cons,ih];simp;omega
def yJ1 {l:aA YJ} (h:∀p∈l,p.eG.length<=5):(l.map fun p=>p.eG.length).sum<=5*l.length:=by
 induction l with
 |nil=>simp
 |cons p l ih=>
  have h1:=h p (by simp);have h2:=ih (fun q a=>h q (by simp[a]));simp only[dV3,List.sum_cons,cM3];omega
end Go.P
namespace Go.P
variable {s:Y0}
end Go.P
namespace Go.P
variable {s:Y0}
def yK1 (hs:s.sm):F46 s=some (stv s:Int):=by
 unfold F46 dH;have hp:=hs.cD;refine rS1 (a:=(stv s:Int)) (Ok.eq (bI1 (l:=s.cD) (fun q=>q.2) (fun q=>q.1) (fun t p=>t+(p.eG.length:Int)) (by omega) rfl (fun i p q g c hi hl b hg hw=>?_) (fun q hi b=>?_))) rfl;obtain⟨t,k⟩:=q;dsimp only at hi hl b hg hw;have d:=yJ1 (l:=s.cD.take i) (fun p hp=>(hs.nB p (eU3 hp)).eG);have e:(s.cD.take i).length<=4:=by rw[dT3];omega
 have f:=(hs.nB p c).eG;rw[Kc]at b;simp only[hl,hg,nt];refine .mk ⟨hw,?_⟩;dsimp only;rw[bQ (by omega) (by omega)];obtain⟨t,k⟩:=q;dsimp only at hi b;rw[Kc]at b;simp only[hi,nf];refine .mk ?_;rw[b];unfold stv;omega
def uX2 {x n:Int} {m:YM} (o:m.sm):Ok (aJ1 x m n) (fun b=>b=false->(m.aQ.length:Int)=n):=by
 unfold aJ1 dH;have hc:=o.aQ;refine Ob (P:=fun r=>((m.aQ.length:Int)!=n)=true->r=true) (dF (l:=m.aQ) (fun q=>q.2) (fun _ q=>((m.aQ.length:Int)!=n)=true->q.1=true) (by omega) rfl (fun h=>h) (fun i y q s g hi hl a hg hw=>?_) (fun q hi a=>?_)) fun r hr=>.mk (fun h=>?_);obtain⟨b,k⟩:=q;dsimp only at hi hl a hg hw;have hv:=(o.iD y g).aO;simp only[hl,hg,nt];have first:∀{c:Bool} {z:aB Bool},(b=true->c=true)->(b=false->Ok z (fun _=>True))->True:=fun _ _=>trivial
 refine Ob (P:=fun r=>(b=true->r=true)/\(r=false->0<y.aO.length)) (Oi (fun h=>.mk ⟨fun _=>rfl,fun h=>(by cases h)⟩) (fun h=>?_)) fun j d=>?_;simp only[nm]at h
 have h0:0<y.aO.length:=by
  have:=h.2;omega
 exact Ob (dU (Q:=fun _=>True) (by omega) (by omega) (fun _ _ _=>trivial)) fun z _=>.mk ⟨fun hb=>(by rw[hb]at h;cases h.1),fun _=>h0⟩;refine Ob (P:=fun r=>(j=true->r=true)) (Oi (fun h=>.mk (fun _=>rfl)) (fun h=>?_)) fun e f=>?_;have h0:=d.2 (by simpa using h);exact Ob (dU (Q:=fun _=>True) (by rw[bQ (by omega) (by omega)];omega) (by rw[bQ (by omega) (by omega)];omega) (fun _ _ _=>trivial)) fun z _=>.mk (fun h2=>absurd h2 h);refine Ob (P:=fun r=>e=true->r=true) (dF (l:=y.aO) (fun q=>q.2) (fun _ q=>e=true->q.1=true) (by omega) rfl (fun h=>h) (fun i z q s p hi hl a hg hw=>?_) (fun q hi a=>?_)) fun r hr=>.mk ⟨hw,fun h=>hr (f (d.1 (a h)))⟩;obtain⟨b2,t⟩:=q;dsimp only at hi hl a hg hw;simp only[hl,hg,nt];exact .mk ⟨hw,fun h=>by rw[a h];rfl⟩;obtain⟨b2,t⟩:=q;dsimp only at hi a;simp only[hi,nf];exact .mk a;obtain⟨b,k⟩:=q;dsimp only at hi a;simp only[hi,nf];exact .mk a;by_cases he:(m.aQ.length:Int)=n;exact he;have:=hr (by simpa using he);rw[h]at this;cases this
def uY2 (hs:s.sm) {n r:Int} (h:Jy n [] s r=some []):∀m∈s.aE,(m.aQ.length:Int)=n:=by
 unfold Jy dH at h;have p:=hs.aE;obtain⟨v,h1,h2⟩:=pU h;cases h2;have:=Ok.of (Q:=fun v:aA YV=>v.length=0->∀m∈s.aE,(m.aQ.length:Int)=n) (dF (l:=s.aE) (fun q=>q.1) (fun i q=>q.2.length<=i/\(q.2.length=0->∀j,j<i->∀m,s.aE[j]? =some m->(m.aQ.length:Int)=n)) (by omega) rfl ⟨by simp,fun _ j d=>by omega⟩ (fun i e q o g hi hl c hg hw=>?_) (fun q hi c=>?_)) h1 rfl;exact this;obtain⟨x,v⟩:=q;dsimp only at hi hl c hg hw;simp only[hl,hg,nt];refine Ob (uX2 (hs.cK e g)) fun b hb=>?_;refine Ob (iY1 (by omega)) fun u k=>.mk ⟨hw,?_,fun h j d m a=>?_⟩;dsimp only;cases b<;>simp at k<;>omega;dsimp only at h;cases b with
 |true=>simp at k;omega
 |false=>
  simp only[bQ3,false_implies,forall_const,true_and]at k;by_cases f:j=i;subst f;rw[o]at a;cases a;exact hb rfl;exact c.2 (by omega) j (by omega) m a
 obtain⟨x,v⟩:=q;dsimp only at hi c;simp only[hi,nf];refine .mk (fun h m g=>?_);obtain⟨j,d⟩:=bX3.1 g;exact c.2 h j (bG3.1 d).1 m d
def yL1 (hs:s.sm) (hv:F7 s=some true):∀m∈s.aE,m.aQ.length=stv s:=by
 intro m b;have a:=(jC1 hs (List.length_pos_of_mem b) hv).r3;unfold aK1 at a;rw[yK1 hs]at a;simp only[bE3]at a;obtain⟨v,h1,h2⟩:=pU a;cases h2;have:=uY2 hs h1 m b;omega
def iQ2 (hs:s.sm) (hv:F7 s=some true):0<s.aE.length:=by
 rcases Nat.eq_zero_or_pos s.aE.length with h0|h0;exfalso
 have:Ok (F7 s) (fun b=>b=false):=by
  unfold F7 F22;refine Ob (P:=fun v=>0<v.length) ?_ fun v hv=>.mk (by simp;intro h;rw[h]at hv;simp at hv);refine Ob (P:=fun r=>r=false) (Oi (fun h=>by simp at h) (fun _=>.mk rfl)) fun b hb=>?_;subst hb;refine Oi (fun h=>by cases h) (fun _=>?_);refine Ob (gG2 hs h0 (by decide)) fun v hv=>?_;refine Ob (P:=fun r=>r=true) (Oi (fun h=>Ob (P:=fun r=>r=true) (Oi (fun _=>.mk rfl) (fun h=>absurd rfl h)) fun b hb=>.mk hb) (fun h=>by simp at h;simp[h]at hv)) fun b hb=>?_;subst hb;exact Oi (fun _=>.mk hv) (fun h=>absurd rfl h)
 have:=this.of hv;cases this;exact h0
end Go.P
namespace Go.P
variable {s:Y0}
def Kd {A B:Type} {l:aA A} {body:Int->aB (Int⊕(B⊕Unit))} (p:A->Bool) (f:Int->A->B) (hl:l.length<9223372036854775808)
  (h:∀(i:Int) (x:A),0<=i->i<(l.length:Int)->x∈l->cC l i=some x->bN (i+1)=i+1->body i=some (if p x then .inr (.inl (f i x))else .inl (i+1)))
  (c:body (l.length:Int)=some (.inr (.inr ()))):
  Ok (aW body bP 0) (fun r=>match r with|.inl b=>∃(n:Nat) (x:A),l[n]? =some x/\p x=true/\l.find? p=some x/\b=f (n:Int) x/\∀y∈l.take n,p y=false|.inr _=>∀y∈l,p y=false):=by
 refine dF (l:=l) (fun q=>q) (fun i _=>∀y∈l.take i,p y=false) hl rfl (by simp) (fun i x q d j hi g a hg hw=>?_) (fun q hi a=>?_);rw[h q x (by omega) g j hg (by omega)];cases hp:p x with
 |true=>
  refine .mk ⟨i,x,d,hp,?_,by rw[hi],a⟩;have e:=(bG3.1 d).1;rw[<-eS3 i l,List.find?_append,List.drop_eq_getElem_cons e,(bG3.1 d).2]
  have:(l.take i).find? p=none:=by
   rw[List.find?_eq_none];intro y hy;rw[a y hy];exact Bool.false_ne_true
  rw[this,Option.none_or,List.find?_cons_of_pos hp]
 |false=>
  refine .mk ⟨by omega,fun y hy=>?_⟩;rw[List.take_add_one,d]at hy;rcases cL3.1 hy with h|h;exact a y h;simp at h;rw[h];exact hp
 rw[hi,c];rw[dG3]at a;exact .mk a
def yM1 {A:Type} (l:aA A) (g:A->aB Bool) (z:A):aB (Unit⊕(aA A)):=
 (Rg l g).bind fun k=>if k==(-1)then some (.inl ())else(aW (E:=Int×(aA A)) (fun(⟨b,c,a⟩:Int×Int×(aA A))=>if decide (c<(a.length:Int))then(gI a c).bind fun f=>(gT a f).bind fun d=>(g d).bind fun h=>((if !h then(gI a b).bind fun i=>(lV a i (fun r=>d)).bind fun j=>some ((bN (b+1)),j)else some (b,a):aB (Int×(aA A)))).bind fun⟨m,n⟩=>some (.inl (m,(bN (c+1)),n))else some (.inr (b,a))) bP (k,(bN (k+1)),l)).bind fun⟨e,o⟩=>(fI1 o e z).bind fun p=>(uE p e).bind fun q=>some (.inr q)
def jD1 (l:aA YL):iR1 l=yM1 l Uh (YL.mk 0 0):=by rfl
def wS {A:Type} {l:aA A} {g:A->aB Bool} (p:A->Bool) (hl:l.length<9223372036854775808) (hg:∀x∈l,g x=some (p x)):
  Ok (Rg l g) (fun v=>(v= -1/\∀x∈l,p x=false)\/∃(n:Nat) (x:A),v=(n:Int)/\l[n]? =some x/\p x=true/\∀y∈l.take n,p y=false):=by
 unfold Rg;refine Ob (Kd p (fun i _=>i) hl (fun i x h0 h1 d a hw=>?_) (by simp)) fun r hr=>?_;rw[bK3 (by simpa using h1),a,bE3,hg x d,bE3,hw];cases p x<;>rfl;cases r with
 |inl v=>
  obtain⟨n,x,h1,h2,_,b,c⟩:=hr;exact .mk (.inr ⟨n,x,b,h1,h2,c⟩)
 |inr u=>exact .mk (.inl ⟨rfl,hr⟩)
def oA {A:Type} {l:aA A} {n:Nat} (h:n<l.length):gI l (n:Int)=some n:=by
 unfold gI sW;rw[bK3 ⟨by omega,by omega⟩,Int.toNat_natCast]
def rV1 {A:Type} {l:aA A} {g:A->aB Bool} (p:A->Bool) (z:A) (hl:l.length<4611686018427387904) (hg:∀x∈l,g x=some (p x)):
  Ok (yM1 l g z) (fun r=>(match r with|.inl _=>l|.inr m=>m)=l.filter (fun x=> !p x)):=by
 unfold yM1;refine Ob (wS p (by omega) hg) fun v hv=>?_;rcases hv with⟨rfl,h⟩|⟨n,x,rfl,hx,hp,hb⟩
 rw[bK3 (by rfl)];refine .mk ?_;dsimp only;rw[List.filter_eq_self.2];intro y hy;rw[h y hy];rfl;have hn:=(bG3.1 hx).1;rw[bM3 (by simp)]
 refine Ob (P:=fun q:Int×aA A=>∃a:Nat,q.1=(a:Int)/\a<=l.length/\q.2.length=l.length/\q.2.take a=l.filter (fun x=> !p x))
  (iU (fun q:Int×Int×aA A=>∃a b:Nat,q.1=(a:Int)/\q.2.1=(b:Int)/\a<b/\b<=l.length/\q.2.2.length=l.length/\q.2.2.drop b=l.drop b/\q.2.2.take a=(l.take b).filter (fun x=> !p x)) (fun q=>(l.length-q.2.1).toNat) (fun q o=>?_) bP _ ?_ ?_) fun q o=>?_
 obtain⟨i,j,v⟩:=q;obtain⟨a,b,h1,h2,w,B,hlen,hd,d⟩:=o;dsimp only at h1 h2 hlen hd d;subst h1 h2;dsimp only;by_cases c:b<l.length;rw[bK3 (by simp;omega),oA (by omega),bE3]
 have t:v[b]? =some l[b]:=by
  have u:(v.drop b)[0]? =v[b]? :=by rw[cK3];rfl
  rw[<-u,hd,cK3];simp[c]
 have e:v.drop (b+1)=l.drop (b+1):=by
  rw[<-dY3,<-dY3,hd]
 unfold gT;rw[t,bE3,hg _ (cZ3 c),bE3,bQ (n:=(b:Int)+1) (by omega) (by omega)]
 have f:(l.take (b+1)).filter (fun x=> !p x)=(l.take b).filter (fun x=> !p x)++[l[b]].filter (fun x=> !p x):=by
  rw[List.take_add_one,bY3 c,List.filter_append];rfl
 cases hpb:p l[b]with
 |true=>
  refine .mk ⟨⟨a,b+1,rfl,by dsimp only;omega,by omega,by omega,hlen,e,?_⟩,by dsimp only;omega⟩;rw[f,<-d];simp[hpb]
 |false=>
  simp only[Bool.not_false,cF3];rw[oA (by omega),bE3];unfold lV;have s:v[a]? =some v[a]:=bY3 (by omega);rw[s,cE3,bE3,bE3,bQ (n:=(a:Int)+1) (by omega) (by omega)];refine .mk ⟨⟨a+1,b+1,by dsimp only;omega,by dsimp only;omega,by omega,by omega,by dsimp only;rw[eL3];exact hlen,?_,?_⟩,by dsimp only;omega⟩;dsimp only;rw[List.drop_set_of_lt (by omega)];exact e;dsimp only;rw[f,<-d,List.set_eq_take_append_cons_drop,bK3 (by omega),List.take_append,dT3,dJ3 (by omega),cU3 (by rw[dT3];omega)];simp[hpb]
 have k:b=l.length:=by omega
 rw[bM3 (by simp;omega)];refine .mk ⟨a,rfl,by omega,hlen,?_⟩;dsimp only;rw[d,k,dG3];refine⟨n,n+1,rfl,?_,by omega,by omega,rfl,rfl,?_⟩;dsimp only;rw[bQ (by omega) (by omega)];omega;dsimp only;rw[List.take_add_one,hx,List.filter_append];rw[List.filter_eq_self.2 (fun y hy=>by rw[hb y hy];rfl)];simp[hp];dsimp only;rw[bQ (by omega) (by omega)];simp only[bP];omega;obtain⟨i,v⟩:=q;obtain⟨a,h1,C,hlen,d⟩:=o;dsimp only at h1 hlen d;subst h1;dsimp only;unfold fI1 uE;rw[bK3 ⟨by omega,by omega⟩,bE3,Int.toNat_natCast,bK3 ⟨by omega,by simp;omega⟩,bE3];refine .mk ?_;dsimp only;rw[<-d,List.take_append,dT3,dJ3 (by omega),cU3 (by rw[dT3];omega)];simp
def vE (x:YL):Bool:= !((((decide (x.eH<(-77)))||(decide (x.eH>77)))||(decide (x.bK<(-140))))||(decide (x.bK>140)))
def Hg (x:YL):F23 x=some (if vE x then 0 else 2):=by
 unfold F23 vE;cases((((decide (x.eH<(-77)))||(decide (x.eH>77)))||(decide (x.bK<(-140))))||(decide (x.bK>140)))<;>rfl
def rW1 (x:YL):Uh x=some (!vE x):=by
 unfold Uh;rw[Hg];cases vE x<;>rfl
def Mw (i:YL):Int:=bN (bN (7*i.bK)-bN (12*i.eH))
def Ay (n:Int):∃k:Int,bN n=n+k*18446744073709551616/\ -9223372036854775808<=bN n/\bN n<9223372036854775808:=by
 have e:bN n=if n%18446744073709551616>=9223372036854775808 then n%18446744073709551616-18446744073709551616 else n%18446744073709551616:=by
  unfold bN IntKind.wrap;rw[show((2:Int)^IntKind.bits .i64)=18446744073709551616 from rfl,show((2:Int)^(IntKind.bits .i64-1))=9223372036854775808 from rfl];simp[IntKind.signed]
 rw[e];split;exact⟨-(n/18446744073709551616)-1,by omega,by omega,by omega⟩;exact⟨-(n/18446744073709551616),by omega,by omega,by omega⟩
def jE1 (f:Int) (i:YL):F28 f i=some (bN (f+Mw i)):=by
 unfold F28 Mw;obtain⟨a,o,k,l⟩:=Ay (7*i.bK);obtain⟨b,hb,m,n⟩:=Ay (12*i.eH);generalize bN (7*i.bK)=A at *;generalize bN (12*i.eH)=B at *;obtain⟨c,hc,e,g⟩:=Ay (f+A);obtain⟨d,hd,h,j⟩:=Ay (A-B);generalize bN (f+A)=C at *;generalize bN (A-B)=D at *;obtain⟨c,hc,e,g⟩:=Ay (C-B);obtain⟨d,hd,h,j⟩:=Ay (f+D);generalize bN (C-B)=E at *;generalize bN (f+D)=G at *;congr 1;omega
def okM (i:YL) (m:YM):Bool:=decide (bN (m.cQ+Mw i)>= -7)&&decide (bN (m.cQ+Mw i)<=7)
def yN1 (n:Int):F76 n=some (if(decide (n>= -7)&&decide (n<=7))=true then 0 else 2):=by
 unfold F76;by_cases h1:n< -7<;>by_cases h2:n>7<;>simp[h1,h2]<;>omega
def yO1 (m:YM) (i:YL):F75 m i=some (!okM i m):=by
 unfold F75;rw[jE1,bE3,yN1,bE3];unfold okM;cases(decide (bN (m.cQ+Mw i)>= -7)&&decide (bN (m.cQ+Mw i)<=7))<;>rfl
def Mo (s:Y0) (i:YL):Bool:=s.aE.all (okM i)
def yP1 (hs:s.sm) (i:YL):Rf s.aE i=some (!Mo s i):=by
 have a:=hs.aE;have:Rf s.aE i=((Rg s.aE (fun m=>F75 m i)).bind fun v=>some (decide (v>=0))):=rfl;rw[this,rT1 (fun m=> !okM i m) (by omega) (fun m _=>yO1 m i)];unfold Mo;simp[List.all_eq_not_any_not]
def vF (i:YL) (d:Int):YL:=⟨bN (i.eH+d),i.bK⟩
def chI (s:Y0) (i:YL):aB Int:=([0,1,-1]:aA Int).find? (fun d=>vE (vF i d)&&Mo s (vF i d))
def jF1 (hs:s.sm) {i:YL} (hi:vE i=true):F24 s i=some (match chI s i with|some d=>(vF i d,0)|none=>(⟨0,0⟩,18)):=by
 have h0:i=vF i 0:=by
  unfold vE at hi;simp at hi;unfold vF;rw[Int.add_zero,bQ (by omega) (by omega)]
 have c:F73 i=some ((([0,1,-1]:aA Int).map (vF i)).filter vE):=by
  unfold F73
  have e:[i,YL.mk (bN (i.eH+1)) i.bK,YL.mk (bN (i.eH-1)) i.bK]=([0,1,-1]:aA Int).map (vF i):=by
   simp only[dV3,eR3];rw[<-h0];rfl
  rw[e,jD1];obtain⟨r,hr,h⟩:=rV1 (l:=([0,1,-1]:aA Int).map (vF i)) (g:=Uh) (fun x=> !vE x) (YL.mk 0 0) (by simp) (fun x _=>rW1 x);rw[hr,bE3];simp only[Bool.not_not]at h;rw[<-h];cases r<;>rfl
 unfold F24 dH;rw[c,bE3];generalize hL:(([0,1,-1]:aA Int).map (vF i)).filter vE=L
 have hlen:L.length<=3:=by
  rw[<-hL];exact cH3 (List.length_filter_le _ _) (by simp)
 have hf:L.find? (Mo s)=(chI s i).map (vF i):=by
  rw[<-hL,List.find?_filter,List.find?_map];unfold chI;congr 2;funext d;cases h:vE (vF i d)<;>cases h2:Mo s (vF i d)<;>simp[h,h2]
 obtain⟨r,hr,h⟩:=Kd (l:=L) (body:=fun(f:Int)=>if decide (f<(L.length:Int))then(cC L f).bind fun j=>(Rf s.aE j).bind fun o=>if !o then some (.inr (.inl j))else some (.inl (bN (f+1)))else some (.inr (.inr ()))) (Mo s) (fun _ x=>x) (by omega) (fun k x h0 h1 p hg hw=>by
  rw[bK3 (by simpa using h1),hg,bE3,yP1 hs,bE3,hw];cases Mo s x<;>rfl) (by simp)
 rw[hr,bE3];cases r with
 |inl b=>
  obtain⟨n,x,_,_,a,m,_⟩:=h;rw[hf]at a;cases hc:chI s i with
  |none=>rw[hc]at a;cases a
  |some d=>rw[hc]at a;simp at a;simp[m,a]
 |inr u=>
  have:L.find? (Mo s)=none:=by
   rw[List.find?_eq_none];intro y hy;rw[h y hy];exact Bool.false_ne_true
  rw[hf]at this;cases hc:chI s i with
  |none=>rfl
  |some d=>rw[hc]at this;cases this
end Go.P
namespace Go.P
variable {s:Y0}
def Cg:aA Int:=[0,2,4,5,7,9,11]
def Un (k:Int):Int:=Cg[k.toNat]!
def vS (p:YH):Int:=12*(p.fW+1)+Un p.kE+p.jA
def Ch (p:YH):Int:=7*p.fW+p.kE
structure VP (p:YH):Prop where
 s0:0<=p.kE
 s1:p.kE<=6
 a0: -2<=p.jA
 a1:p.jA<=2
 o0: -1<=p.fW
 o1:p.fW<=9
 n0:0<=vS p
 n1:vS p<=127
def Rh {k:Int} (h0:0<=k) (h1:k<=6):0<=Un k/\Un k<=11/\cC Cg k=some (Un k):=by
 have:k=0\/k=1\/k=2\/k=3\/k=4\/k=5\/k=6:=by omega
 rcases this with rfl|rfl|rfl|rfl|rfl|rfl|rfl<;>exact⟨by decide,by decide,rfl⟩
def Xn {p:YH} (h0:0<=p.kE) (h1:p.kE<=6) (h2: -1<=p.fW) (b:p.fW<=9) (c: -2<=p.jA) (d:p.jA<=2):Ud p=some (vS p):=by
 obtain⟨f,r1,r2⟩:=Rh h0 h1;have e:Ud p=(cC Cg p.kE).bind fun a=>some (bN ((bN ((bN (12*(bN (p.fW+1))))+a))+p.jA)):=rfl;rw[e,r2,bE3,bQ (n:=p.fW+1) (by omega) (by omega),bQ (n:=12*(p.fW+1)) (by omega) (by omega),bQ (n:=12*(p.fW+1)+Un p.kE) (by omega) (by omega),bQ (by omega) (by omega)];rfl
def yZ (p:YH):Qw p=some 0↔VP p:=by
 unfold Qw;by_cases hc:((((((decide (p.kE<0))||(decide (p.kE>6)))||(decide (p.jA<(-2))))||(decide (p.jA>2)))||(decide (p.fW<(-1))))||(decide (p.fW>9)))=true;rw[bK3 hc];constructor;intro h;cases h;intro h;have:=h.s0;have:=h.s1;have:=h.a0;have:=h.a1;have:=h.o0;have:=h.o1;simp at hc;omega;rw[bM3 hc];simp at hc;rw[Xn (by omega) (by omega) (by omega) (by omega) (by omega) (by omega),bE3];by_cases hn:(decide (vS p<0)||decide (vS p>127))=true;rw[bK3 hn];constructor;intro h;cases h;intro h;have:=h.n0;have:=h.n1;simp at hn;omega;rw[bM3 hn];simp at hn;exact⟨fun _=>⟨by omega,by omega,by omega,by omega,by omega,by omega,by omega,by omega⟩,fun _=>rfl⟩
def Mp {p:YH} (h:VP p):F33 p=some (Ch p):=by
 have:=h.s0;have:=h.s1;have:=h.o0;have:=h.o1;unfold F33 Ch;rw[bQ (n:=7*p.fW) (by omega) (by omega),bQ (by omega) (by omega)]
def Az {p:YH} (h:VP p): -7<=Ch p/\Ch p<=69:=by
 have:=h.s0;have:=h.s1;have:=h.o0;have:=h.o1;unfold Ch;omega
def VP.eq {p q:YH} (hp:VP p) (g:VP q) (h1:Ch p=Ch q) (h2:vS p=vS q):p=q:=by
 obtain⟨a,b,c⟩:=p;obtain⟨d,e,f⟩:=q;have:=hp.s0;have:=hp.s1;have:=g.s0;have:=g.s1;unfold Ch at h1;dsimp only at *;have hc:c=f:=by omega
 have h:a=d:=by omega
 subst hc h;unfold vS at h2;dsimp only at h2;have:b=e:=by omega
 rw[this]
def jG1 {p:YH} (h:VP p):F82 p=some (Ch p,vS p,0):=by
 have b:=(yZ p).2 h;have c:=Az h;unfold F82 qN1 Ue;rw[b,bE3,bM3 (by simp)];have a:=Mp h;unfold F33 at a;have a:=dH3 a;rw[a,bE3];dsimp only;rw[bM3 (by simp),bE3,bM3 (by simp),Xn h.s0 h.s1 h.o0 h.o1 h.a0 h.a1];rfl
def rX1 {p:YH} (h:¬VP p):F82 p=some (0,0,18):=by
 obtain⟨n,hn,_⟩:=xQ1 (x1:=p);have h0:n≠0:=fun h2=>h ((yZ p).1 (by rw[hn,h2]));unfold F82 qN1;rw[hn,bE3,bK3 (by simpa using h0),bE3];dsimp only;rw[bK3 (by simpa using h0)]
def Ba {i:YL} (h:vE i=true): -77<=i.eH/\i.eH<=77/\ -140<=i.bK/\i.bK<=140:=by
 unfold vE at h;simp at h;omega
def Uo {p:YH} {i:YL} (h:VP p) (hi:vE i=true):F29 p i=some (Ch p+i.eH,vS p+i.bK,0):=by
 have a:=Az h;have hr:=Ba hi;have:=h.n0;have:=h.n1;unfold F29;rw[jG1 h,bE3];dsimp only;rw[bM3 (by simp),Hg,hi,bK3 rfl,bE3,bM3 (by simp),bQ (by omega) (by omega),bQ (by omega) (by omega)]
def Mq {p:YH} {i:YL} (h:¬(VP p/\vE i=true)):∃a b e,F29 p i=some (a,b,e)/\e≠0:=by
 unfold F29;by_cases hp:VP p
 have hi:vE i=false:=by
  cases hc:vE i with
  |false=>rfl
  |true=>exact absurd ⟨hp,hc⟩ h
 rw[jG1 hp,bE3];dsimp only;rw[bM3 (by simp),Hg,hi];exact⟨_,_,2,rfl,by decide⟩;rw[rX1 hp];exact⟨_,_,18,rfl,by decide⟩
def rY1 {a:Int} (h0: -2<=a) (h1:a<=200):qO1 a 12=some (a/12,a%12):=by
 by_cases hn:0<=a;unfold qO1;obtain⟨x,b,r1⟩:=vD (k:=.i64) (a:=a) (show(12:Int)≠0 by decide);obtain⟨y,e2,r2⟩:=Du (k:=.i64) (a:=a) (show(12:Int)≠0 by decide);rw[b,e2,bE3,bE3]
 have c:x=a/12:=by
  rw[Int.tdiv_eq_ediv_of_nonneg hn]at r1;have:x=bN (a/12):=r1;rw[this,bQ (by omega) (by omega)]
 have hy:y=a%12:=by rw[r2,Int.tmod_eq_emod_of_nonneg hn]
 subst c hy;rw[bM3 (by simp;omega),bE3];have:a= -1\/a= -2:=by omega
 rcases this with rfl|rfl<;>rfl
def jH1 {A:Type} {l:aA A} {i j:Nat} (hi:i<l.length) (a:j<l.length) (x:A):x∈(l.set i l[j]).set j l[i]↔x∈l:=by
 constructor;intro h;rcases List.mem_or_eq_of_mem_set h with h|h;rcases List.mem_or_eq_of_mem_set h with h|h;exact h;rw[h];exact cZ3 _;rw[h];exact cZ3 _;intro h;obtain⟨k,hk⟩:=bX3.1 h;have hkl:=(bG3.1 hk).1;by_cases h1:k=i;subst h1;refine bO3 (i:=j) ?_;rw[List.getElem?_set_self (by rw[eL3];exact a),<-hk,bY3 hkl];by_cases h2:k=j;subst h2;refine bO3 (i:=i) ?_;rw[bT3 (by omega),List.getElem?_set_self hi,<-hk,bY3 hkl];refine bO3 (i:=k) ?_;rw[bT3 (by omega),bT3 (by omega),hk]
def jI1:∀(i j:Nat),i<7->j<7->Cg[i]? =Cg[j]? ->i=j:=by
 intro i j hi c h;have:∀a:Fin 7,∀b:Fin 7,Cg[a.1]? =Cg[b.1]? ->a.1=b.1:=by decide
 exact this ⟨i,hi⟩ ⟨j,c⟩ h
def Ri {n:Int} (h0:0<=n) (h1:n<=127):Ok (bA1 n) (fun r=>r.1=0/\r.2.length<=5/\∀q,q∈r.2↔VP q/\vS q=n):=by
 unfold bA1;rw[bM3 (by simp;omega)];refine Ob (P:=fun l:aA YH=>l.length<=5/\∀q,q∈l↔VP q/\vS q=n) (iU (fun q:Int×aA YH=> -3<=q.1/\q.1<=2/\(q.2.length:Int)<=2-q.1/\∀x,x∈q.2↔VP x/\vS x=n/\q.1<x.jA) (fun q=>(q.1+3).toNat) (fun q R=>?_) bP _ ⟨by decide,by decide,by decide,fun x=>⟨fun h=>by simp at h,fun h=>by have:=h.1.a1;have:=h.2.2;dsimp only at this;omega⟩⟩ (by decide)) fun l hl=>.mk ⟨rfl,hl.1,hl.2⟩;obtain⟨al,l⟩:=q;obtain⟨L,g2,M,D⟩:=R;dsimp only at L g2 M D;dsimp only;refine Oi (fun hc=>?_) (fun hc=>.mk ?_);simp only[bN3]at hc;rw[bQ (n:=n-al) (by omega) (by omega),rY1 (by omega) (by omega),bE3];have y:aS1=some (Ao.mk 0 2 4 5 7 9 11):=rfl;rw[y,bE3];dsimp only;rw[bQ (n:=(n-al)/12-1) (by omega) (by omega)];refine Ob (P:=fun m:aA YH=>m.length<=l.length+1/\∀x,x∈m↔x∈l\/(VP x/\vS x=n/\x.jA=al)) (dF (l:=Cg) (fun q=>q.1) (fun k q=>(q.2.length<=l.length\/(q.2.length<=l.length+1/\∃j:Nat,j<k/\Cg[j]? =some ((n-al)%12)))/\∀x,x∈q.2↔x∈l\/(VP x/\vS x=n/\x.jA=al/\x.kE<(k:Int))) (by decide) rfl ⟨.inl (bI3 _),fun x=>⟨.inl,fun h=>h.elim id (fun h=>by have:=h.1.s0;have:=h.2.2.2;omega)⟩⟩ (fun i x q C K hi F u hg hw=>?_) (fun q hi u=>?_)) fun m K=>?_;obtain⟨k,m⟩:=q;dsimp only at hi F u hg hw;obtain⟨p,z⟩:=u;have N:m.length<=l.length+1:=by rcases p with h|h<;>omega
 have g:m.length<=l.length\/(m.length<=l.length+1/\∃j:Nat,j<i+1/\Cg[j]? =some ((n-al)%12)):=p.imp id (fun⟨a,j,b,c⟩=>⟨a,j,by omega,c⟩);have s:=(bG3.1 C).1;have s:i<7:=s;rw[hi]at hw hg
 have f:Un (i:Int)=x:=by
  unfold Un;rw[Int.toNat_natCast,List.getElem!_eq_getElem?_getD,C];rfl
 have H:=Rh (k:=(i:Int)) (by omega) (by omega);rw[f]at H;have E:cC [0,2,4,5,7,9,11] (i:Int)=some x:=hg;dsimp only;rw[hi,bK3 (by simp;omega),E,bE3]
 have key:∀q:YH,(VP q/\vS q=n/\q.jA=al/\q.kE=(i:Int))↔(q=⟨(i:Int),al,(n-al)/12-1⟩/\x=(n-al)%12/\VP ⟨(i:Int),al,(n-al)/12-1⟩):=by
  intro q;obtain⟨a,b,c⟩:=q;constructor;rintro⟨v,e,e2,o⟩;dsimp only at e2 o;subst e2 o;have O:12*(c+1)+x+b=n:=by rw[<-e];unfold vS;dsimp only;rw[f]
  have A:c=(n-b)/12-1:=by omega
  exact⟨by rw[<-A],by omega,by rw[<-A];exact v⟩;rintro⟨e,e2,v⟩;cases e;refine⟨v,?_,rfl,rfl⟩;unfold vS;dsimp only;rw[f];omega
 have keep:(¬(x=(n-al)%12/\VP ⟨(i:Int),al,(n-al)/12-1⟩))->∀q,q∈m↔q∈l\/(VP q/\vS q=n/\q.jA=al/\q.kE<((i+1:Nat):Int)):=fun G q=>by
  rw[z];constructor;rintro(h|⟨v,e,e2,o⟩);exact .inl h;exact .inr ⟨v,e,e2,by omega⟩;rintro(h|⟨v,e,e2,o⟩);exact .inl h;by_cases he:q.kE=(i:Int);exact absurd ((key q).1 ⟨v,e,e2,he⟩).2 G;exact .inr ⟨v,e,e2,by omega⟩
 by_cases hr:x=(n-al)%12;rw[bK3 (by simpa using hr)];obtain⟨v,hv,_⟩:=xQ1 (x1:=YH.mk (i:Int) al ((n-al)/12-1));rw[hv,bE3,bE3];by_cases t:v=0;subst t;rw[bK3 (by simp)];have J:=(yZ _).1 hv;refine Ob (P:=fun w=>w=m++[YH.mk (i:Int) al ((n-al)/12-1)]) (Ob (jQ (Q:=fun w=>w=m++[YH.mk (i:Int) al ((n-al)/12-1)]) (by omega) rfl) fun w hw=>.mk hw) fun w B=>.mk ⟨hw,.inr ⟨?_,i,by omega,by rw[C,hr]⟩,fun q=>?_⟩;dsimp only;rcases p with h|⟨_,j,hj,hj2⟩
 rw[B];simp;omega;exact absurd (jI1 i j s (by omega) (by rw[C,hj2,hr])) (by omega);dsimp only;rw[B,cL3,List.mem_singleton,z];constructor;rintro((h|⟨v,e,e2,o⟩)|h);exact .inl h;exact .inr ⟨v,e,e2,by omega⟩;obtain⟨a,b,c,d⟩:=(key q).2 ⟨h,hr,J⟩;exact .inr ⟨a,b,c,by omega⟩;rintro(h|⟨v,e,e2,o⟩);exact .inl (.inl h);by_cases he:q.kE=(i:Int);exact .inr ((key q).1 ⟨v,e,e2,he⟩).1;exact .inl (.inr ⟨v,e,e2,by omega⟩);rw[bM3 (by simpa using t)];refine .mk ⟨hw,g,keep fun h=>t ?_⟩;have:=(yZ _).2 h.2;rw[hv]at this;exact dH3 this;rw[bM3 (by simpa using hr)];exact .mk ⟨hw,g,keep fun h=>hr h.1⟩;obtain⟨k,m⟩:=q;dsimp only at hi u;dsimp only;rw[bM3 (by rw[hi];simp[Cg])];refine .mk ⟨by rcases u.1 with h|h<;>omega,fun q=>?_⟩;rw[u.2];constructor;rintro(h|⟨v,e,e2,o⟩);exact .inl h;exact .inr ⟨v,e,e2⟩;rintro(h|⟨v,e,e2⟩);exact .inl h;exact .inr ⟨v,e,e2,by have:=v.s1;have:Cg.length=7:=rfl;omega⟩;refine .mk ⟨⟨?_,?_,?_,fun q=>?_⟩,?_⟩;dsimp only;rw[bQ (by omega) (by omega)];omega;dsimp only;rw[bQ (by omega) (by omega)];omega;dsimp only;rw[bQ (by omega) (by omega)];omega;dsimp only;rw[bQ (by omega) (by omega),K.2,D];constructor;rintro(⟨v,e,e2⟩|⟨v,e,e2⟩);exact⟨v,e,by omega⟩;exact⟨v,e,by omega⟩;rintro⟨v,e,e2⟩;by_cases he:q.jA=al;exact .inr ⟨v,e,he⟩;exact .inl ⟨v,e,by omega⟩;dsimp only;rw[bQ (by omega) (by omega)];omega;simp only[bN3]at hc;refine⟨by omega,fun q=>?_⟩;rw[D];exact⟨fun h=>⟨h.1,h.2.1⟩,fun h=>⟨h.1,h.2,by have:=h.1.a0;omega⟩⟩
end Go.P
namespace Go.P
variable {s:Y0}
def bJ1 {l:aA YH} (hl:l.length<=1000):Ok (Xj 0 (l.length:Int) l) (fun m=>m.length=l.length/\∀x,x∈m↔x∈l):=by
 unfold Xj;refine Ob (P:=fun m:aA YH=>m.length=l.length/\∀x,x∈m↔x∈l) (iU (fun q:Int×aA YH=>1<=q.1/\q.1<=1001/\q.2.length=l.length/\∀x,x∈q.2↔x∈l) (fun q=>(1001-q.1).toNat) (fun q g=>?_) bP _ ?_ ?_) fun m r=>.mk r;obtain⟨i,m⟩:=q;obtain⟨h1,c,h2,d⟩:=g;dsimp only at h1 c h2 d;dsimp only;refine Oi (fun hc=>?_) (fun hc=>.mk ⟨h2,d⟩);simp only[bN3]at hc;refine Ob (P:=fun v:aA YH=>v.length=l.length/\∀x,x∈v↔x∈l) (iU (fun q:Int×aA YH=>0<=q.1/\q.1<(l.length:Int)/\q.2.length=l.length/\∀x,x∈q.2↔x∈l) (fun q=>q.1.toNat) (fun q g=>?_) bP _ ⟨by dsimp only;omega,hc,h2,d⟩ (by dsimp only[bP];omega)) fun v hv=>?_;obtain⟨k,v⟩:=q;obtain⟨g0,p,g2,a⟩:=g;dsimp only at g0 p g2 a;dsimp only;refine Ob (P:=fun b=>b=true->0<k) (Oi (fun hc=>?_) (fun hc=>.mk (fun h=>by cases h))) fun b hb=>?_;simp only[bN3]at hc;obtain⟨j,rfl⟩:∃j:Nat,k=(j:Int):=⟨k.toNat,by omega⟩
 have f:((j:Int)-1)=((j-1:Nat):Int):=by omega
 rw[bQ (by omega) (by omega),f,oA (by omega),oA (by omega)];unfold gT;rw[bE3,bY3 (show j<v.length by omega),bE3,bE3,bY3 (show j-1<v.length by omega),bE3];unfold F85 F33;rw[bE3,bE3,bE3];exact .mk (fun _=>hc);refine Oi (fun e=>?_) (fun _=>.mk ⟨g2,a⟩);have hk:=hb e;obtain⟨j,rfl⟩:∃j:Nat,k=(j:Int):=⟨k.toNat,by omega⟩
 have f:((j:Int)-1)=((j-1:Nat):Int):=by omega
 have n:v[j-1]? =some v[j-1]:=bY3 (by omega);have e2:v[j]? =some v[j]:=bY3 (by omega);have o:(v.set j v[j-1])[j-1]? =some v[j-1]:=by rw[bT3 (by omega)];exact n
 rw[bQ (by omega) (by omega),f,oA (by omega),oA (by omega)];unfold gT lV;rw[bE3,n,bE3,bE3,e2,bE3,bE3,e2,cE3,bE3,oA (by rw[eL3];omega),bE3,o,cE3,bE3];refine .mk ⟨⟨by dsimp only;omega,by dsimp only;omega,by dsimp only;simp[g2],fun x=>?_⟩,by dsimp only;omega⟩;dsimp only;rw[jH1 (by omega) (by omega)];exact a x;have:bN (i+1)=i+1:=bQ (by omega) (by omega);exact .mk ⟨⟨by dsimp only;omega,by dsimp only;omega,hv.1,hv.2⟩,by dsimp only;omega⟩;exact⟨by show(1:Int)<=bN (0+1);decide,by show bN (0+1)<=(1001:Int);decide,rfl,fun _=>Iff.rfl⟩;show(1001-bN (0+1)).toNat<bP
 decide
def Rj {l:aA YH} (hl:l.length<=12):Ok (qP1 l) (fun m=>m.length=l.length/\∀x,x∈m↔x∈l):=by
 unfold qP1;refine Ob (jB1) fun v _=>?_;unfold iV1;have e:bN ((l.length:Int)-0)=(l.length:Int):=by rw[bQ (by omega) (by omega)];omega
 refine Ob (P:=fun m:aA YH=>m.length=l.length/\∀x,x∈m↔x∈l) (Ob (P:=fun m:aA YH=>m.length=l.length/\∀x,x∈m↔x∈l) (iU (fun _=>True) (fun _=>0) (fun _ _=>?_) bP () trivial (by decide)) fun m a=>.mk a) fun m a=>.mk a;rw[e,bK3 (by simp;omega)];exact Ob (bJ1 (by omega)) fun m a=>.mk a
def Mr {n:Int}:Ok (F30 n) (fun r=>(r.2=0/\r.1≠[]/\∀q,q∈r.1↔VP q/\vS q=n)\/(r.2≠0/\r.1=[]/\∀q,¬(VP q/\vS q=n))):=by
 unfold F30;by_cases hn:0<=n/\n<=127;refine Ok.bindE (Ri hn.1 hn.2) fun r _ hr=>?_;obtain⟨e,l⟩:=r;obtain⟨h1,c,h2⟩:=hr;dsimp only at h1 c h2;subst h1;dsimp only;by_cases hl:l=[];subst hl;rw[bK3 (by simp)];exact .mk (.inr ⟨by decide,rfl,fun q a=>by simpa using(h2 q).2 a⟩);rw[bM3 (by simpa using hl)];refine Ob (Rj (by omega)) fun m b=>.mk (.inl ⟨rfl,?_,fun q=>(b.2 q).trans (h2 q)⟩);intro hn;dsimp only at hn;rw[hn]at b;exact hl (List.length_eq_zero_iff.1 b.1.symm);unfold bA1;rw[bK3 (by simp;omega)];exact .mk (.inr ⟨by decide,rfl,fun q a=>by have:=a.1.n0;have:=a.1.n1;omega⟩)
end Go.P
namespace Go.P
variable {s:Y0}
def Xo (n:Int) (p:YH):Nat:=(Ch p-n).natAbs
def jJ1 {p:YH} {n:Int} (h:VP p) (h0: -1000<=n) (h1:n<=1000):F79 p n=some ((Xo n p:Nat):Int):=by
 have hr:=Az h;unfold F79;rw[Mp h,bE3,bE3,bQ (n:=n-Ch p) (by omega) (by omega),bQ (n:=Ch p-n) (by omega) (by omega)];unfold Xo;congr 1;split<;>omega
def yQ1 {p q:YH} {n:Int} (h:VP p) (h2:VP q) (h0: -1000<=n) (h1:n<=1000):F81 p q n=some ((Xo n p:Int)-(Xo n q:Int)):=by
 have hr:=Az h;have a:=Az h2;unfold F81;rw[jJ1 h h0 h1,bE3,jJ1 h2 h0 h1,bE3];congr 1;unfold Xo;exact bQ (by omega) (by omega)
def rZ1 {l:aA YH} {n:Int} (hl:l.length<=1000) (hn:l≠[]) (hv:∀x∈l,VP x) (h0: -1000<=n) (h1:n<=1000):Ok (F80 l n) (fun r=>r∈l/\∀x∈l,Xo n r<=Xo n x):=by
  have hp:0<l.length:=List.length_pos_iff.2 hn;unfold F80 dH;rw[bM3 (by simp;omega),show cC l 0=some l[0]from uL (i:=0) hp,bE3];refine Ob (P:=fun r=>r∈l/\∀x∈l,Xo n r<=Xo n x) (iU (fun q:Int×YH=>∃k:Nat,q.1=(k:Int)/\k<=l.length/\q.2∈l/\∀x∈l.take k,Xo n q.2<=Xo n x) (fun q=>(l.length-q.1).toNat) (fun q g=>?_) bP _ ⟨1,rfl,hp,cZ3 hp,fun x a=>?_⟩ (by simp only[bP];omega)) fun m f=>.mk f;obtain⟨i,r⟩:=q;obtain⟨k,d,g2,c,b⟩:=g;dsimp only at d c b;subst d;dsimp only;refine Oi (fun hc=>?_) (fun hc=>?_);have hk:k<l.length:=by simpa using hc
  rw[uL hk,bE3,yQ1 (hv _ (cZ3 hk)) (hv _ c) h0 h1,bE3,bQ (n:=(k:Int)+1) (by omega) (by omega),bE3]
  have e:∀x∈l.take (k+1),x∈l.take k\/x=l[k]:=fun x a=>by
    rw[List.take_add_one,bY3 hk]at a;rcases cL3.1 a with h|h;exact .inl h;exact .inr (by simpa using h)
  by_cases hd:((Xo n l[k]:Int)-(Xo n r:Int))<0;rw[bK3 (by simpa using hd),bE3];refine .mk ⟨⟨k+1,by dsimp only;omega,by omega,cZ3 hk,fun x a=>?_⟩,by dsimp only;omega⟩;dsimp only;rcases e x a with h|h;have:=b x h;omega;rw[h];omega;rw[bM3 (by simpa using hd),bE3];refine .mk ⟨⟨k+1,by dsimp only;omega,by omega,c,fun x a=>?_⟩,by dsimp only;omega⟩;dsimp only;rcases e x a with h|h;exact b x h;rw[h];omega
  have hk : k = l.length := by have:¬(k<l.length):=by simpa using hc
                               omega
  subst hk;rw[dG3]at b;exact .mk ⟨c,b⟩;rw[List.take_add_one,bY3 hp]at a;simp at a;rw[a];exact bI3 _
def Ms {n:Int}:Ok (F30 n) (fun r=>r.1.length<=5):=by
 unfold F30;by_cases hn:0<=n/\n<=127;refine Ob (Ri hn.1 hn.2) fun r hr=>?_;refine Oi (fun _=>.mk (by simp)) (fun _=>?_);exact Ob (Rj (by omega)) fun m a=>.mk (by have:=a.1;dsimp only;omega);unfold bA1;rw[bK3 (by simp;omega)];exact .mk (by simp)
def Xp (p:YH) (i:YL):Ok (F27 p i) (fun r=>VP p/\vE i=true/\∀q,VP q->Ch q=Ch p+i.eH->vS q=vS p+i.bK->r=(q,0))\/(¬(VP p/\vE i=true)/\Ok (F27 p i) (fun _=>True)):=by
 by_cases h:VP p/\vE i=true;left;obtain⟨hp,hi⟩:=h;have hr:=Az hp;have hk:=Ba hi;unfold F27;rw[Uo hp hi,bE3];dsimp only;rw[bM3 (by simp)];obtain⟨⟨l,e⟩,h1,h2⟩:=Mr (n:=vS p+i.bK);have j:=Ms.of h1;rw[h1,bE3];dsimp only at h2 j ⊢;rcases h2 with⟨a,b,c⟩|⟨a,b,c⟩
 rw[bM3 (by simp[a])];refine Ob (rZ1 (by omega) b (fun x f=>((c x).1 f).1) (by omega) (by omega)) fun r g=>.mk ⟨hp,hi,fun q d q1 q2=>?_⟩;have f:=(c r).1 g.1;have:=g.2 q ((c q).2 ⟨d,q2⟩);unfold Xo at this;rw[VP.eq f.1 d (by omega) (by omega)];rw[bK3 (by simpa using a)];exact .mk ⟨hp,hi,fun q d q1 q2=>absurd ⟨d,q2⟩ (c q)⟩;right;refine⟨h,?_⟩;obtain⟨a,b,e,h1,h2⟩:=Mq h;unfold F27;rw[h1,bE3];dsimp only;rw[bK3 (by simpa using h2)];exact .mk trivial
def sA1 (p:YH) (i:YL):∃r,F27 p i=some r:=by
 rcases Xp p i with h|⟨_,h⟩<;>exact h.ex
def Xq (i:YL) (p:YH):YH:=((F27 p i).getD (p,0)).1
def Rk (i:YL) (p:YH):Int:=((F27 p i).getD (p,0)).2
def jK1 (p:YH) (i:YL):F27 p i=some (Xq i p,Rk i p):=by
 obtain⟨r,hr⟩:=sA1 p i;unfold Xq Rk;rw[hr];rfl
def jL1 {p q:YH} {i:YL} (hp:VP p) (hi:vE i=true) (a:VP q) (h1:Ch q=Ch p+i.eH) (h2:vS q=vS p+i.bK):Xq i p=q/\Rk i p=0:=by
 rcases Xp p i with h|⟨h,_⟩
 have:=(h.of (jK1 p i)).2.2 q a h1 h2;exact⟨congrArg Prod.fst this,congrArg Prod.snd this⟩;exact absurd ⟨hp,hi⟩ h
def jM1 (l:aA YH) (n:Int):F31 l n=Rg l (fun x=>F32 x n):=by rfl
def yR1 {p:YH} {i:YL} {y:YH} (h:F10 p i=some (y,0)):VP p/\vE i=true/\∃q,VP q/\Ch q=Ch p+i.eH/\vS q=vS p+i.bK:=by
 unfold F10 at h;by_cases hc:VP p/\vE i=true;refine⟨hc.1,hc.2,?_⟩;rw[Uo hc.1 hc.2,bE3]at h;dsimp only at h;rw[bM3 (by simp)]at h;obtain⟨⟨l,e⟩,h1,h2⟩:=Mr (n:=vS p+i.bK);have k:=Ms.of h1;rw[h1,bE3]at h;dsimp only at h h2 k
 have j:∀q∈l,VP q/\vS q=vS p+i.bK:=fun q d=>by
  rcases h2 with⟨a,b,c⟩|⟨a,b,c⟩
  exact(c q).1 d;rw[b]at d;cases d
 rw[jM1]at h;obtain⟨v,v1,v2⟩:=wS (l:=l) (g:=fun x=>F32 x (Ch p+i.eH)) (fun x=>Ch x==Ch p+i.eH) (by omega) (fun x f=>by unfold F32;rw[Mp (j x f).1];rfl);rw[v1,bE3]at h;rcases v2 with⟨rfl,_⟩|⟨n,x,rfl,f,hp,_⟩
 rw[bK3 (by simp)]at h;cases h;have:=j x (bO3 f);exact⟨x,this.1,by simpa using hp,this.2⟩;obtain⟨a,b,e,h1,h2⟩:=Mq hc;rw[h1,bE3]at h;dsimp only at h;rw[bK3 (by simpa using h2)]at h;simp at h;exact absurd h.2 h2
def vT (i:YL):YL:=⟨0-i.eH,0-i.bK⟩
def Ca {i:YL} (h:vE i=true):vE (vT i)=true:=by
 unfold vE at h ⊢;unfold vT;simp at h ⊢;omega
def back {p:YH} {i:YL} {y:YH} (h:F10 p i=some (y,0)):Rk i p=0/\Xq (vT i) (Xq i p)=p/\Rk (vT i) (Xq i p)=0:=by
 obtain⟨hp,hi,q,b,h1,h2⟩:=yR1 h;obtain⟨a,e2⟩:=jL1 hp hi b h1 h2;obtain⟨c,d⟩:=jL1 (i:=vT i) b (Ca hi) hp (by unfold vT;dsimp only;omega) (by unfold vT;dsimp only;omega);exact⟨e2,by rw[a];exact c,by rw[a];exact d⟩
def sB1 (p:YH) (i:YL):∃r,F10 p i=some r:=by
 unfold F10;by_cases hc:VP p/\vE i=true;rw[Uo hc.1 hc.2,bE3];dsimp only;rw[bM3 (by simp)];obtain⟨⟨l,e⟩,h1,h2⟩:=Mr (n:=vS p+i.bK);have h:=Ms.of h1;rw[h1,bE3];dsimp only at h2 h ⊢
 have j:∀q∈l,VP q:=fun q d=>by
  rcases h2 with⟨a,b,c⟩|⟨a,b,c⟩
  exact((c q).1 d).1;rw[b]at d;cases d
 rw[jM1];obtain⟨v,v1,v2⟩:=wS (l:=l) (g:=fun x=>F32 x (Ch p+i.eH)) (fun x=>Ch x==Ch p+i.eH) (by omega) (fun x f=>by unfold F32;rw[Mp (j x f)];rfl);rw[v1,bE3];rcases v2 with⟨rfl,_⟩|⟨n,x,rfl,f,hp,_⟩
 rw[bK3 (by simp)];exact⟨_,rfl⟩;rw[bM3 (by simp),uL (bG3.1 f).1,bE3];exact⟨_,rfl⟩;obtain⟨a,b,e,h1,h2⟩:=Mq hc;rw[h1,bE3];dsimp only;rw[bK3 (by simpa using h2)];exact⟨_,rfl⟩
end Go.P
namespace Go.P
variable {s:Y0}
def Hx {A:Type} {l:aA A} {body:Int->aB (Int⊕(Unit⊕Unit))} (hl:l.length<9223372036854775808) (h:∀(i:Int) (x:A),i<(l.length:Int)->x∈l->cC l i=some x->bN (i+1)=i+1->body i=some (.inl (i+1))) (a:body (l.length:Int)=some (.inr (.inr ()))):aW body bP 0=some (.inr ()):=by
 refine Ok.eq (rM (l:=l) (fun _=>True) hl (fun i x h0 h1 b hg hw=>?_) (fun i hi _=>?_));rw[h i x h1 b hg hw];exact .mk ⟨rfl,trivial⟩;rw[hi,a];exact .mk rfl
def eqP {A:Type} {l:aA A} {c:A->A->Bool} (hl:l.length<9223372036854775808) (hc:∀x,c x x=true):(if(l.length:Int)!=(l.length:Int)then some false else(aW (E:=Unit⊕Unit) (fun(a:Int)=>if decide (a<(l.length:Int))then(cC l a).bind fun b=>(cC l a).bind fun d=>if(c b d)!=true then some (.inr (.inl ()))else some (.inl (bN (a+1)))else some (.inr (.inr ()))) bP 0).bind fun e=>(match e with|.inl _=>some false|.inr _=>some true))=some true:=by
 rw[bM3 (by simp),Hx (l:=l) hl (fun i x h1 f hg hw=>by rw[bK3 (by simpa using h1),hg,bE3,bE3,hc,hw];rfl) (by simp)];rfl
def eqQ {A:Type} {l:aA A} {g:A->A->aB Bool} (hl:l.length<9223372036854775808) (hc:∀x∈l,g x x=some true):(if(l.length:Int)!=(l.length:Int)then some false else(aW (E:=Unit⊕Unit) (fun(a:Int)=>if decide (a<(l.length:Int))then(cC l a).bind fun c=>(cC l a).bind fun d=>(g c d).bind fun f=>if !f then some (.inr (.inl ()))else some (.inl (bN (a+1)))else some (.inr (.inr ()))) bP 0).bind fun e=>(match e with|.inl _=>some false|.inr _=>some true))=some true:=by
 rw[bM3 (by simp),Hx (l:=l) hl (fun i x h1 b hg hw=>by rw[bK3 (by simpa using h1),hg,bE3,bE3,hc x b,hw];rfl) (by simp)];rfl
def rfB (b:ByteArray):(b==b)=true:=by cases b with|mk d=>exact(show(d==d)=true by simp)
def R35 {l:aA YF} (hl:l.length<=100000):F35 l l=some true:=by unfold F35 dH;exact eqP (by omega) (fun x=>by simp)
def R34 {p:YJ} (hp:p.sm):F34 p p=some true:=by
 have:=hp.eG;unfold F34;rw[R35 (by omega)];simp
def R36 {l:aA YJ} (hl:l.length<=100000) (h:∀p∈l,p.sm):F36 l l=some true:=by unfold F36 dH;exact eqQ (by omega) (fun x a=>R34 (h x a))
def R87 {l:aA YT} (hl:l.length<=100000):F87 l l=some true:=by unfold F87 dH;exact eqP (by omega) (fun x=>by simp)
def uZ2 {l:aA YC} (hl:l.length<=100000):qT1 l l=some true:=by unfold qT1 dH;exact eqP (by omega) (fun x=>by simp)
def vA2 {l:aA YB} (hl:l.length<=100000):aO1 l l=some true:=by unfold aO1 dH;exact eqP (by omega) (fun x=>by simp)
def vB2 {l:aA YD} (hl:l.length<=100000):aP1 l l=some true:=by unfold aP1 dH;exact eqP (by omega) (fun x=>by simp)
def vC2 {l:aA YY} (hl:l.length<=100000):aQ1 l l=some true:=by unfold aQ1 dH;exact eqP (by omega) (fun x=>by simp[rfB])
def vD2 {l:aA YU} (hl:l.length<=100000):qX1 l l=some true:=by
 have:qW1 l l=some true:=by unfold qW1 dH;exact eqP (by omega) (fun x=>by simp)
 unfold qX1;rw[this];rfl
def R39 {l:aA YN} (hl:l.length<=100000):F39 l l=some true:=by unfold F39 dH;exact eqP (by omega) (fun x=>by simp)
def R40 {l:aA YZ} (hl:l.length<=100000):F40 l l=some true:=by unfold F40 dH;exact eqP (by omega) (fun x=>by simp)
def vE2 {e:YE} (he:e.sm):qU1 e e=some true:=by
 have:=he.dJ;have:=he.cX;have:=he.dL;unfold qU1 aR1;rw[vA2 (by omega),vB2 (by omega),vC2 (by omega)];simp
def vF2 {l:aA YE} (hl:l.length<=100000) (h:∀p∈l,p.sm):qV1 l l=some true:=by unfold qV1 dH;exact eqQ (by omega) (fun x a=>vE2 (h x a))
def vG2 {v:YO} (hv:v.sm):qY1 v v=some true:=by
 have:=hv.aX;have:=hv.eJ;unfold qY1;rw[vF2 (by omega) hv.gS,vD2 (by omega)];rfl
def vH2 {l:aA YO} (hl:l.length<=100000) (h:∀p∈l,p.sm):qZ1 l l=some true:=by unfold qZ1 dH;exact eqQ (by omega) (fun x a=>vG2 (h x a))
def R89 {c:YW} (hc:c.sm):F89 c c=some true:=by
 have:=hc.jG;have:=hc.aO;unfold F89;rw[uZ2 (by omega),vH2 (by omega) hc.gA];rfl
def R88 {l:aA YW} (hl:l.length<=100000) (h:∀p∈l,p.sm):F88 l l=some true:=by unfold F88 dH;exact eqQ (by omega) (fun x a=>R89 (h x a))
def R38 {m:YM} (a:m.sm):F38 m m=some true:=by
 have:=a.eS;have:=a.aQ;unfold F38 F86;rw[R87 (by omega),R88 (by omega) a.iD];simp[rfB]
def R37 {l:aA YM} (hl:l.length<=100000) (h:∀p∈l,p.sm):F37 l l=some true:=by unfold F37 dH;exact eqQ (by omega) (fun x a=>R38 (h x a))
def R11 (hs:s.sm):F11 s s=some true:=by
 have:=hs.cD;have:=hs.aE;have:=hs.bU;have:=hs.kV;unfold F11;rw[R36 (by omega) hs.nB,R37 (by omega) hs.cK,R39 (by omega),R40 (by omega)];simp
end Go.P
namespace Go.P
variable {s:Y0}
def pV {A S X:Type} (l:aA A) {body:S->aB (S⊕X)} (mk:Int->aA A->Int->S) (f:A->A) (z:A->Prop) (F:aA A->Int->X) (o:Int) (hl:l.length<4611686018427387904)
  (h:∀(i:Nat) (x:A) (d:aA A) (e:Int),x∈l->i<d.length->d.length=l.length->gI d (i:Int)=some i->d[i]? =some x->bN ((i:Int)+1)=((i+1:Nat):Int)->(i:Int)<(l.length:Int)->∃e',body (mk (i:Int) d e)=some (.inl (mk ((i+1:Nat):Int) (d.set i (f x)) e'))/\(e'=0↔e=0/\z x))
  (p:∀d e,d.length=l.length->body (mk (l.length:Int) d e)=some (.inr (F d e))):∃e,aW body bP (mk 0 l o)=some (F (l.map f) e)/\(e=0↔o=0/\∀x∈l,z x):=by
 have key:Ok (aW body bP (mk 0 l o)) (fun r=>∃e,r=F (l.map f) e/\(e=0↔o=0/\∀x∈l,z x)):=by
  have q:∀(m n:Nat) (e:Int),n+m=l.length->(e=0↔o=0/\∀x∈l.take n,z x)->∀k,m<k->Ok (aW body k (mk (n:Int) ((l.take n).map f++l.drop n) e)) (fun r=>∃e,r=F (l.map f) e/\(e=0↔o=0/\∀x∈l,z x)):=by
   intro m
   induction m with
   |zero=>
    intro n e hn he k hk;obtain⟨k,rfl⟩:∃j,k=j+1:=⟨k-1,by omega⟩
    have hn:n=l.length:=by omega
    subst hn;rw[dG3]at he;rw[dG3,List.drop_length,eA3];simp only[aW];rw[p _ _ (cX3 _)];exact .mk ⟨e,rfl,he⟩
   |succ m ih=>
    intro n e hn he k hk;obtain⟨k,rfl⟩:∃j,k=j+1:=⟨k-1,by omega⟩
    have hnl:n<l.length:=by omega
    have hlen:((l.take n).map f++l.drop n).length=l.length:=by simp;omega
    have hd:l.drop n=l[n]::l.drop (n+1):=List.drop_eq_getElem_cons hnl
    have aK:((l.take n).map f++l.drop n)[n]? =some l[n]:=by
     rw[eJ3 (by simp;omega)];simp[hnl,dJ3 (cP3 hnl)]
    obtain⟨e',h1,h2⟩:=h n l[n] ((l.take n).map f++l.drop n) e (cZ3 hnl) (by omega) hlen (oA (by omega)) aK (bQ (by omega) (by omega)) (by omega)
    have cZ:((l.take n).map f++l.drop n).set n (f l[n])=(l.take (n+1)).map f++l.drop (n+1):=by
     rw[List.set_append_right _ _ (by simp;omega),hd];simp only[cX3,dT3,dJ3 (cP3 hnl),Nat.sub_self,List.set_cons_zero];rw[List.take_add_one,bY3 hnl,List.map_append,List.append_assoc];rfl
    simp only[aW];rw[h1,cZ];refine ih (n+1) e' (by omega) ?_ k (by omega);rw[h2,he,List.take_add_one,bY3 hnl];constructor;rintro⟨⟨a,b⟩,c⟩;refine⟨a,fun x g=>?_⟩;rcases cL3.1 g with g|g;exact b x g;simp at g;rw[g];exact c;rintro⟨a,b⟩;exact⟨⟨a,fun x g=>b x (cL3.2 (.inl g))⟩,b _ (cL3.2 (.inr (by simp)))⟩
  have:=q l.length 0 o (by omega) (by simp) bP (by simp only[bP];omega);simpa using this
 obtain⟨r,h1,e,h2,s⟩:=key;exact⟨e,by rw[h1,h2],s⟩
def fH (i:YL) (h:YB):YB:=⟨Xq i h.dC,h.Rn,h.Ro⟩
def fG (i:YL) (h:YD):YD:=⟨Xq i h.dC,h.Log,h.Kf⟩
def fE (i:YL) (e:YE):YE:=⟨e.ID,e.dW,e.Value,e.dJ.map (fH i),e.cX.map (fG i),e.bR,e.dV,e.eK,e.dL,e.nC,e.nD⟩
def fVo (i:YL) (v:YO):YO:=⟨v.aX.map (fE i),v.eJ⟩
def fC (i:YL) (c:YW):YW:=⟨c.jG,c.aO.map (fVo i)⟩
def fM (i:YL) (m:YM):YM:=⟨m.ID,m.bJ,m.fA,m.cQ,m.bS,m.bG,m.bL,m.jV,m.eC,m.hU,m.iF,m.cA,m.eS,m.aQ.map (fC i)⟩
def zE (i:YL) (e:YE):Prop:=(∀h∈e.dJ,Rk i h.dC=0)/\∀g∈e.cX,Rk i g.dC=0
def zV (i:YL) (v:YO):Prop:=∀e∈v.aX,zE i e
def zC (i:YL) (c:YW):Prop:=∀v∈c.aO,zV i v
def zM (i:YL) (m:YM):Prop:=∀c∈m.aQ,zC i c
def jO1 (k:Int) (p:YH) (i:YL):F26 k p i=some (Xq i p,Rk i p):=by
 unfold F26;rw[jK1];rfl
def cmb (a b:Int):∃c,(if a==0 then some b else some a:aB Int)=some c/\(c=0↔a=0/\b=0):=by
 by_cases h:a=0;subst h;exact⟨b,by simp,by simp⟩;exact⟨a,by rw[bM3 (by simpa using h)],by simp[h]⟩
def qH {A:Type} {l:aA A} {i:Nat} {x:A} {f:A->A} (h:l[i]? =some x):lV l i f=some (l.set i (f x)):=by
 unfold lV;rw[h];rfl
def sD1 {k:Int} {i:Nat} {l:aA YB} {e:Int} {v:YL} {x:YB} (h:l[i]? =some x):∃e',qQ1 k i l e v=some (l.set i (fH v x),e')/\(e'=0↔e=0/\Rk v x.dC=0):=by
 obtain⟨c,h1,h2⟩:=cmb e (Rk v x.dC);refine⟨c,?_,h2⟩;unfold qQ1;rw[show gT l i=some x from h,bE3,jO1,bE3];dsimp only;rw[h1,bE3,qH h];rfl
def jP1 {k:Int} {i:Nat} {l:aA YD} {e:Int} {v:YL} {x:YD} (h:l[i]? =some x):∃e',Mn k i l e v=some (l.set i (fG v x),e')/\(e'=0↔e=0/\Rk v x.dC=0):=by
 obtain⟨c,h1,h2⟩:=cmb e (Rk v x.dC);refine⟨c,?_,h2⟩;unfold Mn;rw[show gT l i=some x from h,bE3,jO1,bE3];dsimp only;rw[h1,bE3,qH h];rfl
def jQ1 {A:Type} {b:Bool} {l m:aA A} (h:l.length+m.length<1000000) (h2:m.length<=1\/b=false):nE b l m=some (l++m):=by
 unfold nE;have e:Sim.maxRoom=1073741824:=rfl;rw[bK3 ⟨by rw[e];omega,fun hb=>h2.elim id (fun h2=>by rw[hb]at h2;cases h2)⟩]
def jR1 {A:Type} {l:aA A} {x:A} (h:l.length<1000):nE true l [x]=some (l++[x]):=jQ1 (by simp;omega) (.inl (by simp))
def Xr {c:Int} (h:0<=c) (h2:c<=1000000):Zs c=some ():=by
 unfold Zs;have e:Sim.maxRoom=1073741824:=rfl;rw[bK3 ⟨h,by rw[e];omega⟩]
def uM {A:Type} (l:aA A) {body:Int×aA A->aB ((Int×aA A)⊕aA A)} (hl:l.length<1000)
  (h:∀(i:Nat) (x:A) (a:aA A),x∈l->a.length=i->i<l.length->cC l (i:Int)=some x->bN ((i:Int)+1)=((i+1:Nat):Int)->body ((i:Int),a)=some (.inl (((i+1:Nat):Int),a++[x])))
  (b:∀a,body ((l.length:Int),a)=some (.inr a)):aW body bP (0,[])=some l:=by
 have c:∀(m n:Nat),n+m=l.length->∀k,m<k->aW body k ((n:Int),l.take n)=some l:=by
  intro m
  induction m with
  |zero=>
   intro n hn k hk;obtain⟨k,rfl⟩:∃j,k=j+1:=⟨k-1,by omega⟩
   have hn:n=l.length:=by omega
   subst hn;simp only[aW];rw[b,dG3];rfl
  |succ m ih=>
   intro n hn k hk;obtain⟨k,rfl⟩:∃j,k=j+1:=⟨k-1,by omega⟩
   have hnl:n<l.length:=by omega
   simp only[aW];rw[h n l[n] (l.take n) (cZ3 hnl) (by simp;omega) hnl (uL hnl) (bQ (by omega) (by omega))];have e:l.take n++[l[n]]=l.take (n+1):=by rw[List.take_add_one,bY3 hnl];rfl
   rw[e];exact ih (n+1) (by omega) k (by omega)
 exact c l.length 0 (by omega) bP (by simp only[bP];omega)
def jS1 {e:YE} (he:e.sm):Dt e=some (e.dL,e.cX,e.dJ):=by
 have:=he.dJ;have:=he.cX;have:=he.dL;unfold Dt;rw[kC (by omega),kC (by omega),kC (by omega)];rfl
def jT1 {v:YO} (hv:v.sm):Xg v=some (v.eJ,v.aX):=by
 have:=hv.aX;have:=hv.eJ;unfold Xg dH;rw[uM v.aX (by omega) (fun i x a c d hi hg hw=>?_) (fun a=>by dsimp only;rw[bM3 (by simp)]),bE3,jQ1 (by simp;omega) (.inr rfl)];rfl;dsimp only;rw[bK3 (by simp;omega),hg,bE3,jS1 (hv.gS x c),hw];exact congrArg (fun z:aB (aA YE)=>z.bind fun b=>some (Sum.inl (((i+1:Nat):Int),b))) (jR1 (l:=a) (x:=x) (by omega))
def jU1 {c:YW} (hc:c.sm):Xh c=some (c.jG,c.aO):=by
 have:=hc.jG;have:=hc.aO;unfold Xh dH;rw[kC (by omega),bE3,uM c.aO (by omega) (fun i x a d e hi hg hw=>?_) (fun a=>by dsimp only;rw[bM3 (by simp)])];rfl;dsimp only;rw[bK3 (by simp;omega),hg,bE3,jT1 (hc.gA x d),hw];exact congrArg (fun z:aB (aA YO)=>z.bind fun b=>some (Sum.inl (((i+1:Nat):Int),b))) (jR1 (l:=a) (x:=x) (by omega))
def jV1 {m:YM} (b:m.sm):Xi m=some (m.eS,m.aQ):=by
 have:=b.eS;have:=b.aQ;unfold Xi dH;rw[kC (by omega),bE3,uM m.aQ (by omega) (fun i x a d e hi hg hw=>?_) (fun a=>by dsimp only;rw[bM3 (by simp)])];rfl;dsimp only;rw[bK3 (by simp;omega),hg,bE3,jU1 (b.iD x d),hw];exact congrArg (fun z:aB (aA YW)=>z.bind fun c=>some (Sum.inl (((i+1:Nat):Int),c))) (jR1 (l:=a) (x:=x) (by omega))
def sE1 {p:YJ} (hp:p.sm):qL1 p=some p:=by
 have:=hp.eG;unfold qL1;rw[kC (by omega)];rfl
def sF1 (hs:s.sm):qM1 s=some (s.bU,s.kV,s.aE,s.cD):=by
 have:=hs.cD;have:=hs.aE;have:=hs.bU;have:=hs.kV;unfold qM1 dH;rw[Xr (by omega) (by omega),bE3,uM s.cD (by omega) (fun i x a b d hi hg hw=>?_) (fun a=>by dsimp only;rw[bM3 (by simp)]),bE3,Xr (by omega) (by omega),bE3,uM s.aE (by omega) (fun i x a b d hi hg hw=>?_) (fun a=>by dsimp only;rw[bM3 (by simp)]),bE3,kC (by omega),kC (by omega)];rfl;dsimp only;rw[bK3 (by simp;omega),hg,bE3,jV1 (hs.cK x b),hw];exact congrArg (fun z:aB (aA YM)=>z.bind fun c=>some (Sum.inl (((i+1:Nat):Int),c))) (jR1 (l:=a) (x:=x) (by omega));dsimp only;rw[bK3 (by simp;omega),hg,bE3,sE1 (hs.nB x b),bE3,hw,jR1 (l:=a) (x:=x) (by omega)];rfl
end Go.P
namespace Go.P
variable {s:Y0}
def exU {X Y:Type} {x:aB X} {k:X->aB Y} {F:Int->X} {P:Int->Prop} {R:Int->aB Y} {W:Int->Prop} (h:∃e,x=some (F e)/\P e) (hk:∀e,P e->∃e',k (F e)=R e'/\W e'):∃e',x.bind k=R e'/\W e':=by
 obtain⟨e,h1,h2⟩:=h;rw[h1];exact hk e h2
def Xt (hs:s.sm) (v:YL):∃e,qS1 s v=some (if(e !=0)=true then .inl e else .inr (s.bU,s.kV,s.aE.map (fM v),s.cD))/\(e=0↔∀m∈s.aE,zM v m):=by
 have hM:=hs.aE;unfold qS1;rw[sF1 hs,bE3];dsimp only;refine exU (F:=fun e=>(e,s.aE.map (fM v))) (P:=fun e=>(e=0↔(0:Int)=0/\∀m∈s.aE,zM v m)) (pV s.aE (fun k a e=>(k,e,a)) (fM v) (zM v) (fun a e=>(e,a)) 0 (by omega) (fun i m a e J hi hlen U hg hw T=>?_) (fun a e _=>by dsimp only;rw[bM3 (by simp)])) (fun e he=>⟨e,?_,by simpa using he⟩)
 rotate_left
 .dsimp only
  by_cases h:e=0
  .rw [bM3 (by simp[h]),bM3 (by simp[h])]
  .rw [bK3 (by simp[h]),bK3 (by simp[h])]
 have hC:=(hs.cK m J).aQ;dsimp only;rw[bK3 (by simpa using T),U,bE3,show gT a i=some m from hg,bE3,hw];refine exU (F:=fun e=>(e,a.set i (fM v m))) (P:=fun e'=>(e'=0↔e=0/\∀c∈m.aQ,zC v c)) (pV m.aQ (fun k a e=>(k,a,e)) (fC v) (zC v) (fun cs e=>(e,a.set i (YM.mk m.ID m.bJ m.fA m.cQ m.bS m.bG m.bL m.jV m.eC m.hU m.iF m.cA m.eS cs))) e (by omega) (fun i2 c p e2 n b0 O D t V A=>?_) (fun cs e _=>by dsimp only;rw[bM3 (by simp),qH hg];rfl)) (fun e he=>⟨e,rfl,he⟩);have hV:=((hs.cK m J).iD c n).aO;dsimp only;rw[bK3 (by simpa using A),D,bE3,show gT p i2=some c from t,bE3,V];refine exU (F:=fun e=>(c.aO.map (fVo v),e)) (P:=fun e'=>(e'=0↔e2=0/\∀x∈c.aO,zV v x)) (pV c.aO (fun k a e=>(k,a,e)) (fVo v) (zV v) (fun cs e=>(cs,e)) e2 (by omega) (fun i3 w b e3 H b4 R E u W B=>?_) (fun cs e _=>by dsimp only;rw[bM3 (by simp)])) (fun e he=>⟨e,by dsimp only;rw[qH t];rfl,he⟩);have hE:=(((hs.cK m J).iD c n).gA w H).aX;dsimp only;rw[bK3 (by simpa using B),E,bE3,show gT b i3=some w from u,bE3,W];refine exU (F:=fun e=>(b.set i3 (fVo v w),e)) (P:=fun e'=>(e'=0↔e3=0/\∀x∈w.aX,zE v x)) (pV w.aX (fun k a e=>(k,a,e)) (fE v) (zE v) (fun cs e=>(b.set i3 (YO.mk cs w.eJ),e)) e3 (by omega) (fun i4 y q e4 Y M S G z X C=>?_) (fun cs e _=>by dsimp only;rw[bM3 (by simp),qH u];rfl)) (fun e he=>⟨e,rfl,he⟩);have hY:=(((hs.cK m J).iD c n).gA w H).gS y Y;have hH:=hY.dJ;have hG:=hY.cX;dsimp only;rw[bK3 (by simpa using C),G,bE3,show gT q i4=some y from z,bE3,X];refine exU (F:=fun e=>(y.dJ.map (fH v),e)) (P:=fun e'=>(e'=0↔e4=0/\∀x∈y.dJ,Rk v x.dC=0)) (pV y.dJ (fun k a e=>(k,a,e)) (fH v) (fun x=>Rk v x.dC=0) (fun cs e=>(cs,e)) e4 (by omega) (fun i5 x r o Z N j f g l d=>?_) (fun cs e _=>by dsimp only;rw[bM3 (by simp)])) (fun o K=>?_)
 .dsimp only
  rw[bK3 (by simpa using d),f,bE3,l];obtain⟨e',h1,h2⟩:=sD1 (k:=(i2:Int)) (e:=o) (v:=v) g;exact⟨e',by rw[h1];rfl,h2⟩
 dsimp only;refine exU (F:=fun e=>(y.cX.map (fG v),e)) (P:=fun e'=>(e'=0↔o=0/\∀x∈y.cX,Rk v x.dC=0)) (pV y.cX (fun k a e=>(k,a,e)) (fG v) (fun x=>Rk v x.dC=0) (fun cs e=>(cs,e)) o (by omega) (fun i5 x r o Z N j f g l d=>?_) (fun cs e _=>by dsimp only;rw[bM3 (by simp)])) (fun e6 L=>?_)
 .dsimp only
  rw[bK3 (by simpa using d),f,bE3,l];obtain⟨e',h1,h2⟩:=jP1 (k:=(i2:Int)) (e:=o) (v:=v) g;exact⟨e',by rw[h1];rfl,h2⟩
 refine⟨e6,?_,?_⟩
 .dsimp only
  rw[qH z,bE3,qH (x:=(YE.mk y.ID y.dW y.Value y.dJ (y.cX.map (fG v)) y.bR y.dV y.eK y.dL y.nC y.nD)) (by rw[List.getElem?_set_self M]),bE3,List.set_set];rfl
 .rw [L,K]
  unfold zE;exact⟨fun h=>⟨h.1.1,h.1.2,h.2⟩,fun h=>⟨⟨h.1,h.2.1⟩,h.2.2⟩⟩
def gM (i:YL) (m:YM):YM:=⟨m.ID,m.bJ,m.fA,bN (m.cQ+Mw i),m.bS,m.bG,m.bL,m.jV,m.eC,m.hU,m.iF,m.cA,m.eS,m.aQ.map (fC i)⟩
def tS (s:Y0) (i:YL):Y0:=⟨s.hJ,s.fB,s.cD,s.aE.map (gM i),s.bU,s.kV⟩
def oR {A:Type} {l:aA A} {f:A->A} {P Q:A->Prop} (h:∀x∈l,P x) (hf:∀x,P x->Q (f x)):∀y∈l.map f,Q y:=fun y hy=>by
 obtain⟨x,a,rfl⟩:=eM3.1 hy
 exact hf x (h x a)
def uK1 (hs:s.sm) (i:YL):(tS s i).sm:=by
 refine⟨hs.hJ,hs.cD,hs.nB,?_,oR hs.cK fun m a=>⟨a.cA,a.eS,?_,oR a.iD fun c hc=>⟨hc.jG,?_,oR hc.gA fun v hv=>⟨?_,oR hv.gS fun e he=>⟨?_,?_,he.dL,he.zB⟩,hv.eJ⟩⟩⟩,hs.bU,hs.kV⟩;show(s.aE.map (gM i)).length<=12
 rw[cX3];exact hs.aE;show(m.aQ.map (fC i)).length<=5
 rw[cX3];exact a.aQ;show(c.aO.map (fVo i)).length<=3
 rw[cX3];exact hc.aO;show(v.aX.map (fE i)).length<=20
 rw[cX3];exact hv.aX;show(e.dJ.map (fH i)).length<=12
 rw[cX3];exact he.dJ;show(e.cX.map (fG i)).length<=12
 rw[cX3];exact he.cX
end Go.P
namespace Go.P
variable {s:Y0}
def vI2 {x:Int} {m:YM} {c:YK} (e:m.sm) (hs:c.s'.sm):Ok (aM1 x m c) (fun b=>b=false-> -7<=m.cQ/\m.cQ<=7):=by
 unfold aM1 dH;refine dP (T91 e) fun⟨o,p⟩=>?_;refine Ob (P:=fun r=>r=false-> -7<=m.cQ/\m.cQ<=7) (Oi (fun _=>.mk (fun h=>by cases h)) (fun _=>.mk (fun h=>by simpa using h))) fun s d=>?_;have hp:=hs.cD;refine Ob (P:=fun r=>r=false-> -7<=m.cQ/\m.cQ<=7) (dF (l:=c.s'.cD) (fun q=>q.2) (fun _ q=>q.1=false-> -7<=m.cQ/\m.cQ<=7) (by omega) rfl d (fun i y q n f hi hl a hg hw=>?_) (fun q hi a=>?_)) fun r hr=>.mk hr;obtain⟨b,k⟩:=q;dsimp only at hi hl a hg hw;simp only[hl,hg,nt];refine Ob (P:=fun r=>r=false->b=false) (Oi (fun hc=>dP T55 fun⟨g,j⟩=>.mk (fun _=>by simp at hc;exact hc.2)) (fun _=>.mk id)) fun y hy=>.mk ⟨hw,fun h=>a (hy h)⟩;obtain⟨b,k⟩:=q;dsimp only at hi a;simp only[hi,nf];exact .mk a
def vJ2 (hs:s.sm) (f:0<s.aE.length) (hv:F7 s=some true):∀m∈s.aE,-7<=m.cQ/\m.cQ<=7:=by
 have h:=(jC1 hs f hv).r5;unfold aN1 yV dH at h;have r:=hs.aE;obtain⟨v,h,o⟩:=pU h;cases o;obtain⟨v,h1,h2⟩:=pU h;cases h2;have:=Ok.of (Q:=fun v:aA YV=>v.length=0->∀m∈s.aE,-7<=m.cQ/\m.cQ<=7) (dF (l:=s.aE) (fun q=>q.1) (fun i q=>q.2.length<=i/\(q.2.length=0->∀j,j<i->∀m,s.aE[j]? =some m-> -7<=m.cQ/\m.cQ<=7)) (by omega) rfl ⟨by simp,fun _ j d=>by omega⟩ (fun i e q p k hi hl c hg hw=>?_) (fun q hi c=>?_)) h1 rfl;exact this;obtain⟨x,v⟩:=q;dsimp only at hi hl c hg hw;simp only[hl,hg,nt];refine Ob (vI2 (hs.cK e k) hs) fun b hb=>?_;refine Ob (iY1 (by omega)) fun u n=>.mk ⟨hw,?_,fun h j d m a=>?_⟩;dsimp only;cases b<;>simp at n<;>omega;dsimp only at h;cases b with
 |true=>simp at n;omega
 |false=>
  simp only[bQ3,false_implies,forall_const,true_and]at n;by_cases g:j=i;subst g;rw[p]at a;cases a;exact hb rfl;exact c.2 (by omega) j (by omega) m a
 obtain⟨x,v⟩:=q;dsimp only at hi c;simp only[hi,nf];refine .mk (fun h m k=>?_);obtain⟨j,d⟩:=bX3.1 k;exact c.2 h j (bG3.1 d).1 m d
def Xu (hs:s.sm) (j:YL) {l:aA YM} (hl:l.length<=12):aW (E:=aA YM) (fun(⟨c,b⟩:Int×(aA YM))=>if decide (c<(l.length:Int))then(gI b c).bind fun f=>(gT b f).bind fun g=>(F28 g.cQ j).bind fun h=>(gI b c).bind fun n=>(lV b n (fun a=>(YM.mk a.ID a.bJ a.fA h a.bS a.bG a.bL a.jV a.eC a.hU a.iF a.cA a.eS a.aQ))).bind fun o=>some (.inl ((bN (c+1)),o))else some (.inr b)) bP (0,l)=some (l.map fun m=>(YM.mk m.ID m.bJ m.fA (bN (m.cQ+Mw j)) m.bS m.bG m.bL m.jV m.eC m.hU m.iF m.cA m.eS m.aQ)):=by
 obtain⟨e,h1,_⟩:=pV l (body:=fun(⟨c,b⟩:Int×(aA YM))=>if decide (c<(l.length:Int))then(gI b c).bind fun f=>(gT b f).bind fun g=>(F28 g.cQ j).bind fun h=>(gI b c).bind fun n=>(lV b n (fun a=>(YM.mk a.ID a.bJ a.fA h a.bS a.bG a.bL a.jV a.eC a.hU a.iF a.cA a.eS a.aQ))).bind fun o=>some (.inl ((bN (c+1)),o))else some (.inr b)) (fun k d _=>(k,d)) (fun m=>(YM.mk m.ID m.bJ m.fA (bN (m.cQ+Mw j)) m.bS m.bG m.bL m.jV m.eC m.hU m.iF m.cA m.eS m.aQ)) (fun _=>True) (fun d _=>d) 0 (by omega) (fun i m d e r hi hlen q hg hw p=>⟨e,by
  dsimp only;rw[bK3 (by simpa using p),q,bE3,show gT d i=some m from hg,bE3,jE1,bE3,bE3,qH hg,hw];rfl,by simp⟩) (fun d e _=>by dsimp only;rw[bM3 (by simp)])
 exact h1
def yS1 (hs:s.sm) (hv:F7 s=some true) (i:YL):Ok (F8 s i) (fun r=>r.2.2≠0\/∃d,vE i=true/\chI s i=some d/\(∀m∈s.aE,zM (vF i d) m)/\F7 (tS s (vF i d))=some true/\r=(tS s (vF i d),vF i d,0)):=by
 have j:=hs.aE;unfold F8;rw[hv,bE3,bM3 (by simp),Hg];by_cases hi:vE i=true;rw[hi,bK3 rfl,bE3,bM3 (by simp),jF1 hs hi,bE3];cases hc:chI s i with
 |none=>exact .mk (.inl (by decide))
 |some d=>
  dsimp only;rw[bM3 (by simp)];obtain⟨e,h1,h2⟩:=Xt hs (vF i d);rw[h1,bE3];by_cases he:e=0;rw[bM3 (by simp[he])];dsimp only;rw[Xu hs (vF i d) (by rw[cX3];exact j),bE3,List.map_map];have l:Y0.mk s.hJ s.fB s.cD (s.aE.map ((fun m=>(YM.mk m.ID m.bJ m.fA (bN (m.cQ+Mw (vF i d))) m.bS m.bG m.bL m.jV m.eC m.hU m.iF m.cA m.eS m.aQ))∘fM (vF i d))) s.bU s.kV=tS s (vF i d):=rfl;rw[l,bM3 (by simp)];refine Ok.bindE (P:=fun _=>True) (x:=(F7 (tS s (vF i d))).bind fun h=>some (!h)) (Ob (T7 (uK1 hs _)) fun _ _=>.mk trivial) fun b hb _=>?_;obtain⟨c,f,g⟩:=pU hb;cases g;cases c with
  |true=>exact .mk (.inr ⟨d,rfl,rfl,h2.1 he,f,rfl⟩)
  |false=>exact .mk (.inl (by decide))
  rw[bK3 (by simpa using he)];dsimp only;refine Ob (P:=fun _=>True) (iU (fun q:Int×aA YM=>0<=q.1) (fun _=>0) (fun q k=>?_) bP _ (dZ3 0) (by decide)) fun m _=>?_;obtain⟨a,b⟩:=q;dsimp only at k ⊢;rw[bM3 (by simp;omega)];exact .mk trivial;rw[bK3 (by simpa using he),bE3,bK3 rfl];exact .mk (.inl (by decide))
 rw[bM3 hi,bE3,bK3 (by simp)];exact .mk (.inl (by decide))
def iT2 (hs:s.sm) (hv:F7 s=some true) {i:YL} {d:Int} (hi:vE i=true) (hc:chI s i=some d) (c:∀m∈s.aE,zM (vF i d) m) (b:F7 (tS s (vF i d))=some true):F8 s i=some (tS s (vF i d),vF i d,0):=by
 have a:=hs.aE;unfold F8;rw[hv,bE3,bM3 (by simp),Hg,hi,bK3 rfl,bE3,bM3 (by simp),jF1 hs hi,bE3,hc];dsimp only;rw[bM3 (by simp)];obtain⟨e,h1,h2⟩:=Xt hs (vF i d);rw[h1,bE3,bM3 (by simp[h2.2 c])];dsimp only;rw[Xu hs (vF i d) (by rw[cX3];exact a),bE3,List.map_map];have e:Y0.mk s.hJ s.fB s.cD (s.aE.map ((fun m=>(YM.mk m.ID m.bJ m.fA (bN (m.cQ+Mw (vF i d))) m.bS m.bG m.bL m.jV m.eC m.hU m.iF m.cA m.eS m.aQ))∘fM (vF i d))) s.bU s.kV=tS s (vF i d):=rfl;rw[e,b,bM3 (by simp)];rfl
end Go.P
namespace Go.P
variable {s:Y0}
def rN {A V:Type} {xs:aA A} {body:Int×aA V->aB ((Int×aA V)⊕aA V)} {l:aA V} (K:Nat) (G:A->aA V->Prop) (mono:∀x v w,G x v->(∀y∈v,y∈w)->G x w) (g:xs.length<1000000)
  (h:∀(i:Nat) (x:A) (v:aA V),x∈xs->v.length<=l.length+K*i->i<xs.length->cC xs (i:Int)=some x->bN ((i:Int)+1)=(i:Int)+1->Ok (body ((i:Int),v)) (fun r=>match r with|.inl q=>q.1=(i:Int)+1/\(∀y∈v,y∈q.2)/\q.2.length<=v.length+K/\G x q.2|.inr _=>False))
  (b:∀v,body ((xs.length:Int),v)=some (.inr v)):Ok (aW body bP (0,l)) (fun v=>(∀y∈l,y∈v)/\v.length<=l.length+K*xs.length/\∀x∈xs,G x v):=by
 refine dF (l:=xs) (fun q=>q.1) (fun i q=>(∀y∈l,y∈q.2)/\q.2.length<=l.length+K*i/\∀x∈xs.take i,G x q.2) (by omega) rfl ⟨fun _ h=>h,by simp,by simp⟩ (fun i x q f e hi c a hg hw=>?_) (fun q hi a=>?_);obtain⟨k,v⟩:=q;dsimp only at hi c a hg hw;rw[hi]at hg hw ⊢;obtain⟨j,m,n⟩:=a;refine(h i x v e m (by omega) hg hw).mono fun r hr=>?_;cases r with
 |inr _=>exact hr.elim
 |inl q=>
  obtain⟨h1,h2,o,d⟩:=hr;refine⟨h1,fun y hy=>h2 y (j y hy),by rw[Nat.mul_succ];omega,fun y hy=>?_⟩;rw[List.take_add_one,f]at hy;rcases cL3.1 hy with hy|hy;exact mono y v q.2 (n y hy) h2;simp at hy;rw[hy];exact d
 obtain⟨k,v⟩:=q;dsimp only at hi a;rw[hi,b];rw[dG3]at a;exact .mk a
def gH1 (h:YB) (L:aA YH):Prop:=h.dC∈L
def gG1 (h:YD) (L:aA YH):Prop:=h.dC∈L
def gE (e:YE) (L:aA YH):Prop:=(∀h∈e.dJ,h.dC∈L)/\∀h∈e.cX,h.dC∈L
def gV (v:YO) (L:aA YH):Prop:=∀e∈v.aX,gE e L
def gC (c:YW) (L:aA YH):Prop:=∀v∈c.aO,gV v L
def gN (m:YM) (L:aA YH):Prop:=∀c∈m.aQ,gC c L
def Xv (e:YE) (v w:aA YH) (h:gE e v) (hw:∀y∈v,y∈w):gE e w:=⟨fun x a=>hw _ (h.1 x a),fun x a=>hw _ (h.2 x a)⟩
def Xw (e:YO) (v w:aA YH) (h:gV e v) (hw:∀y∈v,y∈w):gV e w:=fun x a=>Xv x v w (h x a) hw
def Xx (e:YW) (v w:aA YH) (h:gC e v) (hw:∀y∈v,y∈w):gC e w:=fun x a=>Xw x v w (h x a) hw
def sG1 (e:YM) (v w:aA YH) (h:gN e v) (hw:∀y∈v,y∈w):gN e w:=fun x a=>Xx x v w (h x a) hw
def Ke {b:Bool} {l:aA YH} {p:YH} (h:l.length<1000000):Ok (nE b l [p]) (fun m=>m=l++[p]):=jQ (by omega) rfl
def yT1 (hs:s.sm) {n:Nat} (hn:∀m∈s.aE,m.aQ.length=n):Ok (F9 s 0 (n:Int) true) (fun L=>L.length<=100000/\∀m∈s.aE,gN m L):=by
 have X:=hs.aE;unfold F9 dH;refine Ob (rN (l:=[]) (xs:=s.aE) 7200 gN sG1 (by omega) (fun i m P g hl hi hg hw=>?_) (fun v=>by dsimp only;rw[bM3 (by simp)])) fun L a=>.mk ⟨by have:=a.2.1;simp at this;omega,a.2.2⟩;have T:=(hs.cK m g).aQ;have F:=hn m g;simp only[bU3]at hl;dsimp only;rw[bK3 (by simp;omega)];refine Ob (rN (l:=P) (xs:=m.aQ) 1440 gC Xx (by omega) (fun Z c v1 j K G o z=>?_) (fun v=>by dsimp only;rw[bM3 (by simp;omega)])) fun L a=>.mk ⟨hw,a.1,by have:=a.2.1;dsimp only;omega,a.2.2⟩;have Y:=((hs.cK m g).iD c j).aO;dsimp only;rw[bK3 (by simp;omega),hg,bE3,o,bE3];refine Ob (rN (l:=v1) (xs:=c.aO) 480 gV Xw (by omega) (fun i2 w v2 k M H p A=>?_) (fun v=>by dsimp only;rw[bM3 (by simp)])) fun L a=>.mk ⟨z,a.1,by have:=a.2.1;dsimp only;omega,a.2.2⟩;have U:=(((hs.cK m g).iD c j).gA w k).aX;dsimp only;rw[bK3 (by simp;omega),p,bE3];refine Ob (rN (l:=v2) (xs:=w.aX) 24 gE Xv (by omega) (fun i3 e R C N J q B=>?_) (fun v=>by dsimp only;rw[bM3 (by simp)])) fun L a=>.mk ⟨A,a.1,by have:=a.2.1;dsimp only;omega,a.2.2⟩;have he:=(((hs.cK m g).iD c j).gA w k).gS e C;have W:=he.dJ;have V:=he.cX;dsimp only;rw[bK3 (by simp;omega),q,bE3];refine Ob (rN (l:=R) (xs:=e.dJ) 1 gH1 (fun x v w h hw=>hw _ h) (by omega) (fun O h S D t r b f=>?_) (fun v=>by dsimp only;rw[bM3 (by simp)])) fun L1 h1=>?_;dsimp only;rw[bK3 (by simp;omega),b,bE3];exact Ob (Ke (by omega)) fun u d=>.mk ⟨f,fun y hy=>by rw[d];exact cL3.2 (.inl hy),by dsimp only;rw[d];simp,by dsimp only[gH1,gG1];rw[d];simp⟩;have E:=h1.2.1;refine Ob (rN (l:=L1) (xs:=e.cX) 1 gG1 (fun x v w h hw=>hw _ h) (by omega) (fun O h S D t r b f=>?_) (fun v=>by dsimp only;rw[bM3 (by simp)])) fun L2 h2=>.mk ⟨B,fun y hy=>h2.1 y (h1.1 y hy),by have:=h2.2.1;dsimp only;omega,fun x g=>h2.1 _ (h1.2.2 x g),h2.2.2⟩;dsimp only;rw[bK3 (by simp;omega),b,bE3];exact Ob (Ke (by omega)) fun u d=>.mk ⟨f,fun y hy=>by rw[d];exact cL3.2 (.inl hy),by dsimp only;rw[d];simp,by dsimp only[gH1,gG1];rw[d];simp⟩
def rO {A:Type} {l:aA A} {f g:A->A} (h:∀x∈l,g (f x)=x):(l.map f).map g=l:=by
 rw[List.map_map];conv=>rhs;rw[<-List.map_id l]
 exact List.map_congr_left h
def bk (j:YL) (L:aA YH):Prop:=∀p∈L,Xq (vT j) (Xq j p)=p/\Rk (vT j) (Xq j p)=0
def vM2 {j:YL} {x:YB}:(fH j x).dC=Xq j x.dC:=rfl
def vN2 {j:YL} {x:YD}:(fG j x).dC=Xq j x.dC:=rfl
def bE {j:YL} {L:aA YH} (hb:bk j L) {e:YE} (h:gE e L):fE (vT j) (fE j e)=e/\zE (vT j) (fE j e):=by
 refine⟨?_,fun y hy=>?_,fun y hy=>?_⟩
 rotate_left
 .obtain ⟨x,a,rfl⟩:=eM3.1 hy
  rw[vM2];exact(hb _ (h.1 x a)).2
 .obtain ⟨x,a,rfl⟩:=eM3.1 hy
  rw[vN2];exact(hb _ (h.2 x a)).2
 have h1:(e.dJ.map (fH j)).map (fH (vT j))=e.dJ:=rO fun x a=>by
  unfold fH;dsimp only;rw[(hb _ (h.1 x a)).1]
 have h2:(e.cX.map (fG j)).map (fG (vT j))=e.cX:=rO fun x a=>by
  unfold fG;dsimp only;rw[(hb _ (h.2 x a)).1]
 unfold fE;dsimp only;rw[h1,h2]
def bV {j:YL} {L:aA YH} (hb:bk j L) {v:YO} (h:gV v L):fVo (vT j) (fVo j v)=v/\zV (vT j) (fVo j v):=by
 refine⟨?_,oR (P:=fun x=>gE x L) h fun x a=>(bE hb a).2⟩;have h1:(v.aX.map (fE j)).map (fE (vT j))=v.aX:=rO fun x a=>(bE hb (h x a)).1;unfold fVo;dsimp only;rw[h1]
def bC {j:YL} {L:aA YH} (hb:bk j L) {c:YW} (h:gC c L):fC (vT j) (fC j c)=c/\zC (vT j) (fC j c):=by
 refine⟨?_,oR (P:=fun x=>gV x L) h fun x a=>(bV hb a).2⟩;have h1:(c.aO.map (fVo j)).map (fVo (vT j))=c.aO:=rO fun x a=>(bV hb (h x a)).1;unfold fC;dsimp only;rw[h1]
def uL1 {j:YL} (h:vE j=true):Mw j=7*j.bK-12*j.eH:=by
 have:=Ba h;unfold Mw;rw[bQ (n:=7*j.bK) (by omega) (by omega),bQ (n:=12*j.eH) (by omega) (by omega),bQ (by omega) (by omega)]
def fif {j:YL} (h:vE j=true) {n:Int} (h0: -7<=n) (h1:n<=7):bN (bN (n+Mw j)+Mw (vT j))=n:=by
 have:=Ba h;have a:=uL1 h;have e2:Mw (vT j)=7*(0-j.bK)-12*(0-j.eH):=uL1 (Ca h);rw[bQ (n:=n+Mw j) (by omega) (by omega),bQ (by omega) (by omega)];omega
def sh0 {j:YL} (h:vE j=true):vF j 0=j:=by
 have:=Ba h;unfold vF;rw[Int.add_zero,bQ (by omega) (by omega)]
def vO2 (hb:s.b) (i:YL):F3 s i=some true:=by
 unfold F3 dH;obtain⟨Y,R,U⟩:=U13 hb;rw[R,bE3];cases Y with
 |false=>rfl
 |true=>
  have hs:=U rfl;obtain⟨Z,M,_⟩:=T7 hs;simp only[eO3,bQ3,cR3,bE3];rw[M];cases Z with
  |false=>rfl
  |true=>
   have hv:=M;have D:=iQ2 hs hv;have O:=hs.aE;simp only[eO3,bQ3,cR3,bE3];obtain⟨⟨x9,j,W⟩,S,h⟩:=yS1 hs hv i;rw[S,bE3];dsimp only at h ⊢;rcases h with h|⟨d,hi,hd,hz,ht,h⟩
   rw[bK3 (by simpa using h)];generalize hj:vF i d=j0 at hz ht h;cases h
   have a:vE j=true:=by
    have:=List.find?_some hd;rw[bF3,hj]at this;exact this.1
   have hr:=Ba a;rw[bM3 (by simp),show cC s.aE 0=some s.aE[0]from uL (i:=0) D,bE3];have A:=yL1 hs hv;rw[A _ (cZ3 D)];obtain⟨L,T,V,N⟩:=yT1 hs (n:=stv s) A;rw[T,bE3]
   have q:YL.mk (bN (0-j.eH)) (bN (0-j.bK))=vT j:=by
    rw[bQ (by omega) (by omega),bQ (by omega) (by omega)];rfl
   have G:Ok (aW (E:=Unit⊕Unit) (fun(t:Int)=>if decide (t<(L.length:Int))then(cC L t).bind fun H=>(F10 H j).bind fun⟨X,J⟩=>if J !=0 then some (.inr (.inl ()))else some (.inl (bN (t+1)))else some (.inr (.inr ()))) bP 0) (fun r=>match r with|.inl _=>True|.inr _=>∀p∈L,∃y,F10 p j=some (y,0)):=by
    refine rM (l:=L) (fun p=>∃y,F10 p j=some (y,0)) (by omega) (fun k p h0 h1 hx hg hw=>?_) (fun k hk x=>?_);obtain⟨⟨y,e⟩,v⟩:=sB1 p j;rw[bK3 (by simpa using h1),hg,bE3];refine Ok.bindE (P:=fun r=>r=(y,e)) (by rw[v];exact .mk rfl) fun r _ hr=>?_;subst hr;dsimp only;by_cases he:e=0;subst he;rw[bM3 (by simp)];exact .mk ⟨hw,y,v⟩;rw[bK3 (by simpa using he)];exact .mk trivial;rw[bM3 (by simp[hk])];exact .mk x
   obtain⟨K,B,w⟩:=G;rw[B,bE3];cases K with
   |inl u=>rfl
   |inr u=>
    dsimp only at w ⊢
    have z:bk j L:=fun p hp=>by
     obtain⟨y,hy⟩:=w p hp;exact(back hy).2
    have g:=vJ2 hs D hv
    have f:tS (tS s j) (vT j)=s:=by
     have:(s.aE.map (gM j)).map (gM (vT j))=s.aE:=rO fun m o=>by
      have h1:(m.aQ.map (fC j)).map (fC (vT j))=m.aQ:=rO fun c hc=>(bC z (N m o c hc)).1;have h2:=g m o;unfold gM;dsimp only;rw[h1,fif a h2.1 h2.2]
     unfold tS;dsimp only;rw[this]
    have F:chI (tS s j) (vT j)=some 0:=by
     unfold chI;refine List.find?_cons_of_pos ?_;rw[sh0 (Ca a),Ca a,fE3];unfold Mo;rw[bJ3];refine oR (P:=fun m=> -7<=m.cQ/\m.cQ<=7) g fun m o=>?_;have:bN ((gM j m).cQ+Mw (vT j))=m.cQ:=fif a o.1 o.2;unfold okM;rw[this];simp;omega
    have C:F8 (tS s j) (vT j)=some (s,vT j,0):=by
     have:=iT2 (s:=tS s j) (uK1 hs j) ht (i:=vT j) (d:=0) (Ca a) F ?_ ?_;rw[this,sh0 (Ca a),f];rw[sh0 (Ca a)];exact oR (P:=fun m=>gN m L) N fun m o=>oR (P:=fun c=>gC c L) o fun c hc=>(bC z hc).2;rw[sh0 (Ca a),f];exact hv
    rw[q,C,bE3];dsimp only;rw[show bN (0-j.eH)=(vT j).eH from congrArg YL.eH q,show bN (0-j.bK)=(vT j).bK from congrArg YL.bK q,R11 hs];simp
end Go.P
