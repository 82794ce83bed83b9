import Derived.Test.YtfdbgfhnlgbonaaGreatGaB
/- A text of the proof. -/
set_option linter.all false
namespace Go.P
def Ok {α:Type} (x:aB α) (Q:α->Prop):Prop:=∃v,x=some v/\Q v
section
variable {α β:Type} {Q:α->Prop}
def Ok.mk {v:α} (h:Q v):Ok (some v) Q:=⟨v,rfl,h⟩
def bY {α:Type} {v:α} {Q:α->Prop} (h:Q v:=by exact trivial):Ok (some v) Q:=⟨v,rfl,h⟩
def Ob {P:β->Prop} {x:aB β} {k:β->aB α} (h:Ok x P) (hk:∀v,P v->Ok (k v) Q):Ok (x.bind k) Q:=by
 obtain⟨v,rfl,hv⟩:=h;exact hk v hv
def Oi {c:Prop} [Decidable c] {a b:aB α} (h1:c->Ok a Q) (h2:¬c->Ok b Q):Ok (if c then a else b) Q:=by
 split;rename_i h;exact h1 h;rename_i h;exact h2 h
def oJ {α:Type} {c:Prop} [Decidable c] {v:α} {y:aB α} {Q:α->Prop} (h:¬c->Ok y Q) (q:Q v:=by exact trivial):Ok (if c then some v else y) Q:=Oi (fun _=>.mk q) h
def Ok.mono {P:α->Prop} {x:aB α} (h:Ok x P) (a:∀v,P v->Q v):Ok x Q:=by
 obtain⟨v,h1,h2⟩:=h;exact⟨v,h1,a v h2⟩
def Ok.ex {x:aB α} (h:Ok x Q):∃v,x=some v:=by
 obtain⟨v,h1,_⟩:=h;exact⟨v,h1⟩
def gY {S E:Type} {body:S->aB (S⊕E)} {Q:E->Prop} (I:S->Prop) (μ:S->Nat)
  (h:∀s,I s->Ok (body s) (fun r=>match r with|.inl s'=>I s'/\μ s'<μ s|.inr e=>Q e)):∀(n:Nat) (s:S),I s->μ s<n->Ok (bC body n s) Q
 |0,s,_,hn=>by omega
 |n+1,s,hi,hn=>by
  obtain⟨r,h1,h2⟩:=h s hi
  simp only[bC,h1,zX2]
  cases r with
  |inl s'=>exact gY I μ h n s' h2.1 (by have:=h2.2;omega)
  |inr e=>exact .mk h2
end
def bU {n:Int} (h1: -9223372036854775808<=n) (h2:n<9223372036854775808):bK n=n:=by
 have e:bK n=if n%18446744073709551616>=9223372036854775808 then n%18446744073709551616-18446744073709551616 else n%18446744073709551616:=by
  unfold bK IntKind.wrap;rw[show((2:Int)^IntKind.bits .i64)=18446744073709551616 from rfl,show((2:Int)^(IntKind.bits .i64-1))=9223372036854775808 from rfl];simp[IntKind.signed]
 rw[e];split<;>omega
def dJ {A:Type} {l:aA A} {i:Int} {Q:A->Prop} (h0:0<=i) (h1:i<(l.length:Int)) (h:∀x,x∈l->l[i.toNat]? =some x->Q x):Ok (bM l i) Q:=by
 unfold bM;rw[aE3 h0];have hi:i.toNat<l.length:=by omega
 exact⟨l[i.toNat],by simp[hi],h _ (cE3 hi) (by simp[hi])⟩
end Go.P
set_option maxRecDepth 100000
namespace Go.P
def rI1 (n a b:Int):pE n a b=some (decide (n>=a)&&decide (n<=b)):=by rfl
def rJ1 {A:Type} (l:aA A) (g:A->aB Bool):aB Int:=
 (bC (E:=Int⊕Unit) (fun(a:Int)=>
  if(decide (a<(l.length:Int)))then
   (bM l a).bind fun d=>
   (g d).bind fun b=>
   if b then
    some (.inr (.inl a))
   else
   some (.inl (bK (a+1)))
  else
  some (.inr (.inr ()))) bS 0).bind fun c=>
 match c with
 |.inl x_7=>
  some x_7
 |.inr _=>
  some (-1)
def Mj {A:Type} {l:aA A} {g:A->aB Bool} (hl:l.length<9223372036854775808) (hg:∀x∈l,∃b,g x=some b):Ok (rJ1 l g) (fun v=>(v= -1/\∀x∈l,g x=some false)\/(0<=v/\v<l.length/\∃x,l[v.toNat]? =some x/\g x=some true)):=by
 unfold rJ1
 refine Ob (P:=fun r=>match r with|.inl v=>0<=v/\v<l.length/\∃x,l[v.toNat]? =some x/\g x=some true|.inr _=>∀x∈l,g x=some false)
  (gY (S:=Int) (fun i=>0<=i/\i<=l.length/\∀j,j<i.toNat->∀x,l[j]? =some x->g x=some false) (fun i=>l.length-i.toNat) (fun i hi=>?_) bS 0 ⟨by omega,by omega,fun j c=>by simp at c⟩ (by simp[bS];omega)) fun r hr=>?_
 obtain⟨h0,h1,h2⟩:=hi;refine Oi (fun hc=>?_) (fun hc=>?_);simp only[aH3]at hc;refine Ob (dJ (Q:=fun x=>x∈l/\l[i.toNat]? =some x) h0 hc (fun x a b=>⟨a,b⟩)) fun x d=>?_;obtain⟨b,hb⟩:=hg x d.1;rw[hb];cases b with
 |true=>exact .mk ⟨h0,hc,x,d.2,hb⟩
 |false=>
  rw[zX2,bU (by omega) (by omega)];refine .mk ⟨⟨by omega,by omega,fun j c y hy=>?_⟩,by omega⟩;by_cases e:j=i.toNat
  subst e;rw[d.2]at hy;cases hy;exact hb;exact h2 j (by omega) y hy
 simp only[aH3]at hc;refine .mk (fun x d=>?_);obtain⟨j,c⟩:=aS3.1 d;have:=(zZ2.1 c).1;exact h2 j (by omega) x c;cases r with
 |inl v=>exact .mk (.inr hr)
 |inr u=>exact .mk (.inl ⟨rfl,hr⟩)
end Go.P
namespace Go.P
structure YY.b (x:YY):Prop where
 qB:x.qB.size<9223372036854775808
structure YE.b (x:YE):Prop where
 cA:x.cA.length<9223372036854775808
 dX:x.dX.length<9223372036854775808
 dA:x.dA.length<9223372036854775808
 De:∀y∈x.dA,y.b
structure YO.b (x:YO):Prop where
 aT:x.aT.length<9223372036854775808
 fR:∀y∈x.aT,y.b
 dQ:x.dQ.length<9223372036854775808
structure YW.b (x:YW):Prop where
 nC:x.nC.length<9223372036854775808
 aM:x.aM.length<9223372036854775808
 fK:∀y∈x.aM,y.b
structure YM.b (x:YM):Prop where
 jQ:x.jQ.size<9223372036854775808
 nN:x.nN.length<9223372036854775808
 aQ:x.aQ.length<9223372036854775808
 gU:∀y∈x.aQ,y.b
structure YJ.b (x:YJ):Prop where
 Br:x.Br.size<9223372036854775808
 bN:x.bN.length<9223372036854775808
structure Y0.b (x:Y0):Prop where
 qW:x.qW.size<9223372036854775808
 bG:x.bG.length<9223372036854775808
 jK:∀y∈x.bG,y.b
 aD:x.aD.length<9223372036854775808
 cP:∀y∈x.aD,y.b
 cJ:x.cJ.length<9223372036854775808
 nX:x.nX.length<9223372036854775808
structure YY.sm (x:YY):Prop where
 qB:x.qB.size<=300
structure YE.sm (x:YE):Prop where
 cA:x.cA.length<=12
 dX:x.dX.length<=12
 dA:x.dA.length<=12
 De:∀y∈x.dA,y.sm
structure YO.sm (x:YO):Prop where
 aT:x.aT.length<=20
 fR:∀y∈x.aT,y.sm
 dQ:x.dQ.length<=6
structure YW.sm (x:YW):Prop where
 nC:x.nC.length<=5
 aM:x.aM.length<=3
 fK:∀y∈x.aM,y.sm
structure YM.sm (x:YM):Prop where
 jQ:x.jQ.size<=300
 nN:x.nN.length<=5
 aQ:x.aQ.length<=5
 gU:∀y∈x.aQ,y.sm
structure YJ.sm (x:YJ):Prop where
 Br:x.Br.size<=300
 bN:x.bN.length<=5
structure Y0.sm (x:Y0):Prop where
 qW:x.qW.size<=300
 bG:x.bG.length<=4
 jK:∀y∈x.bG,y.sm
 aD:x.aD.length<=12
 cP:∀y∈x.aD,y.sm
 cJ:x.cJ.length<=10
 nX:x.nX.length<=5
end Go.P
namespace Go.P
def qU {A E:Type} {l:aA A} {body:Int->aB (Int⊕E)} {Q:E->Prop} (P:A->Prop) (hl:l.length<9223372036854775808)
  (h:∀(i:Int) (x:A),0<=i->i<(l.length:Int)->x∈l->bM l i=some x->bK (i+1)=i+1->Ok (body i) (fun r=>match r with|.inl j=>j=i+1/\P x|.inr e=>Q e))
  (a:∀i:Int,i=(l.length:Int)->(∀x∈l,P x)->Ok (body i) (fun r=>match r with|.inl j=>False|.inr e=>Q e)):Ok (bC body bS 0) Q:=by
 have hl:l.length<9223372036854775808:=hl;refine gY (fun(i:Int)=>0<=i/\i<=l.length/\∀j,j<i.toNat->∀x,l[j]? =some x->P x) (fun i=>l.length-i.toNat) (fun i hi=>?_) bS 0 ⟨by omega,by omega,fun j b=>by simp at b⟩ (by simp[bS];omega);obtain⟨h0,h1,h2⟩:=hi;by_cases c:i<(l.length:Int);have hi:i.toNat<l.length:=by omega
 have hg:bM l i=some l[i.toNat]:=by unfold bM;rw[aE3 h0];simp[hi]
 refine(h i l[i.toNat] h0 c (cE3 hi) hg (bU (by omega) (by omega))).mono fun r hr=>?_;cases r with
 |inl j=>
  obtain⟨rfl,hp⟩:=hr;refine⟨⟨by omega,by omega,fun j b y hy=>?_⟩,by omega⟩;by_cases e:j=i.toNat
  subst e;rw[aO3 hi]at hy;cases hy;exact hp;exact h2 j (by omega) y hy
 |inr e=>exact hr
 refine(a i (by omega) (fun x d=>?_)).mono fun r hr=>?_;obtain⟨j,b⟩:=aS3.1 d;have:=(zZ2.1 b).1;exact h2 j (by omega) x b;cases r with
 |inl j=>exact hr.elim
 |inr e=>exact hr
def U33 {v:YO} (hv:v.b):Ok (F52 v) (fun r=>r=true->v.sm):=by
 unfold F52 dT;refine Ob (P:=fun r=>match r with|.inl _=>True|.inr _=>∀e∈v.aT,e.sm) (qU (fun e=>e.sm) hv.aT (fun i x h0 h1 c hg hw=>?_) (fun i hi hp=>?_)) fun r hr=>?_;simp only[h1,cA3,aZ3,hg,zX2];refine Oi (fun hc=>.mk trivial) (fun hc=>?_);have a:=hv.fR x c;simp only[aQ3,aH3,cZ3]at hc;refine Ob (P:=fun r=>match r with|.inl _=>True|.inr _=>∀e∈x.dA,e.sm) (qU (fun e=>e.sm) a.dA (fun k y j d hy f g=>?_) (fun k hk hp=>?_)) fun r hr=>?_;simp only[d,cA3,aZ3,f,zX2];refine Oi (fun hd=>.mk trivial) (fun hd=>?_);rw[g];exact .mk ⟨rfl,⟨by simp at hd;omega⟩⟩;simp only[hk,Int.lt_irrefl,cU3,aK3,bI3];exact .mk hp;cases r with
 |inl u=>exact .mk trivial
 |inr u=>simp only;rw[hw];exact .mk ⟨rfl,⟨by omega,by omega,by omega,hr⟩⟩
 simp only[hi,Int.lt_irrefl,cU3,aK3,bI3];exact .mk hp;cases r with
 |inl u=>exact .mk (fun h=>by cases h)
 |inr u=>
  refine .mk (fun h=>?_);simp only[aA3,aH3]at h;exact⟨by omega,hr,by omega⟩
end Go.P
namespace Go.P
def cG {A S E:Type} {l:aA A} {body:S->aB (S⊕E)} {Q:E->Prop} {s0:S} (a:S->Int) (I:Nat->S->Prop) (hl:l.length<9223372036854775808) (h0:a s0=0) (f:I 0 s0)
  (h:∀(i:Nat) (x:A) (s:S),l[i]? =some x->x∈l->a s=(i:Int)->a s<(l.length:Int)->I i s->bM l (a s)=some x->bK (a s+1)=(i:Int)+1->Ok (body s) (fun r=>match r with|.inl s'=>a s'=(i:Int)+1/\I (i+1) s'|.inr e=>Q e))
  (b:∀s,a s=(l.length:Int)->I l.length s->Ok (body s) (fun r=>match r with|.inl _=>False|.inr e=>Q e)):Ok (bC body bS s0) Q:=by
 have hl:l.length<9223372036854775808:=hl;refine gY (fun s=>0<=a s/\a s<=l.length/\I (a s).toNat s) (fun s=>l.length-(a s).toNat) (fun s hi=>?_) bS s0 ⟨by omega,by omega,by rw[h0];exact f⟩ (by simp[bS];omega);obtain⟨g,m,d⟩:=hi;by_cases c:a s<(l.length:Int);have hi:(a s).toNat<l.length:=by omega
 have hc:(((a s).toNat:Nat):Int)=a s:=by omega
 have hg:bM l (a s)=some l[(a s).toNat]:=by unfold bM;rw[aE3 g];simp[hi]
 refine(h (a s).toNat l[(a s).toNat] s (by simp[hi]) (cE3 hi) hc.symm c d hg (by rw[bU (by omega) (by omega)];omega)).mono fun r hr=>?_;cases r with
 |inl s'=>
  obtain⟨k,e2⟩:=hr;refine⟨⟨by omega,by omega,?_⟩,by omega⟩;rw[show(a s').toNat=(a s).toNat+1 by omega];exact e2
 |inr e=>exact hr
 refine(b s (by omega) ?_).mono fun r hr=>?_;rw[show(a s).toNat=l.length by omega]at d;exact d;cases r with
 |inl j=>exact hr.elim
 |inr e=>exact hr
def eP {A:Type} {g:Bool} {l:aA A} {x:A} (h:l.length<1073741824) {Q:aA A->Prop} (a:Q (l++[x])):Ok (iZ g l [x]) Q:=by
 unfold iZ;have e:Sim.maxRoom=1073741824:=rfl;rw[aE3 ⟨by rw[e,bG3,aN3];omega,fun _=>aC3 _⟩];exact .mk a
def rK2 {w:Bool} {id:YZ} {l:aA YV} {s:Y0} {r:Int} (h:l.length<1000000):Ok (iV w id l s r) (fun v=>v.length<=l.length+1):=by
 unfold iV;refine Ob (P:=fun v=>v.length<=l.length+1) (Oi (fun _=>Ob (eP (Q:=fun v=>v.length<=l.length+1) (by omega) (by simp)) fun v hv=>.mk hv) (fun _=>.mk (by omega))) fun v hv=>.mk hv
def yE1 (n a b:Int):pE n a b=some (decide (n>=a)&&decide (n<=b)):=rfl
def rL2 (i:YL):Hl i=some (if((((decide (i.mJ<(-77)))||(decide (i.mJ>77)))||(decide (i.aZ<(-140))))||(decide (i.aZ>140)))then 2 else 0):=by
 unfold Hl;split<;>rfl
def gW2 {s:ByteArray} (h:s.size<9223372036854775808):Ok (Qr s) (fun _=>True):=by
 unfold Qr;refine Ob (P:=fun _=>True) (Oi (fun _=>?_) (fun _=>.mk trivial)) fun v hv=>.mk hv
 have:Ok (aM1 s.data.toList) (fun _=>True):=by
  unfold aM1;refine Ob (Mj (l:=s.data.toList) (g:=fun b=>gL1 (b.toNat:Int)) (by rw[dV3];exact h) (fun x _=>⟨_,rfl⟩)) fun v hv=>.mk trivial
 exact Ob this fun v hv=>.mk trivial
end Go.P
namespace Go.P
section
variable {α β:Type} {Q:α->Prop}
def Ok.bindE {P:β->Prop} {x:aB β} {k:β->aB α} (h:Ok x P) (hk:∀v,x=some v->P v->Ok (k v) Q):Ok (x.bind k) Q:=by
 obtain⟨v,rfl,hv⟩:=h;exact hk v rfl hv
def Ok.of {x:aB α} (h:Ok x Q) {v:α} (hv:x=some v):Q v:=by
 obtain⟨w,h1,h2⟩:=h;rw[h1]at hv;cases hv;exact h2
def rZ {k:IntKind} {a b:Int} (h:b≠0):Ok (Li k a b) (fun v=>v=k.wrap (a.tdiv b)):=by
 unfold Li;rw[aG3 h];exact .mk rfl
def sA {k:IntKind} {a b:Int} (h:b≠0):Ok (Lj k a b) (fun v=>v=a.tmod b):=by
 unfold Lj;rw[aG3 h];exact .mk rfl
def yL {k:IntKind} {a b:Int} (h:0<=b):Ok (Tn k a b) (fun v=>v=a.fdiv (2^min b.toNat k.bits)):=by
 unfold Tn;rw[aG3 (by omega)];exact .mk rfl
def Xq {k:IntKind} {a b:Int} (h:0<=b):Ok (mX1 k a b) (fun _=>True):=by
 unfold mX1;rw[aG3 (by omega)];exact .mk trivial
end
section
variable {A:Type} {l:List A}
def mE {i:Int} (h0:0<=i) (h1:i<(l.length:Int)):Ok (gM l i) (fun v=>v=i.toNat/\v<l.length):=by
 unfold gM sD;rw[aE3 ⟨h0,h1⟩];exact .mk ⟨rfl,by omega⟩
def pO {j:Nat} (h:j<l.length):Ok (fQ l j) (fun x=>l[j]? =some x/\x∈l):=by
 unfold fQ;rw[aO3 h];exact .mk ⟨rfl,cE3 h⟩
def Xr {j:Nat} {f:A->A} (h:j<l.length):Ok (iG l j f) (fun m=>m.length=l.length):=by
 unfold iG;rw[aO3 h];exact .mk (by simp)
def tU {n c:Int} {z:A} (h0:0<=n) (h1:n<=c) (h2:c<=1073741824):Ok (vL n c z) (fun v=>v=List.replicate n.toNat z):=by
 unfold vL;rw[aE3 ⟨h0,h1,h2⟩];exact .mk rfl
def Jv {a b:Int} (h0:0<=a) (h1:a<=b) (h2:b<=(l.length:Int)):Ok (nG l a b) (fun v=>v.length<=l.length/\∀x∈v,x∈l):=by
 unfold nG;rw[aE3 ⟨h0,h1,h2⟩];exact .mk ⟨by simp;omega,fun x c=>List.mem_of_mem_drop (cM3 c)⟩
def aY1 {h:Int} (_:0<l.length) (h1:0<=h) (h2:h<=(l.length:Int)):Ok (Gd l h) (fun v=>v.length=h.toNat/\∀x∈v,x∈l):=by
 unfold Gd;rw[aE3 ⟨h1,h2⟩];exact .mk ⟨by simp;omega,fun x a=>cM3 a⟩
def iO {i:Int} {x:A} (h:bM l i=some x):0<=i/\i<(l.length:Int)/\x∈l/\l[i.toNat]? =some x:=by
 unfold bM at h;split at h
 grind
 cases h
end
def Ag {s:ByteArray} {i:Int} (h0:0<=i) (h1:i<(s.size:Int)):Ok (tE s i) (fun v=>0<=v/\v<=255):=by
 unfold tE;rw[aE3 h0];have h:i.toNat<s.data.toList.length:=by rw[dV3];show i.toNat<s.size;omega
 rw[aO3 h];have:=(s.data.toList[i.toNat]).toNat_lt;exact .mk ⟨by dsimp only;omega,by dsimp only;omega⟩
def oB {A:Type} {l:aA A} (h:l.length<=1073741824):lF l=some l:=by
 unfold lF;rw[Nat.ble_eq_true_of_le h];rfl
def nm:(∀a b:Bool,((a||b)=true)=(a=true\/b=true))/\(∀a b:Bool,((a&&b)=true)=(a=true/\b=true))/\(∀b:Bool,((!b)=true)=(b=false))/\(∀(p:Prop) [Decidable p],(decide p=true)=p)/\
  (∀(p:Prop) [Decidable p],(decide p=false)=¬p)/\(∀p q:Prop,(¬(p\/q))=(¬p/\¬q))/\(∀p q:Prop,(¬(p/\q))=(p->¬q))/\(∀b:Bool,(¬b=true)=(b=false))/\(∀a b:Int,((a !=b)=true)=¬a=b)/\
  (∀a b:Int,((a==b)=true)=(a=b))/\(∀p:Prop,(¬¬p)=p):=
 ⟨fun a b=>by simp,fun a b=>by simp,fun b=>by simp,fun p _=>by simp,fun p _=>by simp,fun p q=>by simp,fun p q=>by simp,fun b=>by simp,fun a b=>by simp,fun a b=>by simp,fun p=>by simp⟩
def nl {A:Type}:(∀(a:A) (l:aA A),(a::l).length=l.length+1)/\([]:aA A).length=0:=⟨fun _ _=>rfl,rfl⟩
def nt:(∀[Decidable True],decide True=true)/\(∀(α:Type) [Decidable True] (a b:α),(if True then a else b)=a)/\∀(α β:Type) (a:α) (f:α->aB β),(some a).bind f=f a:=⟨cA3 _,fun _ _ _ _=>aZ3 ..,fun _ _ _ _=>rfl⟩
def nf:(∀a:Int,(a<a)=False)/\(∀[Decidable False],decide False=false)/\((false=true)=False)/\∀(α:Type) [Decidable False] (a b:α),(if False then a else b)=b:=⟨fun a=>by simp,cU3 _,by simp,fun _ _ _ _=>bI3 ..⟩
def dP {α β:Type} {Q:α->Prop} {x:aB β} {k:β->aB α} (h:Ok x fun _=>True) (hk:∀v,Ok (k v) Q):Ok (x.bind k) Q:=Ob h fun v _=>hk v
def lpT {A S E β:Type} {l:aA A} {body:S->aB (S⊕E)} {s0:S} {k:E->aB β} {Q:β->Prop} (a:S->Int) (hl:l.length<9223372036854775808) (h0:a s0=0)
  (h:∀(i:Nat) (x:A) (s:S),x∈l->a s=(i:Int)->a s<(l.length:Int)->bM l (a s)=some x->bK (a s+1)=(i:Int)+1->Ok (body s) (fun r=>match r with|.inl s'=>a s'=(i:Int)+1|.inr _=>True))
  (b:∀s,a s=(l.length:Int)->Ok (body s) (fun r=>match r with|.inl _=>False|.inr _=>True)) (hk:∀e,Ok (k e) Q):Ok ((bC body bS s0).bind k) Q:=
 dP (cG (l:=l) a (fun _ _=>True) hl h0 trivial (fun i x s _ d hi c _ hg hw=>(h i x s d hi c hg hw).mono fun r hr=>by cases r with|inl s'=>exact⟨hr,trivial⟩|inr e=>trivial) (fun s hi _=>b s hi)) hk
def jN1 {s:ByteArray} {n:Nat} (h:s.size<=n):s.data.toList.length<=n:=by rw[dV3];exact h
def jO1 (n:Int): -9223372036854775808<=bK n/\bK n<=9223372036854775807:=by
 have e:bK n=if n%18446744073709551616>=9223372036854775808 then n%18446744073709551616-18446744073709551616 else n%18446744073709551616:=by
  unfold bK IntKind.wrap;rw[show((2:Int)^IntKind.bits .i64)=18446744073709551616 from rfl,show((2:Int)^(IntKind.bits .i64-1))=9223372036854775808 from rfl];simp[IntKind.signed]
 rw[e];split<;>omega
def kO {S E:Type} {body:S->aB (S⊕E)} {Q:E->Prop} {s0:S} (d:S->Int) (N:Int) (I:S->Prop) (g:N<=9223372036854775807) (h0: -1000<=d s0) (f:I s0)
  (h:∀s,I s->d s0<=d s->(d s<N->bK (d s+1)=d s+1)->Ok (body s) (fun r=>match r with|.inl s'=>d s<N/\d s'=d s+1/\I s'|.inr e=>Q e)):Ok (bC body bS s0) Q:=by
 refine gY (fun s=>I s/\d s0<=d s) (fun s=>(N-d s).toNat) (fun s hs=>?_) bS s0 ⟨f,cV3 _⟩ (by simp only[bS];omega);refine(h s hs.1 hs.2 (fun hc=>bU (by omega) (by omega))).mono fun r hr=>?_;cases r with
 |inl s'=>obtain⟨a,b,c⟩:=hr;exact⟨⟨c,by omega⟩,by omega⟩
 |inr e=>exact hr
def Qy {w:Bool} {id:YZ} {l:aA YV} {s:Y0} {r:Int} (h:l.length<1000000):Ok (iV w id l s r) (fun v=>(w=true->v.length=l.length+1)/\(w=false->v.length=l.length)):=by
 unfold iV;refine Ob (P:=fun v=>(w=true->v.length=l.length+1)/\(w=false->v.length=l.length)) (Oi (fun h=>Ob (eP (Q:=fun v=>v.length=l.length+1) (by omega) (by simp)) fun v hv=>.mk ⟨fun _=>hv,fun h2=>by rw[h]at h2;cases h2⟩) (fun h=>.mk ⟨fun h2=>absurd h2 h,fun _=>rfl⟩)) fun v hv=>.mk hv
def gX2 (n:Int):0<=IntKind.wrap .u8 n/\IntKind.wrap .u8 n<256:=by
 unfold IntKind.wrap;rw[show((2:Int)^IntKind.bits .u8)=256 from rfl];simp[IntKind.signed];omega
def gY2 {l:aA YV} {s:Y0} {r:Int} (hs:s.sm) (h0:s.aD.length=0) (h:l.length<900000):Ok (Qs l s r) (fun v=>0<v.length):=by
 unfold Qs dT;have hp:=hs.bG;refine Ob (P:=fun v=>v.length<=l.length+4) (cG (l:=s.bG) (fun q=>q.1) (fun i q=>q.2.length<=l.length+i) (by omega) rfl (by simp) (fun i x q k f hi e d hg hw=>?_) (fun q hi d=>?_)) fun v1 h1=>?_;obtain⟨x1,j⟩:=q;have g:=hs.jK x f;have hn:=g.Br;simp only at hi e d hg hw;simp only[e,cA3,aZ3,hg,zX2,yE1,rL2];refine Ob (gW2 (by omega)) fun a _=>?_;refine Ob (P:=fun _=>True) (by split<;>exact .mk trivial) fun b _=>?_;refine Ob (P:=fun _=>True) (by split<;>exact .mk trivial) fun c _=>?_;refine Ob (rK2 (by omega)) fun v hv=>.mk ⟨hw,by dsimp only;omega⟩;obtain⟨x1,j⟩:=q;simp only at hi d;simp only[hi,Int.lt_irrefl,cU3,aK3,bI3];exact .mk (by omega);refine Ob (P:=fun v=>v.length<=l.length+4) (cG (l:=s.aD) (fun q=>q.1) (fun i q=>q.2.length<=l.length+4) (by omega) rfl h1 (fun i x q k f hi e d hg hw=>by omega) (fun q hi d=>?_)) fun v1 h1=>?_;obtain⟨x1,j⟩:=q;simp only at hi d;simp only[hi,Int.lt_irrefl,cU3,aK3,bI3];exact .mk d;have m:=hs.qW;refine Ob (gW2 (by omega)) fun a _=>?_;simp only[yE1,zX2];refine Ob (P:=fun _=>True) (by split<;>exact .mk trivial) fun b _=>?_;refine Ob (P:=fun r=>r=true) (Oi (fun _=>.mk rfl) (fun _=>.mk (by simp[h0]))) fun c hc=>?_;subst hc;simp only[Bool.true_or];refine Ob (Qy (by omega)) fun v hv=>.mk (by have:=hv.1 rfl;omega)
def YU.ok (n:Int) (t:YU):Prop:=1<=t.jC/\t.jC<=n/\0<=t.fW/\t.fW+t.jC<=n/\1<=t.iN/\t.iN<=32/\1<=t.jL/\t.jL<=32
def Y0.pl (s:Y0) (m c v:Int):Prop:=∃x y z,bM s.aD m=some x/\bM x.aQ c=some y/\bM y.aM v=some z
def og {A α V:Type} (l:aA A) (v:aA V) (K k:Nat) {body:Int×aA V->aB ((Int×aA V)⊕aA V)} {m:aA V->aB α} {Q:α->Prop} (hl:l.length<9223372036854775808)
  (h:∀(i:Nat) (x:A) (s:Int×aA V),l[i]? =some x->x∈l->s.1=(i:Int)->s.1<(l.length:Int)->(v.length<=s.2.length/\s.2.length<=v.length+i*k)->bM l s.1=some x->bK (s.1+1)=(i:Int)+1->Ok (body s) (fun r=>match r with|.inl s'=>s'.1=(i:Int)+1/\v.length<=s'.2.length/\s'.2.length<=v.length+(i+1)*k|.inr e=>v.length<=e.length/\e.length<=v.length+K))
  (j:∀s,s.1=(l.length:Int)->(v.length<=s.2.length/\s.2.length<=v.length+l.length*k)->Ok (body s) (fun r=>match r with|.inl _=>False|.inr e=>v.length<=e.length/\e.length<=v.length+K))
  (hk:∀r,(v.length<=r.length/\r.length<=v.length+K)->Ok (m r) Q):Ok ((bC body bS (0,v)).bind m) Q:=
 Ob (P:=fun r=>v.length<=r.length/\r.length<=v.length+K) (cG (l:=l) (fun q=>q.1) (fun i q=>v.length<=q.2.length/\q.2.length<=v.length+i*k) hl rfl ⟨aC3 _,by dsimp only;omega⟩ (fun i x s a b c d e f g=>(h i x s a b c d e f g).mono fun r hr=>by cases r<;>exact hr) (fun s a b=>(j s a b).mono fun r hr=>by cases r<;>exact hr)) hk
def vB {A S E β:Type} {l:aA A} {body:S->aB (S⊕E)} {s0:S} {k:E->aB β} {Q:β->Prop} (a:S->Int)
  (h:∀(i:Nat) (x:A) (s:S),x∈l->a s=(i:Int)->a s<(l.length:Int)->bM l (a s)=some x->bK (a s+1)=(i:Int)+1->Ok (body s) (fun r=>match r with|.inl s'=>a s'=(i:Int)+1|.inr _=>True))
  (hk:∀e,Ok (k e) Q) (hl:l.length<9223372036854775808:=by omega) (h0:a s0=0:=by rfl)
  (b:∀s,a s=(l.length:Int)->Ok (body s) (fun r=>match r with|.inl _=>False|.inr _=>True):=by intro q h;first|(simp only[h,nf];exact .mk trivial)|(obtain⟨_,_⟩:=q;dsimp only at h;simp only[h,nf];exact .mk trivial)|(obtain⟨_,_,_⟩:=q;dsimp only at h;simp only[h,nf];exact .mk trivial)|(obtain⟨_,_,_,_⟩:=q;dsimp only at h;simp only[h,nf];exact .mk trivial)):Ok ((bC body bS s0).bind k) Q:=lpT (l:=l) a hl h0 h b hk
def oh {A α V:Type} (l:aA A) (v:aA V) (K k:Nat) {body:Int×aA V->aB ((Int×aA V)⊕aA V)} {b:aA V->aB α} {Q:α->Prop}
  (h:∀(i:Nat) (x:A) (s:Int×aA V),l[i]? =some x->x∈l->s.1=(i:Int)->s.1<(l.length:Int)->(v.length<=s.2.length/\s.2.length<=v.length+i*k)->bM l s.1=some x->bK (s.1+1)=(i:Int)+1->Ok (body s) (fun r=>match r with|.inl s'=>s'.1=(i:Int)+1/\v.length<=s'.2.length/\s'.2.length<=v.length+(i+1)*k|.inr e=>v.length<=e.length/\e.length<=v.length+K))
  (hk:∀r,(v.length<=r.length/\r.length<=v.length+K)->Ok (b r) Q) (hl:l.length<9223372036854775808:=by omega)
  (a:∀s,s.1=(l.length:Int)->(v.length<=s.2.length/\s.2.length<=v.length+l.length*k)->Ok (body s) (fun r=>match r with|.inl _=>False|.inr e=>v.length<=e.length/\e.length<=v.length+K):=by intro q h c;obtain⟨_,_⟩:=q;dsimp only at h c;simp only[h,nf];exact .mk (by dsimp only;omega)):Ok ((bC body bS (0,v)).bind b) Q:=og l v K k hl h a hk
def pP {A S E:Type} {l:aA A} {body:S->aB (S⊕E)} {Q:E->Prop} {s0:S} (a:S->Int) (I:Nat->S->Prop)
  (h:∀(i:Nat) (x:A) (s:S),l[i]? =some x->x∈l->a s=(i:Int)->a s<(l.length:Int)->I i s->bM l (a s)=some x->bK (a s+1)=(i:Int)+1->Ok (body s) (fun r=>match r with|.inl s'=>a s'=(i:Int)+1/\I (i+1) s'|.inr e=>Q e)) (hl:l.length<9223372036854775808:=by omega) (h0:a s0=0:=by rfl) (b:I 0 s0:=by dsimp only;omega)
  (c:∀s,a s=(l.length:Int)->I l.length s->Ok (body s) (fun r=>match r with|.inl _=>False|.inr e=>Q e):=by intro q h b;first|(obtain⟨_,_⟩:=q;dsimp only at h b;simp only[h,nf];exact .mk (by dsimp only;omega))|(obtain⟨_,_,_⟩:=q;dsimp only at h b;simp only[h,nf];exact .mk (by dsimp only;omega))|(obtain⟨_,_,_,_⟩:=q;dsimp only at h b;simp only[h,nf];exact .mk (by dsimp only;omega))):Ok (bC body bS s0) Q:=cG (l:=l) a I hl h0 b h c
def oN {α:Type} {c:Bool} {y:aB Bool} {k:Bool->aB α} {Q:α->Prop} (h:¬c=true->Ok y fun _=>True) (hk:∀r,(¬r=true->¬c=true)->Ok (k r) Q):Ok ((if c=true then some true else y).bind k) Q:=by
 cases c with
 |true=>exact hk true (fun h=>absurd rfl h)
 |false=>exact Ob (h (by simp)) fun r _=>hk r (fun _=>by simp)
def oM {α:Type} {c:Bool} {y:aB Bool} {k:Bool->aB α} {Q:α->Prop} (h:c=true->Ok y fun _=>True) (hk:∀r,(r=true->c=true)->Ok (k r) Q):Ok ((if c=true then y else some false).bind k) Q:=by
 cases c with
 |true=>exact Ob (h rfl) fun r _=>hk r (fun _=>rfl)
 |false=>exact hk false (fun h=>by cases h)
abbrev fA {α:Type} (x:aB α):Prop:=Ok x fun _=>True
end Go.P
set_option maxHeartbeats 1000000
namespace Go.P
def U34 {v:YO} (hv:v.b):Ok (F53 v) (fun _=>True):=by
 unfold F53;refine Ob (P:=fun _=>True) (cG (l:=v.aT) (fun q=>q.2) (fun _ _=>True) hv.aT rfl trivial (fun i e q c a hi hl _ hg hw=>?_) (fun q hi _=>?_)) fun v _=>.mk trivial;obtain⟨n,k⟩:=q;dsimp only at hi hl hg hw;simp only[hl,hg,cA3,aZ3,zX2];refine Ob (P:=fun _=>True) (cG (l:=e.dA) (fun q=>q.2) (fun _ _=>True) (hv.fR e a).dA rfl trivial (fun i e q c a hi hl _ hg hw=>?_) (fun q hi _=>?_)) fun x _=>.mk ⟨hw,trivial⟩;obtain⟨n,k⟩:=q;dsimp only at hi hl hg hw;simp only[hl,hg,cA3,aZ3,zX2];exact .mk ⟨hw,trivial⟩;obtain⟨n,k⟩:=q;dsimp only at hi;simp only[hi,Int.lt_irrefl,cU3,aK3,bI3];exact .mk trivial;obtain⟨n,k⟩:=q;dsimp only at hi;simp only[hi,Int.lt_irrefl,cU3,aK3,bI3];exact .mk trivial
def U13 {s:Y0} (hb:s.b):Ok (F18 s) (fun r=>r=true->s.sm):=by
 unfold F18 dT;refine Ob (P:=fun r=>match r with|.inl _=>True|.inr _=>∀p∈s.bG,p.sm) (qU (l:=s.bG) (fun p=>p.sm) hb.bG (fun i p h0 h1 d hg hw=>?_) (fun i hi t=>?_)) fun r hr=>?_;simp only[h1,hg,hw,cA3,aZ3,zX2];refine Ob (P:=fun b=>b=true\/p.sm) (Oi (fun _=>.mk (.inl rfl)) (fun hc=>.mk ?_)) fun b hb=>?_;simp only[aH3]at hc;by_cases h:(p.Br.size:Int)>300
 grind
 exact .inr ⟨by omega,by omega⟩;exact Oi (fun _=>.mk trivial) (fun hc=>.mk ⟨rfl,hb.resolve_left hc⟩);simp only[hi,Int.lt_irrefl,cU3,aK3,bI3];exact .mk t;rcases r with _|_;exact .mk (fun h=>by cases h);refine Ob (P:=fun r=>match r with|.inl _=>True|.inr _=>∀m∈s.aD,m.sm) (cG (l:=s.aD) (fun q=>q.2.2) (fun i q=>∀m∈s.aD.take i,m.sm) hb.aD rfl (fun m o=>by simp at o) (fun i m q d o hi hl g hg hw=>?_) (fun q hi g=>?_)) fun r B=>?_;obtain⟨ev,by',k⟩:=q;have F:=hb.cP m o;dsimp only at hi hl hg hw;simp only[hl,hg,cA3,aZ3,zX2];refine Oi (fun _=>.mk trivial) (fun hc=>?_);simp only[aQ3,aH3,cZ3]at hc;refine Ob (P:=fun r=>match r with|.inl _=>True|.inr _=>∀c∈m.aQ,c.sm) (cG (l:=m.aQ) (fun q=>q.2.2) (fun i q=>∀c∈m.aQ.take i,c.sm) F.aQ rfl (fun m o=>by simp at o) (fun i c q C z hi hl y hg u=>?_) (fun q hi g=>?_)) fun r hr=>?_;obtain⟨ev,by',k⟩:=q;have E:=F.gU c z;dsimp only at hi hl hg u;simp only[hl,hg,cA3,aZ3,zX2];refine Ob (P:=fun b=>b=true\/(c.nC.length<=5/\c.aM.length<=3)) (Oi (fun _=>.mk (.inl rfl)) (fun hc=>.mk ?_)) fun b hb=>?_
 grind
 refine Oi (fun _=>.mk trivial) (fun j=>?_);have j:=hb.resolve_left j;refine Ob (P:=fun r=>match r with|.inl _=>True|.inr _=>∀v∈c.aM,v.sm) (cG (l:=c.aM) (fun q=>q.2.2) (fun i q=>∀v∈c.aM.take i,v.sm) E.aM rfl (fun m o=>by simp at o) (fun i v q D A hi hl g hg w=>?_) (fun q hi g=>?_)) fun r hr=>?_;obtain⟨ev,by',k⟩:=q;have bv:=E.fK v A;dsimp only at hi hl hg w;simp only[hl,hg,cA3,aZ3,zX2];refine Ob (U33 bv) fun f hf=>?_;refine Oi (fun _=>.mk trivial) (fun G=>?_);refine Ob (U34 bv) fun n _=>?_;refine Oi (fun _=>.mk trivial) (fun _=>.mk ⟨w,fun x d=>?_⟩);rw[List.take_add_one,D]at d;rcases cD3.1 d with d|d;exact g x d
 grind
 obtain⟨ev,by',k⟩:=q;dsimp only at hi;simp only[hi,Int.lt_irrefl,cU3,aK3,bI3];rw[bU3]at g;exact .mk g;rcases r with⟨a,b⟩|⟨a,b⟩
 exact .mk trivial;refine .mk ⟨u,fun x d=>?_⟩;rw[List.take_add_one,C]at d;rcases cD3.1 d with d|d;exact y x d;simp at d;subst d;exact⟨j.1,j.2,hr⟩;obtain⟨ev,by',k⟩:=q;dsimp only at hi;simp only[hi,Int.lt_irrefl,cU3,aK3,bI3];rw[bU3]at g;exact .mk g;rcases r with⟨a,b⟩|⟨a,b⟩
 exact .mk trivial;refine .mk ⟨hw,fun x e=>?_⟩;rw[List.take_add_one,d]at e;rcases cD3.1 e with e|e;exact g x e;simp at e;subst e;exact⟨by omega,by omega,by omega,hr⟩;obtain⟨ev,by',k⟩:=q;dsimp only at hi;simp only[hi,Int.lt_irrefl,cU3,aK3,bI3];rw[bU3]at g;exact .mk g;rcases r with _|_;exact .mk (fun h=>by cases h);refine .mk (fun h=>?_);simp only[aA3,aH3]at h;exact⟨by omega,by omega,hr,by omega,B,by omega,by omega⟩
end Go.P
set_option maxHeartbeats 2000000
namespace Go.P
def rN2 {x1:Int}:fA (gL1 x1):=by
 unfold gL1;exact bY
def rO2 {x1:aA UInt8} (a:x1.length<=300):fA (nG1 x1):=by
 unfold nG1 dT;have e:=a;refine vB (l:=x1) (fun q=>q) (fun j i k g f c b d=>?_) fun h=>?_;simp only[c,b,nt];refine dP (rN2) fun m=>?_;refine oJ (fun _=>?_);exact .mk d;rcases h with n|_;exact bY;exact bY
def rP2 {x1:aA UInt8} (a:x1.length<=300):fA (aM1 x1):=by
 unfold aM1;refine dP (rO2 a) fun x2=>?_;exact bY
def aZ1 {x1:ByteArray} (a:x1.size<=300):fA (Qr x1):=by
 unfold Qr;refine oM (fun _=>?_) fun c b=>?_;refine dP (rP2 (jN1 a)) fun x2=>?_;exact bY;exact bY
def tV {x1 x2 a:Int}:fA (pE x1 x2 a):=by
 unfold pE;exact bY
def yF1 {x1:YL}:fA (Hl x1):=by
 unfold Hl;refine oJ (fun _=>?_);exact bY
def kR {x1:Bool} {x2:YZ} {a:aA YV} {b:Y0} {e:Int} (c:a.length+1<=1000000) (d:b.sm):Ok (iV x1 x2 a b e) (fun v=>a.length<=v.length/\v.length<=a.length+1):=by
 exact(Qy (by omega)).mono fun v h=>by cases x1<;>simp at h<;>omega
def gZ2 {x1:aA YV} {x2:Y0} {x3:Int} (S:x1.length+17<=1000000) (a:x2.sm):Ok (Qs x1 x2 x3) (fun v=>x1.length<=v.length/\v.length<=x1.length+17):=by
 unfold Qs dT;have J:=a.bG;refine oh x2.bG x1 4 1 (fun Y P q30 N x s f p d j=>?_) fun H z19=>?_;obtain⟨x11,b7⟩:=q30;dsimp only at s f d j p;simp only[f,d,nt];have G:=a.jK _ x;refine dP (aZ1 G.Br) fun b8=>?_;refine oN (fun _=>?_) fun d0 E=>?_;refine dP (tV) fun b9=>?_;exact bY;refine oN (fun c38=>?_) fun d3 T=>?_;have b4:=E c38;refine dP (yF1) fun d2=>?_;exact bY;refine Ob (kR (by first|omega|(simp only[aN3]at *;omega)) a) fun d4 U=>?_;exact .mk ⟨j,by dsimp only;omega⟩;have K:=a.aD;refine oh x2.aD H 12 1 (fun Z C q53 O y t g r b k=>?_) fun e6 f4=>?_;obtain⟨d5,d6⟩:=q53;dsimp only at t g b k r;simp only[g,b,nt];have o:=a.cP _ y;refine dP (aZ1 o.jQ) fun d7=>?_;have L:=o.aQ;refine vB (l:=C.aQ) (fun q=>q.2) (fun a0 D q67 z u h c m=>?_) fun e4=>?_;obtain⟨d8,d9⟩:=q67;dsimp only at u h c m;simp only[h,b,c,nt];have B:=o.gU _ z;have M:=B.aM;refine vB (l:=D.aM) (fun q=>q.2) (fun b0 R q80 A w i e n=>?_) fun e3=>?_;obtain⟨e0,e1⟩:=q80;dsimp only at w i e n;simp only[i,b,c,e,nt];have b6:=B.fK _ A;exact .mk n;exact .mk m;refine Ob (kR (by first|omega|(simp only[aN3]at *;omega)) a) fun e5 V=>?_;exact .mk ⟨k,by dsimp only;omega⟩;refine dP (aZ1 a.qW) fun e7=>?_;refine oN (fun _=>?_) fun e9 F=>?_;refine dP (tV) fun e8=>?_;exact bY;refine oN (fun c89=>?_) fun f1 W=>?_;have b5:=F c89;refine dP (tV) fun f0=>?_;exact bY;refine Ob (kR (by first|omega|(simp only[aN3]at *;omega)) a) fun f2 X=>?_;exact .mk (by omega)
def rQ2 {x1:Y0} (a:x1.sm):fA (nH1 x1):=by
 unfold nH1;exact bY
def rK1 {x1 x2:Int} {g h:Int} {i j k:Int} {b:YJ} {a:aA YZ} (c:b.sm) (e:a.length+1<=1000000):Ok (Cm x1 x2 g h i j k b a) (fun v=>v.length<=a.length+1):=by
 unfold Cm;refine Ob (eP (Q:=fun v=>v.length=a.length+1) (by omega) (by simp)) fun f d=>?_;exact .mk (by omega)
def bA1 {x1 x2:Int} {e f:Int} {g h i:Int} {j:YF} {a:aA YZ} (c:a.length+1<=1000000):Ok (uM x1 x2 e f g h i j a) (fun v=>v.length<=a.length+1):=by
 unfold uM;refine Ob (eP (Q:=fun v=>v.length=a.length+1) (by omega) (by simp)) fun d b=>?_;exact .mk (by omega)
def bB1 {x1 x2:Int} {g h:Int} {i j k:Int} {b:YM} {a:aA YZ} (c:b.sm) (e:a.length+1<=1000000):Ok (uN x1 x2 g h i j k b a) (fun v=>v.length<=a.length+1):=by
 unfold uN;refine Ob (eP (Q:=fun v=>v.length=a.length+1) (by omega) (by simp)) fun f d=>?_;exact .mk (by omega)
def bC1 {x1 x2:Int} {g h:Int} {i j k:Int} {b:YE} {a:aA YZ} (c:b.sm) (e:a.length+1<=1000000):Ok (uO x1 x2 g h i j k b a) (fun v=>v.length<=a.length+1):=by
 unfold uO;refine Ob (eP (Q:=fun v=>v.length=a.length+1) (by omega) (by simp)) fun f d=>?_;exact .mk (by omega)
def bD1 {x1 x2:Int} {e f:Int} {g h i:Int} {j:YN} {a:aA YZ} (c:a.length+1<=1000000):Ok (uP x1 x2 e f g h i j a) (fun v=>v.length<=a.length+1):=by
 unfold uP;refine Ob (eP (Q:=fun v=>v.length=a.length+1) (by omega) (by simp)) fun d b=>?_;exact .mk (by omega)
def rR2 {x1:Y0} {x2:aA YZ} (e:x1.sm) (j2:x2.length+3646<=1000000):Ok (nI1 x1 x2) (fun v=>v.length<=x2.length+3646):=by
 unfold nI1 dT;have d8:=e.bG;refine Ob (P:=fun r=>r.length<=x2.length+24) (pP (l:=x1.bG) (fun q=>q.2.1) (fun i q=>q.2.2.length<=x2.length+i*6) (fun j3 b7 q109 e6 a0 T j K c t=>?_)) fun d4 k3=>?_;obtain⟨j4,j5,j6⟩:=q109;dsimp only at T j c t K;simp only[j,c,nt];have C:=e.jK _ a0;refine Ob (rK1 C (by first|omega|(simp only[aN3]at *;omega))) fun d3 f7=>?_;have d9:=C.bN;refine Ob (P:=fun r=>r.2.length<=d3.length+5) (pP (l:=b7.bN) (fun q=>q.2.1) (fun i q=>q.2.2.length<=d3.length+i*1) (fun g4 f4 q125 e7 d6 U k L f u=>?_)) fun⟨k1,k2⟩ d5=>?_;obtain⟨j7,j8,j9⟩:=q125;dsimp only at U k f u L;simp only[k,c,f,nt];refine Ob (bA1 (by first|omega|(simp only[aN3]at *;omega))) fun k0 f8=>?_;exact .mk ⟨u,by dsimp only;omega⟩
 try dsimp only at d5
 exact .mk ⟨t,by dsimp only;omega⟩;have e0:=e.aD;refine Ob (P:=fun r=>r.length<=d4.length+3612) (pP (l:=x1.aD) (fun q=>q.1) (fun i q=>q.2.length<=d4.length+i*301) (fun g5 b8 q140 e8 b0 V m M a w=>?_)) fun J i5=>?_;obtain⟨h0,h2⟩:=q140;dsimp only at V m a w M;simp only[m,a,nt];have B:=e.cP _ b0;refine Ob (bB1 B (by first|omega|(simp only[aN3]at *;omega))) fun F f9=>?_;have e1:=B.aQ;refine Ob (P:=fun r=>r.length<=F.length+300) (pP (l:=b8.aQ) (fun q=>q.1) (fun i q=>q.2.length<=F.length+i*60) (fun g6 b9 q156 e9 b4 W n N b x=>?_)) fun i0 i6=>?_;obtain⟨h3,G⟩:=q156;dsimp only at W n b x N;simp only[n,a,b,nt];have D:=B.gU _ b4;have e3:=D.aM;refine Ob (P:=fun r=>r.length<=G.length+60) (pP (l:=b9.aM) (fun q=>q.1) (fun i q=>q.2.length<=G.length+i*20) (fun g7 d0 q171 f0 b5 X o O d y=>?_)) fun h9 i7=>?_;obtain⟨h4,H⟩:=q171;dsimp only at X o d y O;simp only[o,a,b,d,nt];have E:=D.fK _ b5;have e4:=E.aT;refine Ob (P:=fun r=>r.length<=H.length+20) (pP (l:=d0.aT) (fun q=>q.1) (fun i q=>q.2.length<=H.length+i*1) (fun g8 f5 q187 f1 b6 Y p R g z=>?_)) fun h8 i9=>?_;obtain⟨h5,h6⟩:=q187;dsimp only at Y p g z R;simp only[p,a,b,d,g,nt];have d2:=E.fR _ b6;refine Ob (bC1 d2 (by first|omega|(simp only[aN3]at *;omega))) fun h7 g1=>?_;exact .mk ⟨z,by dsimp only;omega⟩;exact .mk ⟨y,by dsimp only;omega⟩;exact .mk ⟨x,by dsimp only;omega⟩;exact .mk ⟨w,by dsimp only;omega⟩;have e5:=e.cJ;refine Ob (P:=fun r=>r.length<=J.length+10) (pP (l:=x1.cJ) (fun q=>q.1) (fun i q=>q.2.length<=J.length+i*1) (fun g9 f6 q205 f2 d7 Z s S h A=>?_)) fun i4 j0=>?_;obtain⟨i1,i2⟩:=q205;dsimp only at Z s h A S;simp only[s,h,nt];refine Ob (bD1 (by first|omega|(simp only[aN3]at *;omega))) fun i3 g3=>?_;exact .mk ⟨A,by dsimp only;omega⟩;exact .mk (by omega)
def rS2 {x1:Y0} (a:x1.sm):Ok (nJ1 x1) (fun v=>v.length<=4000):=by
 unfold nJ1;refine dP (rQ2 a) fun _=>?_;refine Ob (rR2 a (by first|omega|(simp only[aN3]at *;omega))) fun x2 b=>?_;exact .mk (by simp only[aN3]at *;omega)
def hA2 {x1:YZ}:fA (gP1 x1):=by
 unfold gP1;refine dP (tV) fun x2=>?_;refine oM (fun _=>?_) fun c a=>?_;refine dP (tV) fun b=>?_;exact bY;exact bY
def T7 {x1:Y0} {x2:Int} (d:x1.sm):fA (F7 x1 x2):=by
 unfold F7 dT;have g:=d.nX;refine vB (l:=x1.nX) (fun q=>q) (fun i h k f e b a c=>?_) fun j=>?_;simp only[b,a,nt];refine oJ (fun _=>?_);exact .mk c;rcases j with m|_;exact bY;exact bY
def hB2 {x1:aA YV} {x2:Y0} {x3:Int} (M:x1.length+4001<=1000000) (a:x2.sm):Ok (gQ1 x1 x2 x3) (fun v=>x1.length<=v.length/\v.length<=x1.length+4001):=by
 unfold gQ1 dT;refine Ob (rS2 a) fun x4 n=>?_;have w:=n;refine Ob (P:=fun r=>x1.length<=r.2.length/\r.2.length<=x1.length+4000) (pP (l:=x4) (fun q=>q.1) (fun i q=>x1.length<=q.2.2.length/\q.2.2.length<=x1.length+i*1) (fun J B q238 A s k d j b f=>?_)) fun⟨V,W⟩ p=>?_;obtain⟨N,x11,O⟩:=q238;dsimp only at k d b f j;simp only[d,b,nt];refine dP (hA2) fun R=>?_;refine oN (fun _=>?_) fun T D=>?_;refine dP (T7 a) fun S=>?_;exact bY;refine Ob (kR (by first|omega|(simp only[aN3]at *;omega)) a) fun U E=>?_;exact .mk ⟨f,by dsimp only;omega⟩
 try dsimp only at p
 have y:=a.nX;refine vB (l:=x2.nX) (fun q=>q.2) (fun K C q255 t m e c g=>?_) fun b6=>?_;obtain⟨X,Y⟩:=q255;dsimp only at m e c g;simp only[e,c,nt];refine oN (fun _=>?_) fun a0 o=>?_;refine dP (hA2) fun Z=>?_;exact bY;refine oN (fun c261=>?_) fun b5 F=>?_;have L:=o c261;refine oM (fun _=>?_) fun b4 G=>?_;have z:=a.nX;refine Ob (P:=fun x=>x∈x2.nX) (dJ (by(simp only[nm]at *;rw[bU (by omega) (by omega)];omega)) (by(simp only[nm]at *;rw[bU (by omega) (by omega)];omega)) (fun _ h _=>h)) fun b0 u=>?_;exact bY;exact bY;exact .mk g;refine Ob (kR (by first|omega|(simp only[aN3]at *;omega)) a) fun b7 H=>?_;exact .mk (by omega)
def T32 {x1:Y0} (a:x1.sm):Ok (F32 x1) (fun v=>v<=9223372036854775807):=by
 unfold F32 dT;have hp:=a.bG;refine Ob (P:=fun v=>v<=9223372036854775807) (cG (l:=x1.bG) (fun q=>q.2) (fun i q=>q.1<=9223372036854775807) (by omega) rfl (by decide) (fun i e q d c hi hl _ hg hw=>?_) (fun q hi b=>?_)) fun v hv=>.mk hv;obtain⟨n,x⟩:=q;dsimp only at hi hl hg hw;simp only[hl,hg,nt];exact .mk ⟨hw,(jO1 _).2⟩;obtain⟨n,x⟩:=q;dsimp only at hi b;simp only[hi,nf];exact .mk b
def rT2 {x1:Int} {x2:YM} {T:Int} (s:x2.sm):fA (aN1 x1 x2 T):=by
 unfold aN1 dT;have t:=s.aQ;refine vB (l:=x2.aQ) (fun q=>q.2) (fun A c q279 m j e b g=>?_) fun S=>?_;obtain⟨G,H⟩:=q279;dsimp only at j e b g;simp only[e,b,nt];have a:=s.gU _ m;refine oN (fun _=>?_) fun K r=>?_;have u:=a.aM;refine Ob (P:=fun x=>x∈c.aM) (dJ (by omega) (by(simp only[nm]at *;omega)) (fun _ h _=>h)) fun J n=>?_;have D:=a.fK _ n;exact bY;refine oN (fun c289=>?_) fun M z=>?_;have C:=r c289;have v:=a.aM;refine Ob (P:=fun x=>x∈c.aM) (dJ (by(simp only[nm]at *;rw[bU (by omega) (by omega)];omega)) (by(simp only[nm]at *;rw[bU (by omega) (by omega)];omega)) (fun _ h _=>h)) fun L o=>?_;have E:=a.fK _ o;exact bY;have w:=a.aM;refine vB (l:=c.aM) (fun q=>q.2) (fun B y q305 p k f d i=>?_) fun R=>?_;obtain⟨N,O⟩:=q305;dsimp only at k f d i;simp only[f,b,d,nt];have F:=a.fK _ p;exact .mk i;exact .mk g;exact bY
def hF2 {x1:Int} {x2:aA YV} {k:Y0} {s:Int} (p:x2.length+12<=1000000) (d:k.sm):Ok (Jq x1 x2 k s) (fun v=>x2.length<=v.length/\v.length<=x2.length+12):=by
 unfold Jq dT;have i:=d.aD;refine oh k.aD x2 12 1 (fun n l q319 j g f b e a c=>?_) fun r o=>?_;obtain⟨t,u⟩:=q319;dsimp only at f b a c e;simp only[b,a,nt];have h:=d.cP _ g;refine dP (rT2 h) fun x11=>?_;refine Ob (kR (by first|omega|(simp only[aN3]at *;omega)) d) fun q m=>?_;exact .mk ⟨c,by dsimp only;omega⟩;exact .mk (by omega)
def hG2 {x1:aA YV} {x2:Y0} {e:Int} (d:x1.length+12<=1000000) (a:x2.sm):Ok (aO1 x1 x2 e) (fun v=>x1.length<=v.length/\v.length<=x1.length+12):=by
 unfold aO1;refine Ob (T32 a) fun f b=>?_;refine Ob (hF2 (by first|omega|(simp only[aN3]at *;omega)) a) fun g c=>?_;exact .mk (by omega)
def rU2:fA (nL1):=by
 unfold nL1;exact bY
def rV2 {x1:Int}:fA (nM1 x1):=by
 unfold nM1;refine oJ (fun _=>?_);refine dP (rU2) fun x2=>?_;refine Ob (dJ (Q:=fun _=>True) (by(simp only[nm]at *;rw[bU (by omega) (by omega)];omega)) (by(simp only[nm,nl]at *;rw[bU (by omega) (by omega)];omega)) (fun _ _ _=>trivial)) fun b a=>?_;exact bY
def hH2 {x1:Int}:fA (gR1 x1):=by
 unfold gR1;refine dP (rV2) fun⟨x2,a⟩=>?_;exact bY
def rW2 {x1:YX}:fA (nN1 x1):=by
 unfold nN1;refine Oi (fun _=>bY) (fun _=>?_);refine Ob (P:=fun _=>True) (kO (fun q=>q.2.2) 6 (fun _=>True) (by decide) (by decide) trivial (fun q _ h1 h2=>?_)) fun r _=>?_;obtain⟨a,n,i⟩:=q;dsimp only at h1 h2 ⊢;refine Oi (fun hc=>?_) (fun _=>bY);simp only[aH3]at hc;refine Ob (dJ (Q:=fun _=>True) h1 hc (fun _ _ _=>trivial)) fun x _=>?_;refine Oi (fun _=>bY) (fun _=>?_);refine Ob (P:=fun _=>True) (Oi (fun _=>bY) (fun _=>bY)) fun v _=>.mk ⟨hc,h2 hc,trivial⟩;rcases r with⟨a,b⟩|⟨a,b⟩<;>exact bY
def rX2 {x1:YX}:Ok (nO1 x1) (fun v=>v=0->x1.Unit≠0):=by
 unfold nO1;refine Oi (fun c330=>.mk (by omega)) (fun c330=>?_);refine Oi (fun c331=>.mk (by omega)) (fun c331=>?_);refine dP (rW2) fun x2=>?_;refine Oi (fun c333=>.mk (by omega)) (fun c333=>?_);exact .mk (by(simp only[nm]at *;omega))
def rY2 {x1:YX} (b:x1.Unit≠0):fA (nP1 x1):=by
 unfold nP1;refine Ob (rZ (by omega)) fun x2 a=>?_;exact bY
def rZ2 {x1:YX} (a:x1.Unit≠0):fA (nQ1 x1):=by
 unfold nQ1;refine dP (rY2 (by omega)) fun x2=>?_;exact bY
def sA2 {x1:YX}:fA (nR1 x1):=by
 unfold nR1;refine Ob (rX2) fun x2 a=>?_;refine oJ (fun _=>?_);refine dP (rZ2 (by(simp only[nm]at *;omega))) fun b=>?_;exact bY
def bE1 {x1:YM} (b:x1.sm):fA (Lr x1):=by
 unfold Lr;refine dP (sA2) fun⟨x2,c⟩=>?_;refine oJ (fun _=>?_);refine oJ (fun _=>?_);refine dP ?_ fun d=>?_;refine oJ (fun _=>?_);exact bY;refine Ob (sA (by omega)) fun e a=>?_;refine oJ (fun _=>?_);refine oJ (fun _=>?_);exact bY
def sB2 {x1:Int} {x2:YM} (k:x2.sm):fA (nS1 x1 x2):=by
 unfold nS1 dT;refine dP (bE1 k) fun⟨V,W⟩=>?_;have u:=k.aQ;refine vB (l:=x2.aQ) (fun q=>q.2) (fun B g q358 o m c a e=>?_) fun U=>?_;obtain⟨F,G⟩:=q358;dsimp only at m c a e;simp only[c,a,nt];have j:=k.gU _ o;have v:=j.nC;refine vB (l:=g.nC) (fun q=>q.2) (fun C y q371 s n d b f=>?_) fun T=>?_;obtain⟨H,J⟩:=q371;dsimp only at n d b f;simp only[d,a,b,nt];refine oN (fun _=>?_) fun L i=>?_;refine dP (hH2) fun K=>?_;exact bY;refine oN (fun c377=>?_) fun N p=>?_;have D:=i c377;refine dP (tV) fun M=>?_;exact bY;refine oN (fun c381=>?_) fun S z=>?_;have r:=p c381;have E:=i r;refine oM (fun _=>?_) fun R A=>?_;have w:=j.nC;refine Ob (P:=fun x=>x∈g.nC) (dJ (by(simp only[nm]at *;rw[bU (by omega) (by omega)];omega)) (by(simp only[nm]at *;rw[bU (by omega) (by omega)];omega)) (fun _ h _=>h)) fun O t=>?_;exact bY;exact bY;exact .mk f;exact .mk e;exact bY
def rL1 {x1:aA YV} {x2:Y0} {r:Int} (o:x1.length+12<=1000000) (d:x2.sm):Ok (Cn x1 x2 r) (fun v=>x1.length<=v.length/\v.length<=x1.length+12):=by
 unfold Cn dT;have i:=d.aD;refine oh x2.aD x1 12 1 (fun m k q400 j g f b e a c=>?_) fun q n=>?_;obtain⟨s,t⟩:=q400;dsimp only at f b a c e;simp only[b,a,nt];have h:=d.cP _ g;refine dP (sB2 h) fun p=>?_;refine Ob (kR (by first|omega|(simp only[aN3]at *;omega)) d) fun x11 l=>?_;exact .mk ⟨c,by dsimp only;omega⟩;exact .mk (by omega)
def hJ2 {x1:aA YV} {x2:Y0} {M:Int} (C:x1.length+32<=1000000) (g:x2.sm):Ok (gT1 x1 x2 M) (fun v=>x1.length<=v.length/\v.length<=x1.length+32):=by
 unfold gT1 dT;have p:=g.bG;refine oh x2.bG x1 20 5 (fun y m q416 r l j c h a e=>?_) fun K A=>?_;obtain⟨D,t⟩:=q416;dsimp only at j c a e h;simp only[c,a,nt];have n:=g.jK _ l;have q:=n.bN;refine oh m.bN t 5 1 (fun z u q430 s o k d i b f=>?_) fun J B=>?_;obtain⟨E,F⟩:=q430;dsimp only at k d b f i;simp only[d,a,b,nt];refine dP (hH2) fun G=>?_;refine Ob (kR (by first|omega|(simp only[aN3]at *;omega)) g) fun H w=>?_;exact .mk ⟨f,by dsimp only;omega⟩;exact .mk ⟨e,by dsimp only;omega⟩;refine Ob (rL1 (by first|omega|(simp only[aN3]at *;omega)) g) fun L x=>?_;exact .mk (by omega)
def sC2 {x1:Int}:fA (nT1 x1):=by
 unfold nT1;refine oJ (fun _=>?_);exact bY
def sD2 {x1:Int} {x2:YL}:fA (nU1 x1 x2):=by
 unfold nU1;refine Ob sC2 fun c _=>?_;refine Oi (fun _=>bY) (fun _=>?_);refine Oi (fun _=>bY) (fun _=>?_);have hw:=jO1 (x1+(bK ((bK (7*x2.aZ))-(bK (12*x2.mJ)))));generalize bK (x1+(bK ((bK (7*x2.aZ))-(bK (12*x2.mJ)))))=x0 at hw ⊢;refine Ob (P:=fun v=> -9223372036854775808<=v/\v<=7) (gY (fun x=> -9223372036854775808<=x/\x<=9223372036854775807) (fun x=>(x+9223372036854775808).toNat) (fun x a=>?_) bS x0 hw (by simp only[bS];omega)) fun x1 h1=>?_;refine Oi (fun hc=>?_) (fun hc=>?_)<;>simp only[aH3]at hc;rw[bU (by omega) (by omega)];exact .mk ⟨by omega,by omega⟩;exact .mk (by omega);refine Ob (P:=fun v=>True) (gY (fun x=> -9223372036854775808<=x/\x<=7) (fun x=>(7-x).toNat) (fun x a=>?_) bS x1 h1 (by simp only[bS];omega)) fun x2 _=>bY;refine Oi (fun hc=>?_) (fun hc=>?_)<;>simp only[aH3]at hc;rw[bU (by omega) (by omega)];exact .mk ⟨by omega,by omega⟩;exact bY
def sE2 {x1:Int} {x2:YM} {i:YK} (g:x2.sm) (f:i.s'.sm):fA (nV1 x1 x2 i):=by
 unfold nV1 dT;refine dP (bE1 g) fun⟨v,w⟩=>?_;refine oN (fun _=>?_) fun y k=>?_;refine dP (tV) fun x=>?_;exact bY;have h:=f.bG;refine vB (l:=i.s'.bG) (fun q=>q.2) (fun m j q450 e d b a c=>?_) fun u=>?_;obtain⟨o,p⟩:=q450;dsimp only at d b a c;simp only[b,a,nt];have n:=f.jK _ e;refine dP ?_ fun t=>?_;refine Oi (fun c454=>?_) (fun c454=>?_);refine dP (sD2) fun⟨r,s⟩=>?_;exact bY;exact bY;exact .mk c;exact bY
def rM1 {x1:aA YV} {x2:Y0} {r:Int} (o:x1.length+12<=1000000) (d:x2.sm):Ok (Co x1 x2 r) (fun v=>x1.length<=v.length/\v.length<=x1.length+12):=by
 unfold Co dT;have i:=d.aD;refine oh x2.aD x1 12 1 (fun m k q467 j g f b e a c=>?_) fun q n=>?_;obtain⟨s,t⟩:=q467;dsimp only at f b a c e;simp only[b,a,nt];have h:=d.cP _ g;refine dP (sE2 h d) fun p=>?_;refine Ob (kR (by first|omega|(simp only[aN3]at *;omega)) d) fun x11 l=>?_;exact .mk ⟨c,by dsimp only;omega⟩;exact .mk (by omega)
def hO2 {x1:aA YV} {x2:Y0} {d:Int} (c:x1.length+12<=1000000) (a:x2.sm):Ok (gV1 x1 x2 d) (fun v=>x1.length<=v.length/\v.length<=x1.length+12):=by
 unfold gV1;refine Ob (rM1 (by first|omega|(simp only[aN3]at *;omega)) a) fun e b=>?_;exact .mk (by omega)
def Ah {x1 x2:Int}:fA (vA x1 x2):=by
 unfold vA;refine oJ (fun _=>?_);exact bY
def jP1 {x1:aA Int} (d:x1.length<=20):fA (Gt x1):=by
 unfold Gt dT;have g:=d;refine vB (l:=x1) (fun q=>q) (fun i h k f e b a c=>?_) fun j=>?_;simp only[b,a,nt];refine oJ (fun _=>?_);exact .mk c;rcases j with m|_;exact bY;exact bY
def hQ2 {x1:Int}:fA (gW1 x1):=by
 unfold gW1;exact bY
def sF2 {x1:Int}:fA (nW1 x1):=by
 unfold nW1;refine oJ (fun _=>?_);exact bY
def sG2 {x1:YE} (c:x1.sm):Ok (gX1 x1) (fun v=>v.sm):=by
 unfold gX1;refine oN (fun _=>?_) fun d a=>?_;refine dP (hQ2) fun x2=>?_;exact bY;refine Oi (fun c490=>?_) (fun c490=>?_);exact .mk (by first|assumption|exact⟨bL3 _,bL3 _,bL3 _,fun _ h=>nomatch h⟩);have b:=a c490;refine dP ?_ fun e=>?_;refine oJ (fun _=>?_);exact bY;refine dP ?_ fun g=>?_;refine Oi (fun c495=>?_) (fun c495=>?_);refine dP (sF2) fun f=>?_;exact bY;exact bY;exact .mk (by first|assumption|exact⟨bL3 _,bL3 _,bL3 _,fun _ h=>nomatch h⟩)
def sH2 {x1 x2:aA YB} (d:x1.length<=12) (e:x2.length<=12):fA (aP1 x1 x2):=by
 unfold aP1 dT;refine oJ (fun _=>?_);have j:=d;refine vB (l:=x1) (fun q=>q) (fun n m p g f b a c=>?_) fun o=>?_;simp only[b,a,nt];have k:=e;refine Ob (P:=fun x=>x∈x2) (dJ (by omega) (by(simp only[nm]at *;omega)) (fun _ h _=>h)) fun r i=>?_;refine oJ (fun _=>?_);exact .mk c;rcases o with _|_;exact bY;exact bY
def sI2 {x1 x2:aA YD} (d:x1.length<=12) (e:x2.length<=12):fA (nX1 x1 x2):=by
 unfold nX1 dT;refine oJ (fun _=>?_);have j:=d;refine vB (l:=x1) (fun q=>q) (fun n m p g f b a c=>?_) fun o=>?_;simp only[b,a,nt];have k:=e;refine Ob (P:=fun x=>x∈x2) (dJ (by omega) (by(simp only[nm]at *;omega)) (fun _ h _=>h)) fun r i=>?_;refine oJ (fun _=>?_);exact .mk c;rcases o with _|_;exact bY;exact bY
def sJ2 {x1 x2:aA YY} (i:x1.length<=12) (f:∀y∈x1,y.sm) (j:x2.length<=12) (g:∀y∈x2,y.sm):fA (nY1 x1 x2):=by
 unfold nY1 dT;refine oJ (fun _=>?_);have m:=i;refine vB (l:=x1) (fun q=>q) (fun p o u c k b a e=>?_) fun t=>?_;simp only[b,a,nt];have r:=f _ c;have n:=j;refine Ob (P:=fun x=>x∈x2) (dJ (by omega) (by(simp only[nm]at *;omega)) (fun _ h _=>h)) fun v d=>?_;have s:=g _ d;refine oJ (fun _=>?_);exact .mk e;rcases t with _|_;exact bY;exact bY
def sK2 {x1 x2:YE} (a:x1.sm) (b:x2.sm):fA (gY1 x1 x2):=by
 unfold gY1;refine oM (fun _=>?_) fun j c=>?_;refine dP (sH2 a.cA b.cA) fun i=>?_;exact bY;refine oM (fun c551=>?_) fun l d=>?_;have g:=c c551;refine dP (sI2 a.dX b.dX) fun k=>?_;exact bY;refine oM (fun c555=>?_) fun n f=>?_;have e:=d c555;have h:=c e;refine dP (sJ2 a.dA a.De b.dA b.De) fun m=>?_;exact bY;exact bY
def hR2 {x1:YA}:Ok (gZ1 x1) (fun v=>v=0-> -1<=x1.Log/\x1.Log<=8/\0<=x1.pC/\x1.pC<=3):=by
 unfold gZ1;refine Oi (fun c559=>.mk (by omega)) (fun c559=>?_);exact .mk (by(simp only[nm]at *;omega))
def sL2:fA (aQ1):=by
 unfold aQ1;exact bY
def yG1 {x1:YH} (b:0<=x1.nJ/\x1.nJ<=6):fA (hA1 x1):=by
 unfold hA1;refine dP (sL2) fun x2=>?_;refine Ob (dJ (Q:=fun _=>True) (by omega) (by(simp only[nm,nl]at *;omega)) (fun _ _ _=>trivial)) fun c a=>?_;exact bY
def rN1 {x1:YH}:Ok (nH x1) (fun v=>v=0->0<=x1.nJ/\x1.nJ<=6):=by
 unfold nH;refine Oi (fun c562=>.mk (by omega)) (fun c562=>?_);refine dP (yG1 (by(simp only[nm]at *;omega))) fun x2=>?_;refine Oi (fun c564=>.mk (by omega)) (fun c564=>?_);exact .mk (by(simp only[nm]at *;omega))
def T99 {x1:YH}:fA (Ms x1):=by
 unfold Ms;refine Ob (rN1) fun x2 a=>?_;refine oJ (fun _=>?_);refine dP (yG1 (by(simp only[nm]at *;omega))) fun b=>?_;exact bY
def rO1 {x1:YH}:fA (Qu x1):=by
 unfold Qu;refine dP (T99) fun⟨x2,a⟩=>?_;refine oJ (fun _=>?_);exact bY
def hS2 {x1:YB}:fA (Ud x1):=by
 unfold Ud;refine dP (rO1) fun⟨x2,a⟩=>?_;refine dP (Ah) fun b=>?_;refine dP (jP1 (by simp)) fun c=>?_;exact bY
def sM2 {x1:aA YB} (e:x1.length<=12):fA (aR1 x1):=by
 unfold aR1 dT;refine oJ (fun _=>?_);refine oJ (fun _=>?_);have g:=e;refine vB (l:=x1) (fun q=>q.2) (fun j i q585 f d b a c=>?_) fun h=>?_;obtain⟨n,o⟩:=q585;dsimp only at d b a c;simp only[b,a,nt];refine dP (hS2) fun p=>?_;refine oJ (fun _=>?_);refine dP (rO1) fun⟨k,x11⟩=>?_;refine oJ (fun _=>?_);exact .mk c;rcases h with m|_;exact bY;exact bY
def sN2 {x1:aA YD} (d:x1.length<=12):fA (nZ1 x1):=by
 unfold nZ1 dT;refine oJ (fun _=>?_);have g:=d;refine vB (l:=x1) (fun q=>q) (fun j i k f e b a c=>?_) fun h=>?_;simp only[b,a,nt];refine dP (rO1) fun⟨m,n⟩=>?_;refine oJ (fun _=>?_);refine oJ (fun _=>?_);exact .mk c;rcases h with o|_;exact bY;exact bY
def sO2 {x1:YY} (a:x1.sm):fA (oA1 x1):=by
 unfold oA1;refine Oi (fun _=>bY) (fun _=>?_);refine Oi (fun _=>bY) (fun _=>?_);have hs:=a.qB;refine Ob (P:=fun _=>True) (kO (fun q=>q) (x1.qB.size:Int) (fun _=>True) (by omega) (by decide) trivial (fun i _ h1 h2=>?_)) fun r _=>?_;refine Oi (fun hc=>?_) (fun _=>bY);simp only[aH3]at hc;refine Ob (Ag h1 hc) fun b _=>?_;refine Ob (P:=fun _=>True) (Oi (fun _=>bY) (fun _=>Ob (Ag h1 hc) fun b _=>bY)) fun b _=>?_;exact Oi (fun _=>bY) (fun _=>.mk ⟨hc,h2 hc,trivial⟩);rcases r with _|_;exact bY;exact Oi (fun _=>bY) (fun _=>bY)
def sP2 {x1:YY} (a:x1.sm):fA (oB1 x1):=by
 unfold oB1;exact bY
def sQ2 {x1:aA YY} (g:x1.length<=12) (a:∀y∈x1,y.sm):fA (oC1 x1):=by
 unfold oC1 dT;refine oJ (fun _=>?_);have n:=g;refine vB (l:=x1) (fun q=>q) (fun r p v d m c b f=>?_) fun u=>?_;simp only[c,b,nt];have j:=a _ d;refine dP (sO2 j) fun w=>?_;refine oJ (fun _=>?_);exact .mk f;rcases u with z|_;exact bY;refine oM (fun _=>?_) fun x11 i=>?_;have o:=g;refine Ob (P:=fun x=>x∈x1) (dJ (by(simp only[nm]at *;rw[bU (by omega) (by omega)];omega)) (by(simp only[nm]at *;rw[bU (by omega) (by omega)];omega)) (fun _ h _=>h)) fun A e=>?_;have k:=a _ e;refine dP (sP2 k) fun t=>?_;exact bY;refine Oi (fun c628=>?_) (fun c628=>?_);have s:=i c628;exact bY;exact bY
def bF1 {x1:YE} (a:x1.sm):fA (yK x1):=by
 unfold yK;refine dP (Ah) fun x2=>?_;refine dP (Ah) fun u=>?_;refine dP (jP1 (by simp)) fun v=>?_;refine oJ (fun _=>?_);refine dP (hQ2) fun w=>?_;refine oJ (fun _=>?_);refine Ob (sG2 a) fun x b=>?_;refine dP (sK2 a b) fun y=>?_;refine oJ (fun _=>?_);refine oM (fun _=>?_) fun A c=>?_;refine Ob (hR2) fun z d=>?_;exact bY;refine Oi (fun c642=>?_) (fun c642=>?_);have e:=c c642;exact bY;refine Oi (fun c644=>?_) (fun c644=>?_);refine dP (sM2 a.cA) fun f=>?_;refine dP (sN2 a.dX) fun x11=>?_;refine dP (sQ2 a.dA a.De) fun g=>?_;refine dP (jP1 (by simp)) fun h=>?_;refine oJ (fun _=>?_);refine dP (Ah) fun i=>?_;refine dP (Ah) fun j=>?_;refine dP (Ah) fun k=>?_;refine dP (Ah) fun l=>?_;refine dP (Ah) fun m=>?_;refine dP (jP1 (by simp)) fun n=>?_;exact bY;refine dP (Ah) fun o=>?_;refine dP (Ah) fun p=>?_;refine dP (Ah) fun q=>?_;refine dP (Ah) fun r=>?_;refine dP (Ah) fun s=>?_;refine dP (jP1 (by simp)) fun t=>?_;exact bY
def sR2 {x1:YE} (a:x1.sm):fA (oD1 x1):=by
 unfold oD1;refine dP (bF1 a) fun x2=>?_;exact bY
def sS2 {x1:aA YE} (g:x1.length<=20) (e:∀y∈x1,y.sm):fA (oE1 x1):=by
 unfold oE1 dT;have i:=g;refine vB (l:=x1) (fun q=>q) (fun k j n c h b a d=>?_) fun m=>?_;simp only[b,a,nt];have f:=e _ c;refine dP (sR2 f) fun o=>?_;refine oJ (fun _=>?_);exact .mk d;rcases m with p|_;exact bY;exact bY
def T94 {x1:aA YE} (b:x1.length<=20) (a:∀y∈x1,y.sm):fA (F94 x1):=by
 unfold F94;refine dP (sS2 b a) fun x2=>?_;exact bY
def sT2 {x1:YO} (b:x1.sm):fA (oF1 x1):=by
 unfold oF1;refine oM (fun _=>?_) fun f d=>?_;have c:=b.aT;refine Ob (P:=fun x=>x∈x1.aT) (dJ (by omega) (by(simp only[nm]at *;omega)) (fun _ h _=>h)) fun x2 a=>?_;have e:=b.fR _ a;exact bY;exact bY
def sU2 {x1:YA} (b: -1<=x1.Log/\x1.Log<=8/\0<=x1.pC/\x1.pC<=3):fA (oG1 x1):=by
 unfold oG1;refine Ob (yL (by rw[bU (by omega) (by omega)];omega)) fun n _=>?_;refine Ob (P:=fun _=>True) (kO (fun q=>q.2.2) x1.pC (fun _=>True) (by omega) (by dsimp only;omega) trivial (fun q _ h1 h2=>?_)) fun r _=>bY;obtain⟨a,n,i⟩:=q;dsimp only at h1 h2 ⊢;refine Oi (fun hc=>?_) (fun _=>bY);simp only[aH3]at hc;exact Ob (rZ (by decide)) fun x _=>.mk ⟨hc,h2 hc,trivial⟩
def sV2 {x1:YA}:fA (oH1 x1):=by
 unfold oH1;refine Ob (hR2) fun x2 a=>?_;refine oJ (fun _=>?_);refine dP (sU2 (by(simp only[nm]at *;omega))) fun b=>?_;exact bY
def sW2 {x1:YE} (a:x1.sm):fA (oI1 x1):=by
 unfold oI1;refine dP (bF1 a) fun x2=>?_;refine oJ (fun _=>?_);refine dP (sV2) fun⟨b,c⟩=>?_;exact bY
def sX2 {x1:aA YE} (g:x1.length<=20) (c:∀y∈x1,y.sm):Ok (oJ1 x1) (fun v=>v.length<=20):=by
 unfold oJ1 dT;refine Ob (tU (by omega) (by omega) (by omega)) fun n h2=>?_;refine Ob (P:=fun v=>v.length=x1.length) (cG (l:=x1) (fun q=>q.1) (fun _ q=>q.2.length=x1.length) (by omega) rfl (by rw[h2];simp) (fun i e q k f hi hl d hg hw=>?_) (fun q hi d=>?_)) fun v hv=>.mk (by omega);obtain⟨x,l⟩:=q;dsimp only at hi hl d hg hw;simp only[hl,hg,nt];refine Ob (sW2 (c e f)) fun⟨a,b⟩ _=>?_;refine Ob (mE (by omega) (by omega)) fun j h=>?_;refine Ob (Xr (by omega)) fun m f=>.mk ⟨hw,by dsimp only;omega⟩;obtain⟨x,l⟩:=q;dsimp only at hi d;simp only[hi,nf];exact .mk d
def hT2 {x1:Int}:Ok (hF1 x1) (fun v=>v=true->1<=x1/\x1<=32):=by
 unfold hF1;exact .mk (by(simp only[nm]at *;omega))
def sY2 {x1 x2:YU}:fA (oK1 x1 x2):=by
 unfold oK1;refine Oi (fun c690=>?_) (fun c690=>?_);refine oJ (fun _=>?_);exact bY;refine Oi (fun c692=>?_) (fun c692=>?_);refine oJ (fun _=>?_);exact bY;exact bY
def rP1 {x1:YU}:Ok (Ue x1) (fun v=>v=bK (x1.fW+x1.jC)):=by
 unfold Ue;exact .mk (by rfl)
def hU2 {x1:YU} {x2:aA YU} (f:x2.length<=6) (g:x2.length<=3):Ok (Xb x1 x2) (fun v=>v.2.length<=3):=by
 unfold Xb;refine Ob (P:=fun v=>v.length<=3) (gY (fun l=>l.length<=3) (fun l=>l.length) (fun l hl=>?_) bS x2 g (by simp only[bS];omega)) fun x c=>?_;refine Ob (P:=fun r=>r=true->0<l.length) (Oi (fun hc=>?_) (fun _=>.mk (fun h=>by cases h))) fun b hb=>?_;simp only[aH3]at hc;refine Ob (mE (by rw[bU (by omega) (by omega)];omega) (by rw[bU (by omega) (by omega)];omega)) fun j a=>?_;exact Ob (pO a.2) fun y _=>Ob rP1 fun e _=>.mk (fun _=>by omega);refine Oi (fun hc=>?_) (fun _=>.mk hl);have:=hb hc;refine Ob (aY1 this (by rw[bU (by omega) (by omega)];omega) (by rw[bU (by omega) (by omega)];omega)) fun m d=>?_;have:=d.1;rw[bU (by omega) (by omega)]at this;exact .mk ⟨by omega,by omega⟩;refine Ob (P:=fun r=>r=true\/x.length<3) (Oi (fun hc=>.mk (.inl rfl)) (fun hc=>?_)) fun b hb=>?_;have hc:x.length<3:=by simp only[cK3]at hc;omega
 refine Ob (P:=fun _=>True) (Oi (fun hd=>?_) (fun _=>bY)) fun b _=>.mk (.inr hc);simp only[aH3]at hd;refine Ob rP1 fun e _=>?_;refine Ob (mE (by rw[bU (by omega) (by omega)];omega) (by rw[bU (by omega) (by omega)];omega)) fun j a=>?_;exact Ob (pO a.2) fun y _=>Ob rP1 fun e _=>bY;refine Oi (fun _=>.mk c) (fun hc=>?_);have hb:x.length<3:=by rcases hb with h|h;exact absurd h hc;exact h
 refine Ob (eP (Q:=fun v=>v.length=x.length+1) (by omega) (by simp)) fun m d=>.mk (by dsimp only;omega)
def sZ2 {x1:aA YU} {x2:Int} (u:x1.length<=6):Ok (oL1 x1 x2) (fun v=>v=0->∀t∈x1,t.ok x2):=by
 unfold oL1 dT;refine Oi (fun _=>.mk (fun h=>by cases h)) (fun g=>?_);refine Oi (fun _=>.mk (fun h=>by cases h)) (fun _=>?_);simp only[aQ3,aH3,cZ3]at g;refine Ob (P:=fun r=>match r with|.inl p=>p.1≠0|.inr _=>∀t∈x1,t.ok x2) (cG (l:=x1) (fun q=>q.1) (fun i q=>q.2.length<=3/\∀j,j<i->∀t,x1[j]? =some t->t.ok x2) (by omega) rfl ⟨by decide,fun j f=>by omega⟩ (fun i e q w s hi hl c hg hw=>?_) (fun q hi c=>?_)) fun v hv=>?_;obtain⟨x,l⟩:=q;dsimp only at hi hl c hg hw;simp only[hl,hg,nt];refine Ob (P:=fun r=>r=false->(1<=e.jC/\e.jC<=x2/\0<=e.fW/\e.fW+e.jC<=x2/\1<=e.iN/\e.iN<=32)) (Oi (fun _=>.mk (fun h=>by cases h)) (fun hc=>?_)) fun b1 h1=>?_;simp only[aQ3,aH3,cZ3]at hc;rw[bU (by omega) (by omega)]at hc;refine Ob hT2 fun r hr=>.mk (fun h=>?_);have:=hr (by simpa using h);omega;refine Ob (P:=fun r=>r=false->e.ok x2) (Oi (fun hc=>.mk (fun h=>by cases h)) (fun hc=>?_)) fun b2 h2=>?_;refine Ob hT2 fun r hr=>.mk (fun h=>?_);have:=hr (by simpa using h);have:=h1 (by simpa using hc);unfold YU.ok;omega;refine Oi (fun _=>.mk (show(2:Int)≠0 by decide)) (fun hc=>?_);have n:e.ok x2:=h2 (by simp only[aQ3,cZ3,dM3]at hc;exact hc.1);refine Ob (P:=fun _=>True) (Oi (fun hd=>?_) (fun _=>bY)) fun b3 _=>?_;simp only[aH3]at hd;have:=iO hg;refine Ob (dJ (Q:=fun _=>True) (by rw[bU (by omega) (by omega)];omega) (by rw[bU (by omega) (by omega)];omega) (fun _ _ _=>trivial)) fun y _=>?_;exact Ob sY2 fun o _=>bY;refine Oi (fun _=>.mk (show(25:Int)≠0 by decide)) (fun _=>?_);refine Ob (hU2 (bB3 c.1 (by decide)) c.1) fun⟨a,m⟩ s=>?_;refine Oi (fun _=>.mk (show(21:Int)≠0 by decide)) (fun _=>.mk ⟨hw,s,fun j f t d=>?_⟩);by_cases k:j=i;subst k;rw[w]at d;cases d;exact n;exact c.2 j (by omega) t d;obtain⟨x,l⟩:=q;dsimp only at hi c;simp only[hi,nf];refine .mk (fun t d=>?_);obtain⟨j,f⟩:=aS3.1 d;exact c.2 j (zZ2.1 f).1 t f;rcases v with⟨a,b⟩|b;exact .mk (fun h=>absurd h hv);exact .mk (fun _=>hv)
def tA2 {x1:YU} {x2:Int}:fA (oM1 x1 x2):=by
 unfold oM1;exact bY
def tB2 {x1 x2:Int} (h:0<x1/\0<x2/\x2<9223372036854775808):Ok (oN1 x1 x2) (fun v=>0<v/\v∣x1/\v∣x2):=by
 unfold oN1;refine Ob (P:=fun v=>0<v/\v∣x1/\v∣x2) (gY (fun q=>0<q.1/\0<=q.2/\∀d:Int,d∣q.1->d∣q.2->d∣x1/\d∣x2) (fun q=>q.2.toNat) (fun q g=>?_) bS (x1,x2) ⟨h.1,by dsimp only;omega,fun d h1 h2=>⟨h1,h2⟩⟩ (by simp only[bS];omega)) fun v hv=>.mk hv;obtain⟨a,b⟩:=q;obtain⟨h1,h2,e⟩:=g;dsimp only at h1 h2 e;refine Oi (fun hc=>?_) (fun hc=>?_)<;>simp only[aH3]at hc;refine Ob (sA (by omega)) fun n hn=>?_;have f:n=a%b:=by rw[hn,Int.tmod_eq_emod_of_nonneg (by omega)]
 have e2:=Int.emod_nonneg a (by omega:b≠0);have i:=Int.emod_lt_of_pos a hc;refine .mk ⟨⟨hc,by dsimp only;omega,fun d d1 c=>e d ?_ d1⟩,by dsimp only;omega⟩;dsimp only at d1 c;rw[f]at c;have:=Int.emod_add_mul_ediv a b;rw[<-this];exact Int.dvd_add c (Int.dvd_trans d1 (Int.dvd_mul_right b _));have:b=0:=by omega
 subst this;exact .mk ⟨h1,e a (Int.dvd_refl a) (Int.dvd_zero a)⟩
def tC2 {x1:aA YU} {x2:Int} (s:x1.length<=6) (A:∀t∈x1,1<=t.iN/\t.iN<=32/\1<=t.jL/\t.jL<=32):Ok (oO1 x1 x2) (fun v=>1<=v.2):=by
 unfold oO1 dT;refine Ob (P:=fun v=>1<=v.2) (cG (l:=x1) (fun q=>q.2.2) (fun i q=>1<=q.1/\q.1<=32^i/\1<=q.2.1/\q.2.1<=32^i) (by omega) rfl ⟨by decide,by decide,by decide,by decide⟩ (fun i e q B w hi hl f hg hw=>?_) (fun q hi f=>?_)) fun v hv=>.mk hv;obtain⟨a,b,x⟩:=q;dsimp only at hi hl f hg hw;simp only[hl,hg,nt];have j:=A e w;refine Ob tA2 fun c _=>?_;have u:i<=5:=by omega
 have y:(32:Int)^i<=33554432:=by
  have:i=0\/i=1\/i=2\/i=3\/i=4\/i=5:=by omega
  rcases this with rfl|rfl|rfl|rfl|rfl|rfl<;>decide
 have z:(32:Int)^(i+1)=32^i*32:=Int.pow_succ 32 i;refine Ob (P:=fun v=>1<=v.1/\v.1<=32^(i+1)/\1<=v.2/\v.2<=32^(i+1)) (Oi (fun _=>?_) (fun _=>?_)) fun⟨v1,v2⟩ hv=>.mk ⟨hw,hv⟩;have n1:1<=a*e.jL:=Int.le_trans (by decide) (dT3 f.1 j.2.2.1 (by decide) (by omega));have C:a*e.jL<=32^i*32:=dT3 f.2.1 j.2.2.2 (by omega) (by omega);have d1:1<=b*e.iN:=Int.le_trans (by decide) (dT3 f.2.2.1 j.1 (by decide) (by omega));have r:b*e.iN<=32^i*32:=dT3 f.2.2.2 j.2.1 (by omega) (by omega);rw[bU (n:=a*e.jL) (by omega) (by omega),bU (n:=b*e.iN) (by omega) (by omega)];generalize a*e.jL=N at n1 C ⊢;generalize b*e.iN=D at d1 r ⊢;refine Ob (tB2 ⟨by omega,by omega,by omega⟩) fun g hg=>?_;obtain⟨E,⟨k,rfl⟩,⟨m,rfl⟩⟩:=hg
 have F:1<=k:=by
  rcases Int.lt_or_le k 1 with h|h;have:=Int.mul_nonneg (a:=g) (b:= -k) (by omega) (by omega);rw[Int.mul_neg]at this;omega;exact h
 have H:1<=m:=by
  rcases Int.lt_or_le m 1 with h|h;have:=Int.mul_nonneg (a:=g) (b:= -m) (by omega) (by omega);rw[Int.mul_neg]at this;omega;exact h
 have G:k<=g*k:=by
  have:=dT3 (a:=1) (b:=k) (c:=g) (d:=k) (by omega) (cV3 k) (by omega) (by omega);omega
 have J:m<=g*m:=by
  have:=dT3 (a:=1) (b:=m) (c:=g) (d:=m) (by omega) (cV3 m) (by omega) (by omega);omega
 refine Ob (rZ (by omega)) fun q1 o=>?_;refine Ob (rZ (by omega)) fun q2 p=>?_;rw[Int.mul_tdiv_cancel_left k (by omega),show IntKind.wrap .i64 k=bK k from rfl,bU (by omega) (by omega)]at o;rw[Int.mul_tdiv_cancel_left m (by omega),show IntKind.wrap .i64 m=bK m from rfl,bU (by omega) (by omega)]at p;exact .mk ⟨by dsimp only;omega,by dsimp only;omega,by dsimp only;omega,by dsimp only;omega⟩;exact .mk ⟨f.1,by dsimp only;omega,f.2.2.1,by dsimp only;omega⟩;obtain⟨a,b,x⟩:=q;dsimp only at hi f;simp only[hi,nf];exact .mk f.2.2.1
def hX2 {x1:aA YU} {x2 e:Int} (b:x1.length<=6) (f:∀t∈x1,1<=t.iN/\t.iN<=32/\1<=t.jL/\t.jL<=32):fA (hG1 x1 x2 e):=by
 unfold hG1;refine oJ (fun _=>?_);refine Ob (tC2 b (by omega)) fun⟨g,h⟩ a=>?_
 try dsimp only at a
 refine Ob (sA (by omega)) fun i c=>?_;refine oJ (fun _=>?_);refine Ob (rZ (by omega)) fun j d=>?_;exact bY
def hY2 {x1:aA YU} {x2:aA Int} (d:x1.length<=6) (g:x2.length<=20):Ok (hH1 x1 x2) (fun v=>v.1.length<=20/\(v.2=0->∀t∈x1,t.ok x2.length)):=by
 unfold hH1 dT;refine Ob (sZ2 d) fun c hc=>?_;refine Oi (fun hd=>.mk ⟨bL3 _,fun h=>absurd h (by simpa using hd)⟩) (fun hd=>?_);have j:=hc (by simpa using hd);refine Ob (tU (by decide) (by omega) (by omega)) fun s k=>?_;refine Ob (P:=fun r=>match r with|.inl p=>p.1≠0|.inr l=>l.length<=x2.length) (cG (l:=x2) (fun q=>q.1) (fun i q=>q.2.length<=i) (by omega) rfl (by rw[k];decide) (fun i e q o n hi hl f hg hw=>?_) (fun q hi f=>?_)) fun v hv=>?_;obtain⟨x,l⟩:=q;dsimp only at hi hl f hg hw;simp only[hl,hg,nt];refine Ob (hX2 d (fun t h=>by have:=j t h;unfold YU.ok at this;omega)) fun⟨a,b⟩ _=>?_;refine Oi (fun hb=>.mk (by simpa using hb)) (fun _=>?_);exact Ob (eP (Q:=fun v=>v.length=l.length+1) (by omega) (by simp)) fun m n=>.mk ⟨hw,by dsimp only;omega⟩;obtain⟨x,l⟩:=q;dsimp only at hi f;simp only[hi,nf];exact .mk f;rcases v with⟨a,b⟩|b;exact .mk ⟨bL3 _,fun h=>absurd h hv⟩;exact .mk ⟨bB3 hv g,fun _=>j⟩
def tD2 {x1:aA YU} {x2:Int} {d:aA Int} (j:x1.length<=6) (k:d.length<=20) (g:0<=x2/\x2<(x1.length:Int)) (hy:∀t∈x1,t.ok d.length):fA (oP1 x1 x2 d):=by
 unfold oP1;refine Ob (dJ (Q:=fun x=>x∈x1) g.1 g.2 (fun _ h _=>h)) fun f c=>?_;have m:=hy f c;unfold YU.ok at m;refine Ob (P:=fun _=>True) (kO (fun q=>q.2) (f.fW+f.jC) (fun _=>True) (by omega) (by dsimp only;omega) trivial (fun q _ h1 h2=>?_)) fun r _=>?_;obtain⟨s,i⟩:=q;dsimp only at h1 h2 ⊢;refine Ob rP1 fun e he=>?_;rw[bU (by omega) (by omega)]at he;subst he;refine Oi (fun hc=>?_) (fun _=>bY);simp only[aH3]at hc;refine Ob (Jv (by rw[bU (by omega) (by omega)];omega) (by rw[bU (by omega) (by omega)];omega) (by omega)) fun l hl=>?_;refine Ob (dJ (Q:=fun _=>True) (by omega) (by omega) (fun _ _ _=>trivial)) fun y _=>?_;refine Ob (hX2 (by omega) (fun t h=>by have:=hy t (hl.2 t h);unfold YU.ok at this;omega)) fun⟨a,b⟩ _=>?_;exact Oi (fun _=>bY) (fun _=>.mk ⟨hc,h2 hc,trivial⟩);rcases r with a|a;exact bY;refine Ob (P:=fun _=>True) (kO (fun q=>q) 9 (fun _=>True) (by decide) (by decide) trivial (fun q _ h1 h2=>?_)) fun r _=>?_;refine Oi (fun hc=>?_) (fun _=>bY);simp only[aH3]at hc;refine Ob (yL (by rw[bU (by omega) (by omega)];omega)) fun n _=>?_;exact Oi (fun _=>bY) (fun _=>.mk ⟨by omega,h2 (by omega),trivial⟩);rcases r with a|a<;>exact bY
def tE2 {x1:aA YU} {x2:aA Int} (c:x1.length<=6) (d:x2.length<=20):fA (oQ1 x1 x2):=by
 unfold oQ1;refine Ob (hY2 c d) fun⟨a,b⟩ f=>?_;dsimp only at f;refine Oi (fun _=>bY) (fun hd=>?_);have k:=f.2 (by simpa using hd);refine Ob (tU (by decide) (by omega) (by omega)) fun o h=>?_;refine Ob (P:=fun _=>True) (cG (l:=x1) (fun q=>q.1) (fun i q=>q.2.length<=i) (by omega) rfl (by rw[h];decide) (fun i e q n j hi hl g hg hw=>?_) (fun q hi g=>?_)) fun v hv=>?_;obtain⟨x,l⟩:=q;dsimp only at hi hl g hg hw;simp only[hl,nt];refine Ob (tD2 c d ⟨by omega,hl⟩ k) fun⟨a,b⟩ _=>?_;refine Oi (fun hb=>bY) (fun _=>?_);exact Ob (eP (Q:=fun v=>v.length=l.length+1) (by omega) (by simp)) fun m j=>.mk ⟨hw,by dsimp only;omega⟩;obtain⟨x,l⟩:=q;dsimp only at hi g;simp only[hi,nf];exact bY;rcases v with a|b<;>exact bY
def tF2 {x1:YO} (a:x1.sm):Ok (oR1 x1) (fun v=>v.1.length<=20):=by
 unfold oR1 dT;have j:=a.aT;refine vB (l:=x1.aT) (fun q=>q) (fun m k s e i d c f=>?_) fun r=>?_;simp only[d,c,nt];have h:=a.fR _ e;refine dP (bF1 h) fun t=>?_;refine oJ (fun _=>?_);refine oJ (fun _=>?_);exact .mk f;rcases r with u|_;exact .mk (by(simp only[nm,nl]at *;omega));refine Ob (sX2 a.aT a.fR) fun w b=>?_;refine Ob (hY2 a.dQ b) fun⟨n,x11⟩ g=>?_
 try dsimp only at g
 refine Oi (fun c716=>?_) (fun c716=>?_);exact .mk (by(simp only[nm,nl]at *;omega));refine dP (tE2 a.dQ b) fun⟨o,p⟩=>?_;refine Oi (fun c718=>?_) (fun c718=>?_);exact .mk (by(simp only[nm,nl]at *;omega));exact .mk (by(simp only[nm]at *;omega))
def tG2 {x1:YO} {x2:Int} (a:x1.sm):Ok (oS1 x1 x2) (fun v=>v.1.length<=20):=by
 unfold oS1;refine Oi (fun c719=>?_) (fun c719=>?_);exact .mk (by(simp only[nm,nl]at *;omega));refine Oi (fun c720=>?_) (fun c720=>?_);exact .mk (by(simp only[nm,nl]at *;omega));refine dP (sT2 a) fun f=>?_;refine Oi (fun c722=>?_) (fun c722=>?_);have e:=a.aT;refine Ob (P:=fun x=>x∈x1.aT) (dJ (by omega) (by(simp only[nm]at *;omega)) (fun _ h _=>h)) fun g b=>?_;have d:=a.fR _ b;refine dP (bF1 d) fun i=>?_;refine Oi (fun c728=>?_) (fun c728=>?_);exact .mk (by(simp only[nm,nl]at *;omega));refine Oi (fun c729=>?_) (fun c729=>?_);exact .mk (by(simp only[nm,nl]at *;omega));exact .mk (by(simp only[nm,nl]at *;omega));refine Ob (tF2 a) fun⟨j,k⟩ c=>?_
 try dsimp only at c
 exact .mk (by omega)
def tH2 {x1:aA Int} (e:x1.length<=20):fA (oT1 x1):=by
 unfold oT1 dT;have g:=e;refine vB (l:=x1) (fun q=>q.2) (fun i h q741 f d b a c=>?_) fun m=>?_;obtain⟨j,k⟩:=q741;dsimp only at d b a c;simp only[b,a,nt];exact .mk c;exact bY
def hZ2 {x1:YO} {x2:Int} (c:x1.sm):Ok (hJ1 x1 x2) (fun v=>v.1.length<=20):=by
 unfold hJ1;refine Ob (tG2 c) fun⟨e,f⟩ a=>?_
 try dsimp only at a
 refine oM (fun _=>?_) fun h b=>?_;refine dP (tH2 a) fun g=>?_;exact bY;refine dP ?_ fun i=>?_;refine Oi (fun c748=>?_) (fun c748=>?_);have d:=b c748;exact bY;exact bY;refine Oi (fun c750=>?_) (fun c750=>?_);exact .mk (by(simp only[nm,nl]at *;omega));exact .mk (by omega)
def iA2 {x1:YO} {x2:Int} (b:x1.sm):fA (hK1 x1 x2):=by
 unfold hK1;refine Ob (hZ2 b) fun⟨c,d⟩ a=>?_
 try dsimp only at a
 exact bY
def iB2 {x1:Int}:fA (hL1 x1):=by
 unfold hL1;exact bY
def tI2 {x1:YO} {x2:Int} (a:x1.sm):fA (oU1 x1 x2):=by
 unfold oU1;refine dP (T94 a.aT a.fR) fun c=>?_;refine oM (fun _=>?_) fun f b=>?_;refine dP (iA2 a) fun d=>?_;refine dP (iB2) fun e=>?_;exact bY;exact bY
def tJ2 {x1:aA YO} {x2:Int} (g:x1.length<=3) (e:∀y∈x1,y.sm):fA (oV1 x1 x2):=by
 unfold oV1 dT;have i:=g;refine vB (l:=x1) (fun q=>q) (fun k j n c h b a d=>?_) fun m=>?_;simp only[b,a,nt];have f:=e _ c;refine dP (tI2 f) fun o=>?_;refine oJ (fun _=>?_);exact .mk d;rcases m with p|_;exact bY;exact bY
def T92 {x1:aA YO} {x2:Int} (b:x1.length<=3) (a:∀y∈x1,y.sm):fA (F92 x1 x2):=by
 unfold F92;refine dP (tJ2 b a) fun c=>?_;exact bY
def tK2 {x1:YW} {x2:Int} (a:x1.sm):fA (oW1 x1 x2):=by
 unfold oW1;refine dP (T92 a.aM a.fK) fun b=>?_;exact bY
def tL2 {x1:aA YW} {x2:Int} (g:x1.length<=5) (e:∀y∈x1,y.sm):fA (oX1 x1 x2):=by
 unfold oX1 dT;have i:=g;refine vB (l:=x1) (fun q=>q) (fun k j n c h b a d=>?_) fun m=>?_;simp only[b,a,nt];have f:=e _ c;refine dP (tK2 f) fun o=>?_;refine oJ (fun _=>?_);exact .mk d;rcases m with p|_;exact bY;exact bY
def tM2 {x1:aA YW} {x2:Int} (b:x1.length<=5) (a:∀y∈x1,y.sm):fA (oY1 x1 x2):=by
 unfold oY1;refine dP (tL2 b a) fun c=>?_;exact bY
def tN2 {x1:Int} {x2:YM} (a:x2.sm):fA (oZ1 x1 x2):=by
 unfold oZ1;refine dP (bE1 a) fun⟨b,c⟩=>?_;refine oJ (fun _=>?_);refine dP (tM2 a.aQ a.gU) fun d=>?_;exact bY
def rQ1 {x1:aA YV} {x2:Y0} {r:Int} (o:x1.length+12<=1000000) (d:x2.sm):Ok (Cp x1 x2 r) (fun v=>x1.length<=v.length/\v.length<=x1.length+12):=by
 unfold Cp dT;have i:=d.aD;refine oh x2.aD x1 12 1 (fun m k q802 j g f b e a c=>?_) fun q n=>?_;obtain⟨s,t⟩:=q802;dsimp only at f b a c e;simp only[b,a,nt];have h:=d.cP _ g;refine dP (tN2 h) fun p=>?_;refine Ob (kR (by first|omega|(simp only[aN3]at *;omega)) d) fun x11 l=>?_;exact .mk ⟨c,by dsimp only;omega⟩;exact .mk (by omega)
def iC2 {x1:aA YV} {x2:Y0} {d:Int} (c:x1.length+12<=1000000) (a:x2.sm):Ok (Xc x1 x2 d) (fun v=>x1.length<=v.length/\v.length<=x1.length+12):=by
 unfold Xc;refine Ob (rQ1 (by first|omega|(simp only[aN3]at *;omega)) a) fun e b=>?_;exact .mk (by omega)
def iD2 {x1:aA YV} {x2:Y0} {d:Int} (c:x1.length+12<=1000000) (a:x2.sm):Ok (hP1 x1 x2 d) (fun v=>x1.length<=v.length/\v.length<=x1.length+12):=by
 unfold hP1;refine Ob (iC2 (by first|omega|(simp only[aN3]at *;omega)) a) fun e b=>?_;exact .mk (by omega)
def tO2 {x1:Int}:fA (pA1 x1):=by
 unfold pA1;refine oM (fun _=>?_) fun b a=>?_;refine dP (iB2) fun x2=>?_;exact bY;exact bY
def yH1 {x1:YO} {x2:Int} (a:x1.sm):fA (Ls x1 x2):=by
 unfold Ls;refine dP (T94 a.aT a.fR) fun c=>?_;refine oM (fun _=>?_) fun f b=>?_;refine dP (iA2 a) fun d=>?_;refine dP (tO2) fun e=>?_;exact bY;exact bY
def yI1 {x1:aA YO} {x2:Int} (g:x1.length<=3) (e:∀y∈x1,y.sm):fA (Lt x1 x2):=by
 unfold Lt dT;have i:=g;refine vB (l:=x1) (fun q=>q) (fun k j n c h b a d=>?_) fun m=>?_;simp only[b,a,nt];have f:=e _ c;refine dP (yH1 f) fun o=>?_;refine oJ (fun _=>?_);exact .mk d;rcases m with p|_;exact bY;exact bY
def iE2 {x1:aA YO} {x2:Int} (b:x1.length<=3) (a:∀y∈x1,y.sm):fA (Xe x1 x2):=by
 unfold Xe;refine dP (yI1 b a) fun c=>?_;exact bY
def yJ1 {x1:YW} {x2:Int} (a:x1.sm):fA (Lu x1 x2):=by
 unfold Lu;refine dP (iE2 a.aM a.fK) fun b=>?_;exact bY
def yK1 {x1:aA YW} {x2:Int} (g:x1.length<=5) (e:∀y∈x1,y.sm):fA (Lv x1 x2):=by
 unfold Lv dT;have i:=g;refine vB (l:=x1) (fun q=>q) (fun k j n c h b a d=>?_) fun m=>?_;simp only[b,a,nt];have f:=e _ c;refine dP (yJ1 f) fun o=>?_;refine oJ (fun _=>?_);exact .mk d;rcases m with p|_;exact bY;exact bY
def yL1 {x1:aA YW} {x2:Int} (b:x1.length<=5) (a:∀y∈x1,y.sm):fA (Lw x1 x2):=by
 unfold Lw;refine dP (yK1 b a) fun c=>?_;exact bY
def yM1 {x1:Int} {x2:YM} (a:x2.sm):fA (Lx x1 x2):=by
 unfold Lx;refine dP (bE1 a) fun⟨b,c⟩=>?_;refine oJ (fun _=>?_);refine dP (yL1 a.aQ a.gU) fun d=>?_;exact bY
def rR1 {x1:aA YV} {x2:Y0} {r:Int} (o:x1.length+12<=1000000) (d:x2.sm):Ok (Cq x1 x2 r) (fun v=>x1.length<=v.length/\v.length<=x1.length+12):=by
 unfold Cq dT;have i:=d.aD;refine oh x2.aD x1 12 1 (fun m k q862 j g f b e a c=>?_) fun q n=>?_;obtain⟨s,t⟩:=q862;dsimp only at f b a c e;simp only[b,a,nt];have h:=d.cP _ g;refine dP (yM1 h) fun p=>?_;refine Ob (kR (by first|omega|(simp only[aN3]at *;omega)) d) fun x11 l=>?_;exact .mk ⟨c,by dsimp only;omega⟩;exact .mk (by omega)
def rS1 {x1:aA YV} {x2:Y0} {d:Int} (c:x1.length+12<=1000000) (a:x2.sm):Ok (Cr x1 x2 d) (fun v=>x1.length<=v.length/\v.length<=x1.length+12):=by
 unfold Cr;refine Ob (rR1 (by first|omega|(simp only[aN3]at *;omega)) a) fun e b=>?_;exact .mk (by omega)
def iF2 {x1:aA YV} {x2:Y0} {d:Int} (c:x1.length+12<=1000000) (a:x2.sm):Ok (hS1 x1 x2 d) (fun v=>x1.length<=v.length/\v.length<=x1.length+12):=by
 unfold hS1;refine Ob (rS1 (by first|omega|(simp only[aN3]at *;omega)) a) fun e b=>?_;exact .mk (by omega)
def iG2 {x1:YP} {x2:YE} (a:x2.sm):fA (Hm x1 x2):=by
 unfold Hm;refine dP (bF1 a) fun b=>?_;exact bY
def iH2 {x1:aA YV} {x2:Y0} {x3:Int} (d5:x1.length+3600<=1000000) (p:x2.sm):Ok (Jt x1 x2 x3) (fun v=>x1.length<=v.length/\v.length<=x1.length+3600):=by
 unfold Jt dT;have H:=p.aD;refine oh x2.aD x1 3600 300 (fun W D q881 M z u e q a i=>?_) fun b9 d0=>?_;obtain⟨d6,R⟩:=q881;dsimp only at u e a i q;simp only[e,a,nt];have m:=p.cP _ z;have J:=m.aQ;refine oh D.aQ R 300 60 (fun X E q895 N A w f r b j=>?_) fun b8 d2=>?_;obtain⟨d7,S⟩:=q895;dsimp only at w f b j r;simp only[f,a,b,nt];have n:=m.gU _ A;have K:=n.aM;refine oh E.aM S 60 20 (fun Y F q909 O B x g s c k=>?_) fun b7 d3=>?_;obtain⟨d8,T⟩:=q909;dsimp only at x g c k s;simp only[g,a,b,c,nt];have o:=n.fK _ B;have L:=o.aT;refine oh F.aT T 20 1 (fun Z U q923 P C y h t d l=>?_) fun b6 d4=>?_;obtain⟨a0,b0⟩:=q923;dsimp only at y h d l t;simp only[h,a,b,c,d,nt];have G:=o.fR _ C;refine dP (iG2 G) fun b4=>?_;refine Ob (kR (by first|omega|(simp only[aN3]at *;omega)) p) fun b5 V=>?_;exact .mk ⟨l,by dsimp only;omega⟩;exact .mk ⟨k,by dsimp only;omega⟩;exact .mk ⟨j,by dsimp only;omega⟩;exact .mk ⟨i,by dsimp only;omega⟩;exact .mk (by omega)
def iI2 {x1:aA YV} {x2:Y0} {d:Int} (c:x1.length+3600<=1000000) (a:x2.sm):Ok (aS1 x1 x2 d) (fun v=>x1.length<=v.length/\v.length<=x1.length+3600):=by
 unfold aS1;refine Ob (iH2 (by first|omega|(simp only[aN3]at *;omega)) a) fun e b=>?_;exact .mk (by omega)
def T62 {x1:Y0} {x2:Int} (c:x1.sm):Ok (F62 x1 x2) (fun v=>v.2.2=0->0<=v.1/\v.1<(x1.bG.length:Int)):=by
 unfold F62 dT;have d:=c.bG;refine Oi (fun _=>.mk (fun h=>absurd (show(2:Int)=0 from h) (by decide))) (fun _=>?_);refine Ob (P:=fun r=>match r with|.inl p=>0<=p.1/\p.1<(x1.bG.length:Int)|.inr _=>True) (cG (l:=x1.bG) (fun q=>q.2) (fun _ _=>True) (by omega) rfl trivial (fun i e q g f hi hl _ hg hw=>?_) (fun q hi _=>?_)) fun r hr=>?_;obtain⟨s,x⟩:=q;dsimp only at hi hl hg hw;simp only[hl,hg,nt];exact Oi (fun _=>.mk ⟨by dsimp only;omega,hl⟩) (fun _=>.mk ⟨hw,trivial⟩);obtain⟨s,x⟩:=q;dsimp only at hi;simp only[hi,nf];exact bY;rcases r with⟨a,b⟩|_;exact .mk (fun _=>hr);exact .mk (fun h=>absurd (show(2:Int)=0 from h) (by decide))
def iJ2 {x1:YH} {x2:Int}:fA (hU1 x1 x2):=by
 unfold hU1;refine dP (T99) fun⟨a,b⟩=>?_;refine dP (tV) fun c=>?_;exact bY
def tP2 {x1:YB} {x2:Int}:fA (pH1 x1 x2):=by
 unfold pH1;refine dP (iJ2) fun a=>?_;exact bY
def tQ2 {x1:aA YB} {x2:Int} (d:x1.length<=12):fA (pI1 x1 x2):=by
 unfold pI1 dT;have g:=d;refine vB (l:=x1) (fun q=>q) (fun i h k f e b a c=>?_) fun j=>?_;simp only[b,a,nt];refine dP (tP2) fun m=>?_;refine oJ (fun _=>?_);exact .mk c;rcases j with n|_;exact bY;exact bY
def tR2 {x1:aA YB} {x2:Int} (a:x1.length<=12):fA (pJ1 x1 x2):=by
 unfold pJ1;refine dP (tQ2 a) fun b=>?_;exact bY
def tS2 {x1:YD} {x2:Int}:fA (pK1 x1 x2):=by
 unfold pK1;refine dP (iJ2) fun a=>?_;exact bY
def tT2 {x1:aA YD} {x2:Int} (d:x1.length<=12):fA (pL1 x1 x2):=by
 unfold pL1 dT;have g:=d;refine vB (l:=x1) (fun q=>q) (fun i h k f e b a c=>?_) fun j=>?_;simp only[b,a,nt];refine dP (tS2) fun m=>?_;refine oJ (fun _=>?_);exact .mk c;rcases j with n|_;exact bY;exact bY
def tU2 {x1:aA YD} {x2:Int} (a:x1.length<=12):fA (pM1 x1 x2):=by
 unfold pM1;refine dP (tT2 a) fun b=>?_;exact bY
def tV2 {x1:YP} {x2:YE} {f:YK} (a:x2.sm) (b:f.s'.sm):fA (pN1 x1 x2 f):=by
 unfold pN1;refine dP (bF1 a) fun m=>?_;refine oJ (fun _=>?_);refine Ob (T62 b) fun⟨n,o,p⟩ d=>?_
 try dsimp only at d
 refine dP ?_ fun r=>?_;refine Oi (fun c965=>?_) (fun c965=>?_);have e:=b.bG;refine Ob (P:=fun x=>x∈f.s'.bG) (dJ (by(simp only[nm]at *;omega)) (by(simp only[nm]at *;omega)) (fun _ h _=>h)) fun q c=>?_;have i:=b.jK _ c;exact bY;exact bY;refine dP ?_ fun j=>?_;refine oJ (fun _=>?_);exact bY;refine dP (tR2 a.cA) fun x11=>?_;refine oN (fun _=>?_) fun l g=>?_;refine dP (tU2 a.dX) fun k=>?_;exact bY;exact bY
def rT1 {x1:aA YV} {x2:Y0} {x3:Int} (d5:x1.length+3600<=1000000) (o:x2.sm):Ok (Ct x1 x2 x3) (fun v=>x1.length<=v.length/\v.length<=x1.length+3600):=by
 unfold Ct dT;have P:=o.aD;refine oh x2.aD x1 3600 300 (fun a0 F q987 R C A i y a k=>?_) fun d2 d3=>?_;obtain⟨d6,V⟩:=q987;dsimp only at A i a k y;simp only[i,a,nt];have w:=o.cP _ C;have H:=w.aQ;refine oh F.aQ V 300 60 (fun b0 G q1001 S D B j z c l=>?_) fun d0 d4=>?_;obtain⟨d7,W⟩:=q1001;dsimp only at B j c l z;simp only[j,a,c,nt];have m:=w.gU _ D;have J:=m.aM;refine oh G.aM W 60 20 (fun T x q1015 L t r e p b g=>?_) fun b9 Y=>?_;obtain⟨d8,X⟩:=q1015;dsimp only at r e b g p;simp only[e,a,c,b,nt];have n:=m.fK _ t;have K:=n.aT;refine oh x.aT X 20 1 (fun U N q1029 M u s f q d h=>?_) fun b8 Z=>?_;obtain⟨b4,b5⟩:=q1029;dsimp only at s f d h q;simp only[f,a,c,b,d,nt];have E:=n.fR _ u;refine dP (tV2 E o) fun b6=>?_;refine Ob (kR (by first|omega|(simp only[aN3]at *;omega)) o) fun b7 O=>?_;exact .mk ⟨h,by dsimp only;omega⟩;exact .mk ⟨g,by dsimp only;omega⟩;exact .mk ⟨l,by dsimp only;omega⟩;exact .mk ⟨k,by dsimp only;omega⟩;exact .mk (by omega)
def iK2 {x1:aA YV} {x2:Y0} {d:Int} (c:x1.length+3600<=1000000) (b:x2.sm):Ok (hW1 x1 x2 d) (fun v=>x1.length<=v.length/\v.length<=x1.length+3600):=by
 unfold hW1;refine Ob (rT1 (by first|omega|(simp only[aN3]at *;omega)) b) fun e a=>?_;exact .mk (by omega)
def tW2 {x1:YB}:fA (pO1 x1):=by
 unfold pO1;exact bY
def yN1 {x1:aA YB} (h:x1.length<=12):fA (Ly x1):=by
 unfold Ly dT;have f:=h;refine vB (l:=x1) (fun q=>q) (fun i g k e d b a c=>?_) fun j=>?_;simp only[b,a,nt];refine dP (tW2) fun m=>?_;refine oJ (fun _=>?_);exact .mk c;rcases j with n|_;exact bY;exact bY
def yO1 {x1:aA YB} (a:x1.length<=12):fA (Lz x1):=by
 unfold Lz;refine dP (yN1 a) fun x2=>?_;exact bY
def iL2 {x1:YE} (b:x1.sm):fA (hY1 x1):=by
 unfold hY1;refine oM (fun _=>?_) fun c a=>?_;refine dP (yO1 b.cA) fun x2=>?_;exact bY;exact bY
def rU1 {x1:Y0} {x2 b c:Int} (d:x1.sm):Ok (Ma x1 x2 b c) (fun v=>v.length<=20/\(∀y∈v,y.sm)/\(v=[]\/∃x y z,bM x1.aD x2=some x/\bM x.aQ b=some y/\bM y.aM c=some z/\v=z.aT)):=by
 unfold Ma;refine Ob (P:=fun r=>¬r=true->0<=x2/\0<=b/\∃x,bM x1.aD x2=some x/\b<(x.aQ.length:Int)) ?_ fun j g=>?_;refine Oi (fun _=>.mk (fun h=>absurd rfl h)) (fun hc=>?_);simp only[aQ3,aH3,cZ3]at hc;exact Ok.bindE (dJ (Q:=fun _=>True) (by omega) (by omega) (fun _ _ _=>trivial)) fun x a _=>.mk (fun h=>⟨by omega,by omega,x,a,by simp at h;omega⟩);refine Ob (P:=fun r=>¬r=true->∃x y,bM x1.aD x2=some x/\bM x.aQ b=some y/\0<=c/\c<(y.aM.length:Int)) ?_ fun k i=>?_;refine Oi (fun _=>.mk (fun h=>absurd rfl h)) (fun hc=>?_);simp only[aQ3,aH3,cZ3]at hc;obtain⟨h0,h1,x,a,hs⟩:=g hc.1;rw[a,zX2];exact Ok.bindE (dJ (Q:=fun _=>True) h1 hs (fun _ _ _=>trivial)) fun y hy _=>.mk (fun h=>⟨x,y,rfl,hy,by omega,by simp at h;omega⟩);refine Oi (fun _=>.mk ⟨bL3 _,fun _ h=>(dU3 h).elim,.inl rfl⟩) (fun hc=>?_);obtain⟨x,y,a,hy,h0,h1⟩:=i hc;rw[a,zX2,hy,zX2];refine Ok.bindE (dJ (Q:=fun _=>True) h0 h1 (fun _ _ _=>trivial)) fun z e _=>?_;have f:=((d.cP x (iO a).2.2.1).gU y (iO hy).2.2.1).fK z (iO e).2.2.1;exact .mk ⟨f.aT,f.fR,.inr ⟨x,y,z,rfl,hy,e,rfl⟩⟩
def iM2 {x1:Y0} {x2:YP} (a:x1.sm):Ok (hZ1 x1 x2) (fun r=>r=0->x2.cE=4/\0<=x2.pD/\∃l,Ma x1 x2.cV x2.cZ x2.dB=some l/\x2.pD<(l.length:Int)):=by
 unfold hZ1;refine Oi (fun _=>.mk (fun h=>by cases h)) (fun hk=>?_);refine Ob (P:=fun r=>¬r=true->0<=x2.pD/\∃l,Ma x1 x2.cV x2.cZ x2.dB=some l/\x2.pD<(l.length:Int)) (Oi (fun _=>.mk (fun h=>absurd rfl h)) (fun hc=>?_)) fun b hb=>?_;exact Ok.bindE (rU1 a) fun l hl _=>.mk (fun h=>⟨by simpa using hc,l,hl,by simpa using h⟩);exact Oi (fun _=>.mk (fun h=>by cases h)) (fun hc=>.mk (fun _=>⟨by simpa using hk,hb hc⟩))
def iN2 {x1 x2:Int} {a b:Int}:Ok (iA1 x1 x2 a b) (fun v=>v.cV=x1):=by
 unfold iA1;exact .mk (by rfl)
def iO2 {x1:Y0} {x2:YP} (b:x1.sm):Ok (iB1 x1 x2) (fun v=>v.2=true->0<=x2.cV/\x2.cV<(x1.aD.length:Int)/\0<=v.1.cV/\v.1.cV<(x1.aD.length:Int)):=by
 unfold iB1;refine Ob (iM2 b) fun c hc=>?_;refine Oi (fun _=>.mk (fun h=>by cases h)) (fun hd=>?_);obtain⟨hk,h0,l,hl,g⟩:=hc (by simpa using hd);have f:=(rU1 b).of hl
 have d:0<=x2.cV/\x2.cV<(x1.aD.length:Int):=by
  rcases f.2.2 with h|⟨x,y,z,hx,_⟩
  rw[h,aN3]at g;omega;have:=iO hx;exact⟨this.1,this.2.1⟩
 rw[hl,zX2];refine Oi (fun _=>?_) (fun _=>?_);exact Ob iN2 fun a e=>.mk (fun _=>⟨d.1,d.2,by dsimp only;omega,by dsimp only;omega⟩);refine Ob (rU1 b) fun i h2=>?_;refine Oi (fun hc=>?_) (fun _=>.mk (fun h=>by cases h));refine Ob iN2 fun a e=>.mk (fun _=>?_);dsimp only at e ⊢;rcases h2.2.2 with h|⟨x,y,z,hx,_⟩
 rw[h]at hc;simp at hc;have:=iO hx;rw[e];exact⟨d.1,d.2,this.1,this.2.1⟩
def iP2 {x1:YE} (a:x1.sm):Ok (Xg x1) (fun v=>v=(x1.dX,x1.dA,x1.cA)):=by
 unfold Xg;rw[oB (bB3 a.cA (by decide)),oB (bB3 a.dX (by decide)),oB (bB3 a.dA (by decide))];exact .mk rfl
def tX2 {x1:Y0} {x2:YP} (a:x1.sm):Ok (pR1 x1 x2) (fun v=>v.1.sm):=by
 unfold pR1;refine Ob (iM2 a) fun c hc=>?_;refine Oi (fun _=>.mk ⟨bL3 _,bL3 _,bL3 _,fun _ h=>(dU3 h).elim⟩) (fun hd=>?_);obtain⟨hk,h0,l,hl,e⟩:=hc (by simpa using hd);have d:=(rU1 a).of hl;rw[hl,zX2];exact Ob (dJ (Q:=fun x=>x.sm) h0 e (fun x b _=>d.2.1 x b)) fun x b=>Ob (iP2 b) fun y hy=>by subst hy;exact .mk b
def tY2 {x1 x2:YB}:fA (pS1 x1 x2):=by
 unfold pS1;exact bY
def yP1 {x1:aA YB} {x2:YB} (h:x1.length<=12):fA (Mb x1 x2):=by
 unfold Mb dT;have f:=h;refine vB (l:=x1) (fun q=>q) (fun i g k e d b a c=>?_) fun j=>?_;simp only[b,a,nt];refine dP (tY2) fun m=>?_;refine oJ (fun _=>?_);exact .mk c;rcases j with n|_;exact bY;exact bY
def yQ1 {x1:aA YB} {x2:YB} (a:x1.length<=12):fA (Mc x1 x2):=by
 unfold Mc;refine dP (yP1 a) fun b=>?_;exact bY
def tZ2 {x1 x2:YE} (j:x1.sm) (k:x2.sm):fA (pV1 x1 x2):=by
 unfold pV1 dT;refine oJ (fun _=>?_);have g:=j.cA;refine vB (l:=x1.cA) (fun q=>q) (fun m h r f e b a c=>?_) fun o=>?_;simp only[b,a,nt];refine oM (fun _=>?_) fun x11 d=>?_;refine oM (fun _=>?_) fun p i=>?_;refine dP (yQ1 k.cA) fun s=>?_;exact bY;exact bY;refine Oi (fun c1083=>?_) (fun c1083=>?_);have n:=d c1083;exact bY;exact .mk c;rcases o with _|_;exact bY;exact bY
def uA2 {x1:YP} {x2:YE} {f:YK} (c:x2.sm) (d:f.s'.sm):fA (pW1 x1 x2 f):=by
 unfold pW1;refine dP (iL2 c) fun h=>?_;refine oJ (fun _=>?_);refine Ob (iO2 d) fun⟨i,j⟩ b=>?_
 try dsimp only at b
 refine Ob (tX2 d) fun⟨k,l⟩ a=>?_
 try dsimp only at a
 refine oN (fun _=>?_) fun g e=>?_;refine dP (tZ2 c a) fun m=>?_;exact bY;exact bY
def rV1 {x1:aA YV} {x2:Y0} {x3:Int} (d5:x1.length+3600<=1000000) (p:x2.sm):Ok (Cu x1 x2 x3) (fun v=>x1.length<=v.length/\v.length<=x1.length+3600):=by
 unfold Cu dT;have H:=p.aD;refine oh x2.aD x1 3600 300 (fun T D q1103 M z u e q a i=>?_) fun d4 a0=>?_;obtain⟨d6,X⟩:=q1103;dsimp only at u e a i q;simp only[e,a,nt];have m:=p.cP _ z;have J:=m.aQ;refine oh D.aQ X 300 60 (fun U E q1117 N A w f r b j=>?_) fun d3 b0=>?_;obtain⟨d7,Y⟩:=q1117;dsimp only at w f b j r;simp only[f,a,b,nt];have n:=m.gU _ A;have K:=n.aM;refine oh E.aM Y 60 20 (fun V F q1131 O B x g s c k=>?_) fun d2 b4=>?_;obtain⟨d8,Z⟩:=q1131;dsimp only at x g c k s;simp only[g,a,b,c,nt];have o:=n.fK _ B;have L:=o.aT;refine oh F.aT Z 20 1 (fun W R q1145 P C y h t d l=>?_) fun d0 b5=>?_;obtain⟨b6,b7⟩:=q1145;dsimp only at y h d l t;simp only[h,a,b,c,d,nt];have G:=o.fR _ C;refine dP (uA2 G p) fun b8=>?_;refine Ob (kR (by first|omega|(simp only[aN3]at *;omega)) p) fun b9 S=>?_;exact .mk ⟨l,by dsimp only;omega⟩;exact .mk ⟨k,by dsimp only;omega⟩;exact .mk ⟨j,by dsimp only;omega⟩;exact .mk ⟨i,by dsimp only;omega⟩;exact .mk (by omega)
def iQ2 {x1:aA YV} {x2:Y0} {d:Int} (c:x1.length+3600<=1000000) (b:x2.sm):Ok (iD1 x1 x2 d) (fun v=>x1.length<=v.length/\v.length<=x1.length+3600):=by
 unfold iD1;refine Ob (rV1 (by first|omega|(simp only[aN3]at *;omega)) b) fun e a=>?_;exact .mk (by omega)
def uB2 {x1:YE} {x2:Int} (a:x1.sm) (c:0<=x2):Ok (pX1 x1 x2) (fun v=>v=false->x2<(x1.dA.length:Int)):=by
 unfold pX1;refine Ob (P:=fun r=>r=false->x2<(x1.dA.length:Int)) (Oi (fun _=>.mk (fun h=>by cases h)) (fun hc=>?_)) fun b hb=>.mk hb;simp only[aH3]at hc;exact Ob (dJ (Q:=fun _=>True) c (by omega) (fun _ _ _=>trivial)) fun y _=>.mk (fun _=>by omega)
def iR2 {x1 x2 s:Int} {B:aA (YP×Bool)} {t:aA YV} {n:Y0} {C:Int} (u:t.length+0<=1000000) (d:n.sm) (A:0<=x1) (hy:0<=x2) (o:0<=s):fA (Xh x1 x2 s B t n C):=by
 unfold Xh dT;have E:=d.aD;refine Ob (P:=fun _=>True) (cG (l:=n.aD) (fun q=>q.1) (fun _ _=>True) (by omega) rfl trivial (fun i e q _ g hi hl _ hg hw=>?_) (fun q hi _=>?_)) fun⟨a1,a2,a3,a4,a5,a6,a7⟩ _=>?_;obtain⟨x,k,st,m,vo,ev,y,l⟩:=q;dsimp only at hi hl hg hw;simp only[hl,hg,nt];refine Ob (P:=fun r=>¬r=true->∃y,bM e.aQ x1=some y/\x2<(y.aM.length:Int)) (Oi (fun _=>.mk (fun h=>absurd rfl h)) (fun hc=>?_)) fun b hb=>?_;simp only[aH3]at hc;exact Ok.bindE (dJ (Q:=fun _=>True) A (by omega) (fun _ _ _=>trivial)) fun y hy _=>.mk (fun h=>⟨y,hy,by simpa using h⟩);refine Oi (fun _=>.mk ⟨hw,trivial⟩) (fun hc=>?_);obtain⟨c,f,hv⟩:=hb hc;rw[f,zX2];refine Ok.bindE (dJ (Q:=fun _=>True) hy hv (fun _ _ _=>trivial)) fun z j _=>?_;have p:=((d.cP e g).gU c (iO f).2.2.1).fK z (iO j).2.2.1;have D:=p.aT;refine Ob (P:=fun _=>True) (cG (l:=z.aT) (fun q=>q.1) (fun _ _=>True) (by omega) rfl trivial (fun i e q _ g hi hl _ hg hw=>?_) (fun q hi _=>?_)) fun⟨a1,a2,a3,a4,a5,a6,a7⟩ _=>.mk ⟨hw,trivial⟩;obtain⟨x,k,st,m,vo,ev,y,l⟩:=q;dsimp only at hi hl hg hw;simp only[hl,hg,nt];refine Ob (uB2 (p.fR e g) o) fun a v=>?_;refine Oi (fun _=>.mk ⟨hw,trivial⟩) (fun hc=>?_);refine Ob (dJ (Q:=fun _=>True) o (v (by simpa using hc)) (fun _ _ _=>trivial)) fun w _=>?_;refine Ob (P:=fun _=>True) (Oi (fun _=>bY) (fun _=>bY)) fun _ _=>?_;exact Ob (P:=fun _=>True) (Oi (fun _=>bY) (fun _=>bY)) fun _ _=>.mk ⟨hw,trivial⟩;obtain⟨x,k,st,m,vo,ev,y,l⟩:=q;dsimp only at hi;simp only[hi,nf];exact bY;obtain⟨x,k,st,m,vo,ev,y,l⟩:=q;dsimp only at hi;simp only[hi,nf];exact bY;exact Ob (P:=fun _=>True) (Oi (fun _=>bY) (fun _=>bY)) fun _ _=>bY
def uC2 {x1:YP} {x2:YE} {b:aA (YP×Bool)} (a:x2.sm):fA (pY1 x1 x2 b):=by
 unfold pY1;exact bY
def rW1 {x1:aA (YP×Bool)} {x2:aA YV} {X:Y0} {x4:Int} (d6:x2.length+3600<=1000000) (F:X.sm):Ok (Cv x1 x2 X x4) (fun v=>x2.length<=v.length/\v.length<=x2.length+3600):=by
 unfold Cv dT;have H:=F.aD;refine oh X.aD x2 3600 300 (fun T C q1162 M y t e p a i=>?_) fun d5 b0=>?_;obtain⟨d7,Y⟩:=q1162;dsimp only at t e a i p;simp only[e,a,nt];have m:=F.cP _ y;have J:=m.aQ;refine oh C.aQ Y 300 60 (fun U D q1176 N z u f q b j=>?_) fun d4 b4=>?_;obtain⟨d8,Z⟩:=q1176;dsimp only at u f b j q;simp only[f,a,b,nt];have n:=m.gU _ z;have K:=n.aM;refine oh D.aM Z 60 20 (fun V E q1190 O A w g r c k=>?_) fun d3 b5=>?_;obtain⟨d9,a0⟩:=q1190;dsimp only at w g c k r;simp only[g,a,b,c,nt];have o:=n.fK _ A;have L:=o.aT;refine oh E.aT a0 20 1 (fun W R q1204 P B x h s d l=>?_) fun d2 b6=>?_;obtain⟨b7,b8⟩:=q1204;dsimp only at x h d l s;simp only[h,a,b,c,d,nt];have G:=o.fR _ B;refine dP (uC2 G) fun b9=>?_;refine Ob (kR (by first|omega|(simp only[aN3]at *;omega)) F) fun d0 S=>?_;exact .mk ⟨l,by dsimp only;omega⟩;exact .mk ⟨k,by dsimp only;omega⟩;exact .mk ⟨j,by dsimp only;omega⟩;exact .mk ⟨i,by dsimp only;omega⟩;exact .mk (by omega)
def iS2 {x1:aA YV} {x2:Y0} {f:Int} (e:x1.length+3600<=1000000) (a:x2.sm):Ok (iF1 x1 x2 f) (fun v=>x1.length<=v.length/\v.length<=x1.length+3600):=by
 unfold iF1;refine Ob (T32 a) fun n hn=>?_;refine Ob (P:=fun _=>True) (kO (fun q=>q.1) n (fun _=>True) hn (by decide) trivial (fun q _ h1 h2=>?_)) fun m _=>?_;obtain⟨x,l⟩:=q;dsimp only at h1 h2 ⊢;refine Oi (fun hc=>?_) (fun _=>bY);simp only[aH3]at hc;refine Ob (P:=fun _=>True) (kO (fun q=>q.1) 2 (fun _=>True) (by decide) (by dsimp only;omega) trivial (fun q _ b g2=>?_)) fun m _=>.mk ⟨hc,h2 hc,trivial⟩;obtain⟨y,l⟩:=q;dsimp only at b g2 ⊢;refine Oi (fun hd=>?_) (fun _=>bY);simp only[aH3]at hd;refine Ob (P:=fun _=>True) (kO (fun q=>q.1) 4 (fun _=>True) (by decide) (by dsimp only;omega) trivial (fun q _ c d=>?_)) fun m _=>.mk ⟨hd,g2 hd,trivial⟩;obtain⟨z,l⟩:=q;dsimp only at c d ⊢;refine Oi (fun he=>?_) (fun _=>bY);simp only[aH3]at he;exact Ob (iR2 (by omega) a h1 b c) fun m _=>.mk ⟨he,d he,trivial⟩;exact Ob (rW1 (by omega) a) fun v hv=>.mk (by omega)
def yR1 {x1:Y0} (a:x1.sm):fA (Md x1):=by
 unfold Md;exact bY
def rX1 {x1 x2:Int} {d e:Int} {f g h:Int} {b:YJ} {i:Bool} {a:YP} {x11:YZ} (c:b.sm):fA (Cw x1 x2 d e f g h b i a x11):=by
 unfold Cw;refine oJ (fun _=>?_);exact bY
def bG1 {x1 x2:Int} {b c:Int} {d e f:Int} {g:YF} {h:Bool} {a:YP} {x11:YZ}:fA (uQ x1 x2 b c d e f g h a x11):=by
 unfold uQ;refine oJ (fun _=>?_);exact bY
def bH1 {x1 x2:Int} {d e:Int} {f g h:Int} {b:YM} {i:Bool} {a:YP} {x11:YZ} (c:b.sm):fA (uR x1 x2 d e f g h b i a x11):=by
 unfold uR;refine oJ (fun _=>?_);exact bY
def bI1 {x1 x2:Int} {d e:Int} {f g h:Int} {b:YE} {i:Bool} {a:YP} {x11:YZ} (c:b.sm):fA (uS x1 x2 d e f g h b i a x11):=by
 unfold uS;refine oJ (fun _=>?_);exact bY
def bJ1 {x1 x2:Int} {b c:Int} {d e f:Int} {g:YN} {h:Bool} {a:YP} {x11:YZ}:fA (uT x1 x2 b c d e f g h a x11):=by
 unfold uT;refine oJ (fun _=>?_);exact bY
def yS1 {x1:Y0} {x2:Bool} {X:YP} {Y:YZ} (g:x1.sm):Ok (Me x1 x2 X Y) (fun v=>match v with|.inl p=>p.cE=4->0<=p.pD/\x1.pl p.cV p.cZ p.dB|.inr _=>True):=by
 unfold Me dT;have hP:=g.bG;have hM:=g.aD;have U:=g.cJ;refine Ob (P:=fun r=>match r with|.inl p=>p.1≠4|.inr _=>True) (cG (l:=x1.bG) (fun q=>q.2) (fun _ _=>True) (by omega) rfl trivial (fun i e q D B hi hl _ hg hw=>?_) (fun q hi _=>?_)) fun r hr=>?_;obtain⟨s,x⟩:=q;dsimp only at hi hl hg hw;simp only[hl,hg,nt];refine Ob (rX1 (g.jK e B)) fun r _=>?_;rcases r with _|_;exact .mk (show(1:Int)≠4 by decide);have U:=(g.jK e B).bN;refine Ob (P:=fun _=>True) (cG (l:=e.bN) (fun q=>q.2) (fun _ _=>True) (by omega) rfl trivial (fun i2 e2 q W V F A _ m C=>?_) (fun q hi _=>?_)) fun r _=>?_;obtain⟨s,y⟩:=q;dsimp only at F A m C;simp only[A,m,nt];refine Ob bG1 fun r _=>?_;rcases r with _|_;exact bY;exact .mk ⟨C,trivial⟩;obtain⟨s,y⟩:=q;dsimp only at hi;simp only[hi,nf];exact bY;rcases r with⟨a,b⟩|a;exact .mk (show(2:Int)≠4 by decide);exact .mk ⟨hw,trivial⟩;obtain⟨s,y⟩:=q;dsimp only at hi;simp only[hi,nf];exact bY;rcases r with⟨k,p,st⟩|_;exact .mk (fun h=>absurd h hr);refine Ob (P:=fun r=>match r with|.inl p=>p.1=4->0<=p.2.2.2.2/\x1.pl p.2.2.1 p.2.1 p.2.2.2.1|.inr _=>True) (cG (l:=x1.aD) (fun q=>q) (fun _ _=>True) (by omega) rfl trivial (fun i e q D B hi hl _ hg hw=>?_) (fun q hi _=>?_)) fun r hr=>?_;simp only[hl,hg,nt];have R:=g.cP e B;have Z:=R.aQ;refine Ob (bH1 R) fun r _=>?_;rcases r with _|_;exact .mk (fun h=>absurd (show(3:Int)=4 from h) (by decide));refine Ob (P:=fun r=>match r with|.inl p=>0<=p.2.2/\x1.pl q p.1 p.2.1|.inr _=>True) (cG (l:=e.aQ) (fun q=>q) (fun _ _=>True) (by omega) rfl trivial (fun j c w D J hj hlc _ o M=>?_) (fun q hi _=>?_)) fun r hr=>?_;simp only[hlc,o,nt];have S:=R.gU c J;have hV:=S.aM;refine Ob (P:=fun r=>match r with|.inl p=>0<=p.2/\x1.pl q w p.1|.inr _=>True) (cG (l:=c.aM) (fun q=>q) (fun _ _=>True) (by omega) rfl trivial (fun k v u D L hk H _ z O=>?_) (fun q hi _=>?_)) fun r hr=>?_;simp only[H,z,nt];have T:=S.fK v L;have hE:=T.aT;refine Ob (P:=fun r=>match r with|.inl x=>0<=x|.inr _=>True) (cG (l:=v.aT) (fun q=>q) (fun _ _=>True) (by omega) rfl trivial (fun n ev t D K ht G _ E N=>?_) (fun q hi _=>?_)) fun r hr=>?_;simp only[G,E,nt];refine Ob (bI1 (T.fR ev K)) fun r _=>?_;rcases r with _|_;exact .mk (show(0:Int)<=t by omega);exact .mk ⟨N,trivial⟩;simp only[hi,nf];exact bY;rcases r with x|_;exact .mk ⟨hr,e,c,v,hg,o,z⟩;exact .mk ⟨O,trivial⟩;simp only[hi,nf];exact bY;rcases r with⟨a,b⟩|_;exact .mk hr;exact .mk ⟨M,trivial⟩;simp only[hi,nf];exact bY;rcases r with⟨a,b,c⟩|_;exact .mk (fun _=>hr);exact .mk ⟨hw,trivial⟩;simp only[hi,nf];exact bY;rcases r with⟨a,b,c,d,f⟩|_;exact .mk hr;refine Ob (P:=fun _=>True) (cG (l:=x1.cJ) (fun q=>q) (fun _ _=>True) (by omega) rfl trivial (fun i e q D B hi hl _ hg hw=>?_) (fun q hi _=>?_)) fun r hr=>?_;simp only[hl,hg,nt];refine Ob bJ1 fun r _=>?_;rcases r with _|_;exact bY;exact .mk ⟨hw,trivial⟩;simp only[hi,nf];exact bY;rcases r with x|_;exact .mk (fun h=>absurd (show(5:Int)=4 from h) (by decide));exact bY
def T13 {x1:Y0} {x2:YZ} (a:x1.sm):Ok (F13 x1 x2) (fun v=>v.2=true->v.1.cE=4->0<=v.1.pD/\x1.pl v.1.cV v.1.cZ v.1.dB):=by
 unfold F13;refine Oi (fun _=>.mk (fun h=>by cases h)) (fun _=>?_);refine Ob (yR1 a) fun _ _=>?_;refine Ob (yS1 a) fun r hr=>?_;rcases r with p|_;exact .mk (fun _=>hr);exact .mk (fun h=>by cases h)
def uD2 {x1:aA Int} (b:x1.length<=20):fA (qB1 x1):=by
 unfold qB1;refine Ob (tU (by omega) (by omega) (by omega)) fun g h2=>?_;refine Ob (P:=fun v=>v.length=x1.length) (kO (fun q=>q.1) (x1.length:Int) (fun q=>q.2.length=x1.length) (by omega) (by dsimp only;omega) (by rw[h2];simp) (fun q a h1 h2=>?_)) fun v hv=>bY;obtain⟨i,l⟩:=q;dsimp only at a h1 h2 ⊢;refine Oi (fun hc=>?_) (fun _=>.mk a);simp only[aH3]at hc;rw[bU (n:=i-1) (by omega) (by omega)];refine Ob (mE (by omega) (by omega)) fun j d=>?_;refine Ob (pO (by omega)) fun x _=>?_;refine Ob (dJ (Q:=fun _=>True) (by omega) (by omega) (fun _ _ _=>trivial)) fun y _=>?_;refine Ob (mE (by omega) (by omega)) fun f c=>?_;exact Ob (Xr (by omega)) fun m e=>.mk ⟨hc,h2 hc,by dsimp only;omega⟩
def uE2 {x1:YO} {x2:Int} (b:x1.sm):fA (qC1 x1 x2):=by
 unfold qC1;refine Ob (hZ2 b) fun⟨c,d⟩ a=>?_
 try dsimp only at a
 refine oJ (fun _=>?_);refine dP (uD2 a) fun e=>?_;exact bY
def iT2 {x1:YK} {x2:YZ} (c:x1.s'.sm):fA (iH1 x1 x2):=by
 unfold iH1;refine Ob (T13 c) fun⟨p,f⟩ hp=>?_;dsimp only at hp;refine Oi (fun _=>bY) (fun hc=>?_);simp only[aQ3,cZ3,aT3,Bool.not_eq_false,dQ3,ne_eq,Decidable.not_not]at hc;obtain⟨h0,x,y,z,d,hy,g⟩:=hp hc.1 hc.2;simp only[d,hy,g,zX2];have h:=c.cP x (iO d).2.2.1;have i:=(h.gU y (iO hy).2.2.1).fK z (iO g).2.2.1;refine Ob (bE1 h) fun⟨a,b⟩ _=>?_;refine Ob (uE2 i) fun⟨on,e⟩ _=>?_;refine Oi (fun _=>bY) (fun hd=>?_);simp only[aH3]at hd;exact Ob (dJ (Q:=fun _=>True) h0 (by dsimp only at hd ⊢;omega) (fun _ _ _=>trivial)) fun w _=>bY
def rY1 {x1 x2:Int}:fA (Uj x1 x2):=by
 unfold Uj;exact bY
def iU2 {x1:YQ}:fA (iI1 x1):=by
 unfold iI1;refine dP (rY1) fun x2=>?_;refine oM (fun _=>?_) fun h a=>?_;refine dP (rY1) fun g=>?_;exact bY;refine oM (fun c1222=>?_) fun j b=>?_;have e:=a c1222;refine dP (rY1) fun i=>?_;exact bY;refine oM (fun c1226=>?_) fun l d=>?_;have c:=b c1226;have f:=a c;refine dP (rY1) fun k=>?_;exact bY;exact bY
def iV2 {x1:Int}:fA (iJ1 x1):=by
 unfold iJ1;exact bY
def T55 {x1:Int}:fA (F55 x1):=by
 unfold F55;exact bY
def T24 {x1 x2:Int}:fA (F24 x1 x2):=by
 unfold F24;refine dP (T55) fun a=>?_;refine dP (T55) fun b=>?_;refine Oi (fun c1232=>?_) (fun c1232=>?_);refine oJ (fun _=>?_);exact bY;refine oJ (fun _=>?_);refine oJ (fun _=>?_);refine oJ (fun _=>?_);exact bY
def T23 {x1:aA Int} (h:x1.length<=20):fA (F23 x1):=by
 unfold F23 dT;have f:=h;refine vB (l:=x1) (fun q=>q) (fun i g k e d b a c=>?_) fun j=>?_;simp only[b,a,nt];refine oJ (fun _=>?_);exact .mk c;rcases j with m|_;exact bY;exact bY
def Um {x1 x2:YQ}:fA (Hn x1 x2):=by
 unfold Hn;refine dP (T24) fun a=>?_;refine dP (T24) fun b=>?_;refine dP (T23 (by simp)) fun c=>?_;exact bY
def uF2 {x1:YS}:fA (qD1 x1):=by
 unfold qD1;refine oJ (fun _=>?_);refine dP (iU2) fun x2=>?_;refine oN (fun _=>?_) fun f a=>?_;refine dP (iU2) fun e=>?_;exact bY;refine oJ (fun c1257=>?_);have c:=a c1257;refine oN (fun _=>?_) fun h b=>?_;refine dP (iV2) fun g=>?_;exact bY;refine oJ (fun c1262=>?_);have d:=b c1262;refine dP (Um) fun i=>?_;refine oJ (fun _=>?_);exact bY
def uV1 {x1:aA YV} {x2:Y0} {j:Int} (h:x1.length+0<=1000000) (c:x2.sm):Ok (Qv x1 x2 j) (fun v=>v.1.length=x2.cJ.length/\v.2.length=x2.cJ.length):=by
 unfold Qv dT;have n:=c.cJ;refine Ob (P:=fun v=>v.1.length=x2.cJ.length/\v.2.length=x2.cJ.length) (cG (l:=x2.cJ) (fun q=>q.1) (fun i q=>q.2.1.length=i/\q.2.2.length=i) (by omega) rfl ⟨rfl,rfl⟩ (fun i e q p o hi hl d hg hw=>?_) (fun q hi d=>?_)) fun⟨a,b⟩ hv=>.mk hv;obtain⟨x,f,g⟩:=q;dsimp only at hi hl d hg hw;simp only[hl,hg,nt];refine Ob (iT2 c) fun⟨p1,k⟩ _=>?_;refine Ob (iT2 c) fun⟨p2,m⟩ _=>?_;refine Ob (eP (Q:=fun v=>v.length=g.length+1) (by omega) (by simp)) fun r h1=>?_;refine Ob (P:=fun _=>True) (Oi (fun _=>bY) (fun _=>Ob uF2 fun _ _=>bY)) fun b _=>?_;exact Ob (eP (Q:=fun v=>v.length=f.length+1) (by omega) (by simp)) fun s h2=>.mk ⟨hw,by dsimp only;omega,by dsimp only;omega⟩;obtain⟨x,f,g⟩:=q;dsimp only at hi d;simp only[hi,nf];exact .mk d
def iW2 {x1:aA YV} {x2:Y0} {k:Int} (g:x1.length+10<=1000000) (c:x2.sm):Ok (iM1 x1 x2 k) (fun v=>x1.length<=v.length/\v.length<=x1.length+10):=by
 unfold iM1 dT;have m:=c.cJ;refine Ob (uV1 (by omega) c) fun⟨a,b⟩ f=>?_;dsimp only at f;refine Ob (P:=fun v=>x1.length<=v.length/\v.length<=x1.length+10) (cG (l:=x2.cJ) (fun q=>q.1) (fun i q=>x1.length<=q.2.length/\q.2.length<=x1.length+i) (by omega) rfl (by dsimp only;omega) (fun i e q o n hi hl d hg hw=>?_) (fun q hi d=>?_)) fun v hv=>.mk (by omega);obtain⟨x,l⟩:=q;dsimp only at hi hl d hg hw;simp only[hl,hg,nt];refine Ob (mE (by omega) (by omega)) fun j h=>?_;refine Ob (pO h.2) fun y _=>?_;exact Ob (kR (by omega) c) fun v hv=>.mk ⟨hw,by dsimp only;omega⟩;obtain⟨x,l⟩:=q;dsimp only at hi d;simp only[hi,nf];exact .mk (by omega)
def yT1 {x1:Int}:Ok (aT1 x1) (fun v=>v>0->1<=x1/\x1<=7):=by
 unfold aT1;refine Oi (fun c1266=>.mk (by omega)) (fun c1266=>?_);refine Ob (dJ (Q:=fun _=>True) (by(simp only[nm]at *;rw[bU (by omega) (by omega)];omega)) (by(simp only[nm,nl]at *;rw[bU (by omega) (by omega)];omega)) (fun _ _ _=>trivial)) fun x2 a=>?_;exact .mk (by(simp only[nm]at *;omega))
def uG2 {x1 x2:YS}:Ok (qE1 x1 x2) (fun v=>v=true->1<=x1.cE/\x1.cE<=7):=by
 unfold qE1;refine Ob yT1 fun f hf=>?_;refine Ob (P:=fun r=>r=true->1<=x1.cE/\x1.cE<=7) (Oi (fun hc=>?_) (fun _=>.mk (fun h=>by cases h))) fun b hb=>?_;simp only[aH3]at hc;have:=hf hc;exact Ob yT1 fun _ _=>Ob yT1 fun _ _=>.mk (fun _=>this);refine Ob (P:=fun r=>r=true->1<=x1.cE/\x1.cE<=7) (Oi (fun hc=>?_) (fun _=>.mk (fun h=>by cases h))) fun b hb=>.mk hb;simp only[aA3]at hc;have:=hb hc.1;exact Ob iV2 fun _ _=>.mk (fun _=>this)
def uH2 {x1 x2:YS}:fA (qF1 x1 x2):=by
 unfold qF1;refine dP (Um) fun b=>?_;refine oN (fun _=>?_) fun d a=>?_;refine dP (Um) fun c=>?_;exact bY;exact bY
def yU1 {x1 x2:YS}:fA (aU1 x1 x2):=by
 unfold aU1;refine dP (uH2) fun a=>?_;exact bY
def iX2 {x1 x2:YS}:fA (iP1 x1 x2):=by
 unfold iP1;refine dP (Um) fun b=>?_;refine oN (fun _=>?_) fun d a=>?_;refine dP (Um) fun c=>?_;exact bY;exact bY
def yV1 {x1 x2:YS}:fA (aV1 x1 x2):=by
 unfold aV1;refine dP (iX2) fun a=>?_;exact bY
def iY2 {x1 x2:YS}:fA (iR1 x1 x2):=by
 unfold iR1;refine dP (Um) fun b=>?_;refine oM (fun _=>?_) fun d a=>?_;refine dP (Um) fun c=>?_;exact bY;exact bY
def uI2 {x1 x2:YS}:fA (qG1 x1 x2):=by
 unfold qG1;refine dP (iX2) fun b=>?_;refine oM (fun _=>?_) fun e a=>?_;refine dP (iY2) fun c=>?_;refine dP (iY2) fun d=>?_;exact bY;exact bY
def uJ2 {x1 x2:YS}:fA (qH1 x1 x2):=by
 unfold qH1;refine Ob uG2 fun g hg=>?_;refine Oi (fun _=>bY) (fun hc=>?_);have hk:=hg (by simpa using hc);rw[bU (n:=x1.cE-1) (by omega) (by omega)];refine Oi (fun _=>Ob yU1 fun _ _=>bY) (fun d=>?_);refine Oi (fun _=>Ob yV1 fun _ _=>bY) (fun c=>?_);refine Oi (fun _=>Ob yU1 fun _ _=>bY) (fun b=>?_);refine Oi (fun _=>Ob yU1 fun _ _=>bY) (fun a=>?_);refine Oi (fun _=>Ob yV1 fun _ _=>bY) (fun h2=>?_);refine Oi (fun _=>Ob yV1 fun _ _=>bY) (fun h1=>?_);refine Oi (fun _=>Ob uI2 fun _ _=>bY) (fun h0=>?_);simp only[cK3]at h0 h1 h2 a b c d;omega
def iZ2 {x1:aA YV} {x2:Y0} {o:Int} (n:x1.length+10<=1000000) (c:x2.sm):Ok (iS1 x1 x2 o) (fun v=>x1.length<=v.length/\v.length<=x1.length+10):=by
 unfold iS1 dT;have p:=c.cJ;refine Ob (uV1 (by omega) c) fun⟨a,b⟩ g=>?_;dsimp only at g;refine Ob (P:=fun v=>x1.length<=v.length/\v.length<=x1.length+10) (cG (l:=x2.cJ) (fun q=>q.1) (fun i q=>x1.length<=q.2.length/\q.2.length<=x1.length+i) (by omega) rfl (by dsimp only;omega) (fun i e q t s hi hl f hg hw=>?_) (fun q hi f=>?_)) fun v hv=>.mk (by omega);obtain⟨x,l⟩:=q;dsimp only at hi hl f hg hw;simp only[hl,hg,nt];refine Ob (P:=fun _=>True) (kO (fun q=>q.2) x (fun _=>True) (by omega) (by dsimp only;omega) trivial (fun q _ h1 h2=>?_)) fun b _=>?_;obtain⟨ex,k⟩:=q;dsimp only at h1 h2 ⊢;refine Ob (P:=fun r=>r=true->k<x) (Oi (fun hc=>?_) (fun _=>.mk (fun h=>by cases h))) fun b hb=>?_;simp only[aH3]at hc;exact Ob (mE (by omega) (by omega)) fun j d=>Ob (pO d.2) fun y _=>.mk (fun _=>hc);refine Oi (fun hc=>?_) (fun _=>bY);simp only[aA3]at hc;have hk:=hb hc.1;refine Ob (mE (by omega) (by omega)) fun j d=>Ob (pO d.2) fun y _=>?_;refine Ob (P:=fun _=>True) (Oi (fun _=>?_) (fun _=>bY)) fun b _=>.mk ⟨hk,h2 hk,trivial⟩;exact Ob (mE (by omega) (by omega)) fun j d=>Ob (pO d.2) fun w _=>Ob (mE (by omega) (by omega)) fun u m=>Ob (pO m.2) fun z _=>Ob uJ2 fun b _=>bY;exact Ob (kR (by omega) c) fun v hv=>.mk ⟨hw,by dsimp only;omega⟩;obtain⟨x,l⟩:=q;dsimp only at hi f;simp only[hi,nf];exact .mk (by omega)
def uK2 {x1:Int} {x2:YM} (a:x2.sm):Ok (qI1 x1 x2) (fun v=>v=false->x2.cY<=8):=by
 unfold qI1;simp only[yE1,zX2];refine Ob (P:=fun r=>r=false->x2.cY<=8) (Oi (fun hc=>.mk (fun h=>?_)) (fun hc=>.mk (fun _=>?_))) fun b hb=>?_;simp at h;omega;simp at hc;omega;exact Ob (P:=fun r=>r=false->x2.cY<=8) (Oi (fun hc=>.mk (fun h=>by cases h)) (fun hc=>.mk (fun _=>hb (by simpa using hc)))) fun b hb=>.mk hb
def rZ1 {x1:aA YV} {x2:Y0} {p:Int} (n:x1.length+12<=1000000) (c:x2.sm):Ok (Cy x1 x2 p) (fun v=>(x1.length<=v.length/\v.length<=x1.length+12)/\(v.length<=x1.length->∀m∈x2.aD,m.cY<=8)):=by
 unfold Cy dT;have r:=c.aD;refine Ob (P:=fun v=>(x1.length<=v.length/\v.length<=x1.length+12)/\(v.length<=x1.length->∀m∈x2.aD,m.cY<=8)) (cG (l:=x2.aD) (fun q=>q.1) (fun i q=>q.2.length<=x1.length+i/\x1.length<=q.2.length/\(q.2.length<=x1.length->∀j,j<i->∀m,x2.aD[j]? =some m->m.cY<=8)) (by omega) rfl ⟨by dsimp only;omega,aC3 _,fun _ j f=>by omega⟩ (fun i e q o k hi hl d hg hw=>?_) (fun q hi d=>?_)) fun v hv=>.mk hv;obtain⟨x,l⟩:=q;dsimp only at hi hl d hg hw;simp only[hl,hg,nt];refine Ob (uK2 (c.cP e k)) fun b hb=>?_;refine Ob (Qy (by omega)) fun v hv=>.mk ⟨hw,?_,?_,fun h j f m a=>?_⟩;dsimp only;cases b<;>simp at hv<;>omega;dsimp only;cases b<;>simp at hv<;>omega;dsimp only at h;cases b with
 |true=>simp at hv;omega
 |false=>
  simp only[aK3,false_implies,forall_const,true_and]at hv;by_cases g:j=i;subst g;rw[o]at a;cases a;exact hb rfl;exact d.2.2 (by omega) j (by omega) m a
 obtain⟨x,l⟩:=q;dsimp only at hi d;simp only[hi,nf];refine .mk ⟨⟨by omega,by omega⟩,fun h m k=>?_⟩;obtain⟨j,f⟩:=aS3.1 k;exact d.2.2 h j (zZ2.1 f).1 m f
def uL2 {x1:Int}:Ok (qJ1 x1) (fun v=>0<=v/\v<=1000):=by
 unfold qJ1;refine Ob (P:=fun v=>0<=v.2/\v.2<=32) (Oi (fun _=>Ob (yL (by decide)) fun n _=>.mk (by dsimp only;omega)) (fun _=>.mk (by dsimp only;omega))) fun⟨g,h⟩ c=>?_;dsimp only at c;refine Ob (P:=fun v=>0<=v.2/\v.2<=48) (Oi (fun _=>Ob (yL (by decide)) fun n _=>.mk (by dsimp only;rw[bU (by omega) (by omega)];omega)) (fun _=>.mk (by dsimp only;omega))) fun⟨i,j⟩ d=>?_;dsimp only at d;refine Ob (P:=fun v=>0<=v.2/\v.2<=56) (Oi (fun _=>Ob (yL (by decide)) fun n _=>.mk (by dsimp only;rw[bU (by omega) (by omega)];omega)) (fun _=>.mk (by dsimp only;omega))) fun⟨f,e⟩ a=>?_;dsimp only at a;have hw:=gX2 f;refine Ob (Ag hw.1 hw.2) fun b hb=>.mk ?_;rw[bU (n:=b) (by omega) (by omega),bU (by omega) (by omega)];omega
def jQ1 {x1:Int}:Ok (Qw x1) (fun v=>0<=v/\v<=1000):=by
 unfold Qw;refine Ob (uL2) fun x2 a=>?_;exact .mk (by omega)
def bK1 {x1:YG} (c:x1.passes<=1000):fA (Mf x1):=by
 unfold Mf;refine oM (fun _=>?_) fun d a=>?_;refine Ob (Xq (by(simp only[nm]at *;rw[bU (by omega) (by omega)];omega))) fun x2 b=>?_;exact bY;exact bY
def uM2 {x1:YG} {x2:YM} (p:x2.sm) (y:x1.passes<=8) (hy:x2.cY<=8):Ok (qK1 x1 x2) (fun v=>v.1.passes<=8):=by
 unfold qK1;refine Oi (fun c1291=>.mk (by omega)) (fun c1291=>?_);refine Oi (fun c1292=>?_) (fun c1292=>?_);refine Oi (fun c1293=>.mk (by omega)) (fun c1293=>?_);refine Ob (jQ1) fun z e=>?_;refine Oi (fun c1295=>?_) (fun c1295=>?_);refine Oi (fun c1296=>.mk (by omega)) (fun c1296=>?_);refine Oi (fun c1297=>?_) (fun c1297=>?_);refine dP (bK1 (by(simp only[nm]at *;omega))) fun A=>?_;refine oN (fun _=>?_) fun C a=>?_;refine Ob (jQ1) fun B f=>?_;exact bY;refine Oi (fun c1302=>.mk (by omega)) (fun c1302=>?_);have l:=a c1302;exact .mk (by omega);exact .mk (by omega);refine oN (fun _=>?_) fun x11 b=>?_;refine oM (fun _=>?_) fun q g=>?_;refine dP (bK1 (by(simp only[nm]at *;omega))) fun D=>?_;refine oN (fun _=>?_) fun F h=>?_;refine Ob (Xq (by(simp(disch:=omega) only[bU,nm]at *;omega))) fun E i=>?_;exact bY;exact bY;exact bY;refine Oi (fun c1312=>.mk (by omega)) (fun c1312=>?_);have m:=b c1312;refine Oi (fun c1314=>?_) (fun c1314=>?_);refine dP (bK1 (by(simp only[nm]at *;omega))) fun r=>?_;refine oN (fun _=>?_) fun t c=>?_;refine Ob (jQ1) fun s j=>?_;exact bY;refine Oi (fun c1319=>.mk (by omega)) (fun c1319=>?_);have n:=c c1319;exact .mk (by omega);exact .mk (by omega);refine Oi (fun c1321=>.mk (by omega)) (fun c1321=>?_);refine Oi (fun c1322=>?_) (fun c1322=>?_);refine dP (bK1 (by omega)) fun u=>?_;refine oN (fun _=>?_) fun x d=>?_;refine Ob (jQ1) fun w k=>?_;exact bY;refine Oi (fun c1327=>.mk (by omega)) (fun c1327=>?_);have o:=d c1327;exact .mk (by omega);exact .mk (by omega)
def uN2 {x1:YG} {x2:YM} (d:x2.sm) (c:x1.passes<=8) (hy:x2.cY<=8):Ok (qL1 x1 x2) (fun v=>v.1.passes<=8):=by
 unfold qL1;refine Oi (fun _=>Ob (uM2 d c hy) fun⟨a,b⟩ h=>.mk h) (fun _=>?_);refine Oi (fun _=>?_) (fun _=>?_);refine Ob (bK1 (by omega)) fun f _=>?_;refine Oi (fun _=>.mk c) (fun _=>?_);refine Oi (fun _=>Oi (fun h=>by cases h) (fun _=>?_)) (fun _=>?_);exact Ob (P:=fun _=>True) (Oi (fun _=>bY) (fun _=>bY)) fun⟨a,b⟩ _=>.mk (show(0:Int)<=8 by decide);exact Ob (P:=fun _=>True) (Oi (fun _=>bY) (fun _=>bY)) fun a _=>.mk (show(0:Int)<=8 by decide);refine Oi (fun _=>Oi (fun _=>.mk c) (fun _=>?_)) (fun _=>?_);exact Ob (P:=fun _=>True) (Oi (fun _=>bY) (fun _=>bY)) fun⟨a,b⟩ _=>.mk (show(0:Int)<=8 by decide);exact Ob (P:=fun g=>g.passes<=8) (Oi (fun _=>.mk (show(0:Int)<=8 by decide)) (fun _=>.mk c)) fun g hg=>.mk hg
def jA2 {x1:aA YV} {x2:Y0} {s:Int} (k:x1.length+25<=1000000) (c:x2.sm) (o:0<x2.aD.length):Ok (iU1 x1 x2 s) (fun v=>x1.length<=v.length/\v.length<=x1.length+25):=by
 unfold iU1 dT;have t:=c.aD;refine Ob (rZ1 (by omega) c) fun j f=>?_;refine Oi (fun _=>.mk (by omega)) (fun hc=>?_);simp only[aH3]at hc;have n:=f.2 (by omega);have m:=f.1;refine Ob (P:=fun r=>match r with|.inl p=>j.length<=p.2.length/\p.2.length<=j.length+1|.inr g=>g.passes<=8) (cG (l:=x2.aD) (fun q=>q.1) (fun i q=>q.2.passes<=8) (by omega) rfl (show(0:Int)<=8 by decide) (fun i e q o h hi hl d hg hw=>?_) (fun q hi d=>?_)) fun r hr=>?_;obtain⟨x,g⟩:=q;dsimp only at hi hl d hg hw;simp only[hl,hg,nt];refine Ob (uN2 (c.cP e h) d (n e h)) fun⟨g2,b⟩ hb=>?_;refine Oi (fun _=>?_) (fun _=>.mk ⟨hw,hb⟩);exact Ob (kR (by omega) c) fun v hv=>.mk (by dsimp only;omega);obtain⟨x,g⟩:=q;dsimp only at hi d;simp only[hi,nf];exact .mk d;rcases r with⟨a,v⟩|g;exact .mk (by dsimp only at hr;omega);dsimp only at hr;refine Ob (P:=fun _=>True) (Oi (fun _=>bY) (fun _=>?_)) fun b _=>?_;exact Ob (P:=fun _=>True) (Oi (fun _=>Ob (bK1 (by omega)) fun _ _=>bY) (fun _=>bY)) fun _ _=>bY;refine Ob (dJ (Q:=fun _=>True) (by rw[bU (by omega) (by omega)];omega) (by rw[bU (by omega) (by omega)];omega) (fun _ _ _=>trivial)) fun y _=>?_;exact Ob (kR (by omega) c) fun v hv=>.mk (by omega)
def uO2 {x1 x2:YM} (a:x1.sm) (b:x2.sm):fA (qM1 x1 x2):=by
 unfold qM1;exact bY
def uP2 {x1:aA YM} {x2:YM} (j:x1.length<=12) (f:∀y∈x1,y.sm) (k:x2.sm):fA (qN1 x1 x2):=by
 unfold qN1 dT;have h:=j;refine vB (l:=x1) (fun q=>q) (fun m i o c g b a d=>?_) fun n=>?_;simp only[b,a,nt];have e:=f _ c;refine dP (uO2 e k) fun p=>?_;refine oJ (fun _=>?_);exact .mk d;rcases n with r|_;exact bY;exact bY
def uQ2 {x1:aA YM} {x2:YM} (b:x1.length<=12) (a:∀y∈x1,y.sm) (c:x2.sm):fA (qO1 x1 x2):=by
 unfold qO1;refine dP (uP2 b a c) fun d=>?_;exact bY
def uR2 {x1:YM} {x2:Int} (a:x1.sm):fA (qP1 x1 x2):=by
 unfold qP1;exact bY
def yW1 {x1:aA YM} {x2:Int} (j:x1.length<=12) (f:∀y∈x1,y.sm):fA (Mg x1 x2):=by
 unfold Mg dT;have h:=j;refine vB (l:=x1) (fun q=>q) (fun k i n c g b a d=>?_) fun m=>?_;simp only[b,a,nt];have e:=f _ c;refine dP (uR2 e) fun o=>?_;refine oJ (fun _=>?_);exact .mk d;rcases m with p|_;exact bY;exact bY
def yX1 {x1:YK} {x2:Int} (a:x1.s'.sm):fA (aW1 x1 x2):=by
 unfold aW1;refine dP (yW1 a.aD a.cP) fun b=>?_;exact bY
def yY1 {x1:Int} {x2:YK} {b:Int} (a:x2.s'.sm):fA (aX1 x1 x2 b):=by
 unfold aX1;refine dP (yX1 a) fun c=>?_;refine dP (tV) fun d=>?_;exact bY
def uS2 {x1:YK} {x2 g:Int} (a:x1.s'.sm):fA (qR1 x1 x2 g):=by
 unfold qR1;refine oM (fun _=>?_) fun i b=>?_;refine dP (yY1 a) fun h=>?_;exact bY;refine Oi (fun c1364=>?_) (fun c1364=>?_);have d:=b c1364;exact bY;refine dP ?_ fun j=>?_;refine oJ (fun _=>?_);exact bY;refine Oi (fun c1368=>?_) (fun c1368=>?_);refine dP (yY1 a) fun k=>?_;exact bY;refine dP ?_ fun l=>?_;refine oJ (fun _=>?_);exact bY;refine Oi (fun c1372=>?_) (fun c1372=>?_);refine dP (yY1 a) fun m=>?_;refine oM (fun _=>?_) fun f c=>?_;refine dP (yX1 a) fun e=>?_;refine dP (yX1 a) fun x11=>?_;exact bY;exact bY;exact bY
def uT2 {x1:Int} {x2:YM} {e:YK} (d:x2.sm) (a:e.s'.sm) (f:0<=x1/\x1<=(e.s'.aD.length:Int)):fA (qS1 x1 x2 e):=by
 unfold qS1;refine Ob tV fun w _=>?_;refine Ob (P:=fun _=>True) (Oi (fun _=>bY) (fun _=>Ob tV fun _ _=>bY)) fun b _=>?_;refine Oi (fun _=>bY) (fun _=>?_);refine Ob (Jv (by decide) f.1 f.2) fun l hl=>?_;refine Ob (uQ2 (bB3 hl.1 a.aD) (fun y hy=>a.cP y (hl.2 y hy)) d) fun c _=>?_;exact Ob (P:=fun _=>True) (Oi (fun _=>bY) (fun _=>Ob (uS2 a) fun _ _=>bY)) fun b _=>bY
def sA1 {x1:aA YV} {x2:Y0} {r:Int} (o:x1.length+12<=1000000) (d:x2.sm):Ok (Cz x1 x2 r) (fun v=>x1.length<=v.length/\v.length<=x1.length+12):=by
 unfold Cz dT;have i:=d.aD;refine oh x2.aD x1 12 1 (fun m k q1389 j g f b e a c=>?_) fun q n=>?_;obtain⟨s,t⟩:=q1389;dsimp only at f b a c e;simp only[b,a,nt];have h:=d.cP _ g;refine dP (uT2 h d (by(simp only[nm]at *;omega))) fun p=>?_;refine Ob (kR (by first|omega|(simp only[aN3]at *;omega)) d) fun x11 l=>?_;exact .mk ⟨c,by dsimp only;omega⟩;exact .mk (by omega)
def jB2 {x1:aA YV} {x2:Y0} {d:Int} (c:x1.length+12<=1000000) (b:x2.sm):Ok (iY1 x1 x2 d) (fun v=>x1.length<=v.length/\v.length<=x1.length+12):=by
 unfold iY1;refine Ob (sA1 (by first|omega|(simp only[aN3]at *;omega)) b) fun e a=>?_;exact .mk (by omega)
def uU2 {x1:Int} {x2:YM} (g:x2.sm):fA (qT1 x1 x2):=by
 unfold qT1 dT;refine dP (bE1 g) fun⟨J,K⟩=>?_;refine oM (fun _=>?_) fun M p=>?_;refine dP (tV) fun L=>?_;exact bY;refine oN (fun _=>?_) fun O r=>?_;refine dP (tV) fun N=>?_;exact bY;have m:=g.nN;refine vB (l:=x2.nN) (fun q=>q.2) (fun u o q1412 j e b a c=>?_) fun H=>?_;obtain⟨y,z⟩:=q1412;dsimp only at e b a c;simp only[b,a,nt];refine oN (fun _=>?_) fun B d=>?_;refine dP (tV) fun A=>?_;exact bY;refine oN (fun c1418=>?_) fun D f=>?_;have v:=d c1418;refine dP (tV) fun C=>?_;exact bY;refine oN (fun c1422=>?_) fun G s=>?_;have i:=f c1422;have w:=d i;refine oM (fun _=>?_) fun F t=>?_;have n:=g.nN;refine Ob (P:=fun x=>x∈x2.nN) (dJ (by(simp only[nm]at *;rw[bU (by omega) (by omega)];omega)) (by(simp only[nm]at *;rw[bU (by omega) (by omega)];omega)) (fun _ h _=>h)) fun E k=>?_;exact bY;exact bY;exact .mk c;exact bY
def sB1 {x1:aA YV} {x2:Y0} {r:Int} (o:x1.length+12<=1000000) (g:x2.sm):Ok (Da x1 x2 r) (fun v=>x1.length<=v.length/\v.length<=x1.length+12):=by
 unfold Da dT;have i:=g.aD;refine oh x2.aD x1 12 1 (fun m k q1441 j f e b d a c=>?_) fun q n=>?_;obtain⟨s,t⟩:=q1441;dsimp only at e b a c d;simp only[b,a,nt];have h:=g.cP _ f;refine dP (uU2 h) fun p=>?_;refine Ob (kR (by first|omega|(simp only[aN3]at *;omega)) g) fun x11 l=>?_;exact .mk ⟨c,by dsimp only;omega⟩;exact .mk (by omega)
def jC2 {x1:aA YV} {x2:Y0} {d:Int} (c:x1.length+12<=1000000) (b:x2.sm):Ok (jA1 x1 x2 d) (fun v=>x1.length<=v.length/\v.length<=x1.length+12):=by
 unfold jA1;refine Ob (sB1 (by first|omega|(simp only[aN3]at *;omega)) b) fun e a=>?_;exact .mk (by omega)
def uV2 {x1:YP} {x2:YE} {e:YK} (a:x2.sm) (c:e.s'.sm):fA (qU1 x1 x2 e):=by
 unfold qU1;refine Ob (iO2 c) fun⟨q,f⟩ d=>?_;dsimp only at d;refine Ob (P:=fun r=>¬r=true->f=true) (Oi (fun _=>.mk (fun h=>absurd rfl h)) (fun hc=>Ob (iL2 a) fun t _=>.mk (fun _=>by simpa using hc))) fun b hb=>?_;refine Oi (fun _=>bY) (fun hc=>?_);simp only[aQ3,cZ3]at hc;have:=d (hb hc.1);exact Ob (dJ (Q:=fun _=>True) this.1 this.2.1 (fun _ _ _=>trivial)) fun x _=>Ob (dJ (Q:=fun _=>True) this.2.2.1 this.2.2.2 (fun _ _ _=>trivial)) fun y _=>bY
def sC1 {x1:aA YV} {x2:Y0} {x3:Int} (d5:x1.length+3600<=1000000) (p:x2.sm):Ok (Db x1 x2 x3) (fun v=>x1.length<=v.length/\v.length<=x1.length+3600):=by
 unfold Db dT;have H:=p.aD;refine oh x2.aD x1 3600 300 (fun T D q1458 M z u e q a i=>?_) fun d4 a0=>?_;obtain⟨d6,X⟩:=q1458;dsimp only at u e a i q;simp only[e,a,nt];have m:=p.cP _ z;have J:=m.aQ;refine oh D.aQ X 300 60 (fun U E q1472 N A w f r b j=>?_) fun d3 b0=>?_;obtain⟨d7,Y⟩:=q1472;dsimp only at w f b j r;simp only[f,a,b,nt];have n:=m.gU _ A;have K:=n.aM;refine oh E.aM Y 60 20 (fun V F q1486 O B x g s c k=>?_) fun d2 b4=>?_;obtain⟨d8,Z⟩:=q1486;dsimp only at x g c k s;simp only[g,a,b,c,nt];have o:=n.fK _ B;have L:=o.aT;refine oh F.aT Z 20 1 (fun W R q1500 P C y h t d l=>?_) fun d0 b5=>?_;obtain⟨b6,b7⟩:=q1500;dsimp only at y h d l t;simp only[h,a,b,c,d,nt];have G:=o.fR _ C;refine dP (uV2 G p) fun b8=>?_;refine Ob (kR (by first|omega|(simp only[aN3]at *;omega)) p) fun b9 S=>?_;exact .mk ⟨l,by dsimp only;omega⟩;exact .mk ⟨k,by dsimp only;omega⟩;exact .mk ⟨j,by dsimp only;omega⟩;exact .mk ⟨i,by dsimp only;omega⟩;exact .mk (by omega)
def jD2 {x1:aA YV} {x2:Y0} {d:Int} (c:x1.length+3600<=1000000) (b:x2.sm):Ok (jC1 x1 x2 d) (fun v=>x1.length<=v.length/\v.length<=x1.length+3600):=by
 unfold jC1;refine Ob (sC1 (by first|omega|(simp only[aN3]at *;omega)) b) fun e a=>?_;exact .mk (by omega)
def tW {c1 c2:Bool} {x:aA YV} {R:aB (aA YV)} (c:Ok R fun _=>True):Ok (((if decide ((x.length:Int)>0)=true then((if c1=true then some true else((if c2=true then(gM x 0).bind fun a=>(fQ x a).bind fun v=>some (decide (v.jX<10))else some false:aB Bool)).bind fun y=>some y:aB Bool)).bind fun z=>some z else some false:aB Bool)).bind fun b=>if b=true then some x else R) fun _=>True:=by
 have k:∀D:aB Bool,(∃b,D=some b)->Ok (D.bind fun b=>if b=true then some x else R) fun _=>True:=fun D h=>by
  obtain⟨b,rfl⟩:=h;cases b with
  |true=>exact bY
  |false=>exact c
 refine k _ ?_;cases x with
 |nil=>exact⟨_,rfl⟩
 |cons v r=>
  have e:gM (v::r) 0=some 0:=by
   unfold gM sD;rw[aE3 ⟨by decide,by simp⟩];rfl
  rw[aE3 (by simp),e];cases c1<;>cases c2<;>exact⟨_,rfl⟩
def T54 {x1:Y0} (a:x1.sm) (b:0<x1.aD.length):fA (F54 x1):=by
 unfold F54;refine tW (Ob (gZ2 (by simp only[nl]at *;omega) a) fun _ _=>?_);refine tW (Ob (hB2 (by simp only[nl]at *;omega) a) fun _ _=>?_);refine tW (Ob (hG2 (by simp only[nl]at *;omega) a) fun _ _=>?_);refine tW (Ob (hJ2 (by simp only[nl]at *;omega) a) fun _ _=>?_);refine tW (Ob (hO2 (by simp only[nl]at *;omega) a) fun _ _=>?_);refine tW (Ob (iD2 (by simp only[nl]at *;omega) a) fun _ _=>?_);refine tW (Ob (iF2 (by simp only[nl]at *;omega) a) fun _ _=>?_);refine tW (Ob (iI2 (by simp only[nl]at *;omega) a) fun _ _=>?_);refine tW (Ob (iK2 (by simp only[nl]at *;omega) a) fun _ _=>?_);refine tW (Ob (iQ2 (by simp only[nl]at *;omega) a) fun _ _=>?_);refine tW (Ob (iS2 (by simp only[nl]at *;omega) a) fun _ _=>?_);refine tW (Ob (iW2 (by simp only[nl]at *;omega) a) fun _ _=>?_);refine tW (Ob (iZ2 (by simp only[nl]at *;omega) a) fun _ _=>?_);refine tW (Ob (jA2 (by simp only[nl]at *;omega) a b) fun _ _=>?_);refine tW (Ob (jB2 (by simp only[nl]at *;omega) a) fun _ _=>?_);refine tW (Ob (jC2 (by simp only[nl]at *;omega) a) fun _ _=>?_);refine tW (Ob (jD2 (by simp only[nl]at *;omega) a) fun _ _=>?_);exact bY
def T19 {x1:Y0} (a:x1.sm):fA (Ho x1):=by
 unfold Ho;refine Ob (P:=fun _=>True) ?_ fun v _=>bY;by_cases h0:0<x1.aD.length;exact(T54 a h0).mono fun _ _=>trivial;unfold F54;refine Ob (P:=fun r=>r=false) (Oi (fun h=>by simp at h) (fun _=>.mk rfl)) fun b hb=>?_;subst hb;refine Oi (fun h=>by cases h) (fun _=>?_);refine Ob (gY2 a (by omega) (by decide)) fun v hv=>?_;refine Ob (P:=fun r=>r=true) (Oi (fun h=>Ob (P:=fun r=>r=true) (Oi (fun _=>.mk rfl) (fun h=>absurd rfl h)) fun b hb=>.mk hb) (fun h=>by simp at h;simp[h]at hv)) fun b hb=>?_;subst hb;exact Oi (fun _=>bY) (fun h=>absurd rfl h)
end Go.P
set_option maxHeartbeats 1000000
namespace Go.P
def mF {α β:Type} {x:aB α} {a:α} {K:α->aB β} {r:aB β} (h:x=some a) (hk:K a=r):x.bind K=r:=by subst h;exact hk
def Ok.eq {α:Type} {x:aB α} {a:α} (h:Ok x (fun v=>v=a)):x=some a:=by
 obtain⟨v,h1,rfl⟩:=h;exact h1
def jR1 {A:Type} {l:aA A} {body:Int->aB (Int⊕(Unit⊕Unit))} (p:A->Bool) (hl:l.length<9223372036854775808)
  (h:∀(i:Int) (x:A),0<=i->i<(l.length:Int)->x∈l->bM l i=some x->bK (i+1)=i+1->body i=some (if p x then .inr (.inl ())else .inl (i+1)))
  (b:body (l.length:Int)=some (.inr (.inr ()))):bC body bS 0=some (if l.any p then .inl ()else .inr ()):=by
 refine Ok.eq (qU (fun x=>p x=false) hl (fun i x h0 h1 c hg hw=>?_) (fun i hi a=>?_));rw[h i x h0 h1 c hg hw];cases hp:p x with
 |false=>exact .mk ⟨rfl,rfl⟩
 |true=>
  refine .mk ?_;have:l.any p=true:=List.any_eq_true.2 ⟨x,c,hp⟩;rw[this];rfl
 rw[hi,b];refine .mk ?_;have:l.any p=false:=by rw[List.any_eq_false];intro x c;rw[a x c];exact Bool.false_ne_true
 rw[this];rfl
section
variable {K V:Type} [DecidableEq K]
end
end Go.P
namespace Go.P
variable {s:Y0}
def tX {x v:aA YV} {D:aB Bool} {R:aB (aA YV)} (h:((if decide ((x.length:Int)>0)then D else some false).bind fun b=>if b then some x else R)=some v) (h0:v.length=0):R=some v:=by
 by_cases a:((x.length:Int)>0);rw[aE3 (by simpa using a)]at h;cases D with
 |none=>cases h
 |some b=>
  cases b with
  |true=>simp at h;subst h;omega
  |false=>exact h
 grind
def gQ {A B:Type} {x:aB A} {k:A->aB B} {v:B} (h:x.bind k=some v):∃a,x=some a/\k a=some v:=zY2.1 h
def tY {A:Type} {l:aA A} (h:l.length=0):l=[]:=cF3 h
structure uW1 (s:Y0):Prop where
 r1:Qs [] s 1=some []
 r2:gQ1 [] s 2=some []
 r3:aO1 [] s 3=some []
 r4:gT1 [] s 4=some []
 r5:gV1 [] s 5=some []
 r6:hP1 [] s 6=some []
 r7:hS1 [] s 7=some []
 r8:aS1 [] s 8=some []
 r9:hW1 [] s 9=some []
 r10:iD1 [] s 10=some []
 r11:iF1 [] s 11=some []
 r12:iM1 [] s 12=some []
 r13:iS1 [] s 13=some []
 r14:iU1 [] s 14=some []
 r15:iY1 [] s 15=some []
 r16:jA1 [] s 16=some []
 r17:jC1 [] s 17=some []
def sD1 (hs:s.sm) (z:0<s.aD.length) {v:aA YV} (h:F54 s=some v) (h0:v.length=0):uW1 s:=by
 unfold F54 at h;have h:=tX h h0;obtain⟨x1,p,h⟩:=gQ h;have R:=(gZ2 (by decide) hs).of p;have h:=tX h h0;obtain⟨x2,e2,h⟩:=gQ h;have S:=(hB2 (by simp only[nl]at *;omega) hs).of e2;have h:=tX h h0;obtain⟨J,q,h⟩:=gQ h;have T:=(hG2 (by simp only[nl]at *;omega) hs).of q;have h:=tX h h0;obtain⟨K,r,h⟩:=gQ h;have U:=(hJ2 (by simp only[nl]at *;omega) hs).of r;have h:=tX h h0;obtain⟨L,t,h⟩:=gQ h;have V:=(hO2 (by simp only[nl]at *;omega) hs).of t;have h:=tX h h0;obtain⟨M,u,h⟩:=gQ h;have W:=(iD2 (by simp only[nl]at *;omega) hs).of u;have h:=tX h h0;obtain⟨N,w,h⟩:=gQ h;have X:=(iF2 (by simp only[nl]at *;omega) hs).of w;have h:=tX h h0;obtain⟨O,x,h⟩:=gQ h;have i8:=(iI2 (by simp only[nl]at *;omega) hs).of x;have h:=tX h h0;obtain⟨P,y,h⟩:=gQ h;have Y:=(iK2 (by simp only[nl]at *;omega) hs).of y;have h:=tX h h0;obtain⟨j,a,h⟩:=gQ h;have A:=(iQ2 (by simp only[nl]at *;omega) hs).of a;have h:=tX h h0;obtain⟨x11,b,h⟩:=gQ h;have B:=(iS2 (by simp only[nl]at *;omega) hs).of b;have h:=tX h h0;obtain⟨k,c,h⟩:=gQ h;have C:=(iW2 (by simp only[nl]at *;omega) hs).of c;have h:=tX h h0;obtain⟨l,d,h⟩:=gQ h;have D:=(iZ2 (by simp only[nl]at *;omega) hs).of d;have h:=tX h h0;obtain⟨m,e,h⟩:=gQ h;have E:=(jA2 (by simp only[nl]at *;omega) hs z).of e;have h:=tX h h0;obtain⟨n,f,h⟩:=gQ h;have F:=(jB2 (by simp only[nl]at *;omega) hs).of f;have h:=tX h h0;obtain⟨o,g,h⟩:=gQ h;have i16:=(jC2 (by simp only[nl]at *;omega) hs).of g;have h:=tX h h0;obtain⟨H,i,h⟩:=gQ h;have G:=(jD2 (by simp only[nl]at *;omega) hs).of i;cases h;have z17:v=[]:=tY h0;have z16:o=[]:=tY (by simp only[nl]at *;omega);have z15:n=[]:=tY (by simp only[nl]at *;omega);have z14:m=[]:=tY (by simp only[nl]at *;omega);have z13:l=[]:=tY (by simp only[nl]at *;omega);have z12:k=[]:=tY (by simp only[nl]at *;omega);have z11:x11=[]:=tY (by simp only[nl]at *;omega);have z10:j=[]:=tY (by simp only[nl]at *;omega);have z9:P=[]:=tY (by simp only[nl]at *;omega);have z8:O=[]:=tY (by simp only[nl]at *;omega);have z7:N=[]:=tY (by simp only[nl]at *;omega);have z6:M=[]:=tY (by simp only[nl]at *;omega);have z5:L=[]:=tY (by simp only[nl]at *;omega);have z4:K=[]:=tY (by simp only[nl]at *;omega);have z3:J=[]:=tY (by simp only[nl]at *;omega);have z2:x2=[]:=tY (by simp only[nl]at *;omega);have z1:x1=[]:=tY (by simp only[nl]at *;omega);subst z1 z2 z3 z4 z5 z6 z7 z8 z9 z10 z11 z12 z13 z14 z15 z16 z17;exact⟨p,e2,q,r,t,u,w,x,y,a,b,c,d,e,f,g,i⟩
def Un (hs:s.sm) (a:0<s.aD.length) (hv:Ho s=some true):uW1 s:=by
 unfold Ho at hv;obtain⟨v,h,hv⟩:=gQ hv;exact sD1 hs a h (by simp at hv;simp[hv])
end Go.P
namespace Go.P
def oC {A S E T:Type} {l:aA A} {body:S->aB (S⊕E)} {s0:S} {Q:E->Prop} (a:S->Int) (b:S->T) (f:T->A->T) (hl:l.length<9223372036854775808) (h0:a s0=0)
  (h:∀(i:Nat) (x:A) (q:S),l[i]? =some x->x∈l->a q=(i:Int)->a q<(l.length:Int)->b q=(l.take i).foldl f (b s0)->bM l (a q)=some x->bK (a q+1)=(i:Int)+1->Ok (body q) (fun r=>match r with|.inl q'=>a q'=(i:Int)+1/\b q'=f (b q) x|.inr e=>False))
  (d:∀q,a q=(l.length:Int)->b q=l.foldl f (b s0)->Ok (body q) (fun r=>match r with|.inl _=>False|.inr e=>Q e)):Ok (bC body bS s0) Q:=by
 refine cG (l:=l) a (fun i q=>b q=(l.take i).foldl f (b s0)) hl h0 (by simp) (fun i x q j k hi g c hg hw=>?_) (fun q hi c=>?_);refine(h i x q j k hi g c hg hw).mono fun r hr=>?_;cases r with
 |inl q'=>
  refine⟨hr.1,?_⟩;rw[hr.2,c,List.take_add_one,j];simp
 |inr e=>exact hr.elim
 rw[bU3]at c;exact(d q hi c).mono fun r hr=>by cases r<;>exact hr
def iW {A:Type} {l:aA A} {i:Nat} (h:i<l.length):bM l (i:Int)=some l[i]:=by
 unfold bM;rw[aE3 (by omega),Int.toNat_natCast];exact aO3 h
variable {s:Y0}
def T58 {x1:YM} {x2:Int} (h:x1.sm):Ok (F58 x1 x2) (fun _=>True):=by
 unfold F58;refine Oi (fun _=>.mk trivial) (fun hc=>?_);simp at hc;refine Ob (dJ (Q:=fun c=>c∈x1.aQ) (by omega) (by omega) (fun x h _=>h)) fun c f=>?_;have a:=h.gU c f;have hv:=a.aM;refine Ob (P:=fun _=>True) ?_ fun v _=>.mk trivial;have e:Ul c.aM=rJ1 c.aM F93:=rfl;unfold jE1;rw[e];refine Ob (Mj (by omega) fun v b=>?_) fun v _=>.mk trivial;have d:=(a.fK v b).aT
 have:Ok (F93 v) (fun _=>True):=by
  unfold F93 jD1;have e2:Uk v.aT=rJ1 v.aT F95:=rfl;rw[e2];exact Ob (P:=fun _=>True) (Ob (Mj (by omega) fun x _=>⟨_,rfl⟩) fun v _=>.mk trivial) fun v _=>.mk trivial
 exact this.ex
def slv (m:YM) (j:Int):Bool:=(F58 m j).getD true
def jS1 {m:YM} (a:m.sm) (j:Int):F58 m j=some (slv m j):=by
 obtain⟨v,h,_⟩:=T58 (x2:=j) a;unfold slv;rw[h];rfl
def Bp (s:Y0):Nat:=(s.bG.map fun p=>p.bN.length).sum
def oD (l:aA YJ) (n:Int):l.foldl (fun t p=>t+(p.bN.length:Int)) n=n+(((l.map fun p=>p.bN.length).sum:Nat):Int):=by
 induction l generalizing n with
 |nil=>simp
 |cons p l ih=>rw[List.foldl_cons,ih];simp;omega
def Mk {l:aA YJ} (h:∀p∈l,p.bN.length<=5):(l.map fun p=>p.bN.length).sum<=5*l.length:=by
 induction l with
 |nil=>simp
 |cons p l ih=>
  have h1:=h p (by simp);have h2:=ih (fun q a=>h q (by simp[a]));simp only[bQ3,List.sum_cons,bG3];omega
def jT1 (hs:s.sm) {i:Int} (h0:0<=i) (h1:i<(s.bG.length:Int)):∃p,bM s.bG i=some p/\p.bN.length<=5/\∃a:Nat,Rj s i=some ((a:Int),0)/\a<=20:=by
 have hp:=hs.bG;have hi:i.toNat<s.bG.length:=by omega
 have d:nG s.bG 0 i=some (s.bG.take i.toNat):=by
  unfold nG;rw[aE3 ⟨by omega,h0,by omega⟩];simp
 have c:∀k,((s.bG.take k).map fun p=>p.bN.length).sum<=20:=fun k=>by
  have:=Mk (l:=s.bG.take k) (fun p hp=>(hs.jK p (cM3 hp)).bN);have:(s.bG.take k).length<=4:=by rw[cC3];omega
  omega
 have hg:bM s.bG i=some s.bG[i.toNat]:=by
  have:=iW (l:=s.bG) hi
  rwa [Int.toNat_of_nonneg h0]at this
 refine⟨s.bG[i.toNat],hg,(hs.jK _ (cE3 hi)).bN,((s.bG.take i.toNat).map fun p=>p.bN.length).sum,?_,c _⟩;unfold Rj Xj dT;rw[aG3 (by simp;omega),d];simp only[zX2];have e:(s.bG.take i.toNat).length<=4:=by rw[cC3];omega
 refine mF (a:=((((s.bG.take i.toNat).map fun p=>p.bN.length).sum:Nat):Int)) (mF (Ok.eq (oC (l:=s.bG.take i.toNat) (fun q=>q.2) (fun q=>q.1) (fun t p=>t+(p.bN.length:Int)) (by omega) rfl (fun j p q h f hi hl b hg hw=>?_) (fun q hi b=>?_))) rfl) rfl;obtain⟨t,k⟩:=q;dsimp only at hi hl b hg hw;rw[oD,List.take_take]at b;have:=c (min j i.toNat);have g:=(hs.jK p (cM3 f)).bN;simp only[hl,hg,nt];refine .mk ⟨hw,?_⟩;dsimp only;rw[bU (by omega) (by omega)];obtain⟨t,k⟩:=q;dsimp only at hi b;rw[oD]at b;simp only[hi,nf];refine .mk ?_;rw[b];omega
def rv (a n:Nat) (m:YM):Bool:=(List.range n).all fun k=>slv m ((a:Int)+k)
def Qz (n:Nat) (f:Nat->Bool):(List.range (n+1)).all f=((List.range n).all f&&f n):=by grind
def yZ1 (hs:s.sm) {i:Int} {p:YJ} {a:Nat} (hp:bM s.bG i=some p) (O:p.bN.length<=5) (K:Rj s i=some ((a:Int),0)) (H:a<=20):
  F26 s i=some (s.aD.map (rv a p.bN.length)):=by
 have R:=hs.aD;unfold F26 dT;rw[K];simp only[zX2]
 have C:vL (s.aD.length:Int) (s.aD.length:Int) false=some (List.replicate s.aD.length false):=by
  obtain⟨v,h,rfl⟩:=tU (n:=(s.aD.length:Int)) (c:=(s.aD.length:Int)) (z:=false) (by omega) (by omega) (by omega);rw[h];simp
 rw[C];simp only[zX2]
 have key:∀(i:Nat) (l:aA Bool) (b:Bool),l=(s.aD.take i).map (rv a p.bN.length)++List.replicate (s.aD.length-i) false->i<s.aD.length->l.length=s.aD.length/\∀c,l.set i c=(s.aD.take i).map (rv a p.bN.length)++c::List.replicate (s.aD.length-(i+1)) false:=by
  intro i l b h hi;subst h;refine⟨by simp;omega,fun c=>?_⟩;rw[List.set_append_right _ _ (by simp;omega)];simp only[bW3,cC3];rw[cI3 (by omega),Nat.sub_self];obtain⟨k,hk⟩:∃k,s.aD.length-i=k+1:=⟨s.aD.length-i-1,by omega⟩
  rw[hk,List.replicate_succ,List.set_cons_zero,show s.aD.length-(i+1)=k by omega]
 refine mF (a:=s.aD.map (rv a p.bN.length)) (Ok.eq (cG (l:=s.aD) (fun q=>q.1) (fun i q=>q.2=(s.aD.take i).map (rv a p.bN.length)++List.replicate (s.aD.length-i) false) (by omega) rfl (by simp) (fun j m q E L hi hl g hg hw=>?_) (fun q hi g=>?_))) rfl;obtain⟨k,l⟩:=q;dsimp only at hi hl g hg hw;have r:=(zZ2.1 E).1;obtain⟨hlen,dC⟩:=key j l true g r;have D:=hs.cP m L;subst hi;simp only[hl,hg,nt,hp]
 have d:∀l':aA Bool,l'.length=s.aD.length->gM l' (j:Int)=some j:=fun l' h=>by
  obtain⟨v,h1,h2,_⟩:=mE (l:=l') (i:=(j:Int)) (by omega) (by omega);rw[h1,h2];simp
 have e:∀(l':aA Bool) (f:Bool->Bool),l'.length=s.aD.length->∃b,fQ l' j=some b/\l'[j]? =some b/\iG l' j f=some (l'.set j (f b)):=fun l' f h=>by
  have B:j<l'.length:=by omega
  refine⟨l'[j],?_,by simp[B],?_⟩;unfold fQ;simp[B];unfold iG;simp[B]
 rw[d l hlen];simp only[zX2];obtain⟨b,_,_,J⟩:=e l (fun _=>true) hlen;rw[J];simp only[zX2];refine Ob (P:=fun v=>v=l.set j (rv a p.bN.length m)) (kO (fun q=>q.1) (p.bN.length:Int) (fun q=>0<=q.1/\q.1<=(p.bN.length:Int)/\q.2=l.set j ((List.range q.1.toNat).all fun k=>slv m ((a:Int)+k))) (by omega) (by simp) ⟨by simp,by simp,by simp⟩ (fun q o _ M=>?_)) fun v hv=>.mk ⟨hw,?_⟩;obtain⟨k,w⟩:=q;dsimp only at o;obtain⟨N,g2,u⟩:=o;have t:w.length=s.aD.length:=by rw[u];simp[hlen]
 have hb:w[j]? =some ((List.range k.toNat).all fun k=>slv m ((a:Int)+k)):=by rw[u];simp[hlen,r]
 by_cases hk:k<(p.bN.length:Int);rw[aE3 (by simpa using hk)];obtain⟨b2,F,e2,G⟩:=e w (fun _=>((List.range k.toNat).all fun k=>slv m ((a:Int)+k))&&slv m ((a:Int)+k)) t;rw[d w t];simp only[zX2];rw[F];have y:b2=((List.range k.toNat).all fun k=>slv m ((a:Int)+k)):=by rw[hb]at e2;exact(bR3 e2).symm
 simp only[zX2];rw[bU (n:=(a:Int)+k) (by omega) (by omega),jS1 D];have A:(if b2=true then((some (slv m ((a:Int)+k))).bind fun x=>some x)else some false)=some (b2&&slv m ((a:Int)+k)):=by cases b2<;>rfl
 rw[A];simp only[zX2];rw[y,G];simp only[zX2];refine .mk ?_;dsimp only;rw[bU (by omega) (by omega)];refine⟨by omega,by omega,⟨by omega,by omega,?_⟩⟩;rw[show(k+1).toNat=k.toNat+1 by omega,Qz,u,List.set_set,show((k.toNat:Nat):Int)=k by omega];rw[aG3 (by simpa using hk)];refine .mk ?_;have:k.toNat=p.bN.length:=by omega
 rw[u,this];rfl;subst hv;dsimp only;rw[dC,List.take_add_one,E];simp;obtain⟨k,l⟩:=q;dsimp only at hi g;subst hi;simp only[nf];refine .mk ?_;rw[g];simp
def jU1 (hs:s.sm) {i:Int} {p:YJ} {a:Nat} (hp:bM s.bG i=some p) (o:p.bN.length<=5) (h:Rj s i=some ((a:Int),0)) (f:a<=20) {j:Int} {m:YM} (d:bM s.aD j=some m):
  F31 s i j=some (rv a p.bN.length m):=by
 have c:=hs.cP m (iO d).2.2.1;unfold F31;rw[h];simp only[zX2];refine Ok.eq (Ob (P:=fun e=>match e with|.inl _=>rv a p.bN.length m=false|.inr _=>rv a p.bN.length m=true) (kO (fun q=>q) (p.bN.length:Int) (fun q=>0<=q/\q<=(p.bN.length:Int)/\((List.range q.toNat).all fun k=>slv m ((a:Int)+k))=true) (by omega) (by simp) ⟨by simp,by simp,by simp⟩ (fun q g _ hw=>?_)) fun v hv=>?_);obtain⟨l,g2,b⟩:=g;rw[hp];simp only[zX2];by_cases hk:q<(p.bN.length:Int);rw[aE3 (by simpa using hk),d];simp only[zX2];rw[bU (n:=(a:Int)+q) (by omega) (by omega),jS1 c];simp only[zX2];cases hv:slv m ((a:Int)+q)with
 |false=>
  rw[aE3 (by simp)];refine .mk ?_;dsimp only;unfold rv;rw[List.all_eq_false];exact⟨q.toNat,by simp;omega,by rw[show((q.toNat:Nat):Int)=q by omega,hv];simp⟩
 |true=>
  rw[aG3 (by simp)];refine .mk ?_;dsimp only;rw[bU (by omega) (by omega)];refine⟨by omega,by omega,⟨by omega,by omega,?_⟩⟩;rw[show(q+1).toNat=q.toNat+1 by omega,Qz,b,show((q.toNat:Nat):Int)=q by omega,hv];rfl
 rw[aG3 (by simpa using hk)];refine .mk ?_;have:q.toNat=p.bN.length:=by omega
 rw[this]at b;exact b;cases v with
 |inl _=>exact .mk hv.symm
 |inr _=>exact .mk hv.symm
def en (L:aA Bool) (r:Int) (j:Nat):Bool:=decide (L[j]? =some false/\r<=(j:Int)/\∀k,k<j->(j:Int)-r<=(k:Int)->L[k]? =some true)
def vM (L:aA Bool) (r:Int) (n:Nat):aA Int:=((List.range n).filter (en L r)).map fun(j:Nat)=>(j:Int)
def zB1 (hs:s.sm) {i:Int} {p:YJ} {a:Nat} (hp:bM s.bG i=some p) (t:p.bN.length<=5) (w:Rj s i=some ((a:Int),0)) (c:a<=20) {j:Nat} (x:j<s.aD.length) {r:Int} (hr:1<=r) (y:r<=1000):
  F30 s i j r=some (en (s.aD.map (rv a p.bN.length)) r j):=by
 have A:=hs.aD;have b:∀k,(h:k<s.aD.length)->F31 s i (k:Int)=some (rv a p.bN.length s.aD[k])/\(s.aD.map (rv a p.bN.length))[k]? =some (rv a p.bN.length s.aD[k]):=fun k h=>⟨jU1 hs hp t w c (iW h),by simp[h]⟩
 unfold F30;obtain⟨l,e2⟩:=b j x;rw[l];simp only[zX2];by_cases hc:(rv a p.bN.length s.aD[j]||decide ((j:Int)<r))=true;rw[aE3 hc]
 have:en (s.aD.map (rv a p.bN.length)) r j=false:=by
  unfold en;rw[bD3,e2];rintro⟨h1,h2,_⟩;cases h1':rv a p.bN.length s.aD[j]with
  |true=>rw[h1']at h1;simp at h1
  |false=>rw[h1']at hc;simp at hc;omega
 rw[this];rw[aG3 hc];simp only[aQ3,cZ3,dM3,bD3]at hc;obtain⟨c1,c2⟩:=hc;rw[bU (n:=(j:Int)-r) (by omega) (by omega)];refine Ok.eq (Ob (P:=fun e=>match e with|.inl _=>en (s.aD.map (rv a p.bN.length)) r j=false|.inr _=>en (s.aD.map (rv a p.bN.length)) r j=true) (kO (fun q=>q) (j:Int) (fun q=>(j:Int)-r<=q/\q<=(j:Int)/\∀k:Nat,(k:Int)<q->(j:Int)-r<=(k:Int)->(s.aD.map (rv a p.bN.length))[k]? =some true) (by omega) (by omega) ⟨by omega,by omega,fun k h1 h2=>by omega⟩ (fun q u _ hw=>?_)) fun v hv=>?_);obtain⟨z,g2,g⟩:=u;by_cases hk:q<(j:Int);rw[aE3 (by simpa using hk)];obtain⟨f,m⟩:=b q.toNat (by omega)
 rw[show((q.toNat:Nat):Int)=q by omega]at f;rw[f];simp only[zX2];cases hv:rv a p.bN.length s.aD[q.toNat]with
 |false=>
  rw[aE3 (by simp)];refine .mk ?_;dsimp only;unfold en;rw[bD3];rintro⟨_,_,o⟩;have:=o q.toNat (by omega) (by omega)
  rw[m,hv]at this;simp at this
 |true=>
  rw[aG3 (by simp)];refine .mk ?_;dsimp only;rw[hw hk];refine⟨hk,rfl,by omega,by omega,fun k h1 h2=>?_⟩;by_cases d:(k:Int)<q;exact g k d h2
  grind
 rw[aG3 (by simpa using hk)];refine .mk ?_;dsimp only;unfold en;rw[decide_eq_true_iff,e2,c1];exact⟨rfl,by omega,fun k h1 h2=>g k (by omega) h2⟩;cases v with
 |inl _=>exact .mk hv.symm
 |inr _=>exact .mk hv.symm
end Go.P
namespace Go.P
variable {s:Y0}
def uU {A V:Type} {xs:aA A} {body:Int×aA V->aB ((Int×aA V)⊕aA V)} {l:aA V} (K:Nat) (G:Nat->A->Prop) (g:xs.length<9223372036854775808)
  (h:∀(i:Nat) (x:A) (v:aA V),xs[i]? =some x->x∈xs->v.length<=l.length+K*i->i<xs.length->bM xs (i:Int)=some x->bK ((i:Int)+1)=(i:Int)+1->Ok (body ((i:Int),v)) (fun r=>match r with|.inl q=>q.1=(i:Int)+1/\v.length<=q.2.length/\q.2.length<=v.length+K/\(q.2.length<=v.length->G i x)|.inr _=>False))
  (b:∀v,body ((xs.length:Int),v)=some (.inr v)):Ok (bC body bS (0,l)) (fun v=>l.length<=v.length/\v.length<=l.length+K*xs.length/\(v.length<=l.length->∀i x,xs[i]? =some x->G i x)):=by
 refine cG (l:=xs) (fun q=>q.1) (fun i q=>l.length<=q.2.length/\q.2.length<=l.length+K*i/\(q.2.length<=l.length->∀j x,j<i->xs[j]? =some x->G j x)) g rfl ⟨aC3 _,Nat.le_add_right _ _,fun _ j x n=>by omega⟩ (fun i x q d o hi f a hg hw=>?_) (fun q hi a=>?_);obtain⟨k,v⟩:=q;dsimp only at hi f a hg hw;rw[hi]at hg hw ⊢;obtain⟨u,p,s⟩:=a;refine(h i x v d o p (by omega) hg hw).mono fun r hr=>?_;cases r with
 |inr _=>exact hr.elim
 |inl q=>
  obtain⟨h1,h2,t,m⟩:=hr;refine⟨h1,by omega,by rw[Nat.mul_succ];omega,fun c j y n hy=>?_⟩;by_cases e:j=i;subst e;rw[d]at hy;cases hy;exact m (by omega);exact s (by omega) j y (by omega) hy
 obtain⟨k,v⟩:=q;dsimp only at hi a;rw[hi,b];exact .mk ⟨a.1,a.2.1,fun c j x d=>a.2.2 c j x (zZ2.1 d).1 d⟩
def jE2 (s:Y0) (P:Nat->Nat->Nat->Nat->YE->Prop):Prop:=∀(i j k n:Nat) m c v e,s.aD[i]? =some m->m.aQ[j]? =some c->c.aM[k]? =some v->v.aT[n]? =some e->P i j k n e
def uW2 {l:aA YV} {s:Y0} {r:Int} (h:l.length+3600<=1000000) (hs:s.sm):Ok (Jt l s r) (fun v=>v.length<=l.length->jE2 s fun i j k n e=>Hm (YP.mk 4 0 j i k n 0) e=some false):=by
 unfold Jt dT;have U:=hs.aD;refine Ob (uU (xs:=s.aD) (l:=l) 300 (fun i m=>∀(j k n:Nat) c v e,m.aQ[j]? =some c->c.aM[k]? =some v->v.aT[n]? =some e->Hm (YP.mk 4 0 j i k n 0) e=some false) (by omega) (fun i m O W C G hi hg hw=>?_) (fun v=>by dsimp only;rw[aG3 (by simp)])) fun v hv=>.mk fun f i j k n m c v e a b o d=>hv.2.2 f i m a j k n c v e b o d;have S:=(hs.cP m C).aQ;dsimp only;rw[aE3 (by simp;omega),hg];simp only[zX2];refine Ob (uU (xs:=m.aQ) (l:=O) 60 (fun j c=>∀(k n:Nat) v e,c.aM[k]? =some v->v.aT[n]? =some e->Hm (YP.mk 4 0 j i k n 0) e=some false) (by omega) (fun j c P L w H D p z=>?_) (fun v=>by dsimp only;rw[aG3 (by simp)])) fun v hv=>.mk ⟨hw,hv.1,by have:=hv.2.1;dsimp only;omega,fun f j k n c v e a b o=>hv.2.2 f j c a k n v e b o⟩;have hc:=(hs.cP m C).gU c w;have V:=hc.aM;dsimp only;rw[aE3 (by simp;omega),p];simp only[zX2];refine Ob (uU (xs:=c.aM) (l:=P) 20 (fun k v=>∀(n:Nat) e,v.aT[n]? =some e->Hm (YP.mk 4 0 j i k n 0) e=some false) (by omega) (fun k v R M x J E q A=>?_) (fun v=>by dsimp only;rw[aG3 (by simp)])) fun v hv=>.mk ⟨z,hv.1,by have:=hv.2.1;dsimp only;omega,fun f k n v e a b=>hv.2.2 f k v a n e b⟩;have hv:=hc.fK v x;have T:=hv.aT;dsimp only;rw[aE3 (by simp;omega),q];simp only[zX2];refine Ob (uU (xs:=v.aT) (l:=R) 1 (fun n e=>Hm (YP.mk 4 0 j i k n 0) e=some false) (by omega) (fun n e X N y K F t B=>?_) (fun v=>by dsimp only;rw[aG3 (by simp)])) fun u g=>.mk ⟨A,g.1,by have:=g.2.1;dsimp only;omega,fun f n e a=>g.2.2 f n e a⟩;dsimp only;rw[aE3 (by simp;omega),t];simp only[zX2];refine Ok.bindE (iG2 (hv.fR e y)) fun b hb _=>?_;refine Ob (Qy (by omega)) fun u g=>.mk ⟨B,?_,?_,fun f=>?_⟩;dsimp only;cases b<;>simp at g<;>omega;dsimp only;cases b<;>simp at g<;>omega;dsimp only at f;cases b with
 |true=>simp at g;omega
 |false=>exact hb
def evV (hs:s.sm) (g:0<s.aD.length) (hv:Ho s=some true):jE2 s fun _ _ _ _ e=>yK e=some 0:=by
 have h:=(Un hs g hv).r8;unfold aS1 at h;obtain⟨v,h1,h2⟩:=gQ h;cases h2;intro i j k n m c v e a b f d;have h:=(uW2 (by simp) hs).of h1 (by simp) i j k n m c v e a b f d;unfold Hm at h;obtain⟨x,h1,h⟩:=gQ h;have h:=bR3 h;rw[h1,show x=0 by simpa using h]
def bL1 {l:aA YB} (h:aP1 l []=some true):l=[]:=by
 unfold aP1 dT at h;split at h;cases h;rename_i hc;exact List.length_eq_zero_iff.1 (by simpa using hc)
def bM1 {e:YE} (h:yK e=some 0):e.cE=1\/e.cA=[]:=by
 by_cases hk:e.cE=1;exact .inl hk;right;unfold yK at h;obtain⟨x2,_,h⟩:=gQ h;obtain⟨m,_,h⟩:=gQ h;obtain⟨n,_,h⟩:=gQ h;split at h;rename_i hc;cases h;simp at hc;obtain⟨k,g,h⟩:=gQ h;split at h;cases h;rename_i c;have c:k=true:=by simpa using c
 subst c;obtain⟨o,a,h⟩:=gQ h;obtain⟨l,b,h⟩:=gQ h;split at h;cases h;rename_i d;have d:l=true:=by simpa using d
 subst d;unfold gX1 at a;rw[aG3 (by simpa using hk),g]at a;simp only[zX2,dD3,aK3,bI3]at a;obtain⟨p,_,a⟩:=gQ a;obtain⟨q,_,a⟩:=gQ a;cases a;unfold gY1 at b;obtain⟨z4,f,b⟩:=gQ b;obtain⟨z6,i,b⟩:=gQ b;obtain⟨z8,j,b⟩:=gQ b;cases b
 have q6:z6=true:=by
  cases z6 with
  |true=>rfl
  |false=>simp at j
 subst q6
 have q4:z4=true:=by
  cases z4 with
  |true=>rfl
  |false=>simp at i
 subst q4;split at f;obtain⟨w,w1,w2⟩:=gQ f;cases w2;exact bL1 w1;cases f
def jV1 {l:aA Int} (hl:l.length<1000) (h:Gt l=some 0):∀x∈l,x=0:=by
 have:Ok (Gt l) (fun v=>v=0->∀x∈l,x=0):=by
  unfold Gt dT;refine Ob (P:=fun r=>match r with|.inl v=>v≠0|.inr _=>∀x∈l,x=0) (qU (l:=l) (fun x=>x=0) (by omega) (fun i x h0 h1 c hg hw=>?_) (fun i hi b=>?_)) fun r hr=>?_;simp only[h1,hg,hw,cA3,aZ3,zX2];by_cases a:x=0;rw[aG3 (by simp[a])];exact .mk ⟨rfl,a⟩;rw[aE3 (by simp[a])];exact .mk a;simp only[hi,nf];exact .mk b;cases r with
  |inl v=>exact .mk (fun h=>absurd h hr)
  |inr u=>exact .mk (fun _=>hr)
 exact this.of h rfl
def jF2 {h:YB} (hw:Ud h=some 0):nH h.cC=some 0:=by
 unfold Ud Qu at hw;obtain⟨⟨x2,d⟩,h1,hw⟩:=gQ hw;obtain⟨g,f,hw⟩:=gQ hw;obtain⟨i,b,hw⟩:=gQ hw;cases hw;have a:=jV1 (by simp) b d (by simp);subst a;obtain⟨⟨j,e⟩,h2,h1⟩:=gQ h1;dsimp only at h1;split at h1;simp at h1;rename_i hc;have hy:e=0:=by simp at hc;omega
 subst hy;unfold Ms at h2;obtain⟨z,c,h2⟩:=gQ h2;split at h2;rename_i hc;simp at h2 hc;omega;rename_i hc;rw[c];simp at hc;rw[hc]
def zC1 {l:aA YB} (hl:l.length<1000) (h:aR1 l=some 0):l≠[]/\∀x∈l,nH x.cC=some 0:=by
 unfold aR1 dT at h;split at h;cases h;rename_i hc;split at h;cases h;obtain⟨r,h1,h⟩:=gQ h;refine⟨fun h=>by rw[h]at hc;exact hc rfl,?_⟩
 have:Ok (bC (E:=Int⊕Unit) (fun(⟨o,f⟩:Int×Int)=>if decide (f<(l.length:Int))then(bM l f).bind fun j=>(Ud j).bind fun c=>if c !=0 then some (.inr (.inl c))else(Qu j.cC).bind fun⟨b,x11⟩=>if decide (b<=o)then some (.inr (.inl 25))else some (.inl (b,(bK (f+1))))else some (.inr (.inr ()))) bS ((-1),0)) (fun r=>match r with|.inl v=>v≠0|.inr _=>∀x∈l,nH x.cC=some 0):=by
  refine cG (l:=l) (fun q=>q.2) (fun i q=>∀x∈l.take i,nH x.cC=some 0) (by omega) rfl (by simp) (fun i x q m s hi hl a hg hw=>?_) (fun q hi a=>?_);obtain⟨n,k⟩:=q;dsimp only at hi hl a hg hw;simp only[hl,hg,nt];refine Ok.bindE (hS2 (x1:=x)) fun c e _=>?_;by_cases d:c=0;subst d;rw[aG3 (by simp)];refine Ob (P:=fun _=>True) ((rO1 (x1:=x.cC)).mono fun _ _=>trivial) fun y _=>?_;obtain⟨p,t⟩:=y;dsimp only;by_cases hy:p<=n;rw[aE3 (by simpa using hy)];exact .mk (show(25:Int)≠0 by decide);rw[aG3 (by simpa using hy)];refine .mk ⟨hw,fun z g=>?_⟩;rw[List.take_add_one,m]at g;rcases cD3.1 g with h|h;exact a z h;simp at h;rw[h];exact jF2 e;rw[aE3 (by simpa using d)];exact .mk d;obtain⟨n,k⟩:=q;dsimp only at hi a;simp only[hi,nf];rw[bU3]at a;exact .mk a
 have h2:=this.of h1;cases r with
 |inl v=>simp at h;exact absurd h h2
 |inr u=>exact h2
def sE1 {e:YE} (c:e.sm) (h:yK e=some 0):(e.cE=1->e.cA≠[])/\∀x∈e.cA,nH x.cC=some 0:=by
 by_cases hk:e.cE=1;have o:=c.cA
 have:e.cA≠[]/\∀x∈e.cA,nH x.cC=some 0:=by
  unfold yK at h;obtain⟨x2,_,h⟩:=gQ h;obtain⟨p,_,h⟩:=gQ h;obtain⟨q,_,h⟩:=gQ h;split at h;rename_i hc;cases h;simp at hc;obtain⟨r,k,h⟩:=gQ h;split at h;cases h;obtain⟨s,l,h⟩:=gQ h;obtain⟨t,m,h⟩:=gQ h;split at h;cases h;obtain⟨u,n,h⟩:=gQ h;split at h;cases h;split at h;obtain⟨d,a,h⟩:=gQ h;obtain⟨x11,f,h⟩:=gQ h;obtain⟨i,g,h⟩:=gQ h;obtain⟨j,b,h⟩:=gQ h;split at h;rename_i hc;cases h;simp at hc;rename_i hc;simp at hc;subst hc;have:=jV1 (by simp) b d (by simp);subst this;exact zC1 (by omega) a;rename_i hc;simp[hk]at hc
 exact⟨fun _=>this.1,this.2⟩;have:=(bM1 h).resolve_left hk;rw[this];exact⟨fun h=>absurd h hk,by simp⟩
end Go.P
namespace Go.P
def jW1 (p:YH):Ok (Ms p) (fun r=>r.2=0↔nH p=some 0):=by
 unfold Ms;obtain⟨n,hn,hs⟩:=rN1 (x1:=p);rw[hn,zX2];by_cases h:n=0;subst h;rw[aG3 (by simp)];exact Ob (yG1 (hs rfl)) fun v _=>.mk (by simp);rw[aE3 (by simpa using h)];exact .mk (by simp[h])
def Xt (i:YL):Ok (Hl i) (fun _=>True):=yF1
def sF1 (a:Int):Ok (qZ1 a 12) (fun _=>True):=by
 unfold qZ1;refine Ob (rZ (by decide)) fun b _=>?_;refine Ob (sA (by decide)) fun c _=>?_;refine Ob (P:=fun _=>True) ?_ fun x _=>.mk trivial;split<;>exact .mk trivial
def sG1:∀i<7,∀j<7,i<j->([0,2,4,5,7,9,11]:aA Int)[i]! <([0,2,4,5,7,9,11]:aA Int)[j]! :=by decide
def jX1 (n:Int):Ok (Xk n) (fun r=>r.1=0->r.2.length<=12/\∀q∈r.2,nH q=some 0):=by
 unfold Xk;refine Oi (fun _=>.mk (fun h=>by cases h)) (fun hc=>?_);refine Ob (P:=fun l:aA YH=>l.length<=12/\∀q∈l,nH q=some 0) (gY (fun q:Int×aA YH=> -3<=q.1/\q.1<=2/\(q.2.length:Int)<=2-q.1/\∀x∈q.2,nH x=some 0) (fun q=>(q.1+3).toNat) (fun q C=>?_) bS _ ⟨by decide,by decide,by decide,by simp⟩ (by decide)) fun l hl=>.mk (fun _=>hl);obtain⟨al,l⟩:=q;obtain⟨h1,h2,z,s⟩:=C;dsimp only at h1 h2 z s;dsimp only;refine Oi (fun hc=>?_) (fun hc=>.mk ⟨by omega,s⟩);simp only[aH3]at hc;refine Ob (sF1 _) fun x _=>?_;obtain⟨o,dL⟩:=x;dsimp only;have e:aQ1=some (Ab.mk 0 2 4 5 7 9 11):=rfl;rw[e,zX2];dsimp only;refine Ob (P:=fun m:aA YH=>m.length<=l.length+1/\∀x∈m,nH x=some 0) (cG (l:=([0,2,4,5,7,9,11]:aA Int)) (fun q=>q.1) (fun k q=>(q.2.length<=l.length\/(q.2.length<=l.length+1/\∀j,k<=j->j<7->dL<([0,2,4,5,7,9,11]:aA Int)[j]!))/\∀x∈q.2,nH x=some 0) (by simp) rfl ⟨.inl (aC3 _),s⟩ (fun i x q E u hi c d hg hw=>?_) (fun q hi d=>?_)) fun m u=>?_;obtain⟨k,m⟩:=q;dsimp only at hi c d hg hw;obtain⟨A,f⟩:=d;have g:=(zZ2.1 E).1;simp only[bG3,aN3,bX3,Nat.reduceAdd]at g;have t:([0,2,4,5,7,9,11]:aA Int)[i]! =x:=by grind
 dsimp only;rw[aE3 (by simp at c;simpa using c),hg,zX2];have keep:(m.length<=l.length\/(m.length<=l.length+1/\∀j,i+1<=j->j<7->dL<([0,2,4,5,7,9,11]:aA Int)[j]!)):=by grind
 by_cases hr:x=dL;rw[aE3 (by simpa using hr)];obtain⟨v,hv,_⟩:=rN1 (x1:=YH.mk k al (bK (o-1)));rw[hv,zX2,zX2];by_cases p:v=0;subst p;rw[aE3 (by simp)];have B:m.length<=l.length:=by grind
 refine Ob (P:=fun w=>w=m++[YH.mk k al (bK (o-1))]) (Ob (eP (Q:=fun w=>w=m++[YH.mk k al (bK (o-1))]) (by omega) rfl) fun w hw=>.mk hw) fun w D=>.mk ⟨hw,.inr ⟨?_,fun j a b=>?_⟩,fun y hy=>?_⟩
 grind
 have:=sG1 i g j b (by omega);rw[t,hr]at this;exact this
 grind
 rw[aG3 (by simpa using p)];exact .mk ⟨hw,keep,f⟩;rw[aG3 (by simpa using hr)];exact .mk ⟨hw,keep,f⟩;obtain⟨k,m⟩:=q;dsimp only at hi d;dsimp only;rw[aG3 (by simp at hi;simp;omega)];exact .mk ⟨by rcases d.1 with h|h<;>omega,d.2⟩;refine .mk ⟨⟨?_,?_,?_,u.2⟩,?_⟩<;>dsimp only;rw[bU (by omega) (by omega)];omega;rw[bU (by omega) (by omega)];omega;rw[bU (by omega) (by omega)];omega;rw[bU (by omega) (by omega)];omega
def pQ {A:Type} {l:aA A} {i:Int} (h0:0<=i) (h:i<l.length):gM l i=some i.toNat:=by
 unfold gM sD;rw[aE3 ⟨h0,h⟩]
def nV {A:Type} {l:aA A} {i:Nat} (h:i<l.length):fQ l i=some l[i]:=aO3 h
def jW {A:Type} {l:aA A} {i:Nat} {f:A->A} (h:i<l.length):iG l i f=some (l.set i (f l[i])):=by
 unfold iG;rw[aO3 h];rfl
def jY1 {P:YH->Prop} {b:Int} {l:aA YH} (hl:l.length<=1000) (hb:b<=l.length) (t:∀x∈l,P x):Ok (Xm 0 b l) (fun m=>m.length=l.length/\∀x∈m,P x):=by
 unfold Xm;refine Ob (P:=fun m:aA YH=>m.length=l.length/\∀x∈m,P x) (gY (fun q:Int×aA YH=>1<=q.1/\q.2.length=l.length/\∀x∈q.2,P x) (fun q=>(b-q.1).toNat) (fun q o=>?_) bS _ ⟨by dsimp only;rw[bU (by decide) (by decide)];decide,rfl,t⟩ (by simp only[bS];rw[bU (n:=0+1) (by decide) (by decide)];omega)) fun m i=>.mk i;obtain⟨k,m⟩:=q;obtain⟨h1,h2,d⟩:=o;dsimp only at h1 h2 d;dsimp only;refine Oi (fun hc=>?_) (fun hc=>.mk ⟨h2,d⟩);simp only[aH3]at hc;refine Ob (P:=fun m:aA YH=>m.length=l.length/\∀x∈m,P x) (gY (fun q:Int×aA YH=>0<=q.1/\q.1<=k/\q.2.length=l.length/\∀x∈q.2,P x) (fun q=>q.1.toNat) (fun q o=>?_) bS _ ⟨by dsimp only;omega,by dsimp only;omega,h2,d⟩ (by simp only[bS];omega)) fun m i=>?_;obtain⟨j,m⟩:=q;obtain⟨s,g2,a,p⟩:=o;dsimp only at s g2 a p;dsimp only;refine Ob (P:=fun c=>c=true->0<j) ?_ fun c f=>?_;refine Oi (fun g=>?_) (fun _=>.mk (fun h=>by cases h));simp only[aH3]at g;rw[bU (by omega) (by omega),pQ (by omega) (by omega),zX2,nV (by omega),zX2,pQ (by omega) (by omega),zX2,nV (by omega),zX2];exact .mk (fun _=>g);refine Oi (fun e=>?_) (fun _=>.mk ⟨a,p⟩);have g:=f e;rw[bU (n:=j-1) (by omega) (by omega),pQ (by omega) (by omega),zX2,nV (by omega),zX2,pQ (by omega) (by omega),zX2,nV (by omega),zX2,zX2,jW (by omega),zX2,pQ (by omega) (by simp;omega),zX2,jW (by simp;omega),zX2];refine .mk ⟨⟨by dsimp only;omega,by dsimp only;omega,by dsimp only;rw[bV3,bV3];exact a,fun x r=>?_⟩,by dsimp only;omega⟩;dsimp only at r;rcases List.mem_or_eq_of_mem_set r with h|h
 grind
 grind
 refine .mk ⟨⟨?_,i⟩,?_⟩<;>dsimp only;rw[bU (by omega) (by omega)];omega;rw[bU (by omega) (by omega)];omega
def jZ1 {P:YH->Prop} {l:aA YH} (hl:l.length<=12) (c:∀x∈l,P x):Ok (Xn l) (fun m=>m.length=l.length/\∀x∈m,P x):=by
 unfold Xn;refine Ob jQ1 fun x _=>?_;refine Ob (P:=fun m:aA YH=>m.length=l.length/\∀x∈m,P x) ?_ fun m a=>.mk a;unfold jK1;refine Ob (P:=fun m:aA YH=>m.length=l.length/\∀x∈m,P x) ?_ fun m a=>.mk a;rw[show bS=18446744073709551615+1 from rfl,bC];rw[aE3 (by rw[bU (by omega) (by omega)];simp;omega)];obtain⟨m,h1,h2⟩:=jY1 (b:=(l.length:Int)) (by omega) (cV3 _) c;rw[h1];exact .mk h2
def sH1 (n:Int):Ok (rA1 n) (fun r=>r.2=0->r.1≠[]/\r.1.length<=12/\∀q∈r.1,nH q=some 0):=by
 unfold rA1;refine Ob (jX1 n) fun r hr=>?_;obtain⟨e,l⟩:=r;dsimp only at hr ⊢;refine Oi (fun _=>.mk (fun h=>by cases h)) (fun hc=>?_);simp at hc;obtain⟨h1,h2⟩:=hr hc.1;refine Ob (jZ1 h1 h2) fun m a=>.mk (fun _=>⟨?_,by dsimp only;omega,a.2⟩);intro h;dsimp only at h;rw[h]at a;have:=a.1;simp at this;exact hc.2 (cF3 this.symm)
def sI1 {l:aA YH} (hl:l≠[]) (d:l.length<=12) (n:Int):Ok (rB1 l n) (fun q=>q∈l):=by
 unfold rB1 dT;have h0:=List.length_pos_iff.2 hl;rw[aG3 (by simp;omega)];refine Ob (dJ (Q:=fun q=>q∈l) (by omega) (by omega) (fun x h _=>h)) fun j b=>?_;refine Ob (P:=fun q=>q∈l) (gY (fun q:Int×YH=>0<=q.1/\q.2∈l) (fun q=>(l.length-q.1).toNat) (fun q f=>?_) bS _ ⟨by dsimp only;omega,b⟩ (by simp only[bS];omega)) fun m e=>.mk e;obtain⟨k,x⟩:=q;obtain⟨h1,h2⟩:=f;dsimp only at h1 h2;dsimp only;refine Oi (fun hc=>?_) (fun hc=>.mk h2);simp only[aH3]at hc;obtain⟨y,hy,c⟩:=dJ (l:=l) (i:=k) (Q:=fun q=>q∈l) h1 hc (fun x h _=>h);rw[hy,zX2];have a:∃v,yA1 y x n=some v:=⟨_,rfl⟩
 obtain⟨v,hv⟩:=a;rw[hv,zX2];refine Ob (P:=fun q=>q∈l) (Oi (fun _=>.mk c) (fun _=>.mk h2)) fun z g=>.mk ⟨⟨?_,g⟩,?_⟩<;>dsimp only<;>rw[bU (by omega) (by omega)]<;>omega
def kA1 (p:YH) (i:YL):Ok (Xo p i) (fun r=>r.2=0->nH r.1=some 0):=by
 unfold Xo;refine Ob (P:=fun _=>True) ?_ fun r _=>?_;unfold xU1;refine Ob (P:=fun _=>True) ?_ fun r _=>?_;unfold xT1;refine Ob (P:=fun _=>True) ?_ fun r _=>?_;unfold xS1;refine Ob rN1 fun v _=>?_;exact Oi (fun _=>.mk trivial) (fun _=>.mk trivial);exact Oi (fun _=>.mk trivial) (fun _=>Ob (jW1 p) fun v _=>.mk trivial);exact Oi (fun _=>.mk trivial) (fun _=>Ob (Xt i) fun v _=>Oi (fun _=>.mk trivial) (fun _=>.mk trivial));obtain⟨a,b,e⟩:=r;dsimp only;refine Oi (fun hc=>.mk (fun h=>by dsimp only at h;simp at hc;exact absurd h hc)) (fun hc=>?_);refine Ob (sH1 b) fun r hr=>?_;obtain⟨l,e2⟩:=r;dsimp only at hr ⊢;refine Oi (fun hc=>.mk (fun h=>by dsimp only at h;simp at hc;exact absurd h hc)) (fun hc=>?_);have he:e2=0:=by simpa using hc
 obtain⟨h1,h2,c⟩:=hr he;exact Ob (sI1 h1 h2 a) fun q d=>.mk (fun _=>c q d)
def zD1 (a b:YL):Ok (F96 a b) (fun _=>True):=by
 unfold F96;refine Ob (P:=fun _=>True) ?_ fun r _=>.mk trivial;unfold jG1;refine Ob (eP (Q:=fun v=>v.length<=3) (by simp) (by simp)) fun l hl=>?_;refine Ob (P:=fun _=>True) (gY (fun q:Int=>0<=q) (fun q=>(l.length-q).toNat) (fun q c=>?_) bS _ (by decide) (by simp only[bS];omega)) fun r _=>?_;refine Oi (fun hc=>?_) (fun _=>.mk trivial);simp only[aH3]at hc;rw[pQ c hc,zX2,nV (by omega),zX2];refine Ob (Xt _) fun v _=>Oi (fun _=>.mk trivial) (fun _=>.mk ⟨?_,?_⟩)<;>rw[bU (by omega) (by omega)]<;>omega;cases r<;>exact .mk trivial
end Go.P
namespace Go.P
variable {s:Y0}
def Ml (hs:s.sm):F32 s=some (Bp s:Int):=by
 unfold F32 dT;have hp:=hs.bG;refine mF (a:=(Bp s:Int)) (Ok.eq (oC (l:=s.bG) (fun q=>q.2) (fun q=>q.1) (fun t p=>t+(p.bN.length:Int)) (by omega) rfl (fun i p q g c hi hl b hg hw=>?_) (fun q hi b=>?_))) rfl;obtain⟨t,k⟩:=q;dsimp only at hi hl b hg hw;have d:=Mk (l:=s.bG.take i) (fun p hp=>(hs.jK p (cM3 hp)).bN);have e:(s.bG.take i).length<=4:=by rw[cC3];omega
 have f:=(hs.jK p c).bN;rw[oD]at b;simp only[hl,hg,nt];refine .mk ⟨hw,?_⟩;dsimp only;rw[bU (by omega) (by omega)];obtain⟨t,k⟩:=q;dsimp only at hi b;rw[oD]at b;simp only[hi,nf];refine .mk ?_;rw[b];unfold Bp;omega
def uX2 {x n:Int} {m:YM} (o:m.sm):Ok (aN1 x m n) (fun b=>b=false->(m.aQ.length:Int)=n):=by
 unfold aN1 dT;have hc:=o.aQ;refine Ob (P:=fun r=>((m.aQ.length:Int)!=n)=true->r=true) (cG (l:=m.aQ) (fun q=>q.2) (fun _ q=>((m.aQ.length:Int)!=n)=true->q.1=true) (by omega) rfl (fun h=>h) (fun i y q s g hi hl a hg hw=>?_) (fun q hi a=>?_)) fun r hr=>.mk (fun h=>?_);obtain⟨b,k⟩:=q;dsimp only at hi hl a hg hw;have hv:=(o.gU y g).aM;simp only[hl,hg,nt];have first:∀{c:Bool} {z:aB Bool},(b=true->c=true)->(b=false->Ok z (fun _=>True))->True:=fun _ _=>trivial
 refine Ob (P:=fun r=>(b=true->r=true)/\(r=false->0<y.aM.length)) (Oi (fun h=>.mk ⟨fun _=>rfl,fun h=>(by cases h)⟩) (fun h=>?_)) fun j d=>?_;simp only[nm]at h
 have h0:0<y.aM.length:=by
  have:=h.2;omega
 exact Ob (dJ (Q:=fun _=>True) (by omega) (by omega) (fun _ _ _=>trivial)) fun z _=>.mk ⟨fun hb=>(by rw[hb]at h;cases h.1),fun _=>h0⟩;refine Ob (P:=fun r=>(j=true->r=true)) (Oi (fun h=>.mk (fun _=>rfl)) (fun h=>?_)) fun e f=>?_;have h0:=d.2 (by simpa using h);exact Ob (dJ (Q:=fun _=>True) (by rw[bU (by omega) (by omega)];omega) (by rw[bU (by omega) (by omega)];omega) (fun _ _ _=>trivial)) fun z _=>.mk (fun h2=>absurd h2 h);refine Ob (P:=fun r=>e=true->r=true) (cG (l:=y.aM) (fun q=>q.2) (fun _ q=>e=true->q.1=true) (by omega) rfl (fun h=>h) (fun i z q s p hi hl a hg hw=>?_) (fun q hi a=>?_)) fun r hr=>.mk ⟨hw,fun h=>hr (f (d.1 (a h)))⟩;obtain⟨b2,t⟩:=q;dsimp only at hi hl a hg hw;simp only[hl,hg,nt];exact .mk ⟨hw,fun h=>by rw[a h];rfl⟩;obtain⟨b2,t⟩:=q;dsimp only at hi a;simp only[hi,nf];exact .mk a;obtain⟨b,k⟩:=q;dsimp only at hi a;simp only[hi,nf];exact .mk a;by_cases he:(m.aQ.length:Int)=n;exact he;have:=hr (by simpa using he);rw[h]at this;cases this
def uY2 (hs:s.sm) {n r:Int} (h:Jq n [] s r=some []):∀m∈s.aD,(m.aQ.length:Int)=n:=by
 unfold Jq dT at h;have p:=hs.aD;obtain⟨v,h1,h2⟩:=gQ h;cases h2;have:=Ok.of (Q:=fun v:aA YV=>v.length=0->∀m∈s.aD,(m.aQ.length:Int)=n) (cG (l:=s.aD) (fun q=>q.1) (fun i q=>q.2.length<=i/\(q.2.length=0->∀j,j<i->∀m,s.aD[j]? =some m->(m.aQ.length:Int)=n)) (by omega) rfl ⟨by simp,fun _ j d=>by omega⟩ (fun i e q o g hi hl c hg hw=>?_) (fun q hi c=>?_)) h1 rfl;exact this;obtain⟨x,v⟩:=q;dsimp only at hi hl c hg hw;simp only[hl,hg,nt];refine Ob (uX2 (hs.cP e g)) fun b hb=>?_;refine Ob (Qy (by omega)) fun u k=>.mk ⟨hw,?_,fun h j d m a=>?_⟩;dsimp only;cases b<;>simp at k<;>omega;dsimp only at h;cases b with
 |true=>simp at k;omega
 |false=>
  simp only[aK3,false_implies,forall_const,true_and]at k;by_cases f:j=i;subst f;rw[o]at a;cases a;exact hb rfl;exact c.2 (by omega) j (by omega) m a
 obtain⟨x,v⟩:=q;dsimp only at hi c;simp only[hi,nf];refine .mk (fun h m g=>?_);obtain⟨j,d⟩:=aS3.1 g;exact c.2 h j (zZ2.1 d).1 m d
def zF1 (hs:s.sm) (hv:Ho s=some true):∀m∈s.aD,m.aQ.length=Bp s:=by
 intro m b;have a:=(Un hs (List.length_pos_of_mem b) hv).r3;unfold aO1 at a;rw[Ml hs]at a;simp only[zX2]at a;obtain⟨v,h1,h2⟩:=gQ a;cases h2;have:=uY2 hs h1 m b;omega
def RP (p:YJ):Prop:=Hl p.aK=some 0/\1<=p.bN.length
def jG2 (hs:s.sm) (hM:0<s.aD.length) (hv:Ho s=some true):∀p∈s.bG,RP p:=by
 have h:=(Un hs hM hv).r1;unfold Qs dT at h;have hp:=hs.bG;obtain⟨v1,h1,h⟩:=gQ h
 have g1:v1.length<=4/\(v1.length=0->∀p∈s.bG,RP p):=by
  refine Ok.of (Q:=fun v:aA YV=>v.length<=4/\(v.length=0->∀p∈s.bG,RP p)) (cG (l:=s.bG) (fun q=>q.1) (fun i q=>q.2.length<=i/\(q.2.length=0->∀j,j<i->∀p,s.bG[j]? =some p->RP p)) (by omega) rfl ⟨by simp,fun _ j K=>by omega⟩ (fun i p q hx hm hi hl D hg hw=>?_) (fun q hi D=>?_)) h1;obtain⟨x11,W⟩:=q;dsimp only at hi hl D hg hw;have S:=(zZ2.1 hx).1;simp only[hl,hg,nt];have U:=hs.jK _ hm;refine dP (aZ1 U.Br) fun d6=>?_;refine Ob (P:=fun r=>r=false->1<=p.bN.length) ?_ fun d7 N=>?_;refine Oi (fun _=>.mk (fun h=>by cases h)) (fun c35=>?_);rw[rI1];exact .mk (fun h=>by simp at h;omega);refine Ob (P:=fun r=>r=false->RP p) ?_ fun H O=>?_;refine Oi (fun h=>.mk (fun h=>by cases h)) (fun c38=>?_);obtain⟨n,hn,_⟩:=yF1 (x1:=p.aK);rw[hn];refine .mk (fun h=>⟨?_,N (by simpa using c38)⟩);simp at h;rw[hn,h];refine Ob (Qy (by omega)) fun u C=>.mk ⟨hw,?_,fun h j K m A=>?_⟩;dsimp only;cases H<;>simp at C<;>omega;dsimp only at h;cases H with
  |true=>simp at C;omega
  |false=>
   simp only[aK3,false_implies,forall_const,true_and]at C;by_cases T:j=i;subst T;rw[hx]at A;cases A;exact O rfl;exact D.2 (by omega) j (by omega) m A
  obtain⟨x11,W⟩:=q;dsimp only at hi D;simp only[hi,nf];refine .mk ⟨by omega,fun h p hp=>?_⟩;obtain⟨j,K⟩:=aS3.1 hp;exact D.2 h j (zZ2.1 K).1 p K
 refine g1.2 ?_;have d2:=g1.1
 have:v1.length<=([]:aA YV).length:=by
  refine Ok.of (Q:=fun v:aA YV=>v1.length<=v.length) ?_ h;have b7:=hs.aD;refine og s.aD v1 12 1 (by omega) (fun d3 L q53 G E b k e a w=>?_) (fun q53 b e=>?_) fun e1 e4=>?_;obtain⟨X,Y⟩:=q53;dsimp only at b k a w e;simp only[k,a,nt];have S:=(zZ2.1 G).1;have B:=hs.cP _ E;refine dP (aZ1 B.jQ) fun d8=>?_;have b8:=B.aQ;refine lpT (l:=L.aQ) (fun q=>q.2) (by omega) rfl (fun d4 M q67 F c o f y=>?_) (fun q67 c=>?_) fun b5=>?_;obtain⟨Z,a0⟩:=q67;dsimp only at c o f y;simp only[o,a,f,nt];have V:=B.gU _ F;have b9:=V.aM;refine lpT (l:=M.aM) (fun q=>q.2) (by omega) rfl (fun d5 d0 q80 b6 d t g z=>?_) (fun q80 d=>?_) fun d9=>?_;obtain⟨b0,b4⟩:=q80;dsimp only at d t g z;simp only[t,a,f,g,nt];exact .mk z;obtain⟨b0,b4⟩:=q80;dsimp only at d;simp only[d,nf];exact .mk trivial;exact .mk y;obtain⟨Z,a0⟩:=q67;dsimp only at c;simp only[c,nf];exact .mk trivial;refine Ob (Qy (by omega)) fun e0 R=>?_;refine .mk ⟨w,?_,?_⟩<;>dsimp only<;>cases b5<;>simp at R<;>omega;obtain⟨X,Y⟩:=q53;dsimp only at b e;simp only[b,nf];exact .mk (by dsimp only;omega);refine dP (aZ1 hs.qW) fun e3=>?_;refine dP ?_ fun J=>?_;exact Oi (fun _=>.mk trivial) (fun _=>dP tV fun x=>.mk trivial);refine dP ?_ fun J=>?_;exact Oi (fun _=>.mk trivial) (fun _=>dP tV fun x=>.mk trivial);refine Ob (Qy (by omega)) fun u C=>.mk ?_;by_cases h:(J||decide ((s.cJ.length:Int)>4096)||decide ((s.nX.length:Int)>100))=true;have:=C.1 h;omega;have:=C.2 (by simpa using h);omega
 simpa using this
def uX1 (hs:s.sm) (hv:Ho s=some true):0<s.aD.length:=by
 rcases Nat.eq_zero_or_pos s.aD.length with h0|h0;exfalso
 have:Ok (Ho s) (fun b=>b=false):=by
  unfold Ho F54;refine Ob (P:=fun v=>0<v.length) ?_ fun v hv=>.mk (by simp;intro h;rw[h]at hv;simp at hv);refine Ob (P:=fun r=>r=false) (Oi (fun h=>by simp at h) (fun _=>.mk rfl)) fun b hb=>?_;subst hb;refine Oi (fun h=>by cases h) (fun _=>?_);refine Ob (gY2 hs h0 (by decide)) fun v hv=>?_;refine Ob (P:=fun r=>r=true) (Oi (fun h=>Ob (P:=fun r=>r=true) (Oi (fun _=>.mk rfl) (fun h=>absurd rfl h)) fun b hb=>.mk hb) (fun h=>by simp at h;simp[h]at hv)) fun b hb=>?_;subst hb;exact Oi (fun _=>.mk hv) (fun h=>absurd rfl h)
 have:=this.of hv;cases this;exact h0
def zG1 (hs:s.sm) (hv:Ho s=some true) {i:Int} (h0:0<=i) (h1:i<(s.bG.length:Int)):∃p,bM s.bG i=some p/\p.bN.length<=5/\∃a:Nat,Rj s i=some ((a:Int),0)/\a<=20/\a<Bp s:=by
 obtain⟨p,hp,h,a,c,d⟩:=jT1 hs h0 h1;refine⟨p,hp,h,a,c,d,?_⟩;have u:=hs.bG;have hi:i.toNat<s.bG.length:=by omega
 have g:nG s.bG 0 i=some (s.bG.take i.toNat):=by
  unfold nG;rw[aE3 ⟨by omega,h0,by omega⟩];simp
 have n:(s.bG.take i.toNat).length<=4:=by rw[cC3];omega
 have f:∀k,((s.bG.take k).map fun p=>p.bN.length).sum<=20:=fun k=>by
  have:=Mk (l:=s.bG.take k) (fun p hp=>(hs.jK p (cM3 hp)).bN);have:(s.bG.take k).length<=4:=by rw[cC3];omega
  omega
 have e:Rj s i=some (((((s.bG.take i.toNat).map fun p=>p.bN.length).sum:Nat):Int),0):=by
  unfold Rj Xj dT;rw[aG3 (by simp;omega),g];simp only[zX2];refine mF (a:=((((s.bG.take i.toNat).map fun p=>p.bN.length).sum:Nat):Int)) (mF (Ok.eq (oC (l:=s.bG.take i.toNat) (fun q=>q.2) (fun q=>q.1) (fun t p=>t+(p.bN.length:Int)) (by omega) rfl (fun j p q v o hi hl b hg hw=>?_) (fun q hi b=>?_))) rfl) rfl;obtain⟨t,k⟩:=q;dsimp only at hi hl b hg hw;rw[oD,List.take_take]at b;have:=f (min j i.toNat);have h:=(hs.jK p (cM3 o)).bN;simp only[hl,hg,nt];refine .mk ⟨hw,?_⟩;dsimp only;rw[bU (by omega) (by omega)];obtain⟨t,k⟩:=q;dsimp only at hi b;rw[oD]at b;simp only[hi,nf];refine .mk ?_;rw[b];omega
 rw[e]at c;have c:=congrArg Prod.fst (bR3 c);dsimp only at c;have r:=(jG2 hs (uX1 hs hv) hv _ (cE3 hi)).2;unfold Bp
 have m:s.bG=s.bG.take i.toNat++s.bG[i.toNat]::s.bG.drop (i.toNat+1):=by
  rw[<-List.drop_eq_getElem_cons hi,dJ3]
 have:=congrArg (fun l:aA YJ=>(l.map fun p=>p.bN.length).sum) m;simp only[cJ3,bQ3,List.sum_append,List.sum_cons]at this;omega
def Mn (hs:s.sm):Bp s<=20:=by
 have:=Mk (l:=s.bG) (fun p hp=>(hs.jK p hp).bN);have:=hs.bG;unfold Bp;omega
def kB1 (hs:s.sm) (st:Int) (g:st<1000000):Ok (F62 s st) (fun r=>r.2.2=0->0<=st/\st<(Bp s:Int)/\0<=r.1/\r.1<(s.bG.length:Int)):=by
 have m:=hs.bG;unfold F62 dT;refine Oi (fun _=>.mk (fun h=>by cases h)) (fun hc=>?_);simp only[aH3]at hc;refine Ob (P:=fun r=>match r with|.inl q=>st<(Bp s:Int)/\0<=q.1/\q.1<(s.bG.length:Int)|.inr _=>True) (cG (l:=s.bG) (fun q=>q.2) (fun i q=>q.1+(((s.bG.take i).map fun p=>p.bN.length).sum:Nat)=st/\0<=q.1) (by omega) rfl ⟨by simp,by dsimp only;omega⟩ (fun i p q b f hi hl a hg hw=>?_) (fun q hi a=>?_)) fun r hr=>?_;obtain⟨x,k⟩:=q;dsimp only at hi hl a hg hw;simp only[hl,hg,nt];have j:=(hs.jK p f).bN;have d:=(zZ2.1 b).1
 have e:((s.bG.take (i+1)).map fun p=>p.bN.length).sum=((s.bG.take i).map fun p=>p.bN.length).sum+p.bN.length:=by
  rw[List.take_add_one,b];simp
 refine Oi (fun hc=>?_) (fun hc=>?_);simp only[aH3]at hc;refine .mk ⟨?_,by omega,by omega⟩;have c:s.bG=s.bG.take (i+1)++s.bG.drop (i+1):=(dJ3 _ _).symm;have:=congrArg (fun l:aA YJ=>(l.map fun p=>p.bN.length).sum) c;simp only[cJ3,List.sum_append]at this;unfold Bp;omega;simp only[aH3]at hc;refine .mk ⟨hw,?_,?_⟩<;>dsimp only<;>rw[bU (by omega) (by omega)]<;>omega;obtain⟨x,k⟩:=q;dsimp only at hi a;simp only[hi,nf];exact .mk trivial;cases r with
 |inl q=>exact .mk (fun _=>⟨by omega,hr⟩)
 |inr u=>exact .mk (fun h=>by cases h)
end Go.P
namespace Go.P
variable {s:Y0}
def hdL (tr:YH->aB (Int×YH)) (u:Int) (h:aA YE) (g:Nat) (c:Bool) (n:Int) (h0:aA YB):aB ((aA YE)⊕(aA YB)):=
 bC (E:=(aA YE)⊕(aA YB)) (fun(⟨d,e⟩:Int×(aA YB))=>if decide (d<n)then(fQ h g).bind fun v=>(gM e d).bind fun b=>(iG e b (fun i=>(YB.mk i.cC i.nW 0))).bind fun j=>((if c then(iG j b (fun k=>(YB.mk k.cC false k.vD))).bind fun p=>some p else some j:aB (aA YB))).bind fun f=>(fQ f b).bind fun q=>(tr q.cC).bind fun⟨r,l⟩=>(Ms l).bind fun⟨m,w⟩=>if((r !=0)||(decide ((bK (m+u))<0)))||(decide ((bK (m+u))>127))then(iG h g (fun a=>(YE.mk a.ID a.cE a.Value f a.dX a.bQ a.dM a.dU a.dA a.kZ a.kY))).bind fun s=>some (.inr (.inl s))else(iG f b (fun o=>(YB.mk l o.nW o.vD))).bind fun t=>some (.inl ((bK (d+1)),t))else some (.inr (.inr e))) bS (0,h0)
def evL (tr:YH->aB (Int×YH)) (o:Int) (c:Bool) (g:aA YE):aB ((aA YE)⊕(aA YE)):=
 bC (E:=(aA YE)⊕(aA YE)) (fun(⟨e,d⟩:Int×(aA YE))=>if decide (e<(g.length:Int))then(gM d e).bind fun b=>(fQ d b).bind fun i=>(fQ d b).bind fun j=>(fQ d b).bind fun h=>(iG d b (fun m=>(YE.mk (YZ.mk 0 0) i.cE j.Value [] [] 0 0 0 [] 0 0))).bind fun f=>(fQ f b).bind fun n=>(hdL tr o f b (c&&(e==(bK ((f.length:Int)-1)))) (h.cA.length:Int) h.cA).bind fun k=>(match k with|.inl x491=>some (.inr (.inl x491))|.inr x492=>(iG f b (fun a=>(YE.mk a.ID a.cE a.Value x492 a.dX a.bQ a.dM a.dU a.dA a.kZ a.kY))).bind fun l=>some (.inl ((bK (e+1)),l)))else some (.inr (.inr d))) bS (0,g)
def gv (tr:YH->aB (Int×YH)) (u:Int) (x1:Y0) (x2:aV) (v:Int):aB ((aA YO)×Bool):=
 (bC (E:=(aA YO)⊕((aA YO)⊕(aA YO))) (fun(⟨a,b⟩:Int×(aA YO))=>if decide (a<x2.mH)then(bM x1.aD a).bind fun c=>(bM c.aQ x2.cZ).bind fun d=>((if decide ((d.aM.length:Int)<=x2.dB)then some true else(bM c.aQ x2.cZ).bind fun e=>(bM e.aM x2.dB).bind fun f=>some ((f.aT.length:Int)==0):aB (Bool))).bind fun g=>((if g then some true else(bM c.aQ v).bind fun h=>some ((h.aM.length:Int)!=1):aB (Bool))).bind fun i=>if i then some (.inr (.inl b))else(bM c.aQ x2.cZ).bind fun j=>(bM j.aM x2.dB).bind fun k=>(jI1 k).bind fun⟨l,m⟩=>(evL tr u (a==(bK (x2.mH-1))) m).bind fun n=>(match n with|.inl x496=>some (.inr (.inr (.inl b)))|.inr x497=>(iG ([(YO.mk [] [])]) 0 (fun o=>(YO.mk o.aT l))).bind fun p=>(iG p 0 (fun q=>(YO.mk x497 q.dQ))).bind fun r=>(iZ true b r).bind fun s=>some (.inl ((bK (a+1)),s)))else some (.inr (.inr (.inr b)))) bS (x2.fW,[])).bind fun t=>(match t with|.inl x504=>some ([],false)|.inr (.inl x505)=>some ([],false)|.inr (.inr x506)=>some (x506,true))
def Uo (x1:Y0) (x2:aV):F61 x1 x2=(Rj x1 x2.nI).bind fun q=>(F62 x1 x2.cZ).bind fun r=>(bM x1.bG x2.nI).bind fun a=>if x1.bV then(bM x1.bG r.1).bind fun b=>(F96 a.aK b.aK).bind fun t=>if t.2 !=0 then some ([],false)else gv (fun p=>if x1.bV then(Xo p t.1).bind fun z=>some (z.2,z.1)else some (0,p)) (bK (0-a.aK.aZ)) x1 x2 q.1 else gv (fun p=>if x1.bV then(Xo p (YL.mk 0 0)).bind fun z=>some (z.2,z.1)else some (0,p)) a.aK.aZ x1 x2 q.1:=by rfl
def Xu (p:YH):Int:=((Ms p).getD (0,0)).1
def Up (p:YH):∃e,Ms p=some (Xu p,e)/\(e=0↔nH p=some 0):=by
 obtain⟨⟨n,e⟩,h,h2⟩:=jW1 p;exact⟨e,by unfold Xu;rw[h];rfl,h2⟩
def hkB (T:YH->Int×YH) (a:Int) (h:YB):Bool:= !((((T h.cC).1 !=0)||(decide ((bK (Xu (T h.cC).2+a))<0)))||(decide ((bK (Xu (T h.cC).2+a))>127)))
def evB (T:YH->Int×YH) (a:Int) (e:YE):Bool:=e.cA.all (hkB T a)
def zH1 {tr:YH->aB (Int×YH)} {T:YH->Int×YH} (t:∀p,tr p=some (T p)) (b:Int) {A:aA YE} {j:Nat} (z:j<A.length) (c:Bool) {h0:aA YB} (hl:h0.length<=1000):
  Ok (hdL tr b A j c (h0.length:Int) h0) (fun r=>match r with|.inl _=>h0.all (hkB T b)=false|.inr _=>h0.all (hkB T b)=true):=by
 unfold hdL;refine cG (l:=h0) (fun q=>q.1) (fun i q=>q.2.length=h0.length/\(∀k,i<=k->q.2[k]? =h0[k]?)/\(h0.take i).all (hkB T b)=true) (by omega) rfl ⟨rfl,fun _ _=>rfl,by simp⟩ (fun i x q u G hi g o hg hw=>?_) (fun q hi o=>?_);obtain⟨k,m⟩:=q;obtain⟨h1,h2,D⟩:=o;dsimp only at hi g h1 h2 hw;rw[hi]at hw;have E:=(zZ2.1 u).1;have h:m[i]? =some x:=by rw[h2 i (aC3 _),u]
 have s:m[i]'(by omega)=x:=by rw[aO3 (by omega)]at h;exact bR3 h
 dsimp only;rw[aE3 (by simpa using g),nV z,zX2,hi,pQ (by omega) (by omega),zX2,Int.toNat_natCast,jW (by omega),zX2,s]
 have key:∃(a:aA YB) (y:YB),(if c then(iG (m.set i (YB.mk x.cC x.nW 0)) i (fun d=>(YB.mk d.cC false d.vD))).bind fun n=>some n else some (m.set i (YB.mk x.cC x.nW 0)):aB (aA YB))=some a/\a.length=h0.length/\a[i]? =some y/\y.cC=x.cC/\∀k,i+1<=k->a[k]? =h0[k]? :=by
  cases c with
  |false=>
   refine⟨_,YB.mk x.cC x.nW 0,rfl,by rw[bV3];exact h1,by rw[List.getElem?_set_self (by omega)],rfl,fun k hk=>?_⟩;rw[aP3 (by omega)];exact h2 k (by omega)
  |true=>
   rw[aE3 rfl,jW (by rw[bV3];omega),zX2];refine⟨_,_,rfl,by rw[bV3,bV3];exact h1,by rw[List.getElem?_set_self (by rw[bV3];omega)],by simp,fun k hk=>?_⟩;rw[aP3 (by omega),aP3 (by omega)];exact h2 k (by omega)
 obtain⟨a,y,B,e2,w,C,H⟩:=key;have f:i<a.length:=by omega
 have hy:a[i]=y:=by rw[aO3 f]at w;exact bR3 w
 refine Ob (P:=fun v=>v=a) ⟨_,B,rfl⟩ fun v hv=>?_;subst hv;rw[nV f,zX2,hy,C,t,zX2];obtain⟨J,hf,_⟩:=Up (T x.cC).2;rw[hf,zX2];dsimp only;have e:(((T x.cC).1 !=0)||(decide ((bK (Xu (T x.cC).2+b))<0))||(decide ((bK (Xu (T x.cC).2+b))>127)))= !hkB T b x:=by unfold hkB;rw[Bool.not_not]
 rw[e];cases hk:hkB T b x with
 |false=>
  rw[aE3 (show(!false)=true from rfl),jW z,zX2];refine .mk ?_;dsimp only;rw[List.all_eq_false];exact⟨x,G,by rw[hk];exact Bool.false_ne_true⟩
 |true=>
  rw[aG3 (by simp),jW f,zX2,hw];refine .mk ⟨rfl,by dsimp only;rw[bV3];exact e2,fun k F=>?_,?_⟩
  grind
  rw[List.take_add_one,u,List.all_append,D];simp[hk]
 obtain⟨k,m⟩:=q;dsimp only at hi o;dsimp only;rw[aG3 (by simp;omega)];refine .mk ?_;have:=o.2.2
 rwa [bU3]at this
def zI1 {tr:YH->aB (Int×YH)} {T:YH->Int×YH} (j:∀p,tr p=some (T p)) (b:Int) (c:Bool) {a:aA YE} (hl:a.length<=1000) (u:∀e∈a,e.cA.length<=1000):
  Ok (evL tr b c a) (fun r=>match r with|.inl _=>a.all (evB T b)=false|.inr l=>a.all (evB T b)=true/\l.map (·.cE)=a.map (·.cE)):=by
 unfold evL;refine cG (l:=a) (fun q=>q.1) (fun i q=>q.2.length=a.length/\(∀k,i<=k->q.2[k]? =a[k]?)/\q.2.map (·.cE)=a.map (·.cE)/\(a.take i).all (evB T b)=true) (by omega) rfl ⟨rfl,fun _ _=>rfl,rfl,by simp⟩ (fun i x q n s hi f d hg hw=>?_) (fun q hi d=>?_);obtain⟨k,m⟩:=q;obtain⟨h1,h2,o,t⟩:=d;dsimp only at hi f h1 h2 o hw;rw[hi]at hw;have v:=(zZ2.1 n).1;have g:m[i]? =some x:=by rw[h2 i (aC3 _),n]
 have h:m[i]'(by omega)=x:=by rw[aO3 (by omega)]at g;exact bR3 g
 dsimp only;rw[aE3 (by simpa using f),hi,pQ (by omega) (by omega),zX2,Int.toNat_natCast,nV (by omega),zX2,zX2,zX2,jW (by omega),zX2,nV (by rw[bV3];omega),zX2,h];refine Ob (zH1 j b (by rw[bV3];omega) _ (u x s)) fun r hr=>?_;cases r with
 |inl y=>
  refine .mk ?_;dsimp only at hr ⊢;rw[List.all_eq_false];exact⟨x,s,by unfold evB;rw[hr];exact Bool.false_ne_true⟩
 |inr y=>
  dsimp only at hr ⊢;rw[jW (by rw[bV3];omega),zX2,hw];refine .mk ⟨rfl,by dsimp only;rw[bV3,bV3];exact h1,fun k w=>?_,?_,?_⟩
  grind
  dsimp only;rw[<-o];apply dY3;intro k;rw[bF3,bF3];by_cases hk:k=i
  grind
  grind
  rw[List.take_add_one,n,List.all_append,t];have:evB T b x=true:=hr;simp[this]
 obtain⟨k,m⟩:=q;dsimp only at hi d;dsimp only;rw[aG3 (by simp;omega)];refine .mk ?_;have:=d.2.2.2;rw[bU3]at this;exact⟨this,d.2.2.1⟩
def sJ1 {v:YO} (hv:v.sm):jI1 v=some (v.dQ,v.aT):=by
 have o:=hv.aT;have p:=hv.dQ;unfold jI1 dT;refine mF (a:=v.aT) (Ok.eq (cG (l:=v.aT) (fun q=>q.1) (fun i q=>q.2=v.aT.take i) (by omega) rfl rfl (fun i x q j g hi e b hg hw=>?_) (fun q hi b=>?_))) ?_;obtain⟨k,m⟩:=q;dsimp only at hi e b hg hw;have c:=hv.fR x g;have h1:=c.cA;have h2:=c.dX;have n:=c.dA;simp only[e,hg,nt]
 have d:Dc x=some (x.dX,x.dA,x.cA):=by
  unfold Dc;rw[oB (by omega),oB (by omega),oB (by omega)];rfl
 rw[d,zX2];dsimp only;rw[jW (by simp),zX2];refine Ob (eP (Q:=fun v=>v=m++[x]) (by rw[b,cC3];omega) (by simp)) fun w f=>.mk ⟨hw,?_⟩;dsimp only;rw[f,b,List.take_add_one,j];rfl;obtain⟨k,m⟩:=q;dsimp only at hi b;simp only[hi,nf];rw[bU3]at b;exact .mk b
 have:iZ false ([]:aA YU) v.dQ=some v.dQ:=by
  unfold iZ;rw[aE3 ⟨by simp[Go.Sim.maxRoom];omega,fun h=>by cases h⟩];rfl
 rw[this];rfl
end Go.P
namespace Go.P
variable {s:Y0}
def sL {A:Type} (l:aA A) (f e:Nat):aA A:=(l.drop f).take (e-f)
def yM {A:Type} {l:aA A} {f i:Nat} (h:f<=i) {x:A} (a:l[i]? =some x):sL l f (i+1)=sL l f i++[x]:=by
 unfold sL;rw[show i+1-f=(i-f)+1 by omega,List.take_add_one,bH3,show f+(i-f)=i by omega,a];rfl
def yN {A:Type} (l:aA A) (f:Nat):sL l f f=[]:=by unfold sL;simp
def Xv {A:Type} {l:aA A} {f e i:Nat} (h1:f<=i) (h2:i<e) {x:A} (a:l[i]? =some x):x∈sL l f e:=by
 unfold sL;refine aJ3 (i:=i-f) ?_;rw[aY3,aE3 (by omega),bH3,show f+(i-f)=i by omega,a]
def Xw {A:Type} {l:aA A} {f e:Nat} {x:A} (h:x∈sL l f e):x∈l:=List.mem_of_mem_drop (cM3 h)
def Ra {A S E:Type} {l:aA A} {f e:Nat} (d:f<=e) (he:e<=l.length) (hl:l.length<=1000000) {body:Int×S->aB ((Int×S)⊕E)} {Q:E->Prop} {s0:S} (I:Nat->S->Prop) (h0:I f s0)
  (h:∀(i:Nat) (x:A) (t:S),f<=i->i<e->l[i]? =some x->x∈l->I i t->bM l (i:Int)=some x->bK ((i:Int)+1)=(i:Int)+1->Ok (body ((i:Int),t)) (fun r=>match r with|.inl q=>q.1=(i:Int)+1/\I (i+1) q.2|.inr e=>Q e))
  (b:∀t,I e t->Ok (body ((e:Int),t)) (fun r=>match r with|.inl _=>False|.inr e=>Q e)):Ok (bC body bS ((f:Int),s0)) Q:=by
 refine gY (fun q=>∃i:Nat,q.1=(i:Int)/\f<=i/\i<=e/\I i q.2) (fun q=>((e:Int)-q.1).toNat) (fun q g=>?_) bS _ ⟨f,rfl,aC3 _,d,h0⟩ (by simp only[bS];omega);obtain⟨k,t⟩:=q;obtain⟨i,h1,h2,j,c⟩:=g;dsimp only at h1 c;subst h1;by_cases hi:i<e;have a:i<l.length:=by omega
 refine(h i l[i] t h2 hi (aO3 a) (cE3 a) c (iW a) (bU (by omega) (by omega))).mono fun r hr=>?_;cases r with
 |inl q=>exact⟨⟨i+1,by have:=hr.1;omega,by omega,by omega,hr.2⟩,by have:=hr.1;dsimp only;omega⟩
 |inr e=>exact hr
 have:i=e:=by omega
 subst this;refine(b t c).mono fun r hr=>?_;cases r with
 |inl q=>exact hr.elim
 |inr e=>exact hr
def sH (st vo:Nat) (m:YM):aA YE:=((((m.aQ[st]?).map (·.aM)).getD [])[vo]?.map (·.aT)).getD []
def Bq (ow st vo:Nat) (m:YM):Bool:=(sH st vo m).length !=0&&(((m.aQ[ow]?).map (·.aM)).getD []).length==1
def Rb (st vo:Nat) (m:YM):aA Int:=(sH st vo m).map (·.cE)
def Jw (v:YO):aA Int:=v.aT.map (·.cE)
def zJ1 {st vo:Nat} {m:YM} {x:YE} (h:x∈sH st vo m):∃c v,m.aQ[st]? =some c/\c.aM[vo]? =some v/\x∈v.aT:=by
 unfold sH at h;cases hc:m.aQ[st]? with
 |none=>rw[hc]at h;simp at h
 |some c=>
  rw[hc]at h;simp only[aU3,Option.getD_some]at h;cases hv:c.aM[vo]? with
  |none=>rw[hv]at h;simp at h
  |some v=>rw[hv]at h;exact⟨c,v,rfl,hv,by simpa using h⟩
def uY1 {tr:YH->aB (Int×YH)} {T:YH->Int×YH} (O:∀p,tr p=some (T p)) (k:Int) (hs:s.sm) {p:Int} {f e ow st vo:Nat} (K:f<=e) (he:e<=s.aD.length) (hc:∀m∈s.aD,ow<m.aQ.length/\st<m.aQ.length):
  Ok (gv tr k s ⟨p,f,e,st,vo⟩ ow) (fun r=>r.2=(sL s.aD f e).all (fun m=>Bq ow st vo m&&(sH st vo m).all (evB T k))/\(r.2=true->r.1.map Jw=(sL s.aD f e).map (Rb st vo))):=by
 have Y:=hs.aD;unfold gv;generalize hPP:(fun m=>Bq ow st vo m&&(sH st vo m).all (evB T k))=PP;refine Ob (P:=fun r=>match r with|.inl _=>(sL s.aD f e).all PP=false|.inr (.inl _)=>(sL s.aD f e).all PP=false|.inr (.inr l)=>(sL s.aD f e).all PP=true/\l.map Jw=(sL s.aD f e).map (Rb st vo)) (Ra (l:=s.aD) K he (by omega) (fun i (l:aA YO)=>(sL s.aD f i).all PP=true/\l.map Jw=(sL s.aD f i).map (Rb st vo)/\l.length<=i) ⟨by rw[yN];rfl,by rw[yN];rfl,by simp⟩ (fun i m l h1 h2 A S E hg hw=>?_) (fun l E=>?_)) fun r hr=>?_;obtain⟨F,G,W⟩:=E;have N:=hs.cP m S;obtain⟨c1,c2⟩:=hc m S;have M:bM m.aQ (st:Int)=some m.aQ[st]:=iW c2;have L:bM m.aQ (ow:Int)=some m.aQ[ow]:=iW c1;have J:=N.gU _ (cE3 c2)
 have n:PP m=false->(sL s.aD f e).all PP=false:=fun h=>by
  rw[List.all_eq_false];exact⟨m,Xv h1 h2 A,by rw[h];exact Bool.false_ne_true⟩
 have u:sH st vo m=((m.aQ[st].aM[vo]?).map (·.aT)).getD []:=by
  unfold sH;rw[aO3 c2];rfl
 have H:PP m=((sH st vo m).length !=0&&m.aQ[ow].aM.length==1&&(sH st vo m).all (evB T k)):=by
  rw[<-hPP];unfold Bq;dsimp only;rw[aO3 c1];rfl
 dsimp only;rw[aE3 (by simp;omega),hg,zX2,M,zX2]
 have g:(if decide ((m.aQ[st].aM.length:Int)<=(vo:Int))then some true else(some m.aQ[st]).bind fun B=>(bM B.aM (vo:Int)).bind fun C=>some ((C.aT.length:Int)==0):aB Bool)=some ((sH st vo m).length==0):=by
  by_cases hv:vo<m.aQ[st].aM.length;rw[aG3 (by simp;omega),zX2,iW hv,zX2,u,aO3 hv];simp only[aU3,Option.getD_some];congr 1;cases h:m.aQ[st].aM[vo].aT with
  |nil=>rfl
  |cons a b=>simp;omega
  grind
 refine Ob (P:=fun v=>v=((sH st vo m).length==0)) ⟨_,g,rfl⟩ fun U o=>?_;subst o
 have j:(if((sH st vo m).length==0)then some true else(bM m.aQ (ow:Int)).bind fun D=>some ((D.aM.length:Int)!=1):aB Bool)=some ((sH st vo m).length==0||m.aQ[ow].aM.length !=1):=by
  cases(sH st vo m).length==0 with
  |true=>rfl
  |false=>
   rw[aG3 (by simp),L,zX2];congr 1;rw[dW3];by_cases h:m.aQ[ow].aM.length=1;rw[h];rfl
   grind
 refine Ob (P:=fun v=>v=((sH st vo m).length==0||m.aQ[ow].aM.length !=1)) ⟨_,j,rfl⟩ fun V q=>?_;subst q;by_cases c:((sH st vo m).length==0||m.aQ[ow].aM.length !=1)=true;rw[aE3 c];refine .mk (n ?_);rw[H];simp only[aQ3,cK3,dQ3]at c;rcases c with h|h;rw[h];rfl
 grind
 rw[aG3 c];simp only[aQ3,cK3,dQ3,cZ3,Decidable.not_not]at c;obtain⟨b1,b2⟩:=c;have hv:vo<m.aQ[st].aM.length:=by grind
 have z:sH st vo m=m.aQ[st].aM[vo].aT:=by rw[u,aO3 hv];rfl
 have d:=J.fK _ (cE3 hv);have X:=d.aT;rw[zX2,iW hv,zX2,sJ1 d,zX2];dsimp only;refine Ob (zI1 O k _ (by omega) (fun x A=>by have:=(d.fR x A).cA;omega)) fun r hr=>?_;have t:PP m=m.aQ[st].aM[vo].aT.all (evB T k):=by grind
 cases r with
 |inl y=>
  refine .mk (n ?_);rw[t];exact hr
 |inr y=>
  obtain⟨r1,r2⟩:=hr;dsimp only;rw[jW (by simp),zX2,jW (by simp),zX2];refine Ob (eP (Q:=fun v=>v=l++[YO.mk y m.aQ[st].aM[vo].dQ]) (by omega) (by simp)) fun w R=>.mk ⟨hw,?_,?_,?_⟩;rw[yM h1 A,List.all_append,F];simp[t,r1];dsimp only;have hk:Rb st vo m=y.map (·.cE):=by unfold Rb;rw[z,r2]
  rw[R,yM h1 A,cJ3,cJ3,G,bQ3,bQ3,hk];rfl
  grind
 dsimp only;rw[aG3 (by simp)];exact .mk ⟨E.1,E.2.1⟩
 match r,hr with
 |.inl _,hr=>exact .mk ⟨hr.symm,fun h=>by cases h⟩
 |.inr (.inl _),hr=>exact .mk ⟨hr.symm,fun h=>by cases h⟩
 |.inr (.inr l),hr=>exact .mk ⟨hr.1.symm,fun _=>hr.2⟩
end Go.P
namespace Go.P
variable {s:Y0}
def mhL (x1:Y0) (x2:aV) (p:YL) (x11:Int) (d:YE) (f:Bool):aB ((aA YB)⊕(aA YB)):=
 bC (E:=(aA YB)⊕(aA YB)) (fun(⟨b,a⟩:Int×(aA YB))=>if decide (b<(d.cA.length:Int))then(bM d.cA b).bind fun e=>(bM d.cA b).bind fun g=>(bM x1.bG x2.nI).bind fun c=>if x1.bV then(Xo e.cC p).bind fun⟨h,k⟩=>if(x11 !=0)||(k !=0)then some (.inr (.inl a))else(Ms h).bind fun⟨i,l⟩=>if((l !=0)||(decide ((bK (i+(bK (0-c.aK.aZ))))<0)))||(decide ((bK (i+(bK (0-c.aK.aZ))))>127))then some (.inr (.inl a))else(iZ false a [(YB.mk h (g.nW&&(!f)) 0)]).bind fun m=>some (.inl ((bK (b+1)),m))else(Ms e.cC).bind fun⟨j,n⟩=>if((n !=0)||(decide ((bK (j+c.aK.aZ))<0)))||(decide ((bK (j+c.aK.aZ))>127))then some (.inr (.inl a))else(iZ false a [(YB.mk e.cC (g.nW&&(!f)) 0)]).bind fun o=>some (.inl ((bK (b+1)),o))else some (.inr (.inr a))) bS (0,[])
def meL (x1:Y0) (x2:aV) (m:YL) (x11:Int) (c:YW) (x100:Int):aB ((aA YE)⊕(aA YE)):=
 bC (E:=(aA YE)⊕(aA YE)) (fun(⟨b,d⟩:Int×(aA YE))=>(bM c.aM x2.dB).bind fun f=>if decide (b<(f.aT.length:Int))then(bM c.aM x2.dB).bind fun g=>(bM g.aT b).bind fun e=>((if x100==(bK (x2.mH-1))then(bM c.aM x2.dB).bind fun h=>some (b==(bK ((h.aT.length:Int)-1)))else some false:aB (Bool))).bind fun i=>(mhL x1 x2 m x11 e i).bind fun j=>(match j with|.inl x176=>some (.inr (.inl d))|.inr x177=>(iG ([(YE.mk (YZ.mk 0 0) e.cE e.Value [] [] 0 0 0 [] 0 0)]) 0 (fun a=>(YE.mk a.ID a.cE a.Value x177 a.dX a.bQ a.dM a.dU a.dA a.kZ a.kY))).bind fun k=>(iZ true d k).bind fun l=>some (.inl ((bK (b+1)),l)))else some (.inr (.inr d))) bS (0,[])
def mvS (x1:Y0) (x2:aV) (q:YL) (x11 r:Int):aB ((aA YO)×Bool):=
 (bC (E:=(aA YO)⊕(aA YO)) (fun(⟨x100,a⟩:Int×(aA YO))=>if decide (x100<x2.mH)then(bM x1.aD x100).bind fun c=>(bM c.aQ x2.cZ).bind fun b=>(bM x1.aD x100).bind fun d=>(bM d.aQ r).bind fun e=>((if((e.aM.length:Int)!=1)||(decide (x2.dB>=(b.aM.length:Int)))then some true else(bM b.aM x2.dB).bind fun f=>some ((f.aT.length:Int)==0):aB (Bool))).bind fun g=>if g then some (.inr (.inl a))else(bM b.aM x2.dB).bind fun h=>(iZ false ([]:aA YU) h.dQ).bind fun i=>(meL x1 x2 q x11 b x100).bind fun j=>(match j with|.inl x182=>some (.inr (.inl a))|.inr x183=>(iG ([(YO.mk [] [])]) 0 (fun k=>(YO.mk x183 k.dQ))).bind fun l=>(iG l 0 (fun m=>(YO.mk m.aT i))).bind fun n=>(iZ true a n).bind fun o=>some (.inl ((bK (x100+1)),o)))else some (.inr (.inr a))) bS (x2.fW,[])).bind fun p=>(match p with|.inl x190=>some ([],false)|.inr x191=>some (x191,true))
def zK1 (x1:Y0) (x2:aV):F63 x1 x2=(Rj x1 x2.nI).bind fun q=>(F62 x1 x2.cZ).bind fun r=>(bM x1.bG x2.nI).bind fun a=>(bM x1.bG r.1).bind fun b=>(F96 a.aK b.aK).bind fun t=>mvS x1 x2 t.1 t.2 q.1:=by rfl
def trT (W:Bool) (i:YL) (p:YH):Int×YH:=if W then(((Xo p i).getD (p,1)).2,((Xo p i).getD (p,1)).1)else(0,p)
def yW (W:Bool) (n:Int):Int:=if W then bK (0-n)else n
def kD1 (W:Bool) (i:YL) (p:YH):(if W then(Xo p i).bind fun z=>some (z.2,z.1)else some (0,p):aB (Int×YH))=some (trT W i p):=by
 unfold trT;cases W with
 |false=>rfl
 |true=>
  obtain⟨⟨q,e⟩,h,_⟩:=kA1 p i;rw[h];rfl
def yO (W:Bool) (i:YL) (x11 a:Int) (h:YB):Bool:=(!W||x11==0)&&hkB (trT W i) a h
def zL1 {c:aV} {i:YL} {x11:Int} {e:YE} {b:Bool} {p:YJ} (hp:bM s.bG c.nI=some p) (hl:e.cA.length<=1000) (hv:∀h∈e.cA,nH h.cC=some 0):
  Ok (mhL s c i x11 e b) (fun r=>match r with|.inl _=>e.cA.all (yO s.bV i x11 (yW s.bV p.aK.aZ))=false|.inr _=>e.cA.all (yO s.bV i x11 (yW s.bV p.aK.aZ))=true):=by
 unfold mhL;refine cG (l:=e.cA) (fun q=>q.1) (fun k q=>q.2.length<=k/\(e.cA.take k).all (yO s.bV i x11 (yW s.bV p.aK.aZ))=true) (by omega) rfl ⟨by simp,by simp⟩ (fun k x q A B hi o u hg hw=>?_) (fun q hi u=>?_);obtain⟨n,l⟩:=q;obtain⟨h1,h2⟩:=u;dsimp only at hi o h1 hw hg;have hkl:=(zZ2.1 A).1;rw[hi]at hw hg;have d:yO s.bV i x11 (yW s.bV p.aK.aZ) x=false->e.cA.all (yO s.bV i x11 (yW s.bV p.aK.aZ))=false:=fun h=>by grind
 have a:yO s.bV i x11 (yW s.bV p.aK.aZ) x=true->(e.cA.take (k+1)).all (yO s.bV i x11 (yW s.bV p.aK.aZ))=true:=fun h=>by
  rw[List.take_add_one,A,List.all_append,h2];simp[h]
 dsimp only;rw[aE3 (by simpa using o),hi,hg,zX2,zX2,hp,zX2];have m:=hv x B;cases hW:s.bV with
 |true=>
  rw[hW]at d a;rw[aE3 rfl];refine Ok.bindE (kA1 x.cC i) fun r hr t=>?_;obtain⟨q,y⟩:=r;dsimp only at t ⊢;have z:trT true i x.cC=(y,q):=by unfold trT;rw[hr];rfl
  by_cases hc:((x11 !=0)||(y !=0))=true;rw[aE3 hc];refine .mk (d ?_);unfold yO hkB;rw[z];simp only[aQ3,dQ3]at hc;rcases hc with h|h
  grind
  grind
  rw[aG3 hc];simp only[aQ3,dQ3,cZ3,Decidable.not_not]at hc;obtain⟨c1,c2⟩:=hc;obtain⟨f,hf,j⟩:=Up q;have g:=j.2 (t c2);subst g;rw[hf,zX2];dsimp only
  have hk:yO true i x11 (yW true p.aK.aZ) x= !((((0:Int)!=0)||(decide ((bK (Xu q+(bK (0-p.aK.aZ))))<0)))||(decide ((bK (Xu q+(bK (0-p.aK.aZ))))>127))):=by
   unfold yO hkB;rw[z,c1,c2];rfl
  rw[show((((0:Int)!=0)||(decide ((bK (Xu q+(bK (0-p.aK.aZ))))<0)))||(decide ((bK (Xu q+(bK (0-p.aK.aZ))))>127)))= !yO true i x11 (yW true p.aK.aZ) x by rw[hk,Bool.not_not]];cases hh:yO true i x11 (yW true p.aK.aZ) x with
  |false=>
   rw[aE3 (show(!false)=true from rfl)];exact .mk (d hh)
  |true=>
   rw[aG3 (by simp)];refine Ob (eP (Q:=fun v=>v.length<=l.length+1) (by omega) (by simp)) fun v w=>.mk ⟨hw,by dsimp only;omega,a hh⟩
 |false=>
  rw[hW]at d a;rw[aG3 (by simp)];obtain⟨f,hf,j⟩:=Up x.cC;have g:=j.2 m;subst g;rw[hf,zX2];dsimp only
  have hk:yO false i x11 (yW false p.aK.aZ) x= !((((0:Int)!=0)||(decide ((bK (Xu x.cC+p.aK.aZ))<0)))||(decide ((bK (Xu x.cC+p.aK.aZ))>127))):=by
   unfold yO hkB trT yW;rfl
  rw[show((((0:Int)!=0)||(decide ((bK (Xu x.cC+p.aK.aZ))<0)))||(decide ((bK (Xu x.cC+p.aK.aZ))>127)))= !yO false i x11 (yW false p.aK.aZ) x by rw[hk,Bool.not_not]];cases hh:yO false i x11 (yW false p.aK.aZ) x with
  |false=>
   rw[aE3 (show(!false)=true from rfl)];exact .mk (d hh)
  |true=>
   rw[aG3 (by simp)];refine Ob (eP (Q:=fun v=>v.length<=l.length+1) (by omega) (by simp)) fun v w=>.mk ⟨hw,by dsimp only;omega,a hh⟩
 obtain⟨n,l⟩:=q;dsimp only at hi u;dsimp only;rw[aG3 (by simp;omega)];refine .mk ?_;have:=u.2
 rwa [bU3]at this
end Go.P
namespace Go.P
variable {s:Y0}
def sK1 {A:Type} {l:aA A} (h:l.length<=1000):iZ false ([]:aA A) l=some l:=by
 unfold iZ;rw[aE3 ⟨by simp[Go.Sim.maxRoom];omega,fun h=>by cases h⟩];rfl
def zM1 {p:Int} {f e:Int} {st vo:Nat} {i:YL} {x11:Int} {a:YW} {x100:Int} {o:YJ} (hp:bM s.bG p=some o) (w:vo<a.aM.length) (C:a.aM[vo].aT.length<=1000) (B:∀e∈a.aM[vo].aT,e.cA.length<=1000/\∀h∈e.cA,nH h.cC=some 0):
  Ok (meL s ⟨p,f,e,st,vo⟩ i x11 a x100) (fun r=>match r with|.inl _=>a.aM[vo].aT.all (fun e=>e.cA.all (yO s.bV i x11 (yW s.bV o.aK.aZ)))=false|.inr l=>a.aM[vo].aT.all (fun e=>e.cA.all (yO s.bV i x11 (yW s.bV o.aK.aZ)))=true/\l.map (·.cE)=a.aM[vo].aT.map (·.cE)):=by
 unfold meL;generalize hPP:(fun e:YE=>e.cA.all (yO s.bV i x11 (yW s.bV o.aK.aZ)))=PP;have g:bM a.aM (vo:Int)=some a.aM[vo]:=iW w;generalize hE0:a.aM[vo]=V at *;refine cG (l:=V.aT) (fun q=>q.1) (fun k q=>q.2.length<=k/\(V.aT.take k).all PP=true/\q.2.map (·.cE)=(V.aT.take k).map (·.cE)) (by omega) rfl ⟨by simp,by simp,by simp⟩ (fun k x q z u hi j t hg hw=>?_) (fun q hi t=>?_);obtain⟨n,l⟩:=q;obtain⟨h1,h2,A⟩:=t;dsimp only at hi j h1 A hw hg;have hkl:=(zZ2.1 z).1;rw[hi]at hw hg;dsimp only;rw[g,zX2,aE3 (by simpa using j),zX2,hi,hg,zX2];refine Ob (P:=fun _=>True) ?_ fun b _=>?_;refine Oi (fun _=>?_) (fun _=>.mk trivial);rw[zX2];exact .mk trivial;refine Ob (zL1 (c:=⟨p,f,e,st,vo⟩) hp (B x u).1 (B x u).2) fun r hr=>?_;have d:PP x=x.cA.all (yO s.bV i x11 (yW s.bV o.aK.aZ)):=by rw[<-hPP]
 cases r with
 |inl y=>
  refine .mk ?_;dsimp only at hr ⊢;rw[List.all_eq_false];exact⟨x,u,by rw[d,hr];exact Bool.false_ne_true⟩
 |inr y=>
  dsimp only at hr ⊢;rw[jW (by simp),zX2];refine Ob (P:=fun v=>v.length<=l.length+1/\v.map (·.cE)=l.map (·.cE)++[x.cE]) (eP (by omega) ⟨by simp,by simp⟩) fun v m=>.mk ⟨hw,by have:=m.1;dsimp only;omega,?_,?_⟩;rw[List.take_add_one,z,List.all_append,h2];simp[d,hr];dsimp only;rw[m.2,List.take_add_one,z,cJ3,A];rfl
 obtain⟨n,l⟩:=q;dsimp only at hi t;dsimp only;rw[g,zX2,aG3 (by simp;omega)];refine .mk ?_;have h2:=t.2;rw[bU3]at h2;exact h2
def zN1 (hs:s.sm) {p:Int} {z:YJ} (hp:bM s.bG p=some z) {f e ow st vo:Nat} {i:YL} {x11:Int} (G:f<=e) (he:e<=s.aD.length) (hc:∀m∈s.aD,ow<m.aQ.length/\st<m.aQ.length) (S:∀m∈s.aD,∀x∈sH st vo m,∀h∈x.cA,nH h.cC=some 0):
  Ok (mvS s ⟨p,f,e,st,vo⟩ i x11 ow) (fun r=>r.2=(sL s.aD f e).all (fun m=>Bq ow st vo m&&(sH st vo m).all (fun e=>e.cA.all (yO s.bV i x11 (yW s.bV z.aK.aZ))))/\(r.2=true->r.1.map Jw=(sL s.aD f e).map (Rb st vo))):=by
 have V:=hs.aD;unfold mvS;generalize hPP:(fun m=>Bq ow st vo m&&(sH st vo m).all (fun e=>e.cA.all (yO s.bV i x11 (yW s.bV z.aK.aZ))))=PP;refine Ob (P:=fun r=>match r with|.inl _=>(sL s.aD f e).all PP=false|.inr l=>(sL s.aD f e).all PP=true/\l.map Jw=(sL s.aD f e).map (Rb st vo)) (Ra (l:=s.aD) G he (by omega) (fun i (l:aA YO)=>(sL s.aD f i).all PP=true/\l.map Jw=(sL s.aD f i).map (Rb st vo)/\l.length<=i) ⟨by rw[yN];rfl,by rw[yN];rfl,by simp⟩ (fun k m l h1 h2 N K B hg hw=>?_) (fun l B=>?_)) fun r hr=>?_;obtain⟨C,D,T⟩:=B;have L:=hs.cP m K;obtain⟨c1,c2⟩:=hc m K;have J:bM m.aQ (st:Int)=some m.aQ[st]:=iW c2;have H:bM m.aQ (ow:Int)=some m.aQ[ow]:=iW c1;have F:=L.gU _ (cE3 c2)
 have n:PP m=false->(sL s.aD f e).all PP=false:=fun h=>by
  rw[List.all_eq_false];exact⟨m,Xv h1 h2 N,by rw[h];exact Bool.false_ne_true⟩
 have t:sH st vo m=((m.aQ[st].aM[vo]?).map (·.aT)).getD []:=by
  unfold sH;rw[aO3 c2];rfl
 have E:PP m=((sH st vo m).length !=0&&m.aQ[ow].aM.length==1&&(sH st vo m).all (fun e=>e.cA.all (yO s.bV i x11 (yW s.bV z.aK.aZ)))):=by
  rw[<-hPP];unfold Bq;dsimp only;rw[aO3 c1];rfl
 dsimp only;rw[aE3 (by simp;omega),hg,zX2,J,zX2,zX2,H,zX2]
 have j:(if((m.aQ[ow].aM.length:Int)!=1)||(decide ((vo:Int)>=(m.aQ[st].aM.length:Int)))then some true else(bM m.aQ[st].aM (vo:Int)).bind fun A=>some ((A.aT.length:Int)==0):aB Bool)=some ((sH st vo m).length==0||m.aQ[ow].aM.length !=1):=by
  by_cases O:m.aQ[ow].aM.length=1;by_cases hv:vo<m.aQ[st].aM.length;rw[aG3 (by simp[O];omega),iW hv,zX2,t,aO3 hv,O];simp only[aU3,Option.getD_some];congr 1;cases h:m.aQ[st].aM[vo].aT with
  |nil=>rfl
  |cons a b=>simp;omega
  grind
  grind
 refine Ob (P:=fun v=>v=((sH st vo m).length==0||m.aQ[ow].aM.length !=1)) ⟨_,j,rfl⟩ fun R o=>?_;subst o;by_cases c:((sH st vo m).length==0||m.aQ[ow].aM.length !=1)=true;rw[aE3 c];refine .mk (n ?_);rw[E];simp only[aQ3,cK3,dQ3]at c;rcases c with h|h;rw[h];rfl
 grind
 rw[aG3 c];simp only[aQ3,cK3,dQ3,cZ3,Decidable.not_not]at c;obtain⟨b1,b2⟩:=c;have hv:vo<m.aQ[st].aM.length:=by grind
 have d:sH st vo m=m.aQ[st].aM[vo].aT:=by rw[t,aO3 hv];rfl
 have g:=F.fK _ (cE3 hv);have U:=g.aT;have W:=g.dQ;rw[iW hv,zX2,sK1 (by omega),zX2];refine Ob (zM1 (f:=f) (e:=e) (st:=st) (i:=i) (x11:=x11) (x100:=(k:Int)) hp hv (by omega) (fun x u=>⟨by have:=(g.fR x u).cA;omega,S m K x (by rw[d];exact u)⟩)) fun r hr=>?_;have q:PP m=m.aQ[st].aM[vo].aT.all (fun e=>e.cA.all (yO s.bV i x11 (yW s.bV z.aK.aZ))):=by grind
 cases r with
 |inl y=>
  refine .mk (n ?_);rw[q];exact hr
 |inr y=>
  obtain⟨r1,r2⟩:=hr;dsimp only;rw[jW (by simp),zX2,jW (by simp),zX2];refine Ob (eP (Q:=fun v=>v=l++[YO.mk y m.aQ[st].aM[vo].dQ]) (by omega) (by simp)) fun w M=>.mk ⟨hw,?_,?_,?_⟩;rw[yM h1 N,List.all_append,C];simp only[bY3,List.all_nil,Bool.and_true,eD3];rw[q,r1];dsimp only;have hk:Rb st vo m=y.map (·.cE):=by unfold Rb;rw[d,r2]
  rw[M,yM h1 N,cJ3,cJ3,D,bQ3,bQ3,hk];rfl
  grind
 dsimp only;rw[aG3 (by simp)];exact .mk ⟨B.1,B.2.1⟩;cases r with
 |inl _=>exact .mk ⟨hr.symm,fun h=>by cases h⟩
 |inr l=>exact .mk ⟨hr.1.symm,fun _=>hr.2⟩
def wF (l:aA (aA Int)):Int×Int:=l.foldl (fun(t:Int×Int) k=>(k.foldl (fun n x=>if x==1 then bK (n+(t.2+1))else n) t.1,t.2+1)) (0,0)
def jH2 (a b:Int):bK (bK a+b)=bK (a+b):=by
 have key:∀n:Int,bK n=if n%18446744073709551616>=9223372036854775808 then n%18446744073709551616-18446744073709551616 else n%18446744073709551616:=by
  intro n;unfold bK IntKind.wrap;rw[show((2:Int)^IntKind.bits .i64)=18446744073709551616 from rfl,show((2:Int)^(IntKind.bits .i64-1))=9223372036854775808 from rfl];simp[IntKind.signed]
 rw[key (bK a+b),key (a+b),key a];split<;>split<;>split<;>omega
def zO1 (l:aA (aA Int)):(wF l).2=(l.length:Int):=by
 have:∀(l:aA (aA Int)) (t:Int×Int),(l.foldl (fun(t:Int×Int) k=>(k.foldl (fun n x=>if x==1 then bK (n+(t.2+1))else n) t.1,t.2+1)) t).2=t.2+(l.length:Int):=by
  intro l
  induction l with
  |nil=>intro t;simp
  |cons k l ih=>intro t;rw[List.foldl_cons,ih];simp;omega
 unfold wF;rw[this];simp
def sL1 {l:aA (aA Int)} (h:∀k∈l,∀x∈k,x≠1):(wF l).1=0:=by
 have:∀(l:aA (aA Int)) (t:Int×Int),(∀k∈l,∀x∈k,x≠1)->(l.foldl (fun(t:Int×Int) k=>(k.foldl (fun n x=>if x==1 then bK (n+(t.2+1))else n) t.1,t.2+1)) t).1=t.1:=by
  intro l
  induction l with
  |nil=>intro t _;rfl
  |cons k l ih=>
   intro t h;rw[List.foldl_cons,ih _ (fun k hk=>h k (bJ3 _ hk))];dsimp only;have hk:=h k (List.mem_cons_self ..);generalize t.1=n;generalize t.2=c;clear ih h
   induction k generalizing n with
   |nil=>rfl
   |cons x k ih=>
    rw[List.foldl_cons,aG3 (by simpa using hk x (List.mem_cons_self ..))];exact ih (fun y hy=>hk y (bJ3 _ hy)) n
 unfold wF;rw[this _ _ h]
def Xx (l:aA (aA Int)) (k:aA Int):wF (l++[k])=(k.foldl (fun n x=>if x==1 then bK (n+((l.length:Int)+1))else n) (wF l).1,(l.length:Int)+1):=by
 have:=zO1 l;unfold wF at this ⊢;rw[List.foldl_append,List.foldl_cons,List.foldl_nil,this]
def sM1 {h:aA YO} (hl:h.length<=1000) (hv:∀v∈h,v.aT.length<=1000):(bC (E:=Int) (fun(⟨m,d⟩:Int×Int)=>if decide (d<(h.length:Int))then(bM h d).bind fun o=>(bC (E:=Int) (fun(⟨f,g⟩:Int×Int)=>if decide (g<(o.aT.length:Int))then(bM o.aT g).bind fun s=>((if s.cE==1 then some (bK (f+(bK (d+1))))else some f:aB (Int))).bind fun t=>some (.inl (t,(bK (g+1))))else some (.inr f)) bS (m,0)).bind fun u=>some (.inl (u,(bK (d+1))))else some (.inr m)) bS (0,0))=some (wF (h.map Jw)).1:=by
 refine Ok.eq (cG (l:=h) (fun q=>q.2) (fun i q=>q.1=(wF ((h.take i).map Jw)).1) (by omega) rfl rfl (fun i v q p w hi hl c hg hw=>?_) (fun q hi c=>?_));obtain⟨n,k⟩:=q;dsimp only at hi hl c hg hw;have y:=(zZ2.1 p).1;have z:=hv v w;simp only[hl,hg,nt];rw[hw];refine Ob (P:=fun r=>r=(Jw v).foldl (fun n x=>if x==1 then bK (n+((i:Int)+1))else n) n) (oC (l:=v.aT) (fun q=>q.2) (fun q=>q.1) (fun n e=>if e.cE==1 then bK (n+((i:Int)+1))else n) (by omega) rfl (fun j e q p w hi hl c hg hw=>?_) (fun q hi c=>?_)) fun r hr=>.mk ⟨rfl,?_⟩;obtain⟨a,b⟩:=q;dsimp only at hi hl c hg hw;simp only[hl,hg,nt];by_cases hk:e.cE=1;rw[aE3 (by simpa using hk),zX2];exact .mk ⟨hw,by dsimp only;rw[aE3 (by simpa using hk)]⟩;rw[aG3 (by simpa using hk),zX2];exact .mk ⟨hw,by dsimp only;rw[aG3 (by simpa using hk)]⟩;obtain⟨a,b⟩:=q;dsimp only at hi c;simp only[hi,nf];refine .mk ?_;rw[c];unfold Jw;rw[List.foldl_map];dsimp only;rw[hr,List.take_add_one,p,cJ3,Option.toList_some,bQ3,cX3,Xx,c,bW3,cC3,cI3 (by omega)];obtain⟨n,k⟩:=q;dsimp only at hi c;simp only[hi,nf];rw[bU3]at c;exact .mk c
def sN1 {g:aA YO} (hl:g.length<=1000) (hv:∀v∈g,v.aT.length<=1000):(bC (E:=Int) (fun(⟨o,d⟩:Int×Int)=>if decide (d<(g.length:Int))then(bC (E:=Int) (fun(⟨h,m⟩:Int×Int)=>(bM g d).bind fun s=>if decide (m<(s.aT.length:Int))then(bM g d).bind fun t=>(bM t.aT m).bind fun u=>((if u.cE==1 then some (bK ((bK (h+d))+1))else some h:aB (Int))).bind fun w=>some (.inl (w,(bK (m+1))))else some (.inr h)) bS (o,0)).bind fun y=>some (.inl (y,(bK (d+1))))else some (.inr o)) bS (0,0))=some (wF (g.map Jw)).1:=by
 refine Ok.eq (cG (l:=g) (fun q=>q.2) (fun i q=>q.1=(wF ((g.take i).map Jw)).1) (by omega) rfl rfl (fun i v q p z hi hl c hg hw=>?_) (fun q hi c=>?_));obtain⟨n,k⟩:=q;dsimp only at hi hl c hg hw;have A:=(zZ2.1 p).1;have B:=hv v z;simp only[hl,hg,nt];rw[hw];refine Ob (P:=fun r=>r=(Jw v).foldl (fun n x=>if x==1 then bK (n+((i:Int)+1))else n) n) (oC (l:=v.aT) (fun q=>q.2) (fun q=>q.1) (fun n e=>if e.cE==1 then bK (n+((i:Int)+1))else n) (by omega) rfl (fun j e q p z f hl c hg hw=>?_) (fun q f c=>?_)) fun r hr=>.mk ⟨rfl,?_⟩;obtain⟨a,b⟩:=q;dsimp only at f hl c hg hw;simp only[hl,hg,nt];rw[jH2,show a+k+1=a+((i:Int)+1)by omega];by_cases hk:e.cE=1;rw[aE3 (by simpa using hk),zX2];exact .mk ⟨hw,by dsimp only;rw[aE3 (by simpa using hk)]⟩;rw[aG3 (by simpa using hk),zX2];exact .mk ⟨hw,by dsimp only;rw[aG3 (by simpa using hk)]⟩;obtain⟨a,b⟩:=q;dsimp only at f c;simp only[f,nf,nt];refine .mk ?_;rw[c];unfold Jw;rw[List.foldl_map];dsimp only;rw[hr,List.take_add_one,p,cJ3,Option.toList_some,bQ3,cX3,Xx,c,bW3,cC3,cI3 (by omega)];obtain⟨n,k⟩:=q;dsimp only at hi c;simp only[hi,nf];rw[bU3]at c;exact .mk c
end Go.P
namespace Go.P
variable {s:Y0}
def kE1 (hs:s.sm) (hv:Ho s=some true) (e:0<s.aD.length) {st vo:Nat}:∀m∈s.aD,∀x∈sH st vo m,(x.cE=1->x.cA≠[])/\∀h∈x.cA,nH h.cC=some 0:=by
 intro m d x f;obtain⟨c,v,h1,h2,b⟩:=zJ1 f;obtain⟨i,hi⟩:=aS3.1 d;obtain⟨n,hn⟩:=aS3.1 b;have he:=evV hs e hv i st vo n m c v x hi h1 h2 hn;have a:=((hs.cP m d).gU c (aJ3 h1)).fK v (aJ3 h2)|>.fR x b;exact sE1 a he
def zP1 (c:aV):F33 s c=F60 s c:=by
 unfold F33 F60;have:decide (c.dB>1)=decide (c.dB>=2):=by grind
 rw[this]
def sO1 (hs:s.sm) {st vo:Nat} {m:YM} (a:m∈s.aD):(sH st vo m).length<=20:=by
 unfold sH;cases hc:m.aQ[st]? with
 |none=>simp
 |some c=>
  simp only[aU3,Option.getD_some];cases hv:c.aM[vo]? with
  |none=>simp
  |some v=>
   simp only[aU3,Option.getD_some];exact(((hs.cP m a).gU c (aJ3 hc)).fK v (aJ3 hv)).aT
def Vc {A:Type} (l:aA A) (f e:Nat):(sL l f e).length<=l.length:=by unfold sL;rw[cC3,List.length_drop];omega
def kF1 (hs:s.sm) {l:aA YO} {f e st vo:Nat} (h:l.map Jw=(sL s.aD f e).map (Rb st vo)):l.length<=1000/\∀v∈l,v.aT.length<=1000:=by
 have c:=hs.aD;constructor;have:=congrArg List.length h;rw[bW3,bW3]at this;have:=Vc s.aD f e;omega;intro v hv;have:Jw v∈l.map Jw:=List.mem_map_of_mem hv;rw[h]at this;obtain⟨m,b,h2⟩:=dB3.1 this;have a:=congrArg List.length h2;unfold Rb Jw at a;rw[bW3,bW3]at a;have:=sO1 hs (st:=st) (vo:=vo) (Xw b);omega
def bP1 (hs:s.sm) (hv:Ho s=some true) {p:Int} (h0:0<=p) (h1:p<(s.bG.length:Int)) {f e st vo:Nat} (D:f<=e) (he:e<=s.aD.length) (b5:st<1000) (F:F60 s ⟨p,f,e,st,vo⟩=some true):
  ∃w,F28 s ⟨p,f,e,st,vo⟩=some w/\F34 s ⟨p,f,e,st,vo⟩=some w:=by
 have U:=uX1 hs hv;obtain⟨d,hp,h5,ow,q,b0,b4⟩:=zG1 hs hv h0 h1;obtain⟨⟨x5,x6,x7⟩,u,v⟩:=kB1 hs (st:Int) (by omega);dsimp only at v
 have Z:x7=0:=by
  unfold F60 at F;split at F;simp at F
  grind
 obtain⟨_,a0,Y,M⟩:=v Z;obtain⟨p9,E,_⟩:=dJ (l:=s.bG) (i:=x5) (Q:=fun _=>True) Y M (fun _ _ _=>trivial);obtain⟨⟨a,x11⟩,C,_⟩:=zD1 d.aK p9.aK
 have hc:∀m∈s.aD,ow<m.aQ.length/\st<m.aQ.length:=fun m J=>by
  rw[zF1 hs hv m J];omega
 have hH:=kE1 hs hv U (st:=st) (vo:=vo)
 have B:∀r:aA YO×Bool,F61 s ⟨p,f,e,st,vo⟩=some r->(r.2=true->r.1.map Jw=(sL s.aD f e).map (Rb st vo))->F28 s ⟨p,f,e,st,vo⟩=some (if r.2 then(wF ((sL s.aD f e).map (Rb st vo))).1 else 0):=by
  intro r hr hk;obtain⟨l,b⟩:=r;unfold F28 dT;rw[hr,zX2];dsimp only at hk ⊢;cases b with
  |false=>rfl
  |true=>
   obtain⟨k1,k2⟩:=kF1 hs (hk rfl);rw[aG3 (by simp),sM1 k1 k2,hk rfl];rfl
 have P:∀r:aA YO×Bool,F63 s ⟨p,f,e,st,vo⟩=some r->(r.2=true->r.1.map Jw=(sL s.aD f e).map (Rb st vo))->F34 s ⟨p,f,e,st,vo⟩=some (if r.2 then(wF ((sL s.aD f e).map (Rb st vo))).1 else 0):=by
  intro r hr hk;obtain⟨l,b⟩:=r;unfold F34;rw[hr,zX2];dsimp only at hk ⊢;cases b with
  |false=>rfl
  |true=>
   obtain⟨k1,k2⟩:=kF1 hs (hk rfl);rw[aG3 (by simp),sN1 k1 k2,hk rfl];rfl
 obtain⟨r3,X,c,L⟩:=zN1 (p:=p) (f:=f) (e:=e) (ow:=ow) (st:=st) (vo:=vo) (i:=a) (x11:=x11) hs hp D he hc (fun m J x H=>(hH m J x H).2)
 have S:F63 s ⟨p,f,e,st,vo⟩=some r3:=by
  rw[zK1,q,zX2,u,zX2,hp,zX2,E,zX2,C,zX2];exact X
 have A:=P r3 S L
 have y:(x11=0\/s.bV=false)->∀i,(s.bV=true->i=a)->∀m,(Bq ow st vo m&&(sH st vo m).all (evB (trT s.bV i) (yW s.bV d.aK.aZ)))=(Bq ow st vo m&&(sH st vo m).all (fun e=>e.cA.all (yO s.bV a x11 (yW s.bV d.aK.aZ)))):=by
  intro H i hi m;congr 1;congr 1;funext e;unfold evB;congr 1;funext h;unfold yO;cases hW:s.bV with
  |false=>
   have:trT false i=trT false a:=rfl;rw[this];rfl
  |true=>
   rw[hi hW];have:x11=0:=by grind
   rw[this];rfl
 cases hW:s.bV with
 |false=>
  obtain⟨r1,G,n,o⟩:=uY1 (tr:=fun p=>if s.bV then(Xo p (YL.mk 0 0)).bind fun z=>some (z.2,z.1)else some (0,p)) (T:=trT s.bV (YL.mk 0 0)) (fun p=>kD1 _ _ p) d.aK.aZ hs (p:=p) (f:=f) (e:=e) (ow:=ow) (st:=st) (vo:=vo) D he hc
  have j:F61 s ⟨p,f,e,st,vo⟩=some r1:=by
   rw[Uo,q,zX2,u,zX2,hp,zX2,aG3 (by simp[hW])];exact G
  have g:=B r1 j o;refine⟨_,g,?_⟩;rw[A,n,c]
  have:(sL s.aD f e).all (fun m=>Bq ow st vo m&&(sH st vo m).all (evB (trT s.bV (YL.mk 0 0)) d.aK.aZ))=(sL s.aD f e).all (fun m=>Bq ow st vo m&&(sH st vo m).all (fun e=>e.cA.all (yO s.bV a x11 (yW s.bV d.aK.aZ)))):=by
   congr 1;funext m;rw[<-y (.inr hW) (YL.mk 0 0) (fun h=>by rw[hW]at h;cases h) m];have:yW s.bV d.aK.aZ=d.aK.aZ:=by rw[hW];rfl
   rw[this]
  rw[this]
 |true=>
  by_cases H:x11=0;obtain⟨r1,G,n,o⟩:=uY1 (tr:=fun p=>if s.bV then(Xo p a).bind fun z=>some (z.2,z.1)else some (0,p)) (T:=trT s.bV a) (fun p=>kD1 _ _ p) (bK (0-d.aK.aZ)) hs (p:=p) (f:=f) (e:=e) (ow:=ow) (st:=st) (vo:=vo) D he hc
  have j:F61 s ⟨p,f,e,st,vo⟩=some r1:=by
   rw[Uo,q,zX2,u,zX2,hp,zX2,aE3 (by simp[hW]),E,zX2,C,zX2,aG3 (by simp[H])];exact G
  have g:=B r1 j o;refine⟨_,g,?_⟩;rw[A,n,c]
  have:(sL s.aD f e).all (fun m=>Bq ow st vo m&&(sH st vo m).all (evB (trT s.bV a) (bK (0-d.aK.aZ))))=(sL s.aD f e).all (fun m=>Bq ow st vo m&&(sH st vo m).all (fun e=>e.cA.all (yO s.bV a x11 (yW s.bV d.aK.aZ)))):=by
   congr 1;funext m;rw[<-y (.inl H) a (fun _=>rfl) m];have:yW s.bV d.aK.aZ=bK (0-d.aK.aZ):=by rw[hW];rfl
   rw[this]
  rw[this]
  have j:F61 s ⟨p,f,e,st,vo⟩=some ([],false):=by
   rw[Uo,q,zX2,u,zX2,hp,zX2,aE3 (by simp[hW]),E,zX2,C,zX2,aE3 (by simpa using H)]
  have g:=B ([],false) j (fun h=>by cases h);refine⟨0,g,?_⟩;rw[A];cases hb:r3.2 with
  |false=>rfl
  |true=>
   rw[aE3 rfl];congr 1;refine sL1 ?_;intro k hk x N;obtain⟨m,J,rfl⟩:=dB3.1 hk;unfold Rb at N;obtain⟨ev,K,rfl⟩:=dB3.1 N;rw[hb]at c;have h2:=aD3.1 c.symm m J;simp only[aA3]at h2;have O:=aD3.1 h2.2 ev K;intro V;have W:=(hH m (Xw J) ev K).1 V;cases hl:ev.cA with
   |nil=>exact W hl
   |cons h t=>
    rw[hl]at O;simp only[bY3,aA3]at O;have R:=O.1;unfold yO at R;rw[hW,cY3.2 H]at R;cases R
end Go.P
namespace Go.P
variable {s:Y0}
def vC (s:Y0) (c:aV):Int:=(F28 s c).getD 0
def Xy (s:Y0) (c:aV):Bool:=(F60 s c).getD false
def kS (s:Y0) (t:Int×aV) (c:aV):Int×aV:=if vC s c>t.1 then(vC s c,c)else t
def Rk (s:Y0) (p:Int) (f e st:Nat):aA aV:=((List.range 2).map fun(v:Nat)=>(⟨p,f,e,st,v⟩:aV)).filter (Xy s)
def Gv (s:Y0) (p:Int) (f e n:Nat):aA aV:=(List.range n).flatMap (Rk s p f e)
def Dd (hs:s.sm) (c:aV) (h:c.cZ<1000000):F60 s c=some (Xy s c):=by
 unfold Xy
 have:∃b,F60 s c=some b:=by
  unfold F60;split;exact⟨_,rfl⟩;obtain⟨r,hr,_⟩:=kB1 hs c.cZ h;rw[hr];exact⟨_,rfl⟩
 obtain⟨b,hb⟩:=this;rw[hb];rfl
def Xz {p:Int} {f e n:Nat} {c:aV} (h:c∈Gv s p f e n):∃st v:Nat,st<n/\v<2/\c=⟨p,f,e,st,v⟩/\Xy s c=true:=by
 unfold Gv at h;obtain⟨st,h1,h2⟩:=List.mem_flatMap.1 h;unfold Rk at h2;obtain⟨a,b⟩:=List.mem_filter.1 h2;obtain⟨v,d,rfl⟩:=dB3.1 a;exact⟨st,v,dR3.1 h1,dR3.1 d,rfl,b⟩
def yP (s:Y0) (p:Int) (f e n:Nat):Gv s p f e (n+1)=Gv s p f e n++Rk s p f e n:=by
 unfold Gv;rw[List.range_succ,List.flatMap_append];simp
def ltC (a b:aV):Prop:=a.cZ<b.cZ\/(a.cZ=b.cZ/\a.dB<b.dB)
def Uq (s:Y0) (p:Int) (f e n:Nat):(Gv s p f e n).Pairwise ltC:=by
 induction n with
 |zero=>unfold Gv;simp
 |succ n ih=>
  rw[yP,List.pairwise_append];refine⟨ih,?_,fun a c b hb=>?_⟩;unfold Rk;refine List.Pairwise.filter _ ?_;simp only[show List.range 2=[0,1]from rfl,bQ3,cX3];simp[ltC];obtain⟨st,v,h1,_,rfl,_⟩:=Xz c;unfold Rk at hb;obtain⟨v2,_,rfl⟩:=dB3.1 (List.mem_filter.1 hb).1;left;dsimp only;omega
def Ya (s:Y0) (p:Int) (f e st:Nat):(Rk s p f e st).length<=2:=by
 unfold Rk;exact bB3 (List.length_filter_le _ _) (by simp)
def sP1 (s:Y0) (p:Int) (f e n:Nat):(Gv s p f e n).length<=2*n:=by
 induction n with
 |zero=>unfold Gv;simp
 |succ n ih=>rw[yP,bP3];have:=Ya s p f e n;omega
structure Psg (s:Y0) (p:Int) (f e:Nat):Prop where
 sm:s.sm
 va:Ho s=some true
 p0:0<=p
 p1:p<(s.bG.length:Int)
 fe:f<=e
 eM:e<=s.aD.length
def Psg.w {p:Int} {f e:Nat} (h:Psg s p f e) {st v:Nat} (b:st<1000) (a:Xy s ⟨p,f,e,st,v⟩=true):F28 s ⟨p,f,e,st,v⟩=some (vC s ⟨p,f,e,st,v⟩)/\F34 s ⟨p,f,e,st,v⟩=some (vC s ⟨p,f,e,st,v⟩):=by
 obtain⟨w,h1,h2⟩:=bP1 h.sm h.va h.p0 h.p1 h.fe h.eM b (by rw[Dd h.sm _ (by dsimp only;omega),a]);have:vC s ⟨p,f,e,st,v⟩=w:=by unfold vC;rw[h1];rfl
 rw[this];exact⟨h1,h2⟩
def yQ {S E T:Type} {N:Nat} {body:S->aB (S⊕E)} {s0:S} {Q:E->Prop} (c:S->Int) (b:S->T) (f:T->Nat->T) (m:N<=1000000) (h0:c s0=0)
  (h:∀(i:Nat) (q:S),c q=(i:Int)->i<N->b q=(List.range i).foldl f (b s0)->bK (c q+1)=(i:Int)+1->Ok (body q) (fun r=>match r with|.inl q'=>c q'=(i:Int)+1/\b q'=f (b q) i|.inr e=>False))
  (d:∀q,c q=(N:Int)->b q=(List.range N).foldl f (b s0)->Ok (body q) (fun r=>match r with|.inl _=>False|.inr e=>Q e)):Ok (bC body bS s0) Q:=by
 refine oC (l:=List.range N) c b f (by rw[List.length_range];omega) h0 (fun i x q j n hi hl g hg hw=>?_) (fun q hi g=>?_);have a:=(zZ2.1 j).1;rw[List.length_range]at a;have k:x=i:=by rw[dC3 a]at j;exact(bR3 j).symm
 subst k;refine h x q hi a ?_ hw;rw[g];congr 1;rw[List.take_range];congr 1;omega;rw[List.length_range]at hi;exact d q hi g
def sQ1 {p:Int} {f e:Nat} (h:Psg s p f e):rE1 e f p s [] s=some ((Gv s p f e (Bp s)).map fun c=>⟨c,vC s c⟩):=by
 have o:=Mn h.sm;unfold rE1;rw[Ml h.sm,zX2];refine mF (a:=(Gv s p f e (Bp s)).map fun c=>(⟨c,vC s c⟩:bA)) (Ok.eq (yQ (N:=Bp s) (fun q=>q.1) (fun q=>q.2) (fun l st=>l++(Rk s p f e st).map fun c=>⟨c,vC s c⟩) (by omega) rfl (fun st q hi t j hw=>?_) (fun q hi j=>?_))) rfl;obtain⟨k,l⟩:=q;dsimp only at hi j hw;subst hi
 have hlen:∀n,((List.range n).foldl (fun l st=>l++(Rk s p f e st).map fun c=>(⟨c,vC s c⟩:bA)) []).length<=2*n:=by
  intro n
  induction n with
  |zero=>simp
  |succ n ih=>
   rw[List.range_succ,List.foldl_append,List.foldl_cons,List.foldl_nil,bP3,bW3];have:=Ya s p f e n;omega
 have hl:=hlen st;rw[<-j]at hl;dsimp only;rw[aE3 (by simp;omega)];refine Ob (P:=fun v=>v=l++(Rk s p f e st).map fun c=>⟨c,vC s c⟩) (yQ (N:=2) (fun q=>q.1) (fun q=>q.2) (fun l v=>l++if Xy s ⟨p,f,e,st,v⟩then[(⟨⟨p,f,e,st,v⟩,vC s ⟨p,f,e,st,v⟩⟩:bA)]else[]) (by decide) rfl (fun v q hi m b d=>?_) (fun q hi b=>?_)) fun v hv=>.mk ⟨hw,hv⟩;obtain⟨k,i⟩:=q;dsimp only at hi b d;subst hi
 have r:i.length<=l.length+v:=by
  rw[b];clear b d m
  induction v with
  |zero=>simp
  |succ v ih=>
   rw[List.range_succ,List.foldl_append,List.foldl_cons,List.foldl_nil,bP3];have:(if Xy s ⟨p,f,e,st,v⟩=true then[(⟨⟨p,f,e,st,v⟩,vC s ⟨p,f,e,st,v⟩⟩:bA)]else[]).length<=1:=by split<;>simp
   omega
 dsimp only;rw[aE3 (by simp;omega),Dd h.sm _ (by dsimp only;omega),zX2];cases hp:Xy s ⟨p,f,e,st,v⟩with
 |false=>
  rw[aG3 (by simp)];exact .mk ⟨d,by simp⟩
 |true=>
  rw[aE3 rfl]
  have hy:Mh ⟨p,f,e,st,v⟩ i s=some (i++[⟨⟨p,f,e,st,v⟩,vC s ⟨p,f,e,st,v⟩⟩]):=by
   unfold Mh;rw[(h.w (by omega) hp).1,zX2];obtain⟨z,h1,rfl⟩:=eP (g:=false) (l:=i) (x:=(⟨⟨p,f,e,st,v⟩,vC s ⟨p,f,e,st,v⟩⟩:bA)) (Q:=fun z=>z=i++[⟨⟨p,f,e,st,v⟩,vC s ⟨p,f,e,st,v⟩⟩]) (by omega) rfl;rw[h1];rfl
  rw[hy,zX2];exact .mk ⟨d,by simp⟩
 obtain⟨k,i⟩:=q;dsimp only at hi b;dsimp only;rw[aG3 (by simp;omega)];refine .mk ?_;rw[b];unfold Rk;simp only[show List.range 2=[0,1]from rfl,List.foldl_cons,List.foldl_nil,bQ3,cX3];cases h0:Xy s ⟨p,f,e,st,0⟩<;>cases h1:Xy s ⟨p,f,e,st,1⟩<;>simp[h0,h1];obtain⟨k,l⟩:=q;dsimp only at hi j;dsimp only;rw[aG3 (by simp;omega)];refine .mk ?_;rw[j]
 have:∀n,(List.range n).foldl (fun l st=>l++(Rk s p f e st).map fun c=>(⟨c,vC s c⟩:bA)) []=(Gv s p f e n).map fun c=>⟨c,vC s c⟩:=by
  intro n
  induction n with
  |zero=>unfold Gv;simp
  |succ n ih=>rw[List.range_succ,List.foldl_append,List.foldl_cons,List.foldl_nil,ih,yP,cJ3]
 exact this _
def Ur (a b:Int):F24 a b=some (if a<b then -1 else if a>b then 1 else 0):=by
 unfold F24
 have c:∀x,F55 x=some false:=fun x=>by
  unfold F55;simp
 rw[c,zX2,c,zX2];simp only[aK3,bI3,aH3];split;rfl;split<;>rfl
def sR1 (a b c:Int):F23 [a,b,c]=some (if a≠0 then a else if b≠0 then b else c):=by
 obtain⟨n,g⟩:∃n,bS=n+4:=⟨18446744073709551612,rfl⟩
 unfold F23 dT;have h1:bK 1=1:=bU (by decide) (by decide);have h2:bK 2=2:=bU (by decide) (by decide);have f:bK 3=3:=bU (by decide) (by decide);have g0:∀a b c:Int,bM [a,b,c] 0=some a:=fun _ _ _=>rfl;have e:∀a b c:Int,bM [a,b,c] 1=some b:=fun _ _ _=>rfl;have g2:∀a b c:Int,bM [a,b,c] 2=some c:=fun _ _ _=>rfl;rw[g];by_cases d:a=0;by_cases hb:b=0;by_cases hc:c=0;simp[bC,g0,e,g2,h1,h2,f,d,hb,hc];simp[bC,g0,e,g2,h1,h2,f,d,hb,hc];simp[bC,g0,e,g2,h1,h2,f,d,hb];simp[bC,g0,d]
def sS1 (a b:bA) (h:ltC b.c a.c):∃n,F22 a b=some n/\(n>0↔a.weight>b.weight):=by
 unfold F22;rw[Ur,zX2,Ur,zX2,Ur,zX2,sR1];refine⟨_,rfl,?_⟩;unfold ltC at h;by_cases h1:a.weight<b.weight;simp[h1];omega;by_cases h2:a.weight>b.weight;simp[h1,h2];rcases h with h|⟨h3,h4⟩
 simp[h1,h2,h];simp[h1,h2,h3,h4]
def zQ1 {x:bA} {l:aA bA} (hl:l.length<=1000) (hs:(x::l).Pairwise (fun a b=>ltC a.c b.c)):F29 (x::l)=some (l.foldl (fun b a=>if a.weight>b.weight then a else b) x):=by
 unfold F29 dT;rw[aG3 (by simp;omega)];have r:bM (x::l) 0=some x:=rfl;rw[r,zX2];refine mF (a:=l.foldl (fun b a=>if a.weight>b.weight then a else b) x) (Ok.eq (cG (l:=l) (fun q=>q.1-1) (fun i q=>q.2=(l.take i).foldl (fun b a=>if a.weight>b.weight then a else b) x/\q.2∈x::l.take i) (by omega) rfl ⟨rfl,by simp⟩ (fun i y q o z hi d e hg hw=>?_) (fun q hi e=>?_))) rfl;obtain⟨k,b⟩:=q;obtain⟨h1,h2⟩:=e;dsimp only at hi d h1 h2;have f:=(zZ2.1 o).1;have hk:k=((i+1:Nat):Int):=by omega
 subst hk
 have s:bM (x::l) ((i+1:Nat):Int)=some y:=by
  rw[iW (by simp;omega)];simp only[List.getElem_cons_succ];rw[<-o,aO3 f]
 dsimp only;rw[aE3 (by simp;omega),s,zX2]
 have d:ltC b.c y.c:=by
  rw[List.pairwise_cons]at hs;rcases aM3.1 h2 with h|h;rw[h];exact hs.1 y z;obtain⟨j,p⟩:=aS3.1 h
  have g:j<i:=by
   have:=(zZ2.1 p).1;rw[cC3]at this;omega
  rw[aY3,aE3 g]at p;have u:=(zZ2.1 p).1;have:=List.pairwise_iff_getElem.1 hs.2 j i u f g;rw[(zZ2.1 p).2,(zZ2.1 o).2]at this;exact this
 obtain⟨n,hn,m⟩:=sS1 y b d;rw[hn,zX2]
 have t:(if decide (n>0)then(some y).bind fun x11=>some x11 else some b:aB bA)=some (if y.weight>b.weight then y else b):=by
  by_cases h:n>0;rw[aE3 (by simpa using h),aE3 (m.1 h)];rfl;rw[aG3 (by simpa using h),aG3 (fun w=>h (m.2 w))]
 refine Ob (P:=fun v=>v=(if y.weight>b.weight then y else b)) ⟨_,t,rfl⟩ fun v hv=>.mk ⟨?_,?_,?_⟩;dsimp only;rw[bU (by omega) (by omega)];omega;dsimp only;rw[hv,List.take_add_one,o,List.foldl_append,<-h1];rfl;dsimp only;rw[hv,List.take_add_one,o];split;simp;rcases aM3.1 h2 with h|h;rw[h];simp;exact bJ3 _ (List.mem_append_left _ h);obtain⟨k,b⟩:=q;dsimp only at hi e;dsimp only;rw[aG3 (by simp;omega)];rw[bU3]at e;exact .mk e.1
def sel (s:Y0) (p:Int) (f e:Nat):aA aV:=if((Gv s p f e (Bp s)).foldl (kS s) (0,⟨0,0,0,0,0⟩)).1>0 then[((Gv s p f e (Bp s)).foldl (kS s) (0,⟨0,0,0,0,0⟩)).2]else[]
def Rc (s:Y0):∀(l:aA aV) (b:bA) (t:Int×aV),(if b.weight>0 then t=(b.weight,b.c)else t.1=0)->
  (if((l.map fun c=>(⟨c,vC s c⟩:bA)).foldl (fun b a=>if a.weight>b.weight then a else b) b).weight>0 then l.foldl (kS s) t=(((l.map fun c=>(⟨c,vC s c⟩:bA)).foldl (fun b a=>if a.weight>b.weight then a else b) b).weight,((l.map fun c=>(⟨c,vC s c⟩:bA)).foldl (fun b a=>if a.weight>b.weight then a else b) b).c)else(l.foldl (kS s) t).1=0)
 |[],b,t,h=>h
 |c::l,b,t,h=>by
  rw[bQ3,List.foldl_cons,List.foldl_cons]
  refine Rc s l _ _ ?_
  unfold kS
  dsimp only
  by_cases hb:b.weight>0
  rw[aE3 hb]at h
  subst h
  dsimp only
  by_cases hw:vC s c>b.weight
  rw[aE3 hw,aE3 hw]
  dsimp only
  rw[aE3 (by omega)]
  rw[aG3 hw,aG3 hw,aE3 hb]
  rw[aG3 hb]at h
  by_cases hw:vC s c>b.weight
  rw[aE3 hw]
  dsimp only
  by_cases h0:vC s c>0
  rw[aE3 h0,aE3 (by omega)]
  rw[aG3 h0,aG3 (by omega)];exact h
  rw[aG3 hw,aG3 hb,aG3 (by omega)];exact h
def zS1 {p:Int} {f e:Nat} {first:Int} {r:dW} (h:Psg s p f e) (hf:(if(bK ((e:Int)-r.iX))>first then(bK ((e:Int)-r.iX))else first)=(f:Int)) {vM:aA aV} (m:vM.length<=1000):Mi e first vM r p s=some (vM++sel s p f e):=by
 have k:=Mn h.sm;unfold Mi;rw[hf];have j:∀a b c d,xP1 a b c d=some ():=fun _ _ _ _=>rfl;rw[j,zX2,sQ1 h,zX2];unfold sel;have i:=Uq s p f e (Bp s);have hlen:=sP1 s p f e (Bp s);generalize Gv s p f e (Bp s)=L at *;cases L with
 |nil=>rw[aE3 (by rfl)];simp
 |cons c l=>
  rw[aG3 (by simp;omega),bQ3,zQ1 (by simp at hlen ⊢;omega) (by
   show((c::l).map (fun c=>(⟨c,vC s c⟩:bA))).Pairwise _
   rw[List.pairwise_map];exact i),zX2]
  have:=Rc s l ⟨c,vC s c⟩ (kS s (0,⟨0,0,0,0,0⟩) c) (by
   unfold kS;dsimp only;by_cases h:vC s c>0;rw[aE3 h,aE3 h];rw[aG3 h,aG3 h])
  rw[List.foldl_cons];generalize hb:(l.map fun c=>(⟨c,vC s c⟩:bA)).foldl (fun b a=>if a.weight>b.weight then a else b) ⟨c,vC s c⟩=b at *;generalize l.foldl (kS s) (kS s (0,⟨0,0,0,0,0⟩) c)=t at *;by_cases hw:b.weight>0;rw[aE3 hw]at this;subst this;rw[aE3 (by simpa using hw),aE3 hw];obtain⟨z,h1,rfl⟩:=eP (g:=false) (l:=vM) (x:=b.c) (Q:=fun z=>z=vM++[b.c]) (by omega) rfl;rw[h1];rfl;rw[aG3 hw]at this;rw[aG3 (by simpa using hw),aG3 (by omega)];simp
end Go.P
namespace Go.P
variable {s:Y0}
def Gw (L:aA Bool):Nat->Nat
 |0=>0
 |j+1=>if L[j]? =some true then Gw L j else j+1
def Gx (L:aA Bool):∀j,Gw L j<=j
 |0=>aC3 _
 |j+1=>by
  unfold Gw
  split
  have:=Gx L j;omega
  exact aC3 _
def Us (L:aA Bool):∀j k,Gw L j<=k->k<j->L[k]? =some true
 |0,k,_,h=>by omega
 |j+1,k,h1,h2=>by
  unfold Gw at h1
  split at h1
  rename_i a
  by_cases hk:k=j
  subst hk;exact a
  exact Us L j k h1 (by omega)
  omega
def Mo (L:aA Bool):∀j,j<=L.length->Gw L j=0\/∃k,Gw L j=k+1/\L[k]? =some false
 |0,_=>.inl rfl
 |j+1,h=>by
  unfold Gw
  split
  exact Mo L j (by omega)
  rename_i a
  refine .inr ⟨j,rfl,?_⟩
  have b:j<L.length:=by omega
  rw[aO3 b]at a ⊢
  cases h:L[j]with
  |true=>rw[h]at a;exact absurd rfl a
  |false=>rfl
def kG1 {L:aA Bool} {r:Int} (hr:1<=r) {j:Nat} (c:j<=L.length) (h:L[j]? =some false):en L r j=decide ((j:Int)-Gw L j>=r):=by
 have h1:=Gx L j;unfold en;by_cases hc:(j:Int)-Gw L j>=r;rw[bE3 hc,decide_eq_true_iff];exact⟨h,by omega,fun k a b=>Us L j k (by omega) a⟩;rw[bC3 hc,bD3];rintro⟨_,h2,d⟩;rcases Mo L j c with h0|⟨k,h0,hk⟩
 omega
 grind
def Rl (L:aA Bool) (n j:Nat):Nat:=max (Gw L j) (j-n)
def yR (s:Y0) (L:aA Bool) (p r:Int) (n j:Nat):aA aV:=if en L r j then sel s p (Rl L n j) j else[]
def Mt (s:Y0) (L:aA Bool) (p r:Int) (n k:Nat):aA aV:=(List.range k).flatMap (yR s L p r n)
def qV (s:Y0) (L:aA Bool) (p r:Int) (n k:Nat):Mt s L p r n (k+1)=Mt s L p r n k++yR s L p r n k:=by
 unfold Mt;rw[List.range_succ,List.flatMap_append];simp
def sT1 (s:Y0) (p:Int) (f e:Nat):(sel s p f e).length<=1:=by unfold sel;split<;>simp
def Mp (s:Y0) (L:aA Bool) (p r:Int) (n k:Nat):(Mt s L p r n k).length<=k:=by
 induction k with
 |zero=>unfold Mt;simp
 |succ k ih=>
  rw[qV,bP3]
  have:(yR s L p r n k).length<=1:=by
   unfold yR;split;exact sT1 ..;simp
  omega
structure Cue (s:Y0) (p:Int) (L:List Bool) (r n:Nat):Prop where
 sm:s.sm
 va:Ho s=some true
 p0:0<=p
 p1:p<(s.bG.length:Int)
 L:L.length=s.aD.length
 r0:1<=r
 r1:r<=1000
 n0:1<=n
 n1:n<=8
def kH1 {L:aA Bool} {n j:Nat}:Rl L n j<=j:=by
 have:=Gx L j;unfold Rl;omega
def Cue.psg {p:Int} {L:aA Bool} {r n:Nat} (h:Cue s p L r n) {j:Nat} (a:j<=s.aD.length):Psg s p (Rl L n j) j:=⟨h.sm,h.va,h.p0,h.p1,kH1,a⟩
def sU1 {p:Int} {L:aA Bool} {r n:Nat} (h:Cue s p L r n):rG1 ⟨r,n⟩ L [] ⟨r,n⟩ p s=some (Mt s L p r n L.length):=by
 have A:=h.sm.aD;have z:=h.L;have w:=h.r0;have u:=h.n0;have v:=h.n1;unfold rG1 dT;refine mF (a:=Mt s L p r n L.length) (Ok.eq (cG (l:=L) (fun q=>q.2.1) (fun i q=>q.1=(Gw L i:Int)/\q.2.2=Mt s L p r n i) (by omega) rfl ⟨rfl,rfl⟩ (fun i x q d B hi hl b hg hw=>?_) (fun q hi b=>?_))) rfl;obtain⟨f,k,out⟩:=q;dsimp only at hi hl b hg hw;obtain⟨g,g2⟩:=b;subst hi g g2;have o:=(zZ2.1 d).1;have t:=Gx L i;simp only[hl,hg,nt];cases x with
 |true=>
  rw[aE3 rfl];refine .mk ⟨hw,?_,?_⟩;dsimp only;rw[show Gw L (i+1)=Gw L i by rw[Gw];exact aE3 d];dsimp only;rw[qV]
  have:yR s L p r n i=[]:=by
   unfold yR;rw[aG3];unfold en;rw[decide_eq_true_iff,d];rintro⟨h,_⟩;simp at h
  rw[this,cR3]
 |false=>
  have y:Gw L (i+1)=i+1:=by rw[Gw];exact aG3 (by rw[d];simp)
  rw[aG3 (by simp),bU (n:=(i:Int)-(Gw L i:Int)) (by omega) (by omega)];have c:=kG1 (r:=(r:Int)) (by omega) (j:=i) (by omega) d;by_cases hc:(i:Int)-(Gw L i:Int)>=(r:Int);rw[aE3 (by simpa using hc)];have m:=h.psg (j:=i) (by omega)
  have e:(if(bK ((i:Int)-(n:Int)))>(Gw L i:Int)then(bK ((i:Int)-(n:Int)))else(Gw L i:Int))=((Rl L n i:Nat):Int):=by
   rw[bU (by omega) (by omega)];unfold Rl;split<;>omega
  rw[zS1 (r:=⟨(r:Int),(n:Int)⟩) m e (by have:=Mp s L p r n i;omega),zX2];refine .mk ⟨hw,?_,?_⟩;omega;dsimp only;rw[qV];congr 1;unfold yR;rw[c,bE3 hc,aE3 rfl];rw[aG3 (by simpa using hc)];refine .mk ⟨hw,?_,?_⟩;omega;dsimp only;rw[qV];have:yR s L p r n i=[]:=by unfold yR;rw[c,bC3 hc];rfl
  rw[this,cR3]
 obtain⟨f,k,out⟩:=q;dsimp only at hi b;subst hi;simp only[nf];exact .mk b.2
def sV1 {p:Int} {f e:Nat} (h:Psg s p f e):(bC (E:=Int×aV) (fun(⟨j,a,l⟩:Int×Int×aV)=>(F32 s).bind fun r=>if decide (a<r)then(bC (E:=Int×aV) (fun(⟨d,b,o⟩:Int×Int×aV)=>if decide (b<2)then(F33 s (aV.mk p f e a b)).bind fun u=>((if u then(F34 s (aV.mk p f e a b)).bind fun x=>some (decide (x>d))else some false:aB (Bool))).bind fun y=>((if y then(F34 s (aV.mk p f e a b)).bind fun z=>some (z,(aV.mk p f e a b))else some (d,o):aB (Int×aV))).bind fun⟨A,B⟩=>some (.inl (A,(bK (b+1)),B))else some (.inr (d,o))) bS (j,0,l)).bind fun⟨C,D⟩=>some (.inl (C,(bK (a+1)),D))else some (.inr (j,l))) bS (0,0,(aV.mk 0 0 0 0 0)))=some ((Gv s p f e (Bp s)).foldl (kS s) (0,⟨0,0,0,0,0⟩)):=by
 have J:=Mn h.sm;refine Ok.eq (yQ (N:=Bp s) (fun q=>q.2.1) (fun q=>(q.1,q.2.2)) (fun t st=>(Rk s p f e st).foldl (kS s) t) (by omega) rfl (fun st q hi K F hw=>?_) (fun q hi F=>?_));obtain⟨m,k,c⟩:=q;dsimp only at hi F hw;subst hi;dsimp only;rw[Ml h.sm,zX2,aE3 (by simp;omega)];refine Ob (P:=fun v=>v=(Rk s p f e st).foldl (kS s) (m,c)) (yQ (N:=2) (fun q=>q.2.1) (fun q=>(q.1,q.2.2)) (fun t v=>if Xy s ⟨p,f,e,st,v⟩then kS s t ⟨p,f,e,st,v⟩else t) (by decide) rfl (fun v q hi G g i=>?_) (fun q hi g=>?_)) fun v hv=>.mk ⟨hw,?_⟩;obtain⟨H,k,c2⟩:=q;dsimp only at hi g i;subst hi;dsimp only;rw[aE3 (by simp;omega),zP1,Dd h.sm _ (by dsimp only;omega),zX2];cases hp:Xy s ⟨p,f,e,st,v⟩with
 |false=>
  rw[aG3 (by simp),zX2,aG3 (by simp),zX2];exact .mk ⟨i,by simp⟩
 |true=>
  rw[aE3 rfl,(h.w (by omega) hp).2,zX2,zX2];unfold kS;by_cases hc:vC s ⟨p,f,e,st,v⟩>H;rw[aE3 (by simpa using hc),zX2,zX2];exact .mk ⟨i,by simp[hc]⟩;rw[aG3 (by simpa using hc),zX2];exact .mk ⟨i,by simp[hc]⟩
 obtain⟨H,k,c2⟩:=q;dsimp only at hi g;dsimp only;rw[aG3 (by simp;omega)];refine .mk ?_;rw[g];unfold Rk;simp only[show List.range 2=[0,1]from rfl,List.foldl_cons,List.foldl_nil,bQ3,cX3];cases h0:Xy s ⟨p,f,e,st,0⟩<;>cases h1:Xy s ⟨p,f,e,st,1⟩<;>simp[h0,h1];dsimp only;exact hv;obtain⟨m,k,c⟩:=q;dsimp only at hi F;dsimp only;rw[Ml h.sm,zX2,aG3 (by simp;omega)];refine .mk ?_;rw[F]
 have:∀n t,(List.range n).foldl (fun t st=>(Rk s p f e st).foldl (kS s) t) t=(Gv s p f e n).foldl (kS s) t:=by
  intro n t
  induction n with
  |zero=>unfold Gv;simp
  |succ n ih=>rw[List.range_succ,List.foldl_append,List.foldl_cons,List.foldl_nil,ih,yP,List.foldl_append]
 exact this _ _
def jI2 {p:Int} {x:YJ} {a r n:Nat} (hp:bM s.bG p=some x) (G:x.bN.length<=5) (H:Rj s p=some ((a:Int),0)) (f:a<=20) (h:Cue s p (s.aD.map (rv a x.bN.length)) r n):F9 s p ⟨r,n⟩=some (Mt s (s.aD.map (rv a x.bN.length)) p r n s.aD.length):=by
 have Y:=h.sm.aD;have U:=h.r0;have V:=h.r1;have R:=h.n0;have S:=h.n1;generalize hL:s.aD.map (rv a x.bN.length)=L at *;have K:L.length=s.aD.length:=h.L
 have y:∀k:Nat,k<s.aD.length->∃b,F31 s p (k:Int)=some b/\L[k]? =some b:=fun k hk=>by
  refine⟨_,jU1 h.sm hp G H f (iW hk),?_⟩;rw[<-hL,bF3,aO3 hk];rfl
 unfold F9;refine mF (a:=Mt s L p r n s.aD.length) (Ok.eq (cG (l:=s.aD) (fun q=>q.1) (fun i q=>q.2=Mt s L p r n i) (by omega) rfl rfl (fun j m q W Z hi hl o hg hw=>?_) (fun q hi o=>?_))) rfl;obtain⟨k,out⟩:=q;dsimp only at hi hl o hg hw;subst hi o;have O:=(zZ2.1 W).1;have g:=zB1 h.sm hp G H f O (r:=(r:Int)) (by omega) (by omega);rw[hL]at g;simp only[hl,nt];rw[g,zX2];have D:=Mp s L p r n j;cases he:en L r j with
 |false=>
  rw[aE3 (by rfl)];refine .mk ⟨hw,?_⟩;dsimp only;rw[qV];have:yR s L p r n j=[]:=by unfold yR;rw[he];rfl
  rw[this,cR3]
 |true=>
  rw[aG3 (by simp)];have M:=h.psg (j:=j) (by omega)
  have A:L[j]? =some false:=by
   unfold en at he;rw[decide_eq_true_iff]at he;exact he.1
  have u:=kG1 (r:=(r:Int)) (by omega) (j:=j) (by omega) A;rw[he]at u;have E:(j:Int)-Gw L j>=r:=by simpa using u.symm
  have J:=Gx L j;refine Ob (P:=fun v=>v=((Rl L n j:Nat):Int)) (gY (fun q:Int=>((Rl L n j:Nat):Int)<=q/\q<=(j:Int)) (fun q=>q.toNat) (fun q T=>?_) bS _ ⟨by have:=kH1 (L:=L) (n:=n) (j:=j);omega,cV3 _⟩ (by simp only[bS];omega)) fun v hv=>?_;obtain⟨q1,q2⟩:=T;have N:Rl L n j=max (Gw L j) (j-n):=rfl;rw[bU (n:=(j:Int)-(n:Int)) (by omega) (by omega)];by_cases hc:q>0/\q>(j:Int)-(n:Int);rw[aE3 (by simpa using hc),bU (n:=q-1) (by omega) (by omega)];obtain⟨b,t,c⟩:=y (q.toNat-1) (by omega);rw[show((q.toNat-1:Nat):Int)=q-1 by omega]at t;rw[t,zX2,zX2];by_cases F:q=((Rl L n j:Nat):Int)
  ·
   have B:b=false:=by
    rcases Mo L j (by omega)with h0|⟨k,h0,hk⟩
    omega;have:q.toNat-1=k:=by omega
    rw[this,hk]at c;exact(bR3 c).symm
   subst B;rw[aG3 (by simp)];exact .mk F
  have C:b=true:=by
   have:=Us L j (q.toNat-1) (by omega) (by omega);rw[this]at c;exact(bR3 c).symm
  subst C;rw[aE3 rfl];exact .mk ⟨⟨by omega,by omega⟩,by omega⟩;rw[aG3 (by simpa using hc),zX2,aG3 (by simp)];refine .mk ?_;omega;subst hv;refine Ob (P:=fun v=>v=(Gv s p (Rl L n j) j (Bp s)).foldl (kS s) (0,⟨0,0,0,0,0⟩)) ⟨_,sV1 M,rfl⟩ fun v hv=>?_;obtain⟨d,e⟩:=v;dsimp only
  have w:yR s L p r n j=if d>0 then[e]else[]:=by
   unfold yR sel;rw[he,aE3 rfl,<-hv]
  refine Ob (P:=fun v=>v=Mt s L p r n (j+1)) ?_ fun v hv=>.mk ⟨hw,hv⟩;rw[qV,w];by_cases hc:d>0;rw[aE3 (by simpa using hc),aE3 hc];exact Ob (eP (Q:=fun z=>z=Mt s L p r n j++[e]) (by omega) rfl) fun z X=>.mk X;rw[aG3 (by simpa using hc),aG3 hc,cR3];exact .mk rfl
 obtain⟨k,out⟩:=q;dsimp only at hi o;subst hi;simp only[nf];exact .mk o
def sW1 {p:Int} {L:aA Bool} {r n:Nat} (h:Cue s p L r n) {c:aV} (hc:c∈Mt s L p r n L.length):∃w,F10 s c=some (w,0)/\1<=w:=by
 unfold Mt at hc;obtain⟨j,g,hc⟩:=List.mem_flatMap.1 hc;have g:=dR3.1 g;have u:=h.L;unfold yR at hc;split at hc;have k:=h.psg (j:=j) (by omega);unfold sel at hc;split at hc;rename_i a
 have key:∀(l:aA aV) (t:Int×aV),(t.1>0->t.1=vC s t.2/\t.2∈Gv s p (Rl L n j) j (Bp s))->(∀x∈l,x∈Gv s p (Rl L n j) j (Bp s))->(l.foldl (kS s) t).1>0->(l.foldl (kS s) t).1=vC s (l.foldl (kS s) t).2/\(l.foldl (kS s) t).2∈Gv s p (Rl L n j) j (Bp s):=by
  intro l
  induction l with
  |nil=>intro t h _ h2;exact h h2
  |cons x l ih=>
   intro t h1 h2 b;rw[List.foldl_cons]at b ⊢;refine ih _ ?_ (fun y hy=>h2 y (bJ3 _ hy)) b;unfold kS;split
   grind
   exact h1
 obtain⟨q,i⟩:=key _ (0,⟨0,0,0,0,0⟩) (fun h=>by exfalso;dsimp only at h;omega) (fun x o=>o) a;have e:=List.mem_singleton.1 hc;rw[<-e]at q i;obtain⟨st,v,h1,h2,b,f⟩:=Xz i;have m:=Mn h.sm;subst b;have hw:=(k.w (by omega) f).1;refine⟨vC s ⟨p,(Rl L n j:Nat),j,st,v⟩,?_,by omega⟩
 have d:F35 s ⟨p,(Rl L n j:Nat),j,st,v⟩=some 0:=by
  unfold F35;rw[h.va,zX2,aG3 (by simp),Dd h.sm _ (by dsimp only;omega),f];rfl
 unfold F10;rw[d,zX2,aG3 (by simp),hw];rfl;simp at hc;simp at hc
def vE2 (hb:s.b) (a b:Int) (V:0<=a/\a<256) (q:0<=b/\b<256):F3 s a b=some true:=by
 unfold F3 dT
 obtain⟨g,hg,i⟩:∃g,F6 s=some g/\(g=true->s.sm/\Ho s=some true):=by
  unfold F6;obtain⟨z,hr,x⟩:=U13 hb;rw[hr];cases z with
  |false=>exact⟨false,rfl,fun h=>by cases h⟩
  |true=>
   obtain⟨v,hv,_⟩:=T19 (x rfl);exact⟨v,by rw[hv];rfl,fun h=>⟨x rfl,by rw[hv,h]⟩⟩
 rw[hg];simp only[zX2,dD3,aK3,bI3];cases g with
 |false=>rfl
 |true=>
 obtain⟨hs,hv⟩:=i rfl;have X:=hs.aD;have Y:=hs.bG;obtain⟨W,S,_⟩:=T7 (x2:=3) hs;rw[S];simp only[zX2,dD3,dW3];by_cases j:((s.bG.length:Int)==0)=true;rw[aE3 j];rfl;rw[aG3 j,zX2];by_cases t:decide (W>1000000)=true;rw[aE3 t];rw[aG3 t,bU (n:=a) (by omega) (by omega),bU (n:=b) (by omega) (by omega)];have L:(s.bG.length:Int)≠0:=by simpa using j
 obtain⟨d,A,r10⟩:=sA (k:=.i64) (a:=a) L;obtain⟨x11,B,r11⟩:=sA (k:=.i64) (a:=b) (show(6:Int)≠0 by decide);obtain⟨m,D,r12⟩:=rZ (k:=.i64) (a:=b) (show(6:Int)≠0 by decide);obtain⟨e,E,r13⟩:=sA (k:=.i64) (a:=m) (show(8:Int)≠0 by decide);rw[A,B,D,zX2,zX2,zX2,E,zX2]
 have f:0<=d/\d<(s.bG.length:Int):=by
  rw[r10];exact⟨Int.tmod_nonneg _ V.1,Int.tmod_lt_of_pos _ (by omega)⟩
 have O:0<=x11/\x11<6:=by grind
 have P:0<=m:=by
  have h1:0<=b.tdiv 6:=Int.tdiv_nonneg q.1 (by omega);have h2:b.tdiv 6<=b:=Int.tdiv_le_self _ q.1;have:m=bK (b.tdiv 6):=r12;rw[this,bU (by omega) (by omega)];exact h1
 have R:0<=e/\e<8:=by grind
 rw[bU (n:=1+x11) (by omega) (by omega),bU (n:=1+e) (by omega) (by omega)];obtain⟨r,hr⟩:∃r:Nat,1+x11=(r:Int):=⟨(1+x11).toNat,by omega⟩
 obtain⟨n,hn⟩:∃n:Nat,1+e=(n:Int):=⟨(1+e).toNat,by omega⟩
 rw[hr,hn];obtain⟨y,u,M,ow,p,o⟩:=jT1 hs f.1 f.2;have K:Cue s d (s.aD.map (rv ow y.bN.length)) r n:=⟨hs,hv,f.1,f.2,by simp,by omega,by omega,by omega,by omega⟩
 have U:=jI2 u M p o K;have J:=yZ1 hs u M p o
 have T:F8 s d ⟨r,n⟩=some (Mt s (s.aD.map (rv ow y.bN.length)) d r n s.aD.length,0):=by
  unfold F8
  have F:F20 s d=some 0:=by
   unfold F20;rw[hv,zX2,aG3 (by simp),aG3 (by simp;omega)]
  have G:F21 ⟨(r:Int),(n:Int)⟩=some 0:=by
   unfold F21;rw[aG3 (by simp;omega)]
  have H:∀a b,xO1 a b=some ():=fun _ _=>rfl;rw[F,zX2,aG3 (by simp),G,zX2,aG3 (by simp),J,zX2,H,zX2,sU1 K];rw[bW3];rfl
 rw[T,U,zX2,zX2];have N:∀c∈Mt s (s.aD.map (rv ow y.bN.length)) d r n s.aD.length,∃w,F10 s c=some (w,0)/\1<=w:=fun c hc=>sW1 K (by rw[bW3];exact hc);have hlen:=Mp s (s.aD.map (rv ow y.bN.length)) d r n s.aD.length;generalize Mt s (s.aD.map (rv ow y.bN.length)) d r n s.aD.length=C at *;dsimp only;rw[aG3 (by simp)];rw[jR1 (l:=C) (fun _=>false) (by omega) (fun k c h0 h1 Z hg hw=>?_) ?_];simp
 grind
 grind
def jJ2 (hb:s.b) {a b:Int} (d:IntKind.min .u8<=a/\a<=IntKind.max .u8) (c:IntKind.min .u8<=b/\b<=IntKind.max .u8):F3 s a b=some true:=by
 have h0:IntKind.min .u8=0:=rfl;have h1:IntKind.max .u8=255:=rfl;rw[h0,h1]at d c;exact vE2 hb a b (by omega) (by omega)
end Go.P
