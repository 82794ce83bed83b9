import Derived.Test.YtfdbgfhnlgbonaaGreatGa
/- A text of the proof. -/
set_option linter.all false
namespace Go.P
variable {A α β:Type} {i n:Int}
def Ok (x:aB α) (Q:α->Prop):Prop:=∃v,x=some v/\Q v
section
variable {Q:α->Prop}
def Ok.mk {v:α} (h:Q v):Ok (some v) Q:=⟨v,rfl,h⟩
def bH {v:α} {Q:α->Prop} (h:Q v:=by exact trivial):Ok (some v) Q:=⟨v,rfl,h⟩
def Ob {P:β->Prop} {x:aB β} {k:β->aB α} (h:Ok x P) (hk:∀v,P v->Ok (k v) Q):Ok (x.bind k) Q:=by
 obtain⟨v,rfl,hv⟩:=h;exact hk v hv
def Oi {c:Prop} [Decidable c] {a b:aB α} (h1:c->Ok a Q) (h2:¬c->Ok b Q):Ok (if c then a else b) Q:=by
 split;rename_i h;exact h1 h;rename_i h;exact h2 h
def oJ {c:Prop} [Decidable c] {v:α} {y:aB α} {Q:α->Prop} (h:¬c->Ok y Q) (q:Q v:=by exact trivial):Ok (if c then some v else y) Q:=Oi (fun _=>.mk q) h
def Ok.mono {P:α->Prop} {x:aB α} (h:Ok x P) (a:∀v,P v->Q v):Ok x Q:=by
 obtain⟨v,h1,h2⟩:=h;exact⟨v,h1,a v h2⟩
def Ok.ex {x:aB α} (h:Ok x Q):∃v,x=some v:=by
 obtain⟨v,h1,_⟩:=h;exact⟨v,h1⟩
def lJ {S E:Type} {body:S->aB (S⊕E)} {Q:E->Prop} (I:S->Prop) (μ:S->Nat)
  (h:∀s,I s->Ok (body s) (fun r=>match r with|.inl s'=>I s'/\μ s'<μ s|.inr e=>Q e)):∀(n:Nat) (s:S),I s->μ s<n->Ok (aQ body n s) Q
 |0,s,_,hn=>by omega
 |n+1,s,hi,hn=>by
  obtain⟨r,h1,h2⟩:=h s hi
  simp only[aQ,h1,yU2]
  cases r with
  |inl s'=>exact lJ I μ h n s' h2.1 (by have:=h2.2;omega)
  |inr e=>exact .mk h2
end
def cH (h1: -9223372036854775808<=n) (h2:n<9223372036854775808):bN n=n:=by
 have e:bN n=if n%18446744073709551616>=9223372036854775808 then n%18446744073709551616-18446744073709551616 else n%18446744073709551616:=by
  unfold bN IntKind.wrap;rw[show((2:Int)^IntKind.bits .i64)=18446744073709551616 from rfl,show((2:Int)^(IntKind.bits .i64-1))=9223372036854775808 from rfl];simp[IntKind.signed]
 rw[e];split<;>omega
def dM {l:aA A} {Q:A->Prop} (h0:0<=i) (h1:i<(l.length:Int)) (h:∀x,x∈l->l[i.toNat]? =some x->Q x):Ok (bE l i) Q:=by
 unfold bE;rw[yY2 h0];have hi:i.toNat<l.length:=by omega
 exact⟨l[i.toNat],by simp[hi],h _ (bO3 hi) (by simp[hi])⟩
end Go.P
set_option maxRecDepth 100000
namespace Go.P
variable {A:Type}
def vR1 (l:aA A) (g:A->aB Bool):aB Int:=
 (aQ (E:=Int⊕Unit) (fun(a:Int)=>
  if(decide (a<(l.length:Int)))then
   (bE l a).bind fun d=>
   (g d).bind fun b=>
   if b then
    some (.inr (.inl a))
   else
   some (.inl (bN (a+1)))
  else
  some (.inr (.inr ()))) cQ 0).bind fun c=>
 match c with
 |.inl x_7=>
  some x_7
 |.inr _=>
  some (-1)
def Xl {l:aA A} {g:A->aB Bool} (hl:l.length<9223372036854775808) (hg:∀x∈l,∃b,g x=some b):Ok (vR1 l g) (fun v=>(v= -1/\∀x∈l,g x=some false)\/(0<=v/\v<l.length/\∃x,l[v.toNat]? =some x/\g x=some true)):=by
 unfold vR1
 refine Ob (P:=fun r=>match r with|.inl v=>0<=v/\v<l.length/\∃x,l[v.toNat]? =some x/\g x=some true|.inr _=>∀x∈l,g x=some false)
  (lJ (S:=Int) (fun i=>0<=i/\i<=l.length/\∀j,j<i.toNat->∀x,l[j]? =some x->g x=some false) (fun i=>l.length-i.toNat) (fun i hi=>?_) cQ 0 ⟨by omega,by omega,fun j c=>by simp at c⟩ (by simp[cQ];omega)) fun r hr=>?_
 obtain⟨h0,h1,h2⟩:=hi;refine Oi (fun hc=>?_) (fun hc=>?_);simp only[zD2]at hc;refine Ob (dM (Q:=fun x=>x∈l/\l[i.toNat]? =some x) h0 hc (fun x a b=>⟨a,b⟩)) fun x d=>?_;obtain⟨b,hb⟩:=hg x d.1;rw[hb];cases b with
 |true=>exact .mk ⟨h0,hc,x,d.2,hb⟩
 |false=>
  rw[yU2,cH (by omega) (by omega)];refine .mk ⟨⟨by omega,by omega,fun j c y hy=>?_⟩,by omega⟩;by_cases e:j=i.toNat
  subst e;rw[d.2]at hy;cases hy;exact hb;exact h2 j (by omega) y hy
 simp only[zD2]at hc;refine .mk (fun x d=>?_);obtain⟨j,c⟩:=zL2.1 d;have:=(yT2.1 c).1;exact h2 j (by omega) x c;cases r with
 |inl v=>exact .mk (.inr hr)
 |inr u=>exact .mk (.inl ⟨rfl,hr⟩)
end Go.P
namespace Go.P
structure YY.b (x:YY):Prop where
 qE:x.qE.size<9223372036854775808
structure YE.b (x:YE):Prop where
 gO:x.gO.length<9223372036854775808
 hZ:x.hZ.length<9223372036854775808
 eD:x.eD.length<9223372036854775808
 zB:∀y∈x.eD,y.b
structure YO.b (x:YO):Prop where
 aU:x.aU.length<9223372036854775808
 gS:∀y∈x.aU,y.b
 fO:x.fO.length<9223372036854775808
structure YW.b (x:YW):Prop where
 iB:x.iB.length<9223372036854775808
 aK:x.aK.length<9223372036854775808
 fP:∀y∈x.aK,y.b
structure YM.b (x:YM):Prop where
 dJ:x.dJ.size<9223372036854775808
 fW:x.fW.length<9223372036854775808
 aI:x.aI.length<9223372036854775808
 gX:∀y∈x.aI,y.b
structure YJ.b (x:YJ):Prop where
 vG:x.vG.size<9223372036854775808
 dN:x.dN.length<9223372036854775808
structure Y0.b (x:Y0):Prop where
 fL:x.fL.size<9223372036854775808
 bQ:x.bQ.length<9223372036854775808
 lN:∀y∈x.bQ,y.b
 aE:x.aE.length<9223372036854775808
 cK:∀y∈x.aE,y.b
 bD:x.bD.length<9223372036854775808
 jV:x.jV.length<9223372036854775808
structure YY.sm (x:YY):Prop where
 qE:x.qE.size<=300
structure YE.sm (x:YE):Prop where
 gO:x.gO.length<=12
 hZ:x.hZ.length<=12
 eD:x.eD.length<=12
 zB:∀y∈x.eD,y.sm
structure YO.sm (x:YO):Prop where
 aU:x.aU.length<=20
 gS:∀y∈x.aU,y.sm
 fO:x.fO.length<=6
structure YW.sm (x:YW):Prop where
 iB:x.iB.length<=5
 aK:x.aK.length<=3
 fP:∀y∈x.aK,y.sm
structure YM.sm (x:YM):Prop where
 dJ:x.dJ.size<=300
 fW:x.fW.length<=5
 aI:x.aI.length<=5
 gX:∀y∈x.aI,y.sm
structure YJ.sm (x:YJ):Prop where
 vG:x.vG.size<=300
 dN:x.dN.length<=5
structure Y0.sm (x:Y0):Prop where
 fL:x.fL.size<=300
 bQ:x.bQ.length<=4
 lN:∀y∈x.bQ,y.sm
 aE:x.aE.length<=12
 cK:∀y∈x.aE,y.sm
 bD:x.bD.length<=10
 jV:x.jV.length<=5
end Go.P
namespace Go.P
variable {A E:Type}
def rF {l:aA A} {body:Int->aB (Int⊕E)} {Q:E->Prop} (P:A->Prop) (hl:l.length<9223372036854775808)
  (h:∀(i:Int) (x:A),0<=i->i<(l.length:Int)->x∈l->bE l i=some x->bN (i+1)=i+1->Ok (body i) (fun r=>match r with|.inl j=>j=i+1/\P x|.inr e=>Q e))
  (a:∀i:Int,i=(l.length:Int)->(∀x∈l,P x)->Ok (body i) (fun r=>match r with|.inl j=>False|.inr e=>Q e)):Ok (aQ body cQ 0) Q:=by
 have hl:l.length<9223372036854775808:=hl;refine lJ (fun(i:Int)=>0<=i/\i<=l.length/\∀j,j<i.toNat->∀x,l[j]? =some x->P x) (fun i=>l.length-i.toNat) (fun i hi=>?_) cQ 0 ⟨by omega,by omega,fun j b=>by simp at b⟩ (by simp[cQ];omega);obtain⟨h0,h1,h2⟩:=hi;by_cases c:i<(l.length:Int);have hi:i.toNat<l.length:=by omega
 have hg:bE l i=some l[i.toNat]:=by unfold bE;rw[yY2 h0];simp[hi]
 refine(h i l[i.toNat] h0 c (bO3 hi) hg (cH (by omega) (by omega))).mono fun r hr=>?_;cases r with
 |inl j=>
  obtain⟨rfl,hp⟩:=hr;refine⟨⟨by omega,by omega,fun j b y hy=>?_⟩,by omega⟩;by_cases e:j=i.toNat
  subst e;rw[zY2 hi]at hy;cases hy;exact hp;exact h2 j (by omega) y hy
 |inr e=>exact hr
 refine(a i (by omega) (fun x d=>?_)).mono fun r hr=>?_;obtain⟨j,b⟩:=zL2.1 d;have:=(yT2.1 b).1;exact h2 j (by omega) x b;cases r with
 |inl j=>exact hr.elim
 |inr e=>exact hr
def U33 {v:YO} (hv:v.b):Ok (F52 v) (fun r=>r=true->v.sm):=by
 unfold F52 cT;refine Ob (P:=fun r=>match r with|.inl _=>True|.inr _=>∀e∈v.aU,e.sm) (rF (fun e=>e.sm) hv.aU (fun i x h0 h1 c hg hw=>?_) (fun i hi hp=>?_)) fun r hr=>?_;simp only[h1,aS3,zT2,hg,yU2];refine Oi (fun hc=>.mk trivial) (fun hc=>?_);have a:=hv.gS x c;simp only[zN2,zD2,bR3]at hc;refine Ob (P:=fun r=>match r with|.inl _=>True|.inr _=>∀e∈x.eD,e.sm) (rF (fun e=>e.sm) a.eD (fun k y j d hy f g=>?_) (fun k hk hp=>?_)) fun r hr=>?_;simp only[d,aS3,zT2,f,yU2];refine Oi (fun hd=>.mk trivial) (fun hd=>?_);rw[g];exact .mk ⟨rfl,⟨by simp at hd;omega⟩⟩;simp only[hk,Int.lt_irrefl,bM3,zG2,aL3];exact .mk hp;cases r with
 |inl u=>exact .mk trivial
 |inr u=>simp only;rw[hw];exact .mk ⟨rfl,⟨by omega,by omega,by omega,hr⟩⟩
 simp only[hi,Int.lt_irrefl,bM3,zG2,aL3];exact .mk hp;cases r with
 |inl u=>exact .mk (fun h=>by cases h)
 |inr u=>
  refine .mk (fun h=>?_);simp only[yS2,zD2]at h;exact⟨by omega,hr,by omega⟩
end Go.P
namespace Go.P
variable {A E S:Type}
def cY {l:aA A} {body:S->aB (S⊕E)} {Q:E->Prop} {s0:S} (a:S->Int) (I:Nat->S->Prop) (hl:l.length<9223372036854775808) (h0:a s0=0) (f:I 0 s0)
  (h:∀(i:Nat) (x:A) (s:S),l[i]? =some x->x∈l->a s=(i:Int)->a s<(l.length:Int)->I i s->bE l (a s)=some x->bN (a s+1)=(i:Int)+1->Ok (body s) (fun r=>match r with|.inl s'=>a s'=(i:Int)+1/\I (i+1) s'|.inr e=>Q e))
  (b:∀s,a s=(l.length:Int)->I l.length s->Ok (body s) (fun r=>match r with|.inl _=>False|.inr e=>Q e)):Ok (aQ body cQ s0) Q:=by
 have hl:l.length<9223372036854775808:=hl;refine lJ (fun s=>0<=a s/\a s<=l.length/\I (a s).toNat s) (fun s=>l.length-(a s).toNat) (fun s hi=>?_) cQ s0 ⟨by omega,by omega,by rw[h0];exact f⟩ (by simp[cQ];omega);obtain⟨g,m,d⟩:=hi;by_cases c:a s<(l.length:Int);have hi:(a s).toNat<l.length:=by omega
 have hc:(((a s).toNat:Nat):Int)=a s:=by omega
 have hg:bE l (a s)=some l[(a s).toNat]:=by unfold bE;rw[yY2 g];simp[hi]
 refine(h (a s).toNat l[(a s).toNat] s (by simp[hi]) (bO3 hi) hc.symm c d hg (by rw[cH (by omega) (by omega)];omega)).mono fun r hr=>?_;cases r with
 |inl s'=>
  obtain⟨k,e2⟩:=hr;refine⟨⟨by omega,by omega,?_⟩,by omega⟩;rw[show(a s').toNat=(a s).toNat+1 by omega];exact e2
 |inr e=>exact hr
 refine(b s (by omega) ?_).mono fun r hr=>?_;rw[show(a s).toNat=l.length by omega]at d;exact d;cases r with
 |inl j=>exact hr.elim
 |inr e=>exact hr
def jU {g:Bool} {l:aA A} {x:A} (h:l.length<1073741824) {Q:aA A->Prop} (a:Q (l++[x])):Ok (mK g l [x]) Q:=by
 unfold mK;have e:Sim.maxRoom=1073741824:=rfl;rw[yY2 ⟨by rw[e,zZ2,zJ2];omega,fun _=>yX2 _⟩];exact .mk a
def oS2 {w:Bool} {id:YZ} {l:aA YV} {s:Y0} {r:Int} (h:l.length<1000000):Ok (iU w id l s r) (fun v=>v.length<=l.length+1):=by
 unfold iU;refine Ob (P:=fun v=>v.length<=l.length+1) (Oi (fun _=>Ob (jU (Q:=fun v=>v.length<=l.length+1) (by omega) (by simp)) fun v hv=>.mk hv) (fun _=>.mk (by omega))) fun v hv=>.mk hv
def qC1 (n a b:Int):qD n a b=some (decide (n>=a)&&decide (n<=b)):=rfl
def eH2 (i:YL):Zw i=some (if((((decide (i.nO<(-77)))||(decide (i.nO>77)))||(decide (i.fK<(-140))))||(decide (i.fK>140)))then 2 else 0):=by
 unfold Zw;split<;>rfl
def qD1 {s:ByteArray} (h:s.size<9223372036854775808):Ok (Re s) (fun _=>True):=by
 unfold Re;refine Ob (P:=fun _=>True) (Oi (fun _=>?_) (fun _=>.mk trivial)) fun v hv=>.mk hv
 have:Ok (Zv s.data.toList) (fun _=>True):=by
  unfold Zv;refine Ob (Xl (l:=s.data.toList) (g:=fun b=>fQ1 (b.toNat:Int)) (by rw[cT3];exact h) (fun x _=>⟨_,rfl⟩)) fun v hv=>.mk trivial
 exact Ob this fun v hv=>.mk trivial
end Go.P
namespace Go.P
variable {A E S V α β:Type} {a b c h i n r:Int} {s:Y0}
section
variable {Q:α->Prop}
def Ok.bindE {P:β->Prop} {x:aB β} {k:β->aB α} (h:Ok x P) (hk:∀v,x=some v->P v->Ok (k v) Q):Ok (x.bind k) Q:=by
 obtain⟨v,rfl,hv⟩:=h;exact hk v rfl hv
def Ok.of {x:aB α} (h:Ok x Q) {v:α} (hv:x=some v):Q v:=by
 obtain⟨w,h1,h2⟩:=h;rw[h1]at hv;cases hv;exact h2
def yX {k:IntKind} (h:b≠0):Ok (Tq k a b) (fun v=>v=k.wrap (a.tdiv b)):=by
 unfold Tq;rw[zB2 h];exact .mk rfl
def Mo {k:IntKind} (h:b≠0):Ok (fC1 k a b) (fun v=>v=a.tmod b):=by
 unfold fC1;rw[zB2 h];exact .mk rfl
def yY {k:IntKind} (h:0<=b):Ok (Tp k a b) (fun v=>v=a.fdiv (2^min b.toNat k.bits)):=by
 unfold Tp;rw[zB2 (by omega)];exact .mk rfl
def Xm {k:IntKind} (h:0<=b):Ok (lL1 k a b) (fun _=>True):=by
 unfold lL1;rw[zB2 (by omega)];exact .mk trivial
end
section
variable {l:List A}
def kW (h0:0<=i) (h1:i<(l.length:Int)):Ok (gU l i) (fun v=>v=i.toNat/\v<l.length):=by
 unfold gU sI;rw[yY2 ⟨h0,h1⟩];exact .mk ⟨rfl,by omega⟩
def nZ {j:Nat} (h:j<l.length):Ok (fZ l j) (fun x=>l[j]? =some x/\x∈l):=by
 unfold fZ;rw[zY2 h];exact .mk ⟨rfl,bO3 h⟩
def Mp {j:Nat} {f:A->A} (h:j<l.length):Ok (nV l j f) (fun m=>m.length=l.length):=by
 unfold nV;rw[zY2 h];exact .mk (by simp)
def yZ {z:A} (h0:0<=n) (h1:n<=c) (h2:c<=1073741824):Ok (Bo n c z) (fun v=>v=List.replicate n.toNat z):=by
 unfold Bo;rw[yY2 ⟨h0,h1,h2⟩];exact .mk rfl
def Jv (h0:0<=a) (h1:a<=b) (h2:b<=(l.length:Int)):Ok (mG l a b) (fun v=>v.length<=l.length/\∀x∈v,x∈l):=by
 unfold mG;rw[yY2 ⟨h0,h1,h2⟩];exact .mk ⟨by simp;omega,fun x c=>List.mem_of_mem_drop (cN3 c)⟩
def Jw (_:0<l.length) (h1:0<=h) (h2:h<=(l.length:Int)):Ok (Ak l h) (fun v=>v.length=h.toNat/\∀x∈v,x∈l):=by
 unfold Ak;rw[yY2 ⟨h1,h2⟩];exact .mk ⟨by simp;omega,fun x a=>cN3 a⟩
def gR {x:A} (h:bE l i=some x):0<=i/\i<(l.length:Int)/\x∈l/\l[i.toNat]? =some x:=by
 unfold bE at h;split at h;obtain⟨hi,_⟩:=yT2.1 h;exact⟨by omega,by omega,zC2 h,h⟩;cases h
end
def Ar {s:ByteArray} (h0:0<=i) (h1:i<(s.size:Int)):Ok (tJ s i) (fun v=>0<=v/\v<=255):=by
 unfold tJ;rw[yY2 h0];have h:i.toNat<s.data.toList.length:=by rw[cT3];show i.toNat<s.size;omega
 rw[zY2 h];have:=(s.data.toList[i.toNat]).toNat_lt;exact .mk ⟨by dsimp only;omega,by dsimp only;omega⟩
def iD {l:aA A} (h:l.length<=1073741824):iG l=some l:=by
 unfold iG;rw[Nat.ble_eq_true_of_le h];rfl
def nm:(∀a b:Bool,((a||b)=true)=(a=true\/b=true))/\(∀a b:Bool,((a&&b)=true)=(a=true/\b=true))/\(∀b:Bool,((!b)=true)=(b=false))/\(∀(p:Prop) [Decidable p],(decide p=true)=p)/\
  (∀(p:Prop) [Decidable p],(decide p=false)=¬p)/\(∀p q:Prop,(¬(p\/q))=(¬p/\¬q))/\(∀p q:Prop,(¬(p/\q))=(p->¬q))/\(∀b:Bool,(¬b=true)=(b=false))/\(∀a b:Int,((a !=b)=true)=¬a=b)/\
  (∀a b:Int,((a==b)=true)=(a=b))/\(∀p:Prop,(¬¬p)=p):=
 ⟨fun a b=>by simp,fun a b=>by simp,fun b=>by simp,fun p _=>by simp,fun p _=>by simp,fun p q=>by simp,fun p q=>by simp,fun b=>by simp,fun a b=>by simp,fun a b=>by simp,fun p=>by simp⟩
def nl:(∀(a:A) (l:aA A),(a::l).length=l.length+1)/\([]:aA A).length=0:=⟨fun _ _=>rfl,rfl⟩
def nt:(∀[Decidable True],decide True=true)/\(∀(α:Type) [Decidable True] (a b:α),(if True then a else b)=a)/\∀(α β:Type) (a:α) (f:α->aB β),(some a).bind f=f a:=⟨aS3 _,fun _ _ _ _=>zT2 ..,fun _ _ _ _=>rfl⟩
def nf:(∀a:Int,(a<a)=False)/\(∀[Decidable False],decide False=false)/\((false=true)=False)/\∀(α:Type) [Decidable False] (a b:α),(if False then a else b)=b:=⟨fun a=>by simp,bM3 _,by simp,fun _ _ _ _=>aL3 ..⟩
def cU {Q:α->Prop} {x:aB β} {k:β->aB α} (h:Ok x fun _=>True) (hk:∀v,Ok (k v) Q):Ok (x.bind k) Q:=Ob h fun v _=>hk v
def lpT {l:aA A} {body:S->aB (S⊕E)} {s0:S} {k:E->aB β} {Q:β->Prop} (a:S->Int) (hl:l.length<9223372036854775808) (h0:a s0=0)
  (h:∀(i:Nat) (x:A) (s:S),x∈l->a s=(i:Int)->a s<(l.length:Int)->bE l (a s)=some x->bN (a s+1)=(i:Int)+1->Ok (body s) (fun r=>match r with|.inl s'=>a s'=(i:Int)+1|.inr _=>True))
  (b:∀s,a s=(l.length:Int)->Ok (body s) (fun r=>match r with|.inl _=>False|.inr _=>True)) (hk:∀e,Ok (k e) Q):Ok ((aQ body cQ s0).bind k) Q:=
 cU (cY (l:=l) a (fun _ _=>True) hl h0 trivial (fun i x s _ d hi c _ hg hw=>(h i x s d hi c hg hw).mono fun r hr=>by cases r with|inl s'=>exact⟨hr,trivial⟩|inr e=>trivial) (fun s hi _=>b s hi)) hk
def iK1 {s:ByteArray} {n:Nat} (h:s.size<=n):s.data.toList.length<=n:=by rw[cT3];exact h
def iL1 (n:Int): -9223372036854775808<=bN n/\bN n<=9223372036854775807:=by
 have e:bN n=if n%18446744073709551616>=9223372036854775808 then n%18446744073709551616-18446744073709551616 else n%18446744073709551616:=by
  unfold bN IntKind.wrap;rw[show((2:Int)^IntKind.bits .i64)=18446744073709551616 from rfl,show((2:Int)^(IntKind.bits .i64-1))=9223372036854775808 from rfl];simp[IntKind.signed]
 rw[e];split<;>omega
def mX {body:S->aB (S⊕E)} {Q:E->Prop} {s0:S} (d:S->Int) (N:Int) (I:S->Prop) (g:N<=9223372036854775807) (h0: -1000<=d s0) (f:I s0)
  (h:∀s,I s->d s0<=d s->(d s<N->bN (d s+1)=d s+1)->Ok (body s) (fun r=>match r with|.inl s'=>d s<N/\d s'=d s+1/\I s'|.inr e=>Q e)):Ok (aQ body cQ s0) Q:=by
 refine lJ (fun s=>I s/\d s0<=d s) (fun s=>(N-d s).toNat) (fun s hs=>?_) cQ s0 ⟨f,bV3 _⟩ (by simp only[cQ];omega);refine(h s hs.1 hs.2 (fun hc=>cH (by omega) (by omega))).mono fun r hr=>?_;cases r with
 |inl s'=>obtain⟨a,b,c⟩:=hr;exact⟨⟨c,by omega⟩,by omega⟩
 |inr e=>exact hr
def aI1 {w:Bool} {id:YZ} {l:aA YV} (h:l.length<1000000):Ok (iU w id l s r) (fun v=>(w=true->v.length=l.length+1)/\(w=false->v.length=l.length)):=by
 unfold iU;refine Ob (P:=fun v=>(w=true->v.length=l.length+1)/\(w=false->v.length=l.length)) (Oi (fun h=>Ob (jU (Q:=fun v=>v.length=l.length+1) (by omega) (by simp)) fun v hv=>.mk ⟨fun _=>hv,fun h2=>by rw[h]at h2;cases h2⟩) (fun h=>.mk ⟨fun h2=>absurd h2 h,fun _=>rfl⟩)) fun v hv=>.mk hv
def eI2 (n:Int):0<=IntKind.wrap .u8 n/\IntKind.wrap .u8 n<256:=by
 unfold IntKind.wrap;rw[show((2:Int)^IntKind.bits .u8)=256 from rfl];simp[IntKind.signed];omega
def oT2 {l:aA YV} (hs:s.sm) (h0:s.aE.length=0) (h:l.length<900000):Ok (Rf l s r) (fun v=>0<v.length):=by
 unfold Rf cT;have hp:=hs.bQ;refine Ob (P:=fun v=>v.length<=l.length+4) (cY (l:=s.bQ) (fun q=>q.1) (fun i q=>q.2.length<=l.length+i) (by omega) rfl (by simp) (fun i x q m f hi e d hg hw=>?_) (fun q hi d=>?_)) fun v1 h1=>?_;obtain⟨k,j⟩:=q;have g:=hs.lN x f;have hn:=g.vG;simp only at hi e d hg hw;simp only[e,aS3,zT2,hg,yU2,qC1,eH2];refine Ob (qD1 (by omega)) fun a _=>?_;refine Ob (P:=fun _=>True) (by split<;>exact .mk trivial) fun b _=>?_;refine Ob (P:=fun _=>True) (by split<;>exact .mk trivial) fun c _=>?_;refine Ob (oS2 (by omega)) fun v hv=>.mk ⟨hw,by dsimp only;omega⟩;obtain⟨k,j⟩:=q;simp only at hi d;simp only[hi,Int.lt_irrefl,bM3,zG2,aL3];exact .mk (by omega);refine Ob (P:=fun v=>v.length<=l.length+4) (cY (l:=s.aE) (fun q=>q.1) (fun i q=>q.2.length<=l.length+4) (by omega) rfl h1 (fun i x q m f hi e d hg hw=>by omega) (fun q hi d=>?_)) fun v1 h1=>?_;obtain⟨k,j⟩:=q;simp only at hi d;simp only[hi,Int.lt_irrefl,bM3,zG2,aL3];exact .mk d;have n:=hs.fL;refine Ob (qD1 (by omega)) fun a _=>?_;simp only[qC1,yU2];refine Ob (P:=fun _=>True) (by split<;>exact .mk trivial) fun b _=>?_;refine Ob (P:=fun r=>r=true) (Oi (fun _=>.mk rfl) (fun _=>.mk (by simp[h0]))) fun c hc=>?_;subst hc;simp only[Bool.true_or];refine Ob (aI1 (by omega)) fun v hv=>.mk (by have:=hv.1 rfl;omega)
def YU.ok (n:Int) (t:YU):Prop:=1<=t.fJ/\t.fJ<=n/\0<=t.kQ/\t.kQ+t.fJ<=n/\1<=t.hY/\t.hY<=32/\1<=t.iW/\t.iW<=32
def Y0.pl (s:Y0) (m c v:Int):Prop:=∃x y z,bE s.aE m=some x/\bE x.aI c=some y/\bE y.aK v=some z
def og (l:aA A) (v:aA V) (K k:Nat) {body:Int×aA V->aB ((Int×aA V)⊕aA V)} {m:aA V->aB α} {Q:α->Prop} (hl:l.length<9223372036854775808)
  (h:∀(i:Nat) (x:A) (s:Int×aA V),l[i]? =some x->x∈l->s.1=(i:Int)->s.1<(l.length:Int)->(v.length<=s.2.length/\s.2.length<=v.length+i*k)->bE l s.1=some x->bN (s.1+1)=(i:Int)+1->Ok (body s) (fun r=>match r with|.inl s'=>s'.1=(i:Int)+1/\v.length<=s'.2.length/\s'.2.length<=v.length+(i+1)*k|.inr e=>v.length<=e.length/\e.length<=v.length+K))
  (j:∀s,s.1=(l.length:Int)->(v.length<=s.2.length/\s.2.length<=v.length+l.length*k)->Ok (body s) (fun r=>match r with|.inl _=>False|.inr e=>v.length<=e.length/\e.length<=v.length+K))
  (hk:∀r,(v.length<=r.length/\r.length<=v.length+K)->Ok (m r) Q):Ok ((aQ body cQ (0,v)).bind m) Q:=
 Ob (P:=fun r=>v.length<=r.length/\r.length<=v.length+K) (cY (l:=l) (fun q=>q.1) (fun i q=>v.length<=q.2.length/\q.2.length<=v.length+i*k) hl rfl ⟨yX2 _,by dsimp only;omega⟩ (fun i x s a b c d e f g=>(h i x s a b c d e f g).mono fun r hr=>by cases r<;>exact hr) (fun s a b=>(j s a b).mono fun r hr=>by cases r<;>exact hr)) hk
def vF {l:aA A} {body:S->aB (S⊕E)} {s0:S} {k:E->aB β} {Q:β->Prop} (a:S->Int)
  (h:∀(i:Nat) (x:A) (s:S),x∈l->a s=(i:Int)->a s<(l.length:Int)->bE l (a s)=some x->bN (a s+1)=(i:Int)+1->Ok (body s) (fun r=>match r with|.inl s'=>a s'=(i:Int)+1|.inr _=>True))
  (hk:∀e,Ok (k e) Q) (hl:l.length<9223372036854775808:=by omega) (h0:a s0=0:=by rfl)
  (b:∀s,a s=(l.length:Int)->Ok (body s) (fun r=>match r with|.inl _=>False|.inr _=>True):=by intro q h;first|(simp only[h,nf];exact .mk trivial)|(obtain⟨_,_⟩:=q;dsimp only at h;simp only[h,nf];exact .mk trivial)|(obtain⟨_,_,_⟩:=q;dsimp only at h;simp only[h,nf];exact .mk trivial)|(obtain⟨_,_,_,_⟩:=q;dsimp only at h;simp only[h,nf];exact .mk trivial)):Ok ((aQ body cQ s0).bind k) Q:=lpT (l:=l) a hl h0 h b hk
def oh (l:aA A) (v:aA V) (K k:Nat) {body:Int×aA V->aB ((Int×aA V)⊕aA V)} {b:aA V->aB α} {Q:α->Prop}
  (h:∀(i:Nat) (x:A) (s:Int×aA V),l[i]? =some x->x∈l->s.1=(i:Int)->s.1<(l.length:Int)->(v.length<=s.2.length/\s.2.length<=v.length+i*k)->bE l s.1=some x->bN (s.1+1)=(i:Int)+1->Ok (body s) (fun r=>match r with|.inl s'=>s'.1=(i:Int)+1/\v.length<=s'.2.length/\s'.2.length<=v.length+(i+1)*k|.inr e=>v.length<=e.length/\e.length<=v.length+K))
  (hk:∀r,(v.length<=r.length/\r.length<=v.length+K)->Ok (b r) Q) (hl:l.length<9223372036854775808:=by omega)
  (a:∀s,s.1=(l.length:Int)->(v.length<=s.2.length/\s.2.length<=v.length+l.length*k)->Ok (body s) (fun r=>match r with|.inl _=>False|.inr e=>v.length<=e.length/\e.length<=v.length+K):=by intro q h c;obtain⟨_,_⟩:=q;dsimp only at h c;simp only[h,nf];exact .mk (by dsimp only;omega)):Ok ((aQ body cQ (0,v)).bind b) Q:=og l v K k hl h a hk
def pS {l:aA A} {body:S->aB (S⊕E)} {Q:E->Prop} {s0:S} (a:S->Int) (I:Nat->S->Prop)
  (h:∀(i:Nat) (x:A) (s:S),l[i]? =some x->x∈l->a s=(i:Int)->a s<(l.length:Int)->I i s->bE l (a s)=some x->bN (a s+1)=(i:Int)+1->Ok (body s) (fun r=>match r with|.inl s'=>a s'=(i:Int)+1/\I (i+1) s'|.inr e=>Q e)) (hl:l.length<9223372036854775808:=by omega) (h0:a s0=0:=by rfl) (b:I 0 s0:=by dsimp only;omega)
  (c:∀s,a s=(l.length:Int)->I l.length s->Ok (body s) (fun r=>match r with|.inl _=>False|.inr e=>Q e):=by intro q h b;first|(obtain⟨_,_⟩:=q;dsimp only at h b;simp only[h,nf];exact .mk (by dsimp only;omega))|(obtain⟨_,_,_⟩:=q;dsimp only at h b;simp only[h,nf];exact .mk (by dsimp only;omega))|(obtain⟨_,_,_,_⟩:=q;dsimp only at h b;simp only[h,nf];exact .mk (by dsimp only;omega))):Ok (aQ body cQ s0) Q:=cY (l:=l) a I hl h0 b h c
def oN {c:Bool} {y:aB Bool} {k:Bool->aB α} {Q:α->Prop} (h:¬c=true->Ok y fun _=>True) (hk:∀r,(¬r=true->¬c=true)->Ok (k r) Q):Ok ((if c=true then some true else y).bind k) Q:=by
 cases c with
 |true=>exact hk true (fun h=>absurd rfl h)
 |false=>exact Ob (h (by simp)) fun r _=>hk r (fun _=>by simp)
def oM {c:Bool} {y:aB Bool} {k:Bool->aB α} {Q:α->Prop} (h:c=true->Ok y fun _=>True) (hk:∀r,(r=true->c=true)->Ok (k r) Q):Ok ((if c=true then y else some false).bind k) Q:=by
 cases c with
 |true=>exact Ob (h rfl) fun r _=>hk r (fun _=>rfl)
 |false=>exact hk false (fun h=>by cases h)
abbrev fC {α:Type} (x:aB α):Prop:=Ok x fun _=>True
end Go.P
set_option maxHeartbeats 1000000
namespace Go.P
def U34 {v:YO} (hv:v.b):Ok (F53 v) (fun _=>True):=by
 unfold F53;refine Ob (P:=fun _=>True) (cY (l:=v.aU) (fun q=>q.2) (fun _ _=>True) hv.aU rfl trivial (fun i e q c a hi hl _ hg hw=>?_) (fun q hi _=>?_)) fun v _=>.mk trivial;obtain⟨n,k⟩:=q;dsimp only at hi hl hg hw;simp only[hl,hg,aS3,zT2,yU2];refine Ob (P:=fun _=>True) (cY (l:=e.eD) (fun q=>q.2) (fun _ _=>True) (hv.gS e a).eD rfl trivial (fun i e q c a hi hl _ hg hw=>?_) (fun q hi _=>?_)) fun x _=>.mk ⟨hw,trivial⟩;obtain⟨n,k⟩:=q;dsimp only at hi hl hg hw;simp only[hl,hg,aS3,zT2,yU2];exact .mk ⟨hw,trivial⟩;obtain⟨n,k⟩:=q;dsimp only at hi;simp only[hi,Int.lt_irrefl,bM3,zG2,aL3];exact .mk trivial;obtain⟨n,k⟩:=q;dsimp only at hi;simp only[hi,Int.lt_irrefl,bM3,zG2,aL3];exact .mk trivial
def U13 {s:Y0} (hb:s.b):Ok (F18 s) (fun r=>r=true->s.sm):=by
 unfold F18 cT;refine Ob (P:=fun r=>match r with|.inl _=>True|.inr _=>∀p∈s.bQ,p.sm) (rF (l:=s.bQ) (fun p=>p.sm) hb.bQ (fun i p h0 h1 d hg hw=>?_) (fun i hi t=>?_)) fun r hr=>?_;simp only[h1,hg,hw,aS3,zT2,yU2];refine Ob (P:=fun b=>b=true\/p.sm) (Oi (fun _=>.mk (.inl rfl)) (fun hc=>.mk ?_)) fun b hb=>?_;simp only[zD2]at hc;by_cases h:(p.vG.size:Int)>300;exact .inl (by simpa using h);exact .inr ⟨by omega,by omega⟩;exact Oi (fun _=>.mk trivial) (fun hc=>.mk ⟨rfl,hb.resolve_left hc⟩);simp only[hi,Int.lt_irrefl,bM3,zG2,aL3];exact .mk t;rcases r with _|_;exact .mk (fun h=>by cases h);refine Ob (P:=fun r=>match r with|.inl _=>True|.inr _=>∀m∈s.aE,m.sm) (cY (l:=s.aE) (fun q=>q.2.2) (fun i q=>∀m∈s.aE.take i,m.sm) hb.aE rfl (fun m o=>by simp at o) (fun i m q d o hi hl g hg hw=>?_) (fun q hi g=>?_)) fun r C=>?_;obtain⟨ev,by',k⟩:=q;have G:=hb.cK m o;dsimp only at hi hl hg hw;simp only[hl,hg,aS3,zT2,yU2];refine Oi (fun _=>.mk trivial) (fun hc=>?_);simp only[zN2,zD2,bR3]at hc;refine Ob (P:=fun r=>match r with|.inl _=>True|.inr _=>∀c∈m.aI,c.sm) (cY (l:=m.aI) (fun q=>q.2.2) (fun i q=>∀c∈m.aI.take i,c.sm) G.aI rfl (fun m o=>by simp at o) (fun i c q D A hi hl y hg u=>?_) (fun q hi g=>?_)) fun r hr=>?_;obtain⟨ev,by',k⟩:=q;have F:=G.gX c A;dsimp only at hi hl hg u;simp only[hl,hg,aS3,zT2,yU2];refine Ob (P:=fun b=>b=true\/(c.iB.length<=5/\c.aK.length<=3)) (Oi (fun _=>.mk (.inl rfl)) (fun hc=>.mk ?_)) fun b hb=>?_;simp only[zD2]at hc;by_cases h:(c.aK.length:Int)>3;exact .inl (by simpa using h);exact .inr ⟨by omega,by omega⟩;refine Oi (fun _=>.mk trivial) (fun j=>?_);have j:=hb.resolve_left j;refine Ob (P:=fun r=>match r with|.inl _=>True|.inr _=>∀v∈c.aK,v.sm) (cY (l:=c.aK) (fun q=>q.2.2) (fun i q=>∀v∈c.aK.take i,v.sm) F.aK rfl (fun m o=>by simp at o) (fun i v q E B hi hl g hg w=>?_) (fun q hi g=>?_)) fun r hr=>?_;obtain⟨ev,by',k⟩:=q;have bv:=F.fP v B;dsimp only at hi hl hg w;simp only[hl,hg,aS3,zT2,yU2];refine Ob (U33 bv) fun f hf=>?_;refine Oi (fun _=>.mk trivial) (fun z=>?_);refine Ob (U34 bv) fun n _=>?_;refine Oi (fun _=>.mk trivial) (fun _=>.mk ⟨w,fun x d=>?_⟩);rw[List.take_add_one,E]at d;rcases aG3.1 d with d|d;exact g x d;simp at d;subst d;exact hf (by simpa using z);obtain⟨ev,by',k⟩:=q;dsimp only at hi;simp only[hi,Int.lt_irrefl,bM3,zG2,aL3];rw[bP3]at g;exact .mk g;rcases r with⟨a,b⟩|⟨a,b⟩
 exact .mk trivial;refine .mk ⟨u,fun x d=>?_⟩;rw[List.take_add_one,D]at d;rcases aG3.1 d with d|d;exact y x d;simp at d;subst d;exact⟨j.1,j.2,hr⟩;obtain⟨ev,by',k⟩:=q;dsimp only at hi;simp only[hi,Int.lt_irrefl,bM3,zG2,aL3];rw[bP3]at g;exact .mk g;rcases r with⟨a,b⟩|⟨a,b⟩
 exact .mk trivial;refine .mk ⟨hw,fun x e=>?_⟩;rw[List.take_add_one,d]at e;rcases aG3.1 e with e|e;exact g x e;simp at e;subst e;exact⟨by omega,by omega,by omega,hr⟩;obtain⟨ev,by',k⟩:=q;dsimp only at hi;simp only[hi,Int.lt_irrefl,bM3,zG2,aL3];rw[bP3]at g;exact .mk g;rcases r with _|_;exact .mk (fun h=>by cases h);refine .mk (fun h=>?_);simp only[yS2,zD2]at h;exact⟨by omega,by omega,hr,by omega,C,by omega,by omega⟩
end Go.P
set_option maxHeartbeats 2000000
namespace Go.P
variable {G a b c d e f g h i j k m n p r u x3:Int} {H x:aA YV} {Y l s x1:Y0} {o y:YM}
def oU2:fC (fQ1 a):=by
 unfold fQ1;exact bH
def oV2 {e:aA UInt8} (a:e.length<=300):fC (lV1 e):=by
 unfold lV1 cT;have f:=a;refine vF (l:=e) (fun q=>q) (fun k j m h g c b d=>?_) fun i=>?_;simp only[c,b,nt];refine cU (oU2) fun n=>?_;refine oJ (fun _=>?_);exact .mk d;rcases i with o|_;exact bH;exact bH
def oW2 {b:aA UInt8} (a:b.length<=300):fC (Zv b):=by
 unfold Zv;refine cU (oV2 a) fun c=>?_;exact bH
def vS1 {b:ByteArray} (a:b.size<=300):fC (Re b):=by
 unfold Re;refine oM (fun _=>?_) fun e c=>?_;refine cU (oW2 (iK1 a)) fun d=>?_;exact bH;exact bH
def wQ:fC (qD a b c):=by
 unfold qD;exact bH
def oX2 {a:YL}:fC (Zw a):=by
 unfold Zw;refine oJ (fun _=>?_);exact bH
def lA {b:Bool} {f:YZ} {a:aA YV} {c:Y0} (d:a.length+1<=1000000) (e:c.sm):Ok (iU b f a c g) (fun v=>a.length<=v.length/\v.length<=a.length+1):=by
 exact(aI1 (by omega)).mono fun v h=>by cases b<;>simp at h<;>omega
def eJ2 {C:aA YV} {D:Y0} (U:C.length+17<=1000000) (a:D.sm):Ok (Rf C D x3) (fun v=>C.length<=v.length/\v.length<=C.length+17):=by
 unfold Rf cT;have L:=a.bQ;refine oh D.bQ C 4 1 (fun a0 S q30 P x s f p d j=>?_) fun K z19=>?_;obtain⟨b9,d0⟩:=q30;dsimp only at s f d j p;simp only[f,d,nt];have J:=a.lN _ x;refine cU (vS1 J.vG) fun d2=>?_;refine oN (fun _=>?_) fun d4 G=>?_;refine cU (wQ) fun d3=>?_;exact bH;refine oN (fun c38=>?_) fun d6 V=>?_;have b6:=G c38;refine cU (oX2) fun d5=>?_;exact bH;refine Ob (lA (by first|omega|(simp only[zJ2]at *;omega)) a) fun d7 W=>?_;exact .mk ⟨j,by dsimp only;omega⟩;have M:=a.aE;refine oh D.aE K 12 1 (fun b0 E q53 R y t g r b k=>?_) fun e9 f7=>?_;obtain⟨d8,d9⟩:=q53;dsimp only at t g b k r;simp only[g,b,nt];have o:=a.cK _ y;refine cU (vS1 o.dJ) fun e0=>?_;have N:=o.aI;refine vF (l:=E.aI) (fun q=>q.2) (fun b4 F q67 z u h c m=>?_) fun e7=>?_;obtain⟨e1,e3⟩:=q67;dsimp only at u h c m;simp only[h,b,c,nt];have B:=o.gX _ z;have O:=B.aK;refine vF (l:=F.aK) (fun q=>q.2) (fun b5 T q80 A w i e n=>?_) fun e6=>?_;obtain⟨e4,e5⟩:=q80;dsimp only at w i e n;simp only[i,b,c,e,nt];have b8:=B.fP _ A;exact .mk n;exact .mk m;refine Ob (lA (by first|omega|(simp only[zJ2]at *;omega)) a) fun e8 X=>?_;exact .mk ⟨k,by dsimp only;omega⟩;refine cU (vS1 a.fL) fun f0=>?_;refine oN (fun _=>?_) fun f2 H=>?_;refine cU (wQ) fun f1=>?_;exact bH;refine oN (fun c89=>?_) fun f5 Y=>?_;have b7:=H c89;refine cU (wQ) fun f3=>?_;exact bH;refine Ob (lA (by first|omega|(simp only[zJ2]at *;omega)) a) fun f6 Z=>?_;exact .mk (by omega)
def oY2 {a:Y0} (b:a.sm):fC (lW1 a):=by
 unfold lW1;exact bH
def qE1 {l:Int} {b:YJ} {a:aA YZ} (c:b.sm) (e:a.length+1<=1000000):Ok (Da f h i j k l m b a) (fun v=>v.length<=a.length+1):=by
 unfold Da;refine Ob (jU (Q:=fun v=>v.length=a.length+1) (by omega) (by simp)) fun g d=>?_;exact .mk (by omega)
def aJ1 {l:YF} {a:aA YZ} (c:a.length+1<=1000000):Ok (uO d f g h i j k l a) (fun v=>v.length<=a.length+1):=by
 unfold uO;refine Ob (jU (Q:=fun v=>v.length=a.length+1) (by omega) (by simp)) fun e b=>?_;exact .mk (by omega)
def aK1 {l:Int} {b:YM} {a:aA YZ} (c:b.sm) (e:a.length+1<=1000000):Ok (uP f h i j k l m b a) (fun v=>v.length<=a.length+1):=by
 unfold uP;refine Ob (jU (Q:=fun v=>v.length=a.length+1) (by omega) (by simp)) fun g d=>?_;exact .mk (by omega)
def aL1 {l:Int} {b:YE} {a:aA YZ} (c:b.sm) (e:a.length+1<=1000000):Ok (uQ f h i j k l m b a) (fun v=>v.length<=a.length+1):=by
 unfold uQ;refine Ob (jU (Q:=fun v=>v.length=a.length+1) (by omega) (by simp)) fun g d=>?_;exact .mk (by omega)
def aM1 {l:YN} {a:aA YZ} (c:a.length+1<=1000000):Ok (uR d f g h i j k l a) (fun v=>v.length<=a.length+1):=by
 unfold uR;refine Ob (jU (Q:=fun v=>v.length=a.length+1) (by omega) (by simp)) fun e b=>?_;exact .mk (by omega)
def oZ2 {x2:aA YZ} (e:x1.sm) (j2:x2.length+3646<=1000000):Ok (lX1 x1 x2) (fun v=>v.length<=x2.length+3646):=by
 unfold lX1 cT;have d8:=e.bQ;refine Ob (P:=fun r=>r.length<=x2.length+24) (pS (l:=x1.bQ) (fun q=>q.2.1) (fun i q=>q.2.2.length<=x2.length+i*6) (fun j3 b7 q109 e6 a0 T j K c t=>?_)) fun d4 k3=>?_;obtain⟨j4,j5,j6⟩:=q109;dsimp only at T j c t K;simp only[j,c,nt];have C:=e.lN _ a0;refine Ob (qE1 C (by first|omega|(simp only[zJ2]at *;omega))) fun d3 f7=>?_;have d9:=C.dN;refine Ob (P:=fun r=>r.2.length<=d3.length+5) (pS (l:=b7.dN) (fun q=>q.2.1) (fun i q=>q.2.2.length<=d3.length+i*1) (fun g4 f3 q125 e7 d6 U k L f u=>?_)) fun⟨k1,k2⟩ d5=>?_;obtain⟨j7,j8,j9⟩:=q125;dsimp only at U k f u L;simp only[k,c,f,nt];refine Ob (aJ1 (by first|omega|(simp only[zJ2]at *;omega))) fun k0 f8=>?_;exact .mk ⟨u,by dsimp only;omega⟩
 try dsimp only at d5
 exact .mk ⟨t,by dsimp only;omega⟩;have e0:=e.aE;refine Ob (P:=fun r=>r.length<=d4.length+3612) (pS (l:=x1.aE) (fun q=>q.1) (fun i q=>q.2.length<=d4.length+i*301) (fun g5 b8 q140 e8 b0 V m M a w=>?_)) fun J i5=>?_;obtain⟨h0,h2⟩:=q140;dsimp only at V m a w M;simp only[m,a,nt];have B:=e.cK _ b0;refine Ob (aK1 B (by first|omega|(simp only[zJ2]at *;omega))) fun F f9=>?_;have e1:=B.aI;refine Ob (P:=fun r=>r.length<=F.length+300) (pS (l:=b8.aI) (fun q=>q.1) (fun i q=>q.2.length<=F.length+i*60) (fun g6 b9 q156 e9 b4 W n N b x=>?_)) fun i0 i6=>?_;obtain⟨h3,G⟩:=q156;dsimp only at W n b x N;simp only[n,a,b,nt];have D:=B.gX _ b4;have e3:=D.aK;refine Ob (P:=fun r=>r.length<=G.length+60) (pS (l:=b9.aK) (fun q=>q.1) (fun i q=>q.2.length<=G.length+i*20) (fun g7 d0 q171 f0 b5 X o O d y=>?_)) fun h9 i7=>?_;obtain⟨h4,H⟩:=q171;dsimp only at X o d y O;simp only[o,a,b,d,nt];have E:=D.fP _ b5;have e4:=E.aU;refine Ob (P:=fun r=>r.length<=H.length+20) (pS (l:=d0.aU) (fun q=>q.1) (fun i q=>q.2.length<=H.length+i*1) (fun g8 f5 q187 f1 b6 Y p R g z=>?_)) fun h8 i9=>?_;obtain⟨h5,h6⟩:=q187;dsimp only at Y p g z R;simp only[p,a,b,d,g,nt];have d2:=E.gS _ b6;refine Ob (aL1 d2 (by first|omega|(simp only[zJ2]at *;omega))) fun h7 g1=>?_;exact .mk ⟨z,by dsimp only;omega⟩;exact .mk ⟨y,by dsimp only;omega⟩;exact .mk ⟨x,by dsimp only;omega⟩;exact .mk ⟨w,by dsimp only;omega⟩;have e5:=e.bD;refine Ob (P:=fun r=>r.length<=J.length+10) (pS (l:=x1.bD) (fun q=>q.1) (fun i q=>q.2.length<=J.length+i*1) (fun g9 f6 q205 f2 d7 Z s S h A=>?_)) fun i4 j0=>?_;obtain⟨i1,i2⟩:=q205;dsimp only at Z s h A S;simp only[s,h,nt];refine Ob (aM1 (by first|omega|(simp only[zJ2]at *;omega))) fun i3 g3=>?_;exact .mk ⟨A,by dsimp only;omega⟩;exact .mk (by omega)
def pA2 {c:Y0} (a:c.sm):Ok (lY1 c) (fun v=>v.length<=4000):=by
 unfold lY1;refine cU (oY2 a) fun _=>?_;refine Ob (oZ2 a (by first|omega|(simp only[zJ2]at *;omega))) fun d b=>?_;exact .mk (by simp only[zJ2]at *;omega)
def eK2 {b:YZ}:fC (fT1 b):=by
 unfold fT1;refine cU (wQ) fun c=>?_;refine oM (fun _=>?_) fun e a=>?_;refine cU (wQ) fun d=>?_;exact bH;exact bH
def T7 {h:Y0} (d:h.sm):fC (F7 h k):=by
 unfold F7 cT;have g:=d.jV;refine vF (l:=h.jV) (fun q=>q) (fun j i n f e b a c=>?_) fun m=>?_;simp only[b,a,nt];refine oJ (fun _=>?_);exact .mk c;rcases m with o|_;exact bH;exact bH
def eL2 {j:aA YV} {t:Y0} (O:j.length+4001<=1000000) (a:t.sm):Ok (fU1 j t x3) (fun v=>j.length<=v.length/\v.length<=j.length+4001):=by
 unfold fU1 cT;refine Ob (pA2 a) fun x4 o=>?_;have z:=o;refine Ob (P:=fun r=>j.length<=r.2.length/\r.2.length<=j.length+4000) (pS (l:=x4) (fun q=>q.1) (fun i q=>j.length<=q.2.2.length/\q.2.2.length<=j.length+i*1) (fun L D q238 C u m d k b f=>?_)) fun⟨Y,Z⟩ s=>?_;obtain⟨R,S,T⟩:=q238;dsimp only at m d b f k;simp only[d,b,nt];refine cU (eK2) fun U=>?_;refine oN (fun _=>?_) fun W F=>?_;refine cU (T7 a) fun V=>?_;exact bH;refine Ob (lA (by first|omega|(simp only[zJ2]at *;omega)) a) fun X G=>?_;exact .mk ⟨f,by dsimp only;omega⟩
 try dsimp only at s
 have A:=a.jV;refine vF (l:=t.jV) (fun q=>q.2) (fun M E q255 w n e c g=>?_) fun b9=>?_;obtain⟨a0,b0⟩:=q255;dsimp only at n e c g;simp only[e,c,nt];refine oN (fun _=>?_) fun b5 p=>?_;refine cU (eK2) fun b4=>?_;exact bH;refine oN (fun c261=>?_) fun b8 H=>?_;have N:=p c261;refine oM (fun _=>?_) fun b7 J=>?_;have B:=a.jV;refine Ob (P:=fun x=>x∈t.jV) (dM (by(simp only[nm]at *;rw[cH (by omega) (by omega)];omega)) (by(simp only[nm]at *;rw[cH (by omega) (by omega)];omega)) (fun _ h _=>h)) fun b6 y=>?_;exact bH;exact bH;exact .mk g;refine Ob (lA (by first|omega|(simp only[zJ2]at *;omega)) a) fun d0 K=>?_;exact .mk (by omega)
def T32 {b:Y0} (a:b.sm):Ok (F32 b) (fun v=>v<=9223372036854775807):=by
 unfold F32 cT;have hp:=a.bQ;refine Ob (P:=fun v=>v<=9223372036854775807) (cY (l:=b.bQ) (fun q=>q.2) (fun i q=>q.1<=9223372036854775807) (by omega) rfl (by decide) (fun i e q f d hi hl _ hg hw=>?_) (fun q hi c=>?_)) fun v hv=>.mk hv;obtain⟨n,x⟩:=q;dsimp only at hi hl hg hw;simp only[hl,hg,nt];exact .mk ⟨hw,(iL1 _).2⟩;obtain⟨n,x⟩:=q;dsimp only at hi c;simp only[hi,nf];exact .mk c
def pB2 {H V:Int} (s:y.sm):fC (lZ1 H y V):=by
 unfold lZ1 cT;have t:=s.aI;refine vF (l:=y.aI) (fun q=>q.2) (fun B c q279 m j e b g=>?_) fun U=>?_;obtain⟨J,K⟩:=q279;dsimp only at j e b g;simp only[e,b,nt];have a:=s.gX _ m;refine oN (fun _=>?_) fun M r=>?_;have u:=a.aK;refine Ob (P:=fun x=>x∈c.aK) (dM (by omega) (by(simp only[nm]at *;omega)) (fun _ h _=>h)) fun L n=>?_;have E:=a.fP _ n;exact bH;refine oN (fun c289=>?_) fun O A=>?_;have D:=r c289;have v:=a.aK;refine Ob (P:=fun x=>x∈c.aK) (dM (by(simp only[nm]at *;rw[cH (by omega) (by omega)];omega)) (by(simp only[nm]at *;rw[cH (by omega) (by omega)];omega)) (fun _ h _=>h)) fun N o=>?_;have F:=a.fP _ o;exact bH;have w:=a.aK;refine vF (l:=c.aK) (fun q=>q.2) (fun C z q305 p k f d i=>?_) fun T=>?_;obtain⟨R,S⟩:=q305;dsimp only at k f d i;simp only[f,b,d,nt];have G:=a.fP _ p;exact .mk i;exact .mk g;exact bH
def eM2 {i:aA YV} {w:Int} (q:i.length+12<=1000000) (d:l.sm):Ok (Wz r i l w) (fun v=>i.length<=v.length/\v.length<=i.length+12):=by
 unfold Wz cT;have j:=d.aE;refine oh l.aE i 12 1 (fun o m q319 k g f b e a c=>?_) fun u p=>?_;obtain⟨x,y⟩:=q319;dsimp only at f b a c e;simp only[b,a,nt];have h:=d.cK _ g;refine cU (pB2 h) fun s=>?_;refine Ob (lA (by first|omega|(simp only[zJ2]at *;omega)) d) fun t n=>?_;exact .mk ⟨c,by dsimp only;omega⟩;exact .mk (by omega)
def eN2 {b:aA YV} {e:Y0} (f:b.length+12<=1000000) (a:e.sm):Ok (fV1 b e g) (fun v=>b.length<=v.length/\v.length<=b.length+12):=by
 unfold fV1;refine Ob (T32 a) fun h c=>?_;refine Ob (eM2 (by first|omega|(simp only[zJ2]at *;omega)) a) fun i d=>?_;exact .mk (by omega)
def pC2:fC (mA1):=by
 unfold mA1;exact bH
def pD2:fC (mB1 b):=by
 unfold mB1;refine oJ (fun _=>?_);refine cU (pC2) fun c=>?_;refine Ob (dM (Q:=fun _=>True) (by(simp only[nm]at *;rw[cH (by omega) (by omega)];omega)) (by(simp only[nm,nl]at *;rw[cH (by omega) (by omega)];omega)) (fun _ _ _=>trivial)) fun d a=>?_;exact bH
def eO2:fC (fW1 a):=by
 unfold fW1;refine cU (pD2) fun⟨b,c⟩=>?_;exact bH
def pE2 {c:YX}:fC (mC1 c):=by
 unfold mC1;refine Oi (fun _=>bH) (fun _=>?_);refine Ob (P:=fun _=>True) (mX (fun q=>q.2.2) 6 (fun _=>True) (by decide) (by decide) trivial (fun q _ h1 h2=>?_)) fun r _=>?_;obtain⟨a,n,i⟩:=q;dsimp only at h1 h2 ⊢;refine Oi (fun hc=>?_) (fun _=>bH);simp only[zD2]at hc;refine Ob (dM (Q:=fun _=>True) h1 hc (fun _ _ _=>trivial)) fun x _=>?_;refine Oi (fun _=>bH) (fun _=>?_);refine Ob (P:=fun _=>True) (Oi (fun _=>bH) (fun _=>bH)) fun v _=>.mk ⟨hc,h2 hc,trivial⟩;rcases r with⟨a,b⟩|⟨a,b⟩<;>exact bH
def pF2 {a:YX}:Ok (mD1 a) (fun v=>v=0->a.Unit≠0):=by
 unfold mD1;refine Oi (fun c330=>.mk (by omega)) (fun c330=>?_);refine Oi (fun c331=>.mk (by omega)) (fun c331=>?_);refine cU (pE2) fun b=>?_;refine Oi (fun c333=>.mk (by omega)) (fun c333=>?_);exact .mk (by(simp only[nm]at *;omega))
def pG2 {b:YX} (c:b.Unit≠0):fC (mE1 b):=by
 unfold mE1;refine Ob (yX (by omega)) fun d a=>?_;exact bH
def pH2 {a:YX} (b:a.Unit≠0):fC (mF1 a):=by
 unfold mF1;refine cU (pG2 (by omega)) fun c=>?_;exact bH
def pI2 {b:YX}:fC (mG1 b):=by
 unfold mG1;refine Ob (pF2) fun c a=>?_;refine oJ (fun _=>?_);refine cU (pH2 (by(simp only[nm]at *;omega))) fun d=>?_;exact bH
def aN1 {b:YM} (c:b.sm):fC (Lv b):=by
 unfold Lv;refine cU (pI2) fun⟨d,e⟩=>?_;refine oJ (fun _=>?_);refine oJ (fun _=>?_);refine cU ?_ fun f=>?_;refine oJ (fun _=>?_);exact bH;refine Ob (Mo (by omega)) fun g a=>?_;refine oJ (fun _=>?_);refine oJ (fun _=>?_);exact bH
def pJ2 (k:y.sm):fC (mH1 G y):=by
 unfold mH1 cT;refine cU (aN1 k) fun⟨X,Y⟩=>?_;have u:=k.aI;refine vF (l:=y.aI) (fun q=>q.2) (fun C g q358 o m c a e=>?_) fun W=>?_;obtain⟨H,J⟩:=q358;dsimp only at m c a e;simp only[c,a,nt];have j:=k.gX _ o;have v:=j.iB;refine vF (l:=g.iB) (fun q=>q.2) (fun D z q371 s n d b f=>?_) fun V=>?_;obtain⟨K,L⟩:=q371;dsimp only at n d b f;simp only[d,a,b,nt];refine oN (fun _=>?_) fun N i=>?_;refine cU (eO2) fun M=>?_;exact bH;refine oN (fun c377=>?_) fun R p=>?_;have E:=i c377;refine cU (wQ) fun O=>?_;exact bH;refine oN (fun c381=>?_) fun U A=>?_;have r:=p c381;have F:=i r;refine oM (fun _=>?_) fun T B=>?_;have w:=j.iB;refine Ob (P:=fun x=>x∈g.iB) (dM (by(simp only[nm]at *;rw[cH (by omega) (by omega)];omega)) (by(simp only[nm]at *;rw[cH (by omega) (by omega)];omega)) (fun _ h _=>h)) fun S t=>?_;exact bH;exact bH;exact .mk f;exact .mk e;exact bH
def qF1 {i:aA YV} (q:i.length+12<=1000000) (d:l.sm):Ok (Db i l u) (fun v=>i.length<=v.length/\v.length<=i.length+12):=by
 unfold Db cT;have j:=d.aE;refine oh l.aE i 12 1 (fun o m q400 k g f b e a c=>?_) fun t p=>?_;obtain⟨w,x⟩:=q400;dsimp only at f b a c e;simp only[b,a,nt];have h:=d.cK _ g;refine cU (pJ2 h) fun r=>?_;refine Ob (lA (by first|omega|(simp only[zJ2]at *;omega)) d) fun s n=>?_;exact .mk ⟨c,by dsimp only;omega⟩;exact .mk (by omega)
def eP2 {o:aA YV} {w:Y0} {O:Int} (E:o.length+32<=1000000) (g:w.sm):Ok (fY1 o w O) (fun v=>o.length<=v.length/\v.length<=o.length+32):=by
 unfold fY1 cT;have q:=g.bQ;refine oh w.bQ o 20 5 (fun A m q416 s l j c h a e=>?_) fun M C=>?_;obtain⟨F,u⟩:=q416;dsimp only at j c a e h;simp only[c,a,nt];have n:=g.lN _ l;have r:=n.dN;refine oh m.dN u 5 1 (fun B x q430 t p k d i b f=>?_) fun L D=>?_;obtain⟨G,H⟩:=q430;dsimp only at k d b f i;simp only[d,a,b,nt];refine cU (eO2) fun J=>?_;refine Ob (lA (by first|omega|(simp only[zJ2]at *;omega)) g) fun K y=>?_;exact .mk ⟨f,by dsimp only;omega⟩;exact .mk ⟨e,by dsimp only;omega⟩;refine Ob (qF1 (by first|omega|(simp only[zJ2]at *;omega)) g) fun N z=>?_;exact .mk (by omega)
def pK2:fC (mI1 a):=by
 unfold mI1;refine oJ (fun _=>?_);exact bH
def pL2 {a:YL}:fC (mJ1 b a):=by
 unfold mJ1;refine Ob pK2 fun c _=>?_;refine Oi (fun _=>bH) (fun _=>?_);refine Oi (fun _=>bH) (fun _=>?_);have hw:=iL1 (b+(bN ((bN (7*a.fK))-(bN (12*a.nO)))));generalize bN (b+(bN ((bN (7*a.fK))-(bN (12*a.nO)))))=x0 at hw ⊢;refine Ob (P:=fun v=> -9223372036854775808<=v/\v<=7) (lJ (fun x=> -9223372036854775808<=x/\x<=9223372036854775807) (fun x=>(x+9223372036854775808).toNat) (fun x d=>?_) cQ x0 hw (by simp only[cQ];omega)) fun b h1=>?_;refine Oi (fun hc=>?_) (fun hc=>?_)<;>simp only[zD2]at hc;rw[cH (by omega) (by omega)];exact .mk ⟨by omega,by omega⟩;exact .mk (by omega);refine Ob (P:=fun v=>True) (lJ (fun x=> -9223372036854775808<=x/\x<=7) (fun x=>(7-x).toNat) (fun x d=>?_) cQ b h1 (by simp only[cQ];omega)) fun a _=>bH;refine Oi (fun hc=>?_) (fun hc=>?_)<;>simp only[zD2]at hc;rw[cH (by omega) (by omega)];exact .mk ⟨by omega,by omega⟩;exact bH
def pM2 {i:YK} (g:o.sm) (f:i.s'.sm):fC (mK1 p o i):=by
 unfold mK1 cT;refine cU (aN1 g) fun⟨x,y⟩=>?_;refine oN (fun _=>?_) fun A k=>?_;refine cU (wQ) fun z=>?_;exact bH;have h:=f.bQ;refine vF (l:=i.s'.bQ) (fun q=>q.2) (fun m j q450 e d b a c=>?_) fun w=>?_;obtain⟨r,s⟩:=q450;dsimp only at d b a c;simp only[b,a,nt];have n:=f.lN _ e;refine cU ?_ fun v=>?_;refine Oi (fun c454=>?_) (fun c454=>?_);refine cU (pL2) fun⟨t,u⟩=>?_;exact bH;exact bH;exact .mk c;exact bH
def qG1 {i:aA YV} (q:i.length+12<=1000000) (d:l.sm):Ok (Dc i l u) (fun v=>i.length<=v.length/\v.length<=i.length+12):=by
 unfold Dc cT;have j:=d.aE;refine oh l.aE i 12 1 (fun o m q467 k g f b e a c=>?_) fun t p=>?_;obtain⟨w,x⟩:=q467;dsimp only at f b a c e;simp only[b,a,nt];have h:=d.cK _ g;refine cU (pM2 h d) fun r=>?_;refine Ob (lA (by first|omega|(simp only[zJ2]at *;omega)) d) fun s n=>?_;exact .mk ⟨c,by dsimp only;omega⟩;exact .mk (by omega)
def eQ2 {a:aA YV} {d:Y0} (e:a.length+12<=1000000) (b:d.sm):Ok (gA1 a d f) (fun v=>a.length<=v.length/\v.length<=a.length+12):=by
 unfold gA1;refine Ob (qG1 (by first|omega|(simp only[zJ2]at *;omega)) b) fun g c=>?_;exact .mk (by omega)
def As:fC (vE a b):=by
 unfold vE;refine oJ (fun _=>?_);exact bH
def iM1 {h:aA Int} (d:h.length<=20):fC (Rg h):=by
 unfold Rg cT;have g:=d;refine vF (l:=h) (fun q=>q) (fun j i m f e b a c=>?_) fun k=>?_;simp only[b,a,nt];refine oJ (fun _=>?_);exact .mk c;rcases k with n|_;exact bH;exact bH
def eR2:fC (gB1 a):=by
 unfold gB1;exact bH
def pN2:fC (mL1 a):=by
 unfold mL1;refine oJ (fun _=>?_);exact bH
def pO2 {c:YE} (d:c.sm):Ok (mM1 c) (fun v=>v.sm):=by
 unfold mM1;refine oN (fun _=>?_) fun f a=>?_;refine cU (eR2) fun e=>?_;exact bH;refine Oi (fun c490=>?_) (fun c490=>?_);exact .mk (by first|assumption|exact⟨aB3 _,aB3 _,aB3 _,fun _ h=>nomatch h⟩);have b:=a c490;refine cU ?_ fun g=>?_;refine oJ (fun _=>?_);exact bH;refine cU ?_ fun j=>?_;refine Oi (fun c495=>?_) (fun c495=>?_);refine cU (pN2) fun i=>?_;exact bH;exact bH;exact .mk (by first|assumption|exact⟨aB3 _,aB3 _,aB3 _,fun _ h=>nomatch h⟩)
def pP2 {m n:aA YB} (d:m.length<=12) (e:n.length<=12):fC (Zx m n):=by
 unfold Zx cT;refine oJ (fun _=>?_);have j:=d;refine vF (l:=m) (fun q=>q) (fun p o s g f b a c=>?_) fun r=>?_;simp only[b,a,nt];have k:=e;refine Ob (P:=fun x=>x∈n) (dM (by omega) (by(simp only[nm]at *;omega)) (fun _ h _=>h)) fun t i=>?_;refine oJ (fun _=>?_);exact .mk c;rcases r with _|_;exact bH;exact bH
def pQ2 {m n:aA YD} (d:m.length<=12) (e:n.length<=12):fC (Zy m n):=by
 unfold Zy cT;refine oJ (fun _=>?_);have j:=d;refine vF (l:=m) (fun q=>q) (fun p o s g f b a c=>?_) fun r=>?_;simp only[b,a,nt];have k:=e;refine Ob (P:=fun x=>x∈n) (dM (by omega) (by(simp only[nm]at *;omega)) (fun _ h _=>h)) fun t i=>?_;refine oJ (fun _=>?_);exact .mk c;rcases r with _|_;exact bH;exact bH
def pR2 {i j:aA YY} (k:i.length<=12) (f:∀y∈i,y.sm) (m:j.length<=12) (g:∀y∈j,y.sm):fC (Zz i j):=by
 unfold Zz cT;refine oJ (fun _=>?_);have o:=k;refine vF (l:=i) (fun q=>q) (fun s r w c n b a e=>?_) fun v=>?_;simp only[b,a,nt];have t:=f _ c;have p:=m;refine Ob (P:=fun x=>x∈j) (dM (by omega) (by(simp only[nm]at *;omega)) (fun _ h _=>h)) fun z d=>?_;have u:=g _ d;refine oJ (fun _=>?_);exact .mk e;rcases v with _|_;exact bH;exact bH
def pS2 {i j:YE} (a:i.sm) (b:j.sm):fC (aA1 i j):=by
 unfold aA1;refine oM (fun _=>?_) fun l c=>?_;refine cU (pP2 a.gO b.gO) fun k=>?_;exact bH;refine oM (fun c551=>?_) fun n d=>?_;have g:=c c551;refine cU (pQ2 a.hZ b.hZ) fun m=>?_;exact bH;refine oM (fun c555=>?_) fun p f=>?_;have e:=d c555;have h:=c e;refine cU (pR2 a.eD a.zB b.eD b.zB) fun o=>?_;exact bH;exact bH
def eS2 {a:YA}:Ok (gC1 a) (fun v=>v=0-> -1<=a.Log/\a.Log<=8/\0<=a.wS/\a.wS<=3):=by
 unfold gC1;refine Oi (fun c559=>.mk (by omega)) (fun c559=>?_);exact .mk (by(simp only[nm]at *;omega))
def pT2:fC (mN1):=by
 unfold mN1;exact bH
def eT2 {a:YH} (c:0<=a.tY/\a.tY<=6):fC (gD1 a):=by
 unfold gD1;refine cU (pT2) fun d=>?_;refine Ob (dM (Q:=fun _=>True) (by omega) (by(simp only[nm,nl]at *;omega)) (fun _ _ _=>trivial)) fun e b=>?_;exact bH
def pU2 {a:YH}:Ok (mO1 a) (fun v=>v=0->0<=a.tY/\a.tY<=6):=by
 unfold mO1;refine Oi (fun c562=>.mk (by omega)) (fun c562=>?_);refine cU (eT2 (by(simp only[nm]at *;omega))) fun b=>?_;refine Oi (fun c564=>.mk (by omega)) (fun c564=>?_);exact .mk (by(simp only[nm]at *;omega))
def T99 {b:YH}:fC (F99 b):=by
 unfold F99;refine Ob (pU2) fun c a=>?_;refine oJ (fun _=>?_);refine cU (eT2 (by(simp only[nm]at *;omega))) fun d=>?_;exact bH
def vT1 {a:YH}:fC (aB1 a):=by
 unfold aB1;refine cU (T99) fun⟨b,c⟩=>?_;refine oJ (fun _=>?_);exact bH
def pV2 {a:YB}:fC (mP1 a):=by
 unfold mP1;refine cU (vT1) fun⟨b,c⟩=>?_;refine cU (As) fun d=>?_;refine cU (iM1 (by simp)) fun e=>?_;exact bH
def pW2 {h:aA YB} (e:h.length<=12):fC (mQ1 h):=by
 unfold mQ1 cT;refine oJ (fun _=>?_);refine oJ (fun _=>?_);have g:=e;refine vF (l:=h) (fun q=>q.2) (fun k j q585 f d b a c=>?_) fun i=>?_;obtain⟨p,r⟩:=q585;dsimp only at d b a c;simp only[b,a,nt];refine cU (pV2) fun s=>?_;refine oJ (fun _=>?_);refine cU (vT1) fun⟨m,n⟩=>?_;refine oJ (fun _=>?_);exact .mk c;rcases i with o|_;exact bH;exact bH
def pX2 {h:aA YD} (d:h.length<=12):fC (mR1 h):=by
 unfold mR1 cT;refine oJ (fun _=>?_);have g:=d;refine vF (l:=h) (fun q=>q) (fun k j m f e b a c=>?_) fun i=>?_;simp only[b,a,nt];refine cU (vT1) fun⟨n,o⟩=>?_;refine oJ (fun _=>?_);refine oJ (fun _=>?_);exact .mk c;rcases i with p|_;exact bH;exact bH
def pY2 {c:YY} (a:c.sm):fC (mS1 c):=by
 unfold mS1;refine Oi (fun _=>bH) (fun _=>?_);refine Oi (fun _=>bH) (fun _=>?_);have hs:=a.qE;refine Ob (P:=fun _=>True) (mX (fun q=>q) (c.qE.size:Int) (fun _=>True) (by omega) (by decide) trivial (fun i _ h1 h2=>?_)) fun r _=>?_;refine Oi (fun hc=>?_) (fun _=>bH);simp only[zD2]at hc;refine Ob (Ar h1 hc) fun b _=>?_;refine Ob (P:=fun _=>True) (Oi (fun _=>bH) (fun _=>Ob (Ar h1 hc) fun b _=>bH)) fun b _=>?_;exact Oi (fun _=>bH) (fun _=>.mk ⟨hc,h2 hc,trivial⟩);rcases r with _|_;exact bH;exact Oi (fun _=>bH) (fun _=>bH)
def pZ2 {a:YY} (b:a.sm):fC (mT1 a):=by
 unfold mT1;exact bH
def qA2 {m:aA YY} (g:m.length<=12) (a:∀y∈m,y.sm):fC (mU1 m):=by
 unfold mU1 cT;refine oJ (fun _=>?_);have o:=g;refine vF (l:=m) (fun q=>q) (fun s r z d n c b f=>?_) fun w=>?_;simp only[c,b,nt];have j:=a _ d;refine cU (pY2 j) fun A=>?_;refine oJ (fun _=>?_);exact .mk f;rcases w with B|_;exact bH;refine oM (fun _=>?_) fun v i=>?_;have p:=g;refine Ob (P:=fun x=>x∈m) (dM (by(simp only[nm]at *;rw[cH (by omega) (by omega)];omega)) (by(simp only[nm]at *;rw[cH (by omega) (by omega)];omega)) (fun _ h _=>h)) fun C e=>?_;have k:=a _ e;refine cU (pZ2 k) fun u=>?_;exact bH;refine Oi (fun c628=>?_) (fun c628=>?_);have t:=i c628;exact bH;exact bH
def aO1 {f:YE} (a:f.sm):fC (Lw f):=by
 unfold Lw;refine cU (As) fun w=>?_;refine cU (As) fun x=>?_;refine cU (iM1 (by simp)) fun y=>?_;refine oJ (fun _=>?_);refine cU (eR2) fun z=>?_;refine oJ (fun _=>?_);refine Ob (pO2 a) fun A b=>?_;refine cU (pS2 a b) fun B=>?_;refine oJ (fun _=>?_);refine oM (fun _=>?_) fun D c=>?_;refine Ob (eS2) fun C d=>?_;exact bH;refine Oi (fun c642=>?_) (fun c642=>?_);have e:=c c642;exact bH;refine Oi (fun c644=>?_) (fun c644=>?_);refine cU (pW2 a.gO) fun g=>?_;refine cU (pX2 a.hZ) fun h=>?_;refine cU (qA2 a.eD a.zB) fun i=>?_;refine cU (iM1 (by simp)) fun j=>?_;refine oJ (fun _=>?_);refine cU (As) fun k=>?_;refine cU (As) fun l=>?_;refine cU (As) fun m=>?_;refine cU (As) fun n=>?_;refine cU (As) fun o=>?_;refine cU (iM1 (by simp)) fun p=>?_;exact bH;refine cU (As) fun q=>?_;refine cU (As) fun r=>?_;refine cU (As) fun s=>?_;refine cU (As) fun t=>?_;refine cU (As) fun u=>?_;refine cU (iM1 (by simp)) fun v=>?_;exact bH
def qB2 {b:YE} (a:b.sm):fC (mV1 b):=by
 unfold mV1;refine cU (aO1 a) fun c=>?_;exact bH
def qC2 {g:aA YE} (h:g.length<=20) (e:∀y∈g,y.sm):fC (mW1 g):=by
 unfold mW1 cT;have j:=h;refine vF (l:=g) (fun q=>q) (fun m k o c i b a d=>?_) fun n=>?_;simp only[b,a,nt];have f:=e _ c;refine cU (qB2 f) fun p=>?_;refine oJ (fun _=>?_);exact .mk d;rcases n with r|_;exact bH;exact bH
def T94 {c:aA YE} (b:c.length<=20) (a:∀y∈c,y.sm):fC (F94 c):=by
 unfold F94;refine cU (qC2 b a) fun d=>?_;exact bH
def qD2 {d:YO} (b:d.sm):fC (mX1 d):=by
 unfold mX1;refine oM (fun _=>?_) fun i e=>?_;have c:=b.aU;refine Ob (P:=fun x=>x∈d.aU) (dM (by omega) (by(simp only[nm]at *;omega)) (fun _ h _=>h)) fun g a=>?_;have f:=b.gS _ a;exact bH;exact bH
def qE2 {b:YA} (c: -1<=b.Log/\b.Log<=8/\0<=b.wS/\b.wS<=3):fC (mY1 b):=by
 unfold mY1;refine Ob (yY (by rw[cH (by omega) (by omega)];omega)) fun n _=>?_;refine Ob (P:=fun _=>True) (mX (fun q=>q.2.2) b.wS (fun _=>True) (by omega) (by dsimp only;omega) trivial (fun q _ h1 h2=>?_)) fun r _=>bH;obtain⟨a,n,i⟩:=q;dsimp only at h1 h2 ⊢;refine Oi (fun hc=>?_) (fun _=>bH);simp only[zD2]at hc;exact Ob (yX (by decide)) fun x _=>.mk ⟨hc,h2 hc,trivial⟩
def qF2 {b:YA}:fC (mZ1 b):=by
 unfold mZ1;refine Ob (eS2) fun c a=>?_;refine oJ (fun _=>?_);refine cU (qE2 (by(simp only[nm]at *;omega))) fun d=>?_;exact bH
def qG2 {b:YE} (a:b.sm):fC (nA1 b):=by
 unfold nA1;refine cU (aO1 a) fun c=>?_;refine oJ (fun _=>?_);refine cU (qF2) fun⟨d,e⟩=>?_;exact bH
def qH2 {c:aA YE} (h:c.length<=20) (d:∀y∈c,y.sm):Ok (nB1 c) (fun v=>v.length<=20):=by
 unfold nB1 cT;refine Ob (yZ (by omega) (by omega) (by omega)) fun o h2=>?_;refine Ob (P:=fun v=>v.length=c.length) (cY (l:=c) (fun q=>q.1) (fun _ q=>q.2.length=c.length) (by omega) rfl (by rw[h2];simp) (fun i e q n g hi hl f hg hw=>?_) (fun q hi f=>?_)) fun v hv=>.mk (by omega);obtain⟨x,l⟩:=q;dsimp only at hi hl f hg hw;simp only[hl,hg,nt];refine Ob (qG2 (d e g)) fun⟨a,b⟩ _=>?_;refine Ob (kW (by omega) (by omega)) fun j k=>?_;refine Ob (Mp (by omega)) fun m g=>.mk ⟨hw,by dsimp only;omega⟩;obtain⟨x,l⟩:=q;dsimp only at hi f;simp only[hi,nf];exact .mk f
def eU2:Ok (gF1 a) (fun v=>v=true->1<=a/\a<=32):=by
 unfold gF1;exact .mk (by(simp only[nm]at *;omega))
def qI2 {a b:YU}:fC (nC1 a b):=by
 unfold nC1;refine Oi (fun c690=>?_) (fun c690=>?_);refine oJ (fun _=>?_);exact bH;refine Oi (fun c692=>?_) (fun c692=>?_);refine oJ (fun _=>?_);exact bH;exact bH
def qH1 {a:YU}:Ok (Uc a) (fun v=>v=bN (a.kQ+a.fJ)):=by
 unfold Uc;exact .mk (by rfl)
def eV2 {k:YU} {a:aA YU} (g:a.length<=6) (i:a.length<=3):Ok (Xb k a) (fun v=>v.2.length<=3):=by
 unfold Xb;refine Ob (P:=fun v=>v.length<=3) (lJ (fun l=>l.length<=3) (fun l=>l.length) (fun l hl=>?_) cQ a i (by simp only[cQ];omega)) fun x d=>?_;refine Ob (P:=fun r=>r=true->0<l.length) (Oi (fun hc=>?_) (fun _=>.mk (fun h=>by cases h))) fun b hb=>?_;simp only[zD2]at hc;refine Ob (kW (by rw[cH (by omega) (by omega)];omega) (by rw[cH (by omega) (by omega)];omega)) fun j c=>?_;exact Ob (nZ c.2) fun y _=>Ob qH1 fun e _=>.mk (fun _=>by omega);refine Oi (fun hc=>?_) (fun _=>.mk hl);have:=hb hc;refine Ob (Jw this (by rw[cH (by omega) (by omega)];omega) (by rw[cH (by omega) (by omega)];omega)) fun m f=>?_;have:=f.1;rw[cH (by omega) (by omega)]at this;exact .mk ⟨by omega,by omega⟩;refine Ob (P:=fun r=>r=true\/x.length<3) (Oi (fun hc=>.mk (.inl rfl)) (fun hc=>?_)) fun b hb=>?_;have hc:x.length<3:=by simp only[bH3]at hc;omega
 refine Ob (P:=fun _=>True) (Oi (fun hd=>?_) (fun _=>bH)) fun b _=>.mk (.inr hc);simp only[zD2]at hd;refine Ob qH1 fun e _=>?_;refine Ob (kW (by rw[cH (by omega) (by omega)];omega) (by rw[cH (by omega) (by omega)];omega)) fun j c=>?_;exact Ob (nZ c.2) fun y _=>Ob qH1 fun e _=>bH;refine Oi (fun _=>.mk d) (fun hc=>?_);have hb:x.length<3:=by rcases hb with h|h;exact absurd h hc;exact h
 refine Ob (jU (Q:=fun v=>v.length=x.length+1) (by omega) (by simp)) fun m f=>.mk (by dsimp only;omega)
def qJ2 {f:aA YU} (z:f.length<=6):Ok (nD1 f c) (fun v=>v=0->∀t∈f,t.ok c):=by
 unfold nD1 cT;refine Oi (fun _=>.mk (fun h=>by cases h)) (fun n=>?_);refine Oi (fun _=>.mk (fun h=>by cases h)) (fun _=>?_);simp only[zN2,zD2,bR3]at n;refine Ob (P:=fun r=>match r with|.inl p=>p.1≠0|.inr _=>∀t∈f,t.ok c) (cY (l:=f) (fun q=>q.1) (fun i q=>q.2.length<=3/\∀j,j<i->∀t,f[j]? =some t->t.ok c) (by omega) rfl ⟨by decide,fun j k=>by omega⟩ (fun i e q A w hi hl d hg hw=>?_) (fun q hi d=>?_)) fun v hv=>?_;obtain⟨x,l⟩:=q;dsimp only at hi hl d hg hw;simp only[hl,hg,nt];refine Ob (P:=fun r=>r=false->(1<=e.fJ/\e.fJ<=c/\0<=e.kQ/\e.kQ+e.fJ<=c/\1<=e.hY/\e.hY<=32)) (Oi (fun _=>.mk (fun h=>by cases h)) (fun hc=>?_)) fun b1 h1=>?_;simp only[zN2,zD2,bR3]at hc;rw[cH (by omega) (by omega)]at hc;refine Ob eU2 fun r hr=>.mk (fun h=>?_);have:=hr (by simpa using h);omega;refine Ob (P:=fun r=>r=false->e.ok c) (Oi (fun hc=>.mk (fun h=>by cases h)) (fun hc=>?_)) fun b2 h2=>?_;refine Ob eU2 fun r hr=>.mk (fun h=>?_);have:=hr (by simpa using h);have:=h1 (by simpa using hc);unfold YU.ok;omega;refine Oi (fun _=>.mk (show(2:Int)≠0 by decide)) (fun hc=>?_);have u:e.ok c:=h2 (by simp only[zN2,bR3,bA3]at hc;exact hc.1);refine Ob (P:=fun _=>True) (Oi (fun hd=>?_) (fun _=>bH)) fun b3 _=>?_;simp only[zD2]at hd;have:=gR hg;refine Ob (dM (Q:=fun _=>True) (by rw[cH (by omega) (by omega)];omega) (by rw[cH (by omega) (by omega)];omega) (fun _ _ _=>trivial)) fun y _=>?_;exact Ob qI2 fun o _=>bH;refine Oi (fun _=>.mk (show(25:Int)≠0 by decide)) (fun _=>?_);refine Ob (eV2 (zX2 d.1 (by decide)) d.1) fun⟨a,m⟩ w=>?_;refine Oi (fun _=>.mk (show(21:Int)≠0 by decide)) (fun _=>.mk ⟨hw,w,fun j k t g=>?_⟩);by_cases s:j=i;subst s;rw[A]at g;cases g;exact u;exact d.2 j (by omega) t g;obtain⟨x,l⟩:=q;dsimp only at hi d;simp only[hi,nf];refine .mk (fun t g=>?_);obtain⟨j,k⟩:=zL2.1 g;exact d.2 j (yT2.1 k).1 t k;rcases v with⟨a,b⟩|b;exact .mk (fun h=>absurd h hv);exact .mk (fun _=>hv)
def qK2 {a:YU}:fC (nE1 a b):=by
 unfold nE1;exact bH
def qL2 (j:0<e/\0<c/\c<9223372036854775808):Ok (nF1 e c) (fun v=>0<v/\v∣e/\v∣c):=by
 unfold nF1;refine Ob (P:=fun v=>0<v/\v∣e/\v∣c) (lJ (fun q=>0<q.1/\0<=q.2/\∀d:Int,d∣q.1->d∣q.2->d∣e/\d∣c) (fun q=>q.2.toNat) (fun q i=>?_) cQ (e,c) ⟨j.1,by dsimp only;omega,fun d h1 h2=>⟨h1,h2⟩⟩ (by simp only[cQ];omega)) fun v hv=>.mk hv;obtain⟨a,b⟩:=q;obtain⟨h1,h2,g⟩:=i;dsimp only at h1 h2 g;refine Oi (fun hc=>?_) (fun hc=>?_)<;>simp only[zD2]at hc;refine Ob (Mo (by omega)) fun n hn=>?_;have h:n=a%b:=by rw[hn,Int.tmod_eq_emod_of_nonneg (by omega)]
 have e2:=Int.emod_nonneg a (by omega:b≠0);have k:=Int.emod_lt_of_pos a hc;refine .mk ⟨⟨hc,by dsimp only;omega,fun d d1 f=>g d ?_ d1⟩,by dsimp only;omega⟩;dsimp only at d1 f;rw[h]at f;have:=Int.emod_add_mul_ediv a b;rw[<-this];exact Int.dvd_add f (Int.dvd_trans d1 (Int.dvd_mul_right b _));have:b=0:=by omega
 subst this;exact .mk ⟨h1,g a (Int.dvd_refl a) (Int.dvd_zero a)⟩
def qM2 {o:aA YU} (u:o.length<=6) (B:∀t∈o,1<=t.hY/\t.hY<=32/\1<=t.iW/\t.iW<=32):Ok (nG1 o G) (fun v=>1<=v.2):=by
 unfold nG1 cT;refine Ob (P:=fun v=>1<=v.2) (cY (l:=o) (fun q=>q.2.2) (fun i q=>1<=q.1/\q.1<=32^i/\1<=q.2.1/\q.2.1<=32^i) (by omega) rfl ⟨by decide,by decide,by decide,by decide⟩ (fun i e q C y hi hl f hg hw=>?_) (fun q hi f=>?_)) fun v hv=>.mk hv;obtain⟨a,b,x⟩:=q;dsimp only at hi hl f hg hw;simp only[hl,hg,nt];have j:=B e y;refine Ob qK2 fun c _=>?_;have w:i<=5:=by omega
 have z:(32:Int)^i<=33554432:=by
  have:i=0\/i=1\/i=2\/i=3\/i=4\/i=5:=by omega
  rcases this with rfl|rfl|rfl|rfl|rfl|rfl<;>decide
 have A:(32:Int)^(i+1)=32^i*32:=Int.pow_succ 32 i;refine Ob (P:=fun v=>1<=v.1/\v.1<=32^(i+1)/\1<=v.2/\v.2<=32^(i+1)) (Oi (fun _=>?_) (fun _=>?_)) fun⟨v1,v2⟩ hv=>.mk ⟨hw,hv⟩;have E:1<=a*e.iW:=Int.le_trans (by decide) (cP3 f.1 j.2.2.1 (by decide) (by omega));have F:a*e.iW<=32^i*32:=cP3 f.2.1 j.2.2.2 (by omega) (by omega);have d1:1<=b*e.hY:=Int.le_trans (by decide) (cP3 f.2.2.1 j.1 (by decide) (by omega));have s:b*e.hY<=32^i*32:=cP3 f.2.2.2 j.2.1 (by omega) (by omega);rw[cH (n:=a*e.iW) (by omega) (by omega),cH (n:=b*e.hY) (by omega) (by omega)];generalize a*e.iW=N at E F ⊢;generalize b*e.hY=D at d1 s ⊢;refine Ob (qL2 ⟨by omega,by omega,by omega⟩) fun g hg=>?_;obtain⟨H,⟨k,rfl⟩,⟨m,rfl⟩⟩:=hg
 have J:1<=k:=by
  rcases Int.lt_or_le k 1 with h|h;have:=Int.mul_nonneg (a:=g) (b:= -k) (by omega) (by omega);rw[Int.mul_neg]at this;omega;exact h
 have L:1<=m:=by
  rcases Int.lt_or_le m 1 with h|h;have:=Int.mul_nonneg (a:=g) (b:= -m) (by omega) (by omega);rw[Int.mul_neg]at this;omega;exact h
 have K:k<=g*k:=by
  have:=cP3 (a:=1) (b:=k) (c:=g) (d:=k) (by omega) (bV3 k) (by omega) (by omega);omega
 have M:m<=g*m:=by
  have:=cP3 (a:=1) (b:=m) (c:=g) (d:=m) (by omega) (bV3 m) (by omega) (by omega);omega
 refine Ob (yX (by omega)) fun q1 p=>?_;refine Ob (yX (by omega)) fun q2 r=>?_;rw[Int.mul_tdiv_cancel_left k (by omega),show IntKind.wrap .i64 k=bN k from rfl,cH (by omega) (by omega)]at p;rw[Int.mul_tdiv_cancel_left m (by omega),show IntKind.wrap .i64 m=bN m from rfl,cH (by omega) (by omega)]at r;exact .mk ⟨by dsimp only;omega,by dsimp only;omega,by dsimp only;omega,by dsimp only;omega⟩;exact .mk ⟨f.1,by dsimp only;omega,f.2.2.1,by dsimp only;omega⟩;obtain⟨a,b,x⟩:=q;dsimp only at hi f;simp only[hi,nf];exact .mk f.2.2.1
def eW2 {c:aA YU} (b:c.length<=6) (h:∀t∈c,1<=t.hY/\t.hY<=32/\1<=t.iW/\t.iW<=32):fC (gG1 c f g):=by
 unfold gG1;refine oJ (fun _=>?_);refine Ob (qM2 b (by omega)) fun⟨i,j⟩ a=>?_
 try dsimp only at a
 refine Ob (Mo (by omega)) fun k d=>?_;refine oJ (fun _=>?_);refine Ob (yX (by omega)) fun l e=>?_;exact bH
def eX2 {k:aA YU} {f:aA Int} (d:k.length<=6) (j:f.length<=20):Ok (gH1 k f) (fun v=>v.1.length<=20/\(v.2=0->∀t∈k,t.ok f.length)):=by
 unfold gH1 cT;refine Ob (qJ2 d) fun c hc=>?_;refine Oi (fun hd=>.mk ⟨aB3 _,fun h=>absurd h (by simpa using hd)⟩) (fun hd=>?_);have n:=hc (by simpa using hd);refine Ob (yZ (by decide) (by omega) (by omega)) fun w o=>?_;refine Ob (P:=fun r=>match r with|.inl p=>p.1≠0|.inr l=>l.length<=f.length) (cY (l:=f) (fun q=>q.1) (fun i q=>q.2.length<=i) (by omega) rfl (by rw[o];decide) (fun i e q u s hi hl g hg hw=>?_) (fun q hi g=>?_)) fun v hv=>?_;obtain⟨x,l⟩:=q;dsimp only at hi hl g hg hw;simp only[hl,hg,nt];refine Ob (eW2 d (fun t h=>by have:=n t h;unfold YU.ok at this;omega)) fun⟨a,b⟩ _=>?_;refine Oi (fun hb=>.mk (by simpa using hb)) (fun _=>?_);exact Ob (jU (Q:=fun v=>v.length=l.length+1) (by omega) (by simp)) fun m s=>.mk ⟨hw,by dsimp only;omega⟩;obtain⟨x,l⟩:=q;dsimp only at hi g;simp only[hi,nf];exact .mk g;rcases v with⟨a,b⟩|b;exact .mk ⟨aB3 _,fun h=>absurd h hv⟩;exact .mk ⟨zX2 hv j,fun _=>n⟩
def qN2 {c:aA YU} {g:aA Int} (m:c.length<=6) (o:g.length<=20) (k:0<=f/\f<(c.length:Int)) (hy:∀t∈c,t.ok g.length):fC (nH1 c f g):=by
 unfold nH1;refine Ob (dM (Q:=fun x=>x∈c) k.1 k.2 (fun _ h _=>h)) fun j d=>?_;have p:=hy j d;unfold YU.ok at p;refine Ob (P:=fun _=>True) (mX (fun q=>q.2) (j.kQ+j.fJ) (fun _=>True) (by omega) (by dsimp only;omega) trivial (fun q _ h1 h2=>?_)) fun r _=>?_;obtain⟨s,i⟩:=q;dsimp only at h1 h2 ⊢;refine Ob qH1 fun e he=>?_;rw[cH (by omega) (by omega)]at he;subst he;refine Oi (fun hc=>?_) (fun _=>bH);simp only[zD2]at hc;refine Ob (Jv (by rw[cH (by omega) (by omega)];omega) (by rw[cH (by omega) (by omega)];omega) (by omega)) fun l hl=>?_;refine Ob (dM (Q:=fun _=>True) (by omega) (by omega) (fun _ _ _=>trivial)) fun y _=>?_;refine Ob (eW2 (by omega) (fun t h=>by have:=hy t (hl.2 t h);unfold YU.ok at this;omega)) fun⟨a,b⟩ _=>?_;exact Oi (fun _=>bH) (fun _=>.mk ⟨hc,h2 hc,trivial⟩);rcases r with a|a;exact bH;refine Ob (P:=fun _=>True) (mX (fun q=>q) 9 (fun _=>True) (by decide) (by decide) trivial (fun q _ h1 h2=>?_)) fun r _=>?_;refine Oi (fun hc=>?_) (fun _=>bH);simp only[zD2]at hc;refine Ob (yY (by rw[cH (by omega) (by omega)];omega)) fun n _=>?_;exact Oi (fun _=>bH) (fun _=>.mk ⟨by omega,h2 (by omega),trivial⟩);rcases r with a|a<;>exact bH
def qO2 {h:aA YU} {j:aA Int} (c:h.length<=6) (d:j.length<=20):fC (nI1 h j):=by
 unfold nI1;refine Ob (eX2 c d) fun⟨a,b⟩ f=>?_;dsimp only at f;refine Oi (fun _=>bH) (fun hd=>?_);have o:=f.2 (by simpa using hd);refine Ob (yZ (by decide) (by omega) (by omega)) fun r k=>?_;refine Ob (P:=fun _=>True) (cY (l:=h) (fun q=>q.1) (fun i q=>q.2.length<=i) (by omega) rfl (by rw[k];decide) (fun i e q p n hi hl g hg hw=>?_) (fun q hi g=>?_)) fun v hv=>?_;obtain⟨x,l⟩:=q;dsimp only at hi hl g hg hw;simp only[hl,nt];refine Ob (qN2 c d ⟨by omega,hl⟩ o) fun⟨a,b⟩ _=>?_;refine Oi (fun hb=>bH) (fun _=>?_);exact Ob (jU (Q:=fun v=>v.length=l.length+1) (by omega) (by simp)) fun m n=>.mk ⟨hw,by dsimp only;omega⟩;obtain⟨x,l⟩:=q;dsimp only at hi g;simp only[hi,nf];exact bH;rcases v with a|b<;>exact bH
def qP2 {k:YO} (a:k.sm):Ok (nJ1 k) (fun v=>v.1.length<=20):=by
 unfold nJ1 cT;have j:=a.aU;refine vF (l:=k.aU) (fun q=>q) (fun n m u e i d c f=>?_) fun t=>?_;simp only[d,c,nt];have h:=a.gS _ e;refine cU (aO1 h) fun w=>?_;refine oJ (fun _=>?_);refine oJ (fun _=>?_);exact .mk f;rcases t with x|_;exact .mk (by(simp only[nm,nl]at *;omega));refine Ob (qH2 a.aU a.gS) fun y b=>?_;refine Ob (eX2 a.fO b) fun⟨o,p⟩ g=>?_
 try dsimp only at g
 refine Oi (fun c716=>?_) (fun c716=>?_);exact .mk (by(simp only[nm,nl]at *;omega));refine cU (qO2 a.fO b) fun⟨r,s⟩=>?_;refine Oi (fun c718=>?_) (fun c718=>?_);exact .mk (by(simp only[nm,nl]at *;omega));exact .mk (by(simp only[nm]at *;omega))
def qQ2 {f:YO} (a:f.sm):Ok (nK1 f g) (fun v=>v.1.length<=20):=by
 unfold nK1;refine Oi (fun c719=>?_) (fun c719=>?_);exact .mk (by(simp only[nm,nl]at *;omega));refine Oi (fun c720=>?_) (fun c720=>?_);exact .mk (by(simp only[nm,nl]at *;omega));refine cU (qD2 a) fun i=>?_;refine Oi (fun c722=>?_) (fun c722=>?_);have e:=a.aU;refine Ob (P:=fun x=>x∈f.aU) (dM (by omega) (by(simp only[nm]at *;omega)) (fun _ h _=>h)) fun j b=>?_;have d:=a.gS _ b;refine cU (aO1 d) fun k=>?_;refine Oi (fun c728=>?_) (fun c728=>?_);exact .mk (by(simp only[nm,nl]at *;omega));refine Oi (fun c729=>?_) (fun c729=>?_);exact .mk (by(simp only[nm,nl]at *;omega));exact .mk (by(simp only[nm,nl]at *;omega));refine Ob (qP2 a) fun⟨l,m⟩ c=>?_
 try dsimp only at c
 exact .mk (by omega)
def qR2 {h:aA Int} (e:h.length<=20):fC (nL1 h):=by
 unfold nL1 cT;have g:=e;refine vF (l:=h) (fun q=>q.2) (fun j i q741 f d b a c=>?_) fun n=>?_;obtain⟨k,m⟩:=q741;dsimp only at d b a c;simp only[b,a,nt];exact .mk c;exact bH
def eY2 {e:YO} (c:e.sm):Ok (gI1 e f) (fun v=>v.1.length<=20):=by
 unfold gI1;refine Ob (qQ2 c) fun⟨g,h⟩ a=>?_
 try dsimp only at a
 refine oM (fun _=>?_) fun j b=>?_;refine cU (qR2 a) fun i=>?_;exact bH;refine cU ?_ fun k=>?_;refine Oi (fun c748=>?_) (fun c748=>?_);have d:=b c748;exact bH;exact bH;refine Oi (fun c750=>?_) (fun c750=>?_);exact .mk (by(simp only[nm,nl]at *;omega));exact .mk (by omega)
def eZ2 {c:YO} (b:c.sm):fC (gJ1 c d):=by
 unfold gJ1;refine Ob (eY2 b) fun⟨e,f⟩ a=>?_
 try dsimp only at a
 exact bH
def fA2:fC (gK1 a):=by
 unfold gK1;exact bH
def qS2 {c:YO} (a:c.sm):fC (nM1 c d):=by
 unfold nM1;refine cU (T94 a.aU a.gS) fun e=>?_;refine oM (fun _=>?_) fun h b=>?_;refine cU (eZ2 a) fun f=>?_;refine cU (fA2) fun g=>?_;exact bH;exact bH
def qT2 {g:aA YO} (h:g.length<=3) (e:∀y∈g,y.sm):fC (nN1 g n):=by
 unfold nN1 cT;have j:=h;refine vF (l:=g) (fun q=>q) (fun m k p c i b a d=>?_) fun o=>?_;simp only[b,a,nt];have f:=e _ c;refine cU (qS2 f) fun r=>?_;refine oJ (fun _=>?_);exact .mk d;rcases o with s|_;exact bH;exact bH
def T92 {c:aA YO} (b:c.length<=3) (a:∀y∈c,y.sm):fC (F92 c d):=by
 unfold F92;refine cU (qT2 b a) fun e=>?_;exact bH
def qU2 {b:YW} (a:b.sm):fC (nO1 b c):=by
 unfold nO1;refine cU (T92 a.aK a.fP) fun d=>?_;exact bH
def qV2 {g:aA YW} (h:g.length<=5) (e:∀y∈g,y.sm):fC (nP1 g n):=by
 unfold nP1 cT;have j:=h;refine vF (l:=g) (fun q=>q) (fun m k p c i b a d=>?_) fun o=>?_;simp only[b,a,nt];have f:=e _ c;refine cU (qU2 f) fun r=>?_;refine oJ (fun _=>?_);exact .mk d;rcases o with s|_;exact bH;exact bH
def qW2 {c:aA YW} (b:c.length<=5) (a:∀y∈c,y.sm):fC (nQ1 c d):=by
 unfold nQ1;refine cU (qV2 b a) fun e=>?_;exact bH
def qX2 {b:YM} (a:b.sm):fC (nR1 c b):=by
 unfold nR1;refine cU (aN1 a) fun⟨d,e⟩=>?_;refine oJ (fun _=>?_);refine cU (qW2 a.aI a.gX) fun f=>?_;exact bH
def qI1 {i:aA YV} (q:i.length+12<=1000000) (d:l.sm):Ok (Dd i l u) (fun v=>i.length<=v.length/\v.length<=i.length+12):=by
 unfold Dd cT;have j:=d.aE;refine oh l.aE i 12 1 (fun o m q802 k g f b e a c=>?_) fun t p=>?_;obtain⟨w,x⟩:=q802;dsimp only at f b a c e;simp only[b,a,nt];have h:=d.cK _ g;refine cU (qX2 h) fun r=>?_;refine Ob (lA (by first|omega|(simp only[zJ2]at *;omega)) d) fun s n=>?_;exact .mk ⟨c,by dsimp only;omega⟩;exact .mk (by omega)
def fB2 {a:aA YV} {d:Y0} (e:a.length+12<=1000000) (b:d.sm):Ok (Xc a d f) (fun v=>a.length<=v.length/\v.length<=a.length+12):=by
 unfold Xc;refine Ob (qI1 (by first|omega|(simp only[zJ2]at *;omega)) b) fun g c=>?_;exact .mk (by omega)
def fC2 {a:aA YV} {d:Y0} (e:a.length+12<=1000000) (b:d.sm):Ok (gM1 a d f) (fun v=>a.length<=v.length/\v.length<=a.length+12):=by
 unfold gM1;refine Ob (fB2 (by first|omega|(simp only[zJ2]at *;omega)) b) fun g c=>?_;exact .mk (by omega)
def qY2:fC (nS1 b):=by
 unfold nS1;refine oM (fun _=>?_) fun d a=>?_;refine cU (fA2) fun c=>?_;exact bH;exact bH
def vU1 {c:YO} (a:c.sm):fC (Lx c d):=by
 unfold Lx;refine cU (T94 a.aU a.gS) fun e=>?_;refine oM (fun _=>?_) fun h b=>?_;refine cU (eZ2 a) fun f=>?_;refine cU (qY2) fun g=>?_;exact bH;exact bH
def vV1 {g:aA YO} (h:g.length<=3) (e:∀y∈g,y.sm):fC (Ly g n):=by
 unfold Ly cT;have j:=h;refine vF (l:=g) (fun q=>q) (fun m k p c i b a d=>?_) fun o=>?_;simp only[b,a,nt];have f:=e _ c;refine cU (vU1 f) fun r=>?_;refine oJ (fun _=>?_);exact .mk d;rcases o with s|_;exact bH;exact bH
def fD2 {c:aA YO} (b:c.length<=3) (a:∀y∈c,y.sm):fC (Xe c d):=by
 unfold Xe;refine cU (vV1 b a) fun e=>?_;exact bH
def vW1 {b:YW} (a:b.sm):fC (Lz b c):=by
 unfold Lz;refine cU (fD2 a.aK a.fP) fun d=>?_;exact bH
def vX1 {g:aA YW} (h:g.length<=5) (e:∀y∈g,y.sm):fC (Ma g n):=by
 unfold Ma cT;have j:=h;refine vF (l:=g) (fun q=>q) (fun m k p c i b a d=>?_) fun o=>?_;simp only[b,a,nt];have f:=e _ c;refine cU (vW1 f) fun r=>?_;refine oJ (fun _=>?_);exact .mk d;rcases o with s|_;exact bH;exact bH
def vY1 {c:aA YW} (b:c.length<=5) (a:∀y∈c,y.sm):fC (Mb c d):=by
 unfold Mb;refine cU (vX1 b a) fun e=>?_;exact bH
def vZ1 {b:YM} (a:b.sm):fC (Mc c b):=by
 unfold Mc;refine cU (aN1 a) fun⟨d,e⟩=>?_;refine oJ (fun _=>?_);refine cU (vY1 a.aI a.gX) fun f=>?_;exact bH
def qJ1 {i:aA YV} (q:i.length+12<=1000000) (d:l.sm):Ok (De i l u) (fun v=>i.length<=v.length/\v.length<=i.length+12):=by
 unfold De cT;have j:=d.aE;refine oh l.aE i 12 1 (fun o m q862 k g f b e a c=>?_) fun t p=>?_;obtain⟨w,x⟩:=q862;dsimp only at f b a c e;simp only[b,a,nt];have h:=d.cK _ g;refine cU (vZ1 h) fun r=>?_;refine Ob (lA (by first|omega|(simp only[zJ2]at *;omega)) d) fun s n=>?_;exact .mk ⟨c,by dsimp only;omega⟩;exact .mk (by omega)
def qK1 {a:aA YV} {d:Y0} (e:a.length+12<=1000000) (b:d.sm):Ok (Df a d f) (fun v=>a.length<=v.length/\v.length<=a.length+12):=by
 unfold Df;refine Ob (qJ1 (by first|omega|(simp only[zJ2]at *;omega)) b) fun g c=>?_;exact .mk (by omega)
def fE2 {a:aA YV} {d:Y0} (e:a.length+12<=1000000) (b:d.sm):Ok (gP1 a d f) (fun v=>a.length<=v.length/\v.length<=a.length+12):=by
 unfold gP1;refine Ob (qK1 (by first|omega|(simp only[zJ2]at *;omega)) b) fun g c=>?_;exact .mk (by omega)
def qZ2 {c:YP} {b:YE} (a:b.sm):fC (nZ1 c b):=by
 unfold nZ1;refine cU (aO1 a) fun d=>?_;exact bH
def fF2 {S:Y0} (d7:H.length+3600<=1000000) (p:S.sm):Ok (Xf H S x3) (fun v=>H.length<=v.length/\v.length<=H.length+3600):=by
 unfold Xf cT;have J:=p.aE;refine oh S.aE H 3600 300 (fun Y D q881 N z u e q a i=>?_) fun d2 d3=>?_;obtain⟨d8,T⟩:=q881;dsimp only at u e a i q;simp only[e,a,nt];have m:=p.cK _ z;have K:=m.aI;refine oh D.aI T 300 60 (fun Z E q895 O A w f r b j=>?_) fun d0 d4=>?_;obtain⟨d9,U⟩:=q895;dsimp only at w f b j r;simp only[f,a,b,nt];have n:=m.gX _ A;have L:=n.aK;refine oh E.aK U 60 20 (fun a0 F q909 P B x g s c k=>?_) fun b9 d5=>?_;obtain⟨e0,V⟩:=q909;dsimp only at x g c k s;simp only[g,a,b,c,nt];have o:=n.fP _ B;have M:=o.aU;refine oh F.aU V 20 1 (fun b0 W q923 R C y h t d l=>?_) fun b8 d6=>?_;obtain⟨b4,b5⟩:=q923;dsimp only at y h d l t;simp only[h,a,b,c,d,nt];have G:=o.gS _ C;refine cU (qZ2 G) fun b6=>?_;refine Ob (lA (by first|omega|(simp only[zJ2]at *;omega)) p) fun b7 X=>?_;exact .mk ⟨l,by dsimp only;omega⟩;exact .mk ⟨k,by dsimp only;omega⟩;exact .mk ⟨j,by dsimp only;omega⟩;exact .mk ⟨i,by dsimp only;omega⟩;exact .mk (by omega)
def fG2 {a:aA YV} {d:Y0} (e:a.length+3600<=1000000) (b:d.sm):Ok (gQ1 a d f) (fun v=>a.length<=v.length/\v.length<=a.length+3600):=by
 unfold gQ1;refine Ob (fF2 (by first|omega|(simp only[zJ2]at *;omega)) b) fun g c=>?_;exact .mk (by omega)
def T62 {c:Y0} (d:c.sm):Ok (F62 c f) (fun v=>v.2.2=0->0<=v.1/\v.1<(c.bQ.length:Int)):=by
 unfold F62 cT;have g:=d.bQ;refine Oi (fun _=>.mk (fun h=>absurd (show(2:Int)=0 from h) (by decide))) (fun _=>?_);refine Ob (P:=fun r=>match r with|.inl p=>0<=p.1/\p.1<(c.bQ.length:Int)|.inr _=>True) (cY (l:=c.bQ) (fun q=>q.2) (fun _ _=>True) (by omega) rfl trivial (fun i e q k j hi hl _ hg hw=>?_) (fun q hi _=>?_)) fun r hr=>?_;obtain⟨s,x⟩:=q;dsimp only at hi hl hg hw;simp only[hl,hg,nt];exact Oi (fun _=>.mk ⟨by dsimp only;omega,hl⟩) (fun _=>.mk ⟨hw,trivial⟩);obtain⟨s,x⟩:=q;dsimp only at hi;simp only[hi,nf];exact bH;rcases r with⟨a,b⟩|_;exact .mk (fun _=>hr);exact .mk (fun h=>absurd (show(2:Int)=0 from h) (by decide))
def fH2 {a:YH}:fC (gR1 a b):=by
 unfold gR1;refine cU (T99) fun⟨c,d⟩=>?_;refine cU (wQ) fun e=>?_;exact bH
def rA2 {a:YB}:fC (oA1 a b):=by
 unfold oA1;refine cU (fH2) fun c=>?_;exact bH
def rB2 {h:aA YB} (d:h.length<=12):fC (oB1 h k):=by
 unfold oB1 cT;have g:=d;refine vF (l:=h) (fun q=>q) (fun j i n f e b a c=>?_) fun m=>?_;simp only[b,a,nt];refine cU (rA2) fun o=>?_;refine oJ (fun _=>?_);exact .mk c;rcases m with p|_;exact bH;exact bH
def rC2 {b:aA YB} (a:b.length<=12):fC (oC1 b c):=by
 unfold oC1;refine cU (rB2 a) fun d=>?_;exact bH
def rD2 {a:YD}:fC (oD1 a b):=by
 unfold oD1;refine cU (fH2) fun c=>?_;exact bH
def rE2 {h:aA YD} (d:h.length<=12):fC (oE1 h k):=by
 unfold oE1 cT;have g:=d;refine vF (l:=h) (fun q=>q) (fun j i n f e b a c=>?_) fun m=>?_;simp only[b,a,nt];refine cU (rD2) fun o=>?_;refine oJ (fun _=>?_);exact .mk c;rcases m with p|_;exact bH;exact bH
def rF2 {b:aA YD} (a:b.length<=12):fC (oF1 b c):=by
 unfold oF1;refine cU (rE2 a) fun d=>?_;exact bH
def rG2 {k:YP} {j:YE} {f:YK} (a:j.sm) (b:f.s'.sm):fC (oG1 k j f):=by
 unfold oG1;refine cU (aO1 a) fun p=>?_;refine oJ (fun _=>?_);refine Ob (T62 b) fun⟨q,r,s⟩ d=>?_
 try dsimp only at d
 refine cU ?_ fun u=>?_;refine Oi (fun c965=>?_) (fun c965=>?_);have e:=b.bQ;refine Ob (P:=fun x=>x∈f.s'.bQ) (dM (by(simp only[nm]at *;omega)) (by(simp only[nm]at *;omega)) (fun _ h _=>h)) fun t c=>?_;have i:=b.lN _ c;exact bH;exact bH;refine cU ?_ fun l=>?_;refine oJ (fun _=>?_);exact bH;refine cU (rC2 a.gO) fun m=>?_;refine oN (fun _=>?_) fun o g=>?_;refine cU (rF2 a.hZ) fun n=>?_;exact bH;exact bH
def qL1 {W:Y0} (d7:H.length+3600<=1000000) (o:W.sm):Ok (Dg H W x3) (fun v=>H.length<=v.length/\v.length<=H.length+3600):=by
 unfold Dg cT;have R:=o.aE;refine oh W.aE H 3600 300 (fun b4 F q987 S C A i y a k=>?_) fun d4 d5=>?_;obtain⟨d8,X⟩:=q987;dsimp only at A i a k y;simp only[i,a,nt];have w:=o.cK _ C;have J:=w.aI;refine oh F.aI X 300 60 (fun b5 G q1001 T D B j z c l=>?_) fun d3 d6=>?_;obtain⟨d9,Y⟩:=q1001;dsimp only at B j c l z;simp only[j,a,c,nt];have m:=w.gX _ D;have K:=m.aK;refine oh G.aK Y 60 20 (fun U x q1015 M t r e p b g=>?_) fun d2 a0=>?_;obtain⟨e0,Z⟩:=q1015;dsimp only at r e b g p;simp only[e,a,c,b,nt];have n:=m.fP _ t;have L:=n.aU;refine oh x.aU Z 20 1 (fun V O q1029 N u s f q d h=>?_) fun d0 b0=>?_;obtain⟨b6,b7⟩:=q1029;dsimp only at s f d h q;simp only[f,a,c,b,d,nt];have E:=n.gS _ u;refine cU (rG2 E o) fun b8=>?_;refine Ob (lA (by first|omega|(simp only[zJ2]at *;omega)) o) fun b9 P=>?_;exact .mk ⟨h,by dsimp only;omega⟩;exact .mk ⟨g,by dsimp only;omega⟩;exact .mk ⟨l,by dsimp only;omega⟩;exact .mk ⟨k,by dsimp only;omega⟩;exact .mk (by omega)
def fI2 {a:aA YV} {d:Y0} (e:a.length+3600<=1000000) (c:d.sm):Ok (gT1 a d f) (fun v=>a.length<=v.length/\v.length<=a.length+3600):=by
 unfold gT1;refine Ob (qL1 (by first|omega|(simp only[zJ2]at *;omega)) c) fun g b=>?_;exact .mk (by omega)
def rH2 {a:YB}:fC (oH1 a):=by
 unfold oH1;exact bH
def wA1 {j:aA YB} (h:j.length<=12):fC (Md j):=by
 unfold Md cT;have f:=h;refine vF (l:=j) (fun q=>q) (fun i g m e d b a c=>?_) fun k=>?_;simp only[b,a,nt];refine cU (rH2) fun n=>?_;refine oJ (fun _=>?_);exact .mk c;rcases k with o|_;exact bH;exact bH
def wB1 {b:aA YB} (a:b.length<=12):fC (Me b):=by
 unfold Me;refine cU (wA1 a) fun c=>?_;exact bH
def fJ2 {c:YE} (b:c.sm):fC (gU1 c):=by
 unfold gU1;refine oM (fun _=>?_) fun e a=>?_;refine cU (wB1 b.gO) fun d=>?_;exact bH;exact bH
def qM1 {b:Y0} (f:b.sm):Ok (Mf b c d e) (fun v=>v.length<=20/\(∀y∈v,y.sm)/\(v=[]\/∃x y z,bE b.aE c=some x/\bE x.aI d=some y/\bE y.aK e=some z/\v=z.aU)):=by
 unfold Mf;refine Ob (P:=fun r=>¬r=true->0<=c/\0<=d/\∃x,bE b.aE c=some x/\d<(x.aI.length:Int)) ?_ fun l j=>?_;refine Oi (fun _=>.mk (fun h=>absurd rfl h)) (fun hc=>?_);simp only[zN2,zD2,bR3]at hc;exact Ok.bindE (dM (Q:=fun _=>True) (by omega) (by omega) (fun _ _ _=>trivial)) fun x a _=>.mk (fun h=>⟨by omega,by omega,x,a,by simp at h;omega⟩);refine Ob (P:=fun r=>¬r=true->∃x y,bE b.aE c=some x/\bE x.aI d=some y/\0<=e/\e<(y.aK.length:Int)) ?_ fun m k=>?_;refine Oi (fun _=>.mk (fun h=>absurd rfl h)) (fun hc=>?_);simp only[zN2,zD2,bR3]at hc;obtain⟨h0,h1,x,a,hs⟩:=j hc.1;rw[a,yU2];exact Ok.bindE (dM (Q:=fun _=>True) h1 hs (fun _ _ _=>trivial)) fun y hy _=>.mk (fun h=>⟨x,y,rfl,hy,by omega,by simp at h;omega⟩);refine Oi (fun _=>.mk ⟨aB3 _,fun _ h=>(cS3 h).elim,.inl rfl⟩) (fun hc=>?_);obtain⟨x,y,a,hy,h0,h1⟩:=k hc;rw[a,yU2,hy,yU2];refine Ok.bindE (dM (Q:=fun _=>True) h0 h1 (fun _ _ _=>trivial)) fun z g _=>?_;have i:=((f.cK x (gR a).2.2.1).gX y (gR hy).2.2.1).fP z (gR g).2.2.1;exact .mk ⟨i.aU,i.gS,.inr ⟨x,y,z,rfl,hy,g,rfl⟩⟩
def fK2 {c:Y0} {a:YP} (d:c.sm):Ok (gV1 c a) (fun r=>r=0->a.eM=4/\0<=a.pI/\∃l,Mf c a.bV a.eW a.fU=some l/\a.pI<(l.length:Int)):=by
 unfold gV1;refine Oi (fun _=>.mk (fun h=>by cases h)) (fun hk=>?_);refine Ob (P:=fun r=>¬r=true->0<=a.pI/\∃l,Mf c a.bV a.eW a.fU=some l/\a.pI<(l.length:Int)) (Oi (fun _=>.mk (fun h=>absurd rfl h)) (fun hc=>?_)) fun b hb=>?_;exact Ok.bindE (qM1 d) fun l hl _=>.mk (fun h=>⟨by simpa using hc,l,hl,by simpa using h⟩);exact Oi (fun _=>.mk (fun h=>by cases h)) (fun hc=>.mk (fun _=>⟨by simpa using hk,hb hc⟩))
def fL2:Ok (gW1 a b c d) (fun v=>v.bV=a):=by
 unfold gW1;exact .mk (by rfl)
def fM2 {d:Y0} {e:YP} (b:d.sm):Ok (gX1 d e) (fun v=>v.2=true->0<=e.bV/\e.bV<(d.aE.length:Int)/\0<=v.1.bV/\v.1.bV<(d.aE.length:Int)):=by
 unfold gX1;refine Ob (fK2 b) fun c hc=>?_;refine Oi (fun _=>.mk (fun h=>by cases h)) (fun hd=>?_);obtain⟨hk,h0,l,hl,j⟩:=hc (by simpa using hd);have i:=(qM1 b).of hl
 have f:0<=e.bV/\e.bV<(d.aE.length:Int):=by
  rcases i.2.2 with h|⟨x,y,z,hx,_⟩
  rw[h,zJ2]at j;omega;have:=gR hx;exact⟨this.1,this.2.1⟩
 rw[hl,yU2];refine Oi (fun _=>?_) (fun _=>?_);exact Ob fL2 fun a g=>.mk (fun _=>⟨f.1,f.2,by dsimp only;omega,by dsimp only;omega⟩);refine Ob (qM1 b) fun k h2=>?_;refine Oi (fun hc=>?_) (fun _=>.mk (fun h=>by cases h));refine Ob fL2 fun a g=>.mk (fun _=>?_);dsimp only at g ⊢;rcases h2.2.2 with h|⟨x,y,z,hx,_⟩
 rw[h]at hc;simp at hc;have:=gR hx;rw[g];exact⟨f.1,f.2,this.1,this.2.1⟩
def rI2 {b:YE} (a:b.sm):Ok (Ud b) (fun v=>v.sm):=by
 unfold Ud;rw[iD (zX2 a.gO (by decide)),iD (zX2 a.hZ (by decide)),iD (zX2 a.eD (by decide))];exact .mk ⟨a.gO,a.hZ,a.eD,a.zB⟩
def rJ2 {f:Y0} {g:YP} (a:f.sm):Ok (oK1 f g) (fun v=>v.1.sm):=by
 unfold oK1;refine Ob (fK2 a) fun c hc=>?_;refine Oi (fun _=>.mk ⟨aB3 _,aB3 _,aB3 _,fun _ h=>(cS3 h).elim⟩) (fun hd=>?_);obtain⟨hk,h0,l,hl,d⟩:=hc (by simpa using hd);have b:=(qM1 a).of hl;rw[hl,yU2];exact Ob (dM (Q:=fun x=>x.sm) h0 d (fun x e _=>b.2.1 x e)) fun x e=>Ob (rI2 e) fun y hy=>.mk hy
def rK2 {a b:YB}:fC (oL1 a b):=by
 unfold oL1;exact bH
def wC1 {j:aA YB} {k:YB} (h:j.length<=12):fC (Mg j k):=by
 unfold Mg cT;have f:=h;refine vF (l:=j) (fun q=>q) (fun i g n e d b a c=>?_) fun m=>?_;simp only[b,a,nt];refine cU (rK2) fun o=>?_;refine oJ (fun _=>?_);exact .mk c;rcases m with p|_;exact bH;exact bH
def wD1 {b:aA YB} {c:YB} (a:b.length<=12):fC (Mh b c):=by
 unfold Mh;refine cU (wC1 a) fun d=>?_;exact bH
def rL2 {o r:YE} (j:o.sm) (k:r.sm):fC (oO1 o r):=by
 unfold oO1 cT;refine oJ (fun _=>?_);have g:=j.gO;refine vF (l:=o.gO) (fun q=>q) (fun m h u f e b a c=>?_) fun p=>?_;simp only[b,a,nt];refine oM (fun _=>?_) fun t d=>?_;refine oM (fun _=>?_) fun s i=>?_;refine cU (wD1 k.gO) fun v=>?_;exact bH;exact bH;refine Oi (fun c1083=>?_) (fun c1083=>?_);have n:=d c1083;exact bH;exact .mk c;rcases p with _|_;exact bH;exact bH
def rM2 {h:YP} {f:YE} {g:YK} (c:f.sm) (d:g.s'.sm):fC (oP1 h f g):=by
 unfold oP1;refine cU (fJ2 c) fun j=>?_;refine oJ (fun _=>?_);refine Ob (fM2 d) fun⟨k,l⟩ b=>?_
 try dsimp only at b
 refine Ob (rJ2 d) fun⟨m,n⟩ a=>?_
 try dsimp only at a
 refine oN (fun _=>?_) fun i e=>?_;refine cU (rL2 c a) fun o=>?_;exact bH;exact bH
def qN1 (d7:H.length+3600<=1000000) (p:Y.sm):Ok (Dh H Y x3) (fun v=>H.length<=v.length/\v.length<=H.length+3600):=by
 unfold Dh cT;have J:=p.aE;refine oh Y.aE H 3600 300 (fun U D q1103 N z u e q a i=>?_) fun d6 b4=>?_;obtain⟨d8,Z⟩:=q1103;dsimp only at u e a i q;simp only[e,a,nt];have m:=p.cK _ z;have K:=m.aI;refine oh D.aI Z 300 60 (fun V E q1117 O A w f r b j=>?_) fun d5 b5=>?_;obtain⟨d9,a0⟩:=q1117;dsimp only at w f b j r;simp only[f,a,b,nt];have n:=m.gX _ A;have L:=n.aK;refine oh E.aK a0 60 20 (fun W F q1131 P B x g s c k=>?_) fun d4 b6=>?_;obtain⟨e0,b0⟩:=q1131;dsimp only at x g c k s;simp only[g,a,b,c,nt];have o:=n.fP _ B;have M:=o.aU;refine oh F.aU b0 20 1 (fun X S q1145 R C y h t d l=>?_) fun d3 b7=>?_;obtain⟨b8,b9⟩:=q1145;dsimp only at y h d l t;simp only[h,a,b,c,d,nt];have G:=o.gS _ C;refine cU (rM2 G p) fun d0=>?_;refine Ob (lA (by first|omega|(simp only[zJ2]at *;omega)) p) fun d2 T=>?_;exact .mk ⟨l,by dsimp only;omega⟩;exact .mk ⟨k,by dsimp only;omega⟩;exact .mk ⟨j,by dsimp only;omega⟩;exact .mk ⟨i,by dsimp only;omega⟩;exact .mk (by omega)
def fN2 {a:aA YV} {d:Y0} (e:a.length+3600<=1000000) (c:d.sm):Ok (gZ1 a d f) (fun v=>a.length<=v.length/\v.length<=a.length+3600):=by
 unfold gZ1;refine Ob (qN1 (by first|omega|(simp only[zJ2]at *;omega)) c) fun g b=>?_;exact .mk (by omega)
def rN2 {a:YE} (d:a.sm) (e:0<=c):Ok (oQ1 a c) (fun v=>v=false->c<(a.eD.length:Int)):=by
 unfold oQ1;refine Ob (P:=fun r=>r=false->c<(a.eD.length:Int)) (Oi (fun _=>.mk (fun h=>by cases h)) (fun hc=>?_)) fun b hb=>.mk hb;simp only[zD2]at hc;exact Ob (dM (Q:=fun _=>True) e (by omega) (fun _ _ _=>trivial)) fun y _=>.mk (fun _=>by omega)
def fO2 {o v:Int} {E:aA (YP×Bool)} {A:aA YV} {F:Int} (B:A.length+0<=1000000) (d:s.sm) (D:0<=o) (hy:0<=p) (t:0<=v):fC (Xh o p v E A s F):=by
 unfold Xh cT;have H:=d.aE;refine Ob (P:=fun _=>True) (cY (l:=s.aE) (fun q=>q.1) (fun _ _=>True) (by omega) rfl trivial (fun i e q _ g hi hl _ hg hw=>?_) (fun q hi _=>?_)) fun⟨a1,a2,a3,a4,a5,a6,a7⟩ _=>?_;obtain⟨x,k,st,m,n,ev,y,l⟩:=q;dsimp only at hi hl hg hw;simp only[hl,hg,nt];refine Ob (P:=fun r=>¬r=true->∃y,bE e.aI o=some y/\p<(y.aK.length:Int)) (Oi (fun _=>.mk (fun h=>absurd rfl h)) (fun hc=>?_)) fun b hb=>?_;simp only[zD2]at hc;exact Ok.bindE (dM (Q:=fun _=>True) D (by omega) (fun _ _ _=>trivial)) fun y hy _=>.mk (fun h=>⟨y,hy,by simpa using h⟩);refine Oi (fun _=>.mk ⟨hw,trivial⟩) (fun hc=>?_);obtain⟨c,f,hv⟩:=hb hc;rw[f,yU2];refine Ok.bindE (dM (Q:=fun _=>True) hy hv (fun _ _ _=>trivial)) fun z j _=>?_;have u:=((d.cK e g).gX c (gR f).2.2.1).fP z (gR j).2.2.1;have G:=u.aU;refine Ob (P:=fun _=>True) (cY (l:=z.aU) (fun q=>q.1) (fun _ _=>True) (by omega) rfl trivial (fun i e q _ g hi hl _ hg hw=>?_) (fun q hi _=>?_)) fun⟨a1,a2,a3,a4,a5,a6,a7⟩ _=>.mk ⟨hw,trivial⟩;obtain⟨x,k,st,m,n,ev,y,l⟩:=q;dsimp only at hi hl hg hw;simp only[hl,hg,nt];refine Ob (rN2 (u.gS e g) t) fun a C=>?_;refine Oi (fun _=>.mk ⟨hw,trivial⟩) (fun hc=>?_);refine Ob (dM (Q:=fun _=>True) t (C (by simpa using hc)) (fun _ _ _=>trivial)) fun w _=>?_;refine Ob (P:=fun _=>True) (Oi (fun _=>bH) (fun _=>bH)) fun _ _=>?_;exact Ob (P:=fun _=>True) (Oi (fun _=>bH) (fun _=>bH)) fun _ _=>.mk ⟨hw,trivial⟩;obtain⟨x,k,st,m,n,ev,y,l⟩:=q;dsimp only at hi;simp only[hi,nf];exact bH;obtain⟨x,k,st,m,n,ev,y,l⟩:=q;dsimp only at hi;simp only[hi,nf];exact bH;exact Ob (P:=fun _=>True) (Oi (fun _=>bH) (fun _=>bH)) fun _ _=>bH
def rO2 {c:YP} {a:YE} {d:aA (YP×Bool)} (b:a.sm):fC (oR1 c a d):=by
 unfold oR1;exact bH
def qO1 {x1:aA (YP×Bool)} {x4:Int} (d7:H.length+3600<=1000000) (F:Y.sm):Ok (Di x1 H Y x4) (fun v=>H.length<=v.length/\v.length<=H.length+3600):=by
 unfold Di cT;have J:=F.aE;refine oh Y.aE H 3600 300 (fun U C q1162 N y t e p a i=>?_) fun d6 b4=>?_;obtain⟨d8,Z⟩:=q1162;dsimp only at t e a i p;simp only[e,a,nt];have m:=F.cK _ y;have K:=m.aI;refine oh C.aI Z 300 60 (fun V D q1176 O z u f q b j=>?_) fun d5 b5=>?_;obtain⟨d9,a0⟩:=q1176;dsimp only at u f b j q;simp only[f,a,b,nt];have n:=m.gX _ z;have L:=n.aK;refine oh D.aK a0 60 20 (fun W E q1190 P A w g r c k=>?_) fun d4 b6=>?_;obtain⟨e0,b0⟩:=q1190;dsimp only at w g c k r;simp only[g,a,b,c,nt];have o:=n.fP _ A;have M:=o.aU;refine oh E.aU b0 20 1 (fun X S q1204 R B x h s d l=>?_) fun d3 b7=>?_;obtain⟨b8,b9⟩:=q1204;dsimp only at x h d l s;simp only[h,a,b,c,d,nt];have G:=o.gS _ B;refine cU (rO2 G) fun d0=>?_;refine Ob (lA (by first|omega|(simp only[zJ2]at *;omega)) F) fun d2 T=>?_;exact .mk ⟨l,by dsimp only;omega⟩;exact .mk ⟨k,by dsimp only;omega⟩;exact .mk ⟨j,by dsimp only;omega⟩;exact .mk ⟨i,by dsimp only;omega⟩;exact .mk (by omega)
def fP2 {b:aA YV} {f:Y0} (g:b.length+3600<=1000000) (a:f.sm):Ok (hB1 b f h) (fun v=>b.length<=v.length/\v.length<=b.length+3600):=by
 unfold hB1;refine Ob (T32 a) fun n hn=>?_;refine Ob (P:=fun _=>True) (mX (fun q=>q.1) n (fun _=>True) hn (by decide) trivial (fun q _ h1 h2=>?_)) fun m _=>?_;obtain⟨x,l⟩:=q;dsimp only at h1 h2 ⊢;refine Oi (fun hc=>?_) (fun _=>bH);simp only[zD2]at hc;refine Ob (P:=fun _=>True) (mX (fun q=>q.1) 2 (fun _=>True) (by decide) (by dsimp only;omega) trivial (fun q _ c g2=>?_)) fun m _=>.mk ⟨hc,h2 hc,trivial⟩;obtain⟨y,l⟩:=q;dsimp only at c g2 ⊢;refine Oi (fun hd=>?_) (fun _=>bH);simp only[zD2]at hd;refine Ob (P:=fun _=>True) (mX (fun q=>q.1) 4 (fun _=>True) (by decide) (by dsimp only;omega) trivial (fun q _ d e=>?_)) fun m _=>.mk ⟨hd,g2 hd,trivial⟩;obtain⟨z,l⟩:=q;dsimp only at d e ⊢;refine Oi (fun he=>?_) (fun _=>bH);simp only[zD2]at he;exact Ob (fO2 (by omega) a h1 c d) fun m _=>.mk ⟨he,e he,trivial⟩;exact Ob (qO1 (by omega) a) fun v hv=>.mk (by omega)
def wE1 {a:Y0} (b:a.sm):fC (Mi a):=by
 unfold Mi;exact bH
def qP1 {c:YJ} {l:Bool} {a:YP} {b:YZ} (d:c.sm):fC (Dj e f g h i j k c l a b):=by
 unfold Dj;refine oJ (fun _=>?_);exact bH
def aP1 {j:YF} {k:Bool} {a:YP} {b:YZ}:fC (uS c d e f g h i j k a b):=by
 unfold uS;refine oJ (fun _=>?_);exact bH
def aQ1 {c:YM} {l:Bool} {a:YP} {b:YZ} (d:c.sm):fC (uT e f g h i j k c l a b):=by
 unfold uT;refine oJ (fun _=>?_);exact bH
def aR1 {c:YE} {l:Bool} {a:YP} {b:YZ} (d:c.sm):fC (uU e f g h i j k c l a b):=by
 unfold uU;refine oJ (fun _=>?_);exact bH
def aS1 {j:YN} {k:Bool} {a:YP} {b:YZ}:fC (uW c d e f g h i j k a b):=by
 unfold uW;refine oJ (fun _=>?_);exact bH
def wF1 {m:Y0} {Y:Bool} {Z:YP} {x4:YZ} (g:m.sm):Ok (Mj m Y Z x4) (fun v=>match v with|.inl p=>p.eM=4->0<=p.pI/\m.pl p.bV p.eW p.fU|.inr _=>True):=by
 unfold Mj cT;have hP:=g.bQ;have hM:=g.aE;have V:=g.bD;refine Ob (P:=fun r=>match r with|.inl p=>p.1≠4|.inr _=>True) (cY (l:=m.bQ) (fun q=>q.2) (fun _ _=>True) (by omega) rfl trivial (fun i e q E C hi hl _ hg hw=>?_) (fun q hi _=>?_)) fun r hr=>?_;obtain⟨s,x⟩:=q;dsimp only at hi hl hg hw;simp only[hl,hg,nt];refine Ob (qP1 (g.lN e C)) fun r _=>?_;rcases r with _|_;exact .mk (show(1:Int)≠4 by decide);have V:=(g.lN e C).dN;refine Ob (P:=fun _=>True) (cY (l:=e.dN) (fun q=>q.2) (fun _ _=>True) (by omega) rfl trivial (fun i2 e2 q X W G B _ o D=>?_) (fun q hi _=>?_)) fun r _=>?_;obtain⟨s,y⟩:=q;dsimp only at G B o D;simp only[B,o,nt];refine Ob aP1 fun r _=>?_;rcases r with _|_;exact bH;exact .mk ⟨D,trivial⟩;obtain⟨s,y⟩:=q;dsimp only at hi;simp only[hi,nf];exact bH;rcases r with⟨a,b⟩|a;exact .mk (show(2:Int)≠4 by decide);exact .mk ⟨hw,trivial⟩;obtain⟨s,y⟩:=q;dsimp only at hi;simp only[hi,nf];exact bH;rcases r with⟨k,p,st⟩|_;exact .mk (fun h=>absurd h hr);refine Ob (P:=fun r=>match r with|.inl p=>p.1=4->0<=p.2.2.2.2/\m.pl p.2.2.1 p.2.1 p.2.2.2.1|.inr _=>True) (cY (l:=m.aE) (fun q=>q) (fun _ _=>True) (by omega) rfl trivial (fun i e q E C hi hl _ hg hw=>?_) (fun q hi _=>?_)) fun r hr=>?_;simp only[hl,hg,nt];have S:=g.cK e C;have hC:=S.aI;refine Ob (aQ1 S) fun r _=>?_;rcases r with _|_;exact .mk (fun h=>absurd (show(3:Int)=4 from h) (by decide));refine Ob (P:=fun r=>match r with|.inl p=>0<=p.2.2/\m.pl q p.1 p.2.1|.inr _=>True) (cY (l:=e.aI) (fun q=>q) (fun _ _=>True) (by omega) rfl trivial (fun j c w E K hj hlc _ z N=>?_) (fun q hi _=>?_)) fun r hr=>?_;simp only[hlc,z,nt];have T:=S.gX c K;have hV:=T.aK;refine Ob (P:=fun r=>match r with|.inl p=>0<=p.2/\m.pl q w p.1|.inr _=>True) (cY (l:=c.aK) (fun q=>q) (fun _ _=>True) (by omega) rfl trivial (fun k v u E M hk J _ A R=>?_) (fun q hi _=>?_)) fun r hr=>?_;simp only[J,A,nt];have U:=T.fP v M;have hE:=U.aU;refine Ob (P:=fun r=>match r with|.inl x=>0<=x|.inr _=>True) (cY (l:=v.aU) (fun q=>q) (fun _ _=>True) (by omega) rfl trivial (fun n ev t E L ht H _ F O=>?_) (fun q hi _=>?_)) fun r hr=>?_;simp only[H,F,nt];refine Ob (aR1 (U.gS ev L)) fun r _=>?_;rcases r with _|_;exact .mk (show(0:Int)<=t by omega);exact .mk ⟨O,trivial⟩;simp only[hi,nf];exact bH;rcases r with x|_;exact .mk ⟨hr,e,c,v,hg,z,A⟩;exact .mk ⟨R,trivial⟩;simp only[hi,nf];exact bH;rcases r with⟨a,b⟩|_;exact .mk hr;exact .mk ⟨N,trivial⟩;simp only[hi,nf];exact bH;rcases r with⟨a,b,c⟩|_;exact .mk (fun _=>hr);exact .mk ⟨hw,trivial⟩;simp only[hi,nf];exact bH;rcases r with⟨a,b,c,d,f⟩|_;exact .mk hr;refine Ob (P:=fun _=>True) (cY (l:=m.bD) (fun q=>q) (fun _ _=>True) (by omega) rfl trivial (fun i e q E C hi hl _ hg hw=>?_) (fun q hi _=>?_)) fun r hr=>?_;simp only[hl,hg,nt];refine Ob aS1 fun r _=>?_;rcases r with _|_;exact bH;exact .mk ⟨hw,trivial⟩;simp only[hi,nf];exact bH;rcases r with x|_;exact .mk (fun h=>absurd (show(5:Int)=4 from h) (by decide));exact bH
def T13 {x2:YZ} (a:x1.sm):Ok (F13 x1 x2) (fun v=>v.2=true->v.1.eM=4->0<=v.1.pI/\x1.pl v.1.bV v.1.eW v.1.fU):=by
 unfold F13;refine Oi (fun _=>.mk (fun h=>by cases h)) (fun _=>?_);refine Ob (wE1 a) fun _ _=>?_;refine Ob (wF1 a) fun r hr=>?_;rcases r with p|_;exact .mk (fun _=>hr);exact .mk (fun h=>by cases h)
def rP2 {a:aA Int} (c:a.length<=20):fC (oU1 a):=by
 unfold oU1;refine Ob (yZ (by omega) (by omega) (by omega)) fun h h2=>?_;refine Ob (P:=fun v=>v.length=a.length) (mX (fun q=>q.1) (a.length:Int) (fun q=>q.2.length=a.length) (by omega) (by dsimp only;omega) (by rw[h2];simp) (fun q b h1 h2=>?_)) fun v hv=>bH;obtain⟨i,l⟩:=q;dsimp only at b h1 h2 ⊢;refine Oi (fun hc=>?_) (fun _=>.mk b);simp only[zD2]at hc;rw[cH (n:=i-1) (by omega) (by omega)];refine Ob (kW (by omega) (by omega)) fun j e=>?_;refine Ob (nZ (by omega)) fun x _=>?_;refine Ob (dM (Q:=fun _=>True) (by omega) (by omega) (fun _ _ _=>trivial)) fun y _=>?_;refine Ob (kW (by omega) (by omega)) fun g d=>?_;exact Ob (Mp (by omega)) fun m f=>.mk ⟨hc,h2 hc,by dsimp only;omega⟩
def rQ2 {c:YO} (b:c.sm):fC (oV1 c d):=by
 unfold oV1;refine Ob (eY2 b) fun⟨e,f⟩ a=>?_
 try dsimp only at a
 refine oJ (fun _=>?_);refine cU (rP2 a) fun g=>?_;exact bH
def fQ2 {i:YK} {k:YZ} (c:i.s'.sm):fC (hF1 i k):=by
 unfold hF1;refine Ob (T13 c) fun⟨p,f⟩ hp=>?_;dsimp only at hp;refine Oi (fun _=>bH) (fun hc=>?_);simp only[zN2,bR3,zK2,Bool.not_eq_false,bne_iff_ne,ne_eq,Decidable.not_not]at hc;obtain⟨h0,x,y,z,d,hy,g⟩:=hp hc.1 hc.2;simp only[d,hy,g,yU2];have h:=c.cK x (gR d).2.2.1;have j:=(h.gX y (gR hy).2.2.1).fP z (gR g).2.2.1;refine Ob (aN1 h) fun⟨a,b⟩ _=>?_;refine Ob (rQ2 j) fun⟨on,e⟩ _=>?_;refine Oi (fun _=>bH) (fun hd=>?_);simp only[zD2]at hd;exact Ob (dM (Q:=fun _=>True) h0 (by dsimp only at hd ⊢;omega) (fun _ _ _=>trivial)) fun w _=>bH
def qQ1:fC (Ui a b):=by
 unfold Ui;exact bH
def fR2 {g:YQ}:fC (hG1 g):=by
 unfold hG1;refine cU (qQ1) fun h=>?_;refine oM (fun _=>?_) fun j a=>?_;refine cU (qQ1) fun i=>?_;exact bH;refine oM (fun c1222=>?_) fun l b=>?_;have e:=a c1222;refine cU (qQ1) fun k=>?_;exact bH;refine oM (fun c1226=>?_) fun n d=>?_;have c:=b c1226;have f:=a c;refine cU (qQ1) fun m=>?_;exact bH;exact bH
def fS2:fC (hH1 a):=by
 unfold hH1;exact bH
def T55:fC (F55 a):=by
 unfold F55;exact bH
def T24:fC (F24 a b):=by
 unfold F24;refine cU (T55) fun c=>?_;refine cU (T55) fun d=>?_;refine Oi (fun c1232=>?_) (fun c1232=>?_);refine oJ (fun _=>?_);exact bH;refine oJ (fun _=>?_);refine oJ (fun _=>?_);refine oJ (fun _=>?_);exact bH
def T23 {j:aA Int} (h:j.length<=20):fC (F23 j):=by
 unfold F23 cT;have f:=h;refine vF (l:=j) (fun q=>q) (fun i g m e d b a c=>?_) fun k=>?_;simp only[b,a,nt];refine oJ (fun _=>?_);exact .mk c;rcases k with n|_;exact bH;exact bH
def Up {a b:YQ}:fC (Hl a b):=by
 unfold Hl;refine cU (T24) fun c=>?_;refine cU (T24) fun d=>?_;refine cU (T23 (by simp)) fun e=>?_;exact bH
def rR2 {e:YS}:fC (oW1 e):=by
 unfold oW1;refine oJ (fun _=>?_);refine cU (fR2) fun f=>?_;refine oN (fun _=>?_) fun h a=>?_;refine cU (fR2) fun g=>?_;exact bH;refine oJ (fun c1257=>?_);have c:=a c1257;refine oN (fun _=>?_) fun j b=>?_;refine cU (fS2) fun i=>?_;exact bH;refine oJ (fun c1262=>?_);have d:=b c1262;refine cU (Up) fun k=>?_;refine oJ (fun _=>?_);exact bH
def tD1 {h:aA YV} {d:Y0} (j:h.length+0<=1000000) (c:d.sm):Ok (Ri h d k) (fun v=>v.1.length=d.bD.length/\v.2.length=d.bD.length):=by
 unfold Ri cT;have o:=c.bD;refine Ob (P:=fun v=>v.1.length=d.bD.length/\v.2.length=d.bD.length) (cY (l:=d.bD) (fun q=>q.1) (fun i q=>q.2.1.length=i/\q.2.2.length=i) (by omega) rfl ⟨rfl,rfl⟩ (fun i e q r p hi hl f hg hw=>?_) (fun q hi f=>?_)) fun⟨a,b⟩ hv=>.mk hv;obtain⟨x,bs,g⟩:=q;dsimp only at hi hl f hg hw;simp only[hl,hg,nt];refine Ob (fQ2 c) fun⟨p1,m⟩ _=>?_;refine Ob (fQ2 c) fun⟨p2,n⟩ _=>?_;refine Ob (jU (Q:=fun v=>v.length=g.length+1) (by omega) (by simp)) fun s h1=>?_;refine Ob (P:=fun _=>True) (Oi (fun _=>bH) (fun _=>Ob rR2 fun _ _=>bH)) fun b _=>?_;exact Ob (jU (Q:=fun v=>v.length=bs.length+1) (by omega) (by simp)) fun t h2=>.mk ⟨hw,by dsimp only;omega,by dsimp only;omega⟩;obtain⟨x,bs,g⟩:=q;dsimp only at hi f;simp only[hi,nf];exact .mk f
def fT2 {c:aA YV} {h:Y0} (k:c.length+10<=1000000) (d:h.sm):Ok (hK1 c h n) (fun v=>c.length<=v.length/\v.length<=c.length+10):=by
 unfold hK1 cT;have o:=d.bD;refine Ob (tD1 (by omega) d) fun⟨a,b⟩ g=>?_;dsimp only at g;refine Ob (P:=fun v=>c.length<=v.length/\v.length<=c.length+10) (cY (l:=h.bD) (fun q=>q.1) (fun i q=>c.length<=q.2.length/\q.2.length<=c.length+i) (by omega) rfl (by dsimp only;omega) (fun i e q r p hi hl f hg hw=>?_) (fun q hi f=>?_)) fun v hv=>.mk (by omega);obtain⟨x,l⟩:=q;dsimp only at hi hl f hg hw;simp only[hl,hg,nt];refine Ob (kW (by omega) (by omega)) fun j m=>?_;refine Ob (nZ m.2) fun y _=>?_;exact Ob (lA (by omega) d) fun v hv=>.mk ⟨hw,by dsimp only;omega⟩;obtain⟨x,l⟩:=q;dsimp only at hi f;simp only[hi,nf];exact .mk (by omega)
def wG1:Ok (aC1 b) (fun v=>v>0->1<=b/\b<=7):=by
 unfold aC1;refine Oi (fun c1266=>.mk (by omega)) (fun c1266=>?_);refine Ob (dM (Q:=fun _=>True) (by(simp only[nm]at *;rw[cH (by omega) (by omega)];omega)) (by(simp only[nm,nl]at *;rw[cH (by omega) (by omega)];omega)) (fun _ _ _=>trivial)) fun c a=>?_;exact .mk (by(simp only[nm]at *;omega))
def rS2 {a c:YS}:Ok (oX1 a c) (fun v=>v=true->1<=a.eM/\a.eM<=7):=by
 unfold oX1;refine Ob wG1 fun f hf=>?_;refine Ob (P:=fun r=>r=true->1<=a.eM/\a.eM<=7) (Oi (fun hc=>?_) (fun _=>.mk (fun h=>by cases h))) fun b hb=>?_;simp only[zD2]at hc;have:=hf hc;exact Ob wG1 fun _ _=>Ob wG1 fun _ _=>.mk (fun _=>this);refine Ob (P:=fun r=>r=true->1<=a.eM/\a.eM<=7) (Oi (fun hc=>?_) (fun _=>.mk (fun h=>by cases h))) fun b hb=>.mk hb;simp only[yS2]at hc;have:=hb hc.1;exact Ob fS2 fun _ _=>.mk (fun _=>this)
def rT2 {b c:YS}:fC (oY1 b c):=by
 unfold oY1;refine cU (Up) fun d=>?_;refine oN (fun _=>?_) fun f a=>?_;refine cU (Up) fun e=>?_;exact bH;exact bH
def wH1 {a b:YS}:fC (aD1 a b):=by
 unfold aD1;refine cU (rT2) fun c=>?_;exact bH
def fU2 {b c:YS}:fC (hQ1 b c):=by
 unfold hQ1;refine cU (Up) fun d=>?_;refine oN (fun _=>?_) fun f a=>?_;refine cU (Up) fun e=>?_;exact bH;exact bH
def wI1 {a b:YS}:fC (aE1 a b):=by
 unfold aE1;refine cU (fU2) fun c=>?_;exact bH
def fV2 {b c:YS}:fC (hS1 b c):=by
 unfold hS1;refine cU (Up) fun d=>?_;refine oM (fun _=>?_) fun f a=>?_;refine cU (Up) fun e=>?_;exact bH;exact bH
def rU2 {b c:YS}:fC (oZ1 b c):=by
 unfold oZ1;refine cU (fU2) fun d=>?_;refine oM (fun _=>?_) fun g a=>?_;refine cU (fV2) fun e=>?_;refine cU (fV2) fun f=>?_;exact bH;exact bH
def rV2 {a f:YS}:fC (pA1 a f):=by
 unfold pA1;refine Ob rS2 fun g hg=>?_;refine Oi (fun _=>bH) (fun hc=>?_);have hk:=hg (by simpa using hc);rw[cH (n:=a.eM-1) (by omega) (by omega)];refine Oi (fun _=>Ob wH1 fun _ _=>bH) (fun e=>?_);refine Oi (fun _=>Ob wI1 fun _ _=>bH) (fun d=>?_);refine Oi (fun _=>Ob wH1 fun _ _=>bH) (fun c=>?_);refine Oi (fun _=>Ob wH1 fun _ _=>bH) (fun b=>?_);refine Oi (fun _=>Ob wI1 fun _ _=>bH) (fun h2=>?_);refine Oi (fun _=>Ob wI1 fun _ _=>bH) (fun h1=>?_);refine Oi (fun _=>Ob rU2 fun _ _=>bH) (fun h0=>?_);simp only[bH3]at h0 h1 h2 b c d e;omega
def fW2 {c:aA YV} {o:Y0} {s:Int} (p:c.length+10<=1000000) (d:o.sm):Ok (hT1 c o s) (fun v=>c.length<=v.length/\v.length<=c.length+10):=by
 unfold hT1 cT;have t:=d.bD;refine Ob (tD1 (by omega) d) fun⟨a,b⟩ m=>?_;dsimp only at m;refine Ob (P:=fun v=>c.length<=v.length/\v.length<=c.length+10) (cY (l:=o.bD) (fun q=>q.1) (fun i q=>c.length<=q.2.length/\q.2.length<=c.length+i) (by omega) rfl (by dsimp only;omega) (fun i e q w u hi hl g hg hw=>?_) (fun q hi g=>?_)) fun v hv=>.mk (by omega);obtain⟨x,l⟩:=q;dsimp only at hi hl g hg hw;simp only[hl,hg,nt];refine Ob (P:=fun _=>True) (mX (fun q=>q.2) x (fun _=>True) (by omega) (by dsimp only;omega) trivial (fun q _ h1 h2=>?_)) fun b _=>?_;obtain⟨ex,k⟩:=q;dsimp only at h1 h2 ⊢;refine Ob (P:=fun r=>r=true->k<x) (Oi (fun hc=>?_) (fun _=>.mk (fun h=>by cases h))) fun b hb=>?_;simp only[zD2]at hc;exact Ob (kW (by omega) (by omega)) fun j f=>Ob (nZ f.2) fun y _=>.mk (fun _=>hc);refine Oi (fun hc=>?_) (fun _=>bH);simp only[yS2]at hc;have hk:=hb hc.1;refine Ob (kW (by omega) (by omega)) fun j f=>Ob (nZ f.2) fun y _=>?_;refine Ob (P:=fun _=>True) (Oi (fun _=>?_) (fun _=>bH)) fun b _=>.mk ⟨hk,h2 hk,trivial⟩;exact Ob (kW (by omega) (by omega)) fun j f=>Ob (nZ f.2) fun A _=>Ob (kW (by omega) (by omega)) fun z n=>Ob (nZ n.2) fun B _=>Ob rV2 fun b _=>bH;exact Ob (lA (by omega) d) fun v hv=>.mk ⟨hw,by dsimp only;omega⟩;obtain⟨x,l⟩:=q;dsimp only at hi g;simp only[hi,nf];exact .mk (by omega)
def rW2 {a:YM} (c:a.sm):Ok (pB1 d a) (fun v=>v=false->a.bL<=8):=by
 unfold pB1;simp only[qC1,yU2];refine Ob (P:=fun r=>r=false->a.bL<=8) (Oi (fun hc=>.mk (fun h=>?_)) (fun hc=>.mk (fun _=>?_))) fun b hb=>?_;simp at h;omega;simp at hc;omega;exact Ob (P:=fun r=>r=false->a.bL<=8) (Oi (fun hc=>.mk (fun h=>by cases h)) (fun hc=>.mk (fun _=>hb (by simpa using hc)))) fun b hb=>.mk hb
def qR1 {a:aA YV} {d:Y0} {s:Int} (p:a.length+12<=1000000) (f:d.sm):Ok (Dk a d s) (fun v=>(a.length<=v.length/\v.length<=a.length+12)/\(v.length<=a.length->∀m∈d.aE,m.bL<=8)):=by
 unfold Dk cT;have t:=f.aE;refine Ob (P:=fun v=>(a.length<=v.length/\v.length<=a.length+12)/\(v.length<=a.length->∀m∈d.aE,m.bL<=8)) (cY (l:=d.aE) (fun q=>q.1) (fun i q=>q.2.length<=a.length+i/\a.length<=q.2.length/\(q.2.length<=a.length->∀j,j<i->∀m,d.aE[j]? =some m->m.bL<=8)) (by omega) rfl ⟨by dsimp only;omega,yX2 _,fun _ j k=>by omega⟩ (fun i e q r o hi hl g hg hw=>?_) (fun q hi g=>?_)) fun v hv=>.mk hv;obtain⟨x,l⟩:=q;dsimp only at hi hl g hg hw;simp only[hl,hg,nt];refine Ob (rW2 (f.cK e o)) fun b hb=>?_;refine Ob (aI1 (by omega)) fun v hv=>.mk ⟨hw,?_,?_,fun h j k m c=>?_⟩;dsimp only;cases b<;>simp at hv<;>omega;dsimp only;cases b<;>simp at hv<;>omega;dsimp only at h;cases b with
 |true=>simp at hv;omega
 |false=>
  simp only[zG2,false_implies,forall_const,true_and]at hv;by_cases n:j=i;subst n;rw[r]at c;cases c;exact hb rfl;exact g.2.2 (by omega) j (by omega) m c
 obtain⟨x,l⟩:=q;dsimp only at hi g;simp only[hi,nf];refine .mk ⟨⟨by omega,by omega⟩,fun h m o=>?_⟩;obtain⟨j,k⟩:=zL2.1 o;exact g.2.2 h j (yT2.1 k).1 m k
def rX2:Ok (pC1 e) (fun v=>0<=v/\v<=1000):=by
 unfold pC1;refine Ob (P:=fun v=>0<=v.2/\v.2<=32) (Oi (fun _=>Ob (yY (by decide)) fun n _=>.mk (by dsimp only;omega)) (fun _=>.mk (by dsimp only;omega))) fun⟨h,i⟩ c=>?_;dsimp only at c;refine Ob (P:=fun v=>0<=v.2/\v.2<=48) (Oi (fun _=>Ob (yY (by decide)) fun n _=>.mk (by dsimp only;rw[cH (by omega) (by omega)];omega)) (fun _=>.mk (by dsimp only;omega))) fun⟨j,k⟩ d=>?_;dsimp only at d;refine Ob (P:=fun v=>0<=v.2/\v.2<=56) (Oi (fun _=>Ob (yY (by decide)) fun n _=>.mk (by dsimp only;rw[cH (by omega) (by omega)];omega)) (fun _=>.mk (by dsimp only;omega))) fun⟨g,f⟩ a=>?_;dsimp only at a;have hw:=eI2 g;refine Ob (Ar hw.1 hw.2) fun b hb=>.mk ?_;rw[cH (n:=b) (by omega) (by omega),cH (by omega) (by omega)];omega
def qS1:Ok (Uj b) (fun v=>0<=v/\v<=1000):=by
 unfold Uj;refine Ob (rX2) fun c a=>?_;exact .mk (by omega)
def aT1 {c:YG} (d:c.passes<=1000):fC (Mk c):=by
 unfold Mk;refine oM (fun _=>?_) fun f a=>?_;refine Ob (Xm (by(simp only[nm]at *;rw[cH (by omega) (by omega)];omega))) fun e b=>?_;exact bH;exact bH
def rY2 {q:YG} {p:YM} (r:p.sm) (B:q.passes<=8) (hy:p.bL<=8):Ok (pD1 q p) (fun v=>v.1.passes<=8):=by
 unfold pD1;refine Oi (fun c1291=>.mk (by omega)) (fun c1291=>?_);refine Oi (fun c1292=>?_) (fun c1292=>?_);refine Oi (fun c1293=>.mk (by omega)) (fun c1293=>?_);refine Ob (qS1) fun C e=>?_;refine Oi (fun c1295=>?_) (fun c1295=>?_);refine Oi (fun c1296=>.mk (by omega)) (fun c1296=>?_);refine Oi (fun c1297=>?_) (fun c1297=>?_);refine cU (aT1 (by(simp only[nm]at *;omega))) fun D=>?_;refine oN (fun _=>?_) fun F a=>?_;refine Ob (qS1) fun E f=>?_;exact bH;refine Oi (fun c1302=>.mk (by omega)) (fun c1302=>?_);have l:=a c1302;exact .mk (by omega);exact .mk (by omega);refine oN (fun _=>?_) fun t b=>?_;refine oM (fun _=>?_) fun s g=>?_;refine cU (aT1 (by(simp only[nm]at *;omega))) fun G=>?_;refine oN (fun _=>?_) fun J h=>?_;refine Ob (Xm (by(simp(disch:=omega) only[cH,nm]at *;omega))) fun H i=>?_;exact bH;exact bH;exact bH;refine Oi (fun c1312=>.mk (by omega)) (fun c1312=>?_);have m:=b c1312;refine Oi (fun c1314=>?_) (fun c1314=>?_);refine cU (aT1 (by(simp only[nm]at *;omega))) fun u=>?_;refine oN (fun _=>?_) fun x c=>?_;refine Ob (qS1) fun w j=>?_;exact bH;refine Oi (fun c1319=>.mk (by omega)) (fun c1319=>?_);have n:=c c1319;exact .mk (by omega);exact .mk (by omega);refine Oi (fun c1321=>.mk (by omega)) (fun c1321=>?_);refine Oi (fun c1322=>?_) (fun c1322=>?_);refine cU (aT1 (by omega)) fun y=>?_;refine oN (fun _=>?_) fun A d=>?_;refine Ob (qS1) fun z k=>?_;exact bH;refine Oi (fun c1327=>.mk (by omega)) (fun c1327=>?_);have o:=d c1327;exact .mk (by omega);exact .mk (by omega)
def rZ2 {i:YG} {e:YM} (d:e.sm) (c:i.passes<=8) (hy:e.bL<=8):Ok (pE1 i e) (fun v=>v.1.passes<=8):=by
 unfold pE1;refine Oi (fun _=>Ob (rY2 d c hy) fun⟨a,b⟩ h=>.mk h) (fun _=>?_);refine Oi (fun _=>?_) (fun _=>?_);refine Ob (aT1 (by omega)) fun f _=>?_;refine Oi (fun _=>.mk c) (fun _=>?_);refine Oi (fun _=>Oi (fun h=>by cases h) (fun _=>?_)) (fun _=>?_);exact Ob (P:=fun _=>True) (Oi (fun _=>bH) (fun _=>bH)) fun⟨a,b⟩ _=>.mk (show(0:Int)<=8 by decide);exact Ob (P:=fun _=>True) (Oi (fun _=>bH) (fun _=>bH)) fun a _=>.mk (show(0:Int)<=8 by decide);refine Oi (fun _=>Oi (fun _=>.mk c) (fun _=>?_)) (fun _=>?_);exact Ob (P:=fun _=>True) (Oi (fun _=>bH) (fun _=>bH)) fun⟨a,b⟩ _=>.mk (show(0:Int)<=8 by decide);exact Ob (P:=fun g=>g.passes<=8) (Oi (fun _=>.mk (show(0:Int)<=8 by decide)) (fun _=>.mk c)) fun g hg=>.mk hg
def fX2 {f:aA YV} {h:Y0} (n:f.length+25<=1000000) (c:h.sm) (t:0<h.aE.length):Ok (hV1 f h u) (fun v=>f.length<=v.length/\v.length<=f.length+25):=by
 unfold hV1 cT;have w:=c.aE;refine Ob (qR1 (by omega) c) fun m j=>?_;refine Oi (fun _=>.mk (by omega)) (fun hc=>?_);simp only[zD2]at hc;have s:=j.2 (by omega);have o:=j.1;refine Ob (P:=fun r=>match r with|.inl p=>m.length<=p.2.length/\p.2.length<=m.length+1|.inr g=>g.passes<=8) (cY (l:=h.aE) (fun q=>q.1) (fun i q=>q.2.passes<=8) (by omega) rfl (show(0:Int)<=8 by decide) (fun i e q t k hi hl d hg hw=>?_) (fun q hi d=>?_)) fun r hr=>?_;obtain⟨x,g⟩:=q;dsimp only at hi hl d hg hw;simp only[hl,hg,nt];refine Ob (rZ2 (c.cK e k) d (s e k)) fun⟨g2,b⟩ hb=>?_;refine Oi (fun _=>?_) (fun _=>.mk ⟨hw,hb⟩);exact Ob (lA (by omega) c) fun v hv=>.mk (by dsimp only;omega);obtain⟨x,g⟩:=q;dsimp only at hi d;simp only[hi,nf];exact .mk d;rcases r with⟨a,v⟩|g;exact .mk (by dsimp only at hr;omega);dsimp only at hr;refine Ob (P:=fun _=>True) (Oi (fun _=>bH) (fun _=>?_)) fun b _=>?_;exact Ob (P:=fun _=>True) (Oi (fun _=>Ob (aT1 (by omega)) fun _ _=>bH) (fun _=>bH)) fun _ _=>bH;refine Ob (dM (Q:=fun _=>True) (by rw[cH (by omega) (by omega)];omega) (by rw[cH (by omega) (by omega)];omega) (fun _ _ _=>trivial)) fun y _=>?_;exact Ob (lA (by omega) c) fun v hv=>.mk (by omega)
def sA2 {a b:YM} (c:a.sm) (d:b.sm):fC (pF1 a b):=by
 unfold pF1;exact bH
def sB2 {i:aA YM} (k:i.length<=12) (f:∀y∈i,y.sm) (m:o.sm):fC (pG1 i o):=by
 unfold pG1 cT;have h:=k;refine vF (l:=i) (fun q=>q) (fun n j r c g b a d=>?_) fun p=>?_;simp only[b,a,nt];have e:=f _ c;refine cU (sA2 e m) fun s=>?_;refine oJ (fun _=>?_);exact .mk d;rcases p with t|_;exact bH;exact bH
def sC2 {d:aA YM} {e:YM} (b:d.length<=12) (a:∀y∈d,y.sm) (c:e.sm):fC (pH1 d e):=by
 unfold pH1;refine cU (sB2 b a c) fun f=>?_;exact bH
def sD2 {a:YM} (b:a.sm):fC (pI1 a c):=by
 unfold pI1;exact bH
def wJ1 {i:aA YM} (k:i.length<=12) (f:∀y∈i,y.sm):fC (Ml i n):=by
 unfold Ml cT;have h:=k;refine vF (l:=i) (fun q=>q) (fun m j p c g b a d=>?_) fun o=>?_;simp only[b,a,nt];have e:=f _ c;refine cU (sD2 e) fun r=>?_;refine oJ (fun _=>?_);exact .mk d;rcases o with s|_;exact bH;exact bH
def wK1 {b:YK} (a:b.s'.sm):fC (aF1 b c):=by
 unfold aF1;refine cU (wJ1 a.aE a.cK) fun d=>?_;exact bH
def wL1 {b:YK} (a:b.s'.sm):fC (aG1 c b d):=by
 unfold aG1;refine cU (wK1 a) fun e=>?_;refine cU (wQ) fun f=>?_;exact bH
def sE2 {e:YK} (a:e.s'.sm):fC (pK1 e i j):=by
 unfold pK1;refine oM (fun _=>?_) fun l b=>?_;refine cU (wL1 a) fun k=>?_;exact bH;refine Oi (fun c1364=>?_) (fun c1364=>?_);have d:=b c1364;exact bH;refine cU ?_ fun m=>?_;refine oJ (fun _=>?_);exact bH;refine Oi (fun c1368=>?_) (fun c1368=>?_);refine cU (wL1 a) fun n=>?_;exact bH;refine cU ?_ fun o=>?_;refine oJ (fun _=>?_);exact bH;refine Oi (fun c1372=>?_) (fun c1372=>?_);refine cU (wL1 a) fun p=>?_;refine oM (fun _=>?_) fun h c=>?_;refine cU (wK1 a) fun f=>?_;refine cU (wK1 a) fun g=>?_;exact bH;exact bH;exact bH
def sF2 {h:YM} {f:YK} (d:h.sm) (a:f.s'.sm) (g:0<=e/\e<=(f.s'.aE.length:Int)):fC (pL1 e h f):=by
 unfold pL1;refine Ob wQ fun w _=>?_;refine Ob (P:=fun _=>True) (Oi (fun _=>bH) (fun _=>Ob wQ fun _ _=>bH)) fun b _=>?_;refine Oi (fun _=>bH) (fun _=>?_);refine Ob (Jv (by decide) g.1 g.2) fun l hl=>?_;refine Ob (sC2 (zX2 hl.1 a.aE) (fun y hy=>a.cK y (hl.2 y hy)) d) fun c _=>?_;exact Ob (P:=fun _=>True) (Oi (fun _=>bH) (fun _=>Ob (sE2 a) fun _ _=>bH)) fun b _=>bH
def qT1 {i:aA YV} {o:Y0} (q:i.length+12<=1000000) (d:o.sm):Ok (Dl i o u) (fun v=>i.length<=v.length/\v.length<=i.length+12):=by
 unfold Dl cT;have j:=d.aE;refine oh o.aE i 12 1 (fun n l q1389 k g f b e a c=>?_) fun t p=>?_;obtain⟨w,x⟩:=q1389;dsimp only at f b a c e;simp only[b,a,nt];have h:=d.cK _ g;refine cU (sF2 h d (by(simp only[nm]at *;omega))) fun r=>?_;refine Ob (lA (by first|omega|(simp only[zJ2]at *;omega)) d) fun s m=>?_;exact .mk ⟨c,by dsimp only;omega⟩;exact .mk (by omega)
def fY2 {a:aA YV} {d:Y0} (e:a.length+12<=1000000) (c:d.sm):Ok (iA1 a d f) (fun v=>a.length<=v.length/\v.length<=a.length+12):=by
 unfold iA1;refine Ob (qT1 (by first|omega|(simp only[zJ2]at *;omega)) c) fun g b=>?_;exact .mk (by omega)
def sG2 {z:Int} (g:o.sm):fC (pM1 z o):=by
 unfold pM1 cT;refine cU (aN1 g) fun⟨L,M⟩=>?_;refine oM (fun _=>?_) fun O r=>?_;refine cU (wQ) fun N=>?_;exact bH;refine oN (fun _=>?_) fun S s=>?_;refine cU (wQ) fun R=>?_;exact bH;have m:=g.fW;refine vF (l:=o.fW) (fun q=>q.2) (fun v p q1412 j e b a c=>?_) fun K=>?_;obtain⟨A,B⟩:=q1412;dsimp only at e b a c;simp only[b,a,nt];refine oN (fun _=>?_) fun D d=>?_;refine cU (wQ) fun C=>?_;exact bH;refine oN (fun c1418=>?_) fun F f=>?_;have w:=d c1418;refine cU (wQ) fun E=>?_;exact bH;refine oN (fun c1422=>?_) fun J t=>?_;have i:=f c1422;have y:=d i;refine oM (fun _=>?_) fun H u=>?_;have n:=g.fW;refine Ob (P:=fun x=>x∈o.fW) (dM (by(simp only[nm]at *;rw[cH (by omega) (by omega)];omega)) (by(simp only[nm]at *;rw[cH (by omega) (by omega)];omega)) (fun _ h _=>h)) fun G k=>?_;exact bH;exact bH;exact .mk c;exact bH
def qU1 {i:aA YV} {o:Y0} (q:i.length+12<=1000000) (g:o.sm):Ok (Dm i o u) (fun v=>i.length<=v.length/\v.length<=i.length+12):=by
 unfold Dm cT;have j:=g.aE;refine oh o.aE i 12 1 (fun n l q1441 k f e b d a c=>?_) fun t p=>?_;obtain⟨w,x⟩:=q1441;dsimp only at e b a c d;simp only[b,a,nt];have h:=g.cK _ f;refine cU (sG2 h) fun r=>?_;refine Ob (lA (by first|omega|(simp only[zJ2]at *;omega)) g) fun s m=>?_;exact .mk ⟨c,by dsimp only;omega⟩;exact .mk (by omega)
def fZ2 {a:aA YV} {d:Y0} (e:a.length+12<=1000000) (c:d.sm):Ok (iC1 a d f) (fun v=>a.length<=v.length/\v.length<=a.length+12):=by
 unfold iC1;refine Ob (qU1 (by first|omega|(simp only[zJ2]at *;omega)) c) fun g b=>?_;exact .mk (by omega)
def sH2 {i:YP} {e:YE} {g:YK} (a:e.sm) (c:g.s'.sm):fC (pN1 i e g):=by
 unfold pN1;refine Ob (fM2 c) fun⟨q,f⟩ d=>?_;dsimp only at d;refine Ob (P:=fun r=>¬r=true->f=true) (Oi (fun _=>.mk (fun h=>absurd rfl h)) (fun hc=>Ob (fJ2 a) fun t _=>.mk (fun _=>by simpa using hc))) fun b hb=>?_;refine Oi (fun _=>bH) (fun hc=>?_);simp only[zN2,bR3]at hc;have:=d (hb hc.1);exact Ob (dM (Q:=fun _=>True) this.1 this.2.1 (fun _ _ _=>trivial)) fun x _=>Ob (dM (Q:=fun _=>True) this.2.2.1 this.2.2.2 (fun _ _ _=>trivial)) fun y _=>bH
def qV1 (d7:H.length+3600<=1000000) (p:Y.sm):Ok (Dn H Y x3) (fun v=>H.length<=v.length/\v.length<=H.length+3600):=by
 unfold Dn cT;have J:=p.aE;refine oh Y.aE H 3600 300 (fun U D q1458 N z u e q a i=>?_) fun d6 b4=>?_;obtain⟨d8,Z⟩:=q1458;dsimp only at u e a i q;simp only[e,a,nt];have m:=p.cK _ z;have K:=m.aI;refine oh D.aI Z 300 60 (fun V E q1472 O A w f r b j=>?_) fun d5 b5=>?_;obtain⟨d9,a0⟩:=q1472;dsimp only at w f b j r;simp only[f,a,b,nt];have n:=m.gX _ A;have L:=n.aK;refine oh E.aK a0 60 20 (fun W F q1486 P B x g s c k=>?_) fun d4 b6=>?_;obtain⟨e0,b0⟩:=q1486;dsimp only at x g c k s;simp only[g,a,b,c,nt];have o:=n.fP _ B;have M:=o.aU;refine oh F.aU b0 20 1 (fun X S q1500 R C y h t d l=>?_) fun d3 b7=>?_;obtain⟨b8,b9⟩:=q1500;dsimp only at y h d l t;simp only[h,a,b,c,d,nt];have G:=o.gS _ C;refine cU (sH2 G p) fun d0=>?_;refine Ob (lA (by first|omega|(simp only[zJ2]at *;omega)) p) fun d2 T=>?_;exact .mk ⟨l,by dsimp only;omega⟩;exact .mk ⟨k,by dsimp only;omega⟩;exact .mk ⟨j,by dsimp only;omega⟩;exact .mk ⟨i,by dsimp only;omega⟩;exact .mk (by omega)
def gA2 {a:aA YV} {d:Y0} (e:a.length+3600<=1000000) (c:d.sm):Ok (iE1 a d f) (fun v=>a.length<=v.length/\v.length<=a.length+3600):=by
 unfold iE1;refine Ob (qV1 (by first|omega|(simp only[zJ2]at *;omega)) c) fun g b=>?_;exact .mk (by omega)
def tU {c1 c2:Bool} {R:aB (aA YV)} (c:Ok R fun _=>True):Ok ((if decide ((x.length:Int)>0)=true then(if c1=true then some true else(if c2=true then(gU x 0).bind fun a=>(fZ x a).bind fun v=>some (decide (v.kC<10))else some false:aB Bool).bind fun y=>some y:aB Bool).bind fun z=>some z else some false:aB Bool).bind fun b=>if b=true then some x else R) fun _=>True:=by
 have k:∀D:aB Bool,(∃b,D=some b)->Ok (D.bind fun b=>if b=true then some x else R) fun _=>True:=fun D h=>by
  obtain⟨b,rfl⟩:=h;cases b with
  |true=>exact bH
  |false=>exact c
 refine k _ ?_;cases x with
 |nil=>exact⟨_,rfl⟩
 |cons v r=>
  have e:gU (v::r) 0=some 0:=by
   unfold gU sI;rw[yY2 ⟨by decide,by simp⟩];rfl
  rw[yY2 (by simp),e];cases c1<;>cases c2<;>exact⟨_,rfl⟩
def T54 {b:Y0} (a:b.sm) (c:0<b.aE.length):fC (F54 b):=by
 unfold F54;refine tU (Ob (eJ2 (by simp only[nl]at *;omega) a) fun _ _=>?_);refine tU (Ob (eL2 (by simp only[nl]at *;omega) a) fun _ _=>?_);refine tU (Ob (eN2 (by simp only[nl]at *;omega) a) fun _ _=>?_);refine tU (Ob (eP2 (by simp only[nl]at *;omega) a) fun _ _=>?_);refine tU (Ob (eQ2 (by simp only[nl]at *;omega) a) fun _ _=>?_);refine tU (Ob (fC2 (by simp only[nl]at *;omega) a) fun _ _=>?_);refine tU (Ob (fE2 (by simp only[nl]at *;omega) a) fun _ _=>?_);refine tU (Ob (fG2 (by simp only[nl]at *;omega) a) fun _ _=>?_);refine tU (Ob (fI2 (by simp only[nl]at *;omega) a) fun _ _=>?_);refine tU (Ob (fN2 (by simp only[nl]at *;omega) a) fun _ _=>?_);refine tU (Ob (fP2 (by simp only[nl]at *;omega) a) fun _ _=>?_);refine tU (Ob (fT2 (by simp only[nl]at *;omega) a) fun _ _=>?_);refine tU (Ob (fW2 (by simp only[nl]at *;omega) a) fun _ _=>?_);refine tU (Ob (fX2 (by simp only[nl]at *;omega) a c) fun _ _=>?_);refine tU (Ob (fY2 (by simp only[nl]at *;omega) a) fun _ _=>?_);refine tU (Ob (fZ2 (by simp only[nl]at *;omega) a) fun _ _=>?_);refine tU (Ob (gA2 (by simp only[nl]at *;omega) a) fun _ _=>?_);exact bH
def T19 {c:Y0} (a:c.sm):fC (F19 c):=by
 unfold F19;refine Ob (P:=fun _=>True) ?_ fun v _=>bH;by_cases h0:0<c.aE.length;exact(T54 a h0).mono fun _ _=>trivial;unfold F54;refine Ob (P:=fun r=>r=false) (Oi (fun h=>by simp at h) (fun _=>.mk rfl)) fun b hb=>?_;subst hb;refine Oi (fun h=>by cases h) (fun _=>?_);refine Ob (oT2 a (by omega) (by decide)) fun v hv=>?_;refine Ob (P:=fun r=>r=true) (Oi (fun h=>Ob (P:=fun r=>r=true) (Oi (fun _=>.mk rfl) (fun h=>absurd rfl h)) fun b hb=>.mk hb) (fun h=>by simp at h;simp[h]at hv)) fun b hb=>?_;subst hb;exact Oi (fun _=>bH) (fun h=>absurd rfl h)
end Go.P
set_option maxHeartbeats 1000000
namespace Go.P
variable {V α:Type}
def Ok.eq {x:aB α} {a:α} (h:Ok x (fun v=>v=a)):x=some a:=by
 obtain⟨v,h1,rfl⟩:=h;exact h1
section
variable {K:Type} [DecidableEq K]
def wR (k:K):∀(l:aA (K×V)) (i:Nat),pQ k l (i+1)=(pQ k l i).map fun p=>(p.1+1,p.2)
 |[],i=>rfl
 |p::r,i=>by
  simp only[pQ]
  by_cases e:k=p.1
  rw[yY2 e,yY2 e];rfl
  rw[zB2 e,zB2 e];exact wR k r (i+1)
def uY (p:K×V) (r:aA (K×V)) (k:K) (z:V):sR (p::r) k z=if k=p.1 then p.2 else sR r k z:=by
 unfold sR;simp only[pQ];by_cases e:k=p.1;rw[yY2 e,yY2 e];rw[zB2 e,zB2 e,wR];cases pQ k r 0<;>rfl
def aU1 (p:K×V) (r:aA (K×V)) (k:K) (x:V):tS (p::r) k x=if k=p.1 then(k,x)::r else p::tS r k x:=by
 unfold tS;simp only[pQ];by_cases e:k=p.1;rw[yY2 e,yY2 e];rfl;rw[zB2 e,zB2 e,wR];cases pQ k r 0<;>rfl
def Jx (k a:K) (x z:V):∀l:aA (K×V),sR (tS l k x) a z=if a=k then x else sR l a z
 |[]=>by
  show sR ([]++[(k,x)]) a z=_
  rw[cJ3,uY]
 |p::r=>by
  rw[aU1,uY]
  by_cases e:k=p.1
  rw[yY2 e,uY]
  by_cases e2:a=k
  rw[yY2 e2,yY2 e2]
  rw[zB2 e2,zB2 e2,zB2 (fun h=>e2 (h.trans e.symm))]
  rw[zB2 e,uY,Jx k a x z r]
  by_cases e2:a=p.1
  rw[yY2 e2,yY2 e2,zB2 (fun h=>e (h.symm.trans e2))]
  rw[zB2 e2,zB2 e2]
end
end Go.P
namespace Go.P
variable {A:Type}
variable {s:Y0}
def tV {x v:aA YV} {D:aB Bool} {R:aB (aA YV)} (h:((if decide ((x.length:Int)>0)then D else some false).bind fun b=>if b then some x else R)=some v) (h0:v.length=0):R=some v:=by
 by_cases a:((x.length:Int)>0);rw[yY2 (by simpa using a)]at h;cases D with
 |none=>cases h
 |some b=>
  cases b with
  |true=>simp at h;subst h;omega
  |false=>exact h
 rw[zB2 (by simpa using a)]at h;exact h
def oA {B:Type} {x:aB A} {k:A->aB B} {v:B} (h:x.bind k=some v):∃a,x=some a/\k a=some v:=yR2.1 h
def tW {l:aA A} (h:l.length=0):l=[]:=aW3 h
structure tE1 (s:Y0):Prop where
 r1:Rf [] s 1=some []
 r2:fU1 [] s 2=some []
 r3:fV1 [] s 3=some []
 r4:fY1 [] s 4=some []
 r5:gA1 [] s 5=some []
 r6:gM1 [] s 6=some []
 r7:gP1 [] s 7=some []
 r8:gQ1 [] s 8=some []
 r9:gT1 [] s 9=some []
 r10:gZ1 [] s 10=some []
 r11:hB1 [] s 11=some []
 r12:hK1 [] s 12=some []
 r13:hT1 [] s 13=some []
 r14:hV1 [] s 14=some []
 r15:iA1 [] s 15=some []
 r16:iC1 [] s 16=some []
 r17:iE1 [] s 17=some []
def qW1 (hs:s.sm) (A:0<s.aE.length) {v:aA YV} (h:F54 s=some v) (h0:v.length=0):tE1 s:=by
 unfold F54 at h;have h:=tV h h0;obtain⟨J,q,h⟩:=oA h;have U:=(eJ2 (by decide) hs).of q;have h:=tV h h0;obtain⟨L,e2,h⟩:=oA h;have V:=(eL2 (by simp only[nl]at *;omega) hs).of e2;have h:=tV h h0;obtain⟨M,r,h⟩:=oA h;have W:=(eN2 (by simp only[nl]at *;omega) hs).of r;have h:=tV h h0;obtain⟨N,t,h⟩:=oA h;have X:=(eP2 (by simp only[nl]at *;omega) hs).of t;have h:=tV h h0;obtain⟨O,u,h⟩:=oA h;have Y:=(eQ2 (by simp only[nl]at *;omega) hs).of u;have h:=tV h h0;obtain⟨P,w,h⟩:=oA h;have Z:=(fC2 (by simp only[nl]at *;omega) hs).of w;have h:=tV h h0;obtain⟨R,x,h⟩:=oA h;have i7:=(fE2 (by simp only[nl]at *;omega) hs).of x;have h:=tV h h0;obtain⟨S,y,h⟩:=oA h;have i8:=(fG2 (by simp only[nl]at *;omega) hs).of y;have h:=tV h h0;obtain⟨T,z,h⟩:=oA h;have i9:=(fI2 (by simp only[nl]at *;omega) hs).of z;have h:=tV h h0;obtain⟨j,a,h⟩:=oA h;have B:=(fN2 (by simp only[nl]at *;omega) hs).of a;have h:=tV h h0;obtain⟨k,b,h⟩:=oA h;have C:=(fP2 (by simp only[nl]at *;omega) hs).of b;have h:=tV h h0;obtain⟨l,c,h⟩:=oA h;have D:=(fT2 (by simp only[nl]at *;omega) hs).of c;have h:=tV h h0;obtain⟨m,d,h⟩:=oA h;have E:=(fW2 (by simp only[nl]at *;omega) hs).of d;have h:=tV h h0;obtain⟨n,e,h⟩:=oA h;have F:=(fX2 (by simp only[nl]at *;omega) hs A).of e;have h:=tV h h0;obtain⟨o,f,h⟩:=oA h;have G:=(fY2 (by simp only[nl]at *;omega) hs).of f;have h:=tV h h0;obtain⟨p,g,h⟩:=oA h;have i16:=(fZ2 (by simp only[nl]at *;omega) hs).of g;have h:=tV h h0;obtain⟨K,i,h⟩:=oA h;have H:=(gA2 (by simp only[nl]at *;omega) hs).of i;cases h;have z17:v=[]:=tW h0;have z16:p=[]:=tW (by simp only[nl]at *;omega);have z15:o=[]:=tW (by simp only[nl]at *;omega);have z14:n=[]:=tW (by simp only[nl]at *;omega);have z13:m=[]:=tW (by simp only[nl]at *;omega);have z12:l=[]:=tW (by simp only[nl]at *;omega);have z11:k=[]:=tW (by simp only[nl]at *;omega);have z10:j=[]:=tW (by simp only[nl]at *;omega);have z9:T=[]:=tW (by simp only[nl]at *;omega);have z8:S=[]:=tW (by simp only[nl]at *;omega);have z7:R=[]:=tW (by simp only[nl]at *;omega);have z6:P=[]:=tW (by simp only[nl]at *;omega);have z5:O=[]:=tW (by simp only[nl]at *;omega);have z4:N=[]:=tW (by simp only[nl]at *;omega);have z3:M=[]:=tW (by simp only[nl]at *;omega);have z2:L=[]:=tW (by simp only[nl]at *;omega);have z1:J=[]:=tW (by simp only[nl]at *;omega);subst z1 z2 z3 z4 z5 z6 z7 z8 z9 z10 z11 z12 z13 z14 z15 z16 z17;exact⟨q,e2,r,t,u,w,x,y,z,a,b,c,d,e,f,g,i⟩
def wM1 (hs:s.sm) (a:0<s.aE.length) (hv:F19 s=some true):tE1 s:=by
 unfold F19 at hv;obtain⟨v,h,hv⟩:=oA hv;exact qW1 hs a h (by simp at hv;simp[hv])
end Go.P
namespace Go.P
variable {A:Type}
variable {s:Y0}
def Hm {l:aA A} {body:Int->aB (Int⊕(Unit⊕Unit))} (hl:l.length<9223372036854775808) (h:∀(i:Int) (x:A),i<(l.length:Int)->x∈l->bE l i=some x->bN (i+1)=i+1->body i=some (.inl (i+1))) (a:body (l.length:Int)=some (.inr (.inr ()))):aQ body cQ 0=some (.inr ()):=by
 refine Ok.eq (rF (l:=l) (fun _=>True) hl (fun i x h0 h1 b hg hw=>?_) (fun i hi _=>?_));rw[h i x h1 b hg hw];exact .mk ⟨rfl,trivial⟩;rw[hi,a];exact .mk rfl
def eqP {l:aA A} {c:A->A->Bool} (hl:l.length<9223372036854775808) (hc:∀x,c x x=true):(if(l.length:Int)!=(l.length:Int)then some false else(aQ (E:=Unit⊕Unit) (fun(a:Int)=>if decide (a<(l.length:Int))then(bE l a).bind fun b=>(bE l a).bind fun d=>if(c b d)!=true then some (.inr (.inl ()))else some (.inl (bN (a+1)))else some (.inr (.inr ()))) cQ 0).bind fun e=>(match e with|.inl _=>some false|.inr _=>some true))=some true:=by
 rw[zB2 (by simp),Hm (l:=l) hl (fun i x h1 f hg hw=>by rw[yY2 (by simpa using h1),hg,yU2,yU2,hc,hw];rfl) (by simp)];rfl
def eqQ {l:aA A} {g:A->A->aB Bool} (hl:l.length<9223372036854775808) (hc:∀x∈l,g x x=some true):(if(l.length:Int)!=(l.length:Int)then some false else(aQ (E:=Unit⊕Unit) (fun(a:Int)=>if decide (a<(l.length:Int))then(bE l a).bind fun c=>(bE l a).bind fun d=>(g c d).bind fun f=>if !f then some (.inr (.inl ()))else some (.inl (bN (a+1)))else some (.inr (.inr ()))) cQ 0).bind fun e=>(match e with|.inl _=>some false|.inr _=>some true))=some true:=by
 rw[zB2 (by simp),Hm (l:=l) hl (fun i x h1 b hg hw=>by rw[yY2 (by simpa using h1),hg,yU2,yU2,hc x b,hw];rfl) (by simp)];rfl
def rfB (b:ByteArray):(b==b)=true:=by cases b with|mk d=>exact(show(d==d)=true by simp)
def sI2 {l:aA YF} (hl:l.length<=100000):F44 l l=some true:=by unfold F44 cT;exact eqP (by omega) (fun x=>by simp)
def R43 {p:YJ} (hp:p.sm):F43 p p=some true:=by
 have:=hp.dN;unfold F43;rw[sI2 (by omega)];simp
def R38 {l:aA YJ} (hl:l.length<=100000) (h:∀p∈l,p.sm):F45 l l=some true:=by unfold F45 cT;exact eqQ (by omega) (fun x a=>R43 (h x a))
def sJ2 {l:aA YT} (hl:l.length<=100000):F71 l l=some true:=by unfold F71 cT;exact eqP (by omega) (fun x=>by simp)
def sK2 {l:aA YC} (hl:l.length<=100000):pV1 l l=some true:=by unfold pV1 cT;exact eqP (by omega) (fun x=>by simp)
def R23 {l:aA YB} (hl:l.length<=100000):Zx l l=some true:=by unfold Zx cT;exact eqP (by omega) (fun x=>by simp)
def R24 {l:aA YD} (hl:l.length<=100000):Zy l l=some true:=by unfold Zy cT;exact eqP (by omega) (fun x=>by simp)
def sL2 {l:aA YY} (hl:l.length<=100000):Zz l l=some true:=by unfold Zz cT;exact eqP (by omega) (fun x=>by simp[rfB])
def sM2 {l:aA YU} (hl:l.length<=100000):pZ1 l l=some true:=by
 have:pY1 l l=some true:=by unfold pY1 cT;exact eqP (by omega) (fun x=>by simp)
 unfold pZ1;rw[this];rfl
def R41 {l:aA YN} (hl:l.length<=100000):F48 l l=some true:=by unfold F48 cT;exact eqP (by omega) (fun x=>by simp)
def R49 {l:aA YZ} (hl:l.length<=100000):F49 l l=some true:=by unfold F49 cT;exact eqP (by omega) (fun x=>by simp)
def sN2 {e:YE} (he:e.sm):pW1 e e=some true:=by
 have:=he.gO;have:=he.hZ;have:=he.eD;unfold pW1 aA1;rw[R23 (by omega),R24 (by omega),sL2 (by omega)];simp
def sO2 {l:aA YE} (hl:l.length<=100000) (h:∀p∈l,p.sm):pX1 l l=some true:=by unfold pX1 cT;exact eqQ (by omega) (fun x a=>sN2 (h x a))
def sP2 {v:YO} (hv:v.sm):qA1 v v=some true:=by
 have:=hv.aU;have:=hv.fO;unfold qA1;rw[sO2 (by omega) hv.gS,sM2 (by omega)];rfl
def sQ2 {l:aA YO} (hl:l.length<=100000) (h:∀p∈l,p.sm):qB1 l l=some true:=by unfold qB1 cT;exact eqQ (by omega) (fun x a=>sP2 (h x a))
def sR2 {c:YW} (hc:c.sm):F73 c c=some true:=by
 have:=hc.iB;have:=hc.aK;unfold F73;rw[sK2 (by omega),sQ2 (by omega) hc.fP];rfl
def sS2 {l:aA YW} (hl:l.length<=100000) (h:∀p∈l,p.sm):F72 l l=some true:=by unfold F72 cT;exact eqQ (by omega) (fun x a=>sR2 (h x a))
def R40 {m:YM} (a:m.sm):F47 m m=some true:=by
 have:=a.fW;have:=a.aI;unfold F47 F70;rw[sJ2 (by omega),sS2 (by omega) a.gX];simp[rfB]
def R39 {l:aA YM} (hl:l.length<=100000) (h:∀p∈l,p.sm):F46 l l=some true:=by unfold F46 cT;exact eqQ (by omega) (fun x a=>R40 (h x a))
def R14 (hs:s.sm):F14 s s=some true:=by
 have:=hs.bQ;have:=hs.aE;have:=hs.bD;have:=hs.jV;unfold F14;rw[R38 (by omega) hs.lN,R39 (by omega) hs.cK,R41 (by omega),R49 (by omega)];simp
end Go.P
namespace Go.P
variable {A:Type} {L:aA YZ} {M:aA YM} {P:aA YJ}
variable {s:Y0}
def Rj {l:aA A} {i:Nat} (h:i<l.length):bE l (i:Int)=some l[i]:=by
 unfold bE;rw[yY2 (by omega),Int.toNat_natCast];exact zY2 h
def Uq {b:Bool} {l m:aA A} (h:l.length+m.length<1000000) (h2:m.length<=1\/b=false):mK b l m=some (l++m):=by
 unfold mK;have e:Sim.maxRoom=1073741824:=rfl;rw[yY2 ⟨by rw[e];omega,fun hb=>h2.elim id (fun h2=>by rw[hb]at h2;cases h2)⟩]
def gC2 {l:aA A} {x:A} (h:l.length<1000):mK true l [x]=some (l++[x]):=Uq (by simp;omega) (.inl (by simp))
def Xn {c:Int} (h:0<=c) (h2:c<=1000000):Qn c=some ():=by
 unfold Qn;have e:Sim.maxRoom=1073741824:=rfl;rw[yY2 ⟨h,by rw[e];omega⟩]
def tX (l:aA A) {body:Int×aA A->aB ((Int×aA A)⊕aA A)} (hl:l.length<1000)
  (h:∀(i:Nat) (x:A) (a:aA A),x∈l->a.length=i->i<l.length->bE l (i:Int)=some x->bN ((i:Int)+1)=((i+1:Nat):Int)->body ((i:Int),a)=some (.inl (((i+1:Nat):Int),a++[x])))
  (b:∀a,body ((l.length:Int),a)=some (.inr a)):aQ body cQ (0,[])=some l:=by
 have c:∀(m n:Nat),n+m=l.length->∀k,m<k->aQ body k ((n:Int),l.take n)=some l:=by
  intro m
  induction m with
  |zero=>
   intro n hn k hk;obtain⟨k,rfl⟩:∃j,k=j+1:=⟨k-1,by omega⟩
   have hn:n=l.length:=by omega
   subst hn;simp only[aQ];rw[b,bP3];rfl
  |succ m ih=>
   intro n hn k hk;obtain⟨k,rfl⟩:∃j,k=j+1:=⟨k-1,by omega⟩
   have hnl:n<l.length:=by omega
   simp only[aQ];rw[h n l[n] (l.take n) (bO3 hnl) (by simp;omega) hnl (Rj hnl) (cH (by omega) (by omega))];have e:l.take n++[l[n]]=l.take (n+1):=by rw[List.take_add_one,zY2 hnl];rfl
   rw[e];exact ih (n+1) (by omega) k (by omega)
 exact c l.length 0 (by omega) cQ (by simp only[cQ];omega)
def wN1 {l:aA A} {x:A} (h:l.length<1000):mK false l [x]=some (l++[x]):=Uq (by simp;omega) (.inr rfl)
def qY1 {e:YE} (he:e.sm):Ud e=some e:=by
 have:=he.gO;have:=he.hZ;have:=he.eD;unfold Ud;rw[iD (by omega),iD (by omega),iD (by omega)];rfl
def wO1 {v:YO} (hv:v.sm):F97 v=some v:=by
 have:=hv.aU;have:=hv.fO;unfold F97 cT;rw[tX v.aU (by omega) (fun i x a b c hi hg hw=>?_) (fun a=>by dsimp only;rw[zB2 (by simp)]),yU2,Uq (by simp;omega) (.inr rfl)];rfl;dsimp only;rw[yY2 (by simp;omega),hg,yU2,qY1 (hv.gS x b),yU2,hw,wN1 (by omega)];rfl
def iN1 {c:YW} (hc:c.sm):F64 c=some c:=by
 have:=hc.iB;have:=hc.aK;unfold F64 cT;rw[iD (by omega),yU2,tX c.aK (by omega) (fun i x a b d hi hg hw=>?_) (fun a=>by dsimp only;rw[zB2 (by simp)])];rfl;dsimp only;rw[yY2 (by simp;omega),hg,yU2,wO1 (hc.fP x b),yU2,hw,wN1 (by omega)];rfl
def qZ1 {m:YM} (b:m.sm):pO1 m=some (m.fW,m.aI):=by
 have:=b.fW;have:=b.aI;unfold pO1 cT;rw[iD (by omega),yU2,tX m.aI (by omega) (fun i x a c d hi hg hw=>?_) (fun a=>by dsimp only;rw[zB2 (by simp)])];rfl;dsimp only;rw[yY2 (by simp;omega),hg,yU2,iN1 (b.gX x c),yU2,hw,wN1 (by omega)];rfl
def wP1 {p:YJ} (hp:p.sm):F38 p=some p:=by
 have:=hp.dN;unfold F38;rw[iD (by omega)];rfl
def Mq (hs:s.sm):iF1 s=some (s.jV,s.bD,s.aE,s.bQ):=by
 have:=hs.bQ;have:=hs.aE;have:=hs.bD;have:=hs.jV;unfold iF1 cT;rw[Xn (by omega) (by omega),yU2,tX s.bQ (by omega) (fun i x a b d hi hg hw=>?_) (fun a=>by dsimp only;rw[zB2 (by simp)]),yU2,Xn (by omega) (by omega),yU2,tX s.aE (by omega) (fun i x a b d hi hg hw=>?_) (fun a=>by dsimp only;rw[zB2 (by simp)]),yU2,iD (by omega),iD (by omega)];rfl;dsimp only;rw[yY2 (by simp;omega),hg,yU2,qZ1 (hs.cK x b),hw];exact congrArg (fun z:aB (aA YM)=>z.bind fun c=>some (Sum.inl (((i+1:Nat):Int),c))) (gC2 (l:=a) (x:=x) (by omega));dsimp only;rw[yY2 (by simp;omega),hg,yU2,wP1 (hs.lN x b),yU2,hw,gC2 (l:=a) (x:=x) (by omega)];rfl
def aV1 {a:ByteArray} {b:Bool} {S:aA YN} (hs:(Y0.mk a b P M S L).sm):Uk a b P M S L=some (L,S,M,P):=Mq hs
def gD2 (l:aA YN) (m:aA (YZ×Bool)):F74 l m=vR1 l (fun x=>F51 x m):=rfl
def sT2 {l:aA YN} {m:aA (YZ×Bool)} (hl:l.length<=1000):Ok (pU1 l m) (fun r=>r.length<=l.length):=by
 unfold pU1;rw[gD2];refine Ob (Xl (by omega) fun x _=>⟨_,rfl⟩) fun v hv=>?_;refine Oi (fun _=>.mk (yX2 _)) (fun hc=>?_);simp only[bH3]at hc;obtain⟨h0,h1,_⟩:=hv.resolve_left (fun h=>hc h.1)
 refine Ob (P:=fun q:Int×aA YN=>0<=q.1/\q.1<=(l.length:Int)/\q.2.length=l.length)
  (lJ (fun q:Int×Int×aA YN=>0<=q.1/\q.1<q.2.1/\q.2.1<=(l.length:Int)/\q.2.2.length=l.length) (fun q=>(l.length-q.2.1).toNat) (fun q c=>?_) cQ _ ?_ ?_) fun q c=>?_
 obtain⟨i,j,w⟩:=q;obtain⟨g0,d,g2,a⟩:=c;dsimp only at g0 d g2 a;dsimp only;refine Oi (fun hc=>?_) (fun hc=>.mk ⟨g0,by dsimp only;omega,a⟩);simp only[zD2]at hc;refine Ob (kW (by omega) hc) fun s e=>?_;refine Ob (nZ e.2) fun t _=>?_;refine Ob (P:=fun _=>True) ⟨_,rfl,trivial⟩ fun b _=>?_;have hw:bN (j+1)=j+1:=cH (by omega) (by omega);have o:bN (i+1)=i+1:=cH (by omega) (by omega);refine Ob (P:=fun q:Int×aA YN=>0<=q.1/\q.1<=j/\q.2.length=l.length) (Oi (fun _=>?_) (fun _=>.mk ⟨g0,by dsimp only;omega,a⟩)) fun q c=>?_;refine Ob (kW g0 (by omega)) fun u f=>?_;refine Ob (Mp f.2) fun y n=>.mk ⟨?_,?_,?_⟩;dsimp only;omega;dsimp only;omega;dsimp only;omega;obtain⟨z,A⟩:=q;obtain⟨g,p,k⟩:=c;dsimp only at g p k;refine .mk ⟨⟨g,?_,?_,k⟩,?_⟩<;>dsimp only<;>omega;refine⟨h0,?_,?_,rfl⟩<;>dsimp only<;>rw[cH (by omega) (by omega)]<;>omega;dsimp only;rw[cH (by omega) (by omega)];simp only[cQ];omega;obtain⟨i,w⟩:=q;obtain⟨g0,d,a⟩:=c;dsimp only at g0 d a;dsimp only;unfold lK1;rw[yY2 ⟨by omega,by omega⟩,yU2];refine Ob (Jw (by simp;omega) g0 (by simp;omega)) fun r hr=>.mk ?_;have:=hr.1;omega
def wQ1 {a:ByteArray} {b:Bool} {S:aA YN} {mp:aA (YZ×Bool)} (hs:(Y0.mk a b P M S L).sm):Ok (Mn a b P M L S mp) (fun _=>True):=by
 unfold Mn cT;have O:P.length<=4:=hs.bQ;have N:M.length<=12:=hs.aE;have R:S.length<=10:=hs.bD;refine lpT (l:=P) (fun q=>q.2.1) (by omega) rfl (fun i p q h hi hl hg hw=>?_) (fun q hi=>?_) fun H=>?_;obtain⟨x,y,z⟩:=q;dsimp only at hi hl hg hw;simp only[hl,hg,nt];have D:=(hs.lN p h).dN;refine cU ⟨_,rfl,trivial⟩ fun E=>?_;refine lpT (l:=p.dN) (fun q=>q.2.1) (by omega) rfl (fun i st q h hi f d g=>?_) (fun q hi=>?_) fun⟨F,G⟩=>.mk hw;obtain⟨x,y,z⟩:=q;dsimp only at hi f d g;simp only[f,hg,d,nt];exact cU ⟨_,rfl,trivial⟩ fun B=>.mk g;obtain⟨x,y,z⟩:=q;dsimp only at hi;simp only[hi,nf];exact .mk trivial;obtain⟨x,y,z⟩:=q;dsimp only at hi;simp only[hi,nf];exact .mk trivial;refine lpT (l:=M) (fun q=>q.1) (by omega) rfl (fun i m q h hi hl hg hw=>?_) (fun q hi=>?_) fun A=>?_;obtain⟨x,y⟩:=q;dsimp only at hi hl hg hw;simp only[hl,hg,nt];have t:=hs.cK m h;have J:=t.aI;refine cU ⟨_,rfl,trivial⟩ fun C=>?_;refine lpT (l:=m.aI) (fun q=>q.1) (by omega) rfl (fun i c q h hi f d g=>?_) (fun q hi=>?_) fun _=>.mk hw;obtain⟨x,y⟩:=q;dsimp only at hi f d g;simp only[f,hg,d,nt];have n:=t.gX c h;have T:=n.aK;refine lpT (l:=c.aK) (fun q=>q.1) (by omega) rfl (fun i v q h hi r k u=>?_) (fun q hi=>?_) fun _=>.mk g;obtain⟨x,y⟩:=q;dsimp only at hi r k u;simp only[r,hg,d,k,nt];have K:=(n.fP v h).aU;refine lpT (l:=v.aU) (fun q=>q.1) (by omega) rfl (fun i e q h hi s o w=>?_) (fun q hi=>?_) fun _=>.mk u;obtain⟨x,y⟩:=q;dsimp only at hi s o w;simp only[s,hg,d,k,o,nt];exact cU ⟨_,rfl,trivial⟩ fun B=>.mk w;obtain⟨x,y⟩:=q;dsimp only at hi;simp only[hi,nf];exact .mk trivial;obtain⟨x,y⟩:=q;dsimp only at hi;simp only[hi,nf];exact .mk trivial;obtain⟨x,y⟩:=q;dsimp only at hi;simp only[hi,nf];exact .mk trivial;obtain⟨x,y⟩:=q;dsimp only at hi;simp only[hi,nf];exact .mk trivial;refine lpT (l:=S) (fun q=>q.1) (by omega) rfl (fun i m q h hi hl hg hw=>?_) (fun q hi=>?_) fun A=>.mk trivial;obtain⟨x,y⟩:=q;dsimp only at hi hl hg hw;simp only[hl,nt];refine Ob (kW (by omega) hl) fun j U=>?_;exact cU ⟨_,rfl,trivial⟩ fun B=>.mk hw;obtain⟨x,y⟩:=q;dsimp only at hi;simp only[hi,nf];exact .mk trivial
def sU2 {a:ByteArray} {b:Bool} {S:aA YN} (hs:(Y0.mk a b P M S L).sm):Ok (aH1 a b P M S L) (fun(p,m,l,r)=>(Y0.mk a b p m r l).sm):=by
 unfold aH1;rw[aV1 hs,yU2];dsimp only;refine cU ⟨_,rfl,trivial⟩ fun _=>?_;refine cU (wQ1 hs) fun c=>?_;have d:S.length<=10:=hs.bD;refine Ob (sT2 (by omega)) fun r hr=>.mk ⟨hs.fL,hs.bQ,hs.lN,hs.aE,hs.cK,?_,hs.jV⟩;show r.length<=10
 omega
end Go.P
namespace Go.P
variable {A V:Type}
variable {s:Y0}
def aW1 {xs:aA A} {body:Int×aA V->aB ((Int×aA V)⊕aA V)} {l:aA V} (K:Nat) (G:A->Prop) (m:xs.length<9223372036854775808)
  (h:∀(i:Nat) (x:A) (v:aA V),x∈xs->v.length<=l.length+K*i->i<xs.length->bE xs (i:Int)=some x->bN ((i:Int)+1)=(i:Int)+1->Ok (body ((i:Int),v)) (fun r=>match r with|.inl q=>q.1=(i:Int)+1/\v.length<=q.2.length/\q.2.length<=v.length+K/\(q.2.length<=v.length->G x)|.inr _=>False))
  (b:∀v,body ((xs.length:Int),v)=some (.inr v)):Ok (aQ body cQ (0,l)) (fun v=>l.length<=v.length/\v.length<=l.length+K*xs.length/\(v.length<=l.length->∀x∈xs,G x)):=by
 refine cY (l:=xs) (fun q=>q.1) (fun i q=>l.length<=q.2.length/\q.2.length<=l.length+K*i/\(q.2.length<=l.length->∀j x,j<i->xs[j]? =some x->G x)) m rfl ⟨yX2 _,Nat.le_add_right _ _,fun _ j x d=>by omega⟩ (fun i x q g o hi f a hg hw=>?_) (fun q hi a=>?_);obtain⟨k,v⟩:=q;dsimp only at hi f a hg hw;rw[hi]at hg hw ⊢;obtain⟨u,p,s⟩:=a;refine(h i x v o p (by omega) hg hw).mono fun r hr=>?_;cases r with
 |inr _=>exact hr.elim
 |inl q=>
  obtain⟨h1,h2,t,n⟩:=hr;refine⟨h1,by omega,by rw[Nat.mul_succ];omega,fun c j y d hy=>?_⟩;by_cases e:j=i;subst e;rw[g]at hy;cases hy;exact n (by omega);exact s (by omega) j y (by omega) hy
 obtain⟨k,v⟩:=q;dsimp only at hi a;rw[hi,b];refine .mk ⟨a.1,a.2.1,fun c x g=>?_⟩;obtain⟨j,d⟩:=zL2.1 g;exact a.2.2 c j x (yT2.1 d).1 d
def VO (m:YM):Prop:=∀c∈m.aI,c.aK.length<=2
def sV2 (hs:s.sm) (hv:F19 s=some true):∀m∈s.aE,VO m:=by
 intro m f;have h:=(wM1 hs (List.length_pos_of_mem f) hv).r1;revert m;unfold Rf cT at h;have W:=hs.bQ;have V:=hs.aE;obtain⟨v1,h1,h⟩:=oA h;have O:=(Ok.of (Q:=fun v:aA YV=>v.length<=4) (cY (l:=s.bQ) (fun q=>q.1) (fun i q=>q.2.length<=i) (by omega) rfl (by simp) (fun i p q t f hi hl a hg hw=>?_) (fun q hi a=>?_)) h1)
 obtain⟨v2,h2,h⟩:=oA h;have g2:=(aW1 (xs:=s.aE) (l:=v1) 1 VO (by omega) (fun i m v f hl hi hg hw=>?_) (fun v=>by dsimp only;rw[zB2 (by simp)])).of h2;obtain⟨b1,R,h⟩:=oA h;obtain⟨M,S,h⟩:=oA h;obtain⟨F,T,h⟩:=oA h;obtain⟨N,G,h⟩:=oA h;cases h;have:=(aI1 (by omega)).of G;refine fun m f=>g2.2.2 ?_ m f;rcases Bool.eq_false_or_eq_true (F||decide ((s.bD.length:Int)>4096)||decide ((s.jV.length:Int)>100))with e|e;have:=this.1 e;simp at this;have:=this.2 e;simp at this;rw[<-this];simp;dsimp only;rw[yY2 (by simp;omega),hg,yU2];have g:=hs.cK m f;have U:=g.aI;refine cU (qD1 (by have:=g.dJ;omega)) fun L=>?_;refine Ob (P:=fun r=>r=false->VO m) (cY (l:=m.aI) (fun q=>q.2) (fun i q=>q.1=false->∀j,j<i->∀c,m.aI[j]? =some c->c.aK.length<=2) (by omega) rfl (fun _ j o=>by omega) (fun i c q t n hi hl a hg hw=>?_) (fun q hi a=>?_)) fun b hb=>?_;obtain⟨k,C⟩:=q;dsimp only at hi hl a hg hw;simp only[hl,hg,nt];have X:=(g.gX c n).aK;refine Ob (P:=fun r=>r=false->k=false/\c.aK.length<=2) (cY (l:=c.aK) (fun q=>q.2) (fun i q=>q.1=false->k=false/\c.aK.length<=2) (by omega) rfl (fun h=>?_) (fun i v q t n hi hl a hg hw=>?_) (fun q hi a=>?_)) fun b hb=>.mk ⟨hw,fun h j o d hd=>?_⟩;simp at h;exact⟨h.1.1,by omega⟩;obtain⟨D,E⟩:=q;dsimp only at hi hl a hg hw;simp only[hl,hg,nt];refine .mk ⟨hw,fun h=>a ?_⟩;simp at h;exact h.1.1;obtain⟨D,E⟩:=q;dsimp only at hi a;simp only[hi,nf];exact .mk a;dsimp only at h;by_cases w:j=i;subst w;rw[t]at hd;cases hd;exact(hb h).2;exact a (hb h).1 j (by omega) d hd;obtain⟨k,C⟩:=q;dsimp only at hi a;simp only[hi,nf];refine .mk (fun h c hc=>?_);obtain⟨j,o⟩:=zL2.1 hc;exact a h j (yT2.1 o).1 c o;refine Ob (aI1 (by omega)) fun u x=>.mk ⟨hw,?_,?_,fun h=>hb ?_⟩<;>dsimp only at * <;>cases b<;>simp at x<;>first|rfl|omega
 obtain⟨z,A⟩:=q;dsimp only at hi hl a hg hw;simp only[hl,hg,nt];have H:=(yT2.1 t).1;have y:=hs.lN _ f;refine cU (qD1 (by have:=y.vG;omega)) fun J=>?_;refine cU (Oi (fun _=>.mk trivial) (fun _=>by rw[qC1];exact .mk trivial)) fun K=>?_;refine cU (Oi (fun _=>.mk trivial) (fun _=>by rw[eH2];exact .mk trivial)) fun B=>?_;refine Ob (aI1 (by omega)) fun u x=>.mk ⟨hw,?_⟩;dsimp only;cases B<;>simp at x<;>omega;obtain⟨z,A⟩:=q;dsimp only at hi a;simp only[hi,nf];exact .mk (by omega)
end Go.P
namespace Go.P
variable {A:Type} {i:Int} {y:YM}
variable {s:Y0}
def gE2 {l:aA A} {body:Int->aB (Int⊕(Unit⊕Unit))} (p:A->Bool) (hl:l.length<9223372036854775808)
  (h:∀(i:Int) (x:A),i<(l.length:Int)->x∈l->bE l i=some x->bN (i+1)=i+1->body i=some (if p x then .inl (i+1)else .inr (.inl ())))
  (a:body (l.length:Int)=some (.inr (.inr ()))):aQ body cQ 0=some (.inr ())/\l.all p=true\/aQ body cQ 0=some (.inl ())/\l.all p=false:=by
 have H:Ok (aQ body cQ 0) (fun e:Unit⊕Unit=>e=.inr ()/\l.all p=true\/e=.inl ()/\l.all p=false):=by
  refine rF (body:=body) (l:=l) (fun x=>p x=true) hl (fun i x h0 h1 b hg hw=>?_) (fun i hi hp=>?_);rw[h i x h1 b hg hw];cases e:p x with
  |true=>exact .mk ⟨rfl,rfl⟩
  |false=>exact .mk (.inr ⟨rfl,List.all_eq_false.2 ⟨x,b,by rw[e];exact Bool.false_ne_true⟩⟩)
  rw[hi,a];exact .mk (.inl ⟨rfl,yW2.2 hp⟩)
 obtain⟨r,h1,h2⟩:=H;rw[h1];rcases h2 with⟨rfl,h⟩|⟨rfl,h⟩
 exact .inl ⟨rfl,h⟩;exact .inr ⟨rfl,h⟩
def inL (a:aA YZ) (d:YZ):Bool:=a.any fun x=>decide (x=d)
def wR1 {v:YO} (hv:v.sm) {f:aA YZ} (hi:f.length<=20):F15 v f=some (v.aU.all fun e=>inL f e.ID):=by
 have:=hv.aU;unfold F15
 have H:=gE2 (l:=v.aU) (body:=fun(o:Int)=>if decide (o<(v.aU.length:Int))then(aQ (E:=Bool) (fun(⟨k,g⟩:Bool×Int)=>if decide (g<(f.length:Int))then(if k then some true else(bE f g).bind fun m=>(bE v.aU o).bind fun n=>some (((m.eC==n.ID.eC)&&((m.bU==n.ID.bU)&&true))!=false):aB (Bool)).bind fun p=>some (.inl (p,bN (g+1)))else some (.inr k)) cQ (false,0)).bind fun A=>if !A then some (.inr (.inl ()))else some (.inl (bN (o+1)))else some (.inr (.inr ()))) (fun e=>inL f e.ID) (by omega) (fun i e y C hg hw=>by
  dsimp only;rw[yY2 (by simpa using y)]
  have H2:Ok (aQ (E:=Bool) (fun(⟨k,g⟩:Bool×Int)=>if decide (g<(f.length:Int))then(if k then some true else(bE f g).bind fun m=>(bE v.aU i).bind fun n=>some (((m.eC==n.ID.eC)&&((m.bU==n.ID.bU)&&true))!=false):aB (Bool)).bind fun p=>some (.inl (p,bN (g+1)))else some (.inr k)) cQ (false,0)) (fun r=>r=inL f e.ID):=by
   refine cY (l:=f) (fun q=>q.2) (fun i q=>q.1=(f.take i).any fun x=>decide (x=e.ID)) (by omega) rfl rfl (fun j x q z B w hl s t u=>?_) (fun q w s=>?_);obtain⟨k,g⟩:=q;dsimp only at w hl s t u;simp only[hl,hg,t,nt]
   have e2:(((x.eC==e.ID.eC)&&((x.bU==e.ID.bU)&&true))!=false)=decide (x=e.ID):=by
    obtain⟨a,b⟩:=x;obtain⟨c,d⟩:=e.ID;by_cases h1:a=c<;>by_cases h2:b=d<;>simp[h1,h2]
   rw[e2];refine Ob (P:=fun r=>r=(k||decide (x=e.ID))) (Oi (fun h=>.mk (by rw[h];rfl)) (fun h=>.mk (by simp at h;rw[h];rfl))) fun r hr=>.mk ⟨u,?_⟩;dsimp only;rw[hr,s,List.take_add_one,z,List.any_append];simp;obtain⟨k,g⟩:=q;dsimp only at w s;simp only[w,nf];rw[bP3]at s;exact .mk s
  obtain⟨r,hr,rfl⟩:=H2;rw[hr,yU2,hw];cases inL f e.ID<;>rfl) (by dsimp only;rw[zB2 (by simp)])
 rcases H with⟨h1,h2⟩|⟨h1,h2⟩
 rw[h1,h2];rfl;rw[h1,h2];rfl
def mpL {a:aA YZ} (hi:a.length<=20):Ok (aQ (E:=aA (YZ×Bool)) (fun(⟨c,g⟩:Int×(aA (YZ×Bool)))=>if decide (c<(a.length:Int))then(bE a c).bind fun m=>some (.inl (bN (c+1),tS g m true))else some (.inr g)) cQ (0,[])) (fun L=>∀d,sR L d false=inL a d):=by
 refine cY (l:=a) (fun q=>q.1) (fun i q=>∀d,sR q.2 d false=(a.take i).any fun x=>decide (x=d)) (by omega) rfl (fun d=>rfl) (fun j x q k n f hl b hg hw=>?_) (fun q f b=>?_);obtain⟨c,g⟩:=q;dsimp only at f hl b hg hw;simp only[hl,hg,nt];refine .mk ⟨hw,fun d=>?_⟩;dsimp only;rw[Jx,b,List.take_add_one,k,List.any_append];by_cases h:d=x;rw[yY2 h,h];simp;rw[zB2 h];have:¬x=d:=fun e=>h e.symm;simp[this];obtain⟨c,g⟩:=q;dsimp only at f b;simp only[f,nf];rw[bP3]at b;exact .mk b
def zA {l:aA A} {x:A} (h:bE l i=some x):x∈l:=(gR h).2.2.1
def Mr {l:aA A} {x:A} (h:bE l i=some x):∃a:Nat,i=(a:Int)/\l[a]? =some x:=⟨i.toNat,by have:=(gR h).1;omega,(gR h).2.2.2⟩
def mJ (s:Y0) (c:aA YM):Prop:=c.length=s.aE.length/\∀(i:Nat) x y,s.aE[i]? =some x->c[i]? =some y->y.sm/\y.aI.length=x.aI.length/\∀(j:Nat) a b,x.aI[j]? =some a->y.aI[j]? =some b->b.aK.length<=a.aK.length/\(1<=a.aK.length->1<=b.aK.length)
def uZ {l:aA A} {i:Nat} {x:A} {f:A->A} (h:fZ l i=some x):nV l i f=some (l.set i (f x)):=by
 unfold fZ at h;unfold nV;rw[h];rfl
def Rk {l:aA A} {i:Nat} {x:A} (h:i<l.length):fZ (l.set i x) i=some x:=by
 unfold fZ;rw[List.getElem?_set_self h]
def Rl {l:aA A} {i:Nat} {x:A} (h:fZ l i=some x):l.set i x=l:=by
 unfold fZ at h;obtain⟨h1,h2⟩:=yT2.1 h;rw[<-h2,List.set_getElem_self]
def rG {l:aA A} {n:Nat} (h:n<l.length):gU l (n:Int)=some n:=by
 unfold gU sI;rw[yY2 ⟨by omega,by omega⟩,Int.toNat_natCast]
def wC (y:YM) (cs:aA YW):YM:=YM.mk y.ID y.dE y.kP y.kB y.dK y.bL y.bM y.pK y.iM y.nF y.nP y.dJ y.fW cs
def cut (y:YM) (b:Nat) (c:YW):YM:=wC y (y.aI.set b ⟨c.iB,c.aK.take 1⟩)
def wS1 {w:Bool} {t:ByteArray} {L:aA YZ} {S:aA YN} {P:aA YJ} {e:aA YM} {a b:Nat} {c:YW} (hl:e.length<=12) (hy:fZ e a=some y) (hc:fZ y.aI b=some c) (hs:y.sm) (h1:1<=c.aK.length):
  (iG1 t w L ((a:Nat):Int) ((b:Nat):Int) S e P).bind (fun⟨i,j,k⟩=>nV j k (fun d=>YM.mk d.ID d.dE d.kP d.kB d.dK d.bL d.bM d.pK d.iM d.nF d.nP d.dJ d.fW i))=some (e.set a (cut y b c)):=by
 have f:a<e.length:=(yT2.1 hy).1;have hb:b<y.aI.length:=(yT2.1 hc).1;have l:=hs.aI;have h:=hs.gX c (zC2 hc)
 have g:pP1 c=some (c.aK.take 1):=by
  unfold pP1 mG;rw[yY2 ⟨by omega,by omega,by omega⟩];rfl
 unfold iG1;rw[rG f,yU2,hy,yU2,rG hb,yU2,hc,yU2,iN1 h,yU2,uZ hy,yU2];rw[show e.set a (YM.mk y.ID y.dE y.kP y.kB y.dK y.bL y.bM y.pK y.iM y.nF y.nP y.dJ y.fW y.aI)=e from Rl hy];rw[g,yU2,iD (by omega),yU2,rG f,yU2,hy,yU2,iD (by omega),yU2,uZ hy,yU2,Rk f,yU2,rG hb,yU2,uZ hc,yU2,yU2];dsimp only;rw[uZ (Rk f),List.set_set];rfl
def rA1 {n:aA YM} {a b:Nat} {c:YW} (h:mJ s n) (hy:n[a]? =some y) (hc:y.aI[b]? =some c):mJ s (n.set a (cut y b c)):=by
 refine⟨by rw[bX3];exact h.1,fun i x z r m=>?_⟩;by_cases k:i=a;subst k;rw[List.getElem?_set_self (yT2.1 hy).1]at m;cases m;obtain⟨h1,h2,o⟩:=h.2 i x y r hy;have f:=h1.gX c (zC2 hc);have hn:(c.aK.take 1).length<=c.aK.length:=List.length_take_le' _ _;refine⟨⟨h1.dJ,h1.fW,?_,fun d hd=>?_⟩,?_,fun j p q hp g=>?_⟩;show(y.aI.set b _).length<=5
 rw[bX3];exact h1.aI;rcases List.mem_or_eq_of_mem_set hd with h|h;exact h1.gX d h;rw[h];exact⟨f.iB,zX2 hn f.aK,fun v hv=>f.fP v (cN3 hv)⟩;show(y.aI.set b _).length=_
 rw[bX3];exact h2;have g:(y.aI.set b ⟨c.iB,c.aK.take 1⟩)[j]? =some q:=g;by_cases l:j=b;subst l;rw[List.getElem?_set_self (yT2.1 hc).1]at g;cases g;obtain⟨t,u⟩:=o j p c hp hc;refine⟨zX2 hn t,fun h=>?_⟩;have:=u h;show 1<=(c.aK.take 1).length
 rw[cH3];omega;rw[zI2 (fun e=>l e.symm)]at g;exact o j p q hp g;rw[zI2 (fun e=>k e.symm)]at m;exact h.2 i x z r m
def bA (s:Y0) (f:aA YZ) (L:aA (YZ×Bool)):Int×aA YM->aB ((Int×aA YM)⊕((Int×aA YM)⊕aA YM)):=fun(⟨d,c⟩:Int×(aA YM))=>if decide (d<(f.length:Int))then(bE f d).bind fun h=>(F13 s h).bind fun⟨b,i⟩=>if(!i)||(b.eM !=4)then some (.inr (.inl (8,c)))else if b.fU !=1 then some (.inr (.inl (10,c)))else(bE s.aE b.bV).bind fun j=>(bE j.aI b.eW).bind fun k=>(bE k.aK 1).bind fun g=>(aQ (E:=Unit⊕Unit) (fun(e:Int)=>if decide (e<(g.aU.length:Int))then(bE g.aU e).bind fun l=>if !(sR L l.ID false)then some (.inr (.inl ()))else some (.inl (bN (e+1)))else some (.inr (.inr ()))) cQ 0).bind fun m=>(match m with|.inl _=>some (.inr (.inl (10,c)))|.inr _=>(iG1 s.fL s.dT s.jV b.bV b.eW s.bD c s.bQ).bind fun⟨n,o,p⟩=>(nV o p (fun a=>(YM.mk a.ID a.dE a.kP a.kB a.dK a.bL a.bM a.pK a.iM a.nF a.nP a.dJ a.fW n))).bind fun q=>some (.inl (bN (d+1),q)))else some (.inr (.inr c))
def lU:Y0:=Y0.mk (⟨#[]⟩:ByteArray) false [] [] [] []
def bB (s:Y0) (e:aA YZ) (z:Y0) (A:Int):Int×aA YM->aB ((Int×aA YM)⊕((Bool×aA YM)⊕aA YM)):=fun(⟨f,b⟩:Int×(aA YM))=>if decide (f<(e.length:Int))then(bE e f).bind fun i=>(F13 s i).bind fun⟨c,j⟩=>if(!j)||(c.eM !=4)then if A==8 then(F14 z (Y0.mk (⟨#[]⟩:ByteArray) false [] [] [] [])).bind fun k=>some (.inr (.inl (k,b)))else some (.inr (.inl (false,b)))else(if c.fU !=1 then some true else(bE s.aE c.bV).bind fun l=>(bE l.aI c.eW).bind fun m=>(bE m.aK 1).bind fun n=>(F15 n e).bind fun o=>some (!o):aB (Bool)).bind fun p=>if p then if A==10 then(F14 z (Y0.mk (⟨#[]⟩:ByteArray) false [] [] [] [])).bind fun q=>some (.inr (.inl (q,b)))else some (.inr (.inl (false,b)))else(gU b c.bV).bind fun h=>(fZ b h).bind fun d=>(gU d.aI c.eW).bind fun g=>(fZ d.aI g).bind fun r=>(if(r.aK.length:Int)==2 then(fZ d.aI g).bind fun t=>(mG t.aK 0 1).bind fun u=>(nV d.aI g (fun v=>(YW.mk v.iB u))).bind fun w=>some w else some d.aI:aB (aA YW)).bind fun x=>(nV b h (fun a=>(YM.mk a.ID a.dE a.kP a.kB a.dK a.bL a.bM a.pK a.iM a.nF a.nP a.dJ a.fW x))).bind fun y=>some (.inl (bN (f+1),y))else some (.inr (.inr b))
def z14:F14 lU lU=some true:=R14 ⟨by decide,by simp[lU],by simp[lU],by simp[lU],by simp[lU],by simp[lU],by simp[lU]⟩
def loops (hs:s.sm) (hv:∀m∈s.aE,VO m) {f:aA YZ} {L:aA (YZ×Bool)} (hi:f.length<=20) (hL:∀d,sR L d false=inL f d):∀(k i:Nat) (g:aA YM),i+k=f.length->mJ s g->∀n,k<n->
  (∃c m,aQ (bA s f L) n ((i:Int),g)=some (.inl (c,m))/\c≠0/\aQ (bB s f lU c) n ((i:Int),g)=some (.inl (true,m)))\/∃m,aQ (bA s f L) n ((i:Int),g)=some (.inr m)/\mJ s m/\∀t,aQ (bB s f t 0) n ((i:Int),g)=some (.inr m):=by
 intro k
 induction k with
 |zero=>
  intro i g hk K n hn;obtain⟨n,rfl⟩:∃j,n=j+1:=⟨n-1,by omega⟩
  obtain rfl:i=f.length:=by omega
  refine .inr ⟨g,?_,K,fun t=>?_⟩
  .have e:bA s f L ((f.length:Int),g)=some (.inr (.inr g)):=by
    unfold bA;dsimp only;rw[zB2 (by simp)]
   simp only[aQ,e];rfl
  .have e:bB s f t 0 ((f.length:Int),g)=some (.inr (.inr g)):=by
    unfold bB;dsimp only;rw[zB2 (by simp)]
   simp only[aQ,e];rfl
 |succ k ih=>
  intro i g hk K n hn;obtain⟨n,rfl⟩:∃j,n=j+1:=⟨n-1,by omega⟩
  have o:i<f.length:=by omega
  have hM:=hs.aE;have hg:=Rj o;obtain⟨⟨p,is⟩,C,hp⟩:=T13 (x2:=f[i]) hs;dsimp only at hp
  have A:∀(c:Int),c≠0->bA s f L ((i:Int),g)=some (.inr (.inl (c,g)))->bB s f lU c ((i:Int),g)=some (.inr (.inl (true,g)))->(∃c m,aQ (bA s f L) (n+1) ((i:Int),g)=some (.inl (c,m))/\c≠0/\aQ (bB s f lU c) (n+1) ((i:Int),g)=some (.inl (true,m)))\/∃m,aQ (bA s f L) (n+1) ((i:Int),g)=some (.inr m)/\mJ s m/\∀t,aQ (bB s f t 0) (n+1) ((i:Int),g)=some (.inr m):=by
   intro c hc h1 h2;refine .inl ⟨c,g,?_,hc,?_⟩
   .simp only[aQ,h1];rfl
   .simp only[aQ,h2];rfl
  have d4:f[i]∈f:=bO3 o;by_cases hc:((!is)||(p.eM !=4))=true
  .refine A 8 (by decide) ?_ ?_
   .unfold bA
    dsimp only;rw[yY2 (by simpa using o),hg,yU2,C,yU2];dsimp only;rw[yY2 hc]
   .unfold bB
    dsimp only;rw[yY2 (by simpa using o),hg,yU2,C,yU2];dsimp only;rw[yY2 hc];show(F14 lU lU).bind _=_
    rw[z14];rfl
  have E:=hc;simp only[zN2,bR3,bA3,Bool.not_eq_false',bne_eq_false_iff_eq]at E;obtain⟨hA,x,y,z,F,hy,G⟩:=hp E.1 E.2;by_cases D:(p.fU !=1)=true
  .refine A 10 (by decide) ?_ ?_
   .unfold bA
    dsimp only;rw[yY2 (by simpa using o),hg,yU2,C,yU2];dsimp only;rw[zB2 hc,yY2 D]
   .unfold bB
    dsimp only;rw[yY2 (by simpa using o),hg,yU2,C,yU2];dsimp only;rw[zB2 hc,yY2 D];show(F14 lU lU).bind _=_
    rw[z14];rfl
  have X:p.fU=1:=by simpa using D
  rw[X]at G;have T:=zA F;have b6:=hs.cK x T;have b7:=b6.gX y (zA hy);have U:=b7.fP z (zA G);have B:=wR1 U hi;have hE:=U.aU
  have H:=gE2 (l:=z.aU) (body:=fun(J:Int)=>if decide (J<(z.aU.length:Int))then(bE z.aU J).bind fun b8=>if !(sR L b8.ID false)then some (.inr (.inl ()))else some (.inl (bN (J+1)))else some (.inr (.inr ()))) (fun e=>inL f e.ID) (by omega) (fun i e a0 F hg hw=>by
   rw[yY2 (by simpa using a0),hg,yU2,hL,hw];cases inL f e.ID<;>rfl) (by rw[zB2 (by simp)])
  rcases H with⟨h1,h2⟩|⟨h1,h2⟩
  ·
   rw[h2]at B;obtain⟨a,ha,N⟩:=Mr F;obtain⟨b,hb,O⟩:=Mr hy;have d5:a<s.aE.length:=(yT2.1 N).1;obtain⟨u,M⟩:∃u,g[a]? =some u:=⟨_,zY2 (by have:=K.1;omega)⟩
   obtain⟨k1,k2,k3⟩:=K.2 a x u N M;have d6:b<x.aI.length:=(yT2.1 O).1;obtain⟨c,r⟩:∃c,u.aI[b]? =some c:=⟨_,zY2 (by omega)⟩
   obtain⟨k4,k5⟩:=k3 b y c O r
   have d9:2<=y.aK.length:=by
    obtain⟨v,d7,b5⟩:=Mr G;have:=(yT2.1 b5).1;omega
   have d8:y.aK.length<=2:=hv x T y (zA hy);have Y:=k5 (by omega);have b4:a<g.length:=(yT2.1 M).1;have Z:b<u.aI.length:=(yT2.1 r).1
   have sA:bA s f L ((i:Int),g)=some (.inl (((i+1:Nat):Int),g.set a (cut u b c))):=by
    unfold bA;dsimp only;rw[yY2 (by simpa using o),hg,yU2,C,yU2];dsimp only;rw[zB2 hc,zB2 D,F,yU2,hy,yU2,G,yU2,h1,yU2];dsimp only;rw[ha,hb];have:=wS1 (w:=s.dT) (t:=s.fL) (L:=s.jV) (S:=s.bD) (P:=s.bQ) (by have:=K.1;omega) M r k1 Y;obtain⟨q,b0,R⟩:=yR2.1 this;obtain⟨e0,e1,e3⟩:=q;dsimp only at R;rw[b0,yU2];dsimp only;rw[R,yU2,cH (by omega) (by omega)];rfl
   have sB:∀t e,bB s f t e ((i:Int),g)=some (.inl (((i+1:Nat):Int),g.set a (cut u b c))):=by
    intro t e;unfold bB;dsimp only;rw[yY2 (by simpa using o),hg,yU2,C,yU2];dsimp only;rw[zB2 hc,zB2 D,F,yU2,hy,yU2,G,yU2,B,yU2,yU2];rw[zB2 (by simp),ha,hb,rG b4,yU2,show fZ g a=some u from M,yU2,rG Z,yU2,show fZ u.aI b=some c from r,yU2,cH (by omega) (by omega)]
    have e5:(if(c.aK.length:Int)==2 then(some c).bind fun b9=>(mG b9.aK 0 1).bind fun d0=>(nV u.aI b (fun d2=>(YW.mk d2.iB d0))).bind fun d3=>some d3 else some u.aI:aB (aA YW))=some (u.aI.set b ⟨c.iB,c.aK.take 1⟩):=by
     by_cases h:c.aK.length=2
     .rw [yY2 (by simp[h]),yU2]
      have:mG c.aK 0 1=some (c.aK.take 1):=by
       unfold mG;rw[yY2 ⟨by omega,by omega,by omega⟩];rfl
      rw[this,yU2,uZ (show fZ u.aI b=some c from r)];rfl
     .rw [zB2 (by simp;omega),aK3 (by omega)]
      exact congrArg some (Rl (show fZ u.aI b=some c from r)).symm
    rw[e5,yU2,uZ (show fZ g a=some u from M),yU2];rfl
   have:=ih (i+1) (g.set a (cut u b c)) (by omega) (rA1 K M r) n (by omega);simp only[aQ,sA,sB];rcases this with⟨c',m,V,g2,W⟩|⟨m,V,g2,W⟩
   .exact .inl ⟨c',m,V,g2,W⟩
   .exact .inr ⟨m,V,g2,W⟩
  ·
   rw[h2]at B;refine A 10 (by decide) ?_ ?_
   .unfold bA
    dsimp only;rw[yY2 (by simpa using o),hg,yU2,C,yU2];dsimp only;rw[zB2 hc,zB2 D,F,yU2,hy,yU2,G,yU2,h1];rfl
   .unfold bB
    dsimp only;rw[yY2 (by simpa using o),hg,yU2,C,yU2];dsimp only;rw[zB2 hc,zB2 D,F,yU2,hy,yU2,G,yU2,B];show(F14 lU lU).bind _=_
    rw[z14];rfl
def sW2 (hs:s.sm):mJ s s.aE:=⟨rfl,fun i x y c hy=>by
 rw[c]at hy
 cases hy
 refine⟨hs.cK x (zC2 c),rfl,fun j a b d hb=>?_⟩
 rw[d]at hb
 cases hb
 exact⟨yX2 _,id⟩⟩
def wT1 (hs:s.sm) {a:aA YM} (h:mJ s a):(Y0.mk s.fL s.dT s.bQ a s.bD s.jV).sm:=by
 refine⟨hs.fL,hs.bQ,hs.lN,?_,fun m b=>?_,hs.bD,hs.jV⟩;show a.length<=12
 rw[h.1];exact hs.aE;obtain⟨i,hi⟩:=zL2.1 (show m∈a from b);have:=(yT2.1 hi).1;obtain⟨x,c⟩:∃x,s.aE[i]? =some x:=⟨_,zY2 (by have:=h.1;omega)⟩
 exact(h.2 i x m c hi).1
def sX2 (hb:s.b) (a:aA YZ):F4 s a=some true:=by
 obtain⟨r,n,hr⟩:=U13 hb
 have g:F6 s=some false\/F6 s=some true/\s.sm/\F19 s=some true:=by
  unfold F6;rw[n,yU2];cases r with
  |false=>exact .inl rfl
  |true=>
   obtain⟨v,d,_⟩:=T19 (hr rfl);rw[d];cases v with
   |false=>exact .inl rfl
   |true=>exact .inr ⟨rfl,hr rfl,rfl⟩
 unfold F4 cT;rcases g with g|⟨g,hs,d⟩
 rw[g];rfl;rw[g];by_cases hi:20<a.length;show(if(false||decide ((a.length:Int)>20))=true then _ else _)=_
 rw[yY2 (by simp;omega)];rfl;show(if(false||decide ((a.length:Int)>20))=true then _ else _)=_
 rw[zB2 (by simp;omega)];have h:a.length<=20:=by omega
 obtain⟨L,o,z⟩:=mpL h
 have k:F11 s a=(aQ (bA s a L) cQ (0,s.aE)).bind fun q=>(match q with|.inl ⟨x45,x46⟩=>some (lU,x45)|.inr x47=>(aH1 s.fL s.dT s.bQ x47 s.bD s.jV).bind fun⟨t,u,w,x⟩=>some (Y0.mk s.fL s.dT t u x w,0)):=by
  unfold F11 cT;rw[d,yU2,zB2 (by simp),o,yU2,Mq hs];rfl
 have A:=loops hs (sV2 hs d) h z a.length 0 s.aE (by omega) (sW2 hs) cQ (by simp only[cQ];omega);rw[k,Mq hs];rcases A with⟨c,m,i,g2,j⟩|⟨m,i,g2,j⟩
 rw[show aQ (bA s a L) cQ (0,s.aE)=some (.inl (c,m))from i,yU2];show(aQ (bB s a lU c) cQ (0,s.aE)).bind _=_
 rw[show aQ (bB s a lU c) cQ (0,s.aE)=_ from j];rfl;rw[show aQ (bA s a L) cQ (0,s.aE)=some (.inr m)from i,yU2];obtain⟨⟨p,y,l,r'⟩,f,e⟩:=sU2 (wT1 hs g2);dsimp only at e;dsimp only;rw[f,yU2];show(aQ (bB s a (Y0.mk s.fL s.dT p y r' l) 0) cQ (0,s.aE)).bind _=_
 rw[show aQ (bB s a (Y0.mk s.fL s.dT p y r' l) 0) cQ (0,s.aE)=_ from j _,yU2];dsimp only;rw[yY2 (by decide),f,yU2];dsimp only;rw[R14 e];rfl
end Go.P
