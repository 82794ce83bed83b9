import Derived.Test.YtlmhifhgadmigaaGreatGaB
import Derived.KernelRfl
/- A text of the proof. -/
set_option linter.all false
namespace Go.P
def Ok {α:Type} (x:aB α) (Q:α->Prop):Prop:=∃v,x=some v/\Q v
section
variable {α β:Type} {Q:α->Prop}
theorem Ok.mk {v:α} (h:Q v):Ok (some v) Q:=⟨v,rfl,h⟩
theorem bB {α:Type} {v:α} {Q:α->Prop} (h:Q v:=by exact trivial):Ok (some v) Q:=⟨v,rfl,h⟩
theorem Ob {P:β->Prop} {x:aB β} {k:β->aB α} (h:Ok x P) (hk:∀v,P v->Ok (k v) Q):Ok (x.bind k) Q:=by
 obtain⟨v,rfl,hv⟩:=h;exact hk v hv
theorem Oi {c:Prop} [Decidable c] {a b:aB α} (h1:c->Ok a Q) (h2:¬c->Ok b Q):Ok (if c then a else b) Q:=by
 split;rename_i h;exact h1 h;rename_i h;exact h2 h
theorem Ok.mono {P:α->Prop} {x:aB α} (h:Ok x P) (a:∀v,P v->Q v):Ok x Q:=by
 obtain⟨v,h1,h2⟩:=h;exact⟨v,h1,a v h2⟩
theorem Ok.ex {x:aB α} (h:Ok x Q):∃v,x=some v:=by
 obtain⟨v,h1,_⟩:=h;exact⟨v,h1⟩
theorem cT {S E:Type} {body:S->aB (S⊕E)} {Q:E->Prop} (I:S->Prop) (μ:S->Nat)
  (h:∀s,I s->Ok (body s) (fun r=>match r with|.inl s'=>I s'/\μ s'<μ s|.inr e=>Q e)):∀(n:Nat) (s:S),I s->μ s<n->Ok (aR body n s) Q
 |0,s,_,hn=>by omega
 |n+1,s,hi,hn=>by
  obtain⟨r,h1,h2⟩:=h s hi
  simp only[aR,h1,pS2]
  cases r with
  |inl s'=>exact cT I μ h n s' h2.1 (by have:=h2.2;omega)
  |inr e=>exact .mk h2
end
theorem bA {n:Int} (h1: -9223372036854775808<=n) (h2:n<9223372036854775808):aW n=n:=by
 have e:aW n=if n%18446744073709551616>=9223372036854775808 then n%18446744073709551616-18446744073709551616 else n%18446744073709551616:=by
  unfold aW IntKind.wrap;rw[show((2:Int)^IntKind.bits .i64)=18446744073709551616 from rfl,show((2:Int)^(IntKind.bits .i64-1))=9223372036854775808 from rfl];simp[IntKind.signed]
 rw[e];split<;>omega
theorem bR {A:Type} {l:aA A} {i:Int} {Q:A->Prop} (h0:0<=i) (h1:i<(l.length:Int)) (h:∀x,x∈l->l[i.toNat]? =some x->Q x):Ok (aT l i) Q:=by
 unfold aT;rw[pW2 h0];have hi:i.toNat<l.length:=by omega
 exact⟨l[i.toNat],by simp[hi],h _ (sA2 hi) (by simp[hi])⟩
end Go.P
set_option maxRecDepth 100000
namespace Go.P
def fR1 {A:Type} (l:aA A) (g:A->aB Bool):aB Int:=
 (aR (E:=Int⊕Unit) (fun(a:Int)=>
  if(decide (a<(l.length:Int)))then
   (aT l a).bind fun d=>
   (g d).bind fun b=>
   if b then
    some (.inr (.inl a))
   else
   some (.inl (aW (a+1)))
  else
  some (.inr (.inr ()))) bC 0).bind fun c=>
 match c with
 |.inl x_7=>
  some x_7
 |.inr _=>
  some (-1)
theorem El {A:Type} {l:aA A} {g:A->aB Bool} (hl:l.length<9223372036854775808) (hg:∀x∈l,∃b,g x=some b):Ok (fR1 l g) (fun v=>(v= -1/\∀x∈l,g x=some false)\/(0<=v/\v<l.length/\∃x,l[v.toNat]? =some x/\g x=some true)):=by
 unfold fR1
 refine Ob (P:=fun r=>match r with|.inl v=>0<=v/\v<l.length/\∃x,l[v.toNat]? =some x/\g x=some true|.inr _=>∀x∈l,g x=some false)
  (cT (S:=Int) (fun i=>0<=i/\i<=l.length/\∀j,j<i.toNat->∀x,l[j]? =some x->g x=some false) (fun i=>l.length-i.toNat) (fun i hi=>?_) bC 0 ⟨by omega,by omega,fun j c=>by simp at c⟩ (by simp[bC];omega)) fun r hr=>?_
 obtain⟨h0,h1,h2⟩:=hi;refine Oi (fun hc=>?_) (fun hc=>?_);simp only[pU2]at hc;refine Ob (bR (Q:=fun x=>x∈l/\l[i.toNat]? =some x) h0 hc (fun x a b=>⟨a,b⟩)) fun x d=>?_;obtain⟨b,hb⟩:=hg x d.1;rw[hb];cases b with
 |true=>exact .mk ⟨h0,hc,x,d.2,hb⟩
 |false=>
  rw[pS2,bA (by omega) (by omega)];refine .mk ⟨⟨by omega,by omega,fun j c y hy=>?_⟩,by omega⟩;by_cases e:j=i.toNat
  subst e;rw[d.2]at hy;cases hy;exact hb;exact h2 j (by omega) y hy
 simp only[pU2]at hc;refine .mk (fun x d=>?_);obtain⟨j,c⟩:=qG2.1 d;have:=(pO2.1 c).1;exact h2 j (by omega) x c;cases r with
 |inl v=>exact .mk (.inr hr)
 |inr u=>exact .mk (.inl ⟨rfl,hr⟩)
end Go.P
namespace Go.P
structure YY.b (x:YY):Prop where
 Text:x.Text.size<9223372036854775808
structure YE.b (x:YE):Prop where
 Heads:x.Heads.length<9223372036854775808
 Graces:x.Graces.length<9223372036854775808
 Lyrics:x.Lyrics.length<9223372036854775808
 LyricsE:∀y∈x.Lyrics,y.b
structure YO.b (x:YO):Prop where
 Events:x.Events.length<9223372036854775808
 EventsE:∀y∈x.Events,y.b
 Tuplets:x.Tuplets.length<9223372036854775808
structure YW.b (x:YW):Prop where
 Clefs:x.Clefs.length<9223372036854775808
 Voices:x.Voices.length<9223372036854775808
 VoicesE:∀y∈x.Voices,y.b
structure YM.b (x:YM):Prop where
 Rehearsal:x.Rehearsal.size<9223372036854775808
 Tempi:x.Tempi.length<9223372036854775808
 Cells:x.Cells.length<9223372036854775808
 CellsE:∀y∈x.Cells,y.b
structure YJ.b (x:YJ):Prop where
 Name:x.Name.size<9223372036854775808
 Staves:x.Staves.length<9223372036854775808
structure Y0.b (x:Y0):Prop where
 Title:x.Title.size<9223372036854775808
 Parts:x.Parts.length<9223372036854775808
 PartsE:∀y∈x.Parts,y.b
 Measures:x.Measures.length<9223372036854775808
 MeasuresE:∀y∈x.Measures,y.b
 Spanners:x.Spanners.length<9223372036854775808
 Last:x.Last.length<9223372036854775808
structure YY.sm (x:YY):Prop where
 Text:x.Text.size<=300
structure YE.sm (x:YE):Prop where
 Heads:x.Heads.length<=12
 Graces:x.Graces.length<=12
 Lyrics:x.Lyrics.length<=12
 LyricsE:∀y∈x.Lyrics,y.sm
structure YO.sm (x:YO):Prop where
 Events:x.Events.length<=20
 EventsE:∀y∈x.Events,y.sm
 Tuplets:x.Tuplets.length<=6
structure YW.sm (x:YW):Prop where
 Clefs:x.Clefs.length<=5
 Voices:x.Voices.length<=3
 VoicesE:∀y∈x.Voices,y.sm
structure YM.sm (x:YM):Prop where
 Rehearsal:x.Rehearsal.size<=300
 Tempi:x.Tempi.length<=5
 Cells:x.Cells.length<=5
 CellsE:∀y∈x.Cells,y.sm
structure YJ.sm (x:YJ):Prop where
 Name:x.Name.size<=300
 Staves:x.Staves.length<=5
structure Y0.sm (x:Y0):Prop where
 Title:x.Title.size<=300
 Parts:x.Parts.length<=4
 PartsE:∀y∈x.Parts,y.sm
 Measures:x.Measures.length<=12
 MeasuresE:∀y∈x.Measures,y.sm
 Spanners:x.Spanners.length<=10
 Last:x.Last.length<=5
end Go.P
namespace Go.P
theorem oT {A E:Type} {l:aA A} {body:Int->aB (Int⊕E)} {Q:E->Prop} (P:A->Prop) (hl:l.length<9223372036854775808)
  (h:∀(i:Int) (x:A),0<=i->i<(l.length:Int)->x∈l->aT l i=some x->aW (i+1)=i+1->Ok (body i) (fun r=>match r with|.inl j=>j=i+1/\P x|.inr e=>Q e))
  (a:∀i:Int,i=(l.length:Int)->(∀x∈l,P x)->Ok (body i) (fun r=>match r with|.inl j=>False|.inr e=>Q e)):Ok (aR body bC 0) Q:=by
 have hl:l.length<9223372036854775808:=hl;refine cT (fun(i:Int)=>0<=i/\i<=l.length/\∀j,j<i.toNat->∀x,l[j]? =some x->P x) (fun i=>l.length-i.toNat) (fun i hi=>?_) bC 0 ⟨by omega,by omega,fun j b=>by simp at b⟩ (by simp[bC];omega);obtain⟨h0,h1,h2⟩:=hi;by_cases c:i<(l.length:Int);have hi:i.toNat<l.length:=by omega
 have hg:aT l i=some l[i.toNat]:=by unfold aT;rw[pW2 h0];simp[hi]
 refine(h i l[i.toNat] h0 c (sA2 hi) hg (bA (by omega) (by omega))).mono fun r hr=>?_;cases r with
 |inl j=>
  obtain⟨rfl,hp⟩:=hr;refine⟨⟨by omega,by omega,fun j b y hy=>?_⟩,by omega⟩;by_cases e:j=i.toNat
  subst e;rw[qN2 hi]at hy;cases hy;exact hp;exact h2 j (by omega) y hy
 |inr e=>exact hr
 refine(a i (by omega) (fun x d=>?_)).mono fun r hr=>?_;obtain⟨j,b⟩:=qG2.1 d;have:=(pO2.1 b).1;exact h2 j (by omega) x b;cases r with
 |inl j=>exact hr.elim
 |inr e=>exact hr
theorem U33 {v:YO} (hv:v.b):Ok (F15 v) (fun r=>r=true->v.sm):=by
 unfold F15;refine Ob (P:=fun r=>match r with|.inl _=>True|.inr _=>∀e∈v.Events,e.sm) (oT (fun e=>e.sm) hv.Events (fun i x h0 h1 c hg hw=>?_) (fun i hi hp=>?_)) fun r hr=>?_;simp only[h1,rG2,qQ2,hg,pS2];refine Oi (fun hc=>.mk trivial) (fun hc=>?_);have a:=hv.EventsE x c;simp only[qC2,pU2,sI2]at hc;refine Ob (P:=fun r=>match r with|.inl _=>True|.inr _=>∀e∈x.Lyrics,e.sm) (oT (fun e=>e.sm) a.Lyrics (fun k y j d hy f g=>?_) (fun k hk hp=>?_)) fun r hr=>?_;simp only[d,rG2,qQ2,f,pS2];refine Oi (fun hd=>.mk trivial) (fun hd=>?_);rw[g];exact .mk ⟨rfl,⟨by simp at hd;omega⟩⟩;simp only[hk,Int.lt_irrefl,rQ2,qA2,qX2];exact .mk hp;cases r with
 |inl u=>exact .mk trivial
 |inr u=>simp only;rw[hw];exact .mk ⟨rfl,⟨by omega,by omega,by omega,hr⟩⟩
 simp only[hi,Int.lt_irrefl,rQ2,qA2,qX2];exact .mk hp;cases r with
 |inl u=>exact .mk (fun h=>by cases h)
 |inr u=>
  refine .mk (fun h=>?_);simp only[pN2,pU2]at h;exact⟨by omega,hr,by omega⟩
end Go.P
namespace Go.P
theorem bD {A S E:Type} {l:aA A} {body:S->aB (S⊕E)} {Q:E->Prop} {s0:S} (a:S->Int) (I:Nat->S->Prop) (hl:l.length<9223372036854775808) (h0:a s0=0) (f:I 0 s0)
  (h:∀(i:Nat) (x:A) (s:S),l[i]? =some x->x∈l->a s=(i:Int)->a s<(l.length:Int)->I i s->aT l (a s)=some x->aW (a s+1)=(i:Int)+1->Ok (body s) (fun r=>match r with|.inl s'=>a s'=(i:Int)+1/\I (i+1) s'|.inr e=>Q e))
  (b:∀s,a s=(l.length:Int)->I l.length s->Ok (body s) (fun r=>match r with|.inl _=>False|.inr e=>Q e)):Ok (aR body bC s0) Q:=by
 have hl:l.length<9223372036854775808:=hl;refine cT (fun s=>0<=a s/\a s<=l.length/\I (a s).toNat s) (fun s=>l.length-(a s).toNat) (fun s hi=>?_) bC s0 ⟨by omega,by omega,by rw[h0];exact f⟩ (by simp[bC];omega);obtain⟨g,m,d⟩:=hi;by_cases c:a s<(l.length:Int);have hi:(a s).toNat<l.length:=by omega
 have hc:(((a s).toNat:Nat):Int)=a s:=by omega
 have hg:aT l (a s)=some l[(a s).toNat]:=by unfold aT;rw[pW2 g];simp[hi]
 refine(h (a s).toNat l[(a s).toNat] s (by simp[hi]) (sA2 hi) hc.symm c d hg (by rw[bA (by omega) (by omega)];omega)).mono fun r hr=>?_;cases r with
 |inl s'=>
  obtain⟨k,e2⟩:=hr;refine⟨⟨by omega,by omega,?_⟩,by omega⟩;rw[show(a s').toNat=(a s).toNat+1 by omega];exact e2
 |inr e=>exact hr
 refine(b s (by omega) ?_).mono fun r hr=>?_;rw[show(a s).toNat=l.length by omega]at d;exact d;cases r with
 |inl j=>exact hr.elim
 |inr e=>exact hr
theorem cW {A:Type} {g:Bool} {l:aA A} {x:A} (h:l.length<1073741824) {Q:aA A->Prop} (a:Q (l++[x])):Ok (jA g l [x]) Q:=by
 unfold jA;have e:Sim.maxRoom=1073741824:=rfl;rw[pW2 ⟨by rw[e,rB2,qB2];omega,fun _=>pQ2 _⟩];exact .mk a
theorem eX2 {w:Bool} {id:YZ} {l:aA YV} {s:Y0} {r:Int} (h:l.length<1000000):Ok (iF w id l s r) (fun v=>v.length<=l.length+1):=by
 unfold iF;refine Ob (P:=fun v=>v.length<=l.length+1) (Oi (fun _=>Ob (cW (Q:=fun v=>v.length<=l.length+1) (by omega) (by simp)) fun v hv=>.mk hv) (fun _=>.mk (by omega))) fun v hv=>.mk hv
theorem lK1 (n a b:Int):zS n a b=some (decide (n>=a)&&decide (n<=b)):=rfl
theorem eY2 (i:YL):F62 i=some (if((((decide (i.Steps<(-77)))||(decide (i.Steps>77)))||(decide (i.Semitones<(-140))))||(decide (i.Semitones>140)))then 2 else 0):=by
 unfold F62;split<;>rfl
theorem vQ1 {s:ByteArray} (h:s.size<9223372036854775808):Ok (F60 s) (fun _=>True):=by
 unfold F60;refine Ob (P:=fun _=>True) (Oi (fun _=>?_) (fun _=>.mk trivial)) fun v hv=>.mk hv
 have:Ok (Qs s.data.toList) (fun _=>True):=by
  unfold Qs;refine Ob (El (l:=s.data.toList) (g:=fun b=>Wk (b.toNat:Int)) (by rw[tD2];exact h) (fun x _=>⟨_,rfl⟩)) fun v hv=>.mk trivial
 exact Ob this fun v hv=>.mk trivial
end Go.P
namespace Go.P
section
variable {α β:Type} {Q:α->Prop}
theorem Ok.bindE {P:β->Prop} {x:aB β} {k:β->aB α} (h:Ok x P) (hk:∀v,x=some v->P v->Ok (k v) Q):Ok (x.bind k) Q:=by
 obtain⟨v,rfl,hv⟩:=h;exact hk v rfl hv
theorem Ok.of {x:aB α} (h:Ok x Q) {v:α} (hv:x=some v):Q v:=by
 obtain⟨w,h1,h2⟩:=h;rw[h1]at hv;cases hv;exact h2
theorem kV {k:IntKind} {a b:Int} (h:b≠0):Ok (zR k a b) (fun v=>v=k.wrap (a.tdiv b)):=by
 unfold zR;rw[pT2 h];exact .mk rfl
theorem vX {k:IntKind} {a b:Int} (h:b≠0):Ok (Vw k a b) (fun v=>v=a.tmod b):=by
 unfold Vw;rw[pT2 h];exact .mk rfl
theorem sH {k:IntKind} {a b:Int} (h:0<=b):Ok (rZ k a b) (fun v=>v=a.fdiv (2^min b.toNat k.bits)):=by
 unfold rZ;rw[pT2 (by omega)];exact .mk rfl
theorem Oj {k:IntKind} {a b:Int} (h:0<=b):Ok (aS1 k a b) (fun _=>True):=by
 unfold aS1;rw[pT2 (by omega)];exact .mk trivial
end
section
variable {A:Type} {l:List A}
theorem eT {i:Int} (h0:0<=i) (h1:i<(l.length:Int)):Ok (cK l i) (fun v=>v=i.toNat/\v<l.length):=by
 unfold cK rG;rw[pW2 ⟨h0,h1⟩];exact .mk ⟨rfl,by omega⟩
theorem gO {j:Nat} (h:j<l.length):Ok (dG l j) (fun x=>l[j]? =some x/\x∈l):=by
 unfold dG;rw[qN2 h];exact .mk ⟨rfl,sA2 h⟩
theorem Em {j:Nat} {f:A->A} (h:j<l.length):Ok (iZ l j f) (fun m=>m.length=l.length):=by
 unfold iZ;rw[qN2 h];exact .mk (by simp)
theorem kF {n c:Int} {z:A} (h0:0<=n) (h1:n<=c) (h2:c<=1073741824):Ok (uU n c z) (fun v=>v=List.replicate n.toNat z):=by
 unfold uU;rw[pW2 ⟨h0,h1,h2⟩];exact .mk rfl
theorem Bq {a b:Int} (h0:0<=a) (h1:a<=b) (h2:b<=(l.length:Int)):Ok (qC l a b) (fun v=>v.length<=l.length/\∀x∈v,x∈l):=by
 unfold qC;rw[pW2 ⟨h0,h1,h2⟩];exact .mk ⟨by simp;omega,fun x c=>List.mem_of_mem_drop (sZ2 c)⟩
theorem Ru {h:Int} (_:0<l.length) (h1:0<=h) (h2:h<=(l.length:Int)):Ok (yM l h) (fun v=>v.length=h.toNat/\∀x∈v,x∈l):=by
 unfold yM;rw[pW2 ⟨h1,h2⟩];exact .mk ⟨by simp;omega,fun x a=>sZ2 a⟩
theorem cD {i:Int} {x:A} (h:aT l i=some x):0<=i/\i<(l.length:Int)/\x∈l/\l[i.toNat]? =some x:=by
 unfold aT at h;split at h;obtain⟨hi,_⟩:=pO2.1 h;exact⟨by omega,by omega,pZ2 h,h⟩;cases h
end
theorem tQ {s:ByteArray} {i:Int} (h0:0<=i) (h1:i<(s.size:Int)):Ok (nO s i) (fun v=>0<=v/\v<=255):=by
 unfold nO;rw[pW2 h0];have h:i.toNat<s.data.toList.length:=by rw[tD2];show i.toNat<s.size;omega
 rw[qN2 h];have:=(s.data.toList[i.toNat]).toNat_lt;exact .mk ⟨by dsimp only;omega,by dsimp only;omega⟩
theorem tR {A:Type} {l:aA A} (h:l.length<=1073741824):qF l=some l:=by
 unfold qF;rw[Nat.ble_eq_true_of_le h];rfl
theorem nm:(∀a b:Bool,((a||b)=true)=(a=true\/b=true))/\(∀a b:Bool,((a&&b)=true)=(a=true/\b=true))/\(∀b:Bool,((!b)=true)=(b=false))/\(∀(p:Prop) [Decidable p],(decide p=true)=p)/\
  (∀(p:Prop) [Decidable p],(decide p=false)=¬p)/\(∀p q:Prop,(¬(p\/q))=(¬p/\¬q))/\(∀p q:Prop,(¬(p/\q))=(p->¬q))/\(∀b:Bool,(¬b=true)=(b=false))/\(∀a b:Int,((a !=b)=true)=¬a=b)/\
  (∀a b:Int,((a==b)=true)=(a=b))/\(∀p:Prop,(¬¬p)=p):=
 ⟨fun a b=>by simp,fun a b=>by simp,fun b=>by simp,fun p _=>by simp,fun p _=>by simp,fun p q=>by simp,fun p q=>by simp,fun b=>by simp,fun a b=>by simp,fun a b=>by simp,fun p=>by simp⟩
theorem nl {A:Type}:(∀(a:A) (l:aA A),(a::l).length=l.length+1)/\([]:aA A).length=0:=⟨fun _ _=>rfl,rfl⟩
theorem nt:(∀[Decidable True],decide True=true)/\(∀(α:Type) [Decidable True] (a b:α),(if True then a else b)=a)/\∀(α β:Type) (a:α) (f:α->aB β),(some a).bind f=f a:=⟨rG2 _,fun _ _ _ _=>qQ2 ..,fun _ _ _ _=>rfl⟩
theorem nf:(∀a:Int,(a<a)=False)/\(∀[Decidable False],decide False=false)/\((false=true)=False)/\∀(α:Type) [Decidable False] (a b:α),(if False then a else b)=b:=⟨fun a=>by simp,rQ2 _,by simp,fun _ _ _ _=>qX2 ..⟩
theorem bS {α β:Type} {Q:α->Prop} {x:aB β} {k:β->aB α} (h:Ok x fun _=>True) (hk:∀v,Ok (k v) Q):Ok (x.bind k) Q:=Ob h fun v _=>hk v
theorem oU {A S E β:Type} {l:aA A} {body:S->aB (S⊕E)} {s0:S} {k:E->aB β} {Q:β->Prop} (a:S->Int) (hl:l.length<9223372036854775808) (h0:a s0=0)
  (h:∀(i:Nat) (x:A) (s:S),x∈l->a s=(i:Int)->a s<(l.length:Int)->aT l (a s)=some x->aW (a s+1)=(i:Int)+1->Ok (body s) (fun r=>match r with|.inl s'=>a s'=(i:Int)+1|.inr _=>True))
  (b:∀s,a s=(l.length:Int)->Ok (body s) (fun r=>match r with|.inl _=>False|.inr _=>True)) (hk:∀e,Ok (k e) Q):Ok ((aR body bC s0).bind k) Q:=
 bS (bD (l:=l) a (fun _ _=>True) hl h0 trivial (fun i x s _ d hi c _ hg hw=>(h i x s d hi c hg hw).mono fun r hr=>by cases r with|inl s'=>exact⟨hr,trivial⟩|inr e=>trivial) (fun s hi _=>b s hi)) hk
theorem Xq {s:ByteArray} {n:Nat} (h:s.size<=n):s.data.toList.length<=n:=by rw[tD2];exact h
theorem Xr (n:Int): -9223372036854775808<=aW n/\aW n<=9223372036854775807:=by
 have e:aW n=if n%18446744073709551616>=9223372036854775808 then n%18446744073709551616-18446744073709551616 else n%18446744073709551616:=by
  unfold aW IntKind.wrap;rw[show((2:Int)^IntKind.bits .i64)=18446744073709551616 from rfl,show((2:Int)^(IntKind.bits .i64-1))=9223372036854775808 from rfl];simp[IntKind.signed]
 rw[e];split<;>omega
theorem gF {S E:Type} {body:S->aB (S⊕E)} {Q:E->Prop} {s0:S} (d:S->Int) (N:Int) (I:S->Prop) (g:N<=9223372036854775807) (h0: -1000<=d s0) (f:I s0)
  (h:∀s,I s->d s0<=d s->(d s<N->aW (d s+1)=d s+1)->Ok (body s) (fun r=>match r with|.inl s'=>d s<N/\d s'=d s+1/\I s'|.inr e=>Q e)):Ok (aR body bC s0) Q:=by
 refine cT (fun s=>I s/\d s0<=d s) (fun s=>(N-d s).toNat) (fun s hs=>?_) bC s0 ⟨f,rH2 _⟩ (by simp only[bC];omega);refine(h s hs.1 hs.2 (fun hc=>bA (by omega) (by omega))).mono fun r hr=>?_;cases r with
 |inl s'=>obtain⟨a,b,c⟩:=hr;exact⟨⟨c,by omega⟩,by omega⟩
 |inr e=>exact hr
theorem Xt {w:Bool} {id:YZ} {l:aA YV} {s:Y0} {r:Int} (h:l.length<1000000):Ok (iF w id l s r) (fun v=>(w=true->v.length=l.length+1)/\(w=false->v.length=l.length)):=by
 unfold iF;refine Ob (P:=fun v=>(w=true->v.length=l.length+1)/\(w=false->v.length=l.length)) (Oi (fun h=>Ob (cW (Q:=fun v=>v.length=l.length+1) (by omega) (by simp)) fun v hv=>.mk ⟨fun _=>hv,fun h2=>by rw[h]at h2;cases h2⟩) (fun h=>.mk ⟨fun h2=>absurd h2 h,fun _=>rfl⟩)) fun v hv=>.mk hv
theorem vR1 (n:Int):0<=IntKind.wrap .u8 n/\IntKind.wrap .u8 n<256:=by
 unfold IntKind.wrap;rw[show((2:Int)^IntKind.bits .u8)=256 from rfl];simp[IntKind.signed];omega
theorem eZ2 {l:aA YV} {s:Y0} {r:Int} (hs:s.sm) (h0:s.Measures.length=0) (h:l.length<900000):Ok (Qt l s r) (fun v=>0<v.length):=by
 unfold Qt;have hp:=hs.Parts;refine Ob (P:=fun v=>v.length<=l.length+4) (bD (l:=s.Parts) (fun q=>q.1) (fun i q=>q.2.length<=l.length+i) (by omega) rfl (by simp) (fun i x q k f hi e d hg hw=>?_) (fun q hi d=>?_)) fun v1 h1=>?_;obtain⟨x1,j⟩:=q;have g:=hs.PartsE x f;have m:=g.Name;simp only at hi e d hg hw;simp only[e,rG2,qQ2,hg,pS2,lK1,eY2];refine Ob (vQ1 (by omega)) fun a _=>?_;refine Ob (P:=fun _=>True) (by split<;>exact .mk trivial) fun b _=>?_;refine Ob (P:=fun _=>True) (by split<;>exact .mk trivial) fun c _=>?_;refine Ob (eX2 (by omega)) fun v hv=>.mk ⟨hw,by dsimp only;omega⟩;obtain⟨x1,j⟩:=q;simp only at hi d;simp only[hi,Int.lt_irrefl,rQ2,qA2,qX2];exact .mk (by omega);refine Ob (P:=fun v=>v.length<=l.length+4) (bD (l:=s.Measures) (fun q=>q.1) (fun i q=>q.2.length<=l.length+4) (by omega) rfl h1 (fun i x q k f hi e d hg hw=>by omega) (fun q hi d=>?_)) fun v1 h1=>?_;obtain⟨x1,j⟩:=q;simp only at hi d;simp only[hi,Int.lt_irrefl,rQ2,qA2,qX2];exact .mk d;have n:=hs.Title;refine Ob (vQ1 (by omega)) fun a _=>?_;simp only[lK1,pS2];refine Ob (P:=fun _=>True) (by split<;>exact .mk trivial) fun b _=>?_;refine Ob (P:=fun r=>r=true) (Oi (fun _=>.mk rfl) (fun _=>.mk (by simp[h0]))) fun c hc=>?_;subst hc;simp only[Bool.true_or];refine Ob (Xt (by omega)) fun v hv=>.mk (by have:=hv.1 rfl;omega)
def YU.ok (n:Int) (t:YU):Prop:=1<=t.Count/\t.Count<=n/\0<=t.First/\t.First+t.Count<=n/\1<=t.Actual/\t.Actual<=32/\1<=t.Normal/\t.Normal<=32
def Y0.pl (s:Y0) (m c v:Int):Prop:=∃x y z,aT s.Measures m=some x/\aT x.Cells c=some y/\aT y.Voices v=some z
theorem og {A α V:Type} (l:aA A) (v:aA V) (K k:Nat) {body:Int×aA V->aB ((Int×aA V)⊕aA V)} {m:aA V->aB α} {Q:α->Prop} (hl:l.length<9223372036854775808)
  (h:∀(i:Nat) (x:A) (s:Int×aA V),l[i]? =some x->x∈l->s.1=(i:Int)->s.1<(l.length:Int)->(v.length<=s.2.length/\s.2.length<=v.length+i*k)->aT l s.1=some x->aW (s.1+1)=(i:Int)+1->Ok (body s) (fun r=>match r with|.inl s'=>s'.1=(i:Int)+1/\v.length<=s'.2.length/\s'.2.length<=v.length+(i+1)*k|.inr e=>v.length<=e.length/\e.length<=v.length+K))
  (j:∀s,s.1=(l.length:Int)->(v.length<=s.2.length/\s.2.length<=v.length+l.length*k)->Ok (body s) (fun r=>match r with|.inl _=>False|.inr e=>v.length<=e.length/\e.length<=v.length+K))
  (hk:∀r,(v.length<=r.length/\r.length<=v.length+K)->Ok (m r) Q):Ok ((aR body bC (0,v)).bind m) Q:=
 Ob (P:=fun r=>v.length<=r.length/\r.length<=v.length+K) (bD (l:=l) (fun q=>q.1) (fun i q=>v.length<=q.2.length/\q.2.length<=v.length+i*k) hl rfl ⟨pQ2 _,by dsimp only;omega⟩ (fun i x s a b c d e f g=>(h i x s a b c d e f g).mono fun r hr=>by cases r<;>exact hr) (fun s a b=>(j s a b).mono fun r hr=>by cases r<;>exact hr)) hk
end Go.P
set_option maxHeartbeats 1000000
namespace Go.P
theorem U34 {v:YO} (hv:v.b):Ok (F16 v) (fun _=>True):=by
 unfold F16;refine Ob (P:=fun _=>True) (bD (l:=v.Events) (fun q=>q.2) (fun _ _=>True) hv.Events rfl trivial (fun i e q c a hi hl _ hg hw=>?_) (fun q hi _=>?_)) fun v _=>.mk trivial;obtain⟨n,k⟩:=q;dsimp only at hi hl hg hw;simp only[hl,hg,rG2,qQ2,pS2];refine Ob (P:=fun _=>True) (bD (l:=e.Lyrics) (fun q=>q.2) (fun _ _=>True) (hv.EventsE e a).Lyrics rfl trivial (fun i e q c a hi hl _ hg hw=>?_) (fun q hi _=>?_)) fun x _=>.mk ⟨hw,trivial⟩;obtain⟨n,k⟩:=q;dsimp only at hi hl hg hw;simp only[hl,hg,rG2,qQ2,pS2];exact .mk ⟨hw,trivial⟩;obtain⟨n,k⟩:=q;dsimp only at hi;simp only[hi,Int.lt_irrefl,rQ2,qA2,qX2];exact .mk trivial;obtain⟨n,k⟩:=q;dsimp only at hi;simp only[hi,Int.lt_irrefl,rQ2,qA2,qX2];exact .mk trivial
theorem U13 {s:Y0} (hb:s.b):Ok (F6 s) (fun r=>r=true->s.sm):=by
 unfold F6;refine Ob (P:=fun r=>match r with|.inl _=>True|.inr _=>∀p∈s.Parts,p.sm) (oT (l:=s.Parts) (fun p=>p.sm) hb.Parts (fun i p h0 h1 d hg hw=>?_) (fun i hi o=>?_)) fun r hr=>?_;simp only[h1,hg,hw,rG2,qQ2,pS2];refine Ob (P:=fun b=>b=true\/p.sm) (Oi (fun _=>.mk (.inl rfl)) (fun hc=>.mk ?_)) fun b hb=>?_;simp only[pU2]at hc;by_cases h:(p.Name.size:Int)>300;exact .inl (by simpa using h);exact .inr ⟨by omega,by omega⟩;exact Oi (fun _=>.mk trivial) (fun hc=>.mk ⟨rfl,hb.resolve_left hc⟩);simp only[hi,Int.lt_irrefl,rQ2,qA2,qX2];exact .mk o;rcases r with _|_;exact .mk (fun h=>by cases h);refine Ob (P:=fun r=>match r with|.inl _=>True|.inr _=>∀m∈s.Measures,m.sm) (bD (l:=s.Measures) (fun q=>q.2.2) (fun i q=>∀m∈s.Measures.take i,m.sm) hb.Measures rfl (fun m j=>by simp at j) (fun i m q d j hi hl g hg hw=>?_) (fun q hi g=>?_)) fun r B=>?_;obtain⟨ev,by',k⟩:=q;have F:=hb.MeasuresE m j;dsimp only at hi hl hg hw;simp only[hl,hg,rG2,qQ2,pS2];refine Oi (fun _=>.mk trivial) (fun hc=>?_);simp only[qC2,pU2,sI2]at hc;refine Ob (P:=fun r=>match r with|.inl _=>True|.inr _=>∀c∈m.Cells,c.sm) (bD (l:=m.Cells) (fun q=>q.2.2) (fun i q=>∀c∈m.Cells.take i,c.sm) F.Cells rfl (fun m j=>by simp at j) (fun i c q C z hi hl w hg t=>?_) (fun q hi g=>?_)) fun r hr=>?_;obtain⟨ev,by',k⟩:=q;have E:=F.CellsE c z;dsimp only at hi hl hg t;simp only[hl,hg,rG2,qQ2,pS2];refine Ob (P:=fun b=>b=true\/(c.Clefs.length<=5/\c.Voices.length<=3)) (Oi (fun _=>.mk (.inl rfl)) (fun hc=>.mk ?_)) fun b hb=>?_;simp only[pU2]at hc;by_cases h:(c.Voices.length:Int)>3;exact .inl (by simpa using h);exact .inr ⟨by omega,by omega⟩;refine Oi (fun _=>.mk trivial) (fun hcc=>?_);have hcc:=hb.resolve_left hcc;refine Ob (P:=fun r=>match r with|.inl _=>True|.inr _=>∀v∈c.Voices,v.sm) (bD (l:=c.Voices) (fun q=>q.2.2) (fun i q=>∀v∈c.Voices.take i,v.sm) E.Voices rfl (fun m j=>by simp at j) (fun i v q D A hi hl g hg u=>?_) (fun q hi g=>?_)) fun r hr=>?_;obtain⟨ev,by',k⟩:=q;have bv:=E.VoicesE v A;dsimp only at hi hl hg u;simp only[hl,hg,rG2,qQ2,pS2];refine Ob (U33 bv) fun f hf=>?_;refine Oi (fun _=>.mk trivial) (fun y=>?_);refine Ob (U34 bv) fun n _=>?_;refine Oi (fun _=>.mk trivial) (fun _=>.mk ⟨u,fun x d=>?_⟩);rw[List.take_add_one,D]at d;rcases rF2.1 d with d|d;exact g x d;simp at d;subst d;exact hf (by simpa using y);obtain⟨ev,by',k⟩:=q;dsimp only at hi;simp only[hi,Int.lt_irrefl,rQ2,qA2,qX2];rw[rU2]at g;exact .mk g;rcases r with⟨a,b⟩|⟨a,b⟩
 exact .mk trivial;refine .mk ⟨t,fun x d=>?_⟩;rw[List.take_add_one,C]at d;rcases rF2.1 d with d|d;exact w x d;simp at d;subst d;exact⟨hcc.1,hcc.2,hr⟩;obtain⟨ev,by',k⟩:=q;dsimp only at hi;simp only[hi,Int.lt_irrefl,rQ2,qA2,qX2];rw[rU2]at g;exact .mk g;rcases r with⟨a,b⟩|⟨a,b⟩
 exact .mk trivial;refine .mk ⟨hw,fun x e=>?_⟩;rw[List.take_add_one,d]at e;rcases rF2.1 e with e|e;exact g x e;simp at e;subst e;exact⟨by omega,by omega,by omega,hr⟩;obtain⟨ev,by',k⟩:=q;dsimp only at hi;simp only[hi,Int.lt_irrefl,rQ2,qA2,qX2];rw[rU2]at g;exact .mk g;rcases r with _|_;exact .mk (fun h=>by cases h);refine .mk (fun h=>?_);simp only[pN2,pU2]at h;exact⟨by omega,by omega,hr,by omega,B,by omega,by omega⟩
end Go.P
set_option maxHeartbeats 2000000
namespace Go.P
theorem fA2 {x1:Int}:Ok (Wk x1) (fun _=>True):=by
 unfold Wk;exact bB
theorem fB2 {x1:aA UInt8} (a:x1.length<=300):Ok (bB1 x1) (fun _=>True):=by
 unfold bB1;have f:=a;refine oU (l:=x1) (fun q=>q) (pR2 a (by decide)) rfl (fun k j h g b d c e=>?_) (fun h b=>?_) fun i=>?_;simp only[d,c,nt];refine bS (fA2) fun m=>?_;refine Oi (fun c13=>?_) (fun c13=>?_);exact bB;exact .mk e;simp only[b,nf];exact bB;rcases i with n|_;exact bB;exact bB
theorem fC2 {x1:aA UInt8} (a:x1.length<=300):Ok (Qs x1) (fun _=>True):=by
 unfold Qs;refine bS (fB2 a) fun b=>?_;exact bB
theorem T60 {x1:ByteArray} (a:x1.size<=300):Ok (F60 x1) (fun _=>True):=by
 unfold F60;refine Ob (P:=fun r=>r=true->(decide ((x1.size:Int)<=256))=true) ?_ fun d b=>?_;refine Oi (fun c16=>?_) (fun _=>.mk (fun h=>by cases h));refine bS (fC2 (Xq a)) fun c=>?_;exact .mk (fun _=>c16);exact bB
theorem Iv {x1 a b:Int}:Ok (zS x1 a b) (fun _=>True):=by
 unfold zS;exact bB
theorem T62 {x1:YL}:Ok (F62 x1) (fun _=>True):=by
 unfold F62;refine Oi (fun c18=>?_) (fun c18=>?_);exact bB;exact bB
theorem kJ {x1:Bool} {e:YZ} {a:aA YV} {b:Y0} {f:Int} (c:a.length+1<=1000000) (d:b.sm):Ok (iF x1 e a b f) (fun v=>a.length<=v.length/\v.length<=a.length+1):=by
 exact(Xt (by omega)).mono fun v h=>by cases x1<;>simp at h<;>omega
theorem lL1 {x1:aA YV} {E:Y0} {x3:Int} (d1:x1.length+17<=1000000) (a:E.sm):Ok (Qt x1 E x3) (fun v=>x1.length<=v.length/\v.length<=x1.length+17):=by
 unfold Qt;have a0:=a.Parts;refine og E.Parts x1 4 1 (pR2 a.Parts (by decide)) (fun d7 b8 q30 b6 A c o g m u=>?_) (fun q30 c g=>?_) fun R z19=>?_;obtain⟨L,M⟩:=q30;dsimp only at c o m u g;simp only[o,m,nt];have K:=a.PartsE _ A;refine bS (T60 K.Name) fun N=>?_;refine Ob (P:=fun r=>¬r=true->¬(!N)=true) ?_ fun O H=>?_;refine Oi (fun _=>.mk (fun h=>absurd rfl h)) (fun c35=>?_);refine bS (Iv) fun e5=>?_;exact .mk (fun _=>c35);refine Ob (P:=fun r=>¬r=true->¬O=true) ?_ fun e7 d2=>?_;refine Oi (fun _=>.mk (fun h=>absurd rfl h)) (fun c38=>?_);have e1:=H c38;refine bS (T62) fun e6=>?_;exact .mk (fun _=>c38);refine Ob (kJ (by first|omega|(simp only[qB2]at *;omega)) a) fun e8 d3=>?_;exact .mk ⟨u,by dsimp only;omega⟩;obtain⟨L,M⟩:=q30;dsimp only at c g;simp only[c,nf];exact .mk (by dsimp only;omega);have b0:=a.Measures;refine og E.Measures R 12 1 (pR2 a.Measures (by decide)) (fun d8 F q53 b7 B d p i b w=>?_) (fun q53 d i=>?_) fun f5 g1=>?_;obtain⟨S,T⟩:=q53;dsimp only at d p b w i;simp only[p,b,nt];have k:=a.MeasuresE _ B;refine bS (T60 k.Rehearsal) fun e9=>?_;have b4:=k.Cells;refine oU (l:=F.Cells) (fun q=>q.2) (pR2 k.Cells (by decide)) rfl (fun d9 G q67 C e s j x=>?_) (fun q67 e=>?_) fun f2=>?_;obtain⟨U,V⟩:=q67;dsimp only at e s j x;simp only[s,b,j,nt];have z:=k.CellsE _ C;have b5:=z.Voices;refine oU (l:=G.Voices) (fun q=>q.2) (pR2 z.Voices (by decide)) rfl (fun e0 b9 q80 D f t n y=>?_) (fun q80 f=>?_) fun f1=>?_;obtain⟨W,X⟩:=q80;dsimp only at f t n y;simp only[t,b,j,n,nt];have e4:=z.VoicesE _ D;exact .mk y;obtain⟨W,X⟩:=q80;dsimp only at f;simp only[f,nf];exact bB;exact .mk x;obtain⟨U,V⟩:=q67;dsimp only at e;simp only[e,nf];exact bB;refine Ob (kJ (by first|omega|(simp only[qB2]at *;omega)) a) fun f4 d4=>?_;exact .mk ⟨w,by dsimp only;omega⟩;obtain⟨S,T⟩:=q53;dsimp only at d i;simp only[d,nf];exact .mk (by dsimp only;omega);refine bS (T60 a.Title) fun Y=>?_;refine Ob (P:=fun r=>¬r=true->¬(!Y)=true) ?_ fun Z J=>?_;refine Oi (fun _=>.mk (fun h=>absurd rfl h)) (fun c86=>?_);refine bS (Iv) fun f6=>?_;exact .mk (fun _=>c86);refine Ob (P:=fun r=>¬r=true->¬Z=true) ?_ fun f8 d5=>?_;refine Oi (fun _=>.mk (fun h=>absurd rfl h)) (fun c89=>?_);have e3:=J c89;refine bS (Iv) fun f7=>?_;exact .mk (fun _=>c89);refine Ob (kJ (by first|omega|(simp only[qB2]at *;omega)) a) fun f9 d6=>?_;exact .mk (by omega)
theorem fE2 {x1:Y0} (a:x1.sm):Ok (bC1 x1) (fun _=>True):=by
 unfold bC1;exact bB
theorem lM1 {x1 g:Int} {h i:Int} {j k l:Int} {b:YJ} {a:aA YZ} (c:b.sm) (e:a.length+1<=1000000):Ok (Dj x1 g h i j k l b a) (fun v=>v.length<=a.length+1):=by
 unfold Dj;refine Ob (cW (Q:=fun v=>v.length=a.length+1) (by omega) (by simp)) fun f d=>?_;exact .mk (by omega)
theorem Xu {x1 e:Int} {f g:Int} {h i j:Int} {k:YF} {a:aA YZ} (c:a.length+1<=1000000):Ok (sB x1 e f g h i j k a) (fun v=>v.length<=a.length+1):=by
 unfold sB;refine Ob (cW (Q:=fun v=>v.length=a.length+1) (by omega) (by simp)) fun d b=>?_;exact .mk (by omega)
theorem Xv {x1 g:Int} {h i:Int} {j k l:Int} {b:YM} {a:aA YZ} (c:b.sm) (e:a.length+1<=1000000):Ok (sD x1 g h i j k l b a) (fun v=>v.length<=a.length+1):=by
 unfold sD;refine Ob (cW (Q:=fun v=>v.length=a.length+1) (by omega) (by simp)) fun f d=>?_;exact .mk (by omega)
theorem Xw {x1 g:Int} {h i:Int} {j k l:Int} {b:YE} {a:aA YZ} (c:b.sm) (e:a.length+1<=1000000):Ok (sF x1 g h i j k l b a) (fun v=>v.length<=a.length+1):=by
 unfold sF;refine Ob (cW (Q:=fun v=>v.length=a.length+1) (by omega) (by simp)) fun f d=>?_;exact .mk (by omega)
theorem Xx {x1 e:Int} {f g:Int} {h i j:Int} {k:YN} {a:aA YZ} (c:a.length+1<=1000000):Ok (sG x1 e f g h i j k a) (fun v=>v.length<=a.length+1):=by
 unfold sG;refine Ob (cW (Q:=fun v=>v.length=a.length+1) (by omega) (by simp)) fun d b=>?_;exact .mk (by omega)
theorem fF2 {x1:Y0} {x2:aA YZ} (k:x1.sm) (j8:x2.length+3646<=1000000):Ok (bE1 x1 x2) (fun v=>v.length<=x2.length+3646):=by
 unfold bE1;have e7:=k.Parts;refine Ob (P:=fun r=>r.length<=x2.length+24) (bD (l:=x1.Parts) (fun q=>q.2.1) (fun i q=>q.2.2.length<=x2.length+i*6) (pR2 k.Parts (by decide)) rfl (by dsimp only;omega) (fun j9 b7 q109 f6 a0 c C m w K=>?_) (fun q109 c m=>?_)) fun e3 k3=>?_;obtain⟨g5,g6,g7⟩:=q109;dsimp only at c C w K m;simp only[C,w,nt];have T:=k.PartsE _ a0;refine Ob (lM1 T (by first|omega|(simp only[qB2]at *;omega))) fun e1 h5=>?_;have e8:=T.Staves;refine Ob (P:=fun r=>r.2.length<=e1.length+5) (bD (l:=b7.Staves) (fun q=>q.2.1) (fun i q=>q.2.2.length<=e1.length+i*1) (pR2 T.Staves (by decide)) rfl (by dsimp only;omega) (fun i0 h2 q125 f7 e5 d D n z L=>?_) (fun q125 d n=>?_)) fun⟨k1,k2⟩ e4=>?_;obtain⟨g8,g9,h0⟩:=q125;dsimp only at d D z L n;simp only[D,w,z,nt];refine Ob (Xu (by first|omega|(simp only[qB2]at *;omega))) fun k0 h6=>?_;exact .mk ⟨L,by dsimp only;omega⟩;obtain⟨g8,g9,h0⟩:=q125;dsimp only at d n;simp only[d,nf];exact .mk (by dsimp only;omega)
 try dsimp only at e4
 exact .mk ⟨K,by dsimp only;omega⟩;obtain⟨g5,g6,g7⟩:=q109;dsimp only at c m;simp only[c,nf];exact .mk (by dsimp only;omega);have e9:=k.Measures;refine Ob (P:=fun r=>r.length<=e3.length+3612) (bD (l:=x1.Measures) (fun q=>q.1) (fun i q=>q.2.length<=e3.length+i*301) (pR2 k.Measures (by decide)) rfl (by dsimp only;omega) (fun i1 b8 q140 f8 b0 e E o a M=>?_) (fun q140 e o=>?_)) fun Z j3=>?_;obtain⟨d3,d4⟩:=q140;dsimp only at e E a M o;simp only[E,a,nt];have y:=k.MeasuresE _ b0;refine Ob (Xv y (by first|omega|(simp only[qB2]at *;omega))) fun Y h7=>?_;have f1:=y.Cells;refine Ob (P:=fun r=>r.length<=Y.length+300) (bD (l:=b8.Cells) (fun q=>q.1) (fun i q=>q.2.length<=Y.length+i*60) (pR2 y.Cells (by decide)) rfl (by dsimp only;omega) (fun i2 b9 q156 f9 b4 f F p b N=>?_) (fun q156 f p=>?_)) fun j0 j4=>?_;obtain⟨d5,W⟩:=q156;dsimp only at f F b N p;simp only[F,a,b,nt];have U:=y.CellsE _ b4;have f2:=U.Voices;refine Ob (P:=fun r=>r.length<=W.length+60) (bD (l:=b9.Voices) (fun q=>q.1) (fun i q=>q.2.length<=W.length+i*20) (pR2 U.Voices (by decide)) rfl (by dsimp only;omega) (fun i3 d1 q171 g1 b5 g G s x O=>?_) (fun q171 g s=>?_)) fun i9 j5=>?_;obtain⟨d6,X⟩:=q171;dsimp only at g G x O s;simp only[G,a,b,x,nt];have V:=U.VoicesE _ b5;have f4:=V.Events;refine Ob (P:=fun r=>r.length<=X.length+20) (bD (l:=d1.Events) (fun q=>q.1) (fun i q=>q.2.length<=X.length+i*1) (pR2 V.Events (by decide)) rfl (by dsimp only;omega) (fun i4 h3 q187 g3 b6 h H t A R=>?_) (fun q187 h t=>?_)) fun i7 j6=>?_;obtain⟨d7,d8⟩:=q187;dsimp only at h H A R t;simp only[H,a,b,x,A,nt];have d2:=V.EventsE _ b6;refine Ob (Xw d2 (by first|omega|(simp only[qB2]at *;omega))) fun i6 h8=>?_;exact .mk ⟨R,by dsimp only;omega⟩;obtain⟨d7,d8⟩:=q187;dsimp only at h t;simp only[h,nf];exact .mk (by dsimp only;omega);exact .mk ⟨O,by dsimp only;omega⟩;obtain⟨d6,X⟩:=q171;dsimp only at g s;simp only[g,nf];exact .mk (by dsimp only;omega);exact .mk ⟨N,by dsimp only;omega⟩;obtain⟨d5,W⟩:=q156;dsimp only at f p;simp only[f,nf];exact .mk (by dsimp only;omega);exact .mk ⟨M,by dsimp only;omega⟩;obtain⟨d3,d4⟩:=q140;dsimp only at e o;simp only[e,nf];exact .mk (by dsimp only;omega);have f5:=k.Spanners;refine Ob (P:=fun r=>r.length<=Z.length+10) (bD (l:=x1.Spanners) (fun q=>q.1) (fun i q=>q.2.length<=Z.length+i*1) (pR2 k.Spanners (by decide)) rfl (by dsimp only;omega) (fun i5 h4 q205 g4 e6 j J u B S=>?_) (fun q205 j u=>?_)) fun j2 j7=>?_;obtain⟨d9,e0⟩:=q205;dsimp only at j J B S u;simp only[J,B,nt];refine Ob (Xx (by first|omega|(simp only[qB2]at *;omega))) fun j1 h9=>?_;exact .mk ⟨S,by dsimp only;omega⟩;obtain⟨d9,e0⟩:=q205;dsimp only at j u;simp only[j,nf];exact .mk (by dsimp only;omega);exact .mk (by omega)
theorem T63 {x1:Y0} (a:x1.sm):Ok (F63 x1) (fun v=>v.length<=4000):=by
 unfold F63;refine bS (fE2 a) fun _=>?_;refine Ob (fF2 a (by first|omega|(simp only[qB2]at *;omega))) fun c b=>?_;exact .mk (by simp only[qB2]at *;omega)
theorem T64 {x1:YZ}:Ok (F64 x1) (fun _=>True):=by
 unfold F64;refine bS (Iv) fun b=>?_;refine Ob (P:=fun r=>r=true->b=true) ?_ fun d a=>?_;refine Oi (fun c212=>?_) (fun _=>.mk (fun h=>by cases h));refine bS (Iv) fun c=>?_;exact .mk (fun _=>c212);exact bB
theorem T65 {x1:Y0} {j:Int} (e:x1.sm):Ok (F65 x1 j) (fun _=>True):=by
 unfold F65;have g:=e.Last;refine oU (l:=x1.Last) (fun q=>q) (pR2 e.Last (by decide)) rfl (fun i h k f a c b d=>?_) (fun k a=>?_) fun m=>?_;simp only[c,b,nt];refine Oi (fun c225=>?_) (fun c225=>?_);exact bB;exact .mk d;simp only[a,nf];exact bB;rcases m with n|_;exact bB;exact bB
theorem lN1 {x1:aA YV} {y:Y0} {x3:Int} (W:x1.length+4001<=1000000) (c:y.sm):Ok (bF1 x1 y x3) (fun v=>x1.length<=v.length/\v.length<=x1.length+4001):=by
 unfold bF1;refine Ob (T63 c) fun x4 n=>?_;have C:=n;refine Ob (P:=fun r=>x1.length<=r.2.length/\r.2.length<=x1.length+4000) (bD (l:=x4) (fun q=>q.1) (fun i q=>x1.length<=q.2.2.length/\q.2.2.length<=x1.length+i*1) (pR2 n (by decide)) rfl (by dsimp only;omega) (fun T o q238 F z a g d e k=>?_) (fun q238 a d=>?_)) fun⟨a0,b0⟩ w=>?_;obtain⟨G,s,H⟩:=q238;dsimp only at a g e k d;simp only[g,e,nt];refine bS (T64) fun J=>?_;refine Ob (P:=fun r=>¬r=true->¬((!J)||(kE s o false))=true) ?_ fun Y M=>?_;refine Oi (fun _=>.mk (fun h=>absurd rfl h)) (fun c242=>?_);refine bS (T65 c) fun X=>?_;exact .mk (fun _=>c242);refine Ob (kJ (by first|omega|(simp only[qB2]at *;omega)) c) fun Z N=>?_;exact .mk ⟨k,by dsimp only;omega⟩;obtain⟨G,s,H⟩:=q238;dsimp only at a d;simp only[a,nf];exact .mk (by dsimp only;omega)
 try dsimp only at w
 have D:=c.Last;refine oU (l:=y.Last) (fun q=>q.2) (pR2 c.Last (by decide)) rfl (fun U L q255 A b j f m=>?_) (fun q255 b=>?_) fun b8=>?_;obtain⟨t,u⟩:=q255;dsimp only at b j f m;simp only[j,f,nt];refine Ob (P:=fun r=>¬r=true->¬t=true) ?_ fun K p=>?_;refine Oi (fun _=>.mk (fun h=>absurd rfl h)) (fun c258=>?_);refine bS (T64) fun b4=>?_;exact .mk (fun _=>c258);refine Ob (P:=fun r=>¬r=true->¬K=true) ?_ fun b7 O=>?_;refine Oi (fun _=>.mk (fun h=>absurd rfl h)) (fun c261=>?_);have V:=p c261;refine Ob (P:=fun r=>r=true->(decide (u>0))=true) ?_ fun b6 R=>?_;refine Oi (fun c264=>?_) (fun _=>.mk (fun h=>by cases h));have E:=c.Last;refine Ob (P:=fun x=>x∈y.Last) (bR (by(simp only[nm]at *;rw[bA (by omega) (by omega)];omega)) (by(simp only[nm]at *;rw[bA (by omega) (by omega)];omega)) (fun _ h _=>h)) fun b5 B=>?_;exact .mk (fun _=>c264);exact .mk (fun _=>c261);exact .mk m;obtain⟨t,u⟩:=q255;dsimp only at b;simp only[b,nf];exact bB;refine Ob (kJ (by first|omega|(simp only[qB2]at *;omega)) c) fun b9 S=>?_;exact .mk (by omega)
theorem T20 {x1:Y0} (a:x1.sm):Ok (F20 x1) (fun v=>v<=9223372036854775807):=by
 unfold F20;have hp:=a.Parts;refine Ob (P:=fun v=>v<=9223372036854775807) (bD (l:=x1.Parts) (fun q=>q.2) (fun i q=>q.1<=9223372036854775807) (by omega) rfl (by decide) (fun i e q d c hi hl _ hg hw=>?_) (fun q hi b=>?_)) fun v hv=>.mk hv;obtain⟨n,x⟩:=q;dsimp only at hi hl hg hw;simp only[hl,hg,nt];exact .mk ⟨hw,(Xr _).2⟩;obtain⟨n,x⟩:=q;dsimp only at hi b;simp only[hi,nf];exact .mk b
theorem T67 {x1:Int} {C:YM} {V:Int} (m:C.sm):Ok (F67 x1 C V) (fun _=>True):=by
 unfold F67;have v:=m.Cells;refine oU (l:=C.Cells) (fun q=>q.2) (pR2 m.Cells (by decide)) rfl (fun H e q279 n b g d j=>?_) (fun q279 b=>?_) fun U=>?_;obtain⟨u,A⟩:=q279;dsimp only at b g d j;simp only[g,d,nt];have a:=m.CellsE _ n;refine Ob (P:=fun r=>¬r=true->¬(u||((e.Voices.length:Int)==0))=true) ?_ fun B t=>?_;refine Oi (fun _=>.mk (fun h=>absurd rfl h)) (fun c283=>?_);have w:=a.Voices;refine Ob (P:=fun x=>x∈e.Voices) (bR (by omega) (by(simp only[nm]at *;omega)) (fun _ h _=>h)) fun O o=>?_;have L:=a.VoicesE _ o;exact .mk (fun _=>c283);refine Ob (P:=fun r=>¬r=true->¬B=true) ?_ fun S G=>?_;refine Oi (fun _=>.mk (fun h=>absurd rfl h)) (fun c289=>?_);have K:=t c289;have y:=a.Voices;refine Ob (P:=fun x=>x∈e.Voices) (bR (by(simp only[nm]at *;rw[bA (by omega) (by omega)];omega)) (by(simp only[nm]at *;rw[bA (by omega) (by omega)];omega)) (fun _ h _=>h)) fun R p=>?_;have M:=a.VoicesE _ p;exact .mk (fun _=>c289);have z:=a.Voices;refine oU (l:=e.Voices) (fun q=>q.2) (pR2 a.Voices (by decide)) rfl (fun J F q305 s c i f k=>?_) (fun q305 c=>?_) fun T=>?_;obtain⟨D,E⟩:=q305;dsimp only at c i f k;simp only[i,d,f,nt];have N:=a.VoicesE _ s;exact .mk k;obtain⟨D,E⟩:=q305;dsimp only at c;simp only[c,nf];exact bB;exact .mk j;obtain⟨u,A⟩:=q279;dsimp only at b;simp only[b,nf];exact bB;exact bB
theorem fG2 {x1:Int} {i:aA YV} {l:Y0} {u:Int} (q:i.length+12<=1000000) (f:l.sm):Ok (bG1 x1 i l u) (fun v=>i.length<=v.length/\v.length<=i.length+12):=by
 unfold bG1;have j:=f.Measures;refine og l.Measures i 12 1 (pR2 f.Measures (by decide)) (fun o m q319 k g a d b c e=>?_) (fun q319 a b=>?_) fun t p=>?_;obtain⟨w,x⟩:=q319;dsimp only at a d c e b;simp only[d,c,nt];have h:=f.MeasuresE _ g;refine bS (T67 h) fun r=>?_;refine Ob (kJ (by first|omega|(simp only[qB2]at *;omega)) f) fun s n=>?_;exact .mk ⟨e,by dsimp only;omega⟩;obtain⟨w,x⟩:=q319;dsimp only at a b;simp only[a,nf];exact .mk (by dsimp only;omega);exact .mk (by omega)
theorem lO1 {x1:aA YV} {d:Y0} {f:Int} (e:x1.length+12<=1000000) (a:d.sm):Ok (bH1 x1 d f) (fun v=>x1.length<=v.length/\v.length<=x1.length+12):=by
 unfold bH1;refine Ob (T20 a) fun g b=>?_;refine Ob (fG2 (by first|omega|(simp only[qB2]at *;omega)) a) fun h c=>?_;exact .mk (by omega)
theorem fH2:Ok (bI1) (fun _=>True):=by
 unfold bI1;exact bB
theorem fI2 {x1:Int}:Ok (bJ1 x1) (fun _=>True):=by
 unfold bJ1;refine Oi (fun c326=>?_) (fun c326=>?_);exact bB;refine bS (fH2) fun b=>?_;refine Ob (bR (Q:=fun _=>True) (by(simp only[nm]at *;rw[bA (by omega) (by omega)];omega)) (by(simp only[nm,nl]at *;rw[bA (by omega) (by omega)];omega)) (fun _ _ _=>trivial)) fun c a=>?_;exact bB
theorem T68 {x1:Int}:Ok (F68 x1) (fun _=>True):=by
 unfold F68;refine bS (fI2) fun⟨a,b⟩=>?_;exact bB
theorem fJ2 {x1:YX}:Ok (bK1 x1) (fun _=>True):=by
 unfold bK1;refine Oi (fun _=>bB) (fun _=>?_);refine Ob (P:=fun _=>True) (gF (fun q=>q.2.2) 6 (fun _=>True) (by decide) (by decide) trivial (fun q _ h1 h2=>?_)) fun r _=>?_;obtain⟨a,n,i⟩:=q;dsimp only at h1 h2 ⊢;refine Oi (fun hc=>?_) (fun _=>bB);simp only[pU2]at hc;refine Ob (bR (Q:=fun _=>True) h1 hc (fun _ _ _=>trivial)) fun x _=>?_;refine Oi (fun _=>bB) (fun _=>?_);refine Ob (P:=fun _=>True) (Oi (fun _=>bB) (fun _=>bB)) fun v _=>.mk ⟨hc,h2 hc,trivial⟩;rcases r with⟨a,b⟩|⟨a,b⟩<;>exact bB
theorem fK2 {x1:YX}:Ok (Qy x1) (fun v=>v=0->x1.Unit≠0):=by
 unfold Qy;refine Oi (fun c330=>?_) (fun c330=>?_);exact .mk (by omega);refine Oi (fun c331=>?_) (fun c331=>?_);exact .mk (by omega);refine bS (fJ2) fun a=>?_;refine Oi (fun c333=>?_) (fun c333=>?_);exact .mk (by omega);exact .mk (by(simp only[nm]at *;omega))
theorem fL2 {x1:YX} (b:x1.Unit≠0):Ok (Qz x1) (fun _=>True):=by
 unfold Qz;refine Ob (kV (by omega)) fun c a=>?_;exact bB
theorem fM2 {x1:YX} (a:x1.Unit≠0):Ok (Ra x1) (fun _=>True):=by
 unfold Ra;refine bS (fL2 (by omega)) fun b=>?_;exact bB
theorem fN2 {x1:YX}:Ok (Rb x1) (fun _=>True):=by
 unfold Rb;refine Ob (fK2) fun b a=>?_;refine Oi (fun c337=>?_) (fun c337=>?_);exact bB;refine bS (fM2 (by(simp only[nm]at *;omega))) fun c=>?_;exact bB
theorem T47 {x1:YM} (b:x1.sm):Ok (zT x1) (fun _=>True):=by
 unfold zT;refine bS (fN2) fun⟨c,d⟩=>?_;refine Oi (fun c340=>?_) (fun c340=>?_);exact bB;refine Oi (fun c341=>?_) (fun c341=>?_);exact bB;refine bS ?_ fun e=>?_;refine Oi (fun c343=>?_) (fun c343=>?_);exact bB;exact bB;refine Ob (vX (by omega)) fun f a=>?_;refine Oi (fun c345=>?_) (fun c345=>?_);exact bB;refine Oi (fun c346=>?_) (fun c346=>?_);exact bB;exact bB
theorem T69 {x1:Int} {B:YM} (k:B.sm):Ok (F69 x1 B) (fun _=>True):=by
 unfold F69;refine bS (T47 k) fun⟨X,Y⟩=>?_;have y:=k.Cells;refine oU (l:=B.Cells) (fun q=>q.2) (pR2 k.Cells (by decide)) rfl (fun K m q358 o a e c g=>?_) (fun q358 a=>?_) fun W=>?_;obtain⟨C,D⟩:=q358;dsimp only at a e c g;simp only[e,c,nt];have j:=k.CellsE _ o;have z:=j.Clefs;refine oU (l:=m.Clefs) (fun q=>q.2) (pR2 j.Clefs (by decide)) rfl (fun L G q371 v b f d i=>?_) (fun q371 b=>?_) fun V=>?_;obtain⟨t,u⟩:=q371;dsimp only at b f d i;simp only[f,c,d,nt];refine Ob (P:=fun r=>¬r=true->¬t=true) ?_ fun E n=>?_;refine Oi (fun _=>.mk (fun h=>absurd rfl h)) (fun c374=>?_);refine bS (T68) fun O=>?_;exact .mk (fun _=>c374);refine Ob (P:=fun r=>¬r=true->¬E=true) ?_ fun F p=>?_;refine Oi (fun _=>.mk (fun h=>absurd rfl h)) (fun c377=>?_);have M:=n c377;refine bS (Iv) fun R=>?_;exact .mk (fun _=>c377);refine Ob (P:=fun r=>¬r=true->¬F=true) ?_ fun U H=>?_;refine Oi (fun _=>.mk (fun h=>absurd rfl h)) (fun c381=>?_);have s:=p c381;have N:=n s;refine Ob (P:=fun r=>r=true->(decide (u>0))=true) ?_ fun T J=>?_;refine Oi (fun c385=>?_) (fun _=>.mk (fun h=>by cases h));have A:=j.Clefs;refine Ob (P:=fun x=>x∈m.Clefs) (bR (by(simp only[nm]at *;rw[bA (by omega) (by omega)];omega)) (by(simp only[nm]at *;rw[bA (by omega) (by omega)];omega)) (fun _ h _=>h)) fun S w=>?_;exact .mk (fun _=>c385);exact .mk (fun _=>c381);exact .mk i;obtain⟨t,u⟩:=q371;dsimp only at b;simp only[b,nf];exact bB;exact .mk g;obtain⟨C,D⟩:=q358;dsimp only at a;simp only[a,nf];exact bB;exact bB
theorem lQ1 {x1:aA YV} {k:Y0} {t:Int} (p:x1.length+12<=1000000) (f:k.sm):Ok (Dk x1 k t) (fun v=>x1.length<=v.length/\v.length<=x1.length+12):=by
 unfold Dk;have i:=f.Measures;refine og k.Measures x1 12 1 (pR2 f.Measures (by decide)) (fun n l q400 j g a d b c e=>?_) (fun q400 a b=>?_) fun s o=>?_;obtain⟨u,w⟩:=q400;dsimp only at a d c e b;simp only[d,c,nt];have h:=f.MeasuresE _ g;refine bS (T69 h) fun q=>?_;refine Ob (kJ (by first|omega|(simp only[qB2]at *;omega)) f) fun r m=>?_;exact .mk ⟨e,by dsimp only;omega⟩;obtain⟨u,w⟩:=q400;dsimp only at a b;simp only[a,nf];exact .mk (by dsimp only;omega);exact .mk (by omega)
theorem lR1 {x1:aA YV} {w:Y0} {N:Int} (G:x1.length+32<=1000000) (f:w.sm):Ok (bM1 x1 w N) (fun v=>x1.length<=v.length/\v.length<=x1.length+32):=by
 unfold bM1;have q:=f.Parts;refine og w.Parts x1 20 5 (pR2 f.Parts (by decide)) (fun C n q416 s m a h c e j=>?_) (fun q416 a c=>?_) fun L E=>?_;obtain⟨u,o⟩:=q416;dsimp only at a h e j c;simp only[h,e,nt];have l:=f.PartsE _ m;have r:=l.Staves;refine og n.Staves o 5 1 (pR2 l.Staves (by decide)) (fun D z q430 t p b i d g k=>?_) (fun q430 b d=>?_) fun K F=>?_;obtain⟨x,y⟩:=q430;dsimp only at b i g k d;simp only[i,e,g,nt];refine bS (T68) fun H=>?_;refine Ob (kJ (by first|omega|(simp only[qB2]at *;omega)) f) fun J A=>?_;exact .mk ⟨k,by dsimp only;omega⟩;obtain⟨x,y⟩:=q430;dsimp only at b d;simp only[b,nf];exact .mk (by dsimp only;omega);exact .mk ⟨j,by dsimp only;omega⟩;obtain⟨u,o⟩:=q416;dsimp only at a c;simp only[a,nf];exact .mk (by dsimp only;omega);refine Ob (lQ1 (by first|omega|(simp only[qB2]at *;omega)) f) fun M B=>?_;exact .mk (by omega)
theorem fO2 {x1:Int}:Ok (bN1 x1) (fun _=>True):=by
 unfold bN1;refine Oi (fun c435=>?_) (fun c435=>?_);exact bB;exact bB
theorem T71 {x1:Int} {a:YL}:Ok (F71 x1 a) (fun _=>True):=by
 unfold F71;refine Ob fO2 fun c _=>?_;refine Oi (fun _=>bB) (fun _=>?_);refine Oi (fun _=>bB) (fun _=>?_);have hw:=Xr (x1+(aW ((aW (7*a.Semitones))-(aW (12*a.Steps)))));generalize aW (x1+(aW ((aW (7*a.Semitones))-(aW (12*a.Steps)))))=x0 at hw ⊢;refine Ob (P:=fun v=> -9223372036854775808<=v/\v<=7) (cT (fun x=> -9223372036854775808<=x/\x<=9223372036854775807) (fun x=>(x+9223372036854775808).toNat) (fun x b=>?_) bC x0 hw (by simp only[bC];omega)) fun x1 h1=>?_;refine Oi (fun hc=>?_) (fun hc=>?_)<;>simp only[pU2]at hc;rw[bA (by omega) (by omega)];exact .mk ⟨by omega,by omega⟩;exact .mk (by omega);refine Ob (P:=fun v=>True) (cT (fun x=> -9223372036854775808<=x/\x<=7) (fun x=>(7-x).toNat) (fun x b=>?_) bC x1 h1 (by simp only[bC];omega)) fun a _=>bB;refine Oi (fun hc=>?_) (fun hc=>?_)<;>simp only[pU2]at hc;rw[bA (by omega) (by omega)];exact .mk ⟨by omega,by omega⟩;exact bB
theorem T70 {x1:Int} {t:YM} {m:YK} (g:t.sm) (e:m.s'.sm):Ok (F70 x1 t m) (fun _=>True):=by
 unfold F70;refine bS (T47 g) fun⟨z,y⟩=>?_;refine Ob (P:=fun r=>¬r=true->¬(y !=0)=true) ?_ fun B o=>?_;refine Oi (fun _=>.mk (fun h=>absurd rfl h)) (fun c438=>?_);refine bS (Iv) fun A=>?_;exact .mk (fun _=>c438);have i:=e.Parts;refine oU (l:=m.s'.Parts) (fun q=>q.2) (pR2 e.Parts (by decide)) rfl (fun p n q450 f a c b d=>?_) (fun q450 a=>?_) fun x=>?_;obtain⟨j,k⟩:=q450;dsimp only at a c b d;simp only[c,b,nt];have s:=e.PartsE _ f;refine bS ?_ fun w=>?_;refine Oi (fun c454=>?_) (fun c454=>?_);refine bS (T71) fun⟨u,v⟩=>?_;exact bB;exact bB;exact .mk d;obtain⟨j,k⟩:=q450;dsimp only at a;simp only[a,nf];exact bB;exact bB
theorem lS1 {x1:aA YV} {k:Y0} {t:Int} (p:x1.length+12<=1000000) (c:k.sm):Ok (tO x1 k t) (fun v=>x1.length<=v.length/\v.length<=x1.length+12):=by
 unfold tO;have i:=c.Measures;refine og k.Measures x1 12 1 (pR2 c.Measures (by decide)) (fun n l q467 j g a e b d f=>?_) (fun q467 a b=>?_) fun s o=>?_;obtain⟨u,w⟩:=q467;dsimp only at a e d f b;simp only[e,d,nt];have h:=c.MeasuresE _ g;refine bS (T70 h c) fun q=>?_;refine Ob (kJ (by first|omega|(simp only[qB2]at *;omega)) c) fun r m=>?_;exact .mk ⟨f,by dsimp only;omega⟩;obtain⟨u,w⟩:=q467;dsimp only at a b;simp only[a,nf];exact .mk (by dsimp only;omega);exact .mk (by omega)
theorem lT1 {x1:aA YV} {c:Y0} {e:Int} (d:x1.length+12<=1000000) (a:c.sm):Ok (Wl x1 c e) (fun v=>x1.length<=v.length/\v.length<=x1.length+12):=by
 unfold Wl;refine Ob (lS1 (by first|omega|(simp only[qB2]at *;omega)) a) fun f b=>?_;exact .mk (by omega)
theorem tS {x1 a:Int}:Ok (pA x1 a) (fun _=>True):=by
 unfold pA;refine Oi (fun c473=>?_) (fun c473=>?_);exact bB;exact bB
theorem Xy {x1:aA Int} (e:x1.length<=20):Ok (Ic x1) (fun _=>True):=by
 unfold Ic;have g:=e;refine oU (l:=x1) (fun q=>q) (pR2 e (by decide)) rfl (fun i h j f a c b d=>?_) (fun j a=>?_) fun k=>?_;simp only[c,b,nt];refine Oi (fun c485=>?_) (fun c485=>?_);exact bB;exact .mk d;simp only[a,nf];exact bB;rcases k with m|_;exact bB;exact bB
theorem vS1 {x1:Int}:Ok (Wm x1) (fun _=>True):=by
 unfold Wm;exact bB
theorem fP2 {x1:Int}:Ok (bP1 x1) (fun _=>True):=by
 unfold bP1;refine Oi (fun c486=>?_) (fun c486=>?_);exact bB;exact bB
theorem fQ2 {x1:YE} (c:x1.sm):Ok (bQ1 x1) (fun v=>v.sm):=by
 unfold bQ1;refine Ob (P:=fun r=>¬r=true->¬(x1.Kind==1)=true) ?_ fun e a=>?_;refine Oi (fun _=>.mk (fun h=>absurd rfl h)) (fun c488=>?_);refine bS (vS1) fun d=>?_;exact .mk (fun _=>c488);refine Oi (fun c490=>?_) (fun c490=>?_);exact .mk (by first|assumption|exact⟨qJ2 _,qJ2 _,qJ2 _,fun _ h=>nomatch h⟩);have b:=a c490;refine bS ?_ fun f=>?_;refine Oi (fun c493=>?_) (fun c493=>?_);exact bB;exact bB;refine bS ?_ fun i=>?_;refine Oi (fun c495=>?_) (fun c495=>?_);refine bS (fP2) fun g=>?_;exact bB;exact bB;exact .mk (by first|assumption|exact⟨qJ2 _,qJ2 _,qJ2 _,fun _ h=>nomatch h⟩)
theorem fR2 {x1 m:aA YB} (e:x1.length<=12) (f:m.length<=12):Ok (bR1 x1 m) (fun _=>True):=by
 unfold bR1;refine Oi (fun c497=>?_) (fun c497=>?_);exact bB;have j:=e;refine oU (l:=x1) (fun q=>q) (pR2 e (by decide)) rfl (fun o n p g a c b d=>?_) (fun p a=>?_) fun r=>?_;simp only[c,b,nt];have k:=f;refine Ob (P:=fun x=>x∈m) (bR (by omega) (by(simp only[nm]at *;omega)) (fun _ h _=>h)) fun s i=>?_;refine Oi (fun c512=>?_) (fun c512=>?_);exact bB;exact .mk d;simp only[a,nf];exact bB;rcases r with _|_;exact bB;exact bB
theorem fS2 {x1 m:aA YD} (e:x1.length<=12) (f:m.length<=12):Ok (bS1 x1 m) (fun _=>True):=by
 unfold bS1;refine Oi (fun c513=>?_) (fun c513=>?_);exact bB;have j:=e;refine oU (l:=x1) (fun q=>q) (pR2 e (by decide)) rfl (fun o n p g a c b d=>?_) (fun p a=>?_) fun r=>?_;simp only[c,b,nt];have k:=f;refine Ob (P:=fun x=>x∈m) (bR (by omega) (by(simp only[nm]at *;omega)) (fun _ h _=>h)) fun s i=>?_;refine Oi (fun c528=>?_) (fun c528=>?_);exact bB;exact .mk d;simp only[a,nf];exact bB;rcases r with _|_;exact bB;exact bB
theorem fT2 {x1 k:aA YY} (g:x1.length<=12) (i:∀y∈x1,y.sm) (m:k.length<=12) (j:∀y∈k,y.sm):Ok (bT1 x1 k) (fun _=>True):=by
 unfold bT1;refine Oi (fun c529=>?_) (fun c529=>?_);exact bB;have n:=g;refine oU (l:=x1) (fun q=>q) (pR2 g (by decide)) rfl (fun r p u d a c b f=>?_) (fun u a=>?_) fun v=>?_;simp only[c,b,nt];have s:=i _ d;have o:=m;refine Ob (P:=fun x=>x∈k) (bR (by omega) (by(simp only[nm]at *;omega)) (fun _ h _=>h)) fun w e=>?_;have t:=j _ e;refine Oi (fun c546=>?_) (fun c546=>?_);exact bB;exact .mk f;simp only[a,nf];exact bB;rcases v with _|_;exact bB;exact bB
theorem fU2 {x1 a:YE} (b:x1.sm) (c:a.sm):Ok (bU1 x1 a) (fun _=>True):=by
 unfold bU1;refine Ob (P:=fun r=>r=true->(((((((x1.Kind==a.Kind)&&(((x1.Value.Log==a.Value.Log)&&((x1.Value.Dots==a.Value.Dots)&&true))!=false))&&(x1.Articulations==a.Articulations))&&(x1.Ornament==a.Ornament))&&(x1.Dynamic==a.Dynamic))&&(x1.Stem==a.Stem))&&(x1.Beam==a.Beam))=true) ?_ fun k d=>?_;refine Oi (fun c548=>?_) (fun _=>.mk (fun h=>by cases h));refine bS (fR2 b.Heads c.Heads) fun m=>?_;exact .mk (fun _=>c548);refine Ob (P:=fun r=>r=true->k=true) ?_ fun l e=>?_;refine Oi (fun c551=>?_) (fun _=>.mk (fun h=>by cases h));have i:=d c551;refine bS (fS2 b.Graces c.Graces) fun n=>?_;exact .mk (fun _=>c551);refine Ob (P:=fun r=>r=true->l=true) ?_ fun p g=>?_;refine Oi (fun c555=>?_) (fun _=>.mk (fun h=>by cases h));have f:=e c555;have j:=d f;refine bS (fT2 b.Lyrics b.LyricsE c.Lyrics c.LyricsE) fun o=>?_;exact .mk (fun _=>c555);exact bB
theorem vT1 {x1:YA}:Ok (Wn x1) (fun v=>v=0-> -1<=x1.Log/\x1.Log<=8/\0<=x1.Dots/\x1.Dots<=3):=by
 unfold Wn;refine Oi (fun c559=>?_) (fun c559=>?_);exact .mk (by omega);exact .mk (by(simp only[nm]at *;omega))
theorem fV2:Ok (bV1) (fun _=>True):=by
 unfold bV1;exact bB
theorem vU1 {x1:YH} (b:0<=x1.Step/\x1.Step<=6):Ok (Wo x1) (fun _=>True):=by
 unfold Wo;refine bS (fV2) fun c=>?_;refine Ob (bR (Q:=fun _=>True) (by omega) (by(simp only[nm,nl]at *;omega)) (fun _ _ _=>trivial)) fun d a=>?_;exact bB
theorem fW2 {x1:YH}:Ok (bW1 x1) (fun v=>v=0->0<=x1.Step/\x1.Step<=6):=by
 unfold bW1;refine Oi (fun c562=>?_) (fun c562=>?_);exact .mk (by omega);refine bS (vU1 (by(simp only[nm]at *;omega))) fun a=>?_;refine Oi (fun c564=>?_) (fun c564=>?_);exact .mk (by omega);exact .mk (by(simp only[nm]at *;omega))
theorem T80 {x1:YH}:Ok (F80 x1) (fun _=>True):=by
 unfold F80;refine Ob (fW2) fun b a=>?_;refine Oi (fun c566=>?_) (fun c566=>?_);exact bB;refine bS (vU1 (by(simp only[nm]at *;omega))) fun c=>?_;exact bB
theorem lU1 {x1:YH}:Ok (Re x1) (fun _=>True):=by
 unfold Re;refine bS (T80) fun⟨a,b⟩=>?_;refine Oi (fun c569=>?_) (fun c569=>?_);exact bB;exact bB
theorem fY2 {x1:YB}:Ok (bX1 x1) (fun _=>True):=by
 unfold bX1;refine bS (lU1) fun⟨a,b⟩=>?_;refine bS (tS) fun c=>?_;refine bS (Xy (by simp)) fun d=>?_;exact bB
theorem fZ2 {x1:aA YB} (e:x1.length<=12):Ok (bY1 x1) (fun _=>True):=by
 unfold bY1;refine Oi (fun c573=>?_) (fun c573=>?_);exact bB;refine Oi (fun c574=>?_) (fun c574=>?_);exact bB;have g:=e;refine oU (l:=x1) (fun q=>q.2) (pR2 e (by decide)) rfl (fun j i q585 f a c b d=>?_) (fun q585 a=>?_) fun h=>?_;obtain⟨o,p⟩:=q585;dsimp only at a c b d;simp only[c,b,nt];refine bS (fY2) fun r=>?_;refine Oi (fun c588=>?_) (fun c588=>?_);exact bB;refine bS (lU1) fun⟨k,m⟩=>?_;refine Oi (fun c590=>?_) (fun c590=>?_);exact bB;exact .mk d;obtain⟨o,p⟩:=q585;dsimp only at a;simp only[a,nf];exact bB;rcases h with n|_;exact bB;exact bB
theorem gA2 {x1:aA YD} (e:x1.length<=12):Ok (bZ1 x1) (fun _=>True):=by
 unfold bZ1;refine Oi (fun c591=>?_) (fun c591=>?_);exact bB;have g:=e;refine oU (l:=x1) (fun q=>q) (pR2 e (by decide)) rfl (fun j i k f a c b d=>?_) (fun k a=>?_) fun h=>?_;simp only[c,b,nt];refine bS (lU1) fun⟨m,n⟩=>?_;refine Oi (fun c604=>?_) (fun c604=>?_);exact bB;refine Oi (fun c605=>?_) (fun c605=>?_);exact bB;exact .mk d;simp only[a,nf];exact bB;rcases h with o|_;exact bB;exact bB
theorem gB2 {x1:YY} (a:x1.sm):Ok (cA1 x1) (fun _=>True):=by
 unfold cA1;refine Oi (fun _=>bB) (fun _=>?_);refine Oi (fun _=>bB) (fun _=>?_);have hs:=a.Text;refine Ob (P:=fun _=>True) (gF (fun q=>q) (x1.Text.size:Int) (fun _=>True) (by omega) (by decide) trivial (fun i _ h1 h2=>?_)) fun r _=>?_;refine Oi (fun hc=>?_) (fun _=>bB);simp only[pU2]at hc;refine Ob (tQ h1 hc) fun b _=>?_;refine Ob (P:=fun _=>True) (Oi (fun _=>bB) (fun _=>Ob (tQ h1 hc) fun b _=>bB)) fun b _=>?_;exact Oi (fun _=>bB) (fun _=>.mk ⟨hc,h2 hc,trivial⟩);rcases r with _|_;exact bB;exact Oi (fun _=>bB) (fun _=>bB)
theorem gC2 {x1:YY} (a:x1.sm):Ok (cB1 x1) (fun _=>True):=by
 unfold cB1;exact bB
theorem gD2 {x1:aA YY} (c:x1.length<=12) (b:∀y∈x1,y.sm):Ok (cC1 x1) (fun _=>True):=by
 unfold cC1;refine Oi (fun c606=>?_) (fun c606=>?_);exact bB;have n:=c;refine oU (l:=x1) (fun q=>q) (pR2 c (by decide)) rfl (fun s p w f a e d i=>?_) (fun w a=>?_) fun z=>?_;simp only[e,d,nt];have k:=b _ f;refine bS (gB2 k) fun A=>?_;refine Oi (fun c620=>?_) (fun c620=>?_);exact bB;exact .mk i;simp only[a,nf];exact bB;rcases z with B|_;exact bB;refine Ob (P:=fun r=>r=true->(decide ((x1.length:Int)>0))=true) ?_ fun v j=>?_;refine Oi (fun c622=>?_) (fun _=>.mk (fun h=>by cases h));have o:=c;refine Ob (P:=fun x=>x∈x1) (bR (by(simp only[nm]at *;rw[bA (by omega) (by omega)];omega)) (by(simp only[nm]at *;rw[bA (by omega) (by omega)];omega)) (fun _ h _=>h)) fun C g=>?_;have m:=b _ g;refine bS (gC2 m) fun u=>?_;exact .mk (fun _=>c622);refine Oi (fun c628=>?_) (fun c628=>?_);have t:=j c628;exact bB;exact bB
theorem T77 {x1:YE} (a:x1.sm):Ok (F77 x1) (fun _=>True):=by
 unfold F77;refine bS (tS) fun x=>?_;refine bS (tS) fun y=>?_;refine bS (Xy (by simp)) fun z=>?_;refine Oi (fun c633=>?_) (fun c633=>?_);exact bB;refine bS (vS1) fun A=>?_;refine Oi (fun c635=>?_) (fun c635=>?_);exact bB;refine Ob (fQ2 a) fun B b=>?_;refine bS (fU2 a b) fun C=>?_;refine Oi (fun c638=>?_) (fun c638=>?_);exact bB;refine Ob (P:=fun r=>r=true->(x1.Kind !=3)=true) ?_ fun E c=>?_;refine Oi (fun c640=>?_) (fun _=>.mk (fun h=>by cases h));refine Ob (vT1) fun D d=>?_;exact .mk (fun _=>c640);refine Oi (fun c642=>?_) (fun c642=>?_);have e:=c c642;exact bB;refine Oi (fun c644=>?_) (fun c644=>?_);refine bS (fZ2 a.Heads) fun f=>?_;refine bS (gA2 a.Graces) fun g=>?_;refine bS (gD2 a.Lyrics a.LyricsE) fun i=>?_;refine bS (Xy (by simp)) fun j=>?_;refine Oi (fun c649=>?_) (fun c649=>?_);exact bB;refine bS (tS) fun k=>?_;refine bS (tS) fun l=>?_;refine bS (tS) fun m=>?_;refine bS (tS) fun n=>?_;refine bS (tS) fun o=>?_;refine bS (Xy (by simp)) fun p=>?_;exact bB;refine bS (tS) fun q=>?_;refine bS (tS) fun s=>?_;refine bS (tS) fun t=>?_;refine bS (tS) fun u=>?_;refine bS (tS) fun v=>?_;refine bS (Xy (by simp)) fun w=>?_;exact bB
theorem gE2 {x1:YE} (a:x1.sm):Ok (cE1 x1) (fun _=>True):=by
 unfold cE1;refine bS (T77 a) fun b=>?_;exact bB
theorem gF2 {x1:aA YE} (f:x1.length<=20) (g:∀y∈x1,y.sm):Ok (cF1 x1) (fun _=>True):=by
 unfold cF1;have i:=f;refine oU (l:=x1) (fun q=>q) (pR2 f (by decide)) rfl (fun k j m d a c b e=>?_) (fun m a=>?_) fun n=>?_;simp only[c,b,nt];have h:=g _ d;refine bS (gE2 h) fun o=>?_;refine Oi (fun c676=>?_) (fun c676=>?_);exact bB;exact .mk e;simp only[a,nf];exact bB;rcases n with p|_;exact bB;exact bB
theorem vV1 {x1:aA YE} (b:x1.length<=20) (a:∀y∈x1,y.sm):Ok (Wq x1) (fun _=>True):=by
 unfold Wq;refine bS (gF2 b a) fun c=>?_;exact bB
theorem vW1 {x1:YO} (b:x1.sm):Ok (cG1 x1) (fun _=>True):=by
 unfold cG1;refine Ob (P:=fun r=>r=true->(decide ((x1.Events.length:Int)>0))=true) ?_ fun g d=>?_;refine Oi (fun c679=>?_) (fun _=>.mk (fun h=>by cases h));have c:=b.Events;refine Ob (P:=fun x=>x∈x1.Events) (bR (by omega) (by(simp only[nm]at *;omega)) (fun _ h _=>h)) fun f a=>?_;have e:=b.EventsE _ a;exact .mk (fun _=>c679);exact bB
theorem gG2 {x1:YA} (b: -1<=x1.Log/\x1.Log<=8/\0<=x1.Dots/\x1.Dots<=3):Ok (cH1 x1) (fun _=>True):=by
 unfold cH1;refine Ob (sH (by rw[bA (by omega) (by omega)];omega)) fun n _=>?_;refine Ob (P:=fun _=>True) (gF (fun q=>q.2.2) x1.Dots (fun _=>True) (by omega) (by dsimp only;omega) trivial (fun q _ h1 h2=>?_)) fun r _=>bB;obtain⟨a,n,i⟩:=q;dsimp only at h1 h2 ⊢;refine Oi (fun hc=>?_) (fun _=>bB);simp only[pU2]at hc;exact Ob (kV (by decide)) fun x _=>.mk ⟨hc,h2 hc,trivial⟩
theorem gH2 {x1:YA}:Ok (cI1 x1) (fun _=>True):=by
 unfold cI1;refine Ob (vT1) fun b a=>?_;refine Oi (fun c685=>?_) (fun c685=>?_);exact bB;refine bS (gG2 (by(simp only[nm]at *;omega))) fun c=>?_;exact bB
theorem vX1 {x1:YE} (a:x1.sm):Ok (cJ1 x1) (fun _=>True):=by
 unfold cJ1;refine bS (T77 a) fun b=>?_;refine Oi (fun c688=>?_) (fun c688=>?_);exact bB;refine bS (gH2) fun⟨c,d⟩=>?_;exact bB
theorem gI2 {x1:aA YE} (g:x1.length<=20) (c:∀y∈x1,y.sm):Ok (Rg x1) (fun v=>v.length<=20):=by
 unfold Rg;refine Ob (kF (by omega) (by omega) (by omega)) fun n h2=>?_;refine Ob (P:=fun v=>v.length=x1.length) (bD (l:=x1) (fun q=>q.1) (fun _ q=>q.2.length=x1.length) (by omega) rfl (by rw[h2];simp) (fun i e q k f hi hl d hg hw=>?_) (fun q hi d=>?_)) fun v hv=>.mk (by omega);obtain⟨x,l⟩:=q;dsimp only at hi hl d hg hw;simp only[hl,hg,nt];refine Ob (vX1 (c e f)) fun⟨a,b⟩ _=>?_;refine Ob (eT (by omega) (by omega)) fun j h=>?_;refine Ob (Em (by omega)) fun m f=>.mk ⟨hw,by dsimp only;omega⟩;obtain⟨x,l⟩:=q;dsimp only at hi d;simp only[hi,nf];exact .mk d
theorem vY1 {x1:Int}:Ok (Wr x1) (fun v=>v=true->1<=x1/\x1<=32):=by
 unfold Wr;exact .mk (by(simp only[nm]at *;omega))
theorem gJ2 {x1 a:YU}:Ok (cK1 x1 a) (fun _=>True):=by
 unfold cK1;refine Oi (fun c690=>?_) (fun c690=>?_);refine Oi (fun c691=>?_) (fun c691=>?_);exact bB;exact bB;refine Oi (fun c692=>?_) (fun c692=>?_);refine Oi (fun c693=>?_) (fun c693=>?_);exact bB;exact bB;exact bB
theorem fS1 {x1:YU}:Ok (Ks x1) (fun v=>v=aW (x1.First+x1.Count)):=by
 unfold Ks;exact .mk (by rfl)
theorem vZ1 {x1:YU} {a:aA YU} (g:a.length<=6) (i:a.length<=3):Ok (Nw x1 a) (fun v=>v.2.length<=3):=by
 unfold Nw;refine Ob (P:=fun v=>v.length<=3) (cT (fun l=>l.length<=3) (fun l=>l.length) (fun l hl=>?_) bC a i (by simp only[bC];omega)) fun x d=>?_;refine Ob (P:=fun r=>r=true->0<l.length) (Oi (fun hc=>?_) (fun _=>.mk (fun h=>by cases h))) fun b hb=>?_;simp only[pU2]at hc;refine Ob (eT (by rw[bA (by omega) (by omega)];omega) (by rw[bA (by omega) (by omega)];omega)) fun j c=>?_;exact Ob (gO c.2) fun y _=>Ob fS1 fun e _=>.mk (fun _=>by omega);refine Oi (fun hc=>?_) (fun _=>.mk hl);have:=hb hc;refine Ob (Ru this (by rw[bA (by omega) (by omega)];omega) (by rw[bA (by omega) (by omega)];omega)) fun m f=>?_;have:=f.1;rw[bA (by omega) (by omega)]at this;exact .mk ⟨by omega,by omega⟩;refine Ob (P:=fun r=>r=true\/x.length<3) (Oi (fun hc=>.mk (.inl rfl)) (fun hc=>?_)) fun b hb=>?_;have hc:x.length<3:=by simp only[rM2]at hc;omega
 refine Ob (P:=fun _=>True) (Oi (fun hd=>?_) (fun _=>bB)) fun b _=>.mk (.inr hc);simp only[pU2]at hd;refine Ob fS1 fun e _=>?_;refine Ob (eT (by rw[bA (by omega) (by omega)];omega) (by rw[bA (by omega) (by omega)];omega)) fun j c=>?_;exact Ob (gO c.2) fun y _=>Ob fS1 fun e _=>bB;refine Oi (fun _=>.mk d) (fun hc=>?_);have hb:x.length<3:=by rcases hb with h|h;exact absurd h hc;exact h
 refine Ob (cW (Q:=fun v=>v.length=x.length+1) (by omega) (by simp)) fun m f=>.mk (by dsimp only;omega)
theorem wA1 {x1:aA YU} {c:Int} (w:x1.length<=6):Ok (cL1 x1 c) (fun v=>v=0->∀t∈x1,t.ok c):=by
 unfold cL1;refine Oi (fun _=>.mk (fun h=>by cases h)) (fun k=>?_);refine Oi (fun _=>.mk (fun h=>by cases h)) (fun _=>?_);simp only[qC2,pU2,sI2]at k;refine Ob (P:=fun r=>match r with|.inl p=>p.1≠0|.inr _=>∀t∈x1,t.ok c) (bD (l:=x1) (fun q=>q.1) (fun i q=>q.2.length<=3/\∀j,j<i->∀t,x1[j]? =some t->t.ok c) (by omega) rfl ⟨by decide,fun j g=>by omega⟩ (fun i e q z u hi hl d hg hw=>?_) (fun q hi d=>?_)) fun v hv=>?_;obtain⟨x,l⟩:=q;dsimp only at hi hl d hg hw;simp only[hl,hg,nt];refine Ob (P:=fun r=>r=false->(1<=e.Count/\e.Count<=c/\0<=e.First/\e.First+e.Count<=c/\1<=e.Actual/\e.Actual<=32)) (Oi (fun _=>.mk (fun h=>by cases h)) (fun hc=>?_)) fun b1 h1=>?_;simp only[qC2,pU2,sI2]at hc;rw[bA (by omega) (by omega)]at hc;refine Ob vY1 fun r hr=>.mk (fun h=>?_);have:=hr (by simpa using h);omega;refine Ob (P:=fun r=>r=false->e.ok c) (Oi (fun hc=>.mk (fun h=>by cases h)) (fun hc=>?_)) fun b2 h2=>?_;refine Ob vY1 fun r hr=>.mk (fun h=>?_);have:=hr (by simpa using h);have:=h1 (by simpa using hc);unfold YU.ok;omega;refine Oi (fun _=>.mk (show(2:Int)≠0 by decide)) (fun hc=>?_);have s:e.ok c:=h2 (by simp only[qC2,sI2,tA2]at hc;exact hc.1);refine Ob (P:=fun _=>True) (Oi (fun hd=>?_) (fun _=>bB)) fun b3 _=>?_;simp only[pU2]at hd;have:=cD hg;refine Ob (bR (Q:=fun _=>True) (by rw[bA (by omega) (by omega)];omega) (by rw[bA (by omega) (by omega)];omega) (fun _ _ _=>trivial)) fun y _=>?_;exact Ob gJ2 fun o _=>bB;refine Oi (fun _=>.mk (show(25:Int)≠0 by decide)) (fun _=>?_);refine Ob (vZ1 (qT2 d.1 (by decide)) d.1) fun⟨a,m⟩ u=>?_;refine Oi (fun _=>.mk (show(21:Int)≠0 by decide)) (fun _=>.mk ⟨hw,u,fun j g t f=>?_⟩);by_cases n:j=i;subst n;rw[z]at f;cases f;exact s;exact d.2 j (by omega) t f;obtain⟨x,l⟩:=q;dsimp only at hi d;simp only[hi,nf];refine .mk (fun t f=>?_);obtain⟨j,g⟩:=qG2.1 f;exact d.2 j (pO2.1 g).1 t g;rcases v with⟨a,b⟩|b;exact .mk (fun h=>absurd h hv);exact .mk (fun _=>hv)
theorem wB1 {x1:YU} {a:Int}:Ok (cM1 x1 a) (fun _=>True):=by
 unfold cM1;exact bB
theorem wC1 {x1 c:Int} (k:0<x1/\0<c/\c<9223372036854775808):Ok (cN1 x1 c) (fun v=>0<v/\v∣x1/\v∣c):=by
 unfold cN1;refine Ob (P:=fun v=>0<v/\v∣x1/\v∣c) (cT (fun q=>0<q.1/\0<=q.2/\∀d:Int,d∣q.1->d∣q.2->d∣x1/\d∣c) (fun q=>q.2.toNat) (fun q j=>?_) bC (x1,c) ⟨k.1,by dsimp only;omega,fun d h1 h2=>⟨h1,h2⟩⟩ (by simp only[bC];omega)) fun v hv=>.mk hv;obtain⟨a,b⟩:=q;obtain⟨h1,h2,g⟩:=j;dsimp only at h1 h2 g;refine Oi (fun hc=>?_) (fun hc=>?_)<;>simp only[pU2]at hc;refine Ob (vX (by omega)) fun n i=>?_;have h:n=a%b:=by rw[i,Int.tmod_eq_emod_of_nonneg (by omega)]
 have e2:=Int.emod_nonneg a (by omega:b≠0);have l:=Int.emod_lt_of_pos a hc;refine .mk ⟨⟨hc,by dsimp only;omega,fun d e f=>g d ?_ e⟩,by dsimp only;omega⟩;dsimp only at e f;rw[h]at f;have:=Int.emod_add_mul_ediv a b;rw[<-this];exact Int.dvd_add f (Int.dvd_trans e (Int.dvd_mul_right b _));have:b=0:=by omega
 subst this;exact .mk ⟨h1,g a (Int.dvd_refl a) (Int.dvd_zero a)⟩
theorem gK2 {x1:aA YU} {G:Int} (u:x1.length<=6) (B:∀t∈x1,1<=t.Actual/\t.Actual<=32/\1<=t.Normal/\t.Normal<=32):Ok (Rh x1 G) (fun v=>1<=v.2):=by
 unfold Rh;refine Ob (P:=fun v=>1<=v.2) (bD (l:=x1) (fun q=>q.2.2) (fun i q=>1<=q.1/\q.1<=32^i/\1<=q.2.1/\q.2.1<=32^i) (by omega) rfl ⟨by decide,by decide,by decide,by decide⟩ (fun i e q C y hi hl f hg hw=>?_) (fun q hi f=>?_)) fun v hv=>.mk hv;obtain⟨a,b,x⟩:=q;dsimp only at hi hl f hg hw;simp only[hl,hg,nt];have j:=B e y;refine Ob wB1 fun c _=>?_;have w:i<=5:=by omega
 have z:(32:Int)^i<=33554432:=by
  have:i=0\/i=1\/i=2\/i=3\/i=4\/i=5:=by omega
  rcases this with rfl|rfl|rfl|rfl|rfl|rfl<;>decide
 have A:(32:Int)^(i+1)=32^i*32:=Int.pow_succ 32 i;refine Ob (P:=fun v=>1<=v.1/\v.1<=32^(i+1)/\1<=v.2/\v.2<=32^(i+1)) (Oi (fun _=>?_) (fun _=>?_)) fun⟨v1,v2⟩ hv=>.mk ⟨hw,hv⟩;have E:1<=a*e.Normal:=Int.le_trans (by decide) (rL2 f.1 j.2.2.1 (by decide) (by omega));have F:a*e.Normal<=32^i*32:=rL2 f.2.1 j.2.2.2 (by omega) (by omega);have r:1<=b*e.Actual:=Int.le_trans (by decide) (rL2 f.2.2.1 j.1 (by decide) (by omega));have s:b*e.Actual<=32^i*32:=rL2 f.2.2.2 j.2.1 (by omega) (by omega);rw[bA (n:=a*e.Normal) (by omega) (by omega),bA (n:=b*e.Actual) (by omega) (by omega)];generalize a*e.Normal=N at E F ⊢;generalize b*e.Actual=D at r s ⊢;refine Ob (wC1 ⟨by omega,by omega,by omega⟩) fun g hg=>?_;obtain⟨H,⟨k,rfl⟩,⟨m,rfl⟩⟩:=hg
 have J:1<=k:=by
  rcases Int.lt_or_le k 1 with h|h;have:=Int.mul_nonneg (a:=g) (b:= -k) (by omega) (by omega);rw[Int.mul_neg]at this;omega;exact h
 have L:1<=m:=by
  rcases Int.lt_or_le m 1 with h|h;have:=Int.mul_nonneg (a:=g) (b:= -m) (by omega) (by omega);rw[Int.mul_neg]at this;omega;exact h
 have K:k<=g*k:=by
  have:=rL2 (a:=1) (b:=k) (c:=g) (d:=k) (by omega) (rH2 k) (by omega) (by omega);omega
 have M:m<=g*m:=by
  have:=rL2 (a:=1) (b:=m) (c:=g) (d:=m) (by omega) (rH2 m) (by omega) (by omega);omega
 refine Ob (kV (by omega)) fun q1 o=>?_;refine Ob (kV (by omega)) fun q2 p=>?_;rw[Int.mul_tdiv_cancel_left k (by omega),show IntKind.wrap .i64 k=aW k from rfl,bA (by omega) (by omega)]at o;rw[Int.mul_tdiv_cancel_left m (by omega),show IntKind.wrap .i64 m=aW m from rfl,bA (by omega) (by omega)]at p;exact .mk ⟨by dsimp only;omega,by dsimp only;omega,by dsimp only;omega,by dsimp only;omega⟩;exact .mk ⟨f.1,by dsimp only;omega,f.2.2.1,by dsimp only;omega⟩;obtain⟨a,b,x⟩:=q;dsimp only at hi f;simp only[hi,nf];exact .mk f.2.2.1
theorem wD1 {x1:aA YU} {e f:Int} (b:x1.length<=6) (g:∀t∈x1,1<=t.Actual/\t.Actual<=32/\1<=t.Normal/\t.Normal<=32):Ok (Kt x1 e f) (fun _=>True):=by
 unfold Kt;refine Oi (fun c694=>?_) (fun c694=>?_);exact bB;refine Ob (gK2 b (by omega)) fun⟨h,i⟩ a=>?_
 try dsimp only at a
 refine Ob (vX (by omega)) fun j c=>?_;refine Oi (fun c697=>?_) (fun c697=>?_);exact bB;refine Ob (kV (by omega)) fun k d=>?_;exact bB
theorem wE1 {x1:aA YU} {f:aA Int} (d:x1.length<=6) (j:f.length<=20):Ok (Ku x1 f) (fun v=>v.1.length<=20/\(v.2=0->∀t∈x1,t.ok f.length)):=by
 unfold Ku;refine Ob (wA1 d) fun c hc=>?_;refine Oi (fun hd=>.mk ⟨qJ2 _,fun h=>absurd h (by simpa using hd)⟩) (fun hd=>?_);have k:=hc (by simpa using hd);refine Ob (kF (by decide) (by omega) (by omega)) fun u n=>?_;refine Ob (P:=fun r=>match r with|.inl p=>p.1≠0|.inr l=>l.length<=f.length) (bD (l:=f) (fun q=>q.1) (fun i q=>q.2.length<=i) (by omega) rfl (by rw[n];decide) (fun i e q s o hi hl g hg hw=>?_) (fun q hi g=>?_)) fun v hv=>?_;obtain⟨x,l⟩:=q;dsimp only at hi hl g hg hw;simp only[hl,hg,nt];refine Ob (wD1 d (fun t h=>by have:=k t h;unfold YU.ok at this;omega)) fun⟨a,b⟩ _=>?_;refine Oi (fun hb=>.mk (by simpa using hb)) (fun _=>?_);exact Ob (cW (Q:=fun v=>v.length=l.length+1) (by omega) (by simp)) fun m o=>.mk ⟨hw,by dsimp only;omega⟩;obtain⟨x,l⟩:=q;dsimp only at hi g;simp only[hi,nf];exact .mk g;rcases v with⟨a,b⟩|b;exact .mk ⟨qJ2 _,fun h=>absurd h hv⟩;exact .mk ⟨qT2 hv j,fun _=>k⟩
theorem gL2 {x1:aA YU} {d:Int} {f:aA Int} (k:x1.length<=6) (m:f.length<=20) (j:0<=d/\d<(x1.length:Int)) (hy:∀t∈x1,t.ok f.length):Ok (cO1 x1 d f) (fun _=>True):=by
 unfold cO1;refine Ob (bR (Q:=fun x=>x∈x1) j.1 j.2 (fun _ h _=>h)) fun g c=>?_;have o:=hy g c;unfold YU.ok at o;refine Ob (P:=fun _=>True) (gF (fun q=>q.2) (g.First+g.Count) (fun _=>True) (by omega) (by dsimp only;omega) trivial (fun q _ h1 h2=>?_)) fun r _=>?_;obtain⟨s,i⟩:=q;dsimp only at h1 h2 ⊢;refine Ob fS1 fun e he=>?_;rw[bA (by omega) (by omega)]at he;subst he;refine Oi (fun hc=>?_) (fun _=>bB);simp only[pU2]at hc;refine Ob (Bq (by rw[bA (by omega) (by omega)];omega) (by rw[bA (by omega) (by omega)];omega) (by omega)) fun l hl=>?_;refine Ob (bR (Q:=fun _=>True) (by omega) (by omega) (fun _ _ _=>trivial)) fun y _=>?_;refine Ob (wD1 (by omega) (fun t h=>by have:=hy t (hl.2 t h);unfold YU.ok at this;omega)) fun⟨a,b⟩ _=>?_;exact Oi (fun _=>bB) (fun _=>.mk ⟨hc,h2 hc,trivial⟩);rcases r with a|a;exact bB;refine Ob (P:=fun _=>True) (gF (fun q=>q) 9 (fun _=>True) (by decide) (by decide) trivial (fun q _ h1 h2=>?_)) fun r _=>?_;refine Oi (fun hc=>?_) (fun _=>bB);simp only[pU2]at hc;refine Ob (sH (by rw[bA (by omega) (by omega)];omega)) fun n _=>?_;exact Oi (fun _=>bB) (fun _=>.mk ⟨by omega,h2 (by omega),trivial⟩);rcases r with a|a<;>exact bB
theorem wF1 {x1:aA YU} {h:aA Int} (c:x1.length<=6) (d:h.length<=20):Ok (cP1 x1 h) (fun _=>True):=by
 unfold cP1;refine Ob (wE1 c d) fun⟨a,b⟩ f=>?_;dsimp only at f;refine Oi (fun _=>bB) (fun hd=>?_);have n:=f.2 (by simpa using hd);refine Ob (kF (by decide) (by omega) (by omega)) fun p j=>?_;refine Ob (P:=fun _=>True) (bD (l:=x1) (fun q=>q.1) (fun i q=>q.2.length<=i) (by omega) rfl (by rw[j];decide) (fun i e q o k hi hl g hg hw=>?_) (fun q hi g=>?_)) fun v hv=>?_;obtain⟨x,l⟩:=q;dsimp only at hi hl g hg hw;simp only[hl,nt];refine Ob (gL2 c d ⟨by omega,hl⟩ n) fun⟨a,b⟩ _=>?_;refine Oi (fun hb=>bB) (fun _=>?_);exact Ob (cW (Q:=fun v=>v.length=l.length+1) (by omega) (by simp)) fun m k=>.mk ⟨hw,by dsimp only;omega⟩;obtain⟨x,l⟩:=q;dsimp only at hi g;simp only[hi,nf];exact bB;rcases v with a|b<;>exact bB
theorem gM2 {x1:YO} (a:x1.sm):Ok (Ri x1) (fun v=>v.1.length<=20):=by
 unfold Ri;have j:=a.Events;refine oU (l:=x1.Events) (fun q=>q) (pR2 a.Events (by decide)) rfl (fun m k s f b e d g=>?_) (fun s b=>?_) fun t=>?_;simp only[e,d,nt];have i:=a.EventsE _ f;refine bS (T77 i) fun u=>?_;refine Oi (fun c712=>?_) (fun c712=>?_);exact bB;refine Oi (fun c713=>?_) (fun c713=>?_);exact bB;exact .mk g;simp only[b,nf];exact bB;rcases t with w|_;exact .mk (by(simp only[nm,nl]at *;omega));refine Ob (gI2 a.Events a.EventsE) fun x c=>?_;refine Ob (wE1 a.Tuplets c) fun⟨n,o⟩ h=>?_
 try dsimp only at h
 refine Oi (fun c716=>?_) (fun c716=>?_);exact .mk (by(simp only[nm,nl]at *;omega));refine bS (wF1 a.Tuplets c) fun⟨p,r⟩=>?_;refine Oi (fun c718=>?_) (fun c718=>?_);exact .mk (by(simp only[nm,nl]at *;omega));exact .mk (by(simp only[nm]at *;omega))
theorem gN2 {x1:YO} {f:Int} (a:x1.sm):Ok (Rj x1 f) (fun v=>v.1.length<=20):=by
 unfold Rj;refine Oi (fun c719=>?_) (fun c719=>?_);exact .mk (by(simp only[nm,nl]at *;omega));refine Oi (fun c720=>?_) (fun c720=>?_);exact .mk (by(simp only[nm,nl]at *;omega));refine bS (vW1 a) fun g=>?_;refine Oi (fun c722=>?_) (fun c722=>?_);have e:=a.Events;refine Ob (P:=fun x=>x∈x1.Events) (bR (by omega) (by(simp only[nm]at *;omega)) (fun _ h _=>h)) fun i b=>?_;have d:=a.EventsE _ b;refine bS (T77 d) fun j=>?_;refine Oi (fun c728=>?_) (fun c728=>?_);exact .mk (by(simp only[nm,nl]at *;omega));refine Oi (fun c729=>?_) (fun c729=>?_);exact .mk (by(simp only[nm,nl]at *;omega));exact .mk (by(simp only[nm,nl]at *;omega));refine Ob (gM2 a) fun⟨k,l⟩ c=>?_
 try dsimp only at c
 exact .mk (by omega)
theorem gO2 {x1:aA Int} (e:x1.length<=20):Ok (Rk x1) (fun _=>True):=by
 unfold Rk;have g:=e;refine oU (l:=x1) (fun q=>q.2) (pR2 e (by decide)) rfl (fun i h q741 f a c b d=>?_) (fun q741 a=>?_) fun m=>?_;obtain⟨j,k⟩:=q741;dsimp only at a c b d;simp only[c,b,nt];exact .mk d;obtain⟨j,k⟩:=q741;dsimp only at a;simp only[a,nf];exact bB;exact bB
theorem wG1 {x1:YO} {e:Int} (c:x1.sm):Ok (Kv x1 e) (fun v=>v.1.length<=20):=by
 unfold Kv;refine Ob (gN2 c) fun⟨f,g⟩ a=>?_
 try dsimp only at a
 refine Ob (P:=fun r=>r=true->((g==0)&&(decide ((f.length:Int)>0)))=true) ?_ fun j b=>?_;refine Oi (fun c745=>?_) (fun _=>.mk (fun h=>by cases h));refine bS (gO2 a) fun i=>?_;exact .mk (fun _=>c745);refine bS ?_ fun k=>?_;refine Oi (fun c748=>?_) (fun c748=>?_);have d:=b c748;exact bB;exact bB;refine Oi (fun c750=>?_) (fun c750=>?_);exact .mk (by(simp only[nm,nl]at *;omega));exact .mk (by omega)
theorem wH1 {x1:YO} {c:Int} (b:x1.sm):Ok (Ws x1 c) (fun _=>True):=by
 unfold Ws;refine Ob (wG1 b) fun⟨d,e⟩ a=>?_
 try dsimp only at a
 exact bB
theorem T73 {x1:Int}:Ok (F73 x1) (fun _=>True):=by
 unfold F73;exact bB
theorem gP2 {x1:YO} {c:Int} (a:x1.sm):Ok (cQ1 x1 c) (fun _=>True):=by
 unfold cQ1;refine bS (vV1 a.Events a.EventsE) fun d=>?_;refine Ob (P:=fun r=>r=true->(!d)=true) ?_ fun g b=>?_;refine Oi (fun c754=>?_) (fun _=>.mk (fun h=>by cases h));refine bS (wH1 a) fun e=>?_;refine bS (T73) fun f=>?_;exact .mk (fun _=>c754);exact bB
theorem gQ2 {x1:aA YO} {m:Int} (f:x1.length<=3) (g:∀y∈x1,y.sm):Ok (cR1 x1 m) (fun _=>True):=by
 unfold cR1;have i:=f;refine oU (l:=x1) (fun q=>q) (pR2 f (by decide)) rfl (fun k j n d a c b e=>?_) (fun n a=>?_) fun o=>?_;simp only[c,b,nt];have h:=g _ d;refine bS (gP2 h) fun p=>?_;refine Oi (fun c770=>?_) (fun c770=>?_);exact bB;exact .mk e;simp only[a,nf];exact bB;rcases o with r|_;exact bB;exact bB
theorem gR2 {x1:aA YO} {c:Int} (b:x1.length<=3) (a:∀y∈x1,y.sm):Ok (cS1 x1 c) (fun _=>True):=by
 unfold cS1;refine bS (gQ2 b a) fun d=>?_;exact bB
theorem gS2 {x1:YW} {b:Int} (a:x1.sm):Ok (cT1 x1 b) (fun _=>True):=by
 unfold cT1;refine bS (gR2 a.Voices a.VoicesE) fun c=>?_;exact bB
theorem gT2 {x1:aA YW} {m:Int} (f:x1.length<=5) (g:∀y∈x1,y.sm):Ok (cU1 x1 m) (fun _=>True):=by
 unfold cU1;have i:=f;refine oU (l:=x1) (fun q=>q) (pR2 f (by decide)) rfl (fun k j n d a c b e=>?_) (fun n a=>?_) fun o=>?_;simp only[c,b,nt];have h:=g _ d;refine bS (gS2 h) fun p=>?_;refine Oi (fun c786=>?_) (fun c786=>?_);exact bB;exact .mk e;simp only[a,nf];exact bB;rcases o with r|_;exact bB;exact bB
theorem gU2 {x1:aA YW} {c:Int} (b:x1.length<=5) (a:∀y∈x1,y.sm):Ok (cV1 x1 c) (fun _=>True):=by
 unfold cV1;refine bS (gT2 b a) fun d=>?_;exact bB
theorem gV2 {x1:Int} {b:YM} (a:b.sm):Ok (cW1 x1 b) (fun _=>True):=by
 unfold cW1;refine bS (T47 a) fun⟨c,d⟩=>?_;refine Oi (fun c789=>?_) (fun c789=>?_);exact bB;refine bS (gU2 a.Cells a.CellsE) fun e=>?_;exact bB
theorem lV1 {x1:aA YV} {k:Y0} {t:Int} (p:x1.length+12<=1000000) (f:k.sm):Ok (Dl x1 k t) (fun v=>x1.length<=v.length/\v.length<=x1.length+12):=by
 unfold Dl;have i:=f.Measures;refine og k.Measures x1 12 1 (pR2 f.Measures (by decide)) (fun n l q802 j g a d b c e=>?_) (fun q802 a b=>?_) fun s o=>?_;obtain⟨u,w⟩:=q802;dsimp only at a d c e b;simp only[d,c,nt];have h:=f.MeasuresE _ g;refine bS (gV2 h) fun q=>?_;refine Ob (kJ (by first|omega|(simp only[qB2]at *;omega)) f) fun r m=>?_;exact .mk ⟨e,by dsimp only;omega⟩;obtain⟨u,w⟩:=q802;dsimp only at a b;simp only[a,nf];exact .mk (by dsimp only;omega);exact .mk (by omega)
theorem gW2 {x1:aA YV} {c:Y0} {e:Int} (d:x1.length+12<=1000000) (a:c.sm):Ok (cY1 x1 c e) (fun v=>x1.length<=v.length/\v.length<=x1.length+12):=by
 unfold cY1;refine Ob (lV1 (by first|omega|(simp only[qB2]at *;omega)) a) fun f b=>?_;exact .mk (by omega)
theorem lW1 {x1:aA YV} {c:Y0} {e:Int} (d:x1.length+12<=1000000) (a:c.sm):Ok (cZ1 x1 c e) (fun v=>x1.length<=v.length/\v.length<=x1.length+12):=by
 unfold cZ1;refine Ob (gW2 (by first|omega|(simp only[qB2]at *;omega)) a) fun f b=>?_;exact .mk (by omega)
theorem T74 {x1:Int}:Ok (F74 x1) (fun _=>True):=by
 unfold F74;refine Ob (P:=fun r=>r=true->(x1 !=0)=true) ?_ fun c a=>?_;refine Oi (fun c810=>?_) (fun _=>.mk (fun h=>by cases h));refine bS (T73) fun b=>?_;exact .mk (fun _=>c810);exact bB
theorem lX1 {x1:YO} {c:Int} (a:x1.sm):Ok (Dm x1 c) (fun _=>True):=by
 unfold Dm;refine bS (vV1 a.Events a.EventsE) fun d=>?_;refine Ob (P:=fun r=>r=true->(!d)=true) ?_ fun g b=>?_;refine Oi (fun c814=>?_) (fun _=>.mk (fun h=>by cases h));refine bS (wH1 a) fun e=>?_;refine bS (T74) fun f=>?_;exact .mk (fun _=>c814);exact bB
theorem lY1 {x1:aA YO} {m:Int} (f:x1.length<=3) (g:∀y∈x1,y.sm):Ok (Dn x1 m) (fun _=>True):=by
 unfold Dn;have i:=f;refine oU (l:=x1) (fun q=>q) (pR2 f (by decide)) rfl (fun k j n d a c b e=>?_) (fun n a=>?_) fun o=>?_;simp only[c,b,nt];have h:=g _ d;refine bS (lX1 h) fun p=>?_;refine Oi (fun c830=>?_) (fun c830=>?_);exact bB;exact .mk e;simp only[a,nf];exact bB;rcases o with r|_;exact bB;exact bB
theorem lZ1 {x1:aA YO} {c:Int} (b:x1.length<=3) (a:∀y∈x1,y.sm):Ok (Dp x1 c) (fun _=>True):=by
 unfold Dp;refine bS (lY1 b a) fun d=>?_;exact bB
theorem mA1 {x1:YW} {b:Int} (a:x1.sm):Ok (Dq x1 b) (fun _=>True):=by
 unfold Dq;refine bS (lZ1 a.Voices a.VoicesE) fun c=>?_;exact bB
theorem mB1 {x1:aA YW} {m:Int} (f:x1.length<=5) (g:∀y∈x1,y.sm):Ok (Dr x1 m) (fun _=>True):=by
 unfold Dr;have i:=f;refine oU (l:=x1) (fun q=>q) (pR2 f (by decide)) rfl (fun k j n d a c b e=>?_) (fun n a=>?_) fun o=>?_;simp only[c,b,nt];have h:=g _ d;refine bS (mA1 h) fun p=>?_;refine Oi (fun c846=>?_) (fun c846=>?_);exact bB;exact .mk e;simp only[a,nf];exact bB;rcases o with r|_;exact bB;exact bB
theorem mC1 {x1:aA YW} {c:Int} (b:x1.length<=5) (a:∀y∈x1,y.sm):Ok (Dt x1 c) (fun _=>True):=by
 unfold Dt;refine bS (mB1 b a) fun d=>?_;exact bB
theorem mD1 {x1:Int} {b:YM} (a:b.sm):Ok (Du x1 b) (fun _=>True):=by
 unfold Du;refine bS (T47 a) fun⟨c,d⟩=>?_;refine Oi (fun c849=>?_) (fun c849=>?_);exact bB;refine bS (mC1 a.Cells a.CellsE) fun e=>?_;exact bB
theorem mE1 {x1:aA YV} {k:Y0} {t:Int} (p:x1.length+12<=1000000) (f:k.sm):Ok (Dv x1 k t) (fun v=>x1.length<=v.length/\v.length<=x1.length+12):=by
 unfold Dv;have i:=f.Measures;refine og k.Measures x1 12 1 (pR2 f.Measures (by decide)) (fun n l q862 j g a d b c e=>?_) (fun q862 a b=>?_) fun s o=>?_;obtain⟨u,w⟩:=q862;dsimp only at a d c e b;simp only[d,c,nt];have h:=f.MeasuresE _ g;refine bS (mD1 h) fun q=>?_;refine Ob (kJ (by first|omega|(simp only[qB2]at *;omega)) f) fun r m=>?_;exact .mk ⟨e,by dsimp only;omega⟩;obtain⟨u,w⟩:=q862;dsimp only at a b;simp only[a,nf];exact .mk (by dsimp only;omega);exact .mk (by omega)
theorem mF1 {x1:aA YV} {c:Y0} {e:Int} (d:x1.length+12<=1000000) (a:c.sm):Ok (Dw x1 c e) (fun v=>x1.length<=v.length/\v.length<=x1.length+12):=by
 unfold Dw;refine Ob (mE1 (by first|omega|(simp only[qB2]at *;omega)) a) fun f b=>?_;exact .mk (by omega)
theorem mG1 {x1:aA YV} {c:Y0} {e:Int} (d:x1.length+12<=1000000) (a:c.sm):Ok (dJ1 x1 c e) (fun v=>x1.length<=v.length/\v.length<=x1.length+12):=by
 unfold dJ1;refine Ob (mF1 (by first|omega|(simp only[qB2]at *;omega)) a) fun f b=>?_;exact .mk (by omega)
theorem T76 {x1:YP} {b:YE} (a:b.sm):Ok (F76 x1 b) (fun _=>True):=by
 unfold F76;refine bS (T77 a) fun c=>?_;exact bB
theorem gX2 {x1:aA YV} {W:Y0} {x3:Int} (d9:x1.length+3600<=1000000) (y:W.sm):Ok (dK1 x1 W x3) (fun v=>x1.length<=v.length/\v.length<=x1.length+3600):=by
 unfold dK1;have N:=y.Measures;refine og W.Measures x1 3600 300 (pR2 y.Measures (by decide)) (fun b4 D q881 S z c m g a q=>?_) (fun q881 c g=>?_) fun d4 d5=>?_;obtain⟨X,K⟩:=q881;dsimp only at c m a q g;simp only[m,a,nt];have u:=y.MeasuresE _ z;have O:=u.Cells;refine og D.Cells K 300 60 (pR2 u.Cells (by decide)) (fun b5 E q895 T A d n h b r=>?_) (fun q895 d h=>?_) fun d3 d6=>?_;obtain⟨Y,L⟩:=q895;dsimp only at d n b r h;simp only[n,a,b,nt];have w:=u.CellsE _ A;have P:=w.Voices;refine og E.Voices L 60 20 (pR2 w.Voices (by decide)) (fun b6 F q909 U B e o i k s=>?_) (fun q909 e i=>?_) fun d2 d7=>?_;obtain⟨Z,M⟩:=q909;dsimp only at e o k s i;simp only[o,a,b,k,nt];have x:=w.VoicesE _ B;have R:=x.Events;refine og F.Events M 20 1 (pR2 x.Events (by decide)) (fun b7 a0 q923 V C f p j l t=>?_) (fun q923 f j=>?_) fun d1 d8=>?_;obtain⟨H,J⟩:=q923;dsimp only at f p l t j;simp only[p,a,b,k,l,nt];have G:=x.EventsE _ C;refine bS (T76 G) fun b8=>?_;refine Ob (kJ (by first|omega|(simp only[qB2]at *;omega)) y) fun b9 b0=>?_;exact .mk ⟨t,by dsimp only;omega⟩;obtain⟨H,J⟩:=q923;dsimp only at f j;simp only[f,nf];exact .mk (by dsimp only;omega);exact .mk ⟨s,by dsimp only;omega⟩;obtain⟨Z,M⟩:=q909;dsimp only at e i;simp only[e,nf];exact .mk (by dsimp only;omega);exact .mk ⟨r,by dsimp only;omega⟩;obtain⟨Y,L⟩:=q895;dsimp only at d h;simp only[d,nf];exact .mk (by dsimp only;omega);exact .mk ⟨q,by dsimp only;omega⟩;obtain⟨X,K⟩:=q881;dsimp only at c g;simp only[c,nf];exact .mk (by dsimp only;omega);exact .mk (by omega)
theorem mH1 {x1:aA YV} {c:Y0} {e:Int} (d:x1.length+3600<=1000000) (a:c.sm):Ok (dL1 x1 c e) (fun v=>x1.length<=v.length/\v.length<=x1.length+3600):=by
 unfold dL1;refine Ob (gX2 (by first|omega|(simp only[qB2]at *;omega)) a) fun f b=>?_;exact .mk (by omega)
theorem T21 {x1:Y0} {d:Int} (c:x1.sm):Ok (F21 x1 d) (fun v=>v.2.2=0->0<=v.1/\v.1<(x1.Parts.length:Int)):=by
 unfold F21;have f:=c.Parts;refine Oi (fun _=>.mk (fun h=>absurd (show(2:Int)=0 from h) (by decide))) (fun _=>?_);refine Ob (P:=fun r=>match r with|.inl p=>0<=p.1/\p.1<(x1.Parts.length:Int)|.inr _=>True) (bD (l:=x1.Parts) (fun q=>q.2) (fun _ _=>True) (by omega) rfl trivial (fun i e q j g hi hl _ hg hw=>?_) (fun q hi _=>?_)) fun r hr=>?_;obtain⟨s,x⟩:=q;dsimp only at hi hl hg hw;simp only[hl,hg,nt];exact Oi (fun _=>.mk ⟨by dsimp only;omega,hl⟩) (fun _=>.mk ⟨hw,trivial⟩);obtain⟨s,x⟩:=q;dsimp only at hi;simp only[hi,nf];exact bB;rcases r with⟨a,b⟩|_;exact .mk (fun _=>hr);exact .mk (fun h=>absurd (show(2:Int)=0 from h) (by decide))
theorem T79 {x1:YH} {a:Int}:Ok (F79 x1 a) (fun _=>True):=by
 unfold F79;refine bS (T80) fun⟨b,c⟩=>?_;refine bS (Iv) fun d=>?_;exact bB
theorem T82 {x1:YB} {a:Int}:Ok (F82 x1 a) (fun _=>True):=by
 unfold F82;refine bS (T79) fun b=>?_;exact bB
theorem gY2 {x1:aA YB} {j:Int} (e:x1.length<=12):Ok (dM1 x1 j) (fun _=>True):=by
 unfold dM1;have g:=e;refine oU (l:=x1) (fun q=>q) (pR2 e (by decide)) rfl (fun i h k f a c b d=>?_) (fun k a=>?_) fun m=>?_;simp only[c,b,nt];refine bS (T82) fun n=>?_;refine Oi (fun c944=>?_) (fun c944=>?_);exact bB;exact .mk d;simp only[a,nf];exact bB;rcases m with o|_;exact bB;exact bB
theorem T81 {x1:aA YB} {b:Int} (a:x1.length<=12):Ok (F81 x1 b) (fun _=>True):=by
 unfold F81;refine bS (gY2 a) fun c=>?_;exact bB
theorem T84 {x1:YD} {a:Int}:Ok (F84 x1 a) (fun _=>True):=by
 unfold F84;refine bS (T79) fun b=>?_;exact bB
theorem gZ2 {x1:aA YD} {j:Int} (e:x1.length<=12):Ok (dN1 x1 j) (fun _=>True):=by
 unfold dN1;have g:=e;refine oU (l:=x1) (fun q=>q) (pR2 e (by decide)) rfl (fun i h k f a c b d=>?_) (fun k a=>?_) fun m=>?_;simp only[c,b,nt];refine bS (T84) fun n=>?_;refine Oi (fun c959=>?_) (fun c959=>?_);exact bB;exact .mk d;simp only[a,nf];exact bB;rcases m with o|_;exact bB;exact bB
theorem T83 {x1:aA YD} {b:Int} (a:x1.length<=12):Ok (F83 x1 b) (fun _=>True):=by
 unfold F83;refine bS (gZ2 a) fun c=>?_;exact bB
theorem T78 {x1:YP} {k:YE} {g:YK} (a:k.sm) (b:g.s'.sm):Ok (F78 x1 k g) (fun _=>True):=by
 unfold F78;refine bS (T77 a) fun o=>?_;refine Oi (fun c962=>?_) (fun c962=>?_);exact bB;refine Ob (T21 b) fun⟨p,q,s⟩ d=>?_
 try dsimp only at d
 refine bS ?_ fun u=>?_;refine Oi (fun c965=>?_) (fun c965=>?_);have e:=b.Parts;refine Ob (P:=fun x=>x∈g.s'.Parts) (bR (by(simp only[nm]at *;omega)) (by(simp only[nm]at *;omega)) (fun _ h _=>h)) fun t c=>?_;have j:=b.PartsE _ c;exact bB;exact bB;refine bS ?_ fun l=>?_;refine Oi (fun c971=>?_) (fun c971=>?_);exact bB;exact bB;refine bS (T81 a.Heads) fun f=>?_;refine Ob (P:=fun r=>¬r=true->¬f=true) ?_ fun n i=>?_;refine Oi (fun _=>.mk (fun h=>absurd rfl h)) (fun c974=>?_);refine bS (T83 a.Graces) fun m=>?_;exact .mk (fun _=>c974);exact bB
theorem mI1 {x1:aA YV} {x2:Y0} {x3:Int} (d8:x1.length+3600<=1000000) (s:x2.sm):Ok (Dx x1 x2 x3) (fun v=>x1.length<=v.length/\v.length<=x1.length+3600):=by
 unfold Dx;have V:=s.Measures;refine og x2.Measures x1 3600 300 (pR2 s.Measures (by decide)) (fun b7 F q987 W C h t j c w=>?_) (fun q987 h j=>?_) fun d5 d6=>?_;obtain⟨a0,K⟩:=q987;dsimp only at h t c w j;simp only[t,c,nt];have y:=s.MeasuresE _ C;have N:=y.Cells;refine og F.Cells K 300 60 (pR2 y.Cells (by decide)) (fun b8 G q1001 X D i u k g x=>?_) (fun q1001 i k=>?_) fun d4 d7=>?_;obtain⟨b0,L⟩:=q1001;dsimp only at i u g x k;simp only[u,c,g,nt];have l:=y.CellsE _ D;have O:=l.Voices;refine og G.Voices L 60 20 (pR2 l.Voices (by decide)) (fun Y B q1015 R z a o d f q=>?_) (fun q1015 a d=>?_) fun d3 b5=>?_;obtain⟨b4,M⟩:=q1015;dsimp only at a o f q d;simp only[o,c,g,f,nt];have m:=l.VoicesE _ z;have P:=m.Events;refine og B.Events M 20 1 (pR2 m.Events (by decide)) (fun Z T q1029 S A b p e n r=>?_) (fun q1029 b e=>?_) fun d2 b6=>?_;obtain⟨H,J⟩:=q1029;dsimp only at b p n r e;simp only[p,c,g,f,n,nt];have E:=m.EventsE _ A;refine bS (T78 E s) fun b9=>?_;refine Ob (kJ (by first|omega|(simp only[qB2]at *;omega)) s) fun d1 U=>?_;exact .mk ⟨r,by dsimp only;omega⟩;obtain⟨H,J⟩:=q1029;dsimp only at b e;simp only[b,nf];exact .mk (by dsimp only;omega);exact .mk ⟨q,by dsimp only;omega⟩;obtain⟨b4,M⟩:=q1015;dsimp only at a d;simp only[a,nf];exact .mk (by dsimp only;omega);exact .mk ⟨x,by dsimp only;omega⟩;obtain⟨b0,L⟩:=q1001;dsimp only at i k;simp only[i,nf];exact .mk (by dsimp only;omega);exact .mk ⟨w,by dsimp only;omega⟩;obtain⟨a0,K⟩:=q987;dsimp only at h j;simp only[h,nf];exact .mk (by dsimp only;omega);exact .mk (by omega)
theorem mJ1 {x1:aA YV} {c:Y0} {e:Int} (d:x1.length+3600<=1000000) (b:c.sm):Ok (dP1 x1 c e) (fun v=>x1.length<=v.length/\v.length<=x1.length+3600):=by
 unfold dP1;refine Ob (mI1 (by first|omega|(simp only[qB2]at *;omega)) b) fun f a=>?_;exact .mk (by omega)
theorem hA2 {x1:YB}:Ok (dQ1 x1) (fun _=>True):=by
 unfold dQ1;exact bB
theorem mK1 {x1:aA YB} (e:x1.length<=12):Ok (Dy x1) (fun _=>True):=by
 unfold Dy;have g:=e;refine oU (l:=x1) (fun q=>q) (pR2 e (by decide)) rfl (fun i h j f a c b d=>?_) (fun j a=>?_) fun k=>?_;simp only[c,b,nt];refine bS (hA2) fun m=>?_;refine Oi (fun c1047=>?_) (fun c1047=>?_);exact bB;exact .mk d;simp only[a,nf];exact bB;rcases k with n|_;exact bB;exact bB
theorem wI1 {x1:aA YB} (a:x1.length<=12):Ok (Nx x1) (fun _=>True):=by
 unfold Nx;refine bS (mK1 a) fun b=>?_;exact bB
theorem T86 {x1:YE} (b:x1.sm):Ok (F86 x1) (fun _=>True):=by
 unfold F86;refine Ob (P:=fun r=>r=true->(x1.Kind==1)=true) ?_ fun d a=>?_;refine Oi (fun c1050=>?_) (fun _=>.mk (fun h=>by cases h));refine bS (wI1 b.Heads) fun c=>?_;exact .mk (fun _=>c1050);exact bB
theorem fT1 {x1:Y0} {b c d:Int} (e:x1.sm):Ok (Dz x1 b c d) (fun v=>v.length<=20/\(∀y∈v,y.sm)/\(v=[]\/∃x y z,aT x1.Measures b=some x/\aT x.Cells c=some y/\aT y.Voices d=some z/\v=z.Events)):=by
 unfold Dz;refine Ob (P:=fun r=>¬r=true->0<=b/\0<=c/\∃x,aT x1.Measures b=some x/\c<(x.Cells.length:Int)) ?_ fun k i=>?_;refine Oi (fun _=>.mk (fun h=>absurd rfl h)) (fun hc=>?_);simp only[qC2,pU2,sI2]at hc;exact Ok.bindE (bR (Q:=fun _=>True) (by omega) (by omega) (fun _ _ _=>trivial)) fun x a _=>.mk (fun h=>⟨by omega,by omega,x,a,by simp at h;omega⟩);refine Ob (P:=fun r=>¬r=true->∃x y,aT x1.Measures b=some x/\aT x.Cells c=some y/\0<=d/\d<(y.Voices.length:Int)) ?_ fun l j=>?_;refine Oi (fun _=>.mk (fun h=>absurd rfl h)) (fun hc=>?_);simp only[qC2,pU2,sI2]at hc;obtain⟨h0,h1,x,a,hs⟩:=i hc.1;rw[a,pS2];exact Ok.bindE (bR (Q:=fun _=>True) h1 hs (fun _ _ _=>trivial)) fun y hy _=>.mk (fun h=>⟨x,y,rfl,hy,by omega,by simp at h;omega⟩);refine Oi (fun _=>.mk ⟨qJ2 _,fun _ h=>(sU2 h).elim,.inl rfl⟩) (fun hc=>?_);obtain⟨x,y,a,hy,h0,h1⟩:=j hc;rw[a,pS2,hy,pS2];refine Ok.bindE (bR (Q:=fun _=>True) h0 h1 (fun _ _ _=>trivial)) fun z f _=>?_;have g:=((e.MeasuresE x (cD a).2.2.1).CellsE y (cD hy).2.2.1).VoicesE z (cD f).2.2.1;exact .mk ⟨g.Events,g.EventsE,.inr ⟨x,y,z,rfl,hy,f,rfl⟩⟩
theorem wJ1 {x1:Y0} {a:YP} (c:x1.sm):Ok (Wt x1 a) (fun r=>r=0->a.Kind=4/\0<=a.Event/\∃l,Dz x1 a.Measure a.Staff a.Voice=some l/\a.Event<(l.length:Int)):=by
 unfold Wt;refine Oi (fun _=>.mk (fun h=>by cases h)) (fun hk=>?_);refine Ob (P:=fun r=>¬r=true->0<=a.Event/\∃l,Dz x1 a.Measure a.Staff a.Voice=some l/\a.Event<(l.length:Int)) (Oi (fun _=>.mk (fun h=>absurd rfl h)) (fun hc=>?_)) fun b hb=>?_;exact Ok.bindE (fT1 c) fun l hl _=>.mk (fun h=>⟨by simpa using hc,l,hl,by simpa using h⟩);exact Oi (fun _=>.mk (fun h=>by cases h)) (fun hc=>.mk (fun _=>⟨by simpa using hk,hb hc⟩))
theorem wK1 {x1 a:Int} {b c:Int}:Ok (Wu x1 a b c) (fun v=>v.Measure=x1):=by
 unfold Wu;exact .mk (by rfl)
theorem T87 {x1:Y0} {d:YP} (b:x1.sm):Ok (F87 x1 d) (fun v=>v.2=true->0<=d.Measure/\d.Measure<(x1.Measures.length:Int)/\0<=v.1.Measure/\v.1.Measure<(x1.Measures.length:Int)):=by
 unfold F87;refine Ob (wJ1 b) fun c hc=>?_;refine Oi (fun _=>.mk (fun h=>by cases h)) (fun hd=>?_);obtain⟨hk,h0,l,hl,i⟩:=hc (by simpa using hd);have g:=(fT1 b).of hl
 have e:0<=d.Measure/\d.Measure<(x1.Measures.length:Int):=by
  rcases g.2.2 with h|⟨x,y,z,hx,_⟩
  rw[h,qB2]at i;omega;have:=cD hx;exact⟨this.1,this.2.1⟩
 rw[hl,pS2];refine Oi (fun _=>?_) (fun _=>?_);exact Ob wK1 fun a f=>.mk (fun _=>⟨e.1,e.2,by dsimp only;omega,by dsimp only;omega⟩);refine Ob (fT1 b) fun j h2=>?_;refine Oi (fun hc=>?_) (fun _=>.mk (fun h=>by cases h));refine Ob wK1 fun a f=>.mk (fun _=>?_);dsimp only at f ⊢;rcases h2.2.2 with h|⟨x,y,z,hx,_⟩
 rw[h]at hc;simp at hc;have:=cD hx;rw[f];exact⟨e.1,e.2,this.1,this.2.1⟩
theorem hB2 {x1:YE} (a:x1.sm):Ok (dS1 x1) (fun v=>v.sm):=by
 unfold dS1;rw[tR (qT2 a.Heads (by decide)),tR (qT2 a.Graces (by decide)),tR (qT2 a.Lyrics (by decide))];exact .mk ⟨a.Heads,a.Graces,a.Lyrics,a.LyricsE⟩
theorem T88 {x1:Y0} {f:YP} (a:x1.sm):Ok (F88 x1 f) (fun v=>v.1.sm):=by
 unfold F88;refine Ob (wJ1 a) fun c hc=>?_;refine Oi (fun _=>.mk ⟨qJ2 _,qJ2 _,qJ2 _,fun _ h=>(sU2 h).elim⟩) (fun hd=>?_);obtain⟨hk,h0,l,hl,d⟩:=hc (by simpa using hd);have b:=(fT1 a).of hl;rw[hl,pS2];exact Ob (bR (Q:=fun x=>x.sm) h0 d (fun x e _=>b.2.1 x e)) fun x e=>Ob (hB2 e) fun y hy=>.mk hy
theorem hF2 {x1 a:YB}:Ok (dT1 x1 a) (fun _=>True):=by
 unfold dT1;exact bB
theorem mL1 {x1:aA YB} {j:YB} (e:x1.length<=12):Ok (Ea x1 j) (fun _=>True):=by
 unfold Ea;have g:=e;refine oU (l:=x1) (fun q=>q) (pR2 e (by decide)) rfl (fun i h k f a c b d=>?_) (fun k a=>?_) fun m=>?_;simp only[c,b,nt];refine bS (hF2) fun n=>?_;refine Oi (fun c1064=>?_) (fun c1064=>?_);exact bB;exact .mk d;simp only[a,nf];exact bB;rcases m with o|_;exact bB;exact bB
theorem wL1 {x1:aA YB} {b:YB} (a:x1.length<=12):Ok (Nz x1 b) (fun _=>True):=by
 unfold Nz;refine bS (mL1 a) fun c=>?_;exact bB
theorem T89 {x1 s:YE} (g:x1.sm) (m:s.sm):Ok (F89 x1 s) (fun _=>True):=by
 unfold F89;refine Oi (fun c1066=>?_) (fun c1066=>?_);exact bB;have j:=g.Heads;refine oU (l:=x1.Heads) (fun q=>q) (pR2 g.Heads (by decide)) rfl (fun n e v i a c b d=>?_) (fun v a=>?_) fun p=>?_;simp only[c,b,nt];refine Ob (P:=fun r=>r=true->e.Tied=true) ?_ fun u f=>?_;refine Oi (fun c1079=>?_) (fun _=>.mk (fun h=>by cases h));refine Ob (P:=fun r=>r=true->(s.Kind==1)=true) ?_ fun t k=>?_;refine Oi (fun c1081=>?_) (fun _=>.mk (fun h=>by cases h));refine bS (wL1 m.Heads) fun w=>?_;exact .mk (fun _=>c1081);exact .mk (fun _=>c1079);refine Oi (fun c1083=>?_) (fun c1083=>?_);have o:=f c1083;exact bB;exact .mk d;simp only[a,nf];exact bB;rcases p with _|_;exact bB;exact bB
theorem T85 {x1:YP} {f:YE} {g:YK} (c:f.sm) (d:g.s'.sm):Ok (F85 x1 f g) (fun _=>True):=by
 unfold F85;refine bS (T86 c) fun k=>?_;refine Oi (fun c1086=>?_) (fun c1086=>?_);exact bB;refine Ob (T87 d) fun⟨l,j⟩ b=>?_
 try dsimp only at b
 refine Ob (T88 d) fun⟨m,n⟩ a=>?_
 try dsimp only at a
 refine Ob (P:=fun r=>¬r=true->¬(!j)=true) ?_ fun i e=>?_;refine Oi (fun _=>.mk (fun h=>absurd rfl h)) (fun c1090=>?_);refine bS (T89 c a) fun o=>?_;exact .mk (fun _=>c1090);exact bB
theorem mM1 {x1:aA YV} {x2:Y0} {x3:Int} (d8:x1.length+3600<=1000000) (y:x2.sm):Ok (Eb x1 x2 x3) (fun v=>x1.length<=v.length/\v.length<=x1.length+3600):=by
 unfold Eb;have N:=y.Measures;refine og x2.Measures x1 3600 300 (pR2 y.Measures (by decide)) (fun Y D q1103 S z c p g a t=>?_) (fun q1103 c g=>?_) fun d7 b7=>?_;obtain⟨b4,K⟩:=q1103;dsimp only at c p a t g;simp only[p,a,nt];have l:=y.MeasuresE _ z;have O:=l.Cells;refine og D.Cells K 300 60 (pR2 l.Cells (by decide)) (fun Z E q1117 T A d q h b u=>?_) (fun q1117 d h=>?_) fun d6 b8=>?_;obtain⟨b5,L⟩:=q1117;dsimp only at d q b u h;simp only[q,a,b,nt];have m:=l.CellsE _ A;have P:=m.Voices;refine og E.Voices L 60 20 (pR2 m.Voices (by decide)) (fun a0 F q1131 U B e r i k w=>?_) (fun q1131 e i=>?_) fun d5 b9=>?_;obtain⟨b6,M⟩:=q1131;dsimp only at e r k w i;simp only[r,a,b,k,nt];have n:=m.VoicesE _ B;have R:=n.Events;refine og F.Events M 20 1 (pR2 n.Events (by decide)) (fun b0 W q1145 V C f s j o x=>?_) (fun q1145 f j=>?_) fun d4 d1=>?_;obtain⟨H,J⟩:=q1145;dsimp only at f s o x j;simp only[s,a,b,k,o,nt];have G:=n.EventsE _ C;refine bS (T85 G y) fun d2=>?_;refine Ob (kJ (by first|omega|(simp only[qB2]at *;omega)) y) fun d3 X=>?_;exact .mk ⟨x,by dsimp only;omega⟩;obtain⟨H,J⟩:=q1145;dsimp only at f j;simp only[f,nf];exact .mk (by dsimp only;omega);exact .mk ⟨w,by dsimp only;omega⟩;obtain⟨b6,M⟩:=q1131;dsimp only at e i;simp only[e,nf];exact .mk (by dsimp only;omega);exact .mk ⟨u,by dsimp only;omega⟩;obtain⟨b5,L⟩:=q1117;dsimp only at d h;simp only[d,nf];exact .mk (by dsimp only;omega);exact .mk ⟨t,by dsimp only;omega⟩;obtain⟨b4,K⟩:=q1103;dsimp only at c g;simp only[c,nf];exact .mk (by dsimp only;omega);exact .mk (by omega)
theorem mN1 {x1:aA YV} {c:Y0} {e:Int} (d:x1.length+3600<=1000000) (b:c.sm):Ok (dW1 x1 c e) (fun v=>x1.length<=v.length/\v.length<=x1.length+3600):=by
 unfold dW1;refine Ob (mM1 (by first|omega|(simp only[qB2]at *;omega)) b) fun f a=>?_;exact .mk (by omega)
theorem hG2 {x1:YE} {a:Int} (c:x1.sm) (d:0<=a):Ok (dX1 x1 a) (fun v=>v=false->a<(x1.Lyrics.length:Int)):=by
 unfold dX1;refine Ob (P:=fun r=>r=false->a<(x1.Lyrics.length:Int)) (Oi (fun _=>.mk (fun h=>by cases h)) (fun hc=>?_)) fun b hb=>.mk hb;simp only[pU2]at hc;exact Ob (bR (Q:=fun _=>True) d (by omega) (fun _ _ _=>trivial)) fun y _=>.mk (fun _=>by omega)
theorem hH2 {x1 o u:Int} {D:aA (YP×Bool)} {v:aA YV} {p:Y0} {E:Int} (A:v.length+0<=1000000) (d:p.sm) (C:0<=x1) (hy:0<=o) (s:0<=u):Ok (dY1 x1 o u D v p E) (fun _=>True):=by
 unfold dY1;have G:=d.Measures;refine Ob (P:=fun _=>True) (bD (l:=p.Measures) (fun q=>q.1) (fun _ _=>True) (by omega) rfl trivial (fun i e q _ g hi hl _ hg hw=>?_) (fun q hi _=>?_)) fun⟨a1,a2,a3,a4,a5,a6,a7⟩ _=>?_;obtain⟨x,k,st,m,n,ev,y,l⟩:=q;dsimp only at hi hl hg hw;simp only[hl,hg,nt];refine Ob (P:=fun r=>¬r=true->∃y,aT e.Cells x1=some y/\o<(y.Voices.length:Int)) (Oi (fun _=>.mk (fun h=>absurd rfl h)) (fun hc=>?_)) fun b hb=>?_;simp only[pU2]at hc;exact Ok.bindE (bR (Q:=fun _=>True) C (by omega) (fun _ _ _=>trivial)) fun y hy _=>.mk (fun h=>⟨y,hy,by simpa using h⟩);refine Oi (fun _=>.mk ⟨hw,trivial⟩) (fun hc=>?_);obtain⟨c,f,hv⟩:=hb hc;rw[f,pS2];refine Ok.bindE (bR (Q:=fun _=>True) hy hv (fun _ _ _=>trivial)) fun z j _=>?_;have t:=((d.MeasuresE e g).CellsE c (cD f).2.2.1).VoicesE z (cD j).2.2.1;have F:=t.Events;refine Ob (P:=fun _=>True) (bD (l:=z.Events) (fun q=>q.1) (fun _ _=>True) (by omega) rfl trivial (fun i e q _ g hi hl _ hg hw=>?_) (fun q hi _=>?_)) fun⟨a1,a2,a3,a4,a5,a6,a7⟩ _=>.mk ⟨hw,trivial⟩;obtain⟨x,k,st,m,n,ev,y,l⟩:=q;dsimp only at hi hl hg hw;simp only[hl,hg,nt];refine Ob (hG2 (t.EventsE e g) s) fun a B=>?_;refine Oi (fun _=>.mk ⟨hw,trivial⟩) (fun hc=>?_);refine Ob (bR (Q:=fun _=>True) s (B (by simpa using hc)) (fun _ _ _=>trivial)) fun w _=>?_;refine Ob (P:=fun _=>True) (Oi (fun _=>bB) (fun _=>bB)) fun _ _=>?_;exact Ob (P:=fun _=>True) (Oi (fun _=>bB) (fun _=>bB)) fun _ _=>.mk ⟨hw,trivial⟩;obtain⟨x,k,st,m,n,ev,y,l⟩:=q;dsimp only at hi;simp only[hi,nf];exact bB;obtain⟨x,k,st,m,n,ev,y,l⟩:=q;dsimp only at hi;simp only[hi,nf];exact bB;exact Ob (P:=fun _=>True) (Oi (fun _=>bB) (fun _=>bB)) fun _ _=>bB
theorem T91 {x1:YP} {a:YE} {c:aA (YP×Bool)} (b:a.sm):Ok (F91 x1 a c) (fun _=>True):=by
 unfold F91;exact bB
theorem mO1 {x1:aA (YP×Bool)} {K:aA YV} {x3:Y0} {x4:Int} (d9:K.length+3600<=1000000) (y:x3.sm):Ok (Ec x1 K x3 x4) (fun v=>K.length<=v.length/\v.length<=K.length+3600):=by
 unfold Ec;have O:=y.Measures;refine og x3.Measures K 3600 300 (pR2 y.Measures (by decide)) (fun Z D q1162 T z c p g a t=>?_) (fun q1162 c g=>?_) fun d8 b8=>?_;obtain⟨b5,L⟩:=q1162;dsimp only at c p a t g;simp only[p,a,nt];have l:=y.MeasuresE _ z;have P:=l.Cells;refine og D.Cells L 300 60 (pR2 l.Cells (by decide)) (fun a0 E q1176 U A d q h b u=>?_) (fun q1176 d h=>?_) fun d7 b9=>?_;obtain⟨b6,M⟩:=q1176;dsimp only at d q b u h;simp only[q,a,b,nt];have m:=l.CellsE _ A;have R:=m.Voices;refine og E.Voices M 60 20 (pR2 m.Voices (by decide)) (fun b0 F q1190 V B e r i k w=>?_) (fun q1190 e i=>?_) fun d6 d1=>?_;obtain⟨b7,N⟩:=q1190;dsimp only at e r k w i;simp only[r,a,b,k,nt];have n:=m.VoicesE _ B;have S:=n.Events;refine og F.Events N 20 1 (pR2 n.Events (by decide)) (fun b4 X q1204 W C f s j o x=>?_) (fun q1204 f j=>?_) fun d5 d2=>?_;obtain⟨H,J⟩:=q1204;dsimp only at f s o x j;simp only[s,a,b,k,o,nt];have G:=n.EventsE _ C;refine bS (T91 G) fun d3=>?_;refine Ob (kJ (by first|omega|(simp only[qB2]at *;omega)) y) fun d4 Y=>?_;exact .mk ⟨x,by dsimp only;omega⟩;obtain⟨H,J⟩:=q1204;dsimp only at f j;simp only[f,nf];exact .mk (by dsimp only;omega);exact .mk ⟨w,by dsimp only;omega⟩;obtain⟨b7,N⟩:=q1190;dsimp only at e i;simp only[e,nf];exact .mk (by dsimp only;omega);exact .mk ⟨u,by dsimp only;omega⟩;obtain⟨b6,M⟩:=q1176;dsimp only at d h;simp only[d,nf];exact .mk (by dsimp only;omega);exact .mk ⟨t,by dsimp only;omega⟩;obtain⟨b5,L⟩:=q1162;dsimp only at c g;simp only[c,nf];exact .mk (by dsimp only;omega);exact .mk (by omega)
theorem mP1 {x1:aA YV} {e:Y0} {h:Int} (f:x1.length+3600<=1000000) (a:e.sm):Ok (eA1 x1 e h) (fun v=>x1.length<=v.length/\v.length<=x1.length+3600):=by
 unfold eA1;refine Ob (T20 a) fun n g=>?_;refine Ob (P:=fun _=>True) (gF (fun q=>q.1) n (fun _=>True) g (by decide) trivial (fun q _ h1 h2=>?_)) fun m _=>?_;obtain⟨x,l⟩:=q;dsimp only at h1 h2 ⊢;refine Oi (fun hc=>?_) (fun _=>bB);simp only[pU2]at hc;refine Ob (P:=fun _=>True) (gF (fun q=>q.1) 2 (fun _=>True) (by decide) (by dsimp only;omega) trivial (fun q _ b g2=>?_)) fun m _=>.mk ⟨hc,h2 hc,trivial⟩;obtain⟨y,l⟩:=q;dsimp only at b g2 ⊢;refine Oi (fun hd=>?_) (fun _=>bB);simp only[pU2]at hd;refine Ob (P:=fun _=>True) (gF (fun q=>q.1) 4 (fun _=>True) (by decide) (by dsimp only;omega) trivial (fun q _ c d=>?_)) fun m _=>.mk ⟨hd,g2 hd,trivial⟩;obtain⟨z,l⟩:=q;dsimp only at c d ⊢;refine Oi (fun he=>?_) (fun _=>bB);simp only[pU2]at he;exact Ob (hH2 (by omega) a h1 b c) fun m _=>.mk ⟨he,d he,trivial⟩;exact Ob (mO1 (by omega) a) fun v hv=>.mk (by omega)
theorem Xz {x1:Y0} (a:x1.sm):Ok (Ed x1) (fun _=>True):=by
 unfold Ed;exact bB
theorem Ol {x1 e:Int} {f g:Int} {h i j:Int} {c:YJ} {k:Bool} {a:YP} {b:YZ} (d:c.sm):Ok (vW x1 e f g h i j c k a b) (fun _=>True):=by
 unfold vW;refine Oi (fun c1209=>?_) (fun c1209=>?_);exact bB;exact bB
theorem Br {x1 c:Int} {d e:Int} {f g h:Int} {i:YF} {j:Bool} {a:YP} {b:YZ}:Ok (oQ x1 c d e f g h i j a b) (fun _=>True):=by
 unfold oQ;refine Oi (fun c1210=>?_) (fun c1210=>?_);exact bB;exact bB
theorem Bs {x1 e:Int} {f g:Int} {h i j:Int} {c:YM} {k:Bool} {a:YP} {b:YZ} (d:c.sm):Ok (oR x1 e f g h i j c k a b) (fun _=>True):=by
 unfold oR;refine Oi (fun c1211=>?_) (fun c1211=>?_);exact bB;exact bB
theorem Rv {x1 e:Int} {f g:Int} {h i j:Int} {c:YE} {k:Bool} {a:YP} {b:YZ} (d:c.sm):Ok (jR x1 e f g h i j c k a b) (fun _=>True):=by
 unfold jR;refine Oi (fun c1212=>?_) (fun c1212=>?_);exact bB;exact bB
theorem Bt {x1 c:Int} {d e:Int} {f g h:Int} {i:YN} {j:Bool} {a:YP} {b:YZ}:Ok (oS x1 c d e f g h i j a b) (fun _=>True):=by
 unfold oS;refine Oi (fun c1213=>?_) (fun c1213=>?_);exact bB;exact bB
theorem mQ1 {x1:Y0} {X:Bool} {Y:YP} {Z:YZ} (g:x1.sm):Ok (tP x1 X Y Z) (fun v=>match v with|.inl p=>p.Kind=4->0<=p.Event/\x1.pl p.Measure p.Staff p.Voice|.inr _=>True):=by
 unfold tP;have hP:=g.Parts;have hM:=g.Measures;have U:=g.Spanners;refine Ob (P:=fun r=>match r with|.inl p=>p.1≠4|.inr _=>True) (bD (l:=x1.Parts) (fun q=>q.2) (fun _ _=>True) (by omega) rfl trivial (fun i e q D B hi hl _ hg hw=>?_) (fun q hi _=>?_)) fun r hr=>?_;obtain⟨s,x⟩:=q;dsimp only at hi hl hg hw;simp only[hl,hg,nt];refine Ob (Ol (g.PartsE e B)) fun r _=>?_;rcases r with _|_;exact .mk (show(1:Int)≠4 by decide);have U:=(g.PartsE e B).Staves;refine Ob (P:=fun _=>True) (bD (l:=e.Staves) (fun q=>q.2) (fun _ _=>True) (by omega) rfl trivial (fun i2 e2 q W V F A _ m C=>?_) (fun q hi _=>?_)) fun r _=>?_;obtain⟨s,y⟩:=q;dsimp only at F A m C;simp only[A,m,nt];refine Ob Br fun r _=>?_;rcases r with _|_;exact bB;exact .mk ⟨C,trivial⟩;obtain⟨s,y⟩:=q;dsimp only at hi;simp only[hi,nf];exact bB;rcases r with⟨a,b⟩|a;exact .mk (show(2:Int)≠4 by decide);exact .mk ⟨hw,trivial⟩;obtain⟨s,y⟩:=q;dsimp only at hi;simp only[hi,nf];exact bB;rcases r with⟨k,p,st⟩|_;exact .mk (fun h=>absurd h hr);refine Ob (P:=fun r=>match r with|.inl p=>p.1=4->0<=p.2.2.2.2/\x1.pl p.2.2.1 p.2.1 p.2.2.2.1|.inr _=>True) (bD (l:=x1.Measures) (fun q=>q) (fun _ _=>True) (by omega) rfl trivial (fun i e q D B hi hl _ hg hw=>?_) (fun q hi _=>?_)) fun r hr=>?_;simp only[hl,hg,nt];have R:=g.MeasuresE e B;have hC:=R.Cells;refine Ob (Bs R) fun r _=>?_;rcases r with _|_;exact .mk (fun h=>absurd (show(3:Int)=4 from h) (by decide));refine Ob (P:=fun r=>match r with|.inl p=>0<=p.2.2/\x1.pl q p.1 p.2.1|.inr _=>True) (bD (l:=e.Cells) (fun q=>q) (fun _ _=>True) (by omega) rfl trivial (fun j c w D J hj hlc _ o M=>?_) (fun q hi _=>?_)) fun r hr=>?_;simp only[hlc,o,nt];have S:=R.CellsE c J;have hV:=S.Voices;refine Ob (P:=fun r=>match r with|.inl p=>0<=p.2/\x1.pl q w p.1|.inr _=>True) (bD (l:=c.Voices) (fun q=>q) (fun _ _=>True) (by omega) rfl trivial (fun k v u D L hk H _ z O=>?_) (fun q hi _=>?_)) fun r hr=>?_;simp only[H,z,nt];have T:=S.VoicesE v L;have hE:=T.Events;refine Ob (P:=fun r=>match r with|.inl x=>0<=x|.inr _=>True) (bD (l:=v.Events) (fun q=>q) (fun _ _=>True) (by omega) rfl trivial (fun n ev t D K ht G _ E N=>?_) (fun q hi _=>?_)) fun r hr=>?_;simp only[G,E,nt];refine Ob (Rv (T.EventsE ev K)) fun r _=>?_;rcases r with _|_;exact .mk (show(0:Int)<=t by omega);exact .mk ⟨N,trivial⟩;simp only[hi,nf];exact bB;rcases r with x|_;exact .mk ⟨hr,e,c,v,hg,o,z⟩;exact .mk ⟨O,trivial⟩;simp only[hi,nf];exact bB;rcases r with⟨a,b⟩|_;exact .mk hr;exact .mk ⟨M,trivial⟩;simp only[hi,nf];exact bB;rcases r with⟨a,b,c⟩|_;exact .mk (fun _=>hr);exact .mk ⟨hw,trivial⟩;simp only[hi,nf];exact bB;rcases r with⟨a,b,c,d,f⟩|_;exact .mk hr;refine Ob (P:=fun _=>True) (bD (l:=x1.Spanners) (fun q=>q) (fun _ _=>True) (by omega) rfl trivial (fun i e q D B hi hl _ hg hw=>?_) (fun q hi _=>?_)) fun r hr=>?_;simp only[hl,hg,nt];refine Ob Bt fun r _=>?_;rcases r with _|_;exact bB;exact .mk ⟨hw,trivial⟩;simp only[hi,nf];exact bB;rcases r with x|_;exact .mk (fun h=>absurd (show(5:Int)=4 from h) (by decide));exact bB
theorem T11 {x1:Y0} {b:YZ} (a:x1.sm):Ok (Yu x1 b) (fun v=>v.2=true->v.1.Kind=4->0<=v.1.Event/\x1.pl v.1.Measure v.1.Staff v.1.Voice):=by
 unfold Yu;refine Oi (fun _=>.mk (fun h=>by cases h)) (fun _=>?_);refine Ob (Xz a) fun _ _=>?_;refine Ob (mQ1 a) fun r hr=>?_;rcases r with p|_;exact .mk (fun _=>hr);exact .mk (fun h=>by cases h)
theorem hJ2 {x1:aA Int} (b:x1.length<=20):Ok (Rl x1) (fun _=>True):=by
 unfold Rl;refine Ob (kF (by omega) (by omega) (by omega)) fun g h2=>?_;refine Ob (P:=fun v=>v.length=x1.length) (gF (fun q=>q.1) (x1.length:Int) (fun q=>q.2.length=x1.length) (by omega) (by dsimp only;omega) (by rw[h2];simp) (fun q a h1 h2=>?_)) fun v hv=>bB;obtain⟨i,l⟩:=q;dsimp only at a h1 h2 ⊢;refine Oi (fun hc=>?_) (fun _=>.mk a);simp only[pU2]at hc;rw[bA (n:=i-1) (by omega) (by omega)];refine Ob (eT (by omega) (by omega)) fun j d=>?_;refine Ob (gO (by omega)) fun x _=>?_;refine Ob (bR (Q:=fun _=>True) (by omega) (by omega) (fun _ _ _=>trivial)) fun y _=>?_;refine Ob (eT (by omega) (by omega)) fun f c=>?_;exact Ob (Em (by omega)) fun m e=>.mk ⟨hc,h2 hc,by dsimp only;omega⟩
theorem hN2 {x1:YO} {c:Int} (b:x1.sm):Ok (La x1 c) (fun _=>True):=by
 unfold La;refine Ob (wG1 b) fun⟨d,e⟩ a=>?_
 try dsimp only at a
 refine Oi (fun c1215=>?_) (fun c1215=>?_);exact bB;refine bS (hJ2 a) fun f=>?_;exact bB
theorem fU1 {x1:YK} {j:YZ} (c:x1.s'.sm):Ok (Lb x1 j) (fun _=>True):=by
 unfold Lb;refine Ob (T11 c) fun⟨p,f⟩ hp=>?_;dsimp only at hp;refine Oi (fun _=>bB) (fun hc=>?_);simp only[qC2,sI2,qH2,Bool.not_eq_false,bne_iff_ne,ne_eq,Decidable.not_not]at hc;obtain⟨h0,x,y,z,d,hy,g⟩:=hp hc.1 hc.2;simp only[d,hy,g,pS2];have h:=c.MeasuresE x (cD d).2.2.1;have i:=(h.CellsE y (cD hy).2.2.1).VoicesE z (cD g).2.2.1;refine Ob (T47 h) fun⟨a,b⟩ _=>?_;refine Ob (hN2 i) fun⟨on,e⟩ _=>?_;refine Oi (fun _=>bB) (fun hd=>?_);simp only[pU2]at hd;exact Ob (bR (Q:=fun _=>True) h0 (by dsimp only at hd ⊢;omega) (fun _ _ _=>trivial)) fun w _=>bB
theorem fV1 {x1 a:Int}:Ok (Lc x1 a) (fun _=>True):=by
 unfold Lc;exact bB
theorem wM1 {x1:YQ}:Ok (Ww x1) (fun _=>True):=by
 unfold Ww;refine bS (fV1) fun g=>?_;refine Ob (P:=fun r=>r=true->g=true) ?_ fun i a=>?_;refine Oi (fun c1219=>?_) (fun _=>.mk (fun h=>by cases h));refine bS (fV1) fun k=>?_;exact .mk (fun _=>c1219);refine Ob (P:=fun r=>r=true->i=true) ?_ fun j b=>?_;refine Oi (fun c1222=>?_) (fun _=>.mk (fun h=>by cases h));have e:=a c1222;refine bS (fV1) fun l=>?_;exact .mk (fun _=>c1222);refine Ob (P:=fun r=>r=true->j=true) ?_ fun n d=>?_;refine Oi (fun c1226=>?_) (fun _=>.mk (fun h=>by cases h));have c:=b c1226;have f:=a c;refine bS (fV1) fun m=>?_;exact .mk (fun _=>c1226);exact bB
theorem wN1 {x1:Int}:Ok (Wx x1) (fun _=>True):=by
 unfold Wx;exact bB
theorem wO1 {x1:Int}:Ok (Rm x1) (fun _=>True):=by
 unfold Rm;exact bB
theorem wP1 {x1 a:Int}:Ok (pB x1 a) (fun _=>True):=by
 unfold pB;refine bS (wO1) fun b=>?_;refine bS (wO1) fun c=>?_;refine Oi (fun c1232=>?_) (fun c1232=>?_);refine Oi (fun c1233=>?_) (fun c1233=>?_);exact bB;exact bB;refine Oi (fun c1234=>?_) (fun c1234=>?_);exact bB;refine Oi (fun c1235=>?_) (fun c1235=>?_);exact bB;refine Oi (fun c1236=>?_) (fun c1236=>?_);exact bB;exact bB
theorem hO2 {x1:aA Int} (e:x1.length<=20):Ok (Ld x1) (fun _=>True):=by
 unfold Ld;have g:=e;refine oU (l:=x1) (fun q=>q) (pR2 e (by decide)) rfl (fun i h j f a c b d=>?_) (fun j a=>?_) fun k=>?_;simp only[c,b,nt];refine Oi (fun c1248=>?_) (fun c1248=>?_);exact bB;exact .mk d;simp only[a,nf];exact bB;rcases k with m|_;exact bB;exact bB
theorem Ln {x1 a:YQ}:Ok (zU x1 a) (fun _=>True):=by
 unfold zU;refine bS (wP1) fun b=>?_;refine bS (wP1) fun c=>?_;refine bS (hO2 (by simp)) fun d=>?_;exact bB
theorem wQ1 {x1:YS}:Ok (eD1 x1) (fun _=>True):=by
 unfold eD1;refine Oi (fun c1252=>?_) (fun c1252=>?_);exact bB;refine bS (wM1) fun e=>?_;refine Ob (P:=fun r=>¬r=true->¬(!e)=true) ?_ fun g a=>?_;refine Oi (fun _=>.mk (fun h=>absurd rfl h)) (fun c1255=>?_);refine bS (wM1) fun f=>?_;exact .mk (fun _=>c1255);refine Oi (fun c1257=>?_) (fun c1257=>?_);exact bB;have c:=a c1257;refine Ob (P:=fun r=>¬r=true->¬(x1.From.Staff !=x1.To.Staff)=true) ?_ fun j b=>?_;refine Oi (fun _=>.mk (fun h=>absurd rfl h)) (fun c1260=>?_);refine bS (wN1) fun i=>?_;exact .mk (fun _=>c1260);refine Oi (fun c1262=>?_) (fun c1262=>?_);exact bB;have d:=b c1262;refine bS (Ln) fun k=>?_;refine Oi (fun c1265=>?_) (fun c1265=>?_);exact bB;exact bB
theorem wR1 {x1:aA YV} {d:Y0} {k:Int} (j:x1.length+0<=1000000) (c:d.sm):Ok (Le x1 d k) (fun v=>v.1.length=d.Spanners.length/\v.2.length=d.Spanners.length):=by
 unfold Le;have o:=c.Spanners;refine Ob (P:=fun v=>v.1.length=d.Spanners.length/\v.2.length=d.Spanners.length) (bD (l:=d.Spanners) (fun q=>q.1) (fun i q=>q.2.1.length=i/\q.2.2.length=i) (by omega) rfl ⟨rfl,rfl⟩ (fun i e q r p hi hl f hg hw=>?_) (fun q hi f=>?_)) fun⟨a,b⟩ hv=>.mk hv;obtain⟨x,g,h⟩:=q;dsimp only at hi hl f hg hw;simp only[hl,hg,nt];refine Ob (fU1 c) fun⟨p1,m⟩ _=>?_;refine Ob (fU1 c) fun⟨p2,n⟩ _=>?_;refine Ob (cW (Q:=fun v=>v.length=h.length+1) (by omega) (by simp)) fun s h1=>?_;refine Ob (P:=fun _=>True) (Oi (fun _=>bB) (fun _=>Ob wQ1 fun _ _=>bB)) fun b _=>?_;exact Ob (cW (Q:=fun v=>v.length=g.length+1) (by omega) (by simp)) fun t h2=>.mk ⟨hw,by dsimp only;omega,by dsimp only;omega⟩;obtain⟨x,g,h⟩:=q;dsimp only at hi f;simp only[hi,nf];exact .mk f
theorem mR1 {x1:aA YV} {g:Y0} {m:Int} (h:x1.length+10<=1000000) (c:g.sm):Ok (Rn x1 g m) (fun v=>x1.length<=v.length/\v.length<=x1.length+10):=by
 unfold Rn;have n:=c.Spanners;refine Ob (wR1 (by omega) c) fun⟨a,b⟩ f=>?_;dsimp only at f;refine Ob (P:=fun v=>x1.length<=v.length/\v.length<=x1.length+10) (bD (l:=g.Spanners) (fun q=>q.1) (fun i q=>x1.length<=q.2.length/\q.2.length<=x1.length+i) (by omega) rfl (by dsimp only;omega) (fun i e q p o hi hl d hg hw=>?_) (fun q hi d=>?_)) fun v hv=>.mk (by omega);obtain⟨x,l⟩:=q;dsimp only at hi hl d hg hw;simp only[hl,hg,nt];refine Ob (eT (by omega) (by omega)) fun j k=>?_;refine Ob (gO k.2) fun y _=>?_;exact Ob (kJ (by omega) c) fun v hv=>.mk ⟨hw,by dsimp only;omega⟩;obtain⟨x,l⟩:=q;dsimp only at hi d;simp only[hi,nf];exact .mk (by omega)
theorem mS1 {x1:Int}:Ok (Ro x1) (fun v=>v>0->1<=x1/\x1<=7):=by
 unfold Ro;refine Oi (fun c1266=>?_) (fun c1266=>?_);exact .mk (by omega);refine Ob (bR (Q:=fun _=>True) (by(simp only[nm]at *;rw[bA (by omega) (by omega)];omega)) (by(simp only[nm,nl]at *;rw[bA (by omega) (by omega)];omega)) (fun _ _ _=>trivial)) fun b a=>?_;exact .mk (by(simp only[nm]at *;omega))
theorem hP2 {x1 a:YS}:Ok (eE1 x1 a) (fun v=>v=true->1<=x1.Kind/\x1.Kind<=7):=by
 unfold eE1;refine Ob mS1 fun f hf=>?_;refine Ob (P:=fun r=>r=true->1<=x1.Kind/\x1.Kind<=7) (Oi (fun hc=>?_) (fun _=>.mk (fun h=>by cases h))) fun b hb=>?_;simp only[pU2]at hc;have:=hf hc;exact Ob mS1 fun _ _=>Ob mS1 fun _ _=>.mk (fun _=>this);refine Ob (P:=fun r=>r=true->1<=x1.Kind/\x1.Kind<=7) (Oi (fun hc=>?_) (fun _=>.mk (fun h=>by cases h))) fun b hb=>.mk hb;simp only[pN2]at hc;have:=hb hc.1;exact Ob wN1 fun _ _=>.mk (fun _=>this)
theorem hQ2 {x1 b:YS}:Ok (eF1 x1 b) (fun _=>True):=by
 unfold eF1;refine bS (Ln) fun c=>?_;refine Ob (P:=fun r=>¬r=true->¬(decide (c<0))=true) ?_ fun e a=>?_;refine Oi (fun _=>.mk (fun h=>absurd rfl h)) (fun c1270=>?_);refine bS (Ln) fun d=>?_;exact .mk (fun _=>c1270);exact bB
theorem mT1 {x1 a:YS}:Ok (Rp x1 a) (fun _=>True):=by
 unfold Rp;refine bS (hQ2) fun b=>?_;exact bB
theorem wS1 {x1 b:YS}:Ok (Xa x1 b) (fun _=>True):=by
 unfold Xa;refine bS (Ln) fun c=>?_;refine Ob (P:=fun r=>¬r=true->¬(decide (c<=0))=true) ?_ fun e a=>?_;refine Oi (fun _=>.mk (fun h=>absurd rfl h)) (fun c1275=>?_);refine bS (Ln) fun d=>?_;exact .mk (fun _=>c1275);exact bB
theorem mU1 {x1 a:YS}:Ok (Rq x1 a) (fun _=>True):=by
 unfold Rq;refine bS (wS1) fun b=>?_;exact bB
theorem wT1 {x1 b:YS}:Ok (Xc x1 b) (fun _=>True):=by
 unfold Xc;refine bS (Ln) fun c=>?_;refine Ob (P:=fun r=>r=true->(decide (c>=0))=true) ?_ fun e a=>?_;refine Oi (fun c1280=>?_) (fun _=>.mk (fun h=>by cases h));refine bS (Ln) fun d=>?_;exact .mk (fun _=>c1280);exact bB
theorem hR2 {x1 b:YS}:Ok (eG1 x1 b) (fun _=>True):=by
 unfold eG1;refine bS (wS1) fun c=>?_;refine Ob (P:=fun r=>r=true->(!c)=true) ?_ fun f a=>?_;refine Oi (fun c1284=>?_) (fun _=>.mk (fun h=>by cases h));refine bS (wT1) fun d=>?_;refine bS (wT1) fun e=>?_;exact .mk (fun _=>c1284);exact bB
theorem T93 {x1 e:YS}:Ok (F93 x1 e) (fun _=>True):=by
 unfold F93;refine Ob hP2 fun g hg=>?_;refine Oi (fun _=>bB) (fun hc=>?_);have hk:=hg (by simpa using hc);rw[bA (n:=x1.Kind-1) (by omega) (by omega)];refine Oi (fun _=>Ob mT1 fun _ _=>bB) (fun d=>?_);refine Oi (fun _=>Ob mU1 fun _ _=>bB) (fun c=>?_);refine Oi (fun _=>Ob mT1 fun _ _=>bB) (fun b=>?_);refine Oi (fun _=>Ob mT1 fun _ _=>bB) (fun a=>?_);refine Oi (fun _=>Ob mU1 fun _ _=>bB) (fun h2=>?_);refine Oi (fun _=>Ob mU1 fun _ _=>bB) (fun h1=>?_);refine Oi (fun _=>Ob hR2 fun _ _=>bB) (fun h0=>?_);simp only[rM2]at h0 h1 h2 a b c d;omega
theorem mV1 {x1:aA YV} {n:Y0} {p:Int} (o:x1.length+10<=1000000) (c:n.sm):Ok (eH1 x1 n p) (fun v=>x1.length<=v.length/\v.length<=x1.length+10):=by
 unfold eH1;have s:=c.Spanners;refine Ob (wR1 (by omega) c) fun⟨a,b⟩ g=>?_;dsimp only at g;refine Ob (P:=fun v=>x1.length<=v.length/\v.length<=x1.length+10) (bD (l:=n.Spanners) (fun q=>q.1) (fun i q=>x1.length<=q.2.length/\q.2.length<=x1.length+i) (by omega) rfl (by dsimp only;omega) (fun i e q u t hi hl f hg hw=>?_) (fun q hi f=>?_)) fun v hv=>.mk (by omega);obtain⟨x,l⟩:=q;dsimp only at hi hl f hg hw;simp only[hl,hg,nt];refine Ob (P:=fun _=>True) (gF (fun q=>q.2) x (fun _=>True) (by omega) (by dsimp only;omega) trivial (fun q _ h1 h2=>?_)) fun b _=>?_;obtain⟨ex,k⟩:=q;dsimp only at h1 h2 ⊢;refine Ob (P:=fun r=>r=true->k<x) (Oi (fun hc=>?_) (fun _=>.mk (fun h=>by cases h))) fun b hb=>?_;simp only[pU2]at hc;exact Ob (eT (by omega) (by omega)) fun j d=>Ob (gO d.2) fun y _=>.mk (fun _=>hc);refine Oi (fun hc=>?_) (fun _=>bB);simp only[pN2]at hc;have hk:=hb hc.1;refine Ob (eT (by omega) (by omega)) fun j d=>Ob (gO d.2) fun y _=>?_;refine Ob (P:=fun _=>True) (Oi (fun _=>?_) (fun _=>bB)) fun b _=>.mk ⟨hk,h2 hk,trivial⟩;exact Ob (eT (by omega) (by omega)) fun j d=>Ob (gO d.2) fun z _=>Ob (eT (by omega) (by omega)) fun w m=>Ob (gO m.2) fun A _=>Ob T93 fun b _=>bB;exact Ob (kJ (by omega) c) fun v hv=>.mk ⟨hw,by dsimp only;omega⟩;obtain⟨x,l⟩:=q;dsimp only at hi f;simp only[hi,nf];exact .mk (by omega)
theorem T94 {x1:Int} {a:YM} (c:a.sm):Ok (F94 x1 a) (fun v=>v=false->a.RepeatEnd<=8):=by
 unfold F94;simp only[lK1,pS2];refine Ob (P:=fun r=>r=false->a.RepeatEnd<=8) (Oi (fun hc=>.mk (fun h=>?_)) (fun hc=>.mk (fun _=>?_))) fun b hb=>?_;simp at h;omega;simp at hc;omega;exact Ob (P:=fun r=>r=false->a.RepeatEnd<=8) (Oi (fun hc=>.mk (fun h=>by cases h)) (fun hc=>.mk (fun _=>hb (by simpa using hc)))) fun b hb=>.mk hb
theorem mW1 {x1:aA YV} {c:Y0} {r:Int} (o:x1.length+12<=1000000) (d:c.sm):Ok (Ee x1 c r) (fun v=>(x1.length<=v.length/\v.length<=x1.length+12)/\(v.length<=x1.length->∀m∈c.Measures,m.RepeatEnd<=8)):=by
 unfold Ee;have s:=d.Measures;refine Ob (P:=fun v=>(x1.length<=v.length/\v.length<=x1.length+12)/\(v.length<=x1.length->∀m∈c.Measures,m.RepeatEnd<=8)) (bD (l:=c.Measures) (fun q=>q.1) (fun i q=>q.2.length<=x1.length+i/\x1.length<=q.2.length/\(q.2.length<=x1.length->∀j,j<i->∀m,c.Measures[j]? =some m->m.RepeatEnd<=8)) (by omega) rfl ⟨by dsimp only;omega,pQ2 _,fun _ j g=>by omega⟩ (fun i e q p n hi hl f hg hw=>?_) (fun q hi f=>?_)) fun v hv=>.mk hv;obtain⟨x,l⟩:=q;dsimp only at hi hl f hg hw;simp only[hl,hg,nt];refine Ob (T94 (d.MeasuresE e n)) fun b hb=>?_;refine Ob (Xt (by omega)) fun v hv=>.mk ⟨hw,?_,?_,fun h j g m a=>?_⟩;dsimp only;cases b<;>simp at hv<;>omega;dsimp only;cases b<;>simp at hv<;>omega;dsimp only at h;cases b with
 |true=>simp at hv;omega
 |false=>
  simp only[qA2,false_implies,forall_const,true_and]at hv;by_cases k:j=i;subst k;rw[p]at a;cases a;exact hb rfl;exact f.2.2 (by omega) j (by omega) m a
 obtain⟨x,l⟩:=q;dsimp only at hi f;simp only[hi,nf];refine .mk ⟨⟨by omega,by omega⟩,fun h m n=>?_⟩;obtain⟨j,g⟩:=qG2.1 n;exact f.2.2 h j (pO2.1 g).1 m g
theorem hS2 {x1:Int}:Ok (eJ1 x1) (fun v=>0<=v/\v<=1000):=by
 unfold eJ1;refine Ob (P:=fun v=>0<=v.2/\v.2<=32) (Oi (fun _=>Ob (sH (by decide)) fun n _=>.mk (by dsimp only;omega)) (fun _=>.mk (by dsimp only;omega))) fun⟨g,h⟩ c=>?_;dsimp only at c;refine Ob (P:=fun v=>0<=v.2/\v.2<=48) (Oi (fun _=>Ob (sH (by decide)) fun n _=>.mk (by dsimp only;rw[bA (by omega) (by omega)];omega)) (fun _=>.mk (by dsimp only;omega))) fun⟨i,j⟩ d=>?_;dsimp only at d;refine Ob (P:=fun v=>0<=v.2/\v.2<=56) (Oi (fun _=>Ob (sH (by decide)) fun n _=>.mk (by dsimp only;rw[bA (by omega) (by omega)];omega)) (fun _=>.mk (by dsimp only;omega))) fun⟨f,e⟩ a=>?_;dsimp only at a;have hw:=vR1 f;refine Ob (tQ hw.1 hw.2) fun b hb=>.mk ?_;rw[bA (n:=b) (by omega) (by omega),bA (by omega) (by omega)];omega
theorem fW1 {x1:Int}:Ok (Lf x1) (fun v=>0<=v/\v<=1000):=by
 unfold Lf;refine Ob (hS2) fun b a=>?_;exact .mk (by omega)
theorem T96 {x1:YG} (c:x1.passes<=1000):Ok (F96 x1) (fun _=>True):=by
 unfold F96;refine Ob (P:=fun r=>r=true->(decide (x1.passes>0))=true) ?_ fun e a=>?_;refine Oi (fun c1289=>?_) (fun _=>.mk (fun h=>by cases h));refine Ob (Oj (by(simp only[nm]at *;rw[bA (by omega) (by omega)];omega))) fun d b=>?_;exact .mk (fun _=>c1289);exact bB
theorem hT2 {x1:YG} {e:YM} (w:e.sm) (F:x1.passes<=8) (hy:e.RepeatEnd<=8):Ok (eL1 x1 e) (fun v=>v.1.passes<=8):=by
 unfold eL1;refine Oi (fun c1291=>?_) (fun c1291=>?_);exact .mk (by omega);refine Oi (fun c1292=>?_) (fun c1292=>?_);refine Oi (fun c1293=>?_) (fun c1293=>?_);exact .mk (by omega);refine Ob (fW1) fun u f=>?_;refine Oi (fun c1295=>?_) (fun c1295=>?_);refine Oi (fun c1296=>?_) (fun c1296=>?_);exact .mk (by omega);refine Oi (fun c1297=>?_) (fun c1297=>?_);refine bS (T96 (by(simp only[nm]at *;omega))) fun D=>?_;refine Ob (P:=fun r=>¬r=true->¬(D||((x1.passes !=0)&&(e.RepeatEnd !=x1.passes)))=true) ?_ fun H a=>?_;refine Oi (fun _=>.mk (fun h=>absurd rfl h)) (fun c1300=>?_);refine Ob (fW1) fun G g=>?_;exact .mk (fun _=>c1300);refine Oi (fun c1302=>?_) (fun c1302=>?_);exact .mk (by omega);have n:=a c1302;exact .mk (by omega);exact .mk (by omega);refine Ob (P:=fun r=>¬r=true->¬(decide ((aW (u-1))>=x1.passes))=true) ?_ fun y b=>?_;refine Oi (fun _=>.mk (fun h=>absurd rfl h)) (fun c1305=>?_);refine Ob (P:=fun r=>r=true->((aW (u-1))==(aW (x1.passes-1)))=true) ?_ fun x i=>?_;refine Oi (fun c1307=>?_) (fun _=>.mk (fun h=>by cases h));refine bS (T96 (by(simp only[nm]at *;omega))) fun E=>?_;refine Ob (P:=fun r=>¬r=true->¬(!E)=true) ?_ fun K j=>?_;refine Oi (fun _=>.mk (fun h=>absurd rfl h)) (fun c1310=>?_);refine Ob (Oj (by(simp(disch:=omega) only[bA,nm]at *;omega))) fun J k=>?_;exact .mk (fun _=>c1310);exact .mk (fun _=>c1307);exact .mk (fun _=>c1305);refine Oi (fun c1312=>?_) (fun c1312=>?_);exact .mk (by omega);have o:=b c1312;refine Oi (fun c1314=>?_) (fun c1314=>?_);refine bS (T96 (by(simp only[nm]at *;omega))) fun s=>?_;refine Ob (P:=fun r=>¬r=true->¬(s||((x1.passes !=0)&&(e.RepeatEnd !=x1.passes)))=true) ?_ fun A c=>?_;refine Oi (fun _=>.mk (fun h=>absurd rfl h)) (fun c1317=>?_);refine Ob (fW1) fun z l=>?_;exact .mk (fun _=>c1317);refine Oi (fun c1319=>?_) (fun c1319=>?_);exact .mk (by omega);have p:=c c1319;exact .mk (by omega);exact .mk (by omega);refine Oi (fun c1321=>?_) (fun c1321=>?_);exact .mk (by omega);refine Oi (fun c1322=>?_) (fun c1322=>?_);refine bS (T96 (by omega)) fun t=>?_;refine Ob (P:=fun r=>¬r=true->¬(t||((x1.passes !=0)&&(e.RepeatEnd !=x1.passes)))=true) ?_ fun C d=>?_;refine Oi (fun _=>.mk (fun h=>absurd rfl h)) (fun c1325=>?_);refine Ob (fW1) fun B m=>?_;exact .mk (fun _=>c1325);refine Oi (fun c1327=>?_) (fun c1327=>?_);exact .mk (by omega);have q:=d c1327;exact .mk (by omega);exact .mk (by omega)
theorem T95 {x1:YG} {e:YM} (d:e.sm) (c:x1.passes<=8) (hy:e.RepeatEnd<=8):Ok (F95 x1 e) (fun v=>v.1.passes<=8):=by
 unfold F95;refine Oi (fun _=>Ob (hT2 d c hy) fun⟨a,b⟩ h=>.mk h) (fun _=>?_);refine Oi (fun _=>?_) (fun _=>?_);refine Ob (T96 (by omega)) fun f _=>?_;refine Oi (fun _=>.mk c) (fun _=>?_);refine Oi (fun _=>Oi (fun h=>by cases h) (fun _=>?_)) (fun _=>?_);exact Ob (P:=fun _=>True) (Oi (fun _=>bB) (fun _=>bB)) fun⟨a,b⟩ _=>.mk (show(0:Int)<=8 by decide);exact Ob (P:=fun _=>True) (Oi (fun _=>bB) (fun _=>bB)) fun a _=>.mk (show(0:Int)<=8 by decide);refine Oi (fun _=>Oi (fun _=>.mk c) (fun _=>?_)) (fun _=>?_);exact Ob (P:=fun _=>True) (Oi (fun _=>bB) (fun _=>bB)) fun⟨a,b⟩ _=>.mk (show(0:Int)<=8 by decide);exact Ob (P:=fun g=>g.passes<=8) (Oi (fun _=>.mk (show(0:Int)<=8 by decide)) (fun _=>.mk c)) fun g hg=>.mk hg
theorem mX1 {x1:aA YV} {f:Y0} {t:Int} (m:x1.length+25<=1000000) (c:f.sm) (s:0<f.Measures.length):Ok (eM1 x1 f t) (fun v=>x1.length<=v.length/\v.length<=x1.length+25):=by
 unfold eM1;have u:=c.Measures;refine Ob (mW1 (by omega) c) fun k h=>?_;refine Oi (fun _=>.mk (by omega)) (fun hc=>?_);simp only[pU2]at hc;have o:=h.2 (by omega);have n:=h.1;refine Ob (P:=fun r=>match r with|.inl p=>k.length<=p.2.length/\p.2.length<=k.length+1|.inr g=>g.passes<=8) (bD (l:=f.Measures) (fun q=>q.1) (fun i q=>q.2.passes<=8) (by omega) rfl (show(0:Int)<=8 by decide) (fun i e q s j hi hl d hg hw=>?_) (fun q hi d=>?_)) fun r hr=>?_;obtain⟨x,g⟩:=q;dsimp only at hi hl d hg hw;simp only[hl,hg,nt];refine Ob (T95 (c.MeasuresE e j) d (o e j)) fun⟨g2,b⟩ hb=>?_;refine Oi (fun _=>?_) (fun _=>.mk ⟨hw,hb⟩);exact Ob (kJ (by omega) c) fun v hv=>.mk (by dsimp only;omega);obtain⟨x,g⟩:=q;dsimp only at hi d;simp only[hi,nf];exact .mk d;rcases r with⟨a,v⟩|g;exact .mk (by dsimp only at hr;omega);dsimp only at hr;refine Ob (P:=fun _=>True) (Oi (fun _=>bB) (fun _=>?_)) fun b _=>?_;exact Ob (P:=fun _=>True) (Oi (fun _=>Ob (T96 (by omega)) fun _ _=>bB) (fun _=>bB)) fun _ _=>bB;refine Ob (bR (Q:=fun _=>True) (by rw[bA (by omega) (by omega)];omega) (by rw[bA (by omega) (by omega)];omega) (fun _ _ _=>trivial)) fun y _=>?_;exact Ob (kJ (by omega) c) fun v hv=>.mk (by omega)
theorem T98 {x1 a:YM} (b:x1.sm) (c:a.sm):Ok (F98 x1 a) (fun _=>True):=by
 unfold F98;exact bB
theorem hU2 {x1:aA YM} {n:YM} (g:x1.length<=12) (h:∀y∈x1,y.sm) (k:n.sm):Ok (eN1 x1 n) (fun _=>True):=by
 unfold eN1;have i:=g;refine oU (l:=x1) (fun q=>q) (pR2 g (by decide)) rfl (fun m j o d a c b e=>?_) (fun o a=>?_) fun p=>?_;simp only[c,b,nt];have f:=h _ d;refine bS (T98 f k) fun r=>?_;refine Oi (fun c1342=>?_) (fun c1342=>?_);exact bB;exact .mk e;simp only[a,nf];exact bB;rcases p with s|_;exact bB;exact bB
theorem T99 {x1:aA YM} {d:YM} (b:x1.length<=12) (a:∀y∈x1,y.sm) (c:d.sm):Ok (F99 x1 d) (fun _=>True):=by
 unfold F99;refine bS (hU2 b a c) fun e=>?_;exact bB
theorem hX2 {x1:YM} {b:Int} (a:x1.sm):Ok (eO1 x1 b) (fun _=>True):=by
 unfold eO1;exact bB
theorem mY1 {x1:aA YM} {m:Int} (g:x1.length<=12) (h:∀y∈x1,y.sm):Ok (Ef x1 m) (fun _=>True):=by
 unfold Ef;have i:=g;refine oU (l:=x1) (fun q=>q) (pR2 g (by decide)) rfl (fun k j n d a c b e=>?_) (fun n a=>?_) fun o=>?_;simp only[c,b,nt];have f:=h _ d;refine bS (hX2 f) fun p=>?_;refine Oi (fun c1357=>?_) (fun c1357=>?_);exact bB;exact .mk e;simp only[a,nf];exact bB;rcases o with r|_;exact bB;exact bB
theorem mZ1 {x1:YK} {b:Int} (a:x1.s'.sm):Ok (Rs x1 b) (fun _=>True):=by
 unfold Rs;refine bS (mY1 a.Measures a.MeasuresE) fun c=>?_;exact bB
theorem nA1 {x1:Int} {b:YK} {c:Int} (a:b.s'.sm):Ok (Rt x1 b c) (fun _=>True):=by
 unfold Rt;refine bS (mZ1 a) fun d=>?_;refine bS (Iv) fun e=>?_;exact bB
theorem hY2 {x1:YK} {e j:Int} (a:x1.s'.sm):Ok (eQ1 x1 e j) (fun _=>True):=by
 unfold eQ1;refine Ob (P:=fun r=>r=true->(decide (e>=4))=true) ?_ fun m b=>?_;refine Oi (fun c1362=>?_) (fun _=>.mk (fun h=>by cases h));refine bS (nA1 a) fun l=>?_;exact .mk (fun _=>c1362);refine Oi (fun c1364=>?_) (fun c1364=>?_);have d:=b c1364;exact bB;refine bS ?_ fun n=>?_;refine Oi (fun c1367=>?_) (fun c1367=>?_);exact bB;exact bB;refine Oi (fun c1368=>?_) (fun c1368=>?_);refine bS (nA1 a) fun o=>?_;exact bB;refine bS ?_ fun p=>?_;refine Oi (fun c1371=>?_) (fun c1371=>?_);exact bB;exact bB;refine Oi (fun c1372=>?_) (fun c1372=>?_);refine bS (nA1 a) fun k=>?_;refine Ob (P:=fun r=>r=true->k=true) ?_ fun i c=>?_;refine Oi (fun c1375=>?_) (fun _=>.mk (fun h=>by cases h));refine bS (mZ1 a) fun f=>?_;refine bS (mZ1 a) fun g=>?_;exact .mk (fun _=>c1375);exact bB;exact bB
theorem T97 {x1:Int} {g:YM} {e:YK} (d:g.sm) (a:e.s'.sm) (f:0<=x1/\x1<=(e.s'.Measures.length:Int)):Ok (F97 x1 g e) (fun _=>True):=by
 unfold F97;refine Ob Iv fun w _=>?_;refine Ob (P:=fun _=>True) (Oi (fun _=>bB) (fun _=>Ob Iv fun _ _=>bB)) fun b _=>?_;refine Oi (fun _=>bB) (fun _=>?_);refine Ob (Bq (by decide) f.1 f.2) fun l hl=>?_;refine Ob (T99 (qT2 hl.1 a.Measures) (fun y hy=>a.MeasuresE y (hl.2 y hy)) d) fun c _=>?_;exact Ob (P:=fun _=>True) (Oi (fun _=>bB) (fun _=>Ob (hY2 a) fun _ _=>bB)) fun b _=>bB
theorem nB1 {x1:aA YV} {n:Y0} {t:Int} (p:x1.length+12<=1000000) (f:n.sm):Ok (Eg x1 n t) (fun v=>x1.length<=v.length/\v.length<=x1.length+12):=by
 unfold Eg;have i:=f.Measures;refine og n.Measures x1 12 1 (pR2 f.Measures (by decide)) (fun m k q1389 j g a d b c e=>?_) (fun q1389 a b=>?_) fun s o=>?_;obtain⟨u,w⟩:=q1389;dsimp only at a d c e b;simp only[d,c,nt];have h:=f.MeasuresE _ g;refine bS (T97 h f (by(simp only[nm]at *;omega))) fun q=>?_;refine Ob (kJ (by first|omega|(simp only[qB2]at *;omega)) f) fun r l=>?_;exact .mk ⟨e,by dsimp only;omega⟩;obtain⟨u,w⟩:=q1389;dsimp only at a b;simp only[a,nf];exact .mk (by dsimp only;omega);exact .mk (by omega)
theorem nC1 {x1:aA YV} {c:Y0} {e:Int} (d:x1.length+12<=1000000) (b:c.sm):Ok (eS1 x1 c e) (fun v=>x1.length<=v.length/\v.length<=x1.length+12):=by
 unfold eS1;refine Ob (nB1 (by first|omega|(simp only[qB2]at *;omega)) b) fun f a=>?_;exact .mk (by omega)
theorem hZ2 {x1:Int} {m:YM} (f:m.sm):Ok (eT1 x1 m) (fun _=>True):=by
 unfold eT1;refine bS (T47 f) fun⟨M,N⟩=>?_;refine Ob (P:=fun r=>r=true->(m.Swing !=0)=true) ?_ fun L u=>?_;refine Oi (fun c1397=>?_) (fun _=>.mk (fun h=>by cases h));refine bS (Iv) fun O=>?_;exact .mk (fun _=>c1397);refine Ob (P:=fun r=>¬r=true->¬L=true) ?_ fun S v=>?_;refine Oi (fun _=>.mk (fun h=>absurd rfl h)) (fun c1400=>?_);refine bS (Iv) fun R=>?_;exact .mk (fun _=>c1400);have p:=f.Tempi;refine oU (l:=m.Tempi) (fun q=>q.2) (pR2 f.Tempi (by decide)) rfl (fun z t q1412 n a c b d=>?_) (fun q1412 a=>?_) fun K=>?_;obtain⟨j,k⟩:=q1412;dsimp only at a c b d;simp only[c,b,nt];refine Ob (P:=fun r=>¬r=true->¬j=true) ?_ fun C e=>?_;refine Oi (fun _=>.mk (fun h=>absurd rfl h)) (fun c1415=>?_);refine bS (Iv) fun E=>?_;exact .mk (fun _=>c1415);refine Ob (P:=fun r=>¬r=true->¬C=true) ?_ fun D g=>?_;refine Oi (fun _=>.mk (fun h=>absurd rfl h)) (fun c1418=>?_);have A:=e c1418;refine bS (Iv) fun F=>?_;exact .mk (fun _=>c1418);refine Ob (P:=fun r=>¬r=true->¬D=true) ?_ fun J w=>?_;refine Oi (fun _=>.mk (fun h=>absurd rfl h)) (fun c1422=>?_);have i:=g c1422;have B:=e i;refine Ob (P:=fun r=>r=true->(decide (k>0))=true) ?_ fun H y=>?_;refine Oi (fun c1426=>?_) (fun _=>.mk (fun h=>by cases h));have s:=f.Tempi;refine Ob (P:=fun x=>x∈m.Tempi) (bR (by(simp only[nm]at *;rw[bA (by omega) (by omega)];omega)) (by(simp only[nm]at *;rw[bA (by omega) (by omega)];omega)) (fun _ h _=>h)) fun G o=>?_;exact .mk (fun _=>c1426);exact .mk (fun _=>c1422);exact .mk d;obtain⟨j,k⟩:=q1412;dsimp only at a;simp only[a,nf];exact bB;exact bB
theorem nD1 {x1:aA YV} {n:Y0} {t:Int} (p:x1.length+12<=1000000) (f:n.sm):Ok (Eh x1 n t) (fun v=>x1.length<=v.length/\v.length<=x1.length+12):=by
 unfold Eh;have i:=f.Measures;refine og n.Measures x1 12 1 (pR2 f.Measures (by decide)) (fun m k q1441 j g a d b c e=>?_) (fun q1441 a b=>?_) fun s o=>?_;obtain⟨u,w⟩:=q1441;dsimp only at a d c e b;simp only[d,c,nt];have h:=f.MeasuresE _ g;refine bS (hZ2 h) fun q=>?_;refine Ob (kJ (by first|omega|(simp only[qB2]at *;omega)) f) fun r l=>?_;exact .mk ⟨e,by dsimp only;omega⟩;obtain⟨u,w⟩:=q1441;dsimp only at a b;simp only[a,nf];exact .mk (by dsimp only;omega);exact .mk (by omega)
theorem nE1 {x1:aA YV} {c:Y0} {e:Int} (d:x1.length+12<=1000000) (b:c.sm):Ok (eV1 x1 c e) (fun v=>x1.length<=v.length/\v.length<=x1.length+12):=by
 unfold eV1;refine Ob (nD1 (by first|omega|(simp only[qB2]at *;omega)) b) fun f a=>?_;exact .mk (by omega)
theorem iA2 {x1:YP} {e:YE} {g:YK} (a:e.sm) (c:g.s'.sm):Ok (eW1 x1 e g) (fun _=>True):=by
 unfold eW1;refine Ob (T87 c) fun⟨q,f⟩ d=>?_;dsimp only at d;refine Ob (P:=fun r=>¬r=true->f=true) (Oi (fun _=>.mk (fun h=>absurd rfl h)) (fun hc=>Ob (T86 a) fun t _=>.mk (fun _=>by simpa using hc))) fun b hb=>?_;refine Oi (fun _=>bB) (fun hc=>?_);simp only[qC2,sI2]at hc;have:=d (hb hc.1);exact Ob (bR (Q:=fun _=>True) this.1 this.2.1 (fun _ _ _=>trivial)) fun x _=>Ob (bR (Q:=fun _=>True) this.2.2.1 this.2.2.2 (fun _ _ _=>trivial)) fun y _=>bB
theorem nF1 {x1:aA YV} {x2:Y0} {x3:Int} (d8:x1.length+3600<=1000000) (y:x2.sm):Ok (Ei x1 x2 x3) (fun v=>x1.length<=v.length/\v.length<=x1.length+3600):=by
 unfold Ei;have N:=y.Measures;refine og x2.Measures x1 3600 300 (pR2 y.Measures (by decide)) (fun Y D q1458 S z c p g a t=>?_) (fun q1458 c g=>?_) fun d7 b7=>?_;obtain⟨b4,K⟩:=q1458;dsimp only at c p a t g;simp only[p,a,nt];have l:=y.MeasuresE _ z;have O:=l.Cells;refine og D.Cells K 300 60 (pR2 l.Cells (by decide)) (fun Z E q1472 T A d q h b u=>?_) (fun q1472 d h=>?_) fun d6 b8=>?_;obtain⟨b5,L⟩:=q1472;dsimp only at d q b u h;simp only[q,a,b,nt];have m:=l.CellsE _ A;have P:=m.Voices;refine og E.Voices L 60 20 (pR2 m.Voices (by decide)) (fun a0 F q1486 U B e r i k w=>?_) (fun q1486 e i=>?_) fun d5 b9=>?_;obtain⟨b6,M⟩:=q1486;dsimp only at e r k w i;simp only[r,a,b,k,nt];have n:=m.VoicesE _ B;have R:=n.Events;refine og F.Events M 20 1 (pR2 n.Events (by decide)) (fun b0 W q1500 V C f s j o x=>?_) (fun q1500 f j=>?_) fun d4 d1=>?_;obtain⟨H,J⟩:=q1500;dsimp only at f s o x j;simp only[s,a,b,k,o,nt];have G:=n.EventsE _ C;refine bS (iA2 G y) fun d2=>?_;refine Ob (kJ (by first|omega|(simp only[qB2]at *;omega)) y) fun d3 X=>?_;exact .mk ⟨x,by dsimp only;omega⟩;obtain⟨H,J⟩:=q1500;dsimp only at f j;simp only[f,nf];exact .mk (by dsimp only;omega);exact .mk ⟨w,by dsimp only;omega⟩;obtain⟨b6,M⟩:=q1486;dsimp only at e i;simp only[e,nf];exact .mk (by dsimp only;omega);exact .mk ⟨u,by dsimp only;omega⟩;obtain⟨b5,L⟩:=q1472;dsimp only at d h;simp only[d,nf];exact .mk (by dsimp only;omega);exact .mk ⟨t,by dsimp only;omega⟩;obtain⟨b4,K⟩:=q1458;dsimp only at c g;simp only[c,nf];exact .mk (by dsimp only;omega);exact .mk (by omega)
theorem nG1 {x1:aA YV} {c:Y0} {e:Int} (d:x1.length+3600<=1000000) (b:c.sm):Ok (eY1 x1 c e) (fun v=>x1.length<=v.length/\v.length<=x1.length+3600):=by
 unfold eY1;refine Ob (nF1 (by first|omega|(simp only[qB2]at *;omega)) b) fun f a=>?_;exact .mk (by omega)
theorem oC {c1 c2:Bool} {x:aA YV} {R:aB (aA YV)} (c:Ok R fun _=>True):Ok (((if decide ((x.length:Int)>0)=true then((if c1=true then some true else((if c2=true then(cK x 0).bind fun a=>(dG x a).bind fun v=>some (decide (v.Rule<10))else some false:aB Bool)).bind fun y=>some y:aB Bool)).bind fun z=>some z else some false:aB Bool)).bind fun b=>if b=true then some x else R) fun _=>True:=by
 have k:∀D:aB Bool,(∃b,D=some b)->Ok (D.bind fun b=>if b=true then some x else R) fun _=>True:=fun D h=>by
  obtain⟨b,rfl⟩:=h;cases b with
  |true=>exact bB
  |false=>exact c
 refine k _ ?_;cases x with
 |nil=>exact⟨_,rfl⟩
 |cons v r=>
  have e:cK (v::r) 0=some 0:=by
   unfold cK rG;rw[pW2 ⟨by decide,by simp⟩];rfl
  rw[pW2 (by simp),e];cases c1<;>cases c2<;>exact⟨_,rfl⟩
theorem T17 {x1:Y0} (a:x1.sm) (b:0<x1.Measures.length):Ok (F17 x1) (fun _=>True):=by
 unfold F17;refine oC (Ob (lL1 (by simp only[nl]at *;omega) a) fun _ _=>?_);refine oC (Ob (lN1 (by simp only[nl]at *;omega) a) fun _ _=>?_);refine oC (Ob (lO1 (by simp only[nl]at *;omega) a) fun _ _=>?_);refine oC (Ob (lR1 (by simp only[nl]at *;omega) a) fun _ _=>?_);refine oC (Ob (lT1 (by simp only[nl]at *;omega) a) fun _ _=>?_);refine oC (Ob (lW1 (by simp only[nl]at *;omega) a) fun _ _=>?_);refine oC (Ob (mG1 (by simp only[nl]at *;omega) a) fun _ _=>?_);refine oC (Ob (mH1 (by simp only[nl]at *;omega) a) fun _ _=>?_);refine oC (Ob (mJ1 (by simp only[nl]at *;omega) a) fun _ _=>?_);refine oC (Ob (mN1 (by simp only[nl]at *;omega) a) fun _ _=>?_);refine oC (Ob (mP1 (by simp only[nl]at *;omega) a) fun _ _=>?_);refine oC (Ob (mR1 (by simp only[nl]at *;omega) a) fun _ _=>?_);refine oC (Ob (mV1 (by simp only[nl]at *;omega) a) fun _ _=>?_);refine oC (Ob (mX1 (by simp only[nl]at *;omega) a b) fun _ _=>?_);refine oC (Ob (nC1 (by simp only[nl]at *;omega) a) fun _ _=>?_);refine oC (Ob (nE1 (by simp only[nl]at *;omega) a) fun _ _=>?_);refine oC (Ob (nG1 (by simp only[nl]at *;omega) a) fun _ _=>?_);exact bB
theorem T7 {x1:Y0} (a:x1.sm):Ok (F7 x1) (fun _=>True):=by
 unfold F7;refine Ob (P:=fun _=>True) ?_ fun v _=>bB;by_cases h0:0<x1.Measures.length;exact(T17 a h0).mono fun _ _=>trivial;unfold F17;refine Ob (P:=fun r=>r=false) (Oi (fun h=>by simp at h) (fun _=>.mk rfl)) fun b hb=>?_;subst hb;refine Oi (fun h=>by cases h) (fun _=>?_);refine Ob (eZ2 a (by omega) (by decide)) fun v hv=>?_;refine Ob (P:=fun r=>r=true) (Oi (fun h=>Ob (P:=fun r=>r=true) (Oi (fun _=>.mk rfl) (fun h=>absurd rfl h)) fun b hb=>.mk hb) (fun h=>by simp at h;simp[h]at hv)) fun b hb=>?_;subst hb;exact Oi (fun _=>bB) (fun h=>absurd rfl h)
end Go.P
set_option maxHeartbeats 1000000
namespace Go.P
theorem sI {α β:Type} {x:aB α} {a:α} {K:α->aB β} {r:aB β} (h:x=some a) (hk:K a=r):x.bind K=r:=by subst h;exact hk
theorem Ok.eq {α:Type} {x:aB α} {a:α} (h:Ok x (fun v=>v=a)):x=some a:=by
 obtain⟨v,h1,rfl⟩:=h;exact h1
theorem nH1 (c d:Bool):(if c=true then some true else some d)=some (c||d):=by cases c<;>rfl
theorem Ii {A:Type} {l:aA A} {body:Int->aB (Int⊕(Unit⊕Unit))} (p:A->Bool) (hl:l.length<9223372036854775808)
  (h:∀(i:Int) (x:A),0<=i->i<(l.length:Int)->x∈l->aT l i=some x->aW (i+1)=i+1->body i=some (if p x then .inr (.inl ())else .inl (i+1)))
  (b:body (l.length:Int)=some (.inr (.inr ()))):aR body bC 0=some (if l.any p then .inl ()else .inr ()):=by
 refine Ok.eq (oT (fun x=>p x=false) hl (fun i x h0 h1 c hg hw=>?_) (fun i hi a=>?_));rw[h i x h0 h1 c hg hw];cases hp:p x with
 |false=>exact .mk ⟨rfl,rfl⟩
 |true=>
  refine .mk ?_;have:l.any p=true:=List.any_eq_true.2 ⟨x,c,hp⟩;rw[this];rfl
 rw[hi,b];refine .mk ?_;have:l.any p=false:=by rw[List.any_eq_false];intro x c;rw[a x c];exact Bool.false_ne_true
 rw[this];rfl
theorem fX1 {A:Type} {l:aA A} {body:Bool×Int->aB ((Bool×Int)⊕Bool)} (p:A->Bool) (hl:l.length<9223372036854775808) (e:Bool)
  (h:∀(b:Bool) (i:Int) (x:A),0<=i->i<(l.length:Int)->x∈l->aT l i=some x->aW (i+1)=i+1->body (b,i)=some (.inl (b||p x,i+1)))
  (c:∀b,body (b,(l.length:Int))=some (.inr b)):aR body bC (e,0)=some (e||l.any p):=by
 refine Ok.eq (bD (l:=l) (fun q=>q.2) (fun i q=>q.1=(e||(l.take i).any p)) hl rfl (by simp) (fun i x q g f hi d a hg hw=>?_) (fun q hi a=>?_));obtain⟨b,k⟩:=q;dsimp only at hi d a hg hw;rw[h b k x (by omega) d f hg (by omega)];refine .mk ⟨by dsimp only;omega,?_⟩;dsimp only;rw[a,List.take_add_one,g,List.any_append,Bool.or_assoc];simp;obtain⟨b,k⟩:=q;dsimp only at hi a;subst hi;rw[c];refine .mk ?_;rw[a,rU2]
theorem vY {A:Type} {l:aA A} {g:A->aB Bool} (p:A->Bool) (hl:l.length<9223372036854775808) (hg:∀x∈l,g x=some (p x)):((fR1 l g).bind fun v=>some (decide (v>=0)))=some (l.any p):=by
 obtain⟨v,h1,h2⟩:=El hl (fun x a=>⟨_,hg x a⟩);rw[h1,pS2];rcases h2 with⟨rfl,h⟩|⟨h0,_,x,a,hp⟩
 have:l.any p=false:=by
  rw[List.any_eq_false];intro x a;have:=h x a;rw[hg x a]at this;rw[rX2 this];exact Bool.false_ne_true
 rw[this];rfl;have b:=pZ2 a;rw[hg x b]at hp;have:l.any p=true:=List.any_eq_true.2 ⟨x,b,rX2 hp⟩;rw[this,qP2 (show v>=0 from h0)]
section
variable {K V:Type} [DecidableEq K]
theorem qH (k:K):∀(l:aA (K×V)) (i:Nat),iD k l (i+1)=(iD k l i).map fun p=>(p.1+1,p.2)
 |[],i=>rfl
 |p::r,i=>by
  simp only[iD]
  by_cases e:k=p.1
  rw[pW2 e,pW2 e];rfl
  rw[pT2 e,pT2 e];exact qH k r (i+1)
theorem oV (p:K×V) (r:aA (K×V)) (k:K) (z:V):kE (p::r) k z=if k=p.1 then p.2 else kE r k z:=by
 unfold kE;simp only[iD];by_cases e:k=p.1;rw[pW2 e,pW2 e];rw[pT2 e,pT2 e,qH];cases iD k r 0<;>rfl
theorem Rw (p:K×V) (r:aA (K×V)) (k:K) (x:V):oZ (p::r) k x=if k=p.1 then(k,x)::r else p::oZ r k x:=by
 unfold oZ;simp only[iD];by_cases e:k=p.1;rw[pW2 e,pW2 e];rfl;rw[pT2 e,pT2 e,qH];cases iD k r 0<;>rfl
theorem tT (k a:K) (x z:V):∀l:aA (K×V),kE (oZ l k x) a z=if a=k then x else kE l a z
 |[]=>by
  show kE ([]++[(k,x)]) a z=_
  rw[List.nil_append,oV]
 |p::r=>by
  rw[Rw,oV]
  by_cases e:k=p.1
  rw[pW2 e,oV]
  by_cases e2:a=k
  rw[pW2 e2,pW2 e2]
  rw[pT2 e2,pT2 e2,pT2 (fun h=>e2 (h.trans e.symm))]
  rw[pT2 e,oV,tT k a x z r]
  by_cases e2:a=p.1
  rw[pW2 e2,pW2 e2,pT2 (fun h=>e (h.symm.trans e2))]
  rw[pT2 e2,pT2 e2]
end
end Go.P
namespace Go.P
variable {s:Y0}
def cZ (s:Y0):Prop:=∀m∈s.Measures,∃n,zT m=some (n,0)
theorem iB2 {x:Int} {m:YM} {c:YK} (f:m.sm) (hc:c.s'.sm):Ok (F70 x m c) (fun b=>b=false->∃n,zT m=some (n,0)):=by
 unfold F70;refine Ok.bindE (T47 f) fun⟨n,e⟩ hv _=>?_;dsimp only;refine Ob (P:=fun b=>e≠0->b=true) (Oi (fun _=>.mk fun _=>rfl) (fun h=>Ob Iv fun _ _=>.mk (fun h2=>absurd (by simpa using h2) h))) fun d h0=>?_;have g:=hc.Parts;refine Ob (P:=fun r=>d=true->r=true) (bD (l:=c.s'.Parts) (fun q=>q.2) (fun _ q=>d=true->q.1=true) (by omega) rfl (fun h=>h) (fun i y q j f hi hl a hg hw=>?_) (fun q hi a=>?_)) fun r hr=>.mk (fun hf=>⟨n,?_⟩);obtain⟨b,k⟩:=q;dsimp only at hi hl a hg hw;simp only[hl,hg,nt];refine Ob (P:=fun r=>d=true->r=true) (Oi (fun hd=>Ob T71 fun⟨u,v⟩ _=>.mk (fun h=>?_)) (fun _=>.mk a)) fun r hr=>.mk ⟨hw,hr⟩;rw[a h]at hd;simp at hd;obtain⟨b,k⟩:=q;dsimp only at hi a;simp only[hi,nf];exact .mk a
 have:e=0:=by
  by_cases he:e=0;exact he;have:=hr (h0 he);rw[hf]at this;cases this
 rw[hv,this]
theorem iC2 {l:aA YV} {r:Int} (h:l.length+12<=1000000) (hs:s.sm):Ok (tO l s r) (fun v=>v.length<=l.length->cZ s):=by
 unfold tO;have p:=hs.Measures;refine Ob (P:=fun v=>v.length<=l.length->cZ s) (bD (l:=s.Measures) (fun q=>q.1) (fun i q=>q.2.length<=l.length+i/\l.length<=q.2.length/\(q.2.length<=l.length->∀j,j<i->∀m,s.Measures[j]? =some m->∃n,zT m=some (n,0))) (by omega) rfl ⟨by dsimp only;omega,pQ2 _,fun _ j d=>by omega⟩ (fun i e q o k hi hl c hg hw=>?_) (fun q hi c=>?_)) fun v hv=>.mk hv;obtain⟨x,v⟩:=q;dsimp only at hi hl c hg hw;simp only[hl,hg,nt];refine Ob (iB2 (hs.MeasuresE e k) hs) fun b hb=>?_;refine Ob (Xt (by omega)) fun u f=>.mk ⟨hw,?_,?_,fun h j d m a=>?_⟩;dsimp only;cases b<;>simp at f<;>omega;dsimp only;cases b<;>simp at f<;>omega;dsimp only at h;cases b with
 |true=>simp at f;omega
 |false=>
  simp only[qA2,false_implies,forall_const,true_and]at f;by_cases g:j=i;subst g;rw[o]at a;cases a;exact hb rfl;exact c.2.2 (by omega) j (by omega) m a
 obtain⟨x,v⟩:=q;dsimp only at hi c;simp only[hi,nf];refine .mk (fun h m k=>?_);obtain⟨j,d⟩:=qG2.1 k;exact c.2.2 h j (pO2.1 d).1 m d
theorem oW {x v:aA YV} {D:aB Bool} {R:aB (aA YV)} (h:((if decide ((x.length:Int)>0)then D else some false).bind fun b=>if b then some x else R)=some v) (h0:v.length=0):R=some v:=by
 by_cases a:((x.length:Int)>0);rw[pW2 (by simpa using a)]at h;cases D with
 |none=>cases h
 |some b=>
  cases b with
  |true=>simp at h;subst h;omega
  |false=>exact h
 rw[pT2 (by simpa using a)]at h;exact h
theorem eB {A B:Type} {x:aB A} {k:A->aB B} {v:B} (h:x.bind k=some v):∃a,x=some a/\k a=some v:=pM2.1 h
theorem E38 (hs:s.sm) (t:0<s.Measures.length) {v:aA YV} (h:F17 s=some v) (h0:v.length=0):cZ s:=by
 unfold F17 at h;have h:=oW h h0;obtain⟨x1,k,h⟩:=eB h;have M:=(lL1 (by decide) hs).of k;have h:=oW h h0;obtain⟨V,e2,h⟩:=eB h;have N:=(lN1 (by simp only[nl]at *;omega) hs).of e2;have h:=oW h h0;obtain⟨W,l,h⟩:=eB h;have O:=(lO1 (by simp only[nl]at *;omega) hs).of l;have h:=oW h h0;obtain⟨X,m,h⟩:=eB h;have P:=(lR1 (by simp only[nl]at *;omega) hs).of m;have h:=oW h h0;obtain⟨Y,a,h⟩:=eB h;have R:=(lT1 (by simp only[nl]at *;omega) hs).of a;have h:=oW h h0;obtain⟨Z,n,h⟩:=eB h;have S:=(lW1 (by simp only[nl]at *;omega) hs).of n;have h:=oW h h0;obtain⟨x7,o,h⟩:=eB h;have T:=(mG1 (by simp only[nl]at *;omega) hs).of o;have h:=oW h h0;obtain⟨x8,p,h⟩:=eB h;have i8:=(mH1 (by simp only[nl]at *;omega) hs).of p;have h:=oW h h0;obtain⟨x9,q,h⟩:=eB h;have U:=(mJ1 (by simp only[nl]at *;omega) hs).of q;have h:=oW h h0;obtain⟨D,b,h⟩:=eB h;have u:=(mN1 (by simp only[nl]at *;omega) hs).of b;have h:=oW h h0;obtain⟨E,c,h⟩:=eB h;have w:=(mP1 (by simp only[nl]at *;omega) hs).of c;have h:=oW h h0;obtain⟨F,d,h⟩:=eB h;have x:=(mR1 (by simp only[nl]at *;omega) hs).of d;have h:=oW h h0;obtain⟨G,e,h⟩:=eB h;have z:=(mV1 (by simp only[nl]at *;omega) hs).of e;have h:=oW h h0;obtain⟨H,f,h⟩:=eB h;have A:=(mX1 (by simp only[nl]at *;omega) hs t).of f;have h:=oW h h0;obtain⟨J,g,h⟩:=eB h;have B:=(nC1 (by simp only[nl]at *;omega) hs).of g;have h:=oW h h0;obtain⟨K,i,h⟩:=eB h;have i16:=(nE1 (by simp only[nl]at *;omega) hs).of i;have h:=oW h h0;obtain⟨L,j,h⟩:=eB h;have C:=(nG1 (by simp only[nl]at *;omega) hs).of j;cases h;unfold Wl at a;obtain⟨y,a,r⟩:=eB a;cases r;exact(iC2 (by simp only[nl]at *;omega) hs).of a (by omega)
theorem wU1 (hs:s.sm) (hv:F7 s=some true):cZ s:=by
 by_cases a:0<s.Measures.length;unfold F7 at hv;obtain⟨v,h,hv⟩:=eB hv;exact E38 hs a h (by simp at hv;simp[hv]);intro m b;have:=List.length_pos_of_mem b;omega
theorem U65:∀u:Fin 65,0<u.val->0<(1935360:Int).tdiv u.val/\(1935360:Int).tdiv u.val<=1935360:=by decide+kernel
theorem E94 {m:YM} {n:Int} (h:zT m=some (n,0)):0<n/\n<=15482880:=by
 unfold zT at h;obtain⟨⟨a,e⟩,h1,h⟩:=eB h;dsimp only at h;split at h;rename_i he;cases h;simp at he;rename_i he;have he:e=0:=by simpa using he
 subst he;split at h;cases h;rename_i o;obtain⟨x,b,h⟩:=eB h;obtain⟨y,_,h⟩:=eB h;split at h;cases h;split at h;cases h;rename_i p;cases h;simp only[pU2]at o b p;refine⟨?_,by omega⟩;split at b;cases b;assumption;cases b;unfold Rb Qy Ra Qz at h1;obtain⟨c,hc,h1⟩:=eB h1
 have f:c=0:=by
  by_cases d:c=0;exact d;rw[pW2 (by simpa using d)]at h1;cases h1;exact absurd rfl d
 subst f;rw[pT2 (by simp)]at h1;split at hc;cases hc;rename_i l;split at hc;cases hc;rename_i g2;simp only[qC2,pU2,sI2,bne_iff_ne,ne_eq,Decidable.not_not]at l g2;obtain⟨z,j,h1⟩:=eB h1;cases h1;obtain⟨q,g,j⟩:=eB j;cases j;generalize m.Metre.Unit=u at *;generalize m.Metre.Count=k at *;have i:=U65 ⟨u.toNat,by omega⟩ (by dsimp only;omega);dsimp only at i;rw[Int.toNat_of_nonneg (by omega)]at i;unfold zR at g;rw[pT2 (by omega),show IntKind.wrap .i64 ((1935360:Int).tdiv u)=aW ((1935360:Int).tdiv u)from rfl,bA (by omega) (by omega)]at g;cases g;generalize(1935360:Int).tdiv u=z at *;have r:k*z<=64*1935360:=rL2 (by omega) i.2 (by omega) (by decide);have s:1*1<=k*z:=rL2 (by omega) (by omega) (by decide) (by omega);rw[bA (by omega) (by omega)];omega
end Go.P
namespace Go.P
theorem wV1 {α:Type} {x:aB α} {a:α} (h:Ok x (fun v=>v=a)):x=some a:=by
 obtain⟨v,rfl,rfl⟩:=h;rfl
theorem okb {α β:Type} {x:aB α} {v:α} {k:α->aB β} {Q:β->Prop} (h:x=some v) (hk:Ok (k v) Q):Ok (x.bind k) Q:=by
 subst h;exact hk
def qI:aA Int->aA Int->Int
 |a::aqs,b::bs=>if a<b then -1 else if a>b then 1 else qI aqs bs
 |_,_=>0
theorem fY1 {a b:Int} {aqs c:aA Int}:qI (a::aqs) (b::c)<=0↔a<b\/a=b/\qI aqs c<=0:=by
 rw[qI];split;omega;split<;>omega
theorem Ij:∀a b:aA Int,qI b a= -qI a b
 |[],[]=>rfl
 |[],_::_=>rfl
 |_::_,[]=>rfl
 |a::aqs,b::bs=>by
  have:=Ij aqs bs
  simp only[qI]
  repeat' split
  all_goals omega
theorem yT:∀a b c:aA Int,a.length=b.length->b.length=c.length->qI a b<=0->qI b c<=0->qI a c<=0
 |[],[],[],_,_,_,_=>rH2 _
 |a::aqs,b::bs,c::cs,h1,h2,e,d=>by
  rw[fY1]at e d ⊢
  have:=yT aqs bs cs (by simpa using h1) (by simpa using h2)
  rcases e with e|⟨e,h5⟩
  rcases d with d|⟨d,h6⟩<;>exact .inl (by omega)
  rcases d with d|⟨d,h6⟩
  exact .inl (by omega)
  exact .inr ⟨by omega,this h5 h6⟩
def KN (x:aG):aA Int:=[x.On,x.Number,x.Part,x.Staff,x.Voice,x.Off,x.Event.Site,x.Event.Number,x.Head]
def cN (x y:aG):Int:=qI (KN x) (KN y)
def En (x y:aG):Prop:=cN x y<=0
theorem Eo (x:aG):(KN x).length=9:=rfl
theorem Ep (x y:aG):cN y x= -cN x y:=Ij _ _
theorem gG {x y z:aG} (h1:En x y) (h2:En y z):En x z:=yT _ _ _ (by rw[Eo,Eo]) (by rw[Eo,Eo]) h1 h2
theorem Er {x y:aG} (h:cN x y<0):En x y:=by unfold En;omega
theorem Es {x y:aG} (h:¬cN y x<0):En x y:=by have:=Ep x y;unfold En;omega
def Sd (r l:aA aG):Prop:=r.Perm l/\r.Pairwise En
def d0:aG:=⟨0,0,0,0,0,0,⟨0,0⟩,0⟩
def gn (l:aA aG) (p:Nat):aG:=l.getD p d0
theorem yU {l:aA aG} {p:Nat} (h:p<l.length):gn l p=l[p]:=by simp[gn,h]
theorem gP {l:aA aG} {p:Nat} (h:p<l.length):dG l p=some (gn l p):=by
 rw[yU h];exact qN2 h
theorem fA {A:Type} {l:aA A} {i:Int} {p:Nat} (hi:i=(p:Int)) (h:p<l.length):cK l i=some p:=by
 subst hi;unfold cK rG;rw[pW2 ⟨by omega,by omega⟩,Int.toNat_natCast]
def swp (l:aA aG) (p q:Nat):aA aG:=(l.set p (gn l q)).set q (gn l p)
theorem vZ (l:aA aG) (p q:Nat):(swp l p q).length=l.length:=by simp[swp]
theorem Ya {l:aA aG} {p q:Nat} {v:aG} (h:p<l.length):gn (l.set p v) q=if q=p then v else gn l q:=by
 unfold gn;rw[List.getD_eq_getElem?_getD,List.getD_eq_getElem?_getD,qK2];by_cases a:p=q;subst a;simp[h];rw[pT2 a,pT2 (fun h=>a h.symm)]
theorem qJ {l:aA aG} {p q k:Nat} (hp:p<l.length) (a:q<l.length):gn (swp l p q) k=if k=q then gn l p else if k=p then gn l q else gn l k:=by
 unfold swp;rw[Ya (by simpa using a),Ya hp]
theorem sJ {l:aA aG} {p q:Nat} (hp:p<l.length) (a:q<l.length):(swp l p q).Perm l:=by
 unfold swp;rw[yU hp,yU a];exact List.set_set_perm hp a
theorem oX {l:aA aG} {p:Nat} {v:aG} (h:p<l.length):iZ l p (fun _=>v)=some (l.set p v):=by
 unfold iZ;rw[qN2 h];rfl
theorem nI1 {l:aA aG} {f g:Int} {p q:Nat} (h:f=(q:Int)) (e2:g=(p:Int)) (hp:p<l.length) (e:q<l.length) {B:Type} {k:aA aG->aB B} {Q:B->Prop} (hk:Ok (k (swp l p q)) Q):
  Ok ((cK l f).bind fun a=>(dG l a).bind fun x=>(cK l g).bind fun b=>(dG l b).bind fun y=>(cK l g).bind fun c=>(iZ l c (fun _=>x)).bind fun i=>(cK i f).bind fun d=>(iZ i d (fun _=>y)).bind k) Q:=by
 refine okb (fA h e) (okb (gP e) (okb (fA e2 hp) (okb (gP hp) (okb (fA e2 hp) (okb (oX hp) ?_)))));exact okb (fA h (by simpa using e)) (okb (oX (by simpa using e)) hk)
theorem fZ1 {x:Int} (h0:0<=x) (h1:x<9223372036854775808):rZ .u64 (IntKind.wrap .u64 (aW x)) 1=some (x/2):=by
 rw[bA (by omega) h1]
 have e:IntKind.wrap .u64 x=x:=by
  unfold IntKind.wrap;rw[show((2:Int)^IntKind.bits .u64)=18446744073709551616 from rfl];simp[IntKind.signed];omega
 rw[e];unfold rZ;rw[pT2 (by decide),show min (Int.toNat 1) (IntKind.bits .u64)=1 from rfl];simp only[Int.pow_succ,Int.pow_zero,Int.one_mul];rw[Int.fdiv_eq_ediv_of_nonneg _ (by decide)]
def Sg (r l:aA aG) (a b:Nat):Prop:=r.Perm l/\r.length=l.length/\(∀p,p<a\/b<=p->gn r p=gn l p)/\∀p,a<=p->p<b->∃q,a<=q/\q<b/\gn r p=gn l q
theorem Sg.refl (l:aA aG) (a b:Nat):Sg l l a b:=⟨.refl _,rfl,fun _ _=>rfl,fun p h1 h2=>⟨p,h1,h2,rfl⟩⟩
theorem Sg.trans {r l m:aA aG} {a b:Nat} (h1:Sg r l a b) (h2:Sg l m a b):Sg r m a b:=
 ⟨h1.1.trans h2.1,h1.2.1.trans h2.2.1,fun p hp=>(h1.2.2.1 p hp).trans (h2.2.2.1 p hp),fun p c d=>by
  obtain⟨q,q1,q2,q3⟩:=h1.2.2.2 p c d
  obtain⟨s,e,f,g⟩:=h2.2.2.2 q q1 q2
  exact⟨s,e,f,q3.trans g⟩⟩
theorem Sg.mono {r l:aA aG} {a b a' b':Nat} (h:Sg r l a b) (e:a'<=a) (hb:b<=b'):Sg r l a' b':=
 ⟨h.1,h.2.1,fun p hp=>h.2.2.1 p (by omega),fun p c d=>by
  by_cases hc:a<=p/\p<b
  obtain⟨q,q1,q2,q3⟩:=h.2.2.2 p hc.1 hc.2
  exact⟨q,by omega,by omega,q3⟩
  exact⟨p,c,d,h.2.2.1 p (by omega)⟩⟩
theorem Sg.swp {l:aA aG} {a b p q:Nat} (hb:b<=l.length) (h1:a<=p) (h2:p<b) (d:a<=q) (e:q<b):Sg (swp l p q) l a b:=by
 refine⟨sJ (by omega) (by omega),vZ _ _ _,fun k hk=>?_,fun k f g=>?_⟩;rw[qJ (by omega) (by omega),pT2 (by omega),pT2 (by omega)];rw[qJ (by omega) (by omega)];by_cases c:k=q;exact⟨p,h1,h2,by rw[pW2 c]⟩;by_cases e2:k=p;exact⟨q,d,e,by rw[pT2 c,pW2 e2]⟩;exact⟨k,f,g,by rw[pT2 c,pT2 e2]⟩
def SS (l:aA aG) (a b:Nat):Prop:=∀p q,a<=p->p<=q->q<b->En (gn l p) (gn l q)
theorem yV (x:aG):En x x:=by have:=Ep x x;unfold En;omega
theorem SS.sub {l:aA aG} {a b a' b':Nat} (h:SS l a b) (d:a<=a') (hb:b'<=b):SS l a' b':=fun p q h1 h2 c=>h p q (by omega) h2 (by omega)
theorem SS.off {r l:aA aG} {a b x y:Nat} (h:SS l x y) (hs:Sg r l a b) (hd:y<=a\/b<=x):SS r x y:=fun p q h1 h2 c=>by
 rw[hs.2.2.1 p (by omega),hs.2.2.1 q (by omega)];exact h p q h1 h2 c
end Go.P
namespace Go.P
def Om (a b:Int):Int:=if a<b then -1 else if b<a then 1 else 0
theorem gA1 (a b:Int):pB a b=some (Om a b):=by
 unfold pB Rm Om;simp only[bne_self_eq_false,pS2,qA2,qX2,pU2];split;rfl;split<;>rfl
def zC:aA Int->Int
 |[]=>0
 |a::r=>if a=0 then zC r else a
theorem Yb:∀a b:aA Int,zC (List.zipWith Om a b)=qI a b
 |[],_=>by simp[zC,qI]
 |_::_,[]=>by simp[zC,qI]
 |a::aqs,b::bs=>by
  rw[List.zipWith_cons_cons,zC,qI,Yb aqs bs]
  unfold Om
  repeat' split
  all_goals omega
theorem gB1 {l:aA Int} (hl:l.length<1000):Ld l=some (zC l):=by
 refine wV1 ?_;unfold Ld;refine Ob (P:=fun r=>match r with|.inl v=>v=zC l|.inr _=>0=zC l) (bD (l:=l) (fun q=>q) (fun i _=>zC (l.drop i)=zC l) (by omega) rfl rfl (fun i e q d f hi b a hg hw=>?_) (fun q hi a=>?_)) fun r hr=>?_;rw[hi]at hg b hw ⊢;obtain⟨c,rfl⟩:=pO2.1 d;rw[pW2 (by simpa using b),hg];simp only[pS2];rw[List.drop_eq_getElem_cons c,zC]at a;by_cases h0:l[i]=0;rw[pW2 h0]at a;rw[pT2 (by simpa using h0),hw];exact .mk ⟨rfl,a⟩;rw[pT2 h0]at a;rw[pW2 (by simpa using h0)];exact .mk a;rw[hi,pT2 (by simp)];rw[List.drop_length]at a;exact .mk a;rcases r with v|_;exact .mk hr;exact .mk hr
theorem Et (x y:aG):F52 x y=some (cN x y):=by
 unfold F52;simp only[gA1,pS2];rw[gB1 (by simp)];rw[show[Om x.On y.On,Om x.Number y.Number,Om x.Part y.Part,Om x.Staff y.Staff,Om x.Voice y.Voice,Om x.Off y.Off,Om x.Event.Site y.Event.Site,Om x.Event.Number y.Event.Number,Om x.Head y.Head]=List.zipWith Om (KN x) (KN y)from rfl,Yb];rfl
theorem yW {a b n:Nat} {l:aA aG} (h1:a+n<=b) (h2:b+n<=l.length) (hl:l.length<4611686018427387904):
  Ok (Bp ((a:Nat):Int) ((b:Nat):Int) ((n:Nat):Int) l) (fun r=>r.Perm l/\r.length=l.length/\∀p,gn r p=if a<=p/\p<a+n then gn l (p+(b-a))else if b<=p/\p<b+n then gn l (p-(b-a))else gn l p):=by
 unfold Bp;refine Ob (P:=fun r=>r.Perm l/\r.length=l.length/\∀p,gn r p=if a<=p/\p<a+n then gn l (p+(b-a))else if b<=p/\p<b+n then gn l (p-(b-a))else gn l p) (cT (fun(q:Int×aA aG)=>∃i:Nat,q.1=(i:Int)/\i<=n/\q.2.Perm l/\q.2.length=l.length/\∀p,gn q.2 p=if a<=p/\p<a+i then gn l (p+(b-a))else if b<=p/\p<b+i then gn l (p-(b-a))else gn l p) (fun(q:Int×aA aG)=>n-q.1.toNat) (fun q s=>?_) bC (0,l) ⟨0,rfl,by omega,.refl _,rfl,fun p=>by rw[pT2 (by omega),pT2 (by omega)]⟩ (by simp only[bC];omega)) fun r hr=>.mk hr;obtain⟨k,c⟩:=q;obtain⟨i,m,g2,e,f,d⟩:=s;dsimp only at m e f d ⊢;subst m;by_cases hc:(i:Int)<(n:Int);rw[pW2 (by simpa using hc)];have o:i<n:=by omega
 refine nI1 (p:=a+i) (q:=b+i) (by rw[bA (by omega) (by omega)];omega) (by rw[bA (by omega) (by omega)];omega) (by omega) (by omega) ?_;rw[bA (n:=(i:Int)+1) (by omega) (by omega)];refine .mk ⟨⟨i+1,by simp,by omega,(sJ (by omega) (by omega)).trans e,by rw[vZ];exact f,fun p=>?_⟩,by dsimp only;omega⟩;dsimp only;rw[qJ (by omega) (by omega)];by_cases g:p=b+i;rw[pW2 g,d,pT2 (by omega),pT2 (by omega),pT2 (by omega),pW2 (by omega)];exact congrArg (gn l) (by omega);rw[pT2 g];by_cases e2:p=a+i;rw[pW2 e2,d,pT2 (by omega),pT2 (by omega),pW2 (by omega)];exact congrArg (gn l) (by omega);rw[pT2 e2,d];by_cases h:a<=p/\p<a+i;rw[pW2 h,pW2 (by omega)];rw[pT2 h,pT2 (c:=a<=p/\p<a+(i+1)) (by omega)];by_cases j:b<=p/\p<b+i;rw[pW2 j,pW2 (by omega)];rw[pT2 j,pT2 (by omega)];rw[pT2 (by simpa using hc)];have:i=n:=by omega
 subst this;exact .mk ⟨e,f,d⟩
def jD (f:Nat->aG) (x y z p:Nat):aG:=if x<=p/\p<x+(z-y)then f (p+(y-x))else if x+(z-y)<=p/\p<z then f (p-(z-y))else f p
theorem Yc {a m b:Nat} {l:aA aG} (h1:a<m) (h2:m<b) (B:b<=l.length) (hl:l.length<4611686018427387904):
  Ok (Of ((a:Nat):Int) ((m:Nat):Int) ((b:Nat):Int) l) (fun r=>r.Perm l/\r.length=l.length/\∀p,gn r p=jD (gn l) a m b p):=by
 unfold Of
 refine Ob (P:=fun r=>∃i:Nat,r.1=(i:Int)/\0<i/\a+i<=m/\m+i<=b/\r.2.Perm l/\r.2.length=l.length/\∀p,jD (gn r.2) (m-i) m (m+i) p=jD (gn l) a m b p) (cT (fun(q:Int×Int×aA aG)=>∃i j:Nat,q.1=(i:Int)/\q.2.1=(j:Int)/\0<i/\0<j/\a+i<=m/\m+j<=b/\q.2.2.Perm l/\q.2.2.length=l.length/\∀p,jD (gn q.2.2) (m-i) m (m+j) p=jD (gn l) a m b p) (fun(q:Int×Int×aA aG)=>q.1.toNat+q.2.1.toNat) (fun q z=>?_) bC (aW ((m:Int)-a),aW ((b:Int)-m),l) ⟨m-a,b-m,by show aW _=_;rw[bA (by omega) (by omega)];omega,by show aW _=_;rw[bA (by omega) (by omega)];omega,by omega,by omega,by omega,by omega,.refl _,rfl,fun p=>by
   rw[show m-(m-a)=a by omega,show m+(b-m)=b by omega]⟩ (by show(aW ((m:Int)-a)).toNat+(aW ((b:Int)-m)).toNat<bC;rw[bA (by omega) (by omega),bA (by omega) (by omega)];simp only[bC];omega)) fun r hr=>?_
 obtain⟨A,C,c⟩:=q;obtain⟨i,j,h,g2,w,y,k,o,g,s,t⟩:=z;dsimp only at h g2 g s t ⊢;subst h g2;by_cases x:i=j;rw[pT2 (by simp;omega)];subst x;exact .mk ⟨i,rfl,w,k,o,g,s,t⟩;rw[pW2 (by simp;omega)];by_cases f:(i:Int)>(j:Int);rw[pW2 (by simpa using f)];have f:j<i:=by omega
 rw[bA (n:=(m:Int)-i) (by omega) (by omega),bA (n:=(i:Int)-j) (by omega) (by omega),show(m:Int)-i=((m-i:Nat):Int)by omega,show(i:Int)-j=((i-j:Nat):Int)by omega];obtain⟨d,u,e2,v,e⟩:=yW (a:=m-i) (b:=m) (n:=j) (l:=c) (by omega) (by omega) (by omega);rw[u];simp only[pS2];refine .mk ⟨⟨i-j,j,rfl,rfl,by omega,y,by omega,o,e2.trans g,v.trans s,fun p=>?_⟩,by dsimp only;omega⟩;rw[<-t p];dsimp only;unfold jD;rw[show m+j-m=j by omega,show m-(m-(i-j))=i-j by omega,show m-(m-i)=i by omega];by_cases c1:m-i<=p/\p<m-i+j;rw[pT2 (by omega),pT2 (by omega),pW2 (by omega),e,pW2 (by omega)];exact congrArg (gn c) (by omega);by_cases c2:m-i+j<=p/\p<m+j;rw[pT2 (c:=m-i<=p/\p<m-i+j) c1,pW2 (c:=m-i+j<=p/\p<m+j) c2];by_cases c3:p<m-(i-j)+j;rw[pW2 (by omega),e,pT2 (by omega),pW2 (by omega)];exact congrArg (gn c) (by omega);rw[pT2 (by omega),pW2 (by omega),e,pT2 (by omega),pT2 (by omega)];rw[pT2 (by omega),pT2 (by omega),pT2 (by omega),pT2 (by omega),e,pT2 (by omega),pT2 (by omega)];rw[pT2 (by simpa using f)];have f:i<j:=by omega
 rw[bA (n:=(m:Int)-i) (by omega) (by omega),bA (n:=(m:Int)+j) (by omega) (by omega),bA (n:=(m:Int)+j-i) (by omega) (by omega),bA (n:=(j:Int)-i) (by omega) (by omega),show(m:Int)-i=((m-i:Nat):Int)by omega,show(m:Int)+j-i=((m+j-i:Nat):Int)by omega,show(j:Int)-i=((j-i:Nat):Int)by omega];obtain⟨d,u,e2,v,e⟩:=yW (a:=m-i) (b:=m+j-i) (n:=i) (l:=c) (by omega) (by omega) (by omega);rw[u];simp only[pS2];refine .mk ⟨⟨i,j-i,rfl,rfl,w,by omega,k,by omega,e2.trans g,v.trans s,fun p=>?_⟩,by dsimp only;omega⟩;rw[<-t p];dsimp only;unfold jD;rw[show m+(j-i)-m=j-i by omega,show m-(m-i)=i by omega,show m+j-m=j by omega];by_cases c1:m+j-i<=p/\p<m+j;rw[pT2 (by omega),pT2 (by omega),pT2 (by omega),pW2 (by omega),e,pT2 (by omega),pW2 (by omega)];exact congrArg (gn c) (by omega);by_cases c2:m-i<=p/\p<m+j-i;by_cases c3:p<m-i+(j-i);rw[pW2 (by omega),pW2 (by omega),e,pT2 (by omega),pT2 (by omega)];rw[pT2 (by omega),pW2 (by omega),pW2 (by omega),e,pW2 (by omega)];exact congrArg (gn c) (by omega);rw[pT2 (by omega),pT2 (by omega),pT2 (by omega),pT2 (by omega),e,pT2 (by omega),pT2 (by omega)];obtain⟨A,c⟩:=r;obtain⟨i,h,g2,w,y,k,o,g⟩:=hr;dsimp only at h k o g ⊢;subst h;rw[bA (n:=(m:Int)-i) (by omega) (by omega),show(m:Int)-i=((m-i:Nat):Int)by omega];refine(Ob (yW (a:=m-i) (b:=m) (n:=i) (l:=c) (by omega) (by omega) (by omega)) fun d hd=>.mk ⟨hd.1.trans k,hd.2.1.trans o,fun p=>?_⟩);rw[<-g p,hd.2.2 p];unfold jD;rw[show m-(m-i)=i by omega,show m+i-m=i by omega];by_cases c1:m-i<=p/\p<m-i+i;rw[pW2 c1,pW2 c1];rw[pT2 c1,pT2 c1];by_cases c2:m<=p/\p<m+i;rw[pW2 c2,pW2 (by omega)];rw[pT2 c2,pT2 (by omega)]
end Go.P
namespace Go.P
theorem Yd {body:Int×Int->aB ((Int×Int)⊕Int)} {lo hi:Nat} (T:Nat->Prop) (m:∀c a,lo<=c->c<=a->a<hi->T a->T c) (hl:lo<=hi) (o:hi<4611686018427387904)
  (h1:∀i j h:Nat,lo<=i->i<j->j<=hi->i<=h->h<j->((i:Int)+j)/2=(h:Int)->(T h/\body ((i:Int),(j:Int))=some (.inl (((h+1:Nat):Int),(j:Int))))\/(¬T h/\body ((i:Int),(j:Int))=some (.inl ((i:Int),(h:Int)))))
  (h2:∀i j:Int,¬i<j->body (i,j)=some (.inr i)):
  Ok (aR body bC ((lo:Int),(hi:Int))) (fun r=>∃k:Nat,r=(k:Int)/\lo<=k/\k<=hi/\(∀c,lo<=c->c<k->T c)/\∀c,k<=c->c<hi->¬T c):=by
 refine cT (fun(q:Int×Int)=>∃i j:Nat,q=((i:Int),(j:Int))/\lo<=i/\i<=j/\j<=hi/\(∀c,lo<=c->c<i->T c)/\∀c,j<=c->c<hi->¬T c) (fun(q:Int×Int)=>(q.2-q.1).toNat) (fun q n=>?_) bC _ ⟨lo,hi,rfl,pQ2 _,hl,pQ2 _,fun c _ _=>by omega,fun c _ _=>by omega⟩ (by simp only[bC];omega);obtain⟨i,j,rfl,b,g2,d,g,l⟩:=n;by_cases hc:i<j;rcases h1 i j ((i+j)/2) b hc d (by omega) (by omega) (by omega)with⟨f,e⟩|⟨f,e⟩
 rw[e];exact .mk ⟨⟨(i+j)/2+1,j,rfl,by omega,by omega,d,fun c c1 c2=>m c ((i+j)/2) c1 (by omega) (by omega) f,l⟩,by dsimp only;omega⟩;rw[e];refine .mk ⟨⟨i,(i+j)/2,rfl,b,by omega,by omega,g,fun c c1 c2 c3=>?_⟩,by dsimp only;omega⟩;exact f (m _ c (by omega) c1 c2 c3);rw[h2 _ _ (by omega)];have:i=j:=by omega
 subst this;exact .mk ⟨i,rfl,b,d,g,l⟩
theorem vA {f:Nat->aG} {x y z p:Nat} (h:p<x):jD f x y z p=f p:=by
 unfold jD;rw[pT2 (by omega),pT2 (by omega)]
theorem yX {f:Nat->aG} {x y z p:Nat} (h1:x<=p) (h2:p<x+(z-y)):jD f x y z p=f (p+(y-x)):=by
 unfold jD;rw[pW2 ⟨h1,h2⟩]
theorem vB {f:Nat->aG} {x y z p:Nat} (h1:x+(z-y)<=p) (h2:p<z):jD f x y z p=f (p-(z-y)):=by
 unfold jD;rw[pT2 (by omega),pW2 ⟨h1,h2⟩]
theorem tU {f:Nat->aG} {x y z p:Nat} (h0:x<=y) (h:z<=p) (h1:y<=z):jD f x y z p=f p:=by
 unfold jD;rw[pT2 (by omega),pT2 (by omega)]
theorem Lo {f:Nat->aG} {x y z p:Nat} (h0:x<=y) (h1:y<=z) (h:x=y\/y=z):jD f x y z p=f p:=by
 by_cases c1:p<x;exact vA c1;by_cases c2:p<x+(z-y);rw[yX (by omega) c2];exact congrArg f (by omega);by_cases c3:p<z;rw[vB (by omega) c3];exact congrArg f (by omega);exact tU h0 (by omega) h1
section
variable {l r:List aG} {a s m e b:Nat}
theorem Lp (f:a<=s) (hs:s<=m) (he:m<=e) (hb:e<=b) (hp:r.Perm l) (hl:r.length=l.length) (h:∀p,gn r p=jD (gn l) s m e p):Sg r l a b:=by
 refine⟨hp,hl,fun p k=>?_,fun p c d=>?_⟩;rw[h];rcases k with k|k;exact vA (by omega);exact tU hs (by omega) he;rw[h];by_cases c1:p<s;exact⟨p,c,d,vA c1⟩;by_cases c2:p<s+(e-m);exact⟨_,by omega,by omega,yX (by omega) c2⟩;by_cases c3:p<e;exact⟨_,by omega,by omega,vB (by omega) c3⟩;exact⟨p,c,d,tU hs (by omega) he⟩
theorem Lq (g:a<=s) (hs:s<=m) (he:m<=e) (hb:e<=b) (h:∀p,gn r p=jD (gn l) s m e p) (d:SS l a m) (f:SS l m b):
  SS r a s/\SS r s (s+(e-m))/\SS r (s+(e-m)) e/\SS r e b:=by
 refine⟨fun p q h1 h2 c=>?_,fun p q h1 h2 c=>?_,fun p q h1 h2 c=>?_,fun p q h1 h2 c=>?_⟩;rw[h,h,vA (by omega),vA (by omega)];exact d p q h1 h2 (by omega);rw[h,h,yX (by omega) (by omega),yX (by omega) (by omega)];exact f _ _ (by omega) (by omega) (by omega);rw[h,h,vB (by omega) (by omega),vB (by omega) (by omega)];exact d _ _ (by omega) (by omega) (by omega);rw[h,h,tU hs (by omega) he,tU hs (by omega) he];exact f p q (by omega) h2 c
def Cr (l:aA aG) (a m b:Nat):Prop:=∀p q,a<=p->p<m->m<=q->q<b->En (gn l p) (gn l q)
theorem Cr.glue (h:Cr l a m b) (d:SS l a m) (e:SS l m b):SS l a b:=fun p q h1 h2 c=>by
 by_cases c1:q<m
 exact d p q h1 h2 c1
 by_cases c2:p<m
 exact h p q h1 c2 (by omega) c
 exact e p q (by omega) h2 c
theorem Cr.left (h:Cr l a m b) (hs:Sg r l a m):Cr r a m b:=fun p q h1 h2 c d=>by
 obtain⟨u,e,f,g⟩:=hs.2.2.2 p h1 h2
 rw[g,hs.2.2.1 q (by omega)]
 exact h u q e f c d
theorem Cr.right (h:Cr l a m b) (hs:Sg r l m b):Cr r a m b:=fun p q h1 h2 c d=>by
 obtain⟨u,e,f,g⟩:=hs.2.2.2 q c d
 rw[g,hs.2.2.1 p (by omega)]
 exact h p u h1 h2 e f
theorem Lr (j:a<=s) (hs:s<=m) (he:m<=e) (hb:e<=b) (h:∀p,gn r p=jD (gn l) s m e p) (g:SS l a m) (i:SS l m b)
  (h1:∀u v,a<=u->u<s->e<=v->v<b->En (gn l u) (gn l v)) (h2:∀w u,m<=w->w<e->s<=u->u<m->En (gn l w) (gn l u)):Cr r a (s+(e-m)) b:=by
 intro p q c f k d;rw[h,h];by_cases c1:p<s;rw[vA c1];by_cases c2:q<e;rw[vB (by omega) c2];exact g _ _ c (by omega) (by omega);rw[tU hs (by omega) he];exact h1 _ _ c c1 (by omega) d;rw[yX (by omega) f];by_cases c2:q<e;rw[vB (by omega) c2];exact h2 _ _ (by omega) (by omega) (by omega) (by omega);rw[tU hs (by omega) he];exact i _ _ (by omega) (by omega) d
end
theorem mR {x y:aG}:¬cN x y<0↔En y x:=by have:=Ep x y;unfold En;omega
theorem wW1 {a z:Nat} {l:aA aG} (h1:a<z) (h2:z<=l.length) (hl:l.length<4611686018427387904) {body:Int×aA aG->aB ((Int×aA aG)⊕aA aG)}
  (hb:∀(k:Nat) (c:aA aG),a<=k->k+1<z->c.length=l.length->body ((k:Int),c)=some (.inl (((k+1:Nat):Int),swp c k (k+1)))) (he:∀c,body (((z-1:Nat):Int),c)=some (.inr c)):
  Ok (aR body bC ((a:Int),l)) (fun r=>r.Perm l/\r.length=l.length/\∀p,gn r p=jD (gn l) a (a+1) z p):=by
 refine cT (fun(q:Int×aA aG)=>∃k:Nat,q.1=(k:Int)/\a<=k/\k<z/\q.2.Perm l/\q.2.length=l.length/\∀p,gn q.2 p=jD (gn l) a (a+1) (k+1) p) (fun(q:Int×aA aG)=>z-q.1.toNat) (fun q g=>?_) bC _ ⟨a,rfl,by omega,h1,.refl _,rfl,fun p=>(Lo (by omega) (by omega) (by omega)).symm⟩ (by simp only[bC];omega);obtain⟨i,c⟩:=q;obtain⟨k,f,g2,h,e,d,b⟩:=g;dsimp only at f e d b;subst f;by_cases hc:k+1<z;rw[hb k c g2 hc d];refine .mk ⟨⟨k+1,rfl,by omega,hc,(sJ (by omega) (by omega)).trans e,by rw[vZ];exact d,fun p=>?_⟩,by dsimp only;omega⟩;dsimp only;rw[qJ (by omega) (by omega),b,b,b];by_cases c1:p=k+1;rw[pW2 c1,vB (by omega) (by omega),vB (by omega) (by omega)];exact congrArg (gn l) (by omega);rw[pT2 c1];by_cases c2:p=k;rw[pW2 c2,tU (by omega) (by omega) (by omega),yX (by omega) (by omega)];exact congrArg (gn l) (by omega);rw[pT2 c2];by_cases c3:p<a;rw[vA c3,vA c3];by_cases c4:p<k;rw[yX (by omega) (by omega),yX (by omega) (by omega)];rw[tU (by omega) (by omega) (by omega),tU (by omega) (by omega) (by omega)];have:k=z-1:=by omega
 rw[this,he];exact .mk ⟨e,d,fun p=>by rw[b,show k+1=z by omega]⟩
theorem wX1 {a z:Nat} {l:aA aG} (h1:a<=z) (h2:z<l.length) (hl:l.length<4611686018427387904) {body:Int×aA aG->aB ((Int×aA aG)⊕aA aG)}
  (hb:∀(k:Nat) (c:aA aG),a<k->k<=z->c.length=l.length->body ((k:Int),c)=some (.inl (((k-1:Nat):Int),swp c k (k-1)))) (he:∀c,body ((a:Int),c)=some (.inr c)):
  Ok (aR body bC ((z:Int),l)) (fun r=>r.Perm l/\r.length=l.length/\∀p,gn r p=jD (gn l) a z (z+1) p):=by
 refine cT (fun(q:Int×aA aG)=>∃k:Nat,q.1=(k:Int)/\a<=k/\k<=z/\q.2.Perm l/\q.2.length=l.length/\∀p,gn q.2 p=jD (gn l) k z (z+1) p) (fun(q:Int×aA aG)=>q.1.toNat) (fun q h=>?_) bC _ ⟨z,rfl,h1,by omega,.refl _,rfl,fun p=>(Lo (by omega) (by omega) (by omega)).symm⟩ (by simp only[bC];omega);obtain⟨i,c⟩:=q;obtain⟨k,f,g2,g,e,d,b⟩:=h;dsimp only at f e d b;subst f;by_cases hc:a<k;rw[hb k c hc g d];refine .mk ⟨⟨k-1,rfl,by omega,by omega,(sJ (by omega) (by omega)).trans e,by rw[vZ];exact d,fun p=>?_⟩,by dsimp only;omega⟩;dsimp only;rw[qJ (by omega) (by omega),b,b,b];by_cases c1:p=k-1;rw[pW2 c1,yX (by omega) (by omega),yX (by omega) (by omega)];exact congrArg (gn l) (by omega);rw[pT2 c1];by_cases c2:p=k;rw[pW2 c2,vA (by omega),vB (by omega) (by omega)];exact congrArg (gn l) (by omega);rw[pT2 c2];by_cases c3:p<k;rw[vA (by omega),vA (by omega)];by_cases c4:p<z+1;rw[vB (by omega) (by omega),vB (by omega) (by omega)];rw[tU (by omega) (by omega) (by omega),tU (by omega) (by omega) (by omega)];have:k=a:=by omega
 subst this;rw[he];exact .mk ⟨e,d,b⟩
end Go.P
namespace Go.P
theorem zV {a b:Int} {n:Nat} (h:a+b=(n:Int)) (c:n<9223372036854775808):aW (a+b)=(n:Int):=by rw[bA (by omega) (by omega)];exact h
theorem Eu {a b:Int} {n:Nat} (h:a-b=(n:Int)) (c:n<9223372036854775808):aW (a-b)=(n:Int):=by rw[bA (by omega) (by omega)];exact h
theorem gC1 {n:Nat} (a:n<9223372036854775808):aW (n:Int)=(n:Int):=bA (by omega) (by omega)
theorem hlf {a b:Int} {h:Nat} (h0:0<=a+b) (h1:a+b<9223372036854775808) (e:(a+b)/2=(h:Int)):rZ .u64 (IntKind.wrap .u64 (aW (a+b))) 1=some (h:Int):=by rw[fZ1 h0 h1,e]
theorem Oo {l:aA aG} {f g:Int} {p q:Nat} (h:f=(q:Int)) (e2:g=(p:Int)) (hp:p<l.length) (e:q<l.length) {B:Type} {k:aA aG->aB B}:
  ((cK l f).bind fun a=>(dG l a).bind fun x=>(cK l g).bind fun b=>(dG l b).bind fun y=>(cK l g).bind fun c=>(iZ l c (fun _=>x)).bind fun i=>(cK i f).bind fun d=>(iZ i d (fun _=>y)).bind k)=k (swp l p q):=by
 rw[fA h e,pS2,gP e,pS2,fA e2 hp,pS2,gP hp,pS2,pS2,oX hp,pS2,fA h (by simpa using e),pS2,oX (by simpa using e),pS2];rfl
theorem Rx {rec:Int->Int->Int->aA aG->aB (aA aG)} {w a m b:Nat} {l:aA aG}
  (ih:∀(a m b:Nat) (l:aA aG),a<m->m<b->b<=l.length->l.length<4611686018427387904->b-a<=w->SS l a m->SS l m b->Ok (rec ((a:Nat):Int) ((m:Nat):Int) ((b:Nat):Int) l) (fun r=>Sg r l a b/\SS r a b))
  (h1:a<m) (h2:m<b) (h3:b<=l.length) (hl:l.length<4611686018427387904) (hw:b-a<=2*w) (F:SS l a m) (G:SS l m b):Ok (yS rec ((a:Nat):Int) ((m:Nat):Int) ((b:Nat):Int) l) (fun r=>Sg r l a b/\SS r a b):=by
 unfold yS;rw[Eu (a:=(m:Int)) (n:=m-a) (by omega) (by omega),Eu (a:=(b:Int)) (n:=b-m) (by omega) (by omega)];refine Oi (fun hc=>?_) (fun hc=>Oi (fun hd=>?_) (fun hd=>?_))
 have hc:m=a+1:=by
  have:=eq_of_beq hc;omega
 subst hc;refine Ob (Yd (lo:=a+1) (hi:=b) (fun c=>cN (gn l c) (gn l a)<0) (fun c L A t B C=>?_) (by omega) (by omega) (fun i j h A t B C Z R=>?_) (fun i j E=>?_)) fun x V=>?_;have H:=G c L A t B;have N:=Ep (gn l c) (gn l a);apply Decidable.byContradiction;intro J;have e4:En (gn l a) (gn l c):=Es J;have e5:En (gn l a) (gn l L):=gG e4 H;have e6:=mR.2 e5;exact e6 C;dsimp only;rw[pW2 (by simpa using t),hlf (by omega) (by omega) R];simp only[pS2];rw[gC1 (by omega),fA rfl (show h<l.length by omega),fA rfl (show a<l.length by omega)];simp only[pS2];rw[gP (by omega),gP (by omega)];simp only[pS2,Et];by_cases o:cN (gn l h) (gn l a)<0;refine .inl ⟨o,?_⟩;rw[pW2 (by simpa using o),zV (n:=h+1) (by omega) (by omega)];rfl;refine .inr ⟨o,?_⟩;rw[pT2 (by simpa using o)];rfl;dsimp only;rw[pT2 (by simpa using E)];obtain⟨z,rfl,z1,z2,z3,z4⟩:=V;rw[Eu (n:=z-1) (by omega) (by omega)];refine Ob (wW1 (a:=a) (z:=z) (l:=l) (by omega) (by omega) hl (fun k c A t B=>?_) (fun c=>?_)) fun r hr=>?_;dsimp only;rw[pW2 (by simp;omega),zV (n:=k+1) (by omega) (by omega)];exact Oo rfl rfl (by omega) (by omega);dsimp only;rw[pT2 (by simp)];refine .mk ⟨Lp (pQ2 _) (by omega) (by omega) z2 hr.1 hr.2.1 hr.2.2,?_⟩;have q:=Lq (s:=a) (m:=a+1) (e:=z) (b:=b) (pQ2 _) (by omega) (by omega) z2 hr.2.2 F G;refine Cr.glue (m:=a+(z-(a+1))) (Lr (pQ2 _) (by omega) (by omega) z2 hr.2.2 F G (fun u v A t=>by omega) (fun w u A t B C=>?_)) q.2.1 ?_;rw[show u=a by omega];exact Er (z3 w A t);refine Cr.glue (m:=z) (fun p q A t B C=>?_) q.2.2.1 q.2.2.2;rw[hr.2.2,hr.2.2,vB (by omega) (by omega),tU (by omega) (by omega) (by omega),show p-(z-(a+1))=a by omega];exact Es (z4 q B C)
 have hd:b=m+1:=by
  have:=eq_of_beq hd;omega
 subst hd;refine Ob (Yd (lo:=a) (hi:=m) (fun c=>¬cN (gn l m) (gn l c)<0) (fun c L A t B C=>?_) (by omega) (by omega) (fun i j h A t B C Z R=>?_) (fun i j E=>?_)) fun x V=>?_;have H:=F c L A t B;exact mR.2 (gG H (mR.1 C));dsimp only;rw[pW2 (by simpa using t),hlf (by omega) (by omega) R];simp only[pS2];rw[gC1 (by omega),fA rfl (show h<l.length by omega),fA rfl (show m<l.length by omega)];simp only[pS2];rw[gP (by omega),gP (by omega)];simp only[pS2,Et];by_cases o:cN (gn l m) (gn l h)<0;refine .inr ⟨fun J=>J o,?_⟩;rw[pT2 (by simpa using o)];rfl;refine .inl ⟨o,?_⟩;rw[pW2 (by simpa using o),zV (n:=h+1) (by omega) (by omega)];rfl;dsimp only;rw[pT2 (by simpa using E)];obtain⟨z,rfl,z1,z2,z3,z4⟩:=V;refine Ob (wX1 (a:=z) (z:=m) (l:=l) (by omega) (by omega) hl (fun k c A t B=>?_) (fun c=>?_)) fun r hr=>?_;dsimp only;rw[pW2 (by simp;omega),Eu (n:=k-1) (by omega) (by omega)];exact Oo rfl rfl (by omega) (by omega);dsimp only;rw[pT2 (by simp)];refine .mk ⟨Lp z1 z2 (by omega) (pQ2 _) hr.1 hr.2.1 hr.2.2,?_⟩;have q:=Lq (s:=z) (m:=m) (e:=m+1) (b:=m+1) z1 z2 (by omega) (pQ2 _) hr.2.2 F G;refine Cr.glue (m:=z+(m+1-m)) (Lr z1 z2 (by omega) (pQ2 _) hr.2.2 F G (fun u v A t=>by omega) (fun w u A t B C=>?_)) ?_ q.2.2.1;rw[show w=m by omega];exact Er (Decidable.byContradiction fun J=>z4 u B C J);refine Cr.glue (m:=z) (fun p q A t B C=>?_) q.1 q.2.1;rw[hr.2.2,hr.2.2,vA (by omega),yX (by omega) (by omega),show q+(m-z)=m by omega];exact mR.1 (z3 p A t);have hc:m-a≠1:=fun h=>hc (by rw[h];rfl);have hd:b-m≠1:=fun h=>hd (by rw[h];rfl);have K:∃g:Nat,g=(a+b)/2:=⟨_,rfl⟩
 obtain⟨g,K⟩:=K;rw[hlf (h:=g) (by omega) (by omega) (by omega)];simp only[pS2];rw[gC1 (by omega),zV (n:=g+m) (by omega) (by omega),Eu (b:=1) (n:=g+m-1) (by omega) (by omega)];refine Ob (P:=fun r=>∃x y:Nat,r=((x:Int),(y:Int))/\(m>g/\x=g+m-b/\y=g\/m<=g/\x=a/\y=m)) ?_ fun r hr=>?_;by_cases O:(m:Int)>(g:Int);rw[pW2 (by simpa using O),Eu (n:=g+m-b) (by omega) (by omega)];exact .mk ⟨_,_,rfl,.inl ⟨by omega,rfl,rfl⟩⟩;rw[pT2 (by simpa using O)];exact .mk ⟨_,_,rfl,.inr ⟨by omega,rfl,rfl⟩⟩;obtain⟨x,y,rfl,b4⟩:=hr;dsimp only;have x1:a<=x:=by omega
 have x2:x<=y:=by omega
 have x3:y<=m:=by omega
 have x4:y<=g:=by omega
 have x5:g+m-x<=b:=by omega
 have x6:m<=g+m-y:=by omega
 refine Ob (Yd (lo:=x) (hi:=y) (fun c=>¬cN (gn l (g+m-1-c)) (gn l c)<0) (fun c L A t B C=>?_) x2 (by omega) (fun i j h A t B C Z R=>?_) (fun i j E=>?_)) fun u hu=>?_;have H:=F c L (by omega) t (by omega);have e2:=G (g+m-1-L) (g+m-1-c) (by omega) (by omega) (by omega);exact mR.2 (gG H (gG (mR.1 C) e2));dsimp only;rw[pW2 (by simpa using t),hlf (by omega) (by omega) R];simp only[pS2];rw[gC1 (by omega),Eu (n:=g+m-1-h) (by omega) (by omega),fA rfl (show g+m-1-h<l.length by omega),fA rfl (show h<l.length by omega)];simp only[pS2];rw[gP (by omega),gP (by omega)];simp only[pS2,Et];by_cases o:cN (gn l (g+m-1-h)) (gn l h)<0;refine .inr ⟨fun J=>J o,?_⟩;rw[pT2 (by simpa using o)];rfl;refine .inl ⟨o,?_⟩;rw[pW2 (by simpa using o),zV (n:=h+1) (by omega) (by omega)];rfl;dsimp only;rw[pT2 (by simpa using E)];obtain⟨s,rfl,z1,z2,z3,z4⟩:=hu;rw[Eu (n:=g+m-s) (by omega) (by omega)];obtain⟨e,he⟩:∃e:Nat,e=g+m-s:=⟨_,rfl⟩
 rw[<-he];have T:a<=s:=by omega
 have U:s<=m:=by omega
 have S:m<=e:=by omega
 have W:e<=b:=by omega
 have t5:s+(e-m)=g:=by omega
 refine Ob (P:=fun r=>r.Perm l/\r.length=l.length/\∀p,gn r p=jD (gn l) s m e p) ?_ fun r hr=>?_;by_cases D:s<m/\m<e;rw[pW2 (by simpa using D)];exact Ob (Yc D.1 D.2 (by omega) hl) fun d hd=>.mk hd;rw[pT2 (by simpa using D)];exact .mk ⟨.refl _,rfl,fun p=>(Lo U S (by omega)).symm⟩;have g0:=Lp T U S W hr.1 hr.2.1 hr.2.2;have M:=Lq T U S W hr.2.2 F G
 have g2:=Lr T U S W hr.2.2 F G (fun u v A t B C=>by
  have H:=F u (s-1) A (by omega) (by omega);have e2:=G e v S B C;have N:=mR.1 (z3 (s-1) (by omega) (by omega));rw[show g+m-1-(s-1)=e by omega]at N;exact gG H (gG N e2)) (fun w u A t B C=>by
  have H:=G w (e-1) A (by omega) (by omega);have e2:=F s u T B C;have N:=Er (Decidable.byContradiction fun J=>z4 s (pQ2 _) (by omega) J);rw[show g+m-1-s=e-1 by omega]at N;exact gG H (gG N e2))
 rw[t5]at M g2;have b0:=hr.2.1;refine Ob (P:=fun d=>Sg d r a g/\SS d a g) ?_ fun d hd=>?_;by_cases D:a<s/\s<g;rw[pW2 (by simpa using D)];exact Ob (ih a s g r D.1 D.2 (by omega) (by omega) (by omega) M.1 M.2.1) fun d hd=>.mk hd;rw[pT2 (by simpa using D)];refine .mk ⟨Sg.refl _ _ _,?_⟩;by_cases hs:s=a;rw[<-hs];exact M.2.1;rw[show g=s by omega];exact M.1;have a0:=hd.1.2.1;have c2:=g2.left hd.1;have X:SS d g e:=M.2.2.1.off hd.1 (.inr (pQ2 _));have Y:SS d e b:=M.2.2.2.off hd.1 (.inr (by omega));refine Ob (P:=fun f=>Sg f d g b/\SS f g b) ?_ fun f hf=>?_;by_cases D:g<e/\e<b;rw[pW2 (by simpa using D)];exact Ob (ih g e b d D.1 D.2 (by omega) (by omega) (by omega) X Y) fun d hd=>.mk hd;rw[pT2 (by simpa using D)];refine .mk ⟨Sg.refl _ _ _,?_⟩;by_cases hs:e=g;rw[<-hs];exact Y;rw[show b=e by omega];exact X;refine .mk ⟨((hf.1.mono (by omega) (pQ2 _)).trans (hd.1.mono (pQ2 _) (by omega))).trans g0,?_⟩;exact Cr.glue (c2.right hf.1) (hd.2.off hf.1 (.inl (pQ2 _))) hf.2
theorem Oq:∀(k:Nat) (a m b:Nat) (l:aA aG),a<m->m<b->b<=l.length->l.length<4611686018427387904->b-a<=2^k->SS l a m->SS l m b->Ok (Ek k ((a:Nat):Int) ((m:Nat):Int) ((b:Nat):Int) l) (fun r=>Sg r l a b/\SS r a b)
 |0,a,m,b,l,h1,h2,h3,hl,hw,s1,s2=>by omega
 |k+1,a,m,b,l,h1,h2,h3,hl,hw,s1,s2=>Rx (rec:=Ek k) (w:=2^k) (Oq k) h1 h2 h3 hl (by rw[Nat.pow_succ]at hw;omega) s1 s2
theorem Ik {a m b:Nat} {l:aA aG} (h1:a<m) (h2:m<b) (c:b<=l.length) (hl:l.length<4611686018427387904) (d:SS l a m) (e:SS l m b):Ok (Ih ((a:Nat):Int) ((m:Nat):Int) ((b:Nat):Int) l) (fun r=>Sg r l a b/\SS r a b):=
 Oq 64 a m b l h1 h2 c hl (by rw[show(2:Nat)^64=18446744073709551616 from rfl];omega) d e
end Go.P
namespace Go.P
theorem Il {a b:Nat} {l:aA aG} (h1:a<=b) (h2:b<=l.length) (hl:l.length<4611686018427387904):Ok (Ig ((a:Nat):Int) ((b:Nat):Int) l) (fun r=>Sg r l a b/\SS r a b):=by
 unfold Ig;rw[zV (n:=a+1) (by omega) (by omega)];refine Ob (P:=fun r=>Sg r l a b/\SS r a b) (cT (fun(q:Int×aA aG)=>∃i:Nat,q.1=(i:Int)/\a+1<=i/\(i<=b\/i=a+1)/\Sg q.2 l a b/\SS q.2 a i) (fun(q:Int×aA aG)=>b-q.1.toNat) (fun q x=>?_) bC _ ⟨a+1,rfl,pQ2 _,.inr rfl,.refl _ _ _,fun p q e o h=>by rw[show p=q by omega];exact yV _⟩ (by simp only[bC];omega)) fun r hr=>.mk hr;obtain⟨F,c⟩:=q;obtain⟨i,z,g2,E,u,w⟩:=x;dsimp only at z u w ⊢;subst z;have B:=u.2.1;by_cases m:(i:Int)<(b:Int);rw[pW2 (by simpa using m)];refine Ob (P:=fun r=>Sg r l a b/\SS r a (i+1)) (cT (fun(q:Int×aA aG)=>∃j:Nat,q.1=(j:Int)/\a<=j/\j<=i/\Sg q.2 l a b/\∀p s,a<=p->p<s->s<=i->s≠j->En (gn q.2 p) (gn q.2 s)) (fun(q:Int×aA aG)=>q.1.toNat) (fun q x=>?_) bC _ ⟨i,rfl,by omega,pQ2 _,u,fun p s e o h A=>w p s e (by omega) (by omega)⟩ (by simp only[bC];omega)) fun r hr=>?_;obtain⟨G,d⟩:=q;obtain⟨j,y,D,f3,k,g⟩:=x;dsimp only at y k g ⊢;subst y;have C:=k.2.1;by_cases h0:(j:Int)>(a:Int);rw[pW2 (by simpa using h0),Eu (n:=j-1) (by omega) (by omega),fA rfl (show j<d.length by omega),fA rfl (show j-1<d.length by omega)];simp only[pS2];rw[gP (by omega),gP (by omega)];simp only[pS2,Et];by_cases hc:cN (gn d j) (gn d (j-1))<0;rw[pW2 (by simpa using hc),oX (by omega)];simp only[pS2];rw[fA rfl (show j-1<(d.set j (gn d (j-1))).length by simp;omega)];simp only[pS2];rw[oX (by simp;omega)];simp only[pS2];rw[show(d.set j (gn d (j-1))).set (j-1) (gn d j)=swp d j (j-1)from rfl];refine .mk ⟨⟨j-1,rfl,by omega,by omega,(Sg.swp (by omega) (by omega) (by omega) (by omega) (by omega)).trans k,fun p s e o h A=>?_⟩,by dsimp only;omega⟩;dsimp only;rw[qJ (by omega) (by omega),qJ (by omega) (by omega),pT2 A];by_cases f:s=j;subst f;rw[pW2 rfl];by_cases e2:p=s-1;rw[pW2 e2];exact Er hc;rw[pT2 e2,pT2 (by omega)];exact g p (s-1) e (by omega) (by omega) (by omega);rw[pT2 f];by_cases e2:p=j-1;rw[pW2 e2];exact g j s (by omega) (by omega) h f;rw[pT2 e2];by_cases t:p=j;rw[pW2 t];exact g (j-1) s (by omega) (by omega) h f;rw[pT2 t];exact g p s e o h f;rw[pT2 (by simpa using hc)];refine .mk ⟨k,fun p s e o h=>?_⟩;by_cases v:p=s;subst v;exact yV _;by_cases f:s=j;have e2:=Es hc;by_cases t:p=j-1;rw[f,t];exact e2;rw[f];exact gG (g p (j-1) e (by omega) (by omega) (by omega)) e2;exact g p s e (by omega) (by omega) f;rw[pT2 (by simpa using h0)];simp only[pS2,qA2,qX2];refine .mk ⟨k,fun p s e o h=>?_⟩;by_cases v:p=s;subst v;exact yV _;exact g p s e (by omega) (by omega) (by omega);rw[zV (n:=i+1) (by omega) (by omega)];exact .mk ⟨⟨i+1,rfl,by omega,.inl (by omega),hr.1,hr.2⟩,by dsimp only;omega⟩;rw[pT2 (by simpa using m)];exact .mk ⟨u,w.sub (pQ2 _) (by omega)⟩
def Bk (w n:Nat) (c:aA aG):Prop:=∀t,SS c (t*w) (min (t*w+w) n)
theorem SS.nil {l:aA aG} {a b:Nat} (h:b<=a):SS l a b:=fun p q h1 h2 c=>by omega
theorem Ye {l:aA aG} (hl:l.length<1152921504606846976):Ok (Og (l.length:Int) l) (fun r=>Sg r l 0 l.length/\SS r 0 l.length):=by
 unfold Og;refine Ob (P:=fun r=>∃t:Nat,r.1=((t*20:Nat):Int)/\t*20<=l.length/\l.length<t*20+20/\Sg r.2 l 0 l.length/\∀u,u<t->SS r.2 (u*20) (u*20+20)) (cT (fun(q:Int×Int×aA aG)=>∃t:Nat,q.1=((t*20:Nat):Int)/\q.2.1=((t*20+20:Nat):Int)/\t*20<=l.length/\Sg q.2.2 l 0 l.length/\∀u,u<t->SS q.2.2 (u*20) (u*20+20)) (fun(q:Int×Int×aA aG)=>l.length-q.1.toNat) (fun q p=>?_) bC _ ⟨0,rfl,rfl,by omega,.refl _ _ _,fun u h=>by omega⟩ (by simp only[bC];omega)) fun r hr=>?_;obtain⟨y,E,c⟩:=q;obtain⟨t,i,g2,o,f,g⟩:=p;dsimp only at i g2 f g ⊢;subst i g2;have k:=f.2.1;by_cases hc:((t*20+20:Nat):Int)<=(l.length:Int);rw[pW2 (by simpa using hc)];refine Ob (Il (a:=t*20) (b:=t*20+20) (l:=c) (by omega) (by omega) (by omega)) fun d hd=>?_;rw[zV (n:=(t+1)*20+20) (by omega) (by omega)];refine .mk ⟨⟨t+1,by dsimp only;omega,rfl,by omega,(hd.1.mono (by omega) (by omega)).trans f,fun u D=>?_⟩,by dsimp only;omega⟩;by_cases e:u=t;subst e;exact hd.2;exact(g u (by omega)).off hd.1 (.inl (by omega));rw[pT2 (by simpa using hc)];exact .mk ⟨t,rfl,o,by omega,f,g⟩;obtain⟨y,c⟩:=r;obtain⟨t,i,g2,o,f,g⟩:=hr;dsimp only at i f g ⊢;subst i;have k:=f.2.1;refine Ob (Il (a:=t*20) (b:=l.length) (l:=c) g2 (by omega) (by omega)) fun d hd=>?_
 have H:Bk 20 l.length d:=fun u=>by
  by_cases z:u<t;exact((g u z).off hd.1 (.inl (by omega))).sub (pQ2 _) (by omega);by_cases e2:u=t;subst e2;exact hd.2.sub (pQ2 _) (by omega);exact .nil (by omega)
 have J:Sg d l 0 l.length:=(hd.1.mono (by omega) (pQ2 _)).trans f;refine Ob (P:=fun r=>Sg r l 0 l.length/\SS r 0 l.length) (cT (fun(q:Int×aA aG)=>∃w:Nat,q.1=(w:Int)/\0<w/\w<2305843009213693952/\Sg q.2 l 0 l.length/\Bk w l.length q.2) (fun(q:Int×aA aG)=>l.length-q.1.toNat) (fun q p=>?_) bC _ ⟨20,rfl,by omega,by omega,J,H⟩ (by simp only[bC];omega)) fun r hr=>.mk hr;obtain⟨N,c⟩:=q;obtain⟨w,B,L,f3,v,A⟩:=p;dsimp only at B v A ⊢;subst B;have k:=v.2.1;by_cases hw:(w:Int)<(l.length:Int);rw[pW2 (by simpa using hw),bA (n:=2*(w:Int)) (by omega) (by omega),bA (n:=(w:Int)*2) (by omega) (by omega)]
 refine Ob (P:=fun r=>∃t:Nat,r.1=((2*(t*w):Nat):Int)/\2*(t*w)<=l.length/\l.length<2*(t*w)+2*w/\Sg r.2 l 0 l.length/\(∀u,u<t->SS r.2 (2*(u*w)) (2*(u*w)+2*w))/\∀u,2*t<=u->SS r.2 (u*w) (min (u*w+w) l.length))
  (cT (fun(q:Int×Int×aA aG)=>∃t:Nat,q.1=((2*(t*w):Nat):Int)/\q.2.1=((2*(t*w)+2*w:Nat):Int)/\2*(t*w)<=l.length/\Sg q.2.2 l 0 l.length/\(∀u,u<t->SS q.2.2 (2*(u*w)) (2*(u*w)+2*w))/\∀u,2*t<=u->SS q.2.2 (u*w) (min (u*w+w) l.length)) (fun(q:Int×Int×aA aG)=>l.length-q.1.toNat) (fun q p=>?_) bC _ ⟨0,by simp,by simp,by omega,v,fun u h=>by omega,fun u _=>A u⟩ (by simp only[bC];omega)) fun r hr=>?_
 obtain⟨y,E,c⟩:=q;obtain⟨t,i,g2,o,f,g,j⟩:=p;dsimp only at i g2 f g j ⊢;subst i g2;have k:=f.2.1;have s:(2*t)*w=2*(t*w):=Nat.mul_assoc _ _ _;have x:(2*t+1)*w=2*(t*w)+w:=by rw[rD2,s]
 have M:(t+1)*w=t*w+w:=rD2 _ _;by_cases hc:((2*(t*w)+2*w:Nat):Int)<=(l.length:Int);rw[pW2 (by simpa using hc),zV (n:=2*(t*w)+w) (by omega) (by omega),bA (n:=((2*(t*w)+2*w:Nat):Int)+2*(w:Int)) (by omega) (by omega)];have q1:=j (2*t) (pQ2 _);have q2:=j (2*t+1) (by omega);rw[s]at q1;rw[x]at q2;refine Ob (Ik (a:=2*(t*w)) (m:=2*(t*w)+w) (b:=2*(t*w)+2*w) (l:=c) (by omega) (by omega) (by omega) (by omega) (q1.sub (pQ2 _) (by omega)) (q2.sub (pQ2 _) (by omega))) fun d hd=>?_;refine .mk ⟨⟨t+1,by dsimp only;omega,by dsimp only;omega,by omega,(hd.1.mono (by omega) (by omega)).trans f,fun u D=>?_,fun u D=>?_⟩,by dsimp only;omega⟩;by_cases e:u=t;subst e;exact hd.2;have:=qO2 w (show u+1<=t by omega);rw[rD2]at this;exact(g u (by omega)).off hd.1 (.inl (by omega));have:=qO2 w (show 2*t+1+1<=u by omega);rw[rD2,x]at this;exact(j u (by omega)).off hd.1 (.inr (by omega));rw[pT2 (by simpa using hc)];exact .mk ⟨t,rfl,o,by omega,f,g,j⟩;obtain⟨y,c⟩:=r;obtain⟨t,i,g2,o,f,g,j⟩:=hr;dsimp only at i f g j ⊢;subst i;have k:=f.2.1;have s:(2*t)*w=2*(t*w):=Nat.mul_assoc _ _ _;have x:(2*t+1)*w=2*(t*w)+w:=by rw[rD2,s]
 have q1:=j (2*t) (pQ2 _);have q2:=j (2*t+1) (by omega);rw[s]at q1;rw[x]at q2;rw[zV (n:=2*(t*w)+w) (by omega) (by omega)];refine Ob (P:=fun d=>Sg d l 0 l.length/\Bk (w*2) l.length d) ?_ fun d hd=>?_
 have fin:∀d,Sg d c (2*(t*w)) l.length->SS d (2*(t*w)) l.length->Bk (w*2) l.length d:=fun d F G u=>by
  have K:u*(w*2)=2*(u*w):=by rw[<-Nat.mul_assoc,Nat.mul_comm]
  rw[K];by_cases z:u<t;have:=qO2 w (show u+1<=t by omega);rw[rD2]at this;exact((g u z).off F (.inl (by omega))).sub (pQ2 _) (by omega);by_cases e2:u=t;subst e2;exact G.sub (pQ2 _) (by omega);have:=qO2 w (show t+1<=u by omega);rw[rD2]at this;exact .nil (by omega)
 by_cases C:((2*(t*w)+w:Nat):Int)<(l.length:Int);rw[pW2 (by simpa using C)];refine Ob (Ik (a:=2*(t*w)) (m:=2*(t*w)+w) (b:=l.length) (l:=c) (by omega) (by omega) (by omega) (by omega) (q1.sub (pQ2 _) (by omega)) (q2.sub (pQ2 _) (by omega))) fun d hd=>?_;exact .mk ⟨(hd.1.mono (by omega) (pQ2 _)).trans f,fin d hd.1 hd.2⟩;rw[pT2 (by simpa using C)];exact .mk ⟨f,fin c (.refl _ _ _) (q1.sub (pQ2 _) (by omega))⟩;exact .mk ⟨⟨w*2,by dsimp only;omega,by omega,by omega,hd.1,hd.2⟩,by dsimp only;omega⟩;rw[pT2 (by simpa using hw)];have q:=A 0;rw[tI2]at q;exact .mk ⟨v,q.sub (pQ2 _) (by omega)⟩
theorem Yf {l:aA aG} (hl:l.length<1152921504606846976):Ok (Oh l) (fun r=>Sd r l):=by
 unfold Oh;refine Ob (Ye hl) fun r hr=>.mk ⟨hr.1.1,List.pairwise_iff_getElem.2 fun i j hi a b=>?_⟩;have:=hr.2 i j (by omega) (by omega) (by rw[<-hr.1.2.1];exact a)
 rwa [yU hi,yU a]at this
theorem gD1 {A:Type} {l m:aA A} (h:l.length+m.length<=1073741824):jA false l m=some (l++m):=by
 have e:Sim.maxRoom=1073741824:=rfl;unfold jA;rw[pW2 ⟨by rw[e];omega,fun h=>by cases h⟩]
theorem Yg {l:aA aG} (hl:l.length<=1073741824):Oe [] l=some l:=by
 refine wV1 ?_;unfold Oe;refine Ob (P:=fun r=>r=l) (bD (l:=l) (fun(q:Int×aA aG)=>q.1) (fun(i:Nat) (q:Int×aA aG)=>q.2=l.take i) (by omega) rfl rfl (fun i e q d m hi a b hg hw=>?_) (fun q hi b=>?_)) fun r hr=>.mk hr;obtain⟨k,o⟩:=q;dsimp only at hi a b hg hw ⊢;subst hi b;obtain⟨h,rfl⟩:=pO2.1 d;rw[pW2 (by simpa using a)];refine Ob (eT (by omega) a) fun j g=>?_;refine Ob (gO g.2) fun y hy=>?_;have c:j=i:=by have:=g.1;omega
 have f:l[i]=y:=by rw[c]at hy;exact rX2 (d.symm.trans hy.1)
 rw[<-f];unfold Ej;rw[gD1 (by simp;omega)];refine .mk ⟨hw,?_⟩;dsimp only;rw[List.take_add_one,d];rfl;obtain⟨k,o⟩:=q;dsimp only at hi b ⊢;rw[hi,pT2 (by simp)];exact .mk (by rw[b,rU2])
theorem gE1 {l:aA aG} (hl:l.length<=1073741824):Ok (fQ1 l) (fun r=>Sd r l):=by
 unfold fQ1 lJ1 kZ1 Xn Xm;simp only[pS2];rw[Yg hl];simp only[pS2];exact Ob (P:=fun r=>Sd r l) (Ob (Yf (by omega)) fun r hr=>.mk hr) fun r hr=>.mk hr
end Go.P
namespace Go.P
variable {s:Y0}
theorem U64:∀u:Fin 65,Dh .i64 (u.val:Int) (aW ((u.val:Int)-1))=0->0<u.val->1935360%u.val=0:=by decide+kernel
theorem E47 {m:YM} {n:Int} (h:zT m=some (n,0)):F24 m=some n:=by
 unfold zT at h;obtain⟨⟨a,e⟩,h1,h⟩:=eB h;dsimp only at h;split at h;rename_i he;cases h;simp at he;rename_i he;have he:e=0:=by simpa using he
 subst he;split at h;cases h;rename_i w;obtain⟨x,i,h⟩:=eB h;obtain⟨y,_,h⟩:=eB h;split at h;cases h;split at h;cases h;cases h;simp only[pU2]at w i;unfold F24;split at i;rename_i hp;cases i;rw[pW2 (by simp;omega)];rename_i hp;cases i;rw[pT2 (by simp;omega)];unfold Rb Qy Ra Qz at h1;obtain⟨c,hc,h1⟩:=eB h1
 have l:c=0:=by
  by_cases j:c=0;exact j;rw[pW2 (by simpa using j)]at h1;cases h1;exact absurd rfl j
 subst l;rw[pT2 (by simp)]at h1;split at hc;cases hc;rename_i v;split at hc;cases hc;rename_i g2;simp only[qC2,pU2,sI2,bne_iff_ne,ne_eq,Decidable.not_not]at v g2;obtain⟨z,p,h1⟩:=eB h1;cases h1;obtain⟨q,f,p⟩:=eB p;cases p;generalize m.Metre.Unit=u at *;generalize m.Metre.Count=k at *;have s:=U64 ⟨u.toNat,by omega⟩ (by dsimp only;rw[Int.toNat_of_nonneg (by omega)];exact g2.2) (by dsimp only;omega);dsimp only at s;obtain⟨t,g⟩:=Nat.dvd_of_mod_eq_zero s
 have g:(1935360:Int)=u*t:=by
  have:((1935360:Nat):Int)=((u.toNat*t:Nat):Int):=by rw[<-g]
  rw[Int.natCast_mul,Int.toNat_of_nonneg (by omega)]at this;exact this
 have b:(0:Int)<=t:=Int.natCast_nonneg t
 have o:(t:Int)<=1935360:=by
  have:((1:Int)*t)<=u*t:=Int.mul_le_mul_of_nonneg_right (by omega) b;omega
 have d:u≠0:=by omega
 have A:k*(t:Int)<=64*1935360:=rL2 (by omega) o b (by decide);have r:0<=k*(t:Int):=Int.mul_nonneg (by omega) b;unfold zR at f ⊢;rw[pT2 d]at f ⊢;rw[g,Int.mul_tdiv_cancel_left _ d,show IntKind.wrap .i64 (t:Int)=aW t from rfl,bA (by omega) (by omega)]at f;cases f;rw[bA (n:=k*1935360) (by omega) (by omega),g,show k*(u*(t:Int))=u*(k*t)by rw[<-Int.mul_assoc,Int.mul_comm k u,Int.mul_assoc],Int.mul_tdiv_cancel_left _ d];rfl
theorem nJ1 (hg:cZ s):F19 s=F10 s:=by
 unfold F19 F10;refine congrArg (fun f=>(aR f bC (0,[0])).bind fun x=>some x) (funext fun⟨i,l⟩=>?_);dsimp only;split;cases hm:aT s.Measures i with
 |none=>cases cK l i with
  |none=>rfl
  |some j=>
   show none=(dG l j).bind _
   cases dG l j<;>rfl
 |some m=>
  obtain⟨n,a⟩:=hg m (cD hm).2.2.1;have h2:=E47 a;simp only[pS2,a,h2]
 rfl
end Go.P
set_option maxHeartbeats 2000000
namespace Go.P
theorem iD2 {x1:aA YE} (g:x1.length<=20) (c:∀y∈x1,y.sm):Ok (Rg x1) (fun v=>v.length=x1.length):=by
 unfold Rg;refine Ob (kF (by omega) (by omega) (by omega)) fun n h2=>?_;refine Ob (P:=fun v=>v.length=x1.length) (bD (l:=x1) (fun q=>q.1) (fun _ q=>q.2.length=x1.length) (by omega) rfl (by rw[h2];simp) (fun i e q k f hi hl d hg hw=>?_) (fun q hi d=>?_)) fun v hv=>.mk hv;obtain⟨x,l⟩:=q;dsimp only at hi hl d hg hw;simp only[hl,hg,nt];refine Ob (vX1 (c e f)) fun⟨a,b⟩ _=>?_;refine Ob (eT (by omega) (by omega)) fun j h=>?_;refine Ob (Em (by omega)) fun m f=>.mk ⟨hw,by dsimp only;omega⟩;obtain⟨x,l⟩:=q;dsimp only at hi d;simp only[hi,nf];exact .mk d
end Go.P
set_option maxHeartbeats 1000000
namespace Go.P
section
variable {K V:Type} [DecidableEq K]
theorem Bu {k:K}:∀{l:aA (K×V)} {i:Nat} {p:Nat×V},iD k l i=some p->∃q∈l,q.2=p.2
 |q::l,i,p,h=>by
  simp only[iD]at h
  split at h
  cases h;exact⟨q,List.mem_cons_self ..,rfl⟩
  obtain⟨r,h1,h2⟩:=Bu h;exact⟨r,sD2 _ h1,h2⟩
theorem Yh {k:K} {l:aA (K×V)} {z:V} (h:Qo l k=true):∃q∈l,q.2=kE l k z:=by
 unfold Qo at h;cases e:iD k l 0 with
 |none=>rw[e]at h;cases h
 |some p=>unfold kE;rw[e];exact Bu e
theorem Yi {k:K} {x:V} {l:aA (K×V)} {q:K×V} (h:q∈oZ l k x):q∈l\/q.2=x:=by
 unfold oZ at h;split at h;rcases List.mem_or_eq_of_mem_set h with h|h;exact .inl h;exact .inr (by rw[h]);rcases rF2.1 h with h|h;exact .inl h;exact .inr (by rw[sK2.1 h])
end
def Hd (m:aA (YH×Int)) (n:Nat):Prop:=∀q∈m,0<=q.2/\q.2<(n:Int)
theorem Hd.mono {m:aA (YH×Int)} {a b:Nat} (h:Hd m a) (c:a<=b):Hd m b:=fun q d=>by have:=h q d;omega
def iE2 (m:YM) (s:bE):Prop:=∃c v e,aT m.Cells s.Staff=some c/\aT c.Voices s.Voice=some v/\aT v.Events s.Event=some e/\e.sm
end Go.P
namespace Go.P
variable {s:Y0}
theorem nK1 (hs:s.sm):Ok (F20 s) (fun v=>0<=v/\v<=5*(s.Parts.length:Int)):=by
 unfold F20;have g:=hs.Parts;refine Ob (P:=fun v=>0<=v/\v<=5*(s.Parts.length:Int)) (bD (l:=s.Parts) (fun q=>q.2) (fun i q=>0<=q.1/\q.1<=5*(i:Int)) (by omega) rfl ⟨by decide,by decide⟩ (fun i e q f d hi a b hg hw=>?_) (fun q hi b=>?_)) fun r hr=>.mk hr;obtain⟨n,k⟩:=q;dsimp only at hi a b hg hw;have h:=(hs.PartsE e d).Staves;have c:=(pO2.1 f).1;simp only[a,hg,nt];rw[bA (n:=n+(e.Staves.length:Int)) (by omega) (by omega)];exact .mk ⟨hw,by dsimp only;omega,by dsimp only;omega⟩;obtain⟨n,k⟩:=q;dsimp only at hi b;simp only[hi,nf];exact .mk b
theorem S21 {c:Int} (hs:s.sm) (hp:0<s.Parts.length):Ok (F21 s c) (fun v=>0<=v.1/\v.1<(s.Parts.length:Int)):=by
 unfold F21;have d:=hs.Parts;refine Oi (fun _=>.mk ⟨rH2 _,by dsimp only;omega⟩) (fun _=>?_);refine Ob (P:=fun r=>match r with|.inl p=>0<=p.1/\p.1<(s.Parts.length:Int)|.inr _=>True) (bD (l:=s.Parts) (fun q=>q.2) (fun _ _=>True) (by omega) rfl trivial (fun i e q g f hi hl _ hg hw=>?_) (fun q hi _=>?_)) fun r hr=>?_;obtain⟨n,x⟩:=q;dsimp only at hi hl hg hw;simp only[hl,hg,nt];exact Oi (fun _=>.mk ⟨by dsimp only;omega,hl⟩) (fun _=>.mk ⟨hw,trivial⟩);obtain⟨n,x⟩:=q;dsimp only at hi;simp only[hi,nf];exact .mk trivial;rcases r with⟨a,b⟩|_;exact .mk hr;exact .mk ⟨rH2 _,by dsimp only;omega⟩
end Go.P
set_option maxHeartbeats 2000000
namespace Go.P
theorem iF2 {n:Nat} (h:n<=6):(32:Int)^n<=1073741824:=by
 have:n=0\/n=1\/n=2\/n=3\/n=4\/n=5\/n=6:=by omega
 rcases this with rfl|rfl|rfl|rfl|rfl|rfl|rfl<;>decide
def el (l:aA Int):Prop:=∀x∈l,0<=x/\x<=9007199254740992
theorem kG:el []:=fun x a=>by cases a
theorem el.app {l:aA Int} {x:Int} (h:el l) (a:0<=x/\x<=9007199254740992):el (l++[x]):=fun y hy=>by
 rcases rF2.1 hy with hy|hy
 exact h y hy
 rw[sK2.1 hy];exact a
theorem iG2 {x1:aA YU} {G:Int} (o:x1.length<=6) (B:∀t∈x1,1<=t.Actual/\t.Actual<=32/\1<=t.Normal/\t.Normal<=32):Ok (Rh x1 G) (fun v=>1<=v.1/\v.1<=1073741824/\1<=v.2):=by
 unfold Rh;refine Ob (P:=fun v=>1<=v.1/\v.1<=1073741824/\1<=v.2) (bD (l:=x1) (fun q=>q.2.2) (fun i q=>1<=q.1/\q.1<=32^i/\1<=q.2.1/\q.2.1<=32^i) (by omega) rfl ⟨by decide,by decide,by decide,by decide⟩ (fun i e q C y hi hl f hg hw=>?_) (fun q hi f=>?_)) fun v hv=>.mk hv;obtain⟨a,b,x⟩:=q;dsimp only at hi hl f hg hw;simp only[hl,hg,nt];have j:=B e y;refine Ob wB1 fun c _=>?_;have w:i<=5:=by omega
 have z:(32:Int)^i<=33554432:=by
  have:i=0\/i=1\/i=2\/i=3\/i=4\/i=5:=by omega
  rcases this with rfl|rfl|rfl|rfl|rfl|rfl<;>decide
 have A:(32:Int)^(i+1)=32^i*32:=Int.pow_succ 32 i;refine Ob (P:=fun v=>1<=v.1/\v.1<=32^(i+1)/\1<=v.2/\v.2<=32^(i+1)) (Oi (fun _=>?_) (fun _=>?_)) fun⟨v1,v2⟩ hv=>.mk ⟨hw,hv⟩;have E:1<=a*e.Normal:=Int.le_trans (by decide) (rL2 f.1 j.2.2.1 (by decide) (by omega));have F:a*e.Normal<=32^i*32:=rL2 f.2.1 j.2.2.2 (by omega) (by omega);have s:1<=b*e.Actual:=Int.le_trans (by decide) (rL2 f.2.2.1 j.1 (by decide) (by omega));have u:b*e.Actual<=32^i*32:=rL2 f.2.2.2 j.2.1 (by omega) (by omega);rw[bA (n:=a*e.Normal) (by omega) (by omega),bA (n:=b*e.Actual) (by omega) (by omega)];generalize a*e.Normal=N at E F ⊢;generalize b*e.Actual=D at s u ⊢;refine Ob (wC1 ⟨by omega,by omega,by omega⟩) fun g hg=>?_;obtain⟨H,⟨k,rfl⟩,⟨m,rfl⟩⟩:=hg
 have J:1<=k:=by
  rcases Int.lt_or_le k 1 with h|h;have:=Int.mul_nonneg (a:=g) (b:= -k) (by omega) (by omega);rw[Int.mul_neg]at this;omega;exact h
 have L:1<=m:=by
  rcases Int.lt_or_le m 1 with h|h;have:=Int.mul_nonneg (a:=g) (b:= -m) (by omega) (by omega);rw[Int.mul_neg]at this;omega;exact h
 have K:k<=g*k:=by
  have:=rL2 (a:=1) (b:=k) (c:=g) (d:=k) (by omega) (rH2 k) (by omega) (by omega);omega
 have M:m<=g*m:=by
  have:=rL2 (a:=1) (b:=m) (c:=g) (d:=m) (by omega) (rH2 m) (by omega) (by omega);omega
 refine Ob (kV (by omega)) fun q1 p=>?_;refine Ob (kV (by omega)) fun q2 r=>?_;rw[Int.mul_tdiv_cancel_left k (by omega),show IntKind.wrap .i64 k=aW k from rfl,bA (by omega) (by omega)]at p;rw[Int.mul_tdiv_cancel_left m (by omega),show IntKind.wrap .i64 m=aW m from rfl,bA (by omega) (by omega)]at r;exact .mk ⟨by dsimp only;omega,by dsimp only;omega,by dsimp only;omega,by dsimp only;omega⟩;exact .mk ⟨f.1,by dsimp only;omega,f.2.2.1,by dsimp only;omega⟩;obtain⟨a,b,x⟩:=q;dsimp only at hi f;simp only[hi,nf];exact .mk ⟨f.1,Int.le_trans f.2.1 (iF2 o),f.2.2.1⟩
theorem iH2 {x1:aA YU} {k b:Int} (f:x1.length<=6) (j:∀t∈x1,1<=t.Actual/\t.Actual<=32/\1<=t.Normal/\t.Normal<=32):Ok (Kt x1 k b) (fun v=>v.2=0->0<=v.1/\v.1<=9007199254740992):=by
 unfold Kt;refine Oi (fun _=>.mk (fun h=>absurd (show(2:Int)=0 from h) (by decide))) (fun c=>?_);refine Ob (iG2 f j) fun⟨e,d⟩ h=>?_;dsimp only at h;refine Ob (vX (by omega)) fun l g=>?_;refine Oi (fun _=>.mk (fun h=>absurd (show(16:Int)=0 from h) (by decide))) (fun _=>?_);simp only[qC2,pU2,sI2]at c;have p0:0<=b*e:=Int.mul_nonneg (by omega) (by omega);have p1:b*e<=7741440*1073741824:=rL2 (by omega) h.2.1 (by omega) (by decide);rw[bA (n:=b*e) (by omega) (by omega)];refine Ob (kV (by omega)) fun m i=>.mk (fun _=>?_);dsimp only;generalize b*e=a at p0 p1 i;have q0:0<=a.tdiv d:=Int.tdiv_nonneg p0 (by omega);have q1:a.tdiv d<=a:=Int.tdiv_le_self d p0;rw[show IntKind.wrap .i64 (a.tdiv d)=aW (a.tdiv d)from rfl,bA (by omega) (by omega)]at i;omega
theorem iI2 {x1:aA YU} {d:aA Int} (f:x1.length<=6) (s:d.length<=20):Ok (Ku x1 d) (fun v=>el v.1/\v.1.length<=d.length/\(v.2=0->∀t∈x1,t.ok d.length)):=by
 unfold Ku;refine Ob (wA1 f) fun c hc=>?_;refine Oi (fun hd=>.mk ⟨kG,qJ2 _,fun h=>absurd h (by simpa using hd)⟩) (fun hd=>?_);have o:=hc (by simpa using hd);refine Ob (kF (by decide) (by omega) (by omega)) fun w k=>?_;refine Ob (P:=fun r=>match r with|.inl p=>p.1≠0|.inr l=>el l/\l.length<=d.length) (bD (l:=d) (fun q=>q.1) (fun i q=>el q.2/\q.2.length<=i) (by omega) rfl ⟨by rw[k];exact kG,by rw[k];decide⟩ (fun i e q u n hi hl g hg hw=>?_) (fun q hi g=>?_)) fun v hv=>?_;obtain⟨x,l⟩:=q;dsimp only at hi hl g hg hw;simp only[hl,hg,nt];refine Ob (iH2 f (fun t h=>by have:=o t h;unfold YU.ok at this;omega)) fun⟨a,b⟩ j=>?_;refine Oi (fun hb=>.mk (by simpa using hb)) (fun hb=>?_);exact Ob (cW (Q:=fun v=>el v/\v.length=l.length+1) (by omega) ⟨g.1.app (j (by simpa using hb)),by simp⟩) fun m n=>.mk ⟨hw,n.1,by dsimp only;omega⟩;obtain⟨x,l⟩:=q;dsimp only at hi g;simp only[hi,nf];exact .mk g;rcases v with⟨a,b⟩|b;exact .mk ⟨kG,qJ2 _,fun h=>absurd h hv⟩;exact .mk ⟨hv.1,hv.2,fun _=>o⟩
theorem iJ2 {x1:YO} (a:x1.sm):Ok (Ri x1) (fun v=>el v.1/\v.1.length<=x1.Events.length):=by
 unfold Ri;have j:=a.Events;refine oU (l:=x1.Events) (fun q=>q) (pR2 a.Events (by decide)) rfl (fun m k s f c e d g=>?_) (fun s c=>?_) fun t=>?_;simp only[e,d,nt];have i:=a.EventsE _ f;refine bS (T77 i) fun u=>?_;refine Oi (fun c712=>?_) (fun c712=>?_);exact .mk trivial;refine Oi (fun c713=>?_) (fun c713=>?_);exact .mk trivial;exact .mk g;simp only[c,nf];exact .mk trivial;rcases t with w|_;exact .mk ⟨kG,qJ2 _⟩;refine Ob (iD2 a.Events a.EventsE) fun x h=>?_;refine Ob (iI2 a.Tuplets (by omega)) fun⟨n,o⟩ b=>?_
 try dsimp only at b
 refine Oi (fun c716=>?_) (fun c716=>?_);exact .mk ⟨kG,qJ2 _⟩;refine bS (wF1 a.Tuplets (by omega)) fun⟨p,r⟩=>?_;refine Oi (fun c718=>?_) (fun c718=>?_);exact .mk ⟨kG,qJ2 _⟩;exact .mk ⟨b.1,qT2 b.2.1 (Nat.le_of_eq h)⟩
theorem iK2 {x1:YO} {g:Int} (a:x1.sm):Ok (Rj x1 g) (fun v=>el v.1/\v.1.length<=x1.Events.length):=by
 unfold Rj;refine Oi (fun c719=>?_) (fun c719=>?_);exact .mk ⟨kG,qJ2 _⟩;refine Oi (fun c720=>?_) (fun c720=>?_);exact .mk ⟨kG,qJ2 _⟩;refine bS (vW1 a) fun i=>?_;refine Oi (fun c722=>?_) (fun c722=>?_);have e:=a.Events;refine Ob (P:=fun x=>x∈x1.Events) (bR (by omega) (by(simp only[nm]at *;omega)) (fun _ h _=>h)) fun j c=>?_;have d:=a.EventsE _ c;refine bS (T77 d) fun k=>?_;refine Oi (fun c728=>?_) (fun c728=>?_);exact .mk ⟨kG,qJ2 _⟩;refine Oi (fun c729=>?_) (fun c729=>?_);exact .mk ⟨kG,qJ2 _⟩;refine .mk ⟨fun x f=>?_,?_⟩;rw[sK2.1 f];simp only[nm]at c719;omega;simp only[nm]at c722;dsimp only[List.length_singleton];omega;refine Ob (iJ2 a) fun⟨l,m⟩ b=>?_
 try dsimp only at b
 exact .mk b
theorem Ev {l:aA Int} (h:el l):0<=l.sum/\l.sum<=9007199254740992*(l.length:Int):=by
 induction l with
 |nil=>exact⟨rH2 _,rH2 _⟩
 |cons a r ih=>
  have h1:=h a (List.mem_cons_self ..);have h2:=ih fun x b=>h x (sD2 _ b);rw[List.sum_cons,rB2];omega
theorem el.take {l:aA Int} (h:el l) (i:Nat):el (l.take i):=fun x a=>h x (sZ2 a)
theorem yY {l:aA Int} {i:Nat} {x:Int} (h:l[i]? =some x):(l.take (i+1)).sum=(l.take i).sum+x:=by
 rw[List.take_add_one,h,List.sum_append];simp
theorem iL2 {x1:aA Int} (d:x1.length<=20) (he:el x1):Ok (Rk x1) (fun v=>v=x1.sum):=by
 unfold Rk;refine Ob (P:=fun v=>v=x1.sum) (bD (l:=x1) (fun q=>q.2) (fun i q=>q.1=(x1.take i).sum) (by omega) rfl rfl (fun i e q c g hi hl b hg hw=>?_) (fun q hi b=>?_)) fun v hv=>.mk hv;obtain⟨a,k⟩:=q;dsimp only at hi hl b hg hw;simp only[hl,hg,nt];have h1:=Ev (he.take (i+1));have h2:=List.length_take_le (i+1) x1;have f:=(pO2.1 c).1;rw[yY c,<-b]at h1;refine .mk ⟨hw,?_⟩;dsimp only;rw[yY c,<-b,bA (by omega) (by rw[tC2]at h1;omega)];obtain⟨a,k⟩:=q;dsimp only at hi b;simp only[hi,nf];rw[rU2]at b;exact .mk b
theorem iM2 {x1:YO} {d:Int} (a:x1.sm):Ok (Kv x1 d) (fun v=>el v.1/\v.1.length<=x1.Events.length/\(v.1≠[]->v.1.sum=d)):=by
 have l:=a.Events;unfold Kv;refine Ob (iK2 a) fun⟨g,i⟩ h=>?_;dsimp only at h;refine Ob (P:=fun r=>r=true\/i≠0\/g=[]\/g.sum=d) (Oi (fun c=>Ob (iL2 (by omega) h.1) fun v hv=>.mk ?_) (fun c=>.mk ?_)) fun b hb=>?_;by_cases e:v=d;exact .inr (.inr (.inr (hv ▸ e)));exact .inl (by simpa using e);by_cases e:i=0;refine .inr (.inr (.inl ?_));simp only[pN2,rM2,pU2,not_and]at c;exact List.length_eq_zero_iff.1 (by have:=c e;omega);exact .inr (.inl e);refine Ob (P:=fun c=>c=0->b=false/\i=0) (Oi (fun _=>.mk (fun h=>absurd h (by decide))) (fun h=>.mk (fun h2=>⟨by simpa using h,h2⟩))) fun c hc=>?_;refine Oi (fun _=>.mk ⟨kG,qJ2 _,fun h=>absurd rfl h⟩) (fun h0=>.mk ⟨h.1,h.2,fun f=>?_⟩);obtain⟨j,k⟩:=hc (by simpa using h0);subst j k;simpa[show ¬g=[]from f]using hb
theorem iN2 {x1:aA Int} (s:x1.length<=20) (he:el x1):Ok (Rl x1) (fun v=>v.length=x1.length/\∀i:Nat,i<x1.length->v[i]? =some (x1.take i).sum):=by
 unfold Rl;refine Ob (kF (by omega) (by omega) (by omega)) fun D h2=>?_;refine Ob (P:=fun v=>v.length=x1.length/\∀i:Nat,i<x1.length->v[i]? =some (x1.take i).sum) (gF (fun q=>q.1) (x1.length:Int) (fun q=>q.2.length=x1.length/\1<=q.1/\(q.1<=x1.length\/q.1=1)/\∀i:Nat,(i:Int)<q.1->i<x1.length->q.2[i]? =some (x1.take i).sum) (by omega) (by dsimp only;omega) ⟨by rw[h2];simp,rH2 _,.inr rfl,fun i hi d=>?_⟩ (fun q p h1 hw=>?_)) fun v hv=>.mk hv;dsimp only at hi ⊢;have:i=0:=by omega
 subst this;rw[h2,sT2];rw[pW2 (by omega)];rfl;obtain⟨k,l⟩:=q;dsimp only at p h1 hw;obtain⟨r,B,C,o⟩:=p;refine Oi (fun hc=>?_) (fun hc=>.mk ⟨r,fun i hi=>o i ?_ hi⟩);have hc:k<(x1.length:Int):=by simpa using hc
 rw[bA (n:=k-1) (by omega) (by omega)];obtain⟨j,rfl⟩:∃j:Nat,k=(j:Int)+1:=⟨(k-1).toNat,by omega⟩
 refine Ob (eT (by omega) (by omega)) fun a t=>?_;refine Ob (gO t.2) fun y hy=>?_;obtain⟨z,u,w,m⟩:=bR (l:=x1) (i:=(j:Int)+1-1) (Q:=fun x=>x∈x1/\x1[j]? =some x) (by omega) (by omega) (fun x h1 h2=>⟨h1,by rw[show((j:Int)+1-1).toNat=j by omega]at h2;exact h2⟩);rw[u,pS2];refine Ob (eT (by omega) (by omega)) fun b hb=>?_;have f:a=j:=by omega
 have g:b=j+1:=by omega
 subst f g
 have h:y=(x1.take a).sum:=by
  have:=o a (by omega) (by omega);rw[hy.1]at this;exact rX2 this
 have E:=Ev (he.take (a+1));have F:=List.length_take_le (a+1) x1;have A:=yY m
 have e:iZ l (a+1) (fun _=>aW (y+z))=some (l.set (a+1) (aW (y+z))):=by
  unfold iZ;rw[qN2 hb.2];rfl
 rw[e,pS2,bA (n:=y+z) (by omega) (by omega)];refine .mk ⟨hc,hw hc,by simpa using r,by rw[hw hc];omega,.inl (by rw[hw hc];omega),fun i hi d=>?_⟩;dsimp only at hi ⊢;rw[qK2];rw[hw hc]at hi;by_cases c:a+1=i;rw[pW2 c,pW2 (by omega),<-c,A,h];rw[pT2 c];exact o i (by omega) d;have hc:¬k<(x1.length:Int):=by simpa using hc
 omega
theorem iO2 {x1:YO} {j:Int} (a:x1.sm):Ok (La x1 j) (fun v=>v.1.length<=x1.Events.length/\∀o∈v.1,0<=o/\o<=j):=by
 have l:=a.Events;unfold La;refine Ob (iM2 a) fun⟨c,q⟩ h=>?_;dsimp only at h;refine Oi (fun _=>.mk ⟨qJ2 _,fun o f=>(by cases f)⟩) (fun _=>?_);refine Ob (iN2 (by omega) h.1) fun r d=>.mk ⟨by dsimp only;omega,fun o f=>?_⟩;dsimp only at f;obtain⟨i,hi⟩:=qG2.1 f;have b:=(pO2.1 hi).1;have hv:=d.2 i (by omega);rw[hi]at hv;have hv:=rX2 hv;have g:c≠[]:=fun e=>by rw[e]at d;simp at d;rw[d]at b;simp at b
 have hs:=h.2.2 g;have m:=Ev (h.1.take i);have n:(c.take i).sum+(c.drop i).sum=c.sum:=by rw[<-List.sum_append,sX2]
 have p:=Ev (fun x k=>h.1 x (List.mem_of_mem_drop k):el (c.drop i));omega
end Go.P
set_option maxHeartbeats 1000000
namespace Go.P
variable {st:Nat->Int} {S:Nat->Prop}
def nS (st:Nat->Int) (S:Nat->Prop) (n:aG):Prop:=∀j,S j->¬(n.On<st (j+1)/\st j<n.Off)
def aS (st:Nat->Int) (S:Nat->Prop) (l:aA aG):Prop:=∀n∈l,nS st S n
def dS (st:Nat->Int) (S:Nat->Prop) (i:Nat) (n:aG):Prop:=∀j,j<i->S j->st (j+1)<=n.On
def Hs (st:Nat->Int) (S:Nat->Prop) (i:Nat) (m:aA (YH×Int)) (l:aA aG):Prop:=∀q∈m,0<=q.2/\q.2<(l.length:Int)/\∀n,l[q.2.toNat]? =some n->dS st S i n
theorem Hs.hd {i:Nat} {m:aA (YH×Int)} {l:aA aG} (h:Hs st S i m l):Hd m l.length:=fun q a=>⟨(h q a).1,(h q a).2.1⟩
def Ex2 (l a:aA aG):Prop:=l.length<=a.length/\∀(p:Nat) n',p<l.length->a[p]? =some n'->∃n,l[p]? =some n/\n.On=n'.On
theorem Hs.ex {i:Nat} {m:aA (YH×Int)} {l d:aA aG} (h:Hs st S i m l) (e:Ex2 l d):Hs st S i m d:=fun q k=>by
 obtain⟨a,b,c⟩:=h q k
 refine⟨a,by have:=e.1;omega,fun n g j f hs=>?_⟩
 obtain⟨n0,h0,h1⟩:=e.2 q.2.toNat n (by omega) g
 rw[<-h1]
 exact c n0 h0 j f hs
theorem Hs.next {i:Nat} {m:aA (YH×Int)} {l:aA aG} (h:Hs st S i m l) (g:S i->m=[]):Hs st S (i+1) m l:=fun q f=>by
 obtain⟨a,b,c⟩:=h q f
 refine⟨a,b,fun n e j k hs=>?_⟩
 by_cases d:j=i
 .subst d
  rw[g hs]at f
  cases f
 .exact c n e j (by omega) hs
theorem wY1 (mono:∀a b:Nat,a<=b->st a<=st b) {i:Nat} {x1:YE} {T A x6:Int} {J:aA (YH×Int)} {H:aG} {s:aA aG} (h1:x1.sm) (h2:st i<=T) (h3:A<=st (i+1)) (G:S i->x1.Heads=[]) (hh:Hs st S i J s) (ha:aS st S s) (hl:s.length<=900000000):
  Ok (fN1 x1 T A J H x6 s) (fun r=>Hs st S i r.1 r.2/\aS st S r.2/\s.length<=r.2.length/\r.2.length<=s.length+12/\(S i->r.1=[])):=by
 unfold fN1;have hb:=h1.Heads;refine Ob (P:=fun r=>Hs st S i r.1 r.2/\aS st S r.2/\s.length<=r.2.length/\r.2.length<=s.length+12/\(S i->r.1=[])) (bD (l:=x1.Heads) (fun q=>q.1) (fun k q=>Hs st S i q.2.1 q.2.2/\Hs st S i J q.2.2/\aS st S q.2.2/\s.length<=q.2.2.length/\q.2.2.length<=s.length+k/\(k=0->q.2.1=[])) (by omega) rfl ⟨fun q y=>(by cases y),hh,ha,pQ2 _,pQ2 _,fun _=>rfl⟩ (fun t e q hx hm hi D u hg hw=>?_) (fun q hi u=>?_)) fun⟨a,b⟩ h=>.mk h;obtain⟨k,m,l⟩:=q;dsimp only at hi D u hg hw;obtain⟨U,V,i3,i4,i5,_⟩:=u;have C:=(pO2.1 hx).1;have N:¬S i:=fun h=>by rw[G h]at C;exact absurd C (tE2 _)
 simp only[D,hg,nt];refine Ob (P:=fun r=>0<=r.1/\r.1<(r.2.length:Int)/\l.length<=r.2.length/\r.2.length<=l.length+1/\(∀n,r.2[r.1.toNat]? =some n->dS st S i n)/\(∀p n,p≠r.1.toNat->r.2[p]? =some n->l[p]? =some n)/\∀p n,p<l.length->r.2[p]? =some n->l[p]? =some n) (Oi (fun hc=>?_) (fun hc=>?_)) fun⟨n,c⟩ o=>?_;refine Ob T80 fun⟨p,_⟩ _=>?_;refine Ob (cW (Q:=fun v=>v=l++[(aG.mk T H.Off (aW (p-x6)) H.Part H.Staff H.Voice x1.ID k)]) (by omega) rfl) fun v hv=>?_;subst hv;refine .mk ⟨by dsimp only;omega,by dsimp only;simp;omega,by dsimp only;simp,by dsimp only;simp,fun n o j M hs=>?_,fun p n hp o=>?_,fun p n hp o=>?_⟩;dsimp only at o;rw[Int.toNat_natCast,sN2 (pQ2 _)]at o;simp at o;rw[<-o];exact Int.le_trans (mono _ _ M) h2;dsimp only at hp o;rw[Int.toNat_natCast]at hp;have O:=(pO2.1 o).1;simp at O
 rwa [rV2 (by omega)]at o
 dsimp only at o
 rwa [rV2 hp]at o
 have hc:Qo J e.Pitch=true:=by simpa using hc
 obtain⟨q,q1,q2⟩:=Yh (z:=0) hc;have:=V q q1;rw[q2]at this;exact .mk ⟨this.1,this.2.1,pQ2 _,Nat.le_succ _,this.2.2,fun p n _ h=>h,fun p n _ h=>h⟩;dsimp only at o;obtain⟨X,Y,n3,n4,n5,n6,Z⟩:=o;refine Ob (eT X Y) fun j M=>?_;obtain⟨x,w⟩:=M
 have F:∀f:aG->aG,iZ c j f=some (c.set j (f c[j])):=fun f=>by
  unfold iZ;rw[qN2 w];rfl
 rw[F,pS2];have B:=n5 c[j] (by rw[<-x];exact qN2 w)
 have K:∀(p:Nat) n',(c.set j (aG.mk c[j].On A c[j].Number c[j].Part c[j].Staff c[j].Voice c[j].Event c[j].Head))[p]? =some n'->(p=j/\n'=aG.mk c[j].On A c[j].Number c[j].Part c[j].Staff c[j].Voice c[j].Event c[j].Head)\/(p≠j/\c[p]? =some n'):=fun p n' h=>by
  rw[qK2]at h;by_cases d:j=p;rw[pW2 d,pW2 w]at h;exact .inl ⟨d.symm,(rX2 h).symm⟩;rw[pT2 d]at h;exact .inr ⟨fun e=>d e.symm,h⟩
 have L:Ex2 l (c.set j (aG.mk c[j].On A c[j].Number c[j].Part c[j].Staff c[j].Voice c[j].Event c[j].Head)):=by
  refine⟨by simpa using n3,fun p n' hp g=>?_⟩;rcases K p n' g with⟨rfl,rfl⟩|⟨d,g⟩
  exact⟨c[p],Z p _ hp (qN2 w),rfl⟩;exact⟨n',Z p _ hp g,rfl⟩
 have hA:aS st S (c.set j (aG.mk c[j].On A c[j].Number c[j].Part c[j].Staff c[j].Voice c[j].Event c[j].Head)):=fun n' g=>by
  obtain⟨p,hp⟩:=qG2.1 g;rcases K p n' hp with⟨_,rfl⟩|⟨d,hp⟩
  intro R hs ⟨c1,c2⟩;dsimp only at c1 c2;rcases Nat.lt_trichotomy R i with E|heq|hgt;have:=B R E hs;omega;exact N (heq ▸ hs);have:=mono (i+1) R hgt;omega;exact i3 n' (pZ2 (n6 p n' (by rw[<-x];exact d) hp))
 refine Ob (P:=fun W=>Hs st S i W (c.set j (aG.mk c[j].On A c[j].Number c[j].Part c[j].Staff c[j].Voice c[j].Event c[j].Head))) (Oi (fun _=>.mk fun q y=>?_) (fun _=>.mk (U.ex L))) fun W h2=>.mk ⟨hw,h2,V.ex L,hA,by dsimp only;simp;omega,by dsimp only;simp;omega,fun h=>by omega⟩;rcases Yi y with y|y;exact(U.ex L) q y;rw[y];refine⟨X,by simpa using Y,fun n' g=>?_⟩;rcases K _ n' g with⟨_,rfl⟩|⟨d,_⟩
 exact B;exact absurd x.symm d;obtain⟨k,m,l⟩:=q;dsimp only at hi u;simp only[hi,nf];refine .mk ⟨u.1,u.2.2.1,u.2.2.2.1,by have:=u.2.2.2.2.1;dsimp only;omega,fun hs=>u.2.2.2.2.2 ?_⟩;rw[G hs];rfl
end Go.P
namespace Go.P
variable {st:Nat->Int} {S:Nat->Prop}
def Ew (m:YM) (n:Int) (s:bE):Prop:=iE2 m s/\(0<=s.On/\s.On<=n)/\0<=s.Off/\s.Off<=n
theorem R48 {x1:YM} {n:Int} (h1:x1.sm) (R:zT x1=some (n,0)) (F:0<=n):Ok (F48 x1) (fun r=>r.1.length<=300/\∀s∈r.1,Ew x1 n s):=by
 unfold F48;have V:=h1.Cells;rw[R,pS2];refine Ob (P:=fun r=>r.2.length<=300/\∀s∈r.2,Ew x1 n s) (bD (l:=x1.Cells) (fun q=>q.2.1) (fun i q=>q.2.2.length<=60*i/\∀s∈q.2.2,Ew x1 n s) (by omega) rfl ⟨qJ2 _,fun s hs=>(by cases hs)⟩ (fun i c q T O hi A z hg hw=>?_) (fun q hi z=>?_)) fun⟨a,b⟩ h=>Oi (fun _=>.mk ⟨qJ2 _,fun s hs=>(by cases hs)⟩) (fun _=>.mk h);obtain⟨e,k,l⟩:=q;dsimp only at hi A z hg hw;have M:=(pO2.1 T).1;have hc:=h1.CellsE c O;have X:=hc.Voices;simp only[A,hg,nt];refine Ob (P:=fun r=>match r with|.inl p=>p.2.length<=l.length+60/\(∀s∈p.2,Ew x1 n s)|.inr p=>p.2.length<=l.length+60/\∀s∈p.2,Ew x1 n s) (bD (l:=c.Voices) (fun q=>q.2.1) (fun j q=>q.2.2.length<=l.length+20*j/\∀s∈q.2.2,Ew x1 n s) (by omega) rfl ⟨pQ2 _,z.2⟩ (fun j v q hx2 hm2 g hlt2 d hg2 hw2=>?_) (fun q g d=>?_)) fun r hr=>?_;obtain⟨e,U,J⟩:=q;dsimp only at g hlt2 d hg2 hw2;have N:=(pO2.1 hx2).1;have hv:=hc.VoicesE v hm2;have W:=hv.Events;simp only[hlt2,hg2,nt];refine Oi (fun _=>.mk ⟨by dsimp only;omega,d.2⟩) (fun _=>?_);refine Ob (P:=fun _=>True) (by unfold kY1;exact .mk trivial) fun p _=>?_;refine Oi (fun _=>.mk ⟨hw2,by dsimp only;omega,d.2⟩) (fun _=>?_);refine Ob (iO2 hv) fun⟨on,e2⟩ ⟨C,u⟩=>?_;dsimp only at C u;refine Oi (fun _=>.mk ⟨by dsimp only;omega,d.2⟩) (fun _=>?_);refine Ob (P:=fun w=>w.length<=J.length+20/\∀s∈w,Ew x1 n s) (bD (l:=on) (fun q=>q.1) (fun t q=>q.2.length<=J.length+t/\∀s∈q.2,Ew x1 n s) (by omega) rfl ⟨pQ2 _,d.2⟩ (fun t o q hx3 hm3 m hlt3 f hg3 hw3=>?_) (fun q m f=>?_)) fun w G=>.mk ⟨hw2,by dsimp only;omega,G.2⟩;obtain⟨K,L⟩:=q;dsimp only at m hlt3 f hg3 hw3;have S:=(pO2.1 hx3).1;simp only[hlt3,hg3,nt];refine Ob (P:=fun off=>0<=off/\off<=n) (Oi (fun hc=>?_) (fun _=>.mk ⟨F,rH2 _⟩)) fun off B=>?_;rw[hw3]at hc ⊢;exact Ob (bR (Q:=fun y=>y∈on) (by omega) (by simpa using hc) (fun _ h _=>h)) fun y hy=>.mk (u y hy);refine Ob (cW (Q:=fun w=>w.length=L.length+1/\∀s∈w,Ew x1 n s) (by omega) ⟨by simp,fun s hs=>?_⟩) fun w H=>.mk ⟨hw3,by dsimp only;omega,H.2⟩;rcases rF2.1 hs with hs|hs;exact f.2 s hs;rw[sK2.1 hs];obtain⟨ev,D,E⟩:=bR (l:=v.Events) (i:=K) (Q:=fun x=>x∈v.Events) (by omega) (by omega) (fun _ h _=>h);exact⟨⟨c,v,ev,hg,hg2,D,hv.EventsE _ E⟩,u o hm3,B⟩;obtain⟨K,L⟩:=q;dsimp only at m f;simp only[m,nf];exact .mk ⟨by omega,f.2⟩;obtain⟨e,U,J⟩:=q;dsimp only at g d;simp only[g,nf];exact .mk ⟨by dsimp only;omega,d.2⟩;rcases r with⟨a,b⟩|⟨a,b⟩
 exact .mk ⟨by dsimp only at hr ⊢;omega,hr.2⟩;exact .mk ⟨hw,by dsimp only at hr ⊢;omega,hr.2⟩;obtain⟨e,k,l⟩:=q;dsimp only at hi z;simp only[hi,nf];exact .mk ⟨by dsimp only;omega,z.2⟩
def noH (m:YM):Prop:=∀c∈m.Cells,∀v∈c.Voices,∀e∈v.Events,e.Heads=[]
theorem wZ1 (mono:∀a b:Nat,a<=b->st a<=st b) {i:Nat} {n:Int} {x1:YM} {p O R U:Int} {C:aA (YH×Int)} {T:aG} {d:aA aG} (h1:x1.sm) (H:zT x1=some (n,0)) (hb:0<=n/\n<=15482880) (h2:p=st i) (W:st (i+1)=st i+n) (X:0<=st i/\st i<=15482880*12) (w:S i->noH x1) (F:Hs st S i C d) (E:aS st S d) (hl:d.length<=800000000):
  Ok (fO1 x1 p O R C T U d) (fun r=>Hs st S (i+1) r.1 r.2/\aS st S r.2/\d.length<=r.2.length/\r.2.length<=d.length+3600):=by
 unfold fO1;refine Ob (R48 h1 H hb.1) fun⟨sl,V⟩ ⟨u,j⟩=>?_;dsimp only at u j;refine Ob (P:=fun r=>Hs st S i r.2.1 r.2.2/\aS st S r.2.2/\d.length<=r.2.2.length/\r.2.2.length<=d.length+3600/\(S i->r.1=true->r.2.1=[])) (bD (l:=sl) (fun q=>q.2.1) (fun t q=>Hs st S i q.2.2.1 q.2.2.2/\aS st S q.2.2.2/\d.length<=q.2.2.2.length/\q.2.2.2.length<=d.length+12*t/\(S i->q.1=true->q.2.2.1=[])) (by omega) rfl ⟨F,E,pQ2 _,pQ2 _,fun _ h=>(by cases h)⟩ (fun t s q L o hi g f hg hw=>?_) (fun q hi f=>?_)) fun⟨a,b,c⟩ h=>Ob (P:=fun m=>Hs st S i m c/\(S i->m=[])) (Oi (fun _=>.mk ⟨fun q J=>(by cases J),fun _=>rfl⟩) (fun K=>.mk ⟨h.1,fun hs=>h.2.2.2.2 hs (by simpa using K)⟩)) fun m o=>.mk ⟨o.1.next o.2,h.2.1,h.2.2.1,h.2.2.2.1⟩
 .obtain ⟨D,k,m,l⟩:=q
  dsimp only at hi g f hg hw;obtain⟨x,y,Y,Z,M⟩:=f;have G:=(pO2.1 L).1;simp only[g,hg,nt];refine Ob (P:=fun r=>Hs st S i r.2.1 r.2.2/\aS st S r.2.2/\l.length<=r.2.2.length/\r.2.2.length<=l.length+12/\(S i->r.1=true->r.2.1=[])) (Oi (fun hc=>?_) (fun _=>.mk ⟨x,y,pQ2 _,Nat.le_add_right _ _,M⟩)) fun⟨a,b,c⟩ h=>.mk ⟨hw,h.1,h.2.1,by have:=h.2.2.1;dsimp only at this ⊢;omega,by have:=h.2.2.2.1;dsimp only at this ⊢;omega,h.2.2.2.2⟩;obtain⟨⟨c,v,e,z,A,B,N⟩,k5,k6⟩:=j s o;simp only[pN2,rM2]at hc;rw[<-hc.1,<-hc.2,z];simp only[pS2,A,B];rw[bA (n:=p+s.On) (by omega) (by omega),bA (n:=p+s.Off) (by omega) (by omega)];refine Ob (wY1 mono N (by omega) (by omega) (fun hs=>w hs c (cD z).2.2.1 v (cD A).2.2.1 e (cD B).2.2.1) x y (by omega)) fun⟨a,b⟩ h=>.mk ⟨h.1,h.2.1,h.2.2.1,h.2.2.2.1,fun hs _=>h.2.2.2.2 hs⟩
 .obtain ⟨D,k,m,l⟩:=q
  dsimp only at hi f;simp only[hi,nf];exact .mk ⟨f.1,f.2.1,f.2.2.1,by have:=f.2.2.2.1;dsimp only;omega,f.2.2.2.2⟩
end Go.P
namespace Go.P
variable {s:Y0}
def ml (m:YM):Int:=match zT m with|some r=>r.1|none=>0
def lW (s:Y0) (j:Nat):Int:=((s.Measures.take j).map ml).sum
def sil (s:Y0) (j:Nat):Prop:=∃m,s.Measures[j]? =some m/\noH m
theorem yZ {j:Nat} {m:YM} (h:s.Measures[j]? =some m):lW s (j+1)=lW s j+ml m:=by
 unfold lW;rw[List.take_add_one,h,sQ2,List.sum_append];simp
theorem Yj {j:Nat} (h:s.Measures.length<=j):lW s (j+1)=lW s j:=by
 unfold lW;rw[qV2 (by omega),qV2 (by omega)]
theorem xA1 (hg:cZ s) {m:YM} (b:m∈s.Measures):0<ml m/\ml m<=15482880:=by
 obtain⟨n,a⟩:=hg m b;have:=E94 a;unfold ml;rw[a];exact this
theorem Im (hg:cZ s) (j:Nat):lW s j<=lW s (j+1)/\lW s (j+1)<=lW s j+15482880:=by
 by_cases h:j<s.Measures.length;have a:s.Measures[j]? =some s.Measures[j]:=qN2 h;have:=xA1 hg (sA2 h);rw[yZ a];omega;rw[Yj (by omega)];omega
theorem Yk (hs:s.sm) (hg:cZ s):∀a b:Nat,a<=b->lW s a<=lW s b:=fun a b h=>by
 induction h with
 |refl=>exact rH2 _
 |step _ ih=>exact Int.le_trans ih (Im hg _).1
theorem wA (hs:s.sm) (hg:cZ s):∀j:Nat,0<=lW s j/\lW s j<=15482880*(j:Int)
 |0=>by simp[lW]
 |j+1=>by
  have:=wA hs hg j
  have h2:=Im hg j
  omega
theorem Ls (hs:s.sm) (hg:cZ s) (j:Nat):0<=lW s j/\lW s j<=15482880*12:=by
 have a:=hs.Measures;refine⟨(wA hs hg j).1,?_⟩;by_cases h:j<=s.Measures.length;have:=(wA hs hg j).2;omega
 have h1:lW s j=lW s s.Measures.length:=by
  unfold lW;rw[qV2 (by omega),qV2 (pQ2 _)]
 have:=(wA hs hg s.Measures.length).2;omega
theorem Yl (hs:s.sm) (hg:cZ s):F19 s=some ((List.range (s.Measures.length+1)).map (lW s)):=by
 have A:=hs.Measures;unfold F19;refine Ok.eq (Ob (P:=fun r=>r=(List.range (s.Measures.length+1)).map (lW s)) (bD (l:=s.Measures) (fun q=>q.1) (fun i q=>q.2=(List.range (i+1)).map (lW s)) (by omega) rfl rfl (fun i m q p x hi c a b hw=>?_) (fun q hi a=>?_)) fun r hr=>.mk hr);obtain⟨k,o⟩:=q;dsimp only at hi c a b hw;have u:=(pO2.1 p).1;obtain⟨n,h⟩:=hg m x;have e:ml m=n:=by unfold ml;rw[h]
 simp only[c,b,h,nt];have z:o.length=i+1:=by rw[a];simp
 refine Ob (eT (by omega) (by omega)) fun j v=>Ob (gO v.2) fun y hy=>?_;have d:j=i:=by omega
 have g:y=lW s i:=by
  rw[d,a,qU2,rW2 (by omega)]at hy;exact(rX2 hy.1).symm
 have h1:=Ls hs hg i;have h2:=Ls hs hg (i+1);have t:=yZ p;rw[g,bA (n:=lW s i+n) (by omega) (by omega)];refine Ob (cW (Q:=fun w=>w=o++[lW s i+n]) (by omega) rfl) fun w f=>.mk ⟨hw,?_⟩;dsimp only;rw[f,a,List.range_succ (n:=i+1),sQ2];show _++_=_++[lW s (i+1)]
 rw[t,e];obtain⟨k,o⟩:=q;dsimp only at hi a;simp only[hi,nf];exact .mk a
theorem F9h (hs:s.sm) (hv:F7 s=some true) (hg:cZ s):Ok (F9 s) (fun r=>r.2=0/\aS (lW s) (sil s) r.1/\r.1.length<=1728000):=by
 have S:=hs.Measures;have T:=hs.Parts;unfold F9;rw[hv];simp only[pS2];rw[pT2 (by decide)];rw[Yl hs hg,pS2];refine Ob (nK1 hs) fun n A=>?_;refine Ob (P:=fun l=>aS (lW s) (sil s) l/\l.length<=1728000) (gF (fun q=>q.1) n (fun q=>q.1<=n/\aS (lW s) (sil s) q.2/\q.2.length<=86400*q.1.toNat) (by omega) (by dsimp only;omega) ⟨by dsimp only;omega,fun n A=>(by cases A),qJ2 _⟩ (fun q C h0 hw=>?_)) fun l hl=>Ob (gE1 (by omega)) fun r hr=>.mk ⟨rfl,fun n A=>hl.1 n (hr.1.mem_iff.1 A),by dsimp only;rw[hr.1.length_eq];exact hl.2⟩;obtain⟨x,l⟩:=q;dsimp only at C h0 hw;refine Oi (fun hc=>?_) (fun hc=>.mk ⟨C.2.1,by dsimp only;omega⟩);have hc:x<n:=by simpa using hc
 refine Ob (S21 hs (by omega)) fun⟨p,k,e⟩ hp=>?_;dsimp only at hp;refine Ob (P:=fun _=>True) (Oi (fun _=>Ob (bR (Q:=fun _=>True) hp.1 hp.2 (fun _ _ _=>trivial)) fun _ _=>.mk trivial) (fun _=>.mk trivial)) fun d _=>?_;refine Ob (P:=fun t=>aS (lW s) (sil s) t/\t.length<=l.length+86400) (gF (fun q=>q.1) 2 (fun q=>q.1<=2/\aS (lW s) (sil s) q.2/\q.2.length<=l.length+43200*q.1.toNat) (by omega) (by dsimp only;omega) ⟨by dsimp only;omega,C.2.1,pQ2 _⟩ (fun q o B j=>?_)) fun t v=>.mk ⟨hc,hw hc,by rw[hw hc];omega,v.1,by have:=v.2;dsimp only;rw[hw hc];omega⟩;obtain⟨y,t⟩:=q;dsimp only at o B j;refine Oi (fun f=>?_) (fun f=>.mk ⟨o.2.1,by dsimp only;omega⟩);have f:y<2:=by simpa using f
 refine Ob (P:=fun r=>aS (lW s) (sil s) r.2.2/\r.2.2.length<=t.length+43200) (bD (l:=s.Measures) (fun q=>q.1) (fun i q=>Hs (lW s) (sil s) i q.2.1 q.2.2.2/\aS (lW s) (sil s) q.2.2.2/\q.2.2.2.length<=t.length+3600*i) (by omega) rfl ⟨fun q N=>(by cases N),o.2.1,pQ2 _⟩ (fun i m q F J hi w g u z=>?_) (fun q hi g=>?_)) fun⟨a,b,c⟩ h=>.mk ⟨f,j f,by rw[j f];omega,h.1,by have:=h.2;dsimp only at this ⊢;rw[j f];omega⟩;obtain⟨O,hd,H,R⟩:=q;dsimp only at hi w g u z;have M:=(pO2.1 F).1;simp only[w,u,nt]
 rw[hi,show aT ((List.range (s.Measures.length+1)).map (lW s)) (i:Int)=some (lW s i)by
  unfold aT;rw[pW2 (by omega),Int.toNat_natCast,qU2,rW2 (by omega)];rfl,pS2]
 obtain⟨K,G⟩:=hg m J;have E:ml m=K:=by unfold ml;rw[G]
 have L:=E94 G;have D:=Ls hs hg i;refine Ob (wZ1 (Yk hs hg) (i:=i) (n:=K) (hs.MeasuresE m J) G (by omega) rfl (by rw[yZ F,E]) ⟨D.1,by omega⟩ (fun⟨U,h1,h2⟩=>by rw[F]at h1;cases h1;exact h2) g.1 g.2.1 (by omega)) fun⟨a,b⟩ h=>.mk ⟨by have:=z;rw[hi]at this;exact this,h.1,h.2.1,by have:=h.2.2.2;dsimp only at this ⊢;omega⟩;obtain⟨O,hd,H,R⟩:=q;dsimp only at hi g;simp only[hi,nf];exact .mk ⟨g.2.1,by dsimp only;omega⟩
end Go.P
namespace Go.P
def pI (s:Y0) (id:YZ):Bool:=s.Spanners.any fun x=>decide (id=x.From)||decide (id=x.To)
def kW (s:Y0) (e:YE):Bool:=((decide ((e.Heads.length:Int)>0)||(e.Dynamic !=0))||(e.Articulations !=0))||pI s e.ID
def Ry (s:Y0) (m:YM):Bool:=(!(m.RepeatStart||m.RepeatEnd !=0||m.Endings !=0||m.Jump !=0||m.Labels !=0)&& !(m.Tempi.any fun x=>x.At !=0))&&(!(m.Cells.any fun c=>c.Clefs.any fun x=>x.At !=0)&& !(m.Cells.any fun c=>c.Voices.any fun v=>v.Events.any (kW s)))
theorem nL1 {s:Y0} (hs:s.sm):Ok (F56 s) (fun E=>∀id,kE E id false=pI s id):=by
 unfold F56;have h:=hs.Spanners;refine Ob (P:=fun E=>∀id,kE E id false=pI s id) (bD (l:=s.Spanners) (fun q=>q.1) (fun i q=>∀id,kE q.2 id false=(s.Spanners.take i).any fun x=>decide (id=x.From)||decide (id=x.To)) (by omega) rfl (fun id=>rfl) (fun i e q c d hi hl a hg hw=>?_) (fun q hi a=>?_)) fun v hv=>.mk hv;obtain⟨x,l⟩:=q;dsimp only at hi hl a hg hw;simp only[hl,hg,rG2,qQ2,pS2];refine .mk ⟨hw,fun id=>?_⟩;dsimp only;rw[tT,tT,a,List.take_add_one,c,List.any_append];by_cases b:id=e.To;simp[b];by_cases e2:id=e.From<;>simp[b,e2];obtain⟨x,l⟩:=q;dsimp only at hi a;simp only[hi,Int.lt_irrefl,rQ2,qA2,qX2];refine .mk (fun id=>?_);rw[a,rU2];rfl
section
variable {s:Y0} {E:List (YZ×Bool)}
theorem gG1 (a:∀id,kE E id false=pI s id) {l:aA YE} (hl:l.length<=20):Li l E=some (l.any (kW s)):=
 vY (l:=l) (g:=fun x=>fD1 x E) (kW s) (by omega) (fun x _=>by unfold fD1 kW;rw[a])
theorem nM1 (b:∀id,kE E id false=pI s id) {m:YM} (a:m.sm):fG1 m E=some (!(m.Cells.any fun c=>c.Voices.any fun v=>v.Events.any (kW s))):=by
 unfold fG1;have g:=a.Cells;refine sI (Ii (fun c=>c.Voices.any fun v=>v.Events.any (kW s)) (l:=m.Cells) (by omega) (fun i c h0 h1 hc hg hw=>?_) ?_) ?_;simp only[h1,hg,hw,rG2,qQ2,pS2];have h:=(a.CellsE c hc).Voices;refine sI (Ii (fun v=>v.Events.any (kW s)) (l:=c.Voices) (by omega) (fun j v k d hv e f=>?_) ?_) ?_;simp only[d,e,f,rG2,qQ2,pS2];rw[gG1 b ((a.CellsE c hc).VoicesE v hv).Events,pS2];cases v.Events.any (kW s)<;>rfl;simp only[Int.lt_irrefl,rQ2,qA2,qX2];cases c.Voices.any (fun v=>v.Events.any (kW s))<;>rfl;simp only[Int.lt_irrefl,rQ2,qA2,qX2];cases m.Cells.any (fun c=>c.Voices.any fun v=>v.Events.any (kW s))<;>rfl
theorem nN1 {m:YM} (d:m.sm):fB1 m=some (!((m.Tempi.any fun x=>x.At !=0)||(m.Cells.any fun c=>c.Clefs.any fun x=>x.At !=0))):=by
 unfold fB1;have h:=d.Tempi;have e:=d.Cells;refine sI (a:=m.Tempi.any fun x=>x.At !=0) (vY (g:=kO1) _ (by omega) (fun x _=>rfl)) ?_;refine sI (fX1 (fun c=>c.Clefs.any fun x=>x.At !=0) (l:=m.Cells) (by omega) (m.Tempi.any fun x=>x.At !=0) (fun b i c h0 h1 hc hg hw=>?_) (fun b=>?_)) rfl;have f:=(d.CellsE c hc).Clefs;have h2:kQ1 c.Clefs=some (c.Clefs.any fun x=>x.At !=0):=vY (g:=kP1) _ (by omega) (fun x _=>rfl);simp only[h1,hg,hw,h2,rG2,qQ2,pS2,nH1];simp only[Int.lt_irrefl,rQ2,qA2,qX2]
theorem nO1 (h:∀id,kE E id false=pI s id) {m:YM} (d:m.sm):F57 m E=some (Ry s m):=by
 unfold F57 Xi Xh kM1 Lg Lh Lj kL1 kN1 kR1 kS1;rw[nM1 h d,nN1 d];unfold Ry;simp only[pS2];generalize(m.Tempi.any fun x=>x.At !=0)=a;generalize(m.Cells.any fun c=>c.Clefs.any fun x=>x.At !=0)=b;generalize(m.Cells.any fun c=>c.Voices.any fun v=>v.Events.any (kW s))=c;have e:(m.RepeatEnd !=0)= !(m.RepeatEnd==0):=rfl;have e2:(m.Endings !=0)= !(m.Endings==0):=rfl;have f:(m.Jump !=0)= !(m.Jump==0):=rfl;have g:(m.Labels !=0)= !(m.Labels==0):=rfl;rw[e,e2,f,g];generalize(m.RepeatEnd==0)=x1;generalize(m.Endings==0)=x2;generalize(m.Jump==0)=x3;generalize(m.Labels==0)=x4;generalize m.RepeatStart=x5;cases x1<;>cases x2<;>cases x3<;>cases x4<;>cases x5<;>cases a<;>cases b<;>cases c<;>rfl
end
def vC (s:Y0) (i:Int):Bool:=match aT s.Measures i with|some m=>Ry s m|none=>false
theorem Bv {A:Type} {l:aA A} {i:Int} (h:¬(0<=i/\i<(l.length:Int))):aT l i=none:=by
 cases e:aT l i with
 |none=>rfl
 |some x=>have:=cD e;omega
theorem Ey {A:Type} {l:aA A} {i:Int} (h:0<=i/\i<(l.length:Int)):∃x,aT l i=some x:=(bR (Q:=fun _=>True) h.1 h.2 (fun _ _ _=>trivial)).ex
def iP2 (a b:YM):Bool:=(((((((((a.Metre.Count==b.Metre.Count)&&((a.Metre.Unit==b.Metre.Unit)&&((a.Metre.Groups.c0==b.Metre.Groups.c0)&&((a.Metre.Groups.c1==b.Metre.Groups.c1)&&((a.Metre.Groups.c2==b.Metre.Groups.c2)&&((a.Metre.Groups.c3==b.Metre.Groups.c3)&&((a.Metre.Groups.c4==b.Metre.Groups.c4)&&((a.Metre.Groups.c5==b.Metre.Groups.c5)&&true))))))))!=false)&&(a.Length==b.Length))&&(a.Fifths==b.Fifths))&&((b.Tempi.length:Int)==0))&&(!(b.Cells.any fun c=>decide ((c.Clefs.length:Int)>0))))&&(b.Swing==0))&&(b.Break==0))&&(b.Rehearsal.toList==(⟨#[]⟩:ByteArray).toList)
def Ez (s:Y0) (i:Int):Bool:=match aT s.Measures (i-1),aT s.Measures i with|some a,some b=>iP2 a b|_,_=>false
theorem nP1 {s:Y0} (hs:s.sm) {i:Int} (h0:0<=i) (h1:i<(s.Measures.length:Int)):F58 s i=some (Ez s i):=by
 unfold F58 Ez;have f:=hs.Measures;by_cases hi:i=0;rw[pW2 (by simp[hi]),Bv (by omega)];rw[pT2 (by simp[hi]),bA (by omega) (by omega)];obtain⟨a,d⟩:=Ey (l:=s.Measures) (i:=i-1) (by omega);obtain⟨b,hb⟩:=Ey (l:=s.Measures) (i:=i) (by omega);rw[d,hb];have e:=(hs.MeasuresE b (cD hb).2.2.1).Cells;have h2:Lk b.Cells=some (b.Cells.any fun c=>decide ((c.Clefs.length:Int)>0)):=vY (g:=kV1) _ (by omega) (fun x _=>rfl);simp only[pS2,h2];rfl
end Go.P
namespace Go.P
section
variable (e j:Nat->Bool) (n:Nat)
def Ot (t:Nat):Nat:=if t<n/\(e t&&j t)=true then Ot (t+1)else t
termination_by n-t
decreasing_by omega
def qL (i:Nat):Nat:=if e i then Ot e j n (i+1)else i+1
theorem oD (t:Nat):t<=Ot e j n t/\(t<=n->Ot e j n t<=n)/\(∀k,t<=k->k<Ot e j n t->e k=true/\j k=true)/\¬(Ot e j n t<n/\(e (Ot e j n t)&&j (Ot e j n t))=true):=by
 rw[Ot];split;rename_i h;have ih:=oD (t+1);refine⟨by omega,fun _=>ih.2.1 (by omega),fun k h1 h2=>?_,ih.2.2.2⟩;by_cases hk:k=t;subst hk;simpa using h.2;exact ih.2.2.1 k (by omega) h2;rename_i h;exact⟨pQ2 _,fun h=>h,fun k h1 h2=>by omega,h⟩
termination_by n-t
decreasing_by omega
theorem zA (i:Nat):i<qL e j n i:=by
 unfold qL;split;have:=(oD e j n (i+1)).1;omega;omega
theorem Lt {i:Nat} (h:i<n):qL e j n i<=n:=by
 unfold qL;split;exact(oD e j n (i+1)).2.1 (by omega);omega
def vl (i:Nat):aA YR:=if i<n then⟨(i:Int),((qL e j n i-i:Nat):Int)⟩::vl (qL e j n i)else[]
termination_by n-i
decreasing_by have:=zA e j n i;omega
def vD:Nat->aA YR->Nat->Prop
 |a,[],b=>a=b
 |a,r::L,b=>r.First=(a:Int)/\1<=r.Count/\vD (a+r.Count.toNat) L b
theorem Ou (i:Nat) (h:i<=n):vD i (vl e j n i) n:=by
 rw[vl];split;rename_i hi;have h1:=zA e j n i;have h2:=Lt e j n hi;refine⟨rfl,by dsimp only;omega,?_⟩;dsimp only;rw[show i+((qL e j n i-i:Nat):Int).toNat=qL e j n i by omega];exact Ou _ h2;show i=n;omega
termination_by n-i
decreasing_by omega
end
theorem kH:∀{a b:Nat} {L:aA YR},vD a L b->a+L.length<=b
 |a,b,[],h=>by have h:a=b:=h;simp;omega
 |a,b,r::L,h=>by
  obtain⟨h1,h2,c⟩:=h
  have:=kH c
  rw[rB2];omega
theorem lX:∀{a b:Nat} {L:aA YR},vD a L b->∀r∈L,(a:Int)<=r.First/\1<=r.Count/\r.First+r.Count<=(b:Int)
 |a,b,[],h,r,hr=>(sU2 hr).elim
 |a,b,x::L,h,r,hr=>by
  obtain⟨h1,h2,c⟩:=h
  have hl:=kH c
  rcases qI2.1 hr with rfl|hr
  omega
  have:=lX c r hr;omega
theorem Io:∀{a b:Nat} {L1 L2:aA YR},vD a (L1++L2) b->∃m,vD a L1 m/\vD m L2 b
 |a,b,[],L2,h=>⟨a,rfl,h⟩
 |a,b,r::L1,L2,h=>by
  obtain⟨h1,h2,c⟩:=h
  obtain⟨m,d,e⟩:=Io (L1:=L1) c
  exact⟨m,⟨h1,h2,d⟩,e⟩
theorem zB:∀{a b:Nat} {L:aA YR},vD a L b->∀x:Int,(a:Int)<=x->x<(b:Int)->∃r∈L,r.First<=x/\x<r.First+r.Count
 |a,b,[],h,x,h0,h1=>by have h:a=b:=h;omega
 |a,b,r::L,h,x,h0,h1=>by
  obtain⟨f,g,e⟩:=h
  by_cases d:x<r.First+r.Count
  exact⟨r,by simp,by omega,d⟩
  obtain⟨q,c,h2⟩:=zB e x (by omega) h1
  exact⟨q,by simp[c],h2⟩
theorem Rz {a b:Nat} {L1 L2:aA YR} {r:YR} (h:vD a (L1++r::L2) b) {q:YR} (c:q∈L1++r::L2) {x:Int} (h1:r.First<=x) (h2:x<r.First+r.Count) (f:q.First<=x) (g:x<q.First+q.Count):q=r:=by
 obtain⟨m,d,i,j,e⟩:=Io h;rcases rF2.1 c with c|c;have:=lX d q c;omega;rcases qI2.1 c with rfl|c;rfl;have:=lX e q c;omega
theorem Bw:∀{a b:Nat} {L:aA YR},vD a L b->L.Pairwise (fun p q=>p.First+p.Count<=q.First)
 |a,b,[],h=>.nil
 |a,b,r::L,h=>by
  obtain⟨h1,h2,c⟩:=h
  refine .cons (fun q d=>?_) (Bw c)
  have:=lX c q d;omega
def Ov (l:aA YR):aA YR:=l.filter fun r=>decide (2<=r.Count)
section
variable (s:Y0)
def eN (i:Nat):Bool:=vC s (i:Int)
def jN (i:Nat):Bool:=Ez s (i:Int)
def V:aA YR:=vl (eN s) (jN s) s.Measures.length 0
end
variable {s:Y0}
theorem oE:vD 0 (V s) s.Measures.length:=Ou _ _ _ 0 (qJ2 _)
theorem iI1 {i:Nat} (h:eN s i=true):i<s.Measures.length:=by
 unfold eN vC at h;split at h;rename_i m a;have:=cD a;omega;cases h
theorem Sa (hs:s.sm):Ok (fL1 [] s) (fun v=>v=Ov (V s)):=by
 have w:=hs.Measures;unfold fL1;refine Ob (nL1 hs) fun E p=>?_;refine Ob (P:=fun v=>v=Ov (V s)) (cT (fun q=>∃k:Nat,q.1=(k:Int)/\k<=s.Measures.length/\q.2.length<=k/\q.2++Ov (vl (eN s) (jN s) s.Measures.length k)=Ov (V s)) (fun q=>s.Measures.length-q.1.toNat) (fun q j=>?_) bC (0,[]) ⟨0,rfl,qJ2 _,qJ2 _,rfl⟩ (by simp only[bC];omega)) fun v hv=>.mk hv;obtain⟨i,l⟩:=q;obtain⟨k,rfl,hk,hlen,e⟩:=j;dsimp only at hlen e ⊢;refine Oi (fun hc=>?_) (fun hc=>?_)
 case refine_2=>
  refine .mk ?_;simp only[pU2]at hc;rw[vl,pT2 (by omega)]at e;simpa[Ov]using e
 simp only[pU2]at hc;have hk:k<s.Measures.length:=by omega
 rw[vl,pW2 hk]at e;have u:=zA (eN s) (jN s) s.Measures.length k;have g2:=Lt (eN s) (jN s) s.Measures.length hk
 refine Ob (P:=fun q=>if eN s k then q=(((qL (eN s) (jN s) s.Measures.length k:Nat):Int),((qL (eN s) (jN s) s.Measures.length k-k:Nat):Int))else q=((k:Int),0))
  (cT (fun q=>∃t:Nat,q=((t:Int),((t-k:Nat):Int))/\t<=s.Measures.length/\(t=k\/(k<t/\eN s k=true/\Ot (eN s) (jN s) s.Measures.length (k+1)=Ot (eN s) (jN s) s.Measures.length t))) (fun q=>s.Measures.length-q.1.toNat) (fun q j=>?_) bC ((k:Int),0) ⟨k,by simp,by omega,.inl rfl⟩ (by simp only[bC];omega)) fun⟨x,c⟩ f=>?_
 .obtain ⟨t,rfl,z,d⟩:=j
  dsimp only;refine Ob (P:=fun b=>b=(decide (t<s.Measures.length)&&eN s t)) (Oi (fun hd=>?_) (fun hd=>.mk ?_)) fun b hb=>?_
  .simp only[pU2]at hd
   obtain⟨m,g⟩:=Ey (l:=s.Measures) (i:=(t:Int)) (by omega);rw[g,pS2,nO1 p (hs.MeasuresE m (cD g).2.2.1)];refine .mk ?_;rw[qP2 (by omega:t<s.Measures.length)];unfold eN vC;rw[g];rfl
  .simp only[pU2]at hd
   rw[qW2 (by omega:¬t<s.Measures.length)];rfl
  subst hb;refine Ob (P:=fun b=>b=((decide (t<s.Measures.length)&&eN s t)&&(decide (t=k)||jN s t))) (Oi (fun hd=>?_) (fun hd=>.mk ?_)) fun b hb=>?_
  .simp only[pN2,pU2]at hd
   rw[qP2 hd.1,hd.2];refine Ob (P:=fun b=>b=(decide (t=k)||jN s t)) (Oi (fun h0=>.mk ?_) (fun h0=>?_)) fun b hb=>.mk (by rw[hb];rfl)
   .simp only[rM2]at h0
    rw[qP2 (by omega:t=k)];rfl
   .simp only[rM2]at h0
    rw[nP1 hs (by omega) (by omega)];refine .mk ?_;rw[qW2 (by omega:¬t=k)];rfl
  .simp only[tA2]at hd
   rw[hd];rfl
  subst hb;refine Oi (fun hd=>?_) (fun hd=>?_)
  .simp only[pN2,qC2,pU2]at hd
   rw[bA (n:=(t:Int)+1) (by omega) (by omega),bA (by omega) (by omega)];refine .mk ⟨⟨t+1,by rw[show((t+1-k:Nat):Int)=((t-k:Nat):Int)+1 by omega];rfl,by omega,.inr ⟨by omega,?_,?_⟩⟩,by dsimp only;omega⟩
   .rcases d with h|h
    .rw [<-h];exact hd.1.2
    .exact h.2.1
   .rcases d with h|h
    .rw [h]
    .rw [h.2.2]
     conv=>lhs;rw[Ot]
     rw[pW2 ⟨hd.1.1,by rw[hd.1.2];rcases hd.2 with h2|h2;omega;exact h2⟩]
  .refine .mk ?_
   dsimp only;by_cases a:eN s k=true
   .rw [pW2 a]
    have r:k<t:=by
     rcases d with h|h
     .exfalso;apply hd;subst h;rw[a,qP2 hk];simp
     .exact h.1
    have o:qL (eN s) (jN s) s.Measures.length k=t:=by
     unfold qL;rw[pW2 a];rcases d with h|h
     .omega
     rw[h.2.2,Ot,pT2];rintro⟨q1,q2⟩;apply hd;simp only[pN2]at q2;rw[qP2 q1,q2.1,q2.2];simp
    rw[o]
   .rw [pT2 a]
    rcases d with h|h
    .subst h;simp
    .exact absurd h.2.1 a
 .dsimp only
  have key:(if eN s k then(((qL (eN s) (jN s) s.Measures.length k:Nat):Int),((qL (eN s) (jN s) s.Measures.length k-k:Nat):Int))else((k:Int),0))=(x,c):=by
   by_cases a:eN s k=true
   .rw [pW2 a]at f ⊢;exact f.symm
   .rw [pT2 a]at f ⊢;exact f.symm
  clear f;refine Oi (fun hd=>?_) (fun hd=>?_)
  .simp only[pU2]at hd
   have a:eN s k=true:=by
    by_cases a:eN s k=true
    .exact a
    .rw [pT2 a]at key;cases key;omega
   rw[pW2 a]at key;cases key;unfold Ll;refine Ob (P:=fun v=>v=l++[⟨(k:Int),((qL (eN s) (jN s) s.Measures.length k-k:Nat):Int)⟩]) (Ob (cW (Q:=fun v=>v=l++[⟨(k:Int),((qL (eN s) (jN s) s.Measures.length k-k:Nat):Int)⟩]) (by omega) rfl) fun v hv=>.mk hv) fun v hv=>?_;refine Ob (P:=fun v=>v=((qL (eN s) (jN s) s.Measures.length k:Nat):Int)) (Oi (fun h0=>absurd h0 (by simp;omega)) (fun _=>.mk rfl)) fun y hy=>?_;subst hv;subst hy;refine .mk ⟨⟨qL (eN s) (jN s) s.Measures.length k,rfl,g2,by rw[rJ2];simp;omega,?_⟩,by dsimp only;omega⟩;rw[<-e];dsimp only;unfold Ov;rw[List.filter_cons_of_pos (by simpa using hd),List.append_assoc];rfl
  .simp only[pU2]at hd
   have e2:qL (eN s) (jN s) s.Measures.length k=k+1:=by
    by_cases a:eN s k=true
    .rw [pW2 a]at key;cases key;omega
    .unfold qL;rw[pT2 a]
   refine Ob (P:=fun v=>v=((k+1:Nat):Int)) (Oi (fun h0=>?_) (fun h0=>?_)) fun y hy=>?_
   .simp only[rM2]at h0
    have:x=(k:Int):=by
     by_cases a:eN s k=true
     .rw [pW2 a]at key;cases key;omega
     .rw [pT2 a]at key;cases key;rfl
    rw[this,bA (by omega) (by omega)];exact .mk (by omega)
   .simp only[rM2]at h0
    have:x=((k+1:Nat):Int):=by
     by_cases a:eN s k=true
     .rw [pW2 a,e2]at key;cases key;rfl
     .rw [pT2 a]at key;cases key;omega
    exact .mk this
   subst hy;refine .mk ⟨⟨k+1,rfl,by omega,by dsimp only;omega,?_⟩,by dsimp only;omega⟩;rw[<-e,e2];unfold Ov;rw[List.filter_cons_of_neg (by simp)]
theorem Sb (hs:s.sm):fM1 s=some (Ov (V s)):=by
 unfold fM1 kW1;rw[(Sa hs).eq];rfl
end Go.P
namespace Go.P
variable {s:Y0}
def FD (l:aA YR) (x:Int) (v:YR×Bool):Prop:=
 (v.2=true/\v.1∈l/\v.1.First<=x/\x<v.1.First+v.1.Count)\/(v=(⟨0,0⟩,false)/\∀r∈l,¬(r.First<=x/\x<r.First+r.Count))
def Ym (l:aA YR):Prop:=l.length<=12/\∀r∈l,0<=r.First/\1<=r.Count/\r.First+r.Count<=12
theorem Lu {r:YR} {x:Int} (h:0<=r.First/\1<=r.Count/\r.First+r.Count<=12) (h0:0<=x) (h1:x<=12):Xk r x=some (decide (r.First<=x/\x<r.First+r.Count)):=by
 unfold Xk;rw[bA (by omega) (by omega)];by_cases a:r.First<=x<;>by_cases e2:x<r.First+r.Count;rw[qP2 (by omega:x>=r.First),qP2 (by omega:x-r.First<r.Count),qP2 ⟨a,e2⟩];rfl;rw[qP2 (by omega:x>=r.First),qW2 (by omega:¬x-r.First<r.Count),qW2 (by omega)];rfl;rw[qW2 (by omega:¬x>=r.First),qW2 (by omega:¬(r.First<=x/\x<r.First+r.Count))];rfl;rw[qW2 (by omega:¬x>=r.First),qW2 (by omega:¬(r.First<=x/\x<r.First+r.Count))];rfl
theorem nQ1 {l:aA YR} {x:Int} (hl:Ym l) (h0:0<=x) (h1:x<=12):Ok (F46 l x) (FD l x):=by
 unfold F46;have hlen:=hl.1;have e:kX1 l x=fR1 l (fun r=>Xk r x):=rfl;rw[e];refine Ob (El (l:=l) (by omega) (fun r hr=>⟨_,Lu (hl.2 r hr) h0 h1⟩)) fun v hv=>?_;rcases hv with⟨rfl,h⟩|⟨h2,h3,r,hr,hp⟩
 refine Oi (fun _=>.mk (.inr ⟨rfl,fun r hr=>?_⟩)) (fun hc=>absurd (by decide) hc);have:=h r hr;rw[Lu (hl.2 r hr) h0 h1]at this;simpa using this;refine Oi (fun hc=>by simp at hc;omega) (fun _=>?_);refine Ob (bR (Q:=fun q=>q=r) h2 h3 (fun q _ a=>by rw[hr]at a;cases a;rfl)) fun q a=>?_;subst a;have b:=pZ2 hr;rw[Lu (hl.2 q b) h0 h1]at hp;exact .mk (.inl ⟨rfl,b,by simpa using hp⟩)
theorem okV (hs:s.sm):Ym (Ov (V s)):=by
 have h:=oE (s:=s);have h1:=kH h;have a:=hs.Measures;refine⟨qT2 (List.length_filter_le _ _) (by unfold V at h1 ⊢;omega),fun r hr=>?_⟩;have:=lX h r (List.mem_filter.1 hr).1;omega
theorem xB1 {L1 L2:aA YR} {r:YR} {x:Int} {v:YR×Bool} (f:V s=L1++r::L2) (h1:r.First<=x) (h2:x<r.First+r.Count) (hv:FD (Ov (V s)) x v):if 2<=r.Count then v=(r,true)else v=(⟨0,0⟩,false):=by
 have g:=oE (s:=s);rw[f]at g;rcases hv with⟨a,b,c,d⟩|⟨a,b⟩
 have hb:=List.mem_filter.1 b;rw[f]at hb;have:=Rz g hb.1 h1 h2 c d;have e:=hb.2;rw[this]at e;rw[pW2 (by simpa using e)];obtain⟨v1,v2⟩:=v;dsimp only at a this;rw[a,this];split;rename_i e;exact absurd ⟨h1,h2⟩ (b r (List.mem_filter.2 ⟨by rw[f];simp,by simpa using e⟩));exact a
theorem nR1 (hs:s.sm):F18 s=some ((V s).map (·.First),(V s).map (·.Count)):=by
 have l:=hs.Measures;unfold F18;rw[Sb hs];refine Ok.eq (Ob (P:=fun _=>True) (.mk trivial) fun _ _=>?_);rw[pS2];refine Ob (P:=fun v=>v=((V s).map (·.Count),(V s).map (·.First))) (cT (fun q=>∃(m:Nat) (L1 L2:aA YR),V s=L1++L2/\q=((m:Int),L1.map (·.Count),L1.map (·.First))/\vD m L2 s.Measures.length) (fun q=>s.Measures.length-q.1.toNat) (fun q j=>?_) bC (0,[],[]) ⟨0,[],V s,rfl,rfl,oE⟩ (by simp only[bC];omega)) fun⟨a,b⟩ hv=>by cases hv;exact .mk rfl
 obtain⟨m,L1,L2,d,rfl,e⟩:=j;dsimp only
 have hlen:L1.length<=12:=by
  have:=kH (oE (s:=s));rw[d,rJ2]at this;omega
 refine Oi (fun hc=>?_) (fun hc=>?_)<;>simp only[pU2]at hc;cases L2 with
 |nil=>have e:m=s.Measures.length:=e;omega
 |cons h L2=>
  obtain⟨g,k,f⟩:=e;have hl:=kH f;refine Ob (nQ1 (okV hs) (by omega) (by omega)) fun⟨v1,v2⟩ hv=>?_;have hv:=xB1 d (by omega) (by omega) hv;refine Ob (P:=fun c=>c=h.Count) (Oi (fun hd=>.mk ?_) (fun hd=>.mk ?_)) fun c hc=>?_;split at hv;cases hv;rfl;cases hv;cases hd;split at hv;cases hv;exact absurd rfl hd;omega;subst hc;refine Ob (cW (Q:=fun v=>v=L1.map (·.First)++[(m:Int)]) (by rw[sG2];omega) rfl) fun a i=>?_;refine Ob (cW (Q:=fun v=>v=L1.map (·.Count)++[h.Count]) (by rw[sG2];omega) rfl) fun b hb=>?_;subst i;subst hb;rw[bA (by omega) (by omega)];refine .mk ⟨⟨m+h.Count.toNat,L1++[h],L2,by rw[d];simp,?_,f⟩,by dsimp only;omega⟩;rw[sQ2,sQ2,show((m+h.Count.toNat:Nat):Int)=(m:Int)+h.Count by omega,<-g];rfl
 cases L2 with
 |nil=>rw[d,sP2];exact .mk rfl
 |cons h L2=>
  obtain⟨g,k,f⟩:=e;have hl:=kH f;omega
theorem iQ2 (hs:s.sm):(V s).length<=12:=by
 have:=kH (oE (s:=s));have:=hs.Measures;omega
end Go.P
namespace Go.P
variable {s:Y0}
section
variable (e j:Nat->Bool) (n:Nat)
def nS1 (i:Nat):Prop:=¬(1<=i/\e (i-1)=true/\e i=true/\j i=true)
theorem Yn (he:∀i,e i=true->i<n) (i:Nat):nS1 e j (qL e j n i):=by
 unfold qL;split;rename_i h;have:=(oD e j n (i+1)).2.2.2;rintro⟨h1,h2,a,b⟩;exact this ⟨he _ a,by rw[a,b];rfl⟩;rename_i h;rintro⟨h1,h2,a,b⟩;rw[show i+1-1=i by omega]at h2;exact h h2
theorem Ip (he:∀i,e i=true->i<n) (i:Nat) (h:nS1 e j i):∀r∈vl e j n i,∃k:Nat,r=⟨(k:Int),((qL e j n k-k:Nat):Int)⟩/\k<n/\nS1 e j k:=by
 intro r hr;rw[vl]at hr;split at hr;rename_i hi;have h1:=zA e j n i;rcases qI2.1 hr with rfl|hr;exact⟨i,rfl,hi,h⟩;exact Ip he _ (Yn e j n he i) r hr;exact(sU2 hr).elim
termination_by n-i
decreasing_by omega
end
theorem Sc (hs:s.sm) {r:YR} (hr:r∈Ov (V s)):∃k t:Nat,r=⟨(k:Int),((t-k:Nat):Int)⟩/\k+2<=t/\t<=s.Measures.length/\(∀x:Nat,k<=x->x<t->vC s (x:Int)=true)/\(∀x:Nat,k<x->x<t->Ez s (x:Int)=true)/\(vC s ((k:Int)-1)&&Ez s (k:Int))=false/\(vC s (t:Int)&&Ez s (t:Int))=false:=by
 obtain⟨h1,h2⟩:=List.mem_filter.1 hr;obtain⟨k,rfl,hk,hg⟩:=Ip (eN s) (jN s) s.Measures.length (fun i h=>iI1 h) 0 (by rintro⟨h,_⟩;omega) r h1;simp only[pU2]at h2;have e:=zA (eN s) (jN s) s.Measures.length k;have g2:=Lt (eN s) (jN s) s.Measures.length hk
 have a:eN s k=true:=by
  by_cases a:eN s k=true;exact a;have:qL (eN s) (jN s) s.Measures.length k=k+1:=by unfold qL;rw[pT2 a]
  omega
 have c:qL (eN s) (jN s) s.Measures.length k=Ot (eN s) (jN s) s.Measures.length (k+1):=by unfold qL;rw[pW2 a]
 have sp:=oD (eN s) (jN s) s.Measures.length (k+1);rw[<-c]at sp;refine⟨k,qL (eN s) (jN s) s.Measures.length k,rfl,by omega,g2,fun x x1 b=>?_,fun x x1 b=>(sp.2.2.1 x (by omega) b).2,?_,?_⟩;by_cases d:x=k;rw[d];exact a;exact(sp.2.2.1 x (by omega) b).1;cases h3:(vC s ((k:Int)-1)&&Ez s (k:Int))with
 |false=>rfl
 |true=>
  simp only[pN2]at h3;by_cases h0:1<=k;exact(hg ⟨h0,by unfold eN;rw[show((k-1:Nat):Int)=(k:Int)-1 by omega];exact h3.1,a,h3.2⟩).elim;have:vC s ((k:Int)-1)=false:=by unfold vC;rw[Bv (by omega)]
  rw[this]at h3;cases h3.1
 cases h3:(vC s ((qL (eN s) (jN s) s.Measures.length k:Nat):Int)&&Ez s ((qL (eN s) (jN s) s.Measures.length k:Nat):Int))with
 |false=>rfl
 |true=>
  simp only[pN2]at h3;exact(sp.2.2.2 ⟨iI1 (s:=s) h3.1,by show(vC s _&&Ez s _)=true;rw[h3.1,h3.2];rfl⟩).elim
end Go.P
set_option maxHeartbeats 2000000
namespace Go.P
variable {s:Y0}
def EvA (s:Y0) (m c v e:Int) (id:YZ):Prop:=∃x y z ev,aT s.Measures m=some x/\aT x.Cells c=some y/\aT y.Voices v=some z/\aT z.Events e=some ev/\ev.ID=id
theorem xC1 {x1 i j k l m n:Int} {g:YE} {o:Bool} {f:YP} {e:YZ}:Ok (jR x1 i j k l m n g o f e) (fun r=>match r with|.inl _=>g.ID=e|.inr _=>True):=by
 unfold jR;refine Oi (fun h=>.mk ?_) (fun _=>.mk trivial);obtain⟨⟨a,b⟩,_⟩:=g;obtain⟨c,d⟩:=e;simpa using h
theorem R53 {x1:Y0} {Z:Bool} {x3:YP} {m:YZ} (g:x1.sm):Ok (tP x1 Z x3 m) (fun v=>match v with|.inl p=>p.Kind=4->EvA x1 p.Measure p.Staff p.Voice p.Event m|.inr _=>True):=by
 unfold tP;have hP:=g.Parts;have hM:=g.Measures;have U:=g.Spanners;refine Ob (P:=fun r=>match r with|.inl p=>p.1≠4|.inr _=>True) (bD (l:=x1.Parts) (fun q=>q.2) (fun _ _=>True) (by omega) rfl trivial (fun i e q F D hi hl _ hg hw=>?_) (fun q hi _=>?_)) fun r hr=>?_;obtain⟨s,x⟩:=q;dsimp only at hi hl hg hw;simp only[hl,hg,nt];refine Ob (Ol (g.PartsE e D)) fun r _=>?_;rcases r with _|_;exact .mk (show(1:Int)≠4 by decide);have U:=(g.PartsE e D).Staves;refine Ob (P:=fun _=>True) (bD (l:=e.Staves) (fun q=>q.2) (fun _ _=>True) (by omega) rfl trivial (fun i2 e2 q X V G C _ o E=>?_) (fun q hi _=>?_)) fun r _=>?_;obtain⟨s,y⟩:=q;dsimp only at G C o E;simp only[C,o,nt];refine Ob Br fun r _=>?_;rcases r with _|_;exact .mk trivial;exact .mk ⟨E,trivial⟩;obtain⟨s,y⟩:=q;dsimp only at hi;simp only[hi,nf];exact .mk trivial;rcases r with⟨a,b⟩|a;exact .mk (show(2:Int)≠4 by decide);exact .mk ⟨hw,trivial⟩;obtain⟨s,y⟩:=q;dsimp only at hi;simp only[hi,nf];exact .mk trivial;rcases r with⟨k,p,st⟩|_;exact .mk (fun h=>absurd h hr);refine Ob (P:=fun r=>match r with|.inl p=>p.1=4->EvA x1 p.2.2.1 p.2.1 p.2.2.2.1 p.2.2.2.2 m|.inr _=>True) (bD (l:=x1.Measures) (fun q=>q) (fun _ _=>True) (by omega) rfl trivial (fun i e q F D hi hl _ hg hw=>?_) (fun q hi _=>?_)) fun r hr=>?_;simp only[hl,hg,nt];have S:=g.MeasuresE e D;have hC:=S.Cells;refine Ob (Bs S) fun r _=>?_;rcases r with _|_;exact .mk (fun h=>absurd (show(3:Int)=4 from h) (by decide));refine Ob (P:=fun r=>match r with|.inl p=>∃c v ev,aT e.Cells p.1=some c/\aT c.Voices p.2.1=some v/\aT v.Events p.2.2=some ev/\ev.ID=m|.inr _=>True) (bD (l:=e.Cells) (fun q=>q) (fun _ _=>True) (by omega) rfl trivial (fun j c w F K hj hlc _ z N=>?_) (fun q hi _=>?_)) fun r hr=>?_;simp only[hlc,z,nt];have T:=S.CellsE c K;have hV:=T.Voices;refine Ob (P:=fun r=>match r with|.inl p=>∃v ev,aT c.Voices p.1=some v/\aT v.Events p.2=some ev/\ev.ID=m|.inr _=>True) (bD (l:=c.Voices) (fun q=>q) (fun _ _=>True) (by omega) rfl trivial (fun k v u F L hk J _ B R=>?_) (fun q hi _=>?_)) fun r hr=>?_;simp only[J,B,nt];have Y:=T.VoicesE v L;have hE:=Y.Events;refine Ob (P:=fun r=>match r with|.inl x=>∃ev,aT v.Events x=some ev/\ev.ID=m|.inr _=>True) (bD (l:=v.Events) (fun q=>q) (fun _ _=>True) (by omega) rfl trivial (fun n ev t F W ht H _ A O=>?_) (fun q hi _=>?_)) fun r hr=>?_;simp only[H,A,nt];refine Ob xC1 fun r M=>?_;rcases r with _|_;exact .mk ⟨ev,A,M⟩;exact .mk ⟨O,trivial⟩;simp only[hi,nf];exact .mk trivial;rcases r with x|_;exact .mk (hr.elim fun ev h=>⟨v,ev,B,h⟩);exact .mk ⟨R,trivial⟩;simp only[hi,nf];exact .mk trivial;rcases r with⟨a,b⟩|_;exact .mk (hr.elim fun v h=>h.elim fun ev h=>⟨c,v,ev,z,h⟩);exact .mk ⟨N,trivial⟩;simp only[hi,nf];exact .mk trivial;rcases r with⟨a,b,c⟩|_;exact .mk (fun _=>hr.elim fun c h=>h.elim fun v h=>h.elim fun ev h=>⟨e,c,v,ev,hg,h⟩);exact .mk ⟨hw,trivial⟩;simp only[hi,nf];exact .mk trivial;rcases r with⟨a,b,c,d,f⟩|_;exact .mk hr;refine Ob (P:=fun _=>True) (bD (l:=x1.Spanners) (fun q=>q) (fun _ _=>True) (by omega) rfl trivial (fun i e q F D hi hl _ hg hw=>?_) (fun q hi _=>?_)) fun r hr=>?_;simp only[hl,hg,nt];refine Ob Bt fun r _=>?_;rcases r with _|_;exact .mk trivial;exact .mk ⟨hw,trivial⟩;simp only[hi,nf];exact .mk trivial;rcases r with x|_;exact .mk (fun h=>absurd (show(5:Int)=4 from h) (by decide));exact .mk trivial
theorem iS2 {id:YZ} (hs:s.sm):Ok (Yu s id) (fun v=>v.2=true->v.1.Kind=4->EvA s v.1.Measure v.1.Staff v.1.Voice v.1.Event id):=by
 unfold Yu;refine Oi (fun _=>.mk (fun h=>by cases h)) (fun _=>?_);refine Ob (Xz hs) fun _ _=>?_;refine Ob (R53 hs) fun r hr=>?_;rcases r with p|_;exact .mk (fun _=>hr);exact .mk (fun h=>by cases h)
def PlE (s:Y0) (id:YZ):Prop:=∃p,Yu s id=some (p,true)/\p.Kind=4
theorem iJ1 {c:YK} {id:YZ} {pl:YQ} (h:Lb c id=some (pl,true)):PlE c.s' id:=by
 unfold Lb at h;obtain⟨⟨p,b⟩,h1,h⟩:=eB h;dsimp only at h;split at h;cases h;rename_i hc;simp only[qC2,qH2,bne_iff_ne,ne_eq,sI2,Bool.not_eq_false,Decidable.not_not]at hc;obtain⟨rfl,hk⟩:=hc;exact⟨p,h1,hk⟩
def SpA (s:Y0):Prop:=∀x∈s.Spanners,PlE s x.From/\PlE s x.To
theorem E92 {x1:aA YV} {g:Int} (hs:s.sm):Ok (Le x1 s g) (fun v=>v.1.length=s.Spanners.length/\∀(j:Nat) x,s.Spanners[j]? =some x->v.1[j]? =some false->PlE s x.From/\PlE s x.To):=by
 unfold Le;have u:=hs.Spanners;refine Ob (P:=fun v=>v.1.length=s.Spanners.length/\∀(j:Nat) x,s.Spanners[j]? =some x->v.1[j]? =some false->PlE s x.From/\PlE s x.To) (bD (l:=s.Spanners) (fun q=>q.1) (fun i q=>q.2.1.length=i/\q.2.2.length=i/\∀(j:Nat) x,j<i->s.Spanners[j]? =some x->q.2.1[j]? =some false->PlE s x.From/\PlE s x.To) (by omega) rfl ⟨rfl,rfl,fun j _ d=>by omega⟩ (fun i e q p w hi hl c hg hw=>?_) (fun q hi c=>?_)) fun⟨a,b⟩ hv=>.mk hv;obtain⟨x,k,m⟩:=q;dsimp only at hi hl c hg hw;simp only[hl,hg,nt];refine Ok.bindE (fU1 (x1:=YK.mk s g x1) hs) fun⟨p1,n⟩ r _=>?_;refine Ok.bindE (fU1 (x1:=YK.mk s g x1) hs) fun⟨p2,o⟩ t _=>?_;refine Ob (cW (Q:=fun v=>v.length=m.length+1) (by omega) (by simp)) fun z h1=>?_;refine Ob (P:=fun b=>b=false->n=true/\o=true) (Oi (fun _=>.mk (fun h=>by cases h)) (fun hc=>Ob wQ1 fun _ _=>.mk (fun _=>by simpa using hc))) fun b hb=>?_;refine Ob (cW (Q:=fun v=>v=k++[b]) (by omega) rfl) fun A h2=>.mk ⟨hw,by dsimp only;rw[h2];simp[c.1],by dsimp only;omega,fun j y d hy hf=>?_⟩;dsimp only at hf;rw[h2]at hf;by_cases f:j=i;subst f;rw[sN2 (by omega),c.1]at hf;simp at hf;rw[p]at hy;cases hy;obtain⟨rfl,rfl⟩:=hb hf;exact⟨iJ1 r,iJ1 t⟩;rw[rV2 (by omega)]at hf;exact c.2.2 j y (by omega) hy hf;obtain⟨x,k,m⟩:=q;dsimp only at hi c;simp only[hi,nf];exact .mk ⟨c.1,fun j x d hf=>c.2.2 j x (pO2.1 d).1 d hf⟩
theorem E40 {l:aA YV} {r:Int} (h:l.length+10<=1000000) (hs:s.sm):Ok (Rn l s r) (fun v=>v.length<=l.length->SpA s):=by
 unfold Rn;have w:=hs.Spanners;refine Ob (E92 hs) fun⟨a,b⟩ d=>?_;dsimp only at d;refine Ob (P:=fun v=>v.length<=l.length->∀j,j<s.Spanners.length->a[j]? =some false) (bD (l:=s.Spanners) (fun q=>q.1) (fun i q=>l.length<=q.2.length/\q.2.length<=l.length+i/\(q.2.length<=l.length->∀j,j<i->a[j]? =some false)) (by omega) rfl ⟨pQ2 _,pQ2 _,fun _ j f=>by omega⟩ (fun i e q o z hi hl c hg hw=>?_) (fun q hi c=>?_)) fun v hv=>.mk (fun n x o=>?_);obtain⟨k,v⟩:=q;dsimp only at hi hl c hg hw;simp only[hl,hg,nt];refine Ob (eT (by omega) (by omega)) fun j f=>?_;refine Ob (gO f.2) fun y hy=>?_;have m:j=i:=by omega
 refine Ob (Xt (by omega)) fun u g=>.mk ⟨hw,?_,?_,fun h p t=>?_⟩;dsimp only;cases y<;>simp at g<;>omega;dsimp only;cases y<;>simp at g<;>omega;dsimp only at h;cases y with
 |true=>simp at g;omega
 |false=>
  simp only[qA2,false_implies,true_and,forall_const]at g;by_cases he:p=i;rw[he,<-m];exact hy.1;exact c.2.2 (by omega) p (by omega)
 obtain⟨k,v⟩:=q;dsimp only at hi c;simp only[hi,nf];exact .mk c.2.2;obtain⟨j,f⟩:=qG2.1 o;exact d.2 j x f (hv n j (pO2.1 f).1)
theorem iU2 (hs:s.sm) (r:0<s.Measures.length) {v:aA YV} (h:F17 s=some v) (h0:v.length=0):SpA s:=by
 unfold F17 at h;have h:=oW h h0;obtain⟨x1,j,h⟩:=eB h;have K:=(lL1 (by decide) hs).of j;have h:=oW h h0;obtain⟨T,e2,h⟩:=eB h;have L:=(lN1 (by simp only[nl]at *;omega) hs).of e2;have h:=oW h h0;obtain⟨U,k,h⟩:=eB h;have M:=(lO1 (by simp only[nl]at *;omega) hs).of k;have h:=oW h h0;obtain⟨V,l,h⟩:=eB h;have N:=(lR1 (by simp only[nl]at *;omega) hs).of l;have h:=oW h h0;obtain⟨W,m,h⟩:=eB h;have O:=(lT1 (by simp only[nl]at *;omega) hs).of m;have h:=oW h h0;obtain⟨X,n,h⟩:=eB h;have P:=(lW1 (by simp only[nl]at *;omega) hs).of n;have h:=oW h h0;obtain⟨Y,o,h⟩:=eB h;have R:=(mG1 (by simp only[nl]at *;omega) hs).of o;have h:=oW h h0;obtain⟨Z,p,h⟩:=eB h;have i8:=(mH1 (by simp only[nl]at *;omega) hs).of p;have h:=oW h h0;obtain⟨x9,q,h⟩:=eB h;have S:=(mJ1 (by simp only[nl]at *;omega) hs).of q;have h:=oW h h0;obtain⟨B,b,h⟩:=eB h;have t:=(mN1 (by simp only[nl]at *;omega) hs).of b;have h:=oW h h0;obtain⟨C,c,h⟩:=eB h;have u:=(mP1 (by simp only[nl]at *;omega) hs).of c;have h:=oW h h0;obtain⟨D,a,h⟩:=eB h;have w:=(mR1 (by simp only[nl]at *;omega) hs).of a;have h:=oW h h0;obtain⟨E,d,h⟩:=eB h;have x:=(mV1 (by simp only[nl]at *;omega) hs).of d;have h:=oW h h0;obtain⟨F,e,h⟩:=eB h;have y:=(mX1 (by simp only[nl]at *;omega) hs r).of e;have h:=oW h h0;obtain⟨G,f,h⟩:=eB h;have z:=(nC1 (by simp only[nl]at *;omega) hs).of f;have h:=oW h h0;obtain⟨H,g,h⟩:=eB h;have i16:=(nE1 (by simp only[nl]at *;omega) hs).of g;have h:=oW h h0;obtain⟨J,i,h⟩:=eB h;have A:=(nG1 (by simp only[nl]at *;omega) hs).of i;cases h;exact(E40 (by simp only[nl]at *;omega) hs).of a (by omega)
theorem spV (hs:s.sm) (hv:F7 s=some true) (a:0<s.Measures.length):SpA s:=by
 unfold F7 at hv;obtain⟨v,h,hv⟩:=eB hv;exact iU2 hs a h (by simp at hv;simp[hv])
end Go.P
set_option maxHeartbeats 1000000
namespace Go.P
variable {s:Y0}
theorem gI1 {m:YM} (h:Ry s m=true):∀c∈m.Cells,∀v∈c.Voices,∀e∈v.Events,e.Heads=[]/\pI s e.ID=false:=by
 unfold Ry at h;simp only[pN2,qH2,List.any_eq_false]at h;intro c hc v hv e he;have h2:∀v∈c.Voices,¬(v.Events.any (kW s))=true:=fun v hv b=>h.2.2 c hc (List.any_eq_true.2 ⟨v,hv,b⟩);have a:¬kW s e=true:=fun b=>h2 v hv (List.any_eq_true.2 ⟨e,he,b⟩);unfold kW at a;simp at a;exact⟨a.1.1.1,a.2⟩
theorem nT1 (hs:s.sm) {i:Nat} (hi:i<s.Measures.length) (h:∀r∈V s,r.First≠(i:Int)):∃m,s.Measures[i]? =some m/\Ry s m=true:=by
 obtain⟨r,hr,h1,h2⟩:=zB (oE (s:=s)) (i:Int) (by omega) (by omega);have a:=h r hr;have b:r∈Ov (V s):=List.mem_filter.2 ⟨hr,by simp;omega⟩;obtain⟨k,t,rfl,d,e,c,_⟩:=Sc hs b;dsimp only at h1 h2 a;have he:=c i (by omega) (by omega);refine⟨s.Measures[i],qN2 hi,?_⟩;unfold vC aT at he;rw[pW2 (by omega),Int.toNat_natCast,qN2 hi]at he;exact he
theorem iV2 (hb:s.b):F3 s=some true:=by
 unfold F3;simp only[pS2,sW2,qA2,qX2];obtain⟨r,hr,b4⟩:=U13 hb;rw[hr];cases r with
 |false=>rfl
 |true=>
 have hs:=b4 rfl;have hM:=hs.Measures;have b7:=hs.Spanners;obtain⟨v,hv,_⟩:=T7 hs;simp only[pS2,sW2,qA2,qX2];rw[hv];cases v with
 |false=>rfl
 |true=>
 have hg:=wU1 hs hv
 have h8:F8 s=some ((V s).map (·.First),0):=by
  unfold F8;rw[hv];simp only[pS2];rw[pT2 (by decide),nR1 hs];rfl
 have S:F10 s=some ((List.range (s.Measures.length+1)).map (lW s)):=by rw[<-nJ1 hg,Yl hs hg]
 obtain⟨⟨all,z⟩,h9,rfl,ha,U⟩:=F9h hs hv hg;dsimp only at ha U
 have N:∀j:Nat,j<=s.Measures.length->aT ((List.range (s.Measures.length+1)).map (lW s)) (j:Int)=some (lW s j):=fun j hj=>by
  unfold aT;rw[pW2 (by omega),Int.toNat_natCast,qU2,rW2 (by omega)];rfl
 have b8:=iQ2 hs;have A:=Bw (oE (s:=s));have t:=lX (oE (s:=s));simp only[pS2,sW2,qA2,qX2];rw[h8,h9,S];simp only[pS2];refine sI (a:=.inr ((V s).length:Int)) (Ok.eq (bD (l:=s.Measures) (fun q=>q.2) (fun i q=>∃L1 L2,V s=L1++L2/\q.1=(L1.length:Int)/\(∀r∈L1,r.First<(i:Int))/\∀r∈L2,(i:Int)<=r.First) (by omega) rfl ⟨[],V s,rfl,rfl,fun r hr=>(by cases hr),fun r hr=>(t r hr).1⟩ (fun i m q hx hm hi C G J hw=>?_) (fun q hi G=>?_))) (by simp);obtain⟨k,i2⟩:=q;dsimp only at hi C G J hw;obtain⟨L1,L2,u,e2,O,R⟩:=G;have X:=(pO2.1 hx).1;have hlen:(V s).length=L1.length+L2.length:=by rw[u,rJ2]
 subst e2;rw[hi]at C J hw ⊢;simp only[C,nt];refine Ob (P:=fun b=>b=true↔∃r L3,L2=r::L3/\r.First=(i:Int)) (Oi (fun hc=>?_) (fun hc=>?_)) fun b H=>?_;have hc:(L1.length:Int)<(((V s).map (·.First)).length:Int):=by simpa using hc
 cases L2 with
 |nil=>simp[hlen]at hc
 |cons r L3=>
  have:aT ((V s).map (·.First)) (L1.length:Int)=some r.First:=by
   unfold aT;rw[pW2 (by omega),Int.toNat_natCast,qU2,u,sN2 (pQ2 _)];simp
  rw[this];exact .mk ⟨fun h=>⟨r,L3,rfl,by simpa using h⟩,fun⟨r',L',h1,h2⟩=>by cases h1;simpa using h2⟩
 have hc:¬(L1.length:Int)<(((V s).map (·.First)).length:Int):=by simpa using hc
 refine .mk ⟨fun h=>(by cases h),fun⟨r,L3,h1,_⟩=>?_⟩;rw[h1]at hlen;simp[hlen]at hc;exfalso;omega;cases b with
 |true=>
  obtain⟨r,L3,rfl,d1⟩:=H.1 rfl;rw[pW2 rfl];rw[u]at A;have D:=(List.pairwise_append.1 A).2.1;have E:=(List.pairwise_cons.1 D).1;have b9:=(t r (by rw[u];simp)).2.1;refine .mk ⟨hw,L1++[r],L3,by rw[u];simp,by dsimp only;rw[bA (by omega) (by omega)];simp,fun r' g=>?_,fun r' g=>?_⟩;rcases rF2.1 g with h|h;have:=O r' h;omega;rw[sK2.1 h];omega;have:=E r' g;omega
 |false=>
  rw[pT2 (by decide)]
  have L:∀r∈V s,r.First≠(i:Int):=fun r hr hf=>by
   rw[u]at hr;rcases rF2.1 hr with h|h;have:=O r h;omega;cases L2 with
   |nil=>cases h
   |cons r0 L3=>
    rw[u]at A;have D:=(List.pairwise_append.1 A).2.1;have E:=(List.pairwise_cons.1 D).1;have h0:=R r0 (List.mem_cons_self ..);have b6:=(t r0 (by rw[u];simp)).2.1
    have a0:r0.First=(i:Int):=by
     rcases qI2.1 h with h|h;rw[<-h];exact hf;have:=E r h;omega
    exact absurd (H.2 ⟨r0,L3,rfl,a0⟩) (by decide)
  obtain⟨m',K,Y⟩:=nT1 hs X L;have B:=gI1 Y;have M:sil s i:=⟨m',K,fun c hc v hv e he=>(B c hc v hv e he).1⟩
  have T:=spV hs hv (by omega);refine Ob (P:=fun r=>r=.inr ()) (bD (l:=all) (fun q=>q) (fun _ _=>True) (by omega) rfl trivial (fun j n q b5 f o d _ w y=>?_) (fun q o _=>?_)) fun r hr=>?_;rw[o]at d w y ⊢;have hn:=ha n f i M;simp only[d,w,hw,nt];rw[show((i:Int)+1)=((i+1:Nat):Int)by omega,N (i+1) (by omega),N i (by omega)];simp only[pS2];refine Ob (P:=fun b=>b=false) (Oi (fun hc=>.mk ?_) (fun _=>.mk rfl)) fun b W=>?_;have hc:n.On<lW s (i+1):=by simpa using hc
  simp only[rC2];exact fun h=>hn ⟨hc,h⟩;rw[W];exact .mk ⟨y,trivial⟩;rw[o,pT2 (by simp)];exact .mk rfl;rw[hr];refine Ob (P:=fun r=>r=.inr ()) (bD (l:=s.Spanners) (fun q=>q) (fun _ _=>True) (by omega) rfl trivial (fun j x q b5 f o d _ w y=>?_) (fun q o _=>?_)) fun r2 b0=>?_;rw[o]at d w y ⊢;simp only[d,w,nt];obtain⟨⟨p,p1,p2⟩,⟨q',q1,q2⟩⟩:=T x f
  have key:∀(id:YZ) (p:YP),Yu s id=some (p,true)->p.Kind=4->pI s id=true->p.Measure≠(i:Int):=fun id p hp hk he Z=>by
   obtain⟨a,b,c,e,F,k2,k3,k4,k5⟩:=(iS2 hs).of hp rfl hk;dsimp only at F k2 k3 k4;rw[Z]at F;have F:=(cD F).2.2.2;rw[Int.toNat_natCast,K]at F;cases F;have:=(B b (cD k2).2.2.1 c (cD k3).2.2.1 e (cD k4).2.2.1).2;rw[k5,he]at this;cases this
  have ef:pI s x.From=true:=List.any_eq_true.2 ⟨x,f,by simp⟩;have et:pI s x.To=true:=List.any_eq_true.2 ⟨x,f,by simp⟩;rw[p1,q1];simp only[pS2];rw[pT2 (by simp[key _ _ p1 p2 ef,key _ _ q1 q2 et])];exact .mk ⟨y,trivial⟩;rw[o,pT2 (by simp)];exact .mk rfl;rw[b0];refine .mk ⟨hw,L1,L2,u,rfl,fun r' g=>by have:=O r' g;omega,fun r' g=>?_⟩;have h1:=R r' g;have h2:=L r' (by rw[u];exact List.mem_append_right _ g);omega
 obtain⟨k,i2⟩:=q;dsimp only at hi G;obtain⟨L1,L2,u,e2,O,R⟩:=G;rw[hi,pT2 (by simp)]
 have:L2=[]:=by
  cases L2 with
  |nil=>rfl
  |cons r L3=>
   have h1:=R r (List.mem_cons_self ..);have h2:=t r (by rw[u];simp);omega
 refine .mk ?_;rw[e2,u,this];simp
end Go.P
