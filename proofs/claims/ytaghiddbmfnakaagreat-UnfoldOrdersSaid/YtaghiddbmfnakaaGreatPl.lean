import Derived.Test.YtaghiddbmfnakaaGreatGaB
/- A text of the proof. -/
set_option linter.all false
namespace Go.P
def Ok {α:Type} (x:aB α) (Q:α->Prop):Prop:=∃v,x=some v/\Q v
section
variable {α β:Type} {Q:α->Prop}
theorem Ok.mk {v:α} (h:Q v):Ok (some v) Q:=⟨v,rfl,h⟩
theorem bB {α:Type} {v:α} {Q:α->Prop} (h:Q v:=by exact trivial):Ok (some v) Q:=⟨v,rfl,h⟩
theorem Ob {P:β->Prop} {x:aB β} {k:β->aB α} (h:Ok x P) (hk:∀v,P v->Ok (k v) Q):Ok (x.bind k) Q:=by
 obtain⟨v,rfl,hv⟩:=h;exact hk v hv
theorem Oi {c:Prop} [Decidable c] {a b:aB α} (h1:c->Ok a Q) (h2:¬c->Ok b Q):Ok (if c then a else b) Q:=by
 split;rename_i h;exact h1 h;rename_i h;exact h2 h
theorem Ok.mono {P:α->Prop} {x:aB α} (h:Ok x P) (a:∀v,P v->Q v):Ok x Q:=by
 obtain⟨v,h1,h2⟩:=h;exact⟨v,h1,a v h2⟩
theorem Ok.ex {x:aB α} (h:Ok x Q):∃v,x=some v:=by
 obtain⟨v,h1,_⟩:=h;exact⟨v,h1⟩
theorem bS {S E:Type} {body:S->aB (S⊕E)} {Q:E->Prop} (I:S->Prop) (μ:S->Nat)
  (h:∀s,I s->Ok (body s) (fun r=>match r with|.inl s'=>I s'/\μ s'<μ s|.inr e=>Q e)):∀(n:Nat) (s:S),I s->μ s<n->Ok (aS body n s) Q
 |0,s,_,hn=>by omega
 |n+1,s,hi,hn=>by
  obtain⟨r,h1,h2⟩:=h s hi
  simp only[aS,h1,iF2]
  cases r with
  |inl s'=>exact bS I μ h n s' h2.1 (by have:=h2.2;omega)
  |inr e=>exact .mk h2
end
theorem bM {n:Int} (h1: -9223372036854775808<=n) (h2:n<9223372036854775808):bD n=n:=by
 have e:bD n=if n%18446744073709551616>=9223372036854775808 then n%18446744073709551616-18446744073709551616 else n%18446744073709551616:=by
  unfold bD IntKind.wrap;rw[show((2:Int)^IntKind.bits .i64)=18446744073709551616 from rfl,show((2:Int)^(IntKind.bits .i64-1))=9223372036854775808 from rfl];simp[IntKind.signed]
 rw[e];split<;>omega
theorem cF {A:Type} {l:aA A} {i:Int} {Q:A->Prop} (h0:0<=i) (h1:i<(l.length:Int)) (h:∀x,x∈l->l[i.toNat]? =some x->Q x):Ok (aU l i) Q:=by
 unfold aU;rw[iK2 h0];have hi:i.toNat<l.length:=by omega
 exact⟨l[i.toNat],by simp[hi],h _ (kK2 hi) (by simp[hi])⟩
end Go.P
set_option maxRecDepth 100000
namespace Go.P
def oX1 {A:Type} (l:aA A) (g:A->aB Bool):aB Int:=
 (aS (E:=Int⊕Unit) (fun(a:Int)=>
  if(decide (a<(l.length:Int)))then
   (aU l a).bind fun d=>
   (g d).bind fun b=>
   if b then
    some (.inr (.inl a))
   else
   some (.inl (bD (a+1)))
  else
  some (.inr (.inr ()))) bA 0).bind fun c=>
 match c with
 |.inl x_7=>
  some x_7
 |.inr _=>
  some (-1)
theorem cG1 {A:Type} {l:aA A} {g:A->aB Bool} (hl:l.length<9223372036854775808) (hg:∀x∈l,∃b,g x=some b):Ok (oX1 l g) (fun v=>(v= -1/\∀x∈l,g x=some false)\/(0<=v/\v<l.length/\∃x,l[v.toNat]? =some x/\g x=some true)):=by
 unfold oX1
 refine Ob (P:=fun r=>match r with|.inl v=>0<=v/\v<l.length/\∃x,l[v.toNat]? =some x/\g x=some true|.inr _=>∀x∈l,g x=some false)
  (bS (S:=Int) (fun i=>0<=i/\i<=l.length/\∀j,j<i.toNat->∀x,l[j]? =some x->g x=some false) (fun i=>l.length-i.toNat) (fun i hi=>?_) bA 0 ⟨by omega,by omega,fun j c=>by simp at c⟩ (by simp[bA];omega)) fun r hr=>?_
 obtain⟨h0,h1,h2⟩:=hi;refine Oi (fun hc=>?_) (fun hc=>?_);simp only[iP2]at hc;refine Ob (cF (Q:=fun x=>x∈l/\l[i.toNat]? =some x) h0 hc (fun x a b=>⟨a,b⟩)) fun x d=>?_;obtain⟨b,hb⟩:=hg x d.1;rw[hb];cases b with
 |true=>exact .mk ⟨h0,hc,x,d.2,hb⟩
 |false=>
  rw[iF2,bM (by omega) (by omega)];refine .mk ⟨⟨by omega,by omega,fun j c y hy=>?_⟩,by omega⟩;by_cases e:j=i.toNat
  subst e;rw[d.2]at hy;cases hy;exact hb;exact h2 j (by omega) y hy
 simp only[iP2]at hc;refine .mk (fun x d=>?_);obtain⟨j,c⟩:=jE2.1 d;have:=(iI2.1 c).1;exact h2 j (by omega) x c;cases r with
 |inl v=>exact .mk (.inr hr)
 |inr u=>exact .mk (.inl ⟨rfl,hr⟩)
end Go.P
namespace Go.P
structure YY.b (x:YY):Prop where
 Text:x.Text.size<9223372036854775808
structure YE.b (x:YE):Prop where
 Heads:x.Heads.length<9223372036854775808
 Graces:x.Graces.length<9223372036854775808
 Lyrics:x.Lyrics.length<9223372036854775808
 LyricsE:∀y∈x.Lyrics,y.b
structure YO.b (x:YO):Prop where
 Events:x.Events.length<9223372036854775808
 EventsE:∀y∈x.Events,y.b
 Tuplets:x.Tuplets.length<9223372036854775808
structure YW.b (x:YW):Prop where
 Clefs:x.Clefs.length<9223372036854775808
 Voices:x.Voices.length<9223372036854775808
 VoicesE:∀y∈x.Voices,y.b
structure YM.b (x:YM):Prop where
 Rehearsal:x.Rehearsal.size<9223372036854775808
 Tempi:x.Tempi.length<9223372036854775808
 Cells:x.Cells.length<9223372036854775808
 CellsE:∀y∈x.Cells,y.b
structure YJ.b (x:YJ):Prop where
 Name:x.Name.size<9223372036854775808
 Staves:x.Staves.length<9223372036854775808
structure Y0.b (x:Y0):Prop where
 Title:x.Title.size<9223372036854775808
 Parts:x.Parts.length<9223372036854775808
 PartsE:∀y∈x.Parts,y.b
 Measures:x.Measures.length<9223372036854775808
 MeasuresE:∀y∈x.Measures,y.b
 Spanners:x.Spanners.length<9223372036854775808
 Last:x.Last.length<9223372036854775808
structure YY.sm (x:YY):Prop where
 Text:x.Text.size<=300
structure YE.sm (x:YE):Prop where
 Heads:x.Heads.length<=12
 Graces:x.Graces.length<=12
 Lyrics:x.Lyrics.length<=12
 LyricsE:∀y∈x.Lyrics,y.sm
structure YO.sm (x:YO):Prop where
 Events:x.Events.length<=20
 EventsE:∀y∈x.Events,y.sm
 Tuplets:x.Tuplets.length<=6
structure YW.sm (x:YW):Prop where
 Clefs:x.Clefs.length<=5
 Voices:x.Voices.length<=3
 VoicesE:∀y∈x.Voices,y.sm
structure YM.sm (x:YM):Prop where
 Rehearsal:x.Rehearsal.size<=300
 Tempi:x.Tempi.length<=5
 Cells:x.Cells.length<=5
 CellsE:∀y∈x.Cells,y.sm
structure YJ.sm (x:YJ):Prop where
 Name:x.Name.size<=300
 Staves:x.Staves.length<=5
structure Y0.sm (x:Y0):Prop where
 Title:x.Title.size<=300
 Parts:x.Parts.length<=4
 PartsE:∀y∈x.Parts,y.sm
 Measures:x.Measures.length<=10
 MeasuresE:∀y∈x.Measures,y.sm
 Spanners:x.Spanners.length<=10
 Last:x.Last.length<=5
end Go.P
namespace Go.P
theorem tY {A E:Type} {l:aA A} {body:Int->aB (Int⊕E)} {Q:E->Prop} (P:A->Prop) (hl:l.length<9223372036854775808)
  (h:∀(i:Int) (x:A),0<=i->i<(l.length:Int)->x∈l->aU l i=some x->bD (i+1)=i+1->Ok (body i) (fun r=>match r with|.inl j=>j=i+1/\P x|.inr e=>Q e))
  (a:∀i:Int,i=(l.length:Int)->(∀x∈l,P x)->Ok (body i) (fun r=>match r with|.inl j=>False|.inr e=>Q e)):Ok (aS body bA 0) Q:=by
 have hl:l.length<9223372036854775808:=hl;refine bS (fun(i:Int)=>0<=i/\i<=l.length/\∀j,j<i.toNat->∀x,l[j]? =some x->P x) (fun i=>l.length-i.toNat) (fun i hi=>?_) bA 0 ⟨by omega,by omega,fun j b=>by simp at b⟩ (by simp[bA];omega);obtain⟨h0,h1,h2⟩:=hi;by_cases c:i<(l.length:Int);have hi:i.toNat<l.length:=by omega
 have hg:aU l i=some l[i.toNat]:=by unfold aU;rw[iK2 h0];simp[hi]
 refine(h i l[i.toNat] h0 c (kK2 hi) hg (bM (by omega) (by omega))).mono fun r hr=>?_;cases r with
 |inl j=>
  obtain⟨rfl,hp⟩:=hr;refine⟨⟨by omega,by omega,fun j b y hy=>?_⟩,by omega⟩;by_cases e:j=i.toNat
  subst e;rw[iW2 hi]at hy;cases hy;exact hp;exact h2 j (by omega) y hy
 |inr e=>exact hr
 refine(a i (by omega) (fun x d=>?_)).mono fun r hr=>?_;obtain⟨j,b⟩:=jE2.1 d;have:=(iI2.1 b).1;exact h2 j (by omega) x b;cases r with
 |inl j=>exact hr.elim
 |inr e=>exact hr
theorem U33 {v:YO} (hv:v.b):Ok (F14 v) (fun r=>r=true->v.sm):=by
 unfold F14;refine Ob (P:=fun r=>match r with|.inl _=>True|.inr _=>∀e∈v.Events,e.sm) (tY (fun e=>e.sm) hv.Events (fun i x h0 h1 c hg hw=>?_) (fun i hi hp=>?_)) fun r hr=>?_;simp only[h1,kD2,jG2,hg,iF2];refine Oi (fun hc=>.mk trivial) (fun hc=>?_);have a:=hv.EventsE x c;simp only[iU2,iP2,lF2]at hc;refine Ob (P:=fun r=>match r with|.inl _=>True|.inr _=>∀e∈x.Lyrics,e.sm) (tY (fun e=>e.sm) a.Lyrics (fun k y j d hy f g=>?_) (fun k hk hp=>?_)) fun r hr=>?_;simp only[d,kD2,jG2,f,iF2];refine Oi (fun hd=>.mk trivial) (fun hd=>?_);rw[g];exact .mk ⟨rfl,⟨by simp at hd;omega⟩⟩;simp only[hk,Int.lt_irrefl,kO2,iR2,jO2];exact .mk hp;cases r with
 |inl u=>exact .mk trivial
 |inr u=>simp only;rw[hw];exact .mk ⟨rfl,⟨by omega,by omega,by omega,hr⟩⟩
 simp only[hi,Int.lt_irrefl,kO2,iR2,jO2];exact .mk hp;cases r with
 |inl u=>exact .mk (fun h=>by cases h)
 |inr u=>
  refine .mk (fun h=>?_);simp only[iG2,iP2]at h;exact⟨by omega,hr,by omega⟩
end Go.P
namespace Go.P
theorem bJ {A S E:Type} {l:aA A} {body:S->aB (S⊕E)} {Q:E->Prop} {s0:S} (a:S->Int) (I:Nat->S->Prop) (hl:l.length<9223372036854775808) (h0:a s0=0) (f:I 0 s0)
  (h:∀(i:Nat) (x:A) (s:S),l[i]? =some x->x∈l->a s=(i:Int)->a s<(l.length:Int)->I i s->aU l (a s)=some x->bD (a s+1)=(i:Int)+1->Ok (body s) (fun r=>match r with|.inl s'=>a s'=(i:Int)+1/\I (i+1) s'|.inr e=>Q e))
  (b:∀s,a s=(l.length:Int)->I l.length s->Ok (body s) (fun r=>match r with|.inl _=>False|.inr e=>Q e)):Ok (aS body bA s0) Q:=by
 have hl:l.length<9223372036854775808:=hl;refine bS (fun s=>0<=a s/\a s<=l.length/\I (a s).toNat s) (fun s=>l.length-(a s).toNat) (fun s hi=>?_) bA s0 ⟨by omega,by omega,by rw[h0];exact f⟩ (by simp[bA];omega);obtain⟨g,m,d⟩:=hi;by_cases c:a s<(l.length:Int);have hi:(a s).toNat<l.length:=by omega
 have hc:(((a s).toNat:Nat):Int)=a s:=by omega
 have hg:aU l (a s)=some l[(a s).toNat]:=by unfold aU;rw[iK2 g];simp[hi]
 refine(h (a s).toNat l[(a s).toNat] s (by simp[hi]) (kK2 hi) hc.symm c d hg (by rw[bM (by omega) (by omega)];omega)).mono fun r hr=>?_;cases r with
 |inl s'=>
  obtain⟨k,e2⟩:=hr;refine⟨⟨by omega,by omega,?_⟩,by omega⟩;rw[show(a s').toNat=(a s).toNat+1 by omega];exact e2
 |inr e=>exact hr
 refine(b s (by omega) ?_).mono fun r hr=>?_;rw[show(a s).toNat=l.length by omega]at d;exact d;cases r with
 |inl j=>exact hr.elim
 |inr e=>exact hr
theorem fP {A:Type} {g:Bool} {l:aA A} {x:A} (h:l.length<1073741824) {Q:aA A->Prop} (a:Q (l++[x])):Ok (fO g l [x]) Q:=by
 unfold fO;have e:Sim.maxRoom=1073741824:=rfl;rw[iK2 ⟨by rw[e,jQ2,iT2];omega,fun _=>iJ2 _⟩];exact .mk a
theorem yR1 {w:Bool} {id:YZ} {l:aA YV} {s:Y0} {r:Int} (h:l.length<1000000):Ok (iL w id l s r) (fun v=>v.length<=l.length+1):=by
 unfold iL;refine Ob (P:=fun v=>v.length<=l.length+1) (Oi (fun _=>Ob (fP (Q:=fun v=>v.length<=l.length+1) (by omega) (by simp)) fun v hv=>.mk hv) (fun _=>.mk (by omega))) fun v hv=>.mk hv
theorem gV1 (n a b:Int):vO n a b=some (decide (n>=a)&&decide (n<=b)):=rfl
theorem yS1 (i:YL):F52 i=some (if((((decide (i.Steps<(-77)))||(decide (i.Steps>77)))||(decide (i.Semitones<(-140))))||(decide (i.Semitones>140)))then 2 else 0):=by
 unfold F52;split<;>rfl
theorem oY1 {s:ByteArray} (h:s.size<9223372036854775808):Ok (F50 s) (fun _=>True):=by
 unfold F50;refine Ob (P:=fun _=>True) (Oi (fun _=>?_) (fun _=>.mk trivial)) fun v hv=>.mk hv
 have:Ok (Oj s.data.toList) (fun _=>True):=by
  unfold Oj;refine Ob (cG1 (l:=s.data.toList) (g:=fun b=>Tg (b.toNat:Int)) (by rw[lQ2];exact h) (fun x _=>⟨_,rfl⟩)) fun v hv=>.mk trivial
 exact Ob this fun v hv=>.mk trivial
end Go.P
namespace Go.P
section
variable {α β:Type} {Q:α->Prop}
theorem Ok.bindE {P:β->Prop} {x:aB β} {k:β->aB α} (h:Ok x P) (hk:∀v,x=some v->P v->Ok (k v) Q):Ok (x.bind k) Q:=by
 obtain⟨v,rfl,hv⟩:=h;exact hk v rfl hv
theorem Ok.of {x:aB α} (h:Ok x Q) {v:α} (hv:x=some v):Q v:=by
 obtain⟨w,h1,h2⟩:=h;rw[h1]at hv;cases hv;exact h2
theorem sL {k:IntKind} {a b:Int} (h:b≠0):Ok (sD k a b) (fun v=>v=k.wrap (a.tdiv b)):=by
 unfold sD;rw[iN2 h];exact .mk rfl
theorem Dl {k:IntKind} {a b:Int} (h:b≠0):Ok (qJ k a b) (fun v=>v=a.tmod b):=by
 unfold qJ;rw[iN2 h];exact .mk rfl
theorem sM {k:IntKind} {a b:Int} (h:0<=b):Ok (nD k a b) (fun v=>v=a.fdiv (2^min b.toNat k.bits)):=by
 unfold nD;rw[iN2 (by omega)];exact .mk rfl
theorem Mc {k:IntKind} {a b:Int} (h:0<=b):Ok (Sw k a b) (fun _=>True):=by
 unfold Sw;rw[iN2 (by omega)];exact .mk trivial
end
section
variable {A:Type} {l:List A}
theorem iV {i:Int} (h0:0<=i) (h1:i<(l.length:Int)):Ok (fN l i) (fun v=>v=i.toNat/\v<l.length):=by
 unfold fN rK;rw[iK2 ⟨h0,h1⟩];exact .mk ⟨rfl,by omega⟩
theorem kZ {j:Nat} (h:j<l.length):Ok (gJ l j) (fun x=>l[j]? =some x/\x∈l):=by
 unfold gJ;rw[iW2 h];exact .mk ⟨rfl,kK2 h⟩
theorem Md {j:Nat} {f:A->A} (h:j<l.length):Ok (Oe l j f) (fun m=>m.length=l.length):=by
 unfold Oe;rw[iW2 h];exact .mk (by simp)
theorem sN {n c:Int} {z:A} (h0:0<=n) (h1:n<=c) (h2:c<=1073741824):Ok (vB n c z) (fun v=>v=List.replicate n.toNat z):=by
 unfold vB;rw[iK2 ⟨h0,h1,h2⟩];exact .mk rfl
theorem Av {a b:Int} (h0:0<=a) (h1:a<=b) (h2:b<=(l.length:Int)):Ok (mR l a b) (fun v=>v.length<=l.length/\∀x∈v,x∈l):=by
 unfold mR;rw[iK2 ⟨h0,h1,h2⟩];exact .mk ⟨by simp;omega,fun x c=>List.mem_of_mem_drop (List.mem_of_mem_take c)⟩
theorem Pa {h:Int} (_:0<l.length) (h1:0<=h) (h2:h<=(l.length:Int)):Ok (yB l h) (fun v=>v.length=h.toNat/\∀x∈v,x∈l):=by
 unfold yB;rw[iK2 ⟨h1,h2⟩];exact .mk ⟨by simp;omega,fun x a=>List.mem_of_mem_take a⟩
theorem fE {i:Int} {x:A} (h:aU l i=some x):0<=i/\i<(l.length:Int)/\x∈l/\l[i.toNat]? =some x:=by
 unfold aU at h;split at h;obtain⟨hi,_⟩:=iI2.1 h;exact⟨by omega,by omega,iQ2 h,h⟩;cases h
end
theorem tZ {s:ByteArray} {i:Int} (h0:0<=i) (h1:i<(s.size:Int)):Ok (nZ s i) (fun v=>0<=v/\v<=255):=by
 unfold nZ;rw[iK2 h0];have h:i.toNat<s.data.toList.length:=by rw[lQ2];show i.toNat<s.size;omega
 rw[iW2 h];have:=(s.data.toList[i.toNat]).toNat_lt;exact .mk ⟨by dsimp only;omega,by dsimp only;omega⟩
theorem uA {A:Type} {l:aA A} (h:l.length<=1073741824):qK l=some l:=by
 unfold qK;rw[Nat.ble_eq_true_of_le h];rfl
theorem nm:(∀a b:Bool,((a||b)=true)=(a=true\/b=true))/\(∀a b:Bool,((a&&b)=true)=(a=true/\b=true))/\(∀b:Bool,((!b)=true)=(b=false))/\(∀(p:Prop) [Decidable p],(decide p=true)=p)/\
  (∀(p:Prop) [Decidable p],(decide p=false)=¬p)/\(∀p q:Prop,(¬(p\/q))=(¬p/\¬q))/\(∀p q:Prop,(¬(p/\q))=(p->¬q))/\(∀b:Bool,(¬b=true)=(b=false))/\(∀a b:Int,((a !=b)=true)=¬a=b)/\
  (∀a b:Int,((a==b)=true)=(a=b))/\(∀p:Prop,(¬¬p)=p):=
 ⟨fun a b=>by simp,fun a b=>by simp,fun b=>by simp,fun p _=>by simp,fun p _=>by simp,fun p q=>by simp,fun p q=>by simp,fun b=>by simp,fun a b=>by simp,fun a b=>by simp,fun p=>by simp⟩
theorem nl {A:Type}:(∀(a:A) (l:aA A),(a::l).length=l.length+1)/\([]:aA A).length=0:=⟨fun _ _=>rfl,rfl⟩
theorem nt:(∀[Decidable True],decide True=true)/\(∀(α:Type) [Decidable True] (a b:α),(if True then a else b)=a)/\∀(α β:Type) (a:α) (f:α->aB β),(some a).bind f=f a:=⟨kD2 _,fun _ _ _ _=>jG2 ..,fun _ _ _ _=>rfl⟩
theorem nf:(∀a:Int,(a<a)=False)/\(∀[Decidable False],decide False=false)/\((false=true)=False)/\∀(α:Type) [Decidable False] (a b:α),(if False then a else b)=b:=⟨fun a=>by simp,kO2 _,by simp,fun _ _ _ _=>jO2 ..⟩
theorem bW {α β:Type} {Q:α->Prop} {x:aB β} {k:β->aB α} (h:Ok x fun _=>True) (hk:∀v,Ok (k v) Q):Ok (x.bind k) Q:=Ob h fun v _=>hk v
theorem pH {A S E β:Type} {l:aA A} {body:S->aB (S⊕E)} {s0:S} {k:E->aB β} {Q:β->Prop} (a:S->Int) (hl:l.length<9223372036854775808) (h0:a s0=0)
  (h:∀(i:Nat) (x:A) (s:S),x∈l->a s=(i:Int)->a s<(l.length:Int)->aU l (a s)=some x->bD (a s+1)=(i:Int)+1->Ok (body s) (fun r=>match r with|.inl s'=>a s'=(i:Int)+1|.inr _=>True))
  (b:∀s,a s=(l.length:Int)->Ok (body s) (fun r=>match r with|.inl _=>False|.inr _=>True)) (hk:∀e,Ok (k e) Q):Ok ((aS body bA s0).bind k) Q:=
 bW (bJ (l:=l) a (fun _ _=>True) hl h0 trivial (fun i x s _ d hi c _ hg hw=>(h i x s d hi c hg hw).mono fun r hr=>by cases r with|inl s'=>exact⟨hr,trivial⟩|inr e=>trivial) (fun s hi _=>b s hi)) hk
theorem Vb {s:ByteArray} {n:Nat} (h:s.size<=n):s.data.toList.length<=n:=by rw[lQ2];exact h
theorem Vc (n:Int): -9223372036854775808<=bD n/\bD n<=9223372036854775807:=by
 have e:bD n=if n%18446744073709551616>=9223372036854775808 then n%18446744073709551616-18446744073709551616 else n%18446744073709551616:=by
  unfold bD IntKind.wrap;rw[show((2:Int)^IntKind.bits .i64)=18446744073709551616 from rfl,show((2:Int)^(IntKind.bits .i64-1))=9223372036854775808 from rfl];simp[IntKind.signed]
 rw[e];split<;>omega
theorem iW {S E:Type} {body:S->aB (S⊕E)} {Q:E->Prop} {s0:S} (d:S->Int) (N:Int) (I:S->Prop) (g:N<=9223372036854775807) (h0: -1000<=d s0) (f:I s0)
  (h:∀s,I s->d s0<=d s->(d s<N->bD (d s+1)=d s+1)->Ok (body s) (fun r=>match r with|.inl s'=>d s<N/\d s'=d s+1/\I s'|.inr e=>Q e)):Ok (aS body bA s0) Q:=by
 refine bS (fun s=>I s/\d s0<=d s) (fun s=>(N-d s).toNat) (fun s hs=>?_) bA s0 ⟨f,kU2 _⟩ (by simp only[bA];omega);refine(h s hs.1 hs.2 (fun hc=>bM (by omega) (by omega))).mono fun r hr=>?_;cases r with
 |inl s'=>obtain⟨a,b,c⟩:=hr;exact⟨⟨c,by omega⟩,by omega⟩
 |inr e=>exact hr
theorem Pb {w:Bool} {id:YZ} {l:aA YV} {s:Y0} {r:Int} (h:l.length<1000000):Ok (iL w id l s r) (fun v=>(w=true->v.length=l.length+1)/\(w=false->v.length=l.length)):=by
 unfold iL;refine Ob (P:=fun v=>(w=true->v.length=l.length+1)/\(w=false->v.length=l.length)) (Oi (fun h=>Ob (fP (Q:=fun v=>v.length=l.length+1) (by omega) (by simp)) fun v hv=>.mk ⟨fun _=>hv,fun h2=>by rw[h]at h2;cases h2⟩) (fun h=>.mk ⟨fun h2=>absurd h2 h,fun _=>rfl⟩)) fun v hv=>.mk hv
theorem oZ1 (n:Int):0<=IntKind.wrap .u8 n/\IntKind.wrap .u8 n<256:=by
 unfold IntKind.wrap;rw[show((2:Int)^IntKind.bits .u8)=256 from rfl];simp[IntKind.signed];omega
theorem yT1 {l:aA YV} {s:Y0} {r:Int} (hs:s.sm) (h0:s.Measures.length=0) (h:l.length<900000):Ok (Jb l s r) (fun v=>0<v.length):=by
 unfold Jb;have hp:=hs.Parts;refine Ob (P:=fun v=>v.length<=l.length+4) (bJ (l:=s.Parts) (fun q=>q.1) (fun i q=>q.2.length<=l.length+i) (by omega) rfl (by simp) (fun i x q k f hi e d hg hw=>?_) (fun q hi d=>?_)) fun v1 h1=>?_;obtain⟨x1,j⟩:=q;have g:=hs.PartsE x f;have m:=g.Name;simp only at hi e d hg hw;simp only[e,kD2,jG2,hg,iF2,gV1,yS1];refine Ob (oY1 (by omega)) fun a _=>?_;refine Ob (P:=fun _=>True) (by split<;>exact .mk trivial) fun b _=>?_;refine Ob (P:=fun _=>True) (by split<;>exact .mk trivial) fun c _=>?_;refine Ob (yR1 (by omega)) fun v hv=>.mk ⟨hw,by dsimp only;omega⟩;obtain⟨x1,j⟩:=q;simp only at hi d;simp only[hi,Int.lt_irrefl,kO2,iR2,jO2];exact .mk (by omega);refine Ob (P:=fun v=>v.length<=l.length+4) (bJ (l:=s.Measures) (fun q=>q.1) (fun i q=>q.2.length<=l.length+4) (by omega) rfl h1 (fun i x q k f hi e d hg hw=>by omega) (fun q hi d=>?_)) fun v1 h1=>?_;obtain⟨x1,j⟩:=q;simp only at hi d;simp only[hi,Int.lt_irrefl,kO2,iR2,jO2];exact .mk d;have n:=hs.Title;refine Ob (oY1 (by omega)) fun a _=>?_;simp only[gV1,iF2];refine Ob (P:=fun _=>True) (by split<;>exact .mk trivial) fun b _=>?_;refine Ob (P:=fun r=>r=true) (Oi (fun _=>.mk rfl) (fun _=>.mk (by simp[h0]))) fun c hc=>?_;subst hc;simp only[Bool.true_or];refine Ob (Pb (by omega)) fun v hv=>.mk (by have:=hv.1 rfl;omega)
def YU.ok (n:Int) (t:YU):Prop:=1<=t.Count/\t.Count<=n/\0<=t.First/\t.First+t.Count<=n/\1<=t.Actual/\t.Actual<=32/\1<=t.Normal/\t.Normal<=32
def Y0.pl (s:Y0) (m c v:Int):Prop:=∃x y z,aU s.Measures m=some x/\aU x.Cells c=some y/\aU y.Voices v=some z
theorem og {A α V:Type} (l:aA A) (v:aA V) (K k:Nat) {body:Int×aA V->aB ((Int×aA V)⊕aA V)} {m:aA V->aB α} {Q:α->Prop} (hl:l.length<9223372036854775808)
  (h:∀(i:Nat) (x:A) (s:Int×aA V),l[i]? =some x->x∈l->s.1=(i:Int)->s.1<(l.length:Int)->(v.length<=s.2.length/\s.2.length<=v.length+i*k)->aU l s.1=some x->bD (s.1+1)=(i:Int)+1->Ok (body s) (fun r=>match r with|.inl s'=>s'.1=(i:Int)+1/\v.length<=s'.2.length/\s'.2.length<=v.length+(i+1)*k|.inr e=>v.length<=e.length/\e.length<=v.length+K))
  (j:∀s,s.1=(l.length:Int)->(v.length<=s.2.length/\s.2.length<=v.length+l.length*k)->Ok (body s) (fun r=>match r with|.inl _=>False|.inr e=>v.length<=e.length/\e.length<=v.length+K))
  (hk:∀r,(v.length<=r.length/\r.length<=v.length+K)->Ok (m r) Q):Ok ((aS body bA (0,v)).bind m) Q:=
 Ob (P:=fun r=>v.length<=r.length/\r.length<=v.length+K) (bJ (l:=l) (fun q=>q.1) (fun i q=>v.length<=q.2.length/\q.2.length<=v.length+i*k) hl rfl ⟨iJ2 _,by dsimp only;omega⟩ (fun i x s a b c d e f g=>(h i x s a b c d e f g).mono fun r hr=>by cases r<;>exact hr) (fun s a b=>(j s a b).mono fun r hr=>by cases r<;>exact hr)) hk
end Go.P
set_option maxHeartbeats 1000000
namespace Go.P
theorem U34 {v:YO} (hv:v.b):Ok (F15 v) (fun _=>True):=by
 unfold F15;refine Ob (P:=fun _=>True) (bJ (l:=v.Events) (fun q=>q.2) (fun _ _=>True) hv.Events rfl trivial (fun i e q c a hi hl _ hg hw=>?_) (fun q hi _=>?_)) fun v _=>.mk trivial;obtain⟨n,k⟩:=q;dsimp only at hi hl hg hw;simp only[hl,hg,kD2,jG2,iF2];refine Ob (P:=fun _=>True) (bJ (l:=e.Lyrics) (fun q=>q.2) (fun _ _=>True) (hv.EventsE e a).Lyrics rfl trivial (fun i e q c a hi hl _ hg hw=>?_) (fun q hi _=>?_)) fun x _=>.mk ⟨hw,trivial⟩;obtain⟨n,k⟩:=q;dsimp only at hi hl hg hw;simp only[hl,hg,kD2,jG2,iF2];exact .mk ⟨hw,trivial⟩;obtain⟨n,k⟩:=q;dsimp only at hi;simp only[hi,Int.lt_irrefl,kO2,iR2,jO2];exact .mk trivial;obtain⟨n,k⟩:=q;dsimp only at hi;simp only[hi,Int.lt_irrefl,kO2,iR2,jO2];exact .mk trivial
theorem U13 {s:Y0} (hb:s.b):Ok (F5 s) (fun r=>r=true->s.sm):=by
 unfold F5;refine Ob (P:=fun r=>match r with|.inl _=>True|.inr _=>∀p∈s.Parts,p.sm) (tY (l:=s.Parts) (fun p=>p.sm) hb.Parts (fun i p h0 h1 d hg hw=>?_) (fun i hi o=>?_)) fun r hr=>?_;simp only[h1,hg,hw,kD2,jG2,iF2];refine Ob (P:=fun b=>b=true\/p.sm) (Oi (fun _=>.mk (.inl rfl)) (fun hc=>.mk ?_)) fun b hb=>?_;simp only[iP2]at hc;by_cases h:(p.Name.size:Int)>300;exact .inl (by simpa using h);exact .inr ⟨by omega,by omega⟩;exact Oi (fun _=>.mk trivial) (fun hc=>.mk ⟨rfl,hb.resolve_left hc⟩);simp only[hi,Int.lt_irrefl,kO2,iR2,jO2];exact .mk o;rcases r with _|_;exact .mk (fun h=>by cases h);refine Ob (P:=fun r=>match r with|.inl _=>True|.inr _=>∀m∈s.Measures,m.sm) (bJ (l:=s.Measures) (fun q=>q.2.2) (fun i q=>∀m∈s.Measures.take i,m.sm) hb.Measures rfl (fun m j=>by simp at j) (fun i m q d j hi hl g hg hw=>?_) (fun q hi g=>?_)) fun r B=>?_;obtain⟨ev,by',k⟩:=q;have F:=hb.MeasuresE m j;dsimp only at hi hl hg hw;simp only[hl,hg,kD2,jG2,iF2];refine Oi (fun _=>.mk trivial) (fun hc=>?_);simp only[iU2,iP2,lF2]at hc;refine Ob (P:=fun r=>match r with|.inl _=>True|.inr _=>∀c∈m.Cells,c.sm) (bJ (l:=m.Cells) (fun q=>q.2.2) (fun i q=>∀c∈m.Cells.take i,c.sm) F.Cells rfl (fun m j=>by simp at j) (fun i c q C z hi hl w hg t=>?_) (fun q hi g=>?_)) fun r hr=>?_;obtain⟨ev,by',k⟩:=q;have E:=F.CellsE c z;dsimp only at hi hl hg t;simp only[hl,hg,kD2,jG2,iF2];refine Ob (P:=fun b=>b=true\/(c.Clefs.length<=5/\c.Voices.length<=3)) (Oi (fun _=>.mk (.inl rfl)) (fun hc=>.mk ?_)) fun b hb=>?_;simp only[iP2]at hc;by_cases h:(c.Voices.length:Int)>3;exact .inl (by simpa using h);exact .inr ⟨by omega,by omega⟩;refine Oi (fun _=>.mk trivial) (fun hcc=>?_);have hcc:=hb.resolve_left hcc;refine Ob (P:=fun r=>match r with|.inl _=>True|.inr _=>∀v∈c.Voices,v.sm) (bJ (l:=c.Voices) (fun q=>q.2.2) (fun i q=>∀v∈c.Voices.take i,v.sm) E.Voices rfl (fun m j=>by simp at j) (fun i v q D A hi hl g hg u=>?_) (fun q hi g=>?_)) fun r hr=>?_;obtain⟨ev,by',k⟩:=q;have bv:=E.VoicesE v A;dsimp only at hi hl hg u;simp only[hl,hg,kD2,jG2,iF2];refine Ob (U33 bv) fun f hf=>?_;refine Oi (fun _=>.mk trivial) (fun y=>?_);refine Ob (U34 bv) fun n _=>?_;refine Oi (fun _=>.mk trivial) (fun _=>.mk ⟨u,fun x d=>?_⟩);rw[List.take_add_one,D]at d;rcases kG2.1 d with d|d;exact g x d;simp at d;subst d;exact hf (by simpa using y);obtain⟨ev,by',k⟩:=q;dsimp only at hi;simp only[hi,Int.lt_irrefl,kO2,iR2,jO2];rw[lK2]at g;exact .mk g;rcases r with⟨a,b⟩|⟨a,b⟩
 exact .mk trivial;refine .mk ⟨t,fun x d=>?_⟩;rw[List.take_add_one,C]at d;rcases kG2.1 d with d|d;exact w x d;simp at d;subst d;exact⟨hcc.1,hcc.2,hr⟩;obtain⟨ev,by',k⟩:=q;dsimp only at hi;simp only[hi,Int.lt_irrefl,kO2,iR2,jO2];rw[lK2]at g;exact .mk g;rcases r with⟨a,b⟩|⟨a,b⟩
 exact .mk trivial;refine .mk ⟨hw,fun x e=>?_⟩;rw[List.take_add_one,d]at e;rcases kG2.1 e with e|e;exact g x e;simp at e;subst e;exact⟨by omega,by omega,by omega,hr⟩;obtain⟨ev,by',k⟩:=q;dsimp only at hi;simp only[hi,Int.lt_irrefl,kO2,iR2,jO2];rw[lK2]at g;exact .mk g;rcases r with _|_;exact .mk (fun h=>by cases h);refine .mk (fun h=>?_);simp only[iG2,iP2]at h;exact⟨by omega,by omega,hr,by omega,B,by omega,by omega⟩
end Go.P
set_option maxHeartbeats 2000000
namespace Go.P
theorem yU1 {x1:Int}:Ok (Tg x1) (fun _=>True):=by
 unfold Tg;exact bB
theorem yV1 {x1:aA UInt8} (a:x1.length<=300):Ok (Yo x1) (fun _=>True):=by
 unfold Yo;have f:=a;refine pH (l:=x1) (fun q=>q) (iL2 a (by decide)) rfl (fun k j h g b d c e=>?_) (fun h b=>?_) fun i=>?_;simp only[d,c,nt];refine bW (yU1) fun m=>?_;refine Oi (fun c13=>?_) (fun c13=>?_);exact bB;exact .mk e;simp only[b,nf];exact bB;rcases i with n|_;exact bB;exact bB
theorem yW1 {x1:aA UInt8} (a:x1.length<=300):Ok (Oj x1) (fun _=>True):=by
 unfold Oj;refine bW (yV1 a) fun b=>?_;exact bB
theorem T50 {x1:ByteArray} (a:x1.size<=300):Ok (F50 x1) (fun _=>True):=by
 unfold F50;refine Ob (P:=fun r=>r=true->(decide ((x1.size:Int)<=256))=true) ?_ fun x3 b=>?_;refine Oi (fun c16=>?_) (fun _=>.mk (fun h=>by cases h));refine bW (yW1 (Vb a)) fun c=>?_;exact .mk (fun _=>c16);exact bB
theorem Ji {x1 a x3:Int}:Ok (vO x1 a x3) (fun _=>True):=by
 unfold vO;exact bB
theorem T52 {x1:YL}:Ok (F52 x1) (fun _=>True):=by
 unfold F52;refine Oi (fun c18=>?_) (fun c18=>?_);exact bB;exact bB
theorem kN {x1:Bool} {d:YZ} {x3:aA YV} {a:Y0} {e:Int} (b:x3.length+1<=1000000) (c:a.sm):Ok (iL x1 d x3 a e) (fun v=>x3.length<=v.length/\v.length<=x3.length+1):=by
 exact(Pb (by omega)).mono fun v h=>by cases x1<;>simp at h<;>omega
theorem pA1 {x1:aA YV} {E:Y0} {x3:Int} (d0:x1.length+15<=1000000) (a:E.sm):Ok (Jb x1 E x3) (fun v=>x1.length<=v.length/\v.length<=x1.length+15):=by
 unfold Jb;have a0:=a.Parts;refine og E.Parts x1 4 1 (iL2 a.Parts (by decide)) (fun d6 b8 q30 b6 A c o g m u=>?_) (fun q30 c g=>?_) fun R z19=>?_;obtain⟨L,M⟩:=q30;dsimp only at c o m u g;simp only[o,m,nt];have K:=a.PartsE _ A;refine bW (T50 K.Name) fun N=>?_;refine Ob (P:=fun r=>¬r=true->¬(!N)=true) ?_ fun O H=>?_;refine Oi (fun _=>.mk (fun h=>absurd rfl h)) (fun c35=>?_);refine bW (Ji) fun e4=>?_;exact .mk (fun _=>c35);refine Ob (P:=fun r=>¬r=true->¬O=true) ?_ fun e6 d1=>?_;refine Oi (fun _=>.mk (fun h=>absurd rfl h)) (fun c38=>?_);have e0:=H c38;refine bW (T52) fun e5=>?_;exact .mk (fun _=>c38);refine Ob (kN (by first|omega|(simp only[iT2]at *;omega)) a) fun e7 d2=>?_;exact .mk ⟨u,by dsimp only;omega⟩;obtain⟨L,M⟩:=q30;dsimp only at c g;simp only[c,nf];exact .mk (by dsimp only;omega);have b0:=a.Measures;refine og E.Measures R 10 1 (iL2 a.Measures (by decide)) (fun d7 F q53 b7 B d p i b w=>?_) (fun q53 d i=>?_) fun f2 f8=>?_;obtain⟨S,T⟩:=q53;dsimp only at d p b w i;simp only[p,b,nt];have k:=a.MeasuresE _ B;refine bW (T50 k.Rehearsal) fun e8=>?_;have b4:=k.Cells;refine pH (l:=F.Cells) (fun q=>q.2) (iL2 k.Cells (by decide)) rfl (fun d8 G q67 C e s j x=>?_) (fun q67 e=>?_) fun f0=>?_;obtain⟨U,V⟩:=q67;dsimp only at e s j x;simp only[s,b,j,nt];have z:=k.CellsE _ C;have b5:=z.Voices;refine pH (l:=G.Voices) (fun q=>q.2) (iL2 z.Voices (by decide)) rfl (fun d9 b9 q80 D f t n y=>?_) (fun q80 f=>?_) fun e9=>?_;obtain⟨W,X⟩:=q80;dsimp only at f t n y;simp only[t,b,j,n,nt];have e3:=z.VoicesE _ D;exact .mk y;obtain⟨W,X⟩:=q80;dsimp only at f;simp only[f,nf];exact bB;exact .mk x;obtain⟨U,V⟩:=q67;dsimp only at e;simp only[e,nf];exact bB;refine Ob (kN (by first|omega|(simp only[iT2]at *;omega)) a) fun f1 d3=>?_;exact .mk ⟨w,by dsimp only;omega⟩;obtain⟨S,T⟩:=q53;dsimp only at d i;simp only[d,nf];exact .mk (by dsimp only;omega);refine bW (T50 a.Title) fun Y=>?_;refine Ob (P:=fun r=>¬r=true->¬(!Y)=true) ?_ fun Z J=>?_;refine Oi (fun _=>.mk (fun h=>absurd rfl h)) (fun c86=>?_);refine bW (Ji) fun f4=>?_;exact .mk (fun _=>c86);refine Ob (P:=fun r=>¬r=true->¬Z=true) ?_ fun f6 d4=>?_;refine Oi (fun _=>.mk (fun h=>absurd rfl h)) (fun c89=>?_);have e1:=J c89;refine bW (Ji) fun f5=>?_;exact .mk (fun _=>c89);refine Ob (kN (by first|omega|(simp only[iT2]at *;omega)) a) fun f7 d5=>?_;exact .mk (by omega)
theorem pB1 {x1:Y0} (a:x1.sm):Ok (Ls x1) (fun _=>True):=by
 unfold Ls;exact bB
theorem gW1 {x1 g:Int} {x3 h:Int} {i j k:Int} {b:YJ} {a:aA YZ} (c:b.sm) (e:a.length+1<=1000000):Ok (Co x1 g x3 h i j k b a) (fun v=>v.length<=a.length+1):=by
 unfold Co;refine Ob (fP (Q:=fun v=>v.length=a.length+1) (by omega) (by simp)) fun f d=>?_;exact .mk (by omega)
theorem Vd {x1 e:Int} {x3 f:Int} {g h i:Int} {j:YF} {a:aA YZ} (c:a.length+1<=1000000):Ok (sF x1 e x3 f g h i j a) (fun v=>v.length<=a.length+1):=by
 unfold sF;refine Ob (fP (Q:=fun v=>v.length=a.length+1) (by omega) (by simp)) fun d b=>?_;exact .mk (by omega)
theorem Ve {x1 g:Int} {x3 h:Int} {i j k:Int} {b:YM} {a:aA YZ} (c:b.sm) (e:a.length+1<=1000000):Ok (sG x1 g x3 h i j k b a) (fun v=>v.length<=a.length+1):=by
 unfold sG;refine Ob (fP (Q:=fun v=>v.length=a.length+1) (by omega) (by simp)) fun f d=>?_;exact .mk (by omega)
theorem Vf {x1 g:Int} {x3 h:Int} {i j k:Int} {b:YE} {a:aA YZ} (c:b.sm) (e:a.length+1<=1000000):Ok (sH x1 g x3 h i j k b a) (fun v=>v.length<=a.length+1):=by
 unfold sH;refine Ob (fP (Q:=fun v=>v.length=a.length+1) (by omega) (by simp)) fun f d=>?_;exact .mk (by omega)
theorem Vg {x1 e:Int} {x3 f:Int} {g h i:Int} {j:YN} {a:aA YZ} (c:a.length+1<=1000000):Ok (sI x1 e x3 f g h i j a) (fun v=>v.length<=a.length+1):=by
 unfold sI;refine Ob (fP (Q:=fun v=>v.length=a.length+1) (by omega) (by simp)) fun d b=>?_;exact .mk (by omega)
theorem pC1 {x1:Y0} {x2:aA YZ} (k:x1.sm) (j6:x2.length+3044<=1000000):Ok (Lt x1 x2) (fun v=>v.length<=x2.length+3044):=by
 unfold Lt;have e6:=k.Parts;refine Ob (P:=fun r=>r.length<=x2.length+24) (bJ (l:=x1.Parts) (fun q=>q.2.1) (fun i q=>q.2.2.length<=x2.length+i*6) (iL2 k.Parts (by decide)) rfl (by dsimp only;omega) (fun j7 b7 q109 f4 a0 c C m w K=>?_) (fun q109 c m=>?_)) fun e1 k1=>?_;obtain⟨g3,g4,g5⟩:=q109;dsimp only at c C w K m;simp only[C,w,nt];have T:=k.PartsE _ a0;refine Ob (gW1 T (by first|omega|(simp only[iT2]at *;omega))) fun e0 h3=>?_;have e7:=T.Staves;refine Ob (P:=fun r=>r.2.length<=e0.length+5) (bJ (l:=b7.Staves) (fun q=>q.2.1) (fun i q=>q.2.2.length<=e0.length+i*1) (iL2 T.Staves (by decide)) rfl (by dsimp only;omega) (fun h8 g9 q125 f5 e4 d D n z L=>?_) (fun q125 d n=>?_)) fun⟨j9,k0⟩ e3=>?_;obtain⟨g6,g7,g8⟩:=q125;dsimp only at d D z L n;simp only[D,w,z,nt];refine Ob (Vd (by first|omega|(simp only[iT2]at *;omega))) fun j8 h4=>?_;exact .mk ⟨L,by dsimp only;omega⟩;obtain⟨g6,g7,g8⟩:=q125;dsimp only at d n;simp only[d,nf];exact .mk (by dsimp only;omega)
 try dsimp only at e3
 exact .mk ⟨K,by dsimp only;omega⟩;obtain⟨g3,g4,g5⟩:=q109;dsimp only at c m;simp only[c,nf];exact .mk (by dsimp only;omega);have e8:=k.Measures;refine Ob (P:=fun r=>r.length<=e1.length+3010) (bJ (l:=x1.Measures) (fun q=>q.1) (fun i q=>q.2.length<=e1.length+i*301) (iL2 k.Measures (by decide)) rfl (by dsimp only;omega) (fun h9 b8 q140 f6 b0 e E o a M=>?_) (fun q140 e o=>?_)) fun Z j1=>?_;obtain⟨d2,d3⟩:=q140;dsimp only at e E a M o;simp only[E,a,nt];have y:=k.MeasuresE _ b0;refine Ob (Ve y (by first|omega|(simp only[iT2]at *;omega))) fun Y h5=>?_;have e9:=y.Cells;refine Ob (P:=fun r=>r.length<=Y.length+300) (bJ (l:=b8.Cells) (fun q=>q.1) (fun i q=>q.2.length<=Y.length+i*60) (iL2 y.Cells (by decide)) rfl (by dsimp only;omega) (fun i0 b9 q156 f7 b4 f F p b N=>?_) (fun q156 f p=>?_)) fun i7 j2=>?_;obtain⟨d4,W⟩:=q156;dsimp only at f F b N p;simp only[F,a,b,nt];have U:=y.CellsE _ b4;have f0:=U.Voices;refine Ob (P:=fun r=>r.length<=W.length+60) (bJ (l:=b9.Voices) (fun q=>q.1) (fun i q=>q.2.length<=W.length+i*20) (iL2 U.Voices (by decide)) rfl (by dsimp only;omega) (fun i1 d0 q171 f8 b5 g G s x O=>?_) (fun q171 g s=>?_)) fun i6 j3=>?_;obtain⟨d5,X⟩:=q171;dsimp only at g G x O s;simp only[G,a,b,x,nt];have V:=U.VoicesE _ b5;have f1:=V.Events;refine Ob (P:=fun r=>r.length<=X.length+20) (bJ (l:=d0.Events) (fun q=>q.1) (fun i q=>q.2.length<=X.length+i*1) (iL2 V.Events (by decide)) rfl (by dsimp only;omega) (fun i2 h0 q187 f9 b6 h H t A R=>?_) (fun q187 h t=>?_)) fun i5 j4=>?_;obtain⟨d6,d7⟩:=q187;dsimp only at h H A R t;simp only[H,a,b,x,A,nt];have d1:=V.EventsE _ b6;refine Ob (Vf d1 (by first|omega|(simp only[iT2]at *;omega))) fun i4 h6=>?_;exact .mk ⟨R,by dsimp only;omega⟩;obtain⟨d6,d7⟩:=q187;dsimp only at h t;simp only[h,nf];exact .mk (by dsimp only;omega);exact .mk ⟨O,by dsimp only;omega⟩;obtain⟨d5,X⟩:=q171;dsimp only at g s;simp only[g,nf];exact .mk (by dsimp only;omega);exact .mk ⟨N,by dsimp only;omega⟩;obtain⟨d4,W⟩:=q156;dsimp only at f p;simp only[f,nf];exact .mk (by dsimp only;omega);exact .mk ⟨M,by dsimp only;omega⟩;obtain⟨d2,d3⟩:=q140;dsimp only at e o;simp only[e,nf];exact .mk (by dsimp only;omega);have f2:=k.Spanners;refine Ob (P:=fun r=>r.length<=Z.length+10) (bJ (l:=x1.Spanners) (fun q=>q.1) (fun i q=>q.2.length<=Z.length+i*1) (iL2 k.Spanners (by decide)) rfl (by dsimp only;omega) (fun i3 h2 q205 g1 e5 j J u B S=>?_) (fun q205 j u=>?_)) fun j0 j5=>?_;obtain⟨d8,d9⟩:=q205;dsimp only at j J B S u;simp only[J,B,nt];refine Ob (Vg (by first|omega|(simp only[iT2]at *;omega))) fun i9 h7=>?_;exact .mk ⟨S,by dsimp only;omega⟩;obtain⟨d8,d9⟩:=q205;dsimp only at j u;simp only[j,nf];exact .mk (by dsimp only;omega);exact .mk (by omega)
theorem T53 {x1:Y0} (a:x1.sm):Ok (F53 x1) (fun v=>v.length<=4000):=by
 unfold F53;refine bW (pB1 a) fun _=>?_;refine Ob (pC1 a (by first|omega|(simp only[iT2]at *;omega))) fun c b=>?_;exact .mk (by simp only[iT2]at *;omega)
theorem T54 {x1:YZ}:Ok (F54 x1) (fun _=>True):=by
 unfold F54;refine bW (Ji) fun b=>?_;refine Ob (P:=fun r=>r=true->b=true) ?_ fun c a=>?_;refine Oi (fun c212=>?_) (fun _=>.mk (fun h=>by cases h));refine bW (Ji) fun x3=>?_;exact .mk (fun _=>c212);exact bB
theorem T55 {x1:Y0} {j:Int} (e:x1.sm):Ok (F55 x1 j) (fun _=>True):=by
 unfold F55;have g:=e.Last;refine pH (l:=x1.Last) (fun q=>q) (iL2 e.Last (by decide)) rfl (fun i h k f a c b d=>?_) (fun k a=>?_) fun m=>?_;simp only[c,b,nt];refine Oi (fun c225=>?_) (fun c225=>?_);exact bB;exact .mk d;simp only[a,nf];exact bB;rcases m with n|_;exact bB;exact bB
theorem pD1 {x1:aA YV} {y:Y0} {x3:Int} (W:x1.length+4001<=1000000) (c:y.sm):Ok (Th x1 y x3) (fun v=>x1.length<=v.length/\v.length<=x1.length+4001):=by
 unfold Th;refine Ob (T53 c) fun x4 n=>?_;have C:=n;refine Ob (P:=fun r=>x1.length<=r.2.length/\r.2.length<=x1.length+4000) (bJ (l:=x4) (fun q=>q.1) (fun i q=>x1.length<=q.2.2.length/\q.2.2.length<=x1.length+i*1) (iL2 n (by decide)) rfl (by dsimp only;omega) (fun T o q238 F z a g d e k=>?_) (fun q238 a d=>?_)) fun⟨a0,b0⟩ w=>?_;obtain⟨G,s,H⟩:=q238;dsimp only at a g e k d;simp only[g,e,nt];refine bW (T54) fun J=>?_;refine Ob (P:=fun r=>¬r=true->¬((!J)||(fS s o false))=true) ?_ fun Y M=>?_;refine Oi (fun _=>.mk (fun h=>absurd rfl h)) (fun c242=>?_);refine bW (T55 c) fun X=>?_;exact .mk (fun _=>c242);refine Ob (kN (by first|omega|(simp only[iT2]at *;omega)) c) fun Z N=>?_;exact .mk ⟨k,by dsimp only;omega⟩;obtain⟨G,s,H⟩:=q238;dsimp only at a d;simp only[a,nf];exact .mk (by dsimp only;omega)
 try dsimp only at w
 have D:=c.Last;refine pH (l:=y.Last) (fun q=>q.2) (iL2 c.Last (by decide)) rfl (fun U L q255 A b j f m=>?_) (fun q255 b=>?_) fun b8=>?_;obtain⟨t,u⟩:=q255;dsimp only at b j f m;simp only[j,f,nt];refine Ob (P:=fun r=>¬r=true->¬t=true) ?_ fun K p=>?_;refine Oi (fun _=>.mk (fun h=>absurd rfl h)) (fun c258=>?_);refine bW (T54) fun b4=>?_;exact .mk (fun _=>c258);refine Ob (P:=fun r=>¬r=true->¬K=true) ?_ fun b7 O=>?_;refine Oi (fun _=>.mk (fun h=>absurd rfl h)) (fun c261=>?_);have V:=p c261;refine Ob (P:=fun r=>r=true->(decide (u>0))=true) ?_ fun b6 R=>?_;refine Oi (fun c264=>?_) (fun _=>.mk (fun h=>by cases h));have E:=c.Last;refine Ob (P:=fun x=>x∈y.Last) (cF (by(simp only[nm]at *;rw[bM (by omega) (by omega)];omega)) (by(simp only[nm]at *;rw[bM (by omega) (by omega)];omega)) (fun _ h _=>h)) fun b5 B=>?_;exact .mk (fun _=>c264);exact .mk (fun _=>c261);exact .mk m;obtain⟨t,u⟩:=q255;dsimp only at b;simp only[b,nf];exact bB;refine Ob (kN (by first|omega|(simp only[iT2]at *;omega)) c) fun b9 S=>?_;exact .mk (by omega)
theorem T56 {x1:Y0} (a:x1.sm):Ok (F56 x1) (fun v=>v<=9223372036854775807):=by
 unfold F56;have hp:=a.Parts;refine Ob (P:=fun v=>v<=9223372036854775807) (bJ (l:=x1.Parts) (fun q=>q.2) (fun i q=>q.1<=9223372036854775807) (by omega) rfl (by decide) (fun i e q d c hi hl _ hg hw=>?_) (fun q hi b=>?_)) fun v hv=>.mk hv;obtain⟨n,x⟩:=q;dsimp only at hi hl hg hw;simp only[hl,hg,nt];exact .mk ⟨hw,(Vc _).2⟩;obtain⟨n,x⟩:=q;dsimp only at hi b;simp only[hi,nf];exact .mk b
theorem T58 {x1:Int} {C:YM} {x3:Int} (m:C.sm):Ok (F58 x1 C x3) (fun _=>True):=by
 unfold F58;have v:=m.Cells;refine pH (l:=C.Cells) (fun q=>q.2) (iL2 m.Cells (by decide)) rfl (fun H e q279 n b g d j=>?_) (fun q279 b=>?_) fun U=>?_;obtain⟨u,A⟩:=q279;dsimp only at b g d j;simp only[g,d,nt];have a:=m.CellsE _ n;refine Ob (P:=fun r=>¬r=true->¬(u||((e.Voices.length:Int)==0))=true) ?_ fun B t=>?_;refine Oi (fun _=>.mk (fun h=>absurd rfl h)) (fun c283=>?_);have w:=a.Voices;refine Ob (P:=fun x=>x∈e.Voices) (cF (by omega) (by(simp only[nm]at *;omega)) (fun _ h _=>h)) fun O o=>?_;have L:=a.VoicesE _ o;exact .mk (fun _=>c283);refine Ob (P:=fun r=>¬r=true->¬B=true) ?_ fun S G=>?_;refine Oi (fun _=>.mk (fun h=>absurd rfl h)) (fun c289=>?_);have K:=t c289;have y:=a.Voices;refine Ob (P:=fun x=>x∈e.Voices) (cF (by(simp only[nm]at *;rw[bM (by omega) (by omega)];omega)) (by(simp only[nm]at *;rw[bM (by omega) (by omega)];omega)) (fun _ h _=>h)) fun R p=>?_;have M:=a.VoicesE _ p;exact .mk (fun _=>c289);have z:=a.Voices;refine pH (l:=e.Voices) (fun q=>q.2) (iL2 a.Voices (by decide)) rfl (fun J F q305 s c i f k=>?_) (fun q305 c=>?_) fun T=>?_;obtain⟨D,E⟩:=q305;dsimp only at c i f k;simp only[i,d,f,nt];have N:=a.VoicesE _ s;exact .mk k;obtain⟨D,E⟩:=q305;dsimp only at c;simp only[c,nf];exact bB;exact .mk j;obtain⟨u,A⟩:=q279;dsimp only at b;simp only[b,nf];exact bB;exact bB
theorem yY1 {x1:Int} {i:aA YV} {x3:Y0} {t:Int} (p:i.length+10<=1000000) (f:x3.sm):Ok (Yq x1 i x3 t) (fun v=>i.length<=v.length/\v.length<=i.length+10):=by
 unfold Yq;have j:=f.Measures;refine og x3.Measures i 10 1 (iL2 f.Measures (by decide)) (fun n l q319 k g a d b c e=>?_) (fun q319 a b=>?_) fun s o=>?_;obtain⟨u,w⟩:=q319;dsimp only at a d c e b;simp only[d,c,nt];have h:=f.MeasuresE _ g;refine bW (T58 h) fun q=>?_;refine Ob (kN (by first|omega|(simp only[iT2]at *;omega)) f) fun r m=>?_;exact .mk ⟨e,by dsimp only;omega⟩;obtain⟨u,w⟩:=q319;dsimp only at a b;simp only[a,nf];exact .mk (by dsimp only;omega);exact .mk (by omega)
theorem pE1 {x1:aA YV} {d:Y0} {x3:Int} (e:x1.length+10<=1000000) (a:d.sm):Ok (Ti x1 d x3) (fun v=>x1.length<=v.length/\v.length<=x1.length+10):=by
 unfold Ti;refine Ob (T56 a) fun f b=>?_;refine Ob (yY1 (by first|omega|(simp only[iT2]at *;omega)) a) fun g c=>?_;exact .mk (by omega)
theorem yZ1:Ok (Yr) (fun _=>True):=by
 unfold Yr;exact bB
theorem zA1 {x1:Int}:Ok (Yt x1) (fun _=>True):=by
 unfold Yt;refine Oi (fun c326=>?_) (fun c326=>?_);exact bB;refine bW (yZ1) fun b=>?_;refine Ob (cF (Q:=fun _=>True) (by(simp only[nm]at *;rw[bM (by omega) (by omega)];omega)) (by(simp only[nm,nl]at *;rw[bM (by omega) (by omega)];omega)) (fun _ _ _=>trivial)) fun x3 a=>?_;exact bB
theorem T59 {x1:Int}:Ok (F59 x1) (fun _=>True):=by
 unfold F59;refine bW (zA1) fun⟨a,x3⟩=>?_;exact bB
theorem zB1 {x1:YX}:Ok (Yu x1) (fun _=>True):=by
 unfold Yu;refine Oi (fun _=>bB) (fun _=>?_);refine Ob (P:=fun _=>True) (iW (fun q=>q.2.2) 6 (fun _=>True) (by decide) (by decide) trivial (fun q _ h1 h2=>?_)) fun r _=>?_;obtain⟨a,n,i⟩:=q;dsimp only at h1 h2 ⊢;refine Oi (fun hc=>?_) (fun _=>bB);simp only[iP2]at hc;refine Ob (cF (Q:=fun _=>True) h1 hc (fun _ _ _=>trivial)) fun x _=>?_;refine Oi (fun _=>bB) (fun _=>?_);refine Ob (P:=fun _=>True) (Oi (fun _=>bB) (fun _=>bB)) fun v _=>.mk ⟨hc,h2 hc,trivial⟩;rcases r with⟨a,b⟩|⟨a,b⟩<;>exact bB
theorem zC1 {x1:YX}:Ok (Yv x1) (fun v=>v=0->x1.Unit≠0):=by
 unfold Yv;refine Oi (fun c330=>?_) (fun c330=>?_);exact .mk (by omega);refine Oi (fun c331=>?_) (fun c331=>?_);exact .mk (by omega);refine bW (zB1) fun a=>?_;refine Oi (fun c333=>?_) (fun c333=>?_);exact .mk (by omega);exact .mk (by(simp only[nm]at *;omega))
theorem zD1 {x1:YX} (b:x1.Unit≠0):Ok (Yw x1) (fun _=>True):=by
 unfold Yw;refine Ob (sL (by omega)) fun c a=>?_;exact bB
theorem zE1 {x1:YX} (a:x1.Unit≠0):Ok (Yx x1) (fun _=>True):=by
 unfold Yx;refine bW (zD1 (by omega)) fun b=>?_;exact bB
theorem zF1 {x1:YX}:Ok (Yy x1) (fun _=>True):=by
 unfold Yy;refine Ob (zC1) fun b a=>?_;refine Oi (fun c337=>?_) (fun c337=>?_);exact bB;refine bW (zE1 (by(simp only[nm]at *;omega))) fun x3=>?_;exact bB
theorem T61 {x1:YM} (b:x1.sm):Ok (Yz x1) (fun _=>True):=by
 unfold Yz;refine bW (zF1) fun⟨c,x3⟩=>?_;refine Oi (fun c340=>?_) (fun c340=>?_);exact bB;refine Oi (fun c341=>?_) (fun c341=>?_);exact bB;refine bW ?_ fun d=>?_;refine Oi (fun c343=>?_) (fun c343=>?_);exact bB;exact bB;refine Ob (Dl (by omega)) fun e a=>?_;refine Oi (fun c345=>?_) (fun c345=>?_);exact bB;refine Oi (fun c346=>?_) (fun c346=>?_);exact bB;exact bB
theorem T60 {x1:Int} {B:YM} (k:B.sm):Ok (F60 x1 B) (fun _=>True):=by
 unfold F60;refine bW (T61 k) fun⟨x3,X⟩=>?_;have y:=k.Cells;refine pH (l:=B.Cells) (fun q=>q.2) (iL2 k.Cells (by decide)) rfl (fun K m q358 o a e c g=>?_) (fun q358 a=>?_) fun W=>?_;obtain⟨C,D⟩:=q358;dsimp only at a e c g;simp only[e,c,nt];have j:=k.CellsE _ o;have z:=j.Clefs;refine pH (l:=m.Clefs) (fun q=>q.2) (iL2 j.Clefs (by decide)) rfl (fun L G q371 v b f d i=>?_) (fun q371 b=>?_) fun V=>?_;obtain⟨t,u⟩:=q371;dsimp only at b f d i;simp only[f,c,d,nt];refine Ob (P:=fun r=>¬r=true->¬t=true) ?_ fun E n=>?_;refine Oi (fun _=>.mk (fun h=>absurd rfl h)) (fun c374=>?_);refine bW (T59) fun O=>?_;exact .mk (fun _=>c374);refine Ob (P:=fun r=>¬r=true->¬E=true) ?_ fun F p=>?_;refine Oi (fun _=>.mk (fun h=>absurd rfl h)) (fun c377=>?_);have M:=n c377;refine bW (Ji) fun R=>?_;exact .mk (fun _=>c377);refine Ob (P:=fun r=>¬r=true->¬F=true) ?_ fun U H=>?_;refine Oi (fun _=>.mk (fun h=>absurd rfl h)) (fun c381=>?_);have s:=p c381;have N:=n s;refine Ob (P:=fun r=>r=true->(decide (u>0))=true) ?_ fun T J=>?_;refine Oi (fun c385=>?_) (fun _=>.mk (fun h=>by cases h));have A:=j.Clefs;refine Ob (P:=fun x=>x∈m.Clefs) (cF (by(simp only[nm]at *;rw[bM (by omega) (by omega)];omega)) (by(simp only[nm]at *;rw[bM (by omega) (by omega)];omega)) (fun _ h _=>h)) fun S w=>?_;exact .mk (fun _=>c385);exact .mk (fun _=>c381);exact .mk i;obtain⟨t,u⟩:=q371;dsimp only at b;simp only[b,nf];exact bB;exact .mk g;obtain⟨C,D⟩:=q358;dsimp only at a;simp only[a,nf];exact bB;exact bB
theorem gX1 {x1:aA YV} {k:Y0} {x3:Int} (p:x1.length+10<=1000000) (f:k.sm):Ok (Cp x1 k x3) (fun v=>x1.length<=v.length/\v.length<=x1.length+10):=by
 unfold Cp;have i:=f.Measures;refine og k.Measures x1 10 1 (iL2 f.Measures (by decide)) (fun n l q400 j g a d b c e=>?_) (fun q400 a b=>?_) fun s o=>?_;obtain⟨t,u⟩:=q400;dsimp only at a d c e b;simp only[d,c,nt];have h:=f.MeasuresE _ g;refine bW (T60 h) fun q=>?_;refine Ob (kN (by first|omega|(simp only[iT2]at *;omega)) f) fun r m=>?_;exact .mk ⟨e,by dsimp only;omega⟩;obtain⟨t,u⟩:=q400;dsimp only at a b;simp only[a,nf];exact .mk (by dsimp only;omega);exact .mk (by omega)
theorem pF1 {x1:aA YV} {w:Y0} {x3:Int} (G:x1.length+30<=1000000) (f:w.sm):Ok (Tj x1 w x3) (fun v=>x1.length<=v.length/\v.length<=x1.length+30):=by
 unfold Tj;have q:=f.Parts;refine og w.Parts x1 20 5 (iL2 f.Parts (by decide)) (fun C n q416 s m a h c e j=>?_) (fun q416 a c=>?_) fun L E=>?_;obtain⟨u,o⟩:=q416;dsimp only at a h e j c;simp only[h,e,nt];have l:=f.PartsE _ m;have r:=l.Staves;refine og n.Staves o 5 1 (iL2 l.Staves (by decide)) (fun D z q430 t p b i d g k=>?_) (fun q430 b d=>?_) fun K F=>?_;obtain⟨x,y⟩:=q430;dsimp only at b i g k d;simp only[i,e,g,nt];refine bW (T59) fun H=>?_;refine Ob (kN (by first|omega|(simp only[iT2]at *;omega)) f) fun J A=>?_;exact .mk ⟨k,by dsimp only;omega⟩;obtain⟨x,y⟩:=q430;dsimp only at b d;simp only[b,nf];exact .mk (by dsimp only;omega);exact .mk ⟨j,by dsimp only;omega⟩;obtain⟨u,o⟩:=q416;dsimp only at a c;simp only[a,nf];exact .mk (by dsimp only;omega);refine Ob (gX1 (by first|omega|(simp only[iT2]at *;omega)) f) fun M B=>?_;exact .mk (by omega)
theorem zG1 {x1:Int}:Ok (Zb x1) (fun _=>True):=by
 unfold Zb;refine Oi (fun c435=>?_) (fun c435=>?_);exact bB;exact bB
theorem T63 {x1:Int} {a:YL}:Ok (F63 x1 a) (fun _=>True):=by
 unfold F63;refine Ob zG1 fun c _=>?_;refine Oi (fun _=>bB) (fun _=>?_);refine Oi (fun _=>bB) (fun _=>?_);have hw:=Vc (x1+(bD ((bD (7*a.Semitones))-(bD (12*a.Steps)))));generalize bD (x1+(bD ((bD (7*a.Semitones))-(bD (12*a.Steps)))))=x0 at hw ⊢;refine Ob (P:=fun v=> -9223372036854775808<=v/\v<=7) (bS (fun x=> -9223372036854775808<=x/\x<=9223372036854775807) (fun x=>(x+9223372036854775808).toNat) (fun x b=>?_) bA x0 hw (by simp only[bA];omega)) fun x1 h1=>?_;refine Oi (fun hc=>?_) (fun hc=>?_)<;>simp only[iP2]at hc;rw[bM (by omega) (by omega)];exact .mk ⟨by omega,by omega⟩;exact .mk (by omega);refine Ob (P:=fun v=>True) (bS (fun x=> -9223372036854775808<=x/\x<=7) (fun x=>(7-x).toNat) (fun x b=>?_) bA x1 h1 (by simp only[bA];omega)) fun a _=>bB;refine Oi (fun hc=>?_) (fun hc=>?_)<;>simp only[iP2]at hc;rw[bM (by omega) (by omega)];exact .mk ⟨by omega,by omega⟩;exact bB
theorem T62 {x1:Int} {s:YM} {x3:YK} (g:s.sm) (e:x3.s'.sm):Ok (F62 x1 s x3) (fun _=>True):=by
 unfold F62;refine bW (T61 g) fun⟨y,x⟩=>?_;refine Ob (P:=fun r=>¬r=true->¬(x !=0)=true) ?_ fun A n=>?_;refine Oi (fun _=>.mk (fun h=>absurd rfl h)) (fun c438=>?_);refine bW (Ji) fun z=>?_;exact .mk (fun _=>c438);have i:=e.Parts;refine pH (l:=x3.s'.Parts) (fun q=>q.2) (iL2 e.Parts (by decide)) rfl (fun o m q450 f a c b d=>?_) (fun q450 a=>?_) fun w=>?_;obtain⟨j,k⟩:=q450;dsimp only at a c b d;simp only[c,b,nt];have p:=e.PartsE _ f;refine bW ?_ fun v=>?_;refine Oi (fun c454=>?_) (fun c454=>?_);refine bW (T63) fun⟨t,u⟩=>?_;exact bB;exact bB;exact .mk d;obtain⟨j,k⟩:=q450;dsimp only at a;simp only[a,nf];exact bB;exact bB
theorem gY1 {x1:aA YV} {k:Y0} {x3:Int} (p:x1.length+10<=1000000) (c:k.sm):Ok (Cq x1 k x3) (fun v=>x1.length<=v.length/\v.length<=x1.length+10):=by
 unfold Cq;have i:=c.Measures;refine og k.Measures x1 10 1 (iL2 c.Measures (by decide)) (fun n l q467 j g a e b d f=>?_) (fun q467 a b=>?_) fun s o=>?_;obtain⟨t,u⟩:=q467;dsimp only at a e d f b;simp only[e,d,nt];have h:=c.MeasuresE _ g;refine bW (T62 h c) fun q=>?_;refine Ob (kN (by first|omega|(simp only[iT2]at *;omega)) c) fun r m=>?_;exact .mk ⟨f,by dsimp only;omega⟩;obtain⟨t,u⟩:=q467;dsimp only at a b;simp only[a,nf];exact .mk (by dsimp only;omega);exact .mk (by omega)
theorem pG1 {x1:aA YV} {c:Y0} {x3:Int} (d:x1.length+10<=1000000) (a:c.sm):Ok (Tk x1 c x3) (fun v=>x1.length<=v.length/\v.length<=x1.length+10):=by
 unfold Tk;refine Ob (gY1 (by first|omega|(simp only[iT2]at *;omega)) a) fun e b=>?_;exact .mk (by omega)
theorem uB {x1 a:Int}:Ok (pG x1 a) (fun _=>True):=by
 unfold pG;refine Oi (fun c473=>?_) (fun c473=>?_);exact bB;exact bB
theorem Vh {x1:aA Int} (e:x1.length<=20):Ok (Gk x1) (fun _=>True):=by
 unfold Gk;have g:=e;refine pH (l:=x1) (fun q=>q) (iL2 e (by decide)) rfl (fun i h x3 f a c b d=>?_) (fun x3 a=>?_) fun j=>?_;simp only[c,b,nt];refine Oi (fun c485=>?_) (fun c485=>?_);exact bB;exact .mk d;simp only[a,nf];exact bB;rcases j with k|_;exact bB;exact bB
theorem pH1 {x1:Int}:Ok (Tl x1) (fun _=>True):=by
 unfold Tl;exact bB
theorem zH1 {x1:Int}:Ok (Zd x1) (fun _=>True):=by
 unfold Zd;refine Oi (fun c486=>?_) (fun c486=>?_);exact bB;exact bB
theorem zI1 {x1:YE} (c:x1.sm):Ok (Ze x1) (fun v=>v.sm):=by
 unfold Ze;refine Ob (P:=fun r=>¬r=true->¬(x1.Kind==1)=true) ?_ fun x3 a=>?_;refine Oi (fun _=>.mk (fun h=>absurd rfl h)) (fun c488=>?_);refine bW (pH1) fun d=>?_;exact .mk (fun _=>c488);refine Oi (fun c490=>?_) (fun c490=>?_);exact .mk (by first|assumption|exact⟨jB2 _,jB2 _,jB2 _,fun _ h=>nomatch h⟩);have b:=a c490;refine bW ?_ fun e=>?_;refine Oi (fun c493=>?_) (fun c493=>?_);exact bB;exact bB;refine bW ?_ fun g=>?_;refine Oi (fun c495=>?_) (fun c495=>?_);refine bW (zH1) fun f=>?_;exact bB;exact bB;exact .mk (by first|assumption|exact⟨jB2 _,jB2 _,jB2 _,fun _ h=>nomatch h⟩)
theorem zJ1 {x1 m:aA YB} (e:x1.length<=12) (f:m.length<=12):Ok (Zf x1 m) (fun _=>True):=by
 unfold Zf;refine Oi (fun c497=>?_) (fun c497=>?_);exact bB;have j:=e;refine pH (l:=x1) (fun q=>q) (iL2 e (by decide)) rfl (fun o n p g a c b d=>?_) (fun p a=>?_) fun r=>?_;simp only[c,b,nt];have k:=f;refine Ob (P:=fun x=>x∈m) (cF (by omega) (by(simp only[nm]at *;omega)) (fun _ h _=>h)) fun s i=>?_;refine Oi (fun c512=>?_) (fun c512=>?_);exact bB;exact .mk d;simp only[a,nf];exact bB;rcases r with _|_;exact bB;exact bB
theorem zK1 {x1 m:aA YD} (e:x1.length<=12) (f:m.length<=12):Ok (Zg x1 m) (fun _=>True):=by
 unfold Zg;refine Oi (fun c513=>?_) (fun c513=>?_);exact bB;have j:=e;refine pH (l:=x1) (fun q=>q) (iL2 e (by decide)) rfl (fun o n p g a c b d=>?_) (fun p a=>?_) fun r=>?_;simp only[c,b,nt];have k:=f;refine Ob (P:=fun x=>x∈m) (cF (by omega) (by(simp only[nm]at *;omega)) (fun _ h _=>h)) fun s i=>?_;refine Oi (fun c528=>?_) (fun c528=>?_);exact bB;exact .mk d;simp only[a,nf];exact bB;rcases r with _|_;exact bB;exact bB
theorem zL1 {x1 k:aA YY} (g:x1.length<=12) (i:∀y∈x1,y.sm) (m:k.length<=12) (j:∀y∈k,y.sm):Ok (Zh x1 k) (fun _=>True):=by
 unfold Zh;refine Oi (fun c529=>?_) (fun c529=>?_);exact bB;have n:=g;refine pH (l:=x1) (fun q=>q) (iL2 g (by decide)) rfl (fun r p u d a c b f=>?_) (fun u a=>?_) fun v=>?_;simp only[c,b,nt];have s:=i _ d;have o:=m;refine Ob (P:=fun x=>x∈k) (cF (by omega) (by(simp only[nm]at *;omega)) (fun _ h _=>h)) fun w e=>?_;have t:=j _ e;refine Oi (fun c546=>?_) (fun c546=>?_);exact bB;exact .mk f;simp only[a,nf];exact bB;rcases v with _|_;exact bB;exact bB
theorem zM1 {x1 a:YE} (b:x1.sm) (c:a.sm):Ok (Zi x1 a) (fun _=>True):=by
 unfold Zi;refine Ob (P:=fun r=>r=true->(((((((x1.Kind==a.Kind)&&(((x1.Value.Log==a.Value.Log)&&((x1.Value.Dots==a.Value.Dots)&&true))!=false))&&(x1.Articulations==a.Articulations))&&(x1.Ornament==a.Ornament))&&(x1.Dynamic==a.Dynamic))&&(x1.Stem==a.Stem))&&(x1.Beam==a.Beam))=true) ?_ fun k d=>?_;refine Oi (fun c548=>?_) (fun _=>.mk (fun h=>by cases h));refine bW (zJ1 b.Heads c.Heads) fun x3=>?_;exact .mk (fun _=>c548);refine Ob (P:=fun r=>r=true->k=true) ?_ fun l e=>?_;refine Oi (fun c551=>?_) (fun _=>.mk (fun h=>by cases h));have i:=d c551;refine bW (zK1 b.Graces c.Graces) fun m=>?_;exact .mk (fun _=>c551);refine Ob (P:=fun r=>r=true->l=true) ?_ fun o g=>?_;refine Oi (fun c555=>?_) (fun _=>.mk (fun h=>by cases h));have f:=e c555;have j:=d f;refine bW (zL1 b.Lyrics b.LyricsE c.Lyrics c.LyricsE) fun n=>?_;exact .mk (fun _=>c555);exact bB
theorem pI1 {x1:YA}:Ok (Tm x1) (fun v=>v=0-> -1<=x1.Log/\x1.Log<=8/\0<=x1.Dots/\x1.Dots<=3):=by
 unfold Tm;refine Oi (fun c559=>?_) (fun c559=>?_);exact .mk (by omega);exact .mk (by(simp only[nm]at *;omega))
theorem zN1:Ok (Zj) (fun _=>True):=by
 unfold Zj;exact bB
theorem pJ1 {x1:YH} (b:0<=x1.Step/\x1.Step<=6):Ok (Tn x1) (fun _=>True):=by
 unfold Tn;refine bW (zN1) fun c=>?_;refine Ob (cF (Q:=fun _=>True) (by omega) (by(simp only[nm,nl]at *;omega)) (fun _ _ _=>trivial)) fun x3 a=>?_;exact bB
theorem zO1 {x1:YH}:Ok (Zk x1) (fun v=>v=0->0<=x1.Step/\x1.Step<=6):=by
 unfold Zk;refine Oi (fun c562=>?_) (fun c562=>?_);exact .mk (by omega);refine bW (pJ1 (by(simp only[nm]at *;omega))) fun a=>?_;refine Oi (fun c564=>?_) (fun c564=>?_);exact .mk (by omega);exact .mk (by(simp only[nm]at *;omega))
theorem T73 {x1:YH}:Ok (F73 x1) (fun _=>True):=by
 unfold F73;refine Ob (zO1) fun b a=>?_;refine Oi (fun c566=>?_) (fun c566=>?_);exact bB;refine bW (pJ1 (by(simp only[nm]at *;omega))) fun x3=>?_;exact bB
theorem gZ1 {x1:YH}:Ok (Ot x1) (fun _=>True):=by
 unfold Ot;refine bW (T73) fun⟨a,x3⟩=>?_;refine Oi (fun c569=>?_) (fun c569=>?_);exact bB;exact bB
theorem zP1 {x1:YB}:Ok (Zl x1) (fun _=>True):=by
 unfold Zl;refine bW (gZ1) fun⟨a,x3⟩=>?_;refine bW (uB) fun b=>?_;refine bW (Vh (by simp)) fun c=>?_;exact bB
theorem zQ1 {x1:aA YB} (e:x1.length<=12):Ok (Zm x1) (fun _=>True):=by
 unfold Zm;refine Oi (fun c573=>?_) (fun c573=>?_);exact bB;refine Oi (fun c574=>?_) (fun c574=>?_);exact bB;have g:=e;refine pH (l:=x1) (fun q=>q.2) (iL2 e (by decide)) rfl (fun j i q585 f a c b d=>?_) (fun q585 a=>?_) fun h=>?_;obtain⟨o,p⟩:=q585;dsimp only at a c b d;simp only[c,b,nt];refine bW (zP1) fun r=>?_;refine Oi (fun c588=>?_) (fun c588=>?_);exact bB;refine bW (gZ1) fun⟨k,m⟩=>?_;refine Oi (fun c590=>?_) (fun c590=>?_);exact bB;exact .mk d;obtain⟨o,p⟩:=q585;dsimp only at a;simp only[a,nf];exact bB;rcases h with n|_;exact bB;exact bB
theorem zR1 {x1:aA YD} (e:x1.length<=12):Ok (Zn x1) (fun _=>True):=by
 unfold Zn;refine Oi (fun c591=>?_) (fun c591=>?_);exact bB;have g:=e;refine pH (l:=x1) (fun q=>q) (iL2 e (by decide)) rfl (fun j i k f a c b d=>?_) (fun k a=>?_) fun h=>?_;simp only[c,b,nt];refine bW (gZ1) fun⟨m,n⟩=>?_;refine Oi (fun c604=>?_) (fun c604=>?_);exact bB;refine Oi (fun c605=>?_) (fun c605=>?_);exact bB;exact .mk d;simp only[a,nf];exact bB;rcases h with o|_;exact bB;exact bB
theorem zS1 {x1:YY} (a:x1.sm):Ok (Zo x1) (fun _=>True):=by
 unfold Zo;refine Oi (fun _=>bB) (fun _=>?_);refine Oi (fun _=>bB) (fun _=>?_);have hs:=a.Text;refine Ob (P:=fun _=>True) (iW (fun q=>q) (x1.Text.size:Int) (fun _=>True) (by omega) (by decide) trivial (fun i _ h1 h2=>?_)) fun r _=>?_;refine Oi (fun hc=>?_) (fun _=>bB);simp only[iP2]at hc;refine Ob (tZ h1 hc) fun b _=>?_;refine Ob (P:=fun _=>True) (Oi (fun _=>bB) (fun _=>Ob (tZ h1 hc) fun b _=>bB)) fun b _=>?_;exact Oi (fun _=>bB) (fun _=>.mk ⟨hc,h2 hc,trivial⟩);rcases r with _|_;exact bB;exact Oi (fun _=>bB) (fun _=>bB)
theorem zT1 {x1:YY} (a:x1.sm):Ok (Zp x1) (fun _=>True):=by
 unfold Zp;exact bB
theorem zU1 {x1:aA YY} (c:x1.length<=12) (b:∀y∈x1,y.sm):Ok (Zq x1) (fun _=>True):=by
 unfold Zq;refine Oi (fun c606=>?_) (fun c606=>?_);exact bB;have n:=c;refine pH (l:=x1) (fun q=>q) (iL2 c (by decide)) rfl (fun s p w f a e d i=>?_) (fun w a=>?_) fun z=>?_;simp only[e,d,nt];have k:=b _ f;refine bW (zS1 k) fun A=>?_;refine Oi (fun c620=>?_) (fun c620=>?_);exact bB;exact .mk i;simp only[a,nf];exact bB;rcases z with B|_;exact bB;refine Ob (P:=fun r=>r=true->(decide ((x1.length:Int)>0))=true) ?_ fun v j=>?_;refine Oi (fun c622=>?_) (fun _=>.mk (fun h=>by cases h));have o:=c;refine Ob (P:=fun x=>x∈x1) (cF (by(simp only[nm]at *;rw[bM (by omega) (by omega)];omega)) (by(simp only[nm]at *;rw[bM (by omega) (by omega)];omega)) (fun _ h _=>h)) fun C g=>?_;have m:=b _ g;refine bW (zT1 m) fun u=>?_;exact .mk (fun _=>c622);refine Oi (fun c628=>?_) (fun c628=>?_);have t:=j c628;exact bB;exact bB
theorem T69 {x1:YE} (a:x1.sm):Ok (Zr x1) (fun _=>True):=by
 unfold Zr;refine bW (uB) fun x=>?_;refine bW (uB) fun x3=>?_;refine bW (Vh (by simp)) fun y=>?_;refine Oi (fun c633=>?_) (fun c633=>?_);exact bB;refine bW (pH1) fun z=>?_;refine Oi (fun c635=>?_) (fun c635=>?_);exact bB;refine Ob (zI1 a) fun A b=>?_;refine bW (zM1 a b) fun B=>?_;refine Oi (fun c638=>?_) (fun c638=>?_);exact bB;refine Ob (P:=fun r=>r=true->(x1.Kind !=3)=true) ?_ fun D c=>?_;refine Oi (fun c640=>?_) (fun _=>.mk (fun h=>by cases h));refine Ob (pI1) fun C d=>?_;exact .mk (fun _=>c640);refine Oi (fun c642=>?_) (fun c642=>?_);have e:=c c642;exact bB;refine Oi (fun c644=>?_) (fun c644=>?_);refine bW (zQ1 a.Heads) fun f=>?_;refine bW (zR1 a.Graces) fun g=>?_;refine bW (zU1 a.Lyrics a.LyricsE) fun i=>?_;refine bW (Vh (by simp)) fun j=>?_;refine Oi (fun c649=>?_) (fun c649=>?_);exact bB;refine bW (uB) fun k=>?_;refine bW (uB) fun l=>?_;refine bW (uB) fun m=>?_;refine bW (uB) fun n=>?_;refine bW (uB) fun o=>?_;refine bW (Vh (by simp)) fun p=>?_;exact bB;refine bW (uB) fun q=>?_;refine bW (uB) fun s=>?_;refine bW (uB) fun t=>?_;refine bW (uB) fun u=>?_;refine bW (uB) fun v=>?_;refine bW (Vh (by simp)) fun w=>?_;exact bB
theorem zV1 {x1:YE} (a:x1.sm):Ok (Zs x1) (fun _=>True):=by
 unfold Zs;refine bW (T69 a) fun b=>?_;exact bB
theorem zW1 {x1:aA YE} (f:x1.length<=20) (g:∀y∈x1,y.sm):Ok (Zt x1) (fun _=>True):=by
 unfold Zt;have i:=f;refine pH (l:=x1) (fun q=>q) (iL2 f (by decide)) rfl (fun k j m d a c b e=>?_) (fun m a=>?_) fun n=>?_;simp only[c,b,nt];have h:=g _ d;refine bW (zV1 h) fun o=>?_;refine Oi (fun c676=>?_) (fun c676=>?_);exact bB;exact .mk e;simp only[a,nf];exact bB;rcases n with p|_;exact bB;exact bB
theorem pK1 {x1:aA YE} (b:x1.length<=20) (a:∀y∈x1,y.sm):Ok (Tq x1) (fun _=>True):=by
 unfold Tq;refine bW (zW1 b a) fun c=>?_;exact bB
theorem zX1 {x1:YO} (b:x1.sm):Ok (Zu x1) (fun _=>True):=by
 unfold Zu;refine Ob (P:=fun r=>r=true->(decide ((x1.Events.length:Int)>0))=true) ?_ fun x3 d=>?_;refine Oi (fun c679=>?_) (fun _=>.mk (fun h=>by cases h));have c:=b.Events;refine Ob (P:=fun x=>x∈x1.Events) (cF (by omega) (by(simp only[nm]at *;omega)) (fun _ h _=>h)) fun f a=>?_;have e:=b.EventsE _ a;exact .mk (fun _=>c679);exact bB
theorem zY1 {x1:YA} (b: -1<=x1.Log/\x1.Log<=8/\0<=x1.Dots/\x1.Dots<=3):Ok (Zv x1) (fun _=>True):=by
 unfold Zv;refine Ob (sM (by rw[bM (by omega) (by omega)];omega)) fun n _=>?_;refine Ob (P:=fun _=>True) (iW (fun q=>q.2.2) x1.Dots (fun _=>True) (by omega) (by dsimp only;omega) trivial (fun q _ h1 h2=>?_)) fun r _=>bB;obtain⟨a,n,i⟩:=q;dsimp only at h1 h2 ⊢;refine Oi (fun hc=>?_) (fun _=>bB);simp only[iP2]at hc;exact Ob (sL (by decide)) fun x _=>.mk ⟨hc,h2 hc,trivial⟩
theorem zZ1 {x1:YA}:Ok (Zw x1) (fun _=>True):=by
 unfold Zw;refine Ob (pI1) fun b a=>?_;refine Oi (fun c685=>?_) (fun c685=>?_);exact bB;refine bW (zY1 (by(simp only[nm]at *;omega))) fun x3=>?_;exact bB
theorem aA2 {x1:YE} (a:x1.sm):Ok (Zx x1) (fun _=>True):=by
 unfold Zx;refine bW (T69 a) fun b=>?_;refine Oi (fun c688=>?_) (fun c688=>?_);exact bB;refine bW (zZ1) fun⟨x3,c⟩=>?_;exact bB
theorem aB2 {x1:aA YE} (g:x1.length<=20) (c:∀y∈x1,y.sm):Ok (Zy x1) (fun v=>v.length<=20):=by
 unfold Zy;refine Ob (sN (by omega) (by omega) (by omega)) fun n h2=>?_;refine Ob (P:=fun v=>v.length=x1.length) (bJ (l:=x1) (fun q=>q.1) (fun _ q=>q.2.length=x1.length) (by omega) rfl (by rw[h2];simp) (fun i e q k f hi hl d hg hw=>?_) (fun q hi d=>?_)) fun v hv=>.mk (by omega);obtain⟨x,l⟩:=q;dsimp only at hi hl d hg hw;simp only[hl,hg,nt];refine Ob (aA2 (c e f)) fun⟨a,b⟩ _=>?_;refine Ob (iV (by omega) (by omega)) fun j h=>?_;refine Ob (Md (by omega)) fun m f=>.mk ⟨hw,by dsimp only;omega⟩;obtain⟨x,l⟩:=q;dsimp only at hi d;simp only[hi,nf];exact .mk d
theorem pL1 {x1:Int}:Ok (Ts x1) (fun v=>v=true->1<=x1/\x1<=32):=by
 unfold Ts;exact .mk (by(simp only[nm]at *;omega))
theorem aC2 {x1 a:YU}:Ok (Zz x1 a) (fun _=>True):=by
 unfold Zz;refine Oi (fun c690=>?_) (fun c690=>?_);refine Oi (fun c691=>?_) (fun c691=>?_);exact bB;exact bB;refine Oi (fun c692=>?_) (fun c692=>?_);refine Oi (fun c693=>?_) (fun c693=>?_);exact bB;exact bB;exact bB
theorem cH1 {x1:YU}:Ok (Jc x1) (fun v=>v=bD (x1.First+x1.Count)):=by
 unfold Jc;exact .mk (by rfl)
theorem pM1 {x1:YU} {a:aA YU} (g:a.length<=6) (i:a.length<=3):Ok (Lv x1 a) (fun v=>v.2.length<=3):=by
 unfold Lv;refine Ob (P:=fun v=>v.length<=3) (bS (fun l=>l.length<=3) (fun l=>l.length) (fun l hl=>?_) bA a i (by simp only[bA];omega)) fun x d=>?_;refine Ob (P:=fun r=>r=true->0<l.length) (Oi (fun hc=>?_) (fun _=>.mk (fun h=>by cases h))) fun b hb=>?_;simp only[iP2]at hc;refine Ob (iV (by rw[bM (by omega) (by omega)];omega) (by rw[bM (by omega) (by omega)];omega)) fun j c=>?_;exact Ob (kZ c.2) fun y _=>Ob cH1 fun e _=>.mk (fun _=>by omega);refine Oi (fun hc=>?_) (fun _=>.mk hl);have:=hb hc;refine Ob (Pa this (by rw[bM (by omega) (by omega)];omega) (by rw[bM (by omega) (by omega)];omega)) fun m f=>?_;have:=f.1;rw[bM (by omega) (by omega)]at this;exact .mk ⟨by omega,by omega⟩;refine Ob (P:=fun r=>r=true\/x.length<3) (Oi (fun hc=>.mk (.inl rfl)) (fun hc=>?_)) fun b hb=>?_;have hc:x.length<3:=by simp only[kB2]at hc;omega
 refine Ob (P:=fun _=>True) (Oi (fun hd=>?_) (fun _=>bB)) fun b _=>.mk (.inr hc);simp only[iP2]at hd;refine Ob cH1 fun e _=>?_;refine Ob (iV (by rw[bM (by omega) (by omega)];omega) (by rw[bM (by omega) (by omega)];omega)) fun j c=>?_;exact Ob (kZ c.2) fun y _=>Ob cH1 fun e _=>bB;refine Oi (fun _=>.mk d) (fun hc=>?_);have hb:x.length<3:=by rcases hb with h|h;exact absurd h hc;exact h
 refine Ob (fP (Q:=fun v=>v.length=x.length+1) (by omega) (by simp)) fun m f=>.mk (by dsimp only;omega)
theorem aD2 {x1:aA YU} {c:Int} (w:x1.length<=6):Ok (aA1 x1 c) (fun v=>v=0->∀t∈x1,t.ok c):=by
 unfold aA1;refine Oi (fun _=>.mk (fun h=>by cases h)) (fun k=>?_);refine Oi (fun _=>.mk (fun h=>by cases h)) (fun _=>?_);simp only[iU2,iP2,lF2]at k;refine Ob (P:=fun r=>match r with|.inl p=>p.1≠0|.inr _=>∀t∈x1,t.ok c) (bJ (l:=x1) (fun q=>q.1) (fun i q=>q.2.length<=3/\∀j,j<i->∀t,x1[j]? =some t->t.ok c) (by omega) rfl ⟨by decide,fun j g=>by omega⟩ (fun i e q z u hi hl d hg hw=>?_) (fun q hi d=>?_)) fun v hv=>?_;obtain⟨x,l⟩:=q;dsimp only at hi hl d hg hw;simp only[hl,hg,nt];refine Ob (P:=fun r=>r=false->(1<=e.Count/\e.Count<=c/\0<=e.First/\e.First+e.Count<=c/\1<=e.Actual/\e.Actual<=32)) (Oi (fun _=>.mk (fun h=>by cases h)) (fun hc=>?_)) fun b1 h1=>?_;simp only[iU2,iP2,lF2]at hc;rw[bM (by omega) (by omega)]at hc;refine Ob pL1 fun r hr=>.mk (fun h=>?_);have:=hr (by simpa using h);omega;refine Ob (P:=fun r=>r=false->e.ok c) (Oi (fun hc=>.mk (fun h=>by cases h)) (fun hc=>?_)) fun b2 h2=>?_;refine Ob pL1 fun r hr=>.mk (fun h=>?_);have:=hr (by simpa using h);have:=h1 (by simpa using hc);unfold YU.ok;omega;refine Oi (fun _=>.mk (show(2:Int)≠0 by decide)) (fun hc=>?_);have s:e.ok c:=h2 (by simp only[iU2,lF2,Bool.not_eq_true]at hc;exact hc.1);refine Ob (P:=fun _=>True) (Oi (fun hd=>?_) (fun _=>bB)) fun b3 _=>?_;simp only[iP2]at hd;have:=fE hg;refine Ob (cF (Q:=fun _=>True) (by rw[bM (by omega) (by omega)];omega) (by rw[bM (by omega) (by omega)];omega) (fun _ _ _=>trivial)) fun y _=>?_;exact Ob aC2 fun o _=>bB;refine Oi (fun _=>.mk (show(25:Int)≠0 by decide)) (fun _=>?_);refine Ob (pM1 (jK2 d.1 (by decide)) d.1) fun⟨a,m⟩ u=>?_;refine Oi (fun _=>.mk (show(21:Int)≠0 by decide)) (fun _=>.mk ⟨hw,u,fun j g t f=>?_⟩);by_cases n:j=i;subst n;rw[z]at f;cases f;exact s;exact d.2 j (by omega) t f;obtain⟨x,l⟩:=q;dsimp only at hi d;simp only[hi,nf];refine .mk (fun t f=>?_);obtain⟨j,g⟩:=jE2.1 f;exact d.2 j (iI2.1 g).1 t g;rcases v with⟨a,b⟩|b;exact .mk (fun h=>absurd h hv);exact .mk (fun _=>hv)
theorem aE2 {x1:YU} {a:Int}:Ok (aB1 x1 a) (fun _=>True):=by
 unfold aB1;exact bB
theorem aF2 {x1 c:Int} (j:0<x1/\0<c/\c<9223372036854775808):Ok (aC1 x1 c) (fun v=>0<v/\v∣x1/\v∣c):=by
 unfold aC1;refine Ob (P:=fun v=>0<v/\v∣x1/\v∣c) (bS (fun q=>0<q.1/\0<=q.2/\∀d:Int,d∣q.1->d∣q.2->d∣x1/\d∣c) (fun q=>q.2.toNat) (fun q i=>?_) bA (x1,c) ⟨j.1,by dsimp only;omega,fun d h1 h2=>⟨h1,h2⟩⟩ (by simp only[bA];omega)) fun v hv=>.mk hv;obtain⟨a,b⟩:=q;obtain⟨h1,h2,h3⟩:=i;dsimp only at h1 h2 h3;refine Oi (fun hc=>?_) (fun hc=>?_)<;>simp only[iP2]at hc;refine Ob (Dl (by omega)) fun n h=>?_;have g:n=a%b:=by rw[h,Int.tmod_eq_emod_of_nonneg (by omega)]
 have e2:=Int.emod_nonneg a (by omega:b≠0);have k:=Int.emod_lt_of_pos a hc;refine .mk ⟨⟨hc,by dsimp only;omega,fun d e f=>h3 d ?_ e⟩,by dsimp only;omega⟩;dsimp only at e f;rw[g]at f;have:=Int.emod_add_mul_ediv a b;rw[<-this];exact Int.dvd_add f (Int.dvd_trans e (Int.dvd_mul_right b _));have:b=0:=by omega
 subst this;exact .mk ⟨h1,h3 a (Int.dvd_refl a) (Int.dvd_zero a)⟩
theorem aG2 {x1:aA YU} {G:Int} (u:x1.length<=6) (B:∀t∈x1,1<=t.Actual/\t.Actual<=32/\1<=t.Normal/\t.Normal<=32):Ok (aD1 x1 G) (fun v=>1<=v.2):=by
 unfold aD1;refine Ob (P:=fun v=>1<=v.2) (bJ (l:=x1) (fun q=>q.2.2) (fun i q=>1<=q.1/\q.1<=32^i/\1<=q.2.1/\q.2.1<=32^i) (by omega) rfl ⟨by decide,by decide,by decide,by decide⟩ (fun i e q C y hi hl f hg hw=>?_) (fun q hi f=>?_)) fun v hv=>.mk hv;obtain⟨a,b,x⟩:=q;dsimp only at hi hl f hg hw;simp only[hl,hg,nt];have j:=B e y;refine Ob aE2 fun c _=>?_;have w:i<=5:=by omega
 have z:(32:Int)^i<=33554432:=by
  have:i=0\/i=1\/i=2\/i=3\/i=4\/i=5:=by omega
  rcases this with rfl|rfl|rfl|rfl|rfl|rfl<;>decide
 have A:(32:Int)^(i+1)=32^i*32:=Int.pow_succ 32 i;refine Ob (P:=fun v=>1<=v.1/\v.1<=32^(i+1)/\1<=v.2/\v.2<=32^(i+1)) (Oi (fun _=>?_) (fun _=>?_)) fun⟨v1,v2⟩ hv=>.mk ⟨hw,hv⟩;have E:1<=a*e.Normal:=Int.le_trans (by decide) (lN2 f.1 j.2.2.1 (by decide) (by omega));have F:a*e.Normal<=32^i*32:=lN2 f.2.1 j.2.2.2 (by omega) (by omega);have r:1<=b*e.Actual:=Int.le_trans (by decide) (lN2 f.2.2.1 j.1 (by decide) (by omega));have s:b*e.Actual<=32^i*32:=lN2 f.2.2.2 j.2.1 (by omega) (by omega);rw[bM (n:=a*e.Normal) (by omega) (by omega),bM (n:=b*e.Actual) (by omega) (by omega)];generalize a*e.Normal=N at E F ⊢;generalize b*e.Actual=D at r s ⊢;refine Ob (aF2 ⟨by omega,by omega,by omega⟩) fun g hg=>?_;obtain⟨H,⟨k,rfl⟩,⟨m,rfl⟩⟩:=hg
 have J:1<=k:=by
  rcases Int.lt_or_le k 1 with h|h;have:=Int.mul_nonneg (a:=g) (b:= -k) (by omega) (by omega);rw[Int.mul_neg]at this;omega;exact h
 have L:1<=m:=by
  rcases Int.lt_or_le m 1 with h|h;have:=Int.mul_nonneg (a:=g) (b:= -m) (by omega) (by omega);rw[Int.mul_neg]at this;omega;exact h
 have K:k<=g*k:=by
  have:=lN2 (a:=1) (b:=k) (c:=g) (d:=k) (by omega) (kU2 k) (by omega) (by omega);omega
 have M:m<=g*m:=by
  have:=lN2 (a:=1) (b:=m) (c:=g) (d:=m) (by omega) (kU2 m) (by omega) (by omega);omega
 refine Ob (sL (by omega)) fun q1 o=>?_;refine Ob (sL (by omega)) fun q2 p=>?_;rw[Int.mul_tdiv_cancel_left k (by omega),show IntKind.wrap .i64 k=bD k from rfl,bM (by omega) (by omega)]at o;rw[Int.mul_tdiv_cancel_left m (by omega),show IntKind.wrap .i64 m=bD m from rfl,bM (by omega) (by omega)]at p;exact .mk ⟨by dsimp only;omega,by dsimp only;omega,by dsimp only;omega,by dsimp only;omega⟩;exact .mk ⟨f.1,by dsimp only;omega,f.2.2.1,by dsimp only;omega⟩;obtain⟨a,b,x⟩:=q;dsimp only at hi f;simp only[hi,nf];exact .mk f.2.2.1
theorem pN1 {x1:aA YU} {e x3:Int} (b:x1.length<=6) (f:∀t∈x1,1<=t.Actual/\t.Actual<=32/\1<=t.Normal/\t.Normal<=32):Ok (Tt x1 e x3) (fun _=>True):=by
 unfold Tt;refine Oi (fun c694=>?_) (fun c694=>?_);exact bB;refine Ob (aG2 b (by omega)) fun⟨g,h⟩ a=>?_
 try dsimp only at a
 refine Ob (Dl (by omega)) fun i c=>?_;refine Oi (fun c697=>?_) (fun c697=>?_);exact bB;refine Ob (sL (by omega)) fun j d=>?_;exact bB
theorem pO1 {x1:aA YU} {f:aA Int} (d:x1.length<=6) (j:f.length<=20):Ok (Tu x1 f) (fun v=>v.1.length<=20/\(v.2=0->∀t∈x1,t.ok f.length)):=by
 unfold Tu;refine Ob (aD2 d) fun c hc=>?_;refine Oi (fun hd=>.mk ⟨jB2 _,fun h=>absurd h (by simpa using hd)⟩) (fun hd=>?_);have k:=hc (by simpa using hd);refine Ob (sN (by decide) (by omega) (by omega)) fun s h4=>?_;refine Ob (P:=fun r=>match r with|.inl p=>p.1≠0|.inr l=>l.length<=f.length) (bJ (l:=f) (fun q=>q.1) (fun i q=>q.2.length<=i) (by omega) rfl (by rw[h4];decide) (fun i e q o n hi hl g hg hw=>?_) (fun q hi g=>?_)) fun v hv=>?_;obtain⟨x,l⟩:=q;dsimp only at hi hl g hg hw;simp only[hl,hg,nt];refine Ob (pN1 d (fun t h=>by have:=k t h;unfold YU.ok at this;omega)) fun⟨a,b⟩ _=>?_;refine Oi (fun hb=>.mk (by simpa using hb)) (fun _=>?_);exact Ob (fP (Q:=fun v=>v.length=l.length+1) (by omega) (by simp)) fun m n=>.mk ⟨hw,by dsimp only;omega⟩;obtain⟨x,l⟩:=q;dsimp only at hi g;simp only[hi,nf];exact .mk g;rcases v with⟨a,b⟩|b;exact .mk ⟨jB2 _,fun h=>absurd h hv⟩;exact .mk ⟨jK2 hv j,fun _=>k⟩
theorem aH2 {x1:aA YU} {d:Int} {x3:aA Int} (j:x1.length<=6) (k:x3.length<=20) (g:0<=d/\d<(x1.length:Int)) (hy:∀t∈x1,t.ok x3.length):Ok (aE1 x1 d x3) (fun _=>True):=by
 unfold aE1;refine Ob (cF (Q:=fun x=>x∈x1) g.1 g.2 (fun _ h _=>h)) fun f c=>?_;have h4:=hy f c;unfold YU.ok at h4;refine Ob (P:=fun _=>True) (iW (fun q=>q.2) (f.First+f.Count) (fun _=>True) (by omega) (by dsimp only;omega) trivial (fun q _ h1 h2=>?_)) fun r _=>?_;obtain⟨s,i⟩:=q;dsimp only at h1 h2 ⊢;refine Ob cH1 fun e he=>?_;rw[bM (by omega) (by omega)]at he;subst he;refine Oi (fun hc=>?_) (fun _=>bB);simp only[iP2]at hc;refine Ob (Av (by rw[bM (by omega) (by omega)];omega) (by rw[bM (by omega) (by omega)];omega) (by omega)) fun l hl=>?_;refine Ob (cF (Q:=fun _=>True) (by omega) (by omega) (fun _ _ _=>trivial)) fun y _=>?_;refine Ob (pN1 (by omega) (fun t h=>by have:=hy t (hl.2 t h);unfold YU.ok at this;omega)) fun⟨a,b⟩ _=>?_;exact Oi (fun _=>bB) (fun _=>.mk ⟨hc,h2 hc,trivial⟩);rcases r with a|a;exact bB;refine Ob (P:=fun _=>True) (iW (fun q=>q) 9 (fun _=>True) (by decide) (by decide) trivial (fun q _ h1 h2=>?_)) fun r _=>?_;refine Oi (fun hc=>?_) (fun _=>bB);simp only[iP2]at hc;refine Ob (sM (by rw[bM (by omega) (by omega)];omega)) fun n _=>?_;exact Oi (fun _=>bB) (fun _=>.mk ⟨by omega,h2 (by omega),trivial⟩);rcases r with a|a<;>exact bB
theorem aI2 {x1:aA YU} {h:aA Int} (c:x1.length<=6) (d:h.length<=20):Ok (aF1 x1 h) (fun _=>True):=by
 unfold aF1;refine Ob (pO1 c d) fun⟨a,b⟩ f=>?_;dsimp only at f;refine Oi (fun _=>bB) (fun hd=>?_);have k:=f.2 (by simpa using hd);refine Ob (sN (by decide) (by omega) (by omega)) fun o h4=>?_;refine Ob (P:=fun _=>True) (bJ (l:=x1) (fun q=>q.1) (fun i q=>q.2.length<=i) (by omega) rfl (by rw[h4];decide) (fun i e q n j hi hl g hg hw=>?_) (fun q hi g=>?_)) fun v hv=>?_;obtain⟨x,l⟩:=q;dsimp only at hi hl g hg hw;simp only[hl,nt];refine Ob (aH2 c d ⟨by omega,hl⟩ k) fun⟨a,b⟩ _=>?_;refine Oi (fun hb=>bB) (fun _=>?_);exact Ob (fP (Q:=fun v=>v.length=l.length+1) (by omega) (by simp)) fun m j=>.mk ⟨hw,by dsimp only;omega⟩;obtain⟨x,l⟩:=q;dsimp only at hi g;simp only[hi,nf];exact bB;rcases v with a|b<;>exact bB
theorem aJ2 {x1:YO} (a:x1.sm):Ok (aG1 x1) (fun v=>v.1.length<=20):=by
 unfold aG1;have j:=a.Events;refine pH (l:=x1.Events) (fun q=>q) (iL2 a.Events (by decide)) rfl (fun m k s f b e d g=>?_) (fun s b=>?_) fun t=>?_;simp only[e,d,nt];have i:=a.EventsE _ f;refine bW (T69 i) fun u=>?_;refine Oi (fun c712=>?_) (fun c712=>?_);exact bB;refine Oi (fun c713=>?_) (fun c713=>?_);exact bB;exact .mk g;simp only[b,nf];exact bB;rcases t with w|_;exact .mk (by(simp only[nm,nl]at *;omega));refine Ob (aB2 a.Events a.EventsE) fun x c=>?_;refine Ob (pO1 a.Tuplets c) fun⟨n,o⟩ h=>?_
 try dsimp only at h
 refine Oi (fun c716=>?_) (fun c716=>?_);exact .mk (by(simp only[nm,nl]at *;omega));refine bW (aI2 a.Tuplets c) fun⟨p,r⟩=>?_;refine Oi (fun c718=>?_) (fun c718=>?_);exact .mk (by(simp only[nm,nl]at *;omega));exact .mk (by(simp only[nm]at *;omega))
theorem aK2 {x1:YO} {f:Int} (a:x1.sm):Ok (aH1 x1 f) (fun v=>v.1.length<=20):=by
 unfold aH1;refine Oi (fun c719=>?_) (fun c719=>?_);exact .mk (by(simp only[nm,nl]at *;omega));refine Oi (fun c720=>?_) (fun c720=>?_);exact .mk (by(simp only[nm,nl]at *;omega));refine bW (zX1 a) fun x3=>?_;refine Oi (fun c722=>?_) (fun c722=>?_);have e:=a.Events;refine Ob (P:=fun x=>x∈x1.Events) (cF (by omega) (by(simp only[nm]at *;omega)) (fun _ h _=>h)) fun g b=>?_;have d:=a.EventsE _ b;refine bW (T69 d) fun i=>?_;refine Oi (fun c728=>?_) (fun c728=>?_);exact .mk (by(simp only[nm,nl]at *;omega));refine Oi (fun c729=>?_) (fun c729=>?_);exact .mk (by(simp only[nm,nl]at *;omega));exact .mk (by(simp only[nm,nl]at *;omega));refine Ob (aJ2 a) fun⟨j,k⟩ c=>?_
 try dsimp only at c
 exact .mk (by omega)
theorem aL2 {x1:aA Int} (e:x1.length<=20):Ok (aI1 x1) (fun _=>True):=by
 unfold aI1;have g:=e;refine pH (l:=x1) (fun q=>q.2) (iL2 e (by decide)) rfl (fun i h q741 f a c b d=>?_) (fun q741 a=>?_) fun k=>?_;obtain⟨x3,j⟩:=q741;dsimp only at a c b d;simp only[c,b,nt];exact .mk d;obtain⟨x3,j⟩:=q741;dsimp only at a;simp only[a,nf];exact bB;exact bB
theorem pP1 {x1:YO} {e:Int} (c:x1.sm):Ok (Tv x1 e) (fun v=>v.1.length<=20):=by
 unfold Tv;refine Ob (aK2 c) fun⟨x3,f⟩ a=>?_
 try dsimp only at a
 refine Ob (P:=fun r=>r=true->((f==0)&&(decide ((x3.length:Int)>0)))=true) ?_ fun i b=>?_;refine Oi (fun c745=>?_) (fun _=>.mk (fun h=>by cases h));refine bW (aL2 a) fun g=>?_;exact .mk (fun _=>c745);refine bW ?_ fun j=>?_;refine Oi (fun c748=>?_) (fun c748=>?_);have d:=b c748;exact bB;exact bB;refine Oi (fun c750=>?_) (fun c750=>?_);exact .mk (by(simp only[nm,nl]at *;omega));exact .mk (by omega)
theorem pQ1 {x1:YO} {c:Int} (b:x1.sm):Ok (Tw x1 c) (fun _=>True):=by
 unfold Tw;refine Ob (pP1 b) fun⟨x3,d⟩ a=>?_
 try dsimp only at a
 exact bB
theorem T65 {x1:Int}:Ok (F65 x1) (fun _=>True):=by
 unfold F65;exact bB
theorem aM2 {x1:YO} {c:Int} (a:x1.sm):Ok (aJ1 x1 c) (fun _=>True):=by
 unfold aJ1;refine bW (pK1 a.Events a.EventsE) fun x3=>?_;refine Ob (P:=fun r=>r=true->(!x3)=true) ?_ fun f b=>?_;refine Oi (fun c754=>?_) (fun _=>.mk (fun h=>by cases h));refine bW (pQ1 a) fun d=>?_;refine bW (T65) fun e=>?_;exact .mk (fun _=>c754);exact bB
theorem aN2 {x1:aA YO} {m:Int} (f:x1.length<=3) (g:∀y∈x1,y.sm):Ok (aK1 x1 m) (fun _=>True):=by
 unfold aK1;have i:=f;refine pH (l:=x1) (fun q=>q) (iL2 f (by decide)) rfl (fun k j n d a c b e=>?_) (fun n a=>?_) fun o=>?_;simp only[c,b,nt];have h:=g _ d;refine bW (aM2 h) fun p=>?_;refine Oi (fun c770=>?_) (fun c770=>?_);exact bB;exact .mk e;simp only[a,nf];exact bB;rcases o with r|_;exact bB;exact bB
theorem aO2 {x1:aA YO} {c:Int} (b:x1.length<=3) (a:∀y∈x1,y.sm):Ok (aL1 x1 c) (fun _=>True):=by
 unfold aL1;refine bW (aN2 b a) fun x3=>?_;exact bB
theorem aP2 {x1:YW} {b:Int} (a:x1.sm):Ok (aM1 x1 b) (fun _=>True):=by
 unfold aM1;refine bW (aO2 a.Voices a.VoicesE) fun x3=>?_;exact bB
theorem aQ2 {x1:aA YW} {m:Int} (f:x1.length<=5) (g:∀y∈x1,y.sm):Ok (aN1 x1 m) (fun _=>True):=by
 unfold aN1;have i:=f;refine pH (l:=x1) (fun q=>q) (iL2 f (by decide)) rfl (fun k j n d a c b e=>?_) (fun n a=>?_) fun o=>?_;simp only[c,b,nt];have h:=g _ d;refine bW (aP2 h) fun p=>?_;refine Oi (fun c786=>?_) (fun c786=>?_);exact bB;exact .mk e;simp only[a,nf];exact bB;rcases o with r|_;exact bB;exact bB
theorem aR2 {x1:aA YW} {c:Int} (b:x1.length<=5) (a:∀y∈x1,y.sm):Ok (aO1 x1 c) (fun _=>True):=by
 unfold aO1;refine bW (aQ2 b a) fun x3=>?_;exact bB
theorem aS2 {x1:Int} {b:YM} (a:b.sm):Ok (aP1 x1 b) (fun _=>True):=by
 unfold aP1;refine bW (T61 a) fun⟨x3,c⟩=>?_;refine Oi (fun c789=>?_) (fun c789=>?_);exact bB;refine bW (aR2 a.Cells a.CellsE) fun d=>?_;exact bB
theorem hA1 {x1:aA YV} {k:Y0} {x3:Int} (p:x1.length+10<=1000000) (f:k.sm):Ok (Cr x1 k x3) (fun v=>x1.length<=v.length/\v.length<=x1.length+10):=by
 unfold Cr;have i:=f.Measures;refine og k.Measures x1 10 1 (iL2 f.Measures (by decide)) (fun n l q802 j g a d b c e=>?_) (fun q802 a b=>?_) fun s o=>?_;obtain⟨t,u⟩:=q802;dsimp only at a d c e b;simp only[d,c,nt];have h:=f.MeasuresE _ g;refine bW (aS2 h) fun q=>?_;refine Ob (kN (by first|omega|(simp only[iT2]at *;omega)) f) fun r m=>?_;exact .mk ⟨e,by dsimp only;omega⟩;obtain⟨t,u⟩:=q802;dsimp only at a b;simp only[a,nf];exact .mk (by dsimp only;omega);exact .mk (by omega)
theorem aT2 {x1:aA YV} {c:Y0} {x3:Int} (d:x1.length+10<=1000000) (a:c.sm):Ok (aR1 x1 c x3) (fun v=>x1.length<=v.length/\v.length<=x1.length+10):=by
 unfold aR1;refine Ob (hA1 (by first|omega|(simp only[iT2]at *;omega)) a) fun e b=>?_;exact .mk (by omega)
theorem pR1 {x1:aA YV} {c:Y0} {x3:Int} (d:x1.length+10<=1000000) (a:c.sm):Ok (Tx x1 c x3) (fun v=>x1.length<=v.length/\v.length<=x1.length+10):=by
 unfold Tx;refine Ob (aT2 (by first|omega|(simp only[iT2]at *;omega)) a) fun e b=>?_;exact .mk (by omega)
theorem T66 {x1:Int}:Ok (F66 x1) (fun _=>True):=by
 unfold F66;refine Ob (P:=fun r=>r=true->(x1 !=0)=true) ?_ fun x3 a=>?_;refine Oi (fun c810=>?_) (fun _=>.mk (fun h=>by cases h));refine bW (T65) fun b=>?_;exact .mk (fun _=>c810);exact bB
theorem hB1 {x1:YO} {c:Int} (a:x1.sm):Ok (Ct x1 c) (fun _=>True):=by
 unfold Ct;refine bW (pK1 a.Events a.EventsE) fun x3=>?_;refine Ob (P:=fun r=>r=true->(!x3)=true) ?_ fun f b=>?_;refine Oi (fun c814=>?_) (fun _=>.mk (fun h=>by cases h));refine bW (pQ1 a) fun d=>?_;refine bW (T66) fun e=>?_;exact .mk (fun _=>c814);exact bB
theorem hD1 {x1:aA YO} {m:Int} (f:x1.length<=3) (g:∀y∈x1,y.sm):Ok (Cu x1 m) (fun _=>True):=by
 unfold Cu;have i:=f;refine pH (l:=x1) (fun q=>q) (iL2 f (by decide)) rfl (fun k j n d a c b e=>?_) (fun n a=>?_) fun o=>?_;simp only[c,b,nt];have h:=g _ d;refine bW (hB1 h) fun p=>?_;refine Oi (fun c830=>?_) (fun c830=>?_);exact bB;exact .mk e;simp only[a,nf];exact bB;rcases o with r|_;exact bB;exact bB
theorem hF1 {x1:aA YO} {c:Int} (b:x1.length<=3) (a:∀y∈x1,y.sm):Ok (Cv x1 c) (fun _=>True):=by
 unfold Cv;refine bW (hD1 b a) fun x3=>?_;exact bB
theorem hG1 {x1:YW} {b:Int} (a:x1.sm):Ok (Cw x1 b) (fun _=>True):=by
 unfold Cw;refine bW (hF1 a.Voices a.VoicesE) fun x3=>?_;exact bB
theorem hH1 {x1:aA YW} {m:Int} (f:x1.length<=5) (g:∀y∈x1,y.sm):Ok (Cy x1 m) (fun _=>True):=by
 unfold Cy;have i:=f;refine pH (l:=x1) (fun q=>q) (iL2 f (by decide)) rfl (fun k j n d a c b e=>?_) (fun n a=>?_) fun o=>?_;simp only[c,b,nt];have h:=g _ d;refine bW (hG1 h) fun p=>?_;refine Oi (fun c846=>?_) (fun c846=>?_);exact bB;exact .mk e;simp only[a,nf];exact bB;rcases o with r|_;exact bB;exact bB
theorem hK1 {x1:aA YW} {c:Int} (b:x1.length<=5) (a:∀y∈x1,y.sm):Ok (Cz x1 c) (fun _=>True):=by
 unfold Cz;refine bW (hH1 b a) fun x3=>?_;exact bB
theorem hL1 {x1:Int} {b:YM} (a:b.sm):Ok (Da x1 b) (fun _=>True):=by
 unfold Da;refine bW (T61 a) fun⟨x3,c⟩=>?_;refine Oi (fun c849=>?_) (fun c849=>?_);exact bB;refine bW (hK1 a.Cells a.CellsE) fun d=>?_;exact bB
theorem hO1 {x1:aA YV} {k:Y0} {x3:Int} (p:x1.length+10<=1000000) (f:k.sm):Ok (Db x1 k x3) (fun v=>x1.length<=v.length/\v.length<=x1.length+10):=by
 unfold Db;have i:=f.Measures;refine og k.Measures x1 10 1 (iL2 f.Measures (by decide)) (fun n l q862 j g a d b c e=>?_) (fun q862 a b=>?_) fun s o=>?_;obtain⟨t,u⟩:=q862;dsimp only at a d c e b;simp only[d,c,nt];have h:=f.MeasuresE _ g;refine bW (hL1 h) fun q=>?_;refine Ob (kN (by first|omega|(simp only[iT2]at *;omega)) f) fun r m=>?_;exact .mk ⟨e,by dsimp only;omega⟩;obtain⟨t,u⟩:=q862;dsimp only at a b;simp only[a,nf];exact .mk (by dsimp only;omega);exact .mk (by omega)
theorem hP1 {x1:aA YV} {c:Y0} {x3:Int} (d:x1.length+10<=1000000) (a:c.sm):Ok (Dc x1 c x3) (fun v=>x1.length<=v.length/\v.length<=x1.length+10):=by
 unfold Dc;refine Ob (hO1 (by first|omega|(simp only[iT2]at *;omega)) a) fun e b=>?_;exact .mk (by omega)
theorem pS1 {x1:aA YV} {c:Y0} {x3:Int} (d:x1.length+10<=1000000) (a:c.sm):Ok (Ty x1 c x3) (fun v=>x1.length<=v.length/\v.length<=x1.length+10):=by
 unfold Ty;refine Ob (hP1 (by first|omega|(simp only[iT2]at *;omega)) a) fun e b=>?_;exact .mk (by omega)
theorem T68 {x1:YP} {b:YE} (a:b.sm):Ok (F68 x1 b) (fun _=>True):=by
 unfold F68;refine bW (T69 a) fun x3=>?_;exact bB
theorem aU2 {x1:aA YV} {W:Y0} {x3:Int} (d8:x1.length+3000<=1000000) (y:W.sm):Ok (bB1 x1 W x3) (fun v=>x1.length<=v.length/\v.length<=x1.length+3000):=by
 unfold bB1;have N:=y.Measures;refine og W.Measures x1 3000 300 (iL2 y.Measures (by decide)) (fun b4 D q881 S z c m g a q=>?_) (fun q881 c g=>?_) fun d3 d4=>?_;obtain⟨X,K⟩:=q881;dsimp only at c m a q g;simp only[m,a,nt];have u:=y.MeasuresE _ z;have O:=u.Cells;refine og D.Cells K 300 60 (iL2 u.Cells (by decide)) (fun b5 E q895 T A d n h b r=>?_) (fun q895 d h=>?_) fun d2 d5=>?_;obtain⟨Y,L⟩:=q895;dsimp only at d n b r h;simp only[n,a,b,nt];have w:=u.CellsE _ A;have P:=w.Voices;refine og E.Voices L 60 20 (iL2 w.Voices (by decide)) (fun b6 F q909 U B e o i k s=>?_) (fun q909 e i=>?_) fun d1 d6=>?_;obtain⟨Z,M⟩:=q909;dsimp only at e o k s i;simp only[o,a,b,k,nt];have x:=w.VoicesE _ B;have R:=x.Events;refine og F.Events M 20 1 (iL2 x.Events (by decide)) (fun b7 a0 q923 V C f p j l t=>?_) (fun q923 f j=>?_) fun d0 d7=>?_;obtain⟨H,J⟩:=q923;dsimp only at f p l t j;simp only[p,a,b,k,l,nt];have G:=x.EventsE _ C;refine bW (T68 G) fun b8=>?_;refine Ob (kN (by first|omega|(simp only[iT2]at *;omega)) y) fun b9 b0=>?_;exact .mk ⟨t,by dsimp only;omega⟩;obtain⟨H,J⟩:=q923;dsimp only at f j;simp only[f,nf];exact .mk (by dsimp only;omega);exact .mk ⟨s,by dsimp only;omega⟩;obtain⟨Z,M⟩:=q909;dsimp only at e i;simp only[e,nf];exact .mk (by dsimp only;omega);exact .mk ⟨r,by dsimp only;omega⟩;obtain⟨Y,L⟩:=q895;dsimp only at d h;simp only[d,nf];exact .mk (by dsimp only;omega);exact .mk ⟨q,by dsimp only;omega⟩;obtain⟨X,K⟩:=q881;dsimp only at c g;simp only[c,nf];exact .mk (by dsimp only;omega);exact .mk (by omega)
theorem pT1 {x1:aA YV} {c:Y0} {x3:Int} (d:x1.length+3000<=1000000) (a:c.sm):Ok (Tz x1 c x3) (fun v=>x1.length<=v.length/\v.length<=x1.length+3000):=by
 unfold Tz;refine Ob (aU2 (by first|omega|(simp only[iT2]at *;omega)) a) fun e b=>?_;exact .mk (by omega)
theorem T71 {x1:Y0} {d:Int} (c:x1.sm):Ok (F71 x1 d) (fun v=>v.2.2=0->0<=v.1/\v.1<(x1.Parts.length:Int)):=by
 unfold F71;have f:=c.Parts;refine Oi (fun _=>.mk (fun h=>absurd (show(2:Int)=0 from h) (by decide))) (fun _=>?_);refine Ob (P:=fun r=>match r with|.inl p=>0<=p.1/\p.1<(x1.Parts.length:Int)|.inr _=>True) (bJ (l:=x1.Parts) (fun q=>q.2) (fun _ _=>True) (by omega) rfl trivial (fun i e q j g hi hl _ hg hw=>?_) (fun q hi _=>?_)) fun r hr=>?_;obtain⟨s,x⟩:=q;dsimp only at hi hl hg hw;simp only[hl,hg,nt];exact Oi (fun _=>.mk ⟨by dsimp only;omega,hl⟩) (fun _=>.mk ⟨hw,trivial⟩);obtain⟨s,x⟩:=q;dsimp only at hi;simp only[hi,nf];exact bB;rcases r with⟨a,b⟩|_;exact .mk (fun _=>hr);exact .mk (fun h=>absurd (show(2:Int)=0 from h) (by decide))
theorem T72 {x1:YH} {a:Int}:Ok (F72 x1 a) (fun _=>True):=by
 unfold F72;refine bW (T73) fun⟨x3,b⟩=>?_;refine bW (Ji) fun c=>?_;exact bB
theorem T75 {x1:YB} {a:Int}:Ok (F75 x1 a) (fun _=>True):=by
 unfold F75;refine bW (T72) fun x3=>?_;exact bB
theorem aV2 {x1:aA YB} {j:Int} (e:x1.length<=12):Ok (bC1 x1 j) (fun _=>True):=by
 unfold bC1;have g:=e;refine pH (l:=x1) (fun q=>q) (iL2 e (by decide)) rfl (fun i h k f a c b d=>?_) (fun k a=>?_) fun m=>?_;simp only[c,b,nt];refine bW (T75) fun n=>?_;refine Oi (fun c944=>?_) (fun c944=>?_);exact bB;exact .mk d;simp only[a,nf];exact bB;rcases m with o|_;exact bB;exact bB
theorem T74 {x1:aA YB} {b:Int} (a:x1.length<=12):Ok (F74 x1 b) (fun _=>True):=by
 unfold F74;refine bW (aV2 a) fun x3=>?_;exact bB
theorem T77 {x1:YD} {a:Int}:Ok (F77 x1 a) (fun _=>True):=by
 unfold F77;refine bW (T72) fun x3=>?_;exact bB
theorem aW2 {x1:aA YD} {j:Int} (e:x1.length<=12):Ok (bD1 x1 j) (fun _=>True):=by
 unfold bD1;have g:=e;refine pH (l:=x1) (fun q=>q) (iL2 e (by decide)) rfl (fun i h k f a c b d=>?_) (fun k a=>?_) fun m=>?_;simp only[c,b,nt];refine bW (T77) fun n=>?_;refine Oi (fun c959=>?_) (fun c959=>?_);exact bB;exact .mk d;simp only[a,nf];exact bB;rcases m with o|_;exact bB;exact bB
theorem T76 {x1:aA YD} {b:Int} (a:x1.length<=12):Ok (F76 x1 b) (fun _=>True):=by
 unfold F76;refine bW (aW2 a) fun x3=>?_;exact bB
theorem T70 {x1:YP} {j:YE} {x3:YK} (a:j.sm) (b:x3.s'.sm):Ok (F70 x1 j x3) (fun _=>True):=by
 unfold F70;refine bW (T69 a) fun n=>?_;refine Oi (fun c962=>?_) (fun c962=>?_);exact bB;refine Ob (T71 b) fun⟨o,p,q⟩ d=>?_
 try dsimp only at d
 refine bW ?_ fun t=>?_;refine Oi (fun c965=>?_) (fun c965=>?_);have e:=b.Parts;refine Ob (P:=fun x=>x∈x3.s'.Parts) (cF (by(simp only[nm]at *;omega)) (by(simp only[nm]at *;omega)) (fun _ h _=>h)) fun s c=>?_;have i:=b.PartsE _ c;exact bB;exact bB;refine bW ?_ fun k=>?_;refine Oi (fun c971=>?_) (fun c971=>?_);exact bB;exact bB;refine bW (T74 a.Heads) fun f=>?_;refine Ob (P:=fun r=>¬r=true->¬f=true) ?_ fun m g=>?_;refine Oi (fun _=>.mk (fun h=>absurd rfl h)) (fun c974=>?_);refine bW (T76 a.Graces) fun l=>?_;exact .mk (fun _=>c974);exact bB
theorem hQ1 {x1:aA YV} {x2:Y0} {x3:Int} (d7:x1.length+3000<=1000000) (s:x2.sm):Ok (Dd x1 x2 x3) (fun v=>x1.length<=v.length/\v.length<=x1.length+3000):=by
 unfold Dd;have V:=s.Measures;refine og x2.Measures x1 3000 300 (iL2 s.Measures (by decide)) (fun b7 F q987 W C h t j c w=>?_) (fun q987 h j=>?_) fun d4 d5=>?_;obtain⟨a0,K⟩:=q987;dsimp only at h t c w j;simp only[t,c,nt];have y:=s.MeasuresE _ C;have N:=y.Cells;refine og F.Cells K 300 60 (iL2 y.Cells (by decide)) (fun b8 G q1001 X D i u k g x=>?_) (fun q1001 i k=>?_) fun d3 d6=>?_;obtain⟨b0,L⟩:=q1001;dsimp only at i u g x k;simp only[u,c,g,nt];have l:=y.CellsE _ D;have O:=l.Voices;refine og G.Voices L 60 20 (iL2 l.Voices (by decide)) (fun Y B q1015 R z a o d f q=>?_) (fun q1015 a d=>?_) fun d2 b5=>?_;obtain⟨b4,M⟩:=q1015;dsimp only at a o f q d;simp only[o,c,g,f,nt];have m:=l.VoicesE _ z;have P:=m.Events;refine og B.Events M 20 1 (iL2 m.Events (by decide)) (fun Z T q1029 S A b p e n r=>?_) (fun q1029 b e=>?_) fun d1 b6=>?_;obtain⟨H,J⟩:=q1029;dsimp only at b p n r e;simp only[p,c,g,f,n,nt];have E:=m.EventsE _ A;refine bW (T70 E s) fun b9=>?_;refine Ob (kN (by first|omega|(simp only[iT2]at *;omega)) s) fun d0 U=>?_;exact .mk ⟨r,by dsimp only;omega⟩;obtain⟨H,J⟩:=q1029;dsimp only at b e;simp only[b,nf];exact .mk (by dsimp only;omega);exact .mk ⟨q,by dsimp only;omega⟩;obtain⟨b4,M⟩:=q1015;dsimp only at a d;simp only[a,nf];exact .mk (by dsimp only;omega);exact .mk ⟨x,by dsimp only;omega⟩;obtain⟨b0,L⟩:=q1001;dsimp only at i k;simp only[i,nf];exact .mk (by dsimp only;omega);exact .mk ⟨w,by dsimp only;omega⟩;obtain⟨a0,K⟩:=q987;dsimp only at h j;simp only[h,nf];exact .mk (by dsimp only;omega);exact .mk (by omega)
theorem pU1 {x1:aA YV} {c:Y0} {x3:Int} (d:x1.length+3000<=1000000) (b:c.sm):Ok (Ua x1 c x3) (fun v=>x1.length<=v.length/\v.length<=x1.length+3000):=by
 unfold Ua;refine Ob (hQ1 (by first|omega|(simp only[iT2]at *;omega)) b) fun e a=>?_;exact .mk (by omega)
theorem aX2 {x1:YB}:Ok (bF1 x1) (fun _=>True):=by
 unfold bF1;exact bB
theorem hR1 {x1:aA YB} (e:x1.length<=12):Ok (De x1) (fun _=>True):=by
 unfold De;have g:=e;refine pH (l:=x1) (fun q=>q) (iL2 e (by decide)) rfl (fun i h j f a c b d=>?_) (fun j a=>?_) fun k=>?_;simp only[c,b,nt];refine bW (aX2) fun m=>?_;refine Oi (fun c1047=>?_) (fun c1047=>?_);exact bB;exact .mk d;simp only[a,nf];exact bB;rcases k with n|_;exact bB;exact bB
theorem pV1 {x1:aA YB} (a:x1.length<=12):Ok (Lw x1) (fun _=>True):=by
 unfold Lw;refine bW (hR1 a) fun b=>?_;exact bB
theorem T79 {x1:YE} (b:x1.sm):Ok (F79 x1) (fun _=>True):=by
 unfold F79;refine Ob (P:=fun r=>r=true->(x1.Kind==1)=true) ?_ fun x3 a=>?_;refine Oi (fun c1050=>?_) (fun _=>.mk (fun h=>by cases h));refine bW (pV1 b.Heads) fun c=>?_;exact .mk (fun _=>c1050);exact bB
theorem cI1 {x1:Y0} {b x3 c:Int} (d:x1.sm):Ok (Df x1 b x3 c) (fun v=>v.length<=20/\(∀y∈v,y.sm)/\(v=[]\/∃x y z,aU x1.Measures b=some x/\aU x.Cells x3=some y/\aU y.Voices c=some z/\v=z.Events)):=by
 unfold Df;refine Ob (P:=fun r=>¬r=true->0<=b/\0<=x3/\∃x,aU x1.Measures b=some x/\x3<(x.Cells.length:Int)) ?_ fun j g=>?_;refine Oi (fun _=>.mk (fun h=>absurd rfl h)) (fun hc=>?_);simp only[iU2,iP2,lF2]at hc;exact Ok.bindE (cF (Q:=fun _=>True) (by omega) (by omega) (fun _ _ _=>trivial)) fun x a _=>.mk (fun h=>⟨by omega,by omega,x,a,by simp at h;omega⟩);refine Ob (P:=fun r=>¬r=true->∃x y,aU x1.Measures b=some x/\aU x.Cells x3=some y/\0<=c/\c<(y.Voices.length:Int)) ?_ fun k i=>?_;refine Oi (fun _=>.mk (fun h=>absurd rfl h)) (fun hc=>?_);simp only[iU2,iP2,lF2]at hc;obtain⟨h0,h1,x,a,hs⟩:=g hc.1;rw[a,iF2];exact Ok.bindE (cF (Q:=fun _=>True) h1 hs (fun _ _ _=>trivial)) fun y hy _=>.mk (fun h=>⟨x,y,rfl,hy,by omega,by simp at h;omega⟩);refine Oi (fun _=>.mk ⟨jB2 _,fun _ h=>(List.not_mem_nil h).elim,.inl rfl⟩) (fun hc=>?_);obtain⟨x,y,a,hy,h0,h1⟩:=i hc;rw[a,iF2,hy,iF2];refine Ok.bindE (cF (Q:=fun _=>True) h0 h1 (fun _ _ _=>trivial)) fun z e _=>?_;have f:=((d.MeasuresE x (fE a).2.2.1).CellsE y (fE hy).2.2.1).VoicesE z (fE e).2.2.1;exact .mk ⟨f.Events,f.EventsE,.inr ⟨x,y,z,rfl,hy,e,rfl⟩⟩
theorem pW1 {x1:Y0} {a:YP} (c:x1.sm):Ok (Ub x1 a) (fun r=>r=0->a.Kind=4/\0<=a.Event/\∃l,Df x1 a.Measure a.Staff a.Voice=some l/\a.Event<(l.length:Int)):=by
 unfold Ub;refine Oi (fun _=>.mk (fun h=>by cases h)) (fun hk=>?_);refine Ob (P:=fun r=>¬r=true->0<=a.Event/\∃l,Df x1 a.Measure a.Staff a.Voice=some l/\a.Event<(l.length:Int)) (Oi (fun _=>.mk (fun h=>absurd rfl h)) (fun hc=>?_)) fun b hb=>?_;exact Ok.bindE (cI1 c) fun l hl _=>.mk (fun h=>⟨by simpa using hc,l,hl,by simpa using h⟩);exact Oi (fun _=>.mk (fun h=>by cases h)) (fun hc=>.mk (fun _=>⟨by simpa using hk,hb hc⟩))
theorem pX1 {x1 a:Int} {x3 b:Int}:Ok (Uc x1 a x3 b) (fun v=>v.Measure=x1):=by
 unfold Uc;exact .mk (by rfl)
theorem T80 {x1:Y0} {d:YP} (b:x1.sm):Ok (F80 x1 d) (fun v=>v.2=true->0<=d.Measure/\d.Measure<(x1.Measures.length:Int)/\0<=v.1.Measure/\v.1.Measure<(x1.Measures.length:Int)):=by
 unfold F80;refine Ob (pW1 b) fun c hc=>?_;refine Oi (fun _=>.mk (fun h=>by cases h)) (fun hd=>?_);obtain⟨hk,h0,l,hl,i⟩:=hc (by simpa using hd);have g:=(cI1 b).of hl
 have e:0<=d.Measure/\d.Measure<(x1.Measures.length:Int):=by
  rcases g.2.2 with h|⟨x,y,z,hx,_⟩
  rw[h,iT2]at i;omega;have:=fE hx;exact⟨this.1,this.2.1⟩
 rw[hl,iF2];refine Oi (fun _=>?_) (fun _=>?_);exact Ob pX1 fun a f=>.mk (fun _=>⟨e.1,e.2,by dsimp only;omega,by dsimp only;omega⟩);refine Ob (cI1 b) fun j h2=>?_;refine Oi (fun hc=>?_) (fun _=>.mk (fun h=>by cases h));refine Ob pX1 fun a f=>.mk (fun _=>?_);dsimp only at f ⊢;rcases h2.2.2 with h|⟨x,y,z,hx,_⟩
 rw[h]at hc;simp at hc;have:=fE hx;rw[f];exact⟨e.1,e.2,this.1,this.2.1⟩
theorem aY2 {x1:YE} (a:x1.sm):Ok (bH1 x1) (fun v=>v.sm):=by
 unfold bH1;rw[uA (jK2 a.Heads (by decide)),uA (jK2 a.Graces (by decide)),uA (jK2 a.Lyrics (by decide))];exact .mk ⟨a.Heads,a.Graces,a.Lyrics,a.LyricsE⟩
theorem T81 {x1:Y0} {f:YP} (a:x1.sm):Ok (F81 x1 f) (fun v=>v.1.sm):=by
 unfold F81;refine Ob (pW1 a) fun c hc=>?_;refine Oi (fun _=>.mk ⟨jB2 _,jB2 _,jB2 _,fun _ h=>(List.not_mem_nil h).elim⟩) (fun hd=>?_);obtain⟨hk,h0,l,hl,d⟩:=hc (by simpa using hd);have b:=(cI1 a).of hl;rw[hl,iF2];exact Ob (cF (Q:=fun x=>x.sm) h0 d (fun x e _=>b.2.1 x e)) fun x e=>Ob (aY2 e) fun y hy=>.mk hy
theorem aZ2 {x1 a:YB}:Ok (bI1 x1 a) (fun _=>True):=by
 unfold bI1;exact bB
theorem hS1 {x1:aA YB} {j:YB} (e:x1.length<=12):Ok (Dg x1 j) (fun _=>True):=by
 unfold Dg;have g:=e;refine pH (l:=x1) (fun q=>q) (iL2 e (by decide)) rfl (fun i h k f a c b d=>?_) (fun k a=>?_) fun m=>?_;simp only[c,b,nt];refine bW (aZ2) fun n=>?_;refine Oi (fun c1064=>?_) (fun c1064=>?_);exact bB;exact .mk d;simp only[a,nf];exact bB;rcases m with o|_;exact bB;exact bB
theorem pY1 {x1:aA YB} {b:YB} (a:x1.length<=12):Ok (Ly x1 b) (fun _=>True):=by
 unfold Ly;refine bW (hS1 a) fun x3=>?_;exact bB
theorem T82 {x1 s:YE} (g:x1.sm) (m:s.sm):Ok (F82 x1 s) (fun _=>True):=by
 unfold F82;refine Oi (fun c1066=>?_) (fun c1066=>?_);exact bB;have j:=g.Heads;refine pH (l:=x1.Heads) (fun q=>q) (iL2 g.Heads (by decide)) rfl (fun n e v i a c b d=>?_) (fun v a=>?_) fun p=>?_;simp only[c,b,nt];refine Ob (P:=fun r=>r=true->e.Tied=true) ?_ fun u f=>?_;refine Oi (fun c1079=>?_) (fun _=>.mk (fun h=>by cases h));refine Ob (P:=fun r=>r=true->(s.Kind==1)=true) ?_ fun t k=>?_;refine Oi (fun c1081=>?_) (fun _=>.mk (fun h=>by cases h));refine bW (pY1 m.Heads) fun w=>?_;exact .mk (fun _=>c1081);exact .mk (fun _=>c1079);refine Oi (fun c1083=>?_) (fun c1083=>?_);have o:=f c1083;exact bB;exact .mk d;simp only[a,nf];exact bB;rcases p with _|_;exact bB;exact bB
theorem T78 {x1:YP} {f:YE} {x3:YK} (c:f.sm) (d:x3.s'.sm):Ok (F78 x1 f x3) (fun _=>True):=by
 unfold F78;refine bW (T79 c) fun j=>?_;refine Oi (fun c1086=>?_) (fun c1086=>?_);exact bB;refine Ob (T80 d) fun⟨k,i⟩ b=>?_
 try dsimp only at b
 refine Ob (T81 d) fun⟨l,m⟩ a=>?_
 try dsimp only at a
 refine Ob (P:=fun r=>¬r=true->¬(!i)=true) ?_ fun g e=>?_;refine Oi (fun _=>.mk (fun h=>absurd rfl h)) (fun c1090=>?_);refine bW (T82 c a) fun n=>?_;exact .mk (fun _=>c1090);exact bB
theorem hT1 {x1:aA YV} {x2:Y0} {x3:Int} (d7:x1.length+3000<=1000000) (y:x2.sm):Ok (Dh x1 x2 x3) (fun v=>x1.length<=v.length/\v.length<=x1.length+3000):=by
 unfold Dh;have N:=y.Measures;refine og x2.Measures x1 3000 300 (iL2 y.Measures (by decide)) (fun Y D q1103 S z c p g a t=>?_) (fun q1103 c g=>?_) fun d6 b7=>?_;obtain⟨b4,K⟩:=q1103;dsimp only at c p a t g;simp only[p,a,nt];have l:=y.MeasuresE _ z;have O:=l.Cells;refine og D.Cells K 300 60 (iL2 l.Cells (by decide)) (fun Z E q1117 T A d q h b u=>?_) (fun q1117 d h=>?_) fun d5 b8=>?_;obtain⟨b5,L⟩:=q1117;dsimp only at d q b u h;simp only[q,a,b,nt];have m:=l.CellsE _ A;have P:=m.Voices;refine og E.Voices L 60 20 (iL2 m.Voices (by decide)) (fun a0 F q1131 U B e r i k w=>?_) (fun q1131 e i=>?_) fun d4 b9=>?_;obtain⟨b6,M⟩:=q1131;dsimp only at e r k w i;simp only[r,a,b,k,nt];have n:=m.VoicesE _ B;have R:=n.Events;refine og F.Events M 20 1 (iL2 n.Events (by decide)) (fun b0 W q1145 V C f s j o x=>?_) (fun q1145 f j=>?_) fun d3 d0=>?_;obtain⟨H,J⟩:=q1145;dsimp only at f s o x j;simp only[s,a,b,k,o,nt];have G:=n.EventsE _ C;refine bW (T78 G y) fun d1=>?_;refine Ob (kN (by first|omega|(simp only[iT2]at *;omega)) y) fun d2 X=>?_;exact .mk ⟨x,by dsimp only;omega⟩;obtain⟨H,J⟩:=q1145;dsimp only at f j;simp only[f,nf];exact .mk (by dsimp only;omega);exact .mk ⟨w,by dsimp only;omega⟩;obtain⟨b6,M⟩:=q1131;dsimp only at e i;simp only[e,nf];exact .mk (by dsimp only;omega);exact .mk ⟨u,by dsimp only;omega⟩;obtain⟨b5,L⟩:=q1117;dsimp only at d h;simp only[d,nf];exact .mk (by dsimp only;omega);exact .mk ⟨t,by dsimp only;omega⟩;obtain⟨b4,K⟩:=q1103;dsimp only at c g;simp only[c,nf];exact .mk (by dsimp only;omega);exact .mk (by omega)
theorem pZ1 {x1:aA YV} {c:Y0} {x3:Int} (d:x1.length+3000<=1000000) (b:c.sm):Ok (Ud x1 c x3) (fun v=>x1.length<=v.length/\v.length<=x1.length+3000):=by
 unfold Ud;refine Ob (hT1 (by first|omega|(simp only[iT2]at *;omega)) b) fun e a=>?_;exact .mk (by omega)
theorem bA2 {x1:YE} {a:Int} (c:x1.sm) (d:0<=a):Ok (bL1 x1 a) (fun v=>v=false->a<(x1.Lyrics.length:Int)):=by
 unfold bL1;refine Ob (P:=fun r=>r=false->a<(x1.Lyrics.length:Int)) (Oi (fun _=>.mk (fun h=>by cases h)) (fun hc=>?_)) fun b hb=>.mk hb;simp only[iP2]at hc;exact Ob (cF (Q:=fun _=>True) d (by omega) (fun _ _ _=>trivial)) fun y _=>.mk (fun _=>by omega)
theorem bB2 {x1 o x3:Int} {C:aA (YP×Bool)} {u:aA YV} {p:Y0} {D:Int} (v:u.length+0<=1000000) (d:p.sm) (B:0<=x1) (hy:0<=o) (s:0<=x3):Ok (bM1 x1 o x3 C u p D) (fun _=>True):=by
 unfold bM1;have F:=d.Measures;refine Ob (P:=fun _=>True) (bJ (l:=p.Measures) (fun q=>q.1) (fun _ _=>True) (by omega) rfl trivial (fun i e q _ g hi hl _ hg hw=>?_) (fun q hi _=>?_)) fun⟨a1,a2,a3,a4,a5,a6,a7⟩ _=>?_;obtain⟨x,k,st,m,n,ev,y,l⟩:=q;dsimp only at hi hl hg hw;simp only[hl,hg,nt];refine Ob (P:=fun r=>¬r=true->∃y,aU e.Cells x1=some y/\o<(y.Voices.length:Int)) (Oi (fun _=>.mk (fun h=>absurd rfl h)) (fun hc=>?_)) fun b hb=>?_;simp only[iP2]at hc;exact Ok.bindE (cF (Q:=fun _=>True) B (by omega) (fun _ _ _=>trivial)) fun y hy _=>.mk (fun h=>⟨y,hy,by simpa using h⟩);refine Oi (fun _=>.mk ⟨hw,trivial⟩) (fun hc=>?_);obtain⟨c,f,hv⟩:=hb hc;rw[f,iF2];refine Ok.bindE (cF (Q:=fun _=>True) hy hv (fun _ _ _=>trivial)) fun z j _=>?_;have t:=((d.MeasuresE e g).CellsE c (fE f).2.2.1).VoicesE z (fE j).2.2.1;have E:=t.Events;refine Ob (P:=fun _=>True) (bJ (l:=z.Events) (fun q=>q.1) (fun _ _=>True) (by omega) rfl trivial (fun i e q _ g hi hl _ hg hw=>?_) (fun q hi _=>?_)) fun⟨a1,a2,a3,a4,a5,a6,a7⟩ _=>.mk ⟨hw,trivial⟩;obtain⟨x,k,st,m,n,ev,y,l⟩:=q;dsimp only at hi hl hg hw;simp only[hl,hg,nt];refine Ob (bA2 (t.EventsE e g) s) fun a A=>?_;refine Oi (fun _=>.mk ⟨hw,trivial⟩) (fun hc=>?_);refine Ob (cF (Q:=fun _=>True) s (A (by simpa using hc)) (fun _ _ _=>trivial)) fun w _=>?_;refine Ob (P:=fun _=>True) (Oi (fun _=>bB) (fun _=>bB)) fun _ _=>?_;exact Ob (P:=fun _=>True) (Oi (fun _=>bB) (fun _=>bB)) fun _ _=>.mk ⟨hw,trivial⟩;obtain⟨x,k,st,m,n,ev,y,l⟩:=q;dsimp only at hi;simp only[hi,nf];exact bB;obtain⟨x,k,st,m,n,ev,y,l⟩:=q;dsimp only at hi;simp only[hi,nf];exact bB;exact Ob (P:=fun _=>True) (Oi (fun _=>bB) (fun _=>bB)) fun _ _=>bB
theorem T84 {x1:YP} {a:YE} {x3:aA (YP×Bool)} (b:a.sm):Ok (F84 x1 a x3) (fun _=>True):=by
 unfold F84;exact bB
theorem hU1 {x1:aA (YP×Bool)} {K:aA YV} {x3:Y0} {x4:Int} (d8:K.length+3000<=1000000) (y:x3.sm):Ok (Di x1 K x3 x4) (fun v=>K.length<=v.length/\v.length<=K.length+3000):=by
 unfold Di;have O:=y.Measures;refine og x3.Measures K 3000 300 (iL2 y.Measures (by decide)) (fun Z D q1162 T z c p g a t=>?_) (fun q1162 c g=>?_) fun d7 b8=>?_;obtain⟨b5,L⟩:=q1162;dsimp only at c p a t g;simp only[p,a,nt];have l:=y.MeasuresE _ z;have P:=l.Cells;refine og D.Cells L 300 60 (iL2 l.Cells (by decide)) (fun a0 E q1176 U A d q h b u=>?_) (fun q1176 d h=>?_) fun d6 b9=>?_;obtain⟨b6,M⟩:=q1176;dsimp only at d q b u h;simp only[q,a,b,nt];have m:=l.CellsE _ A;have R:=m.Voices;refine og E.Voices M 60 20 (iL2 m.Voices (by decide)) (fun b0 F q1190 V B e r i k w=>?_) (fun q1190 e i=>?_) fun d5 d0=>?_;obtain⟨b7,N⟩:=q1190;dsimp only at e r k w i;simp only[r,a,b,k,nt];have n:=m.VoicesE _ B;have S:=n.Events;refine og F.Events N 20 1 (iL2 n.Events (by decide)) (fun b4 X q1204 W C f s j o x=>?_) (fun q1204 f j=>?_) fun d4 d1=>?_;obtain⟨H,J⟩:=q1204;dsimp only at f s o x j;simp only[s,a,b,k,o,nt];have G:=n.EventsE _ C;refine bW (T84 G) fun d2=>?_;refine Ob (kN (by first|omega|(simp only[iT2]at *;omega)) y) fun d3 Y=>?_;exact .mk ⟨x,by dsimp only;omega⟩;obtain⟨H,J⟩:=q1204;dsimp only at f j;simp only[f,nf];exact .mk (by dsimp only;omega);exact .mk ⟨w,by dsimp only;omega⟩;obtain⟨b7,N⟩:=q1190;dsimp only at e i;simp only[e,nf];exact .mk (by dsimp only;omega);exact .mk ⟨u,by dsimp only;omega⟩;obtain⟨b6,M⟩:=q1176;dsimp only at d h;simp only[d,nf];exact .mk (by dsimp only;omega);exact .mk ⟨t,by dsimp only;omega⟩;obtain⟨b5,L⟩:=q1162;dsimp only at c g;simp only[c,nf];exact .mk (by dsimp only;omega);exact .mk (by omega)
theorem qA1 {x1:aA YV} {e:Y0} {x3:Int} (f:x1.length+3000<=1000000) (a:e.sm):Ok (Ue x1 e x3) (fun v=>x1.length<=v.length/\v.length<=x1.length+3000):=by
 unfold Ue;refine Ob (T56 a) fun n g=>?_;refine Ob (P:=fun _=>True) (iW (fun q=>q.1) n (fun _=>True) g (by decide) trivial (fun q _ h1 h2=>?_)) fun m _=>?_;obtain⟨x,l⟩:=q;dsimp only at h1 h2 ⊢;refine Oi (fun hc=>?_) (fun _=>bB);simp only[iP2]at hc;refine Ob (P:=fun _=>True) (iW (fun q=>q.1) 2 (fun _=>True) (by decide) (by dsimp only;omega) trivial (fun q _ b g2=>?_)) fun m _=>.mk ⟨hc,h2 hc,trivial⟩;obtain⟨y,l⟩:=q;dsimp only at b g2 ⊢;refine Oi (fun hd=>?_) (fun _=>bB);simp only[iP2]at hd;refine Ob (P:=fun _=>True) (iW (fun q=>q.1) 4 (fun _=>True) (by decide) (by dsimp only;omega) trivial (fun q _ c d=>?_)) fun m _=>.mk ⟨hd,g2 hd,trivial⟩;obtain⟨z,l⟩:=q;dsimp only at c d ⊢;refine Oi (fun he=>?_) (fun _=>bB);simp only[iP2]at he;exact Ob (bB2 (by omega) a h1 b c) fun m _=>.mk ⟨he,d he,trivial⟩;exact Ob (hU1 (by omega) a) fun v hv=>.mk (by omega)
theorem cJ1 {x1:Y0} (a:x1.sm):Ok (vP x1) (fun _=>True):=by
 unfold vP;exact bB
theorem Vi {x1 e:Int} {x3 f:Int} {g h i:Int} {c:YJ} {j:Bool} {a:YP} {b:YZ} (d:c.sm):Ok (sJ x1 e x3 f g h i c j a b) (fun _=>True):=by
 unfold sJ;refine Oi (fun c1209=>?_) (fun c1209=>?_);exact bB;exact bB
theorem Jj {x1 c:Int} {x3 d:Int} {e f g:Int} {h:YF} {i:Bool} {a:YP} {b:YZ}:Ok (mT x1 c x3 d e f g h i a b) (fun _=>True):=by
 unfold mT;refine Oi (fun c1210=>?_) (fun c1210=>?_);exact bB;exact bB
theorem Jk {x1 e:Int} {x3 f:Int} {g h i:Int} {c:YM} {j:Bool} {a:YP} {b:YZ} (d:c.sm):Ok (mU x1 e x3 f g h i c j a b) (fun _=>True):=by
 unfold mU;refine Oi (fun c1211=>?_) (fun c1211=>?_);exact bB;exact bB
theorem Jl {x1 e:Int} {x3 f:Int} {g h i:Int} {c:YE} {j:Bool} {a:YP} {b:YZ} (d:c.sm):Ok (mV x1 e x3 f g h i c j a b) (fun _=>True):=by
 unfold mV;refine Oi (fun c1212=>?_) (fun c1212=>?_);exact bB;exact bB
theorem Jn {x1 c:Int} {x3 d:Int} {e f g:Int} {h:YN} {i:Bool} {a:YP} {b:YZ}:Ok (mW x1 c x3 d e f g h i a b) (fun _=>True):=by
 unfold mW;refine Oi (fun c1213=>?_) (fun c1213=>?_);exact bB;exact bB
theorem cK1 {x1:Y0} {X:Bool} {x3:YP} {Y:YZ} (g:x1.sm):Ok (vQ x1 X x3 Y) (fun v=>match v with|.inl p=>p.Kind=4->0<=p.Event/\x1.pl p.Measure p.Staff p.Voice|.inr _=>True):=by
 unfold vQ;have hP:=g.Parts;have hM:=g.Measures;have U:=g.Spanners;refine Ob (P:=fun r=>match r with|.inl p=>p.1≠4|.inr _=>True) (bJ (l:=x1.Parts) (fun q=>q.2) (fun _ _=>True) (by omega) rfl trivial (fun i e q D B hi hl _ hg hw=>?_) (fun q hi _=>?_)) fun r hr=>?_;obtain⟨s,x⟩:=q;dsimp only at hi hl hg hw;simp only[hl,hg,nt];refine Ob (Vi (g.PartsE e B)) fun r _=>?_;rcases r with _|_;exact .mk (show(1:Int)≠4 by decide);have U:=(g.PartsE e B).Staves;refine Ob (P:=fun _=>True) (bJ (l:=e.Staves) (fun q=>q.2) (fun _ _=>True) (by omega) rfl trivial (fun i2 e2 q W V F A _ m C=>?_) (fun q hi _=>?_)) fun r _=>?_;obtain⟨s,y⟩:=q;dsimp only at F A m C;simp only[A,m,nt];refine Ob Jj fun r _=>?_;rcases r with _|_;exact bB;exact .mk ⟨C,trivial⟩;obtain⟨s,y⟩:=q;dsimp only at hi;simp only[hi,nf];exact bB;rcases r with⟨a,b⟩|a;exact .mk (show(2:Int)≠4 by decide);exact .mk ⟨hw,trivial⟩;obtain⟨s,y⟩:=q;dsimp only at hi;simp only[hi,nf];exact bB;rcases r with⟨k,p,st⟩|_;exact .mk (fun h=>absurd h hr);refine Ob (P:=fun r=>match r with|.inl p=>p.1=4->0<=p.2.2.2.2/\x1.pl p.2.2.1 p.2.1 p.2.2.2.1|.inr _=>True) (bJ (l:=x1.Measures) (fun q=>q) (fun _ _=>True) (by omega) rfl trivial (fun i e q D B hi hl _ hg hw=>?_) (fun q hi _=>?_)) fun r hr=>?_;simp only[hl,hg,nt];have R:=g.MeasuresE e B;have Z:=R.Cells;refine Ob (Jk R) fun r _=>?_;rcases r with _|_;exact .mk (fun h=>absurd (show(3:Int)=4 from h) (by decide));refine Ob (P:=fun r=>match r with|.inl p=>0<=p.2.2/\x1.pl q p.1 p.2.1|.inr _=>True) (bJ (l:=e.Cells) (fun q=>q) (fun _ _=>True) (by omega) rfl trivial (fun j c w D J hj hlc _ o M=>?_) (fun q hi _=>?_)) fun r hr=>?_;simp only[hlc,o,nt];have S:=R.CellsE c J;have hV:=S.Voices;refine Ob (P:=fun r=>match r with|.inl p=>0<=p.2/\x1.pl q w p.1|.inr _=>True) (bJ (l:=c.Voices) (fun q=>q) (fun _ _=>True) (by omega) rfl trivial (fun k v u D L hk H _ z O=>?_) (fun q hi _=>?_)) fun r hr=>?_;simp only[H,z,nt];have T:=S.VoicesE v L;have hE:=T.Events;refine Ob (P:=fun r=>match r with|.inl x=>0<=x|.inr _=>True) (bJ (l:=v.Events) (fun q=>q) (fun _ _=>True) (by omega) rfl trivial (fun n ev t D K ht G _ E N=>?_) (fun q hi _=>?_)) fun r hr=>?_;simp only[G,E,nt];refine Ob (Jl (T.EventsE ev K)) fun r _=>?_;rcases r with _|_;exact .mk (show(0:Int)<=t by omega);exact .mk ⟨N,trivial⟩;simp only[hi,nf];exact bB;rcases r with x|_;exact .mk ⟨hr,e,c,v,hg,o,z⟩;exact .mk ⟨O,trivial⟩;simp only[hi,nf];exact bB;rcases r with⟨a,b⟩|_;exact .mk hr;exact .mk ⟨M,trivial⟩;simp only[hi,nf];exact bB;rcases r with⟨a,b,c⟩|_;exact .mk (fun _=>hr);exact .mk ⟨hw,trivial⟩;simp only[hi,nf];exact bB;rcases r with⟨a,b,c,d,f⟩|_;exact .mk hr;refine Ob (P:=fun _=>True) (bJ (l:=x1.Spanners) (fun q=>q) (fun _ _=>True) (by omega) rfl trivial (fun i e q D B hi hl _ hg hw=>?_) (fun q hi _=>?_)) fun r hr=>?_;simp only[hl,hg,nt];refine Ob Jn fun r _=>?_;rcases r with _|_;exact bB;exact .mk ⟨hw,trivial⟩;simp only[hi,nf];exact bB;rcases r with x|_;exact .mk (fun h=>absurd (show(5:Int)=4 from h) (by decide));exact bB
theorem bC2 {x1:Y0} {b:YZ} (a:x1.sm):Ok (bO1 x1 b) (fun v=>v.2=true->v.1.Kind=4->0<=v.1.Event/\x1.pl v.1.Measure v.1.Staff v.1.Voice):=by
 unfold bO1;refine Oi (fun _=>.mk (fun h=>by cases h)) (fun _=>?_);refine Ob (cJ1 a) fun _ _=>?_;refine Ob (cK1 a) fun r hr=>?_;rcases r with p|_;exact .mk (fun _=>hr);exact .mk (fun h=>by cases h)
theorem bD2 {x1:aA Int} (b:x1.length<=20):Ok (bP1 x1) (fun _=>True):=by
 unfold bP1;refine Ob (sN (by omega) (by omega) (by omega)) fun g h2=>?_;refine Ob (P:=fun v=>v.length=x1.length) (iW (fun q=>q.1) (x1.length:Int) (fun q=>q.2.length=x1.length) (by omega) (by dsimp only;omega) (by rw[h2];simp) (fun q a h1 h2=>?_)) fun v hv=>bB;obtain⟨i,l⟩:=q;dsimp only at a h1 h2 ⊢;refine Oi (fun hc=>?_) (fun _=>.mk a);simp only[iP2]at hc;rw[bM (n:=i-1) (by omega) (by omega)];refine Ob (iV (by omega) (by omega)) fun j d=>?_;refine Ob (kZ (by omega)) fun x _=>?_;refine Ob (cF (Q:=fun _=>True) (by omega) (by omega) (fun _ _ _=>trivial)) fun y _=>?_;refine Ob (iV (by omega) (by omega)) fun f c=>?_;exact Ob (Md (by omega)) fun m e=>.mk ⟨hc,h2 hc,by dsimp only;omega⟩
theorem bE2 {x1:YO} {c:Int} (b:x1.sm):Ok (bQ1 x1 c) (fun _=>True):=by
 unfold bQ1;refine Ob (pP1 b) fun⟨x3,d⟩ a=>?_
 try dsimp only at a
 refine Oi (fun c1215=>?_) (fun c1215=>?_);exact bB;refine bW (bD2 a) fun e=>?_;exact bB
theorem qB1 {x1:YK} {j:YZ} (c:x1.s'.sm):Ok (Uh x1 j) (fun _=>True):=by
 unfold Uh;refine Ob (bC2 c) fun⟨p,f⟩ hp=>?_;dsimp only at hp;refine Oi (fun _=>bB) (fun hc=>?_);simp only[iU2,lF2,iZ2,Bool.not_eq_false,bne_iff_ne,ne_eq,Decidable.not_not]at hc;obtain⟨h0,x,y,z,d,hy,g⟩:=hp hc.1 hc.2;simp only[d,hy,g,iF2];have h:=c.MeasuresE x (fE d).2.2.1;have i:=(h.CellsE y (fE hy).2.2.1).VoicesE z (fE g).2.2.1;refine Ob (T61 h) fun⟨a,b⟩ _=>?_;refine Ob (bE2 i) fun⟨on,e⟩ _=>?_;refine Oi (fun _=>bB) (fun hd=>?_);simp only[iP2]at hd;exact Ob (cF (Q:=fun _=>True) h0 (by dsimp only at hd ⊢;omega) (fun _ _ _=>trivial)) fun w _=>bB
theorem cL1 {x1 a:Int}:Ok (Jd x1 a) (fun _=>True):=by
 unfold Jd;exact bB
theorem qC1 {x1:YQ}:Ok (Ui x1) (fun _=>True):=by
 unfold Ui;refine bW (cL1) fun g=>?_;refine Ob (P:=fun r=>r=true->g=true) ?_ fun i a=>?_;refine Oi (fun c1219=>?_) (fun _=>.mk (fun h=>by cases h));refine bW (cL1) fun x3=>?_;exact .mk (fun _=>c1219);refine Ob (P:=fun r=>r=true->i=true) ?_ fun j b=>?_;refine Oi (fun c1222=>?_) (fun _=>.mk (fun h=>by cases h));have e:=a c1222;refine bW (cL1) fun k=>?_;exact .mk (fun _=>c1222);refine Ob (P:=fun r=>r=true->j=true) ?_ fun m d=>?_;refine Oi (fun c1226=>?_) (fun _=>.mk (fun h=>by cases h));have c:=b c1226;have f:=a c;refine bW (cL1) fun l=>?_;exact .mk (fun _=>c1226);exact bB
theorem qD1 {x1:Int}:Ok (Uj x1) (fun _=>True):=by
 unfold Uj;exact bB
theorem qE1 {x1:Int}:Ok (Uk x1) (fun _=>True):=by
 unfold Uk;exact bB
theorem qF1 {x1 a:Int}:Ok (Ul x1 a) (fun _=>True):=by
 unfold Ul;refine bW (qE1) fun x3=>?_;refine bW (qE1) fun b=>?_;refine Oi (fun c1232=>?_) (fun c1232=>?_);refine Oi (fun c1233=>?_) (fun c1233=>?_);exact bB;exact bB;refine Oi (fun c1234=>?_) (fun c1234=>?_);exact bB;refine Oi (fun c1235=>?_) (fun c1235=>?_);exact bB;refine Oi (fun c1236=>?_) (fun c1236=>?_);exact bB;exact bB
theorem bF2 {x1:aA Int} (e:x1.length<=20):Ok (bR1 x1) (fun _=>True):=by
 unfold bR1;have g:=e;refine pH (l:=x1) (fun q=>q) (iL2 e (by decide)) rfl (fun i h x3 f a c b d=>?_) (fun x3 a=>?_) fun j=>?_;simp only[c,b,nt];refine Oi (fun c1248=>?_) (fun c1248=>?_);exact bB;exact .mk d;simp only[a,nf];exact bB;rcases j with k|_;exact bB;exact bB
theorem Jo {x1 a:YQ}:Ok (yX x1 a) (fun _=>True):=by
 unfold yX;refine bW (qF1) fun x3=>?_;refine bW (qF1) fun b=>?_;refine bW (bF2 (by simp)) fun c=>?_;exact bB
theorem bG2 {x1:YS}:Ok (bS1 x1) (fun _=>True):=by
 unfold bS1;refine Oi (fun c1252=>?_) (fun c1252=>?_);exact bB;refine bW (qC1) fun e=>?_;refine Ob (P:=fun r=>¬r=true->¬(!e)=true) ?_ fun f a=>?_;refine Oi (fun _=>.mk (fun h=>absurd rfl h)) (fun c1255=>?_);refine bW (qC1) fun x3=>?_;exact .mk (fun _=>c1255);refine Oi (fun c1257=>?_) (fun c1257=>?_);exact bB;have c:=a c1257;refine Ob (P:=fun r=>¬r=true->¬(x1.From.Staff !=x1.To.Staff)=true) ?_ fun i b=>?_;refine Oi (fun _=>.mk (fun h=>absurd rfl h)) (fun c1260=>?_);refine bW (qD1) fun g=>?_;exact .mk (fun _=>c1260);refine Oi (fun c1262=>?_) (fun c1262=>?_);exact bB;have d:=b c1262;refine bW (Jo) fun j=>?_;refine Oi (fun c1265=>?_) (fun c1265=>?_);exact bB;exact bB
theorem qG1 {x1:aA YV} {d:Y0} {x3:Int} (j:x1.length+0<=1000000) (c:d.sm):Ok (Um x1 d x3) (fun v=>v.1.length=d.Spanners.length/\v.2.length=d.Spanners.length):=by
 unfold Um;have n:=c.Spanners;refine Ob (P:=fun v=>v.1.length=d.Spanners.length/\v.2.length=d.Spanners.length) (bJ (l:=d.Spanners) (fun q=>q.1) (fun i q=>q.2.1.length=i/\q.2.2.length=i) (by omega) rfl ⟨rfl,rfl⟩ (fun i e q p o hi hl f hg hw=>?_) (fun q hi f=>?_)) fun⟨a,b⟩ hv=>.mk hv;obtain⟨x,g,h⟩:=q;dsimp only at hi hl f hg hw;simp only[hl,hg,nt];refine Ob (qB1 c) fun⟨p1,k⟩ _=>?_;refine Ob (qB1 c) fun⟨p2,m⟩ _=>?_;refine Ob (fP (Q:=fun v=>v.length=h.length+1) (by omega) (by simp)) fun r h1=>?_;refine Ob (P:=fun _=>True) (Oi (fun _=>bB) (fun _=>Ob bG2 fun _ _=>bB)) fun b _=>?_;exact Ob (fP (Q:=fun v=>v.length=g.length+1) (by omega) (by simp)) fun s h2=>.mk ⟨hw,by dsimp only;omega,by dsimp only;omega⟩;obtain⟨x,g,h⟩:=q;dsimp only at hi f;simp only[hi,nf];exact .mk f
theorem qH1 {x1:aA YV} {g:Y0} {x3:Int} (h:x1.length+10<=1000000) (c:g.sm):Ok (Un x1 g x3) (fun v=>x1.length<=v.length/\v.length<=x1.length+10):=by
 unfold Un;have m:=c.Spanners;refine Ob (qG1 (by omega) c) fun⟨a,b⟩ f=>?_;dsimp only at f;refine Ob (P:=fun v=>x1.length<=v.length/\v.length<=x1.length+10) (bJ (l:=g.Spanners) (fun q=>q.1) (fun i q=>x1.length<=q.2.length/\q.2.length<=x1.length+i) (by omega) rfl (by dsimp only;omega) (fun i e q o n hi hl d hg hw=>?_) (fun q hi d=>?_)) fun v hv=>.mk (by omega);obtain⟨x,l⟩:=q;dsimp only at hi hl d hg hw;simp only[hl,hg,nt];refine Ob (iV (by omega) (by omega)) fun j k=>?_;refine Ob (kZ k.2) fun y _=>?_;exact Ob (kN (by omega) c) fun v hv=>.mk ⟨hw,by dsimp only;omega⟩;obtain⟨x,l⟩:=q;dsimp only at hi d;simp only[hi,nf];exact .mk (by omega)
theorem hV1 {x1:Int}:Ok (Ow x1) (fun v=>v>0->1<=x1/\x1<=7):=by
 unfold Ow;refine Oi (fun c1266=>?_) (fun c1266=>?_);exact .mk (by omega);refine Ob (cF (Q:=fun _=>True) (by(simp only[nm]at *;rw[bM (by omega) (by omega)];omega)) (by(simp only[nm,nl]at *;rw[bM (by omega) (by omega)];omega)) (fun _ _ _=>trivial)) fun b a=>?_;exact .mk (by(simp only[nm]at *;omega))
theorem bH2 {x1 a:YS}:Ok (bT1 x1 a) (fun v=>v=true->1<=x1.Kind/\x1.Kind<=7):=by
 unfold bT1;refine Ob hV1 fun f hf=>?_;refine Ob (P:=fun r=>r=true->1<=x1.Kind/\x1.Kind<=7) (Oi (fun hc=>?_) (fun _=>.mk (fun h=>by cases h))) fun b hb=>?_;simp only[iP2]at hc;have:=hf hc;exact Ob hV1 fun _ _=>Ob hV1 fun _ _=>.mk (fun _=>this);refine Ob (P:=fun r=>r=true->1<=x1.Kind/\x1.Kind<=7) (Oi (fun hc=>?_) (fun _=>.mk (fun h=>by cases h))) fun b hb=>.mk hb;simp only[iG2]at hc;have:=hb hc.1;exact Ob qD1 fun _ _=>.mk (fun _=>this)
theorem bI2 {x1 b:YS}:Ok (bU1 x1 b) (fun _=>True):=by
 unfold bU1;refine bW (Jo) fun x3=>?_;refine Ob (P:=fun r=>¬r=true->¬(decide (x3<0))=true) ?_ fun d a=>?_;refine Oi (fun _=>.mk (fun h=>absurd rfl h)) (fun c1270=>?_);refine bW (Jo) fun c=>?_;exact .mk (fun _=>c1270);exact bB
theorem hW1 {x1 a:YS}:Ok (Ox x1 a) (fun _=>True):=by
 unfold Ox;refine bW (bI2) fun x3=>?_;exact bB
theorem qI1 {x1 b:YS}:Ok (Uq x1 b) (fun _=>True):=by
 unfold Uq;refine bW (Jo) fun x3=>?_;refine Ob (P:=fun r=>¬r=true->¬(decide (x3<=0))=true) ?_ fun d a=>?_;refine Oi (fun _=>.mk (fun h=>absurd rfl h)) (fun c1275=>?_);refine bW (Jo) fun c=>?_;exact .mk (fun _=>c1275);exact bB
theorem hY1 {x1 a:YS}:Ok (Oy x1 a) (fun _=>True):=by
 unfold Oy;refine bW (qI1) fun x3=>?_;exact bB
theorem qJ1 {x1 b:YS}:Ok (Us x1 b) (fun _=>True):=by
 unfold Us;refine bW (Jo) fun x3=>?_;refine Ob (P:=fun r=>r=true->(decide (x3>=0))=true) ?_ fun d a=>?_;refine Oi (fun c1280=>?_) (fun _=>.mk (fun h=>by cases h));refine bW (Jo) fun c=>?_;exact .mk (fun _=>c1280);exact bB
theorem bJ2 {x1 b:YS}:Ok (bV1 x1 b) (fun _=>True):=by
 unfold bV1;refine bW (qI1) fun x3=>?_;refine Ob (P:=fun r=>r=true->(!x3)=true) ?_ fun e a=>?_;refine Oi (fun c1284=>?_) (fun _=>.mk (fun h=>by cases h));refine bW (qJ1) fun c=>?_;refine bW (qJ1) fun d=>?_;exact .mk (fun _=>c1284);exact bB
theorem T86 {x1 b:YS}:Ok (F86 x1 b) (fun _=>True):=by
 unfold F86;refine Ob bH2 fun g hg=>?_;refine Oi (fun _=>bB) (fun hc=>?_);have hk:=hg (by simpa using hc);rw[bM (n:=x1.Kind-1) (by omega) (by omega)];refine Oi (fun _=>Ob hW1 fun _ _=>bB) (fun a=>?_);refine Oi (fun _=>Ob hY1 fun _ _=>bB) (fun h5=>?_);refine Oi (fun _=>Ob hW1 fun _ _=>bB) (fun h4=>?_);refine Oi (fun _=>Ob hW1 fun _ _=>bB) (fun h3=>?_);refine Oi (fun _=>Ob hY1 fun _ _=>bB) (fun h2=>?_);refine Oi (fun _=>Ob hY1 fun _ _=>bB) (fun h1=>?_);refine Oi (fun _=>Ob bJ2 fun _ _=>bB) (fun h0=>?_);simp only[kB2]at h0 h1 h2 h3 h4 h5 a;omega
theorem qK1 {x1:aA YV} {n:Y0} {x3:Int} (o:x1.length+10<=1000000) (c:n.sm):Ok (Ut x1 n x3) (fun v=>x1.length<=v.length/\v.length<=x1.length+10):=by
 unfold Ut;have p:=c.Spanners;refine Ob (qG1 (by omega) c) fun⟨a,b⟩ g=>?_;dsimp only at g;refine Ob (P:=fun v=>x1.length<=v.length/\v.length<=x1.length+10) (bJ (l:=n.Spanners) (fun q=>q.1) (fun i q=>x1.length<=q.2.length/\q.2.length<=x1.length+i) (by omega) rfl (by dsimp only;omega) (fun i e q t s hi hl f hg hw=>?_) (fun q hi f=>?_)) fun v hv=>.mk (by omega);obtain⟨x,l⟩:=q;dsimp only at hi hl f hg hw;simp only[hl,hg,nt];refine Ob (P:=fun _=>True) (iW (fun q=>q.2) x (fun _=>True) (by omega) (by dsimp only;omega) trivial (fun q _ h1 h2=>?_)) fun b _=>?_;obtain⟨ex,k⟩:=q;dsimp only at h1 h2 ⊢;refine Ob (P:=fun r=>r=true->k<x) (Oi (fun hc=>?_) (fun _=>.mk (fun h=>by cases h))) fun b hb=>?_;simp only[iP2]at hc;exact Ob (iV (by omega) (by omega)) fun j d=>Ob (kZ d.2) fun y _=>.mk (fun _=>hc);refine Oi (fun hc=>?_) (fun _=>bB);simp only[iG2]at hc;have hk:=hb hc.1;refine Ob (iV (by omega) (by omega)) fun j d=>Ob (kZ d.2) fun y _=>?_;refine Ob (P:=fun _=>True) (Oi (fun _=>?_) (fun _=>bB)) fun b _=>.mk ⟨hk,h2 hk,trivial⟩;exact Ob (iV (by omega) (by omega)) fun j d=>Ob (kZ d.2) fun w _=>Ob (iV (by omega) (by omega)) fun u m=>Ob (kZ m.2) fun z _=>Ob T86 fun b _=>bB;exact Ob (kN (by omega) c) fun v hv=>.mk ⟨hw,by dsimp only;omega⟩;obtain⟨x,l⟩:=q;dsimp only at hi f;simp only[hi,nf];exact .mk (by omega)
theorem T87 {x1:Int} {a:YM} (c:a.sm):Ok (F87 x1 a) (fun v=>v=false->a.RepeatEnd<=8):=by
 unfold F87;simp only[gV1,iF2];refine Ob (P:=fun r=>r=false->a.RepeatEnd<=8) (Oi (fun hc=>.mk (fun h=>?_)) (fun hc=>.mk (fun _=>?_))) fun b hb=>?_;simp at h;omega;simp at hc;omega;exact Ob (P:=fun r=>r=false->a.RepeatEnd<=8) (Oi (fun hc=>.mk (fun h=>by cases h)) (fun hc=>.mk (fun _=>hb (by simpa using hc)))) fun b hb=>.mk hb
theorem hZ1 {x1:aA YV} {c:Y0} {x3:Int} (o:x1.length+10<=1000000) (d:c.sm):Ok (tX x1 c x3) (fun v=>(x1.length<=v.length/\v.length<=x1.length+10)/\(v.length<=x1.length->∀m∈c.Measures,m.RepeatEnd<=8)):=by
 unfold tX;have r:=d.Measures;refine Ob (P:=fun v=>(x1.length<=v.length/\v.length<=x1.length+10)/\(v.length<=x1.length->∀m∈c.Measures,m.RepeatEnd<=8)) (bJ (l:=c.Measures) (fun q=>q.1) (fun i q=>q.2.length<=x1.length+i/\x1.length<=q.2.length/\(q.2.length<=x1.length->∀j,j<i->∀m,c.Measures[j]? =some m->m.RepeatEnd<=8)) (by omega) rfl ⟨by dsimp only;omega,iJ2 _,fun _ j g=>by omega⟩ (fun i e q p n hi hl f hg hw=>?_) (fun q hi f=>?_)) fun v hv=>.mk hv;obtain⟨x,l⟩:=q;dsimp only at hi hl f hg hw;simp only[hl,hg,nt];refine Ob (T87 (d.MeasuresE e n)) fun b hb=>?_;refine Ob (Pb (by omega)) fun v hv=>.mk ⟨hw,?_,?_,fun h j g m a=>?_⟩;dsimp only;cases b<;>simp at hv<;>omega;dsimp only;cases b<;>simp at hv<;>omega;dsimp only at h;cases b with
 |true=>simp at hv;omega
 |false=>
  simp only[iR2,false_implies,forall_const,true_and]at hv;by_cases k:j=i;subst k;rw[p]at a;cases a;exact hb rfl;exact f.2.2 (by omega) j (by omega) m a
 obtain⟨x,l⟩:=q;dsimp only at hi f;simp only[hi,nf];refine .mk ⟨⟨by omega,by omega⟩,fun h m n=>?_⟩;obtain⟨j,g⟩:=jE2.1 n;exact f.2.2 h j (iI2.1 g).1 m g
theorem bK2 {x1:Int}:Ok (bX1 x1) (fun v=>0<=v/\v<=1000):=by
 unfold bX1;refine Ob (P:=fun v=>0<=v.2/\v.2<=32) (Oi (fun _=>Ob (sM (by decide)) fun n _=>.mk (by dsimp only;omega)) (fun _=>.mk (by dsimp only;omega))) fun⟨x3,f⟩ h4=>?_;dsimp only at h4;refine Ob (P:=fun v=>0<=v.2/\v.2<=48) (Oi (fun _=>Ob (sM (by decide)) fun n _=>.mk (by dsimp only;rw[bM (by omega) (by omega)];omega)) (fun _=>.mk (by dsimp only;omega))) fun⟨g,h⟩ c=>?_;dsimp only at c;refine Ob (P:=fun v=>0<=v.2/\v.2<=56) (Oi (fun _=>Ob (sM (by decide)) fun n _=>.mk (by dsimp only;rw[bM (by omega) (by omega)];omega)) (fun _=>.mk (by dsimp only;omega))) fun⟨e,d⟩ a=>?_;dsimp only at a;have hw:=oZ1 e;refine Ob (tZ hw.1 hw.2) fun b hb=>.mk ?_;rw[bM (n:=b) (by omega) (by omega),bM (by omega) (by omega)];omega
theorem cM1 {x1:Int}:Ok (yF x1) (fun v=>0<=v/\v<=1000):=by
 unfold yF;refine Ob (bK2) fun b a=>?_;exact .mk (by omega)
theorem T89 {x1:YG} (c:x1.passes<=1000):Ok (Pk x1) (fun _=>True):=by
 unfold Pk;refine Ob (P:=fun r=>r=true->(decide (x1.passes>0))=true) ?_ fun x3 a=>?_;refine Oi (fun c1289=>?_) (fun _=>.mk (fun h=>by cases h));refine Ob (Mc (by(simp only[nm]at *;rw[bM (by omega) (by omega)];omega))) fun d b=>?_;exact .mk (fun _=>c1289);exact bB
theorem bL2 {x1:YG} {e:YM} (u:e.sm) (E:x1.passes<=8) (hy:e.RepeatEnd<=8):Ok (Uu x1 e) (fun v=>v.1.passes<=8):=by
 unfold Uu;refine Oi (fun c1291=>?_) (fun c1291=>?_);exact .mk (by omega);refine Oi (fun c1292=>?_) (fun c1292=>?_);refine Oi (fun c1293=>?_) (fun c1293=>?_);exact .mk (by omega);refine Ob (cM1) fun x3 f=>?_;refine Oi (fun c1295=>?_) (fun c1295=>?_);refine Oi (fun c1296=>?_) (fun c1296=>?_);exact .mk (by omega);refine Oi (fun c1297=>?_) (fun c1297=>?_);refine bW (T89 (by(simp only[nm]at *;omega))) fun C=>?_;refine Ob (P:=fun r=>¬r=true->¬(C||((x1.passes !=0)&&(e.RepeatEnd !=x1.passes)))=true) ?_ fun G a=>?_;refine Oi (fun _=>.mk (fun h=>absurd rfl h)) (fun c1300=>?_);refine Ob (cM1) fun F g=>?_;exact .mk (fun _=>c1300);refine Oi (fun c1302=>?_) (fun c1302=>?_);exact .mk (by omega);have n:=a c1302;exact .mk (by omega);exact .mk (by omega);refine Ob (P:=fun r=>¬r=true->¬(decide ((bD (x3-1))>=x1.passes))=true) ?_ fun x b=>?_;refine Oi (fun _=>.mk (fun h=>absurd rfl h)) (fun c1305=>?_);refine Ob (P:=fun r=>r=true->((bD (x3-1))==(bD (x1.passes-1)))=true) ?_ fun w i=>?_;refine Oi (fun c1307=>?_) (fun _=>.mk (fun h=>by cases h));refine bW (T89 (by(simp only[nm]at *;omega))) fun D=>?_;refine Ob (P:=fun r=>¬r=true->¬(!D)=true) ?_ fun J j=>?_;refine Oi (fun _=>.mk (fun h=>absurd rfl h)) (fun c1310=>?_);refine Ob (Mc (by(simp(disch:=omega) only[bM,nm]at *;omega))) fun H k=>?_;exact .mk (fun _=>c1310);exact .mk (fun _=>c1307);exact .mk (fun _=>c1305);refine Oi (fun c1312=>?_) (fun c1312=>?_);exact .mk (by omega);have o:=b c1312;refine Oi (fun c1314=>?_) (fun c1314=>?_);refine bW (T89 (by(simp only[nm]at *;omega))) fun s=>?_;refine Ob (P:=fun r=>¬r=true->¬(s||((x1.passes !=0)&&(e.RepeatEnd !=x1.passes)))=true) ?_ fun z c=>?_;refine Oi (fun _=>.mk (fun h=>absurd rfl h)) (fun c1317=>?_);refine Ob (cM1) fun y l=>?_;exact .mk (fun _=>c1317);refine Oi (fun c1319=>?_) (fun c1319=>?_);exact .mk (by omega);have p:=c c1319;exact .mk (by omega);exact .mk (by omega);refine Oi (fun c1321=>?_) (fun c1321=>?_);exact .mk (by omega);refine Oi (fun c1322=>?_) (fun c1322=>?_);refine bW (T89 (by omega)) fun t=>?_;refine Ob (P:=fun r=>¬r=true->¬(t||((x1.passes !=0)&&(e.RepeatEnd !=x1.passes)))=true) ?_ fun B d=>?_;refine Oi (fun _=>.mk (fun h=>absurd rfl h)) (fun c1325=>?_);refine Ob (cM1) fun A m=>?_;exact .mk (fun _=>c1325);refine Oi (fun c1327=>?_) (fun c1327=>?_);exact .mk (by omega);have q:=d c1327;exact .mk (by omega);exact .mk (by omega)
theorem T88 {x1:YG} {e:YM} (d:e.sm) (c:x1.passes<=8) (hy:e.RepeatEnd<=8):Ok (Wg x1 e) (fun v=>v.1.passes<=8):=by
 unfold Wg;refine Oi (fun _=>Ob (bL2 d c hy) fun⟨a,b⟩ h=>.mk h) (fun _=>?_);refine Oi (fun _=>?_) (fun _=>?_);refine Ob (T89 (by omega)) fun f _=>?_;refine Oi (fun _=>.mk c) (fun _=>?_);refine Oi (fun _=>Oi (fun h=>by cases h) (fun _=>?_)) (fun _=>?_);exact Ob (P:=fun _=>True) (Oi (fun _=>bB) (fun _=>bB)) fun⟨a,b⟩ _=>.mk (show(0:Int)<=8 by decide);exact Ob (P:=fun _=>True) (Oi (fun _=>bB) (fun _=>bB)) fun a _=>.mk (show(0:Int)<=8 by decide);refine Oi (fun _=>Oi (fun _=>.mk c) (fun _=>?_)) (fun _=>?_);exact Ob (P:=fun _=>True) (Oi (fun _=>bB) (fun _=>bB)) fun⟨a,b⟩ _=>.mk (show(0:Int)<=8 by decide);exact Ob (P:=fun g=>g.passes<=8) (Oi (fun _=>.mk (show(0:Int)<=8 by decide)) (fun _=>.mk c)) fun g hg=>.mk hg
theorem qL1 {x1:aA YV} {f:Y0} {x3:Int} (k:x1.length+21<=1000000) (c:f.sm) (o:0<f.Measures.length):Ok (Je x1 f x3) (fun v=>x1.length<=v.length/\v.length<=x1.length+21):=by
 unfold Je;have s:=c.Measures;refine Ob (hZ1 (by omega) c) fun j h4=>?_;refine Oi (fun _=>.mk (by omega)) (fun hc=>?_);simp only[iP2]at hc;have n:=h4.2 (by omega);have m:=h4.1;refine Ob (P:=fun r=>match r with|.inl p=>j.length<=p.2.length/\p.2.length<=j.length+1|.inr g=>g.passes<=8) (bJ (l:=f.Measures) (fun q=>q.1) (fun i q=>q.2.passes<=8) (by omega) rfl (show(0:Int)<=8 by decide) (fun i e q o h hi hl d hg hw=>?_) (fun q hi d=>?_)) fun r hr=>?_;obtain⟨x,g⟩:=q;dsimp only at hi hl d hg hw;simp only[hl,hg,nt];refine Ob (T88 (c.MeasuresE e h) d (n e h)) fun⟨g2,b⟩ hb=>?_;refine Oi (fun _=>?_) (fun _=>.mk ⟨hw,hb⟩);exact Ob (kN (by omega) c) fun v hv=>.mk (by dsimp only;omega);obtain⟨x,g⟩:=q;dsimp only at hi d;simp only[hi,nf];exact .mk d;rcases r with⟨a,v⟩|g;exact .mk (by dsimp only at hr;omega);dsimp only at hr;refine Ob (P:=fun _=>True) (Oi (fun _=>bB) (fun _=>?_)) fun b _=>?_;exact Ob (P:=fun _=>True) (Oi (fun _=>Ob (T89 (by omega)) fun _ _=>bB) (fun _=>bB)) fun _ _=>bB;refine Ob (cF (Q:=fun _=>True) (by rw[bM (by omega) (by omega)];omega) (by rw[bM (by omega) (by omega)];omega) (fun _ _ _=>trivial)) fun y _=>?_;exact Ob (kN (by omega) c) fun v hv=>.mk (by omega)
theorem T91 {x1 a:YM} (b:x1.sm) (c:a.sm):Ok (F91 x1 a) (fun _=>True):=by
 unfold F91;exact bB
theorem T98 {x1:aA YM} {n:YM} (g:x1.length<=10) (h:∀y∈x1,y.sm) (k:n.sm):Ok (F98 x1 n) (fun _=>True):=by
 unfold F98;have i:=g;refine pH (l:=x1) (fun q=>q) (iL2 g (by decide)) rfl (fun m j o d a c b e=>?_) (fun o a=>?_) fun p=>?_;simp only[c,b,nt];have f:=h _ d;refine bW (T91 f k) fun r=>?_;refine Oi (fun c1342=>?_) (fun c1342=>?_);exact bB;exact .mk e;simp only[a,nf];exact bB;rcases p with s|_;exact bB;exact bB
theorem T92 {x1:aA YM} {d:YM} (b:x1.length<=10) (a:∀y∈x1,y.sm) (c:d.sm):Ok (F92 x1 d) (fun _=>True):=by
 unfold F92;refine bW (T98 b a c) fun x3=>?_;exact bB
theorem bM2 {x1:YM} {b:Int} (a:x1.sm):Ok (Uv x1 b) (fun _=>True):=by
 unfold Uv;exact bB
theorem qM1 {x1:aA YM} {m:Int} (g:x1.length<=10) (h:∀y∈x1,y.sm):Ok (Au x1 m) (fun _=>True):=by
 unfold Au;have i:=g;refine pH (l:=x1) (fun q=>q) (iL2 g (by decide)) rfl (fun k j n d a c b e=>?_) (fun n a=>?_) fun o=>?_;simp only[c,b,nt];have f:=h _ d;refine bW (bM2 f) fun p=>?_;refine Oi (fun c1357=>?_) (fun c1357=>?_);exact bB;exact .mk e;simp only[a,nf];exact bB;rcases o with r|_;exact bB;exact bB
theorem iA1 {x1:YK} {b:Int} (a:x1.s'.sm):Ok (Jf x1 b) (fun _=>True):=by
 unfold Jf;refine bW (qM1 a.Measures a.MeasuresE) fun x3=>?_;exact bB
theorem iB1 {x1:Int} {b:YK} {x3:Int} (a:b.s'.sm):Ok (Jg x1 b x3) (fun _=>True):=by
 unfold Jg;refine bW (iA1 a) fun c=>?_;refine bW (Ji) fun d=>?_;exact bB
theorem T93 {x1:YK} {e x3:Int} (a:x1.s'.sm):Ok (F93 x1 e x3) (fun _=>True):=by
 unfold F93;refine Ob (P:=fun r=>r=true->(decide (e>=4))=true) ?_ fun l b=>?_;refine Oi (fun c1362=>?_) (fun _=>.mk (fun h=>by cases h));refine bW (iB1 a) fun k=>?_;exact .mk (fun _=>c1362);refine Oi (fun c1364=>?_) (fun c1364=>?_);have d:=b c1364;exact bB;refine bW ?_ fun m=>?_;refine Oi (fun c1367=>?_) (fun c1367=>?_);exact bB;exact bB;refine Oi (fun c1368=>?_) (fun c1368=>?_);refine bW (iB1 a) fun n=>?_;exact bB;refine bW ?_ fun o=>?_;refine Oi (fun c1371=>?_) (fun c1371=>?_);exact bB;exact bB;refine Oi (fun c1372=>?_) (fun c1372=>?_);refine bW (iB1 a) fun j=>?_;refine Ob (P:=fun r=>r=true->j=true) ?_ fun i c=>?_;refine Oi (fun c1375=>?_) (fun _=>.mk (fun h=>by cases h));refine bW (iA1 a) fun f=>?_;refine bW (iA1 a) fun g=>?_;exact .mk (fun _=>c1375);exact bB;exact bB
theorem T90 {x1:Int} {f:YM} {x3:YK} (d:f.sm) (a:x3.s'.sm) (e:0<=x1/\x1<=(x3.s'.Measures.length:Int)):Ok (F90 x1 f x3) (fun _=>True):=by
 unfold F90;refine Ob Ji fun w _=>?_;refine Ob (P:=fun _=>True) (Oi (fun _=>bB) (fun _=>Ob Ji fun _ _=>bB)) fun b _=>?_;refine Oi (fun _=>bB) (fun _=>?_);refine Ob (Av (by decide) e.1 e.2) fun l hl=>?_;refine Ob (T92 (jK2 hl.1 a.Measures) (fun y hy=>a.MeasuresE y (hl.2 y hy)) d) fun c _=>?_;exact Ob (P:=fun _=>True) (Oi (fun _=>bB) (fun _=>Ob (T93 a) fun _ _=>bB)) fun b _=>bB
theorem iC1 {x1:aA YV} {n:Y0} {x3:Int} (p:x1.length+10<=1000000) (f:n.sm):Ok (yG x1 n x3) (fun v=>x1.length<=v.length/\v.length<=x1.length+10):=by
 unfold yG;have i:=f.Measures;refine og n.Measures x1 10 1 (iL2 f.Measures (by decide)) (fun m k q1389 j g a d b c e=>?_) (fun q1389 a b=>?_) fun s o=>?_;obtain⟨t,u⟩:=q1389;dsimp only at a d c e b;simp only[d,c,nt];have h:=f.MeasuresE _ g;refine bW (T90 h f (by(simp only[nm]at *;omega))) fun q=>?_;refine Ob (kN (by first|omega|(simp only[iT2]at *;omega)) f) fun r l=>?_;exact .mk ⟨e,by dsimp only;omega⟩;obtain⟨t,u⟩:=q1389;dsimp only at a b;simp only[a,nf];exact .mk (by dsimp only;omega);exact .mk (by omega)
theorem qN1 {x1:aA YV} {c:Y0} {x3:Int} (d:x1.length+10<=1000000) (b:c.sm):Ok (Jh x1 c x3) (fun v=>x1.length<=v.length/\v.length<=x1.length+10):=by
 unfold Jh;refine Ob (iC1 (by first|omega|(simp only[iT2]at *;omega)) b) fun e a=>?_;exact .mk (by omega)
theorem T94 {x1:Int} {m:YM} (f:m.sm):Ok (F94 x1 m) (fun _=>True):=by
 unfold F94;refine bW (T61 f) fun⟨x3,M⟩=>?_;refine Ob (P:=fun r=>r=true->(m.Swing !=0)=true) ?_ fun L u=>?_;refine Oi (fun c1397=>?_) (fun _=>.mk (fun h=>by cases h));refine bW (Ji) fun N=>?_;exact .mk (fun _=>c1397);refine Ob (P:=fun r=>¬r=true->¬L=true) ?_ fun R v=>?_;refine Oi (fun _=>.mk (fun h=>absurd rfl h)) (fun c1400=>?_);refine bW (Ji) fun O=>?_;exact .mk (fun _=>c1400);have p:=f.Tempi;refine pH (l:=m.Tempi) (fun q=>q.2) (iL2 f.Tempi (by decide)) rfl (fun z t q1412 n a c b d=>?_) (fun q1412 a=>?_) fun K=>?_;obtain⟨j,k⟩:=q1412;dsimp only at a c b d;simp only[c,b,nt];refine Ob (P:=fun r=>¬r=true->¬j=true) ?_ fun C e=>?_;refine Oi (fun _=>.mk (fun h=>absurd rfl h)) (fun c1415=>?_);refine bW (Ji) fun E=>?_;exact .mk (fun _=>c1415);refine Ob (P:=fun r=>¬r=true->¬C=true) ?_ fun D g=>?_;refine Oi (fun _=>.mk (fun h=>absurd rfl h)) (fun c1418=>?_);have A:=e c1418;refine bW (Ji) fun F=>?_;exact .mk (fun _=>c1418);refine Ob (P:=fun r=>¬r=true->¬D=true) ?_ fun J w=>?_;refine Oi (fun _=>.mk (fun h=>absurd rfl h)) (fun c1422=>?_);have i:=g c1422;have B:=e i;refine Ob (P:=fun r=>r=true->(decide (k>0))=true) ?_ fun H y=>?_;refine Oi (fun c1426=>?_) (fun _=>.mk (fun h=>by cases h));have s:=f.Tempi;refine Ob (P:=fun x=>x∈m.Tempi) (cF (by(simp only[nm]at *;rw[bM (by omega) (by omega)];omega)) (by(simp only[nm]at *;rw[bM (by omega) (by omega)];omega)) (fun _ h _=>h)) fun G o=>?_;exact .mk (fun _=>c1426);exact .mk (fun _=>c1422);exact .mk d;obtain⟨j,k⟩:=q1412;dsimp only at a;simp only[a,nf];exact bB;exact bB
theorem iD1 {x1:aA YV} {n:Y0} {x3:Int} (p:x1.length+10<=1000000) (f:n.sm):Ok (Dj x1 n x3) (fun v=>x1.length<=v.length/\v.length<=x1.length+10):=by
 unfold Dj;have i:=f.Measures;refine og n.Measures x1 10 1 (iL2 f.Measures (by decide)) (fun m k q1441 j g a d b c e=>?_) (fun q1441 a b=>?_) fun s o=>?_;obtain⟨t,u⟩:=q1441;dsimp only at a d c e b;simp only[d,c,nt];have h:=f.MeasuresE _ g;refine bW (T94 h) fun q=>?_;refine Ob (kN (by first|omega|(simp only[iT2]at *;omega)) f) fun r l=>?_;exact .mk ⟨e,by dsimp only;omega⟩;obtain⟨t,u⟩:=q1441;dsimp only at a b;simp only[a,nf];exact .mk (by dsimp only;omega);exact .mk (by omega)
theorem qO1 {x1:aA YV} {c:Y0} {x3:Int} (d:x1.length+10<=1000000) (b:c.sm):Ok (Uy x1 c x3) (fun v=>x1.length<=v.length/\v.length<=x1.length+10):=by
 unfold Uy;refine Ob (iD1 (by first|omega|(simp only[iT2]at *;omega)) b) fun e a=>?_;exact .mk (by omega)
theorem T95 {x1:YP} {e:YE} {x3:YK} (a:e.sm) (c:x3.s'.sm):Ok (F95 x1 e x3) (fun _=>True):=by
 unfold F95;refine Ob (T80 c) fun⟨q,f⟩ d=>?_;dsimp only at d;refine Ob (P:=fun r=>¬r=true->f=true) (Oi (fun _=>.mk (fun h=>absurd rfl h)) (fun hc=>Ob (T79 a) fun t _=>.mk (fun _=>by simpa using hc))) fun b hb=>?_;refine Oi (fun _=>bB) (fun hc=>?_);simp only[iU2,lF2]at hc;have:=d (hb hc.1);exact Ob (cF (Q:=fun _=>True) this.1 this.2.1 (fun _ _ _=>trivial)) fun x _=>Ob (cF (Q:=fun _=>True) this.2.2.1 this.2.2.2 (fun _ _ _=>trivial)) fun y _=>bB
theorem iE1 {x1:aA YV} {x2:Y0} {x3:Int} (d7:x1.length+3000<=1000000) (y:x2.sm):Ok (Dk x1 x2 x3) (fun v=>x1.length<=v.length/\v.length<=x1.length+3000):=by
 unfold Dk;have N:=y.Measures;refine og x2.Measures x1 3000 300 (iL2 y.Measures (by decide)) (fun Y D q1458 S z c p g a t=>?_) (fun q1458 c g=>?_) fun d6 b7=>?_;obtain⟨b4,K⟩:=q1458;dsimp only at c p a t g;simp only[p,a,nt];have l:=y.MeasuresE _ z;have O:=l.Cells;refine og D.Cells K 300 60 (iL2 l.Cells (by decide)) (fun Z E q1472 T A d q h b u=>?_) (fun q1472 d h=>?_) fun d5 b8=>?_;obtain⟨b5,L⟩:=q1472;dsimp only at d q b u h;simp only[q,a,b,nt];have m:=l.CellsE _ A;have P:=m.Voices;refine og E.Voices L 60 20 (iL2 m.Voices (by decide)) (fun a0 F q1486 U B e r i k w=>?_) (fun q1486 e i=>?_) fun d4 b9=>?_;obtain⟨b6,M⟩:=q1486;dsimp only at e r k w i;simp only[r,a,b,k,nt];have n:=m.VoicesE _ B;have R:=n.Events;refine og F.Events M 20 1 (iL2 n.Events (by decide)) (fun b0 W q1500 V C f s j o x=>?_) (fun q1500 f j=>?_) fun d3 d0=>?_;obtain⟨H,J⟩:=q1500;dsimp only at f s o x j;simp only[s,a,b,k,o,nt];have G:=n.EventsE _ C;refine bW (T95 G y) fun d1=>?_;refine Ob (kN (by first|omega|(simp only[iT2]at *;omega)) y) fun d2 X=>?_;exact .mk ⟨x,by dsimp only;omega⟩;obtain⟨H,J⟩:=q1500;dsimp only at f j;simp only[f,nf];exact .mk (by dsimp only;omega);exact .mk ⟨w,by dsimp only;omega⟩;obtain⟨b6,M⟩:=q1486;dsimp only at e i;simp only[e,nf];exact .mk (by dsimp only;omega);exact .mk ⟨u,by dsimp only;omega⟩;obtain⟨b5,L⟩:=q1472;dsimp only at d h;simp only[d,nf];exact .mk (by dsimp only;omega);exact .mk ⟨t,by dsimp only;omega⟩;obtain⟨b4,K⟩:=q1458;dsimp only at c g;simp only[c,nf];exact .mk (by dsimp only;omega);exact .mk (by omega)
theorem qP1 {x1:aA YV} {c:Y0} {x3:Int} (d:x1.length+3000<=1000000) (b:c.sm):Ok (Uz x1 c x3) (fun v=>x1.length<=v.length/\v.length<=x1.length+3000):=by
 unfold Uz;refine Ob (iE1 (by first|omega|(simp only[iT2]at *;omega)) b) fun e a=>?_;exact .mk (by omega)
theorem oL {c1 c2:Bool} {x:aA YV} {R:aB (aA YV)} (c:Ok R fun _=>True):Ok (((if decide ((x.length:Int)>0)=true then((if c1=true then some true else((if c2=true then(fN x 0).bind fun a=>(gJ x a).bind fun v=>some (decide (v.Rule<10))else some false:aB Bool)).bind fun y=>some y:aB Bool)).bind fun z=>some z else some false:aB Bool)).bind fun b=>if b=true then some x else R) fun _=>True:=by
 have k:∀D:aB Bool,(∃b,D=some b)->Ok (D.bind fun b=>if b=true then some x else R) fun _=>True:=fun D h=>by
  obtain⟨b,rfl⟩:=h;cases b with
  |true=>exact bB
  |false=>exact c
 refine k _ ?_;cases x with
 |nil=>exact⟨_,rfl⟩
 |cons v r=>
  have e:fN (v::r) 0=some 0:=by
   unfold fN rK;rw[iK2 ⟨by decide,by simp⟩];rfl
  rw[iK2 (by simp),e];cases c1<;>cases c2<;>exact⟨_,rfl⟩
theorem T18 {x1:Y0} (a:x1.sm) (b:0<x1.Measures.length):Ok (F18 x1) (fun _=>True):=by
 unfold F18;refine oL (Ob (pA1 (by simp only[nl]at *;omega) a) fun _ _=>?_);refine oL (Ob (pD1 (by simp only[nl]at *;omega) a) fun _ _=>?_);refine oL (Ob (pE1 (by simp only[nl]at *;omega) a) fun _ _=>?_);refine oL (Ob (pF1 (by simp only[nl]at *;omega) a) fun _ _=>?_);refine oL (Ob (pG1 (by simp only[nl]at *;omega) a) fun _ _=>?_);refine oL (Ob (pR1 (by simp only[nl]at *;omega) a) fun _ _=>?_);refine oL (Ob (pS1 (by simp only[nl]at *;omega) a) fun _ _=>?_);refine oL (Ob (pT1 (by simp only[nl]at *;omega) a) fun _ _=>?_);refine oL (Ob (pU1 (by simp only[nl]at *;omega) a) fun _ _=>?_);refine oL (Ob (pZ1 (by simp only[nl]at *;omega) a) fun _ _=>?_);refine oL (Ob (qA1 (by simp only[nl]at *;omega) a) fun _ _=>?_);refine oL (Ob (qH1 (by simp only[nl]at *;omega) a) fun _ _=>?_);refine oL (Ob (qK1 (by simp only[nl]at *;omega) a) fun _ _=>?_);refine oL (Ob (qL1 (by simp only[nl]at *;omega) a b) fun _ _=>?_);refine oL (Ob (qN1 (by simp only[nl]at *;omega) a) fun _ _=>?_);refine oL (Ob (qO1 (by simp only[nl]at *;omega) a) fun _ _=>?_);refine oL (Ob (qP1 (by simp only[nl]at *;omega) a) fun _ _=>?_);exact bB
theorem T8 {x1:Y0} (a:x1.sm):Ok (F8 x1) (fun _=>True):=by
 unfold F8;refine Ob (P:=fun _=>True) ?_ fun v _=>bB;by_cases h0:0<x1.Measures.length;exact(T18 a h0).mono fun _ _=>trivial;unfold F18;refine Ob (P:=fun r=>r=false) (Oi (fun h=>by simp at h) (fun _=>.mk rfl)) fun b hb=>?_;subst hb;refine Oi (fun h=>by cases h) (fun _=>?_);refine Ob (yT1 a (by omega) (by decide)) fun v hv=>?_;refine Ob (P:=fun r=>r=true) (Oi (fun h=>Ob (P:=fun r=>r=true) (Oi (fun _=>.mk rfl) (fun h=>absurd rfl h)) fun b hb=>.mk hb) (fun h=>by simp at h;simp[h]at hv)) fun b hb=>?_;subst hb;exact Oi (fun _=>bB) (fun h=>absurd rfl h)
end Go.P
set_option maxHeartbeats 1000000
namespace Go.P
theorem Ok.eq {α:Type} {x:aB α} {a:α} (h:Ok x (fun v=>v=a)):x=some a:=by
 obtain⟨v,h1,rfl⟩:=h;exact h1
section
variable {K V:Type} [DecidableEq K]
theorem qM (k:K):∀(l:aA (K×V)) (i:Nat),kY k l (i+1)=(kY k l i).map fun p=>(p.1+1,p.2)
 |[],i=>rfl
 |p::r,i=>by
  simp only[kY]
  by_cases e:k=p.1
  rw[iK2 e,iK2 e];rfl
  rw[iN2 e,iN2 e];exact qM k r (i+1)
theorem pA (p:K×V) (r:aA (K×V)) (k:K) (z:V):fS (p::r) k z=if k=p.1 then p.2 else fS r k z:=by
 unfold fS;simp only[kY];by_cases e:k=p.1;rw[iK2 e,iK2 e];rw[iN2 e,iN2 e,qM];cases kY k r 0<;>rfl
theorem Pc (p:K×V) (r:aA (K×V)) (k:K) (x:V):jC (p::r) k x=if k=p.1 then(k,x)::r else p::jC r k x:=by
 unfold jC;simp only[kY];by_cases e:k=p.1;rw[iK2 e,iK2 e];rfl;rw[iN2 e,iN2 e,qM];cases kY k r 0<;>rfl
theorem Aw (k a:K) (x z:V):∀l:aA (K×V),fS (jC l k x) a z=if a=k then x else fS l a z
 |[]=>by
  show fS ([]++[(k,x)]) a z=_
  rw[List.nil_append,pA]
 |p::r=>by
  rw[Pc,pA]
  by_cases e:k=p.1
  rw[iK2 e,pA]
  by_cases e2:a=k
  rw[iK2 e2,iK2 e2]
  rw[iN2 e2,iN2 e2,iN2 (fun h=>e2 (h.trans e.symm))]
  rw[iN2 e,pA,Aw k a x z r]
  by_cases e2:a=p.1
  rw[iK2 e2,iK2 e2,iN2 (fun h=>e (h.symm.trans e2))]
  rw[iN2 e2,iN2 e2]
end
end Go.P
namespace Go.P
variable {s:Y0}
theorem oM {x v:aA YV} {D:aB Bool} {R:aB (aA YV)} (h:((if decide ((x.length:Int)>0)then D else some false).bind fun b=>if b then some x else R)=some v) (h0:v.length=0):R=some v:=by
 by_cases a:((x.length:Int)>0);rw[iK2 (by simpa using a)]at h;cases D with
 |none=>cases h
 |some b=>
  cases b with
  |true=>simp at h;subst h;omega
  |false=>exact h
 rw[iN2 (by simpa using a)]at h;exact h
theorem eR {A B:Type} {x:aB A} {k:A->aB B} {v:B} (h:x.bind k=some v):∃a,x=some a/\k a=some v:=iE2.1 h
theorem oN {A:Type} {l:aA A} (h:l.length=0):l=[]:=kV2 h
structure eQ1 (s:Y0):Prop where
 r1:Jb [] s 1=some []
 r2:Th [] s 2=some []
 r3:Ti [] s 3=some []
 r4:Tj [] s 4=some []
 r5:Tk [] s 5=some []
 r6:Tx [] s 6=some []
 r7:Ty [] s 7=some []
 r8:Tz [] s 8=some []
 r9:Ua [] s 9=some []
 r10:Ud [] s 10=some []
 r11:Ue [] s 11=some []
 r12:Un [] s 12=some []
 r13:Ut [] s 13=some []
 r14:Je [] s 14=some []
 r15:Jh [] s 15=some []
 r16:Uy [] s 16=some []
 r17:Uz [] s 17=some []
theorem cN1 (hs:s.sm) (A:0<s.Measures.length) {v:aA YV} (h:F18 s=some v) (h0:v.length=0):eQ1 s:=by
 unfold F18 at h;have h:=oM h h0;obtain⟨x1,q,h⟩:=eR h;have S:=(pA1 (by decide) hs).of q;have h:=oM h h0;obtain⟨K,e2,h⟩:=eR h;have T:=(pD1 (by simp only[nl]at *;omega) hs).of e2;have h:=oM h h0;obtain⟨x3,r,h⟩:=eR h;have U:=(pE1 (by simp only[nl]at *;omega) hs).of r;have h:=oM h h0;obtain⟨L,t,h⟩:=eR h;have V:=(pF1 (by simp only[nl]at *;omega) hs).of t;have h:=oM h h0;obtain⟨M,u,h⟩:=eR h;have W:=(pG1 (by simp only[nl]at *;omega) hs).of u;have h:=oM h h0;obtain⟨N,w,h⟩:=eR h;have X:=(pR1 (by simp only[nl]at *;omega) hs).of w;have h:=oM h h0;obtain⟨O,x,h⟩:=eR h;have Y:=(pS1 (by simp only[nl]at *;omega) hs).of x;have h:=oM h h0;obtain⟨P,y,h⟩:=eR h;have i8:=(pT1 (by simp only[nl]at *;omega) hs).of y;have h:=oM h h0;obtain⟨R,z,h⟩:=eR h;have Z:=(pU1 (by simp only[nl]at *;omega) hs).of z;have h:=oM h h0;obtain⟨j,a,h⟩:=eR h;have B:=(pZ1 (by simp only[nl]at *;omega) hs).of a;have h:=oM h h0;obtain⟨k,b,h⟩:=eR h;have C:=(qA1 (by simp only[nl]at *;omega) hs).of b;have h:=oM h h0;obtain⟨l,c,h⟩:=eR h;have D:=(qH1 (by simp only[nl]at *;omega) hs).of c;have h:=oM h h0;obtain⟨m,d,h⟩:=eR h;have E:=(qK1 (by simp only[nl]at *;omega) hs).of d;have h:=oM h h0;obtain⟨n,e,h⟩:=eR h;have F:=(qL1 (by simp only[nl]at *;omega) hs A).of e;have h:=oM h h0;obtain⟨o,f,h⟩:=eR h;have G:=(qN1 (by simp only[nl]at *;omega) hs).of f;have h:=oM h h0;obtain⟨p,g,h⟩:=eR h;have i16:=(qO1 (by simp only[nl]at *;omega) hs).of g;have h:=oM h h0;obtain⟨J,i,h⟩:=eR h;have H:=(qP1 (by simp only[nl]at *;omega) hs).of i;cases h;have z17:v=[]:=oN h0;have z16:p=[]:=oN (by simp only[nl]at *;omega);have z15:o=[]:=oN (by simp only[nl]at *;omega);have z14:n=[]:=oN (by simp only[nl]at *;omega);have Og:m=[]:=oN (by simp only[nl]at *;omega);have z12:l=[]:=oN (by simp only[nl]at *;omega);have Lr:k=[]:=oN (by simp only[nl]at *;omega);have z10:j=[]:=oN (by simp only[nl]at *;omega);have z9:R=[]:=oN (by simp only[nl]at *;omega);have z8:P=[]:=oN (by simp only[nl]at *;omega);have z7:O=[]:=oN (by simp only[nl]at *;omega);have z6:N=[]:=oN (by simp only[nl]at *;omega);have z5:M=[]:=oN (by simp only[nl]at *;omega);have z4:L=[]:=oN (by simp only[nl]at *;omega);have z3:x3=[]:=oN (by simp only[nl]at *;omega);have z2:K=[]:=oN (by simp only[nl]at *;omega);have z1:x1=[]:=oN (by simp only[nl]at *;omega);subst z1 z2 z3 z4 z5 z6 z7 z8 z9 z10 Lr z12 Og z14 z15 z16 z17;exact⟨q,e2,r,t,u,w,x,y,z,a,b,c,d,e,f,g,i⟩
theorem iF1 (hs:s.sm) (a:0<s.Measures.length) (hv:F8 s=some true):eQ1 s:=by
 unfold F8 at hv;obtain⟨v,h,hv⟩:=eR hv;exact cN1 hs a h (by simp at hv;simp[hv])
end Go.P
namespace Go.P
variable {s:Y0}
def dM:YM:=⟨⟨0,0⟩,⟨0,0,⟨0,0,0,0,0,0⟩⟩,0,0,false,0,0,0,0,0,0,⟨#[]⟩,[],[]⟩
def gm (s:Y0) (i:Nat):YM:=s.Measures.getD i dM
theorem Ax {i:Nat} {m:YM} (h:s.Measures[i]? =some m):gm s i=m:=by simp[gm,List.getD_eq_getElem?_getD,h]
theorem dT {i:Nat} (h:i<s.Measures.length):aU s.Measures (i:Int)=some (gm s i):=by
 unfold aU;rw[iK2 (by omega),Int.toNat_natCast,iW2 h,Ax (iW2 h)]
theorem qQ1 {i:Nat} (hs:s.sm) (h:i<s.Measures.length):(gm s i).sm:=by
 rw[Ax (iW2 h)];exact hs.MeasuresE _ (kK2 h)
theorem E87 {x:Int} {m:YM}:Ok (F87 x m) (fun v=>v=false->(m.RepeatEnd=0\/2<=m.RepeatEnd/\m.RepeatEnd<=8)/\0<=m.Endings/\m.Endings<=255):=by
 unfold F87 vO;simp only[iF2];by_cases h1:m.RepeatEnd=0;rw[iN2 (by simpa using h1)];simp only[iF2,iR2,jO2];refine .mk (fun h=>⟨.inl h1,?_⟩);simpa using h;rw[iK2 (by simpa using h1)];simp only[iF2];cases hb:(decide (m.RepeatEnd>=2)&&decide (m.RepeatEnd<=8))with
 |false=>exact .mk (fun h=>by cases h)
 |true=>
  refine .mk (fun h=>⟨.inr (by simpa using hb),?_⟩);simpa using h
theorem iG1 {l:aA YV} {r:Int} (h1:l.length+20<=1000000) (hs:s.sm):Ok (tX l s r) (fun v=>l.length<=v.length/\(v.length<=l.length->v.length=l.length/\∀i,i<s.Measures.length->((gm s i).RepeatEnd=0\/2<=(gm s i).RepeatEnd/\(gm s i).RepeatEnd<=8)/\0<=(gm s i).Endings/\(gm s i).Endings<=255)):=by
 unfold tX;have k:=hs.Measures;refine Ob (P:=fun v=>l.length<=v.length/\(v.length<=l.length->v.length=l.length/\∀i,i<s.Measures.length->((gm s i).RepeatEnd=0\/2<=(gm s i).RepeatEnd/\(gm s i).RepeatEnd<=8)/\0<=(gm s i).Endings/\(gm s i).Endings<=255)) (bJ (l:=s.Measures) (fun q=>q.1) (fun i q=>q.2.length<=l.length+i/\l.length<=q.2.length/\(q.2.length<=l.length->∀j,j<i->((gm s j).RepeatEnd=0\/2<=(gm s j).RepeatEnd/\(gm s j).RepeatEnd<=8)/\0<=(gm s j).Endings/\(gm s j).Endings<=255)) (by omega) rfl ⟨by dsimp only;omega,iJ2 _,fun _ j f=>by omega⟩ (fun i e q g m hi hl a hg hw=>?_) (fun q hi a=>?_)) fun v hv=>.mk hv;obtain⟨x,v⟩:=q;dsimp only at hi hl a hg hw;simp only[hl,hg,nt];refine Ob E87 fun b hb=>?_;refine Ob (Pb (by omega)) fun u c=>.mk ⟨hw,?_,?_,fun h j f=>?_⟩;dsimp only;cases b<;>simp at c<;>omega;dsimp only;cases b<;>simp at c<;>omega;dsimp only at h;cases b with
 |true=>simp at c;omega
 |false=>
  simp only[iR2,false_implies,forall_const,true_and]at c;by_cases d:j=i;subst d;rw[Ax g];exact hb rfl;exact a.2.2 (by omega) j (by omega)
 obtain⟨x,v⟩:=q;dsimp only at hi a;simp only[hi,nf];exact .mk ⟨a.2.1,fun h=>⟨by omega,a.2.2 h⟩⟩
def z0:YG:=⟨false,0,0,0,false,0⟩
structure gP (s:Y0) (g:Nat->YG):Prop where
 z:g 0=z0
 st:∀i,i<s.Measures.length->Wg (g i) (gm s i)=some (g (i+1),true)
 b:∀i,i<s.Measures.length->((gm s i).RepeatEnd=0\/2<=(gm s i).RepeatEnd/\(gm s i).RepeatEnd<=8)/\0<=(gm s i).Endings/\(gm s i).Endings<=255
def TQ (s:Y0) (r:(YG×aA YV)⊕YG):Prop:=match r with|.inl e=>e.2≠[]|.inr _=>∃g,gP s g
theorem Vj (hs:s.sm) (h:Je [] s 14=some []):∃g,gP s g:=by
 unfold Je at h;have y:=hs.Measures;obtain⟨v,t,h⟩:=eR h;have hv:=(iG1 (by decide) hs).of t;by_cases hc:((v.length:Int)>(([]:aA YV).length:Int));rw[iK2 (by simpa using hc)]at h;cases h;simp at hc;rw[iN2 (by simpa using hc)]at h;have f:v=[]:=kV2 (by simpa using hc);subst f;obtain⟨_,hb⟩:=hv.2 (iJ2 _);obtain⟨r,e2,h⟩:=eR h
 have hr:TQ s r:=by
  refine Ok.of (Q:=TQ s) (bJ (l:=s.Measures) (fun(q:Int×YG)=>q.1) (fun i q=>q.2.passes<=8/\∃g:Nat->YG,g 0=z0/\g i=q.2/\∀j,j<i->Wg (g j) (gm s j)=some (g (j+1),true)) (by omega) rfl ⟨by decide,fun _=>z0,rfl,rfl,fun j A=>by omega⟩ (fun i e q m B hi hl a hg hw=>?_) (fun q hi a=>?_)) e2;obtain⟨x,g0⟩:=q;dsimp only at hi hl a hg hw;simp only[hl,hg,nt];obtain⟨w,g,n,p,o⟩:=a;have z:e.RepeatEnd<=8:=by have:=(hb i (iI2.1 m).1).1;rw[Ax m]at this;omega
  refine Ok.bindE (T88 (hs.MeasuresE e B) w z) fun⟨c,b⟩ hv hp=>?_;dsimp only at hp ⊢;cases b with
  |false=>
   rw[iK2 (show(!false)=true from rfl)];refine Ob (Pb (by decide)) fun u C=>.mk ?_;show u≠[]
   intro h;have:=C.1 rfl;rw[h]at this;simp at this
  |true=>
   rw[iN2 (show ¬(!true)=true by decide)];refine .mk ⟨hw,hp,fun k=>if k<=i then g k else c,by dsimp only;rw[iK2 (jB2 _)];exact n,by dsimp only;rw[iN2 (by omega)],fun j A=>?_⟩;dsimp only;by_cases d:j=i;subst d;rw[iK2 (iJ2 _),iN2 (by omega),Ax m,p];exact hv;rw[iK2 (by omega),iK2 (by omega)];exact o j (by omega)
  obtain⟨x,g0⟩:=q;dsimp only at hi a;simp only[hi,nf];obtain⟨_,g,n,p,o⟩:=a;exact .mk (show ∃g,gP s g from⟨g,n,o,hb⟩)
 rcases r with⟨c,u⟩|c;dsimp only at h hr;cases h;exact absurd rfl hr;exact hr
theorem b2t {b:Bool} (h:¬b=true):b=false:=by cases b<;>simp_all
theorem Vk {g g':YG} {m:YM} (h:Wg g m=some (g',true)) (c:m.Endings=0):(g.ending≠0->Pk g=some true)/\g'.ending=0/\(g.ending=0/\g'.used=g.used\/g'.used=0):=by
 unfold Wg at h;rw[iN2 (by simpa using c)]at h;by_cases h1:g.ending=0;rw[iN2 (by simpa using h1)]at h;refine⟨fun h=>absurd h1 h,?_⟩;by_cases h2:m.RepeatStart=true;rw[iK2 h2]at h;by_cases h3:g.started=true;rw[iK2 h3]at h;cases h;rw[iN2 h3]at h;obtain⟨⟨a,b⟩,_,h⟩:=eR h;cases h;exact⟨rfl,.inr rfl⟩;rw[iN2 h2]at h;obtain⟨x,e,h⟩:=eR h;cases h;split at e;cases e;exact⟨rfl,.inr rfl⟩;cases e;exact⟨h1,.inl ⟨h1,rfl⟩⟩;rw[iK2 (by simpa using h1)]at h;obtain⟨f,e,h⟩:=eR h;cases f with
 |false=>rw[iK2 (show(!false)=true from rfl)]at h;cases h
 |true=>
  rw[iN2 (show ¬(!true)=true by decide)]at h;refine⟨fun _=>e,?_⟩;by_cases h2:m.RepeatStart=true;rw[iK2 h2,iN2 (by decide)]at h;obtain⟨⟨a,b⟩,_,h⟩:=eR h;cases h;exact⟨rfl,.inr rfl⟩;rw[iN2 h2]at h;obtain⟨x,_,h⟩:=eR h;cases h;exact⟨rfl,.inr rfl⟩
structure iH1 (g':YG) (m:YM) (used:Int):Prop where
 e:g'.ending=m.Endings
 u:g'.used=used
 d:g'.ended=true↔m.RepeatEnd≠0
 r:m.RepeatEnd≠0->g'.passes=m.RepeatEnd/\∃k,yF (IntKind.wrap .u64 m.Endings)=some k/\k<m.RepeatEnd
theorem Ay {g g':YG} {m:YM} (h:Wg g m=some (g',true)) (l:m.Endings≠0):
  (m.Endings≠g.ending/\(g.ending≠0->g.ended=true)/\cS .i64 m.Endings g.used=0/\iH1 g' m (ior .i64 g.used m.Endings))\/(m.Endings=g.ending/\g.ended=false/\iH1 g' m g.used):=by
 unfold Wg at h;rw[iK2 (by simpa using l)]at h;obtain⟨⟨a,b⟩,h,h2⟩:=eR h;cases h2;unfold Uu at h;by_cases h1:(m.RepeatStart||(g.body==0))=true;rw[iK2 h1]at h;cases h;rw[iN2 h1]at h;by_cases h2:m.Endings=g.ending;rw[iN2 (by simpa using h2)]at h;refine .inr ⟨h2,?_⟩;by_cases h3:g.ended=true;rw[iK2 h3]at h;cases h;rw[iN2 h3]at h;refine⟨b2t h3,?_⟩;by_cases h4:m.RepeatEnd=0;rw[iN2 (by simpa using h4)]at h;cases h;exact⟨h2.symm,rfl,by rw[b2t h3];simp[h4],fun h=>absurd h4 h⟩;rw[iK2 (by simpa using h4)]at h;obtain⟨f,j,h⟩:=eR h;obtain⟨c,e2,h⟩:=eR h;cases c with
 |true=>rw[iK2 rfl]at h;cases h
 |false=>
  rw[iN2 (by decide)]at h;cases h;split at e2;cases e2;obtain⟨k,d,e2⟩:=eR e2;simp only[iM2,jN2]at e2;exact⟨h2.symm,rfl,by simp[h4],fun _=>⟨rfl,k,by rw[h2];exact d,by omega⟩⟩
 rw[iK2 (by simpa using h2)]at h;refine .inl ⟨h2,?_⟩;by_cases h3:(((g.ending !=0)&&(!g.ended))||((cS .i64 m.Endings g.used)!=0))=true;rw[iK2 h3]at h;cases h;rw[iN2 h3]at h
 have h5:(g.ending≠0->g.ended=true)/\cS .i64 m.Endings g.used=0:=by
  have h3:=b2t h3;simp only[kQ2,Bool.and_eq_false_iff,bne_eq_false_iff_eq,Bool.not_eq_false']at h3;exact⟨fun n=>h3.1.resolve_left n,h3.2⟩
 refine⟨h5.1,h5.2,?_⟩;obtain⟨o,s,h⟩:=eR h
 have tail:∀{h:(if(m.RepeatEnd !=0)=true then(Pk (YG.mk g.started g.body (ior .i64 g.used m.Endings) m.Endings false g.passes)).bind fun p=>((if(p||((g.passes !=0)&&(m.RepeatEnd !=g.passes)))=true then some true else(yF (IntKind.wrap .u64 (m.Endings))).bind fun q=>some (decide (q>=m.RepeatEnd)):aB Bool)).bind fun r=>if r=true then some ((YG.mk g.started g.body (ior .i64 g.used m.Endings) m.Endings false g.passes),false)else some ((YG.mk g.started g.body (ior .i64 g.used m.Endings) m.Endings true m.RepeatEnd),true)else some ((YG.mk g.started g.body (ior .i64 g.used m.Endings) m.Endings false g.passes),true))=some (g',true)},iH1 g' m (ior .i64 g.used m.Endings):=by
  intro h;by_cases h4:m.RepeatEnd=0;rw[iN2 (by simpa using h4)]at h;cases h;exact⟨rfl,rfl,by simp[h4],fun h=>absurd h4 h⟩;rw[iK2 (by simpa using h4)]at h;obtain⟨f,j,h⟩:=eR h;obtain⟨c,e2,h⟩:=eR h;cases c with
  |true=>rw[iK2 rfl]at h;cases h
  |false=>
   rw[iN2 (by decide)]at h;cases h;split at e2;cases e2;obtain⟨k,d,e2⟩:=eR e2;simp only[iM2,jN2]at e2;exact⟨rfl,rfl,by simp[h4],fun _=>⟨rfl,k,d,by omega⟩⟩
 by_cases e:(g.passes==0)=true;rw[iK2 e]at h;by_cases i:(((cS .i64 m.Endings 1)==0)||(decide ((bD (o-1))>6)))=true;rw[iK2 i]at h;cases h;rw[iN2 i]at h;exact tail (h:=h);rw[iN2 e]at h;obtain⟨c,e2,h⟩:=eR h;cases c with
 |true=>rw[iK2 rfl]at h;cases h
 |false=>
  rw[iN2 (by decide)]at h;exact tail (h:=h)
end Go.P
namespace Go.P
variable {s:Y0}
def Vl:Nat->Nat->Nat
 |0,_=>0
 |k+1,x=>Vl k x+(x.testBit k).toNat
theorem Vm (a b:Nat) (h:a&&&b=0):∀k,Vl k (a|||b)=Vl k a+Vl k b
 |0=>rfl
 |k+1=>by
  have e:(a&&&b).testBit k=false:=by rw[h];simp
  rw[Nat.testBit_and]at e
  simp only[Vl,Vm a b h k,Nat.testBit_or]
  cases ha:a.testBit k<;>cases hb:b.testBit k<;>simp_all<;>omega
def By (a:Int):Prop:=0<=a/\a<=255
def Gs (a:Int):Int:=(Vl 8 a.toNat:Nat)
theorem pB (a:Nat) (h:a<256):(BitVec.ofInt 64 (a:Int)).toNat=a:=by
 rw[BitVec.ofInt_natCast,BitVec.toNat_ofNat];omega
theorem yI (a:Nat) (h:a<256):IntKind.wrap .i64 (a:Int)=(a:Int):=by
 rw[show IntKind.wrap .i64 (a:Int)=bD (a:Int)from rfl,bM (by omega) (by omega)]
theorem Me (a b:Nat) (c:a<256) (hb:b<256):ior .i64 ((a:Nat):Int) ((b:Nat):Int)=((a|||b:Nat):Int):=by
 unfold ior;rw[show IntKind.bits .i64=64 from rfl,BitVec.toNat_or,pB a c,pB b hb];exact yI _ (Nat.or_lt_two_pow (n:=8) c hb)
theorem Vn (a b:Nat) (c:a<256) (hb:b<256):cS .i64 ((a:Nat):Int) ((b:Nat):Int)=((a&&&b:Nat):Int):=by
 unfold cS;rw[show IntKind.bits .i64=64 from rfl,BitVec.toNat_and,pB a c,pB b hb];exact yI _ (iL2 Nat.and_le_left c)
theorem By.nat {a:Int} (h:By a):∃n:Nat,a=(n:Int)/\n<256:=⟨a.toNat,by unfold By at h;omega,by unfold By at h;omega⟩
theorem By.ior {a b:Int} (d:By a) (hb:By b):By (ior .i64 a b):=by
 obtain⟨x,rfl,c⟩:=d.nat
 obtain⟨y,rfl,hy⟩:=hb.nat
 rw[Me x y c hy];have:=Nat.or_lt_two_pow (n:=8) c hy;exact⟨by omega,by omega⟩
theorem cO1 {a b:Int} (d:By a) (hb:By b) (h:cS .i64 b a=0):Gs (ior .i64 a b)=Gs a+Gs b:=by
 obtain⟨x,rfl,c⟩:=d.nat
 obtain⟨y,rfl,hy⟩:=hb.nat
 rw[Vn y x hy c]at h;rw[Me x y c hy];unfold Gs;simp only[Int.toNat_natCast];rw[Vm x y (by rw[Nat.and_comm];omega)];omega
theorem cP1:∀a:Fin 256,F44 (IntKind.wrap .u64 (a.val:Int))=some (Vl 8 a.val:Nat):=by decide+kernel
theorem iI1 {a:Int} (h:By a):F44 (IntKind.wrap .u64 a)=some (Gs a):=by
 obtain⟨x,rfl,b⟩:=h.nat
 exact cP1 ⟨x,b⟩
theorem cQ1:∀a:Fin 256,Vl 8 a.val=a.val%2+Vl 8 (a.val/2):=by decide+kernel
theorem Mf (a:Int):0<=Gs a/\Gs a<=8:=by
 have h:∀k x,Vl k x<=k:=fun k=>by
  induction k with
  |zero=>intro x;exact iJ2 _
  |succ k ih=>intro x;have:=ih x;simp only[Vl];cases x.testBit k<;>simp<;>omega
 have:=h 8 a.toNat
 unfold Gs;omega
theorem cR1:∀r:Fin 9,2<=r.val->yF (IntKind.wrap .u64 ((2^(r.val-1):Nat):Int))=some (r.val:Int)/\Sw .i64 1 ((r.val-1:Nat):Int)=some ((2^(r.val-1):Nat):Int):=by decide+kernel
variable {g:Nat->YG}
theorem gP.E (h:gP s g) {i:Nat} (hi:i<s.Measures.length):By (gm s i).Endings:=(h.b i hi).2
theorem gP.end0 (h:gP s g) {i:Nat} (hi:i<s.Measures.length):(g (i+1)).ending=(gm s i).Endings:=by
 by_cases a:(gm s i).Endings=0;rw[(Vk (h.st i hi) a).2.1,a];rcases Ay (h.st i hi) a with⟨_,_,_,f⟩|⟨_,_,f⟩<;>exact f.e
theorem gP.used0 (h:gP s g):∀i,i<=s.Measures.length->(g i).ending=0->(g i).used=0
 |0,_,_=>by rw[h.z];rfl
 |i+1,hi,he=>by
  have c:(gm s i).Endings=0:=by rw[<-h.end0 (by omega)];exact he
  rcases(Vk (h.st i (by omega)) c).2.2 with⟨a,b⟩|b
  rw[b];exact h.used0 i (by omega) a
  exact b
theorem gP.A (h:gP s g) {i:Nat} (hi:i+1<s.Measures.length) (h1:(gm s i).Endings≠0) (h2:(gm s (i+1)).Endings≠0) (h3:(gm s (i+1)).Endings≠(gm s i).Endings):(gm s i).RepeatEnd≠0:=by
 have e:=h.end0 (i:=i) (by omega)
 have hd:(g (i+1)).ended=true↔(gm s i).RepeatEnd≠0:=by
  rcases Ay (h.st i (by omega)) h1 with⟨_,_,_,f⟩|⟨_,_,f⟩<;>exact f.d
 rcases Ay (h.st (i+1) hi) h2 with⟨_,k,_⟩|⟨k,_⟩
 exact hd.1 (k (by rw[e];exact h1));rw[e]at k;exact absurd k h3
theorem gP.B (h:gP s g) {i:Nat} (hi:i+1<s.Measures.length) (h1:(gm s i).Endings≠0) (h2:(gm s (i+1)).Endings=0):(gm s i).RepeatEnd=0:=by
 apply Decidable.byContradiction;intro c;have e:=h.end0 (i:=i) (by omega);have a:=(Vk (h.st (i+1) hi) h2).1 (by rw[e];exact h1)
 have hr:(g (i+1)).passes=(gm s i).RepeatEnd/\∃k,yF (IntKind.wrap .u64 (gm s i).Endings)=some k/\k<(gm s i).RepeatEnd:=by
  rcases Ay (h.st i (by omega)) h1 with⟨_,_,_,f⟩|⟨_,_,f⟩<;>exact f.r c
 obtain⟨hp,k,hk,j⟩:=hr;have hb:=(h.b i (by omega)).1.resolve_left c;obtain⟨r,hr⟩:∃r:Nat,(gm s i).RepeatEnd=(r:Int):=⟨(gm s i).RepeatEnd.toNat,by omega⟩
 obtain⟨l,m⟩:=cR1 ⟨r,by omega⟩ (by show 2<=r;omega);unfold Pk at a;rw[hp,hr,iK2 (by simp;omega)]at a;rw[show bD ((r:Int)-1)=((r-1:Nat):Int)by rw[bM (by omega) (by omega)];omega,m]at a;simp only[iF2,iM2,kB2]at a;rw[e]at a;rw[a,l]at hk;have d:(r:Int)=k:=Option.some.inj hk;omega
theorem gP.same (h:gP s g) {i:Nat} (hi:i<s.Measures.length) (h1:(gm s i).Endings≠0) (h2:(gm s i).Endings=(g i).ending):(g (i+1)).used=(g i).used:=by
 rcases Ay (h.st i hi) h1 with⟨k,_,_,f⟩|⟨_,_,f⟩
 exact absurd h2 k;exact f.u
theorem gP.new (h:gP s g) {i:Nat} (hi:i<s.Measures.length) (h1:(gm s i).Endings≠0) (h2:(gm s i).Endings≠(g i).ending):cS .i64 (gm s i).Endings (g i).used=0/\(g (i+1)).used=ior .i64 (g i).used (gm s i).Endings:=by
 rcases Ay (h.st i hi) h1 with⟨_,_,k,f⟩|⟨k,_⟩
 exact⟨k,f.u⟩;exact absurd k h2
def Run (s:Y0) (i j:Nat):Prop:=i<j/\j<=s.Measures.length/\(∀k,i<=k->k<j->(gm s k).Endings=(gm s i).Endings)/\(j=s.Measures.length\/(gm s j).Endings≠(gm s i).Endings)
theorem gP.run (h:gP s g) {i j:Nat} (hr:Run s i j) (h1:(gm s i).Endings≠0) (h2:(gm s i).Endings≠(g i).ending):cS .i64 (gm s i).Endings (g i).used=0/\(g j).used=ior .i64 (g i).used (gm s i).Endings:=by
 obtain⟨r1,r2,r3,_⟩:=hr;have a:=h.new (i:=i) (by omega) h1 h2;refine⟨a.1,?_⟩
 have:∀k,i+1+k<=j->(g (i+1+k)).used=ior .i64 (g i).used (gm s i).Endings:=fun k=>by
  induction k with
  |zero=>intro _;exact a.2
  |succ k ih=>
   intro hk;have e:=h.end0 (i:=i+k) (by omega);rw[show i+k+1=i+1+k by omega,r3 (i+k) (by omega) (by omega)]at e;have e2:=r3 (i+1+k) (by omega) (by omega);rw[show i+1+(k+1)=(i+1+k)+1 by omega,h.same (i:=i+1+k) (by omega) (by rw[e2];exact h1) (by rw[e2,e])];exact ih (by omega)
 have:=this (j-(i+1)) (by omega)
 rwa [show i+1+(j-(i+1))=j by omega]at this
end Go.P
namespace Go.P
variable {s:Y0} {g:Nat->YG}
inductive Ch (s:Y0):Nat->List aV->Int->(List aV×Int×Nat)->Prop
 |stop {i acc all} (h:i=s.Measures.length\/(gm s i).Endings=0):Ch s i acc all (acc,all,i)
 |step {i j acc all r} (h1:(gm s i).Endings≠0) (h2:Run s i j) (h3:Ch s j (acc++[⟨⟨(i:Int),(j:Int)⟩,(gm s i).Endings⟩]) (ior .i64 all (gm s i).Endings) r):Ch s i acc all r
theorem Run.det {i j k:Nat} (h:Run s i j) (h':Run s i k):j=k:=by
 obtain⟨a1,a2,a3,a4⟩:=h;obtain⟨b1,b2,b3,a⟩:=h';apply Decidable.byContradiction;intro b;by_cases hl:j<k
 grind
 grind
theorem Ch.det {i:Nat} {acc:aA aV} {all:Int} {r r':aA aV×Int×Nat} (h:Ch s i acc all r):Ch s i acc all r'->r=r':=by
 induction h with
 |stop h=>
  intro h';cases h' with
  |stop _=>rfl
  |step h1 h2 _=>
   rcases h with h|h
   .have:=h2.1;have:=h2.2.1;omega
   .exact absurd h h1
 |step h1 h2 h3 ih=>
  intro h';cases h' with
  |stop h=>
   rcases h with h|h
   .have:=h2.1;have:=h2.2.1;omega
   .exact absurd h h1
  |step k1 k2 k3=>
   have:=h2.det k2;subst this;exact ih k3
inductive Sc (s:Y0):Nat->Nat->List aH->List aH->Prop
 |fin1 {b o} (h:b<s.Measures.length):Sc s b s.Measures.length o (o++[⟨⟨(b:Int),(s.Measures.length:Int)⟩,[],1⟩])
 |fin0 {b o} (h:¬b<s.Measures.length):Sc s b s.Measures.length o o
 |ends {b i o acc all e r} (h1:i<s.Measures.length) (h2:(gm s i).Endings≠0) (h3:Ch s i [] 0 (acc,all,e)) (h4:Sc s e e (o++[⟨⟨(b:Int),(i:Int)⟩,acc,Gs all⟩]) r):Sc s b i o r
 |start {b i o r} (h1:i<s.Measures.length) (h2:(gm s i).Endings=0) (h3:(gm s i).RepeatStart=true/\b<i) (h4:Sc s i i (o++[⟨⟨(b:Int),(i:Int)⟩,[],1⟩]) r):Sc s b i o r
 |rep {b i o r} (h1:i<s.Measures.length) (h2:(gm s i).Endings=0) (h3:¬((gm s i).RepeatStart=true/\b<i)) (h4:(gm s i).RepeatEnd≠0) (h5:Sc s (i+1) (i+1) (o++[⟨⟨(b:Int),((i+1:Nat):Int)⟩,[],(gm s i).RepeatEnd⟩]) r):Sc s b i o r
 |skip {b i o r} (h1:i<s.Measures.length) (h2:(gm s i).Endings=0) (h3:¬((gm s i).RepeatStart=true/\b<i)) (h4:(gm s i).RepeatEnd=0) (h5:Sc s b (i+1) o r):Sc s b i o r
theorem Sc.det {b i:Nat} {o r r':aA aH} (h:Sc s b i o r):Sc s b i o r'->r=r':=by
 induction h with
 |fin1 h=>
  intro h';cases h' with
  |fin1 _=>rfl
  |fin0 k=>exact absurd h k
  |ends k=>omega
  |start k=>omega
  |rep k=>omega
  |skip k=>omega
 |fin0 h=>
  intro h';cases h' with
  |fin1 k=>exact absurd k h
  |fin0 k=>rfl
  |ends k=>omega
  |start k=>omega
  |rep k=>omega
  |skip k=>omega
 |ends h1 h2 h3 h4 ih=>
  intro h';cases h' with
  |fin1 k=>omega
  |fin0 k=>omega
  |ends k1 k2 k3 k4=>
   have:=h3.det k3;cases this;exact ih k4
  |start k1 k2=>exact absurd k2 h2
  |rep k1 k2=>exact absurd k2 h2
  |skip k1 k2=>exact absurd k2 h2
 |start h1 h2 h3 h4 ih=>
  intro h';cases h' with
  |fin1 k=>omega
  |fin0 k=>omega
  |ends k1 k2=>exact absurd h2 k2
  |start k1 k2 k3 k4=>exact ih k4
  |rep k1 k2 k3=>exact absurd h3 k3
  |skip k1 k2 k3=>exact absurd h3 k3
 |rep h1 h2 h3 h4 h5 ih=>
  intro h';cases h' with
  |fin1 k=>omega
  |fin0 k=>omega
  |ends k1 k2=>exact absurd h2 k2
  |start k1 k2 k3=>exact absurd k3 h3
  |rep k1 k2 k3 k4 k5=>exact ih k5
  |skip k1 k2 k3 k4=>exact absurd k4 h4
 |skip h1 h2 h3 h4 h5 ih=>
  intro h';cases h' with
  |fin1 k=>omega
  |fin0 k=>omega
  |ends k1 k2=>exact absurd h2 k2
  |start k1 k2 k3=>exact absurd k3 h3
  |rep k1 k2 k3 k4=>exact absurd h4 k4
  |skip k1 k2 k3 k4 k5=>exact ih k5
theorem eK {n:Nat} (h:n<1000000):bD ((n:Int)+1)=((n+1:Nat):Int):=by rw[bM (by omega) (by omega)];rfl
theorem Mg {n:Nat} (h:n<1000000):bD ((n:Int)-1)=(n:Int)-1:=bM (by omega) (by omega)
theorem Vo {body:Int->aB (Int⊕Int)} {i:Nat} (f:s.Measures.length<100000) (hi:i<s.Measures.length)
  (h1:∀k,i<=k->k<s.Measures.length->(gm s k).Endings=(gm s i).Endings->body (k:Int)=some (.inl ((k+1:Nat):Int)))
  (h2:∀k,i<=k->k<s.Measures.length->(gm s k).Endings≠(gm s i).Endings->body (k:Int)=some (.inr (k:Int)))
  (h3:body (s.Measures.length:Int)=some (.inr (s.Measures.length:Int))):
  Ok (aS body bA (i:Int)) (fun r=>∃j:Nat,r=(j:Int)/\Run s i j):=by
 refine bS (fun(q:Int)=>∃k:Nat,q=(k:Int)/\i<=k/\k<=s.Measures.length/\∀u,i<=u->u<k->(gm s u).Endings=(gm s i).Endings) (fun q=>s.Measures.length-q.toNat) (fun q c=>?_) bA _ ⟨i,rfl,iJ2 _,by omega,fun u _ _=>by omega⟩ (by simp only[bA];omega);obtain⟨k,rfl,a,e,b⟩:=c;by_cases hk:k<s.Measures.length;by_cases he:(gm s k).Endings=(gm s i).Endings;rw[h1 k a hk he];refine .mk ⟨⟨k+1,rfl,by omega,hk,fun u g h=>?_⟩,by omega⟩;by_cases d:u=k;subst d;exact he
 grind
 rw[h2 k a hk he];have:i<k:=by grind
 exact .mk ⟨k,rfl,this,e,b,.inr he⟩;have:k=s.Measures.length:=by omega
 subst this;rw[h3];exact .mk ⟨_,rfl,hi,iJ2 _,b,.inl rfl⟩
theorem fU {A:Type} {l:aA A} {x:A} (h:l.length<1000000):fO false l [x]=some (l++[x]):=by
 have e:Sim.maxRoom=1073741824:=rfl;unfold fO;rw[iK2 ⟨by rw[e];simp;omega,fun h=>by cases h⟩]
theorem iJ1 (F:s.Measures.length<100000) (D:∀i,i<s.Measures.length->By (gm s i).Endings):Ok (F23 s) (fun r=>Sc s 0 0 [] r):=by
 unfold F23;refine Ob (P:=fun r=>∃b:Nat,r.1=(b:Int)/\r.2.length<=b/\b<=s.Measures.length/\∀x,Sc s b s.Measures.length r.2 x->Sc s 0 0 [] x) (bS (fun(q:Int×Int×aA aH)=>∃b i:Nat,q.1=(b:Int)/\q.2.1=(i:Int)/\q.2.2.length<=b/\b<=i/\i<=s.Measures.length/\∀x,Sc s b i q.2.2 x->Sc s 0 0 [] x) (fun q=>2*(s.Measures.length-q.2.1.toNat)+(if q.1<q.2.1 then 1 else 0)) (fun q y=>?_) bA _ ⟨0,0,rfl,rfl,iJ2 _,iJ2 _,jB2 _,fun x h=>h⟩ (by simp only[bA];split<;>omega)) fun r hr=>?_
 .obtain ⟨B,K,o⟩:=q
  obtain⟨b,i,l,g2,t,m,J,g⟩:=y;dsimp only at l g2 t g ⊢;subst l g2;by_cases hi:(i:Int)<(s.Measures.length:Int)
  .rw [iK2 (by simpa using hi),dT (by omega)]
   have hi:i<s.Measures.length:=by omega
   simp only[iF2];by_cases h1:(gm s i).Endings=0
   .rw [iN2 (by simpa using h1)]
    by_cases h2:(gm s i).RepeatStart=true/\b<i
    .rw [iK2 (by simp[h2.1];omega),fU (by omega)]
     simp only[iF2];rw[Mg (by omega),bM (n:=(i:Int)-1+1) (by omega) (by omega),show(i:Int)-1+1=(i:Int)by omega];refine .mk ⟨⟨i,i,rfl,rfl,by dsimp only;rw[iS2];simp;omega,iJ2 _,by omega,fun x h=>g x (.start hi h1 h2 h)⟩,?_⟩;dsimp only;rw[iN2 (by omega),iK2 (by omega)];omega
    .rw [iN2 (by intro h;apply h2;simpa using h)]
     by_cases h3:(gm s i).RepeatEnd=0
     .rw [iN2 (by simpa using h3)]
      simp only[iF2];rw[eK (by omega)];refine .mk ⟨⟨b,i+1,rfl,rfl,t,by omega,hi,fun x h=>g x (.skip hi h1 h2 h3 h)⟩,?_⟩;dsimp only;split<;>split<;>omega
     .rw [iK2 (by simpa using h3),eK (by omega),fU (by omega)]
      simp only[iF2];rw[eK (by omega)];refine .mk ⟨⟨i+1,i+1,rfl,rfl,by dsimp only;rw[iS2];simp;omega,iJ2 _,hi,fun x h=>g x (.rep hi h1 h2 h3 h)⟩,?_⟩;dsimp only;rw[iN2 (by omega)];split<;>omega
   .rw [iK2 (by simpa using h1)]
    refine Ob (P:=fun r=>∃(e:Nat) (c:aA aH),r=((e:Int),(e:Int)-1,c)/\c.length<=e/\i<e/\e<=s.Measures.length/\∀x,Sc s e e c x->Sc s 0 0 [] x) ?_ fun r hr=>?_
    .refine Ob (P:=fun r=>∃e:Nat,r.1=(e:Int)/\i<e/\e<=s.Measures.length/\By r.2.1/\Ch s i [] 0 (r.2.2,r.2.1,e)) (bS (fun(q:Int×Int×aA aV)=>∃k:Nat,q.1=(k:Int)/\i<=k/\k<=s.Measures.length/\q.2.2.length<=k/\By q.2.1/\(k=i->q.2=(0,[]))/\∀x,Ch s k q.2.2 q.2.1 x->Ch s i [] 0 x) (fun q=>s.Measures.length-q.1.toNat) (fun q y=>?_) bA _ ⟨i,rfl,iJ2 _,by omega,by simp,⟨by show(0:Int)<=0;decide,by show(0:Int)<=255;decide⟩,fun _=>rfl,fun x h=>h⟩ (by simp only[bA];omega)) fun r hr=>?_
     .obtain ⟨L,all,acc⟩:=q
      obtain⟨k,a,v,f3,f,d,C,p⟩:=y;dsimp only at a f d C p ⊢;subst a;by_cases hk:(k:Int)<(s.Measures.length:Int)
      .rw [iK2 (by simpa using hk),dT (by omega)]
       have hk:k<s.Measures.length:=by omega
       simp only[iF2];by_cases h2:(gm s k).Endings=0
       .rw [iN2 (by simpa using h2)]
        have w:i<k:=by grind
        exact .mk ⟨k,rfl,w,f3,d,p _ (.stop (.inr h2))⟩
       .rw [iK2 (by simpa using h2)]
        refine Ob (Vo F hk (fun u G z A=>?_) (fun u G z A=>?_) ?_) fun j E=>?_
        .rw [iK2 (by simp;omega),dT z]
         simp only[iF2];rw[iK2 (by simpa using A),eK (by omega)]
        .rw [iK2 (by simp;omega),dT z]
         simp only[iF2];rw[iN2 (by simpa using A)]
        .grind
        .obtain ⟨j,rfl,hr⟩:=E
         have r1:=hr.1;have r2:=hr.2.1;rw[fU (by omega)];simp only[iF2];refine .mk ⟨⟨j,rfl,by omega,r2,by dsimp only;rw[iS2];simp;omega,d.ior (D k hk),fun h=>by omega,fun x h=>p x (.step h2 hr h)⟩,by dsimp only;omega⟩
      .rw [iN2 (by simpa using hk)]
       simp only[iF2,iR2,jO2];exact .mk ⟨k,rfl,by omega,f3,d,p _ (.stop (.inl (by omega)))⟩
     .obtain ⟨H,all,acc⟩:=r
      obtain⟨e,a,v,f3,f,d⟩:=hr;dsimp only at a f d ⊢;subst a;rw[iI1 f];simp only[iF2];rw[fU (by omega),Mg (by omega)];refine .mk ⟨e,_,rfl,by rw[iS2];simp;omega,v,f3,fun x h=>g x (.ends hi h1 d h)⟩
    .obtain ⟨e,c,rfl,a,v,f3,f⟩:=hr
     dsimp only;rw[bM (n:=(e:Int)-1+1) (by omega) (by omega),show(e:Int)-1+1=(e:Int)by omega];refine .mk ⟨⟨e,e,rfl,rfl,a,iJ2 _,f3,f⟩,?_⟩;dsimp only;rw[iN2 (by omega)];split<;>omega
  .rw [iN2 (by simpa using hi)]
   have:i=s.Measures.length:=by omega
   subst this;exact .mk ⟨b,rfl,t,m,g⟩
 .obtain ⟨B,o⟩:=r
  obtain⟨b,l,g2,t,m⟩:=hr;dsimp only at l g2 m ⊢;subst l;by_cases hb:(b:Int)<(s.Measures.length:Int)
  .rw [iK2 (by simpa using hb),fU (by omega)]
   exact .mk (m _ (.fin1 (by omega)))
  .rw [iN2 (by simpa using hb)]
   exact .mk (m _ (.fin0 (by omega)))
end Go.P
namespace Go.P
variable {s:Y0} {g:Nat->YG}
def cE (x:aV):aP:=⟨x.span.first,x.span.end',x.bits⟩
def cG (x:aH):aI:=⟨⟨x.body.first,x.body.end',0⟩,x.endings.map cE,x.passes⟩
theorem Sc.skips {a:Nat} {o x:aA aH}:∀(d:Nat),a+d<=s.Measures.length->(∀u,a<=u->u<a+d->(gm s u).Endings=0/\(gm s u).RepeatEnd=0/\(u=a\/(gm s u).RepeatStart=false))->Sc s a (a+d) o x->Sc s a a o x
 |0,_,_,h=>h
 |d+1,hn,hs,h=>Sc.skips d (by omega) (fun u g i=>hs u g (by omega)) (by
   obtain⟨e,f,b⟩:=hs (a+d) (by omega) (by omega)
   refine .skip (by omega) e (fun c=>?_) f h
   rcases b with b|b
   have:=c.2;omega
   rw[b]at c;cases c.1)
theorem iK1 {b t:Int} (hb:By b) (k:0<=t/\t<=1000):Ok (aS (E:=Int) (fun(x:Int×Int)=>if decide (x.1>0)=true then(qJ .i64 x.1 2).bind fun x140=>(sD .i64 x.1 2).bind fun c=>some (.inl (c,(bD (x.2+x140))))else some (.inr x.2)) bA (b,t)) (fun r=>r=t+Gs b):=by
 refine bS (fun(q:Int×Int)=>By q.1/\0<=q.2/\q.2+Gs q.1=t+Gs b) (fun q=>q.1.toNat) (fun q j=>?_) bA _ ⟨hb,k.1,rfl⟩ (by unfold By at hb;simp only[bA];omega);obtain⟨x,y⟩:=q;obtain⟨f,l,a⟩:=j;dsimp only at f l a ⊢;have hp:=Mf x;have i:=Mf b;obtain⟨n,rfl,h⟩:=f.nat
 by_cases e:(n:Int)>0;rw[iK2 (by simpa using e)];unfold qJ sD;rw[iN2 (by decide),iN2 (by decide)];simp only[iF2];have g:(n:Int).tmod 2=((n%2:Nat):Int):=by rw[Int.tmod_eq_emod_of_nonneg (by omega)];omega
 have e2:(n:Int).tdiv 2=((n/2:Nat):Int):=by rw[Int.tdiv_eq_ediv_of_nonneg (by omega)];omega
 have d:=cQ1 ⟨n,h⟩;rw[g,e2,yI _ (by omega),bM (by omega) (by omega)];refine .mk ⟨⟨⟨by dsimp only;omega,by dsimp only;omega⟩,by dsimp only;omega,?_⟩,by dsimp only;omega⟩;dsimp only at d ⊢;unfold Gs at a ⊢;simp only[Int.toNat_natCast]at a ⊢;rw[<-a,d];omega;rw[iN2 (by simpa using e)];have:n=0:=by omega
 subst this;refine .mk ?_;have:Gs ((0:Nat):Int)=0:=rfl;rw[this]at a;omega
theorem iL1 (hn:s.Measures.length<100000) (c:gP s g):Ok (F43 s) (fun r=>∃x,r=x.map cG/\Sc s 0 0 [] x):=by
 unfold F43;refine Ob (P:=fun r=>∃x,r=x.map cG/\Sc s 0 0 [] x) (bS (fun(q:Int×aA aI)=>∃(a:Nat) (o:aA aH),q.1=(a:Int)/\q.2=o.map cG/\o.length<=a/\a<=s.Measures.length/\(a<s.Measures.length->(gm s a).Endings≠0->(g a).ending=0)/\∀x,Sc s a a o x->Sc s 0 0 [] x) (fun q=>s.Measures.length-q.1.toNat) (fun q G=>?_) bA _ ⟨0,[],rfl,rfl,iJ2 _,jB2 _,fun _ _=>by rw[c.z];rfl,fun x h=>h⟩ (by simp only[bA];omega)) fun r hr=>.mk hr;obtain⟨aa,oo⟩:=q;obtain⟨a,o,Z,g2,g3,g4,g5,g6⟩:=G;dsimp only at Z g2 ⊢;subst Z g2;by_cases L:(a:Int)<(s.Measures.length:Int)
 .rw [iK2 (by simpa using L)]
  have L:a<s.Measures.length:=by omega
  refine Ob (P:=fun r=>∃k:Nat,r=(k:Int)/\a<=k/\k<=s.Measures.length/\(∀u,a<=u->u<k->(gm s u).Endings=0/\(gm s u).RepeatEnd=0/\(u=a\/(gm s u).RepeatStart=false))/\(k<s.Measures.length->¬((gm s k).Endings=0/\(gm s k).RepeatEnd=0/\(k=a\/(gm s k).RepeatStart=false)))) (bS (fun(q:Int)=>∃k:Nat,q=(k:Int)/\a<=k/\k<=s.Measures.length/\∀u,a<=u->u<k->(gm s u).Endings=0/\(gm s u).RepeatEnd=0/\(u=a\/(gm s u).RepeatStart=false)) (fun q=>s.Measures.length-q.toNat) (fun q G=>?_) bA _ ⟨a,rfl,iJ2 _,by omega,fun u _ _=>by omega⟩ (by simp only[bA];omega)) fun k hk=>?_
  .obtain ⟨k,rfl,J,l,n⟩:=G
   by_cases hk:k<s.Measures.length
   .rw [iK2 (by simp;omega),dT hk]
    simp only[iF2];by_cases c1:(gm s k).Endings=0
    .rw [iK2 (by simpa using c1)]
     simp only[iF2];by_cases c2:(gm s k).RepeatEnd=0
     .rw [iK2 (by simpa using c2)]
      by_cases c3:k=a
      .rw [iK2 (by simp;omega)]
       simp only[iF2,jG2];rw[eK (by omega)];refine .mk ⟨⟨k+1,rfl,by omega,hk,fun u y C=>?_⟩,by omega⟩;by_cases R:u=k
       .subst R;exact⟨c1,c2,.inl c3⟩
       .exact n u y (by omega)
      .rw [iN2 (by simp;omega)]
       simp only[iF2];cases c4:(gm s k).RepeatStart with
       |true=>
        rw[iN2 (by decide)];exact .mk ⟨k,rfl,J,l,n,fun _ h=>by rcases h.2.2 with h|h;exact c3 h;rw[c4]at h;cases h⟩
       |false=>
        rw[iK2 (by decide),eK (by omega)];refine .mk ⟨⟨k+1,rfl,by omega,hk,fun u y C=>?_⟩,by omega⟩;by_cases R:u=k
        .subst R;exact⟨c1,c2,.inr c4⟩
        .exact n u y (by omega)
     .rw [iN2 (by simpa using c2)]
      simp only[iF2,iR2,jO2];exact .mk ⟨k,rfl,J,l,n,fun _ h=>c2 h.2.1⟩
    .rw [iN2 (by simpa using c1)]
     simp only[iF2,iR2,jO2];exact .mk ⟨k,rfl,J,l,n,fun _ h=>c1 h.1⟩
   .rw [iN2 (by simp;omega)]
    simp only[iF2,iR2,jO2];exact .mk ⟨k,rfl,J,l,n,fun h=>absurd h hk⟩
  obtain⟨k,rfl,J,l,n,k4⟩:=hk;have sk:∀x,Sc s a k o x->Sc s 0 0 [] x:=fun x h=>g6 x (Sc.skips (k-a) (by omega) (fun u y C=>n u y (by omega)) (by rw[show a+(k-a)=k by omega];exact h));have f:(o.map cG).length<1000000:=by rw[jR2];omega
  by_cases N:k=s.Measures.length
  .rw [iK2 (by simp;omega)]
   simp only[iF2,jG2];rw[fU f];refine .mk ⟨⟨k,o++[⟨⟨(a:Int),(k:Int)⟩,[],1⟩],rfl,by simp[cG],by rw[iS2];simp;omega,l,fun h=>by omega,fun x h=>?_⟩,by dsimp only;omega⟩;subst N;have e:=(Sc.fin0 (s:=s) (o:=o++[⟨⟨(a:Int),(s.Measures.length:Int)⟩,[],1⟩]) (Nat.lt_irrefl _)).det h;rw[<-e];exact sk _ (.fin1 L)
  .have hk:k<s.Measures.length:=by omega
   rw[iN2 (by simp;omega),dT hk];simp only[iF2];by_cases c1:(gm s k).Endings=0
   .rw [iK2 (by simpa using c1)]
    simp only[iF2];by_cases c2:(gm s k).RepeatStart=true/\a<k
    .rw [iK2 (by simp[c2.1];omega),fU f]
     refine .mk ⟨⟨k,o++[⟨⟨(a:Int),(k:Int)⟩,[],1⟩],rfl,by simp[cG],by rw[iS2];simp;omega,l,fun _ h=>absurd c1 h,fun x h=>sk _ (.start hk c1 c2 h)⟩,by dsimp only;omega⟩
    .rw [iN2 (by intro h;apply c2;simp at h;exact⟨h.1,by omega⟩),iK2 (by simpa using c1)]
     have c3:(gm s k).RepeatEnd≠0:=fun h=>k4 hk ⟨c1,h,by
      by_cases e:k=a
      .exact .inl e
      .exact .inr (b2t fun h=>c2 ⟨h,by omega⟩)⟩
     rw[eK (by omega),fU f];simp only[iF2];refine .mk ⟨⟨k+1,o++[⟨⟨(a:Int),((k+1:Nat):Int)⟩,[],(gm s k).RepeatEnd⟩],rfl,by simp[cG],by rw[iS2];simp;omega,hk,fun _ _=>by rw[c.end0 hk,c1],fun x h=>sk _ (.rep hk c1 c2 c3 h)⟩,by dsimp only;omega⟩
   .rw [iN2 (by simpa using c1)]
    simp only[iF2,Bool.false_and,iR2,jO2];rw[iN2 (by simpa using c1)]
    have p:(g k).ending=0:=by
     by_cases e:k=a
     .subst e;exact g5 hk c1
     .have:=c.end0 (i:=k-1) (by omega)
      rw[show k-1+1=k by omega]at this;rw[this];exact(n (k-1) (by omega) (by omega)).1
    have H:=c.used0 k l p;rw[lE2,lE2];refine Ob (P:=fun r=>∃(e:Nat) (acc:aA aV) (all:Int),r=((e:Int),acc.map cE,Gs all)/\k<e/\e<=s.Measures.length/\(e=s.Measures.length\/(gm s e).Endings=0)/\Ch s k [] 0 (acc,all,e)) (bS (fun(q:Int×Bool×aA aP×Int)=>∃(j:Nat) (acc:aA aV) (all:Int),q.1=(j:Int)/\q.2.2.1=acc.map cE/\q.2.2.2=Gs all/\By all/\(g j).used=all/\acc.length<=j/\k<=j/\j<=s.Measures.length/\(q.2.1=true->k<j/\(j=s.Measures.length\/(gm s j).Endings=0))/\(q.2.1=false->(j=s.Measures.length->k<j)/\(j<s.Measures.length->(gm s j).Endings≠0/\(gm s j).Endings≠(g j).ending))/\∀x,Ch s j acc all x->Ch s k [] 0 x) (fun q=>s.Measures.length-q.1.toNat) (fun q G=>?_) bA ((k:Int),false,[],0) ⟨k,[],0,rfl,rfl,rfl,⟨by decide,by decide⟩,H,by simp,iJ2 _,l,fun h=>Bool.noConfusion h,fun _=>⟨fun h=>by omega,fun _=>⟨c1,by rw[p];exact c1⟩⟩,fun x h=>h⟩ (by simp only[bA];omega)) fun r hr=>?_
    .obtain ⟨jj,last,parts,times⟩:=q
     obtain⟨j,acc,all,T,U,f3,V,W,f6,f7,X,Y,v,w⟩:=G;dsimp only at T U f3 Y v ⊢;subst T U f3;by_cases hg:last=false/\j<s.Measures.length
     .obtain ⟨rfl,b⟩:=hg
      rw[iK2 (by simp;omega)];obtain⟨D,e2⟩:=(v rfl).2 b;refine Ob (Vo hn b (fun u y C S=>?_) (fun u y C S=>?_) ?_) fun m hm=>?_
      .rw [iK2 (by simp;omega),dT C,dT b]
       simp only[iF2];rw[iK2 (by simpa using S),eK (by omega)]
      .rw [iK2 (by simp;omega),dT C,dT b]
       simp only[iF2];rw[iN2 (by simpa using S)]
      .rw [iN2 (by simp)]
       rfl
      obtain⟨m,rfl,hr⟩:=hm;have r1:=hr.1;have r2:=hr.2.1;obtain⟨n1,n2⟩:=c.run hr D e2;rw[dT b];simp only[iF2];rw[fU (by rw[jR2];omega)];simp only[iF2];have hp:=Mf all;refine Ob (iK1 (c.E b) ⟨hp.1,by omega⟩) fun t ht=>?_;subst ht;rw[Mg (by omega),show(m:Int)-1=((m-1:Nat):Int)by omega,dT (by omega)];simp only[iF2];have d:(gm s (m-1)).Endings=(gm s j).Endings:=hr.2.2.1 (m-1) (by omega) (by omega);refine .mk ⟨⟨m,acc++[⟨⟨(j:Int),(m:Int)⟩,(gm s j).Endings⟩],ior .i64 all (gm s j).Endings,rfl,by simp[cE],?_,V.ior (c.E b),by rw[n2,W],by rw[iS2];simp;omega,by omega,r2,fun hl=>⟨by omega,?_⟩,fun hl=>⟨fun _=>by omega,fun hm=>?_⟩,fun x h=>w x (.step D hr h)⟩,by dsimp only;omega⟩
      .dsimp only
       rw[cO1 V (c.E b) (by rw[<-W];exact n1)]
      .by_cases F:m=s.Measures.length
       .exact .inl F
       .refine .inr (Decidable.byContradiction fun O=>?_)
        have M:(gm s (m-1)).RepeatEnd=0:=by simpa using hl
        have:=c.A (i:=m-1) (by omega) (by rw[d];exact D) (by rw[show m-1+1=m by omega];exact O) (by rw[show m-1+1=m by omega,d];exact hr.2.2.2.resolve_left F);exact this M
      .have M:(gm s (m-1)).RepeatEnd≠0:=by simpa using hl
       have he:=c.end0 (i:=m-1) (by omega);rw[show m-1+1=m by omega,d]at he;refine⟨fun h0=>M (c.B (i:=m-1) (by omega) (by rw[d];exact D) (by rw[show m-1+1=m by omega];exact h0)),?_⟩;rw[he];exact hr.2.2.2.resolve_left (by omega)
     .rw [iN2 (by simp;intro h;have:¬j<s.Measures.length:=fun h2=>hg ⟨h,h2⟩;omega)]
      cases last with
      |true=>
       obtain⟨l1,l2⟩:=Y rfl;exact .mk ⟨j,acc,all,rfl,l1,X,l2,w _ (.stop l2)⟩
      |false=>
       have b:j=s.Measures.length:=by
        have:¬j<s.Measures.length:=fun h2=>hg ⟨rfl,h2⟩;omega
       exact .mk ⟨j,acc,all,rfl,(v rfl).1 b,X,.inl b,w _ (.stop (.inl b))⟩
    .obtain ⟨e,acc,all,rfl,D,e2,K,e4⟩:=hr
     dsimp only;rw[fU f];simp only[iF2];refine .mk ⟨⟨e,o++[⟨⟨(a:Int),(k:Int)⟩,acc,Gs all⟩],rfl,by simp[cG],by rw[iS2];simp;omega,e2,fun h1 h2=>by rcases K with K|K;omega;exact absurd K h2,fun x h=>sk _ (.ends hk c1 e4 h)⟩,by dsimp only;omega⟩
 .rw [iN2 (by simpa using L)]
  have:a=s.Measures.length:=by omega
  subst this;exact .mk ⟨o,rfl,g6 _ (.fin0 (Nat.lt_irrefl _))⟩
end Go.P
namespace Go.P
variable {s:Y0}
def qP (a b:Int):aA Int:=(List.range (b-a).toNat).map fun(k:Nat)=>a+k
theorem mX {a b:Int} (h:¬a<b):qP a b=[]:=by
 unfold qP;rw[show(b-a).toNat=0 by omega];rfl
theorem kL {a b:Int} (h:a<b):qP a b=a::qP (a+1) b:=by
 unfold qP;rw[show(b-a).toNat=(b-(a+1)).toNat+1 by omega,List.range_succ_eq_map];simp only[kJ2,List.map_map];congr 1;simp;apply List.map_congr_left;intro k _;simp only[Function.comp];omega
theorem Mh {a b x:Int} (h:x∈qP a b):a<=x/\x<b:=by
 unfold qP at h;obtain⟨k,hk,rfl⟩:=lL2.1 h;have:=List.mem_range.1 hk;omega
theorem mY (a b:Int):(qP a b).length=(b-a).toNat:=by simp[qP]
def Dn:aA Int->aA Int->aA aZ
 |_,[]=>[]
 |p,m::r=>⟨m,(p.count m:Nat)⟩::Dn (p++[m]) r
theorem yJ (m:Int):∀(ms p:aA Int),Dn p (ms++[m])=Dn p ms++[⟨m,((p++ms).count m:Nat)⟩]
 |[],p=>by simp[Dn]
 |x::r,p=>by
  simp only[lJ2,Dn,yJ m r (p++[x])]
  simp
theorem pC:∀(ms p:aA Int),(Dn p ms).length=ms.length
 |[],p=>rfl
 |x::r,p=>by simp[Dn,pC r]
theorem Mi:∀(ms p:aA Int) (i:Nat) (h:i<ms.length),(Dn p ms)[i]? =some ⟨ms[i],((p++ms.take i).count ms[i]:Nat)⟩
 |x::r,p,0,h=>by simp[Dn]
 |x::r,p,i+1,h=>by
  simp only[Dn,List.getElem?_cons_succ,List.getElem_cons_succ,List.take_succ_cons]
  rw[Mi r (p++[x]) i (by simpa using h)]
  simp
def St (ms:aA Int) (mp:aA (Int×Int)) (l:aA aZ):Prop:=l=Dn [] ms/\∀k,fS mp k 0=(ms.count k:Nat)
theorem St.nil:St [] [] []:=⟨rfl,fun k=>rfl⟩
theorem St.next {ms:aA Int} {mp:aA (Int×Int)} {l:aA aZ} (h:St ms mp l) (m:Int) (hl:ms.length<100000):St (ms++[m]) (jC mp m (bD (fS mp m 0+1))) (l++[⟨m,fS mp m 0⟩]):=by
 have hc:=List.count_le_length (a:=m) (l:=ms);refine⟨by rw[h.1,yJ,h.2];rfl,fun k=>?_⟩;rw[Aw,h.2 m,bM (by omega) (by omega),h.2 k,List.count_append,List.count_singleton];by_cases hk:k=m
 .subst hk;simp
 .rw [iN2 hk]
  have:(m==k)=false:=by simpa using fun h=>hk h.symm
  rw[this];simp
theorem St.play {ms:aA Int} {mp:aA (Int×Int)} {l:aA aZ} (h:St ms mp l) (hl:ms.length<8192) (m a:Int) (b:aA aZ):yH m mp l a b=some (.inr (l++[⟨m,fS mp m 0⟩])):=by
 unfold yH;have:l.length=ms.length:=by rw[h.1,pC]
 rw[iN2 (by simp;omega),fU (by omega)];rfl
theorem iM1 {ms:aA Int} (hl:ms.length<100000):Ok (F10 ms) (fun r=>r=Dn [] ms):=by
 unfold F10;refine Ob (P:=fun r=>r=Dn [] ms) (bS (fun(q:Int×aA aZ)=>∃i:Nat,q.1=(i:Int)/\i<=ms.length/\q.2=Dn [] (ms.take i)) (fun q=>ms.length-q.1.toNat) (fun q b=>?_) bA (0,[]) ⟨0,rfl,jB2 _,rfl⟩ (by simp only[bA];omega)) fun r hr=>.mk hr;obtain⟨p,o⟩:=q;obtain⟨i,f,g2,g⟩:=b;dsimp only at f g ⊢;subst f g
 have d:∀k:Nat,(h:k<ms.length)->aU ms (k:Int)=some ms[k]:=fun k h=>by
  unfold aU;rw[iK2 (by omega),Int.toNat_natCast];exact iW2 h
 by_cases hi:i<ms.length;rw[iK2 (by simp;omega)];refine Ob (P:=fun r=>r=(((ms.take i).count ms[i]:Nat):Int)) (bS (fun(q:Int×Int)=>∃k:Nat,q.2=(k:Int)/\k<=i/\q.1=(((ms.take k).count ms[i]:Nat):Int)) (fun q=>i-q.2.toNat) (fun q b=>?_) bA (0,0) ⟨0,rfl,jB2 _,rfl⟩ (by simp only[bA];omega)) fun n j=>?_;obtain⟨c,s⟩:=q;obtain⟨k,e,m,f3⟩:=b;dsimp only at e f3 ⊢;subst e f3;have hc:=List.count_le_length (a:=ms[i]) (l:=ms.take k);rw[kS2]at hc;by_cases hk:k<i;rw[iK2 (by simp;omega),d k (by omega),d i hi];simp only[iF2];rw[eK (n:=k) (by omega)];by_cases he:ms[k]=ms[i];rw[iK2 (by simpa using he),eK (by omega)];refine .mk ⟨⟨k+1,rfl,by omega,?_⟩,by dsimp only;omega⟩;dsimp only;rw[List.take_add_one,iW2 (by omega),List.count_append,Option.toList_some,List.count_singleton,he];simp;rw[iN2 (by simpa using he)];refine .mk ⟨⟨k+1,rfl,by omega,?_⟩,by dsimp only;omega⟩;dsimp only;rw[List.take_add_one,iW2 (by omega),List.count_append,Option.toList_some,List.count_singleton];have:(ms[k]==ms[i])=false:=by simpa using he
 rw[this];simp;rw[iN2 (by simp;omega)];have:k=i:=by omega
 subst this;exact .mk rfl;subst j;rw[d i hi];simp only[iF2];rw[fU (by rw[pC,kS2];omega)];simp only[iF2];rw[eK (by omega)];refine .mk ⟨⟨i+1,rfl,hi,?_⟩,by dsimp only;omega⟩;dsimp only;rw[List.take_add_one,iW2 hi,Option.toList_some,yJ];rfl;rw[iN2 (by simp;omega)];exact .mk (by rw[jV2 (by omega)])
theorem cS1 {l:aA aZ} (hl:l.length<100000):F9 l l=some true:=by
 refine Ok.eq ?_;unfold F9;rw[iN2 (by simp)];refine Ob (P:=fun r=>match r with|.inl _=>False|.inr _=>True) (bJ (l:=l) (fun q=>q) (fun _ _=>True) (by omega) rfl trivial (fun i e q c b hi a _ hg hw=>?_) (fun q hi _=>?_)) fun r hr=>?_;rw[hi]at hg a hw ⊢;rw[iK2 (by simpa using a),hg];simp only[iF2];rw[iN2 (by simp),hw];exact .mk ⟨rfl,trivial⟩;rw[hi,iN2 (by simp)];exact .mk trivial;rcases r with _|_;exact hr.elim;exact .mk rfl
theorem iN1 {ms:aA Int} (hv:F8 s=some true) (hl:ms.length<=8192) (g:∀m∈ms,0<=m/\m<(s.Measures.length:Int)):F12 s (Dn [] ms)=some 0:=by
 refine Ok.eq ?_;unfold F12;rw[hv];simp only[iF2];rw[iN2 (by decide),iN2 (by rw[pC];simp;omega)];have b:=pC ms []
 have f:∀k:Nat,(h:k<ms.length)->aU (Dn [] ms) (k:Int)=some ⟨ms[k],(((ms.take k).count ms[k]:Nat):Int)⟩:=fun k h=>by
  unfold aU;rw[iK2 (by omega),Int.toNat_natCast,Mi ms [] k h];rfl
 refine Ob (P:=fun r=>match r with|.inl _=>False|.inr _=>True) (bS (fun(q:Int)=>∃i:Nat,q=(i:Int)/\i<=ms.length) (fun q=>ms.length-q.toNat) (fun q d=>?_) bA 0 ⟨0,rfl,jB2 _⟩ (by simp only[bA];omega)) fun r hr=>?_;obtain⟨i,rfl,g2⟩:=d;by_cases hi:i<ms.length;rw[iK2 (by simp;omega),f i hi];simp only[iF2];have j:=g _ (kK2 hi);rw[iN2 (by simp;omega)];simp only[iF2];rw[iN2 (by simp;omega)];refine Ob (P:=fun r=>r=(((ms.take i).count ms[i]:Nat):Int)) (bS (fun(q:Int×Int)=>∃k:Nat,q.2=(k:Int)/\k<=i/\q.1=(((ms.take k).count ms[i]:Nat):Int)) (fun q=>i-q.2.toNat) (fun q d=>?_) bA (0,0) ⟨0,rfl,jB2 _,rfl⟩ (by simp only[bA];omega)) fun n o=>?_;obtain⟨c,t⟩:=q;obtain⟨k,e,p,f3⟩:=d;dsimp only at e f3 ⊢;subst e f3;have hc:=List.count_le_length (a:=ms[i]) (l:=ms.take k);rw[kS2]at hc;by_cases hk:k<i;rw[iK2 (by simp;omega),f k (by omega)];simp only[iF2];rw[eK (n:=k) (by omega)];by_cases he:ms[k]=ms[i];rw[iK2 (by simpa using he),eK (by omega)];refine .mk ⟨⟨k+1,rfl,by omega,?_⟩,by dsimp only;omega⟩;dsimp only;rw[List.take_add_one,iW2 (by omega),List.count_append,Option.toList_some,List.count_singleton,he];simp;rw[iN2 (by simpa using he)];refine .mk ⟨⟨k+1,rfl,by omega,?_⟩,by dsimp only;omega⟩;dsimp only;rw[List.take_add_one,iW2 (by omega),List.count_append,Option.toList_some,List.count_singleton];have:(ms[k]==ms[i])=false:=by simpa using he
 rw[this];simp;rw[iN2 (by simp;omega)];have:k=i:=by omega
 subst this;exact .mk rfl;subst o;rw[iN2 (by simp),eK (by omega)];exact .mk ⟨⟨i+1,rfl,hi⟩,by omega⟩;rw[iN2 (by rw[b];simp;omega)];exact .mk trivial;rcases r with _|_;exact hr.elim;exact .mk rfl
end Go.P
namespace Go.P
variable {s:Y0}
def mZ (s:Y0) (i:Nat) (b:Int):Bool:=cS .i64 (gm s i).Labels b !=0
def Jq (s:Y0) (b r:Int):Prop:=(r= -1/\∀i,i<s.Measures.length->mZ s i b=false)\/∃i:Nat,r=(i:Int)/\i<s.Measures.length/\mZ s i b=true/\∀k,k<i->mZ s k b=false
theorem Jq.det {b r r':Int} (h:Jq s b r) (h':Jq s b r'):r=r':=by
 rcases h with⟨rfl,h⟩|⟨i,rfl,h1,h2,h3⟩
 rcases h' with⟨rfl,_⟩|⟨i,rfl,k1,k2,_⟩
 rfl;rw[h i k1]at k2;cases k2;rcases h' with⟨rfl,k⟩|⟨k,rfl,k1,k2,k3⟩
 rw[k i h1]at h2;cases h2
 have:i=k:=by
  apply Decidable.byContradiction;intro a;by_cases hl:i<k;rw[k3 i hl]at h2;cases h2;rw[h3 k (by omega)]at k2;cases k2
 rw[this]
theorem Jr {p:Nat->Bool} {body:Int->aB (Int⊕(Int⊕Unit))} (d:s.Measures.length<100000)
  (h1:∀i,i<s.Measures.length->body (i:Int)=if p i=true then some (.inr (.inl (i:Int)))else some (.inl ((i+1:Nat):Int))) (h2:body (s.Measures.length:Int)=some (.inr (.inr ()))):
  Ok (aS body bA 0) (fun r=>match r with|.inl x=>∃i:Nat,x=(i:Int)/\i<s.Measures.length/\p i=true/\∀k,k<i->p k=false|.inr _=>∀i,i<s.Measures.length->p i=false):=by
 refine bS (fun(q:Int)=>∃i:Nat,q=(i:Int)/\i<=s.Measures.length/\∀k,k<i->p k=false) (fun q=>s.Measures.length-q.toNat) (fun q b=>?_) bA 0 ⟨0,rfl,jB2 _,fun k h=>by omega⟩ (by simp only[bA];omega);obtain⟨i,rfl,c,g2⟩:=b;by_cases hi:i<s.Measures.length;rw[h1 i hi];cases hp:p i with
 |true=>exact .mk ⟨i,rfl,hi,hp,g2⟩
 |false=>
  refine .mk ⟨⟨i+1,rfl,hi,fun k hk=>?_⟩,by omega⟩;by_cases a:k=i;subst a;exact hp;exact g2 k (by omega)
 have:i=s.Measures.length:=by omega
 subst this;rw[h2];exact .mk g2
theorem yK (a:s.Measures.length<100000) (b:Int):Ok (Au s.Measures b) (fun r=>Jq s b r):=by
 unfold Au;refine Ob (Jr (p:=fun i=>mZ s i b) a (fun i hi=>?_) ?_) fun r hr=>?_;rw[iK2 (by simp;omega),dT hi];simp only[iF2,Uv];rw[eK (by omega)];rfl;rw[iN2 (by simp)];rcases r with x|_;obtain⟨i,rfl,h⟩:=hr;exact .mk (.inr ⟨i,rfl,h⟩);exact .mk (.inl ⟨rfl,hr⟩)
theorem Vp (a:s.Measures.length<100000) (b:Int):Ok (Gr s.Measures b) (fun r=>Jq s b r):=by
 unfold Gr;refine Ob (Jr (p:=fun i=>mZ s i b) a (fun i hi=>?_) ?_) fun r hr=>?_;rw[iK2 (by simp;omega),dT hi];simp only[iF2,F99];rw[eK (by omega)];rfl;rw[iN2 (by simp)];rcases r with x|_;obtain⟨i,rfl,h⟩:=hr;exact .mk (.inr ⟨i,rfl,h⟩);exact .mk (.inl ⟨rfl,hr⟩)
theorem cT1:∀l:Fin 16,∀b:Fin 4,∃q,sD .i64 (l.val:Int) ((2^b.val:Nat):Int)=some q/\(qJ .i64 q 2=some 0\/qJ .i64 q 2=some 1)/\((qJ .i64 q 2=some 1)↔(cS .i64 (l.val:Int) ((2^b.val:Nat):Int)!=0)=true):=by
 intro l b;refine⟨(l.val:Int).tdiv ((2^b.val:Nat):Int),?_⟩;revert l b;decide+kernel
structure Jm (s:Y0) (i:Nat):Prop where
 j:0<=(gm s i).Jump/\(gm s i).Jump<=6
 l:0<=(gm s i).Labels/\(gm s i).Labels<=15
 u:∀k,k<i->cS .i64 (gm s i).Labels (gm s k).Labels=0
 d:(gm s i).Jump>=4->∃r,Jq s 1 r/\0<=r
 c:(gm s i).Jump=3\/(gm s i).Jump=6->∃t c,Jq s 8 t/\Jq s 2 c/\0<=t/\t<c
theorem Vq {i k:Nat} (hi:i<=s.Measures.length) (hk:k<i):aU (s.Measures.take i) (k:Int)=some (gm s k):=by
 unfold aU;rw[iK2 (by omega),Int.toNat_natCast,jS2,iK2 hk,iW2 (by omega),Ax (iW2 (by omega))]
def UQ (s:Y0) (i:Nat) (a:Int⊕Unit):Prop:=match a with|.inl x=>0<=x|.inr _=>∀k,k<i->cS .i64 (gm s i).Labels (gm s k).Labels=0
theorem E90 (p:s.Measures.length<100000) {i:Nat} {r:Int} {v:aA YV} (hi:i<s.Measures.length) {b:Bool} (h:F90 (i:Int) (gm s i) ⟨s,r,v⟩=some b) (hb:b=false):Jm s i:=by
 subst hb;unfold F90 vO at h;simp only[iF2]at h;obtain⟨x,f,h⟩:=eR h;by_cases c:(x||(((gm s i).Jump !=0||(gm s i).Labels !=0)&&((gm s i).RepeatEnd !=0||(gm s i).Endings !=0)))=true;rw[iK2 c]at h;cases h;rw[iN2 c]at h;have G:x=false:=by cases x<;>simp_all
 subst G
 have C:0<=(gm s i).Jump/\(gm s i).Jump<=6:=by
  cases hb:(decide ((gm s i).Jump>=0)&&decide ((gm s i).Jump<=6))with
  |true=>simpa using hb
  |false=>rw[hb,iK2 (show(!false)=true from rfl)]at f;cases f
 rw[iN2 (by simp;exact C)]at f;have F:0<=(gm s i).Labels/\(gm s i).Labels<=15:=by simpa using f
 rw[show mR s.Measures 0 (i:Int)=some (s.Measures.take i)by
  unfold mR;rw[iK2 ⟨by omega,by omega,by omega⟩];simp]at h
 obtain⟨_,e2,h⟩:=eR h;cases e2;obtain⟨y,e2,h⟩:=eR h;obtain⟨z,a,h⟩:=eR h;cases h;cases y with
 |true=>rw[iK2 rfl]at a;cases a
 |false=>
 rw[iN2 (by decide)]at a;obtain⟨w,a,B⟩:=eR a;simp only[iM2,Bool.not_eq_false']at B;subst B
 have D:∀k,k<i->cS .i64 (gm s i).Labels (gm s k).Labels=0:=by
  unfold F92 at e2;obtain⟨n,d,e2⟩:=eR e2;unfold F98 at d;obtain⟨E,j,d⟩:=eR d
  have g:UQ s i E:=by
   refine Ok.of (Q:=UQ s i) (bS (fun(q:Int)=>∃k:Nat,q=(k:Int)/\k<=i/\∀u,u<k->cS .i64 (gm s i).Labels (gm s u).Labels=0) (fun q=>i-q.toNat) (fun q g=>?_) bA 0 ⟨0,rfl,jB2 _,fun k h=>by omega⟩ (by simp only[bA];omega)) j;obtain⟨k,rfl,J,g2⟩:=g;have hlen:(s.Measures.take i).length=i:=by rw[kS2];omega
   by_cases hk:k<i;rw[iK2 (by rw[hlen];simp;omega),Vq (by omega) hk];simp only[iF2,F91];rw[eK (by omega)];by_cases hc:(((gm s i).Jump !=0&&(gm s k).Jump !=0)||(cS .i64 (gm s i).Labels (gm s k).Labels !=0))=true;rw[iK2 hc];exact .mk (show(0:Int)<=(k:Int)by omega);rw[iN2 hc];refine .mk ⟨⟨k+1,rfl,hk,fun u D=>?_⟩,by omega⟩;by_cases t:u=k;subst t;simp only[iU2,lF2]at hc;simpa using hc.2;exact g2 u (by omega);rw[iN2 (by rw[hlen];simp;omega)];have:k=i:=by omega
   subst this;exact .mk g2
  rcases E with x|_;cases d;simp only[iM2,jN2]at e2;exact absurd g e2;exact g
 unfold F93 Jg vO Jf at a;dsimp only at a;obtain⟨x,d,a⟩:=eR a;cases x with
 |true=>rw[iK2 rfl]at a;cases a
 |false=>
 rw[iN2 (by decide)]at a;refine⟨C,F,D,fun h4=>?_,fun h3=>?_⟩;rw[iK2 (by simpa using h4)]at d;obtain⟨r1,A,e⟩:=yK (s:=s) p 1;rw[A]at d;simp only[iF2,iM2,Bool.not_eq_false']at d;exact⟨r1,e,by simp at d;omega⟩
 have l:(((if((gm s i).Jump==2)=true then some ((gm s i).Jump==2)else some ((gm s i).Jump==5)):aB Bool))=some false:=by
  rcases h3 with h3|h3<;>rw[h3]<;>rfl
 have m:(((if((gm s i).Jump==3)=true then some ((gm s i).Jump==3)else some ((gm s i).Jump==6)):aB Bool))=some true:=by
  rcases h3 with h3|h3<;>rw[h3]<;>rfl
 rw[l,m]at a;simp only[iF2,iR2,jO2,jG2]at a;obtain⟨r1,A,e⟩:=yK (s:=s) p 8;obtain⟨r2,H,o⟩:=yK (s:=s) p 2;rw[A,H]at a;simp only[iF2]at a;obtain⟨q,a,j⟩:=eR a;cases j;by_cases hc:(decide (r1>=0)&&decide (r1<=(i:Int)))=true;rw[iK2 hc]at a;simp only[iM2,iP2]at a;exact⟨r1,r2,e,o,by simp at hc;omega,by omega⟩;rw[iN2 hc]at a;cases a
theorem Vr (hs:s.sm) (h:Jh [] s 15=some []):∀i,i<s.Measures.length->Jm s i:=by
 unfold Jh at h;obtain⟨v,e,h⟩:=eR h;cases h;unfold yG at e;obtain⟨v,e,h⟩:=eR e;cases h;have l:=hs.Measures;refine Ok.of (Q:=fun(v:aA YV)=>v.length=0->∀i,i<s.Measures.length->Jm s i) (bS (fun(q:Int×aA YV)=>∃i:Nat,q.1=(i:Int)/\i<=s.Measures.length/\q.2.length<=i/\(q.2.length=0->∀k,k<i->Jm s k)) (fun q=>s.Measures.length-q.1.toNat) (fun q j=>?_) bA (0,[]) ⟨0,rfl,jB2 _,iJ2 _,fun _ k h=>by omega⟩ (by simp only[bA];omega)) e rfl;obtain⟨m,v⟩:=q;obtain⟨i,f,g2,g,a⟩:=j;dsimp only at f g a ⊢;subst f;by_cases hi:i<s.Measures.length;rw[iK2 (by simp;omega),dT hi];simp only[iF2];refine Ok.bindE (T90 (x1:=(i:Int)) (x3:=⟨s,15,v⟩) (qQ1 hs hi) hs ⟨by omega,by show(i:Int)<=(s.Measures.length:Int);omega⟩) fun b hb _=>?_;refine Ob (Pb (by omega)) fun u d=>?_;rw[eK (by omega)];refine .mk ⟨⟨i+1,rfl,hi,?_,fun h0 k hk=>?_⟩,by dsimp only;omega⟩;dsimp only;cases b<;>simp at d<;>omega;dsimp only at h0;cases b with
 |true=>simp at d;omega
 |false=>
  simp at d;by_cases c:k=i;subst c;exact E90 (by omega) hi hb rfl;exact a (by omega) k (by omega)
 rw[iN2 (by simp;omega)];have:i=s.Measures.length:=by omega
 subst this;exact .mk a
end Go.P
namespace Go.P
variable {s:Y0}
def GE (n:Nat) (x:aV):Prop:=(∃f e:Nat,x.span=⟨(f:Int),(e:Int)⟩/\f<=e/\e<=n)/\By x.bits
def Mj (l:aA aV):Int:=(l.map fun x=>x.span.end'-x.span.first).sum
structure GG (n:Nat) (x:aH):Prop where
 b:∃f e:Nat,x.body=⟨(f:Int),(e:Int)⟩/\f<=e/\e<=n
 e:∀y∈x.endings,GE n y
 p:0<=x.passes/\x.passes<=8
 l:x.endings.length<=n
 t:x.body.end'-x.body.first+Mj x.endings<=n
theorem Vt (l:aA aV) (x:aV):Mj (l++[x])=Mj l+(x.span.end'-x.span.first):=by simp[Mj]
theorem Ch.good (c:∀i,i<s.Measures.length->By (gm s i).Endings) {i:Nat} {acc:aA aV} {all:Int} {r:aA aV×Int×Nat} (h:Ch s i acc all r) (hi:i<=s.Measures.length) (hg:∀x∈acc,GE s.Measures.length x) (hl:acc.length<=i):
  (∀x∈r.1,GE s.Measures.length x)/\r.1.length<=r.2.2/\i<=r.2.2/\r.2.2<=s.Measures.length/\Mj r.1=Mj acc+((r.2.2:Int)-i):=by
 induction h with
 |stop h=>exact⟨hg,hl,iJ2 _,hi,by dsimp only;omega⟩
 |@step i j acc all r h1 h2 h3 ih=>
  have r1:=h2.1;have r2:=h2.2.1
  obtain⟨d,e,g,f,b⟩:=ih r2 (fun x a=>by
   rcases kG2.1 a with a|a
   .exact hg x a
   .rw [List.mem_singleton]at a
    subst a;exact⟨⟨i,j,rfl,by omega,r2⟩,c i (by omega)⟩) (by rw[iS2];simp;omega)
  refine⟨d,e,by omega,f,?_⟩;rw[Vt]at b;dsimp only at b;omega
theorem Sc.good (f:∀i,i<s.Measures.length->By (gm s i).Endings/\((gm s i).RepeatEnd=0\/2<=(gm s i).RepeatEnd/\(gm s i).RepeatEnd<=8)) {b i:Nat} {o r:aA aH} (h:Sc s b i o r) (hb:b<=i) (hi:i<=s.Measures.length) (hg:∀x∈o,GG s.Measures.length x) (hl:o.length<=b):
  (∀x∈r,GG s.Measures.length x)/\r.length<=s.Measures.length:=by
 have d:∀{o:aA aH} {y:aH},(∀x∈o,GG s.Measures.length x)->GG s.Measures.length y->∀x∈o++[y],GG s.Measures.length x:=fun h1 h2 x c=>by grind
 have pl:∀{a b:Nat} {p:Int},a<=b->b<=s.Measures.length->0<=p->p<=8->GG s.Measures.length ⟨⟨(a:Int),(b:Int)⟩,[],p⟩:=fun{a b p} h1 h2 h3 h4=>⟨⟨a,b,rfl,h1,h2⟩,fun y hy=>by simp at hy,⟨h3,h4⟩,jB2 _,by simp[Mj];omega⟩
 induction h with
 |fin1 h=>exact⟨d hg (pl (by omega) (iJ2 _) (by decide) (by decide)),by rw[iS2];simp;omega⟩
 |fin0 h=>exact⟨hg,by omega⟩
 |@ends b i o acc all e r h1 h2 h3 h4 ih=>
  obtain⟨j,k,n,g,l⟩:=h3.good (fun i hi=>(f i hi).1) (by omega) (fun x c=>by simp at c) (by simp)
  have m:i<e:=by
   cases h3 with
   |stop h=>rcases h with h|h;omega;exact absurd h h2
   |step q1 q2 q3=>
    have:=q2.1;have:=(q3.good (fun i hi=>(f i hi).1) q2.2.1 (fun x c=>by simp at c;subst c;exact⟨⟨i,_,rfl,by omega,q2.2.1⟩,(f i h1).1⟩) (by simp;omega)).2.2.1;dsimp only at this;omega
  have hp:=Mf all;dsimp only at j k n g l;refine ih (iJ2 _) g (d hg ⟨⟨b,i,rfl,hb,hi⟩,j,hp,jK2 k g,?_⟩) (by rw[iS2];simp;omega);show(i:Int)-(b:Int)+Mj acc<=_
  rw[l];simp[Mj];omega
 |start h1 h2 h3 h4 ih=>
  exact ih (iJ2 _) (by omega) (d hg (pl hb (by omega) (by decide) (by decide))) (by rw[iS2];simp;omega)
 |rep h1 h2 h3 h4 h5 ih=>
  have q:=(f _ h1).2.resolve_left h4;exact ih (iJ2 _) (by omega) (d hg (pl (by omega) (by omega) (by omega) (by omega))) (by rw[iS2];simp;omega)
 |skip h1 h2 h3 h4 h5 ih=>exact ih (by omega) (by omega) hg hl
def kE:aA aV->aA Int
 |[]=>[]
 |[_]=>[]
 |x::y::r=>qP x.span.first x.span.end'++kE (y::r)
def fI (m:aA (Int×Bool)) (ks:aA Int):aA (Int×Bool):=ks.foldl (fun m k=>jC m k true) m
def eC (G:aA aH):aA Int:=G.flatMap fun g=>kE g.endings
theorem yL (x:aH) (r:aA aH):eC (x::r)=kE x.endings++eC r:=by simp[eC]
theorem sO (m:aA (Int×Bool)) (a b:aA Int):fI m (a++b)=fI (fI m a) b:=by simp[fI]
theorem Gt {S E:Type} {body:Int×S->aB ((Int×S)⊕E)} {a b:Nat} (f:S->Int->S) (fin:S->E) (hb:b<100000) (e:a<100000) (s0:S)
  (h1:∀(k:Nat) (st:S),k<b->body ((k:Int),st)=some (.inl (((k+1:Nat):Int),f st (k:Int)))) (h2:∀(k:Nat) (st:S),¬k<b->body ((k:Int),st)=some (.inr (fin st))):
  aS body bA ((a:Int),s0)=some (fin ((qP ((a:Nat):Int) ((b:Nat):Int)).foldl f s0)):=by
 refine Ok.eq (bS (fun(q:Int×S)=>∃k:Nat,q.1=(k:Int)/\(qP ((k:Nat):Int) ((b:Nat):Int)).foldl f q.2=(qP ((a:Nat):Int) ((b:Nat):Int)).foldl f s0) (fun q=>b-q.1.toNat) (fun q d=>?_) bA _ ⟨a,rfl,rfl⟩ (by simp only[bA];omega));obtain⟨g,st⟩:=q;obtain⟨k,c,g2⟩:=d;dsimp only at c g2;subst c;by_cases hk:k<b;rw[h1 k st hk];rw[kL (by omega),List.foldl_cons]at g2;exact .mk ⟨⟨k+1,rfl,g2⟩,by dsimp only;omega⟩;rw[h2 k st hk];rw[mX (by omega)]at g2;exact .mk (by rw[<-g2];rfl)
theorem pP {A:Type} {l:aA A} {i:Nat} {x:A} (h:l[i]? =some x):l.drop i=x::l.drop (i+1):=by
 obtain⟨hi,rfl⟩:=iI2.1 h;exact List.drop_eq_getElem_cons hi
theorem Dm (x:aV) (r:aA aV):kE (x::r)=if r=[]then[]else qP x.span.first x.span.end'++kE r:=by
 cases r with
 |nil=>rfl
 |cons y r=>rfl
theorem lW {A:Type} {l:aA A} {i:Nat}:l.drop i=[]↔l.length<=i:=List.drop_eq_nil_iff
theorem cU1 {n:Nat} (F:n<100000) {G:aA aH} (z:∀x∈G,GG n x) (hl:G.length<=n):cB1 G=some (fI [] (eC G)):=by
 refine Ok.eq ?_;unfold cB1;refine Ob (P:=fun r=>r=fI [] (eC G)) (bJ (l:=G) (fun(q:Int×aA (Int×Bool))=>q.1) (fun i q=>fI q.2 (eC (G.drop i))=fI [] (eC G)) (by omega) rfl rfl (fun i x q C A hi o c hg hw=>?_) (fun q hi c=>?_)) fun r hr=>.mk hr;obtain⟨D,m⟩:=q;dsimp only at hi o c hg hw ⊢;have d:=z x A;rw[iK2 (by simpa using o),hg];simp only[iF2];refine Ob (P:=fun r=>r=fI m (kE x.endings)) (bJ (l:=x.endings) (fun(q:Int×aA (Int×Bool))=>q.1) (fun j q=>fI q.2 (kE (x.endings.drop j))=fI m (kE x.endings)) (by have:=d.l;omega) rfl rfl (fun j y q hy v t h a g p=>?_) (fun q t a=>?_)) fun r hr=>?_;obtain⟨E,s⟩:=q;dsimp only at t h a g p ⊢;have w:j<x.endings.length:=(iI2.1 hy).1;have:=d.l;rw[iK2 (by simpa using h),g];simp only[iF2];obtain⟨⟨f,e,hs,h1,h2⟩,_⟩:=d.e y v;rw[pP hy,Dm]at a;rw[p,hs];dsimp only;by_cases u:j+1<x.endings.length;rw[iN2 (by rw[lW];omega),hs,sO]at a
 rw[Gt (b:=e) (fun m k=>jC m k true) id (by omega) (by omega) s (fun k st hk=>by
  rw[iK2 (by simp;omega),eK (by omega)]) (fun k st hk=>by rw[iN2 (by simp;omega)];rfl)]
 exact .mk ⟨rfl,a⟩;rw[iK2 (by rw[lW];omega)]at a;refine Ob (P:=fun r=>r=s) (bS (Q:=fun r=>r=s) (fun(q:Int×aA (Int×Bool))=>q=((f:Int),s)) (fun _=>0) (fun q B=>?_) bA _ rfl (by decide)) fun r hr=>?_;subst B;dsimp only;rw[iN2 (by simp;omega)];exact .mk rfl;subst hr;refine .mk ⟨rfl,?_⟩;dsimp only;rw[lW.2 (by omega)];exact a;obtain⟨E,s⟩:=q;dsimp only at t a ⊢;rw[t,iN2 (by simp)];rw[List.drop_length]at a;exact .mk a;subst hr;refine .mk ⟨hw,?_⟩;dsimp only;rw[pP C]at c;rw[<-c,yL,sO];obtain⟨D,m⟩:=q;dsimp only at hi c ⊢;rw[hi,iN2 (by simp)];rw[List.drop_length]at c;exact .mk c
def dU (SK:aA (Int×Bool)) (n:Nat) (f:Int):aA Int:=(qP f (n:Int)).filter fun k=> !(fS SK k false)
theorem Vu {G:aA aH} (M:s.Measures.length<100000) (D:∀x∈G,GG s.Measures.length x) (hl:G.length<=s.Measures.length) (u:F43 s=some (G.map cG)) (f:Nat) (hf:f<=s.Measures.length):F21 s (f:Int)=some (dU (fI [] (eC G)) s.Measures.length (f:Int)):=by
 refine Ok.eq ?_;unfold F21;rw[u];simp only[iF2];refine Ob (P:=fun r=>r=fI [] (eC G)) (bJ (l:=G.map cG) (fun(q:Int×aA (Int×Bool))=>q.1) (fun i q=>fI q.2 (eC (G.drop i))=fI [] (eC G)) (by rw[jR2];omega) rfl rfl (fun i x q B L hi p d hg hw=>?_) (fun q hi d=>?_)) fun r hr=>?_;obtain⟨H,m⟩:=q;dsimp only at hi p d hg hw ⊢;obtain⟨z,C,rfl⟩:∃z,G[i]? =some z/\cG z=x:=by rw[jI2]at B;exact iH2.1 B
 have n:=D z (iQ2 C);have F:=n.l;rw[iK2 (by simpa using p),hg];simp only[iF2];refine Ob (P:=fun r=>r=fI m (kE z.endings)) (bS (fun(q:Int×aA (Int×Bool))=>∃j:Nat,q.1=(j:Int)/\j<=z.endings.length/\fI q.2 (kE (z.endings.drop j))=fI m (kE z.endings)) (fun q=>z.endings.length-q.1.toNat) (fun q A=>?_) bA _ ⟨0,rfl,jB2 _,rfl⟩ (by simp only[bA];omega)) fun r hr=>?_;obtain⟨N,J⟩:=q;obtain⟨j,g,E,t⟩:=A;dsimp only at g t ⊢;subst g;have h:(cG z).endings.length=z.endings.length:=by simp[cG]
 rw[eK (by omega)];by_cases y:j+1<z.endings.length;rw[iK2 (by rw[h];simp;omega)];have hy:z.endings[j]? =some z.endings[j]:=iW2 (by omega)
 have v:aU (cG z).endings (j:Int)=some (cE z.endings[j]):=by
  unfold aU;rw[iK2 (by omega),Int.toNat_natCast];show(z.endings.map cE)[j]? =_
  rw[jI2,hy];rfl
 rw[v];simp only[iF2];obtain⟨⟨a,e,hs,h1,h2⟩,_⟩:=n.e _ (kK2 (by omega:j<z.endings.length));rw[pP hy,Dm,iN2 (by rw[lW];omega),hs,sO]at t;rw[show(cE z.endings[j]).from'=(a:Int)by simp[cE,hs],show(cE z.endings[j]).to=(e:Int)by simp[cE,hs]]
 rw[Gt (b:=e) (fun m k=>jC m k true) id (by omega) (by omega) J (fun k st hk=>by
  rw[iK2 (by simp;omega),eK (by omega)]) (fun k st hk=>by rw[iN2 (by simp;omega)];rfl)]
 exact .mk ⟨⟨j+1,rfl,by omega,t⟩,by dsimp only;omega⟩;rw[iN2 (by rw[h];simp;omega)];refine .mk ?_;rw[<-t];by_cases w:j<z.endings.length;rw[pP (iW2 w),Dm,iK2 (by rw[lW];omega)];rfl;rw[lW.2 (by omega)];rfl;subst hr;refine .mk ⟨hw,?_⟩;dsimp only;rw[pP C]at d;rw[<-d,yL,sO];obtain⟨H,m⟩:=q;dsimp only at hi d ⊢;rw[hi,iN2 (by simp)];rw[jR2,List.drop_length]at d;exact .mk d;subst hr;generalize fI [] (eC G)=SK;refine Ob (P:=fun r=>r=dU SK s.Measures.length (f:Int)) (bS (fun(q:Int×aA Int)=>∃k:Nat,q.1=(k:Int)/\q.2.length<=k/\k<=s.Measures.length/\q.2++dU SK s.Measures.length (k:Int)=dU SK s.Measures.length (f:Int)) (fun q=>s.Measures.length-q.1.toNat) (fun q A=>?_) bA _ ⟨f,rfl,by simp,hf,rfl⟩ (by simp only[bA];omega)) fun r hr=>.mk hr;obtain⟨O,o⟩:=q;obtain⟨k,g,g2,K,c⟩:=A;dsimp only at g g2 c ⊢;subst g;by_cases hk:k<s.Measures.length;rw[iK2 (by simp;omega),eK (by omega)];unfold dU at c;rw[kL (by omega),List.filter_cons]at c;cases hb:fS SK (k:Int) false with
 |true=>
  rw[hb]at c;rw[iN2 (by decide)];simp only[iF2];exact .mk ⟨⟨k+1,rfl,by dsimp only;omega,hk,by simpa[dU]using c⟩,by dsimp only;omega⟩
 |false=>
  rw[hb]at c;rw[iK2 (by decide),fU (by omega)];simp only[iF2];exact .mk ⟨⟨k+1,rfl,by dsimp only;rw[iS2];simp;omega,hk,by simpa[dU]using c⟩,by dsimp only;omega⟩
 rw[iN2 (by simp;omega)];unfold dU at c;rw[mX (by omega)]at c;exact .mk (by simpa[dU]using c)
end Go.P
namespace Go.P
variable {s:Y0}
def Js (b p:Int):Bool:=cS .i64 (b.fdiv (2^min p.toNat 64)) 1==1
theorem Jt {b:Int} {p:Nat}:nD .i64 b (p:Int)=some (b.fdiv (2^min ((p:Int)).toNat 64)):=by
 unfold nD;rw[iN2 (by omega)];rfl
def gH (g:aH) (p:Int):aA aW:=g.body::((g.endings.filter fun x=>Js x.bits p).map (·.span))
def oO (b:Bool) (x:aW):aA (Int×Bool):=(qP x.first x.end').map fun m=>(m,b)
def oP (g:aH) (p:Int):aA (Int×Bool):=(gH g p).flatMap (oO (p==g.passes-1))
def oQ (g:aH):aA (Int×Bool):=(qP 0 g.passes).flatMap (oP g)
def gY (G:aA aH):aA (Int×Bool):=G.flatMap oQ
theorem GG.parts {n:Nat} {g:aH} (h:GG n g) {p:Int} {x:aW} (a:x∈gH g p):∃f e:Nat,x=⟨(f:Int),(e:Int)⟩/\f<=e/\e<=n:=by
 rcases jA2.1 a with rfl|a;exact h.b;obtain⟨y,hy,rfl⟩:=lL2.1 a;exact(h.e y (List.mem_filter.1 hy).1).1
theorem Pd {b:Bool} {x:aW} {n f e:Nat} (c:x=⟨(f:Int),(e:Int)⟩) (he:e<=n) {y:Int×Bool} (hy:y∈oO b x):0<=y.1/\y.1<(n:Int):=by
 subst c;obtain⟨m,a,rfl⟩:=lL2.1 hy;have:=Mh a;dsimp only at this ⊢;omega
theorem Ju {n:Nat} {G:aA aH} (a:∀x∈G,GG n x) {y:Int×Bool} (hy:y∈gY G):0<=y.1/\y.1<(n:Int):=by
 obtain⟨g,hg,hy⟩:=lO2.1 hy;obtain⟨p,_,hy⟩:=lO2.1 hy;obtain⟨x,b,hy⟩:=lO2.1 hy;obtain⟨f,e,h1,_,h2⟩:=(a g hg).parts b;exact Pd h1 h2 hy
theorem eR1 {A B:Type} {l:aA A} {f:A->aA B} {k:Nat} (h:∀x∈l,(f x).length<=k):(l.flatMap f).length<=l.length*k:=by
 induction l with
 |nil=>simp
 |cons x r ih=>
  rw[kL2,iS2,jQ2,kE2];have h1:=h x List.mem_cons_self;have h2:=ih fun y hy=>h y (kN2 _ hy);omega
theorem Az {n:Nat} {g:aH} (h:GG n g) (p:Int):(oP g p).length<=n:=by
 have key:∀(b:Bool) (l:aA aV),(∀y∈l,GE n y)->((((l.filter fun x=>Js x.bits p).map (·.span)).flatMap (oO b)).length:Int)<=Mj l:=fun b l=>by
  induction l with
  |nil=>intro _;simp[Mj]
  |cons x r ih=>
   intro hl;have d:=ih fun y hy=>hl y (kN2 _ hy);obtain⟨⟨f,e,h1,h2,h3⟩,_⟩:=hl x List.mem_cons_self;have a:Mj (x::r)=(x.span.end'-x.span.first)+Mj r:=by simp[Mj]
   have c:x.span.end'-x.span.first=(e:Int)-f:=by rw[h1]
   rw[List.filter_cons];split;rw[kJ2,kL2,iS2,a,c];have:(oO b x.span).length=e-f:=by rw[h1];simp only[oO,jR2,mY];omega
   omega;rw[a,c];omega
 have i:=key (p==g.passes-1) g.endings h.e;obtain⟨f,e,h1,h2,h3⟩:=h.b;have a:=h.t;unfold oP gH;rw[kL2,iS2];have:(oO (p==g.passes-1) g.body).length=e-f:=by rw[h1];simp only[oO,jR2,mY];omega
 rw[h1]at a;dsimp only at a;omega
theorem Jv {n:Nat} {g:aH} (h:GG n g):(oQ g).length<=8*n:=by
 have:=eR1 (l:=qP 0 g.passes) (f:=oP g) (k:=n) fun p _=>Az h p;rw[mY]at this;have hp:=h.p;refine jK2 this (jL2 n (by omega))
theorem qN {n:Nat} {G:aA aH} (a:∀x∈G,GG n x) (hl:G.length<=n) (b:n<=20):(gY G).length<=3200:=by
 have:=eR1 (l:=G) (f:=oQ) (k:=8*n) fun g hg=>Jv (a g hg);have h2:G.length*(8*n)<=20*(8*20):=lT2 (by omega) (by omega);unfold gY;omega
def Jp (s:Y0) (m:Int):Int:=(gm s m.toNat).Jump
def vE (J:Int->Int) (aft:Int->aA Int):aA Int->aA (Int×Bool)->aA Int×Bool
 |ms,[]=>(ms,false)
 |ms,x::r=>if J x.1≠0/\x.2=true then(ms++[x.1]++aft (J x.1),true)else vE J aft (ms++[x.1]) r
def iC (s:Y0) (b:Int):Int:=(Gr s.Measures b).getD 0
theorem pD (a:s.Measures.length<100000) (b:Int):F48 s b=some (iC s b)/\Jq s b (iC s b):=by
 obtain⟨r,h1,h2⟩:=Vp a b;unfold F48 iC;rw[h1];exact⟨rfl,h2⟩
def eZ (j:Int):Int:=if j=2\/j=5 then 4 else if j=3\/j=6 then 8 else 0
def nF (s:Y0) (st:Int) (cl:aA Int):aA Int->aA Int
 |[]=>[]
 |m::r=>m::(if st≠0/\mZ s m.toNat st=true then(if st=8 then cl else[])else nF s st cl r)
theorem Ba {st:Int} {cl:aA Int}:∀{l:aA Int},(∀m∈l,mZ s m.toNat st=false)->nF s st cl l=l
 |[],_=>rfl
 |m::r,h=>by
  rw[nF,iN2 (by rw[h m List.mem_cons_self];simp),Ba fun x a=>h x (kN2 _ a)]
theorem Gu {st:Int} {cl:aA Int} {x:Int}:∀{l:aA Int},x∈nF s st cl l->x∈l\/(st=8/\x∈cl)
 |[],h=>by simp[nF]at h
 |m::r,h=>by
  rw[nF]at h
  rcases jA2.1 h with rfl|h
  exact .inl List.mem_cons_self
  split at h
  split at h
  rename_i a;exact .inr ⟨a,h⟩
  simp at h
  rcases Gu h with h|h
  exact .inl (kN2 _ h)
  exact .inr h
def lL (s:Y0) (SK:aA (Int×Bool)) (j:Int):aA Int:=nF s (eZ j) (dU SK s.Measures.length (iC s 2)) (dU SK s.Measures.length (if j>=4 then iC s 1 else 0))
theorem Jw {SK:aA (Int×Bool)} {n i:Nat} (h:i<n):dU SK n (i:Int)=if fS SK (i:Int) false=true then dU SK n ((i+1:Nat):Int)else(i:Int)::dU SK n ((i+1:Nat):Int):=by
 unfold dU;rw[kL (by omega),List.filter_cons];cases fS SK (i:Int) false<;>simp
theorem pE {SK:aA (Int×Bool)} {n:Nat} {f x:Int} (h:x∈dU SK n f):f<=x/\x<(n:Int):=Mh (List.mem_filter.1 h).1
theorem Bb (SK:aA (Int×Bool)) (n i:Nat):(dU SK n (i:Int)).length<=n-i:=by
 have:=List.length_filter_le (fun k=> !(fS SK k false)) (qP ((i:Nat):Int) ((n:Nat):Int));rw[mY]at this;unfold dU;omega
theorem no8 (e:∀i,i<s.Measures.length->Jm s i) {t c:Int} (h:Jq s 8 t) (m:0<=t) (j:t<c):∀k:Nat,c<=(k:Int)->k<s.Measures.length->mZ s k 8=false:=by
 intro k hk d;rcases h with⟨rfl,_⟩|⟨u,rfl,u1,u2,u3⟩
 omega;have g:=(e k d).u u (by omega);have n:=(e k d).l;have o:=(e u u1).l;have key:∀a b:Fin 16,cS .i64 (a.val:Int) (b.val:Int)=0->(cS .i64 (b.val:Int) 8 !=0)=true->(cS .i64 (a.val:Int) 8 !=0)=false:=by decide+kernel
 obtain⟨a,f⟩:∃a:Nat,(gm s k).Labels=(a:Int):=⟨(gm s k).Labels.toNat,by omega⟩
 obtain⟨b,hb⟩:∃b:Nat,(gm s u).Labels=(b:Int):=⟨(gm s u).Labels.toNat,by omega⟩
 have:=key ⟨a,by omega⟩ ⟨b,by omega⟩;dsimp only at this;unfold mZ at u2 ⊢;rw[f,hb]at g;rw[hb]at u2;rw[f];exact this g u2
theorem iO1 (d:∀i,i<s.Measures.length->Jm s i) {t:Int} (b:Jq s 8 t) {i:Nat} (hi:i<s.Measures.length) (h:mZ s i 8=true) (e:0<=t):t=(i:Int):=by
 rcases b with⟨rfl,_⟩|⟨u,rfl,u1,u2,u3⟩
 omega;by_cases a:i<u;rw[u3 i a]at h;cases h;by_cases he:i=u;rw[he];have:=no8 d (t:=(u:Int)) (c:=(i:Int)) (.inr ⟨u,rfl,u1,u2,u3⟩) (by omega) (by omega) i (by omega) hi;rw[this]at h;cases h
theorem cV1 {G:aA aH} (hn:s.Measures.length<=20) (X:∀x∈G,GG s.Measures.length x) (hl:G.length<=s.Measures.length) (w:∀i,i<s.Measures.length->Jm s i) {j:Int} {u:Nat} (o:u<s.Measures.length) (D:(gm s u).Jump=j)
  {ms:aA Int} {mp:aA (Int×Int)} {l:aA aZ} (Y:St ms mp l) (hb:ms.length<=8000) (a:Int) (b:aA aZ):
  Ok (cC1 G j s mp l a b) (fun r=>∃e l',r=.inr (e,l')/\St (ms++lL s (fI [] (eC G)) j) e l'/\∀x∈lL s (fI [] (eC G)) j,0<=x/\x<(s.Measures.length:Int)):=by
 unfold cC1;rw[cU1 (by omega) X hl];simp only[iF2];generalize hSK:fI [] (eC G)=SK;obtain⟨q1,q2⟩:=pD (s:=s) (by omega) 1;obtain⟨q3,q4⟩:=pD (s:=s) (by omega) 2
 have B:j>=4->0<=iC s 1:=fun h=>by
  obtain⟨r,hr,h0⟩:=(w u o).d (by rw[D];exact h);rw[q2.det hr];exact h0
 have C:∀{b:Int},Jq s b (iC s b)->iC s b<(s.Measures.length:Int):=fun h=>by
  rcases h with⟨h,_⟩|⟨i,h,h1,_⟩<;>rw[h]<;>omega
 have S:=C q2;have T:=C q4
 obtain⟨f,hf,F⟩:∃f:Nat,(if j>=4 then iC s 1 else 0)=(f:Int)/\f<=s.Measures.length:=by
  by_cases h:j>=4
  .rw [iK2 h];have:=B h;exact⟨(iC s 1).toNat,by omega,by omega⟩
  .rw [iN2 h];exact⟨0,rfl,jB2 _⟩
 refine Ob (P:=fun r=>r=(f:Int)) ?_ fun r hr=>?_
 .rw [<-hf]
  by_cases h:j>=4
  .rw [iK2 (by simpa using h),iK2 h,q1];exact .mk rfl
  .rw [iN2 (by simpa using h),iN2 h];exact .mk rfl
 subst hr;have R:lL s SK j=nF s (eZ j) (dU SK s.Measures.length (iC s 2)) (dU SK s.Measures.length (f:Int)):=by unfold lL;rw[hf]
 have p:∀x∈lL s SK j,0<=x/\x<(s.Measures.length:Int):=by
  intro x y;rw[R]at y;rcases Gu y with y|⟨h8,y⟩
  .have:=pE y;omega
  .have E:(gm s u).Jump=3\/(gm s u).Jump=6:=by
    rw[D];unfold eZ at h8;split at h8
    .cases h8
    .split at h8
     .rename_i h;exact h
     .cases h8
   obtain⟨t,c,L,M,N,U⟩:=(w u o).c E;have W:=q4.det M;have:=pE y;omega
 refine Ob (P:=fun r=>∃e l',(r=.inr (.inl (e,l'))\/r=.inr (.inr (e,l')))/\St (ms++lL s SK j) e l') (bS (fun(q:Int×aA (Int×Int)×aA aZ)=>∃(i:Nat) (k:aA Int),q.1=(i:Int)/\i<=s.Measures.length/\St k q.2.1 q.2.2/\k.length<=ms.length+i/\k++nF s (eZ j) (dU SK s.Measures.length (iC s 2)) (dU SK s.Measures.length (i:Int))=ms++lL s SK j) (fun q=>s.Measures.length-q.1.toNat) (fun q hq=>?_) bA ((f:Int),mp,l) ⟨f,ms,rfl,F,Y,by omega,by rw[R]⟩ (by simp only[bA];omega)) fun r hr=>?_
 .obtain ⟨ii,a0,l1⟩:=q
  obtain⟨i,k,O,g2,z,g4,g⟩:=hq;dsimp only at O z g ⊢;subst O;by_cases hi:i<s.Measures.length
  .rw [iK2 (by simp;omega)]
   rw[Jw hi]at g;cases hsk:fS SK (i:Int) false with
   |true=>
    rw[hsk,iK2 rfl]at g;rw[iK2 rfl,eK (by omega)];exact .mk ⟨⟨i+1,k,rfl,hi,z,by omega,g⟩,by dsimp only;omega⟩
   |false=>
    rw[hsk,iN2 (by decide)]at g;rw[iN2 (by decide),z.play (by omega)];simp only[iF2];rw[dT hi];simp only[iF2];have v:=z.next (i:Int) (by omega);have H:=(w u o).j;rw[D]at H;rw[nF,show((i:Int)).toNat=i from Int.toNat_natCast i]at g;by_cases c1:((cS .i64 (gm s i).Labels 4 !=0)&&(j==2||j==5))=true
    .rw [iK2 c1]
     have c2:eZ j=4:=by
      unfold eZ;simp only[iG2,iU2,kB2]at c1;rw[iK2 c1.2]
     have c3:mZ s i 4=true:=by
      simp only[iG2]at c1;exact c1.1
     rw[c2,iK2 ⟨by decide,c3⟩,iN2 (by decide)]at g;exact .mk ⟨_,_,.inl rfl,by rw[<-g];exact v⟩
    .rw [iN2 c1]
     by_cases c4:((cS .i64 (gm s i).Labels 8 !=0)&&(j==3||j==6))=true
     .rw [iK2 c4,q3]
      simp only[iF2];simp only[iG2,iU2,kB2]at c4
      have c2:eZ j=8:=by
       unfold eZ;rw[iN2 (by omega),iK2 c4.2]
      have c3:mZ s i 8=true:=c4.1;rw[c2,iK2 ⟨by decide,c3⟩,iK2 rfl]at g;obtain⟨t,c,L,M,N,U⟩:=(w u o).c (by rw[D];exact c4.2);have W:=q4.det M;have et:=iO1 w L hi c3 N;obtain⟨cn,A⟩:∃cn:Nat,iC s 2=(cn:Int):=⟨(iC s 2).toNat,by omega⟩
      rw[A,show bD ((cn:Int)-1)=(cn:Int)-1 from Mg (by omega),bM (n:=(cn:Int)-1+1) (by omega) (by omega),show(cn:Int)-1+1=(cn:Int)by omega];refine .mk ⟨⟨cn,k++[(i:Int)],rfl,by omega,v,by rw[iS2];simp;omega,?_⟩,by dsimp only;omega⟩;rw[c2,Ba (l:=dU SK s.Measures.length (cn:Int))]
      .rw [A]at g
       rw[List.append_assoc];exact g
      .intro m Z
       have:=pE Z;exact no8 w L N (c:=c) U m.toNat (by omega) (by omega)
     .rw [iN2 c4]
      simp only[iF2];rw[eK (by omega)]
      have c5:¬(eZ j≠0/\mZ s i (eZ j)=true):=by
       rintro⟨h1,h2⟩;unfold eZ at h1 h2;by_cases J:j=2\/j=5
       .rw [iK2 J]at h2
        exact c1 (by simp only[iG2,iU2,kB2];exact⟨h2,J⟩)
       .rw [iN2 J]at h1 h2
        by_cases K:j=3\/j=6
        .rw [iK2 K]at h2
         exact c4 (by simp only[iG2,iU2,kB2];exact⟨h2,K⟩)
        .rw [iN2 K]at h1
         exact h1 rfl
      rw[iN2 c5]at g;refine .mk ⟨⟨i+1,k++[(i:Int)],rfl,hi,v,by rw[iS2];simp;omega,?_⟩,by dsimp only;omega⟩;rw[List.append_assoc];exact g
  .rw [iN2 (by simp;omega)]
   have:i=s.Measures.length:=by omega
   subst this
   have V:dU SK s.Measures.length (s.Measures.length:Int)=[]:=by
    unfold dU;rw[mX (by omega)];rfl
   rw[V,nF,kX2]at g;exact .mk ⟨_,_,.inr rfl,by rw[<-g];exact z⟩
 .obtain ⟨e,l',hr|hr,h2⟩:=hr<;>rw[hr]<;>exact .mk ⟨e,l',rfl,h2,p⟩
end Go.P
namespace Go.P
variable {s:Y0}
abbrev PS:=aA (Int×Int)×aA aZ
def iB (s:Y0) (SK:aA (Int×Bool)) (T:aA Int×Bool) (B:Nat) (R:aA (Int×Bool)) (q:PS):Prop:=
 ∃ms,St ms q.1 q.2/\vE (Jp s) (lL s SK) ms R=T/\ms.length+R.length<=B/\∀x∈ms,0<=x/\x<(s.Measures.length:Int)
def Hz (s:Y0) (T:aA Int×Bool) (q:PS):Prop:=∃ms,St ms q.1 q.2/\T=(ms,true)/\∀x∈ms,0<=x/\x<(s.Measures.length:Int)
def Exi (s:Y0) (SK:aA (Int×Bool)) (T:aA Int×Bool) (B:Nat) (R:aA (Int×Bool)) (r:PS⊕(PS⊕PS)):Prop:=match r with
 |.inl _=>False
 |.inr (.inl q)=>Hz s T q
 |.inr (.inr q)=>iB s SK T B R q
structure Ctx (s:Y0) (G:List aH):Prop where
 n:s.Measures.length<=20
 g:∀x∈G,GG s.Measures.length x
 l:G.length<=s.Measures.length
 j:∀i,i<s.Measures.length->Jm s i
variable {G:List aH} {T:List Int×Bool} {B:Nat}
theorem iP1 (c:Ctx s G) {m:Nat} (f:m<s.Measures.length) {b:Bool} {R:aA (Int×Bool)} {mp:aA (Int×Int)} {l:aA aZ} (t:B<=7900) (i:iB s (fI [] (eC G)) T B (((m:Int),b)::R) (mp,l)) (u:Int) (v:aA aZ):
  Ok (sK (m:Int) b G s mp l u v) (fun r=>match r with|.inl _=>False|.inr (.inl q)=>Hz s T q|.inr (.inr l')=>iB s (fI [] (eC G)) T B R (jC mp (m:Int) (bD (fS mp (m:Int) 0+1)),l')):=by
 obtain⟨ms,h1,h2,h3,h4⟩:=i;dsimp only at h1;rw[jQ2]at h3;unfold sK;rw[h1.play (by omega)];simp only[iF2];rw[dT f];simp only[iF2];have h:=h1.next (m:Int) (by omega)
 have hr:∀x∈ms++[(m:Int)],0<=x/\x<(s.Measures.length:Int):=fun x a=>by
  rcases kG2.1 a with a|a
  .exact h4 x a
  .rw [List.mem_singleton]at a;omega
 have d:Jp s (m:Int)=(gm s m).Jump:=by unfold Jp;rw[Int.toNat_natCast]
 rw[vE,d]at h2;by_cases hc:(gm s m).Jump≠0/\b=true
 .rw [iK2 hc]at h2
  rw[iK2 (by simp[hc.1,hc.2])];unfold F25;simp only[iF2];refine Ob (cV1 c.n c.g c.l c.j f rfl h (by rw[iS2];simp;omega) u v) fun r e=>?_;obtain⟨p,l',rfl,k,o⟩:=e
  exact .mk ⟨_,k,h2.symm,fun x a=>by
   rcases kG2.1 a with a|a
   .exact hr x a
   .exact o x a⟩
 .rw [iN2 hc]at h2
  rw[iN2 (by simpa using hc)];exact .mk ⟨_,h,h2,by rw[iS2];simp;omega,hr⟩
theorem cX1 (c:Ctx s G) {f e:Nat} (he:e<=s.Measures.length) {b:Bool} {R:aA (Int×Bool)} {mp:aA (Int×Int)} {l:aA aZ} (i:B<=7900) (j:iB s (fI [] (eC G)) T B ((qP ((f:Nat):Int) ((e:Nat):Int)).map (fun m=>(m,b))++R) (mp,l)) (u:Int) (v:aA aZ)
  {body:Int×PS->aB ((Int×PS)⊕(PS⊕(PS⊕PS)))}
  (h1:∀(m:Nat) (mp:aA (Int×Int)) (l:aA aZ),m<e->body ((m:Int),mp,l)=(sK (m:Int) b G s mp l u v).bind fun r=>match r with|.inl q=>some (.inr (.inl q))|.inr (.inl q)=>some (.inr (.inr (.inl q)))|.inr (.inr l')=>some (.inl (((m+1:Nat):Int),jC mp (m:Int) (bD (fS mp (m:Int) 0+1)),l')))
  (h2:∀(m:Nat) (q:PS),¬m<e->body ((m:Int),q)=some (.inr (.inr (.inr q)))) (hf:f<=1000):
  Ok (aS body bA ((f:Int),mp,l)) (fun r=>Exi s (fI [] (eC G)) T B R r):=by
 refine bS (fun(q:Int×PS)=>∃m:Nat,q.1=(m:Int)/\iB s (fI [] (eC G)) T B ((qP ((m:Nat):Int) ((e:Nat):Int)).map (fun m=>(m,b))++R) q.2) (fun q=>e-q.1.toNat) (fun q k=>?_) bA _ ⟨f,rfl,j⟩ (by have:=c.n;simp only[bA];omega);obtain⟨o,a,h⟩:=q;obtain⟨m,d,g2⟩:=k;dsimp only at d g2;subst d;by_cases g:m<e;rw[h1 m a h g];rw[kL (by omega)]at g2;refine Ob (iP1 c (by omega) i g2 u v) fun r hr=>?_;rcases r with q|q|l';exact hr.elim;exact .mk hr;exact .mk ⟨⟨m+1,rfl,hr⟩,by dsimp only;omega⟩;rw[h2 m (a,h) g];rw[mX (by omega)]at g2;exact .mk g2
theorem uC {A B:Type} {l:aA A} {f:A->aA B} {i:Nat} {x:A} (h:l[i]? =some x):(l.drop i).flatMap f=f x++(l.drop (i+1)).flatMap f:=by
 rw[pP h,kL2]
theorem Vv {n:Nat} {g:aH} (u:n<=20) (hg:GG n g) (p:Nat):Ok (aS (E:=aA aW) (fun(q:Int×aA aW)=>if decide (q.1<(g.endings.length:Int))=true then(aU g.endings q.1).bind fun e=>(nD .i64 e.bits (p:Int)).bind fun h=>((if(cS .i64 h 1==1)=true then(fO false q.2 [e.span]).bind fun i=>some i else some q.2:aB (aA aW))).bind fun k=>some (.inl ((bD (q.1+1)),k))else some (.inr q.2)) bA (0,[g.body])) (fun r=>r=gH g (p:Int)):=by
 have hl:=hg.l;refine bJ (l:=g.endings) (fun(q:Int×aA aW)=>q.1) (fun j q=>q.2.length<=1+j/\q.2++(((g.endings.drop j).filter fun x=>Js x.bits (p:Int)).map (·.span))=gH g (p:Int)) (by omega) rfl ⟨by simp,rfl⟩ (fun j y q hy s f d b c a=>?_) (fun q f b=>?_);obtain⟨t,o⟩:=q;obtain⟨h1,h2⟩:=b;have m:=(iI2.1 hy).1;dsimp only at f d h1 h2 c a ⊢;rw[iK2 (by simpa using d),c];simp only[iF2];rw[Jt];simp only[iF2];rw[pP hy,List.filter_cons]at h2;by_cases hb:Js y.bits (p:Int)=true;rw[iK2 hb]at h2;rw[iK2 (show(cS .i64 (y.bits.fdiv (2^min ((p:Int)).toNat 64)) 1==1)=true from hb),fU (by omega)];simp only[iF2];refine .mk ⟨a,by dsimp only;rw[iS2];simp;omega,?_⟩;dsimp only;rw[<-h2];simp;rw[iN2 hb]at h2;rw[iN2 (show ¬(cS .i64 (y.bits.fdiv (2^min ((p:Int)).toNat 64)) 1==1)=true from hb)];simp only[iF2];exact .mk ⟨a,by dsimp only;omega,h2⟩;obtain⟨t,o⟩:=q;dsimp only at f b ⊢;rw[f,iN2 (by simp)];rw[List.drop_length]at b;exact .mk (by simpa using b.2)
theorem cY1 (c:Ctx s G) {g:aH} (hg:GG s.Measures.length g) {R:aA (Int×Bool)} {mp:aA (Int×Int)} {l:aA aZ} (z:B<=7900) (A:iB s (fI [] (eC G)) T B (oQ g++R) (mp,l)) (u:Int) (v:aA aZ):
  Ok (cD1 g G s mp l u v) (fun r=>Exi s (fI [] (eC G)) T B R r):=by
 unfold cD1;obtain⟨b,a⟩:∃b:Nat,g.passes=(b:Int):=⟨g.passes.toNat,by have:=hg.p;omega⟩
 have t:b<=8:=by have:=hg.p;omega
 have F:=c.n;refine Ob (P:=fun r=>Exi s (fI [] (eC G)) T B R r) (bS (fun(q:Int×PS)=>∃p:Nat,q.1=(p:Int)/\iB s (fI [] (eC G)) T B ((qP (p:Int) g.passes).flatMap (oP g)++R) q.2) (fun q=>b-q.1.toNat) (fun q h=>?_) bA (0,mp,l) ⟨0,rfl,A⟩ (by simp only[bA];omega)) fun r hr=>?_;obtain⟨N,j,H⟩:=q;obtain⟨p,o,g2⟩:=h;dsimp only at o g2 ⊢;subst o;by_cases hp:p<b;rw[iK2 (by rw[a];simp;omega)];rw[a,kL (by omega),kL2,List.append_assoc]at g2;refine Ob (Vv F hg p) fun P C=>?_;subst C
 have D:(gH g (p:Int)).length<=21:=by
  unfold gH;rw[jQ2,jR2];have:=List.length_filter_le (fun x:aV=>Js x.bits (p:Int)) g.endings;have:=hg.l;omega
 refine Ob (P:=fun r=>Exi s (fI [] (eC G)) T B ((qP ((p+1:Nat):Int) (b:Int)).flatMap (oP g)++R) r) (bS (fun(q:Int×PS)=>∃i:Nat,q.1=(i:Int)/\i<=(gH g (p:Int)).length/\iB s (fI [] (eC G)) T B (((gH g (p:Int)).drop i).flatMap (oO ((p:Int)==g.passes-1))++((qP ((p+1:Nat):Int) (b:Int)).flatMap (oP g)++R)) q.2) (fun q=>(gH g (p:Int)).length-q.1.toNat) (fun q h=>?_) bA (0,j,H) ⟨0,rfl,jB2 _,g2⟩ (by simp only[bA];omega)) fun r hr=>?_;obtain⟨L,J,M⟩:=q;obtain⟨i,k,K,f3⟩:=h;dsimp only at k f3 ⊢;subst k;by_cases hi:i<(gH g (p:Int)).length;rw[iK2 (by simp;omega)];have w:(gH g (p:Int))[i]? =some (gH g (p:Int))[i]:=iW2 hi;rw[show fN (gH g (p:Int)) (i:Int)=some i by unfold fN rK;rw[iK2 ⟨by omega,by omega⟩,Int.toNat_natCast],iF2,show gJ (gH g (p:Int)) i=some (gH g (p:Int))[i]from w,iF2];rw[uC w,List.append_assoc]at f3;obtain⟨f,e,d,h1,h2⟩:=hg.parts (kK2 hi);rw[d]at f3 ⊢;dsimp only;refine Ob (cX1 c h2 z f3 u v (fun m mp l E=>?_) (fun m q E=>?_) (by omega)) fun r hr=>?_;dsimp only;rw[iK2 (by simp;omega),show bD (g.passes-1)=g.passes-1 from bM (by omega) (by omega),eK (by omega)];refine congrArg (Option.bind _) (funext fun r=>?_);rcases r with⟨x,y⟩|⟨x,y⟩|x<;>rfl
 grind
 rcases r with q|q|q;exact hr.elim;exact .mk hr;rw[eK (by omega)];exact .mk ⟨⟨i+1,rfl,hi,hr⟩,by dsimp only;omega⟩;rw[iN2 (by simp;omega)];rw[List.drop_eq_nil_iff.2 (by omega)]at f3;exact .mk f3;rcases r with q|q|q;exact hr.elim;exact .mk hr;rw[eK (by omega)];refine .mk ⟨⟨p+1,rfl,?_⟩,by dsimp only;omega⟩;rw[a];exact hr;rw[iN2 (by rw[a];simp;omega)];rw[a,mX (by omega)]at g2;exact .mk g2;rcases r with q|q|q;exact hr.elim;exact .mk hr;exact .mk hr
theorem cZ1 (c:Ctx s G) (d:F23 s=some G) {mp:aA (Int×Int)} {l:aA aZ} (f:B<=7900) (h:iB s (fI [] (eC G)) T B (gY G) (mp,l)) (u:Int) (v:aA aZ):
  Ok (cE1 s mp l u v) (fun r=>∃q:PS,r=.inr q/\∃ms,St ms q.1 q.2/\T.1=ms/\∀x∈ms,0<=x/\x<(s.Measures.length:Int)):=by
 unfold cE1;rw[d];simp only[iF2];have p:=c.n;have hl:=c.l;refine Ob (P:=fun r=>Exi s (fI [] (eC G)) T B [] r) (bJ (l:=G) (fun(q:Int×PS)=>q.1) (fun i q=>iB s (fI [] (eC G)) T B ((G.drop i).flatMap oQ) q.2) (by omega) rfl h (fun i x q k j hi b a hg hw=>?_) (fun q hi a=>?_)) fun r hr=>?_;obtain⟨m,e,o⟩:=q;dsimp only at hi b a hg hw ⊢;rw[iK2 (by simpa using b),hg];simp only[iF2,gT1];rw[uC k]at a;refine Ob (cY1 c (c.g x j) f a u v) fun r hr=>?_;rcases r with q|q|q;exact hr.elim;exact .mk hr;exact .mk ⟨hw,hr⟩;obtain⟨m,e,o⟩:=q;dsimp only at hi a ⊢;rw[hi,iN2 (by simp)];rw[List.drop_length]at a;exact .mk a;rcases r with q|q|q;exact hr.elim;obtain⟨ms,h1,h2,h3⟩:=hr;exact .mk ⟨q,rfl,ms,h1,by rw[h2],h3⟩;obtain⟨ms,h1,h2,h3,h4⟩:=hr;exact .mk ⟨q,rfl,ms,h1,by rw[<-h2];rfl,h4⟩
end Go.P
namespace Go.P
variable {s:Y0} {G:List aH}
def Gv (x:Int×Bool):aK:=⟨x.1,x.2⟩
theorem Mk {A:Type} {body:Int×aA A->aB ((Int×aA A)⊕aA A)} {a b:Nat} (f:Int->A) {o:aA A} (h:a<=1000) (hb:b<=1000) (i:o.length<=10000)
  (h1:∀(k:Nat) (st:aA A),k<b->st.length<1000000->body ((k:Int),st)=some (.inl (((k+1:Nat):Int),st++[f (k:Int)]))) (h2:∀(k:Nat) (st:aA A),¬k<b->body ((k:Int),st)=some (.inr st)):
  aS body bA ((a:Int),o)=some (o++(qP ((a:Nat):Int) ((b:Nat):Int)).map f):=by
 refine Ok.eq (bS (fun(q:Int×aA A)=>∃k:Nat,q.1=(k:Int)/\q.2.length+a<=o.length+k/\q.2++(qP ((k:Nat):Int) ((b:Nat):Int)).map f=o++(qP ((a:Nat):Int) ((b:Nat):Int)).map f/\(k<=a\/k<=b)) (fun q=>b-q.1.toNat) (fun q e=>?_) bA _ ⟨a,rfl,iJ2 _,rfl,.inl (iJ2 _)⟩ (by simp only[bA];omega));obtain⟨j,st⟩:=q;obtain⟨k,d,g2,c,g⟩:=e;dsimp only at d g2 c;subst d;by_cases hk:k<b;rw[h1 k st hk (by omega)];rw[kL (by omega),kJ2]at c;exact .mk ⟨⟨k+1,rfl,by dsimp only;rw[iS2];simp;omega,by dsimp only;rw[<-c];simp,.inr hk⟩,by dsimp only;omega⟩;rw[h2 k st hk];rw[mX (by omega)]at c;exact .mk (by rw[<-c];simp)
theorem iQ1 (c:Ctx s G) (R:F43 s=some (G.map cG)):F19 s=some ((gY G).map Gv):=by
 have hn:=c.n;have hl:=c.l;have hT:=qN c.g c.l c.n;refine Ok.eq ?_;unfold F19;rw[R];simp only[iF2];refine Ob (P:=fun r=>r=(gY G).map Gv) (bJ (l:=G.map cG) (fun(q:Int×aA aK)=>q.1) (fun i q=>q.2++(((G.drop i).flatMap oQ).map Gv)=(gY G).map Gv) (by rw[jR2];omega) rfl rfl (fun i x q Y hm hi L u hg hw=>?_) (fun q hi u=>?_)) fun r hr=>.mk hr;obtain⟨ii,o⟩:=q;dsimp only at hi L u hg hw ⊢;obtain⟨g,Z,rfl⟩:∃z,G[i]? =some z/\cG z=x:=by rw[jI2]at Y;exact iH2.1 Y
 have d:=c.g g (iQ2 Z);have b6:=d.l;obtain⟨H,t⟩:∃H:Nat,g.passes=(H:Int):=⟨g.passes.toNat,by have:=d.p;omega⟩
 have X:H<=8:=by have:=d.p;omega
 rw[iK2 (by simpa using L),hg];simp only[iF2];rw[uC Z,lD2]at u;have hlen:=congrArg List.length u;simp only[iS2,jR2]at hlen;refine Ob (P:=fun r=>r=o++(oQ g).map Gv) (bS (fun(q:Int×aA aK)=>∃p:Nat,q.1=(p:Int)/\q.2++(((qP (p:Int) g.passes).flatMap (oP g)).map Gv)=o++(oQ g).map Gv) (fun q=>H-q.1.toNat) (fun q S=>?_) bA (0,o) ⟨0,rfl,rfl⟩ (by simp only[bA];omega)) fun r hr=>?_;obtain⟨pp,T⟩:=q;obtain⟨p,U,g2⟩:=S;dsimp only at U g2 ⊢;subst U;have w:(cG g).times=(H:Int):=t;by_cases hp:p<H;rw[iK2 (by rw[w];simp;omega)];rw[t,kL (by omega),kL2,lD2]at g2;have B:=congrArg List.length g2;simp only[iS2,jR2]at B;have M:bD ((cG g).times-1)=g.passes-1:=by rw[w,t];exact bM (by omega) (by omega)
 obtain⟨f,e,A,h1,h2⟩:=d.b;rw[show(cG g).body.from'=(f:Int)by simp[cG,A],show(cG g).body.to=(e:Int)by simp[cG,A],M]
 rw[Mk (b:=e) (fun m=>Gv (m,(p:Int)==g.passes-1)) (by omega) (by omega) (by omega) (fun k st hk C=>by
  rw[iK2 (by simp;omega),fU C,iF2,eK (by omega)];rfl) (fun k st hk=>by rw[iN2 (by simp;omega)])]
 simp only[iF2];have b9:=Az d (p:Int);have b5:((qP ((f:Nat):Int) ((e:Nat):Int)).map fun m=>Gv (m,(p:Int)==g.passes-1)).length<=20:=by rw[jR2,mY];omega
 refine Ob (P:=fun r=>r=T++((oP g (p:Int)).map Gv)) (bJ (l:=(cG g).endings) (fun(q:Int×aA aK)=>q.1) (fun j q=>q.2.length<=T.length+20+j*20/\q.2++(((((g.endings.drop j).filter fun x=>Js x.bits (p:Int)).map (·.span)).flatMap (oO ((p:Int)==g.passes-1))).map Gv)=T++((oP g (p:Int)).map Gv)) (by simp[cG];omega) rfl ⟨by dsimp only;rw[iS2];omega,?_⟩ (fun j y q hy b8 N K F J D=>?_) (fun q N F=>?_)) fun r hr=>?_;dsimp only;unfold oP gH;rw[kL2,lD2,List.append_assoc];congr 1;congr 1;rw[A];simp only[oO,List.map_map];rfl;obtain⟨jj,O⟩:=q;dsimp only at N K F J D ⊢
 obtain⟨z,E,rfl⟩:∃z,g.endings[j]? =some z/\cE z=y:=by
  rw[show(cG g).endings=g.endings.map cE from rfl,jI2]at hy;exact iH2.1 hy
 have b7:=(iI2.1 E).1;have W:j*20<=400:=by omega
 obtain⟨a0,h⟩:=F;rw[iK2 (by simpa using K),J];simp only[iF2];obtain⟨⟨a,b,v,b0,b4⟩,_⟩:=d.e z (iQ2 E);rw[pP E,List.filter_cons]at h;rw[show(cE z).from'=(a:Int)by simp[cE,v],show(cE z).to=(b:Int)by simp[cE,v],show(cE z).bits=z.bits from rfl];by_cases hb:Js z.bits (p:Int)=true;rw[iK2 hb,kJ2,kL2,lD2,v]at h
 rw[Mk (b:=b) (fun m=>Gv (m,(p:Int)==g.passes-1)) (by omega) (by omega) (by omega) (fun k st hk C=>by
  rw[iK2 (by simp;omega),Jt];simp only[iF2];rw[iK2 (show(cS .i64 (z.bits.fdiv (2^min ((p:Int)).toNat 64)) 1==1)=true from hb),fU C,iF2,eK (by omega)];rfl) (fun k st hk=>by rw[iN2 (by simp;omega)];rfl)]
 refine .mk ⟨D,by dsimp only;rw[iS2,jR2,mY];omega,?_⟩;dsimp only;rw[<-h,List.append_assoc];congr 1;simp only[oO,List.map_map];rfl;rw[iN2 hb]at h;refine Ob (P:=fun r=>r=O) (bS (Q:=fun r=>r=O) (fun(q:Int×aA aK)=>q=((a:Int),O)) (fun _=>0) (fun q S=>?_) bA _ rfl (by decide)) fun r hr=>?_;subst S;dsimp only;by_cases V:a<b;rw[iK2 (by simp;omega),Jt];simp only[iF2];rw[iN2 (show ¬(cS .i64 (z.bits.fdiv (2^min ((p:Int)).toNat 64)) 1==1)=true from hb)];exact .mk rfl;rw[iN2 (by simp;omega)];exact .mk rfl;subst hr;exact .mk ⟨D,by dsimp only;omega,h⟩;obtain⟨jj,O⟩:=q;dsimp only at N F ⊢;rw[N,iN2 (by simp)];rw[show(cG g).endings.length=g.endings.length by simp[cG],List.drop_length]at F;exact .mk (by simpa using F.2);subst hr;rw[eK (by omega)];refine .mk ⟨⟨p+1,rfl,?_⟩,by dsimp only;omega⟩;dsimp only;rw[<-g2,t];simp;rw[iN2 (by rw[w];simp;omega)];rw[t,mX (by omega)]at g2;exact .mk (by simpa using g2);subst hr;refine .mk ⟨hw,?_⟩;dsimp only;rw[<-u];simp;obtain⟨ii,o⟩:=q;dsimp only at hi u ⊢;rw[hi,iN2 (by simp)];rw[jR2,List.drop_length]at u;exact .mk (by simpa using u)
theorem qS1 {i:Nat} (d:Jm s i) {b:Int} (hb:b=1\/b=2\/b=4\/b=8):∃q,sD .i64 (gm s i).Labels b=some q/\((qJ .i64 q 2=some 0/\mZ s i b=false)\/(qJ .i64 q 2=some 1/\mZ s i b=true)):=by
 have f:=d.l;obtain⟨a,e⟩:∃a:Nat,(gm s i).Labels=(a:Int):=⟨(gm s i).Labels.toNat,by omega⟩
 obtain⟨k,hk,c⟩:∃k:Nat,b=((2^k:Nat):Int)/\k<4:=by
  rcases hb with rfl|rfl|rfl|rfl;exact⟨0,rfl,by decide⟩;exact⟨1,rfl,by decide⟩;exact⟨2,rfl,by decide⟩;exact⟨3,rfl,by decide⟩
 obtain⟨q,h1,h2,h3⟩:=cT1 ⟨a,by omega⟩ ⟨k,c⟩;dsimp only at h1 h3;unfold mZ;rw[e,hk];refine⟨q,h1,?_⟩;rcases h2 with h2|h2
 grind
 grind
theorem Vw (c:Ctx s G) {b:Int} (hb:b=1\/b=2) (h0:0<=iC s b):F20 s b=some (iC s b):=by
 have d:=c.n;have a:=(pD (s:=s) (by omega) b).2;refine Ok.eq ?_;unfold F20;refine Ob (Jr (s:=s) (p:=fun i=>mZ s i b) (by omega) (fun i hi=>?_) ?_) fun r hr=>?_;rw[iK2 (by simp;omega),dT hi];simp only[iF2];obtain⟨q,h1,h2⟩:=qS1 (c.j i hi) (b:=b) (by omega);rw[h1];simp only[iF2];rw[eK (by omega)];rcases h2 with⟨h2,h3⟩|⟨h2,h3⟩<;>rw[h2,h3]<;>rfl
 grind
 rcases r with x|_;obtain⟨i,rfl,h⟩:=hr;exact .mk (Jq.det (.inr ⟨i,rfl,h⟩) a);have:=Jq.det (.inl ⟨rfl,hr⟩) a;omega
theorem dA1 {A:Type} {l m:aA A} (h:l.length+m.length<1000000):fO false l m=some (l++m):=by
 have e:Sim.maxRoom=1073741824:=rfl;unfold fO;rw[iK2 ⟨by rw[e];omega,fun h=>by cases h⟩]
theorem iR1 (c:Ctx s G) (v:F43 s=some (G.map cG)):F11 s=some (vE (Jp s) (lL s (fI [] (eC G))) [] (gY G)).1:=by
 have hn:=c.n;have hT:=qN c.g c.l c.n;refine Ok.eq ?_;unfold F11;rw[iQ1 c v];simp only[iF2];generalize hSK:fI [] (eC G)=SK;refine Ob (P:=fun r=>r=(vE (Jp s) (lL s SK) [] (gY G)).1) (bJ (l:=(gY G).map Gv) (fun(q:Int×aA Int)=>q.1) (fun i q=>q.2.length<=i/\(vE (Jp s) (lL s SK) q.2 ((gY G).drop i)).1=(vE (Jp s) (lL s SK) [] (gY G)).1) (by rw[jR2];omega) rfl ⟨iJ2 _,rfl⟩ (fun i x q hx hm hi J A hg hw=>?_) (fun q hi A=>?_)) fun r hr=>.mk hr;obtain⟨ii,o⟩:=q;dsimp only at hi J A hg hw ⊢;obtain⟨⟨ym,V⟩,hz,rfl⟩:∃z,(gY G)[i]? =some z/\Gv z=x:=by rw[jI2]at hx;exact iH2.1 hx
 have b8:=(iI2.1 hz).1;obtain⟨b5,e⟩:=A;have Z:=Ju c.g (iQ2 hz);dsimp only at Z;obtain⟨m,rfl⟩:∃m:Nat,ym=(m:Int):=⟨ym.toNat,by omega⟩
 have K:m<s.Measures.length:=by omega
 rw[iK2 (by simpa using J),hg];simp only[iF2];rw[show(Gv ((m:Int),V)).measure=(m:Int)from rfl,show(Gv ((m:Int),V)).last=V from rfl,fU (by omega)];simp only[iF2];rw[dT K];simp only[iF2];rw[pP hz,vE,show Jp s (m:Int)=(gm s m).Jump by unfold Jp;rw[Int.toNat_natCast]]at e;by_cases hc:(gm s m).Jump≠0/\V=true;rw[iK2 hc]at e;rw[iN2 (by simp[hc.1,hc.2])];have w:=c.j m K;obtain⟨q1,q2⟩:=pD (s:=s) (by omega) 1;obtain⟨q3,q4⟩:=pD (s:=s) (by omega) 2
 have u:(gm s m).Jump>=4->0<=iC s 1:=fun h=>by
  obtain⟨r,hr,h0⟩:=w.d h;rw[q2.det hr];exact h0
 have L:∀{b:Int},Jq s b (iC s b)->iC s b<(s.Measures.length:Int):=fun h=>by
  rcases h with⟨h,_⟩|⟨i,h,h1,_⟩<;>rw[h]<;>omega
 have a0:=L q2;have b0:=L q4
 obtain⟨f,hf,X⟩:∃f:Nat,(if(gm s m).Jump>=4 then iC s 1 else 0)=(f:Int)/\f<=s.Measures.length:=by
  by_cases h:(gm s m).Jump>=4;rw[iK2 h];have:=u h;exact⟨(iC s 1).toNat,by omega,by omega⟩
  grind
 refine Ob (P:=fun r=>r=(f:Int)) ?_ fun r hr=>?_;rw[<-hf];by_cases h:(gm s m).Jump>=4;rw[iK2 (by simpa using h),iK2 h,Vw c (.inl rfl) (u h)];exact .mk rfl;rw[iN2 (by simpa using h),iN2 h];exact .mk rfl;subst hr;have b9:=w.j;refine Ob (P:=fun r=>r=decide ((gm s m).Jump=2\/(gm s m).Jump=5)) (Oi (fun h=>?_) (fun h=>?_)) fun d3 N=>?_;refine .mk ?_;have h:=eq_of_beq h;rw[h];rfl;refine .mk ?_;have h:¬(gm s m).Jump=2:=fun h2=>h (by rw[h2];rfl);rw[show decide ((gm s m).Jump=2\/(gm s m).Jump=5)=decide ((gm s m).Jump=5)by simp[h]];rfl;subst N;refine Ob (P:=fun r=>r=eZ (gm s m).Jump) ?_ fun d5 R=>?_;unfold eZ;refine Oi (fun h=>?_) (fun h=>?_);rw[iK2 (c:=(gm s m).Jump=2\/(gm s m).Jump=5) (by simpa using h)];exact .mk rfl;rw[iN2 (c:=(gm s m).Jump=2\/(gm s m).Jump=5) (by simpa using h)];refine Ob (P:=fun r=>r=decide ((gm s m).Jump=3\/(gm s m).Jump=6)) (Oi (fun h=>?_) (fun h=>?_)) fun d4 O=>?_;refine .mk ?_;have h:=eq_of_beq h;rw[h];rfl;refine .mk ?_;have h:¬(gm s m).Jump=3:=fun h2=>h (by rw[h2];rfl);rw[show decide ((gm s m).Jump=3\/(gm s m).Jump=6)=decide ((gm s m).Jump=6)by simp[h]];rfl;subst O;refine Ob (P:=fun r=>r=if(gm s m).Jump=3\/(gm s m).Jump=6 then 8 else 0) (Oi (fun h=>?_) (fun h=>?_)) fun _ h=>.mk h;rw[iK2 (c:=(gm s m).Jump=3\/(gm s m).Jump=6) (by simpa using h)];exact .mk rfl;rw[iN2 (c:=(gm s m).Jump=3\/(gm s m).Jump=6) (by simpa using h)];exact .mk rfl;subst R;have F:=Vu (by omega) c.g c.l v f X;rw[hSK]at F;rw[F];simp only[iF2];have d1:=Bb SK s.Measures.length f
 have b4:eZ (gm s m).Jump=0\/eZ (gm s m).Jump=4\/eZ (gm s m).Jump=8:=by
  unfold eZ;split;omega;omega
 have C:lL s SK (gm s m).Jump=nF s (eZ (gm s m).Jump) (dU SK s.Measures.length (iC s 2)) (dU SK s.Measures.length (f:Int)):=by unfold lL;rw[hf]
 refine Ob (P:=fun r=>r=o++[(m:Int)]++lL s SK (gm s m).Jump) (bJ (l:=dU SK s.Measures.length (f:Int)) (fun(q:Int×aA Int)=>q.1) (fun k q=>q.2.length<=o.length+1+k/\q.2++nF s (eZ (gm s m).Jump) (dU SK s.Measures.length (iC s 2)) ((dU SK s.Measures.length (f:Int)).drop k)=o++[(m:Int)]++lL s SK (gm s m).Jump) (by omega) rfl ⟨by dsimp only;rw[iS2];simp,by rw[C];rfl⟩ (fun k x q S Y hk hkl B H M=>?_) (fun q hk B=>?_)) fun r hr=>?_;obtain⟨kk,o2⟩:=q;dsimp only at hk hkl B H M ⊢;obtain⟨b6,a⟩:=B;have d0:=(iI2.1 S).1;have d2:=pE Y;obtain⟨y,rfl⟩:∃y:Nat,x=(y:Int):=⟨x.toNat,by omega⟩
 have T:y<s.Measures.length:=by omega
 rw[iK2 (by simpa using hkl),H];simp only[iF2];rw[fU (by omega)];simp only[iF2];rw[pP S,nF,Int.toNat_natCast]at a;refine Ob (P:=fun r=>(r=true↔¬(eZ (gm s m).Jump≠0/\mZ s y (eZ (gm s m).Jump)=true))) (Oi (fun h=>.mk ?_) (fun h=>?_)) fun r hr=>?_
 grind
 have h:eZ (gm s m).Jump≠0:=fun h2=>h (by rw[h2];rfl);rw[dT T];simp only[iF2];obtain⟨q,k1,U⟩:=qS1 (c.j y T) (b:=eZ (gm s m).Jump) (by omega);rw[k1];simp only[iF2];rcases U with⟨U,k3⟩|⟨U,k3⟩
 rw[U,k3];exact .mk ⟨fun _ h=>(by cases h.2),fun _=>rfl⟩;rw[U,k3];exact .mk ⟨fun h=>by simp at h,fun h2=>absurd ⟨h,rfl⟩ h2⟩;by_cases hs:eZ (gm s m).Jump≠0/\mZ s y (eZ (gm s m).Jump)=true;rw[iK2 hs]at a;rw[iN2 (fun h=>hr.1 h hs)];refine Ob (P:=fun r=>r=o++[(m:Int)]++lL s SK (gm s m).Jump) (Oi (fun p=>?_) (fun p=>?_)) fun r hr=>.mk hr;have p:=eq_of_beq p;rw[iK2 p]at a
 have W:(gm s m).Jump=3\/(gm s m).Jump=6:=by
  unfold eZ at p;split at p;cases p;omega
 obtain⟨t,cc,t1,t2,t3,t4⟩:=w.c W;have ec:=q4.det t2;obtain⟨cn,D⟩:∃cn:Nat,iC s 2=(cn:Int):=⟨(iC s 2).toNat,by omega⟩
 have E:=Vu (by omega) c.g c.l v cn (by omega);rw[hSK]at E;have b7:=Bb SK s.Measures.length cn;rw[Vw c (.inr rfl) (by omega),D];simp only[iF2];rw[E];simp only[iF2];rw[dA1 (by rw[iS2];simp;omega)];refine .mk ?_;rw[<-a,D,List.append_assoc];rfl;have p:¬eZ (gm s m).Jump=8:=fun h=>p (by rw[h];rfl);rw[iN2 p]at a;exact .mk (by rw[<-a]);rw[iN2 hs]at a;rw[iK2 (hr.2 hs)];refine .mk ⟨M,by dsimp only;rw[iS2];simp;omega,?_⟩;dsimp only;rw[<-a,List.append_assoc];rfl;obtain⟨kk,o2⟩:=q;dsimp only at hk B ⊢;rw[hk,iN2 (by simp)];rw[List.drop_length,nF,kX2]at B;exact .mk B.2;subst hr;exact .mk e;rw[iN2 hc]at e;rw[iK2 (by cases V<;>simp_all)];exact .mk ⟨hw,by dsimp only;rw[iS2];simp;omega,e⟩;obtain⟨ii,o⟩:=q;dsimp only at hi A ⊢;rw[hi,iN2 (by simp)];rw[jR2,List.drop_length]at A;exact .mk A.2
theorem iS1 (hs:s.sm) (hv:F8 s=some true):∃G,Ctx s G/\F23 s=some G/\F43 s=some (G.map cG):=by
 have m:=hs.Measures
 obtain⟨⟨g,hg⟩,f⟩:(∃g,gP s g)/\∀i,i<s.Measures.length->Jm s i:=by
  by_cases h0:0<s.Measures.length;have hr:=iF1 hs h0 hv;exact⟨Vj hs hr.r14,Vr hs hr.r15⟩;exact⟨⟨fun _=>z0,rfl,fun i hi=>by omega,fun i hi=>by omega⟩,fun i hi=>by omega⟩
 obtain⟨G,a,d⟩:=iJ1 (s:=s) (by omega) (fun i hi=>hg.E hi);obtain⟨x,c,y,rfl,j⟩:=iL1 (s:=s) (by omega) hg;have e:=d.det j;subst e;obtain⟨k,l⟩:=d.good (fun i hi=>⟨hg.E hi,(hg.b i hi).1⟩) (iJ2 _) (jB2 _) (fun x h=>by simp at h) (by simp);exact⟨G,⟨by omega,k,l,f⟩,a,c⟩
theorem Gw {J:Int->Int} {aft:Int->aA Int} {k:Nat} (h:∀j,(aft j).length<=k):∀(R:aA (Int×Bool)) (ms:aA Int),(vE J aft ms R).1.length<=ms.length+R.length+k
 |[],ms=>by simp[vE]
 |x::r,ms=>by
  rw[vE,jQ2]
  split
  grind
  have:=Gw (J:=J) h r (ms++[x.1])
  rw[iS2,List.length_singleton]at this
  omega
theorem Gx {st:Int} {cl:aA Int}:∀l:aA Int,(nF s st cl l).length<=l.length+cl.length
 |[]=>by simp[nF]
 |m::r=>by
  rw[nF,jQ2,jQ2]
  split
  grind
  have:=Gx (st:=st) (cl:=cl) r
  omega
theorem Vx (c:Ctx s G) (SK:aA (Int×Bool)) (j:Int):(lL s SK j).length<=42:=by
 have e:=c.n
 have a:∀b,-1<=iC s b:=fun b=>by
  rcases(pD (s:=s) (by omega) b).2 with⟨h,_⟩|⟨i,h,_⟩<;>rw[h]<;>omega
 have d:∀f:Int,-1<=f->(dU SK s.Measures.length f).length<=21:=fun f hf=>by
  have:=List.length_filter_le (fun k=> !(fS SK k false)) (qP f (s.Measures.length:Int));rw[mY]at this;unfold dU;omega
 have h1:=d (iC s 2) (a 2);have h2:=d (if j>=4 then iC s 1 else 0) (by split;exact a 1;omega);have h3:=Gx (s:=s) (st:=eZ j) (cl:=dU SK s.Measures.length (iC s 2)) (dU SK s.Measures.length (if j>=4 then iC s 1 else 0));unfold lL;omega
theorem qT1 (hs:s.sm) (hv:F8 s=some true):∃ms:aA Int,F7 s=some (Dn [] ms,0)/\F11 s=some ms/\ms.length<=8192/\∀m∈ms,0<=m/\m<(s.Measures.length:Int):=by
 obtain⟨G,c,e,f⟩:=iS1 hs hv;have i:=qN c.g c.l c.n;obtain⟨r,hr,q,rfl,ms,h1,h2,h3⟩:=cZ1 c e (B:=7900) (T:=vE (Jp s) (lL s (fI [] (eC G))) [] (gY G)) (mp:=[]) (l:=[]) (iJ2 _) ⟨[],St.nil,rfl,by simp;omega,fun x h=>by simp at h⟩ 0 [];refine⟨ms,?_,by rw[iR1 c f,h2],?_,h3⟩;unfold F7;rw[hv];simp only[iF2];rw[iN2 (by decide)];unfold gS1;simp only[iF2];rw[hr];obtain⟨a,b⟩:=q;dsimp only at h1;rw[h1.1];rfl;have d:=Gw (J:=Jp s) (aft:=lL s (fI [] (eC G))) (k:=42) (fun j=>Vx c _ j) (gY G) [];rw[h2]at d;simp only[iT2]at d;omega
theorem bN2 (hb:s.b):F3 s=some true:=by
 refine Ok.eq ?_;unfold F3;refine Ob (U13 hb) fun r hr=>?_;cases r with
 |false=>
  exact⟨true,rfl,rfl⟩
 |true=>
  have hs:=hr rfl;obtain⟨v,hv,_⟩:=T8 hs;cases v with
  |false=>
   have d:F7 s=some ([],24):=by
    unfold F7;rw[hv];rfl
   exact⟨true,by simp[d,hv],rfl⟩
  |true=>
   obtain⟨ms,h1,h2,h3,h4⟩:=qT1 hs hv;obtain⟨e,h5,rfl⟩:=iM1 (ms:=ms) (by omega);have c:=cS1 (l:=Dn [] ms) (by rw[pC];omega);have a:=iN1 hv h3 h4;exact⟨true,by simp[h1,hv,h2,h5,c,a],rfl⟩
end Go.P
