import Derived.Test.YtaghiddbmfnakaaGreatGaB
/- A text of the proof. -/
set_option linter.all false
namespace Go.P
def Ok {α:Type} (x:aB α) (Q:α->Prop):Prop:=∃v,x=some v/\Q v
section
variable {α β:Type} {Q:α->Prop}
theorem Ok.mk {v:α} (h:Q v):Ok (some v) Q:=⟨v,rfl,h⟩
theorem bB {α:Type} {v:α} {Q:α->Prop} (h:Q v:=by exact trivial):Ok (some v) Q:=⟨v,rfl,h⟩
theorem Ob {P:β->Prop} {x:aB β} {k:β->aB α} (h:Ok x P) (hk:∀v,P v->Ok (k v) Q):Ok (x.bind k) Q:=by
 obtain⟨v,rfl,hv⟩:=h;exact hk v hv
theorem Oi {c:Prop} [Decidable c] {a b:aB α} (h1:c->Ok a Q) (h2:¬c->Ok b Q):Ok (if c then a else b) Q:=by
 split;rename_i h;exact h1 h;rename_i h;exact h2 h
theorem Ok.mono {P:α->Prop} {x:aB α} (h:Ok x P) (a:∀v,P v->Q v):Ok x Q:=by
 obtain⟨v,h1,h2⟩:=h;exact⟨v,h1,a v h2⟩
theorem Ok.ex {x:aB α} (h:Ok x Q):∃v,x=some v:=by
 obtain⟨v,h1,_⟩:=h;exact⟨v,h1⟩
theorem bW {S E:Type} {body:S->aB (S⊕E)} {Q:E->Prop} (I:S->Prop) (μ:S->Nat)
  (h:∀s,I s->Ok (body s) (fun r=>match r with|.inl s'=>I s'/\μ s'<μ s|.inr e=>Q e)):∀(n:Nat) (s:S),I s->μ s<n->Ok (aU body n s) Q
 |0,s,_,hn=>by omega
 |n+1,s,hi,hn=>by
  obtain⟨r,h1,h2⟩:=h s hi
  simp only[aU,h1,iF2]
  cases r with
  |inl s'=>exact bW I μ h n s' h2.1 (by have:=h2.2;omega)
  |inr e=>exact .mk h2
end
theorem bN {n:Int} (h1: -9223372036854775808<=n) (h2:n<9223372036854775808):bE n=n:=by
 have e:bE n=if n%18446744073709551616>=9223372036854775808 then n%18446744073709551616-18446744073709551616 else n%18446744073709551616:=by
  unfold bE IntKind.wrap;rw[show((2:Int)^IntKind.bits .i64)=18446744073709551616 from rfl,show((2:Int)^(IntKind.bits .i64-1))=9223372036854775808 from rfl];simp[IntKind.signed]
 rw[e];split<;>omega
theorem bX {A:Type} {l:aA A} {i:Int} {Q:A->Prop} (h0:0<=i) (h1:i<(l.length:Int)) (h:∀x,x∈l->l[i.toNat]? =some x->Q x):Ok (aW l i) Q:=by
 unfold aW;rw[iJ2 h0];have hi:i.toNat<l.length:=by omega
 exact⟨l[i.toNat],by simp[hi],h _ (kN2 hi) (by simp[hi])⟩
end Go.P
set_option maxRecDepth 100000
namespace Go.P
def pI1 {A:Type} (l:aA A) (g:A->aB Bool):aB Int:=
 (aU (E:=Int⊕Unit) (fun(a:Int)=>
  if(decide (a<(l.length:Int)))then
   (aW l a).bind fun d=>
   (g d).bind fun b=>
   if b then
    some (.inr (.inl a))
   else
   some (.inl (bE (a+1)))
  else
  some (.inr (.inr ()))) bC 0).bind fun c=>
 match c with
 |.inl x_7=>
  some x_7
 |.inr _=>
  some (-1)
theorem cO1 {A:Type} {l:aA A} {g:A->aB Bool} (hl:l.length<9223372036854775808) (hg:∀x∈l,∃b,g x=some b):Ok (pI1 l g) (fun v=>(v= -1/\∀x∈l,g x=some false)\/(0<=v/\v<l.length/\∃x,l[v.toNat]? =some x/\g x=some true)):=by
 unfold pI1
 refine Ob (P:=fun r=>match r with|.inl v=>0<=v/\v<l.length/\∃x,l[v.toNat]? =some x/\g x=some true|.inr _=>∀x∈l,g x=some false)
  (bW (S:=Int) (fun i=>0<=i/\i<=l.length/\∀j,j<i.toNat->∀x,l[j]? =some x->g x=some false) (fun i=>l.length-i.toNat) (fun i hi=>?_) bC 0 ⟨by omega,by omega,fun j c=>by simp at c⟩ (by simp[bC];omega)) fun r hr=>?_
 obtain⟨h0,h1,h2⟩:=hi;refine Oi (fun hc=>?_) (fun hc=>?_);simp only[iO2]at hc;refine Ob (bX (Q:=fun x=>x∈l/\l[i.toNat]? =some x) h0 hc (fun x a b=>⟨a,b⟩)) fun x d=>?_;obtain⟨b,hb⟩:=hg x d.1;rw[hb];cases b with
 |true=>exact .mk ⟨h0,hc,x,d.2,hb⟩
 |false=>
  rw[iF2,bN (by omega) (by omega)];refine .mk ⟨⟨by omega,by omega,fun j c y hy=>?_⟩,by omega⟩;by_cases e:j=i.toNat
  subst e;rw[d.2]at hy;cases hy;exact hb;exact h2 j (by omega) y hy
 simp only[iO2]at hc;refine .mk (fun x d=>?_);obtain⟨j,c⟩:=jH2.1 d;have:=(iG2.1 c).1;exact h2 j (by omega) x c;cases r with
 |inl v=>exact .mk (.inr hr)
 |inr u=>exact .mk (.inl ⟨rfl,hr⟩)
end Go.P
namespace Go.P
structure YY.b (x:YY):Prop where
 Text:x.Text.size<9223372036854775808
structure YE.b (x:YE):Prop where
 Heads:x.Heads.length<9223372036854775808
 Graces:x.Graces.length<9223372036854775808
 Lyrics:x.Lyrics.length<9223372036854775808
 LyricsE:∀y∈x.Lyrics,y.b
structure YO.b (x:YO):Prop where
 Events:x.Events.length<9223372036854775808
 EventsE:∀y∈x.Events,y.b
 Tuplets:x.Tuplets.length<9223372036854775808
structure YW.b (x:YW):Prop where
 Clefs:x.Clefs.length<9223372036854775808
 Voices:x.Voices.length<9223372036854775808
 VoicesE:∀y∈x.Voices,y.b
structure YM.b (x:YM):Prop where
 Rehearsal:x.Rehearsal.size<9223372036854775808
 Tempi:x.Tempi.length<9223372036854775808
 Cells:x.Cells.length<9223372036854775808
 CellsE:∀y∈x.Cells,y.b
structure YJ.b (x:YJ):Prop where
 Name:x.Name.size<9223372036854775808
 Staves:x.Staves.length<9223372036854775808
structure Y0.b (x:Y0):Prop where
 Title:x.Title.size<9223372036854775808
 Parts:x.Parts.length<9223372036854775808
 PartsE:∀y∈x.Parts,y.b
 Measures:x.Measures.length<9223372036854775808
 MeasuresE:∀y∈x.Measures,y.b
 Spanners:x.Spanners.length<9223372036854775808
 Last:x.Last.length<9223372036854775808
structure YY.sm (x:YY):Prop where
 Text:x.Text.size<=300
structure YE.sm (x:YE):Prop where
 Heads:x.Heads.length<=12
 Graces:x.Graces.length<=12
 Lyrics:x.Lyrics.length<=12
 LyricsE:∀y∈x.Lyrics,y.sm
structure YO.sm (x:YO):Prop where
 Events:x.Events.length<=20
 EventsE:∀y∈x.Events,y.sm
 Tuplets:x.Tuplets.length<=6
structure YW.sm (x:YW):Prop where
 Clefs:x.Clefs.length<=5
 Voices:x.Voices.length<=3
 VoicesE:∀y∈x.Voices,y.sm
structure YM.sm (x:YM):Prop where
 Rehearsal:x.Rehearsal.size<=300
 Tempi:x.Tempi.length<=5
 Cells:x.Cells.length<=5
 CellsE:∀y∈x.Cells,y.sm
structure YJ.sm (x:YJ):Prop where
 Name:x.Name.size<=300
 Staves:x.Staves.length<=5
structure Y0.sm (x:Y0):Prop where
 Title:x.Title.size<=300
 Parts:x.Parts.length<=4
 PartsE:∀y∈x.Parts,y.sm
 Measures:x.Measures.length<=12
 MeasuresE:∀y∈x.Measures,y.sm
 Spanners:x.Spanners.length<=10
 Last:x.Last.length<=5
end Go.P
namespace Go.P
end Go.P
namespace Go.P
theorem bQ {A S E:Type} {l:aA A} {body:S->aB (S⊕E)} {Q:E->Prop} {s0:S} (a:S->Int) (I:Nat->S->Prop) (hl:l.length<9223372036854775808) (h0:a s0=0) (f:I 0 s0)
  (h:∀(i:Nat) (x:A) (s:S),l[i]? =some x->x∈l->a s=(i:Int)->a s<(l.length:Int)->I i s->aW l (a s)=some x->bE (a s+1)=(i:Int)+1->Ok (body s) (fun r=>match r with|.inl s'=>a s'=(i:Int)+1/\I (i+1) s'|.inr e=>Q e))
  (b:∀s,a s=(l.length:Int)->I l.length s->Ok (body s) (fun r=>match r with|.inl _=>False|.inr e=>Q e)):Ok (aU body bC s0) Q:=by
 have hl:l.length<9223372036854775808:=hl;refine bW (fun s=>0<=a s/\a s<=l.length/\I (a s).toNat s) (fun s=>l.length-(a s).toNat) (fun s hi=>?_) bC s0 ⟨by omega,by omega,by rw[h0];exact f⟩ (by simp[bC];omega);obtain⟨g,m,d⟩:=hi;by_cases c:a s<(l.length:Int);have hi:(a s).toNat<l.length:=by omega
 have hc:(((a s).toNat:Nat):Int)=a s:=by omega
 have hg:aW l (a s)=some l[(a s).toNat]:=by unfold aW;rw[iJ2 g];simp[hi]
 refine(h (a s).toNat l[(a s).toNat] s (by simp[hi]) (kN2 hi) hc.symm c d hg (by rw[bN (by omega) (by omega)];omega)).mono fun r hr=>?_;cases r with
 |inl s'=>
  obtain⟨k,e2⟩:=hr;refine⟨⟨by omega,by omega,?_⟩,by omega⟩;rw[show(a s').toNat=(a s).toNat+1 by omega];exact e2
 |inr e=>exact hr
 refine(b s (by omega) ?_).mono fun r hr=>?_;rw[show(a s).toNat=l.length by omega]at d;exact d;cases r with
 |inl j=>exact hr.elim
 |inr e=>exact hr
theorem fF {A:Type} {g:Bool} {l:aA A} {x:A} (h:l.length<1073741824) {Q:aA A->Prop} (a:Q (l++[x])):Ok (fJ g l [x]) Q:=by
 unfold fJ;have e:Sim.maxRoom=1073741824:=rfl;rw[iJ2 ⟨by rw[e,jN2,iR2];omega,fun _=>iH2 _⟩];exact .mk a
theorem yX1 {w:Bool} {id:YZ} {l:aA YV} {s:Y0} {r:Int} (h:l.length<1000000):Ok (iL w id l s r) (fun v=>v.length<=l.length+1):=by
 unfold iL;refine Ob (P:=fun v=>v.length<=l.length+1) (Oi (fun _=>Ob (fF (Q:=fun v=>v.length<=l.length+1) (by omega) (by simp)) fun v hv=>.mk hv) (fun _=>.mk (by omega))) fun v hv=>.mk hv
theorem hG1 (n a b:Int):vV n a b=some (decide (n>=a)&&decide (n<=b)):=rfl
theorem yY1 (i:YL):F52 i=some (if((((decide (i.Steps<(-77)))||(decide (i.Steps>77)))||(decide (i.Semitones<(-140))))||(decide (i.Semitones>140)))then 2 else 0):=by
 unfold F52;split<;>rfl
theorem pJ1 {s:ByteArray} (h:s.size<9223372036854775808):Ok (F50 s) (fun _=>True):=by
 unfold F50;refine Ob (P:=fun _=>True) (Oi (fun _=>?_) (fun _=>.mk trivial)) fun v hv=>.mk hv
 have:Ok (Om s.data.toList) (fun _=>True):=by
  unfold Om;refine Ob (cO1 (l:=s.data.toList) (g:=fun b=>Tl (b.toNat:Int)) (by rw[lN2];exact h) (fun x _=>⟨_,rfl⟩)) fun v hv=>.mk trivial
 exact Ob this fun v hv=>.mk trivial
end Go.P
namespace Go.P
section
variable {α β:Type} {Q:α->Prop}
theorem Ok.bindE {P:β->Prop} {x:aB β} {k:β->aB α} (h:Ok x P) (hk:∀v,x=some v->P v->Ok (k v) Q):Ok (x.bind k) Q:=by
 obtain⟨v,rfl,hv⟩:=h;exact hk v rfl hv
theorem Ok.of {x:aB α} (h:Ok x Q) {v:α} (hv:x=some v):Q v:=by
 obtain⟨w,h1,h2⟩:=h;rw[h1]at hv;cases hv;exact h2
theorem sK {k:IntKind} {a b:Int} (h:b≠0):Ok (sB k a b) (fun v=>v=k.wrap (a.tdiv b)):=by
 unfold sB;rw[iL2 h];exact .mk rfl
theorem Dv {k:IntKind} {a b:Int} (h:b≠0):Ok (qI k a b) (fun v=>v=a.tmod b):=by
 unfold qI;rw[iL2 h];exact .mk rfl
theorem sL {k:IntKind} {a b:Int} (h:0<=b):Ok (nF k a b) (fun v=>v=a.fdiv (2^min b.toNat k.bits)):=by
 unfold nF;rw[iL2 (by omega)];exact .mk rfl
theorem Mg {k:IntKind} {a b:Int} (h:0<=b):Ok (Ta k a b) (fun _=>True):=by
 unfold Ta;rw[iL2 (by omega)];exact .mk trivial
end
section
variable {A:Type} {l:List A}
theorem iV {i:Int} (h0:0<=i) (h1:i<(l.length:Int)):Ok (fQ l i) (fun v=>v=i.toNat/\v<l.length):=by
 unfold fQ rJ;rw[iJ2 ⟨h0,h1⟩];exact .mk ⟨rfl,by omega⟩
theorem lA {j:Nat} (h:j<l.length):Ok (gL l j) (fun x=>l[j]? =some x/\x∈l):=by
 unfold gL;rw[iZ2 h];exact .mk ⟨rfl,kN2 h⟩
theorem Mh {j:Nat} {f:A->A} (h:j<l.length):Ok (Oh l j f) (fun m=>m.length=l.length):=by
 unfold Oh;rw[iZ2 h];exact .mk (by simp)
theorem sM {n c:Int} {z:A} (h0:0<=n) (h1:n<=c) (h2:c<=1073741824):Ok (vB n c z) (fun v=>v=List.replicate n.toNat z):=by
 unfold vB;rw[iJ2 ⟨h0,h1,h2⟩];exact .mk rfl
theorem Bd {a b:Int} (h0:0<=a) (h1:a<=b) (h2:b<=(l.length:Int)):Ok (mS l a b) (fun v=>v.length<=l.length/\∀x∈v,x∈l):=by
 unfold mS;rw[iJ2 ⟨h0,h1,h2⟩];exact .mk ⟨by simp;omega,fun x c=>List.mem_of_mem_drop (List.mem_of_mem_take c)⟩
theorem Pc {h:Int} (_:0<l.length) (h1:0<=h) (h2:h<=(l.length:Int)):Ok (yJ l h) (fun v=>v.length=h.toNat/\∀x∈v,x∈l):=by
 unfold yJ;rw[iJ2 ⟨h1,h2⟩];exact .mk ⟨by simp;omega,fun x a=>List.mem_of_mem_take a⟩
theorem fG {i:Int} {x:A} (h:aW l i=some x):0<=i/\i<(l.length:Int)/\x∈l/\l[i.toNat]? =some x:=by
 unfold aW at h;split at h;obtain⟨hi,_⟩:=iG2.1 h;exact⟨by omega,by omega,iN2 h,h⟩;cases h
end
theorem tW {s:ByteArray} {i:Int} (h0:0<=i) (h1:i<(s.size:Int)):Ok (oA s i) (fun v=>0<=v/\v<=255):=by
 unfold oA;rw[iJ2 h0];have h:i.toNat<s.data.toList.length:=by rw[lN2];show i.toNat<s.size;omega
 rw[iZ2 h];have:=(s.data.toList[i.toNat]).toNat_lt;exact .mk ⟨by dsimp only;omega,by dsimp only;omega⟩
theorem tX {A:Type} {l:aA A} (h:l.length<=1073741824):qJ l=some l:=by
 unfold qJ;rw[Nat.ble_eq_true_of_le h];rfl
theorem nm:(∀a b:Bool,((a||b)=true)=(a=true\/b=true))/\(∀a b:Bool,((a&&b)=true)=(a=true/\b=true))/\(∀b:Bool,((!b)=true)=(b=false))/\(∀(p:Prop) [Decidable p],(decide p=true)=p)/\
  (∀(p:Prop) [Decidable p],(decide p=false)=¬p)/\(∀p q:Prop,(¬(p\/q))=(¬p/\¬q))/\(∀p q:Prop,(¬(p/\q))=(p->¬q))/\(∀b:Bool,(¬b=true)=(b=false))/\(∀a b:Int,((a !=b)=true)=¬a=b)/\
  (∀a b:Int,((a==b)=true)=(a=b))/\(∀p:Prop,(¬¬p)=p):=
 ⟨fun a b=>by simp,fun a b=>by simp,fun b=>by simp,fun p _=>by simp,fun p _=>by simp,fun p q=>by simp,fun p q=>by simp,fun b=>by simp,fun a b=>by simp,fun a b=>by simp,fun p=>by simp⟩
theorem nl {A:Type}:(∀(a:A) (l:aA A),(a::l).length=l.length+1)/\([]:aA A).length=0:=⟨fun _ _=>rfl,rfl⟩
theorem nt:(∀[Decidable True],decide True=true)/\(∀(α:Type) [Decidable True] (a b:α),(if True then a else b)=a)/\∀(α β:Type) (a:α) (f:α->aB β),(some a).bind f=f a:=⟨kV2 _,fun _ _ _ _=>jJ2 ..,fun _ _ _ _=>rfl⟩
theorem nf:(∀a:Int,(a<a)=False)/\(∀[Decidable False],decide False=false)/\((false=true)=False)/\∀(α:Type) [Decidable False] (a b:α),(if False then a else b)=b:=⟨fun a=>by simp,decide_false _,by simp,fun _ _ _ _=>jS2 ..⟩
theorem bZ {α β:Type} {Q:α->Prop} {x:aB β} {k:β->aB α} (h:Ok x fun _=>True) (hk:∀v,Ok (k v) Q):Ok (x.bind k) Q:=Ob h fun v _=>hk v
theorem pG {A S E β:Type} {l:aA A} {body:S->aB (S⊕E)} {s0:S} {k:E->aB β} {Q:β->Prop} (a:S->Int) (hl:l.length<9223372036854775808) (h0:a s0=0)
  (h:∀(i:Nat) (x:A) (s:S),x∈l->a s=(i:Int)->a s<(l.length:Int)->aW l (a s)=some x->bE (a s+1)=(i:Int)+1->Ok (body s) (fun r=>match r with|.inl s'=>a s'=(i:Int)+1|.inr _=>True))
  (b:∀s,a s=(l.length:Int)->Ok (body s) (fun r=>match r with|.inl _=>False|.inr _=>True)) (hk:∀e,Ok (k e) Q):Ok ((aU body bC s0).bind k) Q:=
 bZ (bQ (l:=l) a (fun _ _=>True) hl h0 trivial (fun i x s _ d hi c _ hg hw=>(h i x s d hi c hg hw).mono fun r hr=>by cases r with|inl s'=>exact⟨hr,trivial⟩|inr e=>trivial) (fun s hi _=>b s hi)) hk
theorem Vg {s:ByteArray} {n:Nat} (h:s.size<=n):s.data.toList.length<=n:=by rw[lN2];exact h
theorem Vh (n:Int): -9223372036854775808<=bE n/\bE n<=9223372036854775807:=by
 have e:bE n=if n%18446744073709551616>=9223372036854775808 then n%18446744073709551616-18446744073709551616 else n%18446744073709551616:=by
  unfold bE IntKind.wrap;rw[show((2:Int)^IntKind.bits .i64)=18446744073709551616 from rfl,show((2:Int)^(IntKind.bits .i64-1))=9223372036854775808 from rfl];simp[IntKind.signed]
 rw[e];split<;>omega
theorem iW {S E:Type} {body:S->aB (S⊕E)} {Q:E->Prop} {s0:S} (d:S->Int) (N:Int) (I:S->Prop) (g:N<=9223372036854775807) (h0: -1000<=d s0) (f:I s0)
  (h:∀s,I s->d s0<=d s->(d s<N->bE (d s+1)=d s+1)->Ok (body s) (fun r=>match r with|.inl s'=>d s<N/\d s'=d s+1/\I s'|.inr e=>Q e)):Ok (aU body bC s0) Q:=by
 refine bW (fun s=>I s/\d s0<=d s) (fun s=>(N-d s).toNat) (fun s hs=>?_) bC s0 ⟨f,kQ2 _⟩ (by simp only[bC];omega);refine(h s hs.1 hs.2 (fun hc=>bN (by omega) (by omega))).mono fun r hr=>?_;cases r with
 |inl s'=>obtain⟨a,b,c⟩:=hr;exact⟨⟨c,by omega⟩,by omega⟩
 |inr e=>exact hr
theorem Pd {w:Bool} {id:YZ} {l:aA YV} {s:Y0} {r:Int} (h:l.length<1000000):Ok (iL w id l s r) (fun v=>(w=true->v.length=l.length+1)/\(w=false->v.length=l.length)):=by
 unfold iL;refine Ob (P:=fun v=>(w=true->v.length=l.length+1)/\(w=false->v.length=l.length)) (Oi (fun h=>Ob (fF (Q:=fun v=>v.length=l.length+1) (by omega) (by simp)) fun v hv=>.mk ⟨fun _=>hv,fun h2=>by rw[h]at h2;cases h2⟩) (fun h=>.mk ⟨fun h2=>absurd h2 h,fun _=>rfl⟩)) fun v hv=>.mk hv
theorem pK1 (n:Int):0<=IntKind.wrap .u8 n/\IntKind.wrap .u8 n<256:=by
 unfold IntKind.wrap;rw[show((2:Int)^IntKind.bits .u8)=256 from rfl];simp[IntKind.signed];omega
theorem yZ1 {l:aA YV} {s:Y0} {r:Int} (hs:s.sm) (h0:s.Measures.length=0) (h:l.length<900000):Ok (Jh l s r) (fun v=>0<v.length):=by
 unfold Jh;have hp:=hs.Parts;refine Ob (P:=fun v=>v.length<=l.length+4) (bQ (l:=s.Parts) (fun q=>q.1) (fun i q=>q.2.length<=l.length+i) (by omega) rfl (by simp) (fun i x q k f hi e d hg hw=>?_) (fun q hi d=>?_)) fun v1 h1=>?_;obtain⟨x1,j⟩:=q;have g:=hs.PartsE x f;have m:=g.Name;simp only at hi e d hg hw;simp only[e,kV2,jJ2,hg,iF2,hG1,yY1];refine Ob (pJ1 (by omega)) fun a _=>?_;refine Ob (P:=fun _=>True) (by split<;>exact .mk trivial) fun b _=>?_;refine Ob (P:=fun _=>True) (by split<;>exact .mk trivial) fun c _=>?_;refine Ob (yX1 (by omega)) fun v hv=>.mk ⟨hw,by dsimp only;omega⟩;obtain⟨x1,j⟩:=q;simp only at hi d;simp only[hi,Int.lt_irrefl,decide_false,iQ2,jS2];exact .mk (by omega);refine Ob (P:=fun v=>v.length<=l.length+4) (bQ (l:=s.Measures) (fun q=>q.1) (fun i q=>q.2.length<=l.length+4) (by omega) rfl h1 (fun i x q k f hi e d hg hw=>by omega) (fun q hi d=>?_)) fun v1 h1=>?_;obtain⟨x1,j⟩:=q;simp only at hi d;simp only[hi,Int.lt_irrefl,decide_false,iQ2,jS2];exact .mk d;have n:=hs.Title;refine Ob (pJ1 (by omega)) fun a _=>?_;simp only[hG1,iF2];refine Ob (P:=fun _=>True) (by split<;>exact .mk trivial) fun b _=>?_;refine Ob (P:=fun r=>r=true) (Oi (fun _=>.mk rfl) (fun _=>.mk (by simp[h0]))) fun c hc=>?_;subst hc;simp only[Bool.true_or];refine Ob (Pd (by omega)) fun v hv=>.mk (by have:=hv.1 rfl;omega)
def YU.ok (n:Int) (t:YU):Prop:=1<=t.Count/\t.Count<=n/\0<=t.First/\t.First+t.Count<=n/\1<=t.Actual/\t.Actual<=32/\1<=t.Normal/\t.Normal<=32
def Y0.pl (s:Y0) (m c v:Int):Prop:=∃x y z,aW s.Measures m=some x/\aW x.Cells c=some y/\aW y.Voices v=some z
theorem og {A α V:Type} (l:aA A) (v:aA V) (K k:Nat) {body:Int×aA V->aB ((Int×aA V)⊕aA V)} {m:aA V->aB α} {Q:α->Prop} (hl:l.length<9223372036854775808)
  (h:∀(i:Nat) (x:A) (s:Int×aA V),l[i]? =some x->x∈l->s.1=(i:Int)->s.1<(l.length:Int)->(v.length<=s.2.length/\s.2.length<=v.length+i*k)->aW l s.1=some x->bE (s.1+1)=(i:Int)+1->Ok (body s) (fun r=>match r with|.inl s'=>s'.1=(i:Int)+1/\v.length<=s'.2.length/\s'.2.length<=v.length+(i+1)*k|.inr e=>v.length<=e.length/\e.length<=v.length+K))
  (j:∀s,s.1=(l.length:Int)->(v.length<=s.2.length/\s.2.length<=v.length+l.length*k)->Ok (body s) (fun r=>match r with|.inl _=>False|.inr e=>v.length<=e.length/\e.length<=v.length+K))
  (hk:∀r,(v.length<=r.length/\r.length<=v.length+K)->Ok (m r) Q):Ok ((aU body bC (0,v)).bind m) Q:=
 Ob (P:=fun r=>v.length<=r.length/\r.length<=v.length+K) (bQ (l:=l) (fun q=>q.1) (fun i q=>v.length<=q.2.length/\q.2.length<=v.length+i*k) hl rfl ⟨iH2 _,by dsimp only;omega⟩ (fun i x s a b c d e f g=>(h i x s a b c d e f g).mono fun r hr=>by cases r<;>exact hr) (fun s a b=>(j s a b).mono fun r hr=>by cases r<;>exact hr)) hk
end Go.P
set_option maxHeartbeats 1000000
namespace Go.P
end Go.P
set_option maxHeartbeats 2000000
namespace Go.P
theorem zB1 {x1:Int}:Ok (Tl x1) (fun _=>True):=by
 unfold Tl;exact bB
theorem zC1 {x1:aA UInt8} (a:x1.length<=300):Ok (Yx x1) (fun _=>True):=by
 unfold Yx;have f:=a;refine pG (l:=x1) (fun q=>q) (iI2 a (by decide)) rfl (fun k j h g b d c e=>?_) (fun h b=>?_) fun i=>?_;simp only[d,c,nt];refine bZ (zB1) fun m=>?_;refine Oi (fun c13=>?_) (fun c13=>?_);exact bB;exact .mk e;simp only[b,nf];exact bB;rcases i with n|_;exact bB;exact bB
theorem zD1 {x1:aA UInt8} (a:x1.length<=300):Ok (Om x1) (fun _=>True):=by
 unfold Om;refine bZ (zC1 a) fun b=>?_;exact bB
theorem T50 {x1:ByteArray} (a:x1.size<=300):Ok (F50 x1) (fun _=>True):=by
 unfold F50;refine Ob (P:=fun r=>r=true->(decide ((x1.size:Int)<=256))=true) ?_ fun x3 b=>?_;refine Oi (fun c16=>?_) (fun _=>.mk (fun h=>by cases h));refine bZ (zD1 (Vg a)) fun c=>?_;exact .mk (fun _=>c16);exact bB
theorem Jq {x1 a x3:Int}:Ok (vV x1 a x3) (fun _=>True):=by
 unfold vV;exact bB
theorem T52 {x1:YL}:Ok (F52 x1) (fun _=>True):=by
 unfold F52;refine Oi (fun c18=>?_) (fun c18=>?_);exact bB;exact bB
theorem kO {x1:Bool} {d:YZ} {x3:aA YV} {a:Y0} {e:Int} (b:x3.length+1<=1000000) (c:a.sm):Ok (iL x1 d x3 a e) (fun v=>x3.length<=v.length/\v.length<=x3.length+1):=by
 exact(Pd (by omega)).mono fun v h=>by cases x1<;>simp at h<;>omega
theorem pL1 {x1:aA YV} {E:Y0} {x3:Int} (d0:x1.length+17<=1000000) (a:E.sm):Ok (Jh x1 E x3) (fun v=>x1.length<=v.length/\v.length<=x1.length+17):=by
 unfold Jh;have a0:=a.Parts;refine og E.Parts x1 4 1 (iI2 a.Parts (by decide)) (fun d6 b8 q30 b6 A c o g m u=>?_) (fun q30 c g=>?_) fun R z19=>?_;obtain⟨L,M⟩:=q30;dsimp only at c o m u g;simp only[o,m,nt];have K:=a.PartsE _ A;refine bZ (T50 K.Name) fun N=>?_;refine Ob (P:=fun r=>¬r=true->¬(!N)=true) ?_ fun O H=>?_;refine Oi (fun _=>.mk (fun h=>absurd rfl h)) (fun c35=>?_);refine bZ (Jq) fun e4=>?_;exact .mk (fun _=>c35);refine Ob (P:=fun r=>¬r=true->¬O=true) ?_ fun e6 d1=>?_;refine Oi (fun _=>.mk (fun h=>absurd rfl h)) (fun c38=>?_);have e0:=H c38;refine bZ (T52) fun e5=>?_;exact .mk (fun _=>c38);refine Ob (kO (by first|omega|(simp only[iR2]at *;omega)) a) fun e7 d2=>?_;exact .mk ⟨u,by dsimp only;omega⟩;obtain⟨L,M⟩:=q30;dsimp only at c g;simp only[c,nf];exact .mk (by dsimp only;omega);have b0:=a.Measures;refine og E.Measures R 12 1 (iI2 a.Measures (by decide)) (fun d7 F q53 b7 B d p i b w=>?_) (fun q53 d i=>?_) fun f2 f8=>?_;obtain⟨S,T⟩:=q53;dsimp only at d p b w i;simp only[p,b,nt];have k:=a.MeasuresE _ B;refine bZ (T50 k.Rehearsal) fun e8=>?_;have b4:=k.Cells;refine pG (l:=F.Cells) (fun q=>q.2) (iI2 k.Cells (by decide)) rfl (fun d8 G q67 C e s j x=>?_) (fun q67 e=>?_) fun f0=>?_;obtain⟨U,V⟩:=q67;dsimp only at e s j x;simp only[s,b,j,nt];have z:=k.CellsE _ C;have b5:=z.Voices;refine pG (l:=G.Voices) (fun q=>q.2) (iI2 z.Voices (by decide)) rfl (fun d9 b9 q80 D f t n y=>?_) (fun q80 f=>?_) fun e9=>?_;obtain⟨W,X⟩:=q80;dsimp only at f t n y;simp only[t,b,j,n,nt];have e3:=z.VoicesE _ D;exact .mk y;obtain⟨W,X⟩:=q80;dsimp only at f;simp only[f,nf];exact bB;exact .mk x;obtain⟨U,V⟩:=q67;dsimp only at e;simp only[e,nf];exact bB;refine Ob (kO (by first|omega|(simp only[iR2]at *;omega)) a) fun f1 d3=>?_;exact .mk ⟨w,by dsimp only;omega⟩;obtain⟨S,T⟩:=q53;dsimp only at d i;simp only[d,nf];exact .mk (by dsimp only;omega);refine bZ (T50 a.Title) fun Y=>?_;refine Ob (P:=fun r=>¬r=true->¬(!Y)=true) ?_ fun Z J=>?_;refine Oi (fun _=>.mk (fun h=>absurd rfl h)) (fun c86=>?_);refine bZ (Jq) fun f3=>?_;exact .mk (fun _=>c86);refine Ob (P:=fun r=>¬r=true->¬Z=true) ?_ fun f6 d4=>?_;refine Oi (fun _=>.mk (fun h=>absurd rfl h)) (fun c89=>?_);have e1:=J c89;refine bZ (Jq) fun f5=>?_;exact .mk (fun _=>c89);refine Ob (kO (by first|omega|(simp only[iR2]at *;omega)) a) fun f7 d5=>?_;exact .mk (by omega)
theorem pM1 {x1:Y0} (a:x1.sm):Ok (Lw x1) (fun _=>True):=by
 unfold Lw;exact bB
theorem hH1 {x1 g:Int} {x3 h:Int} {i j k:Int} {b:YJ} {a:aA YZ} (c:b.sm) (e:a.length+1<=1000000):Ok (Cy x1 g x3 h i j k b a) (fun v=>v.length<=a.length+1):=by
 unfold Cy;refine Ob (fF (Q:=fun v=>v.length=a.length+1) (by omega) (by simp)) fun f d=>?_;exact .mk (by omega)
theorem Vi {x1 e:Int} {x3 f:Int} {g h i:Int} {j:YF} {a:aA YZ} (c:a.length+1<=1000000):Ok (sD x1 e x3 f g h i j a) (fun v=>v.length<=a.length+1):=by
 unfold sD;refine Ob (fF (Q:=fun v=>v.length=a.length+1) (by omega) (by simp)) fun d b=>?_;exact .mk (by omega)
theorem Vj {x1 g:Int} {x3 h:Int} {i j k:Int} {b:YM} {a:aA YZ} (c:b.sm) (e:a.length+1<=1000000):Ok (sF x1 g x3 h i j k b a) (fun v=>v.length<=a.length+1):=by
 unfold sF;refine Ob (fF (Q:=fun v=>v.length=a.length+1) (by omega) (by simp)) fun f d=>?_;exact .mk (by omega)
theorem Vk {x1 g:Int} {x3 h:Int} {i j k:Int} {b:YE} {a:aA YZ} (c:b.sm) (e:a.length+1<=1000000):Ok (sG x1 g x3 h i j k b a) (fun v=>v.length<=a.length+1):=by
 unfold sG;refine Ob (fF (Q:=fun v=>v.length=a.length+1) (by omega) (by simp)) fun f d=>?_;exact .mk (by omega)
theorem Vl {x1 e:Int} {x3 f:Int} {g h i:Int} {j:YN} {a:aA YZ} (c:a.length+1<=1000000):Ok (sH x1 e x3 f g h i j a) (fun v=>v.length<=a.length+1):=by
 unfold sH;refine Ob (fF (Q:=fun v=>v.length=a.length+1) (by omega) (by simp)) fun d b=>?_;exact .mk (by omega)
theorem pN1 {x1:Y0} {x2:aA YZ} (k:x1.sm) (j6:x2.length+3646<=1000000):Ok (Lx x1 x2) (fun v=>v.length<=x2.length+3646):=by
 unfold Lx;have e6:=k.Parts;refine Ob (P:=fun r=>r.length<=x2.length+24) (bQ (l:=x1.Parts) (fun q=>q.2.1) (fun i q=>q.2.2.length<=x2.length+i*6) (iI2 k.Parts (by decide)) rfl (by dsimp only;omega) (fun j7 b7 q109 f3 a0 c C m w K=>?_) (fun q109 c m=>?_)) fun e1 k1=>?_;obtain⟨g3,g4,g5⟩:=q109;dsimp only at c C w K m;simp only[C,w,nt];have T:=k.PartsE _ a0;refine Ob (hH1 T (by first|omega|(simp only[iR2]at *;omega))) fun e0 h3=>?_;have e7:=T.Staves;refine Ob (P:=fun r=>r.2.length<=e0.length+5) (bQ (l:=b7.Staves) (fun q=>q.2.1) (fun i q=>q.2.2.length<=e0.length+i*1) (iI2 T.Staves (by decide)) rfl (by dsimp only;omega) (fun h8 g9 q125 f5 e4 d D n z L=>?_) (fun q125 d n=>?_)) fun⟨j9,k0⟩ e3=>?_;obtain⟨g6,g7,g8⟩:=q125;dsimp only at d D z L n;simp only[D,w,z,nt];refine Ob (Vi (by first|omega|(simp only[iR2]at *;omega))) fun j8 h4=>?_;exact .mk ⟨L,by dsimp only;omega⟩;obtain⟨g6,g7,g8⟩:=q125;dsimp only at d n;simp only[d,nf];exact .mk (by dsimp only;omega)
 try dsimp only at e3
 exact .mk ⟨K,by dsimp only;omega⟩;obtain⟨g3,g4,g5⟩:=q109;dsimp only at c m;simp only[c,nf];exact .mk (by dsimp only;omega);have e8:=k.Measures;refine Ob (P:=fun r=>r.length<=e1.length+3612) (bQ (l:=x1.Measures) (fun q=>q.1) (fun i q=>q.2.length<=e1.length+i*301) (iI2 k.Measures (by decide)) rfl (by dsimp only;omega) (fun h9 b8 q140 f6 b0 e E o a M=>?_) (fun q140 e o=>?_)) fun Z j1=>?_;obtain⟨d2,d3⟩:=q140;dsimp only at e E a M o;simp only[E,a,nt];have y:=k.MeasuresE _ b0;refine Ob (Vj y (by first|omega|(simp only[iR2]at *;omega))) fun Y h5=>?_;have e9:=y.Cells;refine Ob (P:=fun r=>r.length<=Y.length+300) (bQ (l:=b8.Cells) (fun q=>q.1) (fun i q=>q.2.length<=Y.length+i*60) (iI2 y.Cells (by decide)) rfl (by dsimp only;omega) (fun i0 b9 q156 f7 b4 f F p b N=>?_) (fun q156 f p=>?_)) fun i7 j2=>?_;obtain⟨d4,W⟩:=q156;dsimp only at f F b N p;simp only[F,a,b,nt];have U:=y.CellsE _ b4;have f0:=U.Voices;refine Ob (P:=fun r=>r.length<=W.length+60) (bQ (l:=b9.Voices) (fun q=>q.1) (fun i q=>q.2.length<=W.length+i*20) (iI2 U.Voices (by decide)) rfl (by dsimp only;omega) (fun i1 d0 q171 f8 b5 g G s x O=>?_) (fun q171 g s=>?_)) fun i6 j3=>?_;obtain⟨d5,X⟩:=q171;dsimp only at g G x O s;simp only[G,a,b,x,nt];have V:=U.VoicesE _ b5;have f1:=V.Events;refine Ob (P:=fun r=>r.length<=X.length+20) (bQ (l:=d0.Events) (fun q=>q.1) (fun i q=>q.2.length<=X.length+i*1) (iI2 V.Events (by decide)) rfl (by dsimp only;omega) (fun i2 h0 q187 f9 b6 h H t A R=>?_) (fun q187 h t=>?_)) fun i5 j4=>?_;obtain⟨d6,d7⟩:=q187;dsimp only at h H A R t;simp only[H,a,b,x,A,nt];have d1:=V.EventsE _ b6;refine Ob (Vk d1 (by first|omega|(simp only[iR2]at *;omega))) fun i4 h6=>?_;exact .mk ⟨R,by dsimp only;omega⟩;obtain⟨d6,d7⟩:=q187;dsimp only at h t;simp only[h,nf];exact .mk (by dsimp only;omega);exact .mk ⟨O,by dsimp only;omega⟩;obtain⟨d5,X⟩:=q171;dsimp only at g s;simp only[g,nf];exact .mk (by dsimp only;omega);exact .mk ⟨N,by dsimp only;omega⟩;obtain⟨d4,W⟩:=q156;dsimp only at f p;simp only[f,nf];exact .mk (by dsimp only;omega);exact .mk ⟨M,by dsimp only;omega⟩;obtain⟨d2,d3⟩:=q140;dsimp only at e o;simp only[e,nf];exact .mk (by dsimp only;omega);have f2:=k.Spanners;refine Ob (P:=fun r=>r.length<=Z.length+10) (bQ (l:=x1.Spanners) (fun q=>q.1) (fun i q=>q.2.length<=Z.length+i*1) (iI2 k.Spanners (by decide)) rfl (by dsimp only;omega) (fun i3 h2 q205 g1 e5 j J u B S=>?_) (fun q205 j u=>?_)) fun j0 j5=>?_;obtain⟨d8,d9⟩:=q205;dsimp only at j J B S u;simp only[J,B,nt];refine Ob (Vl (by first|omega|(simp only[iR2]at *;omega))) fun i9 h7=>?_;exact .mk ⟨S,by dsimp only;omega⟩;obtain⟨d8,d9⟩:=q205;dsimp only at j u;simp only[j,nf];exact .mk (by dsimp only;omega);exact .mk (by omega)
theorem T53 {x1:Y0} (a:x1.sm):Ok (F53 x1) (fun v=>v.length<=4000):=by
 unfold F53;refine bZ (pM1 a) fun _=>?_;refine Ob (pN1 a (by first|omega|(simp only[iR2]at *;omega))) fun c b=>?_;exact .mk (by simp only[iR2]at *;omega)
theorem T54 {x1:YZ}:Ok (F54 x1) (fun _=>True):=by
 unfold F54;refine bZ (Jq) fun b=>?_;refine Ob (P:=fun r=>r=true->b=true) ?_ fun c a=>?_;refine Oi (fun c212=>?_) (fun _=>.mk (fun h=>by cases h));refine bZ (Jq) fun x3=>?_;exact .mk (fun _=>c212);exact bB
theorem T55 {x1:Y0} {j:Int} (e:x1.sm):Ok (F55 x1 j) (fun _=>True):=by
 unfold F55;have g:=e.Last;refine pG (l:=x1.Last) (fun q=>q) (iI2 e.Last (by decide)) rfl (fun i h k f a c b d=>?_) (fun k a=>?_) fun m=>?_;simp only[c,b,nt];refine Oi (fun c225=>?_) (fun c225=>?_);exact bB;exact .mk d;simp only[a,nf];exact bB;rcases m with n|_;exact bB;exact bB
theorem pO1 {x1:aA YV} {y:Y0} {x3:Int} (W:x1.length+4001<=1000000) (c:y.sm):Ok (Tm x1 y x3) (fun v=>x1.length<=v.length/\v.length<=x1.length+4001):=by
 unfold Tm;refine Ob (T53 c) fun x4 n=>?_;have C:=n;refine Ob (P:=fun r=>x1.length<=r.2.length/\r.2.length<=x1.length+4000) (bQ (l:=x4) (fun q=>q.1) (fun i q=>x1.length<=q.2.2.length/\q.2.2.length<=x1.length+i*1) (iI2 n (by decide)) rfl (by dsimp only;omega) (fun T o q238 F z a g d e k=>?_) (fun q238 a d=>?_)) fun⟨a0,b0⟩ w=>?_;obtain⟨G,s,H⟩:=q238;dsimp only at a g e k d;simp only[g,e,nt];refine bZ (T54) fun J=>?_;refine Ob (P:=fun r=>¬r=true->¬((!J)||(fW s o false))=true) ?_ fun Y M=>?_;refine Oi (fun _=>.mk (fun h=>absurd rfl h)) (fun c242=>?_);refine bZ (T55 c) fun X=>?_;exact .mk (fun _=>c242);refine Ob (kO (by first|omega|(simp only[iR2]at *;omega)) c) fun Z N=>?_;exact .mk ⟨k,by dsimp only;omega⟩;obtain⟨G,s,H⟩:=q238;dsimp only at a d;simp only[a,nf];exact .mk (by dsimp only;omega)
 try dsimp only at w
 have D:=c.Last;refine pG (l:=y.Last) (fun q=>q.2) (iI2 c.Last (by decide)) rfl (fun U L q255 A b j f m=>?_) (fun q255 b=>?_) fun b8=>?_;obtain⟨t,u⟩:=q255;dsimp only at b j f m;simp only[j,f,nt];refine Ob (P:=fun r=>¬r=true->¬t=true) ?_ fun K p=>?_;refine Oi (fun _=>.mk (fun h=>absurd rfl h)) (fun c258=>?_);refine bZ (T54) fun b4=>?_;exact .mk (fun _=>c258);refine Ob (P:=fun r=>¬r=true->¬K=true) ?_ fun b7 O=>?_;refine Oi (fun _=>.mk (fun h=>absurd rfl h)) (fun c261=>?_);have V:=p c261;refine Ob (P:=fun r=>r=true->(decide (u>0))=true) ?_ fun b6 R=>?_;refine Oi (fun c264=>?_) (fun _=>.mk (fun h=>by cases h));have E:=c.Last;refine Ob (P:=fun x=>x∈y.Last) (bX (by(simp only[nm]at *;rw[bN (by omega) (by omega)];omega)) (by(simp only[nm]at *;rw[bN (by omega) (by omega)];omega)) (fun _ h _=>h)) fun b5 B=>?_;exact .mk (fun _=>c264);exact .mk (fun _=>c261);exact .mk m;obtain⟨t,u⟩:=q255;dsimp only at b;simp only[b,nf];exact bB;refine Ob (kO (by first|omega|(simp only[iR2]at *;omega)) c) fun b9 S=>?_;exact .mk (by omega)
theorem T56 {x1:Y0} (a:x1.sm):Ok (F56 x1) (fun v=>v<=9223372036854775807):=by
 unfold F56;have hp:=a.Parts;refine Ob (P:=fun v=>v<=9223372036854775807) (bQ (l:=x1.Parts) (fun q=>q.2) (fun i q=>q.1<=9223372036854775807) (by omega) rfl (by decide) (fun i e q d c hi hl _ hg hw=>?_) (fun q hi b=>?_)) fun v hv=>.mk hv;obtain⟨n,x⟩:=q;dsimp only at hi hl hg hw;simp only[hl,hg,nt];exact .mk ⟨hw,(Vh _).2⟩;obtain⟨n,x⟩:=q;dsimp only at hi b;simp only[hi,nf];exact .mk b
theorem T58 {x1:Int} {C:YM} {x3:Int} (m:C.sm):Ok (F58 x1 C x3) (fun _=>True):=by
 unfold F58;have v:=m.Cells;refine pG (l:=C.Cells) (fun q=>q.2) (iI2 m.Cells (by decide)) rfl (fun H e q279 n b g d j=>?_) (fun q279 b=>?_) fun U=>?_;obtain⟨u,A⟩:=q279;dsimp only at b g d j;simp only[g,d,nt];have a:=m.CellsE _ n;refine Ob (P:=fun r=>¬r=true->¬(u||((e.Voices.length:Int)==0))=true) ?_ fun B t=>?_;refine Oi (fun _=>.mk (fun h=>absurd rfl h)) (fun c283=>?_);have w:=a.Voices;refine Ob (P:=fun x=>x∈e.Voices) (bX (by omega) (by(simp only[nm]at *;omega)) (fun _ h _=>h)) fun O o=>?_;have L:=a.VoicesE _ o;exact .mk (fun _=>c283);refine Ob (P:=fun r=>¬r=true->¬B=true) ?_ fun S G=>?_;refine Oi (fun _=>.mk (fun h=>absurd rfl h)) (fun c289=>?_);have K:=t c289;have y:=a.Voices;refine Ob (P:=fun x=>x∈e.Voices) (bX (by(simp only[nm]at *;rw[bN (by omega) (by omega)];omega)) (by(simp only[nm]at *;rw[bN (by omega) (by omega)];omega)) (fun _ h _=>h)) fun R p=>?_;have M:=a.VoicesE _ p;exact .mk (fun _=>c289);have z:=a.Voices;refine pG (l:=e.Voices) (fun q=>q.2) (iI2 a.Voices (by decide)) rfl (fun J F q305 s c i f k=>?_) (fun q305 c=>?_) fun T=>?_;obtain⟨D,E⟩:=q305;dsimp only at c i f k;simp only[i,d,f,nt];have N:=a.VoicesE _ s;exact .mk k;obtain⟨D,E⟩:=q305;dsimp only at c;simp only[c,nf];exact bB;exact .mk j;obtain⟨u,A⟩:=q279;dsimp only at b;simp only[b,nf];exact bB;exact bB
theorem zF1 {x1:Int} {i:aA YV} {x3:Y0} {t:Int} (p:i.length+12<=1000000) (f:x3.sm):Ok (Yz x1 i x3 t) (fun v=>i.length<=v.length/\v.length<=i.length+12):=by
 unfold Yz;have j:=f.Measures;refine og x3.Measures i 12 1 (iI2 f.Measures (by decide)) (fun n l q319 k g a d b c e=>?_) (fun q319 a b=>?_) fun s o=>?_;obtain⟨u,w⟩:=q319;dsimp only at a d c e b;simp only[d,c,nt];have h:=f.MeasuresE _ g;refine bZ (T58 h) fun q=>?_;refine Ob (kO (by first|omega|(simp only[iR2]at *;omega)) f) fun r m=>?_;exact .mk ⟨e,by dsimp only;omega⟩;obtain⟨u,w⟩:=q319;dsimp only at a b;simp only[a,nf];exact .mk (by dsimp only;omega);exact .mk (by omega)
theorem pP1 {x1:aA YV} {d:Y0} {x3:Int} (e:x1.length+12<=1000000) (a:d.sm):Ok (Tn x1 d x3) (fun v=>x1.length<=v.length/\v.length<=x1.length+12):=by
 unfold Tn;refine Ob (T56 a) fun f b=>?_;refine Ob (zF1 (by first|omega|(simp only[iR2]at *;omega)) a) fun g c=>?_;exact .mk (by omega)
theorem zG1:Ok (Za) (fun _=>True):=by
 unfold Za;exact bB
theorem zH1 {x1:Int}:Ok (Zb x1) (fun _=>True):=by
 unfold Zb;refine Oi (fun c326=>?_) (fun c326=>?_);exact bB;refine bZ (zG1) fun b=>?_;refine Ob (bX (Q:=fun _=>True) (by(simp only[nm]at *;rw[bN (by omega) (by omega)];omega)) (by(simp only[nm,nl]at *;rw[bN (by omega) (by omega)];omega)) (fun _ _ _=>trivial)) fun x3 a=>?_;exact bB
theorem T59 {x1:Int}:Ok (F59 x1) (fun _=>True):=by
 unfold F59;refine bZ (zH1) fun⟨a,x3⟩=>?_;exact bB
theorem zI1 {x1:YX}:Ok (Zc x1) (fun _=>True):=by
 unfold Zc;refine Oi (fun _=>bB) (fun _=>?_);refine Ob (P:=fun _=>True) (iW (fun q=>q.2.2) 6 (fun _=>True) (by decide) (by decide) trivial (fun q _ h1 h2=>?_)) fun r _=>?_;obtain⟨a,n,i⟩:=q;dsimp only at h1 h2 ⊢;refine Oi (fun hc=>?_) (fun _=>bB);simp only[iO2]at hc;refine Ob (bX (Q:=fun _=>True) h1 hc (fun _ _ _=>trivial)) fun x _=>?_;refine Oi (fun _=>bB) (fun _=>?_);refine Ob (P:=fun _=>True) (Oi (fun _=>bB) (fun _=>bB)) fun v _=>.mk ⟨hc,h2 hc,trivial⟩;rcases r with⟨a,b⟩|⟨a,b⟩<;>exact bB
theorem zJ1 {x1:YX}:Ok (Zd x1) (fun v=>v=0->x1.Unit≠0):=by
 unfold Zd;refine Oi (fun c330=>?_) (fun c330=>?_);exact .mk (by omega);refine Oi (fun c331=>?_) (fun c331=>?_);exact .mk (by omega);refine bZ (zI1) fun a=>?_;refine Oi (fun c333=>?_) (fun c333=>?_);exact .mk (by omega);exact .mk (by(simp only[nm]at *;omega))
theorem zK1 {x1:YX} (b:x1.Unit≠0):Ok (Ze x1) (fun _=>True):=by
 unfold Ze;refine Ob (sK (by omega)) fun c a=>?_;exact bB
theorem zL1 {x1:YX} (a:x1.Unit≠0):Ok (Zf x1) (fun _=>True):=by
 unfold Zf;refine bZ (zK1 (by omega)) fun b=>?_;exact bB
theorem zM1 {x1:YX}:Ok (Zg x1) (fun _=>True):=by
 unfold Zg;refine Ob (zJ1) fun b a=>?_;refine Oi (fun c337=>?_) (fun c337=>?_);exact bB;refine bZ (zL1 (by(simp only[nm]at *;omega))) fun x3=>?_;exact bB
theorem T61 {x1:YM} (b:x1.sm):Ok (Zh x1) (fun _=>True):=by
 unfold Zh;refine bZ (zM1) fun⟨c,x3⟩=>?_;refine Oi (fun c340=>?_) (fun c340=>?_);exact bB;refine Oi (fun c341=>?_) (fun c341=>?_);exact bB;refine bZ ?_ fun d=>?_;refine Oi (fun c343=>?_) (fun c343=>?_);exact bB;exact bB;refine Ob (Dv (by omega)) fun e a=>?_;refine Oi (fun c345=>?_) (fun c345=>?_);exact bB;refine Oi (fun c346=>?_) (fun c346=>?_);exact bB;exact bB
theorem T60 {x1:Int} {B:YM} (k:B.sm):Ok (F60 x1 B) (fun _=>True):=by
 unfold F60;refine bZ (T61 k) fun⟨x3,X⟩=>?_;have y:=k.Cells;refine pG (l:=B.Cells) (fun q=>q.2) (iI2 k.Cells (by decide)) rfl (fun K m q358 o a e c g=>?_) (fun q358 a=>?_) fun W=>?_;obtain⟨C,D⟩:=q358;dsimp only at a e c g;simp only[e,c,nt];have j:=k.CellsE _ o;have z:=j.Clefs;refine pG (l:=m.Clefs) (fun q=>q.2) (iI2 j.Clefs (by decide)) rfl (fun L G q371 v b f d i=>?_) (fun q371 b=>?_) fun V=>?_;obtain⟨t,u⟩:=q371;dsimp only at b f d i;simp only[f,c,d,nt];refine Ob (P:=fun r=>¬r=true->¬t=true) ?_ fun E n=>?_;refine Oi (fun _=>.mk (fun h=>absurd rfl h)) (fun c374=>?_);refine bZ (T59) fun O=>?_;exact .mk (fun _=>c374);refine Ob (P:=fun r=>¬r=true->¬E=true) ?_ fun F p=>?_;refine Oi (fun _=>.mk (fun h=>absurd rfl h)) (fun c377=>?_);have M:=n c377;refine bZ (Jq) fun R=>?_;exact .mk (fun _=>c377);refine Ob (P:=fun r=>¬r=true->¬F=true) ?_ fun U H=>?_;refine Oi (fun _=>.mk (fun h=>absurd rfl h)) (fun c381=>?_);have s:=p c381;have N:=n s;refine Ob (P:=fun r=>r=true->(decide (u>0))=true) ?_ fun T J=>?_;refine Oi (fun c385=>?_) (fun _=>.mk (fun h=>by cases h));have A:=j.Clefs;refine Ob (P:=fun x=>x∈m.Clefs) (bX (by(simp only[nm]at *;rw[bN (by omega) (by omega)];omega)) (by(simp only[nm]at *;rw[bN (by omega) (by omega)];omega)) (fun _ h _=>h)) fun S w=>?_;exact .mk (fun _=>c385);exact .mk (fun _=>c381);exact .mk i;obtain⟨t,u⟩:=q371;dsimp only at b;simp only[b,nf];exact bB;exact .mk g;obtain⟨C,D⟩:=q358;dsimp only at a;simp only[a,nf];exact bB;exact bB
theorem hK1 {x1:aA YV} {k:Y0} {x3:Int} (p:x1.length+12<=1000000) (f:k.sm):Ok (Cz x1 k x3) (fun v=>x1.length<=v.length/\v.length<=x1.length+12):=by
 unfold Cz;have i:=f.Measures;refine og k.Measures x1 12 1 (iI2 f.Measures (by decide)) (fun n l q400 j g a d b c e=>?_) (fun q400 a b=>?_) fun s o=>?_;obtain⟨t,u⟩:=q400;dsimp only at a d c e b;simp only[d,c,nt];have h:=f.MeasuresE _ g;refine bZ (T60 h) fun q=>?_;refine Ob (kO (by first|omega|(simp only[iR2]at *;omega)) f) fun r m=>?_;exact .mk ⟨e,by dsimp only;omega⟩;obtain⟨t,u⟩:=q400;dsimp only at a b;simp only[a,nf];exact .mk (by dsimp only;omega);exact .mk (by omega)
theorem pQ1 {x1:aA YV} {w:Y0} {x3:Int} (G:x1.length+32<=1000000) (f:w.sm):Ok (Tp x1 w x3) (fun v=>x1.length<=v.length/\v.length<=x1.length+32):=by
 unfold Tp;have q:=f.Parts;refine og w.Parts x1 20 5 (iI2 f.Parts (by decide)) (fun C n q416 s m a h c e j=>?_) (fun q416 a c=>?_) fun L E=>?_;obtain⟨u,o⟩:=q416;dsimp only at a h e j c;simp only[h,e,nt];have l:=f.PartsE _ m;have r:=l.Staves;refine og n.Staves o 5 1 (iI2 l.Staves (by decide)) (fun D z q430 t p b i d g k=>?_) (fun q430 b d=>?_) fun K F=>?_;obtain⟨x,y⟩:=q430;dsimp only at b i g k d;simp only[i,e,g,nt];refine bZ (T59) fun H=>?_;refine Ob (kO (by first|omega|(simp only[iR2]at *;omega)) f) fun J A=>?_;exact .mk ⟨k,by dsimp only;omega⟩;obtain⟨x,y⟩:=q430;dsimp only at b d;simp only[b,nf];exact .mk (by dsimp only;omega);exact .mk ⟨j,by dsimp only;omega⟩;obtain⟨u,o⟩:=q416;dsimp only at a c;simp only[a,nf];exact .mk (by dsimp only;omega);refine Ob (hK1 (by first|omega|(simp only[iR2]at *;omega)) f) fun M B=>?_;exact .mk (by omega)
theorem zN1 {x1:Int}:Ok (Zj x1) (fun _=>True):=by
 unfold Zj;refine Oi (fun c435=>?_) (fun c435=>?_);exact bB;exact bB
theorem T63 {x1:Int} {a:YL}:Ok (F63 x1 a) (fun _=>True):=by
 unfold F63;refine Ob zN1 fun c _=>?_;refine Oi (fun _=>bB) (fun _=>?_);refine Oi (fun _=>bB) (fun _=>?_);have hw:=Vh (x1+(bE ((bE (7*a.Semitones))-(bE (12*a.Steps)))));generalize bE (x1+(bE ((bE (7*a.Semitones))-(bE (12*a.Steps)))))=x0 at hw ⊢;refine Ob (P:=fun v=> -9223372036854775808<=v/\v<=7) (bW (fun x=> -9223372036854775808<=x/\x<=9223372036854775807) (fun x=>(x+9223372036854775808).toNat) (fun x b=>?_) bC x0 hw (by simp only[bC];omega)) fun x1 h1=>?_;refine Oi (fun hc=>?_) (fun hc=>?_)<;>simp only[iO2]at hc;rw[bN (by omega) (by omega)];exact .mk ⟨by omega,by omega⟩;exact .mk (by omega);refine Ob (P:=fun v=>True) (bW (fun x=> -9223372036854775808<=x/\x<=7) (fun x=>(7-x).toNat) (fun x b=>?_) bC x1 h1 (by simp only[bC];omega)) fun a _=>bB;refine Oi (fun hc=>?_) (fun hc=>?_)<;>simp only[iO2]at hc;rw[bN (by omega) (by omega)];exact .mk ⟨by omega,by omega⟩;exact bB
theorem T62 {x1:Int} {s:YM} {x3:YK} (g:s.sm) (e:x3.s'.sm):Ok (F62 x1 s x3) (fun _=>True):=by
 unfold F62;refine bZ (T61 g) fun⟨y,x⟩=>?_;refine Ob (P:=fun r=>¬r=true->¬(x !=0)=true) ?_ fun A n=>?_;refine Oi (fun _=>.mk (fun h=>absurd rfl h)) (fun c438=>?_);refine bZ (Jq) fun z=>?_;exact .mk (fun _=>c438);have i:=e.Parts;refine pG (l:=x3.s'.Parts) (fun q=>q.2) (iI2 e.Parts (by decide)) rfl (fun o m q450 f a c b d=>?_) (fun q450 a=>?_) fun w=>?_;obtain⟨j,k⟩:=q450;dsimp only at a c b d;simp only[c,b,nt];have p:=e.PartsE _ f;refine bZ ?_ fun v=>?_;refine Oi (fun c454=>?_) (fun c454=>?_);refine bZ (T63) fun⟨t,u⟩=>?_;exact bB;exact bB;exact .mk d;obtain⟨j,k⟩:=q450;dsimp only at a;simp only[a,nf];exact bB;exact bB
theorem hL1 {x1:aA YV} {k:Y0} {x3:Int} (p:x1.length+12<=1000000) (c:k.sm):Ok (Da x1 k x3) (fun v=>x1.length<=v.length/\v.length<=x1.length+12):=by
 unfold Da;have i:=c.Measures;refine og k.Measures x1 12 1 (iI2 c.Measures (by decide)) (fun n l q467 j g a e b d f=>?_) (fun q467 a b=>?_) fun s o=>?_;obtain⟨t,u⟩:=q467;dsimp only at a e d f b;simp only[e,d,nt];have h:=c.MeasuresE _ g;refine bZ (T62 h c) fun q=>?_;refine Ob (kO (by first|omega|(simp only[iR2]at *;omega)) c) fun r m=>?_;exact .mk ⟨f,by dsimp only;omega⟩;obtain⟨t,u⟩:=q467;dsimp only at a b;simp only[a,nf];exact .mk (by dsimp only;omega);exact .mk (by omega)
theorem pR1 {x1:aA YV} {c:Y0} {x3:Int} (d:x1.length+12<=1000000) (a:c.sm):Ok (Tq x1 c x3) (fun v=>x1.length<=v.length/\v.length<=x1.length+12):=by
 unfold Tq;refine Ob (hL1 (by first|omega|(simp only[iR2]at *;omega)) a) fun e b=>?_;exact .mk (by omega)
theorem tY {x1 a:Int}:Ok (pF x1 a) (fun _=>True):=by
 unfold pF;refine Oi (fun c473=>?_) (fun c473=>?_);exact bB;exact bB
theorem Vm {x1:aA Int} (e:x1.length<=20):Ok (Gs x1) (fun _=>True):=by
 unfold Gs;have g:=e;refine pG (l:=x1) (fun q=>q) (iI2 e (by decide)) rfl (fun i h x3 f a c b d=>?_) (fun x3 a=>?_) fun j=>?_;simp only[c,b,nt];refine Oi (fun c485=>?_) (fun c485=>?_);exact bB;exact .mk d;simp only[a,nf];exact bB;rcases j with k|_;exact bB;exact bB
theorem pS1 {x1:Int}:Ok (Ts x1) (fun _=>True):=by
 unfold Ts;exact bB
theorem zO1 {x1:Int}:Ok (Zl x1) (fun _=>True):=by
 unfold Zl;refine Oi (fun c486=>?_) (fun c486=>?_);exact bB;exact bB
theorem zP1 {x1:YE} (c:x1.sm):Ok (Zm x1) (fun v=>v.sm):=by
 unfold Zm;refine Ob (P:=fun r=>¬r=true->¬(x1.Kind==1)=true) ?_ fun x3 a=>?_;refine Oi (fun _=>.mk (fun h=>absurd rfl h)) (fun c488=>?_);refine bZ (pS1) fun d=>?_;exact .mk (fun _=>c488);refine Oi (fun c490=>?_) (fun c490=>?_);exact .mk (by first|assumption|exact⟨iV2 _,iV2 _,iV2 _,fun _ h=>nomatch h⟩);have b:=a c490;refine bZ ?_ fun e=>?_;refine Oi (fun c493=>?_) (fun c493=>?_);exact bB;exact bB;refine bZ ?_ fun g=>?_;refine Oi (fun c495=>?_) (fun c495=>?_);refine bZ (zO1) fun f=>?_;exact bB;exact bB;exact .mk (by first|assumption|exact⟨iV2 _,iV2 _,iV2 _,fun _ h=>nomatch h⟩)
theorem zQ1 {x1 m:aA YB} (e:x1.length<=12) (f:m.length<=12):Ok (Zn x1 m) (fun _=>True):=by
 unfold Zn;refine Oi (fun c497=>?_) (fun c497=>?_);exact bB;have j:=e;refine pG (l:=x1) (fun q=>q) (iI2 e (by decide)) rfl (fun o n p g a c b d=>?_) (fun p a=>?_) fun r=>?_;simp only[c,b,nt];have k:=f;refine Ob (P:=fun x=>x∈m) (bX (by omega) (by(simp only[nm]at *;omega)) (fun _ h _=>h)) fun s i=>?_;refine Oi (fun c512=>?_) (fun c512=>?_);exact bB;exact .mk d;simp only[a,nf];exact bB;rcases r with _|_;exact bB;exact bB
theorem zR1 {x1 m:aA YD} (e:x1.length<=12) (f:m.length<=12):Ok (Zo x1 m) (fun _=>True):=by
 unfold Zo;refine Oi (fun c513=>?_) (fun c513=>?_);exact bB;have j:=e;refine pG (l:=x1) (fun q=>q) (iI2 e (by decide)) rfl (fun o n p g a c b d=>?_) (fun p a=>?_) fun r=>?_;simp only[c,b,nt];have k:=f;refine Ob (P:=fun x=>x∈m) (bX (by omega) (by(simp only[nm]at *;omega)) (fun _ h _=>h)) fun s i=>?_;refine Oi (fun c528=>?_) (fun c528=>?_);exact bB;exact .mk d;simp only[a,nf];exact bB;rcases r with _|_;exact bB;exact bB
theorem zS1 {x1 k:aA YY} (g:x1.length<=12) (i:∀y∈x1,y.sm) (m:k.length<=12) (j:∀y∈k,y.sm):Ok (Zp x1 k) (fun _=>True):=by
 unfold Zp;refine Oi (fun c529=>?_) (fun c529=>?_);exact bB;have n:=g;refine pG (l:=x1) (fun q=>q) (iI2 g (by decide)) rfl (fun r p u d a c b f=>?_) (fun u a=>?_) fun v=>?_;simp only[c,b,nt];have s:=i _ d;have o:=m;refine Ob (P:=fun x=>x∈k) (bX (by omega) (by(simp only[nm]at *;omega)) (fun _ h _=>h)) fun w e=>?_;have t:=j _ e;refine Oi (fun c546=>?_) (fun c546=>?_);exact bB;exact .mk f;simp only[a,nf];exact bB;rcases v with _|_;exact bB;exact bB
theorem zT1 {x1 a:YE} (b:x1.sm) (c:a.sm):Ok (Zq x1 a) (fun _=>True):=by
 unfold Zq;refine Ob (P:=fun r=>r=true->(((((((x1.Kind==a.Kind)&&(((x1.Value.Log==a.Value.Log)&&((x1.Value.Dots==a.Value.Dots)&&true))!=false))&&(x1.Articulations==a.Articulations))&&(x1.Ornament==a.Ornament))&&(x1.Dynamic==a.Dynamic))&&(x1.Stem==a.Stem))&&(x1.Beam==a.Beam))=true) ?_ fun k d=>?_;refine Oi (fun c548=>?_) (fun _=>.mk (fun h=>by cases h));refine bZ (zQ1 b.Heads c.Heads) fun x3=>?_;exact .mk (fun _=>c548);refine Ob (P:=fun r=>r=true->k=true) ?_ fun l e=>?_;refine Oi (fun c551=>?_) (fun _=>.mk (fun h=>by cases h));have i:=d c551;refine bZ (zR1 b.Graces c.Graces) fun m=>?_;exact .mk (fun _=>c551);refine Ob (P:=fun r=>r=true->l=true) ?_ fun o g=>?_;refine Oi (fun c555=>?_) (fun _=>.mk (fun h=>by cases h));have f:=e c555;have j:=d f;refine bZ (zS1 b.Lyrics b.LyricsE c.Lyrics c.LyricsE) fun n=>?_;exact .mk (fun _=>c555);exact bB
theorem pT1 {x1:YA}:Ok (Tt x1) (fun v=>v=0-> -1<=x1.Log/\x1.Log<=8/\0<=x1.Dots/\x1.Dots<=3):=by
 unfold Tt;refine Oi (fun c559=>?_) (fun c559=>?_);exact .mk (by omega);exact .mk (by(simp only[nm]at *;omega))
theorem zU1:Ok (Zr) (fun _=>True):=by
 unfold Zr;exact bB
theorem pU1 {x1:YH} (b:0<=x1.Step/\x1.Step<=6):Ok (Tu x1) (fun _=>True):=by
 unfold Tu;refine bZ (zU1) fun c=>?_;refine Ob (bX (Q:=fun _=>True) (by omega) (by(simp only[nm,nl]at *;omega)) (fun _ _ _=>trivial)) fun x3 a=>?_;exact bB
theorem zV1 {x1:YH}:Ok (Zs x1) (fun v=>v=0->0<=x1.Step/\x1.Step<=6):=by
 unfold Zs;refine Oi (fun c562=>?_) (fun c562=>?_);exact .mk (by omega);refine bZ (pU1 (by(simp only[nm]at *;omega))) fun a=>?_;refine Oi (fun c564=>?_) (fun c564=>?_);exact .mk (by omega);exact .mk (by(simp only[nm]at *;omega))
theorem T73 {x1:YH}:Ok (F73 x1) (fun _=>True):=by
 unfold F73;refine Ob (zV1) fun b a=>?_;refine Oi (fun c566=>?_) (fun c566=>?_);exact bB;refine bZ (pU1 (by(simp only[nm]at *;omega))) fun x3=>?_;exact bB
theorem hO1 {x1:YH}:Ok (Ov x1) (fun _=>True):=by
 unfold Ov;refine bZ (T73) fun⟨a,x3⟩=>?_;refine Oi (fun c569=>?_) (fun c569=>?_);exact bB;exact bB
theorem zW1 {x1:YB}:Ok (Zt x1) (fun _=>True):=by
 unfold Zt;refine bZ (hO1) fun⟨a,x3⟩=>?_;refine bZ (tY) fun b=>?_;refine bZ (Vm (by simp)) fun c=>?_;exact bB
theorem zX1 {x1:aA YB} (e:x1.length<=12):Ok (Zu x1) (fun _=>True):=by
 unfold Zu;refine Oi (fun c573=>?_) (fun c573=>?_);exact bB;refine Oi (fun c574=>?_) (fun c574=>?_);exact bB;have g:=e;refine pG (l:=x1) (fun q=>q.2) (iI2 e (by decide)) rfl (fun j i q585 f a c b d=>?_) (fun q585 a=>?_) fun h=>?_;obtain⟨o,p⟩:=q585;dsimp only at a c b d;simp only[c,b,nt];refine bZ (zW1) fun r=>?_;refine Oi (fun c588=>?_) (fun c588=>?_);exact bB;refine bZ (hO1) fun⟨k,m⟩=>?_;refine Oi (fun c590=>?_) (fun c590=>?_);exact bB;exact .mk d;obtain⟨o,p⟩:=q585;dsimp only at a;simp only[a,nf];exact bB;rcases h with n|_;exact bB;exact bB
theorem zY1 {x1:aA YD} (e:x1.length<=12):Ok (Zv x1) (fun _=>True):=by
 unfold Zv;refine Oi (fun c591=>?_) (fun c591=>?_);exact bB;have g:=e;refine pG (l:=x1) (fun q=>q) (iI2 e (by decide)) rfl (fun j i k f a c b d=>?_) (fun k a=>?_) fun h=>?_;simp only[c,b,nt];refine bZ (hO1) fun⟨m,n⟩=>?_;refine Oi (fun c604=>?_) (fun c604=>?_);exact bB;refine Oi (fun c605=>?_) (fun c605=>?_);exact bB;exact .mk d;simp only[a,nf];exact bB;rcases h with o|_;exact bB;exact bB
theorem zZ1 {x1:YY} (a:x1.sm):Ok (Zw x1) (fun _=>True):=by
 unfold Zw;refine Oi (fun _=>bB) (fun _=>?_);refine Oi (fun _=>bB) (fun _=>?_);have hs:=a.Text;refine Ob (P:=fun _=>True) (iW (fun q=>q) (x1.Text.size:Int) (fun _=>True) (by omega) (by decide) trivial (fun i _ h1 h2=>?_)) fun r _=>?_;refine Oi (fun hc=>?_) (fun _=>bB);simp only[iO2]at hc;refine Ob (tW h1 hc) fun b _=>?_;refine Ob (P:=fun _=>True) (Oi (fun _=>bB) (fun _=>Ob (tW h1 hc) fun b _=>bB)) fun b _=>?_;exact Oi (fun _=>bB) (fun _=>.mk ⟨hc,h2 hc,trivial⟩);rcases r with _|_;exact bB;exact Oi (fun _=>bB) (fun _=>bB)
theorem aA2 {x1:YY} (a:x1.sm):Ok (Zx x1) (fun _=>True):=by
 unfold Zx;exact bB
theorem aB2 {x1:aA YY} (c:x1.length<=12) (b:∀y∈x1,y.sm):Ok (Zy x1) (fun _=>True):=by
 unfold Zy;refine Oi (fun c606=>?_) (fun c606=>?_);exact bB;have n:=c;refine pG (l:=x1) (fun q=>q) (iI2 c (by decide)) rfl (fun s p w f a e d i=>?_) (fun w a=>?_) fun z=>?_;simp only[e,d,nt];have k:=b _ f;refine bZ (zZ1 k) fun A=>?_;refine Oi (fun c620=>?_) (fun c620=>?_);exact bB;exact .mk i;simp only[a,nf];exact bB;rcases z with B|_;exact bB;refine Ob (P:=fun r=>r=true->(decide ((x1.length:Int)>0))=true) ?_ fun v j=>?_;refine Oi (fun c622=>?_) (fun _=>.mk (fun h=>by cases h));have o:=c;refine Ob (P:=fun x=>x∈x1) (bX (by(simp only[nm]at *;rw[bN (by omega) (by omega)];omega)) (by(simp only[nm]at *;rw[bN (by omega) (by omega)];omega)) (fun _ h _=>h)) fun C g=>?_;have m:=b _ g;refine bZ (aA2 m) fun u=>?_;exact .mk (fun _=>c622);refine Oi (fun c628=>?_) (fun c628=>?_);have t:=j c628;exact bB;exact bB
theorem T69 {x1:YE} (a:x1.sm):Ok (Zz x1) (fun _=>True):=by
 unfold Zz;refine bZ (tY) fun x=>?_;refine bZ (tY) fun x3=>?_;refine bZ (Vm (by simp)) fun y=>?_;refine Oi (fun c633=>?_) (fun c633=>?_);exact bB;refine bZ (pS1) fun z=>?_;refine Oi (fun c635=>?_) (fun c635=>?_);exact bB;refine Ob (zP1 a) fun A b=>?_;refine bZ (zT1 a b) fun B=>?_;refine Oi (fun c638=>?_) (fun c638=>?_);exact bB;refine Ob (P:=fun r=>r=true->(x1.Kind !=3)=true) ?_ fun D c=>?_;refine Oi (fun c640=>?_) (fun _=>.mk (fun h=>by cases h));refine Ob (pT1) fun C d=>?_;exact .mk (fun _=>c640);refine Oi (fun c642=>?_) (fun c642=>?_);have e:=c c642;exact bB;refine Oi (fun c644=>?_) (fun c644=>?_);refine bZ (zX1 a.Heads) fun f=>?_;refine bZ (zY1 a.Graces) fun g=>?_;refine bZ (aB2 a.Lyrics a.LyricsE) fun i=>?_;refine bZ (Vm (by simp)) fun j=>?_;refine Oi (fun c649=>?_) (fun c649=>?_);exact bB;refine bZ (tY) fun k=>?_;refine bZ (tY) fun l=>?_;refine bZ (tY) fun m=>?_;refine bZ (tY) fun n=>?_;refine bZ (tY) fun o=>?_;refine bZ (Vm (by simp)) fun p=>?_;exact bB;refine bZ (tY) fun q=>?_;refine bZ (tY) fun s=>?_;refine bZ (tY) fun t=>?_;refine bZ (tY) fun u=>?_;refine bZ (tY) fun v=>?_;refine bZ (Vm (by simp)) fun w=>?_;exact bB
theorem aC2 {x1:YE} (a:x1.sm):Ok (aA1 x1) (fun _=>True):=by
 unfold aA1;refine bZ (T69 a) fun b=>?_;exact bB
theorem aD2 {x1:aA YE} (f:x1.length<=20) (g:∀y∈x1,y.sm):Ok (aB1 x1) (fun _=>True):=by
 unfold aB1;have i:=f;refine pG (l:=x1) (fun q=>q) (iI2 f (by decide)) rfl (fun k j m d a c b e=>?_) (fun m a=>?_) fun n=>?_;simp only[c,b,nt];have h:=g _ d;refine bZ (aC2 h) fun o=>?_;refine Oi (fun c676=>?_) (fun c676=>?_);exact bB;exact .mk e;simp only[a,nf];exact bB;rcases n with p|_;exact bB;exact bB
theorem pV1 {x1:aA YE} (b:x1.length<=20) (a:∀y∈x1,y.sm):Ok (Tw x1) (fun _=>True):=by
 unfold Tw;refine bZ (aD2 b a) fun c=>?_;exact bB
theorem aE2 {x1:YO} (b:x1.sm):Ok (aC1 x1) (fun _=>True):=by
 unfold aC1;refine Ob (P:=fun r=>r=true->(decide ((x1.Events.length:Int)>0))=true) ?_ fun x3 d=>?_;refine Oi (fun c679=>?_) (fun _=>.mk (fun h=>by cases h));have c:=b.Events;refine Ob (P:=fun x=>x∈x1.Events) (bX (by omega) (by(simp only[nm]at *;omega)) (fun _ h _=>h)) fun f a=>?_;have e:=b.EventsE _ a;exact .mk (fun _=>c679);exact bB
theorem aF2 {x1:YA} (b: -1<=x1.Log/\x1.Log<=8/\0<=x1.Dots/\x1.Dots<=3):Ok (aD1 x1) (fun _=>True):=by
 unfold aD1;refine Ob (sL (by rw[bN (by omega) (by omega)];omega)) fun n _=>?_;refine Ob (P:=fun _=>True) (iW (fun q=>q.2.2) x1.Dots (fun _=>True) (by omega) (by dsimp only;omega) trivial (fun q _ h1 h2=>?_)) fun r _=>bB;obtain⟨a,n,i⟩:=q;dsimp only at h1 h2 ⊢;refine Oi (fun hc=>?_) (fun _=>bB);simp only[iO2]at hc;exact Ob (sK (by decide)) fun x _=>.mk ⟨hc,h2 hc,trivial⟩
theorem aG2 {x1:YA}:Ok (aE1 x1) (fun _=>True):=by
 unfold aE1;refine Ob (pT1) fun b a=>?_;refine Oi (fun c685=>?_) (fun c685=>?_);exact bB;refine bZ (aF2 (by(simp only[nm]at *;omega))) fun x3=>?_;exact bB
theorem aH2 {x1:YE} (a:x1.sm):Ok (aF1 x1) (fun _=>True):=by
 unfold aF1;refine bZ (T69 a) fun b=>?_;refine Oi (fun c688=>?_) (fun c688=>?_);exact bB;refine bZ (aG2) fun⟨x3,c⟩=>?_;exact bB
theorem aI2 {x1:aA YE} (g:x1.length<=20) (c:∀y∈x1,y.sm):Ok (aG1 x1) (fun v=>v.length<=20):=by
 unfold aG1;refine Ob (sM (by omega) (by omega) (by omega)) fun n h2=>?_;refine Ob (P:=fun v=>v.length=x1.length) (bQ (l:=x1) (fun q=>q.1) (fun _ q=>q.2.length=x1.length) (by omega) rfl (by rw[h2];simp) (fun i e q k f hi hl d hg hw=>?_) (fun q hi d=>?_)) fun v hv=>.mk (by omega);obtain⟨x,l⟩:=q;dsimp only at hi hl d hg hw;simp only[hl,hg,nt];refine Ob (aH2 (c e f)) fun⟨a,b⟩ _=>?_;refine Ob (iV (by omega) (by omega)) fun j h=>?_;refine Ob (Mh (by omega)) fun m f=>.mk ⟨hw,by dsimp only;omega⟩;obtain⟨x,l⟩:=q;dsimp only at hi d;simp only[hi,nf];exact .mk d
theorem pW1 {x1:Int}:Ok (Tx x1) (fun v=>v=true->1<=x1/\x1<=32):=by
 unfold Tx;exact .mk (by(simp only[nm]at *;omega))
theorem aJ2 {x1 a:YU}:Ok (aH1 x1 a) (fun _=>True):=by
 unfold aH1;refine Oi (fun c690=>?_) (fun c690=>?_);refine Oi (fun c691=>?_) (fun c691=>?_);exact bB;exact bB;refine Oi (fun c692=>?_) (fun c692=>?_);refine Oi (fun c693=>?_) (fun c693=>?_);exact bB;exact bB;exact bB
theorem cP1 {x1:YU}:Ok (Ji x1) (fun v=>v=bE (x1.First+x1.Count)):=by
 unfold Ji;exact .mk (by rfl)
theorem pX1 {x1:YU} {a:aA YU} (g:a.length<=6) (i:a.length<=3):Ok (Lz x1 a) (fun v=>v.2.length<=3):=by
 unfold Lz;refine Ob (P:=fun v=>v.length<=3) (bW (fun l=>l.length<=3) (fun l=>l.length) (fun l hl=>?_) bC a i (by simp only[bC];omega)) fun x d=>?_;refine Ob (P:=fun r=>r=true->0<l.length) (Oi (fun hc=>?_) (fun _=>.mk (fun h=>by cases h))) fun b hb=>?_;simp only[iO2]at hc;refine Ob (iV (by rw[bN (by omega) (by omega)];omega) (by rw[bN (by omega) (by omega)];omega)) fun j c=>?_;exact Ob (lA c.2) fun y _=>Ob cP1 fun e _=>.mk (fun _=>by omega);refine Oi (fun hc=>?_) (fun _=>.mk hl);have:=hb hc;refine Ob (Pc this (by rw[bN (by omega) (by omega)];omega) (by rw[bN (by omega) (by omega)];omega)) fun m f=>?_;have:=f.1;rw[bN (by omega) (by omega)]at this;exact .mk ⟨by omega,by omega⟩;refine Ob (P:=fun r=>r=true\/x.length<3) (Oi (fun hc=>.mk (.inl rfl)) (fun hc=>?_)) fun b hb=>?_;have hc:x.length<3:=by simp only[jZ2]at hc;omega
 refine Ob (P:=fun _=>True) (Oi (fun hd=>?_) (fun _=>bB)) fun b _=>.mk (.inr hc);simp only[iO2]at hd;refine Ob cP1 fun e _=>?_;refine Ob (iV (by rw[bN (by omega) (by omega)];omega) (by rw[bN (by omega) (by omega)];omega)) fun j c=>?_;exact Ob (lA c.2) fun y _=>Ob cP1 fun e _=>bB;refine Oi (fun _=>.mk d) (fun hc=>?_);have hb:x.length<3:=by rcases hb with h|h;exact absurd h hc;exact h
 refine Ob (fF (Q:=fun v=>v.length=x.length+1) (by omega) (by simp)) fun m f=>.mk (by dsimp only;omega)
theorem aK2 {x1:aA YU} {c:Int} (w:x1.length<=6):Ok (aI1 x1 c) (fun v=>v=0->∀t∈x1,t.ok c):=by
 unfold aI1;refine Oi (fun _=>.mk (fun h=>by cases h)) (fun k=>?_);refine Oi (fun _=>.mk (fun h=>by cases h)) (fun _=>?_);simp only[iS2,iO2,lI2]at k;refine Ob (P:=fun r=>match r with|.inl p=>p.1≠0|.inr _=>∀t∈x1,t.ok c) (bQ (l:=x1) (fun q=>q.1) (fun i q=>q.2.length<=3/\∀j,j<i->∀t,x1[j]? =some t->t.ok c) (by omega) rfl ⟨by decide,fun j g=>by omega⟩ (fun i e q z u hi hl d hg hw=>?_) (fun q hi d=>?_)) fun v hv=>?_;obtain⟨x,l⟩:=q;dsimp only at hi hl d hg hw;simp only[hl,hg,nt];refine Ob (P:=fun r=>r=false->(1<=e.Count/\e.Count<=c/\0<=e.First/\e.First+e.Count<=c/\1<=e.Actual/\e.Actual<=32)) (Oi (fun _=>.mk (fun h=>by cases h)) (fun hc=>?_)) fun b1 h1=>?_;simp only[iS2,iO2,lI2]at hc;rw[bN (by omega) (by omega)]at hc;refine Ob pW1 fun r hr=>.mk (fun h=>?_);have:=hr (by simpa using h);omega;refine Ob (P:=fun r=>r=false->e.ok c) (Oi (fun hc=>.mk (fun h=>by cases h)) (fun hc=>?_)) fun b2 h2=>?_;refine Ob pW1 fun r hr=>.mk (fun h=>?_);have:=hr (by simpa using h);have:=h1 (by simpa using hc);unfold YU.ok;omega;refine Oi (fun _=>.mk (show(2:Int)≠0 by decide)) (fun hc=>?_);have s:e.ok c:=h2 (by simp only[iS2,lI2,Bool.not_eq_true]at hc;exact hc.1);refine Ob (P:=fun _=>True) (Oi (fun hd=>?_) (fun _=>bB)) fun b3 _=>?_;simp only[iO2]at hd;have:=fG hg;refine Ob (bX (Q:=fun _=>True) (by rw[bN (by omega) (by omega)];omega) (by rw[bN (by omega) (by omega)];omega) (fun _ _ _=>trivial)) fun y _=>?_;exact Ob aJ2 fun o _=>bB;refine Oi (fun _=>.mk (show(25:Int)≠0 by decide)) (fun _=>?_);refine Ob (pX1 (jF2 d.1 (by decide)) d.1) fun⟨a,m⟩ u=>?_;refine Oi (fun _=>.mk (show(21:Int)≠0 by decide)) (fun _=>.mk ⟨hw,u,fun j g t f=>?_⟩);by_cases n:j=i;subst n;rw[z]at f;cases f;exact s;exact d.2 j (by omega) t f;obtain⟨x,l⟩:=q;dsimp only at hi d;simp only[hi,nf];refine .mk (fun t f=>?_);obtain⟨j,g⟩:=jH2.1 f;exact d.2 j (iG2.1 g).1 t g;rcases v with⟨a,b⟩|b;exact .mk (fun h=>absurd h hv);exact .mk (fun _=>hv)
theorem aL2 {x1:YU} {a:Int}:Ok (aJ1 x1 a) (fun _=>True):=by
 unfold aJ1;exact bB
theorem aM2 {x1 c:Int} (j:0<x1/\0<c/\c<9223372036854775808):Ok (aK1 x1 c) (fun v=>0<v/\v∣x1/\v∣c):=by
 unfold aK1;refine Ob (P:=fun v=>0<v/\v∣x1/\v∣c) (bW (fun q=>0<q.1/\0<=q.2/\∀d:Int,d∣q.1->d∣q.2->d∣x1/\d∣c) (fun q=>q.2.toNat) (fun q i=>?_) bC (x1,c) ⟨j.1,by dsimp only;omega,fun d h1 h2=>⟨h1,h2⟩⟩ (by simp only[bC];omega)) fun v hv=>.mk hv;obtain⟨a,b⟩:=q;obtain⟨h1,h2,h3⟩:=i;dsimp only at h1 h2 h3;refine Oi (fun hc=>?_) (fun hc=>?_)<;>simp only[iO2]at hc;refine Ob (Dv (by omega)) fun n h=>?_;have g:n=a%b:=by rw[h,Int.tmod_eq_emod_of_nonneg (by omega)]
 have e2:=Int.emod_nonneg a (by omega:b≠0);have k:=Int.emod_lt_of_pos a hc;refine .mk ⟨⟨hc,by dsimp only;omega,fun d e f=>h3 d ?_ e⟩,by dsimp only;omega⟩;dsimp only at e f;rw[g]at f;have:=Int.emod_add_mul_ediv a b;rw[<-this];exact Int.dvd_add f (Int.dvd_trans e (Int.dvd_mul_right b _));have:b=0:=by omega
 subst this;exact .mk ⟨h1,h3 a (Int.dvd_refl a) (Int.dvd_zero a)⟩
theorem aN2 {x1:aA YU} {G:Int} (u:x1.length<=6) (B:∀t∈x1,1<=t.Actual/\t.Actual<=32/\1<=t.Normal/\t.Normal<=32):Ok (aL1 x1 G) (fun v=>1<=v.2):=by
 unfold aL1;refine Ob (P:=fun v=>1<=v.2) (bQ (l:=x1) (fun q=>q.2.2) (fun i q=>1<=q.1/\q.1<=32^i/\1<=q.2.1/\q.2.1<=32^i) (by omega) rfl ⟨by decide,by decide,by decide,by decide⟩ (fun i e q C y hi hl f hg hw=>?_) (fun q hi f=>?_)) fun v hv=>.mk hv;obtain⟨a,b,x⟩:=q;dsimp only at hi hl f hg hw;simp only[hl,hg,nt];have j:=B e y;refine Ob aL2 fun c _=>?_;have w:i<=5:=by omega
 have z:(32:Int)^i<=33554432:=by
  have:i=0\/i=1\/i=2\/i=3\/i=4\/i=5:=by omega
  rcases this with rfl|rfl|rfl|rfl|rfl|rfl<;>decide
 have A:(32:Int)^(i+1)=32^i*32:=Int.pow_succ 32 i;refine Ob (P:=fun v=>1<=v.1/\v.1<=32^(i+1)/\1<=v.2/\v.2<=32^(i+1)) (Oi (fun _=>?_) (fun _=>?_)) fun⟨v1,v2⟩ hv=>.mk ⟨hw,hv⟩;have E:1<=a*e.Normal:=Int.le_trans (by decide) (lK2 f.1 j.2.2.1 (by decide) (by omega));have F:a*e.Normal<=32^i*32:=lK2 f.2.1 j.2.2.2 (by omega) (by omega);have r:1<=b*e.Actual:=Int.le_trans (by decide) (lK2 f.2.2.1 j.1 (by decide) (by omega));have s:b*e.Actual<=32^i*32:=lK2 f.2.2.2 j.2.1 (by omega) (by omega);rw[bN (n:=a*e.Normal) (by omega) (by omega),bN (n:=b*e.Actual) (by omega) (by omega)];generalize a*e.Normal=N at E F ⊢;generalize b*e.Actual=D at r s ⊢;refine Ob (aM2 ⟨by omega,by omega,by omega⟩) fun g hg=>?_;obtain⟨H,⟨k,rfl⟩,⟨m,rfl⟩⟩:=hg
 have J:1<=k:=by
  rcases Int.lt_or_le k 1 with h|h;have:=Int.mul_nonneg (a:=g) (b:= -k) (by omega) (by omega);rw[Int.mul_neg]at this;omega;exact h
 have L:1<=m:=by
  rcases Int.lt_or_le m 1 with h|h;have:=Int.mul_nonneg (a:=g) (b:= -m) (by omega) (by omega);rw[Int.mul_neg]at this;omega;exact h
 have K:k<=g*k:=by
  have:=lK2 (a:=1) (b:=k) (c:=g) (d:=k) (by omega) (kQ2 k) (by omega) (by omega);omega
 have M:m<=g*m:=by
  have:=lK2 (a:=1) (b:=m) (c:=g) (d:=m) (by omega) (kQ2 m) (by omega) (by omega);omega
 refine Ob (sK (by omega)) fun q1 o=>?_;refine Ob (sK (by omega)) fun q2 p=>?_;rw[Int.mul_tdiv_cancel_left k (by omega),show IntKind.wrap .i64 k=bE k from rfl,bN (by omega) (by omega)]at o;rw[Int.mul_tdiv_cancel_left m (by omega),show IntKind.wrap .i64 m=bE m from rfl,bN (by omega) (by omega)]at p;exact .mk ⟨by dsimp only;omega,by dsimp only;omega,by dsimp only;omega,by dsimp only;omega⟩;exact .mk ⟨f.1,by dsimp only;omega,f.2.2.1,by dsimp only;omega⟩;obtain⟨a,b,x⟩:=q;dsimp only at hi f;simp only[hi,nf];exact .mk f.2.2.1
theorem pY1 {x1:aA YU} {e x3:Int} (b:x1.length<=6) (f:∀t∈x1,1<=t.Actual/\t.Actual<=32/\1<=t.Normal/\t.Normal<=32):Ok (Ty x1 e x3) (fun _=>True):=by
 unfold Ty;refine Oi (fun c694=>?_) (fun c694=>?_);exact bB;refine Ob (aN2 b (by omega)) fun⟨g,h⟩ a=>?_
 try dsimp only at a
 refine Ob (Dv (by omega)) fun i c=>?_;refine Oi (fun c697=>?_) (fun c697=>?_);exact bB;refine Ob (sK (by omega)) fun j d=>?_;exact bB
theorem pZ1 {x1:aA YU} {f:aA Int} (d:x1.length<=6) (j:f.length<=20):Ok (Tz x1 f) (fun v=>v.1.length<=20/\(v.2=0->∀t∈x1,t.ok f.length)):=by
 unfold Tz;refine Ob (aK2 d) fun c hc=>?_;refine Oi (fun hd=>.mk ⟨iV2 _,fun h=>absurd h (by simpa using hd)⟩) (fun hd=>?_);have k:=hc (by simpa using hd);refine Ob (sM (by decide) (by omega) (by omega)) fun s h4=>?_;refine Ob (P:=fun r=>match r with|.inl p=>p.1≠0|.inr l=>l.length<=f.length) (bQ (l:=f) (fun q=>q.1) (fun i q=>q.2.length<=i) (by omega) rfl (by rw[h4];decide) (fun i e q o n hi hl g hg hw=>?_) (fun q hi g=>?_)) fun v hv=>?_;obtain⟨x,l⟩:=q;dsimp only at hi hl g hg hw;simp only[hl,hg,nt];refine Ob (pY1 d (fun t h=>by have:=k t h;unfold YU.ok at this;omega)) fun⟨a,b⟩ _=>?_;refine Oi (fun hb=>.mk (by simpa using hb)) (fun _=>?_);exact Ob (fF (Q:=fun v=>v.length=l.length+1) (by omega) (by simp)) fun m n=>.mk ⟨hw,by dsimp only;omega⟩;obtain⟨x,l⟩:=q;dsimp only at hi g;simp only[hi,nf];exact .mk g;rcases v with⟨a,b⟩|b;exact .mk ⟨iV2 _,fun h=>absurd h hv⟩;exact .mk ⟨jF2 hv j,fun _=>k⟩
theorem aO2 {x1:aA YU} {d:Int} {x3:aA Int} (j:x1.length<=6) (k:x3.length<=20) (g:0<=d/\d<(x1.length:Int)) (hy:∀t∈x1,t.ok x3.length):Ok (aM1 x1 d x3) (fun _=>True):=by
 unfold aM1;refine Ob (bX (Q:=fun x=>x∈x1) g.1 g.2 (fun _ h _=>h)) fun f c=>?_;have h4:=hy f c;unfold YU.ok at h4;refine Ob (P:=fun _=>True) (iW (fun q=>q.2) (f.First+f.Count) (fun _=>True) (by omega) (by dsimp only;omega) trivial (fun q _ h1 h2=>?_)) fun r _=>?_;obtain⟨s,i⟩:=q;dsimp only at h1 h2 ⊢;refine Ob cP1 fun e he=>?_;rw[bN (by omega) (by omega)]at he;subst he;refine Oi (fun hc=>?_) (fun _=>bB);simp only[iO2]at hc;refine Ob (Bd (by rw[bN (by omega) (by omega)];omega) (by rw[bN (by omega) (by omega)];omega) (by omega)) fun l hl=>?_;refine Ob (bX (Q:=fun _=>True) (by omega) (by omega) (fun _ _ _=>trivial)) fun y _=>?_;refine Ob (pY1 (by omega) (fun t h=>by have:=hy t (hl.2 t h);unfold YU.ok at this;omega)) fun⟨a,b⟩ _=>?_;exact Oi (fun _=>bB) (fun _=>.mk ⟨hc,h2 hc,trivial⟩);rcases r with a|a;exact bB;refine Ob (P:=fun _=>True) (iW (fun q=>q) 9 (fun _=>True) (by decide) (by decide) trivial (fun q _ h1 h2=>?_)) fun r _=>?_;refine Oi (fun hc=>?_) (fun _=>bB);simp only[iO2]at hc;refine Ob (sL (by rw[bN (by omega) (by omega)];omega)) fun n _=>?_;exact Oi (fun _=>bB) (fun _=>.mk ⟨by omega,h2 (by omega),trivial⟩);rcases r with a|a<;>exact bB
theorem aP2 {x1:aA YU} {h:aA Int} (c:x1.length<=6) (d:h.length<=20):Ok (aN1 x1 h) (fun _=>True):=by
 unfold aN1;refine Ob (pZ1 c d) fun⟨a,b⟩ f=>?_;dsimp only at f;refine Oi (fun _=>bB) (fun hd=>?_);have k:=f.2 (by simpa using hd);refine Ob (sM (by decide) (by omega) (by omega)) fun o h4=>?_;refine Ob (P:=fun _=>True) (bQ (l:=x1) (fun q=>q.1) (fun i q=>q.2.length<=i) (by omega) rfl (by rw[h4];decide) (fun i e q n j hi hl g hg hw=>?_) (fun q hi g=>?_)) fun v hv=>?_;obtain⟨x,l⟩:=q;dsimp only at hi hl g hg hw;simp only[hl,nt];refine Ob (aO2 c d ⟨by omega,hl⟩ k) fun⟨a,b⟩ _=>?_;refine Oi (fun hb=>bB) (fun _=>?_);exact Ob (fF (Q:=fun v=>v.length=l.length+1) (by omega) (by simp)) fun m j=>.mk ⟨hw,by dsimp only;omega⟩;obtain⟨x,l⟩:=q;dsimp only at hi g;simp only[hi,nf];exact bB;rcases v with a|b<;>exact bB
theorem aQ2 {x1:YO} (a:x1.sm):Ok (aO1 x1) (fun v=>v.1.length<=20):=by
 unfold aO1;have j:=a.Events;refine pG (l:=x1.Events) (fun q=>q) (iI2 a.Events (by decide)) rfl (fun m k s f b e d g=>?_) (fun s b=>?_) fun t=>?_;simp only[e,d,nt];have i:=a.EventsE _ f;refine bZ (T69 i) fun u=>?_;refine Oi (fun c712=>?_) (fun c712=>?_);exact bB;refine Oi (fun c713=>?_) (fun c713=>?_);exact bB;exact .mk g;simp only[b,nf];exact bB;rcases t with w|_;exact .mk (by(simp only[nm,nl]at *;omega));refine Ob (aI2 a.Events a.EventsE) fun x c=>?_;refine Ob (pZ1 a.Tuplets c) fun⟨n,o⟩ h=>?_
 try dsimp only at h
 refine Oi (fun c716=>?_) (fun c716=>?_);exact .mk (by(simp only[nm,nl]at *;omega));refine bZ (aP2 a.Tuplets c) fun⟨p,r⟩=>?_;refine Oi (fun c718=>?_) (fun c718=>?_);exact .mk (by(simp only[nm,nl]at *;omega));exact .mk (by(simp only[nm]at *;omega))
theorem aR2 {x1:YO} {f:Int} (a:x1.sm):Ok (aP1 x1 f) (fun v=>v.1.length<=20):=by
 unfold aP1;refine Oi (fun c719=>?_) (fun c719=>?_);exact .mk (by(simp only[nm,nl]at *;omega));refine Oi (fun c720=>?_) (fun c720=>?_);exact .mk (by(simp only[nm,nl]at *;omega));refine bZ (aE2 a) fun x3=>?_;refine Oi (fun c722=>?_) (fun c722=>?_);have e:=a.Events;refine Ob (P:=fun x=>x∈x1.Events) (bX (by omega) (by(simp only[nm]at *;omega)) (fun _ h _=>h)) fun g b=>?_;have d:=a.EventsE _ b;refine bZ (T69 d) fun i=>?_;refine Oi (fun c728=>?_) (fun c728=>?_);exact .mk (by(simp only[nm,nl]at *;omega));refine Oi (fun c729=>?_) (fun c729=>?_);exact .mk (by(simp only[nm,nl]at *;omega));exact .mk (by(simp only[nm,nl]at *;omega));refine Ob (aQ2 a) fun⟨j,k⟩ c=>?_
 try dsimp only at c
 exact .mk (by omega)
theorem aS2 {x1:aA Int} (e:x1.length<=20):Ok (aQ1 x1) (fun _=>True):=by
 unfold aQ1;have g:=e;refine pG (l:=x1) (fun q=>q.2) (iI2 e (by decide)) rfl (fun i h q741 f a c b d=>?_) (fun q741 a=>?_) fun k=>?_;obtain⟨x3,j⟩:=q741;dsimp only at a c b d;simp only[c,b,nt];exact .mk d;obtain⟨x3,j⟩:=q741;dsimp only at a;simp only[a,nf];exact bB;exact bB
theorem qA1 {x1:YO} {e:Int} (c:x1.sm):Ok (Ua x1 e) (fun v=>v.1.length<=20):=by
 unfold Ua;refine Ob (aR2 c) fun⟨x3,f⟩ a=>?_
 try dsimp only at a
 refine Ob (P:=fun r=>r=true->((f==0)&&(decide ((x3.length:Int)>0)))=true) ?_ fun i b=>?_;refine Oi (fun c745=>?_) (fun _=>.mk (fun h=>by cases h));refine bZ (aS2 a) fun g=>?_;exact .mk (fun _=>c745);refine bZ ?_ fun j=>?_;refine Oi (fun c748=>?_) (fun c748=>?_);have d:=b c748;exact bB;exact bB;refine Oi (fun c750=>?_) (fun c750=>?_);exact .mk (by(simp only[nm,nl]at *;omega));exact .mk (by omega)
theorem qB1 {x1:YO} {c:Int} (b:x1.sm):Ok (Ub x1 c) (fun _=>True):=by
 unfold Ub;refine Ob (qA1 b) fun⟨x3,d⟩ a=>?_
 try dsimp only at a
 exact bB
theorem T65 {x1:Int}:Ok (F65 x1) (fun _=>True):=by
 unfold F65;exact bB
theorem aT2 {x1:YO} {c:Int} (a:x1.sm):Ok (aR1 x1 c) (fun _=>True):=by
 unfold aR1;refine bZ (pV1 a.Events a.EventsE) fun x3=>?_;refine Ob (P:=fun r=>r=true->(!x3)=true) ?_ fun f b=>?_;refine Oi (fun c754=>?_) (fun _=>.mk (fun h=>by cases h));refine bZ (qB1 a) fun d=>?_;refine bZ (T65) fun e=>?_;exact .mk (fun _=>c754);exact bB
theorem aU2 {x1:aA YO} {m:Int} (f:x1.length<=3) (g:∀y∈x1,y.sm):Ok (aS1 x1 m) (fun _=>True):=by
 unfold aS1;have i:=f;refine pG (l:=x1) (fun q=>q) (iI2 f (by decide)) rfl (fun k j n d a c b e=>?_) (fun n a=>?_) fun o=>?_;simp only[c,b,nt];have h:=g _ d;refine bZ (aT2 h) fun p=>?_;refine Oi (fun c770=>?_) (fun c770=>?_);exact bB;exact .mk e;simp only[a,nf];exact bB;rcases o with r|_;exact bB;exact bB
theorem aV2 {x1:aA YO} {c:Int} (b:x1.length<=3) (a:∀y∈x1,y.sm):Ok (aT1 x1 c) (fun _=>True):=by
 unfold aT1;refine bZ (aU2 b a) fun x3=>?_;exact bB
theorem aW2 {x1:YW} {b:Int} (a:x1.sm):Ok (aU1 x1 b) (fun _=>True):=by
 unfold aU1;refine bZ (aV2 a.Voices a.VoicesE) fun x3=>?_;exact bB
theorem aX2 {x1:aA YW} {m:Int} (f:x1.length<=5) (g:∀y∈x1,y.sm):Ok (aV1 x1 m) (fun _=>True):=by
 unfold aV1;have i:=f;refine pG (l:=x1) (fun q=>q) (iI2 f (by decide)) rfl (fun k j n d a c b e=>?_) (fun n a=>?_) fun o=>?_;simp only[c,b,nt];have h:=g _ d;refine bZ (aW2 h) fun p=>?_;refine Oi (fun c786=>?_) (fun c786=>?_);exact bB;exact .mk e;simp only[a,nf];exact bB;rcases o with r|_;exact bB;exact bB
theorem aY2 {x1:aA YW} {c:Int} (b:x1.length<=5) (a:∀y∈x1,y.sm):Ok (aW1 x1 c) (fun _=>True):=by
 unfold aW1;refine bZ (aX2 b a) fun x3=>?_;exact bB
theorem aZ2 {x1:Int} {b:YM} (a:b.sm):Ok (aX1 x1 b) (fun _=>True):=by
 unfold aX1;refine bZ (T61 a) fun⟨x3,c⟩=>?_;refine Oi (fun c789=>?_) (fun c789=>?_);exact bB;refine bZ (aY2 a.Cells a.CellsE) fun d=>?_;exact bB
theorem hP1 {x1:aA YV} {k:Y0} {x3:Int} (p:x1.length+12<=1000000) (f:k.sm):Ok (Db x1 k x3) (fun v=>x1.length<=v.length/\v.length<=x1.length+12):=by
 unfold Db;have i:=f.Measures;refine og k.Measures x1 12 1 (iI2 f.Measures (by decide)) (fun n l q802 j g a d b c e=>?_) (fun q802 a b=>?_) fun s o=>?_;obtain⟨t,u⟩:=q802;dsimp only at a d c e b;simp only[d,c,nt];have h:=f.MeasuresE _ g;refine bZ (aZ2 h) fun q=>?_;refine Ob (kO (by first|omega|(simp only[iR2]at *;omega)) f) fun r m=>?_;exact .mk ⟨e,by dsimp only;omega⟩;obtain⟨t,u⟩:=q802;dsimp only at a b;simp only[a,nf];exact .mk (by dsimp only;omega);exact .mk (by omega)
theorem bA2 {x1:aA YV} {c:Y0} {x3:Int} (d:x1.length+12<=1000000) (a:c.sm):Ok (aZ1 x1 c x3) (fun v=>x1.length<=v.length/\v.length<=x1.length+12):=by
 unfold aZ1;refine Ob (hP1 (by first|omega|(simp only[iR2]at *;omega)) a) fun e b=>?_;exact .mk (by omega)
theorem qC1 {x1:aA YV} {c:Y0} {x3:Int} (d:x1.length+12<=1000000) (a:c.sm):Ok (Uc x1 c x3) (fun v=>x1.length<=v.length/\v.length<=x1.length+12):=by
 unfold Uc;refine Ob (bA2 (by first|omega|(simp only[iR2]at *;omega)) a) fun e b=>?_;exact .mk (by omega)
theorem T66 {x1:Int}:Ok (F66 x1) (fun _=>True):=by
 unfold F66;refine Ob (P:=fun r=>r=true->(x1 !=0)=true) ?_ fun x3 a=>?_;refine Oi (fun c810=>?_) (fun _=>.mk (fun h=>by cases h));refine bZ (T65) fun b=>?_;exact .mk (fun _=>c810);exact bB
theorem hQ1 {x1:YO} {c:Int} (a:x1.sm):Ok (Dc x1 c) (fun _=>True):=by
 unfold Dc;refine bZ (pV1 a.Events a.EventsE) fun x3=>?_;refine Ob (P:=fun r=>r=true->(!x3)=true) ?_ fun f b=>?_;refine Oi (fun c814=>?_) (fun _=>.mk (fun h=>by cases h));refine bZ (qB1 a) fun d=>?_;refine bZ (T66) fun e=>?_;exact .mk (fun _=>c814);exact bB
theorem hR1 {x1:aA YO} {m:Int} (f:x1.length<=3) (g:∀y∈x1,y.sm):Ok (Dd x1 m) (fun _=>True):=by
 unfold Dd;have i:=f;refine pG (l:=x1) (fun q=>q) (iI2 f (by decide)) rfl (fun k j n d a c b e=>?_) (fun n a=>?_) fun o=>?_;simp only[c,b,nt];have h:=g _ d;refine bZ (hQ1 h) fun p=>?_;refine Oi (fun c830=>?_) (fun c830=>?_);exact bB;exact .mk e;simp only[a,nf];exact bB;rcases o with r|_;exact bB;exact bB
theorem hS1 {x1:aA YO} {c:Int} (b:x1.length<=3) (a:∀y∈x1,y.sm):Ok (De x1 c) (fun _=>True):=by
 unfold De;refine bZ (hR1 b a) fun x3=>?_;exact bB
theorem hT1 {x1:YW} {b:Int} (a:x1.sm):Ok (Df x1 b) (fun _=>True):=by
 unfold Df;refine bZ (hS1 a.Voices a.VoicesE) fun x3=>?_;exact bB
theorem hU1 {x1:aA YW} {m:Int} (f:x1.length<=5) (g:∀y∈x1,y.sm):Ok (Dg x1 m) (fun _=>True):=by
 unfold Dg;have i:=f;refine pG (l:=x1) (fun q=>q) (iI2 f (by decide)) rfl (fun k j n d a c b e=>?_) (fun n a=>?_) fun o=>?_;simp only[c,b,nt];have h:=g _ d;refine bZ (hT1 h) fun p=>?_;refine Oi (fun c846=>?_) (fun c846=>?_);exact bB;exact .mk e;simp only[a,nf];exact bB;rcases o with r|_;exact bB;exact bB
theorem hV1 {x1:aA YW} {c:Int} (b:x1.length<=5) (a:∀y∈x1,y.sm):Ok (Dh x1 c) (fun _=>True):=by
 unfold Dh;refine bZ (hU1 b a) fun x3=>?_;exact bB
theorem hW1 {x1:Int} {b:YM} (a:b.sm):Ok (Di x1 b) (fun _=>True):=by
 unfold Di;refine bZ (T61 a) fun⟨x3,c⟩=>?_;refine Oi (fun c849=>?_) (fun c849=>?_);exact bB;refine bZ (hV1 a.Cells a.CellsE) fun d=>?_;exact bB
theorem hY1 {x1:aA YV} {k:Y0} {x3:Int} (p:x1.length+12<=1000000) (f:k.sm):Ok (Dj x1 k x3) (fun v=>x1.length<=v.length/\v.length<=x1.length+12):=by
 unfold Dj;have i:=f.Measures;refine og k.Measures x1 12 1 (iI2 f.Measures (by decide)) (fun n l q862 j g a d b c e=>?_) (fun q862 a b=>?_) fun s o=>?_;obtain⟨t,u⟩:=q862;dsimp only at a d c e b;simp only[d,c,nt];have h:=f.MeasuresE _ g;refine bZ (hW1 h) fun q=>?_;refine Ob (kO (by first|omega|(simp only[iR2]at *;omega)) f) fun r m=>?_;exact .mk ⟨e,by dsimp only;omega⟩;obtain⟨t,u⟩:=q862;dsimp only at a b;simp only[a,nf];exact .mk (by dsimp only;omega);exact .mk (by omega)
theorem hZ1 {x1:aA YV} {c:Y0} {x3:Int} (d:x1.length+12<=1000000) (a:c.sm):Ok (Dk x1 c x3) (fun v=>x1.length<=v.length/\v.length<=x1.length+12):=by
 unfold Dk;refine Ob (hY1 (by first|omega|(simp only[iR2]at *;omega)) a) fun e b=>?_;exact .mk (by omega)
theorem qD1 {x1:aA YV} {c:Y0} {x3:Int} (d:x1.length+12<=1000000) (a:c.sm):Ok (Ud x1 c x3) (fun v=>x1.length<=v.length/\v.length<=x1.length+12):=by
 unfold Ud;refine Ob (hZ1 (by first|omega|(simp only[iR2]at *;omega)) a) fun e b=>?_;exact .mk (by omega)
theorem T68 {x1:YP} {b:YE} (a:b.sm):Ok (F68 x1 b) (fun _=>True):=by
 unfold F68;refine bZ (T69 a) fun x3=>?_;exact bB
theorem bB2 {x1:aA YV} {W:Y0} {x3:Int} (d8:x1.length+3600<=1000000) (y:W.sm):Ok (bJ1 x1 W x3) (fun v=>x1.length<=v.length/\v.length<=x1.length+3600):=by
 unfold bJ1;have N:=y.Measures;refine og W.Measures x1 3600 300 (iI2 y.Measures (by decide)) (fun b4 D q881 S z c m g a q=>?_) (fun q881 c g=>?_) fun d3 d4=>?_;obtain⟨X,K⟩:=q881;dsimp only at c m a q g;simp only[m,a,nt];have u:=y.MeasuresE _ z;have O:=u.Cells;refine og D.Cells K 300 60 (iI2 u.Cells (by decide)) (fun b5 E q895 T A d n h b r=>?_) (fun q895 d h=>?_) fun d2 d5=>?_;obtain⟨Y,L⟩:=q895;dsimp only at d n b r h;simp only[n,a,b,nt];have w:=u.CellsE _ A;have P:=w.Voices;refine og E.Voices L 60 20 (iI2 w.Voices (by decide)) (fun b6 F q909 U B e o i k s=>?_) (fun q909 e i=>?_) fun d1 d6=>?_;obtain⟨Z,M⟩:=q909;dsimp only at e o k s i;simp only[o,a,b,k,nt];have x:=w.VoicesE _ B;have R:=x.Events;refine og F.Events M 20 1 (iI2 x.Events (by decide)) (fun b7 a0 q923 V C f p j l t=>?_) (fun q923 f j=>?_) fun d0 d7=>?_;obtain⟨H,J⟩:=q923;dsimp only at f p l t j;simp only[p,a,b,k,l,nt];have G:=x.EventsE _ C;refine bZ (T68 G) fun b8=>?_;refine Ob (kO (by first|omega|(simp only[iR2]at *;omega)) y) fun b9 b0=>?_;exact .mk ⟨t,by dsimp only;omega⟩;obtain⟨H,J⟩:=q923;dsimp only at f j;simp only[f,nf];exact .mk (by dsimp only;omega);exact .mk ⟨s,by dsimp only;omega⟩;obtain⟨Z,M⟩:=q909;dsimp only at e i;simp only[e,nf];exact .mk (by dsimp only;omega);exact .mk ⟨r,by dsimp only;omega⟩;obtain⟨Y,L⟩:=q895;dsimp only at d h;simp only[d,nf];exact .mk (by dsimp only;omega);exact .mk ⟨q,by dsimp only;omega⟩;obtain⟨X,K⟩:=q881;dsimp only at c g;simp only[c,nf];exact .mk (by dsimp only;omega);exact .mk (by omega)
theorem qE1 {x1:aA YV} {c:Y0} {x3:Int} (d:x1.length+3600<=1000000) (a:c.sm):Ok (Ue x1 c x3) (fun v=>x1.length<=v.length/\v.length<=x1.length+3600):=by
 unfold Ue;refine Ob (bB2 (by first|omega|(simp only[iR2]at *;omega)) a) fun e b=>?_;exact .mk (by omega)
theorem T71 {x1:Y0} {d:Int} (c:x1.sm):Ok (F71 x1 d) (fun v=>v.2.2=0->0<=v.1/\v.1<(x1.Parts.length:Int)):=by
 unfold F71;have f:=c.Parts;refine Oi (fun _=>.mk (fun h=>absurd (show(2:Int)=0 from h) (by decide))) (fun _=>?_);refine Ob (P:=fun r=>match r with|.inl p=>0<=p.1/\p.1<(x1.Parts.length:Int)|.inr _=>True) (bQ (l:=x1.Parts) (fun q=>q.2) (fun _ _=>True) (by omega) rfl trivial (fun i e q j g hi hl _ hg hw=>?_) (fun q hi _=>?_)) fun r hr=>?_;obtain⟨s,x⟩:=q;dsimp only at hi hl hg hw;simp only[hl,hg,nt];exact Oi (fun _=>.mk ⟨by dsimp only;omega,hl⟩) (fun _=>.mk ⟨hw,trivial⟩);obtain⟨s,x⟩:=q;dsimp only at hi;simp only[hi,nf];exact bB;rcases r with⟨a,b⟩|_;exact .mk (fun _=>hr);exact .mk (fun h=>absurd (show(2:Int)=0 from h) (by decide))
theorem T72 {x1:YH} {a:Int}:Ok (F72 x1 a) (fun _=>True):=by
 unfold F72;refine bZ (T73) fun⟨x3,b⟩=>?_;refine bZ (Jq) fun c=>?_;exact bB
theorem T75 {x1:YB} {a:Int}:Ok (F75 x1 a) (fun _=>True):=by
 unfold F75;refine bZ (T72) fun x3=>?_;exact bB
theorem bC2 {x1:aA YB} {j:Int} (e:x1.length<=12):Ok (bK1 x1 j) (fun _=>True):=by
 unfold bK1;have g:=e;refine pG (l:=x1) (fun q=>q) (iI2 e (by decide)) rfl (fun i h k f a c b d=>?_) (fun k a=>?_) fun m=>?_;simp only[c,b,nt];refine bZ (T75) fun n=>?_;refine Oi (fun c944=>?_) (fun c944=>?_);exact bB;exact .mk d;simp only[a,nf];exact bB;rcases m with o|_;exact bB;exact bB
theorem T74 {x1:aA YB} {b:Int} (a:x1.length<=12):Ok (F74 x1 b) (fun _=>True):=by
 unfold F74;refine bZ (bC2 a) fun x3=>?_;exact bB
theorem T77 {x1:YD} {a:Int}:Ok (F77 x1 a) (fun _=>True):=by
 unfold F77;refine bZ (T72) fun x3=>?_;exact bB
theorem bD2 {x1:aA YD} {j:Int} (e:x1.length<=12):Ok (bL1 x1 j) (fun _=>True):=by
 unfold bL1;have g:=e;refine pG (l:=x1) (fun q=>q) (iI2 e (by decide)) rfl (fun i h k f a c b d=>?_) (fun k a=>?_) fun m=>?_;simp only[c,b,nt];refine bZ (T77) fun n=>?_;refine Oi (fun c959=>?_) (fun c959=>?_);exact bB;exact .mk d;simp only[a,nf];exact bB;rcases m with o|_;exact bB;exact bB
theorem T76 {x1:aA YD} {b:Int} (a:x1.length<=12):Ok (F76 x1 b) (fun _=>True):=by
 unfold F76;refine bZ (bD2 a) fun x3=>?_;exact bB
theorem T70 {x1:YP} {j:YE} {x3:YK} (a:j.sm) (b:x3.s'.sm):Ok (F70 x1 j x3) (fun _=>True):=by
 unfold F70;refine bZ (T69 a) fun n=>?_;refine Oi (fun c962=>?_) (fun c962=>?_);exact bB;refine Ob (T71 b) fun⟨o,p,q⟩ d=>?_
 try dsimp only at d
 refine bZ ?_ fun t=>?_;refine Oi (fun c965=>?_) (fun c965=>?_);have e:=b.Parts;refine Ob (P:=fun x=>x∈x3.s'.Parts) (bX (by(simp only[nm]at *;omega)) (by(simp only[nm]at *;omega)) (fun _ h _=>h)) fun s c=>?_;have i:=b.PartsE _ c;exact bB;exact bB;refine bZ ?_ fun k=>?_;refine Oi (fun c971=>?_) (fun c971=>?_);exact bB;exact bB;refine bZ (T74 a.Heads) fun f=>?_;refine Ob (P:=fun r=>¬r=true->¬f=true) ?_ fun m g=>?_;refine Oi (fun _=>.mk (fun h=>absurd rfl h)) (fun c974=>?_);refine bZ (T76 a.Graces) fun l=>?_;exact .mk (fun _=>c974);exact bB
theorem iA1 {x1:aA YV} {x2:Y0} {x3:Int} (d7:x1.length+3600<=1000000) (s:x2.sm):Ok (Dl x1 x2 x3) (fun v=>x1.length<=v.length/\v.length<=x1.length+3600):=by
 unfold Dl;have V:=s.Measures;refine og x2.Measures x1 3600 300 (iI2 s.Measures (by decide)) (fun b7 F q987 W C h t j c w=>?_) (fun q987 h j=>?_) fun d4 d5=>?_;obtain⟨a0,K⟩:=q987;dsimp only at h t c w j;simp only[t,c,nt];have y:=s.MeasuresE _ C;have N:=y.Cells;refine og F.Cells K 300 60 (iI2 y.Cells (by decide)) (fun b8 G q1001 X D i u k g x=>?_) (fun q1001 i k=>?_) fun d3 d6=>?_;obtain⟨b0,L⟩:=q1001;dsimp only at i u g x k;simp only[u,c,g,nt];have l:=y.CellsE _ D;have O:=l.Voices;refine og G.Voices L 60 20 (iI2 l.Voices (by decide)) (fun Y B q1015 R z a o d f q=>?_) (fun q1015 a d=>?_) fun d2 b5=>?_;obtain⟨b4,M⟩:=q1015;dsimp only at a o f q d;simp only[o,c,g,f,nt];have m:=l.VoicesE _ z;have P:=m.Events;refine og B.Events M 20 1 (iI2 m.Events (by decide)) (fun Z T q1029 S A b p e n r=>?_) (fun q1029 b e=>?_) fun d1 b6=>?_;obtain⟨H,J⟩:=q1029;dsimp only at b p n r e;simp only[p,c,g,f,n,nt];have E:=m.EventsE _ A;refine bZ (T70 E s) fun b9=>?_;refine Ob (kO (by first|omega|(simp only[iR2]at *;omega)) s) fun d0 U=>?_;exact .mk ⟨r,by dsimp only;omega⟩;obtain⟨H,J⟩:=q1029;dsimp only at b e;simp only[b,nf];exact .mk (by dsimp only;omega);exact .mk ⟨q,by dsimp only;omega⟩;obtain⟨b4,M⟩:=q1015;dsimp only at a d;simp only[a,nf];exact .mk (by dsimp only;omega);exact .mk ⟨x,by dsimp only;omega⟩;obtain⟨b0,L⟩:=q1001;dsimp only at i k;simp only[i,nf];exact .mk (by dsimp only;omega);exact .mk ⟨w,by dsimp only;omega⟩;obtain⟨a0,K⟩:=q987;dsimp only at h j;simp only[h,nf];exact .mk (by dsimp only;omega);exact .mk (by omega)
theorem qF1 {x1:aA YV} {c:Y0} {x3:Int} (d:x1.length+3600<=1000000) (b:c.sm):Ok (Uf x1 c x3) (fun v=>x1.length<=v.length/\v.length<=x1.length+3600):=by
 unfold Uf;refine Ob (iA1 (by first|omega|(simp only[iR2]at *;omega)) b) fun e a=>?_;exact .mk (by omega)
theorem bE2 {x1:YB}:Ok (bN1 x1) (fun _=>True):=by
 unfold bN1;exact bB
theorem iB1 {x1:aA YB} (e:x1.length<=12):Ok (Dm x1) (fun _=>True):=by
 unfold Dm;have g:=e;refine pG (l:=x1) (fun q=>q) (iI2 e (by decide)) rfl (fun i h j f a c b d=>?_) (fun j a=>?_) fun k=>?_;simp only[c,b,nt];refine bZ (bE2) fun m=>?_;refine Oi (fun c1047=>?_) (fun c1047=>?_);exact bB;exact .mk d;simp only[a,nf];exact bB;rcases k with n|_;exact bB;exact bB
theorem qG1 {x1:aA YB} (a:x1.length<=12):Ok (Ma x1) (fun _=>True):=by
 unfold Ma;refine bZ (iB1 a) fun b=>?_;exact bB
theorem T79 {x1:YE} (b:x1.sm):Ok (F79 x1) (fun _=>True):=by
 unfold F79;refine Ob (P:=fun r=>r=true->(x1.Kind==1)=true) ?_ fun x3 a=>?_;refine Oi (fun c1050=>?_) (fun _=>.mk (fun h=>by cases h));refine bZ (qG1 b.Heads) fun c=>?_;exact .mk (fun _=>c1050);exact bB
theorem cQ1 {x1:Y0} {b x3 c:Int} (d:x1.sm):Ok (Dn x1 b x3 c) (fun v=>v.length<=20/\(∀y∈v,y.sm)/\(v=[]\/∃x y z,aW x1.Measures b=some x/\aW x.Cells x3=some y/\aW y.Voices c=some z/\v=z.Events)):=by
 unfold Dn;refine Ob (P:=fun r=>¬r=true->0<=b/\0<=x3/\∃x,aW x1.Measures b=some x/\x3<(x.Cells.length:Int)) ?_ fun j g=>?_;refine Oi (fun _=>.mk (fun h=>absurd rfl h)) (fun hc=>?_);simp only[iS2,iO2,lI2]at hc;exact Ok.bindE (bX (Q:=fun _=>True) (by omega) (by omega) (fun _ _ _=>trivial)) fun x a _=>.mk (fun h=>⟨by omega,by omega,x,a,by simp at h;omega⟩);refine Ob (P:=fun r=>¬r=true->∃x y,aW x1.Measures b=some x/\aW x.Cells x3=some y/\0<=c/\c<(y.Voices.length:Int)) ?_ fun k i=>?_;refine Oi (fun _=>.mk (fun h=>absurd rfl h)) (fun hc=>?_);simp only[iS2,iO2,lI2]at hc;obtain⟨h0,h1,x,a,hs⟩:=g hc.1;rw[a,iF2];exact Ok.bindE (bX (Q:=fun _=>True) h1 hs (fun _ _ _=>trivial)) fun y hy _=>.mk (fun h=>⟨x,y,rfl,hy,by omega,by simp at h;omega⟩);refine Oi (fun _=>.mk ⟨iV2 _,fun _ h=>(List.not_mem_nil h).elim,.inl rfl⟩) (fun hc=>?_);obtain⟨x,y,a,hy,h0,h1⟩:=i hc;rw[a,iF2,hy,iF2];refine Ok.bindE (bX (Q:=fun _=>True) h0 h1 (fun _ _ _=>trivial)) fun z e _=>?_;have f:=((d.MeasuresE x (fG a).2.2.1).CellsE y (fG hy).2.2.1).VoicesE z (fG e).2.2.1;exact .mk ⟨f.Events,f.EventsE,.inr ⟨x,y,z,rfl,hy,e,rfl⟩⟩
theorem qH1 {x1:Y0} {a:YP} (c:x1.sm):Ok (Ug x1 a) (fun r=>r=0->a.Kind=4/\0<=a.Event/\∃l,Dn x1 a.Measure a.Staff a.Voice=some l/\a.Event<(l.length:Int)):=by
 unfold Ug;refine Oi (fun _=>.mk (fun h=>by cases h)) (fun hk=>?_);refine Ob (P:=fun r=>¬r=true->0<=a.Event/\∃l,Dn x1 a.Measure a.Staff a.Voice=some l/\a.Event<(l.length:Int)) (Oi (fun _=>.mk (fun h=>absurd rfl h)) (fun hc=>?_)) fun b hb=>?_;exact Ok.bindE (cQ1 c) fun l hl _=>.mk (fun h=>⟨by simpa using hc,l,hl,by simpa using h⟩);exact Oi (fun _=>.mk (fun h=>by cases h)) (fun hc=>.mk (fun _=>⟨by simpa using hk,hb hc⟩))
theorem qI1 {x1 a:Int} {x3 b:Int}:Ok (Uh x1 a x3 b) (fun v=>v.Measure=x1):=by
 unfold Uh;exact .mk (by rfl)
theorem T80 {x1:Y0} {d:YP} (b:x1.sm):Ok (F80 x1 d) (fun v=>v.2=true->0<=d.Measure/\d.Measure<(x1.Measures.length:Int)/\0<=v.1.Measure/\v.1.Measure<(x1.Measures.length:Int)):=by
 unfold F80;refine Ob (qH1 b) fun c hc=>?_;refine Oi (fun _=>.mk (fun h=>by cases h)) (fun hd=>?_);obtain⟨hk,h0,l,hl,i⟩:=hc (by simpa using hd);have g:=(cQ1 b).of hl
 have e:0<=d.Measure/\d.Measure<(x1.Measures.length:Int):=by
  rcases g.2.2 with h|⟨x,y,z,hx,_⟩
  rw[h,iR2]at i;omega;have:=fG hx;exact⟨this.1,this.2.1⟩
 rw[hl,iF2];refine Oi (fun _=>?_) (fun _=>?_);exact Ob qI1 fun a f=>.mk (fun _=>⟨e.1,e.2,by dsimp only;omega,by dsimp only;omega⟩);refine Ob (cQ1 b) fun j h2=>?_;refine Oi (fun hc=>?_) (fun _=>.mk (fun h=>by cases h));refine Ob qI1 fun a f=>.mk (fun _=>?_);dsimp only at f ⊢;rcases h2.2.2 with h|⟨x,y,z,hx,_⟩
 rw[h]at hc;simp at hc;have:=fG hx;rw[f];exact⟨e.1,e.2,this.1,this.2.1⟩
theorem bF2 {x1:YE} (a:x1.sm):Ok (bP1 x1) (fun v=>v.sm):=by
 unfold bP1;rw[tX (jF2 a.Heads (by decide)),tX (jF2 a.Graces (by decide)),tX (jF2 a.Lyrics (by decide))];exact .mk ⟨a.Heads,a.Graces,a.Lyrics,a.LyricsE⟩
theorem T81 {x1:Y0} {f:YP} (a:x1.sm):Ok (F81 x1 f) (fun v=>v.1.sm):=by
 unfold F81;refine Ob (qH1 a) fun c hc=>?_;refine Oi (fun _=>.mk ⟨iV2 _,iV2 _,iV2 _,fun _ h=>(List.not_mem_nil h).elim⟩) (fun hd=>?_);obtain⟨hk,h0,l,hl,d⟩:=hc (by simpa using hd);have b:=(cQ1 a).of hl;rw[hl,iF2];exact Ob (bX (Q:=fun x=>x.sm) h0 d (fun x e _=>b.2.1 x e)) fun x e=>Ob (bF2 e) fun y hy=>.mk hy
theorem bG2 {x1 a:YB}:Ok (bQ1 x1 a) (fun _=>True):=by
 unfold bQ1;exact bB
theorem iC1 {x1:aA YB} {j:YB} (e:x1.length<=12):Ok (Dp x1 j) (fun _=>True):=by
 unfold Dp;have g:=e;refine pG (l:=x1) (fun q=>q) (iI2 e (by decide)) rfl (fun i h k f a c b d=>?_) (fun k a=>?_) fun m=>?_;simp only[c,b,nt];refine bZ (bG2) fun n=>?_;refine Oi (fun c1064=>?_) (fun c1064=>?_);exact bB;exact .mk d;simp only[a,nf];exact bB;rcases m with o|_;exact bB;exact bB
theorem qJ1 {x1:aA YB} {b:YB} (a:x1.length<=12):Ok (Mc x1 b) (fun _=>True):=by
 unfold Mc;refine bZ (iC1 a) fun x3=>?_;exact bB
theorem T82 {x1 s:YE} (g:x1.sm) (m:s.sm):Ok (F82 x1 s) (fun _=>True):=by
 unfold F82;refine Oi (fun c1066=>?_) (fun c1066=>?_);exact bB;have j:=g.Heads;refine pG (l:=x1.Heads) (fun q=>q) (iI2 g.Heads (by decide)) rfl (fun n e v i a c b d=>?_) (fun v a=>?_) fun p=>?_;simp only[c,b,nt];refine Ob (P:=fun r=>r=true->e.Tied=true) ?_ fun u f=>?_;refine Oi (fun c1079=>?_) (fun _=>.mk (fun h=>by cases h));refine Ob (P:=fun r=>r=true->(s.Kind==1)=true) ?_ fun t k=>?_;refine Oi (fun c1081=>?_) (fun _=>.mk (fun h=>by cases h));refine bZ (qJ1 m.Heads) fun w=>?_;exact .mk (fun _=>c1081);exact .mk (fun _=>c1079);refine Oi (fun c1083=>?_) (fun c1083=>?_);have o:=f c1083;exact bB;exact .mk d;simp only[a,nf];exact bB;rcases p with _|_;exact bB;exact bB
theorem T78 {x1:YP} {f:YE} {x3:YK} (c:f.sm) (d:x3.s'.sm):Ok (F78 x1 f x3) (fun _=>True):=by
 unfold F78;refine bZ (T79 c) fun j=>?_;refine Oi (fun c1086=>?_) (fun c1086=>?_);exact bB;refine Ob (T80 d) fun⟨k,i⟩ b=>?_
 try dsimp only at b
 refine Ob (T81 d) fun⟨l,m⟩ a=>?_
 try dsimp only at a
 refine Ob (P:=fun r=>¬r=true->¬(!i)=true) ?_ fun g e=>?_;refine Oi (fun _=>.mk (fun h=>absurd rfl h)) (fun c1090=>?_);refine bZ (T82 c a) fun n=>?_;exact .mk (fun _=>c1090);exact bB
theorem iD1 {x1:aA YV} {x2:Y0} {x3:Int} (d7:x1.length+3600<=1000000) (y:x2.sm):Ok (Dq x1 x2 x3) (fun v=>x1.length<=v.length/\v.length<=x1.length+3600):=by
 unfold Dq;have N:=y.Measures;refine og x2.Measures x1 3600 300 (iI2 y.Measures (by decide)) (fun Y D q1103 S z c p g a t=>?_) (fun q1103 c g=>?_) fun d6 b7=>?_;obtain⟨b4,K⟩:=q1103;dsimp only at c p a t g;simp only[p,a,nt];have l:=y.MeasuresE _ z;have O:=l.Cells;refine og D.Cells K 300 60 (iI2 l.Cells (by decide)) (fun Z E q1117 T A d q h b u=>?_) (fun q1117 d h=>?_) fun d5 b8=>?_;obtain⟨b5,L⟩:=q1117;dsimp only at d q b u h;simp only[q,a,b,nt];have m:=l.CellsE _ A;have P:=m.Voices;refine og E.Voices L 60 20 (iI2 m.Voices (by decide)) (fun a0 F q1131 U B e r i k w=>?_) (fun q1131 e i=>?_) fun d4 b9=>?_;obtain⟨b6,M⟩:=q1131;dsimp only at e r k w i;simp only[r,a,b,k,nt];have n:=m.VoicesE _ B;have R:=n.Events;refine og F.Events M 20 1 (iI2 n.Events (by decide)) (fun b0 W q1145 V C f s j o x=>?_) (fun q1145 f j=>?_) fun d3 d0=>?_;obtain⟨H,J⟩:=q1145;dsimp only at f s o x j;simp only[s,a,b,k,o,nt];have G:=n.EventsE _ C;refine bZ (T78 G y) fun d1=>?_;refine Ob (kO (by first|omega|(simp only[iR2]at *;omega)) y) fun d2 X=>?_;exact .mk ⟨x,by dsimp only;omega⟩;obtain⟨H,J⟩:=q1145;dsimp only at f j;simp only[f,nf];exact .mk (by dsimp only;omega);exact .mk ⟨w,by dsimp only;omega⟩;obtain⟨b6,M⟩:=q1131;dsimp only at e i;simp only[e,nf];exact .mk (by dsimp only;omega);exact .mk ⟨u,by dsimp only;omega⟩;obtain⟨b5,L⟩:=q1117;dsimp only at d h;simp only[d,nf];exact .mk (by dsimp only;omega);exact .mk ⟨t,by dsimp only;omega⟩;obtain⟨b4,K⟩:=q1103;dsimp only at c g;simp only[c,nf];exact .mk (by dsimp only;omega);exact .mk (by omega)
theorem qK1 {x1:aA YV} {c:Y0} {x3:Int} (d:x1.length+3600<=1000000) (b:c.sm):Ok (Ui x1 c x3) (fun v=>x1.length<=v.length/\v.length<=x1.length+3600):=by
 unfold Ui;refine Ob (iD1 (by first|omega|(simp only[iR2]at *;omega)) b) fun e a=>?_;exact .mk (by omega)
theorem bH2 {x1:YE} {a:Int} (c:x1.sm) (d:0<=a):Ok (bT1 x1 a) (fun v=>v=false->a<(x1.Lyrics.length:Int)):=by
 unfold bT1;refine Ob (P:=fun r=>r=false->a<(x1.Lyrics.length:Int)) (Oi (fun _=>.mk (fun h=>by cases h)) (fun hc=>?_)) fun b hb=>.mk hb;simp only[iO2]at hc;exact Ob (bX (Q:=fun _=>True) d (by omega) (fun _ _ _=>trivial)) fun y _=>.mk (fun _=>by omega)
theorem bI2 {x1 o x3:Int} {C:aA (YP×Bool)} {u:aA YV} {p:Y0} {D:Int} (v:u.length+0<=1000000) (d:p.sm) (B:0<=x1) (hy:0<=o) (s:0<=x3):Ok (bU1 x1 o x3 C u p D) (fun _=>True):=by
 unfold bU1;have F:=d.Measures;refine Ob (P:=fun _=>True) (bQ (l:=p.Measures) (fun q=>q.1) (fun _ _=>True) (by omega) rfl trivial (fun i e q _ g hi hl _ hg hw=>?_) (fun q hi _=>?_)) fun⟨a1,a2,a3,a4,a5,a6,a7⟩ _=>?_;obtain⟨x,k,st,m,n,ev,y,l⟩:=q;dsimp only at hi hl hg hw;simp only[hl,hg,nt];refine Ob (P:=fun r=>¬r=true->∃y,aW e.Cells x1=some y/\o<(y.Voices.length:Int)) (Oi (fun _=>.mk (fun h=>absurd rfl h)) (fun hc=>?_)) fun b hb=>?_;simp only[iO2]at hc;exact Ok.bindE (bX (Q:=fun _=>True) B (by omega) (fun _ _ _=>trivial)) fun y hy _=>.mk (fun h=>⟨y,hy,by simpa using h⟩);refine Oi (fun _=>.mk ⟨hw,trivial⟩) (fun hc=>?_);obtain⟨c,f,hv⟩:=hb hc;rw[f,iF2];refine Ok.bindE (bX (Q:=fun _=>True) hy hv (fun _ _ _=>trivial)) fun z j _=>?_;have t:=((d.MeasuresE e g).CellsE c (fG f).2.2.1).VoicesE z (fG j).2.2.1;have E:=t.Events;refine Ob (P:=fun _=>True) (bQ (l:=z.Events) (fun q=>q.1) (fun _ _=>True) (by omega) rfl trivial (fun i e q _ g hi hl _ hg hw=>?_) (fun q hi _=>?_)) fun⟨a1,a2,a3,a4,a5,a6,a7⟩ _=>.mk ⟨hw,trivial⟩;obtain⟨x,k,st,m,n,ev,y,l⟩:=q;dsimp only at hi hl hg hw;simp only[hl,hg,nt];refine Ob (bH2 (t.EventsE e g) s) fun a A=>?_;refine Oi (fun _=>.mk ⟨hw,trivial⟩) (fun hc=>?_);refine Ob (bX (Q:=fun _=>True) s (A (by simpa using hc)) (fun _ _ _=>trivial)) fun w _=>?_;refine Ob (P:=fun _=>True) (Oi (fun _=>bB) (fun _=>bB)) fun _ _=>?_;exact Ob (P:=fun _=>True) (Oi (fun _=>bB) (fun _=>bB)) fun _ _=>.mk ⟨hw,trivial⟩;obtain⟨x,k,st,m,n,ev,y,l⟩:=q;dsimp only at hi;simp only[hi,nf];exact bB;obtain⟨x,k,st,m,n,ev,y,l⟩:=q;dsimp only at hi;simp only[hi,nf];exact bB;exact Ob (P:=fun _=>True) (Oi (fun _=>bB) (fun _=>bB)) fun _ _=>bB
theorem T84 {x1:YP} {a:YE} {x3:aA (YP×Bool)} (b:a.sm):Ok (F84 x1 a x3) (fun _=>True):=by
 unfold F84;exact bB
theorem iE1 {x1:aA (YP×Bool)} {K:aA YV} {x3:Y0} {x4:Int} (d8:K.length+3600<=1000000) (y:x3.sm):Ok (Dr x1 K x3 x4) (fun v=>K.length<=v.length/\v.length<=K.length+3600):=by
 unfold Dr;have O:=y.Measures;refine og x3.Measures K 3600 300 (iI2 y.Measures (by decide)) (fun Z D q1162 T z c p g a t=>?_) (fun q1162 c g=>?_) fun d7 b8=>?_;obtain⟨b5,L⟩:=q1162;dsimp only at c p a t g;simp only[p,a,nt];have l:=y.MeasuresE _ z;have P:=l.Cells;refine og D.Cells L 300 60 (iI2 l.Cells (by decide)) (fun a0 E q1176 U A d q h b u=>?_) (fun q1176 d h=>?_) fun d6 b9=>?_;obtain⟨b6,M⟩:=q1176;dsimp only at d q b u h;simp only[q,a,b,nt];have m:=l.CellsE _ A;have R:=m.Voices;refine og E.Voices M 60 20 (iI2 m.Voices (by decide)) (fun b0 F q1190 V B e r i k w=>?_) (fun q1190 e i=>?_) fun d5 d0=>?_;obtain⟨b7,N⟩:=q1190;dsimp only at e r k w i;simp only[r,a,b,k,nt];have n:=m.VoicesE _ B;have S:=n.Events;refine og F.Events N 20 1 (iI2 n.Events (by decide)) (fun b4 X q1204 W C f s j o x=>?_) (fun q1204 f j=>?_) fun d4 d1=>?_;obtain⟨H,J⟩:=q1204;dsimp only at f s o x j;simp only[s,a,b,k,o,nt];have G:=n.EventsE _ C;refine bZ (T84 G) fun d2=>?_;refine Ob (kO (by first|omega|(simp only[iR2]at *;omega)) y) fun d3 Y=>?_;exact .mk ⟨x,by dsimp only;omega⟩;obtain⟨H,J⟩:=q1204;dsimp only at f j;simp only[f,nf];exact .mk (by dsimp only;omega);exact .mk ⟨w,by dsimp only;omega⟩;obtain⟨b7,N⟩:=q1190;dsimp only at e i;simp only[e,nf];exact .mk (by dsimp only;omega);exact .mk ⟨u,by dsimp only;omega⟩;obtain⟨b6,M⟩:=q1176;dsimp only at d h;simp only[d,nf];exact .mk (by dsimp only;omega);exact .mk ⟨t,by dsimp only;omega⟩;obtain⟨b5,L⟩:=q1162;dsimp only at c g;simp only[c,nf];exact .mk (by dsimp only;omega);exact .mk (by omega)
theorem qL1 {x1:aA YV} {e:Y0} {x3:Int} (f:x1.length+3600<=1000000) (a:e.sm):Ok (Uj x1 e x3) (fun v=>x1.length<=v.length/\v.length<=x1.length+3600):=by
 unfold Uj;refine Ob (T56 a) fun n g=>?_;refine Ob (P:=fun _=>True) (iW (fun q=>q.1) n (fun _=>True) g (by decide) trivial (fun q _ h1 h2=>?_)) fun m _=>?_;obtain⟨x,l⟩:=q;dsimp only at h1 h2 ⊢;refine Oi (fun hc=>?_) (fun _=>bB);simp only[iO2]at hc;refine Ob (P:=fun _=>True) (iW (fun q=>q.1) 2 (fun _=>True) (by decide) (by dsimp only;omega) trivial (fun q _ b g2=>?_)) fun m _=>.mk ⟨hc,h2 hc,trivial⟩;obtain⟨y,l⟩:=q;dsimp only at b g2 ⊢;refine Oi (fun hd=>?_) (fun _=>bB);simp only[iO2]at hd;refine Ob (P:=fun _=>True) (iW (fun q=>q.1) 4 (fun _=>True) (by decide) (by dsimp only;omega) trivial (fun q _ c d=>?_)) fun m _=>.mk ⟨hd,g2 hd,trivial⟩;obtain⟨z,l⟩:=q;dsimp only at c d ⊢;refine Oi (fun he=>?_) (fun _=>bB);simp only[iO2]at he;exact Ob (bI2 (by omega) a h1 b c) fun m _=>.mk ⟨he,d he,trivial⟩;exact Ob (iE1 (by omega) a) fun v hv=>.mk (by omega)
theorem cR1 {x1:Y0} (a:x1.sm):Ok (vW x1) (fun _=>True):=by
 unfold vW;exact bB
theorem Vn {x1 e:Int} {x3 f:Int} {g h i:Int} {c:YJ} {j:Bool} {a:YP} {b:YZ} (d:c.sm):Ok (sI x1 e x3 f g h i c j a b) (fun _=>True):=by
 unfold sI;refine Oi (fun c1209=>?_) (fun c1209=>?_);exact bB;exact bB
theorem Jr {x1 c:Int} {x3 d:Int} {e f g:Int} {h:YF} {i:Bool} {a:YP} {b:YZ}:Ok (mV x1 c x3 d e f g h i a b) (fun _=>True):=by
 unfold mV;refine Oi (fun c1210=>?_) (fun c1210=>?_);exact bB;exact bB
theorem Js {x1 e:Int} {x3 f:Int} {g h i:Int} {c:YM} {j:Bool} {a:YP} {b:YZ} (d:c.sm):Ok (mW x1 e x3 f g h i c j a b) (fun _=>True):=by
 unfold mW;refine Oi (fun c1211=>?_) (fun c1211=>?_);exact bB;exact bB
theorem Jt {x1 e:Int} {x3 f:Int} {g h i:Int} {c:YE} {j:Bool} {a:YP} {b:YZ} (d:c.sm):Ok (mX x1 e x3 f g h i c j a b) (fun _=>True):=by
 unfold mX;refine Oi (fun c1212=>?_) (fun c1212=>?_);exact bB;exact bB
theorem Ju {x1 c:Int} {x3 d:Int} {e f g:Int} {h:YN} {i:Bool} {a:YP} {b:YZ}:Ok (mY x1 c x3 d e f g h i a b) (fun _=>True):=by
 unfold mY;refine Oi (fun c1213=>?_) (fun c1213=>?_);exact bB;exact bB
theorem cS1 {x1:Y0} {X:Bool} {x3:YP} {Y:YZ} (g:x1.sm):Ok (vX x1 X x3 Y) (fun v=>match v with|.inl p=>p.Kind=4->0<=p.Event/\x1.pl p.Measure p.Staff p.Voice|.inr _=>True):=by
 unfold vX;have hP:=g.Parts;have hM:=g.Measures;have U:=g.Spanners;refine Ob (P:=fun r=>match r with|.inl p=>p.1≠4|.inr _=>True) (bQ (l:=x1.Parts) (fun q=>q.2) (fun _ _=>True) (by omega) rfl trivial (fun i e q D B hi hl _ hg hw=>?_) (fun q hi _=>?_)) fun r hr=>?_;obtain⟨s,x⟩:=q;dsimp only at hi hl hg hw;simp only[hl,hg,nt];refine Ob (Vn (g.PartsE e B)) fun r _=>?_;rcases r with _|_;exact .mk (show(1:Int)≠4 by decide);have U:=(g.PartsE e B).Staves;refine Ob (P:=fun _=>True) (bQ (l:=e.Staves) (fun q=>q.2) (fun _ _=>True) (by omega) rfl trivial (fun i2 e2 q W V F A _ m C=>?_) (fun q hi _=>?_)) fun r _=>?_;obtain⟨s,y⟩:=q;dsimp only at F A m C;simp only[A,m,nt];refine Ob Jr fun r _=>?_;rcases r with _|_;exact bB;exact .mk ⟨C,trivial⟩;obtain⟨s,y⟩:=q;dsimp only at hi;simp only[hi,nf];exact bB;rcases r with⟨a,b⟩|a;exact .mk (show(2:Int)≠4 by decide);exact .mk ⟨hw,trivial⟩;obtain⟨s,y⟩:=q;dsimp only at hi;simp only[hi,nf];exact bB;rcases r with⟨k,p,st⟩|_;exact .mk (fun h=>absurd h hr);refine Ob (P:=fun r=>match r with|.inl p=>p.1=4->0<=p.2.2.2.2/\x1.pl p.2.2.1 p.2.1 p.2.2.2.1|.inr _=>True) (bQ (l:=x1.Measures) (fun q=>q) (fun _ _=>True) (by omega) rfl trivial (fun i e q D B hi hl _ hg hw=>?_) (fun q hi _=>?_)) fun r hr=>?_;simp only[hl,hg,nt];have R:=g.MeasuresE e B;have Z:=R.Cells;refine Ob (Js R) fun r _=>?_;rcases r with _|_;exact .mk (fun h=>absurd (show(3:Int)=4 from h) (by decide));refine Ob (P:=fun r=>match r with|.inl p=>0<=p.2.2/\x1.pl q p.1 p.2.1|.inr _=>True) (bQ (l:=e.Cells) (fun q=>q) (fun _ _=>True) (by omega) rfl trivial (fun j c w D J hj hlc _ o M=>?_) (fun q hi _=>?_)) fun r hr=>?_;simp only[hlc,o,nt];have S:=R.CellsE c J;have hV:=S.Voices;refine Ob (P:=fun r=>match r with|.inl p=>0<=p.2/\x1.pl q w p.1|.inr _=>True) (bQ (l:=c.Voices) (fun q=>q) (fun _ _=>True) (by omega) rfl trivial (fun k v u D L hk H _ z O=>?_) (fun q hi _=>?_)) fun r hr=>?_;simp only[H,z,nt];have T:=S.VoicesE v L;have hE:=T.Events;refine Ob (P:=fun r=>match r with|.inl x=>0<=x|.inr _=>True) (bQ (l:=v.Events) (fun q=>q) (fun _ _=>True) (by omega) rfl trivial (fun n ev t D K ht G _ E N=>?_) (fun q hi _=>?_)) fun r hr=>?_;simp only[G,E,nt];refine Ob (Jt (T.EventsE ev K)) fun r _=>?_;rcases r with _|_;exact .mk (show(0:Int)<=t by omega);exact .mk ⟨N,trivial⟩;simp only[hi,nf];exact bB;rcases r with x|_;exact .mk ⟨hr,e,c,v,hg,o,z⟩;exact .mk ⟨O,trivial⟩;simp only[hi,nf];exact bB;rcases r with⟨a,b⟩|_;exact .mk hr;exact .mk ⟨M,trivial⟩;simp only[hi,nf];exact bB;rcases r with⟨a,b,c⟩|_;exact .mk (fun _=>hr);exact .mk ⟨hw,trivial⟩;simp only[hi,nf];exact bB;rcases r with⟨a,b,c,d,f⟩|_;exact .mk hr;refine Ob (P:=fun _=>True) (bQ (l:=x1.Spanners) (fun q=>q) (fun _ _=>True) (by omega) rfl trivial (fun i e q D B hi hl _ hg hw=>?_) (fun q hi _=>?_)) fun r hr=>?_;simp only[hl,hg,nt];refine Ob Ju fun r _=>?_;rcases r with _|_;exact bB;exact .mk ⟨hw,trivial⟩;simp only[hi,nf];exact bB;rcases r with x|_;exact .mk (fun h=>absurd (show(5:Int)=4 from h) (by decide));exact bB
theorem bJ2 {x1:Y0} {b:YZ} (a:x1.sm):Ok (bW1 x1 b) (fun v=>v.2=true->v.1.Kind=4->0<=v.1.Event/\x1.pl v.1.Measure v.1.Staff v.1.Voice):=by
 unfold bW1;refine Oi (fun _=>.mk (fun h=>by cases h)) (fun _=>?_);refine Ob (cR1 a) fun _ _=>?_;refine Ob (cS1 a) fun r hr=>?_;rcases r with p|_;exact .mk (fun _=>hr);exact .mk (fun h=>by cases h)
theorem bK2 {x1:aA Int} (b:x1.length<=20):Ok (bX1 x1) (fun _=>True):=by
 unfold bX1;refine Ob (sM (by omega) (by omega) (by omega)) fun g h2=>?_;refine Ob (P:=fun v=>v.length=x1.length) (iW (fun q=>q.1) (x1.length:Int) (fun q=>q.2.length=x1.length) (by omega) (by dsimp only;omega) (by rw[h2];simp) (fun q a h1 h2=>?_)) fun v hv=>bB;obtain⟨i,l⟩:=q;dsimp only at a h1 h2 ⊢;refine Oi (fun hc=>?_) (fun _=>.mk a);simp only[iO2]at hc;rw[bN (n:=i-1) (by omega) (by omega)];refine Ob (iV (by omega) (by omega)) fun j d=>?_;refine Ob (lA (by omega)) fun x _=>?_;refine Ob (bX (Q:=fun _=>True) (by omega) (by omega) (fun _ _ _=>trivial)) fun y _=>?_;refine Ob (iV (by omega) (by omega)) fun f c=>?_;exact Ob (Mh (by omega)) fun m e=>.mk ⟨hc,h2 hc,by dsimp only;omega⟩
theorem bL2 {x1:YO} {c:Int} (b:x1.sm):Ok (bY1 x1 c) (fun _=>True):=by
 unfold bY1;refine Ob (qA1 b) fun⟨x3,d⟩ a=>?_
 try dsimp only at a
 refine Oi (fun c1215=>?_) (fun c1215=>?_);exact bB;refine bZ (bK2 a) fun e=>?_;exact bB
theorem qM1 {x1:YK} {j:YZ} (c:x1.s'.sm):Ok (Um x1 j) (fun _=>True):=by
 unfold Um;refine Ob (bJ2 c) fun⟨p,f⟩ hp=>?_;dsimp only at hp;refine Oi (fun _=>bB) (fun hc=>?_);simp only[iS2,lI2,iX2,Bool.not_eq_false,bne_iff_ne,ne_eq,Decidable.not_not]at hc;obtain⟨h0,x,y,z,d,hy,g⟩:=hp hc.1 hc.2;simp only[d,hy,g,iF2];have h:=c.MeasuresE x (fG d).2.2.1;have i:=(h.CellsE y (fG hy).2.2.1).VoicesE z (fG g).2.2.1;refine Ob (T61 h) fun⟨a,b⟩ _=>?_;refine Ob (bL2 i) fun⟨on,e⟩ _=>?_;refine Oi (fun _=>bB) (fun hd=>?_);simp only[iO2]at hd;exact Ob (bX (Q:=fun _=>True) h0 (by dsimp only at hd ⊢;omega) (fun _ _ _=>trivial)) fun w _=>bB
theorem cT1 {x1 a:Int}:Ok (Jj x1 a) (fun _=>True):=by
 unfold Jj;exact bB
theorem qN1 {x1:YQ}:Ok (Un x1) (fun _=>True):=by
 unfold Un;refine bZ (cT1) fun g=>?_;refine Ob (P:=fun r=>r=true->g=true) ?_ fun i a=>?_;refine Oi (fun c1219=>?_) (fun _=>.mk (fun h=>by cases h));refine bZ (cT1) fun x3=>?_;exact .mk (fun _=>c1219);refine Ob (P:=fun r=>r=true->i=true) ?_ fun j b=>?_;refine Oi (fun c1222=>?_) (fun _=>.mk (fun h=>by cases h));have e:=a c1222;refine bZ (cT1) fun k=>?_;exact .mk (fun _=>c1222);refine Ob (P:=fun r=>r=true->j=true) ?_ fun m d=>?_;refine Oi (fun c1226=>?_) (fun _=>.mk (fun h=>by cases h));have c:=b c1226;have f:=a c;refine bZ (cT1) fun l=>?_;exact .mk (fun _=>c1226);exact bB
theorem qO1 {x1:Int}:Ok (Uo x1) (fun _=>True):=by
 unfold Uo;exact bB
theorem qP1 {x1:Int}:Ok (Up x1) (fun _=>True):=by
 unfold Up;exact bB
theorem qQ1 {x1 a:Int}:Ok (Uq x1 a) (fun _=>True):=by
 unfold Uq;refine bZ (qP1) fun x3=>?_;refine bZ (qP1) fun b=>?_;refine Oi (fun c1232=>?_) (fun c1232=>?_);refine Oi (fun c1233=>?_) (fun c1233=>?_);exact bB;exact bB;refine Oi (fun c1234=>?_) (fun c1234=>?_);exact bB;refine Oi (fun c1235=>?_) (fun c1235=>?_);exact bB;refine Oi (fun c1236=>?_) (fun c1236=>?_);exact bB;exact bB
theorem bM2 {x1:aA Int} (e:x1.length<=20):Ok (bZ1 x1) (fun _=>True):=by
 unfold bZ1;have g:=e;refine pG (l:=x1) (fun q=>q) (iI2 e (by decide)) rfl (fun i h x3 f a c b d=>?_) (fun x3 a=>?_) fun j=>?_;simp only[c,b,nt];refine Oi (fun c1248=>?_) (fun c1248=>?_);exact bB;exact .mk d;simp only[a,nf];exact bB;rcases j with k|_;exact bB;exact bB
theorem Jv {x1 a:YQ}:Ok (zF x1 a) (fun _=>True):=by
 unfold zF;refine bZ (qQ1) fun x3=>?_;refine bZ (qQ1) fun b=>?_;refine bZ (bM2 (by simp)) fun c=>?_;exact bB
theorem bN2 {x1:YS}:Ok (cA1 x1) (fun _=>True):=by
 unfold cA1;refine Oi (fun c1252=>?_) (fun c1252=>?_);exact bB;refine bZ (qN1) fun e=>?_;refine Ob (P:=fun r=>¬r=true->¬(!e)=true) ?_ fun f a=>?_;refine Oi (fun _=>.mk (fun h=>absurd rfl h)) (fun c1255=>?_);refine bZ (qN1) fun x3=>?_;exact .mk (fun _=>c1255);refine Oi (fun c1257=>?_) (fun c1257=>?_);exact bB;have c:=a c1257;refine Ob (P:=fun r=>¬r=true->¬(x1.From.Staff !=x1.To.Staff)=true) ?_ fun i b=>?_;refine Oi (fun _=>.mk (fun h=>absurd rfl h)) (fun c1260=>?_);refine bZ (qO1) fun g=>?_;exact .mk (fun _=>c1260);refine Oi (fun c1262=>?_) (fun c1262=>?_);exact bB;have d:=b c1262;refine bZ (Jv) fun j=>?_;refine Oi (fun c1265=>?_) (fun c1265=>?_);exact bB;exact bB
theorem qR1 {x1:aA YV} {d:Y0} {x3:Int} (j:x1.length+0<=1000000) (c:d.sm):Ok (Ur x1 d x3) (fun v=>v.1.length=d.Spanners.length/\v.2.length=d.Spanners.length):=by
 unfold Ur;have n:=c.Spanners;refine Ob (P:=fun v=>v.1.length=d.Spanners.length/\v.2.length=d.Spanners.length) (bQ (l:=d.Spanners) (fun q=>q.1) (fun i q=>q.2.1.length=i/\q.2.2.length=i) (by omega) rfl ⟨rfl,rfl⟩ (fun i e q p o hi hl f hg hw=>?_) (fun q hi f=>?_)) fun⟨a,b⟩ hv=>.mk hv;obtain⟨x,g,h⟩:=q;dsimp only at hi hl f hg hw;simp only[hl,hg,nt];refine Ob (qM1 c) fun⟨p1,k⟩ _=>?_;refine Ob (qM1 c) fun⟨p2,m⟩ _=>?_;refine Ob (fF (Q:=fun v=>v.length=h.length+1) (by omega) (by simp)) fun r h1=>?_;refine Ob (P:=fun _=>True) (Oi (fun _=>bB) (fun _=>Ob bN2 fun _ _=>bB)) fun b _=>?_;exact Ob (fF (Q:=fun v=>v.length=g.length+1) (by omega) (by simp)) fun s h2=>.mk ⟨hw,by dsimp only;omega,by dsimp only;omega⟩;obtain⟨x,g,h⟩:=q;dsimp only at hi f;simp only[hi,nf];exact .mk f
theorem qS1 {x1:aA YV} {g:Y0} {x3:Int} (h:x1.length+10<=1000000) (c:g.sm):Ok (Us x1 g x3) (fun v=>x1.length<=v.length/\v.length<=x1.length+10):=by
 unfold Us;have m:=c.Spanners;refine Ob (qR1 (by omega) c) fun⟨a,b⟩ f=>?_;dsimp only at f;refine Ob (P:=fun v=>x1.length<=v.length/\v.length<=x1.length+10) (bQ (l:=g.Spanners) (fun q=>q.1) (fun i q=>x1.length<=q.2.length/\q.2.length<=x1.length+i) (by omega) rfl (by dsimp only;omega) (fun i e q o n hi hl d hg hw=>?_) (fun q hi d=>?_)) fun v hv=>.mk (by omega);obtain⟨x,l⟩:=q;dsimp only at hi hl d hg hw;simp only[hl,hg,nt];refine Ob (iV (by omega) (by omega)) fun j k=>?_;refine Ob (lA k.2) fun y _=>?_;exact Ob (kO (by omega) c) fun v hv=>.mk ⟨hw,by dsimp only;omega⟩;obtain⟨x,l⟩:=q;dsimp only at hi d;simp only[hi,nf];exact .mk (by omega)
theorem iF1 {x1:Int}:Ok (Oy x1) (fun v=>v>0->1<=x1/\x1<=7):=by
 unfold Oy;refine Oi (fun c1266=>?_) (fun c1266=>?_);exact .mk (by omega);refine Ob (bX (Q:=fun _=>True) (by(simp only[nm]at *;rw[bN (by omega) (by omega)];omega)) (by(simp only[nm,nl]at *;rw[bN (by omega) (by omega)];omega)) (fun _ _ _=>trivial)) fun b a=>?_;exact .mk (by(simp only[nm]at *;omega))
theorem bO2 {x1 a:YS}:Ok (cB1 x1 a) (fun v=>v=true->1<=x1.Kind/\x1.Kind<=7):=by
 unfold cB1;refine Ob iF1 fun f hf=>?_;refine Ob (P:=fun r=>r=true->1<=x1.Kind/\x1.Kind<=7) (Oi (fun hc=>?_) (fun _=>.mk (fun h=>by cases h))) fun b hb=>?_;simp only[iO2]at hc;have:=hf hc;exact Ob iF1 fun _ _=>Ob iF1 fun _ _=>.mk (fun _=>this);refine Ob (P:=fun r=>r=true->1<=x1.Kind/\x1.Kind<=7) (Oi (fun hc=>?_) (fun _=>.mk (fun h=>by cases h))) fun b hb=>.mk hb;simp only[iD2]at hc;have:=hb hc.1;exact Ob qO1 fun _ _=>.mk (fun _=>this)
theorem bP2 {x1 b:YS}:Ok (cC1 x1 b) (fun _=>True):=by
 unfold cC1;refine bZ (Jv) fun x3=>?_;refine Ob (P:=fun r=>¬r=true->¬(decide (x3<0))=true) ?_ fun d a=>?_;refine Oi (fun _=>.mk (fun h=>absurd rfl h)) (fun c1270=>?_);refine bZ (Jv) fun c=>?_;exact .mk (fun _=>c1270);exact bB
theorem iG1 {x1 a:YS}:Ok (Oz x1 a) (fun _=>True):=by
 unfold Oz;refine bZ (bP2) fun x3=>?_;exact bB
theorem qT1 {x1 b:YS}:Ok (Uv x1 b) (fun _=>True):=by
 unfold Uv;refine bZ (Jv) fun x3=>?_;refine Ob (P:=fun r=>¬r=true->¬(decide (x3<=0))=true) ?_ fun d a=>?_;refine Oi (fun _=>.mk (fun h=>absurd rfl h)) (fun c1275=>?_);refine bZ (Jv) fun c=>?_;exact .mk (fun _=>c1275);exact bB
theorem iH1 {x1 a:YS}:Ok (Pa x1 a) (fun _=>True):=by
 unfold Pa;refine bZ (qT1) fun x3=>?_;exact bB
theorem qU1 {x1 b:YS}:Ok (Ux x1 b) (fun _=>True):=by
 unfold Ux;refine bZ (Jv) fun x3=>?_;refine Ob (P:=fun r=>r=true->(decide (x3>=0))=true) ?_ fun d a=>?_;refine Oi (fun c1280=>?_) (fun _=>.mk (fun h=>by cases h));refine bZ (Jv) fun c=>?_;exact .mk (fun _=>c1280);exact bB
theorem bQ2 {x1 b:YS}:Ok (cD1 x1 b) (fun _=>True):=by
 unfold cD1;refine bZ (qT1) fun x3=>?_;refine Ob (P:=fun r=>r=true->(!x3)=true) ?_ fun e a=>?_;refine Oi (fun c1284=>?_) (fun _=>.mk (fun h=>by cases h));refine bZ (qU1) fun c=>?_;refine bZ (qU1) fun d=>?_;exact .mk (fun _=>c1284);exact bB
theorem T86 {x1 b:YS}:Ok (F86 x1 b) (fun _=>True):=by
 unfold F86;refine Ob bO2 fun g hg=>?_;refine Oi (fun _=>bB) (fun hc=>?_);have hk:=hg (by simpa using hc);rw[bN (n:=x1.Kind-1) (by omega) (by omega)];refine Oi (fun _=>Ob iG1 fun _ _=>bB) (fun a=>?_);refine Oi (fun _=>Ob iH1 fun _ _=>bB) (fun h5=>?_);refine Oi (fun _=>Ob iG1 fun _ _=>bB) (fun h4=>?_);refine Oi (fun _=>Ob iG1 fun _ _=>bB) (fun h3=>?_);refine Oi (fun _=>Ob iH1 fun _ _=>bB) (fun h2=>?_);refine Oi (fun _=>Ob iH1 fun _ _=>bB) (fun h1=>?_);refine Oi (fun _=>Ob bQ2 fun _ _=>bB) (fun h0=>?_);simp only[jZ2]at h0 h1 h2 h3 h4 h5 a;omega
theorem qV1 {x1:aA YV} {n:Y0} {x3:Int} (o:x1.length+10<=1000000) (c:n.sm):Ok (Uy x1 n x3) (fun v=>x1.length<=v.length/\v.length<=x1.length+10):=by
 unfold Uy;have p:=c.Spanners;refine Ob (qR1 (by omega) c) fun⟨a,b⟩ g=>?_;dsimp only at g;refine Ob (P:=fun v=>x1.length<=v.length/\v.length<=x1.length+10) (bQ (l:=n.Spanners) (fun q=>q.1) (fun i q=>x1.length<=q.2.length/\q.2.length<=x1.length+i) (by omega) rfl (by dsimp only;omega) (fun i e q t s hi hl f hg hw=>?_) (fun q hi f=>?_)) fun v hv=>.mk (by omega);obtain⟨x,l⟩:=q;dsimp only at hi hl f hg hw;simp only[hl,hg,nt];refine Ob (P:=fun _=>True) (iW (fun q=>q.2) x (fun _=>True) (by omega) (by dsimp only;omega) trivial (fun q _ h1 h2=>?_)) fun b _=>?_;obtain⟨ex,k⟩:=q;dsimp only at h1 h2 ⊢;refine Ob (P:=fun r=>r=true->k<x) (Oi (fun hc=>?_) (fun _=>.mk (fun h=>by cases h))) fun b hb=>?_;simp only[iO2]at hc;exact Ob (iV (by omega) (by omega)) fun j d=>Ob (lA d.2) fun y _=>.mk (fun _=>hc);refine Oi (fun hc=>?_) (fun _=>bB);simp only[iD2]at hc;have hk:=hb hc.1;refine Ob (iV (by omega) (by omega)) fun j d=>Ob (lA d.2) fun y _=>?_;refine Ob (P:=fun _=>True) (Oi (fun _=>?_) (fun _=>bB)) fun b _=>.mk ⟨hk,h2 hk,trivial⟩;exact Ob (iV (by omega) (by omega)) fun j d=>Ob (lA d.2) fun w _=>Ob (iV (by omega) (by omega)) fun u m=>Ob (lA m.2) fun z _=>Ob T86 fun b _=>bB;exact Ob (kO (by omega) c) fun v hv=>.mk ⟨hw,by dsimp only;omega⟩;obtain⟨x,l⟩:=q;dsimp only at hi f;simp only[hi,nf];exact .mk (by omega)
theorem T87 {x1:Int} {a:YM} (c:a.sm):Ok (F87 x1 a) (fun v=>v=false->a.RepeatEnd<=8):=by
 unfold F87;simp only[hG1,iF2];refine Ob (P:=fun r=>r=false->a.RepeatEnd<=8) (Oi (fun hc=>.mk (fun h=>?_)) (fun hc=>.mk (fun _=>?_))) fun b hb=>?_;simp at h;omega;simp at hc;omega;exact Ob (P:=fun r=>r=false->a.RepeatEnd<=8) (Oi (fun hc=>.mk (fun h=>by cases h)) (fun hc=>.mk (fun _=>hb (by simpa using hc)))) fun b hb=>.mk hb
theorem iI1 {x1:aA YV} {c:Y0} {x3:Int} (o:x1.length+12<=1000000) (d:c.sm):Ok (tV x1 c x3) (fun v=>(x1.length<=v.length/\v.length<=x1.length+12)/\(v.length<=x1.length->∀m∈c.Measures,m.RepeatEnd<=8)):=by
 unfold tV;have r:=d.Measures;refine Ob (P:=fun v=>(x1.length<=v.length/\v.length<=x1.length+12)/\(v.length<=x1.length->∀m∈c.Measures,m.RepeatEnd<=8)) (bQ (l:=c.Measures) (fun q=>q.1) (fun i q=>q.2.length<=x1.length+i/\x1.length<=q.2.length/\(q.2.length<=x1.length->∀j,j<i->∀m,c.Measures[j]? =some m->m.RepeatEnd<=8)) (by omega) rfl ⟨by dsimp only;omega,iH2 _,fun _ j g=>by omega⟩ (fun i e q p n hi hl f hg hw=>?_) (fun q hi f=>?_)) fun v hv=>.mk hv;obtain⟨x,l⟩:=q;dsimp only at hi hl f hg hw;simp only[hl,hg,nt];refine Ob (T87 (d.MeasuresE e n)) fun b hb=>?_;refine Ob (Pd (by omega)) fun v hv=>.mk ⟨hw,?_,?_,fun h j g m a=>?_⟩;dsimp only;cases b<;>simp at hv<;>omega;dsimp only;cases b<;>simp at hv<;>omega;dsimp only at h;cases b with
 |true=>simp at hv;omega
 |false=>
  simp only[iQ2,false_implies,forall_const,true_and]at hv;by_cases k:j=i;subst k;rw[p]at a;cases a;exact hb rfl;exact f.2.2 (by omega) j (by omega) m a
 obtain⟨x,l⟩:=q;dsimp only at hi f;simp only[hi,nf];refine .mk ⟨⟨by omega,by omega⟩,fun h m n=>?_⟩;obtain⟨j,g⟩:=jH2.1 n;exact f.2.2 h j (iG2.1 g).1 m g
theorem bR2 {x1:Int}:Ok (cF1 x1) (fun v=>0<=v/\v<=1000):=by
 unfold cF1;refine Ob (P:=fun v=>0<=v.2/\v.2<=32) (Oi (fun _=>Ob (sL (by decide)) fun n _=>.mk (by dsimp only;omega)) (fun _=>.mk (by dsimp only;omega))) fun⟨x3,f⟩ h4=>?_;dsimp only at h4;refine Ob (P:=fun v=>0<=v.2/\v.2<=48) (Oi (fun _=>Ob (sL (by decide)) fun n _=>.mk (by dsimp only;rw[bN (by omega) (by omega)];omega)) (fun _=>.mk (by dsimp only;omega))) fun⟨g,h⟩ c=>?_;dsimp only at c;refine Ob (P:=fun v=>0<=v.2/\v.2<=56) (Oi (fun _=>Ob (sL (by decide)) fun n _=>.mk (by dsimp only;rw[bN (by omega) (by omega)];omega)) (fun _=>.mk (by dsimp only;omega))) fun⟨e,d⟩ a=>?_;dsimp only at a;have hw:=pK1 e;refine Ob (tW hw.1 hw.2) fun b hb=>.mk ?_;rw[bN (n:=b) (by omega) (by omega),bN (by omega) (by omega)];omega
theorem cU1 {x1:Int}:Ok (yN x1) (fun v=>0<=v/\v<=1000):=by
 unfold yN;refine Ob (bR2) fun b a=>?_;exact .mk (by omega)
theorem T89 {x1:YG} (c:x1.passes<=1000):Ok (Pp x1) (fun _=>True):=by
 unfold Pp;refine Ob (P:=fun r=>r=true->(decide (x1.passes>0))=true) ?_ fun x3 a=>?_;refine Oi (fun c1289=>?_) (fun _=>.mk (fun h=>by cases h));refine Ob (Mg (by(simp only[nm]at *;rw[bN (by omega) (by omega)];omega))) fun d b=>?_;exact .mk (fun _=>c1289);exact bB
theorem bS2 {x1:YG} {e:YM} (u:e.sm) (E:x1.passes<=8) (hy:e.RepeatEnd<=8):Ok (Uz x1 e) (fun v=>v.1.passes<=8):=by
 unfold Uz;refine Oi (fun c1291=>?_) (fun c1291=>?_);exact .mk (by omega);refine Oi (fun c1292=>?_) (fun c1292=>?_);refine Oi (fun c1293=>?_) (fun c1293=>?_);exact .mk (by omega);refine Ob (cU1) fun x3 f=>?_;refine Oi (fun c1295=>?_) (fun c1295=>?_);refine Oi (fun c1296=>?_) (fun c1296=>?_);exact .mk (by omega);refine Oi (fun c1297=>?_) (fun c1297=>?_);refine bZ (T89 (by(simp only[nm]at *;omega))) fun C=>?_;refine Ob (P:=fun r=>¬r=true->¬(C||((x1.passes !=0)&&(e.RepeatEnd !=x1.passes)))=true) ?_ fun G a=>?_;refine Oi (fun _=>.mk (fun h=>absurd rfl h)) (fun c1300=>?_);refine Ob (cU1) fun F g=>?_;exact .mk (fun _=>c1300);refine Oi (fun c1302=>?_) (fun c1302=>?_);exact .mk (by omega);have n:=a c1302;exact .mk (by omega);exact .mk (by omega);refine Ob (P:=fun r=>¬r=true->¬(decide ((bE (x3-1))>=x1.passes))=true) ?_ fun x b=>?_;refine Oi (fun _=>.mk (fun h=>absurd rfl h)) (fun c1305=>?_);refine Ob (P:=fun r=>r=true->((bE (x3-1))==(bE (x1.passes-1)))=true) ?_ fun w i=>?_;refine Oi (fun c1307=>?_) (fun _=>.mk (fun h=>by cases h));refine bZ (T89 (by(simp only[nm]at *;omega))) fun D=>?_;refine Ob (P:=fun r=>¬r=true->¬(!D)=true) ?_ fun J j=>?_;refine Oi (fun _=>.mk (fun h=>absurd rfl h)) (fun c1310=>?_);refine Ob (Mg (by(simp(disch:=omega) only[bN,nm]at *;omega))) fun H k=>?_;exact .mk (fun _=>c1310);exact .mk (fun _=>c1307);exact .mk (fun _=>c1305);refine Oi (fun c1312=>?_) (fun c1312=>?_);exact .mk (by omega);have o:=b c1312;refine Oi (fun c1314=>?_) (fun c1314=>?_);refine bZ (T89 (by(simp only[nm]at *;omega))) fun s=>?_;refine Ob (P:=fun r=>¬r=true->¬(s||((x1.passes !=0)&&(e.RepeatEnd !=x1.passes)))=true) ?_ fun z c=>?_;refine Oi (fun _=>.mk (fun h=>absurd rfl h)) (fun c1317=>?_);refine Ob (cU1) fun y l=>?_;exact .mk (fun _=>c1317);refine Oi (fun c1319=>?_) (fun c1319=>?_);exact .mk (by omega);have p:=c c1319;exact .mk (by omega);exact .mk (by omega);refine Oi (fun c1321=>?_) (fun c1321=>?_);exact .mk (by omega);refine Oi (fun c1322=>?_) (fun c1322=>?_);refine bZ (T89 (by omega)) fun t=>?_;refine Ob (P:=fun r=>¬r=true->¬(t||((x1.passes !=0)&&(e.RepeatEnd !=x1.passes)))=true) ?_ fun B d=>?_;refine Oi (fun _=>.mk (fun h=>absurd rfl h)) (fun c1325=>?_);refine Ob (cU1) fun A m=>?_;exact .mk (fun _=>c1325);refine Oi (fun c1327=>?_) (fun c1327=>?_);exact .mk (by omega);have q:=d c1327;exact .mk (by omega);exact .mk (by omega)
theorem T88 {x1:YG} {e:YM} (d:e.sm) (c:x1.passes<=8) (hy:e.RepeatEnd<=8):Ok (Wm x1 e) (fun v=>v.1.passes<=8):=by
 unfold Wm;refine Oi (fun _=>Ob (bS2 d c hy) fun⟨a,b⟩ h=>.mk h) (fun _=>?_);refine Oi (fun _=>?_) (fun _=>?_);refine Ob (T89 (by omega)) fun f _=>?_;refine Oi (fun _=>.mk c) (fun _=>?_);refine Oi (fun _=>Oi (fun h=>by cases h) (fun _=>?_)) (fun _=>?_);exact Ob (P:=fun _=>True) (Oi (fun _=>bB) (fun _=>bB)) fun⟨a,b⟩ _=>.mk (show(0:Int)<=8 by decide);exact Ob (P:=fun _=>True) (Oi (fun _=>bB) (fun _=>bB)) fun a _=>.mk (show(0:Int)<=8 by decide);refine Oi (fun _=>Oi (fun _=>.mk c) (fun _=>?_)) (fun _=>?_);exact Ob (P:=fun _=>True) (Oi (fun _=>bB) (fun _=>bB)) fun⟨a,b⟩ _=>.mk (show(0:Int)<=8 by decide);exact Ob (P:=fun g=>g.passes<=8) (Oi (fun _=>.mk (show(0:Int)<=8 by decide)) (fun _=>.mk c)) fun g hg=>.mk hg
theorem qW1 {x1:aA YV} {f:Y0} {x3:Int} (k:x1.length+25<=1000000) (c:f.sm) (o:0<f.Measures.length):Ok (Jk x1 f x3) (fun v=>x1.length<=v.length/\v.length<=x1.length+25):=by
 unfold Jk;have s:=c.Measures;refine Ob (iI1 (by omega) c) fun j h4=>?_;refine Oi (fun _=>.mk (by omega)) (fun hc=>?_);simp only[iO2]at hc;have n:=h4.2 (by omega);have m:=h4.1;refine Ob (P:=fun r=>match r with|.inl p=>j.length<=p.2.length/\p.2.length<=j.length+1|.inr g=>g.passes<=8) (bQ (l:=f.Measures) (fun q=>q.1) (fun i q=>q.2.passes<=8) (by omega) rfl (show(0:Int)<=8 by decide) (fun i e q o h hi hl d hg hw=>?_) (fun q hi d=>?_)) fun r hr=>?_;obtain⟨x,g⟩:=q;dsimp only at hi hl d hg hw;simp only[hl,hg,nt];refine Ob (T88 (c.MeasuresE e h) d (n e h)) fun⟨g2,b⟩ hb=>?_;refine Oi (fun _=>?_) (fun _=>.mk ⟨hw,hb⟩);exact Ob (kO (by omega) c) fun v hv=>.mk (by dsimp only;omega);obtain⟨x,g⟩:=q;dsimp only at hi d;simp only[hi,nf];exact .mk d;rcases r with⟨a,v⟩|g;exact .mk (by dsimp only at hr;omega);dsimp only at hr;refine Ob (P:=fun _=>True) (Oi (fun _=>bB) (fun _=>?_)) fun b _=>?_;exact Ob (P:=fun _=>True) (Oi (fun _=>Ob (T89 (by omega)) fun _ _=>bB) (fun _=>bB)) fun _ _=>bB;refine Ob (bX (Q:=fun _=>True) (by rw[bN (by omega) (by omega)];omega) (by rw[bN (by omega) (by omega)];omega) (fun _ _ _=>trivial)) fun y _=>?_;exact Ob (kO (by omega) c) fun v hv=>.mk (by omega)
theorem T91 {x1 a:YM} (b:x1.sm) (c:a.sm):Ok (F91 x1 a) (fun _=>True):=by
 unfold F91;exact bB
theorem T98 {x1:aA YM} {n:YM} (g:x1.length<=12) (h:∀y∈x1,y.sm) (k:n.sm):Ok (F98 x1 n) (fun _=>True):=by
 unfold F98;have i:=g;refine pG (l:=x1) (fun q=>q) (iI2 g (by decide)) rfl (fun m j o d a c b e=>?_) (fun o a=>?_) fun p=>?_;simp only[c,b,nt];have f:=h _ d;refine bZ (T91 f k) fun r=>?_;refine Oi (fun c1342=>?_) (fun c1342=>?_);exact bB;exact .mk e;simp only[a,nf];exact bB;rcases p with s|_;exact bB;exact bB
theorem T92 {x1:aA YM} {d:YM} (b:x1.length<=12) (a:∀y∈x1,y.sm) (c:d.sm):Ok (F92 x1 d) (fun _=>True):=by
 unfold F92;refine bZ (T98 b a c) fun x3=>?_;exact bB
theorem bT2 {x1:YM} {b:Int} (a:x1.sm):Ok (Va x1 b) (fun _=>True):=by
 unfold Va;exact bB
theorem qX1 {x1:aA YM} {m:Int} (g:x1.length<=12) (h:∀y∈x1,y.sm):Ok (Bc x1 m) (fun _=>True):=by
 unfold Bc;have i:=g;refine pG (l:=x1) (fun q=>q) (iI2 g (by decide)) rfl (fun k j n d a c b e=>?_) (fun n a=>?_) fun o=>?_;simp only[c,b,nt];have f:=h _ d;refine bZ (bT2 f) fun p=>?_;refine Oi (fun c1357=>?_) (fun c1357=>?_);exact bB;exact .mk e;simp only[a,nf];exact bB;rcases o with r|_;exact bB;exact bB
theorem iJ1 {x1:YK} {b:Int} (a:x1.s'.sm):Ok (Jl x1 b) (fun _=>True):=by
 unfold Jl;refine bZ (qX1 (jF2 a.Measures (by decide)) a.MeasuresE) fun x3=>?_;exact bB
theorem iK1 {x1:Int} {b:YK} {x3:Int} (a:b.s'.sm):Ok (Jn x1 b x3) (fun _=>True):=by
 unfold Jn;refine bZ (iJ1 a) fun c=>?_;refine bZ (Jq) fun d=>?_;exact bB
theorem T93 {x1:YK} {e x3:Int} (a:x1.s'.sm):Ok (F93 x1 e x3) (fun _=>True):=by
 unfold F93;refine Ob (P:=fun r=>r=true->(decide (e>=4))=true) ?_ fun l b=>?_;refine Oi (fun c1362=>?_) (fun _=>.mk (fun h=>by cases h));refine bZ (iK1 a) fun k=>?_;exact .mk (fun _=>c1362);refine Oi (fun c1364=>?_) (fun c1364=>?_);have d:=b c1364;exact bB;refine bZ ?_ fun m=>?_;refine Oi (fun c1367=>?_) (fun c1367=>?_);exact bB;exact bB;refine Oi (fun c1368=>?_) (fun c1368=>?_);refine bZ (iK1 a) fun n=>?_;exact bB;refine bZ ?_ fun o=>?_;refine Oi (fun c1371=>?_) (fun c1371=>?_);exact bB;exact bB;refine Oi (fun c1372=>?_) (fun c1372=>?_);refine bZ (iK1 a) fun j=>?_;refine Ob (P:=fun r=>r=true->j=true) ?_ fun i c=>?_;refine Oi (fun c1375=>?_) (fun _=>.mk (fun h=>by cases h));refine bZ (iJ1 a) fun f=>?_;refine bZ (iJ1 a) fun g=>?_;exact .mk (fun _=>c1375);exact bB;exact bB
theorem T90 {x1:Int} {f:YM} {x3:YK} (d:f.sm) (a:x3.s'.sm) (e:0<=x1/\x1<=(x3.s'.Measures.length:Int)):Ok (F90 x1 f x3) (fun _=>True):=by
 unfold F90;refine Ob Jq fun w _=>?_;refine Ob (P:=fun _=>True) (Oi (fun _=>bB) (fun _=>Ob Jq fun _ _=>bB)) fun b _=>?_;refine Oi (fun _=>bB) (fun _=>?_);refine Ob (Bd (by decide) e.1 e.2) fun l hl=>?_;refine Ob (T92 (jF2 hl.1 a.Measures) (fun y hy=>a.MeasuresE y (hl.2 y hy)) d) fun c _=>?_;exact Ob (P:=fun _=>True) (Oi (fun _=>bB) (fun _=>Ob (T93 a) fun _ _=>bB)) fun b _=>bB
theorem iL1 {x1:aA YV} {n:Y0} {x3:Int} (p:x1.length+12<=1000000) (f:n.sm):Ok (yO x1 n x3) (fun v=>x1.length<=v.length/\v.length<=x1.length+12):=by
 unfold yO;have i:=f.Measures;refine og n.Measures x1 12 1 (iI2 f.Measures (by decide)) (fun m k q1389 j g a d b c e=>?_) (fun q1389 a b=>?_) fun s o=>?_;obtain⟨t,u⟩:=q1389;dsimp only at a d c e b;simp only[d,c,nt];have h:=f.MeasuresE _ g;refine bZ (T90 h f (by(simp only[nm]at *;omega))) fun q=>?_;refine Ob (kO (by first|omega|(simp only[iR2]at *;omega)) f) fun r l=>?_;exact .mk ⟨e,by dsimp only;omega⟩;obtain⟨t,u⟩:=q1389;dsimp only at a b;simp only[a,nf];exact .mk (by dsimp only;omega);exact .mk (by omega)
theorem qY1 {x1:aA YV} {c:Y0} {x3:Int} (d:x1.length+12<=1000000) (b:c.sm):Ok (Jo x1 c x3) (fun v=>x1.length<=v.length/\v.length<=x1.length+12):=by
 unfold Jo;refine Ob (iL1 (by first|omega|(simp only[iR2]at *;omega)) b) fun e a=>?_;exact .mk (by omega)
theorem T94 {x1:Int} {m:YM} (f:m.sm):Ok (F94 x1 m) (fun _=>True):=by
 unfold F94;refine bZ (T61 f) fun⟨x3,M⟩=>?_;refine Ob (P:=fun r=>r=true->(m.Swing !=0)=true) ?_ fun L u=>?_;refine Oi (fun c1397=>?_) (fun _=>.mk (fun h=>by cases h));refine bZ (Jq) fun N=>?_;exact .mk (fun _=>c1397);refine Ob (P:=fun r=>¬r=true->¬L=true) ?_ fun R v=>?_;refine Oi (fun _=>.mk (fun h=>absurd rfl h)) (fun c1400=>?_);refine bZ (Jq) fun O=>?_;exact .mk (fun _=>c1400);have p:=f.Tempi;refine pG (l:=m.Tempi) (fun q=>q.2) (iI2 f.Tempi (by decide)) rfl (fun z t q1412 n a c b d=>?_) (fun q1412 a=>?_) fun K=>?_;obtain⟨j,k⟩:=q1412;dsimp only at a c b d;simp only[c,b,nt];refine Ob (P:=fun r=>¬r=true->¬j=true) ?_ fun C e=>?_;refine Oi (fun _=>.mk (fun h=>absurd rfl h)) (fun c1415=>?_);refine bZ (Jq) fun E=>?_;exact .mk (fun _=>c1415);refine Ob (P:=fun r=>¬r=true->¬C=true) ?_ fun D g=>?_;refine Oi (fun _=>.mk (fun h=>absurd rfl h)) (fun c1418=>?_);have A:=e c1418;refine bZ (Jq) fun F=>?_;exact .mk (fun _=>c1418);refine Ob (P:=fun r=>¬r=true->¬D=true) ?_ fun J w=>?_;refine Oi (fun _=>.mk (fun h=>absurd rfl h)) (fun c1422=>?_);have i:=g c1422;have B:=e i;refine Ob (P:=fun r=>r=true->(decide (k>0))=true) ?_ fun H y=>?_;refine Oi (fun c1426=>?_) (fun _=>.mk (fun h=>by cases h));have s:=f.Tempi;refine Ob (P:=fun x=>x∈m.Tempi) (bX (by(simp only[nm]at *;rw[bN (by omega) (by omega)];omega)) (by(simp only[nm]at *;rw[bN (by omega) (by omega)];omega)) (fun _ h _=>h)) fun G o=>?_;exact .mk (fun _=>c1426);exact .mk (fun _=>c1422);exact .mk d;obtain⟨j,k⟩:=q1412;dsimp only at a;simp only[a,nf];exact bB;exact bB
theorem iM1 {x1:aA YV} {n:Y0} {x3:Int} (p:x1.length+12<=1000000) (f:n.sm):Ok (Dt x1 n x3) (fun v=>x1.length<=v.length/\v.length<=x1.length+12):=by
 unfold Dt;have i:=f.Measures;refine og n.Measures x1 12 1 (iI2 f.Measures (by decide)) (fun m k q1441 j g a d b c e=>?_) (fun q1441 a b=>?_) fun s o=>?_;obtain⟨t,u⟩:=q1441;dsimp only at a d c e b;simp only[d,c,nt];have h:=f.MeasuresE _ g;refine bZ (T94 h) fun q=>?_;refine Ob (kO (by first|omega|(simp only[iR2]at *;omega)) f) fun r l=>?_;exact .mk ⟨e,by dsimp only;omega⟩;obtain⟨t,u⟩:=q1441;dsimp only at a b;simp only[a,nf];exact .mk (by dsimp only;omega);exact .mk (by omega)
theorem qZ1 {x1:aA YV} {c:Y0} {x3:Int} (d:x1.length+12<=1000000) (b:c.sm):Ok (Vd x1 c x3) (fun v=>x1.length<=v.length/\v.length<=x1.length+12):=by
 unfold Vd;refine Ob (iM1 (by first|omega|(simp only[iR2]at *;omega)) b) fun e a=>?_;exact .mk (by omega)
theorem T95 {x1:YP} {e:YE} {x3:YK} (a:e.sm) (c:x3.s'.sm):Ok (F95 x1 e x3) (fun _=>True):=by
 unfold F95;refine Ob (T80 c) fun⟨q,f⟩ d=>?_;dsimp only at d;refine Ob (P:=fun r=>¬r=true->f=true) (Oi (fun _=>.mk (fun h=>absurd rfl h)) (fun hc=>Ob (T79 a) fun t _=>.mk (fun _=>by simpa using hc))) fun b hb=>?_;refine Oi (fun _=>bB) (fun hc=>?_);simp only[iS2,lI2]at hc;have:=d (hb hc.1);exact Ob (bX (Q:=fun _=>True) this.1 this.2.1 (fun _ _ _=>trivial)) fun x _=>Ob (bX (Q:=fun _=>True) this.2.2.1 this.2.2.2 (fun _ _ _=>trivial)) fun y _=>bB
theorem iN1 {x1:aA YV} {x2:Y0} {x3:Int} (d7:x1.length+3600<=1000000) (y:x2.sm):Ok (Du x1 x2 x3) (fun v=>x1.length<=v.length/\v.length<=x1.length+3600):=by
 unfold Du;have N:=y.Measures;refine og x2.Measures x1 3600 300 (iI2 y.Measures (by decide)) (fun Y D q1458 S z c p g a t=>?_) (fun q1458 c g=>?_) fun d6 b7=>?_;obtain⟨b4,K⟩:=q1458;dsimp only at c p a t g;simp only[p,a,nt];have l:=y.MeasuresE _ z;have O:=l.Cells;refine og D.Cells K 300 60 (iI2 l.Cells (by decide)) (fun Z E q1472 T A d q h b u=>?_) (fun q1472 d h=>?_) fun d5 b8=>?_;obtain⟨b5,L⟩:=q1472;dsimp only at d q b u h;simp only[q,a,b,nt];have m:=l.CellsE _ A;have P:=m.Voices;refine og E.Voices L 60 20 (iI2 m.Voices (by decide)) (fun a0 F q1486 U B e r i k w=>?_) (fun q1486 e i=>?_) fun d4 b9=>?_;obtain⟨b6,M⟩:=q1486;dsimp only at e r k w i;simp only[r,a,b,k,nt];have n:=m.VoicesE _ B;have R:=n.Events;refine og F.Events M 20 1 (iI2 n.Events (by decide)) (fun b0 W q1500 V C f s j o x=>?_) (fun q1500 f j=>?_) fun d3 d0=>?_;obtain⟨H,J⟩:=q1500;dsimp only at f s o x j;simp only[s,a,b,k,o,nt];have G:=n.EventsE _ C;refine bZ (T95 G y) fun d1=>?_;refine Ob (kO (by first|omega|(simp only[iR2]at *;omega)) y) fun d2 X=>?_;exact .mk ⟨x,by dsimp only;omega⟩;obtain⟨H,J⟩:=q1500;dsimp only at f j;simp only[f,nf];exact .mk (by dsimp only;omega);exact .mk ⟨w,by dsimp only;omega⟩;obtain⟨b6,M⟩:=q1486;dsimp only at e i;simp only[e,nf];exact .mk (by dsimp only;omega);exact .mk ⟨u,by dsimp only;omega⟩;obtain⟨b5,L⟩:=q1472;dsimp only at d h;simp only[d,nf];exact .mk (by dsimp only;omega);exact .mk ⟨t,by dsimp only;omega⟩;obtain⟨b4,K⟩:=q1458;dsimp only at c g;simp only[c,nf];exact .mk (by dsimp only;omega);exact .mk (by omega)
theorem rA1 {x1:aA YV} {c:Y0} {x3:Int} (d:x1.length+3600<=1000000) (b:c.sm):Ok (Ve x1 c x3) (fun v=>x1.length<=v.length/\v.length<=x1.length+3600):=by
 unfold Ve;refine Ob (iN1 (by first|omega|(simp only[iR2]at *;omega)) b) fun e a=>?_;exact .mk (by omega)
theorem oM {c1 c2:Bool} {x:aA YV} {R:aB (aA YV)} (c:Ok R fun _=>True):Ok (((if decide ((x.length:Int)>0)=true then((if c1=true then some true else((if c2=true then(fQ x 0).bind fun a=>(gL x a).bind fun v=>some (decide (v.Rule<10))else some false:aB Bool)).bind fun y=>some y:aB Bool)).bind fun z=>some z else some false:aB Bool)).bind fun b=>if b=true then some x else R) fun _=>True:=by
 have k:∀D:aB Bool,(∃b,D=some b)->Ok (D.bind fun b=>if b=true then some x else R) fun _=>True:=fun D h=>by
  obtain⟨b,rfl⟩:=h;cases b with
  |true=>exact bB
  |false=>exact c
 refine k _ ?_;cases x with
 |nil=>exact⟨_,rfl⟩
 |cons v r=>
  have e:fQ (v::r) 0=some 0:=by
   unfold fQ rJ;rw[iJ2 ⟨by decide,by simp⟩];rfl
  rw[iJ2 (by simp),e];cases c1<;>cases c2<;>exact⟨_,rfl⟩
theorem T18 {x1:Y0} (a:x1.sm) (b:0<x1.Measures.length):Ok (F18 x1) (fun _=>True):=by
 unfold F18;refine oM (Ob (pL1 (by simp only[nl]at *;omega) a) fun _ _=>?_);refine oM (Ob (pO1 (by simp only[nl]at *;omega) a) fun _ _=>?_);refine oM (Ob (pP1 (by simp only[nl]at *;omega) a) fun _ _=>?_);refine oM (Ob (pQ1 (by simp only[nl]at *;omega) a) fun _ _=>?_);refine oM (Ob (pR1 (by simp only[nl]at *;omega) a) fun _ _=>?_);refine oM (Ob (qC1 (by simp only[nl]at *;omega) a) fun _ _=>?_);refine oM (Ob (qD1 (by simp only[nl]at *;omega) a) fun _ _=>?_);refine oM (Ob (qE1 (by simp only[nl]at *;omega) a) fun _ _=>?_);refine oM (Ob (qF1 (by simp only[nl]at *;omega) a) fun _ _=>?_);refine oM (Ob (qK1 (by simp only[nl]at *;omega) a) fun _ _=>?_);refine oM (Ob (qL1 (by simp only[nl]at *;omega) a) fun _ _=>?_);refine oM (Ob (qS1 (by simp only[nl]at *;omega) a) fun _ _=>?_);refine oM (Ob (qV1 (by simp only[nl]at *;omega) a) fun _ _=>?_);refine oM (Ob (qW1 (by simp only[nl]at *;omega) a b) fun _ _=>?_);refine oM (Ob (qY1 (by simp only[nl]at *;omega) a) fun _ _=>?_);refine oM (Ob (qZ1 (by simp only[nl]at *;omega) a) fun _ _=>?_);refine oM (Ob (rA1 (by simp only[nl]at *;omega) a) fun _ _=>?_);exact bB
theorem T8 {x1:Y0} (a:x1.sm):Ok (F8 x1) (fun _=>True):=by
 unfold F8;refine Ob (P:=fun _=>True) ?_ fun v _=>bB;by_cases h0:0<x1.Measures.length;exact(T18 a h0).mono fun _ _=>trivial;unfold F18;refine Ob (P:=fun r=>r=false) (Oi (fun h=>by simp at h) (fun _=>.mk rfl)) fun b hb=>?_;subst hb;refine Oi (fun h=>by cases h) (fun _=>?_);refine Ob (yZ1 a (by omega) (by decide)) fun v hv=>?_;refine Ob (P:=fun r=>r=true) (Oi (fun h=>Ob (P:=fun r=>r=true) (Oi (fun _=>.mk rfl) (fun h=>absurd rfl h)) fun b hb=>.mk hb) (fun h=>by simp at h;simp[h]at hv)) fun b hb=>?_;subst hb;exact Oi (fun _=>bB) (fun h=>absurd rfl h)
end Go.P
set_option maxHeartbeats 1000000
namespace Go.P
theorem Ok.eq {α:Type} {x:aB α} {a:α} (h:Ok x (fun v=>v=a)):x=some a:=by
 obtain⟨v,h1,rfl⟩:=h;exact h1
section
variable {K V:Type} [DecidableEq K]
theorem qL (k:K):∀(l:aA (K×V)) (i:Nat),kZ k l (i+1)=(kZ k l i).map fun p=>(p.1+1,p.2)
 |[],i=>rfl
 |p::r,i=>by
  simp only[kZ]
  by_cases e:k=p.1
  rw[iJ2 e,iJ2 e];rfl
  rw[iL2 e,iL2 e];exact qL k r (i+1)
theorem pA (p:K×V) (r:aA (K×V)) (k:K) (z:V):fW (p::r) k z=if k=p.1 then p.2 else fW r k z:=by
 unfold fW;simp only[kZ];by_cases e:k=p.1;rw[iJ2 e,iJ2 e];rw[iL2 e,iL2 e,qL];cases kZ k r 0<;>rfl
theorem Pe (p:K×V) (r:aA (K×V)) (k:K) (x:V):jC (p::r) k x=if k=p.1 then(k,x)::r else p::jC r k x:=by
 unfold jC;simp only[kZ];by_cases e:k=p.1;rw[iJ2 e,iJ2 e];rfl;rw[iL2 e,iL2 e,qL];cases kZ k r 0<;>rfl
theorem Be (k a:K) (x z:V):∀l:aA (K×V),fW (jC l k x) a z=if a=k then x else fW l a z
 |[]=>by
  show fW ([]++[(k,x)]) a z=_
  rw[List.nil_append,pA]
 |p::r=>by
  rw[Pe,pA]
  by_cases e:k=p.1
  rw[iJ2 e,pA]
  by_cases e2:a=k
  rw[iJ2 e2,iJ2 e2]
  rw[iL2 e2,iL2 e2,iL2 (fun h=>e2 (h.trans e.symm))]
  rw[iL2 e,pA,Be k a x z r]
  by_cases e2:a=p.1
  rw[iJ2 e2,iJ2 e2,iL2 (fun h=>e (h.symm.trans e2))]
  rw[iL2 e2,iL2 e2]
end
end Go.P
namespace Go.P
variable {s:Y0}
theorem oN {x v:aA YV} {D:aB Bool} {R:aB (aA YV)} (h:((if decide ((x.length:Int)>0)then D else some false).bind fun b=>if b then some x else R)=some v) (h0:v.length=0):R=some v:=by
 by_cases a:((x.length:Int)>0);rw[iJ2 (by simpa using a)]at h;cases D with
 |none=>cases h
 |some b=>
  cases b with
  |true=>simp at h;subst h;omega
  |false=>exact h
 rw[iL2 (by simpa using a)]at h;exact h
theorem eP {A B:Type} {x:aB A} {k:A->aB B} {v:B} (h:x.bind k=some v):∃a,x=some a/\k a=some v:=iC2.1 h
theorem oO {A:Type} {l:aA A} (h:l.length=0):l=[]:=kR2 h
structure eZ1 (s:Y0):Prop where
 r1:Jh [] s 1=some []
 r2:Tm [] s 2=some []
 r3:Tn [] s 3=some []
 r4:Tp [] s 4=some []
 r5:Tq [] s 5=some []
 r6:Uc [] s 6=some []
 r7:Ud [] s 7=some []
 r8:Ue [] s 8=some []
 r9:Uf [] s 9=some []
 r10:Ui [] s 10=some []
 r11:Uj [] s 11=some []
 r12:Us [] s 12=some []
 r13:Uy [] s 13=some []
 r14:Jk [] s 14=some []
 r15:Jo [] s 15=some []
 r16:Vd [] s 16=some []
 r17:Ve [] s 17=some []
theorem cV1 (hs:s.sm) (A:0<s.Measures.length) {v:aA YV} (h:F18 s=some v) (h0:v.length=0):eZ1 s:=by
 unfold F18 at h;have h:=oN h h0;obtain⟨x1,q,h⟩:=eP h;have S:=(pL1 (by decide) hs).of q;have h:=oN h h0;obtain⟨K,e2,h⟩:=eP h;have T:=(pO1 (by simp only[nl]at *;omega) hs).of e2;have h:=oN h h0;obtain⟨x3,r,h⟩:=eP h;have U:=(pP1 (by simp only[nl]at *;omega) hs).of r;have h:=oN h h0;obtain⟨L,t,h⟩:=eP h;have V:=(pQ1 (by simp only[nl]at *;omega) hs).of t;have h:=oN h h0;obtain⟨M,u,h⟩:=eP h;have W:=(pR1 (by simp only[nl]at *;omega) hs).of u;have h:=oN h h0;obtain⟨N,w,h⟩:=eP h;have X:=(qC1 (by simp only[nl]at *;omega) hs).of w;have h:=oN h h0;obtain⟨O,x,h⟩:=eP h;have Y:=(qD1 (by simp only[nl]at *;omega) hs).of x;have h:=oN h h0;obtain⟨P,y,h⟩:=eP h;have i8:=(qE1 (by simp only[nl]at *;omega) hs).of y;have h:=oN h h0;obtain⟨R,z,h⟩:=eP h;have Z:=(qF1 (by simp only[nl]at *;omega) hs).of z;have h:=oN h h0;obtain⟨j,a,h⟩:=eP h;have B:=(qK1 (by simp only[nl]at *;omega) hs).of a;have h:=oN h h0;obtain⟨k,b,h⟩:=eP h;have C:=(qL1 (by simp only[nl]at *;omega) hs).of b;have h:=oN h h0;obtain⟨l,c,h⟩:=eP h;have D:=(qS1 (by simp only[nl]at *;omega) hs).of c;have h:=oN h h0;obtain⟨m,d,h⟩:=eP h;have E:=(qV1 (by simp only[nl]at *;omega) hs).of d;have h:=oN h h0;obtain⟨n,e,h⟩:=eP h;have F:=(qW1 (by simp only[nl]at *;omega) hs A).of e;have h:=oN h h0;obtain⟨o,f,h⟩:=eP h;have G:=(qY1 (by simp only[nl]at *;omega) hs).of f;have h:=oN h h0;obtain⟨p,g,h⟩:=eP h;have i16:=(qZ1 (by simp only[nl]at *;omega) hs).of g;have h:=oN h h0;obtain⟨J,i,h⟩:=eP h;have H:=(rA1 (by simp only[nl]at *;omega) hs).of i;cases h;have z17:v=[]:=oO h0;have z16:p=[]:=oO (by simp only[nl]at *;omega);have z15:o=[]:=oO (by simp only[nl]at *;omega);have z14:n=[]:=oO (by simp only[nl]at *;omega);have z13:m=[]:=oO (by simp only[nl]at *;omega);have z12:l=[]:=oO (by simp only[nl]at *;omega);have Yu:k=[]:=oO (by simp only[nl]at *;omega);have z10:j=[]:=oO (by simp only[nl]at *;omega);have z9:R=[]:=oO (by simp only[nl]at *;omega);have z8:P=[]:=oO (by simp only[nl]at *;omega);have z7:O=[]:=oO (by simp only[nl]at *;omega);have z6:N=[]:=oO (by simp only[nl]at *;omega);have z5:M=[]:=oO (by simp only[nl]at *;omega);have z4:L=[]:=oO (by simp only[nl]at *;omega);have z3:x3=[]:=oO (by simp only[nl]at *;omega);have z2:K=[]:=oO (by simp only[nl]at *;omega);have z1:x1=[]:=oO (by simp only[nl]at *;omega);subst z1 z2 z3 z4 z5 z6 z7 z8 z9 z10 Yu z12 z13 z14 z15 z16 z17;exact⟨q,e2,r,t,u,w,x,y,z,a,b,c,d,e,f,g,i⟩
theorem iO1 (hs:s.sm) (a:0<s.Measures.length) (hv:F8 s=some true):eZ1 s:=by
 unfold F8 at hv;obtain⟨v,h,hv⟩:=eP hv;exact cV1 hs a h (by simp at hv;simp[hv])
end Go.P
namespace Go.P
variable {s:Y0}
def dM:YM:=⟨⟨0,0⟩,⟨0,0,⟨0,0,0,0,0,0⟩⟩,0,0,false,0,0,0,0,0,0,⟨#[]⟩,[],[]⟩
def gm (s:Y0) (i:Nat):YM:=s.Measures.getD i dM
theorem Bf {i:Nat} {m:YM} (h:s.Measures[i]? =some m):gm s i=m:=by simp[gm,List.getD_eq_getElem?_getD,h]
theorem dX {i:Nat} (h:i<s.Measures.length):aW s.Measures (i:Int)=some (gm s i):=by
 unfold aW;rw[iJ2 (by omega),Int.toNat_natCast,iZ2 h,Bf (iZ2 h)]
theorem rB1 {i:Nat} (hs:s.sm) (h:i<s.Measures.length):(gm s i).sm:=by
 rw[Bf (iZ2 h)];exact hs.MeasuresE _ (kN2 h)
theorem E87 {x:Int} {m:YM}:Ok (F87 x m) (fun v=>v=false->(m.RepeatEnd=0\/2<=m.RepeatEnd/\m.RepeatEnd<=8)/\0<=m.Endings/\m.Endings<=255):=by
 unfold F87 vV;simp only[iF2];by_cases h1:m.RepeatEnd=0;rw[iL2 (by simpa using h1)];simp only[iF2,iQ2,jS2];refine .mk (fun h=>⟨.inl h1,?_⟩);simpa using h;rw[iJ2 (by simpa using h1)];simp only[iF2];cases hb:(decide (m.RepeatEnd>=2)&&decide (m.RepeatEnd<=8))with
 |false=>exact .mk (fun h=>by cases h)
 |true=>
  refine .mk (fun h=>⟨.inr (by simpa using hb),?_⟩);simpa using h
theorem iP1 {l:aA YV} {r:Int} (h1:l.length+20<=1000000) (hs:s.sm):Ok (tV l s r) (fun v=>l.length<=v.length/\(v.length<=l.length->v.length=l.length/\∀i,i<s.Measures.length->((gm s i).RepeatEnd=0\/2<=(gm s i).RepeatEnd/\(gm s i).RepeatEnd<=8)/\0<=(gm s i).Endings/\(gm s i).Endings<=255)):=by
 unfold tV;have k:=hs.Measures;refine Ob (P:=fun v=>l.length<=v.length/\(v.length<=l.length->v.length=l.length/\∀i,i<s.Measures.length->((gm s i).RepeatEnd=0\/2<=(gm s i).RepeatEnd/\(gm s i).RepeatEnd<=8)/\0<=(gm s i).Endings/\(gm s i).Endings<=255)) (bQ (l:=s.Measures) (fun q=>q.1) (fun i q=>q.2.length<=l.length+i/\l.length<=q.2.length/\(q.2.length<=l.length->∀j,j<i->((gm s j).RepeatEnd=0\/2<=(gm s j).RepeatEnd/\(gm s j).RepeatEnd<=8)/\0<=(gm s j).Endings/\(gm s j).Endings<=255)) (by omega) rfl ⟨by dsimp only;omega,iH2 _,fun _ j f=>by omega⟩ (fun i e q g m hi hl a hg hw=>?_) (fun q hi a=>?_)) fun v hv=>.mk hv;obtain⟨x,v⟩:=q;dsimp only at hi hl a hg hw;simp only[hl,hg,nt];refine Ob E87 fun b hb=>?_;refine Ob (Pd (by omega)) fun u c=>.mk ⟨hw,?_,?_,fun h j f=>?_⟩;dsimp only;cases b<;>simp at c<;>omega;dsimp only;cases b<;>simp at c<;>omega;dsimp only at h;cases b with
 |true=>simp at c;omega
 |false=>
  simp only[iQ2,false_implies,forall_const,true_and]at c;by_cases d:j=i;subst d;rw[Bf g];exact hb rfl;exact a.2.2 (by omega) j (by omega)
 obtain⟨x,v⟩:=q;dsimp only at hi a;simp only[hi,nf];exact .mk ⟨a.2.1,fun h=>⟨by omega,a.2.2 h⟩⟩
def z0:YG:=⟨false,0,0,0,false,0⟩
structure gS (s:Y0) (g:Nat->YG):Prop where
 z:g 0=z0
 st:∀i,i<s.Measures.length->Wm (g i) (gm s i)=some (g (i+1),true)
 b:∀i,i<s.Measures.length->((gm s i).RepeatEnd=0\/2<=(gm s i).RepeatEnd/\(gm s i).RepeatEnd<=8)/\0<=(gm s i).Endings/\(gm s i).Endings<=255
def TQ (s:Y0) (r:(YG×aA YV)⊕YG):Prop:=match r with|.inl e=>e.2≠[]|.inr _=>∃g,gS s g
theorem Vo (hs:s.sm) (h:Jk [] s 14=some []):∃g,gS s g:=by
 unfold Jk at h;have y:=hs.Measures;obtain⟨v,t,h⟩:=eP h;have hv:=(iP1 (by decide) hs).of t;by_cases hc:((v.length:Int)>(([]:aA YV).length:Int));rw[iJ2 (by simpa using hc)]at h;cases h;simp at hc;rw[iL2 (by simpa using hc)]at h;have f:v=[]:=kR2 (by simpa using hc);subst f;obtain⟨_,hb⟩:=hv.2 (iH2 _);obtain⟨r,e2,h⟩:=eP h
 have hr:TQ s r:=by
  refine Ok.of (Q:=TQ s) (bQ (l:=s.Measures) (fun(q:Int×YG)=>q.1) (fun i q=>q.2.passes<=8/\∃g:Nat->YG,g 0=z0/\g i=q.2/\∀j,j<i->Wm (g j) (gm s j)=some (g (j+1),true)) (by omega) rfl ⟨by decide,fun _=>z0,rfl,rfl,fun j A=>by omega⟩ (fun i e q m B hi hl a hg hw=>?_) (fun q hi a=>?_)) e2;obtain⟨x,g0⟩:=q;dsimp only at hi hl a hg hw;simp only[hl,hg,nt];obtain⟨w,g,n,p,o⟩:=a;have z:e.RepeatEnd<=8:=by have:=(hb i (iG2.1 m).1).1;rw[Bf m]at this;omega
  refine Ok.bindE (T88 (hs.MeasuresE e B) w z) fun⟨c,b⟩ hv hp=>?_;dsimp only at hp ⊢;cases b with
  |false=>
   rw[iJ2 (show(!false)=true from rfl)];refine Ob (Pd (by decide)) fun u C=>.mk ?_;show u≠[]
   intro h;have:=C.1 rfl;rw[h]at this;simp at this
  |true=>
   rw[iL2 (show ¬(!true)=true by decide)];refine .mk ⟨hw,hp,fun k=>if k<=i then g k else c,by dsimp only;rw[iJ2 (iV2 _)];exact n,by dsimp only;rw[iL2 (by omega)],fun j A=>?_⟩;dsimp only;by_cases d:j=i;subst d;rw[iJ2 (iH2 _),iL2 (by omega),Bf m,p];exact hv;rw[iJ2 (by omega),iJ2 (by omega)];exact o j (by omega)
  obtain⟨x,g0⟩:=q;dsimp only at hi a;simp only[hi,nf];obtain⟨_,g,n,p,o⟩:=a;exact .mk (show ∃g,gS s g from⟨g,n,o,hb⟩)
 rcases r with⟨c,u⟩|c;dsimp only at h hr;cases h;exact absurd rfl hr;exact hr
theorem b2t {b:Bool} (h:¬b=true):b=false:=by cases b<;>simp_all
theorem Vp {g g':YG} {m:YM} (h:Wm g m=some (g',true)) (c:m.Endings=0):(g.ending≠0->Pp g=some true)/\g'.ending=0/\(g.ending=0/\g'.used=g.used\/g'.used=0):=by
 unfold Wm at h;rw[iL2 (by simpa using c)]at h;by_cases h1:g.ending=0;rw[iL2 (by simpa using h1)]at h;refine⟨fun h=>absurd h1 h,?_⟩;by_cases h2:m.RepeatStart=true;rw[iJ2 h2]at h;by_cases h3:g.started=true;rw[iJ2 h3]at h;cases h;rw[iL2 h3]at h;obtain⟨⟨a,b⟩,_,h⟩:=eP h;cases h;exact⟨rfl,.inr rfl⟩;rw[iL2 h2]at h;obtain⟨x,e,h⟩:=eP h;cases h;split at e;cases e;exact⟨rfl,.inr rfl⟩;cases e;exact⟨h1,.inl ⟨h1,rfl⟩⟩;rw[iJ2 (by simpa using h1)]at h;obtain⟨f,e,h⟩:=eP h;cases f with
 |false=>rw[iJ2 (show(!false)=true from rfl)]at h;cases h
 |true=>
  rw[iL2 (show ¬(!true)=true by decide)]at h;refine⟨fun _=>e,?_⟩;by_cases h2:m.RepeatStart=true;rw[iJ2 h2,iL2 (by decide)]at h;obtain⟨⟨a,b⟩,_,h⟩:=eP h;cases h;exact⟨rfl,.inr rfl⟩;rw[iL2 h2]at h;obtain⟨x,_,h⟩:=eP h;cases h;exact⟨rfl,.inr rfl⟩
structure iQ1 (g':YG) (m:YM) (used:Int):Prop where
 e:g'.ending=m.Endings
 u:g'.used=used
 d:g'.ended=true↔m.RepeatEnd≠0
 r:m.RepeatEnd≠0->g'.passes=m.RepeatEnd/\∃k,yN (IntKind.wrap .u64 m.Endings)=some k/\k<m.RepeatEnd
theorem Bg {g g':YG} {m:YM} (h:Wm g m=some (g',true)) (l:m.Endings≠0):
  (m.Endings≠g.ending/\(g.ending≠0->g.ended=true)/\cU .i64 m.Endings g.used=0/\iQ1 g' m (ior .i64 g.used m.Endings))\/(m.Endings=g.ending/\g.ended=false/\iQ1 g' m g.used):=by
 unfold Wm at h;rw[iJ2 (by simpa using l)]at h;obtain⟨⟨a,b⟩,h,h2⟩:=eP h;cases h2;unfold Uz at h;by_cases h1:(m.RepeatStart||(g.body==0))=true;rw[iJ2 h1]at h;cases h;rw[iL2 h1]at h;by_cases h2:m.Endings=g.ending;rw[iL2 (by simpa using h2)]at h;refine .inr ⟨h2,?_⟩;by_cases h3:g.ended=true;rw[iJ2 h3]at h;cases h;rw[iL2 h3]at h;refine⟨b2t h3,?_⟩;by_cases h4:m.RepeatEnd=0;rw[iL2 (by simpa using h4)]at h;cases h;exact⟨h2.symm,rfl,by rw[b2t h3];simp[h4],fun h=>absurd h4 h⟩;rw[iJ2 (by simpa using h4)]at h;obtain⟨f,j,h⟩:=eP h;obtain⟨c,e2,h⟩:=eP h;cases c with
 |true=>rw[iJ2 rfl]at h;cases h
 |false=>
  rw[iL2 (by decide)]at h;cases h;split at e2;cases e2;obtain⟨k,d,e2⟩:=eP e2;simp only[iK2,jL2]at e2;exact⟨h2.symm,rfl,by simp[h4],fun _=>⟨rfl,k,by rw[h2];exact d,by omega⟩⟩
 rw[iJ2 (by simpa using h2)]at h;refine .inl ⟨h2,?_⟩;by_cases h3:(((g.ending !=0)&&(!g.ended))||((cU .i64 m.Endings g.used)!=0))=true;rw[iJ2 h3]at h;cases h;rw[iL2 h3]at h
 have h5:(g.ending≠0->g.ended=true)/\cU .i64 m.Endings g.used=0:=by
  have h3:=b2t h3;simp only[kL2,Bool.and_eq_false_iff,bne_eq_false_iff_eq,Bool.not_eq_false']at h3;exact⟨fun n=>h3.1.resolve_left n,h3.2⟩
 refine⟨h5.1,h5.2,?_⟩;obtain⟨o,s,h⟩:=eP h
 have tail:∀{h:(if(m.RepeatEnd !=0)=true then(Pp (YG.mk g.started g.body (ior .i64 g.used m.Endings) m.Endings false g.passes)).bind fun p=>((if(p||((g.passes !=0)&&(m.RepeatEnd !=g.passes)))=true then some true else(yN (IntKind.wrap .u64 (m.Endings))).bind fun q=>some (decide (q>=m.RepeatEnd)):aB Bool)).bind fun r=>if r=true then some ((YG.mk g.started g.body (ior .i64 g.used m.Endings) m.Endings false g.passes),false)else some ((YG.mk g.started g.body (ior .i64 g.used m.Endings) m.Endings true m.RepeatEnd),true)else some ((YG.mk g.started g.body (ior .i64 g.used m.Endings) m.Endings false g.passes),true))=some (g',true)},iQ1 g' m (ior .i64 g.used m.Endings):=by
  intro h;by_cases h4:m.RepeatEnd=0;rw[iL2 (by simpa using h4)]at h;cases h;exact⟨rfl,rfl,by simp[h4],fun h=>absurd h4 h⟩;rw[iJ2 (by simpa using h4)]at h;obtain⟨f,j,h⟩:=eP h;obtain⟨c,e2,h⟩:=eP h;cases c with
  |true=>rw[iJ2 rfl]at h;cases h
  |false=>
   rw[iL2 (by decide)]at h;cases h;split at e2;cases e2;obtain⟨k,d,e2⟩:=eP e2;simp only[iK2,jL2]at e2;exact⟨rfl,rfl,by simp[h4],fun _=>⟨rfl,k,d,by omega⟩⟩
 by_cases e:(g.passes==0)=true;rw[iJ2 e]at h;by_cases i:(((cU .i64 m.Endings 1)==0)||(decide ((bE (o-1))>6)))=true;rw[iJ2 i]at h;cases h;rw[iL2 i]at h;exact tail (h:=h);rw[iL2 e]at h;obtain⟨c,e2,h⟩:=eP h;cases c with
 |true=>rw[iJ2 rfl]at h;cases h
 |false=>
  rw[iL2 (by decide)]at h;exact tail (h:=h)
end Go.P
namespace Go.P
variable {s:Y0}
def Vq:Nat->Nat->Nat
 |0,_=>0
 |k+1,x=>Vq k x+(x.testBit k).toNat
theorem Vr (a b:Nat) (h:a&&&b=0):∀k,Vq k (a|||b)=Vq k a+Vq k b
 |0=>rfl
 |k+1=>by
  have e:(a&&&b).testBit k=false:=by rw[h];simp
  rw[Nat.testBit_and]at e
  simp only[Vq,Vr a b h k,Nat.testBit_or]
  cases ha:a.testBit k<;>cases hb:b.testBit k<;>simp_all<;>omega
def By (a:Int):Prop:=0<=a/\a<=255
def Gz (a:Int):Int:=(Vq 8 a.toNat:Nat)
theorem pB (a:Nat) (h:a<256):(BitVec.ofInt 64 (a:Int)).toNat=a:=by
 rw[BitVec.ofInt_natCast,BitVec.toNat_ofNat];omega
theorem yQ (a:Nat) (h:a<256):IntKind.wrap .i64 (a:Int)=(a:Int):=by
 rw[show IntKind.wrap .i64 (a:Int)=bE (a:Int)from rfl,bN (by omega) (by omega)]
theorem Mi (a b:Nat) (c:a<256) (hb:b<256):ior .i64 ((a:Nat):Int) ((b:Nat):Int)=((a|||b:Nat):Int):=by
 unfold ior;rw[show IntKind.bits .i64=64 from rfl,BitVec.toNat_or,pB a c,pB b hb];exact yQ _ (Nat.or_lt_two_pow (n:=8) c hb)
theorem Vt (a b:Nat) (c:a<256) (hb:b<256):cU .i64 ((a:Nat):Int) ((b:Nat):Int)=((a&&&b:Nat):Int):=by
 unfold cU;rw[show IntKind.bits .i64=64 from rfl,BitVec.toNat_and,pB a c,pB b hb];exact yQ _ (iI2 Nat.and_le_left c)
theorem By.nat {a:Int} (h:By a):∃n:Nat,a=(n:Int)/\n<256:=⟨a.toNat,by unfold By at h;omega,by unfold By at h;omega⟩
theorem By.ior {a b:Int} (d:By a) (hb:By b):By (ior .i64 a b):=by
 obtain⟨x,rfl,c⟩:=d.nat
 obtain⟨y,rfl,hy⟩:=hb.nat
 rw[Mi x y c hy];have:=Nat.or_lt_two_pow (n:=8) c hy;exact⟨by omega,by omega⟩
theorem cW1 {a b:Int} (d:By a) (hb:By b) (h:cU .i64 b a=0):Gz (ior .i64 a b)=Gz a+Gz b:=by
 obtain⟨x,rfl,c⟩:=d.nat
 obtain⟨y,rfl,hy⟩:=hb.nat
 rw[Vt y x hy c]at h;rw[Mi x y c hy];unfold Gz;simp only[Int.toNat_natCast];rw[Vr x y (by rw[Nat.and_comm];omega)];omega
theorem cX1:∀a:Fin 256,F44 (IntKind.wrap .u64 (a.val:Int))=some (Vq 8 a.val:Nat):=by decide+kernel
theorem iR1 {a:Int} (h:By a):F44 (IntKind.wrap .u64 a)=some (Gz a):=by
 obtain⟨x,rfl,b⟩:=h.nat
 exact cX1 ⟨x,b⟩
theorem cY1:∀a:Fin 256,Vq 8 a.val=a.val%2+Vq 8 (a.val/2):=by decide+kernel
theorem Mj (a:Int):0<=Gz a/\Gz a<=8:=by
 have h:∀k x,Vq k x<=k:=fun k=>by
  induction k with
  |zero=>intro x;exact iH2 _
  |succ k ih=>intro x;have:=ih x;simp only[Vq];cases x.testBit k<;>simp<;>omega
 have:=h 8 a.toNat
 unfold Gz;omega
theorem cZ1:∀r:Fin 9,2<=r.val->yN (IntKind.wrap .u64 ((2^(r.val-1):Nat):Int))=some (r.val:Int)/\Ta .i64 1 ((r.val-1:Nat):Int)=some ((2^(r.val-1):Nat):Int):=by decide+kernel
variable {g:Nat->YG}
theorem gS.E (h:gS s g) {i:Nat} (hi:i<s.Measures.length):By (gm s i).Endings:=(h.b i hi).2
theorem gS.end0 (h:gS s g) {i:Nat} (hi:i<s.Measures.length):(g (i+1)).ending=(gm s i).Endings:=by
 by_cases a:(gm s i).Endings=0;rw[(Vp (h.st i hi) a).2.1,a];rcases Bg (h.st i hi) a with⟨_,_,_,f⟩|⟨_,_,f⟩<;>exact f.e
theorem gS.used0 (h:gS s g):∀i,i<=s.Measures.length->(g i).ending=0->(g i).used=0
 |0,_,_=>by rw[h.z];rfl
 |i+1,hi,he=>by
  have c:(gm s i).Endings=0:=by rw[<-h.end0 (by omega)];exact he
  rcases(Vp (h.st i (by omega)) c).2.2 with⟨a,b⟩|b
  rw[b];exact h.used0 i (by omega) a
  exact b
theorem gS.A (h:gS s g) {i:Nat} (hi:i+1<s.Measures.length) (h1:(gm s i).Endings≠0) (h2:(gm s (i+1)).Endings≠0) (h3:(gm s (i+1)).Endings≠(gm s i).Endings):(gm s i).RepeatEnd≠0:=by
 have e:=h.end0 (i:=i) (by omega)
 have hd:(g (i+1)).ended=true↔(gm s i).RepeatEnd≠0:=by
  rcases Bg (h.st i (by omega)) h1 with⟨_,_,_,f⟩|⟨_,_,f⟩<;>exact f.d
 rcases Bg (h.st (i+1) hi) h2 with⟨_,k,_⟩|⟨k,_⟩
 exact hd.1 (k (by rw[e];exact h1));rw[e]at k;exact absurd k h3
theorem gS.B (h:gS s g) {i:Nat} (hi:i+1<s.Measures.length) (h1:(gm s i).Endings≠0) (h2:(gm s (i+1)).Endings=0):(gm s i).RepeatEnd=0:=by
 apply Decidable.byContradiction;intro c;have e:=h.end0 (i:=i) (by omega);have a:=(Vp (h.st (i+1) hi) h2).1 (by rw[e];exact h1)
 have hr:(g (i+1)).passes=(gm s i).RepeatEnd/\∃k,yN (IntKind.wrap .u64 (gm s i).Endings)=some k/\k<(gm s i).RepeatEnd:=by
  rcases Bg (h.st i (by omega)) h1 with⟨_,_,_,f⟩|⟨_,_,f⟩<;>exact f.r c
 obtain⟨hp,k,hk,j⟩:=hr;have hb:=(h.b i (by omega)).1.resolve_left c;obtain⟨r,hr⟩:∃r:Nat,(gm s i).RepeatEnd=(r:Int):=⟨(gm s i).RepeatEnd.toNat,by omega⟩
 obtain⟨l,m⟩:=cZ1 ⟨r,by omega⟩ (by show 2<=r;omega);unfold Pp at a;rw[hp,hr,iJ2 (by simp;omega)]at a;rw[show bE ((r:Int)-1)=((r-1:Nat):Int)by rw[bN (by omega) (by omega)];omega,m]at a;simp only[iF2,iK2,jZ2]at a;rw[e]at a;rw[a,l]at hk;have d:(r:Int)=k:=Option.some.inj hk;omega
theorem gS.same (h:gS s g) {i:Nat} (hi:i<s.Measures.length) (h1:(gm s i).Endings≠0) (h2:(gm s i).Endings=(g i).ending):(g (i+1)).used=(g i).used:=by
 rcases Bg (h.st i hi) h1 with⟨k,_,_,f⟩|⟨_,_,f⟩
 exact absurd h2 k;exact f.u
theorem gS.new (h:gS s g) {i:Nat} (hi:i<s.Measures.length) (h1:(gm s i).Endings≠0) (h2:(gm s i).Endings≠(g i).ending):cU .i64 (gm s i).Endings (g i).used=0/\(g (i+1)).used=ior .i64 (g i).used (gm s i).Endings:=by
 rcases Bg (h.st i hi) h1 with⟨_,_,k,f⟩|⟨k,_⟩
 exact⟨k,f.u⟩;exact absurd k h2
def Run (s:Y0) (i j:Nat):Prop:=i<j/\j<=s.Measures.length/\(∀k,i<=k->k<j->(gm s k).Endings=(gm s i).Endings)/\(j=s.Measures.length\/(gm s j).Endings≠(gm s i).Endings)
theorem gS.run (h:gS s g) {i j:Nat} (hr:Run s i j) (h1:(gm s i).Endings≠0) (h2:(gm s i).Endings≠(g i).ending):cU .i64 (gm s i).Endings (g i).used=0/\(g j).used=ior .i64 (g i).used (gm s i).Endings:=by
 obtain⟨r1,r2,r3,_⟩:=hr;have a:=h.new (i:=i) (by omega) h1 h2;refine⟨a.1,?_⟩
 have:∀k,i+1+k<=j->(g (i+1+k)).used=ior .i64 (g i).used (gm s i).Endings:=fun k=>by
  induction k with
  |zero=>intro _;exact a.2
  |succ k ih=>
   intro hk;have e:=h.end0 (i:=i+k) (by omega);rw[show i+k+1=i+1+k by omega,r3 (i+k) (by omega) (by omega)]at e;have e2:=r3 (i+1+k) (by omega) (by omega);rw[show i+1+(k+1)=(i+1+k)+1 by omega,h.same (i:=i+1+k) (by omega) (by rw[e2];exact h1) (by rw[e2,e])];exact ih (by omega)
 have:=this (j-(i+1)) (by omega)
 rwa [show i+1+(j-(i+1))=j by omega]at this
end Go.P
namespace Go.P
variable {s:Y0} {g:Nat->YG}
inductive Ch (s:Y0):Nat->List aV->Int->(List aV×Int×Nat)->Prop
 |stop {i acc all} (h:i=s.Measures.length\/(gm s i).Endings=0):Ch s i acc all (acc,all,i)
 |step {i j acc all r} (h1:(gm s i).Endings≠0) (h2:Run s i j) (h3:Ch s j (acc++[⟨⟨(i:Int),(j:Int)⟩,(gm s i).Endings⟩]) (ior .i64 all (gm s i).Endings) r):Ch s i acc all r
theorem Run.det {i j k:Nat} (h:Run s i j) (h':Run s i k):j=k:=by
 obtain⟨a1,a2,a3,a4⟩:=h;obtain⟨b1,b2,b3,a⟩:=h';apply Decidable.byContradiction;intro b;by_cases hl:j<k
 grind
 grind
theorem Ch.det {i:Nat} {acc:aA aV} {all:Int} {r r':aA aV×Int×Nat} (h:Ch s i acc all r):Ch s i acc all r'->r=r':=by
 induction h with
 |stop h=>
  intro h';cases h' with
  |stop _=>rfl
  |step h1 h2 _=>
   rcases h with h|h
   .have:=h2.1;have:=h2.2.1;omega
   .exact absurd h h1
 |step h1 h2 h3 ih=>
  intro h';cases h' with
  |stop h=>
   rcases h with h|h
   .have:=h2.1;have:=h2.2.1;omega
   .exact absurd h h1
  |step k1 k2 k3=>
   have:=h2.det k2;subst this;exact ih k3
inductive Sc (s:Y0):Nat->Nat->List aH->List aH->Prop
 |fin1 {b o} (h:b<s.Measures.length):Sc s b s.Measures.length o (o++[⟨⟨(b:Int),(s.Measures.length:Int)⟩,[],1⟩])
 |fin0 {b o} (h:¬b<s.Measures.length):Sc s b s.Measures.length o o
 |ends {b i o acc all e r} (h1:i<s.Measures.length) (h2:(gm s i).Endings≠0) (h3:Ch s i [] 0 (acc,all,e)) (h4:Sc s e e (o++[⟨⟨(b:Int),(i:Int)⟩,acc,Gz all⟩]) r):Sc s b i o r
 |start {b i o r} (h1:i<s.Measures.length) (h2:(gm s i).Endings=0) (h3:(gm s i).RepeatStart=true/\b<i) (h4:Sc s i i (o++[⟨⟨(b:Int),(i:Int)⟩,[],1⟩]) r):Sc s b i o r
 |rep {b i o r} (h1:i<s.Measures.length) (h2:(gm s i).Endings=0) (h3:¬((gm s i).RepeatStart=true/\b<i)) (h4:(gm s i).RepeatEnd≠0) (h5:Sc s (i+1) (i+1) (o++[⟨⟨(b:Int),((i+1:Nat):Int)⟩,[],(gm s i).RepeatEnd⟩]) r):Sc s b i o r
 |skip {b i o r} (h1:i<s.Measures.length) (h2:(gm s i).Endings=0) (h3:¬((gm s i).RepeatStart=true/\b<i)) (h4:(gm s i).RepeatEnd=0) (h5:Sc s b (i+1) o r):Sc s b i o r
theorem Sc.det {b i:Nat} {o r r':aA aH} (h:Sc s b i o r):Sc s b i o r'->r=r':=by
 induction h with
 |fin1 h=>
  intro h';cases h' with
  |fin1 _=>rfl
  |fin0 k=>exact absurd h k
  |ends k=>omega
  |start k=>omega
  |rep k=>omega
  |skip k=>omega
 |fin0 h=>
  intro h';cases h' with
  |fin1 k=>exact absurd k h
  |fin0 k=>rfl
  |ends k=>omega
  |start k=>omega
  |rep k=>omega
  |skip k=>omega
 |ends h1 h2 h3 h4 ih=>
  intro h';cases h' with
  |fin1 k=>omega
  |fin0 k=>omega
  |ends k1 k2 k3 k4=>
   have:=h3.det k3;cases this;exact ih k4
  |start k1 k2=>exact absurd k2 h2
  |rep k1 k2=>exact absurd k2 h2
  |skip k1 k2=>exact absurd k2 h2
 |start h1 h2 h3 h4 ih=>
  intro h';cases h' with
  |fin1 k=>omega
  |fin0 k=>omega
  |ends k1 k2=>exact absurd h2 k2
  |start k1 k2 k3 k4=>exact ih k4
  |rep k1 k2 k3=>exact absurd h3 k3
  |skip k1 k2 k3=>exact absurd h3 k3
 |rep h1 h2 h3 h4 h5 ih=>
  intro h';cases h' with
  |fin1 k=>omega
  |fin0 k=>omega
  |ends k1 k2=>exact absurd h2 k2
  |start k1 k2 k3=>exact absurd k3 h3
  |rep k1 k2 k3 k4 k5=>exact ih k5
  |skip k1 k2 k3 k4=>exact absurd k4 h4
 |skip h1 h2 h3 h4 h5 ih=>
  intro h';cases h' with
  |fin1 k=>omega
  |fin0 k=>omega
  |ends k1 k2=>exact absurd h2 k2
  |start k1 k2 k3=>exact absurd k3 h3
  |rep k1 k2 k3 k4=>exact absurd h4 k4
  |skip k1 k2 k3 k4 k5=>exact ih k5
theorem eW {n:Nat} (h:n<1000000):bE ((n:Int)+1)=((n+1:Nat):Int):=by rw[bN (by omega) (by omega)];rfl
theorem Mk {n:Nat} (h:n<1000000):bE ((n:Int)-1)=(n:Int)-1:=bN (by omega) (by omega)
theorem Vu {body:Int->aB (Int⊕Int)} {i:Nat} (f:s.Measures.length<100000) (hi:i<s.Measures.length)
  (h1:∀k,i<=k->k<s.Measures.length->(gm s k).Endings=(gm s i).Endings->body (k:Int)=some (.inl ((k+1:Nat):Int)))
  (h2:∀k,i<=k->k<s.Measures.length->(gm s k).Endings≠(gm s i).Endings->body (k:Int)=some (.inr (k:Int)))
  (h3:body (s.Measures.length:Int)=some (.inr (s.Measures.length:Int))):
  Ok (aU body bC (i:Int)) (fun r=>∃j:Nat,r=(j:Int)/\Run s i j):=by
 refine bW (fun(q:Int)=>∃k:Nat,q=(k:Int)/\i<=k/\k<=s.Measures.length/\∀u,i<=u->u<k->(gm s u).Endings=(gm s i).Endings) (fun q=>s.Measures.length-q.toNat) (fun q c=>?_) bC _ ⟨i,rfl,iH2 _,by omega,fun u _ _=>by omega⟩ (by simp only[bC];omega);obtain⟨k,rfl,a,e,b⟩:=c;by_cases hk:k<s.Measures.length;by_cases he:(gm s k).Endings=(gm s i).Endings;rw[h1 k a hk he];refine .mk ⟨⟨k+1,rfl,by omega,hk,fun u g h=>?_⟩,by omega⟩;by_cases d:u=k;subst d;exact he
 grind
 rw[h2 k a hk he];have:i<k:=by grind
 exact .mk ⟨k,rfl,this,e,b,.inr he⟩;have:k=s.Measures.length:=by omega
 subst this;rw[h3];exact .mk ⟨_,rfl,hi,iH2 _,b,.inl rfl⟩
theorem fX {A:Type} {l:aA A} {x:A} (h:l.length<1000000):fJ false l [x]=some (l++[x]):=by
 have e:Sim.maxRoom=1073741824:=rfl;unfold fJ;rw[iJ2 ⟨by rw[e];simp;omega,fun h=>by cases h⟩]
theorem iS1 (F:s.Measures.length<100000) (D:∀i,i<s.Measures.length->By (gm s i).Endings):Ok (F23 s) (fun r=>Sc s 0 0 [] r):=by
 unfold F23;refine Ob (P:=fun r=>∃b:Nat,r.1=(b:Int)/\r.2.length<=b/\b<=s.Measures.length/\∀x,Sc s b s.Measures.length r.2 x->Sc s 0 0 [] x) (bW (fun(q:Int×Int×aA aH)=>∃b i:Nat,q.1=(b:Int)/\q.2.1=(i:Int)/\q.2.2.length<=b/\b<=i/\i<=s.Measures.length/\∀x,Sc s b i q.2.2 x->Sc s 0 0 [] x) (fun q=>2*(s.Measures.length-q.2.1.toNat)+(if q.1<q.2.1 then 1 else 0)) (fun q y=>?_) bC _ ⟨0,0,rfl,rfl,iH2 _,iH2 _,iV2 _,fun x h=>h⟩ (by simp only[bC];split<;>omega)) fun r hr=>?_
 .obtain ⟨B,K,o⟩:=q
  obtain⟨b,i,l,g2,t,m,J,g⟩:=y;dsimp only at l g2 t g ⊢;subst l g2;by_cases hi:(i:Int)<(s.Measures.length:Int)
  .rw [iJ2 (by simpa using hi),dX (by omega)]
   have hi:i<s.Measures.length:=by omega
   simp only[iF2];by_cases h1:(gm s i).Endings=0
   .rw [iL2 (by simpa using h1)]
    by_cases h2:(gm s i).RepeatStart=true/\b<i
    .rw [iJ2 (by simp[h2.1];omega),fX (by omega)]
     simp only[iF2];rw[Mk (by omega),bN (n:=(i:Int)-1+1) (by omega) (by omega),show(i:Int)-1+1=(i:Int)by omega];refine .mk ⟨⟨i,i,rfl,rfl,by dsimp only;rw[iP2];simp;omega,iH2 _,by omega,fun x h=>g x (.start hi h1 h2 h)⟩,?_⟩;dsimp only;rw[iL2 (by omega),iJ2 (by omega)];omega
    .rw [iL2 (by intro h;apply h2;simpa using h)]
     by_cases h3:(gm s i).RepeatEnd=0
     .rw [iL2 (by simpa using h3)]
      simp only[iF2];rw[eW (by omega)];refine .mk ⟨⟨b,i+1,rfl,rfl,t,by omega,hi,fun x h=>g x (.skip hi h1 h2 h3 h)⟩,?_⟩;dsimp only;split<;>split<;>omega
     .rw [iJ2 (by simpa using h3),eW (by omega),fX (by omega)]
      simp only[iF2];rw[eW (by omega)];refine .mk ⟨⟨i+1,i+1,rfl,rfl,by dsimp only;rw[iP2];simp;omega,iH2 _,hi,fun x h=>g x (.rep hi h1 h2 h3 h)⟩,?_⟩;dsimp only;rw[iL2 (by omega)];split<;>omega
   .rw [iJ2 (by simpa using h1)]
    refine Ob (P:=fun r=>∃(e:Nat) (c:aA aH),r=((e:Int),(e:Int)-1,c)/\c.length<=e/\i<e/\e<=s.Measures.length/\∀x,Sc s e e c x->Sc s 0 0 [] x) ?_ fun r hr=>?_
    .refine Ob (P:=fun r=>∃e:Nat,r.1=(e:Int)/\i<e/\e<=s.Measures.length/\By r.2.1/\Ch s i [] 0 (r.2.2,r.2.1,e)) (bW (fun(q:Int×Int×aA aV)=>∃k:Nat,q.1=(k:Int)/\i<=k/\k<=s.Measures.length/\q.2.2.length<=k/\By q.2.1/\(k=i->q.2=(0,[]))/\∀x,Ch s k q.2.2 q.2.1 x->Ch s i [] 0 x) (fun q=>s.Measures.length-q.1.toNat) (fun q y=>?_) bC _ ⟨i,rfl,iH2 _,by omega,by simp,⟨by show(0:Int)<=0;decide,by show(0:Int)<=255;decide⟩,fun _=>rfl,fun x h=>h⟩ (by simp only[bC];omega)) fun r hr=>?_
     .obtain ⟨L,all,acc⟩:=q
      obtain⟨k,a,v,f,f4,d,C,p⟩:=y;dsimp only at a f4 d C p ⊢;subst a;by_cases hk:(k:Int)<(s.Measures.length:Int)
      .rw [iJ2 (by simpa using hk),dX (by omega)]
       have hk:k<s.Measures.length:=by omega
       simp only[iF2];by_cases h2:(gm s k).Endings=0
       .rw [iL2 (by simpa using h2)]
        have w:i<k:=by grind
        exact .mk ⟨k,rfl,w,f,d,p _ (.stop (.inr h2))⟩
       .rw [iJ2 (by simpa using h2)]
        refine Ob (Vu F hk (fun u G z A=>?_) (fun u G z A=>?_) ?_) fun j E=>?_
        .rw [iJ2 (by simp;omega),dX z]
         simp only[iF2];rw[iJ2 (by simpa using A),eW (by omega)]
        .rw [iJ2 (by simp;omega),dX z]
         simp only[iF2];rw[iL2 (by simpa using A)]
        .grind
        .obtain ⟨j,rfl,hr⟩:=E
         have r1:=hr.1;have r2:=hr.2.1;rw[fX (by omega)];simp only[iF2];refine .mk ⟨⟨j,rfl,by omega,r2,by dsimp only;rw[iP2];simp;omega,d.ior (D k hk),fun h=>by omega,fun x h=>p x (.step h2 hr h)⟩,by dsimp only;omega⟩
      .rw [iL2 (by simpa using hk)]
       simp only[iF2,iQ2,jS2];exact .mk ⟨k,rfl,by omega,f,d,p _ (.stop (.inl (by omega)))⟩
     .obtain ⟨H,all,acc⟩:=r
      obtain⟨e,a,v,f,f4,d⟩:=hr;dsimp only at a f4 d ⊢;subst a;rw[iR1 f4];simp only[iF2];rw[fX (by omega),Mk (by omega)];refine .mk ⟨e,_,rfl,by rw[iP2];simp;omega,v,f,fun x h=>g x (.ends hi h1 d h)⟩
    .obtain ⟨e,c,rfl,a,v,f,f4⟩:=hr
     dsimp only;rw[bN (n:=(e:Int)-1+1) (by omega) (by omega),show(e:Int)-1+1=(e:Int)by omega];refine .mk ⟨⟨e,e,rfl,rfl,a,iH2 _,f,f4⟩,?_⟩;dsimp only;rw[iL2 (by omega)];split<;>omega
  .rw [iL2 (by simpa using hi)]
   have:i=s.Measures.length:=by omega
   subst this;exact .mk ⟨b,rfl,t,m,g⟩
 .obtain ⟨B,o⟩:=r
  obtain⟨b,l,g2,t,m⟩:=hr;dsimp only at l g2 m ⊢;subst l;by_cases hb:(b:Int)<(s.Measures.length:Int)
  .rw [iJ2 (by simpa using hb),fX (by omega)]
   exact .mk (m _ (.fin1 (by omega)))
  .rw [iL2 (by simpa using hb)]
   exact .mk (m _ (.fin0 (by omega)))
end Go.P
namespace Go.P
variable {s:Y0} {g:Nat->YG}
def cE (x:aV):aQ:=⟨x.span.first,x.span.end',x.bits⟩
def cG (x:aH):aI:=⟨⟨x.body.first,x.body.end',0⟩,x.endings.map cE,x.passes⟩
theorem Sc.skips {a:Nat} {o x:aA aH}:∀(d:Nat),a+d<=s.Measures.length->(∀u,a<=u->u<a+d->(gm s u).Endings=0/\(gm s u).RepeatEnd=0/\(u=a\/(gm s u).RepeatStart=false))->Sc s a (a+d) o x->Sc s a a o x
 |0,_,_,h=>h
 |d+1,hn,hs,h=>Sc.skips d (by omega) (fun u g i=>hs u g (by omega)) (by
   obtain⟨e,f,b⟩:=hs (a+d) (by omega) (by omega)
   refine .skip (by omega) e (fun c=>?_) f h
   rcases b with b|b
   have:=c.2;omega
   rw[b]at c;cases c.1)
theorem iT1 {b t:Int} (hb:By b) (l:0<=t/\t<=1000):Ok (aU (E:=Int) (fun(x:Int×Int)=>if decide (x.1>0)=true then(qI .i64 x.1 2).bind fun c=>(sB .i64 x.1 2).bind fun d=>some (.inl (d,(bE (x.2+c))))else some (.inr x.2)) bC (b,t)) (fun r=>r=t+Gz b):=by
 refine bW (fun(q:Int×Int)=>By q.1/\0<=q.2/\q.2+Gz q.1=t+Gz b) (fun q=>q.1.toNat) (fun q k=>?_) bC _ ⟨hb,l.1,rfl⟩ (by unfold By at hb;simp only[bC];omega);obtain⟨x,y⟩:=q;obtain⟨g,m,a⟩:=k;dsimp only at g m a ⊢;have hp:=Mj x;have j:=Mj b;obtain⟨n,rfl,i⟩:=g.nat
 by_cases f:(n:Int)>0;rw[iJ2 (by simpa using f)];unfold qI sB;rw[iL2 (by decide),iL2 (by decide)];simp only[iF2];have h:(n:Int).tmod 2=((n%2:Nat):Int):=by rw[Int.tmod_eq_emod_of_nonneg (by omega)];omega
 have e2:(n:Int).tdiv 2=((n/2:Nat):Int):=by rw[Int.tdiv_eq_ediv_of_nonneg (by omega)];omega
 have e:=cY1 ⟨n,i⟩;rw[h,e2,yQ _ (by omega),bN (by omega) (by omega)];refine .mk ⟨⟨⟨by dsimp only;omega,by dsimp only;omega⟩,by dsimp only;omega,?_⟩,by dsimp only;omega⟩;dsimp only at e ⊢;unfold Gz at a ⊢;simp only[Int.toNat_natCast]at a ⊢;rw[<-a,e];omega;rw[iL2 (by simpa using f)];have:n=0:=by omega
 subst this;refine .mk ?_;have:Gz ((0:Nat):Int)=0:=rfl;rw[this]at a;omega
theorem iU1 (hn:s.Measures.length<100000) (c:gS s g):Ok (F43 s) (fun r=>∃x,r=x.map cG/\Sc s 0 0 [] x):=by
 unfold F43;refine Ob (P:=fun r=>∃x,r=x.map cG/\Sc s 0 0 [] x) (bW (fun(q:Int×aA aI)=>∃(a:Nat) (o:aA aH),q.1=(a:Int)/\q.2=o.map cG/\o.length<=a/\a<=s.Measures.length/\(a<s.Measures.length->(gm s a).Endings≠0->(g a).ending=0)/\∀x,Sc s a a o x->Sc s 0 0 [] x) (fun q=>s.Measures.length-q.1.toNat) (fun q G=>?_) bC _ ⟨0,[],rfl,rfl,iH2 _,iV2 _,fun _ _=>by rw[c.z];rfl,fun x h=>h⟩ (by simp only[bC];omega)) fun r hr=>.mk hr;obtain⟨aa,oo⟩:=q;obtain⟨a,o,Z,g2,g3,g4,g5,g6⟩:=G;dsimp only at Z g2 ⊢;subst Z g2;by_cases L:(a:Int)<(s.Measures.length:Int)
 .rw [iJ2 (by simpa using L)]
  have L:a<s.Measures.length:=by omega
  refine Ob (P:=fun r=>∃k:Nat,r=(k:Int)/\a<=k/\k<=s.Measures.length/\(∀u,a<=u->u<k->(gm s u).Endings=0/\(gm s u).RepeatEnd=0/\(u=a\/(gm s u).RepeatStart=false))/\(k<s.Measures.length->¬((gm s k).Endings=0/\(gm s k).RepeatEnd=0/\(k=a\/(gm s k).RepeatStart=false)))) (bW (fun(q:Int)=>∃k:Nat,q=(k:Int)/\a<=k/\k<=s.Measures.length/\∀u,a<=u->u<k->(gm s u).Endings=0/\(gm s u).RepeatEnd=0/\(u=a\/(gm s u).RepeatStart=false)) (fun q=>s.Measures.length-q.toNat) (fun q G=>?_) bC _ ⟨a,rfl,iH2 _,by omega,fun u _ _=>by omega⟩ (by simp only[bC];omega)) fun k hk=>?_
  .obtain ⟨k,rfl,J,l,n⟩:=G
   by_cases hk:k<s.Measures.length
   .rw [iJ2 (by simp;omega),dX hk]
    simp only[iF2];by_cases c1:(gm s k).Endings=0
    .rw [iJ2 (by simpa using c1)]
     simp only[iF2];by_cases c2:(gm s k).RepeatEnd=0
     .rw [iJ2 (by simpa using c2)]
      by_cases c3:k=a
      .rw [iJ2 (by simp;omega)]
       simp only[iF2,jJ2];rw[eW (by omega)];refine .mk ⟨⟨k+1,rfl,by omega,hk,fun u y C=>?_⟩,by omega⟩;by_cases R:u=k
       .subst R;exact⟨c1,c2,.inl c3⟩
       .exact n u y (by omega)
      .rw [iL2 (by simp;omega)]
       simp only[iF2];cases c4:(gm s k).RepeatStart with
       |true=>
        rw[iL2 (by decide)];exact .mk ⟨k,rfl,J,l,n,fun _ h=>by rcases h.2.2 with h|h;exact c3 h;rw[c4]at h;cases h⟩
       |false=>
        rw[iJ2 (by decide),eW (by omega)];refine .mk ⟨⟨k+1,rfl,by omega,hk,fun u y C=>?_⟩,by omega⟩;by_cases R:u=k
        .subst R;exact⟨c1,c2,.inr c4⟩
        .exact n u y (by omega)
     .rw [iL2 (by simpa using c2)]
      simp only[iF2,iQ2,jS2];exact .mk ⟨k,rfl,J,l,n,fun _ h=>c2 h.2.1⟩
    .rw [iL2 (by simpa using c1)]
     simp only[iF2,iQ2,jS2];exact .mk ⟨k,rfl,J,l,n,fun _ h=>c1 h.1⟩
   .rw [iL2 (by simp;omega)]
    simp only[iF2,iQ2,jS2];exact .mk ⟨k,rfl,J,l,n,fun h=>absurd h hk⟩
  obtain⟨k,rfl,J,l,n,k4⟩:=hk;have sk:∀x,Sc s a k o x->Sc s 0 0 [] x:=fun x h=>g6 x (Sc.skips (k-a) (by omega) (fun u y C=>n u y (by omega)) (by rw[show a+(k-a)=k by omega];exact h));have f:(o.map cG).length<1000000:=by rw[jO2];omega
  by_cases N:k=s.Measures.length
  .rw [iJ2 (by simp;omega)]
   simp only[iF2,jJ2];rw[fX f];refine .mk ⟨⟨k,o++[⟨⟨(a:Int),(k:Int)⟩,[],1⟩],rfl,by simp[cG],by rw[iP2];simp;omega,l,fun h=>by omega,fun x h=>?_⟩,by dsimp only;omega⟩;subst N;have e:=(Sc.fin0 (s:=s) (o:=o++[⟨⟨(a:Int),(s.Measures.length:Int)⟩,[],1⟩]) (Nat.lt_irrefl _)).det h;rw[<-e];exact sk _ (.fin1 L)
  .have hk:k<s.Measures.length:=by omega
   rw[iL2 (by simp;omega),dX hk];simp only[iF2];by_cases c1:(gm s k).Endings=0
   .rw [iJ2 (by simpa using c1)]
    simp only[iF2];by_cases c2:(gm s k).RepeatStart=true/\a<k
    .rw [iJ2 (by simp[c2.1];omega),fX f]
     refine .mk ⟨⟨k,o++[⟨⟨(a:Int),(k:Int)⟩,[],1⟩],rfl,by simp[cG],by rw[iP2];simp;omega,l,fun _ h=>absurd c1 h,fun x h=>sk _ (.start hk c1 c2 h)⟩,by dsimp only;omega⟩
    .rw [iL2 (by intro h;apply c2;simp at h;exact⟨h.1,by omega⟩),iJ2 (by simpa using c1)]
     have c3:(gm s k).RepeatEnd≠0:=fun h=>k4 hk ⟨c1,h,by
      by_cases e:k=a
      .exact .inl e
      .exact .inr (b2t fun h=>c2 ⟨h,by omega⟩)⟩
     rw[eW (by omega),fX f];simp only[iF2];refine .mk ⟨⟨k+1,o++[⟨⟨(a:Int),((k+1:Nat):Int)⟩,[],(gm s k).RepeatEnd⟩],rfl,by simp[cG],by rw[iP2];simp;omega,hk,fun _ _=>by rw[c.end0 hk,c1],fun x h=>sk _ (.rep hk c1 c2 c3 h)⟩,by dsimp only;omega⟩
   .rw [iL2 (by simpa using c1)]
    simp only[iF2,Bool.false_and,iQ2,jS2];rw[iL2 (by simpa using c1)]
    have p:(g k).ending=0:=by
     by_cases e:k=a
     .subst e;exact g5 hk c1
     .have:=c.end0 (i:=k-1) (by omega)
      rw[show k-1+1=k by omega]at this;rw[this];exact(n (k-1) (by omega) (by omega)).1
    have H:=c.used0 k l p;rw[lC2,lC2];refine Ob (P:=fun r=>∃(e:Nat) (acc:aA aV) (all:Int),r=((e:Int),acc.map cE,Gz all)/\k<e/\e<=s.Measures.length/\(e=s.Measures.length\/(gm s e).Endings=0)/\Ch s k [] 0 (acc,all,e)) (bW (fun(q:Int×Bool×aA aQ×Int)=>∃(j:Nat) (acc:aA aV) (all:Int),q.1=(j:Int)/\q.2.2.1=acc.map cE/\q.2.2.2=Gz all/\By all/\(g j).used=all/\acc.length<=j/\k<=j/\j<=s.Measures.length/\(q.2.1=true->k<j/\(j=s.Measures.length\/(gm s j).Endings=0))/\(q.2.1=false->(j=s.Measures.length->k<j)/\(j<s.Measures.length->(gm s j).Endings≠0/\(gm s j).Endings≠(g j).ending))/\∀x,Ch s j acc all x->Ch s k [] 0 x) (fun q=>s.Measures.length-q.1.toNat) (fun q G=>?_) bC ((k:Int),false,[],0) ⟨k,[],0,rfl,rfl,rfl,⟨by decide,by decide⟩,H,by simp,iH2 _,l,fun h=>Bool.noConfusion h,fun _=>⟨fun h=>by omega,fun _=>⟨c1,by rw[p];exact c1⟩⟩,fun x h=>h⟩ (by simp only[bC];omega)) fun r hr=>?_
    .obtain ⟨jj,last,parts,times⟩:=q
     obtain⟨j,acc,all,T,U,V,f4,W,f6,f7,X,Y,v,w⟩:=G;dsimp only at T U V Y v ⊢;subst T U V;by_cases hg:last=false/\j<s.Measures.length
     .obtain ⟨rfl,b⟩:=hg
      rw[iJ2 (by simp;omega)];obtain⟨D,e2⟩:=(v rfl).2 b;refine Ob (Vu hn b (fun u y C S=>?_) (fun u y C S=>?_) ?_) fun m hm=>?_
      .rw [iJ2 (by simp;omega),dX C,dX b]
       simp only[iF2];rw[iJ2 (by simpa using S),eW (by omega)]
      .rw [iJ2 (by simp;omega),dX C,dX b]
       simp only[iF2];rw[iL2 (by simpa using S)]
      .rw [iL2 (by simp)]
       rfl
      obtain⟨m,rfl,hr⟩:=hm;have r1:=hr.1;have r2:=hr.2.1;obtain⟨n1,n2⟩:=c.run hr D e2;rw[dX b];simp only[iF2];rw[fX (by rw[jO2];omega)];simp only[iF2];have hp:=Mj all;refine Ob (iT1 (c.E b) ⟨hp.1,by omega⟩) fun t ht=>?_;subst ht;rw[Mk (by omega),show(m:Int)-1=((m-1:Nat):Int)by omega,dX (by omega)];simp only[iF2];have d:(gm s (m-1)).Endings=(gm s j).Endings:=hr.2.2.1 (m-1) (by omega) (by omega);refine .mk ⟨⟨m,acc++[⟨⟨(j:Int),(m:Int)⟩,(gm s j).Endings⟩],ior .i64 all (gm s j).Endings,rfl,by simp[cE],?_,f4.ior (c.E b),by rw[n2,W],by rw[iP2];simp;omega,by omega,r2,fun hl=>⟨by omega,?_⟩,fun hl=>⟨fun _=>by omega,fun hm=>?_⟩,fun x h=>w x (.step D hr h)⟩,by dsimp only;omega⟩
      .dsimp only
       rw[cW1 f4 (c.E b) (by rw[<-W];exact n1)]
      .by_cases F:m=s.Measures.length
       .exact .inl F
       .refine .inr (Decidable.byContradiction fun O=>?_)
        have M:(gm s (m-1)).RepeatEnd=0:=by simpa using hl
        have:=c.A (i:=m-1) (by omega) (by rw[d];exact D) (by rw[show m-1+1=m by omega];exact O) (by rw[show m-1+1=m by omega,d];exact hr.2.2.2.resolve_left F);exact this M
      .have M:(gm s (m-1)).RepeatEnd≠0:=by simpa using hl
       have he:=c.end0 (i:=m-1) (by omega);rw[show m-1+1=m by omega,d]at he;refine⟨fun h0=>M (c.B (i:=m-1) (by omega) (by rw[d];exact D) (by rw[show m-1+1=m by omega];exact h0)),?_⟩;rw[he];exact hr.2.2.2.resolve_left (by omega)
     .rw [iL2 (by simp;intro h;have:¬j<s.Measures.length:=fun h2=>hg ⟨h,h2⟩;omega)]
      cases last with
      |true=>
       obtain⟨l1,l2⟩:=Y rfl;exact .mk ⟨j,acc,all,rfl,l1,X,l2,w _ (.stop l2)⟩
      |false=>
       have b:j=s.Measures.length:=by
        have:¬j<s.Measures.length:=fun h2=>hg ⟨rfl,h2⟩;omega
       exact .mk ⟨j,acc,all,rfl,(v rfl).1 b,X,.inl b,w _ (.stop (.inl b))⟩
    .obtain ⟨e,acc,all,rfl,D,e2,K,e4⟩:=hr
     dsimp only;rw[fX f];simp only[iF2];refine .mk ⟨⟨e,o++[⟨⟨(a:Int),(k:Int)⟩,acc,Gz all⟩],rfl,by simp[cG],by rw[iP2];simp;omega,e2,fun h1 h2=>by rcases K with K|K;omega;exact absurd K h2,fun x h=>sk _ (.ends hk c1 e4 h)⟩,by dsimp only;omega⟩
 .rw [iL2 (by simpa using L)]
  have:a=s.Measures.length:=by omega
  subst this;exact .mk ⟨o,rfl,g6 _ (.fin0 (Nat.lt_irrefl _))⟩
end Go.P
namespace Go.P
variable {s:Y0}
def qO (a b:Int):aA Int:=(List.range (b-a).toNat).map fun(k:Nat)=>a+k
theorem mZ {a b:Int} (h:¬a<b):qO a b=[]:=by
 unfold qO;rw[show(b-a).toNat=0 by omega];rfl
theorem kM {a b:Int} (h:a<b):qO a b=a::qO (a+1) b:=by
 unfold qO;rw[show(b-a).toNat=(b-(a+1)).toNat+1 by omega,List.range_succ_eq_map];simp only[kF2,List.map_map];congr 1;simp;apply List.map_congr_left;intro k _;simp only[Function.comp];omega
theorem Ml {a b x:Int} (h:x∈qO a b):a<=x/\x<b:=by
 unfold qO at h;obtain⟨k,hk,rfl⟩:=lH2.1 h;have:=List.mem_range.1 hk;omega
theorem nA (a b:Int):(qO a b).length=(b-a).toNat:=by simp[qO]
def Pf:aA Int->aA Int->aA aZ
 |_,[]=>[]
 |p,m::r=>⟨m,(p.count m:Nat)⟩::Pf (p++[m]) r
theorem yR (m:Int):∀(ms p:aA Int),Pf p (ms++[m])=Pf p ms++[⟨m,((p++ms).count m:Nat)⟩]
 |[],p=>by simp[Pf]
 |x::r,p=>by
  simp only[lG2,Pf,yR m r (p++[x])]
  simp
theorem vY:∀(ms p:aA Int),(Pf p ms).length=ms.length
 |[],p=>rfl
 |x::r,p=>by simp[Pf,vY r]
def St (ms:aA Int) (mp:aA (Int×Int)) (l:aA aZ):Prop:=l=Pf [] ms/\∀k,fW mp k 0=(ms.count k:Nat)
theorem St.nil:St [] [] []:=⟨rfl,fun k=>rfl⟩
theorem St.next {ms:aA Int} {mp:aA (Int×Int)} {l:aA aZ} (h:St ms mp l) (m:Int) (hl:ms.length<100000):St (ms++[m]) (jC mp m (bE (fW mp m 0+1))) (l++[⟨m,fW mp m 0⟩]):=by
 have hc:=List.count_le_length (a:=m) (l:=ms);refine⟨by rw[h.1,yR,h.2];rfl,fun k=>?_⟩;rw[Be,h.2 m,bN (by omega) (by omega),h.2 k,List.count_append,List.count_singleton];by_cases hk:k=m
 .subst hk;simp
 .rw [iL2 hk]
  have:(m==k)=false:=by simpa using fun h=>hk h.symm
  rw[this];simp
theorem St.play {ms:aA Int} {mp:aA (Int×Int)} {l:aA aZ} (h:St ms mp l) (hl:ms.length<8192) (m a:Int) (b:aA aZ):yP m mp l a b=some (.inr (l++[⟨m,fW mp m 0⟩])):=by
 unfold yP;have:l.length=ms.length:=by rw[h.1,vY]
 rw[iL2 (by simp;omega),fX (by omega)];rfl
theorem iV1 {ms:aA Int} (hl:ms.length<100000):Ok (F10 ms) (fun r=>r=Pf [] ms):=by
 unfold F10;refine Ob (P:=fun r=>r=Pf [] ms) (bW (fun(q:Int×aA aZ)=>∃i:Nat,q.1=(i:Int)/\i<=ms.length/\q.2=Pf [] (ms.take i)) (fun q=>ms.length-q.1.toNat) (fun q b=>?_) bC (0,[]) ⟨0,rfl,iV2 _,rfl⟩ (by simp only[bC];omega)) fun r hr=>.mk hr;obtain⟨s,o⟩:=q;obtain⟨i,g,g2,j⟩:=b;dsimp only at g j ⊢;subst g j
 have d:∀k:Nat,(h:k<ms.length)->aW ms (k:Int)=some ms[k]:=fun k h=>by
  unfold aW;rw[iJ2 (by omega),Int.toNat_natCast];exact iZ2 h
 by_cases hi:i<ms.length;rw[iJ2 (by simp;omega)];refine Ob (P:=fun r=>r=(((ms.take i).count ms[i]:Nat):Int)) (bW (fun(q:Int×Int)=>∃k:Nat,q.2=(k:Int)/\k<=i/\q.1=(((ms.take k).count ms[i]:Nat):Int)) (fun q=>i-q.2.toNat) (fun q b=>?_) bC (0,0) ⟨0,rfl,iV2 _,rfl⟩ (by simp only[bC];omega)) fun n m=>?_;obtain⟨c,t⟩:=q;obtain⟨k,e,p,f⟩:=b;dsimp only at e f ⊢;subst e f;have hc:=List.count_le_length (a:=ms[i]) (l:=ms.take k);rw[kW2]at hc;by_cases hk:k<i;rw[iJ2 (by simp;omega),d k (by omega),d i hi];simp only[iF2];rw[eW (n:=k) (by omega)];by_cases he:ms[k]=ms[i];rw[iJ2 (by simpa using he),eW (by omega)];refine .mk ⟨⟨k+1,rfl,by omega,?_⟩,by dsimp only;omega⟩;dsimp only;rw[List.take_add_one,iZ2 (by omega),List.count_append,Option.toList_some,List.count_singleton,he];simp;rw[iL2 (by simpa using he)];refine .mk ⟨⟨k+1,rfl,by omega,?_⟩,by dsimp only;omega⟩;dsimp only;rw[List.take_add_one,iZ2 (by omega),List.count_append,Option.toList_some,List.count_singleton];have:(ms[k]==ms[i])=false:=by simpa using he
 rw[this];simp;rw[iL2 (by simp;omega)];have:k=i:=by omega
 subst this;exact .mk rfl;subst m;rw[d i hi];simp only[iF2];rw[fX (by rw[vY,kW2];omega)];simp only[iF2];rw[eW (by omega)];refine .mk ⟨⟨i+1,rfl,hi,?_⟩,by dsimp only;omega⟩;dsimp only;rw[List.take_add_one,iZ2 hi,Option.toList_some,yR];rfl;rw[iL2 (by simp;omega)];exact .mk (by rw[jT2 (by omega)])
theorem dA1 {l:aA aZ} (hl:l.length<100000):F9 l l=some true:=by
 refine Ok.eq ?_;unfold F9;rw[iL2 (by simp)];refine Ob (P:=fun r=>match r with|.inl _=>False|.inr _=>True) (bQ (l:=l) (fun q=>q) (fun _ _=>True) (by omega) rfl trivial (fun i e q c b hi a _ hg hw=>?_) (fun q hi _=>?_)) fun r hr=>?_;rw[hi]at hg a hw ⊢;rw[iJ2 (by simpa using a),hg];simp only[iF2];rw[iL2 (by simp),hw];exact .mk ⟨rfl,trivial⟩;rw[hi,iL2 (by simp)];exact .mk trivial;rcases r with _|_;exact hr.elim;exact .mk rfl
end Go.P
namespace Go.P
variable {s:Y0}
def nB (s:Y0) (i:Nat) (b:Int):Bool:=cU .i64 (gm s i).Labels b !=0
def Jw (s:Y0) (b r:Int):Prop:=(r= -1/\∀i,i<s.Measures.length->nB s i b=false)\/∃i:Nat,r=(i:Int)/\i<s.Measures.length/\nB s i b=true/\∀k,k<i->nB s k b=false
theorem Jw.det {b r r':Int} (h:Jw s b r) (h':Jw s b r'):r=r':=by
 rcases h with⟨rfl,h⟩|⟨i,rfl,h1,h2,h3⟩
 rcases h' with⟨rfl,_⟩|⟨i,rfl,k1,k2,_⟩
 rfl;rw[h i k1]at k2;cases k2;rcases h' with⟨rfl,k⟩|⟨k,rfl,k1,k2,k3⟩
 rw[k i h1]at h2;cases h2
 have:i=k:=by
  apply Decidable.byContradiction;intro a;by_cases hl:i<k;rw[k3 i hl]at h2;cases h2;rw[h3 k (by omega)]at k2;cases k2
 rw[this]
theorem Jx {p:Nat->Bool} {body:Int->aB (Int⊕(Int⊕Unit))} (d:s.Measures.length<100000)
  (h1:∀i,i<s.Measures.length->body (i:Int)=if p i=true then some (.inr (.inl (i:Int)))else some (.inl ((i+1:Nat):Int))) (h2:body (s.Measures.length:Int)=some (.inr (.inr ()))):
  Ok (aU body bC 0) (fun r=>match r with|.inl x=>∃i:Nat,x=(i:Int)/\i<s.Measures.length/\p i=true/\∀k,k<i->p k=false|.inr _=>∀i,i<s.Measures.length->p i=false):=by
 refine bW (fun(q:Int)=>∃i:Nat,q=(i:Int)/\i<=s.Measures.length/\∀k,k<i->p k=false) (fun q=>s.Measures.length-q.toNat) (fun q b=>?_) bC 0 ⟨0,rfl,iV2 _,fun k h=>by omega⟩ (by simp only[bC];omega);obtain⟨i,rfl,c,g2⟩:=b;by_cases hi:i<s.Measures.length;rw[h1 i hi];cases hp:p i with
 |true=>exact .mk ⟨i,rfl,hi,hp,g2⟩
 |false=>
  refine .mk ⟨⟨i+1,rfl,hi,fun k hk=>?_⟩,by omega⟩;by_cases a:k=i;subst a;exact hp;exact g2 k (by omega)
 have:i=s.Measures.length:=by omega
 subst this;rw[h2];exact .mk g2
theorem yS (a:s.Measures.length<100000) (b:Int):Ok (Bc s.Measures b) (fun r=>Jw s b r):=by
 unfold Bc;refine Ob (Jx (p:=fun i=>nB s i b) a (fun i hi=>?_) ?_) fun r hr=>?_;rw[iJ2 (by simp;omega),dX hi];simp only[iF2,Va];rw[eW (by omega)];rfl;rw[iL2 (by simp)];rcases r with x|_;obtain⟨i,rfl,h⟩:=hr;exact .mk (.inr ⟨i,rfl,h⟩);exact .mk (.inl ⟨rfl,hr⟩)
theorem Vv (a:s.Measures.length<100000) (b:Int):Ok (Gy s.Measures b) (fun r=>Jw s b r):=by
 unfold Gy;refine Ob (Jx (p:=fun i=>nB s i b) a (fun i hi=>?_) ?_) fun r hr=>?_;rw[iJ2 (by simp;omega),dX hi];simp only[iF2,F99];rw[eW (by omega)];rfl;rw[iL2 (by simp)];rcases r with x|_;obtain⟨i,rfl,h⟩:=hr;exact .mk (.inr ⟨i,rfl,h⟩);exact .mk (.inl ⟨rfl,hr⟩)
theorem dB1:∀l:Fin 16,∀b:Fin 4,∃q,sB .i64 (l.val:Int) ((2^b.val:Nat):Int)=some q/\(qI .i64 q 2=some 0\/qI .i64 q 2=some 1)/\((qI .i64 q 2=some 1)↔(cU .i64 (l.val:Int) ((2^b.val:Nat):Int)!=0)=true):=by
 intro l b;refine⟨(l.val:Int).tdiv ((2^b.val:Nat):Int),?_⟩;revert l b;decide+kernel
structure Jm (s:Y0) (i:Nat):Prop where
 j:0<=(gm s i).Jump/\(gm s i).Jump<=6
 l:0<=(gm s i).Labels/\(gm s i).Labels<=15
 u:∀k,k<i->cU .i64 (gm s i).Labels (gm s k).Labels=0
 d:(gm s i).Jump>=4->∃r,Jw s 1 r/\0<=r
 c:(gm s i).Jump=3\/(gm s i).Jump=6->∃t c,Jw s 8 t/\Jw s 2 c/\0<=t/\t<c
theorem Vw {i k:Nat} (hi:i<=s.Measures.length) (hk:k<i):aW (s.Measures.take i) (k:Int)=some (gm s k):=by
 unfold aW;rw[iJ2 (by omega),Int.toNat_natCast,jP2,iJ2 hk,iZ2 (by omega),Bf (iZ2 (by omega))]
def UQ (s:Y0) (i:Nat) (a:Int⊕Unit):Prop:=match a with|.inl x=>0<=x|.inr _=>∀k,k<i->cU .i64 (gm s i).Labels (gm s k).Labels=0
theorem E90 (p:s.Measures.length<100000) {i:Nat} {r:Int} {v:aA YV} (hi:i<s.Measures.length) {b:Bool} (h:F90 (i:Int) (gm s i) ⟨s,r,v⟩=some b) (hb:b=false):Jm s i:=by
 subst hb;unfold F90 vV at h;simp only[iF2]at h;obtain⟨x,f,h⟩:=eP h;by_cases c:(x||(((gm s i).Jump !=0||(gm s i).Labels !=0)&&((gm s i).RepeatEnd !=0||(gm s i).Endings !=0)))=true;rw[iJ2 c]at h;cases h;rw[iL2 c]at h;have G:x=false:=by cases x<;>simp_all
 subst G
 have C:0<=(gm s i).Jump/\(gm s i).Jump<=6:=by
  cases hb:(decide ((gm s i).Jump>=0)&&decide ((gm s i).Jump<=6))with
  |true=>simpa using hb
  |false=>rw[hb,iJ2 (show(!false)=true from rfl)]at f;cases f
 rw[iL2 (by simp;exact C)]at f;have F:0<=(gm s i).Labels/\(gm s i).Labels<=15:=by simpa using f
 rw[show mS s.Measures 0 (i:Int)=some (s.Measures.take i)by
  unfold mS;rw[iJ2 ⟨by omega,by omega,by omega⟩];simp]at h
 obtain⟨_,e2,h⟩:=eP h;cases e2;obtain⟨y,e2,h⟩:=eP h;obtain⟨z,a,h⟩:=eP h;cases h;cases y with
 |true=>rw[iJ2 rfl]at a;cases a
 |false=>
 rw[iL2 (by decide)]at a;obtain⟨w,a,B⟩:=eP a;simp only[iK2,Bool.not_eq_false']at B;subst B
 have D:∀k,k<i->cU .i64 (gm s i).Labels (gm s k).Labels=0:=by
  unfold F92 at e2;obtain⟨n,d,e2⟩:=eP e2;unfold F98 at d;obtain⟨E,j,d⟩:=eP d
  have g:UQ s i E:=by
   refine Ok.of (Q:=UQ s i) (bW (fun(q:Int)=>∃k:Nat,q=(k:Int)/\k<=i/\∀u,u<k->cU .i64 (gm s i).Labels (gm s u).Labels=0) (fun q=>i-q.toNat) (fun q g=>?_) bC 0 ⟨0,rfl,iV2 _,fun k h=>by omega⟩ (by simp only[bC];omega)) j;obtain⟨k,rfl,J,g2⟩:=g;have hlen:(s.Measures.take i).length=i:=by rw[kW2];omega
   by_cases hk:k<i;rw[iJ2 (by rw[hlen];simp;omega),Vw (by omega) hk];simp only[iF2,F91];rw[eW (by omega)];by_cases hc:(((gm s i).Jump !=0&&(gm s k).Jump !=0)||(cU .i64 (gm s i).Labels (gm s k).Labels !=0))=true;rw[iJ2 hc];exact .mk (show(0:Int)<=(k:Int)by omega);rw[iL2 hc];refine .mk ⟨⟨k+1,rfl,hk,fun u D=>?_⟩,by omega⟩;by_cases t:u=k;subst t;simp only[iS2,lI2]at hc;simpa using hc.2;exact g2 u (by omega);rw[iL2 (by rw[hlen];simp;omega)];have:k=i:=by omega
   subst this;exact .mk g2
  rcases E with x|_;cases d;simp only[iK2,jL2]at e2;exact absurd g e2;exact g
 unfold F93 Jn vV Jl at a;dsimp only at a;obtain⟨x,d,a⟩:=eP a;cases x with
 |true=>rw[iJ2 rfl]at a;cases a
 |false=>
 rw[iL2 (by decide)]at a;refine⟨C,F,D,fun h4=>?_,fun h3=>?_⟩;rw[iJ2 (by simpa using h4)]at d;obtain⟨r1,A,e⟩:=yS (s:=s) p 1;rw[A]at d;simp only[iF2,iK2,Bool.not_eq_false']at d;exact⟨r1,e,by simp at d;omega⟩
 have l:(((if((gm s i).Jump==2)=true then some ((gm s i).Jump==2)else some ((gm s i).Jump==5)):aB Bool))=some false:=by
  rcases h3 with h3|h3<;>rw[h3]<;>rfl
 have m:(((if((gm s i).Jump==3)=true then some ((gm s i).Jump==3)else some ((gm s i).Jump==6)):aB Bool))=some true:=by
  rcases h3 with h3|h3<;>rw[h3]<;>rfl
 rw[l,m]at a;simp only[iF2,iQ2,jS2,jJ2]at a;obtain⟨r1,A,e⟩:=yS (s:=s) p 8;obtain⟨r2,H,o⟩:=yS (s:=s) p 2;rw[A,H]at a;simp only[iF2]at a;obtain⟨q,a,j⟩:=eP a;cases j;by_cases hc:(decide (r1>=0)&&decide (r1<=(i:Int)))=true;rw[iJ2 hc]at a;simp only[iK2,iO2]at a;exact⟨r1,r2,e,o,by simp at hc;omega,by omega⟩;rw[iL2 hc]at a;cases a
theorem Vx (hs:s.sm) (h:Jo [] s 15=some []):∀i,i<s.Measures.length->Jm s i:=by
 unfold Jo at h;obtain⟨v,e,h⟩:=eP h;cases h;unfold yO at e;obtain⟨v,e,h⟩:=eP e;cases h;have l:=hs.Measures;refine Ok.of (Q:=fun(v:aA YV)=>v.length=0->∀i,i<s.Measures.length->Jm s i) (bW (fun(q:Int×aA YV)=>∃i:Nat,q.1=(i:Int)/\i<=s.Measures.length/\q.2.length<=i/\(q.2.length=0->∀k,k<i->Jm s k)) (fun q=>s.Measures.length-q.1.toNat) (fun q j=>?_) bC (0,[]) ⟨0,rfl,iV2 _,iH2 _,fun _ k h=>by omega⟩ (by simp only[bC];omega)) e rfl;obtain⟨m,v⟩:=q;obtain⟨i,f,g2,g,a⟩:=j;dsimp only at f g a ⊢;subst f;by_cases hi:i<s.Measures.length;rw[iJ2 (by simp;omega),dX hi];simp only[iF2];refine Ok.bindE (T90 (x1:=(i:Int)) (x3:=⟨s,15,v⟩) (rB1 hs hi) hs ⟨by omega,by show(i:Int)<=(s.Measures.length:Int);omega⟩) fun b hb _=>?_;refine Ob (Pd (by omega)) fun u d=>?_;rw[eW (by omega)];refine .mk ⟨⟨i+1,rfl,hi,?_,fun h0 k hk=>?_⟩,by dsimp only;omega⟩;dsimp only;cases b<;>simp at d<;>omega;dsimp only at h0;cases b with
 |true=>simp at d;omega
 |false=>
  simp at d;by_cases c:k=i;subst c;exact E90 (by omega) hi hb rfl;exact a (by omega) k (by omega)
 rw[iL2 (by simp;omega)];have:i=s.Measures.length:=by omega
 subst this;exact .mk a
end Go.P
namespace Go.P
variable {s:Y0}
def GE (n:Nat) (x:aV):Prop:=(∃f e:Nat,x.span=⟨(f:Int),(e:Int)⟩/\f<=e/\e<=n)/\By x.bits
def Mn (l:aA aV):Int:=(l.map fun x=>x.span.end'-x.span.first).sum
structure GG (n:Nat) (x:aH):Prop where
 b:∃f e:Nat,x.body=⟨(f:Int),(e:Int)⟩/\f<=e/\e<=n
 e:∀y∈x.endings,GE n y
 p:0<=x.passes/\x.passes<=8
 l:x.endings.length<=n
 t:x.body.end'-x.body.first+Mn x.endings<=n
theorem Vy (l:aA aV) (x:aV):Mn (l++[x])=Mn l+(x.span.end'-x.span.first):=by simp[Mn]
theorem Ch.good (c:∀i,i<s.Measures.length->By (gm s i).Endings) {i:Nat} {acc:aA aV} {all:Int} {r:aA aV×Int×Nat} (h:Ch s i acc all r) (hi:i<=s.Measures.length) (hg:∀x∈acc,GE s.Measures.length x) (hl:acc.length<=i):
  (∀x∈r.1,GE s.Measures.length x)/\r.1.length<=r.2.2/\i<=r.2.2/\r.2.2<=s.Measures.length/\Mn r.1=Mn acc+((r.2.2:Int)-i):=by
 induction h with
 |stop h=>exact⟨hg,hl,iH2 _,hi,by dsimp only;omega⟩
 |@step i j acc all r h1 h2 h3 ih=>
  have r1:=h2.1;have r2:=h2.2.1
  obtain⟨d,e,g,f,b⟩:=ih r2 (fun x a=>by
   rcases kJ2.1 a with a|a
   .exact hg x a
   .rw [kO2]at a
    subst a;exact⟨⟨i,j,rfl,by omega,r2⟩,c i (by omega)⟩) (by rw[iP2];simp;omega)
  refine⟨d,e,by omega,f,?_⟩;rw[Vy]at b;dsimp only at b;omega
theorem Sc.good (f:∀i,i<s.Measures.length->By (gm s i).Endings/\((gm s i).RepeatEnd=0\/2<=(gm s i).RepeatEnd/\(gm s i).RepeatEnd<=8)) {b i:Nat} {o r:aA aH} (h:Sc s b i o r) (hb:b<=i) (hi:i<=s.Measures.length) (hg:∀x∈o,GG s.Measures.length x) (hl:o.length<=b):
  (∀x∈r,GG s.Measures.length x)/\r.length<=s.Measures.length:=by
 have d:∀{o:aA aH} {y:aH},(∀x∈o,GG s.Measures.length x)->GG s.Measures.length y->∀x∈o++[y],GG s.Measures.length x:=fun h1 h2 x c=>by grind
 have pl:∀{a b:Nat} {p:Int},a<=b->b<=s.Measures.length->0<=p->p<=8->GG s.Measures.length ⟨⟨(a:Int),(b:Int)⟩,[],p⟩:=fun{a b p} h1 h2 h3 h4=>⟨⟨a,b,rfl,h1,h2⟩,fun y hy=>by simp at hy,⟨h3,h4⟩,iV2 _,by simp[Mn];omega⟩
 induction h with
 |fin1 h=>exact⟨d hg (pl (by omega) (iH2 _) (by decide) (by decide)),by rw[iP2];simp;omega⟩
 |fin0 h=>exact⟨hg,by omega⟩
 |@ends b i o acc all e r h1 h2 h3 h4 ih=>
  obtain⟨j,k,n,g,l⟩:=h3.good (fun i hi=>(f i hi).1) (by omega) (fun x c=>by simp at c) (by simp)
  have m:i<e:=by
   cases h3 with
   |stop h=>rcases h with h|h;omega;exact absurd h h2
   |step q1 q2 q3=>
    have:=q2.1;have:=(q3.good (fun i hi=>(f i hi).1) q2.2.1 (fun x c=>by simp at c;subst c;exact⟨⟨i,_,rfl,by omega,q2.2.1⟩,(f i h1).1⟩) (by simp;omega)).2.2.1;dsimp only at this;omega
  have hp:=Mj all;dsimp only at j k n g l;refine ih (iH2 _) g (d hg ⟨⟨b,i,rfl,hb,hi⟩,j,hp,jF2 k g,?_⟩) (by rw[iP2];simp;omega);show(i:Int)-(b:Int)+Mn acc<=_
  rw[l];simp[Mn];omega
 |start h1 h2 h3 h4 ih=>
  exact ih (iH2 _) (by omega) (d hg (pl hb (by omega) (by decide) (by decide))) (by rw[iP2];simp;omega)
 |rep h1 h2 h3 h4 h5 ih=>
  have q:=(f _ h1).2.resolve_left h4;exact ih (iH2 _) (by omega) (d hg (pl (by omega) (by omega) (by omega) (by omega))) (by rw[iP2];simp;omega)
 |skip h1 h2 h3 h4 h5 ih=>exact ih (by omega) (by omega) hg hl
def kE:aA aV->aA Int
 |[]=>[]
 |[_]=>[]
 |x::y::r=>qO x.span.first x.span.end'++kE (y::r)
def fK (m:aA (Int×Bool)) (ks:aA Int):aA (Int×Bool):=ks.foldl (fun m k=>jC m k true) m
def eF (G:aA aH):aA Int:=G.flatMap fun g=>kE g.endings
theorem yT (x:aH) (r:aA aH):eF (x::r)=kE x.endings++eF r:=by simp[eF]
theorem sN (m:aA (Int×Bool)) (a b:aA Int):fK m (a++b)=fK (fK m a) b:=by simp[fK]
theorem Ha {S E:Type} {body:Int×S->aB ((Int×S)⊕E)} {a b:Nat} (f:S->Int->S) (fin:S->E) (hb:b<100000) (e:a<100000) (s0:S)
  (h1:∀(k:Nat) (st:S),k<b->body ((k:Int),st)=some (.inl (((k+1:Nat):Int),f st (k:Int)))) (h2:∀(k:Nat) (st:S),¬k<b->body ((k:Int),st)=some (.inr (fin st))):
  aU body bC ((a:Int),s0)=some (fin ((qO ((a:Nat):Int) ((b:Nat):Int)).foldl f s0)):=by
 refine Ok.eq (bW (fun(q:Int×S)=>∃k:Nat,q.1=(k:Int)/\(qO ((k:Nat):Int) ((b:Nat):Int)).foldl f q.2=(qO ((a:Nat):Int) ((b:Nat):Int)).foldl f s0) (fun q=>b-q.1.toNat) (fun q d=>?_) bC _ ⟨a,rfl,rfl⟩ (by simp only[bC];omega));obtain⟨g,st⟩:=q;obtain⟨k,c,g2⟩:=d;dsimp only at c g2;subst c;by_cases hk:k<b;rw[h1 k st hk];rw[kM (by omega),List.foldl_cons]at g2;exact .mk ⟨⟨k+1,rfl,g2⟩,by dsimp only;omega⟩;rw[h2 k st hk];rw[mZ (by omega)]at g2;exact .mk (by rw[<-g2];rfl)
theorem pO {A:Type} {l:aA A} {i:Nat} {x:A} (h:l[i]? =some x):l.drop i=x::l.drop (i+1):=by
 obtain⟨hi,rfl⟩:=iG2.1 h;exact List.drop_eq_getElem_cons hi
theorem Dw (x:aV) (r:aA aV):kE (x::r)=if r=[]then[]else qO x.span.first x.span.end'++kE r:=by
 cases r with
 |nil=>rfl
 |cons y r=>rfl
theorem lX {A:Type} {l:aA A} {i:Nat}:l.drop i=[]↔l.length<=i:=List.drop_eq_nil_iff
theorem dC1 {n:Nat} (F:n<100000) {G:aA aH} (z:∀x∈G,GG n x) (hl:G.length<=n):cJ1 G=some (fK [] (eF G)):=by
 refine Ok.eq ?_;unfold cJ1;refine Ob (P:=fun r=>r=fK [] (eF G)) (bQ (l:=G) (fun(q:Int×aA (Int×Bool))=>q.1) (fun i q=>fK q.2 (eF (G.drop i))=fK [] (eF G)) (by omega) rfl rfl (fun i x q C A hi o c hg hw=>?_) (fun q hi c=>?_)) fun r hr=>.mk hr;obtain⟨D,m⟩:=q;dsimp only at hi o c hg hw ⊢;have d:=z x A;rw[iJ2 (by simpa using o),hg];simp only[iF2];refine Ob (P:=fun r=>r=fK m (kE x.endings)) (bQ (l:=x.endings) (fun(q:Int×aA (Int×Bool))=>q.1) (fun j q=>fK q.2 (kE (x.endings.drop j))=fK m (kE x.endings)) (by have:=d.l;omega) rfl rfl (fun j y q hy v t h a g p=>?_) (fun q t a=>?_)) fun r hr=>?_;obtain⟨E,s⟩:=q;dsimp only at t h a g p ⊢;have w:j<x.endings.length:=(iG2.1 hy).1;have:=d.l;rw[iJ2 (by simpa using h),g];simp only[iF2];obtain⟨⟨f,e,hs,h1,h2⟩,_⟩:=d.e y v;rw[pO hy,Dw]at a;rw[p,hs];dsimp only;by_cases u:j+1<x.endings.length;rw[iL2 (by rw[lX];omega),hs,sN]at a
 rw[Ha (b:=e) (fun m k=>jC m k true) id (by omega) (by omega) s (fun k st hk=>by
  rw[iJ2 (by simp;omega),eW (by omega)]) (fun k st hk=>by rw[iL2 (by simp;omega)];rfl)]
 exact .mk ⟨rfl,a⟩;rw[iJ2 (by rw[lX];omega)]at a;refine Ob (P:=fun r=>r=s) (bW (Q:=fun r=>r=s) (fun(q:Int×aA (Int×Bool))=>q=((f:Int),s)) (fun _=>0) (fun q B=>?_) bC _ rfl (by decide)) fun r hr=>?_;subst B;dsimp only;rw[iL2 (by simp;omega)];exact .mk rfl;subst hr;refine .mk ⟨rfl,?_⟩;dsimp only;rw[lX.2 (by omega)];exact a;obtain⟨E,s⟩:=q;dsimp only at t a ⊢;rw[t,iL2 (by simp)];rw[List.drop_length]at a;exact .mk a;subst hr;refine .mk ⟨hw,?_⟩;dsimp only;rw[pO C]at c;rw[<-c,yT,sN];obtain⟨D,m⟩:=q;dsimp only at hi c ⊢;rw[hi,iL2 (by simp)];rw[List.drop_length]at c;exact .mk c
def dY (SK:aA (Int×Bool)) (n:Nat) (f:Int):aA Int:=(qO f (n:Int)).filter fun k=> !(fW SK k false)
theorem Vz {G:aA aH} (M:s.Measures.length<100000) (D:∀x∈G,GG s.Measures.length x) (hl:G.length<=s.Measures.length) (u:F43 s=some (G.map cG)) (f:Nat) (hf:f<=s.Measures.length):F21 s (f:Int)=some (dY (fK [] (eF G)) s.Measures.length (f:Int)):=by
 refine Ok.eq ?_;unfold F21;rw[u];simp only[iF2];refine Ob (P:=fun r=>r=fK [] (eF G)) (bQ (l:=G.map cG) (fun(q:Int×aA (Int×Bool))=>q.1) (fun i q=>fK q.2 (eF (G.drop i))=fK [] (eF G)) (by rw[jO2];omega) rfl rfl (fun i x q B L hi p d hg hw=>?_) (fun q hi d=>?_)) fun r hr=>?_;obtain⟨H,m⟩:=q;dsimp only at hi p d hg hw ⊢;obtain⟨z,C,rfl⟩:∃z,G[i]? =some z/\cG z=x:=by rw[jE2]at B;exact iE2.1 B
 have n:=D z (iN2 C);have F:=n.l;rw[iJ2 (by simpa using p),hg];simp only[iF2];refine Ob (P:=fun r=>r=fK m (kE z.endings)) (bW (fun(q:Int×aA (Int×Bool))=>∃j:Nat,q.1=(j:Int)/\j<=z.endings.length/\fK q.2 (kE (z.endings.drop j))=fK m (kE z.endings)) (fun q=>z.endings.length-q.1.toNat) (fun q A=>?_) bC _ ⟨0,rfl,iV2 _,rfl⟩ (by simp only[bC];omega)) fun r hr=>?_;obtain⟨N,J⟩:=q;obtain⟨j,g,E,t⟩:=A;dsimp only at g t ⊢;subst g;have h:(cG z).endings.length=z.endings.length:=by simp[cG]
 rw[eW (by omega)];by_cases y:j+1<z.endings.length;rw[iJ2 (by rw[h];simp;omega)];have hy:z.endings[j]? =some z.endings[j]:=iZ2 (by omega)
 have v:aW (cG z).endings (j:Int)=some (cE z.endings[j]):=by
  unfold aW;rw[iJ2 (by omega),Int.toNat_natCast];show(z.endings.map cE)[j]? =_
  rw[jE2,hy];rfl
 rw[v];simp only[iF2];obtain⟨⟨a,e,hs,h1,h2⟩,_⟩:=n.e _ (kN2 (by omega:j<z.endings.length));rw[pO hy,Dw,iL2 (by rw[lX];omega),hs,sN]at t;rw[show(cE z.endings[j]).from'=(a:Int)by simp[cE,hs],show(cE z.endings[j]).to=(e:Int)by simp[cE,hs]]
 rw[Ha (b:=e) (fun m k=>jC m k true) id (by omega) (by omega) J (fun k st hk=>by
  rw[iJ2 (by simp;omega),eW (by omega)]) (fun k st hk=>by rw[iL2 (by simp;omega)];rfl)]
 exact .mk ⟨⟨j+1,rfl,by omega,t⟩,by dsimp only;omega⟩;rw[iL2 (by rw[h];simp;omega)];refine .mk ?_;rw[<-t];by_cases w:j<z.endings.length;rw[pO (iZ2 w),Dw,iJ2 (by rw[lX];omega)];rfl;rw[lX.2 (by omega)];rfl;subst hr;refine .mk ⟨hw,?_⟩;dsimp only;rw[pO C]at d;rw[<-d,yT,sN];obtain⟨H,m⟩:=q;dsimp only at hi d ⊢;rw[hi,iL2 (by simp)];rw[jO2,List.drop_length]at d;exact .mk d;subst hr;generalize fK [] (eF G)=SK;refine Ob (P:=fun r=>r=dY SK s.Measures.length (f:Int)) (bW (fun(q:Int×aA Int)=>∃k:Nat,q.1=(k:Int)/\q.2.length<=k/\k<=s.Measures.length/\q.2++dY SK s.Measures.length (k:Int)=dY SK s.Measures.length (f:Int)) (fun q=>s.Measures.length-q.1.toNat) (fun q A=>?_) bC _ ⟨f,rfl,by simp,hf,rfl⟩ (by simp only[bC];omega)) fun r hr=>.mk hr;obtain⟨O,o⟩:=q;obtain⟨k,g,g2,K,c⟩:=A;dsimp only at g g2 c ⊢;subst g;by_cases hk:k<s.Measures.length;rw[iJ2 (by simp;omega),eW (by omega)];unfold dY at c;rw[kM (by omega),List.filter_cons]at c;cases hb:fW SK (k:Int) false with
 |true=>
  rw[hb]at c;rw[iL2 (by decide)];simp only[iF2];exact .mk ⟨⟨k+1,rfl,by dsimp only;omega,hk,by simpa[dY]using c⟩,by dsimp only;omega⟩
 |false=>
  rw[hb]at c;rw[iJ2 (by decide),fX (by omega)];simp only[iF2];exact .mk ⟨⟨k+1,rfl,by dsimp only;rw[iP2];simp;omega,hk,by simpa[dY]using c⟩,by dsimp only;omega⟩
 rw[iL2 (by simp;omega)];unfold dY at c;rw[mZ (by omega)]at c;exact .mk (by simpa[dY]using c)
end Go.P
namespace Go.P
variable {s:Y0}
def Jy (b p:Int):Bool:=cU .i64 (b.fdiv (2^min p.toNat 64)) 1==1
theorem Jz {b:Int} {p:Nat}:nF .i64 b (p:Int)=some (b.fdiv (2^min ((p:Int)).toNat 64)):=by
 unfold nF;rw[iL2 (by omega)];rfl
def gI (g:aH) (p:Int):aA aX:=g.body::((g.endings.filter fun x=>Jy x.bits p).map (·.span))
def oP (b:Bool) (x:aX):aA (Int×Bool):=(qO x.first x.end').map fun m=>(m,b)
def oQ (g:aH) (p:Int):aA (Int×Bool):=(gI g p).flatMap (oP (p==g.passes-1))
def oR (g:aH):aA (Int×Bool):=(qO 0 g.passes).flatMap (oQ g)
def gZ (G:aA aH):aA (Int×Bool):=G.flatMap oR
theorem GG.parts {n:Nat} {g:aH} (h:GG n g) {p:Int} {x:aX} (a:x∈gI g p):∃f e:Nat,x=⟨(f:Int),(e:Int)⟩/\f<=e/\e<=n:=by
 rcases iY2.1 a with rfl|a;exact h.b;obtain⟨y,hy,rfl⟩:=lH2.1 a;exact(h.e y (List.mem_filter.1 hy).1).1
theorem Pg {b:Bool} {x:aX} {n f e:Nat} (c:x=⟨(f:Int),(e:Int)⟩) (he:e<=n) {y:Int×Bool} (hy:y∈oP b x):0<=y.1/\y.1<(n:Int):=by
 subst c;obtain⟨m,a,rfl⟩:=lH2.1 hy;have:=Ml a;dsimp only at this ⊢;omega
theorem Ka {n:Nat} {G:aA aH} (a:∀x∈G,GG n x) {y:Int×Bool} (hy:y∈gZ G):0<=y.1/\y.1<(n:Int):=by
 obtain⟨g,hg,hy⟩:=lL2.1 hy;obtain⟨p,_,hy⟩:=lL2.1 hy;obtain⟨x,b,hy⟩:=lL2.1 hy;obtain⟨f,e,h1,_,h2⟩:=(a g hg).parts b;exact Pg h1 h2 hy
theorem fA1 {A B:Type} {l:aA A} {f:A->aA B} {k:Nat} (h:∀x∈l,(f x).length<=k):(l.flatMap f).length<=l.length*k:=by
 induction l with
 |nil=>simp
 |cons x r ih=>
  rw[kG2,iP2,jN2,kB2];have h1:=h x List.mem_cons_self;have h2:=ih fun y hy=>h y (kI2 _ hy);omega
theorem Bh {n:Nat} {g:aH} (h:GG n g) (p:Int):(oQ g p).length<=n:=by
 have key:∀(b:Bool) (l:aA aV),(∀y∈l,GE n y)->((((l.filter fun x=>Jy x.bits p).map (·.span)).flatMap (oP b)).length:Int)<=Mn l:=fun b l=>by
  induction l with
  |nil=>intro _;simp[Mn]
  |cons x r ih=>
   intro hl;have d:=ih fun y hy=>hl y (kI2 _ hy);obtain⟨⟨f,e,h1,h2,h3⟩,_⟩:=hl x List.mem_cons_self;have a:Mn (x::r)=(x.span.end'-x.span.first)+Mn r:=by simp[Mn]
   have c:x.span.end'-x.span.first=(e:Int)-f:=by rw[h1]
   rw[List.filter_cons];split;rw[kF2,kG2,iP2,a,c];have:(oP b x.span).length=e-f:=by rw[h1];simp only[oP,jO2,nA];omega
   omega;rw[a,c];omega
 have i:=key (p==g.passes-1) g.endings h.e;obtain⟨f,e,h1,h2,h3⟩:=h.b;have a:=h.t;unfold oQ gI;rw[kG2,iP2];have:(oP (p==g.passes-1) g.body).length=e-f:=by rw[h1];simp only[oP,jO2,nA];omega
 rw[h1]at a;dsimp only at a;omega
theorem Kb {n:Nat} {g:aH} (h:GG n g):(oR g).length<=8*n:=by
 have:=fA1 (l:=qO 0 g.passes) (f:=oQ g) (k:=n) fun p _=>Bh h p;rw[nA]at this;have hp:=h.p;refine jF2 this (jI2 n (by omega))
theorem qM {n:Nat} {G:aA aH} (a:∀x∈G,GG n x) (hl:G.length<=n) (b:n<=20):(gZ G).length<=3200:=by
 have:=fA1 (l:=G) (f:=oR) (k:=8*n) fun g hg=>Kb (a g hg);have h2:G.length*(8*n)<=20*(8*20):=lQ2 (by omega) (by omega);unfold gZ;omega
def Jp (s:Y0) (m:Int):Int:=(gm s m.toNat).Jump
def vE (J:Int->Int) (aft:Int->aA Int):aA Int->aA (Int×Bool)->aA Int×Bool
 |ms,[]=>(ms,false)
 |ms,x::r=>if J x.1≠0/\x.2=true then(ms++[x.1]++aft (J x.1),true)else vE J aft (ms++[x.1]) r
def iD (s:Y0) (b:Int):Int:=(Gy s.Measures b).getD 0
theorem pC (a:s.Measures.length<100000) (b:Int):F48 s b=some (iD s b)/\Jw s b (iD s b):=by
 obtain⟨r,h1,h2⟩:=Vv a b;unfold F48 iD;rw[h1];exact⟨rfl,h2⟩
def eY (j:Int):Int:=if j=2\/j=5 then 4 else if j=3\/j=6 then 8 else 0
def nG (s:Y0) (st:Int) (cl:aA Int):aA Int->aA Int
 |[]=>[]
 |m::r=>m::(if st≠0/\nB s m.toNat st=true then(if st=8 then cl else[])else nG s st cl r)
theorem Bi {st:Int} {cl:aA Int}:∀{l:aA Int},(∀m∈l,nB s m.toNat st=false)->nG s st cl l=l
 |[],_=>rfl
 |m::r,h=>by
  rw[nG,iL2 (by rw[h m List.mem_cons_self];simp),Bi fun x a=>h x (kI2 _ a)]
theorem Hb {st:Int} {cl:aA Int} {x:Int}:∀{l:aA Int},x∈nG s st cl l->x∈l\/(st=8/\x∈cl)
 |[],h=>by simp[nG]at h
 |m::r,h=>by
  rw[nG]at h
  rcases iY2.1 h with rfl|h
  exact .inl List.mem_cons_self
  split at h
  split at h
  rename_i a;exact .inr ⟨a,h⟩
  simp at h
  rcases Hb h with h|h
  exact .inl (kI2 _ h)
  exact .inr h
def lM (s:Y0) (SK:aA (Int×Bool)) (j:Int):aA Int:=nG s (eY j) (dY SK s.Measures.length (iD s 2)) (dY SK s.Measures.length (if j>=4 then iD s 1 else 0))
theorem Kc {SK:aA (Int×Bool)} {n i:Nat} (h:i<n):dY SK n (i:Int)=if fW SK (i:Int) false=true then dY SK n ((i+1:Nat):Int)else(i:Int)::dY SK n ((i+1:Nat):Int):=by
 unfold dY;rw[kM (by omega),List.filter_cons];cases fW SK (i:Int) false<;>simp
theorem pD {SK:aA (Int×Bool)} {n:Nat} {f x:Int} (h:x∈dY SK n f):f<=x/\x<(n:Int):=Ml (List.mem_filter.1 h).1
theorem Bj (SK:aA (Int×Bool)) (n i:Nat):(dY SK n (i:Int)).length<=n-i:=by
 have:=List.length_filter_le (fun k=> !(fW SK k false)) (qO ((i:Nat):Int) ((n:Nat):Int));rw[nA]at this;unfold dY;omega
theorem no8 (e:∀i,i<s.Measures.length->Jm s i) {t c:Int} (h:Jw s 8 t) (m:0<=t) (j:t<c):∀k:Nat,c<=(k:Int)->k<s.Measures.length->nB s k 8=false:=by
 intro k hk d;rcases h with⟨rfl,_⟩|⟨u,rfl,u1,u2,u3⟩
 omega;have g:=(e k d).u u (by omega);have n:=(e k d).l;have o:=(e u u1).l;have key:∀a b:Fin 16,cU .i64 (a.val:Int) (b.val:Int)=0->(cU .i64 (b.val:Int) 8 !=0)=true->(cU .i64 (a.val:Int) 8 !=0)=false:=by decide+kernel
 obtain⟨a,f⟩:∃a:Nat,(gm s k).Labels=(a:Int):=⟨(gm s k).Labels.toNat,by omega⟩
 obtain⟨b,hb⟩:∃b:Nat,(gm s u).Labels=(b:Int):=⟨(gm s u).Labels.toNat,by omega⟩
 have:=key ⟨a,by omega⟩ ⟨b,by omega⟩;dsimp only at this;unfold nB at u2 ⊢;rw[f,hb]at g;rw[hb]at u2;rw[f];exact this g u2
theorem iW1 (d:∀i,i<s.Measures.length->Jm s i) {t:Int} (b:Jw s 8 t) {i:Nat} (hi:i<s.Measures.length) (h:nB s i 8=true) (e:0<=t):t=(i:Int):=by
 rcases b with⟨rfl,_⟩|⟨u,rfl,u1,u2,u3⟩
 omega;by_cases a:i<u;rw[u3 i a]at h;cases h;by_cases he:i=u;rw[he];have:=no8 d (t:=(u:Int)) (c:=(i:Int)) (.inr ⟨u,rfl,u1,u2,u3⟩) (by omega) (by omega) i (by omega) hi;rw[this]at h;cases h
theorem dD1 {G:aA aH} (hn:s.Measures.length<=20) (X:∀x∈G,GG s.Measures.length x) (hl:G.length<=s.Measures.length) (w:∀i,i<s.Measures.length->Jm s i) {j:Int} {u:Nat} (o:u<s.Measures.length) (D:(gm s u).Jump=j)
  {ms:aA Int} {mp:aA (Int×Int)} {l:aA aZ} (Y:St ms mp l) (hb:ms.length<=8000) (a:Int) (b:aA aZ):
  Ok (cK1 G j s mp l a b) (fun r=>∃e l',r=.inr (e,l')/\St (ms++lM s (fK [] (eF G)) j) e l'/\∀x∈lM s (fK [] (eF G)) j,0<=x/\x<(s.Measures.length:Int)):=by
 unfold cK1;rw[dC1 (by omega) X hl];simp only[iF2];generalize hSK:fK [] (eF G)=SK;obtain⟨q1,q2⟩:=pC (s:=s) (by omega) 1;obtain⟨q3,q4⟩:=pC (s:=s) (by omega) 2
 have B:j>=4->0<=iD s 1:=fun h=>by
  obtain⟨r,hr,h0⟩:=(w u o).d (by rw[D];exact h);rw[q2.det hr];exact h0
 have C:∀{b:Int},Jw s b (iD s b)->iD s b<(s.Measures.length:Int):=fun h=>by
  rcases h with⟨h,_⟩|⟨i,h,h1,_⟩<;>rw[h]<;>omega
 have S:=C q2;have T:=C q4
 obtain⟨f,hf,F⟩:∃f:Nat,(if j>=4 then iD s 1 else 0)=(f:Int)/\f<=s.Measures.length:=by
  by_cases h:j>=4
  .rw [iJ2 h];have:=B h;exact⟨(iD s 1).toNat,by omega,by omega⟩
  .rw [iL2 h];exact⟨0,rfl,iV2 _⟩
 refine Ob (P:=fun r=>r=(f:Int)) ?_ fun r hr=>?_
 .rw [<-hf]
  by_cases h:j>=4
  .rw [iJ2 (by simpa using h),iJ2 h,q1];exact .mk rfl
  .rw [iL2 (by simpa using h),iL2 h];exact .mk rfl
 subst hr;have R:lM s SK j=nG s (eY j) (dY SK s.Measures.length (iD s 2)) (dY SK s.Measures.length (f:Int)):=by unfold lM;rw[hf]
 have p:∀x∈lM s SK j,0<=x/\x<(s.Measures.length:Int):=by
  intro x y;rw[R]at y;rcases Hb y with y|⟨h8,y⟩
  .have:=pD y;omega
  .have E:(gm s u).Jump=3\/(gm s u).Jump=6:=by
    rw[D];unfold eY at h8;split at h8
    .cases h8
    .split at h8
     .rename_i h;exact h
     .cases h8
   obtain⟨t,c,L,M,N,U⟩:=(w u o).c E;have W:=q4.det M;have:=pD y;omega
 refine Ob (P:=fun r=>∃e l',(r=.inr (.inl (e,l'))\/r=.inr (.inr (e,l')))/\St (ms++lM s SK j) e l') (bW (fun(q:Int×aA (Int×Int)×aA aZ)=>∃(i:Nat) (k:aA Int),q.1=(i:Int)/\i<=s.Measures.length/\St k q.2.1 q.2.2/\k.length<=ms.length+i/\k++nG s (eY j) (dY SK s.Measures.length (iD s 2)) (dY SK s.Measures.length (i:Int))=ms++lM s SK j) (fun q=>s.Measures.length-q.1.toNat) (fun q hq=>?_) bC ((f:Int),mp,l) ⟨f,ms,rfl,F,Y,by omega,by rw[R]⟩ (by simp only[bC];omega)) fun r hr=>?_
 .obtain ⟨ii,a0,l1⟩:=q
  obtain⟨i,k,O,g2,z,g4,g⟩:=hq;dsimp only at O z g ⊢;subst O;by_cases hi:i<s.Measures.length
  .rw [iJ2 (by simp;omega)]
   rw[Kc hi]at g;cases hsk:fW SK (i:Int) false with
   |true=>
    rw[hsk,iJ2 rfl]at g;rw[iJ2 rfl,eW (by omega)];exact .mk ⟨⟨i+1,k,rfl,hi,z,by omega,g⟩,by dsimp only;omega⟩
   |false=>
    rw[hsk,iL2 (by decide)]at g;rw[iL2 (by decide),z.play (by omega)];simp only[iF2];rw[dX hi];simp only[iF2];have v:=z.next (i:Int) (by omega);have H:=(w u o).j;rw[D]at H;rw[nG,show((i:Int)).toNat=i from Int.toNat_natCast i]at g;by_cases c1:((cU .i64 (gm s i).Labels 4 !=0)&&(j==2||j==5))=true
    .rw [iJ2 c1]
     have c2:eY j=4:=by
      unfold eY;simp only[iD2,iS2,jZ2]at c1;rw[iJ2 c1.2]
     have c3:nB s i 4=true:=by
      simp only[iD2]at c1;exact c1.1
     rw[c2,iJ2 ⟨by decide,c3⟩,iL2 (by decide)]at g;exact .mk ⟨_,_,.inl rfl,by rw[<-g];exact v⟩
    .rw [iL2 c1]
     by_cases c4:((cU .i64 (gm s i).Labels 8 !=0)&&(j==3||j==6))=true
     .rw [iJ2 c4,q3]
      simp only[iF2];simp only[iD2,iS2,jZ2]at c4
      have c2:eY j=8:=by
       unfold eY;rw[iL2 (by omega),iJ2 c4.2]
      have c3:nB s i 8=true:=c4.1;rw[c2,iJ2 ⟨by decide,c3⟩,iJ2 rfl]at g;obtain⟨t,c,L,M,N,U⟩:=(w u o).c (by rw[D];exact c4.2);have W:=q4.det M;have et:=iW1 w L hi c3 N;obtain⟨cn,A⟩:∃cn:Nat,iD s 2=(cn:Int):=⟨(iD s 2).toNat,by omega⟩
      rw[A,show bE ((cn:Int)-1)=(cn:Int)-1 from Mk (by omega),bN (n:=(cn:Int)-1+1) (by omega) (by omega),show(cn:Int)-1+1=(cn:Int)by omega];refine .mk ⟨⟨cn,k++[(i:Int)],rfl,by omega,v,by rw[iP2];simp;omega,?_⟩,by dsimp only;omega⟩;rw[c2,Bi (l:=dY SK s.Measures.length (cn:Int))]
      .rw [A]at g
       rw[List.append_assoc];exact g
      .intro m Z
       have:=pD Z;exact no8 w L N (c:=c) U m.toNat (by omega) (by omega)
     .rw [iL2 c4]
      simp only[iF2];rw[eW (by omega)]
      have c5:¬(eY j≠0/\nB s i (eY j)=true):=by
       rintro⟨h1,h2⟩;unfold eY at h1 h2;by_cases J:j=2\/j=5
       .rw [iJ2 J]at h2
        exact c1 (by simp only[iD2,iS2,jZ2];exact⟨h2,J⟩)
       .rw [iL2 J]at h1 h2
        by_cases K:j=3\/j=6
        .rw [iJ2 K]at h2
         exact c4 (by simp only[iD2,iS2,jZ2];exact⟨h2,K⟩)
        .rw [iL2 K]at h1
         exact h1 rfl
      rw[iL2 c5]at g;refine .mk ⟨⟨i+1,k++[(i:Int)],rfl,hi,v,by rw[iP2];simp;omega,?_⟩,by dsimp only;omega⟩;rw[List.append_assoc];exact g
  .rw [iL2 (by simp;omega)]
   have:i=s.Measures.length:=by omega
   subst this
   have V:dY SK s.Measures.length (s.Measures.length:Int)=[]:=by
    unfold dY;rw[mZ (by omega)];rfl
   rw[V,nG,kT2]at g;exact .mk ⟨_,_,.inr rfl,by rw[<-g];exact z⟩
 .obtain ⟨e,l',hr|hr,h2⟩:=hr<;>rw[hr]<;>exact .mk ⟨e,l',rfl,h2,p⟩
end Go.P
namespace Go.P
variable {s:Y0}
abbrev PS:=aA (Int×Int)×aA aZ
def iC (s:Y0) (SK:aA (Int×Bool)) (T:aA Int×Bool) (B:Nat) (R:aA (Int×Bool)) (q:PS):Prop:=
 ∃ms,St ms q.1 q.2/\vE (Jp s) (lM s SK) ms R=T/\ms.length+R.length<=B/\∀x∈ms,0<=x/\x<(s.Measures.length:Int)
def Ii (s:Y0) (T:aA Int×Bool) (q:PS):Prop:=∃ms,St ms q.1 q.2/\T=(ms,true)/\∀x∈ms,0<=x/\x<(s.Measures.length:Int)
def Exi (s:Y0) (SK:aA (Int×Bool)) (T:aA Int×Bool) (B:Nat) (R:aA (Int×Bool)) (r:PS⊕(PS⊕PS)):Prop:=match r with
 |.inl _=>False
 |.inr (.inl q)=>Ii s T q
 |.inr (.inr q)=>iC s SK T B R q
structure Ctx (s:Y0) (G:List aH):Prop where
 n:s.Measures.length<=20
 g:∀x∈G,GG s.Measures.length x
 l:G.length<=s.Measures.length
 j:∀i,i<s.Measures.length->Jm s i
variable {G:List aH} {T:List Int×Bool} {B:Nat}
theorem iX1 (c:Ctx s G) {m:Nat} (f:m<s.Measures.length) {b:Bool} {R:aA (Int×Bool)} {mp:aA (Int×Int)} {l:aA aZ} (t:B<=7900) (i:iC s (fK [] (eF G)) T B (((m:Int),b)::R) (mp,l)) (u:Int) (v:aA aZ):
  Ok (sJ (m:Int) b G s mp l u v) (fun r=>match r with|.inl _=>False|.inr (.inl q)=>Ii s T q|.inr (.inr l')=>iC s (fK [] (eF G)) T B R (jC mp (m:Int) (bE (fW mp (m:Int) 0+1)),l')):=by
 obtain⟨ms,h1,h2,h3,h4⟩:=i;dsimp only at h1;rw[jN2]at h3;unfold sJ;rw[h1.play (by omega)];simp only[iF2];rw[dX f];simp only[iF2];have h:=h1.next (m:Int) (by omega)
 have hr:∀x∈ms++[(m:Int)],0<=x/\x<(s.Measures.length:Int):=fun x a=>by
  rcases kJ2.1 a with a|a
  .exact h4 x a
  .rw [kO2]at a;omega
 have d:Jp s (m:Int)=(gm s m).Jump:=by unfold Jp;rw[Int.toNat_natCast]
 rw[vE,d]at h2;by_cases hc:(gm s m).Jump≠0/\b=true
 .rw [iJ2 hc]at h2
  rw[iJ2 (by simp[hc.1,hc.2])];unfold F25;simp only[iF2];refine Ob (dD1 c.n c.g c.l c.j f rfl h (by rw[iP2];simp;omega) u v) fun r e=>?_;obtain⟨p,l',rfl,k,o⟩:=e
  exact .mk ⟨_,k,h2.symm,fun x a=>by
   rcases kJ2.1 a with a|a
   .exact hr x a
   .exact o x a⟩
 .rw [iL2 hc]at h2
  rw[iL2 (by simpa using hc)];exact .mk ⟨_,h,h2,by rw[iP2];simp;omega,hr⟩
theorem dF1 (c:Ctx s G) {f e:Nat} (he:e<=s.Measures.length) {b:Bool} {R:aA (Int×Bool)} {mp:aA (Int×Int)} {l:aA aZ} (i:B<=7900) (j:iC s (fK [] (eF G)) T B ((qO ((f:Nat):Int) ((e:Nat):Int)).map (fun m=>(m,b))++R) (mp,l)) (u:Int) (v:aA aZ)
  {body:Int×PS->aB ((Int×PS)⊕(PS⊕(PS⊕PS)))}
  (h1:∀(m:Nat) (mp:aA (Int×Int)) (l:aA aZ),m<e->body ((m:Int),mp,l)=(sJ (m:Int) b G s mp l u v).bind fun r=>match r with|.inl q=>some (.inr (.inl q))|.inr (.inl q)=>some (.inr (.inr (.inl q)))|.inr (.inr l')=>some (.inl (((m+1:Nat):Int),jC mp (m:Int) (bE (fW mp (m:Int) 0+1)),l')))
  (h2:∀(m:Nat) (q:PS),¬m<e->body ((m:Int),q)=some (.inr (.inr (.inr q)))) (hf:f<=1000):
  Ok (aU body bC ((f:Int),mp,l)) (fun r=>Exi s (fK [] (eF G)) T B R r):=by
 refine bW (fun(q:Int×PS)=>∃m:Nat,q.1=(m:Int)/\iC s (fK [] (eF G)) T B ((qO ((m:Nat):Int) ((e:Nat):Int)).map (fun m=>(m,b))++R) q.2) (fun q=>e-q.1.toNat) (fun q k=>?_) bC _ ⟨f,rfl,j⟩ (by have:=c.n;simp only[bC];omega);obtain⟨o,a,h⟩:=q;obtain⟨m,d,g2⟩:=k;dsimp only at d g2;subst d;by_cases g:m<e;rw[h1 m a h g];rw[kM (by omega)]at g2;refine Ob (iX1 c (by omega) i g2 u v) fun r hr=>?_;rcases r with q|q|l';exact hr.elim;exact .mk hr;exact .mk ⟨⟨m+1,rfl,hr⟩,by dsimp only;omega⟩;rw[h2 m (a,h) g];rw[mZ (by omega)]at g2;exact .mk g2
theorem tZ {A B:Type} {l:aA A} {f:A->aA B} {i:Nat} {x:A} (h:l[i]? =some x):(l.drop i).flatMap f=f x++(l.drop (i+1)).flatMap f:=by
 rw[pO h,kG2]
theorem Wa {n:Nat} {g:aH} (u:n<=20) (hg:GG n g) (p:Nat):Ok (aU (E:=aA aX) (fun(q:Int×aA aX)=>if decide (q.1<(g.endings.length:Int))=true then(aW g.endings q.1).bind fun e=>(nF .i64 e.bits (p:Int)).bind fun h=>((if(cU .i64 h 1==1)=true then(fJ false q.2 [e.span]).bind fun i=>some i else some q.2:aB (aA aX))).bind fun k=>some (.inl ((bE (q.1+1)),k))else some (.inr q.2)) bC (0,[g.body])) (fun r=>r=gI g (p:Int)):=by
 have hl:=hg.l;refine bQ (l:=g.endings) (fun(q:Int×aA aX)=>q.1) (fun j q=>q.2.length<=1+j/\q.2++(((g.endings.drop j).filter fun x=>Jy x.bits (p:Int)).map (·.span))=gI g (p:Int)) (by omega) rfl ⟨by simp,rfl⟩ (fun j y q hy s f d b c a=>?_) (fun q f b=>?_);obtain⟨t,o⟩:=q;obtain⟨h1,h2⟩:=b;have m:=(iG2.1 hy).1;dsimp only at f d h1 h2 c a ⊢;rw[iJ2 (by simpa using d),c];simp only[iF2];rw[Jz];simp only[iF2];rw[pO hy,List.filter_cons]at h2;by_cases hb:Jy y.bits (p:Int)=true;rw[iJ2 hb]at h2;rw[iJ2 (show(cU .i64 (y.bits.fdiv (2^min ((p:Int)).toNat 64)) 1==1)=true from hb),fX (by omega)];simp only[iF2];refine .mk ⟨a,by dsimp only;rw[iP2];simp;omega,?_⟩;dsimp only;rw[<-h2];simp;rw[iL2 hb]at h2;rw[iL2 (show ¬(cU .i64 (y.bits.fdiv (2^min ((p:Int)).toNat 64)) 1==1)=true from hb)];simp only[iF2];exact .mk ⟨a,by dsimp only;omega,h2⟩;obtain⟨t,o⟩:=q;dsimp only at f b ⊢;rw[f,iL2 (by simp)];rw[List.drop_length]at b;exact .mk (by simpa using b.2)
theorem dG1 (c:Ctx s G) {g:aH} (hg:GG s.Measures.length g) {R:aA (Int×Bool)} {mp:aA (Int×Int)} {l:aA aZ} (A:B<=7900) (C:iC s (fK [] (eF G)) T B (oR g++R) (mp,l)) (u:Int) (v:aA aZ):
  Ok (cL1 g G s mp l u v) (fun r=>Exi s (fK [] (eF G)) T B R r):=by
 unfold cL1;obtain⟨b,a⟩:∃b:Nat,g.passes=(b:Int):=⟨g.passes.toNat,by have:=hg.p;omega⟩
 have w:b<=8:=by have:=hg.p;omega
 have H:=c.n;refine Ob (P:=fun r=>Exi s (fK [] (eF G)) T B R r) (bW (fun(q:Int×PS)=>∃p:Nat,q.1=(p:Int)/\iC s (fK [] (eF G)) T B ((qO (p:Int) g.passes).flatMap (oQ g)++R) q.2) (fun q=>b-q.1.toNat) (fun q j=>?_) bC (0,mp,l) ⟨0,rfl,C⟩ (by simp only[bC];omega)) fun r hr=>?_;obtain⟨O,k,J⟩:=q;obtain⟨p,t,g2⟩:=j;dsimp only at t g2 ⊢;subst t;by_cases hp:p<b;rw[iJ2 (by rw[a];simp;omega)];rw[a,kM (by omega),kG2,List.append_assoc]at g2;refine Ob (Wa H hg p) fun P D=>?_;subst D
 have E:(gI g (p:Int)).length<=21:=by
  unfold gI;rw[jN2,jO2];have:=List.length_filter_le (fun x:aV=>Jy x.bits (p:Int)) g.endings;have:=hg.l;omega
 refine Ob (P:=fun r=>Exi s (fK [] (eF G)) T B ((qO ((p+1:Nat):Int) (b:Int)).flatMap (oQ g)++R) r) (bW (fun(q:Int×PS)=>∃i:Nat,q.1=(i:Int)/\i<=(gI g (p:Int)).length/\iC s (fK [] (eF G)) T B (((gI g (p:Int)).drop i).flatMap (oP ((p:Int)==g.passes-1))++((qO ((p+1:Nat):Int) (b:Int)).flatMap (oQ g)++R)) q.2) (fun q=>(gI g (p:Int)).length-q.1.toNat) (fun q j=>?_) bC (0,k,J) ⟨0,rfl,iV2 _,g2⟩ (by simp only[bC];omega)) fun r hr=>?_;obtain⟨M,K,N⟩:=q;obtain⟨i,o,L,d⟩:=j;dsimp only at o d ⊢;subst o;by_cases hi:i<(gI g (p:Int)).length;rw[iJ2 (by simp;omega)];have z:(gI g (p:Int))[i]? =some (gI g (p:Int))[i]:=iZ2 hi;rw[show fQ (gI g (p:Int)) (i:Int)=some i by unfold fQ rJ;rw[iJ2 ⟨by omega,by omega⟩,Int.toNat_natCast],iF2,show gL (gI g (p:Int)) i=some (gI g (p:Int))[i]from z,iF2];rw[tZ z,List.append_assoc]at d;obtain⟨f,e,h,h1,h2⟩:=hg.parts (kN2 hi);rw[h]at d ⊢;dsimp only;refine Ob (dF1 c h2 A d u v (fun m mp l F=>?_) (fun m q F=>?_) (by omega)) fun r hr=>?_;dsimp only;rw[iJ2 (by simp;omega),show bE (g.passes-1)=g.passes-1 from bN (by omega) (by omega),eW (by omega)];refine congrArg (Option.bind _) (funext fun r=>?_);rcases r with⟨x,y⟩|⟨x,y⟩|x<;>rfl
 grind
 rcases r with q|q|q;exact hr.elim;exact .mk hr;rw[eW (by omega)];exact .mk ⟨⟨i+1,rfl,hi,hr⟩,by dsimp only;omega⟩;rw[iL2 (by simp;omega)];rw[List.drop_eq_nil_iff.2 (by omega)]at d;exact .mk d;rcases r with q|q|q;exact hr.elim;exact .mk hr;rw[eW (by omega)];refine .mk ⟨⟨p+1,rfl,?_⟩,by dsimp only;omega⟩;rw[a];exact hr;rw[iL2 (by rw[a];simp;omega)];rw[a,mZ (by omega)]at g2;exact .mk g2;rcases r with q|q|q;exact hr.elim;exact .mk hr;exact .mk hr
theorem dH1 (c:Ctx s G) (d:F23 s=some G) {mp:aA (Int×Int)} {l:aA aZ} (f:B<=7900) (h:iC s (fK [] (eF G)) T B (gZ G) (mp,l)) (u:Int) (v:aA aZ):
  Ok (cM1 s mp l u v) (fun r=>∃q:PS,r=.inr q/\∃ms,St ms q.1 q.2/\T.1=ms/\∀x∈ms,0<=x/\x<(s.Measures.length:Int)):=by
 unfold cM1;rw[d];simp only[iF2];have p:=c.n;have hl:=c.l;refine Ob (P:=fun r=>Exi s (fK [] (eF G)) T B [] r) (bQ (l:=G) (fun(q:Int×PS)=>q.1) (fun i q=>iC s (fK [] (eF G)) T B ((G.drop i).flatMap oR) q.2) (by omega) rfl h (fun i x q k j hi b a hg hw=>?_) (fun q hi a=>?_)) fun r hr=>?_;obtain⟨m,e,o⟩:=q;dsimp only at hi b a hg hw ⊢;rw[iJ2 (by simpa using b),hg];simp only[iF2,hD1];rw[tZ k]at a;refine Ob (dG1 c (c.g x j) f a u v) fun r hr=>?_;rcases r with q|q|q;exact hr.elim;exact .mk hr;exact .mk ⟨hw,hr⟩;obtain⟨m,e,o⟩:=q;dsimp only at hi a ⊢;rw[hi,iL2 (by simp)];rw[List.drop_length]at a;exact .mk a;rcases r with q|q|q;exact hr.elim;obtain⟨ms,h1,h2,h3⟩:=hr;exact .mk ⟨q,rfl,ms,h1,by rw[h2],h3⟩;obtain⟨ms,h1,h2,h3,h4⟩:=hr;exact .mk ⟨q,rfl,ms,h1,by rw[<-h2];rfl,h4⟩
end Go.P
namespace Go.P
variable {s:Y0} {G:List aH}
def Hc (x:Int×Bool):aK:=⟨x.1,x.2⟩
theorem Mo {A:Type} {body:Int×aA A->aB ((Int×aA A)⊕aA A)} {a b:Nat} (f:Int->A) {o:aA A} (h:a<=1000) (hb:b<=1000) (i:o.length<=10000)
  (h1:∀(k:Nat) (st:aA A),k<b->st.length<1000000->body ((k:Int),st)=some (.inl (((k+1:Nat):Int),st++[f (k:Int)]))) (h2:∀(k:Nat) (st:aA A),¬k<b->body ((k:Int),st)=some (.inr st)):
  aU body bC ((a:Int),o)=some (o++(qO ((a:Nat):Int) ((b:Nat):Int)).map f):=by
 refine Ok.eq (bW (fun(q:Int×aA A)=>∃k:Nat,q.1=(k:Int)/\q.2.length+a<=o.length+k/\q.2++(qO ((k:Nat):Int) ((b:Nat):Int)).map f=o++(qO ((a:Nat):Int) ((b:Nat):Int)).map f/\(k<=a\/k<=b)) (fun q=>b-q.1.toNat) (fun q e=>?_) bC _ ⟨a,rfl,iH2 _,rfl,.inl (iH2 _)⟩ (by simp only[bC];omega));obtain⟨j,st⟩:=q;obtain⟨k,d,g2,c,g⟩:=e;dsimp only at d g2 c;subst d;by_cases hk:k<b;rw[h1 k st hk (by omega)];rw[kM (by omega),kF2]at c;exact .mk ⟨⟨k+1,rfl,by dsimp only;rw[iP2];simp;omega,by dsimp only;rw[<-c];simp,.inr hk⟩,by dsimp only;omega⟩;rw[h2 k st hk];rw[mZ (by omega)]at c;exact .mk (by rw[<-c];simp)
theorem iY1 (c:Ctx s G) (R:F43 s=some (G.map cG)):F19 s=some ((gZ G).map Hc):=by
 have hn:=c.n;have hl:=c.l;have hT:=qM c.g c.l c.n;refine Ok.eq ?_;unfold F19;rw[R];simp only[iF2];refine Ob (P:=fun r=>r=(gZ G).map Hc) (bQ (l:=G.map cG) (fun(q:Int×aA aK)=>q.1) (fun i q=>q.2++(((G.drop i).flatMap oR).map Hc)=(gZ G).map Hc) (by rw[jO2];omega) rfl rfl (fun i x q Y hm hi L u hg hw=>?_) (fun q hi u=>?_)) fun r hr=>.mk hr;obtain⟨ii,o⟩:=q;dsimp only at hi L u hg hw ⊢;obtain⟨g,Z,rfl⟩:∃z,G[i]? =some z/\cG z=x:=by rw[jE2]at Y;exact iE2.1 Y
 have d:=c.g g (iN2 Z);have b6:=d.l;obtain⟨H,t⟩:∃H:Nat,g.passes=(H:Int):=⟨g.passes.toNat,by have:=d.p;omega⟩
 have X:H<=8:=by have:=d.p;omega
 rw[iJ2 (by simpa using L),hg];simp only[iF2];rw[tZ Z,lB2]at u;have hlen:=congrArg List.length u;simp only[iP2,jO2]at hlen;refine Ob (P:=fun r=>r=o++(oR g).map Hc) (bW (fun(q:Int×aA aK)=>∃p:Nat,q.1=(p:Int)/\q.2++(((qO (p:Int) g.passes).flatMap (oQ g)).map Hc)=o++(oR g).map Hc) (fun q=>H-q.1.toNat) (fun q S=>?_) bC (0,o) ⟨0,rfl,rfl⟩ (by simp only[bC];omega)) fun r hr=>?_;obtain⟨pp,T⟩:=q;obtain⟨p,U,g2⟩:=S;dsimp only at U g2 ⊢;subst U;have w:(cG g).times=(H:Int):=t;by_cases hp:p<H;rw[iJ2 (by rw[w];simp;omega)];rw[t,kM (by omega),kG2,lB2]at g2;have B:=congrArg List.length g2;simp only[iP2,jO2]at B;have M:bE ((cG g).times-1)=g.passes-1:=by rw[w,t];exact bN (by omega) (by omega)
 obtain⟨f,e,A,h1,h2⟩:=d.b;rw[show(cG g).body.from'=(f:Int)by simp[cG,A],show(cG g).body.to=(e:Int)by simp[cG,A],M]
 rw[Mo (b:=e) (fun m=>Hc (m,(p:Int)==g.passes-1)) (by omega) (by omega) (by omega) (fun k st hk C=>by
  rw[iJ2 (by simp;omega),fX C,iF2,eW (by omega)];rfl) (fun k st hk=>by rw[iL2 (by simp;omega)])]
 simp only[iF2];have b9:=Bh d (p:Int);have b5:((qO ((f:Nat):Int) ((e:Nat):Int)).map fun m=>Hc (m,(p:Int)==g.passes-1)).length<=20:=by rw[jO2,nA];omega
 refine Ob (P:=fun r=>r=T++((oQ g (p:Int)).map Hc)) (bQ (l:=(cG g).endings) (fun(q:Int×aA aK)=>q.1) (fun j q=>q.2.length<=T.length+20+j*20/\q.2++(((((g.endings.drop j).filter fun x=>Jy x.bits (p:Int)).map (·.span)).flatMap (oP ((p:Int)==g.passes-1))).map Hc)=T++((oQ g (p:Int)).map Hc)) (by simp[cG];omega) rfl ⟨by dsimp only;rw[iP2];omega,?_⟩ (fun j y q hy b8 N K F J D=>?_) (fun q N F=>?_)) fun r hr=>?_;dsimp only;unfold oQ gI;rw[kG2,lB2,List.append_assoc];congr 1;congr 1;rw[A];simp only[oP,List.map_map];rfl;obtain⟨jj,O⟩:=q;dsimp only at N K F J D ⊢
 obtain⟨z,E,rfl⟩:∃z,g.endings[j]? =some z/\cE z=y:=by
  rw[show(cG g).endings=g.endings.map cE from rfl,jE2]at hy;exact iE2.1 hy
 have b7:=(iG2.1 E).1;have W:j*20<=400:=by omega
 obtain⟨a0,h⟩:=F;rw[iJ2 (by simpa using K),J];simp only[iF2];obtain⟨⟨a,b,v,b0,b4⟩,_⟩:=d.e z (iN2 E);rw[pO E,List.filter_cons]at h;rw[show(cE z).from'=(a:Int)by simp[cE,v],show(cE z).to=(b:Int)by simp[cE,v],show(cE z).bits=z.bits from rfl];by_cases hb:Jy z.bits (p:Int)=true;rw[iJ2 hb,kF2,kG2,lB2,v]at h
 rw[Mo (b:=b) (fun m=>Hc (m,(p:Int)==g.passes-1)) (by omega) (by omega) (by omega) (fun k st hk C=>by
  rw[iJ2 (by simp;omega),Jz];simp only[iF2];rw[iJ2 (show(cU .i64 (z.bits.fdiv (2^min ((p:Int)).toNat 64)) 1==1)=true from hb),fX C,iF2,eW (by omega)];rfl) (fun k st hk=>by rw[iL2 (by simp;omega)];rfl)]
 refine .mk ⟨D,by dsimp only;rw[iP2,jO2,nA];omega,?_⟩;dsimp only;rw[<-h,List.append_assoc];congr 1;simp only[oP,List.map_map];rfl;rw[iL2 hb]at h;refine Ob (P:=fun r=>r=O) (bW (Q:=fun r=>r=O) (fun(q:Int×aA aK)=>q=((a:Int),O)) (fun _=>0) (fun q S=>?_) bC _ rfl (by decide)) fun r hr=>?_;subst S;dsimp only;by_cases V:a<b;rw[iJ2 (by simp;omega),Jz];simp only[iF2];rw[iL2 (show ¬(cU .i64 (z.bits.fdiv (2^min ((p:Int)).toNat 64)) 1==1)=true from hb)];exact .mk rfl;rw[iL2 (by simp;omega)];exact .mk rfl;subst hr;exact .mk ⟨D,by dsimp only;omega,h⟩;obtain⟨jj,O⟩:=q;dsimp only at N F ⊢;rw[N,iL2 (by simp)];rw[show(cG g).endings.length=g.endings.length by simp[cG],List.drop_length]at F;exact .mk (by simpa using F.2);subst hr;rw[eW (by omega)];refine .mk ⟨⟨p+1,rfl,?_⟩,by dsimp only;omega⟩;dsimp only;rw[<-g2,t];simp;rw[iL2 (by rw[w];simp;omega)];rw[t,mZ (by omega)]at g2;exact .mk (by simpa using g2);subst hr;refine .mk ⟨hw,?_⟩;dsimp only;rw[<-u];simp;obtain⟨ii,o⟩:=q;dsimp only at hi u ⊢;rw[hi,iL2 (by simp)];rw[jO2,List.drop_length]at u;exact .mk (by simpa using u)
theorem rD1 {i:Nat} (d:Jm s i) {b:Int} (hb:b=1\/b=2\/b=4\/b=8):∃q,sB .i64 (gm s i).Labels b=some q/\((qI .i64 q 2=some 0/\nB s i b=false)\/(qI .i64 q 2=some 1/\nB s i b=true)):=by
 have f:=d.l;obtain⟨a,e⟩:∃a:Nat,(gm s i).Labels=(a:Int):=⟨(gm s i).Labels.toNat,by omega⟩
 obtain⟨k,hk,c⟩:∃k:Nat,b=((2^k:Nat):Int)/\k<4:=by
  rcases hb with rfl|rfl|rfl|rfl;exact⟨0,rfl,by decide⟩;exact⟨1,rfl,by decide⟩;exact⟨2,rfl,by decide⟩;exact⟨3,rfl,by decide⟩
 obtain⟨q,h1,h2,h3⟩:=dB1 ⟨a,by omega⟩ ⟨k,c⟩;dsimp only at h1 h3;unfold nB;rw[e,hk];refine⟨q,h1,?_⟩;rcases h2 with h2|h2
 grind
 grind
theorem Wb (c:Ctx s G) {b:Int} (hb:b=1\/b=2) (h0:0<=iD s b):F20 s b=some (iD s b):=by
 have d:=c.n;have a:=(pC (s:=s) (by omega) b).2;refine Ok.eq ?_;unfold F20;refine Ob (Jx (s:=s) (p:=fun i=>nB s i b) (by omega) (fun i hi=>?_) ?_) fun r hr=>?_;rw[iJ2 (by simp;omega),dX hi];simp only[iF2];obtain⟨q,h1,h2⟩:=rD1 (c.j i hi) (b:=b) (by omega);rw[h1];simp only[iF2];rw[eW (by omega)];rcases h2 with⟨h2,h3⟩|⟨h2,h3⟩<;>rw[h2,h3]<;>rfl
 grind
 rcases r with x|_;obtain⟨i,rfl,h⟩:=hr;exact .mk (Jw.det (.inr ⟨i,rfl,h⟩) a);have:=Jw.det (.inl ⟨rfl,hr⟩) a;omega
theorem dI1 {A:Type} {l m:aA A} (h:l.length+m.length<1000000):fJ false l m=some (l++m):=by
 have e:Sim.maxRoom=1073741824:=rfl;unfold fJ;rw[iJ2 ⟨by rw[e];omega,fun h=>by cases h⟩]
theorem iZ1 (c:Ctx s G) (v:F43 s=some (G.map cG)):F11 s=some (vE (Jp s) (lM s (fK [] (eF G))) [] (gZ G)).1:=by
 have hn:=c.n;have hT:=qM c.g c.l c.n;refine Ok.eq ?_;unfold F11;rw[iY1 c v];simp only[iF2];generalize hSK:fK [] (eF G)=SK;refine Ob (P:=fun r=>r=(vE (Jp s) (lM s SK) [] (gZ G)).1) (bQ (l:=(gZ G).map Hc) (fun(q:Int×aA Int)=>q.1) (fun i q=>q.2.length<=i/\(vE (Jp s) (lM s SK) q.2 ((gZ G).drop i)).1=(vE (Jp s) (lM s SK) [] (gZ G)).1) (by rw[jO2];omega) rfl ⟨iH2 _,rfl⟩ (fun i x q hx hm hi J A hg hw=>?_) (fun q hi A=>?_)) fun r hr=>.mk hr;obtain⟨ii,o⟩:=q;dsimp only at hi J A hg hw ⊢;obtain⟨⟨ym,V⟩,hz,rfl⟩:∃z,(gZ G)[i]? =some z/\Hc z=x:=by rw[jE2]at hx;exact iE2.1 hx
 have b8:=(iG2.1 hz).1;obtain⟨b5,e⟩:=A;have Z:=Ka c.g (iN2 hz);dsimp only at Z;obtain⟨m,rfl⟩:∃m:Nat,ym=(m:Int):=⟨ym.toNat,by omega⟩
 have K:m<s.Measures.length:=by omega
 rw[iJ2 (by simpa using J),hg];simp only[iF2];rw[show(Hc ((m:Int),V)).measure=(m:Int)from rfl,show(Hc ((m:Int),V)).last=V from rfl,fX (by omega)];simp only[iF2];rw[dX K];simp only[iF2];rw[pO hz,vE,show Jp s (m:Int)=(gm s m).Jump by unfold Jp;rw[Int.toNat_natCast]]at e;by_cases hc:(gm s m).Jump≠0/\V=true;rw[iJ2 hc]at e;rw[iL2 (by simp[hc.1,hc.2])];have w:=c.j m K;obtain⟨q1,q2⟩:=pC (s:=s) (by omega) 1;obtain⟨q3,q4⟩:=pC (s:=s) (by omega) 2
 have u:(gm s m).Jump>=4->0<=iD s 1:=fun h=>by
  obtain⟨r,hr,h0⟩:=w.d h;rw[q2.det hr];exact h0
 have L:∀{b:Int},Jw s b (iD s b)->iD s b<(s.Measures.length:Int):=fun h=>by
  rcases h with⟨h,_⟩|⟨i,h,h1,_⟩<;>rw[h]<;>omega
 have a0:=L q2;have b0:=L q4
 obtain⟨f,hf,X⟩:∃f:Nat,(if(gm s m).Jump>=4 then iD s 1 else 0)=(f:Int)/\f<=s.Measures.length:=by
  by_cases h:(gm s m).Jump>=4;rw[iJ2 h];have:=u h;exact⟨(iD s 1).toNat,by omega,by omega⟩
  grind
 refine Ob (P:=fun r=>r=(f:Int)) ?_ fun r hr=>?_;rw[<-hf];by_cases h:(gm s m).Jump>=4;rw[iJ2 (by simpa using h),iJ2 h,Wb c (.inl rfl) (u h)];exact .mk rfl;rw[iL2 (by simpa using h),iL2 h];exact .mk rfl;subst hr;have b9:=w.j;refine Ob (P:=fun r=>r=decide ((gm s m).Jump=2\/(gm s m).Jump=5)) (Oi (fun h=>?_) (fun h=>?_)) fun d3 N=>?_;refine .mk ?_;have h:=eq_of_beq h;rw[h];rfl;refine .mk ?_;have h:¬(gm s m).Jump=2:=fun h2=>h (by rw[h2];rfl);rw[show decide ((gm s m).Jump=2\/(gm s m).Jump=5)=decide ((gm s m).Jump=5)by simp[h]];rfl;subst N;refine Ob (P:=fun r=>r=eY (gm s m).Jump) ?_ fun d5 R=>?_;unfold eY;refine Oi (fun h=>?_) (fun h=>?_);rw[iJ2 (c:=(gm s m).Jump=2\/(gm s m).Jump=5) (by simpa using h)];exact .mk rfl;rw[iL2 (c:=(gm s m).Jump=2\/(gm s m).Jump=5) (by simpa using h)];refine Ob (P:=fun r=>r=decide ((gm s m).Jump=3\/(gm s m).Jump=6)) (Oi (fun h=>?_) (fun h=>?_)) fun d4 O=>?_;refine .mk ?_;have h:=eq_of_beq h;rw[h];rfl;refine .mk ?_;have h:¬(gm s m).Jump=3:=fun h2=>h (by rw[h2];rfl);rw[show decide ((gm s m).Jump=3\/(gm s m).Jump=6)=decide ((gm s m).Jump=6)by simp[h]];rfl;subst O;refine Ob (P:=fun r=>r=if(gm s m).Jump=3\/(gm s m).Jump=6 then 8 else 0) (Oi (fun h=>?_) (fun h=>?_)) fun _ h=>.mk h;rw[iJ2 (c:=(gm s m).Jump=3\/(gm s m).Jump=6) (by simpa using h)];exact .mk rfl;rw[iL2 (c:=(gm s m).Jump=3\/(gm s m).Jump=6) (by simpa using h)];exact .mk rfl;subst R;have F:=Vz (by omega) c.g c.l v f X;rw[hSK]at F;rw[F];simp only[iF2];have d1:=Bj SK s.Measures.length f
 have b4:eY (gm s m).Jump=0\/eY (gm s m).Jump=4\/eY (gm s m).Jump=8:=by
  unfold eY;split;omega;omega
 have C:lM s SK (gm s m).Jump=nG s (eY (gm s m).Jump) (dY SK s.Measures.length (iD s 2)) (dY SK s.Measures.length (f:Int)):=by unfold lM;rw[hf]
 refine Ob (P:=fun r=>r=o++[(m:Int)]++lM s SK (gm s m).Jump) (bQ (l:=dY SK s.Measures.length (f:Int)) (fun(q:Int×aA Int)=>q.1) (fun k q=>q.2.length<=o.length+1+k/\q.2++nG s (eY (gm s m).Jump) (dY SK s.Measures.length (iD s 2)) ((dY SK s.Measures.length (f:Int)).drop k)=o++[(m:Int)]++lM s SK (gm s m).Jump) (by omega) rfl ⟨by dsimp only;rw[iP2];simp,by rw[C];rfl⟩ (fun k x q S Y hk hkl B H M=>?_) (fun q hk B=>?_)) fun r hr=>?_;obtain⟨kk,o2⟩:=q;dsimp only at hk hkl B H M ⊢;obtain⟨b6,a⟩:=B;have d0:=(iG2.1 S).1;have d2:=pD Y;obtain⟨y,rfl⟩:∃y:Nat,x=(y:Int):=⟨x.toNat,by omega⟩
 have T:y<s.Measures.length:=by omega
 rw[iJ2 (by simpa using hkl),H];simp only[iF2];rw[fX (by omega)];simp only[iF2];rw[pO S,nG,Int.toNat_natCast]at a;refine Ob (P:=fun r=>(r=true↔¬(eY (gm s m).Jump≠0/\nB s y (eY (gm s m).Jump)=true))) (Oi (fun h=>.mk ?_) (fun h=>?_)) fun r hr=>?_
 grind
 have h:eY (gm s m).Jump≠0:=fun h2=>h (by rw[h2];rfl);rw[dX T];simp only[iF2];obtain⟨q,k1,U⟩:=rD1 (c.j y T) (b:=eY (gm s m).Jump) (by omega);rw[k1];simp only[iF2];rcases U with⟨U,k3⟩|⟨U,k3⟩
 rw[U,k3];exact .mk ⟨fun _ h=>(by cases h.2),fun _=>rfl⟩;rw[U,k3];exact .mk ⟨fun h=>by simp at h,fun h2=>absurd ⟨h,rfl⟩ h2⟩;by_cases hs:eY (gm s m).Jump≠0/\nB s y (eY (gm s m).Jump)=true;rw[iJ2 hs]at a;rw[iL2 (fun h=>hr.1 h hs)];refine Ob (P:=fun r=>r=o++[(m:Int)]++lM s SK (gm s m).Jump) (Oi (fun p=>?_) (fun p=>?_)) fun r hr=>.mk hr;have p:=eq_of_beq p;rw[iJ2 p]at a
 have W:(gm s m).Jump=3\/(gm s m).Jump=6:=by
  unfold eY at p;split at p;cases p;omega
 obtain⟨t,cc,t1,t2,t3,t4⟩:=w.c W;have ec:=q4.det t2;obtain⟨cn,D⟩:∃cn:Nat,iD s 2=(cn:Int):=⟨(iD s 2).toNat,by omega⟩
 have E:=Vz (by omega) c.g c.l v cn (by omega);rw[hSK]at E;have b7:=Bj SK s.Measures.length cn;rw[Wb c (.inr rfl) (by omega),D];simp only[iF2];rw[E];simp only[iF2];rw[dI1 (by rw[iP2];simp;omega)];refine .mk ?_;rw[<-a,D,List.append_assoc];rfl;have p:¬eY (gm s m).Jump=8:=fun h=>p (by rw[h];rfl);rw[iL2 p]at a;exact .mk (by rw[<-a]);rw[iL2 hs]at a;rw[iJ2 (hr.2 hs)];refine .mk ⟨M,by dsimp only;rw[iP2];simp;omega,?_⟩;dsimp only;rw[<-a,List.append_assoc];rfl;obtain⟨kk,o2⟩:=q;dsimp only at hk B ⊢;rw[hk,iL2 (by simp)];rw[List.drop_length,nG,kT2]at B;exact .mk B.2;subst hr;exact .mk e;rw[iL2 hc]at e;rw[iJ2 (by cases V<;>simp_all)];exact .mk ⟨hw,by dsimp only;rw[iP2];simp;omega,e⟩;obtain⟨ii,o⟩:=q;dsimp only at hi A ⊢;rw[hi,iL2 (by simp)];rw[jO2,List.drop_length]at A;exact .mk A.2
theorem jA1 (hs:s.sm) (hv:F8 s=some true):∃G,Ctx s G/\F23 s=some G/\F43 s=some (G.map cG):=by
 have m:=hs.Measures
 obtain⟨⟨g,hg⟩,f⟩:(∃g,gS s g)/\∀i,i<s.Measures.length->Jm s i:=by
  by_cases h0:0<s.Measures.length;have hr:=iO1 hs h0 hv;exact⟨Vo hs hr.r14,Vx hs hr.r15⟩;exact⟨⟨fun _=>z0,rfl,fun i hi=>by omega,fun i hi=>by omega⟩,fun i hi=>by omega⟩
 obtain⟨G,a,d⟩:=iS1 (s:=s) (by omega) (fun i hi=>hg.E hi);obtain⟨x,c,y,rfl,j⟩:=iU1 (s:=s) (by omega) hg;have e:=d.det j;subst e;obtain⟨k,l⟩:=d.good (fun i hi=>⟨hg.E hi,(hg.b i hi).1⟩) (iH2 _) (iV2 _) (fun x h=>by simp at h) (by simp);exact⟨G,⟨by omega,k,l,f⟩,a,c⟩
theorem Hd {J:Int->Int} {aft:Int->aA Int} {k:Nat} (h:∀j,(aft j).length<=k):∀(R:aA (Int×Bool)) (ms:aA Int),(vE J aft ms R).1.length<=ms.length+R.length+k
 |[],ms=>by simp[vE]
 |x::r,ms=>by
  rw[vE,jN2]
  split
  grind
  have:=Hd (J:=J) h r (ms++[x.1])
  rw[iP2,List.length_singleton]at this
  omega
theorem He {st:Int} {cl:aA Int}:∀l:aA Int,(nG s st cl l).length<=l.length+cl.length
 |[]=>by simp[nG]
 |m::r=>by
  rw[nG,jN2,jN2]
  split
  grind
  have:=He (st:=st) (cl:=cl) r
  omega
theorem Wc (c:Ctx s G) (SK:aA (Int×Bool)) (j:Int):(lM s SK j).length<=42:=by
 have e:=c.n
 have a:∀b,-1<=iD s b:=fun b=>by
  rcases(pC (s:=s) (by omega) b).2 with⟨h,_⟩|⟨i,h,_⟩<;>rw[h]<;>omega
 have d:∀f:Int,-1<=f->(dY SK s.Measures.length f).length<=21:=fun f hf=>by
  have:=List.length_filter_le (fun k=> !(fW SK k false)) (qO f (s.Measures.length:Int));rw[nA]at this;unfold dY;omega
 have h1:=d (iD s 2) (a 2);have h2:=d (if j>=4 then iD s 1 else 0) (by split;exact a 1;omega);have h3:=He (s:=s) (st:=eY j) (cl:=dY SK s.Measures.length (iD s 2)) (dY SK s.Measures.length (if j>=4 then iD s 1 else 0));unfold lM;omega
theorem rE1 (hs:s.sm) (hv:F8 s=some true):∃ms:aA Int,F7 s=some (Pf [] ms,0)/\F11 s=some ms/\ms.length<=8192/\∀m∈ms,0<=m/\m<(s.Measures.length:Int):=by
 obtain⟨G,c,e,f⟩:=jA1 hs hv;have i:=qM c.g c.l c.n;obtain⟨r,hr,q,rfl,ms,h1,h2,h3⟩:=dH1 c e (B:=7900) (T:=vE (Jp s) (lM s (fK [] (eF G))) [] (gZ G)) (mp:=[]) (l:=[]) (iH2 _) ⟨[],St.nil,rfl,by simp;omega,fun x h=>by simp at h⟩ 0 [];refine⟨ms,?_,by rw[iZ1 c f,h2],?_,h3⟩;unfold F7;rw[hv];simp only[iF2];rw[iL2 (by decide)];unfold hB1;simp only[iF2];rw[hr];obtain⟨a,b⟩:=q;dsimp only at h1;rw[h1.1];rfl;have d:=Hd (J:=Jp s) (aft:=lM s (fK [] (eF G))) (k:=42) (fun j=>Wc c _ j) (gZ G) [];rw[h2]at d;simp only[iR2]at d;omega
end Go.P
namespace Go.P
theorem jB1:(F16.elim false fun s=>decide (s.Title.size<=300)&&decide (s.Parts.length<=4)&&s.Parts.all (fun p=>decide (p.Name.size<=300)&&decide (p.Staves.length<=5))&&decide (s.Spanners.length<=10))=true:=by kernel_rfl
theorem jC1 {l:aA bJ}:Ok (F13 l) fun s=>s.sm:=by
 unfold F13;have h:=jB1;cases h4:F16 with
 |none=>rw[h4]at h;cases h
 |some s=>
  rw[h4]at h;simp only[Option.elim_some,iD2,iO2,iM2]at h;obtain⟨⟨⟨a,b⟩,c⟩,d⟩:=h;simp only[iF2];refine Ob (P:=fun v=>v.length<=12/\∀m∈v,m.sm) (bW (fun s=>0<=s.1/\s.1<=12/\s.2.length<=s.1.toNat/\∀m∈s.2,m.sm) (fun s=>12-s.1.toNat) (fun s hs=>?_) bC _ ⟨by decide,by decide,by decide,fun m e=>by cases e⟩ (by decide)) fun v hv=>.mk ⟨a,b,fun p hp=>⟨(c p hp).1,(c p hp).2⟩,hv.1,hv.2,d,Nat.le_of_ble_eq_true rfl⟩;obtain⟨i,v⟩:=s;obtain⟨h0,h1,h2,h3⟩:=hs;dsimp only at h0 h1 h2 h3 ⊢;refine Oi (fun hc=>?_) (fun _=>.mk ⟨by omega,h3⟩);simp only[iD2,iO2]at hc;refine Ob (bX (Q:=fun _=>True) h0 hc.1 fun _ _ _=>trivial) fun x1 _=>?_;refine Ob (bX (Q:=fun _=>True) h0 hc.1 fun _ _ _=>trivial) fun f _=>?_;refine Ob (bX (Q:=fun _=>True) h0 hc.1 fun _ _ _=>trivial) fun x3 _=>?_;refine Ob (bX (Q:=fun _=>True) h0 hc.1 fun _ _ _=>trivial) fun g _=>?_;refine Ob (bX (Q:=fun _=>True) h0 hc.1 fun _ _ _=>trivial) fun j _=>?_;refine Ob (fF (Q:=fun w=>w.length<=v.length+1/\∀m∈w,m.sm) (by omega) ⟨by simp,fun m e=>?_⟩) fun w hw=>.mk ?_;rcases kJ2.1 e with e|e;exact h3 m e;rw[kO2.1 e];refine⟨iV2 _,iV2 _,Nat.le_of_ble_eq_true rfl,fun c hc=>?_⟩;rw[kO2.1 hc];refine⟨iV2 _,Nat.le_of_ble_eq_true rfl,fun c hc=>?_⟩;rw[kO2.1 hc];refine⟨Nat.le_of_ble_eq_true rfl,fun c hc=>?_,iV2 _⟩;rw[kO2.1 hc];exact⟨iV2 _,iV2 _,iV2 _,fun c hc=>by cases hc⟩;rw[bN (by omega) (by omega)];exact⟨⟨by omega,by omega,by dsimp only;omega,hw.2⟩,by dsimp only;omega⟩
theorem bU2 (l:aA bJ):F4 l=some true:=by
 refine Ok.eq ?_;unfold F4;refine Ob jC1 fun s hs=>?_;obtain⟨v,hv,_⟩:=T8 hs;cases v with
 |false=>
  have b:F7 s=some ([],24):=by
   unfold F7;rw[hv];rfl
  exact⟨true,by simp[b,hv],rfl⟩
 |true=>
  obtain⟨ms,h1,h2,h3,h4⟩:=rE1 hs hv;obtain⟨c,h5,rfl⟩:=iV1 (ms:=ms) (by omega);have a:=dA1 (l:=Pf [] ms) (by rw[vY];omega);exact⟨true,by simp[h1,hv,h2,h5,a],rfl⟩
end Go.P
