import Derived.Test.YtajloalceibekaaGreatGaB
/- A text of the proof. -/
set_option linter.all false
namespace Go.P
def Ok {α:Type} (x:Option α) (Q:α->Prop):Prop:=∃v,x=some v/\Q v
section
variable {α β:Type} {Q:α->Prop}
theorem Ok.mk {v:α} (h:Q v):Ok (some v) Q:=⟨v,rfl,h⟩
theorem Ob {P:β->Prop} {x:Option β} {k:β->Option α} (h:Ok x P) (hk:∀v,P v->Ok (k v) Q):Ok (x.bind k) Q:=by
 obtain⟨v,rfl,hv⟩:=h
 exact hk v hv
theorem Oi {c:Prop} [Decidable c] {a b:Option α} (h1:c->Ok a Q) (h2:¬c->Ok b Q):Ok (if c then a else b) Q:=by
 split
 .rename_i h;exact h1 h
 .rename_i h;exact h2 h
theorem Ok.mono {P:α->Prop} {x:Option α} (h:Ok x P) (a:∀v,P v->Q v):Ok x Q:=by
 obtain⟨v,h1,h2⟩:=h
 exact⟨v,h1,a v h2⟩
theorem Ok.ex {x:Option α} (h:Ok x Q):∃v,x=some v:=by
 obtain⟨v,h1,_⟩:=h
 exact⟨v,h1⟩
theorem eB {S E:Type} {body:S->Option (S⊕E)} {Q:E->Prop} (I:S->Prop) (μ:S->Nat)
  (h:∀s,I s->Ok (body s) (fun r=>match r with|.inl s'=>I s'/\μ s'<μ s|.inr e=>Q e)):∀(n:Nat) (s:S),I s->μ s<n->Ok (aO body n s) Q
 |0,s,_,hn=>by omega
 |n+1,s,hi,hn=>by
  obtain⟨r,h1,h2⟩:=h s hi
  simp only[aO,h1,nC1]
  cases r with
  |inl s'=>exact eB I μ h n s' h2.1 (by have:=h2.2;omega)
  |inr e=>exact .mk h2
end
theorem bA {n:Int} (h1: -9223372036854775808<=n) (h2:n<9223372036854775808):w64 n=n:=by
 have e:w64 n=if n%18446744073709551616>=9223372036854775808 then n%18446744073709551616-18446744073709551616 else n%18446744073709551616:=by
  unfold w64 IntKind.wrap
  rw[show((2:Int)^IntKind.bits .i64)=18446744073709551616 from rfl,show((2:Int)^(IntKind.bits .i64-1))=9223372036854775808 from rfl]
  simp[IntKind.signed]
 rw[e]
 split<;>omega
theorem bD {A:Type} {l:List A} {i:Int} {Q:A->Prop} (h0:0<=i) (h1:i<(l.length:Int)) (h:∀x,x∈l->l[i.toNat]? =some x->Q x):Ok (lget l i) Q:=by
 unfold lget
 rw[mZ1 h0]
 have hi:i.toNat<l.length:=by omega
 exact⟨l[i.toNat],by simp[hi],h _ (pK1 hi) (by simp[hi])⟩
end Go.P
set_option maxRecDepth 100000
namespace Go.P
def idxF {A:Type} (l:List A) (g:A->Option Bool):Option Int:=
 (aO (E:=Int⊕Unit) (fun(a:Int)=>
  if(decide (a<(l.length:Int)))then
   (lget l a).bind fun d=>
   (g d).bind fun b=>
   if b then
    some (.inr (.inl a))
   else
   some (.inl (w64 (a+1)))
  else
  some (.inr (.inr ()))) B64 0).bind fun c=>
 match c with
 |.inl x_7=>
  some x_7
 |.inr _=>
  some (-1)
theorem iU1 {A:Type} {l:List A} {g:A->Option Bool} (hl:l.length<9223372036854775808) (hg:∀x∈l,∃b,g x=some b):Ok (idxF l g) (fun v=>(v= -1/\∀x∈l,g x=some false)\/(0<=v/\v<l.length/\∃x,l[v.toNat]? =some x/\g x=some true)):=by
 unfold idxF
 refine Ob (P:=fun r=>match r with|.inl v=>0<=v/\v<l.length/\∃x,l[v.toNat]? =some x/\g x=some true|.inr _=>∀x∈l,g x=some false)
  (eB (S:=Int) (fun i=>0<=i/\i<=l.length/\∀j,j<i.toNat->∀x,l[j]? =some x->g x=some false) (fun i=>l.length-i.toNat) (fun i hi=>?_) B64 0 ⟨by omega,by omega,fun j c=>by simp at c⟩ (by simp[B64];omega)) fun r hr=>?_
 .obtain ⟨h0,h1,h2⟩:=hi
  refine Oi (fun hc=>?_) (fun hc=>?_)
  .simp only[nA1]at hc
   refine Ob (bD (Q:=fun x=>x∈l/\l[i.toNat]? =some x) h0 hc (fun x a b=>⟨a,b⟩)) fun x d=>?_
   obtain⟨b,hb⟩:=hg x d.1
   rw[hb]
   cases b with
   |true=>exact .mk ⟨h0,hc,x,d.2,hb⟩
   |false=>
    rw[nC1,bA (by omega) (by omega)]
    refine .mk ⟨⟨by omega,by omega,fun j c y hy=>?_⟩,by omega⟩
    by_cases e:j=i.toNat
    .subst e
     rw[d.2]at hy;cases hy;exact hb
    .exact h2 j (by omega) y hy
  .simp only[nA1]at hc
   refine .mk (fun x d=>?_)
   obtain⟨j,c⟩:=nJ1.1 d
   have:=(mS1.1 c).1
   exact h2 j (by omega) x c
 .cases r with
  |inl v=>exact .mk (.inr hr)
  |inr u=>exact .mk (.inl ⟨rfl,hr⟩)
end Go.P
namespace Go.P
structure Zy.b (x:Zy):Prop where
 Text:x.Text.size<9223372036854775808
structure Ze.b (x:Ze):Prop where
 Heads:x.Heads.length<9223372036854775808
 Graces:x.Graces.length<9223372036854775808
 Lyrics:x.Lyrics.length<9223372036854775808
 LyricsE:∀y∈x.Lyrics,y.b
structure Zo.b (x:Zo):Prop where
 Events:x.Events.length<9223372036854775808
 EventsE:∀y∈x.Events,y.b
 Tuplets:x.Tuplets.length<9223372036854775808
structure Zw.b (x:Zw):Prop where
 Clefs:x.Clefs.length<9223372036854775808
 Voices:x.Voices.length<9223372036854775808
 VoicesE:∀y∈x.Voices,y.b
structure Zm.b (x:Zm):Prop where
 Rehearsal:x.Rehearsal.size<9223372036854775808
 Tempi:x.Tempi.length<9223372036854775808
 Cells:x.Cells.length<9223372036854775808
 CellsE:∀y∈x.Cells,y.b
structure Zj.b (x:Zj):Prop where
 Name:x.Name.size<9223372036854775808
 Staves:x.Staves.length<9223372036854775808
structure Z0.b (x:Z0):Prop where
 Title:x.Title.size<9223372036854775808
 Parts:x.Parts.length<9223372036854775808
 PartsE:∀y∈x.Parts,y.b
 Measures:x.Measures.length<9223372036854775808
 MeasuresE:∀y∈x.Measures,y.b
 Spanners:x.Spanners.length<9223372036854775808
 Last:x.Last.length<9223372036854775808
structure Zy.sm (x:Zy):Prop where
 Text:x.Text.size<=300
structure Ze.sm (x:Ze):Prop where
 Heads:x.Heads.length<=12
 Graces:x.Graces.length<=12
 Lyrics:x.Lyrics.length<=12
 LyricsE:∀y∈x.Lyrics,y.sm
structure Zo.sm (x:Zo):Prop where
 Events:x.Events.length<=20
 EventsE:∀y∈x.Events,y.sm
 Tuplets:x.Tuplets.length<=6
structure Zw.sm (x:Zw):Prop where
 Clefs:x.Clefs.length<=8
 Voices:x.Voices.length<=3
 VoicesE:∀y∈x.Voices,y.sm
structure Zm.sm (x:Zm):Prop where
 Rehearsal:x.Rehearsal.size<=300
 Tempi:x.Tempi.length<=8
 Cells:x.Cells.length<=5
 CellsE:∀y∈x.Cells,y.sm
structure Zj.sm (x:Zj):Prop where
 Name:x.Name.size<=300
 Staves:x.Staves.length<=5
structure Z0.sm (x:Z0):Prop where
 Title:x.Title.size<=300
 Parts:x.Parts.length<=4
 PartsE:∀y∈x.Parts,y.sm
 Measures:x.Measures.length<=10
 MeasuresE:∀y∈x.Measures,y.sm
 Spanners:x.Spanners.length<=10
 Last:x.Last.length<=5
end Go.P
namespace Go.P
end Go.P
namespace Go.P
theorem bE {A S E:Type} {l:List A} {body:S->Option (S⊕E)} {Q:E->Prop} {s0:S} (a:S->Int) (I:Nat->S->Prop) (hl:l.length<9223372036854775808) (h0:a s0=0) (f:I 0 s0)
  (h:∀(i:Nat) (x:A) (s:S),l[i]? =some x->x∈l->a s=(i:Int)->a s<(l.length:Int)->I i s->lget l (a s)=some x->w64 (a s+1)=(i:Int)+1->Ok (body s) (fun r=>match r with|.inl s'=>a s'=(i:Int)+1/\I (i+1) s'|.inr e=>Q e))
  (b:∀s,a s=(l.length:Int)->I l.length s->Ok (body s) (fun r=>match r with|.inl _=>False|.inr e=>Q e)):Ok (aO body B64 s0) Q:=by
 have hl:l.length<9223372036854775808:=hl
 refine eB (fun s=>0<=a s/\a s<=l.length/\I (a s).toNat s) (fun s=>l.length-(a s).toNat) (fun s hi=>?_) B64 s0 ⟨by omega,by omega,by rw[h0];exact f⟩ (by simp[B64];omega)
 obtain⟨g,m,d⟩:=hi
 by_cases c:a s<(l.length:Int)
 .have hi:(a s).toNat<l.length:=by omega
  have hc:(((a s).toNat:Nat):Int)=a s:=by omega
  have hg:lget l (a s)=some l[(a s).toNat]:=by unfold lget;rw[mZ1 g];simp[hi]
  refine(h (a s).toNat l[(a s).toNat] s (by simp[hi]) (pK1 hi) hc.symm c d hg (by rw[bA (by omega) (by omega)];omega)).mono fun r hr=>?_
  cases r with
  |inl s'=>
   obtain⟨k,e2⟩:=hr
   refine⟨⟨by omega,by omega,?_⟩,by omega⟩
   rw[show(a s').toNat=(a s).toNat+1 by omega]
   exact e2
  |inr e=>exact hr
 .refine (b s (by omega) ?_).mono fun r hr=>?_
  .rw [show(a s).toNat=l.length by omega]at d;exact d
  .cases r with
   |inl j=>exact hr.elim
   |inr e=>exact hr
theorem dF {A:Type} {g:Bool} {l:List A} {x:A} (h:l.length<1073741824) {Q:List A->Prop} (a:Q (l++[x])):Ok (lapp g l [x]) Q:=by
 unfold lapp
 have e:Sim.maxRoom=1073741824:=rfl
 rw[mZ1 ⟨by rw[e,oB1,mX1];omega,fun _=>mU1 _⟩]
 exact .mk a
theorem U101 {w:Bool} {id:Zz} {l:List Zv} {s:Z0} {r:Int} (h:l.length<1000000):Ok (Fn103 w id l s r) (fun v=>v.length<=l.length+1):=by
 unfold Fn103
 refine Ob (P:=fun v=>v.length<=l.length+1) (Oi (fun _=>Ob (dF (Q:=fun v=>v.length<=l.length+1) (by omega) (by simp)) fun v hv=>.mk hv) (fun _=>.mk (by omega))) fun v hv=>.mk hv
theorem E103 (n a b:Int):F105 n a b=some (decide (n>=a)&&decide (n<=b)):=rfl
theorem E104 (i:Zl):F106 i=some (if((((decide (i.Steps<(-77)))||(decide (i.Steps>77)))||(decide (i.Semitones<(-140))))||(decide (i.Semitones>140)))then 2 else 0):=by
 unfold F106;split<;>rfl
theorem U102 {s:ByteArray} (h:s.size<9223372036854775808):Ok (F104 s) (fun _=>True):=by
 unfold F104
 refine Ob (P:=fun _=>True) (Oi (fun _=>?_) (fun _=>.mk trivial)) fun v hv=>.mk hv
 have:Ok (F173 s.data.toList) (fun _=>True):=by
  unfold F173
  refine Ob (iU1 (l:=s.data.toList) (g:=fun b=>F172 (b.toNat:Int)) (by rw[qE1];exact h) (fun x _=>⟨_,rfl⟩)) fun v hv=>.mk trivial
 exact Ob this fun v hv=>.mk trivial
end Go.P
namespace Go.P
section
variable {α β:Type} {Q:α->Prop}
theorem Ok.bindE {P:β->Prop} {x:Option β} {k:β->Option α} (h:Ok x P) (hk:∀v,x=some v->P v->Ok (k v) Q):Ok (x.bind k) Q:=by
 obtain⟨v,rfl,hv⟩:=h
 exact hk v rfl hv
theorem Ok.of {x:Option α} (h:Ok x Q) {v:α} (hv:x=some v):Q v:=by
 obtain⟨w,h1,h2⟩:=h
 rw[h1]at hv;cases hv;exact h2
theorem oP {k:IntKind} {a b:Int} (h:b≠0):Ok (quoO k a b) (fun v=>v=k.wrap (a.tdiv b)):=by
 unfold quoO;rw[nB1 h];exact .mk rfl
theorem vZ {k:IntKind} {a b:Int} (h:b≠0):Ok (remO k a b) (fun v=>v=a.tmod b):=by
 unfold remO;rw[nB1 h];exact .mk rfl
theorem oQ {k:IntKind} {a b:Int} (h:0<=b):Ok (shrO k a b) (fun v=>v=a.fdiv (2^min b.toNat k.bits)):=by
 unfold shrO;rw[nB1 (by omega)];exact .mk rfl
theorem cV1 {k:IntKind} {a b:Int} (h:0<=b):Ok (shlO k a b) (fun _=>True):=by
 unfold shlO;rw[nB1 (by omega)];exact .mk trivial
end
section
variable {A:Type} {l:List A}
theorem bK {i:Int} (h0:0<=i) (h1:i<(l.length:Int)):Ok (lidx l i) (fun v=>v=i.toNat/\v<l.length):=by
 unfold lidx vH;rw[mZ1 ⟨h0,h1⟩];exact .mk ⟨rfl,by omega⟩
theorem bO {j:Nat} (h:j<l.length):Ok (lnth l j) (fun x=>l[j]? =some x/\x∈l):=by
 unfold lnth;rw[nX1 h];exact .mk ⟨rfl,pK1 h⟩
theorem cW1 {j:Nat} {f:A->A} (h:j<l.length):Ok (lput l j f) (fun m=>m.length=l.length):=by
 unfold lput;rw[nX1 h];exact .mk (by simp)
theorem mH {n c:Int} {z:A} (h0:0<=n) (h1:n<=c) (h2:c<=1073741824):Ok (uC n c z) (fun v=>v=List.replicate n.toNat z):=by
 unfold uC;rw[mZ1 ⟨h0,h1,h2⟩];exact .mk rfl
theorem uF {a b:Int} (h0:0<=a) (h1:a<=b) (h2:b<=(l.length:Int)):Ok (dU l a b) (fun v=>v.length<=l.length/\∀x∈v,x∈l):=by
 unfold dU;rw[mZ1 ⟨h0,h1,h2⟩]
 exact .mk ⟨by simp;omega,fun x c=>List.mem_of_mem_drop (pR1 c)⟩
theorem cX1 {h:Int} (_:0<l.length) (h1:0<=h) (h2:h<=(l.length:Int)):Ok (lQ l h) (fun v=>v.length=h.toNat/\∀x∈v,x∈l):=by
 unfold lQ;rw[mZ1 ⟨h1,h2⟩]
 exact .mk ⟨by simp;omega,fun x a=>pR1 a⟩
theorem dC {i:Int} {x:A} (h:lget l i=some x):0<=i/\i<(l.length:Int)/\x∈l/\l[i.toNat]? =some x:=by
 unfold lget at h
 split at h
 .obtain ⟨hi,_⟩:=mS1.1 h
  exact⟨by omega,by omega,mY1 h,h⟩
 .cases h
end
theorem oR {s:ByteArray} {i:Int} (h0:0<=i) (h1:i<(s.size:Int)):Ok (lI s i) (fun v=>0<=v/\v<=255):=by
 unfold lI;rw[mZ1 h0]
 have h:i.toNat<s.data.toList.length:=by rw[qE1];show i.toNat<s.size;omega
 rw[nX1 h]
 have:=(s.data.toList[i.toNat]).toNat_lt
 exact .mk ⟨by dsimp only;omega,by dsimp only;omega⟩
theorem gD {A:Type} {l:List A} (h:l.length<=1073741824):gS l=some l:=by
 unfold gS
 rw[Nat.ble_eq_true_of_le h];rfl
theorem nm:(∀a b:Bool,((a||b)=true)=(a=true\/b=true))/\(∀a b:Bool,((a&&b)=true)=(a=true/\b=true))/\(∀b:Bool,((!b)=true)=(b=false))/\(∀(p:Prop) [Decidable p],(decide p=true)=p)/\
  (∀(p:Prop) [Decidable p],(decide p=false)=¬p)/\(∀p q:Prop,(¬(p\/q))=(¬p/\¬q))/\(∀p q:Prop,(¬(p/\q))=(p->¬q))/\(∀b:Bool,(¬b=true)=(b=false))/\(∀a b:Int,((a !=b)=true)=¬a=b)/\
  (∀a b:Int,((a==b)=true)=(a=b))/\(∀p:Prop,(¬¬p)=p):=
 ⟨fun a b=>by simp,fun a b=>by simp,fun b=>by simp,fun p _=>by simp,fun p _=>by simp,fun p q=>by simp,fun p q=>by simp,fun b=>by simp,fun a b=>by simp,fun a b=>by simp,fun p=>by simp⟩
theorem nl {A:Type}:(∀(a:A) (l:List A),(a::l).length=l.length+1)/\([]:List A).length=0:=⟨fun _ _=>rfl,rfl⟩
theorem nt:(∀[Decidable True],decide True=true)/\(∀(α:Type) [Decidable True] (a b:α),(if True then a else b)=a)/\∀(α β:Type) (a:α) (f:α->Option β),(some a).bind f=f a:=⟨pJ1 _,fun _ _ _ _=>nU1 ..,fun _ _ _ _=>rfl⟩
theorem nf:(∀a:Int,(a<a)=False)/\(∀[Decidable False],decide False=false)/\((false=true)=False)/\∀(α:Type) [Decidable False] (a b:α),(if False then a else b)=b:=⟨fun a=>by simp,decide_false _,by simp,fun _ _ _ _=>oI1 ..⟩
theorem obT {α β:Type} {Q:α->Prop} {x:Option β} {k:β->Option α} (h:Ok x fun _=>True) (hk:∀v,Ok (k v) Q):Ok (x.bind k) Q:=Ob h fun v _=>hk v
theorem lpT {A S E β:Type} {l:List A} {body:S->Option (S⊕E)} {s0:S} {k:E->Option β} {Q:β->Prop} (a:S->Int) (hl:l.length<9223372036854775808) (h0:a s0=0)
  (h:∀(i:Nat) (x:A) (s:S),x∈l->a s=(i:Int)->a s<(l.length:Int)->lget l (a s)=some x->w64 (a s+1)=(i:Int)+1->Ok (body s) (fun r=>match r with|.inl s'=>a s'=(i:Int)+1|.inr _=>True))
  (b:∀s,a s=(l.length:Int)->Ok (body s) (fun r=>match r with|.inl _=>False|.inr _=>True)) (hk:∀e,Ok (k e) Q):Ok ((aO body B64 s0).bind k) Q:=
 obT (bE (l:=l) a (fun _ _=>True) hl h0 trivial (fun i x s _ d hi c _ hg hw=>(h i x s d hi c hg hw).mono fun r hr=>by cases r with|inl s'=>exact⟨hr,trivial⟩|inr e=>trivial) (fun s hi _=>b s hi)) hk
theorem fO1 {s:ByteArray} {n:Nat} (h:s.size<=n):s.data.toList.length<=n:=by rw[qE1];exact h
theorem gP1 (n:Int): -9223372036854775808<=w64 n/\w64 n<=9223372036854775807:=by
 have e:w64 n=if n%18446744073709551616>=9223372036854775808 then n%18446744073709551616-18446744073709551616 else n%18446744073709551616:=by
  unfold w64 IntKind.wrap
  rw[show((2:Int)^IntKind.bits .i64)=18446744073709551616 from rfl,show((2:Int)^(IntKind.bits .i64-1))=9223372036854775808 from rfl]
  simp[IntKind.signed]
 rw[e]
 split<;>omega
theorem fS {S E:Type} {body:S->Option (S⊕E)} {Q:E->Prop} {s0:S} (d:S->Int) (N:Int) (I:S->Prop) (g:N<=9223372036854775807) (h0: -1000<=d s0) (f:I s0)
  (h:∀s,I s->d s0<=d s->(d s<N->w64 (d s+1)=d s+1)->Ok (body s) (fun r=>match r with|.inl s'=>d s<N/\d s'=d s+1/\I s'|.inr e=>Q e)):Ok (aO body B64 s0) Q:=by
 refine eB (fun s=>I s/\d s0<=d s) (fun s=>(N-d s).toNat) (fun s hs=>?_) B64 s0 ⟨f,oS1 _⟩ (by simp only[B64];omega)
 refine(h s hs.1 hs.2 (fun hc=>bA (by omega) (by omega))).mono fun r hr=>?_
 cases r with
 |inl s'=>obtain⟨a,b,c⟩:=hr;exact⟨⟨c,by omega⟩,by omega⟩
 |inr e=>exact hr
theorem S101 {w:Bool} {id:Zz} {l:List Zv} {s:Z0} {r:Int} (h:l.length<1000000):Ok (Fn103 w id l s r) (fun v=>(w=true->v.length=l.length+1)/\(w=false->v.length=l.length)):=by
 unfold Fn103
 refine Ob (P:=fun v=>(w=true->v.length=l.length+1)/\(w=false->v.length=l.length)) (Oi (fun h=>Ob (dF (Q:=fun v=>v.length=l.length+1) (by omega) (by simp)) fun v hv=>.mk ⟨fun _=>hv,fun h2=>by rw[h]at h2;cases h2⟩) (fun h=>.mk ⟨fun h2=>absurd h2 h,fun _=>rfl⟩)) fun v hv=>.mk hv
theorem lQ1 (n:Int):0<=IntKind.wrap .u8 n/\IntKind.wrap .u8 n<256:=by
 unfold IntKind.wrap
 rw[show((2:Int)^IntKind.bits .u8)=256 from rfl]
 simp[IntKind.signed]
 omega
theorem U59b {l:List Zv} {s:Z0} {r:Int} (hs:s.sm) (h0:s.Measures.length=0) (h:l.length<900000):Ok (Fn47 l s r) (fun v=>0<v.length):=by
 unfold Fn47
 have hp:=hs.Parts
 refine Ob (P:=fun v=>v.length<=l.length+4) (bE (l:=s.Parts) (fun q=>q.1) (fun i q=>q.2.length<=l.length+i) (by omega) rfl (by simp) (fun i x q m f hi e d hg hw=>?_) (fun q hi d=>?_)) fun v1 h1=>?_
 .obtain ⟨k,j⟩:=q
  have g:=hs.PartsE x f
  have n:=g.Name
  simp only at hi e d hg hw
  simp only[e,pJ1,nU1,hg,nC1,E103,E104]
  refine Ob (U102 (by omega)) fun a _=>?_
  refine Ob (P:=fun _=>True) (by split<;>exact .mk trivial) fun b _=>?_
  refine Ob (P:=fun _=>True) (by split<;>exact .mk trivial) fun c _=>?_
  refine Ob (U101 (by omega)) fun v hv=>.mk ⟨hw,by dsimp only;omega⟩
 .obtain ⟨k,j⟩:=q
  simp only at hi d
  simp only[hi,Int.lt_irrefl,decide_false,nD1,oI1]
  exact .mk (by omega)
 refine Ob (P:=fun v=>v.length<=l.length+4) (bE (l:=s.Measures) (fun q=>q.1) (fun i q=>q.2.length<=l.length+4) (by omega) rfl h1 (fun i x q m f hi e d hg hw=>by omega) (fun q hi d=>?_)) fun v1 h1=>?_
 .obtain ⟨k,j⟩:=q
  simp only at hi d
  simp only[hi,Int.lt_irrefl,decide_false,nD1,oI1]
  exact .mk d
 have o:=hs.Title
 refine Ob (U102 (by omega)) fun a _=>?_
 simp only[E103,nC1]
 refine Ob (P:=fun _=>True) (by split<;>exact .mk trivial) fun b _=>?_
 refine Ob (P:=fun r=>r=true) (Oi (fun _=>.mk rfl) (fun _=>.mk (by simp[h0]))) fun c hc=>?_
 subst hc
 simp only[Bool.true_or]
 refine Ob (S101 (by omega)) fun v hv=>.mk (by have:=hv.1 rfl;omega)
def Zu.ok (n:Int) (t:Zu):Prop:=1<=t.Count/\t.Count<=n/\0<=t.First/\t.First+t.Count<=n/\1<=t.Actual/\t.Actual<=32/\1<=t.Normal/\t.Normal<=32
def Z0.pl (s:Z0) (m c v:Int):Prop:=∃x y z,lget s.Measures m=some x/\lget x.Cells c=some y/\lget y.Voices v=some z
theorem og {A α V:Type} (l:List A) (v:List V) (K k:Nat) {body:Int×List V->Option ((Int×List V)⊕List V)} {m:List V->Option α} {Q:α->Prop} (hl:l.length<9223372036854775808)
  (h:∀(i:Nat) (x:A) (s:Int×List V),l[i]? =some x->x∈l->s.1=(i:Int)->s.1<(l.length:Int)->(v.length<=s.2.length/\s.2.length<=v.length+i*k)->lget l s.1=some x->w64 (s.1+1)=(i:Int)+1->Ok (body s) (fun r=>match r with|.inl s'=>s'.1=(i:Int)+1/\v.length<=s'.2.length/\s'.2.length<=v.length+(i+1)*k|.inr e=>v.length<=e.length/\e.length<=v.length+K))
  (j:∀s,s.1=(l.length:Int)->(v.length<=s.2.length/\s.2.length<=v.length+l.length*k)->Ok (body s) (fun r=>match r with|.inl _=>False|.inr e=>v.length<=e.length/\e.length<=v.length+K))
  (hk:∀r,(v.length<=r.length/\r.length<=v.length+K)->Ok (m r) Q):Ok ((aO body B64 (0,v)).bind m) Q:=
 Ob (P:=fun r=>v.length<=r.length/\r.length<=v.length+K) (bE (l:=l) (fun q=>q.1) (fun i q=>v.length<=q.2.length/\q.2.length<=v.length+i*k) hl rfl ⟨mU1 _,by dsimp only;omega⟩ (fun i x s a b c d e f g=>(h i x s a b c d e f g).mono fun r hr=>by cases r<;>exact hr) (fun s a b=>(j s a b).mono fun r hr=>by cases r<;>exact hr)) hk
end Go.P
set_option maxHeartbeats 2000000
namespace Go.P
theorem T172 {a:Int}:Ok (F172 a) (fun _=>True):=by
 unfold F172
 exact .mk trivial
theorem T234 {f:List UInt8} (a:f.length<=300):Ok (F234 f) (fun _=>True):=by
 unfold F234
 have g:=a
 refine lpT (l:=f) (fun q=>q) (mT1 a (by decide)) rfl (fun m k i h b d c e=>?_) (fun i b=>?_) fun j=>?_
 .simp only[d,c,nt]
  refine obT (T172) fun n=>?_
  refine Oi (fun c13=>?_) (fun c13=>?_)
  .exact .mk trivial
  exact .mk e
 .simp only[b,nf]
  exact .mk trivial
 rcases j with o|_
 .exact .mk trivial
 .exact .mk trivial
theorem T173 {b:List UInt8} (a:b.length<=300):Ok (F173 b) (fun _=>True):=by
 unfold F173
 refine obT (T234 a) fun c=>?_
 exact .mk trivial
theorem T104 {b:ByteArray} (a:b.size<=300):Ok (F104 b) (fun _=>True):=by
 unfold F104
 refine Ob (P:=fun r=>r=true->(decide ((b.size:Int)<=256))=true) ?_ fun e c=>?_
 .refine Oi (fun c16=>?_) (fun _=>.mk (fun h=>by cases h))
  refine obT (T173 (fO1 a)) fun d=>?_
  exact .mk (fun _=>c16)
 exact .mk trivial
theorem T105 {a b c:Int}:Ok (F105 a b c) (fun _=>True):=by
 unfold F105
 exact .mk trivial
theorem T106 {a:Zl}:Ok (F106 a) (fun _=>True):=by
 unfold F106
 refine Oi (fun c18=>?_) (fun c18=>?_)
 .exact .mk trivial
 exact .mk trivial
theorem Tn103 {b:Bool} {f:Zz} {a:List Zv} {c:Z0} {g:Int} (d:a.length+1<=1000000) (e:c.sm):Ok (Fn103 b f a c g) (fun v=>a.length<=v.length/\v.length<=a.length+1):=by
 exact(S101 (by omega)).mono fun v h=>by cases b<;>simp at h<;>omega
theorem Tn47 {E:List Zv} {F:Z0} {x3:Int} (d1:E.length+15<=1000000) (a:F.sm):Ok (Fn47 E F x3) (fun v=>E.length<=v.length/\v.length<=E.length+15):=by
 unfold Fn47
 have b0:=a.Parts
 refine og F.Parts E 4 1 (mT1 a.Parts (by decide)) (fun d7 b9 q30 b7 A c o g m u=>?_) (fun q30 c g=>?_) fun S z19=>?_
 .obtain ⟨M,N⟩:=q30
  dsimp only at c o m u g
  simp only[o,m,nt]
  have L:=a.PartsE _ A
  refine obT (T104 L.Name) fun O=>?_
  refine Ob (P:=fun r=>¬r=true->¬(!O)=true) ?_ fun R J=>?_
  .refine Oi (fun _=>.mk (fun h=>absurd rfl h)) (fun c35=>?_)
   refine obT (T105) fun e5=>?_
   exact .mk (fun _=>c35)
  refine Ob (P:=fun r=>¬r=true->¬R=true) ?_ fun e7 d2=>?_
  .refine Oi (fun _=>.mk (fun h=>absurd rfl h)) (fun c38=>?_)
   have e1:=J c38
   refine obT (T106) fun e6=>?_
   exact .mk (fun _=>c38)
  refine Ob (Tn103 (by first|omega|(simp only[mX1]at *;omega)) a) fun e8 d3=>?_
  exact .mk ⟨u,by dsimp only;omega⟩
 .obtain ⟨M,N⟩:=q30
  dsimp only at c g
  simp only[c,nf]
  exact .mk (by dsimp only;omega)
 have b4:=a.Measures
 refine og F.Measures S 10 1 (mT1 a.Measures (by decide)) (fun d8 G q53 b8 B d p i b w=>?_) (fun q53 d i=>?_) fun f3 z42=>?_
 .obtain ⟨T,U⟩:=q53
  dsimp only at d p b w i
  simp only[p,b,nt]
  have k:=a.MeasuresE _ B
  refine obT (T104 k.Rehearsal) fun e9=>?_
  have b5:=k.Cells
  refine lpT (l:=G.Cells) (fun q=>q.2) (mT1 k.Cells (by decide)) rfl (fun d9 H q67 C e s j x=>?_) (fun q67 e=>?_) fun f1=>?_
  .obtain ⟨V,W⟩:=q67
   dsimp only at e s j x
   simp only[s,b,j,nt]
   have z:=k.CellsE _ C
   have b6:=z.Voices
   refine lpT (l:=H.Voices) (fun q=>q.2) (mT1 z.Voices (by decide)) rfl (fun e0 d0 q80 D f t n y=>?_) (fun q80 f=>?_) fun f0=>?_
   .obtain ⟨X,Y⟩:=q80
    dsimp only at f t n y
    simp only[t,b,j,n,nt]
    have e4:=z.VoicesE _ D
    exact .mk y
   .obtain ⟨X,Y⟩:=q80
    dsimp only at f
    simp only[f,nf]
    exact .mk trivial
   exact .mk x
  .obtain ⟨V,W⟩:=q67
   dsimp only at e
   simp only[e,nf]
   exact .mk trivial
  refine Ob (Tn103 (by first|omega|(simp only[mX1]at *;omega)) a) fun f2 d4=>?_
  exact .mk ⟨w,by dsimp only;omega⟩
 .obtain ⟨T,U⟩:=q53
  dsimp only at d i
  simp only[d,nf]
  exact .mk (by dsimp only;omega)
 refine obT (T104 a.Title) fun Z=>?_
 refine Ob (P:=fun r=>¬r=true->¬(!Z)=true) ?_ fun a0 K=>?_
 .refine Oi (fun _=>.mk (fun h=>absurd rfl h)) (fun c86=>?_)
  refine obT (T105) fun f5=>?_
  exact .mk (fun _=>c86)
 refine Ob (P:=fun r=>¬r=true->¬a0=true) ?_ fun f7 d5=>?_
 .refine Oi (fun _=>.mk (fun h=>absurd rfl h)) (fun c89=>?_)
  have e3:=K c89
  refine obT (T105) fun f6=>?_
  exact .mk (fun _=>c89)
 refine Ob (Tn103 (by first|omega|(simp only[mX1]at *;omega)) a) fun f8 d6=>?_
 exact .mk (by omega)
theorem Tn80 {a:Z0} (b:a.sm):Ok (Fn80 a) (fun _=>True):=by
 unfold Fn80
 exact .mk trivial
theorem Ty107_5 {f h:Int} {i j:Int} {k l m:Int} {b:Zj} {a:List Zz} (c:b.sm) (e:a.length+1<=1000000):Ok (Fy107_5 f h i j k l m b a) (fun v=>v.length<=a.length+1):=by
 unfold Fy107_5
 refine Ob (dF (Q:=fun v=>v.length=a.length+1) (by omega) (by simp)) fun g d=>?_
 exact .mk (by omega)
theorem Ty107_5_2 {d f:Int} {g h:Int} {i j k:Int} {l:Zf} {a:List Zz} (c:a.length+1<=1000000):Ok (Fy107_5_2 d f g h i j k l a) (fun v=>v.length<=a.length+1):=by
 unfold Fy107_5_2
 refine Ob (dF (Q:=fun v=>v.length=a.length+1) (by omega) (by simp)) fun e b=>?_
 exact .mk (by omega)
theorem Ty107_5_3 {f h:Int} {i j:Int} {k l m:Int} {b:Zm} {a:List Zz} (c:b.sm) (e:a.length+1<=1000000):Ok (Fy107_5_3 f h i j k l m b a) (fun v=>v.length<=a.length+1):=by
 unfold Fy107_5_3
 refine Ob (dF (Q:=fun v=>v.length=a.length+1) (by omega) (by simp)) fun g d=>?_
 exact .mk (by omega)
theorem Ty107_5_4 {f h:Int} {i j:Int} {k l m:Int} {b:Ze} {a:List Zz} (c:b.sm) (e:a.length+1<=1000000):Ok (Fy107_5_4 f h i j k l m b a) (fun v=>v.length<=a.length+1):=by
 unfold Fy107_5_4
 refine Ob (dF (Q:=fun v=>v.length=a.length+1) (by omega) (by simp)) fun g d=>?_
 exact .mk (by omega)
theorem Ty107_5_5 {d f:Int} {g h:Int} {i j k:Int} {l:Zn} {a:List Zz} (c:a.length+1<=1000000):Ok (Fy107_5_5 d f g h i j k l a) (fun v=>v.length<=a.length+1):=by
 unfold Fy107_5_5
 refine Ob (dF (Q:=fun v=>v.length=a.length+1) (by omega) (by simp)) fun e b=>?_
 exact .mk (by omega)
theorem Tn159 {x1:Z0} {x2:List Zz} (k:x1.sm) (j6:x2.length+3044<=1000000):Ok (Fn159 x1 x2) (fun v=>v.length<=x2.length+3044):=by
 unfold Fn159
 have e6:=k.Parts
 refine Ob (P:=fun r=>r.length<=x2.length+24) (bE (l:=x1.Parts) (fun q=>q.2.1) (fun i q=>q.2.2.length<=x2.length+i*6) (mT1 k.Parts (by decide)) rfl (by dsimp only;omega) (fun j7 b7 q109 f3 a0 c C m w K=>?_) (fun q109 c m=>?_)) fun e1 k1=>?_
 .obtain ⟨g3,g4,g5⟩:=q109
  dsimp only at c C w K m
  simp only[C,w,nt]
  have T:=k.PartsE _ a0
  refine Ob (Ty107_5 T (by first|omega|(simp only[mX1]at *;omega))) fun e0 h3=>?_
  have e7:=T.Staves
  refine Ob (P:=fun r=>r.2.length<=e0.length+5) (bE (l:=b7.Staves) (fun q=>q.2.1) (fun i q=>q.2.2.length<=e0.length+i*1) (mT1 T.Staves (by decide)) rfl (by dsimp only;omega) (fun h8 g9 q125 f5 e4 d D n z L=>?_) (fun q125 d n=>?_)) fun⟨j9,k0⟩ e3=>?_
  .obtain ⟨g6,g7,g8⟩:=q125
   dsimp only at d D z L n
   simp only[D,w,z,nt]
   refine Ob (Ty107_5_2 (by first|omega|(simp only[mX1]at *;omega))) fun j8 h4=>?_
   exact .mk ⟨L,by dsimp only;omega⟩
  .obtain ⟨g6,g7,g8⟩:=q125
   dsimp only at d n
   simp only[d,nf]
   exact .mk (by dsimp only;omega)
  try dsimp only at e3
  exact .mk ⟨K,by dsimp only;omega⟩
 .obtain ⟨g3,g4,g5⟩:=q109
  dsimp only at c m
  simp only[c,nf]
  exact .mk (by dsimp only;omega)
 have e8:=k.Measures
 refine Ob (P:=fun r=>r.length<=e1.length+3010) (bE (l:=x1.Measures) (fun q=>q.1) (fun i q=>q.2.length<=e1.length+i*301) (mT1 k.Measures (by decide)) rfl (by dsimp only;omega) (fun h9 b8 q140 f6 b0 e E o a M=>?_) (fun q140 e o=>?_)) fun Z j1=>?_
 .obtain ⟨d2,d3⟩:=q140
  dsimp only at e E a M o
  simp only[E,a,nt]
  have y:=k.MeasuresE _ b0
  refine Ob (Ty107_5_3 y (by first|omega|(simp only[mX1]at *;omega))) fun Y h5=>?_
  have e9:=y.Cells
  refine Ob (P:=fun r=>r.length<=Y.length+300) (bE (l:=b8.Cells) (fun q=>q.1) (fun i q=>q.2.length<=Y.length+i*60) (mT1 y.Cells (by decide)) rfl (by dsimp only;omega) (fun i0 b9 q156 f7 b4 f F p b N=>?_) (fun q156 f p=>?_)) fun i7 j2=>?_
  .obtain ⟨d4,W⟩:=q156
   dsimp only at f F b N p
   simp only[F,a,b,nt]
   have U:=y.CellsE _ b4
   have f0:=U.Voices
   refine Ob (P:=fun r=>r.length<=W.length+60) (bE (l:=b9.Voices) (fun q=>q.1) (fun i q=>q.2.length<=W.length+i*20) (mT1 U.Voices (by decide)) rfl (by dsimp only;omega) (fun i1 d0 q171 f8 b5 g G s x O=>?_) (fun q171 g s=>?_)) fun i6 j3=>?_
   .obtain ⟨d5,X⟩:=q171
    dsimp only at g G x O s
    simp only[G,a,b,x,nt]
    have V:=U.VoicesE _ b5
    have f1:=V.Events
    refine Ob (P:=fun r=>r.length<=X.length+20) (bE (l:=d0.Events) (fun q=>q.1) (fun i q=>q.2.length<=X.length+i*1) (mT1 V.Events (by decide)) rfl (by dsimp only;omega) (fun i2 h0 q187 f9 b6 h H t A R=>?_) (fun q187 h t=>?_)) fun i5 j4=>?_
    .obtain ⟨d6,d7⟩:=q187
     dsimp only at h H A R t
     simp only[H,a,b,x,A,nt]
     have d1:=V.EventsE _ b6
     refine Ob (Ty107_5_4 d1 (by first|omega|(simp only[mX1]at *;omega))) fun i4 h6=>?_
     exact .mk ⟨R,by dsimp only;omega⟩
    .obtain ⟨d6,d7⟩:=q187
     dsimp only at h t
     simp only[h,nf]
     exact .mk (by dsimp only;omega)
    exact .mk ⟨O,by dsimp only;omega⟩
   .obtain ⟨d5,X⟩:=q171
    dsimp only at g s
    simp only[g,nf]
    exact .mk (by dsimp only;omega)
   exact .mk ⟨N,by dsimp only;omega⟩
  .obtain ⟨d4,W⟩:=q156
   dsimp only at f p
   simp only[f,nf]
   exact .mk (by dsimp only;omega)
  exact .mk ⟨M,by dsimp only;omega⟩
 .obtain ⟨d2,d3⟩:=q140
  dsimp only at e o
  simp only[e,nf]
  exact .mk (by dsimp only;omega)
 have f2:=k.Spanners
 refine Ob (P:=fun r=>r.length<=Z.length+10) (bE (l:=x1.Spanners) (fun q=>q.1) (fun i q=>q.2.length<=Z.length+i*1) (mT1 k.Spanners (by decide)) rfl (by dsimp only;omega) (fun i3 h2 q205 g1 e5 j J u B S=>?_) (fun q205 j u=>?_)) fun j0 j5=>?_
 .obtain ⟨d8,d9⟩:=q205
  dsimp only at j J B S u
  simp only[J,B,nt]
  refine Ob (Ty107_5_5 (by first|omega|(simp only[mX1]at *;omega))) fun i9 h7=>?_
  exact .mk ⟨S,by dsimp only;omega⟩
 .obtain ⟨d8,d9⟩:=q205
  dsimp only at j u
  simp only[j,nf]
  exact .mk (by dsimp only;omega)
 exact .mk (by omega)
theorem T107 {c:Z0} (a:c.sm):Ok (F107 c) (fun v=>v.length<=4000):=by
 unfold F107
 refine obT (Tn80 a) fun _=>?_
 refine Ob (Tn159 a (by first|omega|(simp only[mX1]at *;omega))) fun d b=>?_
 exact .mk (by simp only[mX1]at *;omega)
theorem T108 {b:Zz}:Ok (F108 b) (fun _=>True):=by
 unfold F108
 refine obT (T105) fun c=>?_
 refine Ob (P:=fun r=>r=true->c=true) ?_ fun e a=>?_
 .refine Oi (fun c212=>?_) (fun _=>.mk (fun h=>by cases h))
  refine obT (T105) fun d=>?_
  exact .mk (fun _=>c212)
 exact .mk trivial
theorem T82 {h:Z0} {k:Int} (e:h.sm):Ok (F82 h k) (fun _=>True):=by
 unfold F82
 have g:=e.Last
 refine lpT (l:=h.Last) (fun q=>q) (mT1 e.Last (by decide)) rfl (fun j i m f a c b d=>?_) (fun m a=>?_) fun n=>?_
 .simp only[c,b,nt]
  refine Oi (fun c225=>?_) (fun c225=>?_)
  .exact .mk trivial
  exact .mk d
 .simp only[a,nf]
  exact .mk trivial
 rcases n with o|_
 .exact .mk trivial
 .exact .mk trivial
theorem Tn48 {o:List Zv} {z:Z0} {x3:Int} (X:o.length+4001<=1000000) (c:z.sm):Ok (Fn48 o z x3) (fun v=>o.length<=v.length/\v.length<=o.length+4001):=by
 unfold Fn48
 refine Ob (T107 c) fun x4 n=>?_
 have D:=n
 refine Ob (P:=fun r=>o.length<=r.2.length/\r.2.length<=o.length+4000) (bE (l:=x4) (fun q=>q.1) (fun i q=>o.length<=q.2.2.length/\q.2.2.length<=o.length+i*1) (mT1 n (by decide)) rfl (by dsimp only;omega) (fun U p q238 G A a g d e k=>?_) (fun q238 a d=>?_)) fun⟨b0,b4⟩ y=>?_
 .obtain ⟨H,t,J⟩:=q238
  dsimp only at a g e k d
  simp only[g,e,nt]
  refine obT (T108) fun K=>?_
  refine Ob (P:=fun r=>¬r=true->¬((!K)||(mget t p false))=true) ?_ fun Z N=>?_
  .refine Oi (fun _=>.mk (fun h=>absurd rfl h)) (fun c242=>?_)
   refine obT (T82 c) fun Y=>?_
   exact .mk (fun _=>c242)
  refine Ob (Tn103 (by first|omega|(simp only[mX1]at *;omega)) c) fun a0 O=>?_
  exact .mk ⟨k,by dsimp only;omega⟩
 .obtain ⟨H,t,J⟩:=q238
  dsimp only at a d
  simp only[a,nf]
  exact .mk (by dsimp only;omega)
 try dsimp only at y
 have E:=c.Last
 refine lpT (l:=z.Last) (fun q=>q.2) (mT1 c.Last (by decide)) rfl (fun V M q255 B b j f m=>?_) (fun q255 b=>?_) fun b9=>?_
 .obtain ⟨u,w⟩:=q255
  dsimp only at b j f m
  simp only[j,f,nt]
  refine Ob (P:=fun r=>¬r=true->¬u=true) ?_ fun L s=>?_
  .refine Oi (fun _=>.mk (fun h=>absurd rfl h)) (fun c258=>?_)
   refine obT (T108) fun b5=>?_
   exact .mk (fun _=>c258)
  refine Ob (P:=fun r=>¬r=true->¬L=true) ?_ fun b8 R=>?_
  .refine Oi (fun _=>.mk (fun h=>absurd rfl h)) (fun c261=>?_)
   have W:=s c261
   refine Ob (P:=fun r=>r=true->(decide (w>0))=true) ?_ fun b7 S=>?_
   .refine Oi (fun c264=>?_) (fun _=>.mk (fun h=>by cases h))
    have F:=c.Last
    refine Ob (P:=fun x=>x∈z.Last) (bD (by(simp only[nm]at *;rw[bA (by omega) (by omega)];omega)) (by(simp only[nm]at *;rw[bA (by omega) (by omega)];omega)) (fun _ h _=>h)) fun b6 C=>?_
    exact .mk (fun _=>c264)
   exact .mk (fun _=>c261)
  exact .mk m
 .obtain ⟨u,w⟩:=q255
  dsimp only at b
  simp only[b,nf]
  exact .mk trivial
 refine Ob (Tn103 (by first|omega|(simp only[mX1]at *;omega)) c) fun d0 T=>?_
 exact .mk (by omega)
theorem T75 {b:Z0} (a:b.sm):Ok (F75 b) (fun v=>v<=9223372036854775807):=by
 unfold F75
 have hp:=a.Parts
 refine Ob (P:=fun v=>v<=9223372036854775807) (bE (l:=b.Parts) (fun q=>q.2) (fun i q=>q.1<=9223372036854775807) (by omega) rfl (by decide) (fun i e q f d hi hl _ hg hw=>?_) (fun q hi c=>?_)) fun v hv=>.mk hv
 .obtain ⟨n,x⟩:=q
  dsimp only at hi hl hg hw
  simp only[hl,hg,nt]
  exact .mk ⟨hw,(gP1 _).2⟩
 .obtain ⟨n,x⟩:=q
  dsimp only at hi c
  simp only[hi,nf]
  exact .mk c
theorem T110 {O:Int} {C:Zm} {W:Int} (m:C.sm):Ok (F110 O C W) (fun _=>True):=by
 unfold F110
 have v:=m.Cells
 refine lpT (l:=C.Cells) (fun q=>q.2) (mT1 m.Cells (by decide)) rfl (fun H e q279 n b g d j=>?_) (fun q279 b=>?_) fun V=>?_
 .obtain ⟨u,A⟩:=q279
  dsimp only at b g d j
  simp only[g,d,nt]
  have a:=m.CellsE _ n
  refine Ob (P:=fun r=>¬r=true->¬(u||((e.Voices.length:Int)==0))=true) ?_ fun B t=>?_
  .refine Oi (fun _=>.mk (fun h=>absurd rfl h)) (fun c283=>?_)
   have w:=a.Voices
   refine Ob (P:=fun x=>x∈e.Voices) (bD (by omega) (by(simp only[nm]at *;omega)) (fun _ h _=>h)) fun R o=>?_
   have L:=a.VoicesE _ o
   exact .mk (fun _=>c283)
  refine Ob (P:=fun r=>¬r=true->¬B=true) ?_ fun T G=>?_
  .refine Oi (fun _=>.mk (fun h=>absurd rfl h)) (fun c289=>?_)
   have K:=t c289
   have y:=a.Voices
   refine Ob (P:=fun x=>x∈e.Voices) (bD (by(simp only[nm]at *;rw[bA (by omega) (by omega)];omega)) (by(simp only[nm]at *;rw[bA (by omega) (by omega)];omega)) (fun _ h _=>h)) fun S p=>?_
   have M:=a.VoicesE _ p
   exact .mk (fun _=>c289)
  have z:=a.Voices
  refine lpT (l:=e.Voices) (fun q=>q.2) (mT1 a.Voices (by decide)) rfl (fun J F q305 s c i f k=>?_) (fun q305 c=>?_) fun U=>?_
  .obtain ⟨D,E⟩:=q305
   dsimp only at c i f k
   simp only[i,d,f,nt]
   have N:=a.VoicesE _ s
   exact .mk k
  .obtain ⟨D,E⟩:=q305
   dsimp only at c
   simp only[c,nf]
   exact .mk trivial
  exact .mk j
 .obtain ⟨u,A⟩:=q279
  dsimp only at b
  simp only[b,nf]
  exact .mk trivial
 exact .mk trivial
theorem Tn109 {r:Int} {i:List Zv} {l:Z0} {w:Int} (q:i.length+10<=1000000) (f:l.sm):Ok (Fn109 r i l w) (fun v=>i.length<=v.length/\v.length<=i.length+10):=by
 unfold Fn109
 have j:=f.Measures
 refine og l.Measures i 10 1 (mT1 f.Measures (by decide)) (fun o m q319 k g a d b c e=>?_) (fun q319 a b=>?_) fun u p=>?_
 .obtain ⟨x,y⟩:=q319
  dsimp only at a d c e b
  simp only[d,c,nt]
  have h:=f.MeasuresE _ g
  refine obT (T110 h) fun s=>?_
  refine Ob (Tn103 (by first|omega|(simp only[mX1]at *;omega)) f) fun t n=>?_
  exact .mk ⟨e,by dsimp only;omega⟩
 .obtain ⟨x,y⟩:=q319
  dsimp only at a b
  simp only[a,nf]
  exact .mk (by dsimp only;omega)
 exact .mk (by omega)
theorem Tn49 {b:List Zv} {e:Z0} {g:Int} (f:b.length+10<=1000000) (a:e.sm):Ok (Fn49 b e g) (fun v=>b.length<=v.length/\v.length<=b.length+10):=by
 unfold Fn49
 refine Ob (T75 a) fun h c=>?_
 refine Ob (Tn109 (by first|omega|(simp only[mX1]at *;omega)) a) fun i d=>?_
 exact .mk (by omega)
theorem T235:Ok (F235) (fun _=>True):=by
 unfold F235
 exact .mk trivial
theorem T174 {b:Int}:Ok (F174 b) (fun _=>True):=by
 unfold F174
 refine Oi (fun c326=>?_) (fun c326=>?_)
 .exact .mk trivial
 refine obT (T235) fun c=>?_
 refine Ob (bD (Q:=fun _=>True) (by(simp only[nm]at *;rw[bA (by omega) (by omega)];omega)) (by(simp only[nm,nl]at *;rw[bA (by omega) (by omega)];omega)) (fun _ _ _=>trivial)) fun d a=>?_
 exact .mk trivial
theorem T111 {a:Int}:Ok (F111 a) (fun _=>True):=by
 unfold F111
 refine obT (T174) fun⟨b,c⟩=>?_
 exact .mk trivial
theorem T258 {c:Zx}:Ok (F258 c) (fun _=>True):=by
 unfold F258
 refine Oi (fun _=>.mk trivial) (fun _=>?_)
 refine Ob (P:=fun _=>True) (fS (fun q=>q.2.2) 6 (fun _=>True) (by decide) (by decide) trivial (fun q _ h1 h2=>?_)) fun r _=>?_
 .obtain ⟨a,n,i⟩:=q
  dsimp only at h1 h2 ⊢
  refine Oi (fun hc=>?_) (fun _=>.mk trivial)
  simp only[nA1]at hc
  refine Ob (bD (Q:=fun _=>True) h1 hc (fun _ _ _=>trivial)) fun x _=>?_
  refine Oi (fun _=>.mk trivial) (fun _=>?_)
  refine Ob (P:=fun _=>True) (Oi (fun _=>.mk trivial) (fun _=>.mk trivial)) fun v _=>.mk ⟨hc,h2 hc,trivial⟩
 .rcases r with⟨a,b⟩|⟨a,b⟩<;>exact .mk trivial
theorem T236 {a:Zx}:Ok (F236 a) (fun v=>v=0->a.Unit≠0):=by
 unfold F236
 refine Oi (fun c330=>?_) (fun c330=>?_)
 .exact .mk (by omega)
 refine Oi (fun c331=>?_) (fun c331=>?_)
 .exact .mk (by omega)
 refine obT (T258) fun b=>?_
 refine Oi (fun c333=>?_) (fun c333=>?_)
 .exact .mk (by omega)
 exact .mk (by(simp only[nm]at *;omega))
theorem T259 {b:Zx} (c:b.Unit≠0):Ok (F259 b) (fun _=>True):=by
 unfold F259
 refine Ob (oP (by omega)) fun d a=>?_
 exact .mk trivial
theorem T237 {a:Zx} (b:a.Unit≠0):Ok (F237 a) (fun _=>True):=by
 unfold F237
 refine obT (T259 (by omega)) fun c=>?_
 exact .mk trivial
theorem T175 {b:Zx}:Ok (F175 b) (fun _=>True):=by
 unfold F175
 refine Ob (T236) fun c a=>?_
 refine Oi (fun c337=>?_) (fun c337=>?_)
 .exact .mk trivial
 refine obT (T237 (by(simp only[nm]at *;omega))) fun d=>?_
 exact .mk trivial
theorem T113 {b:Zm} (c:b.sm):Ok (F113 b) (fun _=>True):=by
 unfold F113
 refine obT (T175) fun⟨d,e⟩=>?_
 refine Oi (fun c340=>?_) (fun c340=>?_)
 .exact .mk trivial
 refine Oi (fun c341=>?_) (fun c341=>?_)
 .exact .mk trivial
 refine obT ?_ fun f=>?_
 .refine Oi (fun c343=>?_) (fun c343=>?_)
  .exact .mk trivial
  exact .mk trivial
 refine Ob (vZ (by omega)) fun g a=>?_
 refine Oi (fun c345=>?_) (fun c345=>?_)
 .exact .mk trivial
 refine Oi (fun c346=>?_) (fun c346=>?_)
 .exact .mk trivial
 exact .mk trivial
theorem T112 {O:Int} {B:Zm} (k:B.sm):Ok (F112 O B) (fun _=>True):=by
 unfold F112
 refine obT (T113 k) fun⟨Y,Z⟩=>?_
 have y:=k.Cells
 refine lpT (l:=B.Cells) (fun q=>q.2) (mT1 k.Cells (by decide)) rfl (fun K m q358 o a e c g=>?_) (fun q358 a=>?_) fun X=>?_
 .obtain ⟨C,D⟩:=q358
  dsimp only at a e c g
  simp only[e,c,nt]
  have j:=k.CellsE _ o
  have z:=j.Clefs
  refine lpT (l:=m.Clefs) (fun q=>q.2) (mT1 j.Clefs (by decide)) rfl (fun L G q371 v b f d i=>?_) (fun q371 b=>?_) fun W=>?_
  .obtain ⟨t,u⟩:=q371
   dsimp only at b f d i
   simp only[f,c,d,nt]
   refine Ob (P:=fun r=>¬r=true->¬t=true) ?_ fun E n=>?_
   .refine Oi (fun _=>.mk (fun h=>absurd rfl h)) (fun c374=>?_)
    refine obT (T111) fun R=>?_
    exact .mk (fun _=>c374)
   refine Ob (P:=fun r=>¬r=true->¬E=true) ?_ fun F p=>?_
   .refine Oi (fun _=>.mk (fun h=>absurd rfl h)) (fun c377=>?_)
    have M:=n c377
    refine obT (T105) fun S=>?_
    exact .mk (fun _=>c377)
   refine Ob (P:=fun r=>¬r=true->¬F=true) ?_ fun V H=>?_
   .refine Oi (fun _=>.mk (fun h=>absurd rfl h)) (fun c381=>?_)
    have s:=p c381
    have N:=n s
    refine Ob (P:=fun r=>r=true->(decide (u>0))=true) ?_ fun U J=>?_
    .refine Oi (fun c385=>?_) (fun _=>.mk (fun h=>by cases h))
     have A:=j.Clefs
     refine Ob (P:=fun x=>x∈m.Clefs) (bD (by(simp only[nm]at *;rw[bA (by omega) (by omega)];omega)) (by(simp only[nm]at *;rw[bA (by omega) (by omega)];omega)) (fun _ h _=>h)) fun T w=>?_
     exact .mk (fun _=>c385)
    exact .mk (fun _=>c381)
   exact .mk i
  .obtain ⟨t,u⟩:=q371
   dsimp only at b
   simp only[b,nf]
   exact .mk trivial
  exact .mk g
 .obtain ⟨C,D⟩:=q358
  dsimp only at a
  simp only[a,nf]
  exact .mk trivial
 exact .mk trivial
theorem Tn109_2 {i:List Zv} {l:Z0} {u:Int} (q:i.length+10<=1000000) (f:l.sm):Ok (Fn109_2 i l u) (fun v=>i.length<=v.length/\v.length<=i.length+10):=by
 unfold Fn109_2
 have j:=f.Measures
 refine og l.Measures i 10 1 (mT1 f.Measures (by decide)) (fun o m q400 k g a d b c e=>?_) (fun q400 a b=>?_) fun t p=>?_
 .obtain ⟨w,x⟩:=q400
  dsimp only at a d c e b
  simp only[d,c,nt]
  have h:=f.MeasuresE _ g
  refine obT (T112 h) fun r=>?_
  refine Ob (Tn103 (by first|omega|(simp only[mX1]at *;omega)) f) fun s n=>?_
  exact .mk ⟨e,by dsimp only;omega⟩
 .obtain ⟨w,x⟩:=q400
  dsimp only at a b
  simp only[a,nf]
  exact .mk (by dsimp only;omega)
 exact .mk (by omega)
theorem Tn50 {o:List Zv} {x:Z0} {O:Int} (H:o.length+30<=1000000) (f:x.sm):Ok (Fn50 o x O) (fun v=>o.length<=v.length/\v.length<=o.length+30):=by
 unfold Fn50
 have r:=f.Parts
 refine og x.Parts o 20 5 (mT1 f.Parts (by decide)) (fun D n q416 t m a h c e j=>?_) (fun q416 a c=>?_) fun M F=>?_
 .obtain ⟨w,p⟩:=q416
  dsimp only at a h e j c
  simp only[h,e,nt]
  have l:=f.PartsE _ m
  have s:=l.Staves
  refine og n.Staves p 5 1 (mT1 l.Staves (by decide)) (fun E A q430 u q b i d g k=>?_) (fun q430 b d=>?_) fun L G=>?_
  .obtain ⟨y,z⟩:=q430
   dsimp only at b i g k d
   simp only[i,e,g,nt]
   refine obT (T111) fun J=>?_
   refine Ob (Tn103 (by first|omega|(simp only[mX1]at *;omega)) f) fun K B=>?_
   exact .mk ⟨k,by dsimp only;omega⟩
  .obtain ⟨y,z⟩:=q430
   dsimp only at b d
   simp only[b,nf]
   exact .mk (by dsimp only;omega)
  exact .mk ⟨j,by dsimp only;omega⟩
 .obtain ⟨w,p⟩:=q416
  dsimp only at a c
  simp only[a,nf]
  exact .mk (by dsimp only;omega)
 refine Ob (Tn109_2 (by first|omega|(simp only[mX1]at *;omega)) f) fun N C=>?_
 exact .mk (by omega)
theorem T176 {a:Int}:Ok (F176 a) (fun _=>True):=by
 unfold F176
 refine Oi (fun c435=>?_) (fun c435=>?_)
 .exact .mk trivial
 exact .mk trivial
theorem T115 {b:Int} {a:Zl}:Ok (F115 b a) (fun _=>True):=by
 unfold F115
 refine Ob T176 fun c _=>?_
 refine Oi (fun _=>.mk trivial) (fun _=>?_)
 refine Oi (fun _=>.mk trivial) (fun _=>?_)
 have hw:=gP1 (b+(w64 ((w64 (7*a.Semitones))-(w64 (12*a.Steps)))))
 generalize w64 (b+(w64 ((w64 (7*a.Semitones))-(w64 (12*a.Steps)))))=x0 at hw ⊢
 refine Ob (P:=fun v=> -9223372036854775808<=v/\v<=7) (eB (fun x=> -9223372036854775808<=x/\x<=9223372036854775807) (fun x=>(x+9223372036854775808).toNat) (fun x d=>?_) B64 x0 hw (by simp only[B64];omega)) fun b h1=>?_
 .refine Oi (fun hc=>?_) (fun hc=>?_)<;>simp only[nA1]at hc
  .rw [bA (by omega) (by omega)];exact .mk ⟨by omega,by omega⟩
  .exact .mk (by omega)
 refine Ob (P:=fun v=>True) (eB (fun x=> -9223372036854775808<=x/\x<=7) (fun x=>(7-x).toNat) (fun x d=>?_) B64 b h1 (by simp only[B64];omega)) fun a _=>.mk trivial
 refine Oi (fun hc=>?_) (fun hc=>?_)<;>simp only[nA1]at hc
 .rw [bA (by omega) (by omega)];exact .mk ⟨by omega,by omega⟩
 .exact .mk trivial
theorem T114 {u:Int} {t:Zm} {m:Zk} (g:t.sm) (e:m.s'.sm):Ok (F114 u t m) (fun _=>True):=by
 unfold F114
 refine obT (T113 g) fun⟨A,z⟩=>?_
 refine Ob (P:=fun r=>¬r=true->¬(z !=0)=true) ?_ fun C o=>?_
 .refine Oi (fun _=>.mk (fun h=>absurd rfl h)) (fun c438=>?_)
  refine obT (T105) fun B=>?_
  exact .mk (fun _=>c438)
 have i:=e.Parts
 refine lpT (l:=m.s'.Parts) (fun q=>q.2) (mT1 e.Parts (by decide)) rfl (fun p n q450 f a c b d=>?_) (fun q450 a=>?_) fun y=>?_
 .obtain ⟨j,k⟩:=q450
  dsimp only at a c b d
  simp only[c,b,nt]
  have s:=e.PartsE _ f
  refine obT ?_ fun x=>?_
  .refine Oi (fun c454=>?_) (fun c454=>?_)
   .refine obT (T115) fun⟨v,w⟩=>?_
    exact .mk trivial
   exact .mk trivial
  exact .mk d
 .obtain ⟨j,k⟩:=q450
  dsimp only at a
  simp only[a,nf]
  exact .mk trivial
 exact .mk trivial
theorem Tn109_3 {i:List Zv} {l:Z0} {u:Int} (q:i.length+10<=1000000) (c:l.sm):Ok (Fn109_3 i l u) (fun v=>i.length<=v.length/\v.length<=i.length+10):=by
 unfold Fn109_3
 have j:=c.Measures
 refine og l.Measures i 10 1 (mT1 c.Measures (by decide)) (fun o m q467 k g a e b d f=>?_) (fun q467 a b=>?_) fun t p=>?_
 .obtain ⟨w,x⟩:=q467
  dsimp only at a e d f b
  simp only[e,d,nt]
  have h:=c.MeasuresE _ g
  refine obT (T114 h c) fun r=>?_
  refine Ob (Tn103 (by first|omega|(simp only[mX1]at *;omega)) c) fun s n=>?_
  exact .mk ⟨f,by dsimp only;omega⟩
 .obtain ⟨w,x⟩:=q467
  dsimp only at a b
  simp only[a,nf]
  exact .mk (by dsimp only;omega)
 exact .mk (by omega)
theorem Tn51 {a:List Zv} {d:Z0} {f:Int} (e:a.length+10<=1000000) (b:d.sm):Ok (Fn51 a d f) (fun v=>a.length<=v.length/\v.length<=a.length+10):=by
 unfold Fn51
 refine Ob (Tn109_3 (by first|omega|(simp only[mX1]at *;omega)) b) fun g c=>?_
 exact .mk (by omega)
theorem T186 {a b:Int}:Ok (F186 a b) (fun _=>True):=by
 unfold F186
 refine Oi (fun c473=>?_) (fun c473=>?_)
 .exact .mk trivial
 exact .mk trivial
theorem T185 {h:List Int} (e:h.length<=20):Ok (F185 h) (fun _=>True):=by
 unfold F185
 have g:=e
 refine lpT (l:=h) (fun q=>q) (mT1 e (by decide)) rfl (fun j i k f a c b d=>?_) (fun k a=>?_) fun m=>?_
 .simp only[c,b,nt]
  refine Oi (fun c485=>?_) (fun c485=>?_)
  .exact .mk trivial
  exact .mk d
 .simp only[a,nf]
  exact .mk trivial
 rcases m with n|_
 .exact .mk trivial
 .exact .mk trivial
theorem T187 {a:Int}:Ok (F187 a) (fun _=>True):=by
 unfold F187
 exact .mk trivial
theorem T242 {a:Int}:Ok (F242 a) (fun _=>True):=by
 unfold F242
 refine Oi (fun c486=>?_) (fun c486=>?_)
 .exact .mk trivial
 exact .mk trivial
theorem T188 {b:Ze} (d:b.sm):Ok (F188 b) (fun v=>v.sm):=by
 unfold F188
 refine Ob (P:=fun r=>¬r=true->¬(b.Kind==1)=true) ?_ fun f a=>?_
 .refine Oi (fun _=>.mk (fun h=>absurd rfl h)) (fun c488=>?_)
  refine obT (T187) fun e=>?_
  exact .mk (fun _=>c488)
 refine Oi (fun c490=>?_) (fun c490=>?_)
 .exact .mk (by first|assumption|exact⟨nY1 _,nY1 _,nY1 _,fun _ h=>nomatch h⟩)
 have c:=a c490
 refine obT ?_ fun g=>?_
 .refine Oi (fun c493=>?_) (fun c493=>?_)
  .exact .mk trivial
  exact .mk trivial
 refine obT ?_ fun j=>?_
 .refine Oi (fun c495=>?_) (fun c495=>?_)
  .refine obT (T242) fun i=>?_
   exact .mk trivial
  exact .mk trivial
 exact .mk (by first|assumption|exact⟨nY1 _,nY1 _,nY1 _,fun _ h=>nomatch h⟩)
theorem T218 {m n:List Zb} (e:m.length<=12) (f:n.length<=12):Ok (F218 m n) (fun _=>True):=by
 unfold F218
 refine Oi (fun c497=>?_) (fun c497=>?_)
 .exact .mk trivial
 have j:=e
 refine lpT (l:=m) (fun q=>q) (mT1 e (by decide)) rfl (fun p o r g a c b d=>?_) (fun r a=>?_) fun s=>?_
 .simp only[c,b,nt]
  have k:=f
  refine Ob (P:=fun x=>x∈n) (bD (by omega) (by(simp only[nm]at *;omega)) (fun _ h _=>h)) fun t i=>?_
  refine Oi (fun c512=>?_) (fun c512=>?_)
  .exact .mk trivial
  exact .mk d
 .simp only[a,nf]
  exact .mk trivial
 rcases s with _|_
 .exact .mk trivial
 .exact .mk trivial
theorem T219 {m n:List Zd} (e:m.length<=12) (f:n.length<=12):Ok (F219 m n) (fun _=>True):=by
 unfold F219
 refine Oi (fun c513=>?_) (fun c513=>?_)
 .exact .mk trivial
 have j:=e
 refine lpT (l:=m) (fun q=>q) (mT1 e (by decide)) rfl (fun p o r g a c b d=>?_) (fun r a=>?_) fun s=>?_
 .simp only[c,b,nt]
  have k:=f
  refine Ob (P:=fun x=>x∈n) (bD (by omega) (by(simp only[nm]at *;omega)) (fun _ h _=>h)) fun t i=>?_
  refine Oi (fun c528=>?_) (fun c528=>?_)
  .exact .mk trivial
  exact .mk d
 .simp only[a,nf]
  exact .mk trivial
 rcases s with _|_
 .exact .mk trivial
 .exact .mk trivial
theorem T220 {k m:List Zy} (g:k.length<=12) (i:∀y∈k,y.sm) (n:m.length<=12) (j:∀y∈m,y.sm):Ok (F220 k m) (fun _=>True):=by
 unfold F220
 refine Oi (fun c529=>?_) (fun c529=>?_)
 .exact .mk trivial
 have o:=g
 refine lpT (l:=k) (fun q=>q) (mT1 g (by decide)) rfl (fun s r v d a c b f=>?_) (fun v a=>?_) fun w=>?_
 .simp only[c,b,nt]
  have t:=i _ d
  have p:=n
  refine Ob (P:=fun x=>x∈m) (bD (by omega) (by(simp only[nm]at *;omega)) (fun _ h _=>h)) fun z e=>?_
  have u:=j _ e
  refine Oi (fun c546=>?_) (fun c546=>?_)
  .exact .mk trivial
  exact .mk f
 .simp only[a,nf]
  exact .mk trivial
 rcases w with _|_
 .exact .mk trivial
 .exact .mk trivial
theorem T151 {a b:Ze} (c:a.sm) (d:b.sm):Ok (F151 a b) (fun _=>True):=by
 unfold F151
 refine Ob (P:=fun r=>r=true->(((((((a.Kind==b.Kind)&&(((a.Value.Log==b.Value.Log)&&((a.Value.Dots==b.Value.Dots)&&true))!=false))&&(a.Articulations==b.Articulations))&&(a.Ornament==b.Ornament))&&(a.Dynamic==b.Dynamic))&&(a.Stem==b.Stem))&&(a.Beam==b.Beam))=true) ?_ fun l e=>?_
 .refine Oi (fun c548=>?_) (fun _=>.mk (fun h=>by cases h))
  refine obT (T218 c.Heads d.Heads) fun n=>?_
  exact .mk (fun _=>c548)
 refine Ob (P:=fun r=>r=true->l=true) ?_ fun m f=>?_
 .refine Oi (fun c551=>?_) (fun _=>.mk (fun h=>by cases h))
  have j:=e c551
  refine obT (T219 c.Graces d.Graces) fun o=>?_
  exact .mk (fun _=>c551)
 refine Ob (P:=fun r=>r=true->m=true) ?_ fun q i=>?_
 .refine Oi (fun c555=>?_) (fun _=>.mk (fun h=>by cases h))
  have g:=f c555
  have k:=e g
  refine obT (T220 c.Lyrics c.LyricsE d.Lyrics d.LyricsE) fun p=>?_
  exact .mk (fun _=>c555)
 exact .mk trivial
theorem T189 {a:Za}:Ok (F189 a) (fun v=>v=0-> -1<=a.Log/\a.Log<=8/\0<=a.Dots/\a.Dots<=3):=by
 unfold F189
 refine Oi (fun c559=>?_) (fun c559=>?_)
 .exact .mk (by omega)
 exact .mk (by(simp only[nm]at *;omega))
theorem T245:Ok (F245) (fun _=>True):=by
 unfold F245
 exact .mk trivial
theorem T194 {a:Zh} (c:0<=a.Step/\a.Step<=6):Ok (F194 a) (fun _=>True):=by
 unfold F194
 refine obT (T245) fun d=>?_
 refine Ob (bD (Q:=fun _=>True) (by omega) (by(simp only[nm,nl]at *;omega)) (fun _ _ _=>trivial)) fun e b=>?_
 exact .mk trivial
theorem T193 {a:Zh}:Ok (F193 a) (fun v=>v=0->0<=a.Step/\a.Step<=6):=by
 unfold F193
 refine Oi (fun c562=>?_) (fun c562=>?_)
 .exact .mk (by omega)
 refine obT (T194 (by(simp only[nm]at *;omega))) fun b=>?_
 refine Oi (fun c564=>?_) (fun c564=>?_)
 .exact .mk (by omega)
 exact .mk (by(simp only[nm]at *;omega))
theorem T125 {b:Zh}:Ok (F125 b) (fun _=>True):=by
 unfold F125
 refine Ob (T193) fun c a=>?_
 refine Oi (fun c566=>?_) (fun c566=>?_)
 .exact .mk trivial
 refine obT (T194 (by(simp only[nm]at *;omega))) fun d=>?_
 exact .mk trivial
theorem T228 {a:Zh}:Ok (F228 a) (fun _=>True):=by
 unfold F228
 refine obT (T125) fun⟨b,c⟩=>?_
 refine Oi (fun c569=>?_) (fun c569=>?_)
 .exact .mk trivial
 exact .mk trivial
theorem T243 {a:Zb}:Ok (F243 a) (fun _=>True):=by
 unfold F243
 refine obT (T228) fun⟨b,c⟩=>?_
 refine obT (T186) fun d=>?_
 refine obT (T185 (by simp)) fun e=>?_
 exact .mk trivial
theorem T190 {h:List Zb} (e:h.length<=12):Ok (F190 h) (fun _=>True):=by
 unfold F190
 refine Oi (fun c573=>?_) (fun c573=>?_)
 .exact .mk trivial
 refine Oi (fun c574=>?_) (fun c574=>?_)
 .exact .mk trivial
 have g:=e
 refine lpT (l:=h) (fun q=>q.2) (mT1 e (by decide)) rfl (fun k j q585 f a c b d=>?_) (fun q585 a=>?_) fun i=>?_
 .obtain ⟨p,r⟩:=q585
  dsimp only at a c b d
  simp only[c,b,nt]
  refine obT (T243) fun s=>?_
  refine Oi (fun c588=>?_) (fun c588=>?_)
  .exact .mk trivial
  refine obT (T228) fun⟨m,n⟩=>?_
  refine Oi (fun c590=>?_) (fun c590=>?_)
  .exact .mk trivial
  exact .mk d
 .obtain ⟨p,r⟩:=q585
  dsimp only at a
  simp only[a,nf]
  exact .mk trivial
 rcases i with o|_
 .exact .mk trivial
 .exact .mk trivial
theorem T191 {h:List Zd} (e:h.length<=12):Ok (F191 h) (fun _=>True):=by
 unfold F191
 refine Oi (fun c591=>?_) (fun c591=>?_)
 .exact .mk trivial
 have g:=e
 refine lpT (l:=h) (fun q=>q) (mT1 e (by decide)) rfl (fun k j m f a c b d=>?_) (fun m a=>?_) fun i=>?_
 .simp only[c,b,nt]
  refine obT (T228) fun⟨n,o⟩=>?_
  refine Oi (fun c604=>?_) (fun c604=>?_)
  .exact .mk trivial
  refine Oi (fun c605=>?_) (fun c605=>?_)
  .exact .mk trivial
  exact .mk d
 .simp only[a,nf]
  exact .mk trivial
 rcases i with p|_
 .exact .mk trivial
 .exact .mk trivial
theorem T244 {c:Zy} (a:c.sm):Ok (F244 c) (fun _=>True):=by
 unfold F244
 refine Oi (fun _=>.mk trivial) (fun _=>?_)
 refine Oi (fun _=>.mk trivial) (fun _=>?_)
 have hs:=a.Text
 refine Ob (P:=fun _=>True) (fS (fun q=>q) (c.Text.size:Int) (fun _=>True) (by omega) (by decide) trivial (fun i _ h1 h2=>?_)) fun r _=>?_
 .refine Oi (fun hc=>?_) (fun _=>.mk trivial)
  simp only[nA1]at hc
  refine Ob (oR h1 hc) fun b _=>?_
  refine Ob (P:=fun _=>True) (Oi (fun _=>.mk trivial) (fun _=>Ob (oR h1 hc) fun b _=>.mk trivial)) fun b _=>?_
  exact Oi (fun _=>.mk trivial) (fun _=>.mk ⟨hc,h2 hc,trivial⟩)
 .rcases r with _|_
  .exact .mk trivial
  .exact Oi (fun _=>.mk trivial) (fun _=>.mk trivial)
theorem T233 {a:Zy} (b:a.sm):Ok (F233 a) (fun _=>True):=by
 unfold F233
 exact .mk trivial
theorem T192 {j:List Zy} (c:j.length<=12) (b:∀y∈j,y.sm):Ok (F192 j) (fun _=>True):=by
 unfold F192
 refine Oi (fun c606=>?_) (fun c606=>?_)
 .exact .mk trivial
 have o:=c
 refine lpT (l:=j) (fun q=>q) (mT1 c (by decide)) rfl (fun t s z f a e d i=>?_) (fun z a=>?_) fun A=>?_
 .simp only[e,d,nt]
  have m:=b _ f
  refine obT (T244 m) fun B=>?_
  refine Oi (fun c620=>?_) (fun c620=>?_)
  .exact .mk trivial
  exact .mk i
 .simp only[a,nf]
  exact .mk trivial
 rcases A with C|_
 .exact .mk trivial
 .refine Ob (P:=fun r=>r=true->(decide ((j.length:Int)>0))=true) ?_ fun w k=>?_
  .refine Oi (fun c622=>?_) (fun _=>.mk (fun h=>by cases h))
   have p:=c
   refine Ob (P:=fun x=>x∈j) (bD (by(simp only[nm]at *;rw[bA (by omega) (by omega)];omega)) (by(simp only[nm]at *;rw[bA (by omega) (by omega)];omega)) (fun _ h _=>h)) fun D g=>?_
   have n:=b _ g
   refine obT (T233 n) fun v=>?_
   exact .mk (fun _=>c622)
  refine Oi (fun c628=>?_) (fun c628=>?_)
  .have u:=k c628
   exact .mk trivial
  exact .mk trivial
theorem T121 {d:Ze} (a:d.sm):Ok (F121 d) (fun _=>True):=by
 unfold F121
 refine obT (T186) fun y=>?_
 refine obT (T186) fun z=>?_
 refine obT (T185 (by simp)) fun A=>?_
 refine Oi (fun c633=>?_) (fun c633=>?_)
 .exact .mk trivial
 refine obT (T187) fun B=>?_
 refine Oi (fun c635=>?_) (fun c635=>?_)
 .exact .mk trivial
 refine Ob (T188 a) fun C b=>?_
 refine obT (T151 a b) fun D=>?_
 refine Oi (fun c638=>?_) (fun c638=>?_)
 .exact .mk trivial
 refine Ob (P:=fun r=>r=true->(d.Kind !=3)=true) ?_ fun F c=>?_
 .refine Oi (fun c640=>?_) (fun _=>.mk (fun h=>by cases h))
  refine Ob (T189) fun E e=>?_
  exact .mk (fun _=>c640)
 refine Oi (fun c642=>?_) (fun c642=>?_)
 .have f:=c c642
  exact .mk trivial
 refine Oi (fun c644=>?_) (fun c644=>?_)
 .refine obT (T190 a.Heads) fun g=>?_
  refine obT (T191 a.Graces) fun i=>?_
  refine obT (T192 a.Lyrics a.LyricsE) fun j=>?_
  refine obT (T185 (by simp)) fun k=>?_
  refine Oi (fun c649=>?_) (fun c649=>?_)
  .exact .mk trivial
  refine obT (T186) fun l=>?_
  refine obT (T186) fun m=>?_
  refine obT (T186) fun n=>?_
  refine obT (T186) fun o=>?_
  refine obT (T186) fun p=>?_
  refine obT (T185 (by simp)) fun q=>?_
  exact .mk trivial
 refine obT (T186) fun s=>?_
 refine obT (T186) fun t=>?_
 refine obT (T186) fun u=>?_
 refine obT (T186) fun v=>?_
 refine obT (T186) fun w=>?_
 refine obT (T185 (by simp)) fun x=>?_
 exact .mk trivial
theorem T178 {b:Ze} (a:b.sm):Ok (F178 b) (fun _=>True):=by
 unfold F178
 refine obT (T121 a) fun c=>?_
 exact .mk trivial
theorem T240 {i:List Ze} (f:i.length<=20) (g:∀y∈i,y.sm):Ok (F240 i) (fun _=>True):=by
 unfold F240
 have j:=f
 refine lpT (l:=i) (fun q=>q) (mT1 f (by decide)) rfl (fun m k n d a c b e=>?_) (fun n a=>?_) fun o=>?_
 .simp only[c,b,nt]
  have h:=g _ d
  refine obT (T178 h) fun p=>?_
  refine Oi (fun c676=>?_) (fun c676=>?_)
  .exact .mk trivial
  exact .mk e
 .simp only[a,nf]
  exact .mk trivial
 rcases o with r|_
 .exact .mk trivial
 .exact .mk trivial
theorem T183 {c:List Ze} (b:c.length<=20) (a:∀y∈c,y.sm):Ok (F183 c) (fun _=>True):=by
 unfold F183
 refine obT (T240 b a) fun d=>?_
 exact .mk trivial
theorem T270 {c:Zo} (b:c.sm):Ok (F270 c) (fun _=>True):=by
 unfold F270
 refine Ob (P:=fun r=>r=true->(decide ((c.Events.length:Int)>0))=true) ?_ fun i e=>?_
 .refine Oi (fun c679=>?_) (fun _=>.mk (fun h=>by cases h))
  have d:=b.Events
  refine Ob (P:=fun x=>x∈c.Events) (bD (by omega) (by(simp only[nm]at *;omega)) (fun _ h _=>h)) fun g a=>?_
  have f:=b.EventsE _ a
  exact .mk (fun _=>c679)
 exact .mk trivial
theorem T288 {b:Za} (c: -1<=b.Log/\b.Log<=8/\0<=b.Dots/\b.Dots<=3):Ok (F288 b) (fun _=>True):=by
 unfold F288
 refine Ob (oQ (by rw[bA (by omega) (by omega)];omega)) fun n _=>?_
 refine Ob (P:=fun _=>True) (fS (fun q=>q.2.2) b.Dots (fun _=>True) (by omega) (by dsimp only;omega) trivial (fun q _ h1 h2=>?_)) fun r _=>.mk trivial
 obtain⟨a,n,i⟩:=q
 dsimp only at h1 h2 ⊢
 refine Oi (fun hc=>?_) (fun _=>.mk trivial)
 simp only[nA1]at hc
 exact Ob (oP (by decide)) fun x _=>.mk ⟨hc,h2 hc,trivial⟩
theorem T282 {b:Za}:Ok (F282 b) (fun _=>True):=by
 unfold F282
 refine Ob (T189) fun c a=>?_
 refine Oi (fun c685=>?_) (fun c685=>?_)
 .exact .mk trivial
 refine obT (T288 (by(simp only[nm]at *;omega))) fun d=>?_
 exact .mk trivial
theorem T278 {b:Ze} (a:b.sm):Ok (F278 b) (fun _=>True):=by
 unfold F278
 refine obT (T121 a) fun c=>?_
 refine Oi (fun c688=>?_) (fun c688=>?_)
 .exact .mk trivial
 refine obT (T282) fun⟨d,e⟩=>?_
 exact .mk trivial
theorem T274 {c:List Ze} (h:c.length<=20) (d:∀y∈c,y.sm):Ok (F274 c) (fun v=>v.length<=20):=by
 unfold F274
 refine Ob (mH (by omega) (by omega) (by omega)) fun o h2=>?_
 refine Ob (P:=fun v=>v.length=c.length) (bE (l:=c) (fun q=>q.1) (fun _ q=>q.2.length=c.length) (by omega) rfl (by rw[h2];simp) (fun i e q n g hi hl f hg hw=>?_) (fun q hi f=>?_)) fun v hv=>.mk (by omega)
 .obtain ⟨x,l⟩:=q
  dsimp only at hi hl f hg hw
  simp only[hl,hg,nt]
  refine Ob (T278 (d e g)) fun⟨a,b⟩ _=>?_
  refine Ob (bK (by omega) (by omega)) fun j k=>?_
  refine Ob (cW1 (by omega)) fun m g=>.mk ⟨hw,by dsimp only;omega⟩
 .obtain ⟨x,l⟩:=q
  dsimp only at hi f
  simp only[hi,nf]
  exact .mk f
theorem T285 {a:Int}:Ok (F285 a) (fun v=>v=true->1<=a/\a<=32):=by
 unfold F285
 exact .mk (by(simp only[nm]at *;omega))
theorem T286 {a b:Zu}:Ok (F286 a b) (fun _=>True):=by
 unfold F286
 refine Oi (fun c690=>?_) (fun c690=>?_)
 .refine Oi (fun c691=>?_) (fun c691=>?_)
  .exact .mk trivial
  exact .mk trivial
 refine Oi (fun c692=>?_) (fun c692=>?_)
 .refine Oi (fun c693=>?_) (fun c693=>?_)
  .exact .mk trivial
  exact .mk trivial
 exact .mk trivial
theorem T284 {a:Zu}:Ok (F284 a) (fun v=>v=w64 (a.First+a.Count)):=by
 unfold F284
 exact .mk (by rfl)
theorem Tn283 {k:Zu} {a:List Zu} (g:a.length<=6) (i:a.length<=3):Ok (Fn283 k a) (fun v=>v.2.length<=3):=by
 unfold Fn283
 refine Ob (P:=fun v=>v.length<=3) (eB (fun l=>l.length<=3) (fun l=>l.length) (fun l hl=>?_) B64 a i (by simp only[B64];omega)) fun x d=>?_
 .refine Ob (P:=fun r=>r=true->0<l.length) (Oi (fun hc=>?_) (fun _=>.mk (fun h=>by cases h))) fun b hb=>?_
  .simp only[nA1]at hc
   refine Ob (bK (by rw[bA (by omega) (by omega)];omega) (by rw[bA (by omega) (by omega)];omega)) fun j c=>?_
   exact Ob (bO c.2) fun y _=>Ob T284 fun e _=>.mk (fun _=>by omega)
  .refine Oi (fun hc=>?_) (fun _=>.mk hl)
   have:=hb hc
   refine Ob (cX1 this (by rw[bA (by omega) (by omega)];omega) (by rw[bA (by omega) (by omega)];omega)) fun m f=>?_
   have:=f.1
   rw[bA (by omega) (by omega)]at this
   exact .mk ⟨by omega,by omega⟩
 .refine Ob (P:=fun r=>r=true\/x.length<3) (Oi (fun hc=>.mk (.inl rfl)) (fun hc=>?_)) fun b hb=>?_
  .have hc:x.length<3:=by simp only[oQ1]at hc;omega
   refine Ob (P:=fun _=>True) (Oi (fun hd=>?_) (fun _=>.mk trivial)) fun b _=>.mk (.inr hc)
   simp only[nA1]at hd
   refine Ob T284 fun e _=>?_
   refine Ob (bK (by rw[bA (by omega) (by omega)];omega) (by rw[bA (by omega) (by omega)];omega)) fun j c=>?_
   exact Ob (bO c.2) fun y _=>Ob T284 fun e _=>.mk trivial
  .refine Oi (fun _=>.mk d) (fun hc=>?_)
   have hb:x.length<3:=by rcases hb with h|h;exact absurd h hc;exact h
   refine Ob (dF (Q:=fun v=>v.length=x.length+1) (by omega) (by simp)) fun m f=>.mk (by dsimp only;omega)
theorem T279 {f:List Zu} {c:Int} (z:f.length<=6):Ok (F279 f c) (fun v=>v=0->∀t∈f,t.ok c):=by
 unfold F279
 refine Oi (fun _=>.mk (fun h=>by cases h)) (fun n=>?_)
 refine Oi (fun _=>.mk (fun h=>by cases h)) (fun _=>?_)
 simp only[nI1,nA1,pY1]at n
 refine Ob (P:=fun r=>match r with|.inl p=>p.1≠0|.inr _=>∀t∈f,t.ok c) (bE (l:=f) (fun q=>q.1) (fun i q=>q.2.length<=3/\∀j,j<i->∀t,f[j]? =some t->t.ok c) (by omega) rfl ⟨by decide,fun j k=>by omega⟩ (fun i e q A w hi hl d hg hw=>?_) (fun q hi d=>?_)) fun v hv=>?_
 .obtain ⟨x,l⟩:=q
  dsimp only at hi hl d hg hw
  simp only[hl,hg,nt]
  refine Ob (P:=fun r=>r=false->(1<=e.Count/\e.Count<=c/\0<=e.First/\e.First+e.Count<=c/\1<=e.Actual/\e.Actual<=32)) (Oi (fun _=>.mk (fun h=>by cases h)) (fun hc=>?_)) fun b1 h1=>?_
  .simp only[nI1,nA1,pY1]at hc
   rw[bA (by omega) (by omega)]at hc
   refine Ob T285 fun r hr=>.mk (fun h=>?_)
   have:=hr (by simpa using h)
   omega
  refine Ob (P:=fun r=>r=false->e.ok c) (Oi (fun hc=>.mk (fun h=>by cases h)) (fun hc=>?_)) fun b2 h2=>?_
  .refine Ob T285 fun r hr=>.mk (fun h=>?_)
   have:=hr (by simpa using h)
   have:=h1 (by simpa using hc)
   unfold Zu.ok;omega
  refine Oi (fun _=>.mk (show(2:Int)≠0 by decide)) (fun hc=>?_)
  have u:e.ok c:=h2 (by simp only[nI1,pY1,oX1]at hc;exact hc.1)
  refine Ob (P:=fun _=>True) (Oi (fun hd=>?_) (fun _=>.mk trivial)) fun b3 _=>?_
  .simp only[nA1]at hd
   have:=dC hg
   refine Ob (bD (Q:=fun _=>True) (by rw[bA (by omega) (by omega)];omega) (by rw[bA (by omega) (by omega)];omega) (fun _ _ _=>trivial)) fun y _=>?_
   exact Ob T286 fun o _=>.mk trivial
  refine Oi (fun _=>.mk (show(25:Int)≠0 by decide)) (fun _=>?_)
  refine Ob (Tn283 (nQ1 d.1 (by decide)) d.1) fun⟨a,m⟩ w=>?_
  refine Oi (fun _=>.mk (show(21:Int)≠0 by decide)) (fun _=>.mk ⟨hw,w,fun j k t g=>?_⟩)
  by_cases s:j=i
  .subst s;rw[A]at g;cases g;exact u
  .exact d.2 j (by omega) t g
 .obtain ⟨x,l⟩:=q
  dsimp only at hi d
  simp only[hi,nf]
  refine .mk (fun t g=>?_)
  obtain⟨j,k⟩:=nJ1.1 g
  exact d.2 j (mS1.1 k).1 t k
 .rcases v with⟨a,b⟩|b
  .exact .mk (fun h=>absurd h hv)
  .exact .mk (fun _=>hv)
theorem T289 {a:Zu} {b:Int}:Ok (F289 a b) (fun _=>True):=by
 unfold F289
 exact .mk trivial
theorem T290 {e c:Int} (l:0<e/\0<c/\c<9223372036854775808):Ok (F290 e c) (fun v=>0<v/\v∣e/\v∣c):=by
 unfold F290
 refine Ob (P:=fun v=>0<v/\v∣e/\v∣c) (eB (fun q=>0<q.1/\0<=q.2/\∀d:Int,d∣q.1->d∣q.2->d∣e/\d∣c) (fun q=>q.2.toNat) (fun q k=>?_) B64 (e,c) ⟨l.1,by dsimp only;omega,fun d h1 h2=>⟨h1,h2⟩⟩ (by simp only[B64];omega)) fun v hv=>.mk hv
 obtain⟨a,b⟩:=q
 obtain⟨h1,h2,h⟩:=k
 dsimp only at h1 h2 h
 refine Oi (fun hc=>?_) (fun hc=>?_)<;>simp only[nA1]at hc
 .refine Ob (vZ (by omega)) fun n j=>?_
  have i:n=a%b:=by rw[j,Int.tmod_eq_emod_of_nonneg (by omega)]
  have e2:=Int.emod_nonneg a (by omega:b≠0)
  have m:=Int.emod_lt_of_pos a hc
  refine .mk ⟨⟨hc,by dsimp only;omega,fun d f g=>h d ?_ f⟩,by dsimp only;omega⟩
  dsimp only at f g
  rw[i]at g
  have:=Int.emod_add_mul_ediv a b
  rw[<-this]
  exact Int.dvd_add g (Int.dvd_trans f (Int.dvd_mul_right b _))
 .have:b=0:=by omega
  subst this
  exact .mk ⟨h1,h a (Int.dvd_refl a) (Int.dvd_zero a)⟩
theorem T287 {o:List Zu} {H:Int} (w:o.length<=6) (C:∀t∈o,1<=t.Actual/\t.Actual<=32/\1<=t.Normal/\t.Normal<=32):Ok (F287 o H) (fun v=>1<=v.2):=by
 unfold F287
 refine Ob (P:=fun v=>1<=v.2) (bE (l:=o) (fun q=>q.2.2) (fun i q=>1<=q.1/\q.1<=32^i/\1<=q.2.1/\q.2.1<=32^i) (by omega) rfl ⟨by decide,by decide,by decide,by decide⟩ (fun i e q E z hi hl f hg hw=>?_) (fun q hi f=>?_)) fun v hv=>.mk hv
 .obtain ⟨a,b,x⟩:=q
  dsimp only at hi hl f hg hw
  simp only[hl,hg,nt]
  have j:=C e z
  refine Ob T289 fun c _=>?_
  have y:i<=5:=by omega
  have A:(32:Int)^i<=33554432:=by
   have:i=0\/i=1\/i=2\/i=3\/i=4\/i=5:=by omega
   rcases this with rfl|rfl|rfl|rfl|rfl|rfl<;>decide
  have B:(32:Int)^(i+1)=32^i*32:=Int.pow_succ 32 i
  refine Ob (P:=fun v=>1<=v.1/\v.1<=32^(i+1)/\1<=v.2/\v.2<=32^(i+1)) (Oi (fun _=>?_) (fun _=>?_)) fun⟨v1,v2⟩ hv=>.mk ⟨hw,hv⟩
  .have F:1<=a*e.Normal:=Int.le_trans (by decide) (qC1 f.1 j.2.2.1 (by decide) (by omega))
   have G:a*e.Normal<=32^i*32:=qC1 f.2.1 j.2.2.2 (by omega) (by omega)
   have s:1<=b*e.Actual:=Int.le_trans (by decide) (qC1 f.2.2.1 j.1 (by decide) (by omega))
   have u:b*e.Actual<=32^i*32:=qC1 f.2.2.2 j.2.1 (by omega) (by omega)
   rw[bA (n:=a*e.Normal) (by omega) (by omega),bA (n:=b*e.Actual) (by omega) (by omega)]
   generalize a*e.Normal=N at F G ⊢
   generalize b*e.Actual=D at s u ⊢
   refine Ob (T290 ⟨by omega,by omega,by omega⟩) fun g hg=>?_
   obtain⟨J,⟨k,rfl⟩,⟨m,rfl⟩⟩:=hg
   have K:1<=k:=by
    rcases Int.lt_or_le k 1 with h|h
    .have:=Int.mul_nonneg (a:=g) (b:= -k) (by omega) (by omega)
     rw[Int.mul_neg]at this;omega
    .exact h
   have M:1<=m:=by
    rcases Int.lt_or_le m 1 with h|h
    .have:=Int.mul_nonneg (a:=g) (b:= -m) (by omega) (by omega)
     rw[Int.mul_neg]at this;omega
    .exact h
   have L:k<=g*k:=by
    have:=qC1 (a:=1) (b:=k) (c:=g) (d:=k) (by omega) (oS1 k) (by omega) (by omega)
    omega
   have O:m<=g*m:=by
    have:=qC1 (a:=1) (b:=m) (c:=g) (d:=m) (by omega) (oS1 m) (by omega) (by omega)
    omega
   refine Ob (oP (by omega)) fun q1 p=>?_
   refine Ob (oP (by omega)) fun q2 r=>?_
   rw[Int.mul_tdiv_cancel_left k (by omega),show IntKind.wrap .i64 k=w64 k from rfl,bA (by omega) (by omega)]at p
   rw[Int.mul_tdiv_cancel_left m (by omega),show IntKind.wrap .i64 m=w64 m from rfl,bA (by omega) (by omega)]at r
   exact .mk ⟨by dsimp only;omega,by dsimp only;omega,by dsimp only;omega,by dsimp only;omega⟩
  .exact .mk ⟨f.1,by dsimp only;omega,f.2.2.1,by dsimp only;omega⟩
 .obtain ⟨a,b,x⟩:=q
  dsimp only at hi f
  simp only[hi,nf]
  exact .mk f.2.2.1
theorem T280 {c:List Zu} {f g:Int} (b:c.length<=6) (h:∀t∈c,1<=t.Actual/\t.Actual<=32/\1<=t.Normal/\t.Normal<=32):Ok (F280 c f g) (fun _=>True):=by
 unfold F280
 refine Oi (fun c694=>?_) (fun c694=>?_)
 .exact .mk trivial
 refine Ob (T287 b (by omega)) fun⟨i,j⟩ a=>?_
 try dsimp only at a
 refine Ob (vZ (by omega)) fun k d=>?_
 refine Oi (fun c697=>?_) (fun c697=>?_)
 .exact .mk trivial
 refine Ob (oP (by omega)) fun l e=>?_
 exact .mk trivial
theorem T275 {k:List Zu} {f:List Int} (d:k.length<=6) (j:f.length<=20):Ok (F275 k f) (fun v=>v.1.length<=20/\(v.2=0->∀t∈k,t.ok f.length)):=by
 unfold F275
 refine Ob (T279 d) fun c hc=>?_
 refine Oi (fun hd=>.mk ⟨nY1 _,fun h=>absurd h (by simpa using hd)⟩) (fun hd=>?_)
 have n:=hc (by simpa using hd)
 refine Ob (mH (by decide) (by omega) (by omega)) fun w o=>?_
 refine Ob (P:=fun r=>match r with|.inl p=>p.1≠0|.inr l=>l.length<=f.length) (bE (l:=f) (fun q=>q.1) (fun i q=>q.2.length<=i) (by omega) rfl (by rw[o];decide) (fun i e q u s hi hl g hg hw=>?_) (fun q hi g=>?_)) fun v hv=>?_
 .obtain ⟨x,l⟩:=q
  dsimp only at hi hl g hg hw
  simp only[hl,hg,nt]
  refine Ob (T280 d (fun t h=>by have:=n t h;unfold Zu.ok at this;omega)) fun⟨a,b⟩ _=>?_
  refine Oi (fun hb=>.mk (by simpa using hb)) (fun _=>?_)
  exact Ob (dF (Q:=fun v=>v.length=l.length+1) (by omega) (by simp)) fun m s=>.mk ⟨hw,by dsimp only;omega⟩
 .obtain ⟨x,l⟩:=q
  dsimp only at hi g
  simp only[hi,nf]
  exact .mk g
 .rcases v with⟨a,b⟩|b
  .exact .mk ⟨nY1 _,fun h=>absurd h hv⟩
  .exact .mk ⟨nQ1 hv j,fun _=>n⟩
theorem T281 {c:List Zu} {f:Int} {g:List Int} (m:c.length<=6) (o:g.length<=20) (k:0<=f/\f<(c.length:Int)) (hy:∀t∈c,t.ok g.length):Ok (F281 c f g) (fun _=>True):=by
 unfold F281
 refine Ob (bD (Q:=fun x=>x∈c) k.1 k.2 (fun _ h _=>h)) fun j d=>?_
 have p:=hy j d
 unfold Zu.ok at p
 refine Ob (P:=fun _=>True) (fS (fun q=>q.2) (j.First+j.Count) (fun _=>True) (by omega) (by dsimp only;omega) trivial (fun q _ h1 h2=>?_)) fun r _=>?_
 .obtain ⟨s,i⟩:=q
  dsimp only at h1 h2 ⊢
  refine Ob T284 fun e he=>?_
  rw[bA (by omega) (by omega)]at he
  subst he
  refine Oi (fun hc=>?_) (fun _=>.mk trivial)
  simp only[nA1]at hc
  refine Ob (uF (by rw[bA (by omega) (by omega)];omega) (by rw[bA (by omega) (by omega)];omega) (by omega)) fun l hl=>?_
  refine Ob (bD (Q:=fun _=>True) (by omega) (by omega) (fun _ _ _=>trivial)) fun y _=>?_
  refine Ob (T280 (by omega) (fun t h=>by have:=hy t (hl.2 t h);unfold Zu.ok at this;omega)) fun⟨a,b⟩ _=>?_
  exact Oi (fun _=>.mk trivial) (fun _=>.mk ⟨hc,h2 hc,trivial⟩)
 .rcases r with a|a
  .exact .mk trivial
  refine Ob (P:=fun _=>True) (fS (fun q=>q) 9 (fun _=>True) (by decide) (by decide) trivial (fun q _ h1 h2=>?_)) fun r _=>?_
  .refine Oi (fun hc=>?_) (fun _=>.mk trivial)
   simp only[nA1]at hc
   refine Ob (oQ (by rw[bA (by omega) (by omega)];omega)) fun n _=>?_
   exact Oi (fun _=>.mk trivial) (fun _=>.mk ⟨by omega,h2 (by omega),trivial⟩)
  .rcases r with a|a<;>exact .mk trivial
theorem T276 {h:List Zu} {j:List Int} (c:h.length<=6) (d:j.length<=20):Ok (F276 h j) (fun _=>True):=by
 unfold F276
 refine Ob (T275 c d) fun⟨a,b⟩ f=>?_
 dsimp only at f
 refine Oi (fun _=>.mk trivial) (fun hd=>?_)
 have o:=f.2 (by simpa using hd)
 refine Ob (mH (by decide) (by omega) (by omega)) fun r k=>?_
 refine Ob (P:=fun _=>True) (bE (l:=h) (fun q=>q.1) (fun i q=>q.2.length<=i) (by omega) rfl (by rw[k];decide) (fun i e q p n hi hl g hg hw=>?_) (fun q hi g=>?_)) fun v hv=>?_
 .obtain ⟨x,l⟩:=q
  dsimp only at hi hl g hg hw
  simp only[hl,nt]
  refine Ob (T281 c d ⟨by omega,hl⟩ o) fun⟨a,b⟩ _=>?_
  refine Oi (fun hb=>.mk trivial) (fun _=>?_)
  exact Ob (dF (Q:=fun v=>v.length=l.length+1) (by omega) (by simp)) fun m n=>.mk ⟨hw,by dsimp only;omega⟩
 .obtain ⟨x,l⟩:=q
  dsimp only at hi g
  simp only[hi,nf]
  exact .mk trivial
 .rcases v with a|b<;>exact .mk trivial
theorem T271 {k:Zo} (a:k.sm):Ok (F271 k) (fun v=>v.1.length<=20):=by
 unfold F271
 have j:=a.Events
 refine lpT (l:=k.Events) (fun q=>q) (mT1 a.Events (by decide)) rfl (fun n m t f b e d g=>?_) (fun t b=>?_) fun u=>?_
 .simp only[e,d,nt]
  have i:=a.EventsE _ f
  refine obT (T121 i) fun w=>?_
  refine Oi (fun c712=>?_) (fun c712=>?_)
  .exact .mk trivial
  refine Oi (fun c713=>?_) (fun c713=>?_)
  .exact .mk trivial
  exact .mk g
 .simp only[b,nf]
  exact .mk trivial
 rcases u with x|_
 .exact .mk (by(simp only[nm,nl]at *;omega))
 .refine Ob (T274 a.Events a.EventsE) fun y c=>?_
  refine Ob (T275 a.Tuplets c) fun⟨o,p⟩ h=>?_
  try dsimp only at h
  refine Oi (fun c716=>?_) (fun c716=>?_)
  .exact .mk (by(simp only[nm,nl]at *;omega))
  refine obT (T276 a.Tuplets c) fun⟨r,s⟩=>?_
  refine Oi (fun c718=>?_) (fun c718=>?_)
  .exact .mk (by(simp only[nm,nl]at *;omega))
  exact .mk (by(simp only[nm]at *;omega))
theorem T260 {f:Zo} {g:Int} (a:f.sm):Ok (F260 f g) (fun v=>v.1.length<=20):=by
 unfold F260
 refine Oi (fun c719=>?_) (fun c719=>?_)
 .exact .mk (by(simp only[nm,nl]at *;omega))
 refine Oi (fun c720=>?_) (fun c720=>?_)
 .exact .mk (by(simp only[nm,nl]at *;omega))
 refine obT (T270 a) fun i=>?_
 refine Oi (fun c722=>?_) (fun c722=>?_)
 .have e:=a.Events
  refine Ob (P:=fun x=>x∈f.Events) (bD (by omega) (by(simp only[nm]at *;omega)) (fun _ h _=>h)) fun j b=>?_
  have d:=a.EventsE _ b
  refine obT (T121 d) fun k=>?_
  refine Oi (fun c728=>?_) (fun c728=>?_)
  .exact .mk (by(simp only[nm,nl]at *;omega))
  refine Oi (fun c729=>?_) (fun c729=>?_)
  .exact .mk (by(simp only[nm,nl]at *;omega))
  exact .mk (by(simp only[nm,nl]at *;omega))
 refine Ob (T271 a) fun⟨l,m⟩ c=>?_
 try dsimp only at c
 exact .mk (by omega)
theorem T261 {h:List Int} (e:h.length<=20):Ok (F261 h) (fun _=>True):=by
 unfold F261
 have g:=e
 refine lpT (l:=h) (fun q=>q.2) (mT1 e (by decide)) rfl (fun j i q741 f a c b d=>?_) (fun q741 a=>?_) fun n=>?_
 .obtain ⟨k,m⟩:=q741
  dsimp only at a c b d
  simp only[c,b,nt]
  exact .mk d
 .obtain ⟨k,m⟩:=q741
  dsimp only at a
  simp only[a,nf]
  exact .mk trivial
 exact .mk trivial
theorem T241 {e:Zo} {f:Int} (c:e.sm):Ok (F241 e f) (fun v=>v.1.length<=20):=by
 unfold F241
 refine Ob (T260 c) fun⟨g,i⟩ a=>?_
 try dsimp only at a
 refine Ob (P:=fun r=>r=true->((i==0)&&(decide ((g.length:Int)>0)))=true) ?_ fun k b=>?_
 .refine Oi (fun c745=>?_) (fun _=>.mk (fun h=>by cases h))
  refine obT (T261 a) fun j=>?_
  exact .mk (fun _=>c745)
 refine obT ?_ fun l=>?_
 .refine Oi (fun c748=>?_) (fun c748=>?_)
  .have d:=b c748
   exact .mk trivial
  exact .mk trivial
 refine Oi (fun c750=>?_) (fun c750=>?_)
 .exact .mk (by(simp only[nm,nl]at *;omega))
 exact .mk (by omega)
theorem T184 {c:Zo} {d:Int} (b:c.sm):Ok (F184 c d) (fun _=>True):=by
 unfold F184
 refine Ob (T241 b) fun⟨e,f⟩ a=>?_
 try dsimp only at a
 exact .mk trivial
theorem T117 {a:Int}:Ok (F117 a) (fun _=>True):=by
 unfold F117
 exact .mk trivial
theorem T182 {c:Zo} {d:Int} (a:c.sm):Ok (F182 c d) (fun _=>True):=by
 unfold F182
 refine obT (T183 a.Events a.EventsE) fun e=>?_
 refine Ob (P:=fun r=>r=true->(!e)=true) ?_ fun i b=>?_
 .refine Oi (fun c754=>?_) (fun _=>.mk (fun h=>by cases h))
  refine obT (T184 a) fun f=>?_
  refine obT (T117) fun g=>?_
  exact .mk (fun _=>c754)
 exact .mk trivial
theorem T239 {i:List Zo} {n:Int} (f:i.length<=3) (g:∀y∈i,y.sm):Ok (F239 i n) (fun _=>True):=by
 unfold F239
 have j:=f
 refine lpT (l:=i) (fun q=>q) (mT1 f (by decide)) rfl (fun m k o d a c b e=>?_) (fun o a=>?_) fun p=>?_
 .simp only[c,b,nt]
  have h:=g _ d
  refine obT (T182 h) fun r=>?_
  refine Oi (fun c770=>?_) (fun c770=>?_)
  .exact .mk trivial
  exact .mk e
 .simp only[a,nf]
  exact .mk trivial
 rcases p with s|_
 .exact .mk trivial
 .exact .mk trivial
theorem T181 {c:List Zo} {d:Int} (b:c.length<=3) (a:∀y∈c,y.sm):Ok (F181 c d) (fun _=>True):=by
 unfold F181
 refine obT (T239 b a) fun e=>?_
 exact .mk trivial
theorem T180 {b:Zw} {c:Int} (a:b.sm):Ok (F180 b c) (fun _=>True):=by
 unfold F180
 refine obT (T181 a.Voices a.VoicesE) fun d=>?_
 exact .mk trivial
theorem T238 {i:List Zw} {n:Int} (f:i.length<=5) (g:∀y∈i,y.sm):Ok (F238 i n) (fun _=>True):=by
 unfold F238
 have j:=f
 refine lpT (l:=i) (fun q=>q) (mT1 f (by decide)) rfl (fun m k o d a c b e=>?_) (fun o a=>?_) fun p=>?_
 .simp only[c,b,nt]
  have h:=g _ d
  refine obT (T180 h) fun r=>?_
  refine Oi (fun c786=>?_) (fun c786=>?_)
  .exact .mk trivial
  exact .mk e
 .simp only[a,nf]
  exact .mk trivial
 rcases p with s|_
 .exact .mk trivial
 .exact .mk trivial
theorem T179 {c:List Zw} {d:Int} (b:c.length<=5) (a:∀y∈c,y.sm):Ok (F179 c d) (fun _=>True):=by
 unfold F179
 refine obT (T238 b a) fun e=>?_
 exact .mk trivial
theorem T177 {c:Int} {b:Zm} (a:b.sm):Ok (F177 c b) (fun _=>True):=by
 unfold F177
 refine obT (T113 a) fun⟨d,e⟩=>?_
 refine Oi (fun c789=>?_) (fun c789=>?_)
 .exact .mk trivial
 refine obT (T179 a.Cells a.CellsE) fun f=>?_
 exact .mk trivial
theorem Tn109_4 {i:List Zv} {l:Z0} {u:Int} (q:i.length+10<=1000000) (f:l.sm):Ok (Fn109_4 i l u) (fun v=>i.length<=v.length/\v.length<=i.length+10):=by
 unfold Fn109_4
 have j:=f.Measures
 refine og l.Measures i 10 1 (mT1 f.Measures (by decide)) (fun o m q802 k g a d b c e=>?_) (fun q802 a b=>?_) fun t p=>?_
 .obtain ⟨w,x⟩:=q802
  dsimp only at a d c e b
  simp only[d,c,nt]
  have h:=f.MeasuresE _ g
  refine obT (T177 h) fun r=>?_
  refine Ob (Tn103 (by first|omega|(simp only[mX1]at *;omega)) f) fun s n=>?_
  exact .mk ⟨e,by dsimp only;omega⟩
 .obtain ⟨w,x⟩:=q802
  dsimp only at a b
  simp only[a,nf]
  exact .mk (by dsimp only;omega)
 exact .mk (by omega)
theorem Tn116 {a:List Zv} {d:Z0} {f:Int} (e:a.length+10<=1000000) (b:d.sm):Ok (Fn116 a d f) (fun v=>a.length<=v.length/\v.length<=a.length+10):=by
 unfold Fn116
 refine Ob (Tn109_4 (by first|omega|(simp only[mX1]at *;omega)) b) fun g c=>?_
 exact .mk (by omega)
theorem Tn52 {a:List Zv} {d:Z0} {f:Int} (e:a.length+10<=1000000) (b:d.sm):Ok (Fn52 a d f) (fun v=>a.length<=v.length/\v.length<=a.length+10):=by
 unfold Fn52
 refine Ob (Tn116 (by first|omega|(simp only[mX1]at *;omega)) b) fun g c=>?_
 exact .mk (by omega)
theorem T118 {b:Int}:Ok (F118 b) (fun _=>True):=by
 unfold F118
 refine Ob (P:=fun r=>r=true->(b !=0)=true) ?_ fun d a=>?_
 .refine Oi (fun c810=>?_) (fun _=>.mk (fun h=>by cases h))
  refine obT (T117) fun c=>?_
  exact .mk (fun _=>c810)
 exact .mk trivial
theorem T182_2 {c:Zo} {d:Int} (a:c.sm):Ok (F182_2 c d) (fun _=>True):=by
 unfold F182_2
 refine obT (T183 a.Events a.EventsE) fun e=>?_
 refine Ob (P:=fun r=>r=true->(!e)=true) ?_ fun i b=>?_
 .refine Oi (fun c814=>?_) (fun _=>.mk (fun h=>by cases h))
  refine obT (T184 a) fun f=>?_
  refine obT (T118) fun g=>?_
  exact .mk (fun _=>c814)
 exact .mk trivial
theorem T239_2 {i:List Zo} {n:Int} (f:i.length<=3) (g:∀y∈i,y.sm):Ok (F239_2 i n) (fun _=>True):=by
 unfold F239_2
 have j:=f
 refine lpT (l:=i) (fun q=>q) (mT1 f (by decide)) rfl (fun m k o d a c b e=>?_) (fun o a=>?_) fun p=>?_
 .simp only[c,b,nt]
  have h:=g _ d
  refine obT (T182_2 h) fun r=>?_
  refine Oi (fun c830=>?_) (fun c830=>?_)
  .exact .mk trivial
  exact .mk e
 .simp only[a,nf]
  exact .mk trivial
 rcases p with s|_
 .exact .mk trivial
 .exact .mk trivial
theorem T181_2 {c:List Zo} {d:Int} (b:c.length<=3) (a:∀y∈c,y.sm):Ok (F181_2 c d) (fun _=>True):=by
 unfold F181_2
 refine obT (T239_2 b a) fun e=>?_
 exact .mk trivial
theorem T180_2 {b:Zw} {c:Int} (a:b.sm):Ok (F180_2 b c) (fun _=>True):=by
 unfold F180_2
 refine obT (T181_2 a.Voices a.VoicesE) fun d=>?_
 exact .mk trivial
theorem T238_2 {i:List Zw} {n:Int} (f:i.length<=5) (g:∀y∈i,y.sm):Ok (F238_2 i n) (fun _=>True):=by
 unfold F238_2
 have j:=f
 refine lpT (l:=i) (fun q=>q) (mT1 f (by decide)) rfl (fun m k o d a c b e=>?_) (fun o a=>?_) fun p=>?_
 .simp only[c,b,nt]
  have h:=g _ d
  refine obT (T180_2 h) fun r=>?_
  refine Oi (fun c846=>?_) (fun c846=>?_)
  .exact .mk trivial
  exact .mk e
 .simp only[a,nf]
  exact .mk trivial
 rcases p with s|_
 .exact .mk trivial
 .exact .mk trivial
theorem T179_2 {c:List Zw} {d:Int} (b:c.length<=5) (a:∀y∈c,y.sm):Ok (F179_2 c d) (fun _=>True):=by
 unfold F179_2
 refine obT (T238_2 b a) fun e=>?_
 exact .mk trivial
theorem T177_2 {c:Int} {b:Zm} (a:b.sm):Ok (F177_2 c b) (fun _=>True):=by
 unfold F177_2
 refine obT (T113 a) fun⟨d,e⟩=>?_
 refine Oi (fun c849=>?_) (fun c849=>?_)
 .exact .mk trivial
 refine obT (T179_2 a.Cells a.CellsE) fun f=>?_
 exact .mk trivial
theorem Tn109_5 {i:List Zv} {l:Z0} {u:Int} (q:i.length+10<=1000000) (f:l.sm):Ok (Fn109_5 i l u) (fun v=>i.length<=v.length/\v.length<=i.length+10):=by
 unfold Fn109_5
 have j:=f.Measures
 refine og l.Measures i 10 1 (mT1 f.Measures (by decide)) (fun o m q862 k g a d b c e=>?_) (fun q862 a b=>?_) fun t p=>?_
 .obtain ⟨w,x⟩:=q862
  dsimp only at a d c e b
  simp only[d,c,nt]
  have h:=f.MeasuresE _ g
  refine obT (T177_2 h) fun r=>?_
  refine Ob (Tn103 (by first|omega|(simp only[mX1]at *;omega)) f) fun s n=>?_
  exact .mk ⟨e,by dsimp only;omega⟩
 .obtain ⟨w,x⟩:=q862
  dsimp only at a b
  simp only[a,nf]
  exact .mk (by dsimp only;omega)
 exact .mk (by omega)
theorem Tn116_2 {a:List Zv} {d:Z0} {f:Int} (e:a.length+10<=1000000) (b:d.sm):Ok (Fn116_2 a d f) (fun v=>a.length<=v.length/\v.length<=a.length+10):=by
 unfold Fn116_2
 refine Ob (Tn109_5 (by first|omega|(simp only[mX1]at *;omega)) b) fun g c=>?_
 exact .mk (by omega)
theorem Tn53 {a:List Zv} {d:Z0} {f:Int} (e:a.length+10<=1000000) (b:d.sm):Ok (Fn53 a d f) (fun v=>a.length<=v.length/\v.length<=a.length+10):=by
 unfold Fn53
 refine Ob (Tn116_2 (by first|omega|(simp only[mX1]at *;omega)) b) fun g c=>?_
 exact .mk (by omega)
theorem T120 {c:Zp} {b:Ze} (a:b.sm):Ok (F120 c b) (fun _=>True):=by
 unfold F120
 refine obT (T121 a) fun d=>?_
 exact .mk trivial
theorem Tn119 {H:List Zv} {X:Z0} {x3:Int} (d9:H.length+3000<=1000000) (y:X.sm):Ok (Fn119 H X x3) (fun v=>H.length<=v.length/\v.length<=H.length+3000):=by
 unfold Fn119
 have O:=y.Measures
 refine og X.Measures H 3000 300 (mT1 y.Measures (by decide)) (fun b5 D q881 T z c m g a q=>?_) (fun q881 c g=>?_) fun d4 d5=>?_
 .obtain ⟨Y,L⟩:=q881
  dsimp only at c m a q g
  simp only[m,a,nt]
  have u:=y.MeasuresE _ z
  have P:=u.Cells
  refine og D.Cells L 300 60 (mT1 u.Cells (by decide)) (fun b6 E q895 U A d n h b r=>?_) (fun q895 d h=>?_) fun d3 d6=>?_
  .obtain ⟨Z,M⟩:=q895
   dsimp only at d n b r h
   simp only[n,a,b,nt]
   have w:=u.CellsE _ A
   have R:=w.Voices
   refine og E.Voices M 60 20 (mT1 w.Voices (by decide)) (fun b7 F q909 V B e o i k s=>?_) (fun q909 e i=>?_) fun d2 d7=>?_
   .obtain ⟨a0,N⟩:=q909
    dsimp only at e o k s i
    simp only[o,a,b,k,nt]
    have x:=w.VoicesE _ B
    have S:=x.Events
    refine og F.Events N 20 1 (mT1 x.Events (by decide)) (fun b8 b0 q923 W C f p j l t=>?_) (fun q923 f j=>?_) fun d1 d8=>?_
    .obtain ⟨J,K⟩:=q923
     dsimp only at f p l t j
     simp only[p,a,b,k,l,nt]
     have G:=x.EventsE _ C
     refine obT (T120 G) fun b9=>?_
     refine Ob (Tn103 (by first|omega|(simp only[mX1]at *;omega)) y) fun d0 b4=>?_
     exact .mk ⟨t,by dsimp only;omega⟩
    .obtain ⟨J,K⟩:=q923
     dsimp only at f j
     simp only[f,nf]
     exact .mk (by dsimp only;omega)
    exact .mk ⟨s,by dsimp only;omega⟩
   .obtain ⟨a0,N⟩:=q909
    dsimp only at e i
    simp only[e,nf]
    exact .mk (by dsimp only;omega)
   exact .mk ⟨r,by dsimp only;omega⟩
  .obtain ⟨Z,M⟩:=q895
   dsimp only at d h
   simp only[d,nf]
   exact .mk (by dsimp only;omega)
  exact .mk ⟨q,by dsimp only;omega⟩
 .obtain ⟨Y,L⟩:=q881
  dsimp only at c g
  simp only[c,nf]
  exact .mk (by dsimp only;omega)
 exact .mk (by omega)
theorem Tn54 {a:List Zv} {d:Z0} {f:Int} (e:a.length+3000<=1000000) (b:d.sm):Ok (Fn54 a d f) (fun v=>a.length<=v.length/\v.length<=a.length+3000):=by
 unfold Fn54
 refine Ob (Tn119 (by first|omega|(simp only[mX1]at *;omega)) b) fun g c=>?_
 exact .mk (by omega)
theorem T123 {c:Z0} {f:Int} (d:c.sm):Ok (F123 c f) (fun v=>v.2.2=0->0<=v.1/\v.1<(c.Parts.length:Int)):=by
 unfold F123
 have g:=d.Parts
 refine Oi (fun _=>.mk (fun h=>absurd (show(2:Int)=0 from h) (by decide))) (fun _=>?_)
 refine Ob (P:=fun r=>match r with|.inl p=>0<=p.1/\p.1<(c.Parts.length:Int)|.inr _=>True) (bE (l:=c.Parts) (fun q=>q.2) (fun _ _=>True) (by omega) rfl trivial (fun i e q k j hi hl _ hg hw=>?_) (fun q hi _=>?_)) fun r hr=>?_
 .obtain ⟨s,x⟩:=q
  dsimp only at hi hl hg hw
  simp only[hl,hg,nt]
  exact Oi (fun _=>.mk ⟨by dsimp only;omega,hl⟩) (fun _=>.mk ⟨hw,trivial⟩)
 .obtain ⟨s,x⟩:=q
  dsimp only at hi
  simp only[hi,nf]
  exact .mk trivial
 rcases r with⟨a,b⟩|_
 .exact .mk (fun _=>hr)
 .exact .mk (fun h=>absurd (show(2:Int)=0 from h) (by decide))
theorem T124 {a:Zh} {b:Int}:Ok (F124 a b) (fun _=>True):=by
 unfold F124
 refine obT (T125) fun⟨c,d⟩=>?_
 refine obT (T105) fun e=>?_
 exact .mk trivial
theorem T127 {a:Zb} {b:Int}:Ok (F127 a b) (fun _=>True):=by
 unfold F127
 refine obT (T124) fun c=>?_
 exact .mk trivial
theorem T195 {h:List Zb} {k:Int} (e:h.length<=12):Ok (F195 h k) (fun _=>True):=by
 unfold F195
 have g:=e
 refine lpT (l:=h) (fun q=>q) (mT1 e (by decide)) rfl (fun j i m f a c b d=>?_) (fun m a=>?_) fun n=>?_
 .simp only[c,b,nt]
  refine obT (T127) fun o=>?_
  refine Oi (fun c944=>?_) (fun c944=>?_)
  .exact .mk trivial
  exact .mk d
 .simp only[a,nf]
  exact .mk trivial
 rcases n with p|_
 .exact .mk trivial
 .exact .mk trivial
theorem T126 {b:List Zb} {c:Int} (a:b.length<=12):Ok (F126 b c) (fun _=>True):=by
 unfold F126
 refine obT (T195 a) fun d=>?_
 exact .mk trivial
theorem T129 {a:Zd} {b:Int}:Ok (F129 a b) (fun _=>True):=by
 unfold F129
 refine obT (T124) fun c=>?_
 exact .mk trivial
theorem T196 {h:List Zd} {k:Int} (e:h.length<=12):Ok (F196 h k) (fun _=>True):=by
 unfold F196
 have g:=e
 refine lpT (l:=h) (fun q=>q) (mT1 e (by decide)) rfl (fun j i m f a c b d=>?_) (fun m a=>?_) fun n=>?_
 .simp only[c,b,nt]
  refine obT (T129) fun o=>?_
  refine Oi (fun c959=>?_) (fun c959=>?_)
  .exact .mk trivial
  exact .mk d
 .simp only[a,nf]
  exact .mk trivial
 rcases n with p|_
 .exact .mk trivial
 .exact .mk trivial
theorem T128 {b:List Zd} {c:Int} (a:b.length<=12):Ok (F128 b c) (fun _=>True):=by
 unfold F128
 refine obT (T196 a) fun d=>?_
 exact .mk trivial
theorem T122 {l:Zp} {k:Ze} {g:Zk} (a:k.sm) (b:g.s'.sm):Ok (F122 l k g) (fun _=>True):=by
 unfold F122
 refine obT (T121 a) fun p=>?_
 refine Oi (fun c962=>?_) (fun c962=>?_)
 .exact .mk trivial
 refine Ob (T123 b) fun⟨q,s,t⟩ d=>?_
 try dsimp only at d
 refine obT ?_ fun v=>?_
 .refine Oi (fun c965=>?_) (fun c965=>?_)
  .have e:=b.Parts
   refine Ob (P:=fun x=>x∈g.s'.Parts) (bD (by(simp only[nm]at *;omega)) (by(simp only[nm]at *;omega)) (fun _ h _=>h)) fun u c=>?_
   have j:=b.PartsE _ c
   exact .mk trivial
  exact .mk trivial
 refine obT ?_ fun m=>?_
 .refine Oi (fun c971=>?_) (fun c971=>?_)
  .exact .mk trivial
  exact .mk trivial
 refine obT (T126 a.Heads) fun f=>?_
 refine Ob (P:=fun r=>¬r=true->¬f=true) ?_ fun o i=>?_
 .refine Oi (fun _=>.mk (fun h=>absurd rfl h)) (fun c974=>?_)
  refine obT (T128 a.Graces) fun n=>?_
  exact .mk (fun _=>c974)
 exact .mk trivial
theorem Tn119_2 {H:List Zv} {x2:Z0} {x3:Int} (d8:H.length+3000<=1000000) (s:x2.sm):Ok (Fn119_2 H x2 x3) (fun v=>H.length<=v.length/\v.length<=H.length+3000):=by
 unfold Fn119_2
 have W:=s.Measures
 refine og x2.Measures H 3000 300 (mT1 s.Measures (by decide)) (fun b8 F q987 X C h t j c w=>?_) (fun q987 h j=>?_) fun d5 d6=>?_
 .obtain ⟨b0,L⟩:=q987
  dsimp only at h t c w j
  simp only[t,c,nt]
  have y:=s.MeasuresE _ C
  have O:=y.Cells
  refine og F.Cells L 300 60 (mT1 y.Cells (by decide)) (fun b9 G q1001 Y D i u k g x=>?_) (fun q1001 i k=>?_) fun d4 d7=>?_
  .obtain ⟨b4,M⟩:=q1001
   dsimp only at i u g x k
   simp only[u,c,g,nt]
   have l:=y.CellsE _ D
   have P:=l.Voices
   refine og G.Voices M 60 20 (mT1 l.Voices (by decide)) (fun Z B q1015 S z a o d f q=>?_) (fun q1015 a d=>?_) fun d3 b6=>?_
   .obtain ⟨b5,N⟩:=q1015
    dsimp only at a o f q d
    simp only[o,c,g,f,nt]
    have m:=l.VoicesE _ z
    have R:=m.Events
    refine og B.Events N 20 1 (mT1 m.Events (by decide)) (fun a0 U q1029 T A b p e n r=>?_) (fun q1029 b e=>?_) fun d2 b7=>?_
    .obtain ⟨J,K⟩:=q1029
     dsimp only at b p n r e
     simp only[p,c,g,f,n,nt]
     have E:=m.EventsE _ A
     refine obT (T122 E s) fun d0=>?_
     refine Ob (Tn103 (by first|omega|(simp only[mX1]at *;omega)) s) fun d1 V=>?_
     exact .mk ⟨r,by dsimp only;omega⟩
    .obtain ⟨J,K⟩:=q1029
     dsimp only at b e
     simp only[b,nf]
     exact .mk (by dsimp only;omega)
    exact .mk ⟨q,by dsimp only;omega⟩
   .obtain ⟨b5,N⟩:=q1015
    dsimp only at a d
    simp only[a,nf]
    exact .mk (by dsimp only;omega)
   exact .mk ⟨x,by dsimp only;omega⟩
  .obtain ⟨b4,M⟩:=q1001
   dsimp only at i k
   simp only[i,nf]
   exact .mk (by dsimp only;omega)
  exact .mk ⟨w,by dsimp only;omega⟩
 .obtain ⟨b0,L⟩:=q987
  dsimp only at h j
  simp only[h,nf]
  exact .mk (by dsimp only;omega)
 exact .mk (by omega)
theorem Tn55 {a:List Zv} {d:Z0} {f:Int} (e:a.length+3000<=1000000) (c:d.sm):Ok (Fn55 a d f) (fun v=>a.length<=v.length/\v.length<=a.length+3000):=by
 unfold Fn55
 refine Ob (Tn119_2 (by first|omega|(simp only[mX1]at *;omega)) c) fun g b=>?_
 exact .mk (by omega)
theorem T197 {a:Zb}:Ok (F197 a) (fun _=>True):=by
 unfold F197
 exact .mk trivial
theorem T195_2 {j:List Zb} (e:j.length<=12):Ok (F195_2 j) (fun _=>True):=by
 unfold F195_2
 have g:=e
 refine lpT (l:=j) (fun q=>q) (mT1 e (by decide)) rfl (fun i h k f a c b d=>?_) (fun k a=>?_) fun m=>?_
 .simp only[c,b,nt]
  refine obT (T197) fun n=>?_
  refine Oi (fun c1047=>?_) (fun c1047=>?_)
  .exact .mk trivial
  exact .mk d
 .simp only[a,nf]
  exact .mk trivial
 rcases m with o|_
 .exact .mk trivial
 .exact .mk trivial
theorem T126_2 {b:List Zb} (a:b.length<=12):Ok (F126_2 b) (fun _=>True):=by
 unfold F126_2
 refine obT (T195_2 a) fun c=>?_
 exact .mk trivial
theorem T131 {c:Ze} (b:c.sm):Ok (F131 c) (fun _=>True):=by
 unfold F131
 refine Ob (P:=fun r=>r=true->(c.Kind==1)=true) ?_ fun e a=>?_
 .refine Oi (fun c1050=>?_) (fun _=>.mk (fun h=>by cases h))
  refine obT (T126_2 b.Heads) fun d=>?_
  exact .mk (fun _=>c1050)
 exact .mk trivial
theorem T199 {b:Z0} {c d e:Int} (f:b.sm):Ok (F199 b c d e) (fun v=>v.length<=20/\(∀y∈v,y.sm)/\(v=[]\/∃x y z,lget b.Measures c=some x/\lget x.Cells d=some y/\lget y.Voices e=some z/\v=z.Events)):=by
 unfold F199
 refine Ob (P:=fun r=>¬r=true->0<=c/\0<=d/\∃x,lget b.Measures c=some x/\d<(x.Cells.length:Int)) ?_ fun l j=>?_
 .refine Oi (fun _=>.mk (fun h=>absurd rfl h)) (fun hc=>?_)
  simp only[nI1,nA1,pY1]at hc
  exact Ok.bindE (bD (Q:=fun _=>True) (by omega) (by omega) (fun _ _ _=>trivial)) fun x a _=>.mk (fun h=>⟨by omega,by omega,x,a,by simp at h;omega⟩)
 refine Ob (P:=fun r=>¬r=true->∃x y,lget b.Measures c=some x/\lget x.Cells d=some y/\0<=e/\e<(y.Voices.length:Int)) ?_ fun m k=>?_
 .refine Oi (fun _=>.mk (fun h=>absurd rfl h)) (fun hc=>?_)
  simp only[nI1,nA1,pY1]at hc
  obtain⟨h0,h1,x,a,hs⟩:=j hc.1
  rw[a,nC1]
  exact Ok.bindE (bD (Q:=fun _=>True) h1 hs (fun _ _ _=>trivial)) fun y hy _=>.mk (fun h=>⟨x,y,rfl,hy,by omega,by simp at h;omega⟩)
 refine Oi (fun _=>.mk ⟨nY1 _,fun _ h=>(oT1 h).elim,.inl rfl⟩) (fun hc=>?_)
 obtain⟨x,y,a,hy,h0,h1⟩:=k hc
 rw[a,nC1,hy,nC1]
 refine Ok.bindE (bD (Q:=fun _=>True) h0 h1 (fun _ _ _=>trivial)) fun z g _=>?_
 have i:=((f.MeasuresE x (dC a).2.2.1).CellsE y (dC hy).2.2.1).VoicesE z (dC g).2.2.1
 exact .mk ⟨i.Events,i.EventsE,.inr ⟨x,y,z,rfl,hy,g,rfl⟩⟩
theorem T198 {c:Z0} {a:Zp} (d:c.sm):Ok (F198 c a) (fun r=>r=0->a.Kind=4/\0<=a.Event/\∃l,F199 c a.Measure a.Staff a.Voice=some l/\a.Event<(l.length:Int)):=by
 unfold F198
 refine Oi (fun _=>.mk (fun h=>by cases h)) (fun hk=>?_)
 refine Ob (P:=fun r=>¬r=true->0<=a.Event/\∃l,F199 c a.Measure a.Staff a.Voice=some l/\a.Event<(l.length:Int)) (Oi (fun _=>.mk (fun h=>absurd rfl h)) (fun hc=>?_)) fun b hb=>?_
 .exact Ok.bindE (T199 d) fun l hl _=>.mk (fun h=>⟨by simpa using hc,l,hl,by simpa using h⟩)
 exact Oi (fun _=>.mk (fun h=>by cases h)) (fun hc=>.mk (fun _=>⟨by simpa using hk,hb hc⟩))
theorem T200 {a b:Int} {c d:Int}:Ok (F200 a b c d) (fun v=>v.Measure=a):=by
 unfold F200
 exact .mk (by rfl)
theorem T132 {d:Z0} {e:Zp} (b:d.sm):Ok (F132 d e) (fun v=>v.2=true->0<=e.Measure/\e.Measure<(d.Measures.length:Int)/\0<=v.1.Measure/\v.1.Measure<(d.Measures.length:Int)):=by
 unfold F132
 refine Ob (T198 b) fun c hc=>?_
 refine Oi (fun _=>.mk (fun h=>by cases h)) (fun hd=>?_)
 obtain⟨hk,h0,l,hl,j⟩:=hc (by simpa using hd)
 have i:=(T199 b).of hl
 have f:0<=e.Measure/\e.Measure<(d.Measures.length:Int):=by
  rcases i.2.2 with h|⟨x,y,z,hx,_⟩
  .rw [h,mX1]at j;omega
  .have:=dC hx;exact⟨this.1,this.2.1⟩
 rw[hl,nC1]
 refine Oi (fun _=>?_) (fun _=>?_)
 .exact Ob T200 fun a g=>.mk (fun _=>⟨f.1,f.2,by dsimp only;omega,by dsimp only;omega⟩)
 refine Ob (T199 b) fun k h2=>?_
 refine Oi (fun hc=>?_) (fun _=>.mk (fun h=>by cases h))
 refine Ob T200 fun a g=>.mk (fun _=>?_)
 dsimp only at g ⊢
 rcases h2.2.2 with h|⟨x,y,z,hx,_⟩
 .rw [h]at hc;simp at hc
 .have:=dC hx;rw[g];exact⟨f.1,f.2,this.1,this.2.1⟩
theorem Tn73 {b:Ze} (a:b.sm):Ok (Fn73 b) (fun v=>v=(b.Heads,b.Graces,b.Lyrics)):=by
 unfold Fn73
 rw[gD (nQ1 a.Heads (by decide)),gD (nQ1 a.Graces (by decide)),gD (nQ1 a.Lyrics (by decide))]
 exact .mk rfl
theorem T133 {f:Z0} {g:Zp} (a:f.sm):Ok (F133 f g) (fun v=>v.1.sm):=by
 unfold F133
 refine Ob (T198 a) fun c hc=>?_
 refine Oi (fun _=>.mk ⟨nY1 _,nY1 _,nY1 _,fun _ h=>(oT1 h).elim⟩) (fun hd=>?_)
 obtain⟨hk,h0,l,hl,e⟩:=hc (by simpa using hd)
 have d:=(T199 a).of hl
 rw[hl,nC1]
 exact Ob (bD (Q:=fun x=>x.sm) h0 e (fun x b _=>d.2.1 x b)) fun x b=>Ob (Tn73 b) fun y hy=>by subst hy;exact .mk b
theorem T201 {a b:Zb}:Ok (F201 a b) (fun _=>True):=by
 unfold F201
 exact .mk trivial
theorem T195_3 {j:List Zb} {k:Zb} (e:j.length<=12):Ok (F195_3 j k) (fun _=>True):=by
 unfold F195_3
 have g:=e
 refine lpT (l:=j) (fun q=>q) (mT1 e (by decide)) rfl (fun i h m f a c b d=>?_) (fun m a=>?_) fun n=>?_
 .simp only[c,b,nt]
  refine obT (T201) fun o=>?_
  refine Oi (fun c1064=>?_) (fun c1064=>?_)
  .exact .mk trivial
  exact .mk d
 .simp only[a,nf]
  exact .mk trivial
 rcases n with p|_
 .exact .mk trivial
 .exact .mk trivial
theorem T126_3 {b:List Zb} {c:Zb} (a:b.length<=12):Ok (F126_3 b c) (fun _=>True):=by
 unfold F126_3
 refine obT (T195_3 a) fun d=>?_
 exact .mk trivial
theorem T134 {p t:Ze} (g:p.sm) (m:t.sm):Ok (F134 p t) (fun _=>True):=by
 unfold F134
 refine Oi (fun c1066=>?_) (fun c1066=>?_)
 .exact .mk trivial
 have j:=g.Heads
 refine lpT (l:=p.Heads) (fun q=>q) (mT1 g.Heads (by decide)) rfl (fun n e w i a c b d=>?_) (fun w a=>?_) fun s=>?_
 .simp only[c,b,nt]
  refine Ob (P:=fun r=>r=true->e.Tied=true) ?_ fun v f=>?_
  .refine Oi (fun c1079=>?_) (fun _=>.mk (fun h=>by cases h))
   refine Ob (P:=fun r=>r=true->(t.Kind==1)=true) ?_ fun u k=>?_
   .refine Oi (fun c1081=>?_) (fun _=>.mk (fun h=>by cases h))
    refine obT (T126_3 m.Heads) fun x=>?_
    exact .mk (fun _=>c1081)
   exact .mk (fun _=>c1079)
  refine Oi (fun c1083=>?_) (fun c1083=>?_)
  .have o:=f c1083
   exact .mk trivial
  exact .mk d
 .simp only[a,nf]
  exact .mk trivial
 rcases s with _|_
 .exact .mk trivial
 .exact .mk trivial
theorem T130 {i:Zp} {f:Ze} {g:Zk} (c:f.sm) (d:g.s'.sm):Ok (F130 i f g) (fun _=>True):=by
 unfold F130
 refine obT (T131 c) fun l=>?_
 refine Oi (fun c1086=>?_) (fun c1086=>?_)
 .exact .mk trivial
 refine Ob (T132 d) fun⟨m,k⟩ b=>?_
 try dsimp only at b
 refine Ob (T133 d) fun⟨n,o⟩ a=>?_
 try dsimp only at a
 refine Ob (P:=fun r=>¬r=true->¬(!k)=true) ?_ fun j e=>?_
 .refine Oi (fun _=>.mk (fun h=>absurd rfl h)) (fun c1090=>?_)
  refine obT (T134 c a) fun p=>?_
  exact .mk (fun _=>c1090)
 exact .mk trivial
theorem Tn119_3 {H:List Zv} {x2:Z0} {x3:Int} (d8:H.length+3000<=1000000) (y:x2.sm):Ok (Fn119_3 H x2 x3) (fun v=>H.length<=v.length/\v.length<=H.length+3000):=by
 unfold Fn119_3
 have O:=y.Measures
 refine og x2.Measures H 3000 300 (mT1 y.Measures (by decide)) (fun Z D q1103 T z c p g a t=>?_) (fun q1103 c g=>?_) fun d7 b8=>?_
 .obtain ⟨b5,L⟩:=q1103
  dsimp only at c p a t g
  simp only[p,a,nt]
  have l:=y.MeasuresE _ z
  have P:=l.Cells
  refine og D.Cells L 300 60 (mT1 l.Cells (by decide)) (fun a0 E q1117 U A d q h b u=>?_) (fun q1117 d h=>?_) fun d6 b9=>?_
  .obtain ⟨b6,M⟩:=q1117
   dsimp only at d q b u h
   simp only[q,a,b,nt]
   have m:=l.CellsE _ A
   have R:=m.Voices
   refine og E.Voices M 60 20 (mT1 m.Voices (by decide)) (fun b0 F q1131 V B e r i k w=>?_) (fun q1131 e i=>?_) fun d5 d0=>?_
   .obtain ⟨b7,N⟩:=q1131
    dsimp only at e r k w i
    simp only[r,a,b,k,nt]
    have n:=m.VoicesE _ B
    have S:=n.Events
    refine og F.Events N 20 1 (mT1 n.Events (by decide)) (fun b4 X q1145 W C f s j o x=>?_) (fun q1145 f j=>?_) fun d4 d1=>?_
    .obtain ⟨J,K⟩:=q1145
     dsimp only at f s o x j
     simp only[s,a,b,k,o,nt]
     have G:=n.EventsE _ C
     refine obT (T130 G y) fun d2=>?_
     refine Ob (Tn103 (by first|omega|(simp only[mX1]at *;omega)) y) fun d3 Y=>?_
     exact .mk ⟨x,by dsimp only;omega⟩
    .obtain ⟨J,K⟩:=q1145
     dsimp only at f j
     simp only[f,nf]
     exact .mk (by dsimp only;omega)
    exact .mk ⟨w,by dsimp only;omega⟩
   .obtain ⟨b7,N⟩:=q1131
    dsimp only at e i
    simp only[e,nf]
    exact .mk (by dsimp only;omega)
   exact .mk ⟨u,by dsimp only;omega⟩
  .obtain ⟨b6,M⟩:=q1117
   dsimp only at d h
   simp only[d,nf]
   exact .mk (by dsimp only;omega)
  exact .mk ⟨t,by dsimp only;omega⟩
 .obtain ⟨b5,L⟩:=q1103
  dsimp only at c g
  simp only[c,nf]
  exact .mk (by dsimp only;omega)
 exact .mk (by omega)
theorem Tn56 {a:List Zv} {d:Z0} {f:Int} (e:a.length+3000<=1000000) (c:d.sm):Ok (Fn56 a d f) (fun v=>a.length<=v.length/\v.length<=a.length+3000):=by
 unfold Fn56
 refine Ob (Tn119_3 (by first|omega|(simp only[mX1]at *;omega)) c) fun g b=>?_
 exact .mk (by omega)
theorem T202 {a:Ze} {c:Int} (d:a.sm) (e:0<=c):Ok (F202 a c) (fun v=>v=false->c<(a.Lyrics.length:Int)):=by
 unfold F202
 refine Ob (P:=fun r=>r=false->c<(a.Lyrics.length:Int)) (Oi (fun _=>.mk (fun h=>by cases h)) (fun hc=>?_)) fun b hb=>.mk hb
 simp only[nA1]at hc
 exact Ob (bD (Q:=fun _=>True) e (by omega) (fun _ _ _=>trivial)) fun y _=>.mk (fun _=>by omega)
theorem Tn135 {o p v:Int} {E:List (Zp×Bool)} {A:List Zv} {s:Z0} {F:Int} (B:A.length+0<=1000000) (d:s.sm) (D:0<=o) (hy:0<=p) (t:0<=v):Ok (Fn135 o p v E A s F) (fun _=>True):=by
 unfold Fn135
 have H:=d.Measures
 refine Ob (P:=fun _=>True) (bE (l:=s.Measures) (fun q=>q.1) (fun _ _=>True) (by omega) rfl trivial (fun i e q _ g hi hl _ hg hw=>?_) (fun q hi _=>?_)) fun⟨a1,a2,a3,a4,a5,a6,a7⟩ _=>?_
 .obtain ⟨x,k,st,m,n,ev,y,l⟩:=q
  dsimp only at hi hl hg hw
  simp only[hl,hg,nt]
  refine Ob (P:=fun r=>¬r=true->∃y,lget e.Cells o=some y/\p<(y.Voices.length:Int)) (Oi (fun _=>.mk (fun h=>absurd rfl h)) (fun hc=>?_)) fun b hb=>?_
  .simp only[nA1]at hc
   exact Ok.bindE (bD (Q:=fun _=>True) D (by omega) (fun _ _ _=>trivial)) fun y hy _=>.mk (fun h=>⟨y,hy,by simpa using h⟩)
  refine Oi (fun _=>.mk ⟨hw,trivial⟩) (fun hc=>?_)
  obtain⟨c,f,hv⟩:=hb hc
  rw[f,nC1]
  refine Ok.bindE (bD (Q:=fun _=>True) hy hv (fun _ _ _=>trivial)) fun z j _=>?_
  have u:=((d.MeasuresE e g).CellsE c (dC f).2.2.1).VoicesE z (dC j).2.2.1
  have G:=u.Events
  refine Ob (P:=fun _=>True) (bE (l:=z.Events) (fun q=>q.1) (fun _ _=>True) (by omega) rfl trivial (fun i e q _ g hi hl _ hg hw=>?_) (fun q hi _=>?_)) fun⟨a1,a2,a3,a4,a5,a6,a7⟩ _=>.mk ⟨hw,trivial⟩
  .obtain ⟨x,k,st,m,n,ev,y,l⟩:=q
   dsimp only at hi hl hg hw
   simp only[hl,hg,nt]
   refine Ob (T202 (u.EventsE e g) t) fun a C=>?_
   refine Oi (fun _=>.mk ⟨hw,trivial⟩) (fun hc=>?_)
   refine Ob (bD (Q:=fun _=>True) t (C (by simpa using hc)) (fun _ _ _=>trivial)) fun w _=>?_
   refine Ob (P:=fun _=>True) (Oi (fun _=>.mk trivial) (fun _=>.mk trivial)) fun _ _=>?_
   exact Ob (P:=fun _=>True) (Oi (fun _=>.mk trivial) (fun _=>.mk trivial)) fun _ _=>.mk ⟨hw,trivial⟩
  .obtain ⟨x,k,st,m,n,ev,y,l⟩:=q
   dsimp only at hi
   simp only[hi,nf]
   exact .mk trivial
 .obtain ⟨x,k,st,m,n,ev,y,l⟩:=q
  dsimp only at hi
  simp only[hi,nf]
  exact .mk trivial
 exact Ob (P:=fun _=>True) (Oi (fun _=>.mk trivial) (fun _=>.mk trivial)) fun _ _=>.mk trivial
theorem T136 {c:Zp} {a:Ze} {d:List (Zp×Bool)} (b:a.sm):Ok (F136 c a d) (fun _=>True):=by
 unfold F136
 exact .mk trivial
theorem Tn119_4 {x1:List (Zp×Bool)} {K:List Zv} {x3:Z0} {x4:Int} (d8:K.length+3000<=1000000) (y:x3.sm):Ok (Fn119_4 x1 K x3 x4) (fun v=>K.length<=v.length/\v.length<=K.length+3000):=by
 unfold Fn119_4
 have O:=y.Measures
 refine og x3.Measures K 3000 300 (mT1 y.Measures (by decide)) (fun Z D q1162 T z c p g a t=>?_) (fun q1162 c g=>?_) fun d7 b8=>?_
 .obtain ⟨b5,L⟩:=q1162
  dsimp only at c p a t g
  simp only[p,a,nt]
  have l:=y.MeasuresE _ z
  have P:=l.Cells
  refine og D.Cells L 300 60 (mT1 l.Cells (by decide)) (fun a0 E q1176 U A d q h b u=>?_) (fun q1176 d h=>?_) fun d6 b9=>?_
  .obtain ⟨b6,M⟩:=q1176
   dsimp only at d q b u h
   simp only[q,a,b,nt]
   have m:=l.CellsE _ A
   have R:=m.Voices
   refine og E.Voices M 60 20 (mT1 m.Voices (by decide)) (fun b0 F q1190 V B e r i k w=>?_) (fun q1190 e i=>?_) fun d5 d0=>?_
   .obtain ⟨b7,N⟩:=q1190
    dsimp only at e r k w i
    simp only[r,a,b,k,nt]
    have n:=m.VoicesE _ B
    have S:=n.Events
    refine og F.Events N 20 1 (mT1 n.Events (by decide)) (fun b4 X q1204 W C f s j o x=>?_) (fun q1204 f j=>?_) fun d4 d1=>?_
    .obtain ⟨H,J⟩:=q1204
     dsimp only at f s o x j
     simp only[s,a,b,k,o,nt]
     have G:=n.EventsE _ C
     refine obT (T136 G) fun d2=>?_
     refine Ob (Tn103 (by first|omega|(simp only[mX1]at *;omega)) y) fun d3 Y=>?_
     exact .mk ⟨x,by dsimp only;omega⟩
    .obtain ⟨H,J⟩:=q1204
     dsimp only at f j
     simp only[f,nf]
     exact .mk (by dsimp only;omega)
    exact .mk ⟨w,by dsimp only;omega⟩
   .obtain ⟨b7,N⟩:=q1190
    dsimp only at e i
    simp only[e,nf]
    exact .mk (by dsimp only;omega)
   exact .mk ⟨u,by dsimp only;omega⟩
  .obtain ⟨b6,M⟩:=q1176
   dsimp only at d h
   simp only[d,nf]
   exact .mk (by dsimp only;omega)
  exact .mk ⟨t,by dsimp only;omega⟩
 .obtain ⟨b5,L⟩:=q1162
  dsimp only at c g
  simp only[c,nf]
  exact .mk (by dsimp only;omega)
 exact .mk (by omega)
theorem Tn57 {b:List Zv} {f:Z0} {i:Int} (g:b.length+3000<=1000000) (a:f.sm):Ok (Fn57 b f i) (fun v=>b.length<=v.length/\v.length<=b.length+3000):=by
 unfold Fn57
 refine Ob (T75 a) fun n h=>?_
 refine Ob (P:=fun _=>True) (fS (fun q=>q.1) n (fun _=>True) h (by decide) trivial (fun q _ h1 h2=>?_)) fun m _=>?_
 .obtain ⟨x,l⟩:=q
  dsimp only at h1 h2 ⊢
  refine Oi (fun hc=>?_) (fun _=>.mk trivial)
  simp only[nA1]at hc
  refine Ob (P:=fun _=>True) (fS (fun q=>q.1) 2 (fun _=>True) (by decide) (by dsimp only;omega) trivial (fun q _ c g2=>?_)) fun m _=>.mk ⟨hc,h2 hc,trivial⟩
  obtain⟨y,l⟩:=q
  dsimp only at c g2 ⊢
  refine Oi (fun hd=>?_) (fun _=>.mk trivial)
  simp only[nA1]at hd
  refine Ob (P:=fun _=>True) (fS (fun q=>q.1) 4 (fun _=>True) (by decide) (by dsimp only;omega) trivial (fun q _ d e=>?_)) fun m _=>.mk ⟨hd,g2 hd,trivial⟩
  obtain⟨z,l⟩:=q
  dsimp only at d e ⊢
  refine Oi (fun he=>?_) (fun _=>.mk trivial)
  simp only[nA1]at he
  exact Ob (Tn135 (by omega) a h1 c d) fun m _=>.mk ⟨he,e he,trivial⟩
 .exact Ob (Tn119_4 (by omega) a) fun v hv=>.mk (by omega)
theorem Tn80_2 {a:Z0} (b:a.sm):Ok (Fn80_2 a) (fun _=>True):=by
 unfold Fn80_2
 exact .mk trivial
theorem Ty34_13 {e f:Int} {g h:Int} {i j k:Int} {c:Zj} {l:Bool} {a:Zp} {b:Zz} (d:c.sm):Ok (Fy34_13 e f g h i j k c l a b) (fun _=>True):=by
 unfold Fy34_13
 refine Oi (fun c1209=>?_) (fun c1209=>?_)
 .exact .mk trivial
 exact .mk trivial
theorem Ty34_13_2 {c d:Int} {e f:Int} {g h i:Int} {j:Zf} {k:Bool} {a:Zp} {b:Zz}:Ok (Fy34_13_2 c d e f g h i j k a b) (fun _=>True):=by
 unfold Fy34_13_2
 refine Oi (fun c1210=>?_) (fun c1210=>?_)
 .exact .mk trivial
 exact .mk trivial
theorem Ty34_13_3 {e f:Int} {g h:Int} {i j k:Int} {c:Zm} {l:Bool} {a:Zp} {b:Zz} (d:c.sm):Ok (Fy34_13_3 e f g h i j k c l a b) (fun _=>True):=by
 unfold Fy34_13_3
 refine Oi (fun c1211=>?_) (fun c1211=>?_)
 .exact .mk trivial
 exact .mk trivial
theorem Ty34_13_4 {e f:Int} {g h:Int} {i j k:Int} {c:Ze} {l:Bool} {a:Zp} {b:Zz} (d:c.sm):Ok (Fy34_13_4 e f g h i j k c l a b) (fun _=>True):=by
 unfold Fy34_13_4
 refine Oi (fun c1212=>?_) (fun c1212=>?_)
 .exact .mk trivial
 exact .mk trivial
theorem Ty34_13_5 {c d:Int} {e f:Int} {g h i:Int} {j:Zn} {k:Bool} {a:Zp} {b:Zz}:Ok (Fy34_13_5 c d e f g h i j k a b) (fun _=>True):=by
 unfold Fy34_13_5
 refine Oi (fun c1213=>?_) (fun c1213=>?_)
 .exact .mk trivial
 exact .mk trivial
theorem Tn159_2 {m:Z0} {Y:Bool} {Z:Zp} {x4:Zz} (g:m.sm):Ok (Fn159_2 m Y Z x4) (fun v=>match v with|.inl p=>p.Kind=4->0<=p.Event/\m.pl p.Measure p.Staff p.Voice|.inr _=>True):=by
 unfold Fn159_2
 have hP:=g.Parts
 have hM:=g.Measures
 have V:=g.Spanners
 refine Ob (P:=fun r=>match r with|.inl p=>p.1≠4|.inr _=>True) (bE (l:=m.Parts) (fun q=>q.2) (fun _ _=>True) (by omega) rfl trivial (fun i e q E C hi hl _ hg hw=>?_) (fun q hi _=>?_)) fun r hr=>?_
 .obtain ⟨s,x⟩:=q
  dsimp only at hi hl hg hw
  simp only[hl,hg,nt]
  refine Ob (Ty34_13 (g.PartsE e C)) fun r _=>?_
  rcases r with _|_
  .exact .mk (show(1:Int)≠4 by decide)
  have V:=(g.PartsE e C).Staves
  refine Ob (P:=fun _=>True) (bE (l:=e.Staves) (fun q=>q.2) (fun _ _=>True) (by omega) rfl trivial (fun i2 e2 q X W G B _ o D=>?_) (fun q hi _=>?_)) fun r _=>?_
  .obtain ⟨s,y⟩:=q
   dsimp only at G B o D
   simp only[B,o,nt]
   refine Ob Ty34_13_2 fun r _=>?_
   rcases r with _|_
   .exact .mk trivial
   .exact .mk ⟨D,trivial⟩
  .obtain ⟨s,y⟩:=q
   dsimp only at hi
   simp only[hi,nf]
   exact .mk trivial
  rcases r with⟨a,b⟩|a
  .exact .mk (show(2:Int)≠4 by decide)
  .exact .mk ⟨hw,trivial⟩
 .obtain ⟨s,y⟩:=q
  dsimp only at hi
  simp only[hi,nf]
  exact .mk trivial
 rcases r with⟨k,p,st⟩|_
 .exact .mk (fun h=>absurd h hr)
 refine Ob (P:=fun r=>match r with|.inl p=>p.1=4->0<=p.2.2.2.2/\m.pl p.2.2.1 p.2.1 p.2.2.2.1|.inr _=>True) (bE (l:=m.Measures) (fun q=>q) (fun _ _=>True) (by omega) rfl trivial (fun i e q E C hi hl _ hg hw=>?_) (fun q hi _=>?_)) fun r hr=>?_
 .simp only[hl,hg,nt]
  have S:=g.MeasuresE e C
  have hC:=S.Cells
  refine Ob (Ty34_13_3 S) fun r _=>?_
  rcases r with _|_
  .exact .mk (fun h=>absurd (show(3:Int)=4 from h) (by decide))
  refine Ob (P:=fun r=>match r with|.inl p=>0<=p.2.2/\m.pl q p.1 p.2.1|.inr _=>True) (bE (l:=e.Cells) (fun q=>q) (fun _ _=>True) (by omega) rfl trivial (fun j c w E K hj hlc _ z N=>?_) (fun q hi _=>?_)) fun r hr=>?_
  .simp only[hlc,z,nt]
   have T:=S.CellsE c K
   have hV:=T.Voices
   refine Ob (P:=fun r=>match r with|.inl p=>0<=p.2/\m.pl q w p.1|.inr _=>True) (bE (l:=c.Voices) (fun q=>q) (fun _ _=>True) (by omega) rfl trivial (fun k v u E M hk J _ A R=>?_) (fun q hi _=>?_)) fun r hr=>?_
   .simp only[J,A,nt]
    have U:=T.VoicesE v M
    have hE:=U.Events
    refine Ob (P:=fun r=>match r with|.inl x=>0<=x|.inr _=>True) (bE (l:=v.Events) (fun q=>q) (fun _ _=>True) (by omega) rfl trivial (fun n ev t E L ht H _ F O=>?_) (fun q hi _=>?_)) fun r hr=>?_
    .simp only[H,F,nt]
     refine Ob (Ty34_13_4 (U.EventsE ev L)) fun r _=>?_
     rcases r with _|_
     .exact .mk (show(0:Int)<=t by omega)
     .exact .mk ⟨O,trivial⟩
    .simp only[hi,nf]
     exact .mk trivial
    rcases r with x|_
    .exact .mk ⟨hr,e,c,v,hg,z,A⟩
    .exact .mk ⟨R,trivial⟩
   .simp only[hi,nf]
    exact .mk trivial
   rcases r with⟨a,b⟩|_
   .exact .mk hr
   .exact .mk ⟨N,trivial⟩
  .simp only[hi,nf]
   exact .mk trivial
  rcases r with⟨a,b,c⟩|_
  .exact .mk (fun _=>hr)
  .exact .mk ⟨hw,trivial⟩
 .simp only[hi,nf]
  exact .mk trivial
 rcases r with⟨a,b,c,d,f⟩|_
 .exact .mk hr
 refine Ob (P:=fun _=>True) (bE (l:=m.Spanners) (fun q=>q) (fun _ _=>True) (by omega) rfl trivial (fun i e q E C hi hl _ hg hw=>?_) (fun q hi _=>?_)) fun r hr=>?_
 .simp only[hl,hg,nt]
  refine Ob Ty34_13_5 fun r _=>?_
  rcases r with _|_
  .exact .mk trivial
  .exact .mk ⟨hw,trivial⟩
 .simp only[hi,nf]
  exact .mk trivial
 rcases r with x|_
 .exact .mk (fun h=>absurd (show(5:Int)=4 from h) (by decide))
 .exact .mk trivial
theorem T34 {b:Z0} {c:Zz} (a:b.sm):Ok (F34 b c) (fun v=>v.2=true->v.1.Kind=4->0<=v.1.Event/\b.pl v.1.Measure v.1.Staff v.1.Voice):=by
 unfold F34
 refine Oi (fun _=>.mk (fun h=>by cases h)) (fun _=>?_)
 refine Ob (Tn80_2 a) fun _ _=>?_
 refine Ob (Tn159_2 a) fun r hr=>?_
 rcases r with p|_
 .exact .mk (fun _=>hr)
 .exact .mk (fun h=>by cases h)
theorem T262 {a:List Int} (c:a.length<=20):Ok (F262 a) (fun _=>True):=by
 unfold F262
 refine Ob (mH (by omega) (by omega) (by omega)) fun h h2=>?_
 refine Ob (P:=fun v=>v.length=a.length) (fS (fun q=>q.1) (a.length:Int) (fun q=>q.2.length=a.length) (by omega) (by dsimp only;omega) (by rw[h2];simp) (fun q b h1 h2=>?_)) fun v hv=>.mk trivial
 obtain⟨i,l⟩:=q
 dsimp only at b h1 h2 ⊢
 refine Oi (fun hc=>?_) (fun _=>.mk b)
 simp only[nA1]at hc
 rw[bA (n:=i-1) (by omega) (by omega)]
 refine Ob (bK (by omega) (by omega)) fun j e=>?_
 refine Ob (bO (by omega)) fun x _=>?_
 refine Ob (bD (Q:=fun _=>True) (by omega) (by omega) (fun _ _ _=>trivial)) fun y _=>?_
 refine Ob (bK (by omega) (by omega)) fun g d=>?_
 exact Ob (cW1 (by omega)) fun m f=>.mk ⟨hc,h2 hc,by dsimp only;omega⟩
theorem T246 {c:Zo} {d:Int} (b:c.sm):Ok (F246 c d) (fun _=>True):=by
 unfold F246
 refine Ob (T241 b) fun⟨e,f⟩ a=>?_
 try dsimp only at a
 refine Oi (fun c1215=>?_) (fun c1215=>?_)
 .exact .mk trivial
 refine obT (T262 a) fun g=>?_
 exact .mk trivial
theorem T203 {i:Zk} {k:Zz} (c:i.s'.sm):Ok (F203 i k) (fun _=>True):=by
 unfold F203
 refine Ob (T34 c) fun⟨p,f⟩ hp=>?_
 dsimp only at hp
 refine Oi (fun _=>.mk trivial) (fun hc=>?_)
 simp only[nI1,pY1,nM1,Bool.not_eq_false,bne_iff_ne,ne_eq,Decidable.not_not]at hc
 obtain⟨h0,x,y,z,d,hy,g⟩:=hp hc.1 hc.2
 simp only[d,hy,g,nC1]
 have h:=c.MeasuresE x (dC d).2.2.1
 have j:=(h.CellsE y (dC hy).2.2.1).VoicesE z (dC g).2.2.1
 refine Ob (T113 h) fun⟨a,b⟩ _=>?_
 refine Ob (T246 j) fun⟨on,e⟩ _=>?_
 refine Oi (fun _=>.mk trivial) (fun hd=>?_)
 simp only[nA1]at hd
 exact Ob (bD (Q:=fun _=>True) h0 (by dsimp only at hd ⊢;omega) (fun _ _ _=>trivial)) fun w _=>.mk trivial
theorem T263 {a b:Int}:Ok (F263 a b) (fun _=>True):=by
 unfold F263
 exact .mk trivial
theorem T247 {g:Zq}:Ok (F247 g) (fun _=>True):=by
 unfold F247
 refine obT (T263) fun i=>?_
 refine Ob (P:=fun r=>r=true->i=true) ?_ fun j a=>?_
 .refine Oi (fun c1219=>?_) (fun _=>.mk (fun h=>by cases h))
  refine obT (T263) fun l=>?_
  exact .mk (fun _=>c1219)
 refine Ob (P:=fun r=>r=true->j=true) ?_ fun k b=>?_
 .refine Oi (fun c1222=>?_) (fun _=>.mk (fun h=>by cases h))
  have e:=a c1222
  refine obT (T263) fun m=>?_
  exact .mk (fun _=>c1222)
 refine Ob (P:=fun r=>r=true->k=true) ?_ fun o d=>?_
 .refine Oi (fun c1226=>?_) (fun _=>.mk (fun h=>by cases h))
  have c:=b c1226
  have f:=a c
  refine obT (T263) fun n=>?_
  exact .mk (fun _=>c1226)
 exact .mk trivial
theorem T248 {a:Int}:Ok (F248 a) (fun _=>True):=by
 unfold F248
 exact .mk trivial
theorem T272 {a:Int}:Ok (F272 a) (fun _=>True):=by
 unfold F272
 exact .mk trivial
theorem T265 {a b:Int}:Ok (F265 a b) (fun _=>True):=by
 unfold F265
 refine obT (T272) fun c=>?_
 refine obT (T272) fun d=>?_
 refine Oi (fun c1232=>?_) (fun c1232=>?_)
 .refine Oi (fun c1233=>?_) (fun c1233=>?_)
  .exact .mk trivial
  exact .mk trivial
 refine Oi (fun c1234=>?_) (fun c1234=>?_)
 .exact .mk trivial
 refine Oi (fun c1235=>?_) (fun c1235=>?_)
 .exact .mk trivial
 refine Oi (fun c1236=>?_) (fun c1236=>?_)
 .exact .mk trivial
 exact .mk trivial
theorem T264 {j:List Int} (e:j.length<=20):Ok (F264 j) (fun _=>True):=by
 unfold F264
 have g:=e
 refine lpT (l:=j) (fun q=>q) (mT1 e (by decide)) rfl (fun i h k f a c b d=>?_) (fun k a=>?_) fun m=>?_
 .simp only[c,b,nt]
  refine Oi (fun c1248=>?_) (fun c1248=>?_)
  .exact .mk trivial
  exact .mk d
 .simp only[a,nf]
  exact .mk trivial
 rcases m with n|_
 .exact .mk trivial
 .exact .mk trivial
theorem T249 {a b:Zq}:Ok (F249 a b) (fun _=>True):=by
 unfold F249
 refine obT (T265) fun c=>?_
 refine obT (T265) fun d=>?_
 refine obT (T264 (by simp)) fun e=>?_
 exact .mk trivial
theorem T204 {e:Zs}:Ok (F204 e) (fun _=>True):=by
 unfold F204
 refine Oi (fun c1252=>?_) (fun c1252=>?_)
 .exact .mk trivial
 refine obT (T247) fun f=>?_
 refine Ob (P:=fun r=>¬r=true->¬(!f)=true) ?_ fun i a=>?_
 .refine Oi (fun _=>.mk (fun h=>absurd rfl h)) (fun c1255=>?_)
  refine obT (T247) fun g=>?_
  exact .mk (fun _=>c1255)
 refine Oi (fun c1257=>?_) (fun c1257=>?_)
 .exact .mk trivial
 have c:=a c1257
 refine Ob (P:=fun r=>¬r=true->¬(e.From.Staff !=e.To.Staff)=true) ?_ fun k b=>?_
 .refine Oi (fun _=>.mk (fun h=>absurd rfl h)) (fun c1260=>?_)
  refine obT (T248) fun j=>?_
  exact .mk (fun _=>c1260)
 refine Oi (fun c1262=>?_) (fun c1262=>?_)
 .exact .mk trivial
 have d:=b c1262
 refine obT (T249) fun l=>?_
 refine Oi (fun c1265=>?_) (fun c1265=>?_)
 .exact .mk trivial
 exact .mk trivial
theorem Tn137 {j:List Zv} {d:Z0} {m:Int} (k:j.length+0<=1000000) (c:d.sm):Ok (Fn137 j d m) (fun v=>v.1.length=d.Spanners.length/\v.2.length=d.Spanners.length):=by
 unfold Fn137
 have p:=c.Spanners
 refine Ob (P:=fun v=>v.1.length=d.Spanners.length/\v.2.length=d.Spanners.length) (bE (l:=d.Spanners) (fun q=>q.1) (fun i q=>q.2.1.length=i/\q.2.2.length=i) (by omega) rfl ⟨rfl,rfl⟩ (fun i e q s r hi hl f hg hw=>?_) (fun q hi f=>?_)) fun⟨a,b⟩ hv=>.mk hv
 .obtain ⟨x,g,h⟩:=q
  dsimp only at hi hl f hg hw
  simp only[hl,hg,nt]
  refine Ob (T203 c) fun⟨p1,n⟩ _=>?_
  refine Ob (T203 c) fun⟨p2,o⟩ _=>?_
  refine Ob (dF (Q:=fun v=>v.length=h.length+1) (by omega) (by simp)) fun t h1=>?_
  refine Ob (P:=fun _=>True) (Oi (fun _=>.mk trivial) (fun _=>Ob T204 fun _ _=>.mk trivial)) fun b _=>?_
  exact Ob (dF (Q:=fun v=>v.length=g.length+1) (by omega) (by simp)) fun u h2=>.mk ⟨hw,by dsimp only;omega,by dsimp only;omega⟩
 .obtain ⟨x,g,h⟩:=q
  dsimp only at hi f
  simp only[hi,nf]
  exact .mk f
theorem Tn58 {c:List Zv} {h:Z0} {n:Int} (k:c.length+10<=1000000) (d:h.sm):Ok (Fn58 c h n) (fun v=>c.length<=v.length/\v.length<=c.length+10):=by
 unfold Fn58
 have o:=d.Spanners
 refine Ob (Tn137 (by omega) d) fun⟨a,b⟩ g=>?_
 dsimp only at g
 refine Ob (P:=fun v=>c.length<=v.length/\v.length<=c.length+10) (bE (l:=h.Spanners) (fun q=>q.1) (fun i q=>c.length<=q.2.length/\q.2.length<=c.length+i) (by omega) rfl (by dsimp only;omega) (fun i e q r p hi hl f hg hw=>?_) (fun q hi f=>?_)) fun v hv=>.mk (by omega)
 .obtain ⟨x,l⟩:=q
  dsimp only at hi hl f hg hw
  simp only[hl,hg,nt]
  refine Ob (bK (by omega) (by omega)) fun j m=>?_
  refine Ob (bO m.2) fun y _=>?_
  exact Ob (Tn103 (by omega) d) fun v hv=>.mk ⟨hw,by dsimp only;omega⟩
 .obtain ⟨x,l⟩:=q
  dsimp only at hi f
  simp only[hi,nf]
  exact .mk (by omega)
theorem T250 {b:Int}:Ok (F250 b) (fun v=>v>0->1<=b/\b<=7):=by
 unfold F250
 refine Oi (fun c1266=>?_) (fun c1266=>?_)
 .exact .mk (by omega)
 refine Ob (bD (Q:=fun _=>True) (by(simp only[nm]at *;rw[bA (by omega) (by omega)];omega)) (by(simp only[nm,nl]at *;rw[bA (by omega) (by omega)];omega)) (fun _ _ _=>trivial)) fun c a=>?_
 exact .mk (by(simp only[nm]at *;omega))
theorem T205 {a c:Zs}:Ok (F205 a c) (fun v=>v=true->1<=a.Kind/\a.Kind<=7):=by
 unfold F205
 refine Ob T250 fun f hf=>?_
 refine Ob (P:=fun r=>r=true->1<=a.Kind/\a.Kind<=7) (Oi (fun hc=>?_) (fun _=>.mk (fun h=>by cases h))) fun b hb=>?_
 .simp only[nA1]at hc
  have:=hf hc
  exact Ob T250 fun _ _=>Ob T250 fun _ _=>.mk (fun _=>this)
 refine Ob (P:=fun r=>r=true->1<=a.Kind/\a.Kind<=7) (Oi (fun hc=>?_) (fun _=>.mk (fun h=>by cases h))) fun b hb=>.mk hb
 simp only[mQ1]at hc
 have:=hb hc.1
 exact Ob T248 fun _ _=>.mk (fun _=>this)
theorem T209 {b c:Zs}:Ok (F209 b c) (fun _=>True):=by
 unfold F209
 refine obT (T249) fun d=>?_
 refine Ob (P:=fun r=>¬r=true->¬(decide (d<0))=true) ?_ fun f a=>?_
 .refine Oi (fun _=>.mk (fun h=>absurd rfl h)) (fun c1270=>?_)
  refine obT (T249) fun e=>?_
  exact .mk (fun _=>c1270)
 exact .mk trivial
theorem T208 {a b:Zs}:Ok (F208 a b) (fun _=>True):=by
 unfold F208
 refine obT (T209) fun c=>?_
 exact .mk trivial
theorem T207 {b c:Zs}:Ok (F207 b c) (fun _=>True):=by
 unfold F207
 refine obT (T249) fun d=>?_
 refine Ob (P:=fun r=>¬r=true->¬(decide (d<=0))=true) ?_ fun f a=>?_
 .refine Oi (fun _=>.mk (fun h=>absurd rfl h)) (fun c1275=>?_)
  refine obT (T249) fun e=>?_
  exact .mk (fun _=>c1275)
 exact .mk trivial
theorem T206 {a b:Zs}:Ok (F206 a b) (fun _=>True):=by
 unfold F206
 refine obT (T207) fun c=>?_
 exact .mk trivial
theorem T251 {b c:Zs}:Ok (F251 b c) (fun _=>True):=by
 unfold F251
 refine obT (T249) fun d=>?_
 refine Ob (P:=fun r=>r=true->(decide (d>=0))=true) ?_ fun f a=>?_
 .refine Oi (fun c1280=>?_) (fun _=>.mk (fun h=>by cases h))
  refine obT (T249) fun e=>?_
  exact .mk (fun _=>c1280)
 exact .mk trivial
theorem T210 {b c:Zs}:Ok (F210 b c) (fun _=>True):=by
 unfold F210
 refine obT (T207) fun d=>?_
 refine Ob (P:=fun r=>r=true->(!d)=true) ?_ fun g a=>?_
 .refine Oi (fun c1284=>?_) (fun _=>.mk (fun h=>by cases h))
  refine obT (T251) fun e=>?_
  refine obT (T251) fun f=>?_
  exact .mk (fun _=>c1284)
 exact .mk trivial
theorem T138 {a f:Zs}:Ok (F138 a f) (fun _=>True):=by
 unfold F138
 refine Ob T205 fun g hg=>?_
 refine Oi (fun _=>.mk trivial) (fun hc=>?_)
 have hk:=hg (by simpa using hc)
 rw[bA (n:=a.Kind-1) (by omega) (by omega)]
 refine Oi (fun _=>Ob T208 fun _ _=>.mk trivial) (fun e=>?_)
 refine Oi (fun _=>Ob T206 fun _ _=>.mk trivial) (fun d=>?_)
 refine Oi (fun _=>Ob T208 fun _ _=>.mk trivial) (fun c=>?_)
 refine Oi (fun _=>Ob T208 fun _ _=>.mk trivial) (fun b=>?_)
 refine Oi (fun _=>Ob T206 fun _ _=>.mk trivial) (fun h2=>?_)
 refine Oi (fun _=>Ob T206 fun _ _=>.mk trivial) (fun h1=>?_)
 refine Oi (fun _=>Ob T210 fun _ _=>.mk trivial) (fun h0=>?_)
 simp only[oQ1]at h0 h1 h2 b c d e
 omega
theorem Tn59 {c:List Zv} {o:Z0} {s:Int} (p:c.length+10<=1000000) (d:o.sm):Ok (Fn59 c o s) (fun v=>c.length<=v.length/\v.length<=c.length+10):=by
 unfold Fn59
 have t:=d.Spanners
 refine Ob (Tn137 (by omega) d) fun⟨a,b⟩ m=>?_
 dsimp only at m
 refine Ob (P:=fun v=>c.length<=v.length/\v.length<=c.length+10) (bE (l:=o.Spanners) (fun q=>q.1) (fun i q=>c.length<=q.2.length/\q.2.length<=c.length+i) (by omega) rfl (by dsimp only;omega) (fun i e q w u hi hl g hg hw=>?_) (fun q hi g=>?_)) fun v hv=>.mk (by omega)
 .obtain ⟨x,l⟩:=q
  dsimp only at hi hl g hg hw
  simp only[hl,hg,nt]
  refine Ob (P:=fun _=>True) (fS (fun q=>q.2) x (fun _=>True) (by omega) (by dsimp only;omega) trivial (fun q _ h1 h2=>?_)) fun b _=>?_
  .obtain ⟨ex,k⟩:=q
   dsimp only at h1 h2 ⊢
   refine Ob (P:=fun r=>r=true->k<x) (Oi (fun hc=>?_) (fun _=>.mk (fun h=>by cases h))) fun b hb=>?_
   .simp only[nA1]at hc
    exact Ob (bK (by omega) (by omega)) fun j f=>Ob (bO f.2) fun y _=>.mk (fun _=>hc)
   refine Oi (fun hc=>?_) (fun _=>.mk trivial)
   simp only[mQ1]at hc
   have hk:=hb hc.1
   refine Ob (bK (by omega) (by omega)) fun j f=>Ob (bO f.2) fun y _=>?_
   refine Ob (P:=fun _=>True) (Oi (fun _=>?_) (fun _=>.mk trivial)) fun b _=>.mk ⟨hk,h2 hk,trivial⟩
   exact Ob (bK (by omega) (by omega)) fun j f=>Ob (bO f.2) fun A _=>Ob (bK (by omega) (by omega)) fun z n=>Ob (bO n.2) fun B _=>Ob T138 fun b _=>.mk trivial
  exact Ob (Tn103 (by omega) d) fun v hv=>.mk ⟨hw,by dsimp only;omega⟩
 .obtain ⟨x,l⟩:=q
  dsimp only at hi g
  simp only[hi,nf]
  exact .mk (by omega)
theorem T139 {d:Int} {a:Zm} (c:a.sm):Ok (F139 d a) (fun v=>v=false->a.RepeatEnd<=8):=by
 unfold F139
 simp only[E103,nC1]
 refine Ob (P:=fun r=>r=false->a.RepeatEnd<=8) (Oi (fun hc=>.mk (fun h=>?_)) (fun hc=>.mk (fun _=>?_))) fun b hb=>?_
 .simp at h;omega
 .simp at hc;omega
 exact Ob (P:=fun r=>r=false->a.RepeatEnd<=8) (Oi (fun hc=>.mk (fun h=>by cases h)) (fun hc=>.mk (fun _=>hb (by simpa using hc)))) fun b hb=>.mk hb
theorem Tn109_6 {a:List Zv} {d:Z0} {s:Int} (p:a.length+10<=1000000) (f:d.sm):Ok (Fn109_6 a d s) (fun v=>(a.length<=v.length/\v.length<=a.length+10)/\(v.length<=a.length->∀m∈d.Measures,m.RepeatEnd<=8)):=by
 unfold Fn109_6
 have t:=f.Measures
 refine Ob (P:=fun v=>(a.length<=v.length/\v.length<=a.length+10)/\(v.length<=a.length->∀m∈d.Measures,m.RepeatEnd<=8)) (bE (l:=d.Measures) (fun q=>q.1) (fun i q=>q.2.length<=a.length+i/\a.length<=q.2.length/\(q.2.length<=a.length->∀j,j<i->∀m,d.Measures[j]? =some m->m.RepeatEnd<=8)) (by omega) rfl ⟨by dsimp only;omega,mU1 _,fun _ j k=>by omega⟩ (fun i e q r o hi hl g hg hw=>?_) (fun q hi g=>?_)) fun v hv=>.mk hv
 .obtain ⟨x,l⟩:=q
  dsimp only at hi hl g hg hw
  simp only[hl,hg,nt]
  refine Ob (T139 (f.MeasuresE e o)) fun b hb=>?_
  refine Ob (S101 (by omega)) fun v hv=>.mk ⟨hw,?_,?_,fun h j k m c=>?_⟩
  .dsimp only;cases b<;>simp at hv<;>omega
  .dsimp only;cases b<;>simp at hv<;>omega
  .dsimp only at h
   cases b with
   |true=>simp at hv;omega
   |false=>
    simp only[nD1,false_implies,forall_const,true_and]at hv
    by_cases n:j=i
    .subst n;rw[r]at c;cases c;exact hb rfl
    .exact g.2.2 (by omega) j (by omega) m c
 .obtain ⟨x,l⟩:=q
  dsimp only at hi g
  simp only[hi,nf]
  refine .mk ⟨⟨by omega,by omega⟩,fun h m o=>?_⟩
  obtain⟨j,k⟩:=nJ1.1 o
  exact g.2.2 h j (mS1.1 k).1 m k
theorem T267 {e:Int}:Ok (F267 e) (fun v=>0<=v/\v<=1000):=by
 unfold F267
 refine Ob (P:=fun v=>0<=v.2/\v.2<=32) (Oi (fun _=>Ob (oQ (by decide)) fun n _=>.mk (by dsimp only;omega)) (fun _=>.mk (by dsimp only;omega))) fun⟨h,i⟩ c=>?_
 dsimp only at c
 refine Ob (P:=fun v=>0<=v.2/\v.2<=48) (Oi (fun _=>Ob (oQ (by decide)) fun n _=>.mk (by dsimp only;rw[bA (by omega) (by omega)];omega)) (fun _=>.mk (by dsimp only;omega))) fun⟨j,k⟩ d=>?_
 dsimp only at d
 refine Ob (P:=fun v=>0<=v.2/\v.2<=56) (Oi (fun _=>Ob (oQ (by decide)) fun n _=>.mk (by dsimp only;rw[bA (by omega) (by omega)];omega)) (fun _=>.mk (by dsimp only;omega))) fun⟨g,f⟩ a=>?_
 dsimp only at a
 have hw:=lQ1 g
 refine Ob (oR hw.1 hw.2) fun b hb=>.mk ?_
 rw[bA (n:=b) (by omega) (by omega),bA (by omega) (by omega)]
 omega
theorem T252 {b:Int}:Ok (F252 b) (fun v=>0<=v/\v<=1000):=by
 unfold F252
 refine Ob (T267) fun c a=>?_
 exact .mk (by omega)
theorem T141 {c:Zg} (d:c.passes<=1000):Ok (F141 c) (fun _=>True):=by
 unfold F141
 refine Ob (P:=fun r=>r=true->(decide (c.passes>0))=true) ?_ fun f a=>?_
 .refine Oi (fun c1289=>?_) (fun _=>.mk (fun h=>by cases h))
  refine Ob (cV1 (by(simp only[nm]at *;rw[bA (by omega) (by omega)];omega))) fun e b=>?_
  exact .mk (fun _=>c1289)
 exact .mk trivial
theorem T211 {a:Zg} {f:Zm} (x:f.sm) (G:a.passes<=8) (hy:f.RepeatEnd<=8):Ok (F211 a f) (fun v=>v.1.passes<=8):=by
 unfold F211
 refine Oi (fun c1291=>?_) (fun c1291=>?_)
 .exact .mk (by omega)
 refine Oi (fun c1292=>?_) (fun c1292=>?_)
 .refine Oi (fun c1293=>?_) (fun c1293=>?_)
  .exact .mk (by omega)
  refine Ob (T252) fun w g=>?_
  refine Oi (fun c1295=>?_) (fun c1295=>?_)
  .refine Oi (fun c1296=>?_) (fun c1296=>?_)
   .exact .mk (by omega)
   refine Oi (fun c1297=>?_) (fun c1297=>?_)
   .refine obT (T141 (by(simp only[nm]at *;omega))) fun E=>?_
    refine Ob (P:=fun r=>¬r=true->¬(E||((a.passes !=0)&&(f.RepeatEnd !=a.passes)))=true) ?_ fun J b=>?_
    .refine Oi (fun _=>.mk (fun h=>absurd rfl h)) (fun c1300=>?_)
     refine Ob (T252) fun H i=>?_
     exact .mk (fun _=>c1300)
    refine Oi (fun c1302=>?_) (fun c1302=>?_)
    .exact .mk (by omega)
    have o:=b c1302
    exact .mk (by omega)
   exact .mk (by omega)
  refine Ob (P:=fun r=>¬r=true->¬(decide ((w64 (w-1))>=a.passes))=true) ?_ fun z c=>?_
  .refine Oi (fun _=>.mk (fun h=>absurd rfl h)) (fun c1305=>?_)
   refine Ob (P:=fun r=>r=true->((w64 (w-1))==(w64 (a.passes-1)))=true) ?_ fun y j=>?_
   .refine Oi (fun c1307=>?_) (fun _=>.mk (fun h=>by cases h))
    refine obT (T141 (by(simp only[nm]at *;omega))) fun F=>?_
    refine Ob (P:=fun r=>¬r=true->¬(!F)=true) ?_ fun L k=>?_
    .refine Oi (fun _=>.mk (fun h=>absurd rfl h)) (fun c1310=>?_)
     refine Ob (cV1 (by(simp(disch:=omega) only[bA,nm]at *;omega))) fun K l=>?_
     exact .mk (fun _=>c1310)
    exact .mk (fun _=>c1307)
   exact .mk (fun _=>c1305)
  refine Oi (fun c1312=>?_) (fun c1312=>?_)
  .exact .mk (by omega)
  have p:=c c1312
  refine Oi (fun c1314=>?_) (fun c1314=>?_)
  .refine obT (T141 (by(simp only[nm]at *;omega))) fun t=>?_
   refine Ob (P:=fun r=>¬r=true->¬(t||((a.passes !=0)&&(f.RepeatEnd !=a.passes)))=true) ?_ fun B d=>?_
   .refine Oi (fun _=>.mk (fun h=>absurd rfl h)) (fun c1317=>?_)
    refine Ob (T252) fun A m=>?_
    exact .mk (fun _=>c1317)
   refine Oi (fun c1319=>?_) (fun c1319=>?_)
   .exact .mk (by omega)
   have q:=d c1319
   exact .mk (by omega)
  exact .mk (by omega)
 refine Oi (fun c1321=>?_) (fun c1321=>?_)
 .exact .mk (by omega)
 refine Oi (fun c1322=>?_) (fun c1322=>?_)
 .refine obT (T141 (by omega)) fun u=>?_
  refine Ob (P:=fun r=>¬r=true->¬(u||((a.passes !=0)&&(f.RepeatEnd !=a.passes)))=true) ?_ fun D e=>?_
  .refine Oi (fun _=>.mk (fun h=>absurd rfl h)) (fun c1325=>?_)
   refine Ob (T252) fun C n=>?_
   exact .mk (fun _=>c1325)
  refine Oi (fun c1327=>?_) (fun c1327=>?_)
  .exact .mk (by omega)
  have s:=e c1327
  exact .mk (by omega)
 exact .mk (by omega)
theorem T140 {i:Zg} {e:Zm} (d:e.sm) (c:i.passes<=8) (hy:e.RepeatEnd<=8):Ok (F140 i e) (fun v=>v.1.passes<=8):=by
 unfold F140
 refine Oi (fun _=>Ob (T211 d c hy) fun⟨a,b⟩ h=>.mk h) (fun _=>?_)
 refine Oi (fun _=>?_) (fun _=>?_)
 .refine Ob (T141 (by omega)) fun f _=>?_
  refine Oi (fun _=>.mk c) (fun _=>?_)
  refine Oi (fun _=>Oi (fun h=>by cases h) (fun _=>?_)) (fun _=>?_)
  .exact Ob (P:=fun _=>True) (Oi (fun _=>.mk trivial) (fun _=>.mk trivial)) fun⟨a,b⟩ _=>.mk (show(0:Int)<=8 by decide)
  .exact Ob (P:=fun _=>True) (Oi (fun _=>.mk trivial) (fun _=>.mk trivial)) fun a _=>.mk (show(0:Int)<=8 by decide)
 .refine Oi (fun _=>Oi (fun _=>.mk c) (fun _=>?_)) (fun _=>?_)
  .exact Ob (P:=fun _=>True) (Oi (fun _=>.mk trivial) (fun _=>.mk trivial)) fun⟨a,b⟩ _=>.mk (show(0:Int)<=8 by decide)
  .exact Ob (P:=fun g=>g.passes<=8) (Oi (fun _=>.mk (show(0:Int)<=8 by decide)) (fun _=>.mk c)) fun g hg=>.mk hg
theorem Tn60 {f:List Zv} {h:Z0} {u:Int} (n:f.length+21<=1000000) (c:h.sm) (t:0<h.Measures.length):Ok (Fn60 f h u) (fun v=>f.length<=v.length/\v.length<=f.length+21):=by
 unfold Fn60
 have w:=c.Measures
 refine Ob (Tn109_6 (by omega) c) fun m j=>?_
 refine Oi (fun _=>.mk (by omega)) (fun hc=>?_)
 simp only[nA1]at hc
 have s:=j.2 (by omega)
 have o:=j.1
 refine Ob (P:=fun r=>match r with|.inl p=>m.length<=p.2.length/\p.2.length<=m.length+1|.inr g=>g.passes<=8) (bE (l:=h.Measures) (fun q=>q.1) (fun i q=>q.2.passes<=8) (by omega) rfl (show(0:Int)<=8 by decide) (fun i e q t k hi hl d hg hw=>?_) (fun q hi d=>?_)) fun r hr=>?_
 .obtain ⟨x,g⟩:=q
  dsimp only at hi hl d hg hw
  simp only[hl,hg,nt]
  refine Ob (T140 (c.MeasuresE e k) d (s e k)) fun⟨g2,b⟩ hb=>?_
  refine Oi (fun _=>?_) (fun _=>.mk ⟨hw,hb⟩)
  exact Ob (Tn103 (by omega) c) fun v hv=>.mk (by dsimp only;omega)
 .obtain ⟨x,g⟩:=q
  dsimp only at hi d
  simp only[hi,nf]
  exact .mk d
 rcases r with⟨a,v⟩|g
 .exact .mk (by dsimp only at hr;omega)
 dsimp only at hr
 refine Ob (P:=fun _=>True) (Oi (fun _=>.mk trivial) (fun _=>?_)) fun b _=>?_
 .exact Ob (P:=fun _=>True) (Oi (fun _=>Ob (T141 (by omega)) fun _ _=>.mk trivial) (fun _=>.mk trivial)) fun _ _=>.mk trivial
 refine Ob (bD (Q:=fun _=>True) (by rw[bA (by omega) (by omega)];omega) (by rw[bA (by omega) (by omega)];omega) (fun _ _ _=>trivial)) fun y _=>?_
 exact Ob (Tn103 (by omega) c) fun v hv=>.mk (by omega)
theorem T143 {a b:Zm} (c:a.sm) (d:b.sm):Ok (F143 a b) (fun _=>True):=by
 unfold F143
 exact .mk trivial
theorem T212 {j:List Zm} {o:Zm} (g:j.length<=10) (h:∀y∈j,y.sm) (m:o.sm):Ok (F212 j o) (fun _=>True):=by
 unfold F212
 have i:=g
 refine lpT (l:=j) (fun q=>q) (mT1 g (by decide)) rfl (fun n k p d a c b e=>?_) (fun p a=>?_) fun r=>?_
 .simp only[c,b,nt]
  have f:=h _ d
  refine obT (T143 f m) fun s=>?_
  refine Oi (fun c1342=>?_) (fun c1342=>?_)
  .exact .mk trivial
  exact .mk e
 .simp only[a,nf]
  exact .mk trivial
 rcases r with t|_
 .exact .mk trivial
 .exact .mk trivial
theorem T144 {d:List Zm} {e:Zm} (b:d.length<=10) (a:∀y∈d,y.sm) (c:e.sm):Ok (F144 d e) (fun _=>True):=by
 unfold F144
 refine obT (T212 b a c) fun f=>?_
 exact .mk trivial
theorem T253 {a:Zm} {c:Int} (b:a.sm):Ok (F253 a c) (fun _=>True):=by
 unfold F253
 exact .mk trivial
theorem T212_2 {j:List Zm} {n:Int} (g:j.length<=10) (h:∀y∈j,y.sm):Ok (F212_2 j n) (fun _=>True):=by
 unfold F212_2
 have i:=g
 refine lpT (l:=j) (fun q=>q) (mT1 g (by decide)) rfl (fun m k o d a c b e=>?_) (fun o a=>?_) fun p=>?_
 .simp only[c,b,nt]
  have f:=h _ d
  refine obT (T253 f) fun r=>?_
  refine Oi (fun c1357=>?_) (fun c1357=>?_)
  .exact .mk trivial
  exact .mk e
 .simp only[a,nf]
  exact .mk trivial
 rcases p with s|_
 .exact .mk trivial
 .exact .mk trivial
theorem T214 {b:Zk} {c:Int} (a:b.s'.sm):Ok (F214 b c) (fun _=>True):=by
 unfold F214
 refine obT (T212_2 a.Measures a.MeasuresE) fun d=>?_
 exact .mk trivial
theorem T213 {c:Int} {b:Zk} {d:Int} (a:b.s'.sm):Ok (F213 c b d) (fun _=>True):=by
 unfold F213
 refine obT (T214 a) fun e=>?_
 refine obT (T105) fun f=>?_
 exact .mk trivial
theorem T145 {e:Zk} {f k:Int} (a:e.s'.sm):Ok (F145 e f k) (fun _=>True):=by
 unfold F145
 refine Ob (P:=fun r=>r=true->(decide (f>=4))=true) ?_ fun n b=>?_
 .refine Oi (fun c1362=>?_) (fun _=>.mk (fun h=>by cases h))
  refine obT (T213 a) fun m=>?_
  exact .mk (fun _=>c1362)
 refine Oi (fun c1364=>?_) (fun c1364=>?_)
 .have d:=b c1364
  exact .mk trivial
 refine obT ?_ fun o=>?_
 .refine Oi (fun c1367=>?_) (fun c1367=>?_)
  .exact .mk trivial
  exact .mk trivial
 refine Oi (fun c1368=>?_) (fun c1368=>?_)
 .refine obT (T213 a) fun p=>?_
  exact .mk trivial
 refine obT ?_ fun q=>?_
 .refine Oi (fun c1371=>?_) (fun c1371=>?_)
  .exact .mk trivial
  exact .mk trivial
 refine Oi (fun c1372=>?_) (fun c1372=>?_)
 .refine obT (T213 a) fun l=>?_
  refine Ob (P:=fun r=>r=true->l=true) ?_ fun j c=>?_
  .refine Oi (fun c1375=>?_) (fun _=>.mk (fun h=>by cases h))
   refine obT (T214 a) fun g=>?_
   refine obT (T214 a) fun i=>?_
   exact .mk (fun _=>c1375)
  exact .mk trivial
 exact .mk trivial
theorem T142 {e:Int} {h:Zm} {f:Zk} (d:h.sm) (a:f.s'.sm) (g:0<=e/\e<=(f.s'.Measures.length:Int)):Ok (F142 e h f) (fun _=>True):=by
 unfold F142
 refine Ob T105 fun w _=>?_
 refine Ob (P:=fun _=>True) (Oi (fun _=>.mk trivial) (fun _=>Ob T105 fun _ _=>.mk trivial)) fun b _=>?_
 refine Oi (fun _=>.mk trivial) (fun _=>?_)
 refine Ob (uF (by decide) g.1 g.2) fun l hl=>?_
 refine Ob (T144 (nQ1 hl.1 a.Measures) (fun y hy=>a.MeasuresE y (hl.2 y hy)) d) fun c _=>?_
 exact Ob (P:=fun _=>True) (Oi (fun _=>.mk trivial) (fun _=>Ob (T145 a) fun _ _=>.mk trivial)) fun b _=>.mk trivial
theorem Tn109_7 {i:List Zv} {o:Z0} {u:Int} (q:i.length+10<=1000000) (f:o.sm):Ok (Fn109_7 i o u) (fun v=>i.length<=v.length/\v.length<=i.length+10):=by
 unfold Fn109_7
 have j:=f.Measures
 refine og o.Measures i 10 1 (mT1 f.Measures (by decide)) (fun n l q1389 k g a d b c e=>?_) (fun q1389 a b=>?_) fun t p=>?_
 .obtain ⟨w,x⟩:=q1389
  dsimp only at a d c e b
  simp only[d,c,nt]
  have h:=f.MeasuresE _ g
  refine obT (T142 h f (by(simp only[nm]at *;omega))) fun r=>?_
  refine Ob (Tn103 (by first|omega|(simp only[mX1]at *;omega)) f) fun s m=>?_
  exact .mk ⟨e,by dsimp only;omega⟩
 .obtain ⟨w,x⟩:=q1389
  dsimp only at a b
  simp only[a,nf]
  exact .mk (by dsimp only;omega)
 exact .mk (by omega)
theorem Tn61 {a:List Zv} {d:Z0} {f:Int} (e:a.length+10<=1000000) (c:d.sm):Ok (Fn61 a d f) (fun v=>a.length<=v.length/\v.length<=a.length+10):=by
 unfold Fn61
 refine Ob (Tn109_7 (by first|omega|(simp only[mX1]at *;omega)) c) fun g b=>?_
 exact .mk (by omega)
theorem T146 {E:Int} {m:Zm} (f:m.sm):Ok (F146 E m) (fun _=>True):=by
 unfold F146
 refine obT (T113 f) fun⟨N,O⟩=>?_
 refine Ob (P:=fun r=>r=true->(m.Swing !=0)=true) ?_ fun M u=>?_
 .refine Oi (fun c1397=>?_) (fun _=>.mk (fun h=>by cases h))
  refine obT (T105) fun R=>?_
  exact .mk (fun _=>c1397)
 refine Ob (P:=fun r=>¬r=true->¬M=true) ?_ fun T v=>?_
 .refine Oi (fun _=>.mk (fun h=>absurd rfl h)) (fun c1400=>?_)
  refine obT (T105) fun S=>?_
  exact .mk (fun _=>c1400)
 have p:=f.Tempi
 refine lpT (l:=m.Tempi) (fun q=>q.2) (mT1 f.Tempi (by decide)) rfl (fun z t q1412 n a c b d=>?_) (fun q1412 a=>?_) fun L=>?_
 .obtain ⟨j,k⟩:=q1412
  dsimp only at a c b d
  simp only[c,b,nt]
  refine Ob (P:=fun r=>¬r=true->¬j=true) ?_ fun C e=>?_
  .refine Oi (fun _=>.mk (fun h=>absurd rfl h)) (fun c1415=>?_)
   refine obT (T105) fun F=>?_
   exact .mk (fun _=>c1415)
  refine Ob (P:=fun r=>¬r=true->¬C=true) ?_ fun D g=>?_
  .refine Oi (fun _=>.mk (fun h=>absurd rfl h)) (fun c1418=>?_)
   have A:=e c1418
   refine obT (T105) fun G=>?_
   exact .mk (fun _=>c1418)
  refine Ob (P:=fun r=>¬r=true->¬D=true) ?_ fun K w=>?_
  .refine Oi (fun _=>.mk (fun h=>absurd rfl h)) (fun c1422=>?_)
   have i:=g c1422
   have B:=e i
   refine Ob (P:=fun r=>r=true->(decide (k>0))=true) ?_ fun J y=>?_
   .refine Oi (fun c1426=>?_) (fun _=>.mk (fun h=>by cases h))
    have s:=f.Tempi
    refine Ob (P:=fun x=>x∈m.Tempi) (bD (by(simp only[nm]at *;rw[bA (by omega) (by omega)];omega)) (by(simp only[nm]at *;rw[bA (by omega) (by omega)];omega)) (fun _ h _=>h)) fun H o=>?_
    exact .mk (fun _=>c1426)
   exact .mk (fun _=>c1422)
  exact .mk d
 .obtain ⟨j,k⟩:=q1412
  dsimp only at a
  simp only[a,nf]
  exact .mk trivial
 exact .mk trivial
theorem Tn109_8 {i:List Zv} {o:Z0} {u:Int} (q:i.length+10<=1000000) (f:o.sm):Ok (Fn109_8 i o u) (fun v=>i.length<=v.length/\v.length<=i.length+10):=by
 unfold Fn109_8
 have j:=f.Measures
 refine og o.Measures i 10 1 (mT1 f.Measures (by decide)) (fun n l q1441 k g a d b c e=>?_) (fun q1441 a b=>?_) fun t p=>?_
 .obtain ⟨w,x⟩:=q1441
  dsimp only at a d c e b
  simp only[d,c,nt]
  have h:=f.MeasuresE _ g
  refine obT (T146 h) fun r=>?_
  refine Ob (Tn103 (by first|omega|(simp only[mX1]at *;omega)) f) fun s m=>?_
  exact .mk ⟨e,by dsimp only;omega⟩
 .obtain ⟨w,x⟩:=q1441
  dsimp only at a b
  simp only[a,nf]
  exact .mk (by dsimp only;omega)
 exact .mk (by omega)
theorem Tn62 {a:List Zv} {d:Z0} {f:Int} (e:a.length+10<=1000000) (c:d.sm):Ok (Fn62 a d f) (fun v=>a.length<=v.length/\v.length<=a.length+10):=by
 unfold Fn62
 refine Ob (Tn109_8 (by first|omega|(simp only[mX1]at *;omega)) c) fun g b=>?_
 exact .mk (by omega)
theorem T147 {i:Zp} {e:Ze} {g:Zk} (a:e.sm) (c:g.s'.sm):Ok (F147 i e g) (fun _=>True):=by
 unfold F147
 refine Ob (T132 c) fun⟨q,f⟩ d=>?_
 dsimp only at d
 refine Ob (P:=fun r=>¬r=true->f=true) (Oi (fun _=>.mk (fun h=>absurd rfl h)) (fun hc=>Ob (T131 a) fun t _=>.mk (fun _=>by simpa using hc))) fun b hb=>?_
 refine Oi (fun _=>.mk trivial) (fun hc=>?_)
 simp only[nI1,pY1]at hc
 have:=d (hb hc.1)
 exact Ob (bD (Q:=fun _=>True) this.1 this.2.1 (fun _ _ _=>trivial)) fun x _=>Ob (bD (Q:=fun _=>True) this.2.2.1 this.2.2.2 (fun _ _ _=>trivial)) fun y _=>.mk trivial
theorem Tn119_5 {H:List Zv} {x2:Z0} {x3:Int} (d8:H.length+3000<=1000000) (y:x2.sm):Ok (Fn119_5 H x2 x3) (fun v=>H.length<=v.length/\v.length<=H.length+3000):=by
 unfold Fn119_5
 have O:=y.Measures
 refine og x2.Measures H 3000 300 (mT1 y.Measures (by decide)) (fun Z D q1458 T z c p g a t=>?_) (fun q1458 c g=>?_) fun d7 b8=>?_
 .obtain ⟨b5,L⟩:=q1458
  dsimp only at c p a t g
  simp only[p,a,nt]
  have l:=y.MeasuresE _ z
  have P:=l.Cells
  refine og D.Cells L 300 60 (mT1 l.Cells (by decide)) (fun a0 E q1472 U A d q h b u=>?_) (fun q1472 d h=>?_) fun d6 b9=>?_
  .obtain ⟨b6,M⟩:=q1472
   dsimp only at d q b u h
   simp only[q,a,b,nt]
   have m:=l.CellsE _ A
   have R:=m.Voices
   refine og E.Voices M 60 20 (mT1 m.Voices (by decide)) (fun b0 F q1486 V B e r i k w=>?_) (fun q1486 e i=>?_) fun d5 d0=>?_
   .obtain ⟨b7,N⟩:=q1486
    dsimp only at e r k w i
    simp only[r,a,b,k,nt]
    have n:=m.VoicesE _ B
    have S:=n.Events
    refine og F.Events N 20 1 (mT1 n.Events (by decide)) (fun b4 X q1500 W C f s j o x=>?_) (fun q1500 f j=>?_) fun d4 d1=>?_
    .obtain ⟨J,K⟩:=q1500
     dsimp only at f s o x j
     simp only[s,a,b,k,o,nt]
     have G:=n.EventsE _ C
     refine obT (T147 G y) fun d2=>?_
     refine Ob (Tn103 (by first|omega|(simp only[mX1]at *;omega)) y) fun d3 Y=>?_
     exact .mk ⟨x,by dsimp only;omega⟩
    .obtain ⟨J,K⟩:=q1500
     dsimp only at f j
     simp only[f,nf]
     exact .mk (by dsimp only;omega)
    exact .mk ⟨w,by dsimp only;omega⟩
   .obtain ⟨b7,N⟩:=q1486
    dsimp only at e i
    simp only[e,nf]
    exact .mk (by dsimp only;omega)
   exact .mk ⟨u,by dsimp only;omega⟩
  .obtain ⟨b6,M⟩:=q1472
   dsimp only at d h
   simp only[d,nf]
   exact .mk (by dsimp only;omega)
  exact .mk ⟨t,by dsimp only;omega⟩
 .obtain ⟨b5,L⟩:=q1458
  dsimp only at c g
  simp only[c,nf]
  exact .mk (by dsimp only;omega)
 exact .mk (by omega)
theorem Tn63 {a:List Zv} {d:Z0} {f:Int} (e:a.length+3000<=1000000) (c:d.sm):Ok (Fn63 a d f) (fun v=>a.length<=v.length/\v.length<=a.length+3000):=by
 unfold Fn63
 refine Ob (Tn119_5 (by first|omega|(simp only[mX1]at *;omega)) c) fun g b=>?_
 exact .mk (by omega)
theorem T18 {x1:Z0} (a:x1.sm) (hx:0<x1.Measures.length):Ok (F18 x1) (fun _=>True):=by
 unfold F18
 refine Ob (P:=fun r=>r=true->(decide ((([]:List Zv).length:Int)>0))=true) ?_ fun x6 b=>?_
 .refine Oi (fun c1507=>?_) (fun _=>.mk (fun h=>by cases h))
  refine Ob (P:=fun r=>¬r=true->¬false=true) ?_ fun x5 u=>?_
  .refine Oi (fun _=>.mk (fun h=>absurd rfl h)) (fun c1509=>?_)
   refine Ob (P:=fun r=>r=true->false=true) ?_ fun x4 v=>?_
   .refine Oi (fun c1511=>?_) (fun _=>.mk (fun h=>by cases h))
    refine Ob (bK (by omega) (by(simp only[nm]at *;omega))) fun x2 w=>?_
    refine Ob (bO (by omega)) fun x3 x=>?_
    exact .mk (fun _=>c1511)
   exact .mk (fun _=>c1509)
  exact .mk (fun _=>c1507)
 refine Oi (fun c1514=>?_) (fun c1514=>?_)
 .have i3:=b c1514
  exact .mk trivial
 refine Ob (Tn47 (by first|omega|(simp only[mX1]at *;omega)) a) fun x7 y=>?_
 refine Ob (P:=fun r=>r=true->(decide ((x7.length:Int)>0))=true) ?_ fun m2 c=>?_
 .refine Oi (fun c1518=>?_) (fun _=>.mk (fun h=>by cases h))
  refine Ob (P:=fun r=>¬r=true->¬true=true) ?_ fun m1 z=>?_
  .refine Oi (fun _=>.mk (fun h=>absurd rfl h)) (fun c1520=>?_)
   refine Ob (P:=fun r=>r=true->false=true) ?_ fun m0 A=>?_
   .refine Oi (fun c1522=>?_) (fun _=>.mk (fun h=>by cases h))
    refine Ob (bK (by omega) (by(simp only[nm]at *;omega))) fun x8 B=>?_
    refine Ob (bO (by omega)) fun x9 C=>?_
    exact .mk (fun _=>c1522)
   exact .mk (fun _=>c1520)
  exact .mk (fun _=>c1518)
 refine Oi (fun c1525=>?_) (fun c1525=>?_)
 .have i4:=c c1525
  exact .mk trivial
 refine Ob (Tn48 (by first|omega|(simp only[mX1]at *;omega)) a) fun k1 D=>?_
 refine Ob (P:=fun r=>r=true->(decide ((k1.length:Int)>0))=true) ?_ fun m7 d=>?_
 .refine Oi (fun c1529=>?_) (fun _=>.mk (fun h=>by cases h))
  refine Ob (P:=fun r=>¬r=true->¬false=true) ?_ fun m6 E=>?_
  .refine Oi (fun _=>.mk (fun h=>absurd rfl h)) (fun c1531=>?_)
   refine Ob (P:=fun r=>r=true->false=true) ?_ fun m5 F=>?_
   .refine Oi (fun c1533=>?_) (fun _=>.mk (fun h=>by cases h))
    refine Ob (bK (by omega) (by(simp only[nm]at *;omega))) fun m3 G=>?_
    refine Ob (bO (by omega)) fun m4 H=>?_
    exact .mk (fun _=>c1533)
   exact .mk (fun _=>c1531)
  exact .mk (fun _=>c1529)
 refine Oi (fun c1536=>?_) (fun c1536=>?_)
 .have i5:=d c1536
  exact .mk trivial
 refine Ob (Tn49 (by first|omega|(simp only[mX1]at *;omega)) a) fun k2 J=>?_
 refine Ob (P:=fun r=>r=true->(decide ((k2.length:Int)>0))=true) ?_ fun n3 e=>?_
 .refine Oi (fun c1540=>?_) (fun _=>.mk (fun h=>by cases h))
  refine Ob (P:=fun r=>¬r=true->¬false=true) ?_ fun n2 K=>?_
  .refine Oi (fun _=>.mk (fun h=>absurd rfl h)) (fun c1542=>?_)
   refine Ob (P:=fun r=>r=true->false=true) ?_ fun n1 L=>?_
   .refine Oi (fun c1544=>?_) (fun _=>.mk (fun h=>by cases h))
    refine Ob (bK (by omega) (by(simp only[nm]at *;omega))) fun m8 M=>?_
    refine Ob (bO (by omega)) fun m9 N=>?_
    exact .mk (fun _=>c1544)
   exact .mk (fun _=>c1542)
  exact .mk (fun _=>c1540)
 refine Oi (fun c1547=>?_) (fun c1547=>?_)
 .have i6:=e c1547
  exact .mk trivial
 refine Ob (Tn50 (by first|omega|(simp only[mX1]at *;omega)) a) fun k3 O=>?_
 refine Ob (P:=fun r=>r=true->(decide ((k3.length:Int)>0))=true) ?_ fun n8 f=>?_
 .refine Oi (fun c1551=>?_) (fun _=>.mk (fun h=>by cases h))
  refine Ob (P:=fun r=>¬r=true->¬false=true) ?_ fun n7 R=>?_
  .refine Oi (fun _=>.mk (fun h=>absurd rfl h)) (fun c1553=>?_)
   refine Ob (P:=fun r=>r=true->false=true) ?_ fun n6 S=>?_
   .refine Oi (fun c1555=>?_) (fun _=>.mk (fun h=>by cases h))
    refine Ob (bK (by omega) (by(simp only[nm]at *;omega))) fun n4 T=>?_
    refine Ob (bO (by omega)) fun n5 U=>?_
    exact .mk (fun _=>c1555)
   exact .mk (fun _=>c1553)
  exact .mk (fun _=>c1551)
 refine Oi (fun c1558=>?_) (fun c1558=>?_)
 .have i7:=f c1558
  exact .mk trivial
 refine Ob (Tn51 (by first|omega|(simp only[mX1]at *;omega)) a) fun k4 V=>?_
 refine Ob (P:=fun r=>r=true->(decide ((k4.length:Int)>0))=true) ?_ fun r3 g=>?_
 .refine Oi (fun c1562=>?_) (fun _=>.mk (fun h=>by cases h))
  refine Ob (P:=fun r=>¬r=true->¬false=true) ?_ fun r2 W=>?_
  .refine Oi (fun _=>.mk (fun h=>absurd rfl h)) (fun c1564=>?_)
   refine Ob (P:=fun r=>r=true->false=true) ?_ fun r1 X=>?_
   .refine Oi (fun c1566=>?_) (fun _=>.mk (fun h=>by cases h))
    refine Ob (bK (by omega) (by(simp only[nm]at *;omega))) fun n9 Y=>?_
    refine Ob (bO (by omega)) fun r0 Z=>?_
    exact .mk (fun _=>c1566)
   exact .mk (fun _=>c1564)
  exact .mk (fun _=>c1562)
 refine Oi (fun c1569=>?_) (fun c1569=>?_)
 .have i9:=g c1569
  exact .mk trivial
 refine Ob (Tn52 (by first|omega|(simp only[mX1]at *;omega)) a) fun k5 a0=>?_
 refine Ob (P:=fun r=>r=true->(decide ((k5.length:Int)>0))=true) ?_ fun r8 i=>?_
 .refine Oi (fun c1573=>?_) (fun _=>.mk (fun h=>by cases h))
  refine Ob (P:=fun r=>¬r=true->¬false=true) ?_ fun r7 b0=>?_
  .refine Oi (fun _=>.mk (fun h=>absurd rfl h)) (fun c1575=>?_)
   refine Ob (P:=fun r=>r=true->false=true) ?_ fun r6 b4=>?_
   .refine Oi (fun c1577=>?_) (fun _=>.mk (fun h=>by cases h))
    refine Ob (bK (by omega) (by(simp only[nm]at *;omega))) fun r4 b5=>?_
    refine Ob (bO (by omega)) fun r5 b6=>?_
    exact .mk (fun _=>c1577)
   exact .mk (fun _=>c1575)
  exact .mk (fun _=>c1573)
 refine Oi (fun c1580=>?_) (fun c1580=>?_)
 .have j0:=i c1580
  exact .mk trivial
 refine Ob (Tn53 (by first|omega|(simp only[mX1]at *;omega)) a) fun k6 b7=>?_
 refine Ob (P:=fun r=>r=true->(decide ((k6.length:Int)>0))=true) ?_ fun s3 j=>?_
 .refine Oi (fun c1584=>?_) (fun _=>.mk (fun h=>by cases h))
  refine Ob (P:=fun r=>¬r=true->¬false=true) ?_ fun s2 b8=>?_
  .refine Oi (fun _=>.mk (fun h=>absurd rfl h)) (fun c1586=>?_)
   refine Ob (P:=fun r=>r=true->false=true) ?_ fun s1 b9=>?_
   .refine Oi (fun c1588=>?_) (fun _=>.mk (fun h=>by cases h))
    refine Ob (bK (by omega) (by(simp only[nm]at *;omega))) fun r9 d0=>?_
    refine Ob (bO (by omega)) fun s0 d1=>?_
    exact .mk (fun _=>c1588)
   exact .mk (fun _=>c1586)
  exact .mk (fun _=>c1584)
 refine Oi (fun c1591=>?_) (fun c1591=>?_)
 .have j1:=j c1591
  exact .mk trivial
 refine Ob (Tn54 (by first|omega|(simp only[mX1]at *;omega)) a) fun k7 d2=>?_
 refine Ob (P:=fun r=>r=true->(decide ((k7.length:Int)>0))=true) ?_ fun s8 k=>?_
 .refine Oi (fun c1595=>?_) (fun _=>.mk (fun h=>by cases h))
  refine Ob (P:=fun r=>¬r=true->¬false=true) ?_ fun s7 d3=>?_
  .refine Oi (fun _=>.mk (fun h=>absurd rfl h)) (fun c1597=>?_)
   refine Ob (P:=fun r=>r=true->false=true) ?_ fun s6 d4=>?_
   .refine Oi (fun c1599=>?_) (fun _=>.mk (fun h=>by cases h))
    refine Ob (bK (by omega) (by(simp only[nm]at *;omega))) fun s4 d5=>?_
    refine Ob (bO (by omega)) fun s5 d6=>?_
    exact .mk (fun _=>c1599)
   exact .mk (fun _=>c1597)
  exact .mk (fun _=>c1595)
 refine Oi (fun c1602=>?_) (fun c1602=>?_)
 .have j2:=k c1602
  exact .mk trivial
 refine Ob (Tn55 (by first|omega|(simp only[mX1]at *;omega)) a) fun k8 d7=>?_
 refine Ob (P:=fun r=>r=true->(decide ((k8.length:Int)>0))=true) ?_ fun t3 l=>?_
 .refine Oi (fun c1606=>?_) (fun _=>.mk (fun h=>by cases h))
  refine Ob (P:=fun r=>¬r=true->¬false=true) ?_ fun t2 d8=>?_
  .refine Oi (fun _=>.mk (fun h=>absurd rfl h)) (fun c1608=>?_)
   refine Ob (P:=fun r=>r=true->true=true) ?_ fun t1 d9=>?_
   .refine Oi (fun c1610=>?_) (fun _=>.mk (fun h=>by cases h))
    refine Ob (bK (by omega) (by(simp only[nm]at *;omega))) fun s9 e0=>?_
    refine Ob (bO (by omega)) fun t0 e1=>?_
    exact .mk (fun _=>c1610)
   exact .mk (fun _=>c1608)
  exact .mk (fun _=>c1606)
 refine Oi (fun c1613=>?_) (fun c1613=>?_)
 .have j3:=l c1613
  exact .mk trivial
 refine Ob (Tn56 (by first|omega|(simp only[mX1]at *;omega)) a) fun k9 e3=>?_
 refine Ob (P:=fun r=>r=true->(decide ((k9.length:Int)>0))=true) ?_ fun t9 m=>?_
 .refine Oi (fun c1617=>?_) (fun _=>.mk (fun h=>by cases h))
  refine Ob (P:=fun r=>¬r=true->¬false=true) ?_ fun t8 e4=>?_
  .refine Oi (fun _=>.mk (fun h=>absurd rfl h)) (fun c1619=>?_)
   refine Ob (P:=fun r=>r=true->true=true) ?_ fun t7 e5=>?_
   .refine Oi (fun c1621=>?_) (fun _=>.mk (fun h=>by cases h))
    refine Ob (bK (by omega) (by(simp only[nm]at *;omega))) fun t4 e6=>?_
    refine Ob (bO (by omega)) fun t6 e7=>?_
    exact .mk (fun _=>c1621)
   exact .mk (fun _=>c1619)
  exact .mk (fun _=>c1617)
 refine Oi (fun c1624=>?_) (fun c1624=>?_)
 .have j4:=m c1624
  exact .mk trivial
 refine Ob (Tn57 (by first|omega|(simp only[mX1]at *;omega)) a) fun l0 e8=>?_
 refine Ob (P:=fun r=>r=true->(decide ((l0.length:Int)>0))=true) ?_ fun u4 n=>?_
 .refine Oi (fun c1628=>?_) (fun _=>.mk (fun h=>by cases h))
  refine Ob (P:=fun r=>¬r=true->¬false=true) ?_ fun u3 e9=>?_
  .refine Oi (fun _=>.mk (fun h=>absurd rfl h)) (fun c1630=>?_)
   refine Ob (P:=fun r=>r=true->true=true) ?_ fun u2 f0=>?_
   .refine Oi (fun c1632=>?_) (fun _=>.mk (fun h=>by cases h))
    refine Ob (bK (by omega) (by(simp only[nm]at *;omega))) fun u0 f1=>?_
    refine Ob (bO (by omega)) fun u1 f2=>?_
    exact .mk (fun _=>c1632)
   exact .mk (fun _=>c1630)
  exact .mk (fun _=>c1628)
 refine Oi (fun c1635=>?_) (fun c1635=>?_)
 .have j5:=n c1635
  exact .mk trivial
 refine Ob (Tn58 (by first|omega|(simp only[mX1]at *;omega)) a) fun l1 f3=>?_
 refine Ob (P:=fun r=>r=true->(decide ((l1.length:Int)>0))=true) ?_ fun v0 o=>?_
 .refine Oi (fun c1639=>?_) (fun _=>.mk (fun h=>by cases h))
  refine Ob (P:=fun r=>¬r=true->¬false=true) ?_ fun u9 f5=>?_
  .refine Oi (fun _=>.mk (fun h=>absurd rfl h)) (fun c1641=>?_)
   refine Ob (P:=fun r=>r=true->true=true) ?_ fun u7 f6=>?_
   .refine Oi (fun c1643=>?_) (fun _=>.mk (fun h=>by cases h))
    refine Ob (bK (by omega) (by(simp only[nm]at *;omega))) fun u5 f7=>?_
    refine Ob (bO (by omega)) fun u6 f8=>?_
    exact .mk (fun _=>c1643)
   exact .mk (fun _=>c1641)
  exact .mk (fun _=>c1639)
 refine Oi (fun c1646=>?_) (fun c1646=>?_)
 .have j6:=o c1646
  exact .mk trivial
 refine Ob (Tn59 (by first|omega|(simp only[mX1]at *;omega)) a) fun l2 f9=>?_
 refine Ob (P:=fun r=>r=true->(decide ((l2.length:Int)>0))=true) ?_ fun v5 p=>?_
 .refine Oi (fun c1650=>?_) (fun _=>.mk (fun h=>by cases h))
  refine Ob (P:=fun r=>¬r=true->¬false=true) ?_ fun v4 g1=>?_
  .refine Oi (fun _=>.mk (fun h=>absurd rfl h)) (fun c1652=>?_)
   refine Ob (P:=fun r=>r=true->true=true) ?_ fun v3 g3=>?_
   .refine Oi (fun c1654=>?_) (fun _=>.mk (fun h=>by cases h))
    refine Ob (bK (by omega) (by(simp only[nm]at *;omega))) fun v1 g4=>?_
    refine Ob (bO (by omega)) fun v2 g5=>?_
    exact .mk (fun _=>c1654)
   exact .mk (fun _=>c1652)
  exact .mk (fun _=>c1650)
 refine Oi (fun c1657=>?_) (fun c1657=>?_)
 .have j7:=p c1657
  exact .mk trivial
 refine Ob (Tn60 (by first|omega|(simp only[mX1]at *;omega)) a (by omega)) fun l3 g6=>?_
 refine Ob (P:=fun r=>r=true->(decide ((l3.length:Int)>0))=true) ?_ fun x0 q=>?_
 .refine Oi (fun c1661=>?_) (fun _=>.mk (fun h=>by cases h))
  refine Ob (P:=fun r=>¬r=true->¬false=true) ?_ fun v9 g7=>?_
  .refine Oi (fun _=>.mk (fun h=>absurd rfl h)) (fun c1663=>?_)
   refine Ob (P:=fun r=>r=true->true=true) ?_ fun v8 g8=>?_
   .refine Oi (fun c1665=>?_) (fun _=>.mk (fun h=>by cases h))
    refine Ob (bK (by omega) (by(simp only[nm]at *;omega))) fun v6 g9=>?_
    refine Ob (bO (by omega)) fun v7 h0=>?_
    exact .mk (fun _=>c1665)
   exact .mk (fun _=>c1663)
  exact .mk (fun _=>c1661)
 refine Oi (fun c1668=>?_) (fun c1668=>?_)
 .have j8:=q c1668
  exact .mk trivial
 refine Ob (Tn61 (by first|omega|(simp only[mX1]at *;omega)) a) fun l4 h2=>?_
 refine Ob (P:=fun r=>r=true->(decide ((l4.length:Int)>0))=true) ?_ fun y4 s=>?_
 .refine Oi (fun c1672=>?_) (fun _=>.mk (fun h=>by cases h))
  refine Ob (P:=fun r=>¬r=true->¬false=true) ?_ fun y3 h3=>?_
  .refine Oi (fun _=>.mk (fun h=>absurd rfl h)) (fun c1674=>?_)
   refine Ob (P:=fun r=>r=true->true=true) ?_ fun y2 h4=>?_
   .refine Oi (fun c1676=>?_) (fun _=>.mk (fun h=>by cases h))
    refine Ob (bK (by omega) (by(simp only[nm]at *;omega))) fun y0 h5=>?_
    refine Ob (bO (by omega)) fun y1 h6=>?_
    exact .mk (fun _=>c1676)
   exact .mk (fun _=>c1674)
  exact .mk (fun _=>c1672)
 refine Oi (fun c1679=>?_) (fun c1679=>?_)
 .have j9:=s c1679
  exact .mk trivial
 refine Ob (Tn62 (by first|omega|(simp only[mX1]at *;omega)) a) fun l5 h7=>?_
 refine Ob (P:=fun r=>r=true->(decide ((l5.length:Int)>0))=true) ?_ fun l8 t=>?_
 .refine Oi (fun c1683=>?_) (fun _=>.mk (fun h=>by cases h))
  refine Ob (P:=fun r=>¬r=true->¬false=true) ?_ fun l7 h8=>?_
  .refine Oi (fun _=>.mk (fun h=>absurd rfl h)) (fun c1685=>?_)
   refine Ob (P:=fun r=>r=true->true=true) ?_ fun l6 h9=>?_
   .refine Oi (fun c1687=>?_) (fun _=>.mk (fun h=>by cases h))
    refine Ob (bK (by omega) (by(simp only[nm]at *;omega))) fun y5 i0=>?_
    refine Ob (bO (by omega)) fun y6 i1=>?_
    exact .mk (fun _=>c1687)
   exact .mk (fun _=>c1685)
  exact .mk (fun _=>c1683)
 refine Oi (fun c1690=>?_) (fun c1690=>?_)
 .have k0:=t c1690
  exact .mk trivial
 refine Ob (Tn63 (by first|omega|(simp only[mX1]at *;omega)) a) fun l9 i2=>?_
 exact .mk trivial
theorem T26 {c:Z0} (a:c.sm):Ok (F26 c) (fun _=>True):=by
 unfold F26
 refine Ob (P:=fun _=>True) ?_ fun v _=>.mk trivial
 by_cases h0:0<c.Measures.length
 .exact (T18 a h0).mono fun _ _=>trivial
 unfold F18
 refine Ob (P:=fun r=>r=false) (Oi (fun h=>by simp at h) (fun _=>.mk rfl)) fun b hb=>?_
 subst hb
 refine Oi (fun h=>by cases h) (fun _=>?_)
 refine Ob (U59b a (by omega) (by decide)) fun v hv=>?_
 refine Ob (P:=fun r=>r=true) (Oi (fun h=>Ob (P:=fun r=>r=true) (Oi (fun _=>.mk rfl) (fun h=>absurd rfl h)) fun b hb=>.mk hb) (fun h=>by simp at h;simp[h]at hv)) fun b hb=>?_
 subst hb
 exact Oi (fun _=>.mk trivial) (fun h=>absurd rfl h)
end Go.P
namespace Go.P
structure Ze.c (x:Ze):Prop where
 Heads:x.Heads.length<=1073741824
 Graces:x.Graces.length<=1073741824
 Lyrics:x.Lyrics.length<=1073741824
structure Zo.c (x:Zo):Prop where
 Events:x.Events.length<9223372036854775808
 EventsE:∀y∈x.Events,y.c
structure Zw.c (x:Zw):Prop where
 Voices:x.Voices.length<9223372036854775808
 VoicesE:∀y∈x.Voices,y.c
structure Zm.c (x:Zm):Prop where
 Cells:x.Cells.length<9223372036854775808
 CellsE:∀y∈x.Cells,y.c
structure Z0.c (x:Z0):Prop where
 Parts:x.Parts.length<9223372036854775808
 Measures:x.Measures.length<9223372036854775808
 MeasuresE:∀y∈x.Measures,y.c
theorem kK {A:Type} {l:List A} {k:Int} (h:0<=k):Ok (dU l 0 (if k<(l.length:Int)then k else(l.length:Int))) (fun v=>(v.length:Int)<=k/\v.length<=l.length/\∀x∈v,x∈l):=by
 unfold dU
 rw[mZ1 ⟨oS1 _,by split<;>omega,by split<;>omega⟩]
 refine .mk ⟨?_,?_,fun x a=>List.mem_of_mem_drop (pR1 a)⟩
 .simp only[oY1,oW1];split<;>omega
 .simp only[oY1,oW1];omega
theorem kW1 {A:Type} {l:List A} {k:Int} (h:0<=k):Ok (lQ l (if k<(l.length:Int)then k else(l.length:Int))) (fun v=>(v.length:Int)<=k/\∀x∈v,x∈l):=by
 unfold lQ
 rw[mZ1 ⟨by split<;>omega,by split<;>omega⟩]
 refine .mk ⟨?_,fun x a=>pR1 a⟩
 simp only[oY1];split<;>omega
theorem xX {s:ByteArray} {k:Int} (h:0<=k):Ok (eQ s 0 (if k<(s.size:Int)then k else(s.size:Int))) (fun v=>(v.size:Int)<=k):=by
 unfold eQ
 rw[mZ1 ⟨oS1 _,by split<;>omega,by split<;>omega⟩]
 refine .mk ?_
 rw[ByteArray.size_extract]
 split<;>omega
theorem lB {A:Type} {g:Bool} {m:List A} (h:m.length<=1000) (hg:g=false):Ok (lapp g ([]:List A) m) (fun v=>v=m):=by
 unfold lapp
 have e:Sim.maxRoom=1073741824:=rfl
 rw[mZ1 ⟨by rw[e,mX1];omega,fun h=>by rw[hg]at h;cases h⟩]
 exact .mk rfl
theorem S147 {e:Ze} (h:e.c):Fn73_2 e=some (e.Heads,e.Graces,e.Lyrics):=by
 unfold Fn73_2
 rw[gD h.Heads,gD h.Graces,gD h.Lyrics]
 rfl
theorem S118 {e:Ze} (h:e.c):Ok (F171 e) (fun v=>v.sm):=by
 unfold F171
 rw[S147 h,nC1]
 refine Ob (kK (by decide)) fun K F=>?_
 refine Ob (kK (by decide)) fun L G=>?_
 refine Ob (kW1 (by decide)) fun E H=>?_
 refine Ob (P:=fun l:List Zy=>l.length<=12/\∀y∈l,y.sm) ?_ fun D g=>.mk ⟨by dsimp only;omega,by dsimp only;omega,g.1,g.2⟩
 refine eB (S:=Int×List Zy) (fun s=>0<=s.1/\s.1<=(s.2.length:Int)/\s.2.length<=5/\∀(i:Nat) (y:Zy),s.2[i]? =some y->(i:Int)<s.1->y.sm) (fun s=>s.2.length-s.1.toNat) (fun s hs=>?_) B64 (0,E) ⟨oS1 _,by dsimp only;omega,by dsimp only;omega,fun i y _ hi=>by dsimp only at hi;omega⟩ (by simp[B64];omega)
 obtain⟨i,l⟩:=s
 obtain⟨k,B,C,n⟩:=hs
 dsimp only at k B C n ⊢
 refine Oi (fun hc=>?_) (fun hc=>?_)
 .have f:i<(l.length:Int):=by simpa using hc
  refine Ob (bK k f) fun a r=>?_
  refine Ob (bO r.2) fun o A=>?_
  refine Ob (bK k f) fun b hb=>?_
  refine Ob (bO hb.2) fun p hy=>?_
  have u:p=o:=by
   have h1:=A.1;have h2:=hy.1
   rw[r.1]at h1;rw[hb.1]at h2
   rw[h1]at h2;cases h2;rfl
  subst u
  refine Ob (xX (by decide)) fun t J=>?_
  refine Ob (bK k f) fun c hc=>?_
  have m:c<l.length:=hc.2
  have:lput l c (fun q=>Zy.mk t q.Link)=some (l.set c (Zy.mk t (l[c]).Link)):=by
   unfold lput;rw[nX1 m];rfl
  rw[this,nC1]
  refine .mk ?_
  have hw:w64 (i+1)=i+1:=bA (by omega) (by omega)
  dsimp only
  rw[hw]
  refine⟨⟨by omega,by rw[List.length_set];omega,by rw[List.length_set];omega,fun j y d x=>?_⟩,by rw[List.length_set];omega⟩
  rw[nO1]at d
  split at d
  .simp only[mV1]at d
   subst d
   exact⟨by dsimp only;omega⟩
  .rename_i z
   exact n j y d (by have:=hc.1;omega)
 .have w:¬i<(l.length:Int):=by simpa using hc
  refine .mk ⟨by omega,fun y hy=>?_⟩
  obtain⟨j,d,rfl⟩:=List.getElem_of_mem hy
  exact n j _ (nX1 d) (by omega)
theorem uG {A B:Type} {l:List A} {K:Int} (b:0<=K) (hK:K<=100) (hl:l.length<9223372036854775808) {P:B->Prop} {body:Int×List B->Option ((Int×List B)⊕List B)}
  (h:∀(i:Int) (m:List B) (x:A),x∈l->0<=i->i<(l.length:Int)->i<K->lget l i=some x->m.length<1000->∃y,P y/\body (i,m)=some (.inl (w64 (i+1),m++[y])))
  (h2:∀(i:Int) (m:List B),¬(i<(l.length:Int)/\i<K)->body (i,m)=some (.inr m)):
  Ok (aO body B64 (0,[])) (fun v=>(v.length:Int)<=K/\∀y∈v,P y):=by
 refine eB (fun s=>0<=s.1/\s.1<=K/\(s.2.length:Int)=s.1/\∀y∈s.2,P y) (fun s=>K.toNat-s.1.toNat) (fun s hs=>?_) B64 (0,[]) ⟨oS1 _,b,rfl,fun y hy=>(oT1 hy).elim⟩ (by simp[B64];omega)
 obtain⟨i,m⟩:=s
 obtain⟨c,e,f,d⟩:=hs
 dsimp only at c e f d
 by_cases hc:i<(l.length:Int)/\i<K
 .have hg:lget l i=some (l[i.toNat]'(by omega)):=by
   unfold lget;rw[mZ1 c,nX1]
  obtain⟨y,hy,hb⟩:=h i m _ (pK1 _) c hc.1 hc.2 hg (by omega)
  rw[hb]
  refine .mk ?_
  dsimp only
  rw[bA (by omega) (by omega)]
  refine⟨⟨by omega,by omega,by rw[oG1,oB1,mX1];omega,fun z a=>?_⟩,by omega⟩
  rcases pF1.1 a with a|a
  .exact d z a
  .rw [qI1.1 a];exact hy
 .rw [h2 i m hc]
  exact .mk ⟨by omega,d⟩
theorem cY1 {i n k:Int} (h1:i<n) (h2:i<k):((decide (i<n))&&(decide (i<k)))=true:=by simp[h1,h2]
theorem uH {i n k:Int} (h:¬(i<n/\i<k)):¬((decide (i<n))&&(decide (i<k)))=true:=by simpa using h
theorem cZ1 {A:Type} {m:List A} {y:A} (h:m.length<1000):lapp false m [y]=some (m++[y]):=by
 obtain⟨v,h1,h2⟩:=dF (g:=false) (l:=m) (x:=y) (by omega) (Q:=fun v=>v=m++[y]) rfl
 rw[h1,h2]
theorem S62 {v:Zo} (h:v.c):Ok (F102 v) (fun r=>r.sm):=by
 unfold F102
 refine Ob (uG (K:=12) (by decide) (by decide) h.Events (P:=fun y=>y.sm) (fun i m x f o g j hg e=>?_) (fun i m hc=>by dsimp only;rw[nB1 (uH hc)])) fun k a=>?_
 .obtain ⟨y,hy,hs⟩:=S118 (h.EventsE x f)
  exact⟨y,hs,by dsimp only;rw[mZ1 (cY1 g j),hg,nC1,hy,nC1,cZ1 e,nC1]⟩
 .refine Ob (kK (by decide)) fun l d=>?_
  refine Ob (lB (by omega) rfl) fun n b=>?_
  subst b
  exact .mk ⟨by dsimp only;omega,a.2,by dsimp only;omega⟩
theorem S31 {m:Zm} (h:m.c):Ok (F46 m) (fun r=>r.sm):=by
 unfold F46
 refine Ob (uG (K:=4) (by decide) (by decide) h.Cells (P:=fun y=>y.sm) (fun i l x L X M u hg J=>?_) (fun i m hc=>by dsimp only;rw[nB1 (uH hc)])) fun T n=>?_
 .dsimp only
  rw[mZ1 (cY1 M u),hg,nC1,nC1]
  obtain⟨v,b,F⟩:=kK (l:=x.Clefs) (k:=8) (by decide)
  rw[b,nC1]
  obtain⟨w,d,f⟩:=lB (g:=false) (m:=v) (by omega) rfl
  rw[d,nC1]
  subst f
  have hc:=h.CellsE x L
  obtain⟨E,e,j⟩:=uG (K:=3) (by decide) (by decide) hc.Voices (P:=fun y=>y.sm) (body:=fun a=>(some x).bind fun z=>if(decide (a.1<(z.Voices.length:Int))&&decide (a.1<3))=true then(some x).bind fun A=>(lget A.Voices a.1).bind fun B=>(F102 B).bind fun C=>(lapp false a.2 [C]).bind fun D=>some (Sum.inl (w64 (a.1+1),D))else some (Sum.inr a.2)) (fun u R S t Y N O q s=>by
   obtain⟨y,hy,hs⟩:=S62 (hc.VoicesE S t)
   exact⟨y,hs,by rw[nC1];dsimp only;rw[mZ1 (cY1 N O),nC1,q,nC1,hy,nC1,cZ1 s,nC1]⟩) (fun u R p=>by rw[nC1];dsimp only;rw[nB1 (uH p)])
  rw[e,nC1,cZ1 J,nC1]
  exact⟨Zw.mk w E,⟨by dsimp only;omega,by dsimp only;omega,j.2⟩,rfl⟩
 .refine Ob (kK (by decide)) fun U G=>?_
  refine Ob (lB (by omega) rfl) fun V o=>?_
  subst o
  refine Ob (xX (by decide)) fun W H=>?_
  exact .mk ⟨by dsimp only;omega,by dsimp only;omega,by dsimp only;omega,n.2⟩
theorem S4 {s:Z0} (h:s.c):Ok (F8 s) (fun r=>r.sm):=by
 unfold F8
 refine Ob (xX (by decide)) fun N h2=>?_
 refine Ob (uG (K:=3) (by decide) (by decide) h.Parts (P:=fun y=>y.sm) (fun i m x z E q t hg p=>?_) (fun i m hc=>by dsimp only;rw[nB1 (uH hc)])) fun F f=>?_
 .obtain ⟨u,a,A⟩:=xX (s:=x.Name) (k:=30) (by decide)
  obtain⟨v,b,B⟩:=kK (l:=x.Staves) (k:=2) (by decide)
  obtain⟨w,d,e⟩:=lB (g:=false) (m:=v) (by omega) rfl
  subst e
  exact⟨Zj.mk x.ID u x.Transpose w,⟨by dsimp only;omega,by dsimp only;omega⟩,by dsimp only;rw[mZ1 (cY1 q t),hg,nC1,a,nC1,b,nC1,d,nC1,cZ1 p,nC1]⟩
 refine Ob (uG (K:=4) (by decide) (by decide) h.Measures (P:=fun y=>y.sm) (fun i m x z E q t hg p=>?_) (fun i m hc=>by dsimp only;rw[nB1 (uH hc)])) fun G j=>?_
 .obtain ⟨y,hy,hs⟩:=S31 (h.MeasuresE x z)
  exact⟨y,hs,by dsimp only;rw[mZ1 (cY1 q t),hg,nC1,show F17 x=some y by unfold F17;rw[hy];rfl,nC1,cZ1 p,nC1]⟩
 refine Ob (kK (by decide)) fun H C=>?_
 refine Ob (lB (by omega) rfl) fun J n=>?_
 subst n
 refine Ob (kK (by decide)) fun L D=>?_
 refine Ob (lB (by omega) rfl) fun M o=>?_
 subst o
 exact .mk ⟨by dsimp only;omega,by dsimp only;omega,f.2,by dsimp only;omega,j.2,by dsimp only;omega,by dsimp only;omega⟩
theorem z38:F38 []=some true:=rfl
theorem z39:F39 []=some true:=rfl
theorem z41:F41 []=some true:=rfl
theorem z42:F42 []=some true:=rfl
theorem z14:F14 (Z0.mk (⟨#[]⟩:ByteArray) false [] [] [] []) (⟨#[]⟩:ByteArray) false=some true:=by
 unfold F14
 simp only[z38,z39,z41,z42,nC1,beq_self_eq_true,bne_self_eq_false,qP1,nU1,nD1,bne_iff_ne,ne_eq]
 rfl
theorem law4 {s:Z0} (h:s.c) (n:Int):F4 s n=some true:=by
 obtain⟨t,r,w⟩:=S4 h
 obtain⟨l,g⟩:∃l,F18 t=some l:=by
  obtain⟨b,hb,_⟩:=T26 w
  unfold F26 at hb
  cases h17:F18 t with
  |none=>rw[h17]at hb;cases hb
  |some l=>exact⟨l,rfl⟩
 have f:F26 t=some ((l.length:Int)==0):=by unfold F26;rw[g];rfl
 obtain⟨v,ev,hv⟩:=kK (l:=l) (k:=200) (by decide)
 have u:F9 t=some v:=by unfold F9;rw[g,nC1,ev];rfl
 unfold F4
 rw[r,nC1,u,nC1]
 by_cases q:v.length=0
 .rw [mZ1 (by simp[q])];rfl
 .rw [nB1 (by simpa using q)]
  have hl:((l.length:Int)==0)=false:=by
   have:=hv.2.1
   simp only[pD1,ne_eq];omega
  rw[hl]at f
  have e:∀a b,F19 t a b=some (dE.mk (Z0.mk (⟨#[]⟩:ByteArray) false [] [] [] []) (uE.mk 0 0),24):=fun a b=>by unfold F19;rw[f];rfl
  have p:∀a b c d,F27 t a b c d=some (0,24):=fun a b c d=>by unfold F27;rw[f];rfl
  have i:F10 t 0 1=some ([],24):=by unfold F10;rw[e];rfl
  have j:F11 t 0 1=some (Z0.mk (⟨#[]⟩:ByteArray) false [] [] [] [],[],24):=by unfold F11;rw[e];rfl
  have m:∀a b c d,F12 t a b c d=some (Z0.mk (⟨#[]⟩:ByteArray) false [] [] [] [],24):=fun a b c d=>by unfold F12;rw[p];rfl
  have o:F13 t 0 1=some 24:=by unfold F13;rw[e];rfl
  simp only[i,j,m,o,nC1]
  have hw:(w64 ((([]:List Int).length:Int)+(([]:List Int).length:Int))==0)=true:=rfl
  simp only[hw,z14,nC1,beq_self_eq_true,nU1,qH1,qP1]
end Go.P
namespace Go.P
open Go.Sim
def lenP (M:Nat):Nat->PV->Prop
 |0,_=>True
 |k+1,x=>match x with
  |.is _ rows=>rows.length<=M/\∀row∈rows,∀c∈row,lenP M k c
  |.agg cs=>∀c∈cs,lenP M k c
  |_=>True
theorem wA {M:Nat}:∀{k:Nat} {p:Bool} {x:PV} {y:AV},RC p x y->lenB M k y->lenP M k x
 |0,_,_,_,_,_=>trivial
 |k+1,p,x,y,h,hl=>by
  cases h with
  |is h1 h2 h3=>
   rename_i e rows rows'
   refine⟨by rw[h1];exact hl.1,fun row hr c hc=>?_⟩
   obtain⟨i,hi⟩:=nJ1.1 hr
   obtain⟨j,a⟩:=nJ1.1 hc
   obtain⟨g,b⟩:∃g,rows'[i]? =some g:=⟨_,nX1 (by rw[<-h1];exact(mS1.1 hi).1)⟩
   have d:=h2 i _ _ hi b
   obtain⟨c2,e2⟩:∃c2,g[j]? =some c2:=⟨_,nX1 (by rw[<-d];exact(mS1.1 a).1)⟩
   exact wA (h3 i _ _ j _ _ hi b a e2) (hl.2 _ (mY1 b) _ (mY1 e2))
  |isn=>exact⟨nY1 _,fun row hr=>(oT1 hr).elim⟩
  |agg h1 h2=>
   rename_i cs cs'
   intro c hc
   obtain⟨j,a⟩:=nJ1.1 hc
   have f:j<cs'.length:=by rw[<-h1];exact(mS1.1 a).1
   have e2:=nX1 f
   exact wA (h2 j _ _ a e2) (hl _ (mY1 e2))
  |_=>trivial
theorem eJ {M k e:Nat} {A:Type} {c:A->List PV} {l:List A} (h:lenP M (k+1) (.is e (l.map c))):l.length<=M/\∀x∈l,∀y∈c x,lenP M k y:=
 ⟨by have:=h.1;rwa [pE1]at this,fun x a y hy=>h.2 _ (pP1.2 ⟨x,a,rfl⟩) y hy⟩
end Go.P
namespace Go.P
open Go.Sim
theorem iV1 {k:Nat} {e:Ze} (h:∀c∈e.g,lenP 1048576 (k+1) c):e.c:=
  ⟨nQ1 (eJ (h (.is 5 (e.Heads.map Zb.g)) (by simp[Ze.g]))).1 (by decide),
   nQ1 (eJ (h (.is 5 (e.Graces.map Zd.g)) (by simp[Ze.g]))).1 (by decide),
   nQ1 (eJ (h (.is 2 (e.Lyrics.map Zy.g)) (by simp[Ze.g]))).1 (by decide)⟩
theorem iW1 {k:Nat} {e:Zo} (h:∀c∈e.g,lenP 1048576 (k+2) c):e.c:=by
 have:=eJ (h (.is 13 (e.Events.map Ze.g)) (by simp[Zo.g]))
 exact⟨mT1 this.1 (by decide),fun y hy=>iV1 (this.2 y hy)⟩
theorem kX1 {k:Nat} {e:Zw} (h:∀c∈e.g,lenP 1048576 (k+3) c):e.c:=by
 have:=eJ (h (.is 2 (e.Voices.map Zo.g)) (by simp[Zw.g]))
 exact⟨mT1 this.1 (by decide),fun y hy=>iW1 (this.2 y hy)⟩
theorem dA1 {k:Nat} {e:Zm} (h:∀c∈e.g,lenP 1048576 (k+4) c):e.c:=by
 have:=eJ (h (.is 2 (e.Cells.map Zw.g)) (by simp[Zm.g]))
 exact⟨mT1 this.1 (by decide),fun y hy=>kX1 (this.2 y hy)⟩
theorem iX1 {e:Z0} (h:∀c∈e.g,lenP 1048576 5 c):e.c:=by
 have h1:=eJ (k:=4) (h (.is 6 (e.Parts.map Zj.g)) (by simp[Z0.g]))
 have h2:=eJ (k:=4) (h (.is 22 (e.Measures.map Zm.g)) (by simp[Z0.g]))
 exact⟨mT1 h1.1 (by decide),mT1 h2.1 (by decide),fun y hy=>dA1 (k:=0) (h2.2 y hy)⟩
theorem fP1 {e:Z0} {cs:List AV} (h:LR (RC false) e.g cs) (hb:lenB 1048576 6 (.agg cs)):e.c:=
 iX1 (wA (k:=6) (p:=false) (.agg h.1 h.2) hb)
end Go.P
