import Derived.Test.YtlmhifhgadmigaaGreatGaB
/- A text of the proof. -/
set_option linter.all false
namespace Go.P
def Ok {α:Type} (x:aB α) (Q:α->Prop):Prop:=∃v,x=some v/\Q v
section
variable {α β:Type} {Q:α->Prop}
theorem Ok.mk {v:α} (h:Q v):Ok (some v) Q:=⟨v,rfl,h⟩
theorem aX {α:Type} {v:α} {Q:α->Prop} (h:Q v:=by exact trivial):Ok (some v) Q:=⟨v,rfl,h⟩
theorem Ob {P:β->Prop} {x:aB β} {k:β->aB α} (h:Ok x P) (hk:∀v,P v->Ok (k v) Q):Ok (x.bind k) Q:=by
 obtain⟨v,rfl,hv⟩:=h;exact hk v hv
theorem Oi {c:Prop} [Decidable c] {a b:aB α} (h1:c->Ok a Q) (h2:¬c->Ok b Q):Ok (if c then a else b) Q:=by
 split;rename_i h;exact h1 h;rename_i h;exact h2 h
theorem Ok.mono {P:α->Prop} {x:aB α} (h:Ok x P) (a:∀v,P v->Q v):Ok x Q:=by
 obtain⟨v,h1,h2⟩:=h;exact⟨v,h1,a v h2⟩
theorem Ok.ex {x:aB α} (h:Ok x Q):∃v,x=some v:=by
 obtain⟨v,h1,_⟩:=h;exact⟨v,h1⟩
theorem cW {S E:Type} {body:S->aB (S⊕E)} {Q:E->Prop} (I:S->Prop) (μ:S->Nat)
  (h:∀s,I s->Ok (body s) (fun r=>match r with|.inl s'=>I s'/\μ s'<μ s|.inr e=>Q e)):∀(n:Nat) (s:S),I s->μ s<n->Ok (aR body n s) Q
 |0,s,_,hn=>by omega
 |n+1,s,hi,hn=>by
  obtain⟨r,h1,h2⟩:=h s hi
  simp only[aR,h1,jW2]
  cases r with
  |inl s'=>exact cW I μ h n s' h2.1 (by have:=h2.2;omega)
  |inr e=>exact .mk h2
end
theorem bC {n:Int} (h1: -9223372036854775808<=n) (h2:n<9223372036854775808):aU n=n:=by
 have e:aU n=if n%18446744073709551616>=9223372036854775808 then n%18446744073709551616-18446744073709551616 else n%18446744073709551616:=by
  unfold aU IntKind.wrap;rw[show((2:Int)^IntKind.bits .i64)=18446744073709551616 from rfl,show((2:Int)^(IntKind.bits .i64-1))=9223372036854775808 from rfl];simp[IntKind.signed]
 rw[e];split<;>omega
theorem bP {A:Type} {l:aA A} {i:Int} {Q:A->Prop} (h0:0<=i) (h1:i<(l.length:Int)) (h:∀x,x∈l->l[i.toNat]? =some x->Q x):Ok (aT l i) Q:=by
 unfold aT;rw[jX2 h0];have hi:i.toNat<l.length:=by omega
 exact⟨l[i.toNat],by simp[hi],h _ (mE2 hi) (by simp[hi])⟩
end Go.P
set_option maxRecDepth 100000
namespace Go.P
def pK1 {A:Type} (l:aA A) (g:A->aB Bool):aB Int:=
 (aR (E:=Int⊕Unit) (fun(a:Int)=>
  if(decide (a<(l.length:Int)))then
   (aT l a).bind fun d=>
   (g d).bind fun b=>
   if b then
    some (.inr (.inl a))
   else
   some (.inl (aU (a+1)))
  else
  some (.inr (.inr ()))) aY 0).bind fun c=>
 match c with
 |.inl x_7=>
  some x_7
 |.inr _=>
  some (-1)
theorem cH1 {A:Type} {l:aA A} {g:A->aB Bool} (hl:l.length<9223372036854775808) (hg:∀x∈l,∃b,g x=some b):Ok (pK1 l g) (fun v=>(v= -1/\∀x∈l,g x=some false)\/(0<=v/\v<l.length/\∃x,l[v.toNat]? =some x/\g x=some true)):=by
 unfold pK1
 refine Ob (P:=fun r=>match r with|.inl v=>0<=v/\v<l.length/\∃x,l[v.toNat]? =some x/\g x=some true|.inr _=>∀x∈l,g x=some false)
  (cW (S:=Int) (fun i=>0<=i/\i<=l.length/\∀j,j<i.toNat->∀x,l[j]? =some x->g x=some false) (fun i=>l.length-i.toNat) (fun i hi=>?_) aY 0 ⟨by omega,by omega,fun j c=>by simp at c⟩ (by simp[aY];omega)) fun r hr=>?_
 obtain⟨h0,h1,h2⟩:=hi;refine Oi (fun hc=>?_) (fun hc=>?_);simp only[jY2]at hc;refine Ob (bP (Q:=fun x=>x∈l/\l[i.toNat]? =some x) h0 hc (fun x a b=>⟨a,b⟩)) fun x d=>?_;obtain⟨b,hb⟩:=hg x d.1;rw[hb];cases b with
 |true=>exact .mk ⟨h0,hc,x,d.2,hb⟩
 |false=>
  rw[jW2,bC (by omega) (by omega)];refine .mk ⟨⟨by omega,by omega,fun j c y hy=>?_⟩,by omega⟩;by_cases e:j=i.toNat
  subst e;rw[d.2]at hy;cases hy;exact hb;exact h2 j (by omega) y hy
 simp only[jY2]at hc;refine .mk (fun x d=>?_);obtain⟨j,c⟩:=kJ2.1 d;have:=(jP2.1 c).1;exact h2 j (by omega) x c;cases r with
 |inl v=>exact .mk (.inr hr)
 |inr u=>exact .mk (.inl ⟨rfl,hr⟩)
end Go.P
namespace Go.P
structure YY.b (x:YY):Prop where
 Text:x.Text.size<9223372036854775808
structure YE.b (x:YE):Prop where
 Heads:x.Heads.length<9223372036854775808
 Graces:x.Graces.length<9223372036854775808
 Lyrics:x.Lyrics.length<9223372036854775808
 LyricsE:∀y∈x.Lyrics,y.b
structure YO.b (x:YO):Prop where
 Events:x.Events.length<9223372036854775808
 EventsE:∀y∈x.Events,y.b
 Tuplets:x.Tuplets.length<9223372036854775808
structure YW.b (x:YW):Prop where
 Clefs:x.Clefs.length<9223372036854775808
 Voices:x.Voices.length<9223372036854775808
 VoicesE:∀y∈x.Voices,y.b
structure YM.b (x:YM):Prop where
 Rehearsal:x.Rehearsal.size<9223372036854775808
 Tempi:x.Tempi.length<9223372036854775808
 Cells:x.Cells.length<9223372036854775808
 CellsE:∀y∈x.Cells,y.b
structure YJ.b (x:YJ):Prop where
 Name:x.Name.size<9223372036854775808
 Staves:x.Staves.length<9223372036854775808
structure Y0.b (x:Y0):Prop where
 Title:x.Title.size<9223372036854775808
 Parts:x.Parts.length<9223372036854775808
 PartsE:∀y∈x.Parts,y.b
 Measures:x.Measures.length<9223372036854775808
 MeasuresE:∀y∈x.Measures,y.b
 Spanners:x.Spanners.length<9223372036854775808
 Last:x.Last.length<9223372036854775808
structure YY.sm (x:YY):Prop where
 Text:x.Text.size<=300
structure YE.sm (x:YE):Prop where
 Heads:x.Heads.length<=12
 Graces:x.Graces.length<=12
 Lyrics:x.Lyrics.length<=12
 LyricsE:∀y∈x.Lyrics,y.sm
structure YO.sm (x:YO):Prop where
 Events:x.Events.length<=20
 EventsE:∀y∈x.Events,y.sm
 Tuplets:x.Tuplets.length<=6
structure YW.sm (x:YW):Prop where
 Clefs:x.Clefs.length<=5
 Voices:x.Voices.length<=3
 VoicesE:∀y∈x.Voices,y.sm
structure YM.sm (x:YM):Prop where
 Rehearsal:x.Rehearsal.size<=300
 Tempi:x.Tempi.length<=5
 Cells:x.Cells.length<=5
 CellsE:∀y∈x.Cells,y.sm
structure YJ.sm (x:YJ):Prop where
 Name:x.Name.size<=300
 Staves:x.Staves.length<=5
structure Y0.sm (x:Y0):Prop where
 Title:x.Title.size<=300
 Parts:x.Parts.length<=4
 PartsE:∀y∈x.Parts,y.sm
 Measures:x.Measures.length<=12
 MeasuresE:∀y∈x.Measures,y.sm
 Spanners:x.Spanners.length<=10
 Last:x.Last.length<=5
end Go.P
namespace Go.P
theorem sO {A E:Type} {l:aA A} {body:Int->aB (Int⊕E)} {Q:E->Prop} (P:A->Prop) (hl:l.length<9223372036854775808)
  (h:∀(i:Int) (x:A),0<=i->i<(l.length:Int)->x∈l->aT l i=some x->aU (i+1)=i+1->Ok (body i) (fun r=>match r with|.inl j=>j=i+1/\P x|.inr e=>Q e))
  (a:∀i:Int,i=(l.length:Int)->(∀x∈l,P x)->Ok (body i) (fun r=>match r with|.inl j=>False|.inr e=>Q e)):Ok (aR body aY 0) Q:=by
 have hl:l.length<9223372036854775808:=hl;refine cW (fun(i:Int)=>0<=i/\i<=l.length/\∀j,j<i.toNat->∀x,l[j]? =some x->P x) (fun i=>l.length-i.toNat) (fun i hi=>?_) aY 0 ⟨by omega,by omega,fun j b=>by simp at b⟩ (by simp[aY];omega);obtain⟨h0,h1,h2⟩:=hi;by_cases c:i<(l.length:Int);have hi:i.toNat<l.length:=by omega
 have hg:aT l i=some l[i.toNat]:=by unfold aT;rw[jX2 h0];simp[hi]
 refine(h i l[i.toNat] h0 c (mE2 hi) hg (bC (by omega) (by omega))).mono fun r hr=>?_;cases r with
 |inl j=>
  obtain⟨rfl,hp⟩:=hr;refine⟨⟨by omega,by omega,fun j b y hy=>?_⟩,by omega⟩;by_cases e:j=i.toNat
  subst e;rw[lF2 hi]at hy;cases hy;exact hp;exact h2 j (by omega) y hy
 |inr e=>exact hr
 refine(a i (by omega) (fun x d=>?_)).mono fun r hr=>?_;obtain⟨j,b⟩:=kJ2.1 d;have:=(jP2.1 b).1;exact h2 j (by omega) x b;cases r with
 |inl j=>exact hr.elim
 |inr e=>exact hr
theorem U33 {v:YO} (hv:v.b):Ok (F15 v) (fun r=>r=true->v.sm):=by
 unfold F15;refine Ob (P:=fun r=>match r with|.inl _=>True|.inr _=>∀e∈v.Events,e.sm) (sO (fun e=>e.sm) hv.Events (fun i x h0 h1 c hg hw=>?_) (fun i hi hp=>?_)) fun r hr=>?_;simp only[h1,lL2,kR2,hg,jW2];refine Oi (fun hc=>.mk trivial) (fun hc=>?_);have a:=hv.EventsE x c;simp only[kE2,jY2,mJ2]at hc;refine Ob (P:=fun r=>match r with|.inl _=>True|.inr _=>∀e∈x.Lyrics,e.sm) (sO (fun e=>e.sm) a.Lyrics (fun k y j d hy f g=>?_) (fun k hk hp=>?_)) fun r hr=>?_;simp only[d,lL2,kR2,f,jW2];refine Oi (fun hd=>.mk trivial) (fun hd=>?_);rw[g];exact .mk ⟨rfl,⟨by simp at hd;omega⟩⟩;simp only[hk,Int.lt_irrefl,lV2,kB2,kU2];exact .mk hp;cases r with
 |inl u=>exact .mk trivial
 |inr u=>simp only;rw[hw];exact .mk ⟨rfl,⟨by omega,by omega,by omega,hr⟩⟩
 simp only[hi,Int.lt_irrefl,lV2,kB2,kU2];exact .mk hp;cases r with
 |inl u=>exact .mk (fun h=>by cases h)
 |inr u=>
  refine .mk (fun h=>?_);simp only[jO2,jY2]at h;exact⟨by omega,hr,by omega⟩
end Go.P
namespace Go.P
theorem bF {A S E:Type} {l:aA A} {body:S->aB (S⊕E)} {Q:E->Prop} {s0:S} (a:S->Int) (I:Nat->S->Prop) (hl:l.length<9223372036854775808) (h0:a s0=0) (f:I 0 s0)
  (h:∀(i:Nat) (x:A) (s:S),l[i]? =some x->x∈l->a s=(i:Int)->a s<(l.length:Int)->I i s->aT l (a s)=some x->aU (a s+1)=(i:Int)+1->Ok (body s) (fun r=>match r with|.inl s'=>a s'=(i:Int)+1/\I (i+1) s'|.inr e=>Q e))
  (b:∀s,a s=(l.length:Int)->I l.length s->Ok (body s) (fun r=>match r with|.inl _=>False|.inr e=>Q e)):Ok (aR body aY s0) Q:=by
 have hl:l.length<9223372036854775808:=hl;refine cW (fun s=>0<=a s/\a s<=l.length/\I (a s).toNat s) (fun s=>l.length-(a s).toNat) (fun s hi=>?_) aY s0 ⟨by omega,by omega,by rw[h0];exact f⟩ (by simp[aY];omega);obtain⟨g,m,d⟩:=hi;by_cases c:a s<(l.length:Int);have hi:(a s).toNat<l.length:=by omega
 have hc:(((a s).toNat:Nat):Int)=a s:=by omega
 have hg:aT l (a s)=some l[(a s).toNat]:=by unfold aT;rw[jX2 g];simp[hi]
 refine(h (a s).toNat l[(a s).toNat] s (by simp[hi]) (mE2 hi) hc.symm c d hg (by rw[bC (by omega) (by omega)];omega)).mono fun r hr=>?_;cases r with
 |inl s'=>
  obtain⟨k,e2⟩:=hr;refine⟨⟨by omega,by omega,?_⟩,by omega⟩;rw[show(a s').toNat=(a s).toNat+1 by omega];exact e2
 |inr e=>exact hr
 refine(b s (by omega) ?_).mono fun r hr=>?_;rw[show(a s).toNat=l.length by omega]at d;exact d;cases r with
 |inl j=>exact hr.elim
 |inr e=>exact hr
theorem dE {A:Type} {g:Bool} {l:aA A} {x:A} (h:l.length<1073741824) {Q:aA A->Prop} (a:Q (l++[x])):Ok (jR g l [x]) Q:=by
 unfold jR;have e:Sim.maxRoom=1073741824:=rfl;rw[jX2 ⟨by rw[e,lD2,kC2];omega,fun _=>jR2 _⟩];exact .mk a
theorem zK1 {w:Bool} {id:YZ} {l:aA YV} {s:Y0} {r:Int} (h:l.length<1000000):Ok (hY w id l s r) (fun v=>v.length<=l.length+1):=by
 unfold hY;refine Ob (P:=fun v=>v.length<=l.length+1) (Oi (fun _=>Ob (dE (Q:=fun v=>v.length<=l.length+1) (by omega) (by simp)) fun v hv=>.mk hv) (fun _=>.mk (by omega))) fun v hv=>.mk hv
theorem hJ1 (n a b:Int):yJ n a b=some (decide (n>=a)&&decide (n<=b)):=rfl
theorem zL1 (i:YL):F62 i=some (if((((decide (i.Steps<(-77)))||(decide (i.Steps>77)))||(decide (i.Semitones<(-140))))||(decide (i.Semitones>140)))then 2 else 0):=by
 unfold F62;split<;>rfl
theorem pL1 {s:ByteArray} (h:s.size<9223372036854775808):Ok (F60 s) (fun _=>True):=by
 unfold F60;refine Ob (P:=fun _=>True) (Oi (fun _=>?_) (fun _=>.mk trivial)) fun v hv=>.mk hv
 have:Ok (Oa s.data.toList) (fun _=>True):=by
  unfold Oa;refine Ob (cH1 (l:=s.data.toList) (g:=fun b=>Ts (b.toNat:Int)) (by rw[mV2];exact h) (fun x _=>⟨_,rfl⟩)) fun v hv=>.mk trivial
 exact Ob this fun v hv=>.mk trivial
end Go.P
namespace Go.P
section
variable {α β:Type} {Q:α->Prop}
theorem Ok.bindE {P:β->Prop} {x:aB β} {k:β->aB α} (h:Ok x P) (hk:∀v,x=some v->P v->Ok (k v) Q):Ok (x.bind k) Q:=by
 obtain⟨v,rfl,hv⟩:=h;exact hk v rfl hv
theorem Ok.of {x:aB α} (h:Ok x Q) {v:α} (hv:x=some v):Q v:=by
 obtain⟨w,h1,h2⟩:=h;rw[h1]at hv;cases hv;exact h2
theorem rG {k:IntKind} {a b:Int} (h:b≠0):Ok (yH k a b) (fun v=>v=k.wrap (a.tdiv b)):=by
 unfold yH;rw[jU2 h];exact .mk rfl
theorem Cw {k:IntKind} {a b:Int} (h:b≠0):Ok (Td k a b) (fun v=>v=a.tmod b):=by
 unfold Td;rw[jU2 h];exact .mk rfl
theorem rH {k:IntKind} {a b:Int} (h:0<=b):Ok (rB k a b) (fun v=>v=a.fdiv (2^min b.toNat k.bits)):=by
 unfold rB;rw[jU2 (by omega)];exact .mk rfl
theorem Ly {k:IntKind} {a b:Int} (h:0<=b):Ok (Xr k a b) (fun _=>True):=by
 unfold Xr;rw[jU2 (by omega)];exact .mk trivial
end
section
variable {A:Type} {l:List A}
theorem eK {i:Int} (h0:0<=i) (h1:i<(l.length:Int)):Ok (cE l i) (fun v=>v=i.toNat/\v<l.length):=by
 unfold cE qI;rw[jX2 ⟨h0,h1⟩];exact .mk ⟨rfl,by omega⟩
theorem gH {j:Nat} (h:j<l.length):Ok (cX l j) (fun x=>l[j]? =some x/\x∈l):=by
 unfold cX;rw[lF2 h];exact .mk ⟨rfl,mE2 h⟩
theorem rI {j:Nat} {f:A->A} (h:j<l.length):Ok (kT l j f) (fun m=>m.length=l.length):=by
 unfold kT;rw[lF2 h];exact .mk (by simp)
theorem jT {n c:Int} {z:A} (h0:0<=n) (h1:n<=c) (h2:c<=1073741824):Ok (tU n c z) (fun v=>v=List.replicate n.toNat z):=by
 unfold tU;rw[jX2 ⟨h0,h1,h2⟩];exact .mk rfl
theorem Ae {a b:Int} (h0:0<=a) (h1:a<=b) (h2:b<=(l.length:Int)):Ok (kU l a b) (fun v=>v.length<=l.length/\∀x∈v,x∈l):=by
 unfold kU;rw[jX2 ⟨h0,h1,h2⟩];exact .mk ⟨by simp;omega,fun x c=>List.mem_of_mem_drop (List.mem_of_mem_take c)⟩
theorem Pf {h:Int} (_:0<l.length) (h1:0<=h) (h2:h<=(l.length:Int)):Ok (xG l h) (fun v=>v.length=h.toNat/\∀x∈v,x∈l):=by
 unfold xG;rw[jX2 ⟨h1,h2⟩];exact .mk ⟨by simp;omega,fun x a=>List.mem_of_mem_take a⟩
theorem eH {i:Int} {x:A} (h:aT l i=some x):0<=i/\i<(l.length:Int)/\x∈l/\l[i.toNat]? =some x:=by
 unfold aT at h;split at h;obtain⟨hi,_⟩:=jP2.1 h;exact⟨by omega,by omega,kA2 h,h⟩;cases h
end
theorem sP {s:ByteArray} {i:Int} (h0:0<=i) (h1:i<(s.size:Int)):Ok (mZ s i) (fun v=>0<=v/\v<=255):=by
 unfold mZ;rw[jX2 h0];have h:i.toNat<s.data.toList.length:=by rw[mV2];show i.toNat<s.size;omega
 rw[lF2 h];have:=(s.data.toList[i.toNat]).toNat_lt;exact .mk ⟨by dsimp only;omega,by dsimp only;omega⟩
theorem sQ {A:Type} {l:aA A} (h:l.length<=1073741824):pJ l=some l:=by
 unfold pJ;rw[Nat.ble_eq_true_of_le h];rfl
theorem nm:(∀a b:Bool,((a||b)=true)=(a=true\/b=true))/\(∀a b:Bool,((a&&b)=true)=(a=true/\b=true))/\(∀b:Bool,((!b)=true)=(b=false))/\(∀(p:Prop) [Decidable p],(decide p=true)=p)/\
  (∀(p:Prop) [Decidable p],(decide p=false)=¬p)/\(∀p q:Prop,(¬(p\/q))=(¬p/\¬q))/\(∀p q:Prop,(¬(p/\q))=(p->¬q))/\(∀b:Bool,(¬b=true)=(b=false))/\(∀a b:Int,((a !=b)=true)=¬a=b)/\
  (∀a b:Int,((a==b)=true)=(a=b))/\(∀p:Prop,(¬¬p)=p):=
 ⟨fun a b=>by simp,fun a b=>by simp,fun b=>by simp,fun p _=>by simp,fun p _=>by simp,fun p q=>by simp,fun p q=>by simp,fun b=>by simp,fun a b=>by simp,fun a b=>by simp,fun p=>by simp⟩
theorem nl {A:Type}:(∀(a:A) (l:aA A),(a::l).length=l.length+1)/\([]:aA A).length=0:=⟨fun _ _=>rfl,rfl⟩
theorem nt:(∀[Decidable True],decide True=true)/\(∀(α:Type) [Decidable True] (a b:α),(if True then a else b)=a)/\∀(α β:Type) (a:α) (f:α->aB β),(some a).bind f=f a:=⟨lL2 _,fun _ _ _ _=>kR2 ..,fun _ _ _ _=>rfl⟩
theorem nf:(∀a:Int,(a<a)=False)/\(∀[Decidable False],decide False=false)/\((false=true)=False)/\∀(α:Type) [Decidable False] (a b:α),(if False then a else b)=b:=⟨fun a=>by simp,lV2 _,by simp,fun _ _ _ _=>kU2 ..⟩
theorem bQ {α β:Type} {Q:α->Prop} {x:aB β} {k:β->aB α} (h:Ok x fun _=>True) (hk:∀v,Ok (k v) Q):Ok (x.bind k) Q:=Ob h fun v _=>hk v
theorem oD {A S E β:Type} {l:aA A} {body:S->aB (S⊕E)} {s0:S} {k:E->aB β} {Q:β->Prop} (a:S->Int) (hl:l.length<9223372036854775808) (h0:a s0=0)
  (h:∀(i:Nat) (x:A) (s:S),x∈l->a s=(i:Int)->a s<(l.length:Int)->aT l (a s)=some x->aU (a s+1)=(i:Int)+1->Ok (body s) (fun r=>match r with|.inl s'=>a s'=(i:Int)+1|.inr _=>True))
  (b:∀s,a s=(l.length:Int)->Ok (body s) (fun r=>match r with|.inl _=>False|.inr _=>True)) (hk:∀e,Ok (k e) Q):Ok ((aR body aY s0).bind k) Q:=
 bQ (bF (l:=l) a (fun _ _=>True) hl h0 trivial (fun i x s _ d hi c _ hg hw=>(h i x s d hi c hg hw).mono fun r hr=>by cases r with|inl s'=>exact⟨hr,trivial⟩|inr e=>trivial) (fun s hi _=>b s hi)) hk
theorem Uv {s:ByteArray} {n:Nat} (h:s.size<=n):s.data.toList.length<=n:=by rw[mV2];exact h
theorem Uw (n:Int): -9223372036854775808<=aU n/\aU n<=9223372036854775807:=by
 have e:aU n=if n%18446744073709551616>=9223372036854775808 then n%18446744073709551616-18446744073709551616 else n%18446744073709551616:=by
  unfold aU IntKind.wrap;rw[show((2:Int)^IntKind.bits .i64)=18446744073709551616 from rfl,show((2:Int)^(IntKind.bits .i64-1))=9223372036854775808 from rfl];simp[IntKind.signed]
 rw[e];split<;>omega
theorem fY {S E:Type} {body:S->aB (S⊕E)} {Q:E->Prop} {s0:S} (d:S->Int) (N:Int) (I:S->Prop) (g:N<=9223372036854775807) (h0: -1000<=d s0) (f:I s0)
  (h:∀s,I s->d s0<=d s->(d s<N->aU (d s+1)=d s+1)->Ok (body s) (fun r=>match r with|.inl s'=>d s<N/\d s'=d s+1/\I s'|.inr e=>Q e)):Ok (aR body aY s0) Q:=by
 refine cW (fun s=>I s/\d s0<=d s) (fun s=>(N-d s).toNat) (fun s hs=>?_) aY s0 ⟨f,lM2 _⟩ (by simp only[aY];omega);refine(h s hs.1 hs.2 (fun hc=>bC (by omega) (by omega))).mono fun r hr=>?_;cases r with
 |inl s'=>obtain⟨a,b,c⟩:=hr;exact⟨⟨c,by omega⟩,by omega⟩
 |inr e=>exact hr
theorem cI1 {w:Bool} {id:YZ} {l:aA YV} {s:Y0} {r:Int} (h:l.length<1000000):Ok (hY w id l s r) (fun v=>(w=true->v.length=l.length+1)/\(w=false->v.length=l.length)):=by
 unfold hY;refine Ob (P:=fun v=>(w=true->v.length=l.length+1)/\(w=false->v.length=l.length)) (Oi (fun h=>Ob (dE (Q:=fun v=>v.length=l.length+1) (by omega) (by simp)) fun v hv=>.mk ⟨fun _=>hv,fun h2=>by rw[h]at h2;cases h2⟩) (fun h=>.mk ⟨fun h2=>absurd h2 h,fun _=>rfl⟩)) fun v hv=>.mk hv
theorem pM1 (n:Int):0<=IntKind.wrap .u8 n/\IntKind.wrap .u8 n<256:=by
 unfold IntKind.wrap;rw[show((2:Int)^IntKind.bits .u8)=256 from rfl];simp[IntKind.signed];omega
theorem zM1 {l:aA YV} {s:Y0} {r:Int} (hs:s.sm) (h0:s.Measures.length=0) (h:l.length<900000):Ok (Oc l s r) (fun v=>0<v.length):=by
 unfold Oc;have hp:=hs.Parts;refine Ob (P:=fun v=>v.length<=l.length+4) (bF (l:=s.Parts) (fun q=>q.1) (fun i q=>q.2.length<=l.length+i) (by omega) rfl (by simp) (fun i x q m f hi e d hg hw=>?_) (fun q hi d=>?_)) fun v1 h1=>?_;obtain⟨k,j⟩:=q;have g:=hs.PartsE x f;have n:=g.Name;simp only at hi e d hg hw;simp only[e,lL2,kR2,hg,jW2,hJ1,zL1];refine Ob (pL1 (by omega)) fun a _=>?_;refine Ob (P:=fun _=>True) (by split<;>exact .mk trivial) fun b _=>?_;refine Ob (P:=fun _=>True) (by split<;>exact .mk trivial) fun c _=>?_;refine Ob (zK1 (by omega)) fun v hv=>.mk ⟨hw,by dsimp only;omega⟩;obtain⟨k,j⟩:=q;simp only at hi d;simp only[hi,Int.lt_irrefl,lV2,kB2,kU2];exact .mk (by omega);refine Ob (P:=fun v=>v.length<=l.length+4) (bF (l:=s.Measures) (fun q=>q.1) (fun i q=>q.2.length<=l.length+4) (by omega) rfl h1 (fun i x q m f hi e d hg hw=>by omega) (fun q hi d=>?_)) fun v1 h1=>?_;obtain⟨k,j⟩:=q;simp only at hi d;simp only[hi,Int.lt_irrefl,lV2,kB2,kU2];exact .mk d;have o:=hs.Title;refine Ob (pL1 (by omega)) fun a _=>?_;simp only[hJ1,jW2];refine Ob (P:=fun _=>True) (by split<;>exact .mk trivial) fun b _=>?_;refine Ob (P:=fun r=>r=true) (Oi (fun _=>.mk rfl) (fun _=>.mk (by simp[h0]))) fun c hc=>?_;subst hc;simp only[Bool.true_or];refine Ob (cI1 (by omega)) fun v hv=>.mk (by have:=hv.1 rfl;omega)
def YU.ok (n:Int) (t:YU):Prop:=1<=t.Count/\t.Count<=n/\0<=t.First/\t.First+t.Count<=n/\1<=t.Actual/\t.Actual<=32/\1<=t.Normal/\t.Normal<=32
def Y0.pl (s:Y0) (m c v:Int):Prop:=∃x y z,aT s.Measures m=some x/\aT x.Cells c=some y/\aT y.Voices v=some z
theorem og {A α V:Type} (l:aA A) (v:aA V) (K k:Nat) {body:Int×aA V->aB ((Int×aA V)⊕aA V)} {m:aA V->aB α} {Q:α->Prop} (hl:l.length<9223372036854775808)
  (h:∀(i:Nat) (x:A) (s:Int×aA V),l[i]? =some x->x∈l->s.1=(i:Int)->s.1<(l.length:Int)->(v.length<=s.2.length/\s.2.length<=v.length+i*k)->aT l s.1=some x->aU (s.1+1)=(i:Int)+1->Ok (body s) (fun r=>match r with|.inl s'=>s'.1=(i:Int)+1/\v.length<=s'.2.length/\s'.2.length<=v.length+(i+1)*k|.inr e=>v.length<=e.length/\e.length<=v.length+K))
  (j:∀s,s.1=(l.length:Int)->(v.length<=s.2.length/\s.2.length<=v.length+l.length*k)->Ok (body s) (fun r=>match r with|.inl _=>False|.inr e=>v.length<=e.length/\e.length<=v.length+K))
  (hk:∀r,(v.length<=r.length/\r.length<=v.length+K)->Ok (m r) Q):Ok ((aR body aY (0,v)).bind m) Q:=
 Ob (P:=fun r=>v.length<=r.length/\r.length<=v.length+K) (bF (l:=l) (fun q=>q.1) (fun i q=>v.length<=q.2.length/\q.2.length<=v.length+i*k) hl rfl ⟨jR2 _,by dsimp only;omega⟩ (fun i x s a b c d e f g=>(h i x s a b c d e f g).mono fun r hr=>by cases r<;>exact hr) (fun s a b=>(j s a b).mono fun r hr=>by cases r<;>exact hr)) hk
end Go.P
set_option maxHeartbeats 1000000
namespace Go.P
theorem U34 {v:YO} (hv:v.b):Ok (F16 v) (fun _=>True):=by
 unfold F16;refine Ob (P:=fun _=>True) (bF (l:=v.Events) (fun q=>q.2) (fun _ _=>True) hv.Events rfl trivial (fun i e q c a hi hl _ hg hw=>?_) (fun q hi _=>?_)) fun v _=>.mk trivial;obtain⟨n,k⟩:=q;dsimp only at hi hl hg hw;simp only[hl,hg,lL2,kR2,jW2];refine Ob (P:=fun _=>True) (bF (l:=e.Lyrics) (fun q=>q.2) (fun _ _=>True) (hv.EventsE e a).Lyrics rfl trivial (fun i e q c a hi hl _ hg hw=>?_) (fun q hi _=>?_)) fun x _=>.mk ⟨hw,trivial⟩;obtain⟨n,k⟩:=q;dsimp only at hi hl hg hw;simp only[hl,hg,lL2,kR2,jW2];exact .mk ⟨hw,trivial⟩;obtain⟨n,k⟩:=q;dsimp only at hi;simp only[hi,Int.lt_irrefl,lV2,kB2,kU2];exact .mk trivial;obtain⟨n,k⟩:=q;dsimp only at hi;simp only[hi,Int.lt_irrefl,lV2,kB2,kU2];exact .mk trivial
theorem U13 {s:Y0} (hb:s.b):Ok (F6 s) (fun r=>r=true->s.sm):=by
 unfold F6;refine Ob (P:=fun r=>match r with|.inl _=>True|.inr _=>∀p∈s.Parts,p.sm) (sO (l:=s.Parts) (fun p=>p.sm) hb.Parts (fun i p h0 h1 d hg hw=>?_) (fun i hi o=>?_)) fun r hr=>?_;simp only[h1,hg,hw,lL2,kR2,jW2];refine Ob (P:=fun b=>b=true\/p.sm) (Oi (fun _=>.mk (.inl rfl)) (fun hc=>.mk ?_)) fun b hb=>?_;simp only[jY2]at hc;by_cases h:(p.Name.size:Int)>300;exact .inl (by simpa using h);exact .inr ⟨by omega,by omega⟩;exact Oi (fun _=>.mk trivial) (fun hc=>.mk ⟨rfl,hb.resolve_left hc⟩);simp only[hi,Int.lt_irrefl,lV2,kB2,kU2];exact .mk o;rcases r with _|_;exact .mk (fun h=>by cases h);refine Ob (P:=fun r=>match r with|.inl _=>True|.inr _=>∀m∈s.Measures,m.sm) (bF (l:=s.Measures) (fun q=>q.2.2) (fun i q=>∀m∈s.Measures.take i,m.sm) hb.Measures rfl (fun m j=>by simp at j) (fun i m q d j hi hl g hg hw=>?_) (fun q hi g=>?_)) fun r B=>?_;obtain⟨ev,by',k⟩:=q;have F:=hb.MeasuresE m j;dsimp only at hi hl hg hw;simp only[hl,hg,lL2,kR2,jW2];refine Oi (fun _=>.mk trivial) (fun hc=>?_);simp only[kE2,jY2,mJ2]at hc;refine Ob (P:=fun r=>match r with|.inl _=>True|.inr _=>∀c∈m.Cells,c.sm) (bF (l:=m.Cells) (fun q=>q.2.2) (fun i q=>∀c∈m.Cells.take i,c.sm) F.Cells rfl (fun m j=>by simp at j) (fun i c q C z hi hl w hg t=>?_) (fun q hi g=>?_)) fun r hr=>?_;obtain⟨ev,by',k⟩:=q;have E:=F.CellsE c z;dsimp only at hi hl hg t;simp only[hl,hg,lL2,kR2,jW2];refine Ob (P:=fun b=>b=true\/(c.Clefs.length<=5/\c.Voices.length<=3)) (Oi (fun _=>.mk (.inl rfl)) (fun hc=>.mk ?_)) fun b hb=>?_;simp only[jY2]at hc;by_cases h:(c.Voices.length:Int)>3;exact .inl (by simpa using h);exact .inr ⟨by omega,by omega⟩;refine Oi (fun _=>.mk trivial) (fun hcc=>?_);have hcc:=hb.resolve_left hcc;refine Ob (P:=fun r=>match r with|.inl _=>True|.inr _=>∀v∈c.Voices,v.sm) (bF (l:=c.Voices) (fun q=>q.2.2) (fun i q=>∀v∈c.Voices.take i,v.sm) E.Voices rfl (fun m j=>by simp at j) (fun i v q D A hi hl g hg u=>?_) (fun q hi g=>?_)) fun r hr=>?_;obtain⟨ev,by',k⟩:=q;have bv:=E.VoicesE v A;dsimp only at hi hl hg u;simp only[hl,hg,lL2,kR2,jW2];refine Ob (U33 bv) fun f hf=>?_;refine Oi (fun _=>.mk trivial) (fun y=>?_);refine Ob (U34 bv) fun n _=>?_;refine Oi (fun _=>.mk trivial) (fun _=>.mk ⟨u,fun x d=>?_⟩);rw[List.take_add_one,D]at d;rcases lA2.1 d with d|d;exact g x d;simp at d;subst d;exact hf (by simpa using y);obtain⟨ev,by',k⟩:=q;dsimp only at hi;simp only[hi,Int.lt_irrefl,lV2,kB2,kU2];rw[lX2]at g;exact .mk g;rcases r with⟨a,b⟩|⟨a,b⟩
 exact .mk trivial;refine .mk ⟨t,fun x d=>?_⟩;rw[List.take_add_one,C]at d;rcases lA2.1 d with d|d;exact w x d;simp at d;subst d;exact⟨hcc.1,hcc.2,hr⟩;obtain⟨ev,by',k⟩:=q;dsimp only at hi;simp only[hi,Int.lt_irrefl,lV2,kB2,kU2];rw[lX2]at g;exact .mk g;rcases r with⟨a,b⟩|⟨a,b⟩
 exact .mk trivial;refine .mk ⟨hw,fun x e=>?_⟩;rw[List.take_add_one,d]at e;rcases lA2.1 e with e|e;exact g x e;simp at e;subst e;exact⟨by omega,by omega,by omega,hr⟩;obtain⟨ev,by',k⟩:=q;dsimp only at hi;simp only[hi,Int.lt_irrefl,lV2,kB2,kU2];rw[lX2]at g;exact .mk g;rcases r with _|_;exact .mk (fun h=>by cases h);refine .mk (fun h=>?_);simp only[jO2,jY2]at h;exact⟨by omega,by omega,hr,by omega,B,by omega,by omega⟩
end Go.P
set_option maxHeartbeats 2000000
namespace Go.P
theorem zN1 {a:Int}:Ok (Ts a) (fun _=>True):=by
 unfold Ts;exact aX
theorem zO1 {f:aA UInt8} (a:f.length<=300):Ok (Ya f) (fun _=>True):=by
 unfold Ya;have g:=a;refine oD (l:=f) (fun q=>q) (jS2 a (by decide)) rfl (fun m k i h b d c e=>?_) (fun i b=>?_) fun j=>?_;simp only[d,c,nt];refine bQ (zN1) fun n=>?_;refine Oi (fun c13=>?_) (fun c13=>?_);exact aX;exact .mk e;simp only[b,nf];exact aX;rcases j with o|_;exact aX;exact aX
theorem zP1 {b:aA UInt8} (a:b.length<=300):Ok (Oa b) (fun _=>True):=by
 unfold Oa;refine bQ (zO1 a) fun c=>?_;exact aX
theorem T60 {b:ByteArray} (a:b.size<=300):Ok (F60 b) (fun _=>True):=by
 unfold F60;refine Ob (P:=fun r=>r=true->(decide ((b.size:Int)<=256))=true) ?_ fun e c=>?_;refine Oi (fun c16=>?_) (fun _=>.mk (fun h=>by cases h));refine bQ (zP1 (Uv a)) fun d=>?_;exact .mk (fun _=>c16);exact aX
theorem Gx {a b c:Int}:Ok (yJ a b c) (fun _=>True):=by
 unfold yJ;exact aX
theorem T62 {a:YL}:Ok (F62 a) (fun _=>True):=by
 unfold F62;refine Oi (fun c18=>?_) (fun c18=>?_);exact aX;exact aX
theorem jV {b:Bool} {f:YZ} {a:aA YV} {c:Y0} {g:Int} (d:a.length+1<=1000000) (e:c.sm):Ok (hY b f a c g) (fun v=>a.length<=v.length/\v.length<=a.length+1):=by
 exact(cI1 (by omega)).mono fun v h=>by cases b<;>simp at h<;>omega
theorem pN1 {E:aA YV} {F:Y0} {x3:Int} (d2:E.length+17<=1000000) (a:F.sm):Ok (Oc E F x3) (fun v=>E.length<=v.length/\v.length<=E.length+17):=by
 unfold Oc;have b0:=a.Parts;refine og F.Parts E 4 1 (jS2 a.Parts (by decide)) (fun d8 b9 q30 b7 A c o g m u=>?_) (fun q30 c g=>?_) fun S z19=>?_;obtain⟨M,N⟩:=q30;dsimp only at c o m u g;simp only[o,m,nt];have L:=a.PartsE _ A;refine bQ (T60 L.Name) fun O=>?_;refine Ob (P:=fun r=>¬r=true->¬(!O)=true) ?_ fun R J=>?_;refine Oi (fun _=>.mk (fun h=>absurd rfl h)) (fun c35=>?_);refine bQ (Gx) fun e6=>?_;exact .mk (fun _=>c35);refine Ob (P:=fun r=>¬r=true->¬R=true) ?_ fun e8 d3=>?_;refine Oi (fun _=>.mk (fun h=>absurd rfl h)) (fun c38=>?_);have e3:=J c38;refine bQ (T62) fun e7=>?_;exact .mk (fun _=>c38);refine Ob (jV (by first|omega|(simp only[kC2]at *;omega)) a) fun e9 d4=>?_;exact .mk ⟨u,by dsimp only;omega⟩;obtain⟨M,N⟩:=q30;dsimp only at c g;simp only[c,nf];exact .mk (by dsimp only;omega);have b4:=a.Measures;refine og F.Measures S 12 1 (jS2 a.Measures (by decide)) (fun d9 G q53 b8 B d p i b w=>?_) (fun q53 d i=>?_) fun f6 g3=>?_;obtain⟨T,U⟩:=q53;dsimp only at d p b w i;simp only[p,b,nt];have k:=a.MeasuresE _ B;refine bQ (T60 k.Rehearsal) fun f1=>?_;have b5:=k.Cells;refine oD (l:=G.Cells) (fun q=>q.2) (jS2 k.Cells (by decide)) rfl (fun e0 H q67 C e s j x=>?_) (fun q67 e=>?_) fun f3=>?_;obtain⟨V,W⟩:=q67;dsimp only at e s j x;simp only[s,b,j,nt];have z:=k.CellsE _ C;have b6:=z.Voices;refine oD (l:=H.Voices) (fun q=>q.2) (jS2 z.Voices (by decide)) rfl (fun e1 d1 q80 D f t n y=>?_) (fun q80 f=>?_) fun f2=>?_;obtain⟨X,Y⟩:=q80;dsimp only at f t n y;simp only[t,b,j,n,nt];have e5:=z.VoicesE _ D;exact .mk y;obtain⟨X,Y⟩:=q80;dsimp only at f;simp only[f,nf];exact aX;exact .mk x;obtain⟨V,W⟩:=q67;dsimp only at e;simp only[e,nf];exact aX;refine Ob (jV (by first|omega|(simp only[kC2]at *;omega)) a) fun f5 d5=>?_;exact .mk ⟨w,by dsimp only;omega⟩;obtain⟨T,U⟩:=q53;dsimp only at d i;simp only[d,nf];exact .mk (by dsimp only;omega);refine bQ (T60 a.Title) fun Z=>?_;refine Ob (P:=fun r=>¬r=true->¬(!Z)=true) ?_ fun a0 K=>?_;refine Oi (fun _=>.mk (fun h=>absurd rfl h)) (fun c86=>?_);refine bQ (Gx) fun f7=>?_;exact .mk (fun _=>c86);refine Ob (P:=fun r=>¬r=true->¬a0=true) ?_ fun f9 d6=>?_;refine Oi (fun _=>.mk (fun h=>absurd rfl h)) (fun c89=>?_);have e4:=K c89;refine bQ (Gx) fun f8=>?_;exact .mk (fun _=>c89);refine Ob (jV (by first|omega|(simp only[kC2]at *;omega)) a) fun g1 d7=>?_;exact .mk (by omega)
theorem zR1 {a:Y0} (b:a.sm):Ok (Yb a) (fun _=>True):=by
 unfold Yb;exact aX
theorem hK1 {f h:Int} {i j:Int} {k l m:Int} {b:YJ} {a:aA YZ} (c:b.sm) (e:a.length+1<=1000000):Ok (Bs f h i j k l m b a) (fun v=>v.length<=a.length+1):=by
 unfold Bs;refine Ob (dE (Q:=fun v=>v.length=a.length+1) (by omega) (by simp)) fun g d=>?_;exact .mk (by omega)
theorem Ux {d f:Int} {g h:Int} {i j k:Int} {l:YF} {a:aA YZ} (c:a.length+1<=1000000):Ok (rC d f g h i j k l a) (fun v=>v.length<=a.length+1):=by
 unfold rC;refine Ob (dE (Q:=fun v=>v.length=a.length+1) (by omega) (by simp)) fun e b=>?_;exact .mk (by omega)
theorem Uy {f h:Int} {i j:Int} {k l m:Int} {b:YM} {a:aA YZ} (c:b.sm) (e:a.length+1<=1000000):Ok (rD f h i j k l m b a) (fun v=>v.length<=a.length+1):=by
 unfold rD;refine Ob (dE (Q:=fun v=>v.length=a.length+1) (by omega) (by simp)) fun g d=>?_;exact .mk (by omega)
theorem Uz {f h:Int} {i j:Int} {k l m:Int} {b:YE} {a:aA YZ} (c:b.sm) (e:a.length+1<=1000000):Ok (rE f h i j k l m b a) (fun v=>v.length<=a.length+1):=by
 unfold rE;refine Ob (dE (Q:=fun v=>v.length=a.length+1) (by omega) (by simp)) fun g d=>?_;exact .mk (by omega)
theorem Va {d f:Int} {g h:Int} {i j k:Int} {l:YN} {a:aA YZ} (c:a.length+1<=1000000):Ok (rF d f g h i j k l a) (fun v=>v.length<=a.length+1):=by
 unfold rF;refine Ob (dE (Q:=fun v=>v.length=a.length+1) (by omega) (by simp)) fun e b=>?_;exact .mk (by omega)
theorem zS1 {x1:Y0} {x2:aA YZ} (k:x1.sm) (j8:x2.length+3646<=1000000):Ok (Yd x1 x2) (fun v=>v.length<=x2.length+3646):=by
 unfold Yd;have e7:=k.Parts;refine Ob (P:=fun r=>r.length<=x2.length+24) (bF (l:=x1.Parts) (fun q=>q.2.1) (fun i q=>q.2.2.length<=x2.length+i*6) (jS2 k.Parts (by decide)) rfl (by dsimp only;omega) (fun j9 b7 q109 f6 a0 c C m w K=>?_) (fun q109 c m=>?_)) fun e3 k3=>?_;obtain⟨g5,g6,g7⟩:=q109;dsimp only at c C w K m;simp only[C,w,nt];have T:=k.PartsE _ a0;refine Ob (hK1 T (by first|omega|(simp only[kC2]at *;omega))) fun e1 h5=>?_;have e8:=T.Staves;refine Ob (P:=fun r=>r.2.length<=e1.length+5) (bF (l:=b7.Staves) (fun q=>q.2.1) (fun i q=>q.2.2.length<=e1.length+i*1) (jS2 T.Staves (by decide)) rfl (by dsimp only;omega) (fun i0 h2 q125 f7 e5 d D n z L=>?_) (fun q125 d n=>?_)) fun⟨k1,k2⟩ e4=>?_;obtain⟨g8,g9,h0⟩:=q125;dsimp only at d D z L n;simp only[D,w,z,nt];refine Ob (Ux (by first|omega|(simp only[kC2]at *;omega))) fun k0 h6=>?_;exact .mk ⟨L,by dsimp only;omega⟩;obtain⟨g8,g9,h0⟩:=q125;dsimp only at d n;simp only[d,nf];exact .mk (by dsimp only;omega)
 try dsimp only at e4
 exact .mk ⟨K,by dsimp only;omega⟩;obtain⟨g5,g6,g7⟩:=q109;dsimp only at c m;simp only[c,nf];exact .mk (by dsimp only;omega);have e9:=k.Measures;refine Ob (P:=fun r=>r.length<=e3.length+3612) (bF (l:=x1.Measures) (fun q=>q.1) (fun i q=>q.2.length<=e3.length+i*301) (jS2 k.Measures (by decide)) rfl (by dsimp only;omega) (fun i1 b8 q140 f8 b0 e E o a M=>?_) (fun q140 e o=>?_)) fun Z j3=>?_;obtain⟨d3,d4⟩:=q140;dsimp only at e E a M o;simp only[E,a,nt];have y:=k.MeasuresE _ b0;refine Ob (Uy y (by first|omega|(simp only[kC2]at *;omega))) fun Y h7=>?_;have f1:=y.Cells;refine Ob (P:=fun r=>r.length<=Y.length+300) (bF (l:=b8.Cells) (fun q=>q.1) (fun i q=>q.2.length<=Y.length+i*60) (jS2 y.Cells (by decide)) rfl (by dsimp only;omega) (fun i2 b9 q156 f9 b4 f F p b N=>?_) (fun q156 f p=>?_)) fun j0 j4=>?_;obtain⟨d5,W⟩:=q156;dsimp only at f F b N p;simp only[F,a,b,nt];have U:=y.CellsE _ b4;have f2:=U.Voices;refine Ob (P:=fun r=>r.length<=W.length+60) (bF (l:=b9.Voices) (fun q=>q.1) (fun i q=>q.2.length<=W.length+i*20) (jS2 U.Voices (by decide)) rfl (by dsimp only;omega) (fun i3 d1 q171 g1 b5 g G s x O=>?_) (fun q171 g s=>?_)) fun i9 j5=>?_;obtain⟨d6,X⟩:=q171;dsimp only at g G x O s;simp only[G,a,b,x,nt];have V:=U.VoicesE _ b5;have f3:=V.Events;refine Ob (P:=fun r=>r.length<=X.length+20) (bF (l:=d1.Events) (fun q=>q.1) (fun i q=>q.2.length<=X.length+i*1) (jS2 V.Events (by decide)) rfl (by dsimp only;omega) (fun i4 h3 q187 g3 b6 h H t A R=>?_) (fun q187 h t=>?_)) fun i7 j6=>?_;obtain⟨d7,d8⟩:=q187;dsimp only at h H A R t;simp only[H,a,b,x,A,nt];have d2:=V.EventsE _ b6;refine Ob (Uz d2 (by first|omega|(simp only[kC2]at *;omega))) fun i6 h8=>?_;exact .mk ⟨R,by dsimp only;omega⟩;obtain⟨d7,d8⟩:=q187;dsimp only at h t;simp only[h,nf];exact .mk (by dsimp only;omega);exact .mk ⟨O,by dsimp only;omega⟩;obtain⟨d6,X⟩:=q171;dsimp only at g s;simp only[g,nf];exact .mk (by dsimp only;omega);exact .mk ⟨N,by dsimp only;omega⟩;obtain⟨d5,W⟩:=q156;dsimp only at f p;simp only[f,nf];exact .mk (by dsimp only;omega);exact .mk ⟨M,by dsimp only;omega⟩;obtain⟨d3,d4⟩:=q140;dsimp only at e o;simp only[e,nf];exact .mk (by dsimp only;omega);have f5:=k.Spanners;refine Ob (P:=fun r=>r.length<=Z.length+10) (bF (l:=x1.Spanners) (fun q=>q.1) (fun i q=>q.2.length<=Z.length+i*1) (jS2 k.Spanners (by decide)) rfl (by dsimp only;omega) (fun i5 h4 q205 g4 e6 j J u B S=>?_) (fun q205 j u=>?_)) fun j2 j7=>?_;obtain⟨d9,e0⟩:=q205;dsimp only at j J B S u;simp only[J,B,nt];refine Ob (Va (by first|omega|(simp only[kC2]at *;omega))) fun j1 h9=>?_;exact .mk ⟨S,by dsimp only;omega⟩;obtain⟨d9,e0⟩:=q205;dsimp only at j u;simp only[j,nf];exact .mk (by dsimp only;omega);exact .mk (by omega)
theorem T63 {c:Y0} (a:c.sm):Ok (F63 c) (fun v=>v.length<=4000):=by
 unfold F63;refine bQ (zR1 a) fun _=>?_;refine Ob (zS1 a (by first|omega|(simp only[kC2]at *;omega))) fun d b=>?_;exact .mk (by simp only[kC2]at *;omega)
theorem T64 {b:YZ}:Ok (F64 b) (fun _=>True):=by
 unfold F64;refine bQ (Gx) fun c=>?_;refine Ob (P:=fun r=>r=true->c=true) ?_ fun e a=>?_;refine Oi (fun c212=>?_) (fun _=>.mk (fun h=>by cases h));refine bQ (Gx) fun d=>?_;exact .mk (fun _=>c212);exact aX
theorem T65 {h:Y0} {k:Int} (e:h.sm):Ok (F65 h k) (fun _=>True):=by
 unfold F65;have g:=e.Last;refine oD (l:=h.Last) (fun q=>q) (jS2 e.Last (by decide)) rfl (fun j i m f a c b d=>?_) (fun m a=>?_) fun n=>?_;simp only[c,b,nt];refine Oi (fun c225=>?_) (fun c225=>?_);exact aX;exact .mk d;simp only[a,nf];exact aX;rcases n with o|_;exact aX;exact aX
theorem pO1 {o:aA YV} {z:Y0} {x3:Int} (X:o.length+4001<=1000000) (c:z.sm):Ok (Ye o z x3) (fun v=>o.length<=v.length/\v.length<=o.length+4001):=by
 unfold Ye;refine Ob (T63 c) fun x4 n=>?_;have D:=n;refine Ob (P:=fun r=>o.length<=r.2.length/\r.2.length<=o.length+4000) (bF (l:=x4) (fun q=>q.1) (fun i q=>o.length<=q.2.2.length/\q.2.2.length<=o.length+i*1) (jS2 n (by decide)) rfl (by dsimp only;omega) (fun U p q238 G A a g d e k=>?_) (fun q238 a d=>?_)) fun⟨b0,b4⟩ y=>?_;obtain⟨H,t,J⟩:=q238;dsimp only at a g e k d;simp only[g,e,nt];refine bQ (T64) fun K=>?_;refine Ob (P:=fun r=>¬r=true->¬((!K)||(yI t p false))=true) ?_ fun Z N=>?_;refine Oi (fun _=>.mk (fun h=>absurd rfl h)) (fun c242=>?_);refine bQ (T65 c) fun Y=>?_;exact .mk (fun _=>c242);refine Ob (jV (by first|omega|(simp only[kC2]at *;omega)) c) fun a0 O=>?_;exact .mk ⟨k,by dsimp only;omega⟩;obtain⟨H,t,J⟩:=q238;dsimp only at a d;simp only[a,nf];exact .mk (by dsimp only;omega)
 try dsimp only at y
 have E:=c.Last;refine oD (l:=z.Last) (fun q=>q.2) (jS2 c.Last (by decide)) rfl (fun V M q255 B b j f m=>?_) (fun q255 b=>?_) fun b9=>?_;obtain⟨u,w⟩:=q255;dsimp only at b j f m;simp only[j,f,nt];refine Ob (P:=fun r=>¬r=true->¬u=true) ?_ fun L s=>?_;refine Oi (fun _=>.mk (fun h=>absurd rfl h)) (fun c258=>?_);refine bQ (T64) fun b5=>?_;exact .mk (fun _=>c258);refine Ob (P:=fun r=>¬r=true->¬L=true) ?_ fun b8 R=>?_;refine Oi (fun _=>.mk (fun h=>absurd rfl h)) (fun c261=>?_);have W:=s c261;refine Ob (P:=fun r=>r=true->(decide (w>0))=true) ?_ fun b7 S=>?_;refine Oi (fun c264=>?_) (fun _=>.mk (fun h=>by cases h));have F:=c.Last;refine Ob (P:=fun x=>x∈z.Last) (bP (by(simp only[nm]at *;rw[bC (by omega) (by omega)];omega)) (by(simp only[nm]at *;rw[bC (by omega) (by omega)];omega)) (fun _ h _=>h)) fun b6 C=>?_;exact .mk (fun _=>c264);exact .mk (fun _=>c261);exact .mk m;obtain⟨u,w⟩:=q255;dsimp only at b;simp only[b,nf];exact aX;refine Ob (jV (by first|omega|(simp only[kC2]at *;omega)) c) fun d1 T=>?_;exact .mk (by omega)
theorem T20 {b:Y0} (a:b.sm):Ok (F20 b) (fun v=>v<=9223372036854775807):=by
 unfold F20;have hp:=a.Parts;refine Ob (P:=fun v=>v<=9223372036854775807) (bF (l:=b.Parts) (fun q=>q.2) (fun i q=>q.1<=9223372036854775807) (by omega) rfl (by decide) (fun i e q f d hi hl _ hg hw=>?_) (fun q hi c=>?_)) fun v hv=>.mk hv;obtain⟨n,x⟩:=q;dsimp only at hi hl hg hw;simp only[hl,hg,nt];exact .mk ⟨hw,(Uw _).2⟩;obtain⟨n,x⟩:=q;dsimp only at hi c;simp only[hi,nf];exact .mk c
theorem T67 {O:Int} {C:YM} {W:Int} (m:C.sm):Ok (F67 O C W) (fun _=>True):=by
 unfold F67;have v:=m.Cells;refine oD (l:=C.Cells) (fun q=>q.2) (jS2 m.Cells (by decide)) rfl (fun H e q279 n b g d j=>?_) (fun q279 b=>?_) fun V=>?_;obtain⟨u,A⟩:=q279;dsimp only at b g d j;simp only[g,d,nt];have a:=m.CellsE _ n;refine Ob (P:=fun r=>¬r=true->¬(u||((e.Voices.length:Int)==0))=true) ?_ fun B t=>?_;refine Oi (fun _=>.mk (fun h=>absurd rfl h)) (fun c283=>?_);have w:=a.Voices;refine Ob (P:=fun x=>x∈e.Voices) (bP (by omega) (by(simp only[nm]at *;omega)) (fun _ h _=>h)) fun R o=>?_;have L:=a.VoicesE _ o;exact .mk (fun _=>c283);refine Ob (P:=fun r=>¬r=true->¬B=true) ?_ fun T G=>?_;refine Oi (fun _=>.mk (fun h=>absurd rfl h)) (fun c289=>?_);have K:=t c289;have y:=a.Voices;refine Ob (P:=fun x=>x∈e.Voices) (bP (by(simp only[nm]at *;rw[bC (by omega) (by omega)];omega)) (by(simp only[nm]at *;rw[bC (by omega) (by omega)];omega)) (fun _ h _=>h)) fun S p=>?_;have M:=a.VoicesE _ p;exact .mk (fun _=>c289);have z:=a.Voices;refine oD (l:=e.Voices) (fun q=>q.2) (jS2 a.Voices (by decide)) rfl (fun J F q305 s c i f k=>?_) (fun q305 c=>?_) fun U=>?_;obtain⟨D,E⟩:=q305;dsimp only at c i f k;simp only[i,d,f,nt];have N:=a.VoicesE _ s;exact .mk k;obtain⟨D,E⟩:=q305;dsimp only at c;simp only[c,nf];exact aX;exact .mk j;obtain⟨u,A⟩:=q279;dsimp only at b;simp only[b,nf];exact aX;exact aX
theorem zT1 {r:Int} {i:aA YV} {l:Y0} {w:Int} (q:i.length+12<=1000000) (f:l.sm):Ok (Yf r i l w) (fun v=>i.length<=v.length/\v.length<=i.length+12):=by
 unfold Yf;have j:=f.Measures;refine og l.Measures i 12 1 (jS2 f.Measures (by decide)) (fun o m q319 k g a d b c e=>?_) (fun q319 a b=>?_) fun u p=>?_;obtain⟨x,y⟩:=q319;dsimp only at a d c e b;simp only[d,c,nt];have h:=f.MeasuresE _ g;refine bQ (T67 h) fun s=>?_;refine Ob (jV (by first|omega|(simp only[kC2]at *;omega)) f) fun t n=>?_;exact .mk ⟨e,by dsimp only;omega⟩;obtain⟨x,y⟩:=q319;dsimp only at a b;simp only[a,nf];exact .mk (by dsimp only;omega);exact .mk (by omega)
theorem pP1 {b:aA YV} {e:Y0} {g:Int} (f:b.length+12<=1000000) (a:e.sm):Ok (Yg b e g) (fun v=>b.length<=v.length/\v.length<=b.length+12):=by
 unfold Yg;refine Ob (T20 a) fun h c=>?_;refine Ob (zT1 (by first|omega|(simp only[kC2]at *;omega)) a) fun i d=>?_;exact .mk (by omega)
theorem zU1:Ok (Yh) (fun _=>True):=by
 unfold Yh;exact aX
theorem zV1 {b:Int}:Ok (Yi b) (fun _=>True):=by
 unfold Yi;refine Oi (fun c326=>?_) (fun c326=>?_);exact aX;refine bQ (zU1) fun c=>?_;refine Ob (bP (Q:=fun _=>True) (by(simp only[nm]at *;rw[bC (by omega) (by omega)];omega)) (by(simp only[nm,nl]at *;rw[bC (by omega) (by omega)];omega)) (fun _ _ _=>trivial)) fun d a=>?_;exact aX
theorem T68 {a:Int}:Ok (F68 a) (fun _=>True):=by
 unfold F68;refine bQ (zV1) fun⟨b,c⟩=>?_;exact aX
theorem zW1 {c:YX}:Ok (Yj c) (fun _=>True):=by
 unfold Yj;refine Oi (fun _=>aX) (fun _=>?_);refine Ob (P:=fun _=>True) (fY (fun q=>q.2.2) 6 (fun _=>True) (by decide) (by decide) trivial (fun q _ h1 h2=>?_)) fun r _=>?_;obtain⟨a,n,i⟩:=q;dsimp only at h1 h2 ⊢;refine Oi (fun hc=>?_) (fun _=>aX);simp only[jY2]at hc;refine Ob (bP (Q:=fun _=>True) h1 hc (fun _ _ _=>trivial)) fun x _=>?_;refine Oi (fun _=>aX) (fun _=>?_);refine Ob (P:=fun _=>True) (Oi (fun _=>aX) (fun _=>aX)) fun v _=>.mk ⟨hc,h2 hc,trivial⟩;rcases r with⟨a,b⟩|⟨a,b⟩<;>exact aX
theorem zX1 {a:YX}:Ok (Oj a) (fun v=>v=0->a.Unit≠0):=by
 unfold Oj;refine Oi (fun c330=>?_) (fun c330=>?_);exact .mk (by omega);refine Oi (fun c331=>?_) (fun c331=>?_);exact .mk (by omega);refine bQ (zW1) fun b=>?_;refine Oi (fun c333=>?_) (fun c333=>?_);exact .mk (by omega);exact .mk (by(simp only[nm]at *;omega))
theorem zY1 {b:YX} (c:b.Unit≠0):Ok (Ol b) (fun _=>True):=by
 unfold Ol;refine Ob (rG (by omega)) fun d a=>?_;exact aX
theorem zZ1 {a:YX} (b:a.Unit≠0):Ok (Om a) (fun _=>True):=by
 unfold Om;refine bQ (zY1 (by omega)) fun c=>?_;exact aX
theorem aA2 {b:YX}:Ok (Oo b) (fun _=>True):=by
 unfold Oo;refine Ob (zX1) fun c a=>?_;refine Oi (fun c337=>?_) (fun c337=>?_);exact aX;refine bQ (zZ1 (by(simp only[nm]at *;omega))) fun d=>?_;exact aX
theorem T47 {b:YM} (c:b.sm):Ok (Dh b) (fun _=>True):=by
 unfold Dh;refine bQ (aA2) fun⟨d,e⟩=>?_;refine Oi (fun c340=>?_) (fun c340=>?_);exact aX;refine Oi (fun c341=>?_) (fun c341=>?_);exact aX;refine bQ ?_ fun f=>?_;refine Oi (fun c343=>?_) (fun c343=>?_);exact aX;exact aX;refine Ob (Cw (by omega)) fun g a=>?_;refine Oi (fun c345=>?_) (fun c345=>?_);exact aX;refine Oi (fun c346=>?_) (fun c346=>?_);exact aX;exact aX
theorem T69 {O:Int} {B:YM} (k:B.sm):Ok (F69 O B) (fun _=>True):=by
 unfold F69;refine bQ (T47 k) fun⟨Y,Z⟩=>?_;have y:=k.Cells;refine oD (l:=B.Cells) (fun q=>q.2) (jS2 k.Cells (by decide)) rfl (fun K m q358 o a e c g=>?_) (fun q358 a=>?_) fun X=>?_;obtain⟨C,D⟩:=q358;dsimp only at a e c g;simp only[e,c,nt];have j:=k.CellsE _ o;have z:=j.Clefs;refine oD (l:=m.Clefs) (fun q=>q.2) (jS2 j.Clefs (by decide)) rfl (fun L G q371 v b f d i=>?_) (fun q371 b=>?_) fun W=>?_;obtain⟨t,u⟩:=q371;dsimp only at b f d i;simp only[f,c,d,nt];refine Ob (P:=fun r=>¬r=true->¬t=true) ?_ fun E n=>?_;refine Oi (fun _=>.mk (fun h=>absurd rfl h)) (fun c374=>?_);refine bQ (T68) fun R=>?_;exact .mk (fun _=>c374);refine Ob (P:=fun r=>¬r=true->¬E=true) ?_ fun F p=>?_;refine Oi (fun _=>.mk (fun h=>absurd rfl h)) (fun c377=>?_);have M:=n c377;refine bQ (Gx) fun S=>?_;exact .mk (fun _=>c377);refine Ob (P:=fun r=>¬r=true->¬F=true) ?_ fun V H=>?_;refine Oi (fun _=>.mk (fun h=>absurd rfl h)) (fun c381=>?_);have s:=p c381;have N:=n s;refine Ob (P:=fun r=>r=true->(decide (u>0))=true) ?_ fun U J=>?_;refine Oi (fun c385=>?_) (fun _=>.mk (fun h=>by cases h));have A:=j.Clefs;refine Ob (P:=fun x=>x∈m.Clefs) (bP (by(simp only[nm]at *;rw[bC (by omega) (by omega)];omega)) (by(simp only[nm]at *;rw[bC (by omega) (by omega)];omega)) (fun _ h _=>h)) fun T w=>?_;exact .mk (fun _=>c385);exact .mk (fun _=>c381);exact .mk i;obtain⟨t,u⟩:=q371;dsimp only at b;simp only[b,nf];exact aX;exact .mk g;obtain⟨C,D⟩:=q358;dsimp only at a;simp only[a,nf];exact aX;exact aX
theorem hL1 {i:aA YV} {l:Y0} {u:Int} (q:i.length+12<=1000000) (f:l.sm):Ok (Bt i l u) (fun v=>i.length<=v.length/\v.length<=i.length+12):=by
 unfold Bt;have j:=f.Measures;refine og l.Measures i 12 1 (jS2 f.Measures (by decide)) (fun o m q400 k g a d b c e=>?_) (fun q400 a b=>?_) fun t p=>?_;obtain⟨w,x⟩:=q400;dsimp only at a d c e b;simp only[d,c,nt];have h:=f.MeasuresE _ g;refine bQ (T69 h) fun r=>?_;refine Ob (jV (by first|omega|(simp only[kC2]at *;omega)) f) fun s n=>?_;exact .mk ⟨e,by dsimp only;omega⟩;obtain⟨w,x⟩:=q400;dsimp only at a b;simp only[a,nf];exact .mk (by dsimp only;omega);exact .mk (by omega)
theorem pQ1 {o:aA YV} {x:Y0} {O:Int} (H:o.length+32<=1000000) (f:x.sm):Ok (Yl o x O) (fun v=>o.length<=v.length/\v.length<=o.length+32):=by
 unfold Yl;have r:=f.Parts;refine og x.Parts o 20 5 (jS2 f.Parts (by decide)) (fun D n q416 t m a h c e j=>?_) (fun q416 a c=>?_) fun M F=>?_;obtain⟨w,p⟩:=q416;dsimp only at a h e j c;simp only[h,e,nt];have l:=f.PartsE _ m;have s:=l.Staves;refine og n.Staves p 5 1 (jS2 l.Staves (by decide)) (fun E A q430 u q b i d g k=>?_) (fun q430 b d=>?_) fun L G=>?_;obtain⟨y,z⟩:=q430;dsimp only at b i g k d;simp only[i,e,g,nt];refine bQ (T68) fun J=>?_;refine Ob (jV (by first|omega|(simp only[kC2]at *;omega)) f) fun K B=>?_;exact .mk ⟨k,by dsimp only;omega⟩;obtain⟨y,z⟩:=q430;dsimp only at b d;simp only[b,nf];exact .mk (by dsimp only;omega);exact .mk ⟨j,by dsimp only;omega⟩;obtain⟨w,p⟩:=q416;dsimp only at a c;simp only[a,nf];exact .mk (by dsimp only;omega);refine Ob (hL1 (by first|omega|(simp only[kC2]at *;omega)) f) fun N C=>?_;exact .mk (by omega)
theorem aB2 {a:Int}:Ok (Ym a) (fun _=>True):=by
 unfold Ym;refine Oi (fun c435=>?_) (fun c435=>?_);exact aX;exact aX
theorem T71 {b:Int} {a:YL}:Ok (F71 b a) (fun _=>True):=by
 unfold F71;refine Ob aB2 fun c _=>?_;refine Oi (fun _=>aX) (fun _=>?_);refine Oi (fun _=>aX) (fun _=>?_);have hw:=Uw (b+(aU ((aU (7*a.Semitones))-(aU (12*a.Steps)))));generalize aU (b+(aU ((aU (7*a.Semitones))-(aU (12*a.Steps)))))=x0 at hw ⊢;refine Ob (P:=fun v=> -9223372036854775808<=v/\v<=7) (cW (fun x=> -9223372036854775808<=x/\x<=9223372036854775807) (fun x=>(x+9223372036854775808).toNat) (fun x d=>?_) aY x0 hw (by simp only[aY];omega)) fun b h1=>?_;refine Oi (fun hc=>?_) (fun hc=>?_)<;>simp only[jY2]at hc;rw[bC (by omega) (by omega)];exact .mk ⟨by omega,by omega⟩;exact .mk (by omega);refine Ob (P:=fun v=>True) (cW (fun x=> -9223372036854775808<=x/\x<=7) (fun x=>(7-x).toNat) (fun x d=>?_) aY b h1 (by simp only[aY];omega)) fun a _=>aX;refine Oi (fun hc=>?_) (fun hc=>?_)<;>simp only[jY2]at hc;rw[bC (by omega) (by omega)];exact .mk ⟨by omega,by omega⟩;exact aX
theorem T70 {u:Int} {t:YM} {m:YK} (g:t.sm) (e:m.s'.sm):Ok (F70 u t m) (fun _=>True):=by
 unfold F70;refine bQ (T47 g) fun⟨A,z⟩=>?_;refine Ob (P:=fun r=>¬r=true->¬(z !=0)=true) ?_ fun C o=>?_;refine Oi (fun _=>.mk (fun h=>absurd rfl h)) (fun c438=>?_);refine bQ (Gx) fun B=>?_;exact .mk (fun _=>c438);have i:=e.Parts;refine oD (l:=m.s'.Parts) (fun q=>q.2) (jS2 e.Parts (by decide)) rfl (fun p n q450 f a c b d=>?_) (fun q450 a=>?_) fun y=>?_;obtain⟨j,k⟩:=q450;dsimp only at a c b d;simp only[c,b,nt];have s:=e.PartsE _ f;refine bQ ?_ fun x=>?_;refine Oi (fun c454=>?_) (fun c454=>?_);refine bQ (T71) fun⟨v,w⟩=>?_;exact aX;exact aX;exact .mk d;obtain⟨j,k⟩:=q450;dsimp only at a;simp only[a,nf];exact aX;exact aX
theorem hO1 {i:aA YV} {l:Y0} {u:Int} (q:i.length+12<=1000000) (c:l.sm):Ok (sN i l u) (fun v=>i.length<=v.length/\v.length<=i.length+12):=by
 unfold sN;have j:=c.Measures;refine og l.Measures i 12 1 (jS2 c.Measures (by decide)) (fun o m q467 k g a e b d f=>?_) (fun q467 a b=>?_) fun t p=>?_;obtain⟨w,x⟩:=q467;dsimp only at a e d f b;simp only[e,d,nt];have h:=c.MeasuresE _ g;refine bQ (T70 h c) fun r=>?_;refine Ob (jV (by first|omega|(simp only[kC2]at *;omega)) c) fun s n=>?_;exact .mk ⟨f,by dsimp only;omega⟩;obtain⟨w,x⟩:=q467;dsimp only at a b;simp only[a,nf];exact .mk (by dsimp only;omega);exact .mk (by omega)
theorem pR1 {a:aA YV} {d:Y0} {f:Int} (e:a.length+12<=1000000) (b:d.sm):Ok (Tt a d f) (fun v=>a.length<=v.length/\v.length<=a.length+12):=by
 unfold Tt;refine Ob (hO1 (by first|omega|(simp only[kC2]at *;omega)) b) fun g c=>?_;exact .mk (by omega)
theorem sR {a b:Int}:Ok (oG a b) (fun _=>True):=by
 unfold oG;refine Oi (fun c473=>?_) (fun c473=>?_);exact aX;exact aX
theorem Vb {h:aA Int} (e:h.length<=20):Ok (Gj h) (fun _=>True):=by
 unfold Gj;have g:=e;refine oD (l:=h) (fun q=>q) (jS2 e (by decide)) rfl (fun j i k f a c b d=>?_) (fun k a=>?_) fun m=>?_;simp only[c,b,nt];refine Oi (fun c485=>?_) (fun c485=>?_);exact aX;exact .mk d;simp only[a,nf];exact aX;rcases m with n|_;exact aX;exact aX
theorem pS1 {a:Int}:Ok (Tu a) (fun _=>True):=by
 unfold Tu;exact aX
theorem aC2 {a:Int}:Ok (Yo a) (fun _=>True):=by
 unfold Yo;refine Oi (fun c486=>?_) (fun c486=>?_);exact aX;exact aX
theorem aD2 {b:YE} (d:b.sm):Ok (Yp b) (fun v=>v.sm):=by
 unfold Yp;refine Ob (P:=fun r=>¬r=true->¬(b.Kind==1)=true) ?_ fun f a=>?_;refine Oi (fun _=>.mk (fun h=>absurd rfl h)) (fun c488=>?_);refine bQ (pS1) fun e=>?_;exact .mk (fun _=>c488);refine Oi (fun c490=>?_) (fun c490=>?_);exact .mk (by first|assumption|exact⟨kS2 _,kS2 _,kS2 _,fun _ h=>nomatch h⟩);have c:=a c490;refine bQ ?_ fun g=>?_;refine Oi (fun c493=>?_) (fun c493=>?_);exact aX;exact aX;refine bQ ?_ fun j=>?_;refine Oi (fun c495=>?_) (fun c495=>?_);refine bQ (aC2) fun i=>?_;exact aX;exact aX;exact .mk (by first|assumption|exact⟨kS2 _,kS2 _,kS2 _,fun _ h=>nomatch h⟩)
theorem aE2 {m n:aA YB} (e:m.length<=12) (f:n.length<=12):Ok (Yq m n) (fun _=>True):=by
 unfold Yq;refine Oi (fun c497=>?_) (fun c497=>?_);exact aX;have j:=e;refine oD (l:=m) (fun q=>q) (jS2 e (by decide)) rfl (fun p o r g a c b d=>?_) (fun r a=>?_) fun s=>?_;simp only[c,b,nt];have k:=f;refine Ob (P:=fun x=>x∈n) (bP (by omega) (by(simp only[nm]at *;omega)) (fun _ h _=>h)) fun t i=>?_;refine Oi (fun c512=>?_) (fun c512=>?_);exact aX;exact .mk d;simp only[a,nf];exact aX;rcases s with _|_;exact aX;exact aX
theorem aF2 {m n:aA YD} (e:m.length<=12) (f:n.length<=12):Ok (Yr m n) (fun _=>True):=by
 unfold Yr;refine Oi (fun c513=>?_) (fun c513=>?_);exact aX;have j:=e;refine oD (l:=m) (fun q=>q) (jS2 e (by decide)) rfl (fun p o r g a c b d=>?_) (fun r a=>?_) fun s=>?_;simp only[c,b,nt];have k:=f;refine Ob (P:=fun x=>x∈n) (bP (by omega) (by(simp only[nm]at *;omega)) (fun _ h _=>h)) fun t i=>?_;refine Oi (fun c528=>?_) (fun c528=>?_);exact aX;exact .mk d;simp only[a,nf];exact aX;rcases s with _|_;exact aX;exact aX
theorem aG2 {k m:aA YY} (g:k.length<=12) (i:∀y∈k,y.sm) (n:m.length<=12) (j:∀y∈m,y.sm):Ok (Yt k m) (fun _=>True):=by
 unfold Yt;refine Oi (fun c529=>?_) (fun c529=>?_);exact aX;have o:=g;refine oD (l:=k) (fun q=>q) (jS2 g (by decide)) rfl (fun s r v d a c b f=>?_) (fun v a=>?_) fun w=>?_;simp only[c,b,nt];have t:=i _ d;have p:=n;refine Ob (P:=fun x=>x∈m) (bP (by omega) (by(simp only[nm]at *;omega)) (fun _ h _=>h)) fun z e=>?_;have u:=j _ e;refine Oi (fun c546=>?_) (fun c546=>?_);exact aX;exact .mk f;simp only[a,nf];exact aX;rcases w with _|_;exact aX;exact aX
theorem aH2 {a b:YE} (c:a.sm) (d:b.sm):Ok (Yu a b) (fun _=>True):=by
 unfold Yu;refine Ob (P:=fun r=>r=true->(((((((a.Kind==b.Kind)&&(((a.Value.Log==b.Value.Log)&&((a.Value.Dots==b.Value.Dots)&&true))!=false))&&(a.Articulations==b.Articulations))&&(a.Ornament==b.Ornament))&&(a.Dynamic==b.Dynamic))&&(a.Stem==b.Stem))&&(a.Beam==b.Beam))=true) ?_ fun l e=>?_;refine Oi (fun c548=>?_) (fun _=>.mk (fun h=>by cases h));refine bQ (aE2 c.Heads d.Heads) fun n=>?_;exact .mk (fun _=>c548);refine Ob (P:=fun r=>r=true->l=true) ?_ fun m f=>?_;refine Oi (fun c551=>?_) (fun _=>.mk (fun h=>by cases h));have j:=e c551;refine bQ (aF2 c.Graces d.Graces) fun o=>?_;exact .mk (fun _=>c551);refine Ob (P:=fun r=>r=true->m=true) ?_ fun q i=>?_;refine Oi (fun c555=>?_) (fun _=>.mk (fun h=>by cases h));have g:=f c555;have k:=e g;refine bQ (aG2 c.Lyrics c.LyricsE d.Lyrics d.LyricsE) fun p=>?_;exact .mk (fun _=>c555);exact aX
theorem pT1 {a:YA}:Ok (Tv a) (fun v=>v=0-> -1<=a.Log/\a.Log<=8/\0<=a.Dots/\a.Dots<=3):=by
 unfold Tv;refine Oi (fun c559=>?_) (fun c559=>?_);exact .mk (by omega);exact .mk (by(simp only[nm]at *;omega))
theorem aI2:Ok (Yv) (fun _=>True):=by
 unfold Yv;exact aX
theorem pU1 {a:YH} (c:0<=a.Step/\a.Step<=6):Ok (Tw a) (fun _=>True):=by
 unfold Tw;refine bQ (aI2) fun d=>?_;refine Ob (bP (Q:=fun _=>True) (by omega) (by(simp only[nm,nl]at *;omega)) (fun _ _ _=>trivial)) fun e b=>?_;exact aX
theorem aJ2 {a:YH}:Ok (Yw a) (fun v=>v=0->0<=a.Step/\a.Step<=6):=by
 unfold Yw;refine Oi (fun c562=>?_) (fun c562=>?_);exact .mk (by omega);refine bQ (pU1 (by(simp only[nm]at *;omega))) fun b=>?_;refine Oi (fun c564=>?_) (fun c564=>?_);exact .mk (by omega);exact .mk (by(simp only[nm]at *;omega))
theorem T80 {b:YH}:Ok (F80 b) (fun _=>True):=by
 unfold F80;refine Ob (aJ2) fun c a=>?_;refine Oi (fun c566=>?_) (fun c566=>?_);exact aX;refine bQ (pU1 (by(simp only[nm]at *;omega))) fun d=>?_;exact aX
theorem hP1 {a:YH}:Ok (Oq a) (fun _=>True):=by
 unfold Oq;refine bQ (T80) fun⟨b,c⟩=>?_;refine Oi (fun c569=>?_) (fun c569=>?_);exact aX;exact aX
theorem aL2 {a:YB}:Ok (Yx a) (fun _=>True):=by
 unfold Yx;refine bQ (hP1) fun⟨b,c⟩=>?_;refine bQ (sR) fun d=>?_;refine bQ (Vb (by simp)) fun e=>?_;exact aX
theorem aM2 {h:aA YB} (e:h.length<=12):Ok (Yy h) (fun _=>True):=by
 unfold Yy;refine Oi (fun c573=>?_) (fun c573=>?_);exact aX;refine Oi (fun c574=>?_) (fun c574=>?_);exact aX;have g:=e;refine oD (l:=h) (fun q=>q.2) (jS2 e (by decide)) rfl (fun k j q585 f a c b d=>?_) (fun q585 a=>?_) fun i=>?_;obtain⟨p,r⟩:=q585;dsimp only at a c b d;simp only[c,b,nt];refine bQ (aL2) fun s=>?_;refine Oi (fun c588=>?_) (fun c588=>?_);exact aX;refine bQ (hP1) fun⟨m,n⟩=>?_;refine Oi (fun c590=>?_) (fun c590=>?_);exact aX;exact .mk d;obtain⟨p,r⟩:=q585;dsimp only at a;simp only[a,nf];exact aX;rcases i with o|_;exact aX;exact aX
theorem aN2 {h:aA YD} (e:h.length<=12):Ok (Yz h) (fun _=>True):=by
 unfold Yz;refine Oi (fun c591=>?_) (fun c591=>?_);exact aX;have g:=e;refine oD (l:=h) (fun q=>q) (jS2 e (by decide)) rfl (fun k j m f a c b d=>?_) (fun m a=>?_) fun i=>?_;simp only[c,b,nt];refine bQ (hP1) fun⟨n,o⟩=>?_;refine Oi (fun c604=>?_) (fun c604=>?_);exact aX;refine Oi (fun c605=>?_) (fun c605=>?_);exact aX;exact .mk d;simp only[a,nf];exact aX;rcases i with p|_;exact aX;exact aX
theorem aO2 {c:YY} (a:c.sm):Ok (Za c) (fun _=>True):=by
 unfold Za;refine Oi (fun _=>aX) (fun _=>?_);refine Oi (fun _=>aX) (fun _=>?_);have hs:=a.Text;refine Ob (P:=fun _=>True) (fY (fun q=>q) (c.Text.size:Int) (fun _=>True) (by omega) (by decide) trivial (fun i _ h1 h2=>?_)) fun r _=>?_;refine Oi (fun hc=>?_) (fun _=>aX);simp only[jY2]at hc;refine Ob (sP h1 hc) fun b _=>?_;refine Ob (P:=fun _=>True) (Oi (fun _=>aX) (fun _=>Ob (sP h1 hc) fun b _=>aX)) fun b _=>?_;exact Oi (fun _=>aX) (fun _=>.mk ⟨hc,h2 hc,trivial⟩);rcases r with _|_;exact aX;exact Oi (fun _=>aX) (fun _=>aX)
theorem aP2 {a:YY} (b:a.sm):Ok (Zb a) (fun _=>True):=by
 unfold Zb;exact aX
theorem aQ2 {j:aA YY} (c:j.length<=12) (b:∀y∈j,y.sm):Ok (Zc j) (fun _=>True):=by
 unfold Zc;refine Oi (fun c606=>?_) (fun c606=>?_);exact aX;have o:=c;refine oD (l:=j) (fun q=>q) (jS2 c (by decide)) rfl (fun t s z f a e d i=>?_) (fun z a=>?_) fun A=>?_;simp only[e,d,nt];have m:=b _ f;refine bQ (aO2 m) fun B=>?_;refine Oi (fun c620=>?_) (fun c620=>?_);exact aX;exact .mk i;simp only[a,nf];exact aX;rcases A with C|_;exact aX;refine Ob (P:=fun r=>r=true->(decide ((j.length:Int)>0))=true) ?_ fun w k=>?_;refine Oi (fun c622=>?_) (fun _=>.mk (fun h=>by cases h));have p:=c;refine Ob (P:=fun x=>x∈j) (bP (by(simp only[nm]at *;rw[bC (by omega) (by omega)];omega)) (by(simp only[nm]at *;rw[bC (by omega) (by omega)];omega)) (fun _ h _=>h)) fun D g=>?_;have n:=b _ g;refine bQ (aP2 n) fun v=>?_;exact .mk (fun _=>c622);refine Oi (fun c628=>?_) (fun c628=>?_);have u:=k c628;exact aX;exact aX
theorem T77 {d:YE} (a:d.sm):Ok (Zd d) (fun _=>True):=by
 unfold Zd;refine bQ (sR) fun y=>?_;refine bQ (sR) fun z=>?_;refine bQ (Vb (by simp)) fun A=>?_;refine Oi (fun c633=>?_) (fun c633=>?_);exact aX;refine bQ (pS1) fun B=>?_;refine Oi (fun c635=>?_) (fun c635=>?_);exact aX;refine Ob (aD2 a) fun C b=>?_;refine bQ (aH2 a b) fun D=>?_;refine Oi (fun c638=>?_) (fun c638=>?_);exact aX;refine Ob (P:=fun r=>r=true->(d.Kind !=3)=true) ?_ fun F c=>?_;refine Oi (fun c640=>?_) (fun _=>.mk (fun h=>by cases h));refine Ob (pT1) fun E e=>?_;exact .mk (fun _=>c640);refine Oi (fun c642=>?_) (fun c642=>?_);have f:=c c642;exact aX;refine Oi (fun c644=>?_) (fun c644=>?_);refine bQ (aM2 a.Heads) fun g=>?_;refine bQ (aN2 a.Graces) fun i=>?_;refine bQ (aQ2 a.Lyrics a.LyricsE) fun j=>?_;refine bQ (Vb (by simp)) fun k=>?_;refine Oi (fun c649=>?_) (fun c649=>?_);exact aX;refine bQ (sR) fun l=>?_;refine bQ (sR) fun m=>?_;refine bQ (sR) fun n=>?_;refine bQ (sR) fun o=>?_;refine bQ (sR) fun p=>?_;refine bQ (Vb (by simp)) fun q=>?_;exact aX;refine bQ (sR) fun s=>?_;refine bQ (sR) fun t=>?_;refine bQ (sR) fun u=>?_;refine bQ (sR) fun v=>?_;refine bQ (sR) fun w=>?_;refine bQ (Vb (by simp)) fun x=>?_;exact aX
theorem aR2 {b:YE} (a:b.sm):Ok (Ze b) (fun _=>True):=by
 unfold Ze;refine bQ (T77 a) fun c=>?_;exact aX
theorem aS2 {i:aA YE} (f:i.length<=20) (g:∀y∈i,y.sm):Ok (Zf i) (fun _=>True):=by
 unfold Zf;have j:=f;refine oD (l:=i) (fun q=>q) (jS2 f (by decide)) rfl (fun m k n d a c b e=>?_) (fun n a=>?_) fun o=>?_;simp only[c,b,nt];have h:=g _ d;refine bQ (aR2 h) fun p=>?_;refine Oi (fun c676=>?_) (fun c676=>?_);exact aX;exact .mk e;simp only[a,nf];exact aX;rcases o with r|_;exact aX;exact aX
theorem pV1 {c:aA YE} (b:c.length<=20) (a:∀y∈c,y.sm):Ok (Ty c) (fun _=>True):=by
 unfold Ty;refine bQ (aS2 b a) fun d=>?_;exact aX
theorem pW1 {c:YO} (b:c.sm):Ok (Zg c) (fun _=>True):=by
 unfold Zg;refine Ob (P:=fun r=>r=true->(decide ((c.Events.length:Int)>0))=true) ?_ fun i e=>?_;refine Oi (fun c679=>?_) (fun _=>.mk (fun h=>by cases h));have d:=b.Events;refine Ob (P:=fun x=>x∈c.Events) (bP (by omega) (by(simp only[nm]at *;omega)) (fun _ h _=>h)) fun g a=>?_;have f:=b.EventsE _ a;exact .mk (fun _=>c679);exact aX
theorem aT2 {b:YA} (c: -1<=b.Log/\b.Log<=8/\0<=b.Dots/\b.Dots<=3):Ok (Zh b) (fun _=>True):=by
 unfold Zh;refine Ob (rH (by rw[bC (by omega) (by omega)];omega)) fun n _=>?_;refine Ob (P:=fun _=>True) (fY (fun q=>q.2.2) b.Dots (fun _=>True) (by omega) (by dsimp only;omega) trivial (fun q _ h1 h2=>?_)) fun r _=>aX;obtain⟨a,n,i⟩:=q;dsimp only at h1 h2 ⊢;refine Oi (fun hc=>?_) (fun _=>aX);simp only[jY2]at hc;exact Ob (rG (by decide)) fun x _=>.mk ⟨hc,h2 hc,trivial⟩
theorem aU2 {b:YA}:Ok (Zi b) (fun _=>True):=by
 unfold Zi;refine Ob (pT1) fun c a=>?_;refine Oi (fun c685=>?_) (fun c685=>?_);exact aX;refine bQ (aT2 (by(simp only[nm]at *;omega))) fun d=>?_;exact aX
theorem pX1 {b:YE} (a:b.sm):Ok (Zj b) (fun _=>True):=by
 unfold Zj;refine bQ (T77 a) fun c=>?_;refine Oi (fun c688=>?_) (fun c688=>?_);exact aX;refine bQ (aU2) fun⟨d,e⟩=>?_;exact aX
theorem aV2 {c:aA YE} (h:c.length<=20) (d:∀y∈c,y.sm):Ok (Ou c) (fun v=>v.length<=20):=by
 unfold Ou;refine Ob (jT (by omega) (by omega) (by omega)) fun o h2=>?_;refine Ob (P:=fun v=>v.length=c.length) (bF (l:=c) (fun q=>q.1) (fun _ q=>q.2.length=c.length) (by omega) rfl (by rw[h2];simp) (fun i e q n g hi hl f hg hw=>?_) (fun q hi f=>?_)) fun v hv=>.mk (by omega);obtain⟨x,l⟩:=q;dsimp only at hi hl f hg hw;simp only[hl,hg,nt];refine Ob (pX1 (d e g)) fun⟨a,b⟩ _=>?_;refine Ob (eK (by omega) (by omega)) fun j k=>?_;refine Ob (rI (by omega)) fun m g=>.mk ⟨hw,by dsimp only;omega⟩;obtain⟨x,l⟩:=q;dsimp only at hi f;simp only[hi,nf];exact .mk f
theorem pY1 {a:Int}:Ok (Tz a) (fun v=>v=true->1<=a/\a<=32):=by
 unfold Tz;exact .mk (by(simp only[nm]at *;omega))
theorem aW2 {a b:YU}:Ok (Zk a b) (fun _=>True):=by
 unfold Zk;refine Oi (fun c690=>?_) (fun c690=>?_);refine Oi (fun c691=>?_) (fun c691=>?_);exact aX;exact aX;refine Oi (fun c692=>?_) (fun c692=>?_);refine Oi (fun c693=>?_) (fun c693=>?_);exact aX;exact aX;exact aX
theorem cK1 {a:YU}:Ok (Iz a) (fun v=>v=aU (a.First+a.Count)):=by
 unfold Iz;exact .mk (by rfl)
theorem pZ1 {k:YU} {a:aA YU} (g:a.length<=6) (i:a.length<=3):Ok (Lo k a) (fun v=>v.2.length<=3):=by
 unfold Lo;refine Ob (P:=fun v=>v.length<=3) (cW (fun l=>l.length<=3) (fun l=>l.length) (fun l hl=>?_) aY a i (by simp only[aY];omega)) fun x d=>?_;refine Ob (P:=fun r=>r=true->0<l.length) (Oi (fun hc=>?_) (fun _=>.mk (fun h=>by cases h))) fun b hb=>?_;simp only[jY2]at hc;refine Ob (eK (by rw[bC (by omega) (by omega)];omega) (by rw[bC (by omega) (by omega)];omega)) fun j c=>?_;exact Ob (gH c.2) fun y _=>Ob cK1 fun e _=>.mk (fun _=>by omega);refine Oi (fun hc=>?_) (fun _=>.mk hl);have:=hb hc;refine Ob (Pf this (by rw[bC (by omega) (by omega)];omega) (by rw[bC (by omega) (by omega)];omega)) fun m f=>?_;have:=f.1;rw[bC (by omega) (by omega)]at this;exact .mk ⟨by omega,by omega⟩;refine Ob (P:=fun r=>r=true\/x.length<3) (Oi (fun hc=>.mk (.inl rfl)) (fun hc=>?_)) fun b hb=>?_;have hc:x.length<3:=by simp only[lR2]at hc;omega
 refine Ob (P:=fun _=>True) (Oi (fun hd=>?_) (fun _=>aX)) fun b _=>.mk (.inr hc);simp only[jY2]at hd;refine Ob cK1 fun e _=>?_;refine Ob (eK (by rw[bC (by omega) (by omega)];omega) (by rw[bC (by omega) (by omega)];omega)) fun j c=>?_;exact Ob (gH c.2) fun y _=>Ob cK1 fun e _=>aX;refine Oi (fun _=>.mk d) (fun hc=>?_);have hb:x.length<3:=by rcases hb with h|h;exact absurd h hc;exact h
 refine Ob (dE (Q:=fun v=>v.length=x.length+1) (by omega) (by simp)) fun m f=>.mk (by dsimp only;omega)
theorem qA1 {f:aA YU} {c:Int} (z:f.length<=6):Ok (Zl f c) (fun v=>v=0->∀t∈f,t.ok c):=by
 unfold Zl;refine Oi (fun _=>.mk (fun h=>by cases h)) (fun n=>?_);refine Oi (fun _=>.mk (fun h=>by cases h)) (fun _=>?_);simp only[kE2,jY2,mJ2]at n;refine Ob (P:=fun r=>match r with|.inl p=>p.1≠0|.inr _=>∀t∈f,t.ok c) (bF (l:=f) (fun q=>q.1) (fun i q=>q.2.length<=3/\∀j,j<i->∀t,f[j]? =some t->t.ok c) (by omega) rfl ⟨by decide,fun j k=>by omega⟩ (fun i e q A w hi hl d hg hw=>?_) (fun q hi d=>?_)) fun v hv=>?_;obtain⟨x,l⟩:=q;dsimp only at hi hl d hg hw;simp only[hl,hg,nt];refine Ob (P:=fun r=>r=false->(1<=e.Count/\e.Count<=c/\0<=e.First/\e.First+e.Count<=c/\1<=e.Actual/\e.Actual<=32)) (Oi (fun _=>.mk (fun h=>by cases h)) (fun hc=>?_)) fun b1 h1=>?_;simp only[kE2,jY2,mJ2]at hc;rw[bC (by omega) (by omega)]at hc;refine Ob pY1 fun r hr=>.mk (fun h=>?_);have:=hr (by simpa using h);omega;refine Ob (P:=fun r=>r=false->e.ok c) (Oi (fun hc=>.mk (fun h=>by cases h)) (fun hc=>?_)) fun b2 h2=>?_;refine Ob pY1 fun r hr=>.mk (fun h=>?_);have:=hr (by simpa using h);have:=h1 (by simpa using hc);unfold YU.ok;omega;refine Oi (fun _=>.mk (show(2:Int)≠0 by decide)) (fun hc=>?_);have u:e.ok c:=h2 (by simp only[kE2,mJ2,Bool.not_eq_true]at hc;exact hc.1);refine Ob (P:=fun _=>True) (Oi (fun hd=>?_) (fun _=>aX)) fun b3 _=>?_;simp only[jY2]at hd;have:=eH hg;refine Ob (bP (Q:=fun _=>True) (by rw[bC (by omega) (by omega)];omega) (by rw[bC (by omega) (by omega)];omega) (fun _ _ _=>trivial)) fun y _=>?_;exact Ob aW2 fun o _=>aX;refine Oi (fun _=>.mk (show(25:Int)≠0 by decide)) (fun _=>?_);refine Ob (pZ1 (kP2 d.1 (by decide)) d.1) fun⟨a,m⟩ w=>?_;refine Oi (fun _=>.mk (show(21:Int)≠0 by decide)) (fun _=>.mk ⟨hw,w,fun j k t g=>?_⟩);by_cases s:j=i;subst s;rw[A]at g;cases g;exact u;exact d.2 j (by omega) t g;obtain⟨x,l⟩:=q;dsimp only at hi d;simp only[hi,nf];refine .mk (fun t g=>?_);obtain⟨j,k⟩:=kJ2.1 g;exact d.2 j (jP2.1 k).1 t k;rcases v with⟨a,b⟩|b;exact .mk (fun h=>absurd h hv);exact .mk (fun _=>hv)
theorem aX2 {a:YU} {b:Int}:Ok (Zm a b) (fun _=>True):=by
 unfold Zm;exact aX
theorem aY2 {e c:Int} (l:0<e/\0<c/\c<9223372036854775808):Ok (Zn e c) (fun v=>0<v/\v∣e/\v∣c):=by
 unfold Zn;refine Ob (P:=fun v=>0<v/\v∣e/\v∣c) (cW (fun q=>0<q.1/\0<=q.2/\∀d:Int,d∣q.1->d∣q.2->d∣e/\d∣c) (fun q=>q.2.toNat) (fun q k=>?_) aY (e,c) ⟨l.1,by dsimp only;omega,fun d h1 h2=>⟨h1,h2⟩⟩ (by simp only[aY];omega)) fun v hv=>.mk hv;obtain⟨a,b⟩:=q;obtain⟨h1,h2,h⟩:=k;dsimp only at h1 h2 h;refine Oi (fun hc=>?_) (fun hc=>?_)<;>simp only[jY2]at hc;refine Ob (Cw (by omega)) fun n j=>?_;have i:n=a%b:=by rw[j,Int.tmod_eq_emod_of_nonneg (by omega)]
 have e2:=Int.emod_nonneg a (by omega:b≠0);have m:=Int.emod_lt_of_pos a hc;refine .mk ⟨⟨hc,by dsimp only;omega,fun d f g=>h d ?_ f⟩,by dsimp only;omega⟩;dsimp only at f g;rw[i]at g;have:=Int.emod_add_mul_ediv a b;rw[<-this];exact Int.dvd_add g (Int.dvd_trans f (Int.dvd_mul_right b _));have:b=0:=by omega
 subst this;exact .mk ⟨h1,h a (Int.dvd_refl a) (Int.dvd_zero a)⟩
theorem aZ2 {o:aA YU} {H:Int} (w:o.length<=6) (C:∀t∈o,1<=t.Actual/\t.Actual<=32/\1<=t.Normal/\t.Normal<=32):Ok (Zo o H) (fun v=>1<=v.2):=by
 unfold Zo;refine Ob (P:=fun v=>1<=v.2) (bF (l:=o) (fun q=>q.2.2) (fun i q=>1<=q.1/\q.1<=32^i/\1<=q.2.1/\q.2.1<=32^i) (by omega) rfl ⟨by decide,by decide,by decide,by decide⟩ (fun i e q E z hi hl f hg hw=>?_) (fun q hi f=>?_)) fun v hv=>.mk hv;obtain⟨a,b,x⟩:=q;dsimp only at hi hl f hg hw;simp only[hl,hg,nt];have j:=C e z;refine Ob aX2 fun c _=>?_;have y:i<=5:=by omega
 have A:(32:Int)^i<=33554432:=by
  have:i=0\/i=1\/i=2\/i=3\/i=4\/i=5:=by omega
  rcases this with rfl|rfl|rfl|rfl|rfl|rfl<;>decide
 have B:(32:Int)^(i+1)=32^i*32:=Int.pow_succ 32 i;refine Ob (P:=fun v=>1<=v.1/\v.1<=32^(i+1)/\1<=v.2/\v.2<=32^(i+1)) (Oi (fun _=>?_) (fun _=>?_)) fun⟨v1,v2⟩ hv=>.mk ⟨hw,hv⟩;have F:1<=a*e.Normal:=Int.le_trans (by decide) (mB2 f.1 j.2.2.1 (by decide) (by omega));have G:a*e.Normal<=32^i*32:=mB2 f.2.1 j.2.2.2 (by omega) (by omega);have s:1<=b*e.Actual:=Int.le_trans (by decide) (mB2 f.2.2.1 j.1 (by decide) (by omega));have u:b*e.Actual<=32^i*32:=mB2 f.2.2.2 j.2.1 (by omega) (by omega);rw[bC (n:=a*e.Normal) (by omega) (by omega),bC (n:=b*e.Actual) (by omega) (by omega)];generalize a*e.Normal=N at F G ⊢;generalize b*e.Actual=D at s u ⊢;refine Ob (aY2 ⟨by omega,by omega,by omega⟩) fun g hg=>?_;obtain⟨J,⟨k,rfl⟩,⟨m,rfl⟩⟩:=hg
 have K:1<=k:=by
  rcases Int.lt_or_le k 1 with h|h;have:=Int.mul_nonneg (a:=g) (b:= -k) (by omega) (by omega);rw[Int.mul_neg]at this;omega;exact h
 have M:1<=m:=by
  rcases Int.lt_or_le m 1 with h|h;have:=Int.mul_nonneg (a:=g) (b:= -m) (by omega) (by omega);rw[Int.mul_neg]at this;omega;exact h
 have L:k<=g*k:=by
  have:=mB2 (a:=1) (b:=k) (c:=g) (d:=k) (by omega) (lM2 k) (by omega) (by omega);omega
 have O:m<=g*m:=by
  have:=mB2 (a:=1) (b:=m) (c:=g) (d:=m) (by omega) (lM2 m) (by omega) (by omega);omega
 refine Ob (rG (by omega)) fun q1 p=>?_;refine Ob (rG (by omega)) fun q2 r=>?_;rw[Int.mul_tdiv_cancel_left k (by omega),show IntKind.wrap .i64 k=aU k from rfl,bC (by omega) (by omega)]at p;rw[Int.mul_tdiv_cancel_left m (by omega),show IntKind.wrap .i64 m=aU m from rfl,bC (by omega) (by omega)]at r;exact .mk ⟨by dsimp only;omega,by dsimp only;omega,by dsimp only;omega,by dsimp only;omega⟩;exact .mk ⟨f.1,by dsimp only;omega,f.2.2.1,by dsimp only;omega⟩;obtain⟨a,b,x⟩:=q;dsimp only at hi f;simp only[hi,nf];exact .mk f.2.2.1
theorem hQ1 {c:aA YU} {f g:Int} (b:c.length<=6) (h:∀t∈c,1<=t.Actual/\t.Actual<=32/\1<=t.Normal/\t.Normal<=32):Ok (Ua c f g) (fun _=>True):=by
 unfold Ua;refine Oi (fun c694=>?_) (fun c694=>?_);exact aX;refine Ob (aZ2 b (by omega)) fun⟨i,j⟩ a=>?_
 try dsimp only at a
 refine Ob (Cw (by omega)) fun k d=>?_;refine Oi (fun c697=>?_) (fun c697=>?_);exact aX;refine Ob (rG (by omega)) fun l e=>?_;exact aX
theorem qB1 {k:aA YU} {f:aA Int} (d:k.length<=6) (j:f.length<=20):Ok (Ja k f) (fun v=>v.1.length<=20/\(v.2=0->∀t∈k,t.ok f.length)):=by
 unfold Ja;refine Ob (qA1 d) fun c hc=>?_;refine Oi (fun hd=>.mk ⟨kS2 _,fun h=>absurd h (by simpa using hd)⟩) (fun hd=>?_);have n:=hc (by simpa using hd);refine Ob (jT (by decide) (by omega) (by omega)) fun w o=>?_;refine Ob (P:=fun r=>match r with|.inl p=>p.1≠0|.inr l=>l.length<=f.length) (bF (l:=f) (fun q=>q.1) (fun i q=>q.2.length<=i) (by omega) rfl (by rw[o];decide) (fun i e q u s hi hl g hg hw=>?_) (fun q hi g=>?_)) fun v hv=>?_;obtain⟨x,l⟩:=q;dsimp only at hi hl g hg hw;simp only[hl,hg,nt];refine Ob (hQ1 d (fun t h=>by have:=n t h;unfold YU.ok at this;omega)) fun⟨a,b⟩ _=>?_;refine Oi (fun hb=>.mk (by simpa using hb)) (fun _=>?_);exact Ob (dE (Q:=fun v=>v.length=l.length+1) (by omega) (by simp)) fun m s=>.mk ⟨hw,by dsimp only;omega⟩;obtain⟨x,l⟩:=q;dsimp only at hi g;simp only[hi,nf];exact .mk g;rcases v with⟨a,b⟩|b;exact .mk ⟨kS2 _,fun h=>absurd h hv⟩;exact .mk ⟨kP2 hv j,fun _=>n⟩
theorem bA2 {c:aA YU} {f:Int} {g:aA Int} (m:c.length<=6) (o:g.length<=20) (k:0<=f/\f<(c.length:Int)) (hy:∀t∈c,t.ok g.length):Ok (Zp c f g) (fun _=>True):=by
 unfold Zp;refine Ob (bP (Q:=fun x=>x∈c) k.1 k.2 (fun _ h _=>h)) fun j d=>?_;have p:=hy j d;unfold YU.ok at p;refine Ob (P:=fun _=>True) (fY (fun q=>q.2) (j.First+j.Count) (fun _=>True) (by omega) (by dsimp only;omega) trivial (fun q _ h1 h2=>?_)) fun r _=>?_;obtain⟨s,i⟩:=q;dsimp only at h1 h2 ⊢;refine Ob cK1 fun e he=>?_;rw[bC (by omega) (by omega)]at he;subst he;refine Oi (fun hc=>?_) (fun _=>aX);simp only[jY2]at hc;refine Ob (Ae (by rw[bC (by omega) (by omega)];omega) (by rw[bC (by omega) (by omega)];omega) (by omega)) fun l hl=>?_;refine Ob (bP (Q:=fun _=>True) (by omega) (by omega) (fun _ _ _=>trivial)) fun y _=>?_;refine Ob (hQ1 (by omega) (fun t h=>by have:=hy t (hl.2 t h);unfold YU.ok at this;omega)) fun⟨a,b⟩ _=>?_;exact Oi (fun _=>aX) (fun _=>.mk ⟨hc,h2 hc,trivial⟩);rcases r with a|a;exact aX;refine Ob (P:=fun _=>True) (fY (fun q=>q) 9 (fun _=>True) (by decide) (by decide) trivial (fun q _ h1 h2=>?_)) fun r _=>?_;refine Oi (fun hc=>?_) (fun _=>aX);simp only[jY2]at hc;refine Ob (rH (by rw[bC (by omega) (by omega)];omega)) fun n _=>?_;exact Oi (fun _=>aX) (fun _=>.mk ⟨by omega,h2 (by omega),trivial⟩);rcases r with a|a<;>exact aX
theorem qC1 {h:aA YU} {j:aA Int} (c:h.length<=6) (d:j.length<=20):Ok (Zq h j) (fun _=>True):=by
 unfold Zq;refine Ob (qB1 c d) fun⟨a,b⟩ f=>?_;dsimp only at f;refine Oi (fun _=>aX) (fun hd=>?_);have o:=f.2 (by simpa using hd);refine Ob (jT (by decide) (by omega) (by omega)) fun r k=>?_;refine Ob (P:=fun _=>True) (bF (l:=h) (fun q=>q.1) (fun i q=>q.2.length<=i) (by omega) rfl (by rw[k];decide) (fun i e q p n hi hl g hg hw=>?_) (fun q hi g=>?_)) fun v hv=>?_;obtain⟨x,l⟩:=q;dsimp only at hi hl g hg hw;simp only[hl,nt];refine Ob (bA2 c d ⟨by omega,hl⟩ o) fun⟨a,b⟩ _=>?_;refine Oi (fun hb=>aX) (fun _=>?_);exact Ob (dE (Q:=fun v=>v.length=l.length+1) (by omega) (by simp)) fun m n=>.mk ⟨hw,by dsimp only;omega⟩;obtain⟨x,l⟩:=q;dsimp only at hi g;simp only[hi,nf];exact aX;rcases v with a|b<;>exact aX
theorem bB2 {k:YO} (a:k.sm):Ok (Ov k) (fun v=>v.1.length<=20):=by
 unfold Ov;have j:=a.Events;refine oD (l:=k.Events) (fun q=>q) (jS2 a.Events (by decide)) rfl (fun n m t f b e d g=>?_) (fun t b=>?_) fun u=>?_;simp only[e,d,nt];have i:=a.EventsE _ f;refine bQ (T77 i) fun w=>?_;refine Oi (fun c712=>?_) (fun c712=>?_);exact aX;refine Oi (fun c713=>?_) (fun c713=>?_);exact aX;exact .mk g;simp only[b,nf];exact aX;rcases u with x|_;exact .mk (by(simp only[nm,nl]at *;omega));refine Ob (aV2 a.Events a.EventsE) fun y c=>?_;refine Ob (qB1 a.Tuplets c) fun⟨o,p⟩ h=>?_
 try dsimp only at h
 refine Oi (fun c716=>?_) (fun c716=>?_);exact .mk (by(simp only[nm,nl]at *;omega));refine bQ (qC1 a.Tuplets c) fun⟨r,s⟩=>?_;refine Oi (fun c718=>?_) (fun c718=>?_);exact .mk (by(simp only[nm,nl]at *;omega));exact .mk (by(simp only[nm]at *;omega))
theorem bC2 {f:YO} {g:Int} (a:f.sm):Ok (Ow f g) (fun v=>v.1.length<=20):=by
 unfold Ow;refine Oi (fun c719=>?_) (fun c719=>?_);exact .mk (by(simp only[nm,nl]at *;omega));refine Oi (fun c720=>?_) (fun c720=>?_);exact .mk (by(simp only[nm,nl]at *;omega));refine bQ (pW1 a) fun i=>?_;refine Oi (fun c722=>?_) (fun c722=>?_);have e:=a.Events;refine Ob (P:=fun x=>x∈f.Events) (bP (by omega) (by(simp only[nm]at *;omega)) (fun _ h _=>h)) fun j b=>?_;have d:=a.EventsE _ b;refine bQ (T77 d) fun k=>?_;refine Oi (fun c728=>?_) (fun c728=>?_);exact .mk (by(simp only[nm,nl]at *;omega));refine Oi (fun c729=>?_) (fun c729=>?_);exact .mk (by(simp only[nm,nl]at *;omega));exact .mk (by(simp only[nm,nl]at *;omega));refine Ob (bB2 a) fun⟨l,m⟩ c=>?_
 try dsimp only at c
 exact .mk (by omega)
theorem qD1 {h:aA Int} (e:h.length<=20):Ok (Zr h) (fun _=>True):=by
 unfold Zr;have g:=e;refine oD (l:=h) (fun q=>q.2) (jS2 e (by decide)) rfl (fun j i q741 f a c b d=>?_) (fun q741 a=>?_) fun n=>?_;obtain⟨k,m⟩:=q741;dsimp only at a c b d;simp only[c,b,nt];exact .mk d;obtain⟨k,m⟩:=q741;dsimp only at a;simp only[a,nf];exact aX;exact aX
theorem qE1 {e:YO} {f:Int} (c:e.sm):Ok (Jb e f) (fun v=>v.1.length<=20):=by
 unfold Jb;refine Ob (bC2 c) fun⟨g,i⟩ a=>?_
 try dsimp only at a
 refine Ob (P:=fun r=>r=true->((i==0)&&(decide ((g.length:Int)>0)))=true) ?_ fun k b=>?_;refine Oi (fun c745=>?_) (fun _=>.mk (fun h=>by cases h));refine bQ (qD1 a) fun j=>?_;exact .mk (fun _=>c745);refine bQ ?_ fun l=>?_;refine Oi (fun c748=>?_) (fun c748=>?_);have d:=b c748;exact aX;exact aX;refine Oi (fun c750=>?_) (fun c750=>?_);exact .mk (by(simp only[nm,nl]at *;omega));exact .mk (by omega)
theorem qF1 {c:YO} {d:Int} (b:c.sm):Ok (Ub c d) (fun _=>True):=by
 unfold Ub;refine Ob (qE1 b) fun⟨e,f⟩ a=>?_
 try dsimp only at a
 exact aX
theorem T73 {a:Int}:Ok (F73 a) (fun _=>True):=by
 unfold F73;exact aX
theorem bD2 {c:YO} {d:Int} (a:c.sm):Ok (Zs c d) (fun _=>True):=by
 unfold Zs;refine bQ (pV1 a.Events a.EventsE) fun e=>?_;refine Ob (P:=fun r=>r=true->(!e)=true) ?_ fun i b=>?_;refine Oi (fun c754=>?_) (fun _=>.mk (fun h=>by cases h));refine bQ (qF1 a) fun f=>?_;refine bQ (T73) fun g=>?_;exact .mk (fun _=>c754);exact aX
theorem bE2 {i:aA YO} {n:Int} (f:i.length<=3) (g:∀y∈i,y.sm):Ok (Zt i n) (fun _=>True):=by
 unfold Zt;have j:=f;refine oD (l:=i) (fun q=>q) (jS2 f (by decide)) rfl (fun m k o d a c b e=>?_) (fun o a=>?_) fun p=>?_;simp only[c,b,nt];have h:=g _ d;refine bQ (bD2 h) fun r=>?_;refine Oi (fun c770=>?_) (fun c770=>?_);exact aX;exact .mk e;simp only[a,nf];exact aX;rcases p with s|_;exact aX;exact aX
theorem bF2 {c:aA YO} {d:Int} (b:c.length<=3) (a:∀y∈c,y.sm):Ok (Zu c d) (fun _=>True):=by
 unfold Zu;refine bQ (bE2 b a) fun e=>?_;exact aX
theorem bG2 {b:YW} {c:Int} (a:b.sm):Ok (Zv b c) (fun _=>True):=by
 unfold Zv;refine bQ (bF2 a.Voices a.VoicesE) fun d=>?_;exact aX
theorem bH2 {i:aA YW} {n:Int} (f:i.length<=5) (g:∀y∈i,y.sm):Ok (Zw i n) (fun _=>True):=by
 unfold Zw;have j:=f;refine oD (l:=i) (fun q=>q) (jS2 f (by decide)) rfl (fun m k o d a c b e=>?_) (fun o a=>?_) fun p=>?_;simp only[c,b,nt];have h:=g _ d;refine bQ (bG2 h) fun r=>?_;refine Oi (fun c786=>?_) (fun c786=>?_);exact aX;exact .mk e;simp only[a,nf];exact aX;rcases p with s|_;exact aX;exact aX
theorem bI2 {c:aA YW} {d:Int} (b:c.length<=5) (a:∀y∈c,y.sm):Ok (Zx c d) (fun _=>True):=by
 unfold Zx;refine bQ (bH2 b a) fun e=>?_;exact aX
theorem bJ2 {c:Int} {b:YM} (a:b.sm):Ok (Zy c b) (fun _=>True):=by
 unfold Zy;refine bQ (T47 a) fun⟨d,e⟩=>?_;refine Oi (fun c789=>?_) (fun c789=>?_);exact aX;refine bQ (bI2 a.Cells a.CellsE) fun f=>?_;exact aX
theorem hR1 {i:aA YV} {l:Y0} {u:Int} (q:i.length+12<=1000000) (f:l.sm):Ok (Bu i l u) (fun v=>i.length<=v.length/\v.length<=i.length+12):=by
 unfold Bu;have j:=f.Measures;refine og l.Measures i 12 1 (jS2 f.Measures (by decide)) (fun o m q802 k g a d b c e=>?_) (fun q802 a b=>?_) fun t p=>?_;obtain⟨w,x⟩:=q802;dsimp only at a d c e b;simp only[d,c,nt];have h:=f.MeasuresE _ g;refine bQ (bJ2 h) fun r=>?_;refine Ob (jV (by first|omega|(simp only[kC2]at *;omega)) f) fun s n=>?_;exact .mk ⟨e,by dsimp only;omega⟩;obtain⟨w,x⟩:=q802;dsimp only at a b;simp only[a,nf];exact .mk (by dsimp only;omega);exact .mk (by omega)
theorem bK2 {a:aA YV} {d:Y0} {f:Int} (e:a.length+12<=1000000) (b:d.sm):Ok (aA1 a d f) (fun v=>a.length<=v.length/\v.length<=a.length+12):=by
 unfold aA1;refine Ob (hR1 (by first|omega|(simp only[kC2]at *;omega)) b) fun g c=>?_;exact .mk (by omega)
theorem qG1 {a:aA YV} {d:Y0} {f:Int} (e:a.length+12<=1000000) (b:d.sm):Ok (aB1 a d f) (fun v=>a.length<=v.length/\v.length<=a.length+12):=by
 unfold aB1;refine Ob (bK2 (by first|omega|(simp only[kC2]at *;omega)) b) fun g c=>?_;exact .mk (by omega)
theorem T74 {b:Int}:Ok (F74 b) (fun _=>True):=by
 unfold F74;refine Ob (P:=fun r=>r=true->(b !=0)=true) ?_ fun d a=>?_;refine Oi (fun c810=>?_) (fun _=>.mk (fun h=>by cases h));refine bQ (T73) fun c=>?_;exact .mk (fun _=>c810);exact aX
theorem hS1 {c:YO} {d:Int} (a:c.sm):Ok (Bv c d) (fun _=>True):=by
 unfold Bv;refine bQ (pV1 a.Events a.EventsE) fun e=>?_;refine Ob (P:=fun r=>r=true->(!e)=true) ?_ fun i b=>?_;refine Oi (fun c814=>?_) (fun _=>.mk (fun h=>by cases h));refine bQ (qF1 a) fun f=>?_;refine bQ (T74) fun g=>?_;exact .mk (fun _=>c814);exact aX
theorem hT1 {i:aA YO} {n:Int} (f:i.length<=3) (g:∀y∈i,y.sm):Ok (Bw i n) (fun _=>True):=by
 unfold Bw;have j:=f;refine oD (l:=i) (fun q=>q) (jS2 f (by decide)) rfl (fun m k o d a c b e=>?_) (fun o a=>?_) fun p=>?_;simp only[c,b,nt];have h:=g _ d;refine bQ (hS1 h) fun r=>?_;refine Oi (fun c830=>?_) (fun c830=>?_);exact aX;exact .mk e;simp only[a,nf];exact aX;rcases p with s|_;exact aX;exact aX
theorem hU1 {c:aA YO} {d:Int} (b:c.length<=3) (a:∀y∈c,y.sm):Ok (Bx c d) (fun _=>True):=by
 unfold Bx;refine bQ (hT1 b a) fun e=>?_;exact aX
theorem hV1 {b:YW} {c:Int} (a:b.sm):Ok (Bz b c) (fun _=>True):=by
 unfold Bz;refine bQ (hU1 a.Voices a.VoicesE) fun d=>?_;exact aX
theorem hW1 {i:aA YW} {n:Int} (f:i.length<=5) (g:∀y∈i,y.sm):Ok (Ca i n) (fun _=>True):=by
 unfold Ca;have j:=f;refine oD (l:=i) (fun q=>q) (jS2 f (by decide)) rfl (fun m k o d a c b e=>?_) (fun o a=>?_) fun p=>?_;simp only[c,b,nt];have h:=g _ d;refine bQ (hV1 h) fun r=>?_;refine Oi (fun c846=>?_) (fun c846=>?_);exact aX;exact .mk e;simp only[a,nf];exact aX;rcases p with s|_;exact aX;exact aX
theorem hY1 {c:aA YW} {d:Int} (b:c.length<=5) (a:∀y∈c,y.sm):Ok (Cb c d) (fun _=>True):=by
 unfold Cb;refine bQ (hW1 b a) fun e=>?_;exact aX
theorem hZ1 {c:Int} {b:YM} (a:b.sm):Ok (Cc c b) (fun _=>True):=by
 unfold Cc;refine bQ (T47 a) fun⟨d,e⟩=>?_;refine Oi (fun c849=>?_) (fun c849=>?_);exact aX;refine bQ (hY1 a.Cells a.CellsE) fun f=>?_;exact aX
theorem iA1 {i:aA YV} {l:Y0} {u:Int} (q:i.length+12<=1000000) (f:l.sm):Ok (Cd i l u) (fun v=>i.length<=v.length/\v.length<=i.length+12):=by
 unfold Cd;have j:=f.Measures;refine og l.Measures i 12 1 (jS2 f.Measures (by decide)) (fun o m q862 k g a d b c e=>?_) (fun q862 a b=>?_) fun t p=>?_;obtain⟨w,x⟩:=q862;dsimp only at a d c e b;simp only[d,c,nt];have h:=f.MeasuresE _ g;refine bQ (hZ1 h) fun r=>?_;refine Ob (jV (by first|omega|(simp only[kC2]at *;omega)) f) fun s n=>?_;exact .mk ⟨e,by dsimp only;omega⟩;obtain⟨w,x⟩:=q862;dsimp only at a b;simp only[a,nf];exact .mk (by dsimp only;omega);exact .mk (by omega)
theorem iB1 {a:aA YV} {d:Y0} {f:Int} (e:a.length+12<=1000000) (b:d.sm):Ok (Ce a d f) (fun v=>a.length<=v.length/\v.length<=a.length+12):=by
 unfold Ce;refine Ob (iA1 (by first|omega|(simp only[kC2]at *;omega)) b) fun g c=>?_;exact .mk (by omega)
theorem qH1 {a:aA YV} {d:Y0} {f:Int} (e:a.length+12<=1000000) (b:d.sm):Ok (aL1 a d f) (fun v=>a.length<=v.length/\v.length<=a.length+12):=by
 unfold aL1;refine Ob (iB1 (by first|omega|(simp only[kC2]at *;omega)) b) fun g c=>?_;exact .mk (by omega)
theorem T76 {c:YP} {b:YE} (a:b.sm):Ok (F76 c b) (fun _=>True):=by
 unfold F76;refine bQ (T77 a) fun d=>?_;exact aX
theorem bL2 {H:aA YV} {X:Y0} {x3:Int} (e0:H.length+3600<=1000000) (y:X.sm):Ok (aM1 H X x3) (fun v=>H.length<=v.length/\v.length<=H.length+3600):=by
 unfold aM1;have O:=y.Measures;refine og X.Measures H 3600 300 (jS2 y.Measures (by decide)) (fun b5 D q881 T z c m g a q=>?_) (fun q881 c g=>?_) fun d5 d6=>?_;obtain⟨Y,L⟩:=q881;dsimp only at c m a q g;simp only[m,a,nt];have u:=y.MeasuresE _ z;have P:=u.Cells;refine og D.Cells L 300 60 (jS2 u.Cells (by decide)) (fun b6 E q895 U A d n h b r=>?_) (fun q895 d h=>?_) fun d4 d7=>?_;obtain⟨Z,M⟩:=q895;dsimp only at d n b r h;simp only[n,a,b,nt];have w:=u.CellsE _ A;have R:=w.Voices;refine og E.Voices M 60 20 (jS2 w.Voices (by decide)) (fun b7 F q909 V B e o i k s=>?_) (fun q909 e i=>?_) fun d3 d8=>?_;obtain⟨a0,N⟩:=q909;dsimp only at e o k s i;simp only[o,a,b,k,nt];have x:=w.VoicesE _ B;have S:=x.Events;refine og F.Events N 20 1 (jS2 x.Events (by decide)) (fun b8 b0 q923 W C f p j l t=>?_) (fun q923 f j=>?_) fun d2 d9=>?_;obtain⟨J,K⟩:=q923;dsimp only at f p l t j;simp only[p,a,b,k,l,nt];have G:=x.EventsE _ C;refine bQ (T76 G) fun b9=>?_;refine Ob (jV (by first|omega|(simp only[kC2]at *;omega)) y) fun d1 b4=>?_;exact .mk ⟨t,by dsimp only;omega⟩;obtain⟨J,K⟩:=q923;dsimp only at f j;simp only[f,nf];exact .mk (by dsimp only;omega);exact .mk ⟨s,by dsimp only;omega⟩;obtain⟨a0,N⟩:=q909;dsimp only at e i;simp only[e,nf];exact .mk (by dsimp only;omega);exact .mk ⟨r,by dsimp only;omega⟩;obtain⟨Z,M⟩:=q895;dsimp only at d h;simp only[d,nf];exact .mk (by dsimp only;omega);exact .mk ⟨q,by dsimp only;omega⟩;obtain⟨Y,L⟩:=q881;dsimp only at c g;simp only[c,nf];exact .mk (by dsimp only;omega);exact .mk (by omega)
theorem qI1 {a:aA YV} {d:Y0} {f:Int} (e:a.length+3600<=1000000) (b:d.sm):Ok (aN1 a d f) (fun v=>a.length<=v.length/\v.length<=a.length+3600):=by
 unfold aN1;refine Ob (bL2 (by first|omega|(simp only[kC2]at *;omega)) b) fun g c=>?_;exact .mk (by omega)
theorem T21 {c:Y0} {f:Int} (d:c.sm):Ok (F21 c f) (fun v=>v.2.2=0->0<=v.1/\v.1<(c.Parts.length:Int)):=by
 unfold F21;have g:=d.Parts;refine Oi (fun _=>.mk (fun h=>absurd (show(2:Int)=0 from h) (by decide))) (fun _=>?_);refine Ob (P:=fun r=>match r with|.inl p=>0<=p.1/\p.1<(c.Parts.length:Int)|.inr _=>True) (bF (l:=c.Parts) (fun q=>q.2) (fun _ _=>True) (by omega) rfl trivial (fun i e q k j hi hl _ hg hw=>?_) (fun q hi _=>?_)) fun r hr=>?_;obtain⟨s,x⟩:=q;dsimp only at hi hl hg hw;simp only[hl,hg,nt];exact Oi (fun _=>.mk ⟨by dsimp only;omega,hl⟩) (fun _=>.mk ⟨hw,trivial⟩);obtain⟨s,x⟩:=q;dsimp only at hi;simp only[hi,nf];exact aX;rcases r with⟨a,b⟩|_;exact .mk (fun _=>hr);exact .mk (fun h=>absurd (show(2:Int)=0 from h) (by decide))
theorem T79 {a:YH} {b:Int}:Ok (F79 a b) (fun _=>True):=by
 unfold F79;refine bQ (T80) fun⟨c,d⟩=>?_;refine bQ (Gx) fun e=>?_;exact aX
theorem T82 {a:YB} {b:Int}:Ok (F82 a b) (fun _=>True):=by
 unfold F82;refine bQ (T79) fun c=>?_;exact aX
theorem bM2 {h:aA YB} {k:Int} (e:h.length<=12):Ok (aO1 h k) (fun _=>True):=by
 unfold aO1;have g:=e;refine oD (l:=h) (fun q=>q) (jS2 e (by decide)) rfl (fun j i m f a c b d=>?_) (fun m a=>?_) fun n=>?_;simp only[c,b,nt];refine bQ (T82) fun o=>?_;refine Oi (fun c944=>?_) (fun c944=>?_);exact aX;exact .mk d;simp only[a,nf];exact aX;rcases n with p|_;exact aX;exact aX
theorem T81 {b:aA YB} {c:Int} (a:b.length<=12):Ok (F81 b c) (fun _=>True):=by
 unfold F81;refine bQ (bM2 a) fun d=>?_;exact aX
theorem T84 {a:YD} {b:Int}:Ok (F84 a b) (fun _=>True):=by
 unfold F84;refine bQ (T79) fun c=>?_;exact aX
theorem bN2 {h:aA YD} {k:Int} (e:h.length<=12):Ok (aP1 h k) (fun _=>True):=by
 unfold aP1;have g:=e;refine oD (l:=h) (fun q=>q) (jS2 e (by decide)) rfl (fun j i m f a c b d=>?_) (fun m a=>?_) fun n=>?_;simp only[c,b,nt];refine bQ (T84) fun o=>?_;refine Oi (fun c959=>?_) (fun c959=>?_);exact aX;exact .mk d;simp only[a,nf];exact aX;rcases n with p|_;exact aX;exact aX
theorem T83 {b:aA YD} {c:Int} (a:b.length<=12):Ok (F83 b c) (fun _=>True):=by
 unfold F83;refine bQ (bN2 a) fun d=>?_;exact aX
theorem T78 {l:YP} {k:YE} {g:YK} (a:k.sm) (b:g.s'.sm):Ok (F78 l k g) (fun _=>True):=by
 unfold F78;refine bQ (T77 a) fun p=>?_;refine Oi (fun c962=>?_) (fun c962=>?_);exact aX;refine Ob (T21 b) fun⟨q,s,t⟩ d=>?_
 try dsimp only at d
 refine bQ ?_ fun v=>?_;refine Oi (fun c965=>?_) (fun c965=>?_);have e:=b.Parts;refine Ob (P:=fun x=>x∈g.s'.Parts) (bP (by(simp only[nm]at *;omega)) (by(simp only[nm]at *;omega)) (fun _ h _=>h)) fun u c=>?_;have j:=b.PartsE _ c;exact aX;exact aX;refine bQ ?_ fun m=>?_;refine Oi (fun c971=>?_) (fun c971=>?_);exact aX;exact aX;refine bQ (T81 a.Heads) fun f=>?_;refine Ob (P:=fun r=>¬r=true->¬f=true) ?_ fun o i=>?_;refine Oi (fun _=>.mk (fun h=>absurd rfl h)) (fun c974=>?_);refine bQ (T83 a.Graces) fun n=>?_;exact .mk (fun _=>c974);exact aX
theorem iC1 {H:aA YV} {x2:Y0} {x3:Int} (d9:H.length+3600<=1000000) (s:x2.sm):Ok (Cf H x2 x3) (fun v=>H.length<=v.length/\v.length<=H.length+3600):=by
 unfold Cf;have W:=s.Measures;refine og x2.Measures H 3600 300 (jS2 s.Measures (by decide)) (fun b8 F q987 X C h t j c w=>?_) (fun q987 h j=>?_) fun d6 d7=>?_;obtain⟨b0,L⟩:=q987;dsimp only at h t c w j;simp only[t,c,nt];have y:=s.MeasuresE _ C;have O:=y.Cells;refine og F.Cells L 300 60 (jS2 y.Cells (by decide)) (fun b9 G q1001 Y D i u k g x=>?_) (fun q1001 i k=>?_) fun d5 d8=>?_;obtain⟨b4,M⟩:=q1001;dsimp only at i u g x k;simp only[u,c,g,nt];have l:=y.CellsE _ D;have P:=l.Voices;refine og G.Voices M 60 20 (jS2 l.Voices (by decide)) (fun Z B q1015 S z a o d f q=>?_) (fun q1015 a d=>?_) fun d4 b6=>?_;obtain⟨b5,N⟩:=q1015;dsimp only at a o f q d;simp only[o,c,g,f,nt];have m:=l.VoicesE _ z;have R:=m.Events;refine og B.Events N 20 1 (jS2 m.Events (by decide)) (fun a0 U q1029 T A b p e n r=>?_) (fun q1029 b e=>?_) fun d3 b7=>?_;obtain⟨J,K⟩:=q1029;dsimp only at b p n r e;simp only[p,c,g,f,n,nt];have E:=m.EventsE _ A;refine bQ (T78 E s) fun d1=>?_;refine Ob (jV (by first|omega|(simp only[kC2]at *;omega)) s) fun d2 V=>?_;exact .mk ⟨r,by dsimp only;omega⟩;obtain⟨J,K⟩:=q1029;dsimp only at b e;simp only[b,nf];exact .mk (by dsimp only;omega);exact .mk ⟨q,by dsimp only;omega⟩;obtain⟨b5,N⟩:=q1015;dsimp only at a d;simp only[a,nf];exact .mk (by dsimp only;omega);exact .mk ⟨x,by dsimp only;omega⟩;obtain⟨b4,M⟩:=q1001;dsimp only at i k;simp only[i,nf];exact .mk (by dsimp only;omega);exact .mk ⟨w,by dsimp only;omega⟩;obtain⟨b0,L⟩:=q987;dsimp only at h j;simp only[h,nf];exact .mk (by dsimp only;omega);exact .mk (by omega)
theorem qJ1 {a:aA YV} {d:Y0} {f:Int} (e:a.length+3600<=1000000) (c:d.sm):Ok (aR1 a d f) (fun v=>a.length<=v.length/\v.length<=a.length+3600):=by
 unfold aR1;refine Ob (iC1 (by first|omega|(simp only[kC2]at *;omega)) c) fun g b=>?_;exact .mk (by omega)
theorem bO2 {a:YB}:Ok (aS1 a) (fun _=>True):=by
 unfold aS1;exact aX
theorem iD1 {j:aA YB} (e:j.length<=12):Ok (Cg j) (fun _=>True):=by
 unfold Cg;have g:=e;refine oD (l:=j) (fun q=>q) (jS2 e (by decide)) rfl (fun i h k f a c b d=>?_) (fun k a=>?_) fun m=>?_;simp only[c,b,nt];refine bQ (bO2) fun n=>?_;refine Oi (fun c1047=>?_) (fun c1047=>?_);exact aX;exact .mk d;simp only[a,nf];exact aX;rcases m with o|_;exact aX;exact aX
theorem qK1 {b:aA YB} (a:b.length<=12):Ok (Lp b) (fun _=>True):=by
 unfold Lp;refine bQ (iD1 a) fun c=>?_;exact aX
theorem T86 {c:YE} (b:c.sm):Ok (F86 c) (fun _=>True):=by
 unfold F86;refine Ob (P:=fun r=>r=true->(c.Kind==1)=true) ?_ fun e a=>?_;refine Oi (fun c1050=>?_) (fun _=>.mk (fun h=>by cases h));refine bQ (qK1 b.Heads) fun d=>?_;exact .mk (fun _=>c1050);exact aX
theorem cL1 {b:Y0} {c d e:Int} (f:b.sm):Ok (Ch b c d e) (fun v=>v.length<=20/\(∀y∈v,y.sm)/\(v=[]\/∃x y z,aT b.Measures c=some x/\aT x.Cells d=some y/\aT y.Voices e=some z/\v=z.Events)):=by
 unfold Ch;refine Ob (P:=fun r=>¬r=true->0<=c/\0<=d/\∃x,aT b.Measures c=some x/\d<(x.Cells.length:Int)) ?_ fun l j=>?_;refine Oi (fun _=>.mk (fun h=>absurd rfl h)) (fun hc=>?_);simp only[kE2,jY2,mJ2]at hc;exact Ok.bindE (bP (Q:=fun _=>True) (by omega) (by omega) (fun _ _ _=>trivial)) fun x a _=>.mk (fun h=>⟨by omega,by omega,x,a,by simp at h;omega⟩);refine Ob (P:=fun r=>¬r=true->∃x y,aT b.Measures c=some x/\aT x.Cells d=some y/\0<=e/\e<(y.Voices.length:Int)) ?_ fun m k=>?_;refine Oi (fun _=>.mk (fun h=>absurd rfl h)) (fun hc=>?_);simp only[kE2,jY2,mJ2]at hc;obtain⟨h0,h1,x,a,hs⟩:=j hc.1;rw[a,jW2];exact Ok.bindE (bP (Q:=fun _=>True) h1 hs (fun _ _ _=>trivial)) fun y hy _=>.mk (fun h=>⟨x,y,rfl,hy,by omega,by simp at h;omega⟩);refine Oi (fun _=>.mk ⟨kS2 _,fun _ h=>(List.not_mem_nil h).elim,.inl rfl⟩) (fun hc=>?_);obtain⟨x,y,a,hy,h0,h1⟩:=k hc;rw[a,jW2,hy,jW2];refine Ok.bindE (bP (Q:=fun _=>True) h0 h1 (fun _ _ _=>trivial)) fun z g _=>?_;have i:=((f.MeasuresE x (eH a).2.2.1).CellsE y (eH hy).2.2.1).VoicesE z (eH g).2.2.1;exact .mk ⟨i.Events,i.EventsE,.inr ⟨x,y,z,rfl,hy,g,rfl⟩⟩
theorem qL1 {c:Y0} {a:YP} (d:c.sm):Ok (Uc c a) (fun r=>r=0->a.Kind=4/\0<=a.Event/\∃l,Ch c a.Measure a.Staff a.Voice=some l/\a.Event<(l.length:Int)):=by
 unfold Uc;refine Oi (fun _=>.mk (fun h=>by cases h)) (fun hk=>?_);refine Ob (P:=fun r=>¬r=true->0<=a.Event/\∃l,Ch c a.Measure a.Staff a.Voice=some l/\a.Event<(l.length:Int)) (Oi (fun _=>.mk (fun h=>absurd rfl h)) (fun hc=>?_)) fun b hb=>?_;exact Ok.bindE (cL1 d) fun l hl _=>.mk (fun h=>⟨by simpa using hc,l,hl,by simpa using h⟩);exact Oi (fun _=>.mk (fun h=>by cases h)) (fun hc=>.mk (fun _=>⟨by simpa using hk,hb hc⟩))
theorem qM1 {a b:Int} {c d:Int}:Ok (Ud a b c d) (fun v=>v.Measure=a):=by
 unfold Ud;exact .mk (by rfl)
theorem T87 {d:Y0} {e:YP} (b:d.sm):Ok (F87 d e) (fun v=>v.2=true->0<=e.Measure/\e.Measure<(d.Measures.length:Int)/\0<=v.1.Measure/\v.1.Measure<(d.Measures.length:Int)):=by
 unfold F87;refine Ob (qL1 b) fun c hc=>?_;refine Oi (fun _=>.mk (fun h=>by cases h)) (fun hd=>?_);obtain⟨hk,h0,l,hl,j⟩:=hc (by simpa using hd);have i:=(cL1 b).of hl
 have f:0<=e.Measure/\e.Measure<(d.Measures.length:Int):=by
  rcases i.2.2 with h|⟨x,y,z,hx,_⟩
  rw[h,kC2]at j;omega;have:=eH hx;exact⟨this.1,this.2.1⟩
 rw[hl,jW2];refine Oi (fun _=>?_) (fun _=>?_);exact Ob qM1 fun a g=>.mk (fun _=>⟨f.1,f.2,by dsimp only;omega,by dsimp only;omega⟩);refine Ob (cL1 b) fun k h2=>?_;refine Oi (fun hc=>?_) (fun _=>.mk (fun h=>by cases h));refine Ob qM1 fun a g=>.mk (fun _=>?_);dsimp only at g ⊢;rcases h2.2.2 with h|⟨x,y,z,hx,_⟩
 rw[h]at hc;simp at hc;have:=eH hx;rw[g];exact⟨f.1,f.2,this.1,this.2.1⟩
theorem bP2 {b:YE} (a:b.sm):Ok (aU1 b) (fun v=>v.sm):=by
 unfold aU1;rw[sQ (kP2 a.Heads (by decide)),sQ (kP2 a.Graces (by decide)),sQ (kP2 a.Lyrics (by decide))];exact .mk ⟨a.Heads,a.Graces,a.Lyrics,a.LyricsE⟩
theorem T88 {f:Y0} {g:YP} (a:f.sm):Ok (F88 f g) (fun v=>v.1.sm):=by
 unfold F88;refine Ob (qL1 a) fun c hc=>?_;refine Oi (fun _=>.mk ⟨kS2 _,kS2 _,kS2 _,fun _ h=>(List.not_mem_nil h).elim⟩) (fun hd=>?_);obtain⟨hk,h0,l,hl,d⟩:=hc (by simpa using hd);have b:=(cL1 a).of hl;rw[hl,jW2];exact Ob (bP (Q:=fun x=>x.sm) h0 d (fun x e _=>b.2.1 x e)) fun x e=>Ob (bP2 e) fun y hy=>.mk hy
theorem bQ2 {a b:YB}:Ok (aV1 a b) (fun _=>True):=by
 unfold aV1;exact aX
theorem iE1 {j:aA YB} {k:YB} (e:j.length<=12):Ok (Ci j k) (fun _=>True):=by
 unfold Ci;have g:=e;refine oD (l:=j) (fun q=>q) (jS2 e (by decide)) rfl (fun i h m f a c b d=>?_) (fun m a=>?_) fun n=>?_;simp only[c,b,nt];refine bQ (bQ2) fun o=>?_;refine Oi (fun c1064=>?_) (fun c1064=>?_);exact aX;exact .mk d;simp only[a,nf];exact aX;rcases n with p|_;exact aX;exact aX
theorem qN1 {b:aA YB} {c:YB} (a:b.length<=12):Ok (Lr b c) (fun _=>True):=by
 unfold Lr;refine bQ (iE1 a) fun d=>?_;exact aX
theorem T89 {p t:YE} (g:p.sm) (m:t.sm):Ok (F89 p t) (fun _=>True):=by
 unfold F89;refine Oi (fun c1066=>?_) (fun c1066=>?_);exact aX;have j:=g.Heads;refine oD (l:=p.Heads) (fun q=>q) (jS2 g.Heads (by decide)) rfl (fun n e w i a c b d=>?_) (fun w a=>?_) fun s=>?_;simp only[c,b,nt];refine Ob (P:=fun r=>r=true->e.Tied=true) ?_ fun v f=>?_;refine Oi (fun c1079=>?_) (fun _=>.mk (fun h=>by cases h));refine Ob (P:=fun r=>r=true->(t.Kind==1)=true) ?_ fun u k=>?_;refine Oi (fun c1081=>?_) (fun _=>.mk (fun h=>by cases h));refine bQ (qN1 m.Heads) fun x=>?_;exact .mk (fun _=>c1081);exact .mk (fun _=>c1079);refine Oi (fun c1083=>?_) (fun c1083=>?_);have o:=f c1083;exact aX;exact .mk d;simp only[a,nf];exact aX;rcases s with _|_;exact aX;exact aX
theorem T85 {i:YP} {f:YE} {g:YK} (c:f.sm) (d:g.s'.sm):Ok (F85 i f g) (fun _=>True):=by
 unfold F85;refine bQ (T86 c) fun l=>?_;refine Oi (fun c1086=>?_) (fun c1086=>?_);exact aX;refine Ob (T87 d) fun⟨m,k⟩ b=>?_
 try dsimp only at b
 refine Ob (T88 d) fun⟨n,o⟩ a=>?_
 try dsimp only at a
 refine Ob (P:=fun r=>¬r=true->¬(!k)=true) ?_ fun j e=>?_;refine Oi (fun _=>.mk (fun h=>absurd rfl h)) (fun c1090=>?_);refine bQ (T89 c a) fun p=>?_;exact .mk (fun _=>c1090);exact aX
theorem iF1 {H:aA YV} {x2:Y0} {x3:Int} (d9:H.length+3600<=1000000) (y:x2.sm):Ok (Cj H x2 x3) (fun v=>H.length<=v.length/\v.length<=H.length+3600):=by
 unfold Cj;have O:=y.Measures;refine og x2.Measures H 3600 300 (jS2 y.Measures (by decide)) (fun Z D q1103 T z c p g a t=>?_) (fun q1103 c g=>?_) fun d8 b8=>?_;obtain⟨b5,L⟩:=q1103;dsimp only at c p a t g;simp only[p,a,nt];have l:=y.MeasuresE _ z;have P:=l.Cells;refine og D.Cells L 300 60 (jS2 l.Cells (by decide)) (fun a0 E q1117 U A d q h b u=>?_) (fun q1117 d h=>?_) fun d7 b9=>?_;obtain⟨b6,M⟩:=q1117;dsimp only at d q b u h;simp only[q,a,b,nt];have m:=l.CellsE _ A;have R:=m.Voices;refine og E.Voices M 60 20 (jS2 m.Voices (by decide)) (fun b0 F q1131 V B e r i k w=>?_) (fun q1131 e i=>?_) fun d6 d1=>?_;obtain⟨b7,N⟩:=q1131;dsimp only at e r k w i;simp only[r,a,b,k,nt];have n:=m.VoicesE _ B;have S:=n.Events;refine og F.Events N 20 1 (jS2 n.Events (by decide)) (fun b4 X q1145 W C f s j o x=>?_) (fun q1145 f j=>?_) fun d5 d2=>?_;obtain⟨J,K⟩:=q1145;dsimp only at f s o x j;simp only[s,a,b,k,o,nt];have G:=n.EventsE _ C;refine bQ (T85 G y) fun d3=>?_;refine Ob (jV (by first|omega|(simp only[kC2]at *;omega)) y) fun d4 Y=>?_;exact .mk ⟨x,by dsimp only;omega⟩;obtain⟨J,K⟩:=q1145;dsimp only at f j;simp only[f,nf];exact .mk (by dsimp only;omega);exact .mk ⟨w,by dsimp only;omega⟩;obtain⟨b7,N⟩:=q1131;dsimp only at e i;simp only[e,nf];exact .mk (by dsimp only;omega);exact .mk ⟨u,by dsimp only;omega⟩;obtain⟨b6,M⟩:=q1117;dsimp only at d h;simp only[d,nf];exact .mk (by dsimp only;omega);exact .mk ⟨t,by dsimp only;omega⟩;obtain⟨b5,L⟩:=q1103;dsimp only at c g;simp only[c,nf];exact .mk (by dsimp only;omega);exact .mk (by omega)
theorem qO1 {a:aA YV} {d:Y0} {f:Int} (e:a.length+3600<=1000000) (c:d.sm):Ok (aY1 a d f) (fun v=>a.length<=v.length/\v.length<=a.length+3600):=by
 unfold aY1;refine Ob (iF1 (by first|omega|(simp only[kC2]at *;omega)) c) fun g b=>?_;exact .mk (by omega)
theorem bR2 {a:YE} {c:Int} (d:a.sm) (e:0<=c):Ok (aZ1 a c) (fun v=>v=false->c<(a.Lyrics.length:Int)):=by
 unfold aZ1;refine Ob (P:=fun r=>r=false->c<(a.Lyrics.length:Int)) (Oi (fun _=>.mk (fun h=>by cases h)) (fun hc=>?_)) fun b hb=>.mk hb;simp only[jY2]at hc;exact Ob (bP (Q:=fun _=>True) e (by omega) (fun _ _ _=>trivial)) fun y _=>.mk (fun _=>by omega)
theorem bS2 {o p v:Int} {E:aA (YP×Bool)} {A:aA YV} {s:Y0} {F:Int} (B:A.length+0<=1000000) (d:s.sm) (D:0<=o) (hy:0<=p) (t:0<=v):Ok (bA1 o p v E A s F) (fun _=>True):=by
 unfold bA1;have H:=d.Measures;refine Ob (P:=fun _=>True) (bF (l:=s.Measures) (fun q=>q.1) (fun _ _=>True) (by omega) rfl trivial (fun i e q _ g hi hl _ hg hw=>?_) (fun q hi _=>?_)) fun⟨a1,a2,a3,a4,a5,a6,a7⟩ _=>?_;obtain⟨x,k,st,m,n,ev,y,l⟩:=q;dsimp only at hi hl hg hw;simp only[hl,hg,nt];refine Ob (P:=fun r=>¬r=true->∃y,aT e.Cells o=some y/\p<(y.Voices.length:Int)) (Oi (fun _=>.mk (fun h=>absurd rfl h)) (fun hc=>?_)) fun b hb=>?_;simp only[jY2]at hc;exact Ok.bindE (bP (Q:=fun _=>True) D (by omega) (fun _ _ _=>trivial)) fun y hy _=>.mk (fun h=>⟨y,hy,by simpa using h⟩);refine Oi (fun _=>.mk ⟨hw,trivial⟩) (fun hc=>?_);obtain⟨c,f,hv⟩:=hb hc;rw[f,jW2];refine Ok.bindE (bP (Q:=fun _=>True) hy hv (fun _ _ _=>trivial)) fun z j _=>?_;have u:=((d.MeasuresE e g).CellsE c (eH f).2.2.1).VoicesE z (eH j).2.2.1;have G:=u.Events;refine Ob (P:=fun _=>True) (bF (l:=z.Events) (fun q=>q.1) (fun _ _=>True) (by omega) rfl trivial (fun i e q _ g hi hl _ hg hw=>?_) (fun q hi _=>?_)) fun⟨a1,a2,a3,a4,a5,a6,a7⟩ _=>.mk ⟨hw,trivial⟩;obtain⟨x,k,st,m,n,ev,y,l⟩:=q;dsimp only at hi hl hg hw;simp only[hl,hg,nt];refine Ob (bR2 (u.EventsE e g) t) fun a C=>?_;refine Oi (fun _=>.mk ⟨hw,trivial⟩) (fun hc=>?_);refine Ob (bP (Q:=fun _=>True) t (C (by simpa using hc)) (fun _ _ _=>trivial)) fun w _=>?_;refine Ob (P:=fun _=>True) (Oi (fun _=>aX) (fun _=>aX)) fun _ _=>?_;exact Ob (P:=fun _=>True) (Oi (fun _=>aX) (fun _=>aX)) fun _ _=>.mk ⟨hw,trivial⟩;obtain⟨x,k,st,m,n,ev,y,l⟩:=q;dsimp only at hi;simp only[hi,nf];exact aX;obtain⟨x,k,st,m,n,ev,y,l⟩:=q;dsimp only at hi;simp only[hi,nf];exact aX;exact Ob (P:=fun _=>True) (Oi (fun _=>aX) (fun _=>aX)) fun _ _=>aX
theorem T91 {c:YP} {a:YE} {d:aA (YP×Bool)} (b:a.sm):Ok (F91 c a d) (fun _=>True):=by
 unfold F91;exact aX
theorem iG1 {x1:aA (YP×Bool)} {K:aA YV} {x3:Y0} {x4:Int} (d9:K.length+3600<=1000000) (y:x3.sm):Ok (Ck x1 K x3 x4) (fun v=>K.length<=v.length/\v.length<=K.length+3600):=by
 unfold Ck;have O:=y.Measures;refine og x3.Measures K 3600 300 (jS2 y.Measures (by decide)) (fun Z D q1162 T z c p g a t=>?_) (fun q1162 c g=>?_) fun d8 b8=>?_;obtain⟨b5,L⟩:=q1162;dsimp only at c p a t g;simp only[p,a,nt];have l:=y.MeasuresE _ z;have P:=l.Cells;refine og D.Cells L 300 60 (jS2 l.Cells (by decide)) (fun a0 E q1176 U A d q h b u=>?_) (fun q1176 d h=>?_) fun d7 b9=>?_;obtain⟨b6,M⟩:=q1176;dsimp only at d q b u h;simp only[q,a,b,nt];have m:=l.CellsE _ A;have R:=m.Voices;refine og E.Voices M 60 20 (jS2 m.Voices (by decide)) (fun b0 F q1190 V B e r i k w=>?_) (fun q1190 e i=>?_) fun d6 d1=>?_;obtain⟨b7,N⟩:=q1190;dsimp only at e r k w i;simp only[r,a,b,k,nt];have n:=m.VoicesE _ B;have S:=n.Events;refine og F.Events N 20 1 (jS2 n.Events (by decide)) (fun b4 X q1204 W C f s j o x=>?_) (fun q1204 f j=>?_) fun d5 d2=>?_;obtain⟨H,J⟩:=q1204;dsimp only at f s o x j;simp only[s,a,b,k,o,nt];have G:=n.EventsE _ C;refine bQ (T91 G) fun d3=>?_;refine Ob (jV (by first|omega|(simp only[kC2]at *;omega)) y) fun d4 Y=>?_;exact .mk ⟨x,by dsimp only;omega⟩;obtain⟨H,J⟩:=q1204;dsimp only at f j;simp only[f,nf];exact .mk (by dsimp only;omega);exact .mk ⟨w,by dsimp only;omega⟩;obtain⟨b7,N⟩:=q1190;dsimp only at e i;simp only[e,nf];exact .mk (by dsimp only;omega);exact .mk ⟨u,by dsimp only;omega⟩;obtain⟨b6,M⟩:=q1176;dsimp only at d h;simp only[d,nf];exact .mk (by dsimp only;omega);exact .mk ⟨t,by dsimp only;omega⟩;obtain⟨b5,L⟩:=q1162;dsimp only at c g;simp only[c,nf];exact .mk (by dsimp only;omega);exact .mk (by omega)
theorem qP1 {b:aA YV} {f:Y0} {i:Int} (g:b.length+3600<=1000000) (a:f.sm):Ok (bC1 b f i) (fun v=>b.length<=v.length/\v.length<=b.length+3600):=by
 unfold bC1;refine Ob (T20 a) fun n h=>?_;refine Ob (P:=fun _=>True) (fY (fun q=>q.1) n (fun _=>True) h (by decide) trivial (fun q _ h1 h2=>?_)) fun m _=>?_;obtain⟨x,l⟩:=q;dsimp only at h1 h2 ⊢;refine Oi (fun hc=>?_) (fun _=>aX);simp only[jY2]at hc;refine Ob (P:=fun _=>True) (fY (fun q=>q.1) 2 (fun _=>True) (by decide) (by dsimp only;omega) trivial (fun q _ c g2=>?_)) fun m _=>.mk ⟨hc,h2 hc,trivial⟩;obtain⟨y,l⟩:=q;dsimp only at c g2 ⊢;refine Oi (fun hd=>?_) (fun _=>aX);simp only[jY2]at hd;refine Ob (P:=fun _=>True) (fY (fun q=>q.1) 4 (fun _=>True) (by decide) (by dsimp only;omega) trivial (fun q _ d e=>?_)) fun m _=>.mk ⟨hd,g2 hd,trivial⟩;obtain⟨z,l⟩:=q;dsimp only at d e ⊢;refine Oi (fun he=>?_) (fun _=>aX);simp only[jY2]at he;exact Ob (bS2 (by omega) a h1 c d) fun m _=>.mk ⟨he,e he,trivial⟩;exact Ob (iG1 (by omega) a) fun v hv=>.mk (by omega)
theorem iH1 {a:Y0} (b:a.sm):Ok (Cl a) (fun _=>True):=by
 unfold Cl;exact aX
theorem cM1 {e f:Int} {g h:Int} {i j k:Int} {c:YJ} {l:Bool} {a:YP} {b:YZ} (d:c.sm):Ok (uS e f g h i j k c l a b) (fun _=>True):=by
 unfold uS;refine Oi (fun c1209=>?_) (fun c1209=>?_);exact aX;exact aX
theorem Pg {c d:Int} {e f:Int} {g h i:Int} {j:YF} {k:Bool} {a:YP} {b:YZ}:Ok (nZ c d e f g h i j k a b) (fun _=>True):=by
 unfold nZ;refine Oi (fun c1210=>?_) (fun c1210=>?_);exact aX;exact aX
theorem Ph {e f:Int} {g h:Int} {i j k:Int} {c:YM} {l:Bool} {a:YP} {b:YZ} (d:c.sm):Ok (oA e f g h i j k c l a b) (fun _=>True):=by
 unfold oA;refine Oi (fun c1211=>?_) (fun c1211=>?_);exact aX;exact aX
theorem Pi {e f:Int} {g h:Int} {i j k:Int} {c:YE} {l:Bool} {a:YP} {b:YZ} (d:c.sm):Ok (oB e f g h i j k c l a b) (fun _=>True):=by
 unfold oB;refine Oi (fun c1212=>?_) (fun c1212=>?_);exact aX;exact aX
theorem Pj {c d:Int} {e f:Int} {g h i:Int} {j:YN} {k:Bool} {a:YP} {b:YZ}:Ok (oC c d e f g h i j k a b) (fun _=>True):=by
 unfold oC;refine Oi (fun c1213=>?_) (fun c1213=>?_);exact aX;exact aX
theorem iI1 {m:Y0} {Y:Bool} {Z:YP} {x4:YZ} (g:m.sm):Ok (Cm m Y Z x4) (fun v=>match v with|.inl p=>p.Kind=4->0<=p.Event/\m.pl p.Measure p.Staff p.Voice|.inr _=>True):=by
 unfold Cm;have hP:=g.Parts;have hM:=g.Measures;have V:=g.Spanners;refine Ob (P:=fun r=>match r with|.inl p=>p.1≠4|.inr _=>True) (bF (l:=m.Parts) (fun q=>q.2) (fun _ _=>True) (by omega) rfl trivial (fun i e q E C hi hl _ hg hw=>?_) (fun q hi _=>?_)) fun r hr=>?_;obtain⟨s,x⟩:=q;dsimp only at hi hl hg hw;simp only[hl,hg,nt];refine Ob (cM1 (g.PartsE e C)) fun r _=>?_;rcases r with _|_;exact .mk (show(1:Int)≠4 by decide);have V:=(g.PartsE e C).Staves;refine Ob (P:=fun _=>True) (bF (l:=e.Staves) (fun q=>q.2) (fun _ _=>True) (by omega) rfl trivial (fun i2 e2 q X W G B _ o D=>?_) (fun q hi _=>?_)) fun r _=>?_;obtain⟨s,y⟩:=q;dsimp only at G B o D;simp only[B,o,nt];refine Ob Pg fun r _=>?_;rcases r with _|_;exact aX;exact .mk ⟨D,trivial⟩;obtain⟨s,y⟩:=q;dsimp only at hi;simp only[hi,nf];exact aX;rcases r with⟨a,b⟩|a;exact .mk (show(2:Int)≠4 by decide);exact .mk ⟨hw,trivial⟩;obtain⟨s,y⟩:=q;dsimp only at hi;simp only[hi,nf];exact aX;rcases r with⟨k,p,st⟩|_;exact .mk (fun h=>absurd h hr);refine Ob (P:=fun r=>match r with|.inl p=>p.1=4->0<=p.2.2.2.2/\m.pl p.2.2.1 p.2.1 p.2.2.2.1|.inr _=>True) (bF (l:=m.Measures) (fun q=>q) (fun _ _=>True) (by omega) rfl trivial (fun i e q E C hi hl _ hg hw=>?_) (fun q hi _=>?_)) fun r hr=>?_;simp only[hl,hg,nt];have S:=g.MeasuresE e C;have hC:=S.Cells;refine Ob (Ph S) fun r _=>?_;rcases r with _|_;exact .mk (fun h=>absurd (show(3:Int)=4 from h) (by decide));refine Ob (P:=fun r=>match r with|.inl p=>0<=p.2.2/\m.pl q p.1 p.2.1|.inr _=>True) (bF (l:=e.Cells) (fun q=>q) (fun _ _=>True) (by omega) rfl trivial (fun j c w E K hj hlc _ z N=>?_) (fun q hi _=>?_)) fun r hr=>?_;simp only[hlc,z,nt];have T:=S.CellsE c K;have hV:=T.Voices;refine Ob (P:=fun r=>match r with|.inl p=>0<=p.2/\m.pl q w p.1|.inr _=>True) (bF (l:=c.Voices) (fun q=>q) (fun _ _=>True) (by omega) rfl trivial (fun k v u E M hk J _ A R=>?_) (fun q hi _=>?_)) fun r hr=>?_;simp only[J,A,nt];have U:=T.VoicesE v M;have hE:=U.Events;refine Ob (P:=fun r=>match r with|.inl x=>0<=x|.inr _=>True) (bF (l:=v.Events) (fun q=>q) (fun _ _=>True) (by omega) rfl trivial (fun n ev t E L ht H _ F O=>?_) (fun q hi _=>?_)) fun r hr=>?_;simp only[H,F,nt];refine Ob (Pi (U.EventsE ev L)) fun r _=>?_;rcases r with _|_;exact .mk (show(0:Int)<=t by omega);exact .mk ⟨O,trivial⟩;simp only[hi,nf];exact aX;rcases r with x|_;exact .mk ⟨hr,e,c,v,hg,z,A⟩;exact .mk ⟨R,trivial⟩;simp only[hi,nf];exact aX;rcases r with⟨a,b⟩|_;exact .mk hr;exact .mk ⟨N,trivial⟩;simp only[hi,nf];exact aX;rcases r with⟨a,b,c⟩|_;exact .mk (fun _=>hr);exact .mk ⟨hw,trivial⟩;simp only[hi,nf];exact aX;rcases r with⟨a,b,c,d,f⟩|_;exact .mk hr;refine Ob (P:=fun _=>True) (bF (l:=m.Spanners) (fun q=>q) (fun _ _=>True) (by omega) rfl trivial (fun i e q E C hi hl _ hg hw=>?_) (fun q hi _=>?_)) fun r hr=>?_;simp only[hl,hg,nt];refine Ob Pj fun r _=>?_;rcases r with _|_;exact aX;exact .mk ⟨hw,trivial⟩;simp only[hi,nf];exact aX;rcases r with x|_;exact .mk (fun h=>absurd (show(5:Int)=4 from h) (by decide));exact aX
theorem T11 {b:Y0} {c:YZ} (a:b.sm):Ok (F11 b c) (fun v=>v.2=true->v.1.Kind=4->0<=v.1.Event/\b.pl v.1.Measure v.1.Staff v.1.Voice):=by
 unfold F11;refine Oi (fun _=>.mk (fun h=>by cases h)) (fun _=>?_);refine Ob (iH1 a) fun _ _=>?_;refine Ob (iI1 a) fun r hr=>?_;rcases r with p|_;exact .mk (fun _=>hr);exact .mk (fun h=>by cases h)
theorem bT2 {a:aA Int} (c:a.length<=20):Ok (Ox a) (fun _=>True):=by
 unfold Ox;refine Ob (jT (by omega) (by omega) (by omega)) fun h h2=>?_;refine Ob (P:=fun v=>v.length=a.length) (fY (fun q=>q.1) (a.length:Int) (fun q=>q.2.length=a.length) (by omega) (by dsimp only;omega) (by rw[h2];simp) (fun q b h1 h2=>?_)) fun v hv=>aX;obtain⟨i,l⟩:=q;dsimp only at b h1 h2 ⊢;refine Oi (fun hc=>?_) (fun _=>.mk b);simp only[jY2]at hc;rw[bC (n:=i-1) (by omega) (by omega)];refine Ob (eK (by omega) (by omega)) fun j e=>?_;refine Ob (gH (by omega)) fun x _=>?_;refine Ob (bP (Q:=fun _=>True) (by omega) (by omega) (fun _ _ _=>trivial)) fun y _=>?_;refine Ob (eK (by omega) (by omega)) fun g d=>?_;exact Ob (rI (by omega)) fun m f=>.mk ⟨hc,h2 hc,by dsimp only;omega⟩
theorem bU2 {c:YO} {d:Int} (b:c.sm):Ok (Jg c d) (fun _=>True):=by
 unfold Jg;refine Ob (qE1 b) fun⟨e,f⟩ a=>?_
 try dsimp only at a
 refine Oi (fun c1215=>?_) (fun c1215=>?_);exact aX;refine bQ (bT2 a) fun g=>?_;exact aX
theorem qQ1 {i:YK} {k:YZ} (c:i.s'.sm):Ok (Uf i k) (fun _=>True):=by
 unfold Uf;refine Ob (T11 c) fun⟨p,f⟩ hp=>?_;dsimp only at hp;refine Oi (fun _=>aX) (fun hc=>?_);simp only[kE2,mJ2,kH2,Bool.not_eq_false,bne_iff_ne,ne_eq,Decidable.not_not]at hc;obtain⟨h0,x,y,z,d,hy,g⟩:=hp hc.1 hc.2;simp only[d,hy,g,jW2];have h:=c.MeasuresE x (eH d).2.2.1;have j:=(h.CellsE y (eH hy).2.2.1).VoicesE z (eH g).2.2.1;refine Ob (T47 h) fun⟨a,b⟩ _=>?_;refine Ob (bU2 j) fun⟨on,e⟩ _=>?_;refine Oi (fun _=>aX) (fun hd=>?_);simp only[jY2]at hd;exact Ob (bP (Q:=fun _=>True) h0 (by dsimp only at hd ⊢;omega) (fun _ _ _=>trivial)) fun w _=>aX
theorem cN1 {a b:Int}:Ok (Jh a b) (fun _=>True):=by
 unfold Jh;exact aX
theorem qR1 {g:YQ}:Ok (Ug g) (fun _=>True):=by
 unfold Ug;refine bQ (cN1) fun i=>?_;refine Ob (P:=fun r=>r=true->i=true) ?_ fun j a=>?_;refine Oi (fun c1219=>?_) (fun _=>.mk (fun h=>by cases h));refine bQ (cN1) fun l=>?_;exact .mk (fun _=>c1219);refine Ob (P:=fun r=>r=true->j=true) ?_ fun k b=>?_;refine Oi (fun c1222=>?_) (fun _=>.mk (fun h=>by cases h));have e:=a c1222;refine bQ (cN1) fun m=>?_;exact .mk (fun _=>c1222);refine Ob (P:=fun r=>r=true->k=true) ?_ fun o d=>?_;refine Oi (fun c1226=>?_) (fun _=>.mk (fun h=>by cases h));have c:=b c1226;have f:=a c;refine bQ (cN1) fun n=>?_;exact .mk (fun _=>c1226);exact aX
theorem qS1 {a:Int}:Ok (Uh a) (fun _=>True):=by
 unfold Uh;exact aX
theorem qT1 {a:Int}:Ok (Oy a) (fun _=>True):=by
 unfold Oy;exact aX
theorem qU1 {a b:Int}:Ok (oH a b) (fun _=>True):=by
 unfold oH;refine bQ (qT1) fun c=>?_;refine bQ (qT1) fun d=>?_;refine Oi (fun c1232=>?_) (fun c1232=>?_);refine Oi (fun c1233=>?_) (fun c1233=>?_);exact aX;exact aX;refine Oi (fun c1234=>?_) (fun c1234=>?_);exact aX;refine Oi (fun c1235=>?_) (fun c1235=>?_);exact aX;refine Oi (fun c1236=>?_) (fun c1236=>?_);exact aX;exact aX
theorem bV2 {j:aA Int} (e:j.length<=20):Ok (Ji j) (fun _=>True):=by
 unfold Ji;have g:=e;refine oD (l:=j) (fun q=>q) (jS2 e (by decide)) rfl (fun i h k f a c b d=>?_) (fun k a=>?_) fun m=>?_;simp only[c,b,nt];refine Oi (fun c1248=>?_) (fun c1248=>?_);exact aX;exact .mk d;simp only[a,nf];exact aX;rcases m with n|_;exact aX;exact aX
theorem Jl {a b:YQ}:Ok (yK a b) (fun _=>True):=by
 unfold yK;refine bQ (qU1) fun c=>?_;refine bQ (qU1) fun d=>?_;refine bQ (bV2 (by simp)) fun e=>?_;exact aX
theorem bW2 {e:YS}:Ok (bF1 e) (fun _=>True):=by
 unfold bF1;refine Oi (fun c1252=>?_) (fun c1252=>?_);exact aX;refine bQ (qR1) fun f=>?_;refine Ob (P:=fun r=>¬r=true->¬(!f)=true) ?_ fun i a=>?_;refine Oi (fun _=>.mk (fun h=>absurd rfl h)) (fun c1255=>?_);refine bQ (qR1) fun g=>?_;exact .mk (fun _=>c1255);refine Oi (fun c1257=>?_) (fun c1257=>?_);exact aX;have c:=a c1257;refine Ob (P:=fun r=>¬r=true->¬(e.From.Staff !=e.To.Staff)=true) ?_ fun k b=>?_;refine Oi (fun _=>.mk (fun h=>absurd rfl h)) (fun c1260=>?_);refine bQ (qS1) fun j=>?_;exact .mk (fun _=>c1260);refine Oi (fun c1262=>?_) (fun c1262=>?_);exact aX;have d:=b c1262;refine bQ (Jl) fun l=>?_;refine Oi (fun c1265=>?_) (fun c1265=>?_);exact aX;exact aX
theorem qV1 {j:aA YV} {d:Y0} {m:Int} (k:j.length+0<=1000000) (c:d.sm):Ok (Ui j d m) (fun v=>v.1.length=d.Spanners.length/\v.2.length=d.Spanners.length):=by
 unfold Ui;have p:=c.Spanners;refine Ob (P:=fun v=>v.1.length=d.Spanners.length/\v.2.length=d.Spanners.length) (bF (l:=d.Spanners) (fun q=>q.1) (fun i q=>q.2.1.length=i/\q.2.2.length=i) (by omega) rfl ⟨rfl,rfl⟩ (fun i e q s r hi hl f hg hw=>?_) (fun q hi f=>?_)) fun⟨a,b⟩ hv=>.mk hv;obtain⟨x,g,h⟩:=q;dsimp only at hi hl f hg hw;simp only[hl,hg,nt];refine Ob (qQ1 c) fun⟨p1,n⟩ _=>?_;refine Ob (qQ1 c) fun⟨p2,o⟩ _=>?_;refine Ob (dE (Q:=fun v=>v.length=h.length+1) (by omega) (by simp)) fun t h1=>?_;refine Ob (P:=fun _=>True) (Oi (fun _=>aX) (fun _=>Ob bW2 fun _ _=>aX)) fun b _=>?_;exact Ob (dE (Q:=fun v=>v.length=g.length+1) (by omega) (by simp)) fun u h2=>.mk ⟨hw,by dsimp only;omega,by dsimp only;omega⟩;obtain⟨x,g,h⟩:=q;dsimp only at hi f;simp only[hi,nf];exact .mk f
theorem qW1 {c:aA YV} {h:Y0} {n:Int} (k:c.length+10<=1000000) (d:h.sm):Ok (bG1 c h n) (fun v=>c.length<=v.length/\v.length<=c.length+10):=by
 unfold bG1;have o:=d.Spanners;refine Ob (qV1 (by omega) d) fun⟨a,b⟩ g=>?_;dsimp only at g;refine Ob (P:=fun v=>c.length<=v.length/\v.length<=c.length+10) (bF (l:=h.Spanners) (fun q=>q.1) (fun i q=>c.length<=q.2.length/\q.2.length<=c.length+i) (by omega) rfl (by dsimp only;omega) (fun i e q r p hi hl f hg hw=>?_) (fun q hi f=>?_)) fun v hv=>.mk (by omega);obtain⟨x,l⟩:=q;dsimp only at hi hl f hg hw;simp only[hl,hg,nt];refine Ob (eK (by omega) (by omega)) fun j m=>?_;refine Ob (gH m.2) fun y _=>?_;exact Ob (jV (by omega) d) fun v hv=>.mk ⟨hw,by dsimp only;omega⟩;obtain⟨x,l⟩:=q;dsimp only at hi f;simp only[hi,nf];exact .mk (by omega)
theorem iJ1 {b:Int}:Ok (Oz b) (fun v=>v>0->1<=b/\b<=7):=by
 unfold Oz;refine Oi (fun c1266=>?_) (fun c1266=>?_);exact .mk (by omega);refine Ob (bP (Q:=fun _=>True) (by(simp only[nm]at *;rw[bC (by omega) (by omega)];omega)) (by(simp only[nm,nl]at *;rw[bC (by omega) (by omega)];omega)) (fun _ _ _=>trivial)) fun c a=>?_;exact .mk (by(simp only[nm]at *;omega))
theorem bX2 {a c:YS}:Ok (bH1 a c) (fun v=>v=true->1<=a.Kind/\a.Kind<=7):=by
 unfold bH1;refine Ob iJ1 fun f hf=>?_;refine Ob (P:=fun r=>r=true->1<=a.Kind/\a.Kind<=7) (Oi (fun hc=>?_) (fun _=>.mk (fun h=>by cases h))) fun b hb=>?_;simp only[jY2]at hc;have:=hf hc;exact Ob iJ1 fun _ _=>Ob iJ1 fun _ _=>.mk (fun _=>this);refine Ob (P:=fun r=>r=true->1<=a.Kind/\a.Kind<=7) (Oi (fun hc=>?_) (fun _=>.mk (fun h=>by cases h))) fun b hb=>.mk hb;simp only[jO2]at hc;have:=hb hc.1;exact Ob qS1 fun _ _=>.mk (fun _=>this)
theorem bY2 {b c:YS}:Ok (bI1 b c) (fun _=>True):=by
 unfold bI1;refine bQ (Jl) fun d=>?_;refine Ob (P:=fun r=>¬r=true->¬(decide (d<0))=true) ?_ fun f a=>?_;refine Oi (fun _=>.mk (fun h=>absurd rfl h)) (fun c1270=>?_);refine bQ (Jl) fun e=>?_;exact .mk (fun _=>c1270);exact aX
theorem iK1 {a b:YS}:Ok (Pa a b) (fun _=>True):=by
 unfold Pa;refine bQ (bY2) fun c=>?_;exact aX
theorem qX1 {b c:YS}:Ok (Ul b c) (fun _=>True):=by
 unfold Ul;refine bQ (Jl) fun d=>?_;refine Ob (P:=fun r=>¬r=true->¬(decide (d<=0))=true) ?_ fun f a=>?_;refine Oi (fun _=>.mk (fun h=>absurd rfl h)) (fun c1275=>?_);refine bQ (Jl) fun e=>?_;exact .mk (fun _=>c1275);exact aX
theorem iL1 {a b:YS}:Ok (Pb a b) (fun _=>True):=by
 unfold Pb;refine bQ (qX1) fun c=>?_;exact aX
theorem qY1 {b c:YS}:Ok (Un b c) (fun _=>True):=by
 unfold Un;refine bQ (Jl) fun d=>?_;refine Ob (P:=fun r=>r=true->(decide (d>=0))=true) ?_ fun f a=>?_;refine Oi (fun c1280=>?_) (fun _=>.mk (fun h=>by cases h));refine bQ (Jl) fun e=>?_;exact .mk (fun _=>c1280);exact aX
theorem bZ2 {b c:YS}:Ok (bJ1 b c) (fun _=>True):=by
 unfold bJ1;refine bQ (qX1) fun d=>?_;refine Ob (P:=fun r=>r=true->(!d)=true) ?_ fun g a=>?_;refine Oi (fun c1284=>?_) (fun _=>.mk (fun h=>by cases h));refine bQ (qY1) fun e=>?_;refine bQ (qY1) fun f=>?_;exact .mk (fun _=>c1284);exact aX
theorem T93 {a f:YS}:Ok (F93 a f) (fun _=>True):=by
 unfold F93;refine Ob bX2 fun g hg=>?_;refine Oi (fun _=>aX) (fun hc=>?_);have hk:=hg (by simpa using hc);rw[bC (n:=a.Kind-1) (by omega) (by omega)];refine Oi (fun _=>Ob iK1 fun _ _=>aX) (fun e=>?_);refine Oi (fun _=>Ob iL1 fun _ _=>aX) (fun d=>?_);refine Oi (fun _=>Ob iK1 fun _ _=>aX) (fun c=>?_);refine Oi (fun _=>Ob iK1 fun _ _=>aX) (fun b=>?_);refine Oi (fun _=>Ob iL1 fun _ _=>aX) (fun h2=>?_);refine Oi (fun _=>Ob iL1 fun _ _=>aX) (fun h1=>?_);refine Oi (fun _=>Ob bZ2 fun _ _=>aX) (fun h0=>?_);simp only[lR2]at h0 h1 h2 b c d e;omega
theorem qZ1 {c:aA YV} {o:Y0} {s:Int} (p:c.length+10<=1000000) (d:o.sm):Ok (bK1 c o s) (fun v=>c.length<=v.length/\v.length<=c.length+10):=by
 unfold bK1;have t:=d.Spanners;refine Ob (qV1 (by omega) d) fun⟨a,b⟩ m=>?_;dsimp only at m;refine Ob (P:=fun v=>c.length<=v.length/\v.length<=c.length+10) (bF (l:=o.Spanners) (fun q=>q.1) (fun i q=>c.length<=q.2.length/\q.2.length<=c.length+i) (by omega) rfl (by dsimp only;omega) (fun i e q w u hi hl g hg hw=>?_) (fun q hi g=>?_)) fun v hv=>.mk (by omega);obtain⟨x,l⟩:=q;dsimp only at hi hl g hg hw;simp only[hl,hg,nt];refine Ob (P:=fun _=>True) (fY (fun q=>q.2) x (fun _=>True) (by omega) (by dsimp only;omega) trivial (fun q _ h1 h2=>?_)) fun b _=>?_;obtain⟨ex,k⟩:=q;dsimp only at h1 h2 ⊢;refine Ob (P:=fun r=>r=true->k<x) (Oi (fun hc=>?_) (fun _=>.mk (fun h=>by cases h))) fun b hb=>?_;simp only[jY2]at hc;exact Ob (eK (by omega) (by omega)) fun j f=>Ob (gH f.2) fun y _=>.mk (fun _=>hc);refine Oi (fun hc=>?_) (fun _=>aX);simp only[jO2]at hc;have hk:=hb hc.1;refine Ob (eK (by omega) (by omega)) fun j f=>Ob (gH f.2) fun y _=>?_;refine Ob (P:=fun _=>True) (Oi (fun _=>?_) (fun _=>aX)) fun b _=>.mk ⟨hk,h2 hk,trivial⟩;exact Ob (eK (by omega) (by omega)) fun j f=>Ob (gH f.2) fun A _=>Ob (eK (by omega) (by omega)) fun z n=>Ob (gH n.2) fun B _=>Ob T93 fun b _=>aX;exact Ob (jV (by omega) d) fun v hv=>.mk ⟨hw,by dsimp only;omega⟩;obtain⟨x,l⟩:=q;dsimp only at hi g;simp only[hi,nf];exact .mk (by omega)
theorem T94 {d:Int} {a:YM} (c:a.sm):Ok (F94 d a) (fun v=>v=false->a.RepeatEnd<=8):=by
 unfold F94;simp only[hJ1,jW2];refine Ob (P:=fun r=>r=false->a.RepeatEnd<=8) (Oi (fun hc=>.mk (fun h=>?_)) (fun hc=>.mk (fun _=>?_))) fun b hb=>?_;simp at h;omega;simp at hc;omega;exact Ob (P:=fun r=>r=false->a.RepeatEnd<=8) (Oi (fun hc=>.mk (fun h=>by cases h)) (fun hc=>.mk (fun _=>hb (by simpa using hc)))) fun b hb=>.mk hb
theorem iM1 {a:aA YV} {d:Y0} {s:Int} (p:a.length+12<=1000000) (f:d.sm):Ok (Cn a d s) (fun v=>(a.length<=v.length/\v.length<=a.length+12)/\(v.length<=a.length->∀m∈d.Measures,m.RepeatEnd<=8)):=by
 unfold Cn;have t:=f.Measures;refine Ob (P:=fun v=>(a.length<=v.length/\v.length<=a.length+12)/\(v.length<=a.length->∀m∈d.Measures,m.RepeatEnd<=8)) (bF (l:=d.Measures) (fun q=>q.1) (fun i q=>q.2.length<=a.length+i/\a.length<=q.2.length/\(q.2.length<=a.length->∀j,j<i->∀m,d.Measures[j]? =some m->m.RepeatEnd<=8)) (by omega) rfl ⟨by dsimp only;omega,jR2 _,fun _ j k=>by omega⟩ (fun i e q r o hi hl g hg hw=>?_) (fun q hi g=>?_)) fun v hv=>.mk hv;obtain⟨x,l⟩:=q;dsimp only at hi hl g hg hw;simp only[hl,hg,nt];refine Ob (T94 (f.MeasuresE e o)) fun b hb=>?_;refine Ob (cI1 (by omega)) fun v hv=>.mk ⟨hw,?_,?_,fun h j k m c=>?_⟩;dsimp only;cases b<;>simp at hv<;>omega;dsimp only;cases b<;>simp at hv<;>omega;dsimp only at h;cases b with
 |true=>simp at hv;omega
 |false=>
  simp only[kB2,false_implies,forall_const,true_and]at hv;by_cases n:j=i;subst n;rw[r]at c;cases c;exact hb rfl;exact g.2.2 (by omega) j (by omega) m c
 obtain⟨x,l⟩:=q;dsimp only at hi g;simp only[hi,nf];refine .mk ⟨⟨by omega,by omega⟩,fun h m o=>?_⟩;obtain⟨j,k⟩:=kJ2.1 o;exact g.2.2 h j (jP2.1 k).1 m k
theorem cA2 {e:Int}:Ok (bM1 e) (fun v=>0<=v/\v<=1000):=by
 unfold bM1;refine Ob (P:=fun v=>0<=v.2/\v.2<=32) (Oi (fun _=>Ob (rH (by decide)) fun n _=>.mk (by dsimp only;omega)) (fun _=>.mk (by dsimp only;omega))) fun⟨h,i⟩ c=>?_;dsimp only at c;refine Ob (P:=fun v=>0<=v.2/\v.2<=48) (Oi (fun _=>Ob (rH (by decide)) fun n _=>.mk (by dsimp only;rw[bC (by omega) (by omega)];omega)) (fun _=>.mk (by dsimp only;omega))) fun⟨j,k⟩ d=>?_;dsimp only at d;refine Ob (P:=fun v=>0<=v.2/\v.2<=56) (Oi (fun _=>Ob (rH (by decide)) fun n _=>.mk (by dsimp only;rw[bC (by omega) (by omega)];omega)) (fun _=>.mk (by dsimp only;omega))) fun⟨g,f⟩ a=>?_;dsimp only at a;have hw:=pM1 g;refine Ob (sP hw.1 hw.2) fun b hb=>.mk ?_;rw[bC (n:=b) (by omega) (by omega),bC (by omega) (by omega)];omega
theorem cO1 {b:Int}:Ok (Jj b) (fun v=>0<=v/\v<=1000):=by
 unfold Jj;refine Ob (cA2) fun c a=>?_;exact .mk (by omega)
theorem T96 {c:YG} (d:c.passes<=1000):Ok (F96 c) (fun _=>True):=by
 unfold F96;refine Ob (P:=fun r=>r=true->(decide (c.passes>0))=true) ?_ fun f a=>?_;refine Oi (fun c1289=>?_) (fun _=>.mk (fun h=>by cases h));refine Ob (Ly (by(simp only[nm]at *;rw[bC (by omega) (by omega)];omega))) fun e b=>?_;exact .mk (fun _=>c1289);exact aX
theorem cB2 {a:YG} {f:YM} (x:f.sm) (G:a.passes<=8) (hy:f.RepeatEnd<=8):Ok (bO1 a f) (fun v=>v.1.passes<=8):=by
 unfold bO1;refine Oi (fun c1291=>?_) (fun c1291=>?_);exact .mk (by omega);refine Oi (fun c1292=>?_) (fun c1292=>?_);refine Oi (fun c1293=>?_) (fun c1293=>?_);exact .mk (by omega);refine Ob (cO1) fun w g=>?_;refine Oi (fun c1295=>?_) (fun c1295=>?_);refine Oi (fun c1296=>?_) (fun c1296=>?_);exact .mk (by omega);refine Oi (fun c1297=>?_) (fun c1297=>?_);refine bQ (T96 (by(simp only[nm]at *;omega))) fun E=>?_;refine Ob (P:=fun r=>¬r=true->¬(E||((a.passes !=0)&&(f.RepeatEnd !=a.passes)))=true) ?_ fun J b=>?_;refine Oi (fun _=>.mk (fun h=>absurd rfl h)) (fun c1300=>?_);refine Ob (cO1) fun H i=>?_;exact .mk (fun _=>c1300);refine Oi (fun c1302=>?_) (fun c1302=>?_);exact .mk (by omega);have o:=b c1302;exact .mk (by omega);exact .mk (by omega);refine Ob (P:=fun r=>¬r=true->¬(decide ((aU (w-1))>=a.passes))=true) ?_ fun z c=>?_;refine Oi (fun _=>.mk (fun h=>absurd rfl h)) (fun c1305=>?_);refine Ob (P:=fun r=>r=true->((aU (w-1))==(aU (a.passes-1)))=true) ?_ fun y j=>?_;refine Oi (fun c1307=>?_) (fun _=>.mk (fun h=>by cases h));refine bQ (T96 (by(simp only[nm]at *;omega))) fun F=>?_;refine Ob (P:=fun r=>¬r=true->¬(!F)=true) ?_ fun L k=>?_;refine Oi (fun _=>.mk (fun h=>absurd rfl h)) (fun c1310=>?_);refine Ob (Ly (by(simp(disch:=omega) only[bC,nm]at *;omega))) fun K l=>?_;exact .mk (fun _=>c1310);exact .mk (fun _=>c1307);exact .mk (fun _=>c1305);refine Oi (fun c1312=>?_) (fun c1312=>?_);exact .mk (by omega);have p:=c c1312;refine Oi (fun c1314=>?_) (fun c1314=>?_);refine bQ (T96 (by(simp only[nm]at *;omega))) fun t=>?_;refine Ob (P:=fun r=>¬r=true->¬(t||((a.passes !=0)&&(f.RepeatEnd !=a.passes)))=true) ?_ fun B d=>?_;refine Oi (fun _=>.mk (fun h=>absurd rfl h)) (fun c1317=>?_);refine Ob (cO1) fun A m=>?_;exact .mk (fun _=>c1317);refine Oi (fun c1319=>?_) (fun c1319=>?_);exact .mk (by omega);have q:=d c1319;exact .mk (by omega);exact .mk (by omega);refine Oi (fun c1321=>?_) (fun c1321=>?_);exact .mk (by omega);refine Oi (fun c1322=>?_) (fun c1322=>?_);refine bQ (T96 (by omega)) fun u=>?_;refine Ob (P:=fun r=>¬r=true->¬(u||((a.passes !=0)&&(f.RepeatEnd !=a.passes)))=true) ?_ fun D e=>?_;refine Oi (fun _=>.mk (fun h=>absurd rfl h)) (fun c1325=>?_);refine Ob (cO1) fun C n=>?_;exact .mk (fun _=>c1325);refine Oi (fun c1327=>?_) (fun c1327=>?_);exact .mk (by omega);have s:=e c1327;exact .mk (by omega);exact .mk (by omega)
theorem T95 {i:YG} {e:YM} (d:e.sm) (c:i.passes<=8) (hy:e.RepeatEnd<=8):Ok (F95 i e) (fun v=>v.1.passes<=8):=by
 unfold F95;refine Oi (fun _=>Ob (cB2 d c hy) fun⟨a,b⟩ h=>.mk h) (fun _=>?_);refine Oi (fun _=>?_) (fun _=>?_);refine Ob (T96 (by omega)) fun f _=>?_;refine Oi (fun _=>.mk c) (fun _=>?_);refine Oi (fun _=>Oi (fun h=>by cases h) (fun _=>?_)) (fun _=>?_);exact Ob (P:=fun _=>True) (Oi (fun _=>aX) (fun _=>aX)) fun⟨a,b⟩ _=>.mk (show(0:Int)<=8 by decide);exact Ob (P:=fun _=>True) (Oi (fun _=>aX) (fun _=>aX)) fun a _=>.mk (show(0:Int)<=8 by decide);refine Oi (fun _=>Oi (fun _=>.mk c) (fun _=>?_)) (fun _=>?_);exact Ob (P:=fun _=>True) (Oi (fun _=>aX) (fun _=>aX)) fun⟨a,b⟩ _=>.mk (show(0:Int)<=8 by decide);exact Ob (P:=fun g=>g.passes<=8) (Oi (fun _=>.mk (show(0:Int)<=8 by decide)) (fun _=>.mk c)) fun g hg=>.mk hg
theorem rA1 {f:aA YV} {h:Y0} {u:Int} (n:f.length+25<=1000000) (c:h.sm) (t:0<h.Measures.length):Ok (bP1 f h u) (fun v=>f.length<=v.length/\v.length<=f.length+25):=by
 unfold bP1;have w:=c.Measures;refine Ob (iM1 (by omega) c) fun m j=>?_;refine Oi (fun _=>.mk (by omega)) (fun hc=>?_);simp only[jY2]at hc;have s:=j.2 (by omega);have o:=j.1;refine Ob (P:=fun r=>match r with|.inl p=>m.length<=p.2.length/\p.2.length<=m.length+1|.inr g=>g.passes<=8) (bF (l:=h.Measures) (fun q=>q.1) (fun i q=>q.2.passes<=8) (by omega) rfl (show(0:Int)<=8 by decide) (fun i e q t k hi hl d hg hw=>?_) (fun q hi d=>?_)) fun r hr=>?_;obtain⟨x,g⟩:=q;dsimp only at hi hl d hg hw;simp only[hl,hg,nt];refine Ob (T95 (c.MeasuresE e k) d (s e k)) fun⟨g2,b⟩ hb=>?_;refine Oi (fun _=>?_) (fun _=>.mk ⟨hw,hb⟩);exact Ob (jV (by omega) c) fun v hv=>.mk (by dsimp only;omega);obtain⟨x,g⟩:=q;dsimp only at hi d;simp only[hi,nf];exact .mk d;rcases r with⟨a,v⟩|g;exact .mk (by dsimp only at hr;omega);dsimp only at hr;refine Ob (P:=fun _=>True) (Oi (fun _=>aX) (fun _=>?_)) fun b _=>?_;exact Ob (P:=fun _=>True) (Oi (fun _=>Ob (T96 (by omega)) fun _ _=>aX) (fun _=>aX)) fun _ _=>aX;refine Ob (bP (Q:=fun _=>True) (by rw[bC (by omega) (by omega)];omega) (by rw[bC (by omega) (by omega)];omega) (fun _ _ _=>trivial)) fun y _=>?_;exact Ob (jV (by omega) c) fun v hv=>.mk (by omega)
theorem T98 {a b:YM} (c:a.sm) (d:b.sm):Ok (F98 a b) (fun _=>True):=by
 unfold F98;exact aX
theorem cC2 {j:aA YM} {o:YM} (g:j.length<=12) (h:∀y∈j,y.sm) (m:o.sm):Ok (bQ1 j o) (fun _=>True):=by
 unfold bQ1;have i:=g;refine oD (l:=j) (fun q=>q) (jS2 g (by decide)) rfl (fun n k p d a c b e=>?_) (fun p a=>?_) fun r=>?_;simp only[c,b,nt];have f:=h _ d;refine bQ (T98 f m) fun s=>?_;refine Oi (fun c1342=>?_) (fun c1342=>?_);exact aX;exact .mk e;simp only[a,nf];exact aX;rcases r with t|_;exact aX;exact aX
theorem T99 {d:aA YM} {e:YM} (b:d.length<=12) (a:∀y∈d,y.sm) (c:e.sm):Ok (F99 d e) (fun _=>True):=by
 unfold F99;refine bQ (cC2 b a c) fun f=>?_;exact aX
theorem cD2 {a:YM} {c:Int} (b:a.sm):Ok (bR1 a c) (fun _=>True):=by
 unfold bR1;exact aX
theorem iN1 {j:aA YM} {n:Int} (g:j.length<=12) (h:∀y∈j,y.sm):Ok (Co j n) (fun _=>True):=by
 unfold Co;have i:=g;refine oD (l:=j) (fun q=>q) (jS2 g (by decide)) rfl (fun m k o d a c b e=>?_) (fun o a=>?_) fun p=>?_;simp only[c,b,nt];have f:=h _ d;refine bQ (cD2 f) fun r=>?_;refine Oi (fun c1357=>?_) (fun c1357=>?_);exact aX;exact .mk e;simp only[a,nf];exact aX;rcases p with s|_;exact aX;exact aX
theorem iO1 {b:YK} {c:Int} (a:b.s'.sm):Ok (Pd b c) (fun _=>True):=by
 unfold Pd;refine bQ (iN1 a.Measures a.MeasuresE) fun d=>?_;exact aX
theorem iP1 {c:Int} {b:YK} {d:Int} (a:b.s'.sm):Ok (Pe c b d) (fun _=>True):=by
 unfold Pe;refine bQ (iO1 a) fun e=>?_;refine bQ (Gx) fun f=>?_;exact aX
theorem cE2 {e:YK} {f k:Int} (a:e.s'.sm):Ok (bT1 e f k) (fun _=>True):=by
 unfold bT1;refine Ob (P:=fun r=>r=true->(decide (f>=4))=true) ?_ fun n b=>?_;refine Oi (fun c1362=>?_) (fun _=>.mk (fun h=>by cases h));refine bQ (iP1 a) fun m=>?_;exact .mk (fun _=>c1362);refine Oi (fun c1364=>?_) (fun c1364=>?_);have d:=b c1364;exact aX;refine bQ ?_ fun o=>?_;refine Oi (fun c1367=>?_) (fun c1367=>?_);exact aX;exact aX;refine Oi (fun c1368=>?_) (fun c1368=>?_);refine bQ (iP1 a) fun p=>?_;exact aX;refine bQ ?_ fun q=>?_;refine Oi (fun c1371=>?_) (fun c1371=>?_);exact aX;exact aX;refine Oi (fun c1372=>?_) (fun c1372=>?_);refine bQ (iP1 a) fun l=>?_;refine Ob (P:=fun r=>r=true->l=true) ?_ fun j c=>?_;refine Oi (fun c1375=>?_) (fun _=>.mk (fun h=>by cases h));refine bQ (iO1 a) fun g=>?_;refine bQ (iO1 a) fun i=>?_;exact .mk (fun _=>c1375);exact aX;exact aX
theorem T97 {e:Int} {h:YM} {f:YK} (d:h.sm) (a:f.s'.sm) (g:0<=e/\e<=(f.s'.Measures.length:Int)):Ok (F97 e h f) (fun _=>True):=by
 unfold F97;refine Ob Gx fun w _=>?_;refine Ob (P:=fun _=>True) (Oi (fun _=>aX) (fun _=>Ob Gx fun _ _=>aX)) fun b _=>?_;refine Oi (fun _=>aX) (fun _=>?_);refine Ob (Ae (by decide) g.1 g.2) fun l hl=>?_;refine Ob (T99 (kP2 hl.1 a.Measures) (fun y hy=>a.MeasuresE y (hl.2 y hy)) d) fun c _=>?_;exact Ob (P:=fun _=>True) (Oi (fun _=>aX) (fun _=>Ob (cE2 a) fun _ _=>aX)) fun b _=>aX
theorem iQ1 {i:aA YV} {o:Y0} {u:Int} (q:i.length+12<=1000000) (f:o.sm):Ok (Cp i o u) (fun v=>i.length<=v.length/\v.length<=i.length+12):=by
 unfold Cp;have j:=f.Measures;refine og o.Measures i 12 1 (jS2 f.Measures (by decide)) (fun n l q1389 k g a d b c e=>?_) (fun q1389 a b=>?_) fun t p=>?_;obtain⟨w,x⟩:=q1389;dsimp only at a d c e b;simp only[d,c,nt];have h:=f.MeasuresE _ g;refine bQ (T97 h f (by(simp only[nm]at *;omega))) fun r=>?_;refine Ob (jV (by first|omega|(simp only[kC2]at *;omega)) f) fun s m=>?_;exact .mk ⟨e,by dsimp only;omega⟩;obtain⟨w,x⟩:=q1389;dsimp only at a b;simp only[a,nf];exact .mk (by dsimp only;omega);exact .mk (by omega)
theorem rB1 {a:aA YV} {d:Y0} {f:Int} (e:a.length+12<=1000000) (c:d.sm):Ok (bV1 a d f) (fun v=>a.length<=v.length/\v.length<=a.length+12):=by
 unfold bV1;refine Ob (iQ1 (by first|omega|(simp only[kC2]at *;omega)) c) fun g b=>?_;exact .mk (by omega)
theorem cF2 {E:Int} {m:YM} (f:m.sm):Ok (bW1 E m) (fun _=>True):=by
 unfold bW1;refine bQ (T47 f) fun⟨N,O⟩=>?_;refine Ob (P:=fun r=>r=true->(m.Swing !=0)=true) ?_ fun M u=>?_;refine Oi (fun c1397=>?_) (fun _=>.mk (fun h=>by cases h));refine bQ (Gx) fun R=>?_;exact .mk (fun _=>c1397);refine Ob (P:=fun r=>¬r=true->¬M=true) ?_ fun T v=>?_;refine Oi (fun _=>.mk (fun h=>absurd rfl h)) (fun c1400=>?_);refine bQ (Gx) fun S=>?_;exact .mk (fun _=>c1400);have p:=f.Tempi;refine oD (l:=m.Tempi) (fun q=>q.2) (jS2 f.Tempi (by decide)) rfl (fun z t q1412 n a c b d=>?_) (fun q1412 a=>?_) fun L=>?_;obtain⟨j,k⟩:=q1412;dsimp only at a c b d;simp only[c,b,nt];refine Ob (P:=fun r=>¬r=true->¬j=true) ?_ fun C e=>?_;refine Oi (fun _=>.mk (fun h=>absurd rfl h)) (fun c1415=>?_);refine bQ (Gx) fun F=>?_;exact .mk (fun _=>c1415);refine Ob (P:=fun r=>¬r=true->¬C=true) ?_ fun D g=>?_;refine Oi (fun _=>.mk (fun h=>absurd rfl h)) (fun c1418=>?_);have A:=e c1418;refine bQ (Gx) fun G=>?_;exact .mk (fun _=>c1418);refine Ob (P:=fun r=>¬r=true->¬D=true) ?_ fun K w=>?_;refine Oi (fun _=>.mk (fun h=>absurd rfl h)) (fun c1422=>?_);have i:=g c1422;have B:=e i;refine Ob (P:=fun r=>r=true->(decide (k>0))=true) ?_ fun J y=>?_;refine Oi (fun c1426=>?_) (fun _=>.mk (fun h=>by cases h));have s:=f.Tempi;refine Ob (P:=fun x=>x∈m.Tempi) (bP (by(simp only[nm]at *;rw[bC (by omega) (by omega)];omega)) (by(simp only[nm]at *;rw[bC (by omega) (by omega)];omega)) (fun _ h _=>h)) fun H o=>?_;exact .mk (fun _=>c1426);exact .mk (fun _=>c1422);exact .mk d;obtain⟨j,k⟩:=q1412;dsimp only at a;simp only[a,nf];exact aX;exact aX
theorem iR1 {i:aA YV} {o:Y0} {u:Int} (q:i.length+12<=1000000) (f:o.sm):Ok (Cq i o u) (fun v=>i.length<=v.length/\v.length<=i.length+12):=by
 unfold Cq;have j:=f.Measures;refine og o.Measures i 12 1 (jS2 f.Measures (by decide)) (fun n l q1441 k g a d b c e=>?_) (fun q1441 a b=>?_) fun t p=>?_;obtain⟨w,x⟩:=q1441;dsimp only at a d c e b;simp only[d,c,nt];have h:=f.MeasuresE _ g;refine bQ (cF2 h) fun r=>?_;refine Ob (jV (by first|omega|(simp only[kC2]at *;omega)) f) fun s m=>?_;exact .mk ⟨e,by dsimp only;omega⟩;obtain⟨w,x⟩:=q1441;dsimp only at a b;simp only[a,nf];exact .mk (by dsimp only;omega);exact .mk (by omega)
theorem rC1 {a:aA YV} {d:Y0} {f:Int} (e:a.length+12<=1000000) (c:d.sm):Ok (bY1 a d f) (fun v=>a.length<=v.length/\v.length<=a.length+12):=by
 unfold bY1;refine Ob (iR1 (by first|omega|(simp only[kC2]at *;omega)) c) fun g b=>?_;exact .mk (by omega)
theorem cG2 {i:YP} {e:YE} {g:YK} (a:e.sm) (c:g.s'.sm):Ok (bZ1 i e g) (fun _=>True):=by
 unfold bZ1;refine Ob (T87 c) fun⟨q,f⟩ d=>?_;dsimp only at d;refine Ob (P:=fun r=>¬r=true->f=true) (Oi (fun _=>.mk (fun h=>absurd rfl h)) (fun hc=>Ob (T86 a) fun t _=>.mk (fun _=>by simpa using hc))) fun b hb=>?_;refine Oi (fun _=>aX) (fun hc=>?_);simp only[kE2,mJ2]at hc;have:=d (hb hc.1);exact Ob (bP (Q:=fun _=>True) this.1 this.2.1 (fun _ _ _=>trivial)) fun x _=>Ob (bP (Q:=fun _=>True) this.2.2.1 this.2.2.2 (fun _ _ _=>trivial)) fun y _=>aX
theorem iS1 {H:aA YV} {x2:Y0} {x3:Int} (d9:H.length+3600<=1000000) (y:x2.sm):Ok (Ct H x2 x3) (fun v=>H.length<=v.length/\v.length<=H.length+3600):=by
 unfold Ct;have O:=y.Measures;refine og x2.Measures H 3600 300 (jS2 y.Measures (by decide)) (fun Z D q1458 T z c p g a t=>?_) (fun q1458 c g=>?_) fun d8 b8=>?_;obtain⟨b5,L⟩:=q1458;dsimp only at c p a t g;simp only[p,a,nt];have l:=y.MeasuresE _ z;have P:=l.Cells;refine og D.Cells L 300 60 (jS2 l.Cells (by decide)) (fun a0 E q1472 U A d q h b u=>?_) (fun q1472 d h=>?_) fun d7 b9=>?_;obtain⟨b6,M⟩:=q1472;dsimp only at d q b u h;simp only[q,a,b,nt];have m:=l.CellsE _ A;have R:=m.Voices;refine og E.Voices M 60 20 (jS2 m.Voices (by decide)) (fun b0 F q1486 V B e r i k w=>?_) (fun q1486 e i=>?_) fun d6 d1=>?_;obtain⟨b7,N⟩:=q1486;dsimp only at e r k w i;simp only[r,a,b,k,nt];have n:=m.VoicesE _ B;have S:=n.Events;refine og F.Events N 20 1 (jS2 n.Events (by decide)) (fun b4 X q1500 W C f s j o x=>?_) (fun q1500 f j=>?_) fun d5 d2=>?_;obtain⟨J,K⟩:=q1500;dsimp only at f s o x j;simp only[s,a,b,k,o,nt];have G:=n.EventsE _ C;refine bQ (cG2 G y) fun d3=>?_;refine Ob (jV (by first|omega|(simp only[kC2]at *;omega)) y) fun d4 Y=>?_;exact .mk ⟨x,by dsimp only;omega⟩;obtain⟨J,K⟩:=q1500;dsimp only at f j;simp only[f,nf];exact .mk (by dsimp only;omega);exact .mk ⟨w,by dsimp only;omega⟩;obtain⟨b7,N⟩:=q1486;dsimp only at e i;simp only[e,nf];exact .mk (by dsimp only;omega);exact .mk ⟨u,by dsimp only;omega⟩;obtain⟨b6,M⟩:=q1472;dsimp only at d h;simp only[d,nf];exact .mk (by dsimp only;omega);exact .mk ⟨t,by dsimp only;omega⟩;obtain⟨b5,L⟩:=q1458;dsimp only at c g;simp only[c,nf];exact .mk (by dsimp only;omega);exact .mk (by omega)
theorem rD1 {a:aA YV} {d:Y0} {f:Int} (e:a.length+3600<=1000000) (c:d.sm):Ok (cB1 a d f) (fun v=>a.length<=v.length/\v.length<=a.length+3600):=by
 unfold cB1;refine Ob (iS1 (by first|omega|(simp only[kC2]at *;omega)) c) fun g b=>?_;exact .mk (by omega)
theorem nM {c1 c2:Bool} {x:aA YV} {R:aB (aA YV)} (c:Ok R fun _=>True):Ok (((if decide ((x.length:Int)>0)=true then((if c1=true then some true else((if c2=true then(cE x 0).bind fun a=>(cX x a).bind fun v=>some (decide (v.Rule<10))else some false:aB Bool)).bind fun y=>some y:aB Bool)).bind fun z=>some z else some false:aB Bool)).bind fun b=>if b=true then some x else R) fun _=>True:=by
 have k:∀D:aB Bool,(∃b,D=some b)->Ok (D.bind fun b=>if b=true then some x else R) fun _=>True:=fun D h=>by
  obtain⟨b,rfl⟩:=h;cases b with
  |true=>exact aX
  |false=>exact c
 refine k _ ?_;cases x with
 |nil=>exact⟨_,rfl⟩
 |cons v r=>
  have e:cE (v::r) 0=some 0:=by
   unfold cE qI;rw[jX2 ⟨by decide,by simp⟩];rfl
  rw[jX2 (by simp),e];cases c1<;>cases c2<;>exact⟨_,rfl⟩
theorem T17 {b:Y0} (a:b.sm) (c:0<b.Measures.length):Ok (F17 b) (fun _=>True):=by
 unfold F17;refine nM (Ob (pN1 (by simp only[nl]at *;omega) a) fun _ _=>?_);refine nM (Ob (pO1 (by simp only[nl]at *;omega) a) fun _ _=>?_);refine nM (Ob (pP1 (by simp only[nl]at *;omega) a) fun _ _=>?_);refine nM (Ob (pQ1 (by simp only[nl]at *;omega) a) fun _ _=>?_);refine nM (Ob (pR1 (by simp only[nl]at *;omega) a) fun _ _=>?_);refine nM (Ob (qG1 (by simp only[nl]at *;omega) a) fun _ _=>?_);refine nM (Ob (qH1 (by simp only[nl]at *;omega) a) fun _ _=>?_);refine nM (Ob (qI1 (by simp only[nl]at *;omega) a) fun _ _=>?_);refine nM (Ob (qJ1 (by simp only[nl]at *;omega) a) fun _ _=>?_);refine nM (Ob (qO1 (by simp only[nl]at *;omega) a) fun _ _=>?_);refine nM (Ob (qP1 (by simp only[nl]at *;omega) a) fun _ _=>?_);refine nM (Ob (qW1 (by simp only[nl]at *;omega) a) fun _ _=>?_);refine nM (Ob (qZ1 (by simp only[nl]at *;omega) a) fun _ _=>?_);refine nM (Ob (rA1 (by simp only[nl]at *;omega) a c) fun _ _=>?_);refine nM (Ob (rB1 (by simp only[nl]at *;omega) a) fun _ _=>?_);refine nM (Ob (rC1 (by simp only[nl]at *;omega) a) fun _ _=>?_);refine nM (Ob (rD1 (by simp only[nl]at *;omega) a) fun _ _=>?_);exact aX
theorem T7 {c:Y0} (a:c.sm):Ok (F7 c) (fun _=>True):=by
 unfold F7;refine Ob (P:=fun _=>True) ?_ fun v _=>aX;by_cases h0:0<c.Measures.length;exact(T17 a h0).mono fun _ _=>trivial;unfold F17;refine Ob (P:=fun r=>r=false) (Oi (fun h=>by simp at h) (fun _=>.mk rfl)) fun b hb=>?_;subst hb;refine Oi (fun h=>by cases h) (fun _=>?_);refine Ob (zM1 a (by omega) (by decide)) fun v hv=>?_;refine Ob (P:=fun r=>r=true) (Oi (fun h=>Ob (P:=fun r=>r=true) (Oi (fun _=>.mk rfl) (fun h=>absurd rfl h)) fun b hb=>.mk hb) (fun h=>by simp at h;simp[h]at hv)) fun b hb=>?_;subst hb;exact Oi (fun _=>aX) (fun h=>absurd rfl h)
end Go.P
set_option maxHeartbeats 1000000
namespace Go.P
theorem cP1 {α β:Type} {x:aB α} {a:α} {K:α->aB β} {r:aB β} (h:x=some a) (hk:K a=r):x.bind K=r:=by subst h;exact hk
theorem Ok.eq {α:Type} {x:aB α} {a:α} (h:Ok x (fun v=>v=a)):x=some a:=by
 obtain⟨v,h1,rfl⟩:=h;exact h1
section
variable {K V:Type} [DecidableEq K]
end
end Go.P
namespace Go.P
variable {s:Y0}
def cY (s:Y0):Prop:=∀m∈s.Measures,∃n,Dh m=some (n,0)
theorem cH2 {x:Int} {m:YM} {c:YK} (f:m.sm) (hc:c.s'.sm):Ok (F70 x m c) (fun b=>b=false->∃n,Dh m=some (n,0)):=by
 unfold F70;refine Ok.bindE (T47 f) fun⟨n,e⟩ hv _=>?_;dsimp only;refine Ob (P:=fun b=>e≠0->b=true) (Oi (fun _=>.mk fun _=>rfl) (fun h=>Ob Gx fun _ _=>.mk (fun h2=>absurd (by simpa using h2) h))) fun d h0=>?_;have g:=hc.Parts;refine Ob (P:=fun r=>d=true->r=true) (bF (l:=c.s'.Parts) (fun q=>q.2) (fun _ q=>d=true->q.1=true) (by omega) rfl (fun h=>h) (fun i y q j f hi hl a hg hw=>?_) (fun q hi a=>?_)) fun r hr=>.mk (fun hf=>⟨n,?_⟩);obtain⟨b,k⟩:=q;dsimp only at hi hl a hg hw;simp only[hl,hg,nt];refine Ob (P:=fun r=>d=true->r=true) (Oi (fun hd=>Ob T71 fun⟨u,v⟩ _=>.mk (fun h=>?_)) (fun _=>.mk a)) fun r hr=>.mk ⟨hw,hr⟩;rw[a h]at hd;simp at hd;obtain⟨b,k⟩:=q;dsimp only at hi a;simp only[hi,nf];exact .mk a
 have:e=0:=by
  by_cases he:e=0;exact he;have:=hr (h0 he);rw[hf]at this;cases this
 rw[hv,this]
theorem cI2 {l:aA YV} {r:Int} (h:l.length+12<=1000000) (hs:s.sm):Ok (sN l s r) (fun v=>v.length<=l.length->cY s):=by
 unfold sN;have p:=hs.Measures;refine Ob (P:=fun v=>v.length<=l.length->cY s) (bF (l:=s.Measures) (fun q=>q.1) (fun i q=>q.2.length<=l.length+i/\l.length<=q.2.length/\(q.2.length<=l.length->∀j,j<i->∀m,s.Measures[j]? =some m->∃n,Dh m=some (n,0))) (by omega) rfl ⟨by dsimp only;omega,jR2 _,fun _ j d=>by omega⟩ (fun i e q o k hi hl c hg hw=>?_) (fun q hi c=>?_)) fun v hv=>.mk hv;obtain⟨x,v⟩:=q;dsimp only at hi hl c hg hw;simp only[hl,hg,nt];refine Ob (cH2 (hs.MeasuresE e k) hs) fun b hb=>?_;refine Ob (cI1 (by omega)) fun u f=>.mk ⟨hw,?_,?_,fun h j d m a=>?_⟩;dsimp only;cases b<;>simp at f<;>omega;dsimp only;cases b<;>simp at f<;>omega;dsimp only at h;cases b with
 |true=>simp at f;omega
 |false=>
  simp only[kB2,false_implies,forall_const,true_and]at f;by_cases g:j=i;subst g;rw[o]at a;cases a;exact hb rfl;exact c.2.2 (by omega) j (by omega) m a
 obtain⟨x,v⟩:=q;dsimp only at hi c;simp only[hi,nf];refine .mk (fun h m k=>?_);obtain⟨j,d⟩:=kJ2.1 k;exact c.2.2 h j (jP2.1 d).1 m d
theorem Gn {x v:aA YV} {D:aB Bool} {R:aB (aA YV)} (h:((if decide ((x.length:Int)>0)then D else some false).bind fun b=>if b then some x else R)=some v) (h0:v.length=0):R=some v:=by
 by_cases a:((x.length:Int)>0);rw[jX2 (by simpa using a)]at h;cases D with
 |none=>cases h
 |some b=>
  cases b with
  |true=>simp at h;subst h;omega
  |false=>exact h
 rw[jU2 (by simpa using a)]at h;exact h
theorem gN {A B:Type} {x:aB A} {k:A->aB B} {v:B} (h:x.bind k=some v):∃a,x=some a/\k a=some v:=jN2.1 h
theorem E38 (hs:s.sm) (t:0<s.Measures.length) {v:aA YV} (h:F17 s=some v) (h0:v.length=0):cY s:=by
 unfold F17 at h;have h:=Gn h h0;obtain⟨V,k,h⟩:=gN h;have M:=(pN1 (by decide) hs).of k;have h:=Gn h h0;obtain⟨W,e2,h⟩:=gN h;have N:=(pO1 (by simp only[nl]at *;omega) hs).of e2;have h:=Gn h h0;obtain⟨X,l,h⟩:=gN h;have O:=(pP1 (by simp only[nl]at *;omega) hs).of l;have h:=Gn h h0;obtain⟨Y,m,h⟩:=gN h;have P:=(pQ1 (by simp only[nl]at *;omega) hs).of m;have h:=Gn h h0;obtain⟨Z,a,h⟩:=gN h;have R:=(pR1 (by simp only[nl]at *;omega) hs).of a;have h:=Gn h h0;obtain⟨x6,n,h⟩:=gN h;have S:=(qG1 (by simp only[nl]at *;omega) hs).of n;have h:=Gn h h0;obtain⟨x7,o,h⟩:=gN h;have T:=(qH1 (by simp only[nl]at *;omega) hs).of o;have h:=Gn h h0;obtain⟨x8,p,h⟩:=gN h;have i8:=(qI1 (by simp only[nl]at *;omega) hs).of p;have h:=Gn h h0;obtain⟨x9,q,h⟩:=gN h;have U:=(qJ1 (by simp only[nl]at *;omega) hs).of q;have h:=Gn h h0;obtain⟨D,b,h⟩:=gN h;have u:=(qO1 (by simp only[nl]at *;omega) hs).of b;have h:=Gn h h0;obtain⟨E,c,h⟩:=gN h;have w:=(qP1 (by simp only[nl]at *;omega) hs).of c;have h:=Gn h h0;obtain⟨F,d,h⟩:=gN h;have x:=(qW1 (by simp only[nl]at *;omega) hs).of d;have h:=Gn h h0;obtain⟨G,e,h⟩:=gN h;have z:=(qZ1 (by simp only[nl]at *;omega) hs).of e;have h:=Gn h h0;obtain⟨H,f,h⟩:=gN h;have A:=(rA1 (by simp only[nl]at *;omega) hs t).of f;have h:=Gn h h0;obtain⟨J,g,h⟩:=gN h;have B:=(rB1 (by simp only[nl]at *;omega) hs).of g;have h:=Gn h h0;obtain⟨K,i,h⟩:=gN h;have i16:=(rC1 (by simp only[nl]at *;omega) hs).of i;have h:=Gn h h0;obtain⟨L,j,h⟩:=gN h;have C:=(rD1 (by simp only[nl]at *;omega) hs).of j;cases h;unfold Tt at a;obtain⟨y,a,r⟩:=gN a;cases r;exact(cI2 (by simp only[nl]at *;omega) hs).of a (by omega)
theorem rE1 (hs:s.sm) (hv:F7 s=some true):cY s:=by
 by_cases a:0<s.Measures.length;unfold F7 at hv;obtain⟨v,h,hv⟩:=gN hv;exact E38 hs a h (by simp at hv;simp[hv]);intro m b;have:=List.length_pos_of_mem b;omega
theorem U65:∀u:Fin 65,0<u.val->0<(1935360:Int).tdiv u.val/\(1935360:Int).tdiv u.val<=1935360:=by decide+kernel
theorem E94 {m:YM} {n:Int} (h:Dh m=some (n,0)):0<n/\n<=15482880:=by
 unfold Dh at h;obtain⟨⟨a,e⟩,h1,h⟩:=gN h;dsimp only at h;split at h;rename_i he;cases h;simp at he;rename_i he;have he:e=0:=by simpa using he
 subst he;split at h;cases h;rename_i o;obtain⟨x,b,h⟩:=gN h;obtain⟨y,_,h⟩:=gN h;split at h;cases h;split at h;cases h;rename_i p;cases h;simp only[jY2]at o b p;refine⟨?_,by omega⟩;split at b;cases b;assumption;cases b;unfold Oo Oj Om Ol at h1;obtain⟨c,hc,h1⟩:=gN h1
 have f:c=0:=by
  by_cases d:c=0;exact d;rw[jX2 (by simpa using d)]at h1;cases h1;exact absurd rfl d
 subst f;rw[jU2 (by simp)]at h1;split at hc;cases hc;rename_i l;split at hc;cases hc;rename_i g2;simp only[kE2,jY2,mJ2,bne_iff_ne,ne_eq,Decidable.not_not]at l g2;obtain⟨z,j,h1⟩:=gN h1;cases h1;obtain⟨q,g,j⟩:=gN j;cases j;generalize m.Metre.Unit=u at *;generalize m.Metre.Count=k at *;have i:=U65 ⟨u.toNat,by omega⟩ (by dsimp only;omega);dsimp only at i;rw[Int.toNat_of_nonneg (by omega)]at i;unfold yH at g;rw[jU2 (by omega),show IntKind.wrap .i64 ((1935360:Int).tdiv u)=aU ((1935360:Int).tdiv u)from rfl,bC (by omega) (by omega)]at g;cases g;generalize(1935360:Int).tdiv u=z at *;have r:k*z<=64*1935360:=mB2 (by omega) i.2 (by omega) (by decide);have s:1*1<=k*z:=mB2 (by omega) (by omega) (by decide) (by omega);rw[bC (by omega) (by omega)];omega
end Go.P
namespace Go.P
theorem rF1 {α:Type} {x:aB α} {a:α} (h:Ok x (fun v=>v=a)):x=some a:=by
 obtain⟨v,rfl,rfl⟩:=h;rfl
theorem okb {α β:Type} {x:aB α} {v:α} {k:α->aB β} {Q:β->Prop} (h:x=some v) (hk:Ok (k v) Q):Ok (x.bind k) Q:=by
 subst h;exact hk
def pL:aA Int->aA Int->Int
 |a::aqs,b::bs=>if a<b then -1 else if a>b then 1 else pL aqs bs
 |_,_=>0
theorem cQ1 {a b:Int} {aqs c:aA Int}:pL (a::aqs) (b::c)<=0↔a<b\/a=b/\pL aqs c<=0:=by
 rw[pL];split;omega;split<;>omega
theorem Gp:∀a b:aA Int,pL b a= -pL a b
 |[],[]=>rfl
 |[],_::_=>rfl
 |_::_,[]=>rfl
 |a::aqs,b::bs=>by
  have:=Gp aqs bs
  simp only[pL]
  repeat' split
  all_goals omega
theorem xO:∀a b c:aA Int,a.length=b.length->b.length=c.length->pL a b<=0->pL b c<=0->pL a c<=0
 |[],[],[],_,_,_,_=>lM2 _
 |a::aqs,b::bs,c::cs,h1,h2,e,d=>by
  rw[cQ1]at e d ⊢
  have:=xO aqs bs cs (by simpa using h1) (by simpa using h2)
  rcases e with e|⟨e,h5⟩
  rcases d with d|⟨d,h6⟩<;>exact .inl (by omega)
  rcases d with d|⟨d,h6⟩
  exact .inl (by omega)
  exact .inr ⟨by omega,this h5 h6⟩
def KN (x:aG):aA Int:=[x.On,x.Number,x.Part,x.Staff,x.Voice,x.Off,x.Event.Site,x.Event.Number,x.Head]
def cN (x y:aG):Int:=pL (KN x) (KN y)
def Cy (x y:aG):Prop:=cN x y<=0
theorem Cz (x:aG):(KN x).length=9:=rfl
theorem Da (x y:aG):cN y x= -cN x y:=Gp _ _
theorem fZ {x y z:aG} (h1:Cy x y) (h2:Cy y z):Cy x z:=xO _ _ _ (by rw[Cz,Cz]) (by rw[Cz,Cz]) h1 h2
theorem Db {x y:aG} (h:cN x y<0):Cy x y:=by unfold Cy;omega
theorem Dc {x y:aG} (h:¬cN y x<0):Cy x y:=by have:=Da x y;unfold Cy;omega
def Sd (r l:aA aG):Prop:=r.Perm l/\r.Pairwise Cy
def d0:aG:=⟨0,0,0,0,0,0,⟨0,0⟩,0⟩
def gn (l:aA aG) (p:Nat):aG:=l.getD p d0
theorem xP {l:aA aG} {p:Nat} (h:p<l.length):gn l p=l[p]:=by simp[gn,h]
theorem gI {l:aA aG} {p:Nat} (h:p<l.length):cX l p=some (gn l p):=by
 rw[xP h];exact lF2 h
theorem eQ {A:Type} {l:aA A} {i:Int} {p:Nat} (hi:i=(p:Int)) (h:p<l.length):cE l i=some p:=by
 subst hi;unfold cE qI;rw[jX2 ⟨by omega,by omega⟩,Int.toNat_natCast]
def swp (l:aA aG) (p q:Nat):aA aG:=(l.set p (gn l q)).set q (gn l p)
theorem uT (l:aA aG) (p q:Nat):(swp l p q).length=l.length:=by simp[swp]
theorem Vc {l:aA aG} {p q:Nat} {v:aG} (h:p<l.length):gn (l.set p v) q=if q=p then v else gn l q:=by
 unfold gn;rw[List.getD_eq_getElem?_getD,List.getD_eq_getElem?_getD,kN2];by_cases a:p=q;subst a;simp[h];rw[jU2 a,jU2 (fun h=>a h.symm)]
theorem pM {l:aA aG} {p q k:Nat} (hp:p<l.length) (a:q<l.length):gn (swp l p q) k=if k=q then gn l p else if k=p then gn l q else gn l k:=by
 unfold swp;rw[Vc (by simpa using a),Vc hp]
theorem rJ {l:aA aG} {p q:Nat} (hp:p<l.length) (a:q<l.length):(swp l p q).Perm l:=by
 unfold swp;rw[xP hp,xP a];exact List.set_set_perm hp a
theorem oE {l:aA aG} {p:Nat} {v:aG} (h:p<l.length):kT l p (fun _=>v)=some (l.set p v):=by
 unfold kT;rw[lF2 h];rfl
theorem iT1 {l:aA aG} {f g:Int} {p q:Nat} (h:f=(q:Int)) (e2:g=(p:Int)) (hp:p<l.length) (e:q<l.length) {B:Type} {k:aA aG->aB B} {Q:B->Prop} (hk:Ok (k (swp l p q)) Q):
  Ok ((cE l f).bind fun a=>(cX l a).bind fun x=>(cE l g).bind fun b=>(cX l b).bind fun y=>(cE l g).bind fun c=>(kT l c (fun _=>x)).bind fun i=>(cE i f).bind fun d=>(kT i d (fun _=>y)).bind k) Q:=by
 refine okb (eQ h e) (okb (gI e) (okb (eQ e2 hp) (okb (gI hp) (okb (eQ e2 hp) (okb (oE hp) ?_)))));exact okb (eQ h (by simpa using e)) (okb (oE (by simpa using e)) hk)
theorem cR1 {x:Int} (h0:0<=x) (h1:x<9223372036854775808):rB .u64 (IntKind.wrap .u64 (aU x)) 1=some (x/2):=by
 rw[bC (by omega) h1]
 have e:IntKind.wrap .u64 x=x:=by
  unfold IntKind.wrap;rw[show((2:Int)^IntKind.bits .u64)=18446744073709551616 from rfl];simp[IntKind.signed];omega
 rw[e];unfold rB;rw[jU2 (by decide),show min (Int.toNat 1) (IntKind.bits .u64)=1 from rfl];simp only[Int.pow_succ,Int.pow_zero,Int.one_mul];rw[Int.fdiv_eq_ediv_of_nonneg _ (by decide)]
def Sg (r l:aA aG) (a b:Nat):Prop:=r.Perm l/\r.length=l.length/\(∀p,p<a\/b<=p->gn r p=gn l p)/\∀p,a<=p->p<b->∃q,a<=q/\q<b/\gn r p=gn l q
theorem Sg.refl (l:aA aG) (a b:Nat):Sg l l a b:=⟨.refl _,rfl,fun _ _=>rfl,fun p h1 h2=>⟨p,h1,h2,rfl⟩⟩
theorem Sg.trans {r l m:aA aG} {a b:Nat} (h1:Sg r l a b) (h2:Sg l m a b):Sg r m a b:=
 ⟨h1.1.trans h2.1,h1.2.1.trans h2.2.1,fun p hp=>(h1.2.2.1 p hp).trans (h2.2.2.1 p hp),fun p c d=>by
  obtain⟨q,q1,q2,q3⟩:=h1.2.2.2 p c d
  obtain⟨s,e,f,g⟩:=h2.2.2.2 q q1 q2
  exact⟨s,e,f,q3.trans g⟩⟩
theorem Sg.mono {r l:aA aG} {a b a' b':Nat} (h:Sg r l a b) (e:a'<=a) (hb:b<=b'):Sg r l a' b':=
 ⟨h.1,h.2.1,fun p hp=>h.2.2.1 p (by omega),fun p c d=>by
  by_cases hc:a<=p/\p<b
  obtain⟨q,q1,q2,q3⟩:=h.2.2.2 p hc.1 hc.2
  exact⟨q,by omega,by omega,q3⟩
  exact⟨p,c,d,h.2.2.1 p (by omega)⟩⟩
theorem Sg.swp {l:aA aG} {a b p q:Nat} (hb:b<=l.length) (h1:a<=p) (h2:p<b) (d:a<=q) (e:q<b):Sg (swp l p q) l a b:=by
 refine⟨rJ (by omega) (by omega),uT _ _ _,fun k hk=>?_,fun k f g=>?_⟩;rw[pM (by omega) (by omega),jU2 (by omega),jU2 (by omega)];rw[pM (by omega) (by omega)];by_cases c:k=q;exact⟨p,h1,h2,by rw[jX2 c]⟩;by_cases e2:k=p;exact⟨q,d,e,by rw[jU2 c,jX2 e2]⟩;exact⟨k,f,g,by rw[jU2 c,jU2 e2]⟩
def SS (l:aA aG) (a b:Nat):Prop:=∀p q,a<=p->p<=q->q<b->Cy (gn l p) (gn l q)
theorem xQ (x:aG):Cy x x:=by have:=Da x x;unfold Cy;omega
theorem SS.sub {l:aA aG} {a b a' b':Nat} (h:SS l a b) (d:a<=a') (hb:b'<=b):SS l a' b':=fun p q h1 h2 c=>h p q (by omega) h2 (by omega)
theorem SS.off {r l:aA aG} {a b x y:Nat} (h:SS l x y) (hs:Sg r l a b) (hd:y<=a\/b<=x):SS r x y:=fun p q h1 h2 c=>by
 rw[hs.2.2.1 p (by omega),hs.2.2.1 q (by omega)];exact h p q h1 h2 c
end Go.P
namespace Go.P
def Lz (a b:Int):Int:=if a<b then -1 else if b<a then 1 else 0
theorem cS1 (a b:Int):oH a b=some (Lz a b):=by
 unfold oH Oy Lz;simp only[bne_self_eq_false,jW2,kB2,kU2,jY2];split;rfl;split<;>rfl
def xT:aA Int->Int
 |[]=>0
 |a::r=>if a=0 then xT r else a
theorem Vd:∀a b:aA Int,xT (List.zipWith Lz a b)=pL a b
 |[],_=>by simp[xT,pL]
 |_::_,[]=>by simp[xT,pL]
 |a::aqs,b::bs=>by
  rw[List.zipWith_cons_cons,xT,pL,Vd aqs bs]
  unfold Lz
  repeat' split
  all_goals omega
theorem cT1 {l:aA Int} (hl:l.length<1000):Ji l=some (xT l):=by
 refine rF1 ?_;unfold Ji;refine Ob (P:=fun r=>match r with|.inl v=>v=xT l|.inr _=>0=xT l) (bF (l:=l) (fun q=>q) (fun i _=>xT (l.drop i)=xT l) (by omega) rfl rfl (fun i e q d f hi b a hg hw=>?_) (fun q hi a=>?_)) fun r hr=>?_;rw[hi]at hg b hw ⊢;obtain⟨c,rfl⟩:=jP2.1 d;rw[jX2 (by simpa using b),hg];simp only[jW2];rw[List.drop_eq_getElem_cons c,xT]at a;by_cases h0:l[i]=0;rw[jX2 h0]at a;rw[jU2 (by simpa using h0),hw];exact .mk ⟨rfl,a⟩;rw[jU2 h0]at a;rw[jX2 (by simpa using h0)];exact .mk a;rw[hi,jU2 (by simp)];rw[List.drop_length]at a;exact .mk a;rcases r with v|_;exact .mk hr;exact .mk hr
theorem Dd (x y:aG):F52 x y=some (cN x y):=by
 unfold F52;simp only[cS1,jW2];rw[cT1 (by simp)];rw[show[Lz x.On y.On,Lz x.Number y.Number,Lz x.Part y.Part,Lz x.Staff y.Staff,Lz x.Voice y.Voice,Lz x.Off y.Off,Lz x.Event.Site y.Event.Site,Lz x.Event.Number y.Event.Number,Lz x.Head y.Head]=List.zipWith Lz (KN x) (KN y)from rfl,Vd];rfl
theorem xR {a b n:Nat} {l:aA aG} (h1:a+n<=b) (h2:b+n<=l.length) (hl:l.length<4611686018427387904):
  Ok (Ad ((a:Nat):Int) ((b:Nat):Int) ((n:Nat):Int) l) (fun r=>r.Perm l/\r.length=l.length/\∀p,gn r p=if a<=p/\p<a+n then gn l (p+(b-a))else if b<=p/\p<b+n then gn l (p-(b-a))else gn l p):=by
 unfold Ad;refine Ob (P:=fun r=>r.Perm l/\r.length=l.length/\∀p,gn r p=if a<=p/\p<a+n then gn l (p+(b-a))else if b<=p/\p<b+n then gn l (p-(b-a))else gn l p) (cW (fun(q:Int×aA aG)=>∃i:Nat,q.1=(i:Int)/\i<=n/\q.2.Perm l/\q.2.length=l.length/\∀p,gn q.2 p=if a<=p/\p<a+i then gn l (p+(b-a))else if b<=p/\p<b+i then gn l (p-(b-a))else gn l p) (fun(q:Int×aA aG)=>n-q.1.toNat) (fun q s=>?_) aY (0,l) ⟨0,rfl,by omega,.refl _,rfl,fun p=>by rw[jU2 (by omega),jU2 (by omega)]⟩ (by simp only[aY];omega)) fun r hr=>.mk hr;obtain⟨k,c⟩:=q;obtain⟨i,m,g2,e,f,d⟩:=s;dsimp only at m e f d ⊢;subst m;by_cases hc:(i:Int)<(n:Int);rw[jX2 (by simpa using hc)];have o:i<n:=by omega
 refine iT1 (p:=a+i) (q:=b+i) (by rw[bC (by omega) (by omega)];omega) (by rw[bC (by omega) (by omega)];omega) (by omega) (by omega) ?_;rw[bC (n:=(i:Int)+1) (by omega) (by omega)];refine .mk ⟨⟨i+1,by simp,by omega,(rJ (by omega) (by omega)).trans e,by rw[uT];exact f,fun p=>?_⟩,by dsimp only;omega⟩;dsimp only;rw[pM (by omega) (by omega)];by_cases g:p=b+i;rw[jX2 g,d,jU2 (by omega),jU2 (by omega),jU2 (by omega),jX2 (by omega)];exact congrArg (gn l) (by omega);rw[jU2 g];by_cases e2:p=a+i;rw[jX2 e2,d,jU2 (by omega),jU2 (by omega),jX2 (by omega)];exact congrArg (gn l) (by omega);rw[jU2 e2,d];by_cases h:a<=p/\p<a+i;rw[jX2 h,jX2 (by omega)];rw[jU2 h,jU2 (c:=a<=p/\p<a+(i+1)) (by omega)];by_cases j:b<=p/\p<b+i;rw[jX2 j,jX2 (by omega)];rw[jU2 j,jU2 (by omega)];rw[jU2 (by simpa using hc)];have:i=n:=by omega
 subst this;exact .mk ⟨e,f,d⟩
def iS (f:Nat->aG) (x y z p:Nat):aG:=if x<=p/\p<x+(z-y)then f (p+(y-x))else if x+(z-y)<=p/\p<z then f (p-(z-y))else f p
theorem Ve {a m b:Nat} {l:aA aG} (h1:a<m) (h2:m<b) (B:b<=l.length) (hl:l.length<4611686018427387904):
  Ok (Lv ((a:Nat):Int) ((m:Nat):Int) ((b:Nat):Int) l) (fun r=>r.Perm l/\r.length=l.length/\∀p,gn r p=iS (gn l) a m b p):=by
 unfold Lv
 refine Ob (P:=fun r=>∃i:Nat,r.1=(i:Int)/\0<i/\a+i<=m/\m+i<=b/\r.2.Perm l/\r.2.length=l.length/\∀p,iS (gn r.2) (m-i) m (m+i) p=iS (gn l) a m b p) (cW (fun(q:Int×Int×aA aG)=>∃i j:Nat,q.1=(i:Int)/\q.2.1=(j:Int)/\0<i/\0<j/\a+i<=m/\m+j<=b/\q.2.2.Perm l/\q.2.2.length=l.length/\∀p,iS (gn q.2.2) (m-i) m (m+j) p=iS (gn l) a m b p) (fun(q:Int×Int×aA aG)=>q.1.toNat+q.2.1.toNat) (fun q z=>?_) aY (aU ((m:Int)-a),aU ((b:Int)-m),l) ⟨m-a,b-m,by show aU _=_;rw[bC (by omega) (by omega)];omega,by show aU _=_;rw[bC (by omega) (by omega)];omega,by omega,by omega,by omega,by omega,.refl _,rfl,fun p=>by
   rw[show m-(m-a)=a by omega,show m+(b-m)=b by omega]⟩ (by show(aU ((m:Int)-a)).toNat+(aU ((b:Int)-m)).toNat<aY;rw[bC (by omega) (by omega),bC (by omega) (by omega)];simp only[aY];omega)) fun r hr=>?_
 obtain⟨A,C,c⟩:=q;obtain⟨i,j,h,g2,w,y,k,o,g,s,t⟩:=z;dsimp only at h g2 g s t ⊢;subst h g2;by_cases x:i=j;rw[jU2 (by simp;omega)];subst x;exact .mk ⟨i,rfl,w,k,o,g,s,t⟩;rw[jX2 (by simp;omega)];by_cases f:(i:Int)>(j:Int);rw[jX2 (by simpa using f)];have f:j<i:=by omega
 rw[bC (n:=(m:Int)-i) (by omega) (by omega),bC (n:=(i:Int)-j) (by omega) (by omega),show(m:Int)-i=((m-i:Nat):Int)by omega,show(i:Int)-j=((i-j:Nat):Int)by omega];obtain⟨d,u,e2,v,e⟩:=xR (a:=m-i) (b:=m) (n:=j) (l:=c) (by omega) (by omega) (by omega);rw[u];simp only[jW2];refine .mk ⟨⟨i-j,j,rfl,rfl,by omega,y,by omega,o,e2.trans g,v.trans s,fun p=>?_⟩,by dsimp only;omega⟩;rw[<-t p];dsimp only;unfold iS;rw[show m+j-m=j by omega,show m-(m-(i-j))=i-j by omega,show m-(m-i)=i by omega];by_cases c1:m-i<=p/\p<m-i+j;rw[jU2 (by omega),jU2 (by omega),jX2 (by omega),e,jX2 (by omega)];exact congrArg (gn c) (by omega);by_cases c2:m-i+j<=p/\p<m+j;rw[jU2 (c:=m-i<=p/\p<m-i+j) c1,jX2 (c:=m-i+j<=p/\p<m+j) c2];by_cases c3:p<m-(i-j)+j;rw[jX2 (by omega),e,jU2 (by omega),jX2 (by omega)];exact congrArg (gn c) (by omega);rw[jU2 (by omega),jX2 (by omega),e,jU2 (by omega),jU2 (by omega)];rw[jU2 (by omega),jU2 (by omega),jU2 (by omega),jU2 (by omega),e,jU2 (by omega),jU2 (by omega)];rw[jU2 (by simpa using f)];have f:i<j:=by omega
 rw[bC (n:=(m:Int)-i) (by omega) (by omega),bC (n:=(m:Int)+j) (by omega) (by omega),bC (n:=(m:Int)+j-i) (by omega) (by omega),bC (n:=(j:Int)-i) (by omega) (by omega),show(m:Int)-i=((m-i:Nat):Int)by omega,show(m:Int)+j-i=((m+j-i:Nat):Int)by omega,show(j:Int)-i=((j-i:Nat):Int)by omega];obtain⟨d,u,e2,v,e⟩:=xR (a:=m-i) (b:=m+j-i) (n:=i) (l:=c) (by omega) (by omega) (by omega);rw[u];simp only[jW2];refine .mk ⟨⟨i,j-i,rfl,rfl,w,by omega,k,by omega,e2.trans g,v.trans s,fun p=>?_⟩,by dsimp only;omega⟩;rw[<-t p];dsimp only;unfold iS;rw[show m+(j-i)-m=j-i by omega,show m-(m-i)=i by omega,show m+j-m=j by omega];by_cases c1:m+j-i<=p/\p<m+j;rw[jU2 (by omega),jU2 (by omega),jU2 (by omega),jX2 (by omega),e,jU2 (by omega),jX2 (by omega)];exact congrArg (gn c) (by omega);by_cases c2:m-i<=p/\p<m+j-i;by_cases c3:p<m-i+(j-i);rw[jX2 (by omega),jX2 (by omega),e,jU2 (by omega),jU2 (by omega)];rw[jU2 (by omega),jX2 (by omega),jX2 (by omega),e,jX2 (by omega)];exact congrArg (gn c) (by omega);rw[jU2 (by omega),jU2 (by omega),jU2 (by omega),jU2 (by omega),e,jU2 (by omega),jU2 (by omega)];obtain⟨A,c⟩:=r;obtain⟨i,h,g2,w,y,k,o,g⟩:=hr;dsimp only at h k o g ⊢;subst h;rw[bC (n:=(m:Int)-i) (by omega) (by omega),show(m:Int)-i=((m-i:Nat):Int)by omega];refine(Ob (xR (a:=m-i) (b:=m) (n:=i) (l:=c) (by omega) (by omega) (by omega)) fun d hd=>.mk ⟨hd.1.trans k,hd.2.1.trans o,fun p=>?_⟩);rw[<-g p,hd.2.2 p];unfold iS;rw[show m-(m-i)=i by omega,show m+i-m=i by omega];by_cases c1:m-i<=p/\p<m-i+i;rw[jX2 c1,jX2 c1];rw[jU2 c1,jU2 c1];by_cases c2:m<=p/\p<m+i;rw[jX2 c2,jX2 (by omega)];rw[jU2 c2,jU2 (by omega)]
end Go.P
namespace Go.P
theorem Vf {body:Int×Int->aB ((Int×Int)⊕Int)} {lo hi:Nat} (T:Nat->Prop) (m:∀c a,lo<=c->c<=a->a<hi->T a->T c) (hl:lo<=hi) (o:hi<4611686018427387904)
  (h1:∀i j h:Nat,lo<=i->i<j->j<=hi->i<=h->h<j->((i:Int)+j)/2=(h:Int)->(T h/\body ((i:Int),(j:Int))=some (.inl (((h+1:Nat):Int),(j:Int))))\/(¬T h/\body ((i:Int),(j:Int))=some (.inl ((i:Int),(h:Int)))))
  (h2:∀i j:Int,¬i<j->body (i,j)=some (.inr i)):
  Ok (aR body aY ((lo:Int),(hi:Int))) (fun r=>∃k:Nat,r=(k:Int)/\lo<=k/\k<=hi/\(∀c,lo<=c->c<k->T c)/\∀c,k<=c->c<hi->¬T c):=by
 refine cW (fun(q:Int×Int)=>∃i j:Nat,q=((i:Int),(j:Int))/\lo<=i/\i<=j/\j<=hi/\(∀c,lo<=c->c<i->T c)/\∀c,j<=c->c<hi->¬T c) (fun(q:Int×Int)=>(q.2-q.1).toNat) (fun q n=>?_) aY _ ⟨lo,hi,rfl,jR2 _,hl,jR2 _,fun c _ _=>by omega,fun c _ _=>by omega⟩ (by simp only[aY];omega);obtain⟨i,j,rfl,b,g2,d,g,l⟩:=n;by_cases hc:i<j;rcases h1 i j ((i+j)/2) b hc d (by omega) (by omega) (by omega)with⟨f,e⟩|⟨f,e⟩
 rw[e];exact .mk ⟨⟨(i+j)/2+1,j,rfl,by omega,by omega,d,fun c c1 c2=>m c ((i+j)/2) c1 (by omega) (by omega) f,l⟩,by dsimp only;omega⟩;rw[e];refine .mk ⟨⟨i,(i+j)/2,rfl,b,by omega,by omega,g,fun c c1 c2 c3=>?_⟩,by dsimp only;omega⟩;exact f (m _ c (by omega) c1 c2 c3);rw[h2 _ _ (by omega)];have:i=j:=by omega
 subst this;exact .mk ⟨i,rfl,b,d,g,l⟩
theorem tZ {f:Nat->aG} {x y z p:Nat} (h:p<x):iS f x y z p=f p:=by
 unfold iS;rw[jU2 (by omega),jU2 (by omega)]
theorem xS {f:Nat->aG} {x y z p:Nat} (h1:x<=p) (h2:p<x+(z-y)):iS f x y z p=f (p+(y-x)):=by
 unfold iS;rw[jX2 ⟨h1,h2⟩]
theorem uA {f:Nat->aG} {x y z p:Nat} (h1:x+(z-y)<=p) (h2:p<z):iS f x y z p=f (p-(z-y)):=by
 unfold iS;rw[jU2 (by omega),jX2 ⟨h1,h2⟩]
theorem sS {f:Nat->aG} {x y z p:Nat} (h0:x<=y) (h:z<=p) (h1:y<=z):iS f x y z p=f p:=by
 unfold iS;rw[jU2 (by omega),jU2 (by omega)]
theorem Jm {f:Nat->aG} {x y z p:Nat} (h0:x<=y) (h1:y<=z) (h:x=y\/y=z):iS f x y z p=f p:=by
 by_cases c1:p<x;exact tZ c1;by_cases c2:p<x+(z-y);rw[xS (by omega) c2];exact congrArg f (by omega);by_cases c3:p<z;rw[uA (by omega) c3];exact congrArg f (by omega);exact sS h0 (by omega) h1
section
variable {l r:List aG} {a s m e b:Nat}
theorem Jn (f:a<=s) (hs:s<=m) (he:m<=e) (hb:e<=b) (hp:r.Perm l) (hl:r.length=l.length) (h:∀p,gn r p=iS (gn l) s m e p):Sg r l a b:=by
 refine⟨hp,hl,fun p k=>?_,fun p c d=>?_⟩;rw[h];rcases k with k|k;exact tZ (by omega);exact sS hs (by omega) he;rw[h];by_cases c1:p<s;exact⟨p,c,d,tZ c1⟩;by_cases c2:p<s+(e-m);exact⟨_,by omega,by omega,xS (by omega) c2⟩;by_cases c3:p<e;exact⟨_,by omega,by omega,uA (by omega) c3⟩;exact⟨p,c,d,sS hs (by omega) he⟩
theorem Jo (g:a<=s) (hs:s<=m) (he:m<=e) (hb:e<=b) (h:∀p,gn r p=iS (gn l) s m e p) (d:SS l a m) (f:SS l m b):
  SS r a s/\SS r s (s+(e-m))/\SS r (s+(e-m)) e/\SS r e b:=by
 refine⟨fun p q h1 h2 c=>?_,fun p q h1 h2 c=>?_,fun p q h1 h2 c=>?_,fun p q h1 h2 c=>?_⟩;rw[h,h,tZ (by omega),tZ (by omega)];exact d p q h1 h2 (by omega);rw[h,h,xS (by omega) (by omega),xS (by omega) (by omega)];exact f _ _ (by omega) (by omega) (by omega);rw[h,h,uA (by omega) (by omega),uA (by omega) (by omega)];exact d _ _ (by omega) (by omega) (by omega);rw[h,h,sS hs (by omega) he,sS hs (by omega) he];exact f p q (by omega) h2 c
def Cr (l:aA aG) (a m b:Nat):Prop:=∀p q,a<=p->p<m->m<=q->q<b->Cy (gn l p) (gn l q)
theorem Cr.glue (h:Cr l a m b) (d:SS l a m) (e:SS l m b):SS l a b:=fun p q h1 h2 c=>by
 by_cases c1:q<m
 exact d p q h1 h2 c1
 by_cases c2:p<m
 exact h p q h1 c2 (by omega) c
 exact e p q (by omega) h2 c
theorem Cr.left (h:Cr l a m b) (hs:Sg r l a m):Cr r a m b:=fun p q h1 h2 c d=>by
 obtain⟨u,e,f,g⟩:=hs.2.2.2 p h1 h2
 rw[g,hs.2.2.1 q (by omega)]
 exact h u q e f c d
theorem Cr.right (h:Cr l a m b) (hs:Sg r l m b):Cr r a m b:=fun p q h1 h2 c d=>by
 obtain⟨u,e,f,g⟩:=hs.2.2.2 q c d
 rw[g,hs.2.2.1 p (by omega)]
 exact h p u h1 h2 e f
theorem Jp (j:a<=s) (hs:s<=m) (he:m<=e) (hb:e<=b) (h:∀p,gn r p=iS (gn l) s m e p) (g:SS l a m) (i:SS l m b)
  (h1:∀u v,a<=u->u<s->e<=v->v<b->Cy (gn l u) (gn l v)) (h2:∀w u,m<=w->w<e->s<=u->u<m->Cy (gn l w) (gn l u)):Cr r a (s+(e-m)) b:=by
 intro p q c f k d;rw[h,h];by_cases c1:p<s;rw[tZ c1];by_cases c2:q<e;rw[uA (by omega) c2];exact g _ _ c (by omega) (by omega);rw[sS hs (by omega) he];exact h1 _ _ c c1 (by omega) d;rw[xS (by omega) f];by_cases c2:q<e;rw[uA (by omega) c2];exact h2 _ _ (by omega) (by omega) (by omega) (by omega);rw[sS hs (by omega) he];exact i _ _ (by omega) (by omega) d
end
theorem mB {x y:aG}:¬cN x y<0↔Cy y x:=by have:=Da x y;unfold Cy;omega
theorem rG1 {a z:Nat} {l:aA aG} (h1:a<z) (h2:z<=l.length) (hl:l.length<4611686018427387904) {body:Int×aA aG->aB ((Int×aA aG)⊕aA aG)}
  (hb:∀(k:Nat) (c:aA aG),a<=k->k+1<z->c.length=l.length->body ((k:Int),c)=some (.inl (((k+1:Nat):Int),swp c k (k+1)))) (he:∀c,body (((z-1:Nat):Int),c)=some (.inr c)):
  Ok (aR body aY ((a:Int),l)) (fun r=>r.Perm l/\r.length=l.length/\∀p,gn r p=iS (gn l) a (a+1) z p):=by
 refine cW (fun(q:Int×aA aG)=>∃k:Nat,q.1=(k:Int)/\a<=k/\k<z/\q.2.Perm l/\q.2.length=l.length/\∀p,gn q.2 p=iS (gn l) a (a+1) (k+1) p) (fun(q:Int×aA aG)=>z-q.1.toNat) (fun q g=>?_) aY _ ⟨a,rfl,by omega,h1,.refl _,rfl,fun p=>(Jm (by omega) (by omega) (by omega)).symm⟩ (by simp only[aY];omega);obtain⟨i,c⟩:=q;obtain⟨k,f,g2,h,e,d,b⟩:=g;dsimp only at f e d b;subst f;by_cases hc:k+1<z;rw[hb k c g2 hc d];refine .mk ⟨⟨k+1,rfl,by omega,hc,(rJ (by omega) (by omega)).trans e,by rw[uT];exact d,fun p=>?_⟩,by dsimp only;omega⟩;dsimp only;rw[pM (by omega) (by omega),b,b,b];by_cases c1:p=k+1;rw[jX2 c1,uA (by omega) (by omega),uA (by omega) (by omega)];exact congrArg (gn l) (by omega);rw[jU2 c1];by_cases c2:p=k;rw[jX2 c2,sS (by omega) (by omega) (by omega),xS (by omega) (by omega)];exact congrArg (gn l) (by omega);rw[jU2 c2];by_cases c3:p<a;rw[tZ c3,tZ c3];by_cases c4:p<k;rw[xS (by omega) (by omega),xS (by omega) (by omega)];rw[sS (by omega) (by omega) (by omega),sS (by omega) (by omega) (by omega)];have:k=z-1:=by omega
 rw[this,he];exact .mk ⟨e,d,fun p=>by rw[b,show k+1=z by omega]⟩
theorem rH1 {a z:Nat} {l:aA aG} (h1:a<=z) (h2:z<l.length) (hl:l.length<4611686018427387904) {body:Int×aA aG->aB ((Int×aA aG)⊕aA aG)}
  (hb:∀(k:Nat) (c:aA aG),a<k->k<=z->c.length=l.length->body ((k:Int),c)=some (.inl (((k-1:Nat):Int),swp c k (k-1)))) (he:∀c,body ((a:Int),c)=some (.inr c)):
  Ok (aR body aY ((z:Int),l)) (fun r=>r.Perm l/\r.length=l.length/\∀p,gn r p=iS (gn l) a z (z+1) p):=by
 refine cW (fun(q:Int×aA aG)=>∃k:Nat,q.1=(k:Int)/\a<=k/\k<=z/\q.2.Perm l/\q.2.length=l.length/\∀p,gn q.2 p=iS (gn l) k z (z+1) p) (fun(q:Int×aA aG)=>q.1.toNat) (fun q h=>?_) aY _ ⟨z,rfl,h1,by omega,.refl _,rfl,fun p=>(Jm (by omega) (by omega) (by omega)).symm⟩ (by simp only[aY];omega);obtain⟨i,c⟩:=q;obtain⟨k,f,g2,g,e,d,b⟩:=h;dsimp only at f e d b;subst f;by_cases hc:a<k;rw[hb k c hc g d];refine .mk ⟨⟨k-1,rfl,by omega,by omega,(rJ (by omega) (by omega)).trans e,by rw[uT];exact d,fun p=>?_⟩,by dsimp only;omega⟩;dsimp only;rw[pM (by omega) (by omega),b,b,b];by_cases c1:p=k-1;rw[jX2 c1,xS (by omega) (by omega),xS (by omega) (by omega)];exact congrArg (gn l) (by omega);rw[jU2 c1];by_cases c2:p=k;rw[jX2 c2,tZ (by omega),uA (by omega) (by omega)];exact congrArg (gn l) (by omega);rw[jU2 c2];by_cases c3:p<k;rw[tZ (by omega),tZ (by omega)];by_cases c4:p<z+1;rw[uA (by omega) (by omega),uA (by omega) (by omega)];rw[sS (by omega) (by omega) (by omega),sS (by omega) (by omega) (by omega)];have:k=a:=by omega
 subst this;rw[he];exact .mk ⟨e,d,b⟩
end Go.P
namespace Go.P
theorem yL {a b:Int} {n:Nat} (h:a+b=(n:Int)) (c:n<9223372036854775808):aU (a+b)=(n:Int):=by rw[bC (by omega) (by omega)];exact h
theorem De {a b:Int} {n:Nat} (h:a-b=(n:Int)) (c:n<9223372036854775808):aU (a-b)=(n:Int):=by rw[bC (by omega) (by omega)];exact h
theorem cU1 {n:Nat} (a:n<9223372036854775808):aU (n:Int)=(n:Int):=bC (by omega) (by omega)
theorem hlf {a b:Int} {h:Nat} (h0:0<=a+b) (h1:a+b<9223372036854775808) (e:(a+b)/2=(h:Int)):rB .u64 (IntKind.wrap .u64 (aU (a+b))) 1=some (h:Int):=by rw[cR1 h0 h1,e]
theorem Ma {l:aA aG} {f g:Int} {p q:Nat} (h:f=(q:Int)) (e2:g=(p:Int)) (hp:p<l.length) (e:q<l.length) {B:Type} {k:aA aG->aB B}:
  ((cE l f).bind fun a=>(cX l a).bind fun x=>(cE l g).bind fun b=>(cX l b).bind fun y=>(cE l g).bind fun c=>(kT l c (fun _=>x)).bind fun i=>(cE i f).bind fun d=>(kT i d (fun _=>y)).bind k)=k (swp l p q):=by
 rw[eQ h e,jW2,gI e,jW2,eQ e2 hp,jW2,gI hp,jW2,jW2,oE hp,jW2,eQ h (by simpa using e),jW2,oE (by simpa using e),jW2];rfl
theorem Pk {rec:Int->Int->Int->aA aG->aB (aA aG)} {w a m b:Nat} {l:aA aG}
  (ih:∀(a m b:Nat) (l:aA aG),a<m->m<b->b<=l.length->l.length<4611686018427387904->b-a<=w->SS l a m->SS l m b->Ok (rec ((a:Nat):Int) ((m:Nat):Int) ((b:Nat):Int) l) (fun r=>Sg r l a b/\SS r a b))
  (h1:a<m) (h2:m<b) (h3:b<=l.length) (hl:l.length<4611686018427387904) (hw:b-a<=2*w) (F:SS l a m) (G:SS l m b):Ok (xN rec ((a:Nat):Int) ((m:Nat):Int) ((b:Nat):Int) l) (fun r=>Sg r l a b/\SS r a b):=by
 unfold xN;rw[De (a:=(m:Int)) (n:=m-a) (by omega) (by omega),De (a:=(b:Int)) (n:=b-m) (by omega) (by omega)];refine Oi (fun hc=>?_) (fun hc=>Oi (fun hd=>?_) (fun hd=>?_))
 have hc:m=a+1:=by
  have:=eq_of_beq hc;omega
 subst hc;refine Ob (Vf (lo:=a+1) (hi:=b) (fun c=>cN (gn l c) (gn l a)<0) (fun c L A t B C=>?_) (by omega) (by omega) (fun i j h A t B C Z R=>?_) (fun i j E=>?_)) fun x V=>?_;have H:=G c L A t B;have N:=Da (gn l c) (gn l a);apply Decidable.byContradiction;intro J;have e4:Cy (gn l a) (gn l c):=Dc J;have e5:Cy (gn l a) (gn l L):=fZ e4 H;have e6:=mB.2 e5;exact e6 C;dsimp only;rw[jX2 (by simpa using t),hlf (by omega) (by omega) R];simp only[jW2];rw[cU1 (by omega),eQ rfl (show h<l.length by omega),eQ rfl (show a<l.length by omega)];simp only[jW2];rw[gI (by omega),gI (by omega)];simp only[jW2,Dd];by_cases o:cN (gn l h) (gn l a)<0;refine .inl ⟨o,?_⟩;rw[jX2 (by simpa using o),yL (n:=h+1) (by omega) (by omega)];rfl;refine .inr ⟨o,?_⟩;rw[jU2 (by simpa using o)];rfl;dsimp only;rw[jU2 (by simpa using E)];obtain⟨z,rfl,z1,z2,z3,z4⟩:=V;rw[De (n:=z-1) (by omega) (by omega)];refine Ob (rG1 (a:=a) (z:=z) (l:=l) (by omega) (by omega) hl (fun k c A t B=>?_) (fun c=>?_)) fun r hr=>?_;dsimp only;rw[jX2 (by simp;omega),yL (n:=k+1) (by omega) (by omega)];exact Ma rfl rfl (by omega) (by omega);dsimp only;rw[jU2 (by simp)];refine .mk ⟨Jn (jR2 _) (by omega) (by omega) z2 hr.1 hr.2.1 hr.2.2,?_⟩;have q:=Jo (s:=a) (m:=a+1) (e:=z) (b:=b) (jR2 _) (by omega) (by omega) z2 hr.2.2 F G;refine Cr.glue (m:=a+(z-(a+1))) (Jp (jR2 _) (by omega) (by omega) z2 hr.2.2 F G (fun u v A t=>by omega) (fun w u A t B C=>?_)) q.2.1 ?_;rw[show u=a by omega];exact Db (z3 w A t);refine Cr.glue (m:=z) (fun p q A t B C=>?_) q.2.2.1 q.2.2.2;rw[hr.2.2,hr.2.2,uA (by omega) (by omega),sS (by omega) (by omega) (by omega),show p-(z-(a+1))=a by omega];exact Dc (z4 q B C)
 have hd:b=m+1:=by
  have:=eq_of_beq hd;omega
 subst hd;refine Ob (Vf (lo:=a) (hi:=m) (fun c=>¬cN (gn l m) (gn l c)<0) (fun c L A t B C=>?_) (by omega) (by omega) (fun i j h A t B C Z R=>?_) (fun i j E=>?_)) fun x V=>?_;have H:=F c L A t B;exact mB.2 (fZ H (mB.1 C));dsimp only;rw[jX2 (by simpa using t),hlf (by omega) (by omega) R];simp only[jW2];rw[cU1 (by omega),eQ rfl (show h<l.length by omega),eQ rfl (show m<l.length by omega)];simp only[jW2];rw[gI (by omega),gI (by omega)];simp only[jW2,Dd];by_cases o:cN (gn l m) (gn l h)<0;refine .inr ⟨fun J=>J o,?_⟩;rw[jU2 (by simpa using o)];rfl;refine .inl ⟨o,?_⟩;rw[jX2 (by simpa using o),yL (n:=h+1) (by omega) (by omega)];rfl;dsimp only;rw[jU2 (by simpa using E)];obtain⟨z,rfl,z1,z2,z3,z4⟩:=V;refine Ob (rH1 (a:=z) (z:=m) (l:=l) (by omega) (by omega) hl (fun k c A t B=>?_) (fun c=>?_)) fun r hr=>?_;dsimp only;rw[jX2 (by simp;omega),De (n:=k-1) (by omega) (by omega)];exact Ma rfl rfl (by omega) (by omega);dsimp only;rw[jU2 (by simp)];refine .mk ⟨Jn z1 z2 (by omega) (jR2 _) hr.1 hr.2.1 hr.2.2,?_⟩;have q:=Jo (s:=z) (m:=m) (e:=m+1) (b:=m+1) z1 z2 (by omega) (jR2 _) hr.2.2 F G;refine Cr.glue (m:=z+(m+1-m)) (Jp z1 z2 (by omega) (jR2 _) hr.2.2 F G (fun u v A t=>by omega) (fun w u A t B C=>?_)) ?_ q.2.2.1;rw[show w=m by omega];exact Db (Decidable.byContradiction fun J=>z4 u B C J);refine Cr.glue (m:=z) (fun p q A t B C=>?_) q.1 q.2.1;rw[hr.2.2,hr.2.2,tZ (by omega),xS (by omega) (by omega),show q+(m-z)=m by omega];exact mB.1 (z3 p A t);have hc:m-a≠1:=fun h=>hc (by rw[h];rfl);have hd:b-m≠1:=fun h=>hd (by rw[h];rfl);have K:∃g:Nat,g=(a+b)/2:=⟨_,rfl⟩
 obtain⟨g,K⟩:=K;rw[hlf (h:=g) (by omega) (by omega) (by omega)];simp only[jW2];rw[cU1 (by omega),yL (n:=g+m) (by omega) (by omega),De (b:=1) (n:=g+m-1) (by omega) (by omega)];refine Ob (P:=fun r=>∃x y:Nat,r=((x:Int),(y:Int))/\(m>g/\x=g+m-b/\y=g\/m<=g/\x=a/\y=m)) ?_ fun r hr=>?_;by_cases O:(m:Int)>(g:Int);rw[jX2 (by simpa using O),De (n:=g+m-b) (by omega) (by omega)];exact .mk ⟨_,_,rfl,.inl ⟨by omega,rfl,rfl⟩⟩;rw[jU2 (by simpa using O)];exact .mk ⟨_,_,rfl,.inr ⟨by omega,rfl,rfl⟩⟩;obtain⟨x,y,rfl,b4⟩:=hr;dsimp only;have x1:a<=x:=by omega
 have x2:x<=y:=by omega
 have x3:y<=m:=by omega
 have x4:y<=g:=by omega
 have x5:g+m-x<=b:=by omega
 have x6:m<=g+m-y:=by omega
 refine Ob (Vf (lo:=x) (hi:=y) (fun c=>¬cN (gn l (g+m-1-c)) (gn l c)<0) (fun c L A t B C=>?_) x2 (by omega) (fun i j h A t B C Z R=>?_) (fun i j E=>?_)) fun u hu=>?_;have H:=F c L (by omega) t (by omega);have e2:=G (g+m-1-L) (g+m-1-c) (by omega) (by omega) (by omega);exact mB.2 (fZ H (fZ (mB.1 C) e2));dsimp only;rw[jX2 (by simpa using t),hlf (by omega) (by omega) R];simp only[jW2];rw[cU1 (by omega),De (n:=g+m-1-h) (by omega) (by omega),eQ rfl (show g+m-1-h<l.length by omega),eQ rfl (show h<l.length by omega)];simp only[jW2];rw[gI (by omega),gI (by omega)];simp only[jW2,Dd];by_cases o:cN (gn l (g+m-1-h)) (gn l h)<0;refine .inr ⟨fun J=>J o,?_⟩;rw[jU2 (by simpa using o)];rfl;refine .inl ⟨o,?_⟩;rw[jX2 (by simpa using o),yL (n:=h+1) (by omega) (by omega)];rfl;dsimp only;rw[jU2 (by simpa using E)];obtain⟨s,rfl,z1,z2,z3,z4⟩:=hu;rw[De (n:=g+m-s) (by omega) (by omega)];obtain⟨e,he⟩:∃e:Nat,e=g+m-s:=⟨_,rfl⟩
 rw[<-he];have T:a<=s:=by omega
 have U:s<=m:=by omega
 have S:m<=e:=by omega
 have W:e<=b:=by omega
 have t5:s+(e-m)=g:=by omega
 refine Ob (P:=fun r=>r.Perm l/\r.length=l.length/\∀p,gn r p=iS (gn l) s m e p) ?_ fun r hr=>?_;by_cases D:s<m/\m<e;rw[jX2 (by simpa using D)];exact Ob (Ve D.1 D.2 (by omega) hl) fun d hd=>.mk hd;rw[jU2 (by simpa using D)];exact .mk ⟨.refl _,rfl,fun p=>(Jm U S (by omega)).symm⟩;have g0:=Jn T U S W hr.1 hr.2.1 hr.2.2;have M:=Jo T U S W hr.2.2 F G
 have g2:=Jp T U S W hr.2.2 F G (fun u v A t B C=>by
  have H:=F u (s-1) A (by omega) (by omega);have e2:=G e v S B C;have N:=mB.1 (z3 (s-1) (by omega) (by omega));rw[show g+m-1-(s-1)=e by omega]at N;exact fZ H (fZ N e2)) (fun w u A t B C=>by
  have H:=G w (e-1) A (by omega) (by omega);have e2:=F s u T B C;have N:=Db (Decidable.byContradiction fun J=>z4 s (jR2 _) (by omega) J);rw[show g+m-1-s=e-1 by omega]at N;exact fZ H (fZ N e2))
 rw[t5]at M g2;have b0:=hr.2.1;refine Ob (P:=fun d=>Sg d r a g/\SS d a g) ?_ fun d hd=>?_;by_cases D:a<s/\s<g;rw[jX2 (by simpa using D)];exact Ob (ih a s g r D.1 D.2 (by omega) (by omega) (by omega) M.1 M.2.1) fun d hd=>.mk hd;rw[jU2 (by simpa using D)];refine .mk ⟨Sg.refl _ _ _,?_⟩;by_cases hs:s=a;rw[<-hs];exact M.2.1;rw[show g=s by omega];exact M.1;have a0:=hd.1.2.1;have c2:=g2.left hd.1;have X:SS d g e:=M.2.2.1.off hd.1 (.inr (jR2 _));have Y:SS d e b:=M.2.2.2.off hd.1 (.inr (by omega));refine Ob (P:=fun f=>Sg f d g b/\SS f g b) ?_ fun f hf=>?_;by_cases D:g<e/\e<b;rw[jX2 (by simpa using D)];exact Ob (ih g e b d D.1 D.2 (by omega) (by omega) (by omega) X Y) fun d hd=>.mk hd;rw[jU2 (by simpa using D)];refine .mk ⟨Sg.refl _ _ _,?_⟩;by_cases hs:e=g;rw[<-hs];exact Y;rw[show b=e by omega];exact X;refine .mk ⟨((hf.1.mono (by omega) (jR2 _)).trans (hd.1.mono (jR2 _) (by omega))).trans g0,?_⟩;exact Cr.glue (c2.right hf.1) (hd.2.off hf.1 (.inl (jR2 _))) hf.2
theorem Mb:∀(k:Nat) (a m b:Nat) (l:aA aG),a<m->m<b->b<=l.length->l.length<4611686018427387904->b-a<=2^k->SS l a m->SS l m b->Ok (Cv k ((a:Nat):Int) ((m:Nat):Int) ((b:Nat):Int) l) (fun r=>Sg r l a b/\SS r a b)
 |0,a,m,b,l,h1,h2,h3,hl,hw,s1,s2=>by omega
 |k+1,a,m,b,l,h1,h2,h3,hl,hw,s1,s2=>Pk (rec:=Cv k) (w:=2^k) (Mb k) h1 h2 h3 hl (by rw[Nat.pow_succ]at hw;omega) s1 s2
theorem Gq {a m b:Nat} {l:aA aG} (h1:a<m) (h2:m<b) (c:b<=l.length) (hl:l.length<4611686018427387904) (d:SS l a m) (e:SS l m b):Ok (Gm ((a:Nat):Int) ((m:Nat):Int) ((b:Nat):Int) l) (fun r=>Sg r l a b/\SS r a b):=
 Mb 64 a m b l h1 h2 c hl (by rw[show(2:Nat)^64=18446744073709551616 from rfl];omega) d e
end Go.P
namespace Go.P
theorem Gr {a b:Nat} {l:aA aG} (h1:a<=b) (h2:b<=l.length) (hl:l.length<4611686018427387904):Ok (Gl ((a:Nat):Int) ((b:Nat):Int) l) (fun r=>Sg r l a b/\SS r a b):=by
 unfold Gl;rw[yL (n:=a+1) (by omega) (by omega)];refine Ob (P:=fun r=>Sg r l a b/\SS r a b) (cW (fun(q:Int×aA aG)=>∃i:Nat,q.1=(i:Int)/\a+1<=i/\(i<=b\/i=a+1)/\Sg q.2 l a b/\SS q.2 a i) (fun(q:Int×aA aG)=>b-q.1.toNat) (fun q w=>?_) aY _ ⟨a+1,rfl,jR2 _,.inr rfl,.refl _ _ _,fun p q e m h=>by rw[show p=q by omega];exact xQ _⟩ (by simp only[aY];omega)) fun r hr=>.mk hr;obtain⟨F,c⟩:=q;obtain⟨i,y,g2,E,t,v⟩:=w;dsimp only at y t v ⊢;subst y;have A:=t.2.1;by_cases k:(i:Int)<(b:Int);rw[jX2 (by simpa using k)];refine Ob (P:=fun r=>Sg r l a b/\SS r a (i+1)) (cW (fun(q:Int×aA aG)=>∃j:Nat,q.1=(j:Int)/\a<=j/\j<=i/\Sg q.2 l a b/\∀p s,a<=p->p<s->s<=i->s≠j->Cy (gn q.2 p) (gn q.2 s)) (fun(q:Int×aA aG)=>q.1.toNat) (fun q w=>?_) aY _ ⟨i,rfl,by omega,jR2 _,t,fun p s e m h z=>v p s e (by omega) (by omega)⟩ (by simp only[aY];omega)) fun r hr=>?_;obtain⟨G,d⟩:=q;obtain⟨j,x,C,D,f4,g⟩:=w;dsimp only at x f4 g ⊢;subst x;have B:=f4.2.1;by_cases h0:(j:Int)>(a:Int);rw[jX2 (by simpa using h0),De (n:=j-1) (by omega) (by omega),eQ rfl (show j<d.length by omega),eQ rfl (show j-1<d.length by omega)];simp only[jW2];rw[gI (by omega),gI (by omega)];simp only[jW2,Dd];by_cases hc:cN (gn d j) (gn d (j-1))<0;rw[jX2 (by simpa using hc),oE (by omega)];simp only[jW2];rw[eQ rfl (show j-1<(d.set j (gn d (j-1))).length by simp;omega)];simp only[jW2];rw[oE (by simp;omega)];simp only[jW2];rw[show(d.set j (gn d (j-1))).set (j-1) (gn d j)=swp d j (j-1)from rfl];refine .mk ⟨⟨j-1,rfl,by omega,by omega,(Sg.swp (by omega) (by omega) (by omega) (by omega) (by omega)).trans f4,fun p s e m h z=>?_⟩,by dsimp only;omega⟩;dsimp only;rw[pM (by omega) (by omega),pM (by omega) (by omega),jU2 z];by_cases f:s=j;subst f;rw[jX2 rfl];by_cases e2:p=s-1;rw[jX2 e2];exact Db hc;rw[jU2 e2,jU2 (by omega)];exact g p (s-1) e (by omega) (by omega) (by omega);rw[jU2 f];by_cases e2:p=j-1;rw[jX2 e2];exact g j s (by omega) (by omega) h f;rw[jU2 e2];by_cases o:p=j;rw[jX2 o];exact g (j-1) s (by omega) (by omega) h f;rw[jU2 o];exact g p s e m h f;rw[jU2 (by simpa using hc)];refine .mk ⟨f4,fun p s e m h=>?_⟩;by_cases u:p=s;subst u;exact xQ _;by_cases f:s=j;have e2:=Dc hc;by_cases o:p=j-1;rw[f,o];exact e2;rw[f];exact fZ (g p (j-1) e (by omega) (by omega) (by omega)) e2;exact g p s e (by omega) (by omega) f;rw[jU2 (by simpa using h0)];simp only[jW2,kB2,kU2];refine .mk ⟨f4,fun p s e m h=>?_⟩;by_cases u:p=s;subst u;exact xQ _;exact g p s e (by omega) (by omega) (by omega);rw[yL (n:=i+1) (by omega) (by omega)];exact .mk ⟨⟨i+1,rfl,by omega,.inl (by omega),hr.1,hr.2⟩,by dsimp only;omega⟩;rw[jU2 (by simpa using k)];exact .mk ⟨t,v.sub (jR2 _) (by omega)⟩
def Bk (w n:Nat) (c:aA aG):Prop:=∀t,SS c (t*w) (min (t*w+w) n)
theorem SS.nil {l:aA aG} {a b:Nat} (h:b<=a):SS l a b:=fun p q h1 h2 c=>by omega
theorem Vg {l:aA aG} (hl:l.length<1152921504606846976):Ok (Lw (l.length:Int) l) (fun r=>Sg r l 0 l.length/\SS r 0 l.length):=by
 unfold Lw;refine Ob (P:=fun r=>∃t:Nat,r.1=((t*20:Nat):Int)/\t*20<=l.length/\l.length<t*20+20/\Sg r.2 l 0 l.length/\∀u,u<t->SS r.2 (u*20) (u*20+20)) (cW (fun(q:Int×Int×aA aG)=>∃t:Nat,q.1=((t*20:Nat):Int)/\q.2.1=((t*20+20:Nat):Int)/\t*20<=l.length/\Sg q.2.2 l 0 l.length/\∀u,u<t->SS q.2.2 (u*20) (u*20+20)) (fun(q:Int×Int×aA aG)=>l.length-q.1.toNat) (fun q p=>?_) aY _ ⟨0,rfl,rfl,by omega,.refl _ _ _,fun u h=>by omega⟩ (by simp only[aY];omega)) fun r hr=>?_;obtain⟨x,D,c⟩:=q;obtain⟨t,i,g2,o,f,g⟩:=p;dsimp only at i g2 f g ⊢;subst i g2;have k:=f.2.1;by_cases hc:((t*20+20:Nat):Int)<=(l.length:Int);rw[jX2 (by simpa using hc)];refine Ob (Gr (a:=t*20) (b:=t*20+20) (l:=c) (by omega) (by omega) (by omega)) fun d hd=>?_;rw[yL (n:=(t+1)*20+20) (by omega) (by omega)];refine .mk ⟨⟨t+1,by dsimp only;omega,rfl,by omega,(hd.1.mono (by omega) (by omega)).trans f,fun u C=>?_⟩,by dsimp only;omega⟩;by_cases e:u=t;subst e;exact hd.2;exact(g u (by omega)).off hd.1 (.inl (by omega));rw[jU2 (by simpa using hc)];exact .mk ⟨t,rfl,o,by omega,f,g⟩;obtain⟨x,c⟩:=r;obtain⟨t,i,g2,o,f,g⟩:=hr;dsimp only at i f g ⊢;subst i;have k:=f.2.1;refine Ob (Gr (a:=t*20) (b:=l.length) (l:=c) g2 (by omega) (by omega)) fun d hd=>?_
 have G:Bk 20 l.length d:=fun u=>by
  by_cases y:u<t;exact((g u y).off hd.1 (.inl (by omega))).sub (jR2 _) (by omega);by_cases e2:u=t;subst e2;exact hd.2.sub (jR2 _) (by omega);exact .nil (by omega)
 have H:Sg d l 0 l.length:=(hd.1.mono (by omega) (jR2 _)).trans f;refine Ob (P:=fun r=>Sg r l 0 l.length/\SS r 0 l.length) (cW (fun(q:Int×aA aG)=>∃w:Nat,q.1=(w:Int)/\0<w/\w<2305843009213693952/\Sg q.2 l 0 l.length/\Bk w l.length q.2) (fun(q:Int×aA aG)=>l.length-q.1.toNat) (fun q p=>?_) aY _ ⟨20,rfl,by omega,by omega,H,G⟩ (by simp only[aY];omega)) fun r hr=>.mk hr;obtain⟨N,c⟩:=q;obtain⟨w,A,K,L,f4,z⟩:=p;dsimp only at A f4 z ⊢;subst A;have k:=f4.2.1;by_cases hw:(w:Int)<(l.length:Int);rw[jX2 (by simpa using hw),bC (n:=2*(w:Int)) (by omega) (by omega),bC (n:=(w:Int)*2) (by omega) (by omega)]
 refine Ob (P:=fun r=>∃t:Nat,r.1=((2*(t*w):Nat):Int)/\2*(t*w)<=l.length/\l.length<2*(t*w)+2*w/\Sg r.2 l 0 l.length/\(∀u,u<t->SS r.2 (2*(u*w)) (2*(u*w)+2*w))/\∀u,2*t<=u->SS r.2 (u*w) (min (u*w+w) l.length))
  (cW (fun(q:Int×Int×aA aG)=>∃t:Nat,q.1=((2*(t*w):Nat):Int)/\q.2.1=((2*(t*w)+2*w:Nat):Int)/\2*(t*w)<=l.length/\Sg q.2.2 l 0 l.length/\(∀u,u<t->SS q.2.2 (2*(u*w)) (2*(u*w)+2*w))/\∀u,2*t<=u->SS q.2.2 (u*w) (min (u*w+w) l.length)) (fun(q:Int×Int×aA aG)=>l.length-q.1.toNat) (fun q p=>?_) aY _ ⟨0,by simp,by simp,by omega,f4,fun u h=>by omega,fun u _=>z u⟩ (by simp only[aY];omega)) fun r hr=>?_
 obtain⟨x,D,c⟩:=q;obtain⟨t,i,g2,o,f,g,j⟩:=p;dsimp only at i g2 f g j ⊢;subst i g2;have k:=f.2.1;have s:(2*t)*w=2*(t*w):=Nat.mul_assoc _ _ _;have v:(2*t+1)*w=2*(t*w)+w:=by rw[lC2,s]
 have M:(t+1)*w=t*w+w:=lC2 _ _;by_cases hc:((2*(t*w)+2*w:Nat):Int)<=(l.length:Int);rw[jX2 (by simpa using hc),yL (n:=2*(t*w)+w) (by omega) (by omega),bC (n:=((2*(t*w)+2*w:Nat):Int)+2*(w:Int)) (by omega) (by omega)];have q1:=j (2*t) (jR2 _);have q2:=j (2*t+1) (by omega);rw[s]at q1;rw[v]at q2;refine Ob (Gq (a:=2*(t*w)) (m:=2*(t*w)+w) (b:=2*(t*w)+2*w) (l:=c) (by omega) (by omega) (by omega) (by omega) (q1.sub (jR2 _) (by omega)) (q2.sub (jR2 _) (by omega))) fun d hd=>?_;refine .mk ⟨⟨t+1,by dsimp only;omega,by dsimp only;omega,by omega,(hd.1.mono (by omega) (by omega)).trans f,fun u C=>?_,fun u C=>?_⟩,by dsimp only;omega⟩;by_cases e:u=t;subst e;exact hd.2;have:=kO2 w (show u+1<=t by omega);rw[lC2]at this;exact(g u (by omega)).off hd.1 (.inl (by omega));have:=kO2 w (show 2*t+1+1<=u by omega);rw[lC2,v]at this;exact(j u (by omega)).off hd.1 (.inr (by omega));rw[jU2 (by simpa using hc)];exact .mk ⟨t,rfl,o,by omega,f,g,j⟩;obtain⟨x,c⟩:=r;obtain⟨t,i,g2,o,f,g,j⟩:=hr;dsimp only at i f g j ⊢;subst i;have k:=f.2.1;have s:(2*t)*w=2*(t*w):=Nat.mul_assoc _ _ _;have v:(2*t+1)*w=2*(t*w)+w:=by rw[lC2,s]
 have q1:=j (2*t) (jR2 _);have q2:=j (2*t+1) (by omega);rw[s]at q1;rw[v]at q2;rw[yL (n:=2*(t*w)+w) (by omega) (by omega)];refine Ob (P:=fun d=>Sg d l 0 l.length/\Bk (w*2) l.length d) ?_ fun d hd=>?_
 have fin:∀d,Sg d c (2*(t*w)) l.length->SS d (2*(t*w)) l.length->Bk (w*2) l.length d:=fun d E F u=>by
  have J:u*(w*2)=2*(u*w):=by rw[<-Nat.mul_assoc,Nat.mul_comm]
  rw[J];by_cases y:u<t;have:=kO2 w (show u+1<=t by omega);rw[lC2]at this;exact((g u y).off E (.inl (by omega))).sub (jR2 _) (by omega);by_cases e2:u=t;subst e2;exact F.sub (jR2 _) (by omega);have:=kO2 w (show t+1<=u by omega);rw[lC2]at this;exact .nil (by omega)
 by_cases B:((2*(t*w)+w:Nat):Int)<(l.length:Int);rw[jX2 (by simpa using B)];refine Ob (Gq (a:=2*(t*w)) (m:=2*(t*w)+w) (b:=l.length) (l:=c) (by omega) (by omega) (by omega) (by omega) (q1.sub (jR2 _) (by omega)) (q2.sub (jR2 _) (by omega))) fun d hd=>?_;exact .mk ⟨(hd.1.mono (by omega) (jR2 _)).trans f,fin d hd.1 hd.2⟩;rw[jU2 (by simpa using B)];exact .mk ⟨f,fin c (.refl _ _ _) (q1.sub (jR2 _) (by omega))⟩;exact .mk ⟨⟨w*2,by dsimp only;omega,by omega,by omega,hd.1,hd.2⟩,by dsimp only;omega⟩;rw[jU2 (by simpa using hw)];have q:=z 0;rw[nA2]at q;exact .mk ⟨f4,q.sub (jR2 _) (by omega)⟩
theorem Vh {l:aA aG} (hl:l.length<1152921504606846976):Ok (Lx l) (fun r=>Sd r l):=by
 unfold Lx;refine Ob (Vg hl) fun r hr=>.mk ⟨hr.1.1,List.pairwise_iff_getElem.2 fun i j hi a b=>?_⟩;have:=hr.2 i j (by omega) (by omega) (by rw[<-hr.1.2.1];exact a)
 rwa [xP hi,xP a]at this
theorem cV1 {A:Type} {l m:aA A} (h:l.length+m.length<=1073741824):jR false l m=some (l++m):=by
 have e:Sim.maxRoom=1073741824:=rfl;unfold jR;rw[jX2 ⟨by rw[e];omega,fun h=>by cases h⟩]
theorem Vi {l:aA aG} (hl:l.length<=1073741824):Lu [] l=some l:=by
 refine rF1 ?_;unfold Lu;refine Ob (P:=fun r=>r=l) (bF (l:=l) (fun(q:Int×aA aG)=>q.1) (fun(i:Nat) (q:Int×aA aG)=>q.2=l.take i) (by omega) rfl rfl (fun i e q d m hi a b hg hw=>?_) (fun q hi b=>?_)) fun r hr=>.mk hr;obtain⟨k,o⟩:=q;dsimp only at hi a b hg hw ⊢;subst hi b;obtain⟨h,rfl⟩:=jP2.1 d;rw[jX2 (by simpa using a)];refine Ob (eK (by omega) a) fun j g=>?_;refine Ob (gH g.2) fun y hy=>?_;have c:j=i:=by have:=g.1;omega
 have f:l[i]=y:=by rw[c]at hy;exact mX2 (d.symm.trans hy.1)
 rw[<-f];unfold Cu;rw[cV1 (by simp;omega)];refine .mk ⟨hw,?_⟩;dsimp only;rw[List.take_add_one,d];rfl;obtain⟨k,o⟩:=q;dsimp only at hi b ⊢;rw[hi,jU2 (by simp)];exact .mk (by rw[b,lX2])
theorem cW1 {l:aA aG} (hl:l.length<=1073741824):Ok (cG1 l) (fun r=>Sd r l):=by
 unfold cG1 hH1 gV1 Us Ur;simp only[jW2];rw[Vi hl];simp only[jW2];exact Ob (P:=fun r=>Sd r l) (Ob (Vh (by omega)) fun r hr=>.mk hr) fun r hr=>.mk hr
end Go.P
namespace Go.P
variable {s:Y0}
theorem U64:∀u:Fin 65,Bp .i64 (u.val:Int) (aU ((u.val:Int)-1))=0->0<u.val->1935360%u.val=0:=by decide+kernel
theorem E47 {m:YM} {n:Int} (h:Dh m=some (n,0)):F24 m=some n:=by
 unfold Dh at h;obtain⟨⟨a,e⟩,h1,h⟩:=gN h;dsimp only at h;split at h;rename_i he;cases h;simp at he;rename_i he;have he:e=0:=by simpa using he
 subst he;split at h;cases h;rename_i w;obtain⟨x,i,h⟩:=gN h;obtain⟨y,_,h⟩:=gN h;split at h;cases h;split at h;cases h;cases h;simp only[jY2]at w i;unfold F24;split at i;rename_i hp;cases i;rw[jX2 (by simp;omega)];rename_i hp;cases i;rw[jU2 (by simp;omega)];unfold Oo Oj Om Ol at h1;obtain⟨c,hc,h1⟩:=gN h1
 have l:c=0:=by
  by_cases j:c=0;exact j;rw[jX2 (by simpa using j)]at h1;cases h1;exact absurd rfl j
 subst l;rw[jU2 (by simp)]at h1;split at hc;cases hc;rename_i v;split at hc;cases hc;rename_i g2;simp only[kE2,jY2,mJ2,bne_iff_ne,ne_eq,Decidable.not_not]at v g2;obtain⟨z,p,h1⟩:=gN h1;cases h1;obtain⟨q,f,p⟩:=gN p;cases p;generalize m.Metre.Unit=u at *;generalize m.Metre.Count=k at *;have s:=U64 ⟨u.toNat,by omega⟩ (by dsimp only;rw[Int.toNat_of_nonneg (by omega)];exact g2.2) (by dsimp only;omega);dsimp only at s;obtain⟨t,g⟩:=Nat.dvd_of_mod_eq_zero s
 have g:(1935360:Int)=u*t:=by
  have:((1935360:Nat):Int)=((u.toNat*t:Nat):Int):=by rw[<-g]
  rw[Int.natCast_mul,Int.toNat_of_nonneg (by omega)]at this;exact this
 have b:(0:Int)<=t:=Int.natCast_nonneg t
 have o:(t:Int)<=1935360:=by
  have:((1:Int)*t)<=u*t:=Int.mul_le_mul_of_nonneg_right (by omega) b;omega
 have d:u≠0:=by omega
 have A:k*(t:Int)<=64*1935360:=mB2 (by omega) o b (by decide);have r:0<=k*(t:Int):=Int.mul_nonneg (by omega) b;unfold yH at f ⊢;rw[jU2 d]at f ⊢;rw[g,Int.mul_tdiv_cancel_left _ d,show IntKind.wrap .i64 (t:Int)=aU t from rfl,bC (by omega) (by omega)]at f;cases f;rw[bC (n:=k*1935360) (by omega) (by omega),g,show k*(u*(t:Int))=u*(k*t)by rw[<-Int.mul_assoc,Int.mul_comm k u,Int.mul_assoc],Int.mul_tdiv_cancel_left _ d];rfl
theorem iU1 (hg:cY s):F19 s=F10 s:=by
 unfold F19 F10;refine congrArg (fun f=>(aR f aY (0,[0])).bind fun x=>some x) (funext fun⟨i,l⟩=>?_);dsimp only;split;cases hm:aT s.Measures i with
 |none=>cases cE l i with
  |none=>rfl
  |some j=>
   show none=(cX l j).bind _
   cases cX l j<;>rfl
 |some m=>
  obtain⟨n,a⟩:=hg m (eH hm).2.2.1;have h2:=E47 a;simp only[jW2,a,h2]
 rfl
end Go.P
set_option maxHeartbeats 2000000
namespace Go.P
theorem cJ2 {c:aA YE} (h:c.length<=20) (d:∀y∈c,y.sm):Ok (Ou c) (fun v=>v.length=c.length):=by
 unfold Ou;refine Ob (jT (by omega) (by omega) (by omega)) fun o h2=>?_;refine Ob (P:=fun v=>v.length=c.length) (bF (l:=c) (fun q=>q.1) (fun _ q=>q.2.length=c.length) (by omega) rfl (by rw[h2];simp) (fun i e q n g hi hl f hg hw=>?_) (fun q hi f=>?_)) fun v hv=>.mk hv;obtain⟨x,l⟩:=q;dsimp only at hi hl f hg hw;simp only[hl,hg,nt];refine Ob (pX1 (d e g)) fun⟨a,b⟩ _=>?_;refine Ob (eK (by omega) (by omega)) fun j k=>?_;refine Ob (rI (by omega)) fun m g=>.mk ⟨hw,by dsimp only;omega⟩;obtain⟨x,l⟩:=q;dsimp only at hi f;simp only[hi,nf];exact .mk f
theorem cK2 {j:aA YU} {d:aA Int} (f:j.length<=6) (n:d.length<=20):Ok (Ja j d) (fun v=>v.1.length<=d.length/\(v.2=0->∀t∈j,t.ok d.length)):=by
 unfold Ja;refine Ob (qA1 f) fun c hc=>?_;refine Oi (fun hd=>.mk ⟨kS2 _,fun h=>absurd h (by simpa using hd)⟩) (fun hd=>?_);have k:=hc (by simpa using hd);refine Ob (jT (by decide) (by omega) (by omega)) fun w o=>?_;refine Ob (P:=fun r=>match r with|.inl p=>p.1≠0|.inr l=>l.length<=d.length) (bF (l:=d) (fun q=>q.1) (fun i q=>q.2.length<=i) (by omega) rfl (by rw[o];decide) (fun i e q u s hi hl g hg hw=>?_) (fun q hi g=>?_)) fun v hv=>?_;obtain⟨x,l⟩:=q;dsimp only at hi hl g hg hw;simp only[hl,hg,nt];refine Ob (hQ1 f (fun t h=>by have:=k t h;unfold YU.ok at this;omega)) fun⟨a,b⟩ _=>?_;refine Oi (fun hb=>.mk (by simpa using hb)) (fun _=>?_);exact Ob (dE (Q:=fun v=>v.length=l.length+1) (by omega) (by simp)) fun m s=>.mk ⟨hw,by dsimp only;omega⟩;obtain⟨x,l⟩:=q;dsimp only at hi g;simp only[hi,nf];exact .mk g;rcases v with⟨a,b⟩|b;exact .mk ⟨kS2 _,fun h=>absurd h hv⟩;exact .mk ⟨hv,fun _=>k⟩
theorem cL2 {i:YO} (a:i.sm):Ok (Ov i) (fun v=>v.1.length<=i.Events.length):=by
 unfold Ov;have j:=a.Events;refine oD (l:=i.Events) (fun q=>q) (jS2 a.Events (by decide)) rfl (fun n k t e b d c f=>?_) (fun t b=>?_) fun u=>?_;simp only[d,c,nt];have h:=a.EventsE _ e;refine bQ (T77 h) fun w=>?_;refine Oi (fun c712=>?_) (fun c712=>?_);exact .mk trivial;refine Oi (fun c713=>?_) (fun c713=>?_);exact .mk trivial;exact .mk f;simp only[b,nf];exact .mk trivial;rcases u with x|_;exact .mk (by(simp only[nm,nl]at *;omega));refine Ob (cJ2 a.Events a.EventsE) fun y m=>?_;refine Ob (cK2 a.Tuplets (by omega)) fun⟨o,p⟩ g=>?_
 try dsimp only at g
 refine Oi (fun c716=>?_) (fun c716=>?_);exact .mk (by(simp only[nm,nl]at *;omega));refine bQ (qC1 a.Tuplets (by omega)) fun⟨r,s⟩=>?_;refine Oi (fun c718=>?_) (fun c718=>?_);exact .mk (by(simp only[nm,nl]at *;omega));exact .mk (by(simp only[nm]at *;omega))
theorem cM2 {e:YO} {g:Int} (a:e.sm):Ok (Ow e g) (fun v=>v.1.length<=e.Events.length):=by
 unfold Ow;refine Oi (fun c719=>?_) (fun c719=>?_);exact .mk (by(simp only[nm,nl]at *;omega));refine Oi (fun c720=>?_) (fun c720=>?_);exact .mk (by(simp only[nm,nl]at *;omega));refine bQ (pW1 a) fun i=>?_;refine Oi (fun c722=>?_) (fun c722=>?_);have f:=a.Events;refine Ob (P:=fun x=>x∈e.Events) (bP (by omega) (by(simp only[nm]at *;omega)) (fun _ h _=>h)) fun j b=>?_;have d:=a.EventsE _ b;refine bQ (T77 d) fun k=>?_;refine Oi (fun c728=>?_) (fun c728=>?_);exact .mk (by(simp only[nm,nl]at *;omega));refine Oi (fun c729=>?_) (fun c729=>?_);exact .mk (by(simp only[nm,nl]at *;omega));exact .mk (by(simp only[nm,nl]at *;omega));refine Ob (cL2 a) fun⟨l,m⟩ c=>?_
 try dsimp only at c
 exact .mk (by omega)
theorem cN2 {d:YO} {f:Int} (b:d.sm):Ok (Jb d f) (fun v=>v.1.length<=d.Events.length):=by
 unfold Jb;refine Ob (cM2 b) fun⟨g,i⟩ a=>?_
 try dsimp only at a
 refine Ob (P:=fun r=>r=true->((i==0)&&(decide ((g.length:Int)>0)))=true) ?_ fun k c=>?_;refine Oi (fun c745=>?_) (fun _=>.mk (fun h=>by cases h));refine bQ (qD1 (kP2 a b.Events)) fun j=>?_;exact .mk (fun _=>c745);refine bQ ?_ fun l=>?_;refine Oi (fun c748=>?_) (fun c748=>?_);have e:=c c748;exact .mk trivial;exact .mk trivial;refine Oi (fun c750=>?_) (fun c750=>?_);exact .mk (by(simp only[nm,nl]at *;omega));exact .mk (by omega)
theorem cO2 {a:aA Int} (c:a.length<=20):Ok (Ox a) (fun v=>v.length=a.length):=by
 unfold Ox;refine Ob (jT (by omega) (by omega) (by omega)) fun h h2=>?_;refine Ob (P:=fun v=>v.length=a.length) (fY (fun q=>q.1) (a.length:Int) (fun q=>q.2.length=a.length) (by omega) (by dsimp only;omega) (by rw[h2];simp) (fun q b h1 h2=>?_)) fun v hv=>.mk hv;obtain⟨i,l⟩:=q;dsimp only at b h1 h2 ⊢;refine Oi (fun hc=>?_) (fun _=>.mk b);simp only[jY2]at hc;rw[bC (n:=i-1) (by omega) (by omega)];refine Ob (eK (by omega) (by omega)) fun j e=>?_;refine Ob (gH (by omega)) fun x _=>?_;refine Ob (bP (Q:=fun _=>True) (by omega) (by omega) (fun _ _ _=>trivial)) fun y _=>?_;refine Ob (eK (by omega) (by omega)) fun g d=>?_;exact Ob (rI (by omega)) fun m f=>.mk ⟨hc,h2 hc,by dsimp only;omega⟩
theorem cP2 {c:YO} {e:Int} (b:c.sm):Ok (Jg c e) (fun v=>v.1.length<=c.Events.length):=by
 unfold Jg;refine Ob (cN2 b) fun⟨f,g⟩ a=>?_
 try dsimp only at a
 refine Oi (fun c1215=>?_) (fun c1215=>?_);exact .mk (kS2 _);refine Ob (cO2 (kP2 a b.Events)) fun h d=>?_;exact .mk (by rw[d];exact a)
end Go.P
set_option maxHeartbeats 1000000
namespace Go.P
section
variable {K V:Type} [DecidableEq K]
theorem Af {k:K}:∀{l:aA (K×V)} {i:Nat} {p:Nat×V},mE k l i=some p->∃q∈l,q.2=p.2
 |q::l,i,p,h=>by
  simp only[mE]at h
  split at h
  cases h;exact⟨q,List.mem_cons_self ..,rfl⟩
  obtain⟨r,h1,h2⟩:=Af h;exact⟨r,mL2 _ h1,h2⟩
theorem Vj {k:K} {l:aA (K×V)} {z:V} (h:Nw l k=true):∃q∈l,q.2=yI l k z:=by
 unfold Nw at h;cases e:mE k l 0 with
 |none=>rw[e]at h;cases h
 |some p=>unfold yI;rw[e];exact Af e
theorem Vk {k:K} {x:V} {l:aA (K×V)} {q:K×V} (h:q∈Bq l k x):q∈l\/q.2=x:=by
 unfold Bq at h;split at h;rcases List.mem_or_eq_of_mem_set h with h|h;exact .inl h;exact .inr (by rw[h]);rcases lA2.1 h with h|h;exact .inl h;exact .inr (by rw[lT2.1 h])
end
def Hd (m:aA (YH×Int)) (n:Nat):Prop:=∀q∈m,0<=q.2/\q.2<(n:Int)
theorem Hd.mono {m:aA (YH×Int)} {a b:Nat} (h:Hd m a) (c:a<=b):Hd m b:=fun q d=>by have:=h q d;omega
theorem cX1 {s:YE} {F G J:Int} {t:aA (YH×Int)} {H:aG} {c:aA aG} (h1:s.sm) (A:Hd t c.length) (hl:c.length<=900000000):
  Ok (cD1 s F G t H J c) (fun r=>Hd r.1 r.2.length/\c.length<=r.2.length/\r.2.length<=c.length+12):=by
 unfold cD1;have hb:=h1.Heads;refine Ob (P:=fun r=>Hd r.1 r.2.length/\c.length<=r.2.length/\r.2.length<=c.length+12) (bF (l:=s.Heads) (fun q=>q.1) (fun i q=>Hd q.2.1 q.2.2.length/\c.length<=q.2.2.length/\q.2.2.length<=c.length+i) (by omega) rfl ⟨fun q f=>(by cases f),jR2 _,jR2 _⟩ (fun i e q D K hi g d hg hw=>?_) (fun q hi d=>?_)) fun⟨a,b⟩ h=>.mk h;obtain⟨k,m,l⟩:=q;dsimp only at hi g d hg hw;obtain⟨w,L,M⟩:=d;have B:=(jP2.1 D).1;simp only[g,hg,nt];refine Ob (P:=fun r=>0<=r.1/\r.1<(r.2.length:Int)/\l.length<=r.2.length/\r.2.length<=l.length+1) (Oi (fun hc=>?_) (fun hc=>?_)) fun⟨n,E⟩ o=>?_;refine Ob T80 fun⟨p,_⟩ _=>?_;exact Ob (dE (Q:=fun v=>v.length=l.length+1) (by omega) (by simp)) fun v hv=>.mk ⟨by dsimp only;omega,by dsimp only;omega,by dsimp only;omega,by dsimp only;omega⟩;have hc:Nw t e.Pitch=true:=by simpa using hc
 obtain⟨q,q1,q2⟩:=Vj (z:=0) hc;have:=A q q1;rw[q2]at this;exact .mk ⟨this.1,by dsimp only;omega,jR2 _,Nat.le_succ _⟩;dsimp only at o;refine Ob (eK o.1 o.2.1) fun j C=>?_;refine Ob (rI C.2) fun x u=>?_;have u:x.length=E.length:=u;refine Ob (P:=fun y=>Hd y x.length) (Oi (fun _=>.mk fun q f=>?_) (fun _=>.mk (w.mono (by omega)))) fun y h2=>.mk ⟨hw,h2,by dsimp only;omega,by dsimp only;omega⟩;rcases Vk f with f|f;have:=w q f;omega;rw[f];omega;obtain⟨k,m,l⟩:=q;dsimp only at hi d;simp only[hi,nf];exact .mk ⟨d.1,d.2.1,kP2 d.2.2 (by omega)⟩
def Df (m:YM) (s:bB):Prop:=∃c v e,aT m.Cells s.Staff=some c/\aT c.Voices s.Voice=some v/\aT v.Events s.Event=some e/\e.sm
theorem iV1 {f:YM} (h1:f.sm):Ok (F48 f) (fun r=>r.1.length<=300/\∀s∈r.1,Df f s):=by
 unfold F48;have T:=h1.Cells;refine Ob (T47 h1) fun⟨n,S⟩ _=>?_;refine Ob (P:=fun r=>r.2.length<=300/\∀s∈r.2,Df f s) (bF (l:=f.Cells) (fun q=>q.2.1) (fun i q=>q.2.2.length<=60*i/\∀s∈q.2.2,Df f s) (by omega) rfl ⟨kS2 _,fun s hs=>(by cases hs)⟩ (fun i c q O M hi A z hg hw=>?_) (fun q hi z=>?_)) fun⟨a,b⟩ h=>Oi (fun _=>.mk ⟨kS2 _,fun s hs=>(by cases hs)⟩) (fun _=>.mk h);obtain⟨e,k,l⟩:=q;dsimp only at hi A z hg hw;have K:=(jP2.1 O).1;have hc:=h1.CellsE c M;have V:=hc.Voices;simp only[A,hg,nt];refine Ob (P:=fun r=>match r with|.inl p=>p.2.length<=l.length+60/\(∀s∈p.2,Df f s)|.inr p=>p.2.length<=l.length+60/\∀s∈p.2,Df f s) (bF (l:=c.Voices) (fun q=>q.2.1) (fun j q=>q.2.2.length<=l.length+20*j/\∀s∈q.2.2,Df f s) (by omega) rfl ⟨jR2 _,z.2⟩ (fun j v q hx2 hm2 m hlt2 d hg2 hw2=>?_) (fun q m d=>?_)) fun r hr=>?_;obtain⟨e,R,G⟩:=q;dsimp only at m hlt2 d hg2 hw2;have L:=(jP2.1 hx2).1;have hv:=hc.VoicesE v hm2;have U:=hv.Events;simp only[hlt2,hg2,nt];refine Oi (fun _=>.mk ⟨by dsimp only;omega,d.2⟩) (fun _=>?_);refine Ob (P:=fun _=>True) (by unfold gU1;exact .mk trivial) fun p _=>?_;refine Oi (fun _=>.mk ⟨hw2,by dsimp only;omega,d.2⟩) (fun _=>?_);refine Ob (cP2 hv) fun⟨on,e2⟩ B=>?_;dsimp only at B;refine Oi (fun _=>.mk ⟨by dsimp only;omega,d.2⟩) (fun _=>?_);refine Ob (P:=fun w=>w.length<=G.length+20/\∀s∈w,Df f s) (bF (l:=on) (fun q=>q.1) (fun t q=>q.2.length<=G.length+t/\∀s∈q.2,Df f s) (by omega) rfl ⟨jR2 _,d.2⟩ (fun t o q hx3 hm3 u hlt3 g hg3 hw3=>?_) (fun q u g=>?_)) fun w E=>.mk ⟨hw2,by dsimp only;omega,E.2⟩;obtain⟨H,J⟩:=q;dsimp only at u hlt3 g hg3 hw3;have N:=(jP2.1 hx3).1;simp only[hlt3,hg3,nt];refine Ob (P:=fun _=>True) (Oi (fun hc=>?_) (fun _=>.mk trivial)) fun off _=>?_;rw[hw3]at hc ⊢;exact Ob (bP (Q:=fun _=>True) (by omega) (by simpa using hc) (fun _ _ _=>trivial)) fun y _=>.mk trivial;refine Ob (dE (Q:=fun w=>w.length=J.length+1/\∀s∈w,Df f s) (by omega) ⟨by simp,fun s hs=>?_⟩) fun w F=>.mk ⟨hw3,by dsimp only;omega,F.2⟩;rcases lA2.1 hs with hs|hs;exact g.2 s hs;rw[lT2.1 hs];obtain⟨ev,C,D⟩:=bP (l:=v.Events) (i:=H) (Q:=fun x=>x∈v.Events) (by omega) (by omega) (fun _ h _=>h);exact⟨c,v,ev,hg,hg2,C,hv.EventsE _ D⟩;obtain⟨H,J⟩:=q;dsimp only at u g;simp only[u,nf];exact .mk ⟨by omega,g.2⟩;obtain⟨e,R,G⟩:=q;dsimp only at m d;simp only[m,nf];exact .mk ⟨by dsimp only;omega,d.2⟩;rcases r with⟨a,b⟩|⟨a,b⟩
 exact .mk ⟨by dsimp only at hr ⊢;omega,hr.2⟩;exact .mk ⟨hw,by dsimp only at hr ⊢;omega,hr.2⟩;obtain⟨e,k,l⟩:=q;dsimp only at hi z;simp only[hi,nf];exact .mk ⟨by dsimp only;omega,z.2⟩
theorem cY1 {p:YM} {E F G J:Int} {t:aA (YH×Int)} {H:aG} {d:aA aG} (h1:p.sm) (w:Hd t d.length) (hl:d.length<=800000000):
  Ok (cE1 p E F G t H J d) (fun r=>Hd r.1 r.2.length/\d.length<=r.2.length/\r.2.length<=d.length+3600):=by
 unfold cE1;refine Ob (iV1 h1) fun⟨sl,K⟩ ⟨o,j⟩=>?_;dsimp only at o j;refine Ob (P:=fun r=>Hd r.2.1 r.2.2.length/\d.length<=r.2.2.length/\r.2.2.length<=d.length+3600) (bF (l:=sl) (fun q=>q.2.1) (fun i q=>Hd q.2.2.1 q.2.2.2.length/\d.length<=q.2.2.2.length/\q.2.2.2.length<=d.length+12*i) (by omega) rfl ⟨w,jR2 _,jR2 _⟩ (fun i s q z n hi g f hg hw=>?_) (fun q hi f=>?_)) fun⟨a,b,c⟩ h=>Ob (P:=fun m=>Hd m c.length) (Oi (fun _=>.mk fun q y=>(by cases y)) (fun _=>.mk h.1)) fun m n=>.mk ⟨n,h.2⟩;obtain⟨u,k,m,l⟩:=q;dsimp only at hi g f hg hw;have x:=(jP2.1 z).1;simp only[g,hg,nt];refine Ob (P:=fun r=>Hd r.2.1 r.2.2.length/\l.length<=r.2.2.length/\r.2.2.length<=l.length+12) (Oi (fun hc=>?_) (fun _=>.mk ⟨f.1,jR2 _,Nat.le_add_right _ _⟩)) fun⟨a,b,c⟩ h=>.mk ⟨hw,h.1,by dsimp only at h ⊢;omega,by dsimp only at h ⊢;omega⟩;obtain⟨c,v,e,A,B,C,D⟩:=j s n;simp only[jO2,lR2]at hc;rw[<-hc.1,<-hc.2,A];simp only[jW2,B,C];exact Ob (cX1 D f.1 (by omega)) fun⟨a,b⟩ h=>.mk h;obtain⟨u,k,m,l⟩:=q;dsimp only at hi f;simp only[hi,nf];exact .mk ⟨f.1,f.2.1,kP2 f.2.2 (by omega)⟩
end Go.P
namespace Go.P
variable {s:Y0}
theorem cZ1 (hs:s.sm):Ok (F19 s) (fun r=>r.length=s.Measures.length+1):=by
 unfold F19;have f:=hs.Measures;refine Ob (P:=fun r=>r.length=s.Measures.length+1) (bF (l:=s.Measures) (fun q=>q.1) (fun i q=>q.2.length=i+1) (by omega) rfl rfl (fun i e q g d hi a b hg hw=>?_) (fun q hi b=>?_)) fun r hr=>.mk hr;obtain⟨k,o⟩:=q;dsimp only at hi a b hg hw;simp only[a,hg,nt];refine Ob (T47 (hs.MeasuresE e d)) fun⟨n,_⟩ _=>?_;refine Ob (eK (by omega) (by omega)) fun j c=>?_;refine Ob (gH c.2) fun y hy=>?_;exact Ob (dE (Q:=fun v=>v.length=o.length+1) (by omega) (by simp)) fun v hv=>.mk ⟨hw,by dsimp only;omega⟩;obtain⟨k,o⟩:=q;dsimp only at hi b;simp only[hi,nf];exact .mk b
theorem iW1 (hs:s.sm):Ok (F20 s) (fun v=>0<=v/\v<=5*(s.Parts.length:Int)):=by
 unfold F20;have g:=hs.Parts;refine Ob (P:=fun v=>0<=v/\v<=5*(s.Parts.length:Int)) (bF (l:=s.Parts) (fun q=>q.2) (fun i q=>0<=q.1/\q.1<=5*(i:Int)) (by omega) rfl ⟨by decide,by decide⟩ (fun i e q f d hi a b hg hw=>?_) (fun q hi b=>?_)) fun r hr=>.mk hr;obtain⟨n,k⟩:=q;dsimp only at hi a b hg hw;have h:=(hs.PartsE e d).Staves;have c:=(jP2.1 f).1;simp only[a,hg,nt];rw[bC (n:=n+(e.Staves.length:Int)) (by omega) (by omega)];exact .mk ⟨hw,by dsimp only;omega,by dsimp only;omega⟩;obtain⟨n,k⟩:=q;dsimp only at hi b;simp only[hi,nf];exact .mk b
theorem S21 {c:Int} (hs:s.sm) (hp:0<s.Parts.length):Ok (F21 s c) (fun v=>0<=v.1/\v.1<(s.Parts.length:Int)):=by
 unfold F21;have d:=hs.Parts;refine Oi (fun _=>.mk ⟨lM2 _,by dsimp only;omega⟩) (fun _=>?_);refine Ob (P:=fun r=>match r with|.inl p=>0<=p.1/\p.1<(s.Parts.length:Int)|.inr _=>True) (bF (l:=s.Parts) (fun q=>q.2) (fun _ _=>True) (by omega) rfl trivial (fun i e q g f hi hl _ hg hw=>?_) (fun q hi _=>?_)) fun r hr=>?_;obtain⟨n,x⟩:=q;dsimp only at hi hl hg hw;simp only[hl,hg,nt];exact Oi (fun _=>.mk ⟨by dsimp only;omega,hl⟩) (fun _=>.mk ⟨hw,trivial⟩);obtain⟨n,x⟩:=q;dsimp only at hi;simp only[hi,nf];exact .mk trivial;rcases r with⟨a,b⟩|_;exact .mk hr;exact .mk ⟨lM2 _,by dsimp only;omega⟩
theorem rI1 (hs:s.sm) (hv:F7 s=some true):Ok (F9 s) (fun r=>r.2=0/\r.1.length<=1728000):=by
 have L:=hs.Measures;have M:=hs.Parts;unfold F9;rw[hv];simp only[jW2];rw[jU2 (by decide)];refine Ob (cZ1 hs) fun st G=>?_;refine Ob (iW1 hs) fun n N=>?_;refine Ob (P:=fun l=>l.length<=1728000) (fY (fun q=>q.1) n (fun q=>q.1<=n/\q.2.length<=86400*q.1.toNat) (by omega) (by dsimp only;omega) ⟨by dsimp only;omega,kS2 _⟩ (fun q B h0 hw=>?_)) fun l hl=>Ob (cW1 (by omega)) fun r hr=>.mk ⟨rfl,by dsimp only;rw[hr.1.length_eq];exact hl⟩;obtain⟨x,l⟩:=q;dsimp only at B h0 hw;refine Oi (fun hc=>?_) (fun hc=>.mk (by dsimp only;omega));have hc:x<n:=by simpa using hc
 refine Ob (S21 hs (by omega)) fun⟨p,k,e⟩ hp=>?_;dsimp only at hp;refine Ob (P:=fun _=>True) (Oi (fun _=>Ob (bP (Q:=fun _=>True) hp.1 hp.2 (fun _ _ _=>trivial)) fun _ _=>.mk trivial) (fun _=>.mk trivial)) fun d _=>?_;refine Ob (P:=fun v=>v.length<=l.length+86400) (fY (fun q=>q.1) 2 (fun q=>q.1<=2/\q.2.length<=l.length+43200*q.1.toNat) (by omega) (by dsimp only;omega) ⟨by dsimp only;omega,jR2 _⟩ (fun q z w j=>?_)) fun v D=>.mk ⟨hc,hw hc,by rw[hw hc];omega,by dsimp only;rw[hw hc];omega⟩;obtain⟨y,v⟩:=q;dsimp only at z w j;refine Oi (fun f=>?_) (fun f=>.mk (by dsimp only;omega));have f:y<2:=by simpa using f
 refine Ob (P:=fun r=>r.2.2.length<=v.length+43200) (bF (l:=s.Measures) (fun q=>q.1) (fun i q=>Hd q.2.1 q.2.2.2.length/\q.2.2.2.length<=v.length+3600*i) (by omega) rfl ⟨fun q F=>(by cases F),jR2 _⟩ (fun i m q H E hi t g hg u=>?_) (fun q hi g=>?_)) fun⟨a,b,c⟩ h=>.mk ⟨f,j f,by rw[j f];omega,by dsimp only at h ⊢;rw[j f];omega⟩;obtain⟨J,hd,A,K⟩:=q;dsimp only at hi t g hg u;have C:=(jP2.1 H).1;simp only[t,hg,nt];refine Ob (bP (l:=st) (Q:=fun _=>True) (by omega) (by omega) (fun _ _ _=>trivial)) fun o _=>?_;exact Ob (cY1 (hs.MeasuresE m E) g.1 (by omega)) fun⟨a,b⟩ h=>.mk ⟨u,h.1,by dsimp only at h ⊢;omega⟩;obtain⟨J,hd,A,K⟩:=q;dsimp only at hi g;simp only[hi,nf];exact .mk (by dsimp only;omega)
end Go.P
namespace Go.P
variable {s:Y0}
theorem dA1 (hs:s.sm) (hg:cY s):Ok (F19 s) (fun v=>v.length=s.Measures.length+1/\∀x∈v,0<=x/\x<=15482880*12):=by
 unfold F19;have o:=hs.Measures;refine Ob (P:=fun v=>v.length=s.Measures.length+1/\∀x∈v,0<=x/\x<=15482880*12) (bF (l:=s.Measures) (fun q=>q.1) (fun i q=>q.2.length=i+1/\∀x∈q.2,0<=x/\x<=15482880*(i:Int)) (by omega) rfl ⟨rfl,fun x a=>by rw[lT2.1 a];decide⟩ (fun i m q a g hi hl b c hw=>?_) (fun q hi b=>?_)) fun v hv=>.mk hv;obtain⟨k,l⟩:=q;dsimp only at hi hl b c hw;obtain⟨n,d⟩:=hg m g;have e:=(jP2.1 a).1;have hb:=E94 d;simp only[hl,c,d,nt];refine Ob (eK (by omega) (by omega)) fun j f=>Ob (gH f.2) fun y hy=>?_;have h:=b.2 y hy.2;rw[bC (n:=y+n) (by omega) (by omega)];refine Ob (dE (Q:=fun v=>v.length=l.length+1/\∀x∈v,0<=x/\x<=15482880*((i+1:Nat):Int)) (by omega) ⟨by simp,fun x a=>?_⟩) fun v hv=>.mk ⟨hw,by dsimp only;omega,hv.2⟩;rcases lA2.1 a with a|a;have:=b.2 x a;omega;rw[lT2.1 a];omega;obtain⟨k,l⟩:=q;dsimp only at hi b;simp only[hi,nf];exact .mk ⟨b.1,fun x a=>by have:=b.2 x a;omega⟩
abbrev mo (e:Int) (n:aG):Int:=if e<n.Off then e else n.Off
def Lst (e:Int) (l:aA aG) (r:Int):Prop:=0<=r/\r<=e/\(∀n∈l,n.On<e->mo e n<=r)/\(r=0\/∃n∈l,n.On<e/\mo e n=r)
theorem Lst.more {e r:Int} {l:aA aG} {n:aG} (h:Lst e l r):Lst e (l++[n]) (if n.On<e then(if mo e n>r then mo e n else r)else r):=by
 obtain⟨h0,h1,h2,f⟩:=h;have g:mo e n<=e:=by unfold mo;split<;>omega
 have keep:∀x,r<=x->∀k∈l,k.On<e->mo e k<=x:=fun x i k hk d=>Int.le_trans (h2 k hk d) i;have old:r=0\/∃k∈l++[n],k.On<e/\mo e k=r:=f.imp id fun⟨k,a,b⟩=>⟨k,List.mem_append_left _ a,b⟩
 by_cases d:n.On<e;rw[jX2 d];by_cases hr:mo e n>r;rw[jX2 hr];refine⟨by omega,g,fun k hk c=>?_,.inr ⟨n,List.mem_append_right _ (lT2.2 rfl),d,rfl⟩⟩;rcases lA2.1 hk with hk|hk;exact keep _ (by omega) k hk c;rw[lT2.1 hk];exact lM2 _;rw[jU2 hr];refine⟨h0,h1,fun k hk c=>?_,old⟩;rcases lA2.1 hk with hk|hk;exact keep _ (lM2 _) k hk c;rw[lT2.1 hk];omega;rw[jU2 d];refine⟨h0,h1,fun k hk c=>?_,old⟩;rcases lA2.1 hk with hk|hk;exact keep _ (lM2 _) k hk c;rw[lT2.1 hk]at c;exact absurd c d
theorem iX1 (hs:s.sm) {st:aA Int} {all:aA aG} (F:F9 s=some (all,0)) (A:F26 s=some (st,0)) (D:st.length=s.Measures.length+1) (hv:∀x∈st,0<=x/\x<=15482880*12) (U:all.length<=1728000):
  Ok (F12 s) (fun r=>r.2=0/\r.1.length=s.Measures.length/\∀(i:Nat) (e:Int),st[i+1]? =some e->∃x,Lst e all x/\r.1[i]? =some (e-x)):=by
 have T:=hs.Measures;unfold F12;rw[F,A];simp only[jW2];rw[jU2 (by decide)]
 have hd:kU st 1 ((st.length:Nat):Int)=some (st.drop 1):=by
  unfold kU;rw[jX2 ⟨by decide,by omega,by omega⟩];simp;exact kW2 (by simp)
 rw[hd,jW2];have G:(st.drop 1).length=s.Measures.length:=by simp[D]
 refine Ob (P:=fun r=>r.length=s.Measures.length/\∀(i:Nat) (e:Int),st[i+1]? =some e->∃x,Lst e all x/\r[i]? =some (e-x)) (bF (l:=st.drop 1) (fun q=>q.1) (fun i q=>q.2.length=i/\∀(j:Nat) (e:Int),j<i->st[j+1]? =some e->∃x,Lst e all x/\q.2[j]? =some (e-x)) (by omega) rfl ⟨rfl,fun j e v=>by omega⟩ (fun i e q E J hi t g hg hw=>?_) (fun q hi g=>?_)) fun r hr=>.mk ⟨rfl,hr⟩;obtain⟨k,o⟩:=q;dsimp only at hi t g hg hw;have H:=(jP2.1 E).1;have he:=hv e (List.mem_of_mem_drop J)
 have C:st[i+1]? =some e:=by
  rw[lG2]at E;rw[lU2];exact E
 simp only[t,hg,nt];refine Ob (P:=fun x=>Lst e all x) (bF (l:=all) (fun q=>q.2) (fun j q=>Lst e (all.take j) q.1) (by omega) rfl ⟨lM2 _,he.1,fun n L=>(by cases L),.inl rfl⟩ (fun j n q c K d f b p m=>?_) (fun q d b=>?_)) fun x c=>?_;obtain⟨a,O⟩:=q;dsimp only at d f b p m;simp only[f,p,nt];have:=b.more (n:=n);rw[List.take_add_one,c];by_cases z:n.On<e;rw[jX2 z]at this;rw[jX2 (by simpa using z)];exact .mk ⟨m,this⟩;rw[jU2 z]at this;rw[jU2 (by simpa using z)];exact .mk ⟨m,this⟩;obtain⟨a,O⟩:=q;dsimp only at d b;simp only[d,nf];rw[lX2]at b;exact .mk b;have M:=c.1;have N:=c.2.1;rw[bC (n:=e-x) (by omega) (by omega)];refine Ob (dE (Q:=fun w=>w=o++[e-x]) (by omega) rfl) fun w u=>.mk ⟨hw,by dsimp only;rw[u,lQ2,g.1];rfl,fun j e2 v h=>?_⟩;dsimp only;rw[u];by_cases B:j=i;subst B;rw[C]at h;cases h;exact⟨x,c,by rw[List.getElem?_append_right (by omega),g.1];simp⟩;obtain⟨y,R,S⟩:=g.2 j e2 (by omega) h;exact⟨y,R,by rw[mK2 (by omega)];exact S⟩;obtain⟨k,o⟩:=q;dsimp only at hi g;simp only[hi,nf];refine .mk ⟨by omega,fun j e v=>g.2 j e ?_ v⟩;have:=(jP2.1 v).1;omega
theorem cQ2 (hb:s.b):F4 s=some true:=by
 unfold F4;simp only[jW2,mS2,kB2,kU2];obtain⟨r,hr,M⟩:=U13 hb;rw[hr];cases r with
 |false=>rfl
 |true=>
 have hs:=M rfl;have hM:=hs.Measures;obtain⟨v,hv,_⟩:=T7 hs;simp only[jW2,mS2,kB2,kU2];cases v with
 |false=>
  have C:F9 s=some ([],24):=by unfold F9;rw[hv];rfl
  have m:F12 s=some ([],24):=by unfold F12;rw[C];rfl
  rw[m,hv];rfl
 |true=>
 have hg:=rE1 hs hv;obtain⟨st,R,e2,S⟩:=dA1 hs hg
 have F:F26 s=some (st,0):=by
  unfold F26;rw[hv];simp only[jW2];rw[jU2 (by decide),R];rfl
 have E:F10 s=some st:=by rw[<-iU1 hg,R]
 obtain⟨⟨all,z⟩,C,rfl,U⟩:=rI1 hs hv;obtain⟨⟨l,z⟩,m,rfl,hl,T⟩:=iX1 hs C F e2 S U;dsimp only at hl T U;rw[m,hv,C,E];simp only[jW2,mS2,kB2,kU2];rw[jU2 (by simp[hl])];refine cP1 (a:=.inr ()) (Ok.eq (bF (l:=l) (fun q=>q) (fun _ _=>True) (by omega) rfl trivial (fun i y q V hm hi w _ u hw=>?_) (fun q hi _=>?_))) rfl;rw[hi]at w u hw ⊢;have W:=(jP2.1 V).1;obtain⟨e,G,H,J⟩:=bP (l:=st) (i:=(i:Int)+1) (Q:=fun x=>x∈st/\st[i+1]? =some x) (by omega) (by omega) (fun x h1 h2=>⟨h1,by rw[show((i:Int)+1).toNat=i+1 by omega]at h2;exact h2⟩);obtain⟨x,N,f⟩:=T i e J;have hb:=S e H;rw[V]at f;have Y:y=e-x:=mX2 f;obtain⟨k0,k1,Z,A⟩:=N;simp only[w,u,hw,G,nt];rw[show aU (e-y)=x by rw[bC (by omega) (by omega)];omega];rw[jU2 (by simp;omega)];refine Ob (P:=fun r=>r=.inr true) (bF (l:=all) (fun q=>q.2) (fun j q=>(x=0->q.1=true)/\((∃n∈all.take j,n.On<e/\mo e n=x)->q.1=true)) (by omega) rfl ⟨fun h=>by simp[h],fun⟨n,X,_⟩=>(by cases X)⟩ (fun j n q f L g k d p o=>?_) (fun q g d=>?_)) fun r hr=>?_;obtain⟨t,O⟩:=q;dsimp only at g k d p o;simp only[k,p,nt];by_cases D:n.On<e;rw[jX2 (by simpa using D)];have K:=Z n L D;rw[jU2 (by simpa using K)];refine .mk ⟨o,fun h=>by simp[d.1 h],fun⟨B,a,b,c⟩=>?_⟩;rw[List.take_add_one,f]at a;rcases lA2.1 a with a|a;simp[d.2 ⟨B,a,b,c⟩];rw[show B=n by simpa using a]at c;simp only[kE2,lR2];exact .inr c;rw[jU2 (by simpa using D)];refine .mk ⟨o,d.1,fun⟨B,a,b,c⟩=>?_⟩;rw[List.take_add_one,f]at a;rcases lA2.1 a with a|a;exact d.2 ⟨B,a,b,c⟩;rw[show B=n by simpa using a]at b;exact absurd b D;obtain⟨t,O⟩:=q;dsimp only at g d;simp only[g,nf];rw[lX2]at d;refine .mk ?_;rcases A with A|A;rw[d.1 A];rw[d.2 A];rw[hr];exact .mk ⟨rfl,trivial⟩;rw[hi,jU2 (by simp)];exact .mk rfl
end Go.P
