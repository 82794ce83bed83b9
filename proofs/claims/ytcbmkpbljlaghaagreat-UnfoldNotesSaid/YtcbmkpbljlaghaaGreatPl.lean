import Derived.Test.YtcbmkpbljlaghaaGreatGaB
/- A text of the proof. -/
set_option linter.all false
namespace Go.P
def Ok {α:Type} (x:aB α) (Q:α->Prop):Prop:=∃v,x=some v/\Q v
section
variable {α β:Type} {Q:α->Prop}
theorem Ok.mk {v:α} (h:Q v):Ok (some v) Q:=⟨v,rfl,h⟩
theorem aX {α:Type} {v:α} {Q:α->Prop} (h:Q v:=by exact trivial):Ok (some v) Q:=⟨v,rfl,h⟩
theorem Ob {P:β->Prop} {x:aB β} {k:β->aB α} (h:Ok x P) (hk:∀v,P v->Ok (k v) Q):Ok (x.bind k) Q:=by
 obtain⟨v,rfl,hv⟩:=h;exact hk v hv
theorem Oi {c:Prop} [Decidable c] {a b:aB α} (h1:c->Ok a Q) (h2:¬c->Ok b Q):Ok (if c then a else b) Q:=by
 split;rename_i h;exact h1 h;rename_i h;exact h2 h
theorem Ok.mono {P:α->Prop} {x:aB α} (h:Ok x P) (a:∀v,P v->Q v):Ok x Q:=by
 obtain⟨v,h1,h2⟩:=h;exact⟨v,h1,a v h2⟩
theorem Ok.ex {x:aB α} (h:Ok x Q):∃v,x=some v:=by
 obtain⟨v,h1,_⟩:=h;exact⟨v,h1⟩
theorem cV {S E:Type} {body:S->aB (S⊕E)} {Q:E->Prop} (I:S->Prop) (μ:S->Nat)
  (h:∀s,I s->Ok (body s) (fun r=>match r with|.inl s'=>I s'/\μ s'<μ s|.inr e=>Q e)):∀(n:Nat) (s:S),I s->μ s<n->Ok (aQ body n s) Q
 |0,s,_,hn=>by omega
 |n+1,s,hi,hn=>by
  obtain⟨r,h1,h2⟩:=h s hi
  simp only[aQ,h1,kQ2]
  cases r with
  |inl s'=>exact cV I μ h n s' h2.1 (by have:=h2.2;omega)
  |inr e=>exact .mk h2
end
theorem bB {n:Int} (h1: -9223372036854775808<=n) (h2:n<9223372036854775808):aU n=n:=by
 have e:aU n=if n%18446744073709551616>=9223372036854775808 then n%18446744073709551616-18446744073709551616 else n%18446744073709551616:=by
  unfold aU IntKind.wrap;rw[show((2:Int)^IntKind.bits .i64)=18446744073709551616 from rfl,show((2:Int)^(IntKind.bits .i64-1))=9223372036854775808 from rfl];simp[IntKind.signed]
 rw[e];split<;>omega
theorem bN {A:Type} {l:aA A} {i:Int} {Q:A->Prop} (h0:0<=i) (h1:i<(l.length:Int)) (h:∀x,x∈l->l[i.toNat]? =some x->Q x):Ok (aR l i) Q:=by
 unfold aR;rw[kT2 h0];have hi:i.toNat<l.length:=by omega
 exact⟨l[i.toNat],by simp[hi],h _ (mT2 hi) (by simp[hi])⟩
end Go.P
set_option maxRecDepth 100000
namespace Go.P
def qS1 {A:Type} (l:aA A) (g:A->aB Bool):aB Int:=
 (aQ (E:=Int⊕Unit) (fun(a:Int)=>
  if(decide (a<(l.length:Int)))then
   (aR l a).bind fun d=>
   (g d).bind fun b=>
   if b then
    some (.inr (.inl a))
   else
   some (.inl (aU (a+1)))
  else
  some (.inr (.inr ()))) aY 0).bind fun c=>
 match c with
 |.inl x_7=>
  some x_7
 |.inr _=>
  some (-1)
theorem dJ1 {A:Type} {l:aA A} {g:A->aB Bool} (hl:l.length<9223372036854775808) (hg:∀x∈l,∃b,g x=some b):Ok (qS1 l g) (fun v=>(v= -1/\∀x∈l,g x=some false)\/(0<=v/\v<l.length/\∃x,l[v.toNat]? =some x/\g x=some true)):=by
 unfold qS1
 refine Ob (P:=fun r=>match r with|.inl v=>0<=v/\v<l.length/\∃x,l[v.toNat]? =some x/\g x=some true|.inr _=>∀x∈l,g x=some false)
  (cV (S:=Int) (fun i=>0<=i/\i<=l.length/\∀j,j<i.toNat->∀x,l[j]? =some x->g x=some false) (fun i=>l.length-i.toNat) (fun i hi=>?_) aY 0 ⟨by omega,by omega,fun j c=>by simp at c⟩ (by simp[aY];omega)) fun r hr=>?_
 obtain⟨h0,h1,h2⟩:=hi;refine Oi (fun hc=>?_) (fun hc=>?_);simp only[kV2]at hc;refine Ob (bN (Q:=fun x=>x∈l/\l[i.toNat]? =some x) h0 hc (fun x a b=>⟨a,b⟩)) fun x d=>?_;obtain⟨b,hb⟩:=hg x d.1;rw[hb];cases b with
 |true=>exact .mk ⟨h0,hc,x,d.2,hb⟩
 |false=>
  rw[kQ2,bB (by omega) (by omega)];refine .mk ⟨⟨by omega,by omega,fun j c y hy=>?_⟩,by omega⟩;by_cases e:j=i.toNat
  subst e;rw[d.2]at hy;cases hy;exact hb;exact h2 j (by omega) y hy
 simp only[kV2]at hc;refine .mk (fun x d=>?_);obtain⟨j,c⟩:=lH2.1 d;have:=(kM2.1 c).1;exact h2 j (by omega) x c;cases r with
 |inl v=>exact .mk (.inr hr)
 |inr u=>exact .mk (.inl ⟨rfl,hr⟩)
end Go.P
namespace Go.P
structure YY.b (x:YY):Prop where
 Text:x.Text.size<9223372036854775808
structure YE.b (x:YE):Prop where
 Heads:x.Heads.length<9223372036854775808
 Graces:x.Graces.length<9223372036854775808
 Lyrics:x.Lyrics.length<9223372036854775808
 LyricsE:∀y∈x.Lyrics,y.b
structure YO.b (x:YO):Prop where
 Events:x.Events.length<9223372036854775808
 EventsE:∀y∈x.Events,y.b
 Tuplets:x.Tuplets.length<9223372036854775808
structure YW.b (x:YW):Prop where
 Clefs:x.Clefs.length<9223372036854775808
 Voices:x.Voices.length<9223372036854775808
 VoicesE:∀y∈x.Voices,y.b
structure YM.b (x:YM):Prop where
 Rehearsal:x.Rehearsal.size<9223372036854775808
 Tempi:x.Tempi.length<9223372036854775808
 Cells:x.Cells.length<9223372036854775808
 CellsE:∀y∈x.Cells,y.b
structure YJ.b (x:YJ):Prop where
 Name:x.Name.size<9223372036854775808
 Staves:x.Staves.length<9223372036854775808
structure Y0.b (x:Y0):Prop where
 Title:x.Title.size<9223372036854775808
 Parts:x.Parts.length<9223372036854775808
 PartsE:∀y∈x.Parts,y.b
 Measures:x.Measures.length<9223372036854775808
 MeasuresE:∀y∈x.Measures,y.b
 Spanners:x.Spanners.length<9223372036854775808
 Last:x.Last.length<9223372036854775808
structure YY.sm (x:YY):Prop where
 Text:x.Text.size<=300
structure YE.sm (x:YE):Prop where
 Heads:x.Heads.length<=12
 Graces:x.Graces.length<=12
 Lyrics:x.Lyrics.length<=12
 LyricsE:∀y∈x.Lyrics,y.sm
structure YO.sm (x:YO):Prop where
 Events:x.Events.length<=20
 EventsE:∀y∈x.Events,y.sm
 Tuplets:x.Tuplets.length<=6
structure YW.sm (x:YW):Prop where
 Clefs:x.Clefs.length<=5
 Voices:x.Voices.length<=3
 VoicesE:∀y∈x.Voices,y.sm
structure YM.sm (x:YM):Prop where
 Rehearsal:x.Rehearsal.size<=300
 Tempi:x.Tempi.length<=5
 Cells:x.Cells.length<=5
 CellsE:∀y∈x.Cells,y.sm
structure YJ.sm (x:YJ):Prop where
 Name:x.Name.size<=300
 Staves:x.Staves.length<=5
structure Y0.sm (x:Y0):Prop where
 Title:x.Title.size<=300
 Parts:x.Parts.length<=4
 PartsE:∀y∈x.Parts,y.sm
 Measures:x.Measures.length<=10
 MeasuresE:∀y∈x.Measures,y.sm
 Spanners:x.Spanners.length<=10
 Last:x.Last.length<=5
end Go.P
namespace Go.P
theorem sU {A E:Type} {l:aA A} {body:Int->aB (Int⊕E)} {Q:E->Prop} (P:A->Prop) (hl:l.length<9223372036854775808)
  (h:∀(i:Int) (x:A),0<=i->i<(l.length:Int)->x∈l->aR l i=some x->aU (i+1)=i+1->Ok (body i) (fun r=>match r with|.inl j=>j=i+1/\P x|.inr e=>Q e))
  (a:∀i:Int,i=(l.length:Int)->(∀x∈l,P x)->Ok (body i) (fun r=>match r with|.inl j=>False|.inr e=>Q e)):Ok (aQ body aY 0) Q:=by
 have hl:l.length<9223372036854775808:=hl;refine cV (fun(i:Int)=>0<=i/\i<=l.length/\∀j,j<i.toNat->∀x,l[j]? =some x->P x) (fun i=>l.length-i.toNat) (fun i hi=>?_) aY 0 ⟨by omega,by omega,fun j b=>by simp at b⟩ (by simp[aY];omega);obtain⟨h0,h1,h2⟩:=hi;by_cases c:i<(l.length:Int);have hi:i.toNat<l.length:=by omega
 have hg:aR l i=some l[i.toNat]:=by unfold aR;rw[kT2 h0];simp[hi]
 refine(h i l[i.toNat] h0 c (mT2 hi) hg (bB (by omega) (by omega))).mono fun r hr=>?_;cases r with
 |inl j=>
  obtain⟨rfl,hp⟩:=hr;refine⟨⟨by omega,by omega,fun j b y hy=>?_⟩,by omega⟩;by_cases e:j=i.toNat
  subst e;rw[lV2 hi]at hy;cases hy;exact hp;exact h2 j (by omega) y hy
 |inr e=>exact hr
 refine(a i (by omega) (fun x d=>?_)).mono fun r hr=>?_;obtain⟨j,b⟩:=lH2.1 d;have:=(kM2.1 b).1;exact h2 j (by omega) x b;cases r with
 |inl j=>exact hr.elim
 |inr e=>exact hr
theorem U33 {v:YO} (hv:v.b):Ok (F16 v) (fun r=>r=true->v.sm):=by
 unfold F16;refine Ob (P:=fun r=>match r with|.inl _=>True|.inr _=>∀e∈v.Events,e.sm) (sU (fun e=>e.sm) hv.Events (fun i x h0 h1 c hg hw=>?_) (fun i hi hp=>?_)) fun r hr=>?_;simp only[h1,mH2,lO2,hg,kQ2];refine Oi (fun hc=>.mk trivial) (fun hc=>?_);have a:=hv.EventsE x c;simp only[lB2,kV2,nI2]at hc;refine Ob (P:=fun r=>match r with|.inl _=>True|.inr _=>∀e∈x.Lyrics,e.sm) (sU (fun e=>e.sm) a.Lyrics (fun k y j d hy f g=>?_) (fun k hk hp=>?_)) fun r hr=>?_;simp only[d,mH2,lO2,f,kQ2];refine Oi (fun hd=>.mk trivial) (fun hd=>?_);rw[g];exact .mk ⟨rfl,⟨by simp at hd;omega⟩⟩;simp only[hk,Int.lt_irrefl,mQ2,kX2,lQ2];exact .mk hp;cases r with
 |inl u=>exact .mk trivial
 |inr u=>simp only;rw[hw];exact .mk ⟨rfl,⟨by omega,by omega,by omega,hr⟩⟩
 simp only[hi,Int.lt_irrefl,mQ2,kX2,lQ2];exact .mk hp;cases r with
 |inl u=>exact .mk (fun h=>by cases h)
 |inr u=>
  refine .mk (fun h=>?_);simp only[kL2,kV2]at h;exact⟨by omega,hr,by omega⟩
end Go.P
namespace Go.P
theorem bE {A S E:Type} {l:aA A} {body:S->aB (S⊕E)} {Q:E->Prop} {s0:S} (a:S->Int) (I:Nat->S->Prop) (hl:l.length<9223372036854775808) (h0:a s0=0) (f:I 0 s0)
  (h:∀(i:Nat) (x:A) (s:S),l[i]? =some x->x∈l->a s=(i:Int)->a s<(l.length:Int)->I i s->aR l (a s)=some x->aU (a s+1)=(i:Int)+1->Ok (body s) (fun r=>match r with|.inl s'=>a s'=(i:Int)+1/\I (i+1) s'|.inr e=>Q e))
  (b:∀s,a s=(l.length:Int)->I l.length s->Ok (body s) (fun r=>match r with|.inl _=>False|.inr e=>Q e)):Ok (aQ body aY s0) Q:=by
 have hl:l.length<9223372036854775808:=hl;refine cV (fun s=>0<=a s/\a s<=l.length/\I (a s).toNat s) (fun s=>l.length-(a s).toNat) (fun s hi=>?_) aY s0 ⟨by omega,by omega,by rw[h0];exact f⟩ (by simp[aY];omega);obtain⟨g,m,d⟩:=hi;by_cases c:a s<(l.length:Int);have hi:(a s).toNat<l.length:=by omega
 have hc:(((a s).toNat:Nat):Int)=a s:=by omega
 have hg:aR l (a s)=some l[(a s).toNat]:=by unfold aR;rw[kT2 g];simp[hi]
 refine(h (a s).toNat l[(a s).toNat] s (by simp[hi]) (mT2 hi) hc.symm c d hg (by rw[bB (by omega) (by omega)];omega)).mono fun r hr=>?_;cases r with
 |inl s'=>
  obtain⟨k,e2⟩:=hr;refine⟨⟨by omega,by omega,?_⟩,by omega⟩;rw[show(a s').toNat=(a s).toNat+1 by omega];exact e2
 |inr e=>exact hr
 refine(b s (by omega) ?_).mono fun r hr=>?_;rw[show(a s).toNat=l.length by omega]at d;exact d;cases r with
 |inl j=>exact hr.elim
 |inr e=>exact hr
theorem dF {A:Type} {g:Bool} {l:aA A} {x:A} (h:l.length<1073741824) {Q:aA A->Prop} (a:Q (l++[x])):Ok (iF g l [x]) Q:=by
 unfold iF;have e:Sim.maxRoom=1073741824:=rfl;rw[kT2 ⟨by rw[e,mA2,kZ2];omega,fun _=>kO2 _⟩];exact .mk a
theorem aD2 {w:Bool} {id:YZ} {l:aA YV} {s:Y0} {r:Int} (h:l.length<1000000):Ok (hZ w id l s r) (fun v=>v.length<=l.length+1):=by
 unfold hZ;refine Ob (P:=fun v=>v.length<=l.length+1) (Oi (fun _=>Ob (dF (Q:=fun v=>v.length<=l.length+1) (by omega) (by simp)) fun v hv=>.mk hv) (fun _=>.mk (by omega))) fun v hv=>.mk hv
theorem iR1 (n a b:Int):yR n a b=some (decide (n>=a)&&decide (n<=b)):=rfl
theorem aE2 (i:YL):F64 i=some (if((((decide (i.Steps<(-77)))||(decide (i.Steps>77)))||(decide (i.Semitones<(-140))))||(decide (i.Semitones>140)))then 2 else 0):=by
 unfold F64;split<;>rfl
theorem qT1 {s:ByteArray} (h:s.size<9223372036854775808):Ok (F62 s) (fun _=>True):=by
 unfold F62;refine Ob (P:=fun _=>True) (Oi (fun _=>?_) (fun _=>.mk trivial)) fun v hv=>.mk hv
 have:Ok (Pi s.data.toList) (fun _=>True):=by
  unfold Pi;refine Ob (dJ1 (l:=s.data.toList) (g:=fun b=>Ul (b.toNat:Int)) (by rw[nS2];exact h) (fun x _=>⟨_,rfl⟩)) fun v hv=>.mk trivial
 exact Ob this fun v hv=>.mk trivial
end Go.P
namespace Go.P
section
variable {α β:Type} {Q:α->Prop}
theorem Ok.bindE {P:β->Prop} {x:aB β} {k:β->aB α} (h:Ok x P) (hk:∀v,x=some v->P v->Ok (k v) Q):Ok (x.bind k) Q:=by
 obtain⟨v,rfl,hv⟩:=h;exact hk v rfl hv
theorem Ok.of {x:aB α} (h:Ok x Q) {v:α} (hv:x=some v):Q v:=by
 obtain⟨w,h1,h2⟩:=h;rw[h1]at hv;cases hv;exact h2
theorem rM {k:IntKind} {a b:Int} (h:b≠0):Ok (Gm k a b) (fun v=>v=k.wrap (a.tdiv b)):=by
 unfold Gm;rw[kR2 h];exact .mk rfl
theorem De {k:IntKind} {a b:Int} (h:b≠0):Ok (Tz k a b) (fun v=>v=a.tmod b):=by
 unfold Tz;rw[kR2 h];exact .mk rfl
theorem rN {k:IntKind} {a b:Int} (h:0<=b):Ok (rE k a b) (fun v=>v=a.fdiv (2^min b.toNat k.bits)):=by
 unfold rE;rw[kR2 (by omega)];exact .mk rfl
theorem Mr {k:IntKind} {a b:Int} (h:0<=b):Ok (Yu k a b) (fun _=>True):=by
 unfold Yu;rw[kR2 (by omega)];exact .mk trivial
end
section
variable {A:Type} {l:List A}
theorem eP {i:Int} (h0:0<=i) (h1:i<(l.length:Int)):Ok (cF l i) (fun v=>v=i.toNat/\v<l.length):=by
 unfold cF oS;rw[kT2 ⟨h0,h1⟩];exact .mk ⟨rfl,by omega⟩
theorem iA {j:Nat} (h:j<l.length):Ok (dA l j) (fun x=>l[j]? =some x/\x∈l):=by
 unfold dA;rw[lV2 h];exact .mk ⟨rfl,mT2 h⟩
theorem rO {j:Nat} {f:A->A} (h:j<l.length):Ok (kW l j f) (fun m=>m.length=l.length):=by
 unfold kW;rw[lV2 h];exact .mk (by simp)
theorem jW {n c:Int} {z:A} (h0:0<=n) (h1:n<=c) (h2:c<=1073741824):Ok (uB n c z) (fun v=>v=List.replicate n.toNat z):=by
 unfold uB;rw[kT2 ⟨h0,h1,h2⟩];exact .mk rfl
theorem Ao {a b:Int} (h0:0<=a) (h1:a<=b) (h2:b<=(l.length:Int)):Ok (mE l a b) (fun v=>v.length<=l.length/\∀x∈v,x∈l):=by
 unfold mE;rw[kT2 ⟨h0,h1,h2⟩];exact .mk ⟨by simp;omega,fun x c=>List.mem_of_mem_drop (List.mem_of_mem_take c)⟩
theorem Qd {h:Int} (_:0<l.length) (h1:0<=h) (h2:h<=(l.length:Int)):Ok (xQ l h) (fun v=>v.length=h.toNat/\∀x∈v,x∈l):=by
 unfold xQ;rw[kT2 ⟨h1,h2⟩];exact .mk ⟨by simp;omega,fun x a=>List.mem_of_mem_take a⟩
theorem eU {i:Int} {x:A} (h:aR l i=some x):0<=i/\i<(l.length:Int)/\x∈l/\l[i.toNat]? =some x:=by
 unfold aR at h;split at h;obtain⟨hi,_⟩:=kM2.1 h;exact⟨by omega,by omega,kY2 h,h⟩;cases h
end
theorem sW {s:ByteArray} {i:Int} (h0:0<=i) (h1:i<(s.size:Int)):Ok (nJ s i) (fun v=>0<=v/\v<=255):=by
 unfold nJ;rw[kT2 h0];have h:i.toNat<s.data.toList.length:=by rw[nS2];show i.toNat<s.size;omega
 rw[lV2 h];have:=(s.data.toList[i.toNat]).toNat_lt;exact .mk ⟨by dsimp only;omega,by dsimp only;omega⟩
theorem sX {A:Type} {l:aA A} (h:l.length<=1073741824):pN l=some l:=by
 unfold pN;rw[Nat.ble_eq_true_of_le h];rfl
theorem nm:(∀a b:Bool,((a||b)=true)=(a=true\/b=true))/\(∀a b:Bool,((a&&b)=true)=(a=true/\b=true))/\(∀b:Bool,((!b)=true)=(b=false))/\(∀(p:Prop) [Decidable p],(decide p=true)=p)/\
  (∀(p:Prop) [Decidable p],(decide p=false)=¬p)/\(∀p q:Prop,(¬(p\/q))=(¬p/\¬q))/\(∀p q:Prop,(¬(p/\q))=(p->¬q))/\(∀b:Bool,(¬b=true)=(b=false))/\(∀a b:Int,((a !=b)=true)=¬a=b)/\
  (∀a b:Int,((a==b)=true)=(a=b))/\(∀p:Prop,(¬¬p)=p):=
 ⟨fun a b=>by simp,fun a b=>by simp,fun b=>by simp,fun p _=>by simp,fun p _=>by simp,fun p q=>by simp,fun p q=>by simp,fun b=>by simp,fun a b=>by simp,fun a b=>by simp,fun p=>by simp⟩
theorem nl {A:Type}:(∀(a:A) (l:aA A),(a::l).length=l.length+1)/\([]:aA A).length=0:=⟨fun _ _=>rfl,rfl⟩
theorem nt:(∀[Decidable True],decide True=true)/\(∀(α:Type) [Decidable True] (a b:α),(if True then a else b)=a)/\∀(α β:Type) (a:α) (f:α->aB β),(some a).bind f=f a:=⟨mH2 _,fun _ _ _ _=>lO2 ..,fun _ _ _ _=>rfl⟩
theorem nf:(∀a:Int,(a<a)=False)/\(∀[Decidable False],decide False=false)/\((false=true)=False)/\∀(α:Type) [Decidable False] (a b:α),(if False then a else b)=b:=⟨fun a=>by simp,mQ2 _,by simp,fun _ _ _ _=>lQ2 ..⟩
theorem bQ {α β:Type} {Q:α->Prop} {x:aB β} {k:β->aB α} (h:Ok x fun _=>True) (hk:∀v,Ok (k v) Q):Ok (x.bind k) Q:=Ob h fun v _=>hk v
theorem oI {A S E β:Type} {l:aA A} {body:S->aB (S⊕E)} {s0:S} {k:E->aB β} {Q:β->Prop} (a:S->Int) (hl:l.length<9223372036854775808) (h0:a s0=0)
  (h:∀(i:Nat) (x:A) (s:S),x∈l->a s=(i:Int)->a s<(l.length:Int)->aR l (a s)=some x->aU (a s+1)=(i:Int)+1->Ok (body s) (fun r=>match r with|.inl s'=>a s'=(i:Int)+1|.inr _=>True))
  (b:∀s,a s=(l.length:Int)->Ok (body s) (fun r=>match r with|.inl _=>False|.inr _=>True)) (hk:∀e,Ok (k e) Q):Ok ((aQ body aY s0).bind k) Q:=
 bQ (bE (l:=l) a (fun _ _=>True) hl h0 trivial (fun i x s _ d hi c _ hg hw=>(h i x s d hi c hg hw).mono fun r hr=>by cases r with|inl s'=>exact⟨hr,trivial⟩|inr e=>trivial) (fun s hi _=>b s hi)) hk
theorem Vu {s:ByteArray} {n:Nat} (h:s.size<=n):s.data.toList.length<=n:=by rw[nS2];exact h
theorem Vv (n:Int): -9223372036854775808<=aU n/\aU n<=9223372036854775807:=by
 have e:aU n=if n%18446744073709551616>=9223372036854775808 then n%18446744073709551616-18446744073709551616 else n%18446744073709551616:=by
  unfold aU IntKind.wrap;rw[show((2:Int)^IntKind.bits .i64)=18446744073709551616 from rfl,show((2:Int)^(IntKind.bits .i64-1))=9223372036854775808 from rfl];simp[IntKind.signed]
 rw[e];split<;>omega
theorem fZ {S E:Type} {body:S->aB (S⊕E)} {Q:E->Prop} {s0:S} (d:S->Int) (N:Int) (I:S->Prop) (g:N<=9223372036854775807) (h0: -1000<=d s0) (f:I s0)
  (h:∀s,I s->d s0<=d s->(d s<N->aU (d s+1)=d s+1)->Ok (body s) (fun r=>match r with|.inl s'=>d s<N/\d s'=d s+1/\I s'|.inr e=>Q e)):Ok (aQ body aY s0) Q:=by
 refine cV (fun s=>I s/\d s0<=d s) (fun s=>(N-d s).toNat) (fun s hs=>?_) aY s0 ⟨f,mP2 _⟩ (by simp only[aY];omega);refine(h s hs.1 hs.2 (fun hc=>bB (by omega) (by omega))).mono fun r hr=>?_;cases r with
 |inl s'=>obtain⟨a,b,c⟩:=hr;exact⟨⟨c,by omega⟩,by omega⟩
 |inr e=>exact hr
theorem dK1 {w:Bool} {id:YZ} {l:aA YV} {s:Y0} {r:Int} (h:l.length<1000000):Ok (hZ w id l s r) (fun v=>(w=true->v.length=l.length+1)/\(w=false->v.length=l.length)):=by
 unfold hZ;refine Ob (P:=fun v=>(w=true->v.length=l.length+1)/\(w=false->v.length=l.length)) (Oi (fun h=>Ob (dF (Q:=fun v=>v.length=l.length+1) (by omega) (by simp)) fun v hv=>.mk ⟨fun _=>hv,fun h2=>by rw[h]at h2;cases h2⟩) (fun h=>.mk ⟨fun h2=>absurd h2 h,fun _=>rfl⟩)) fun v hv=>.mk hv
theorem qU1 (n:Int):0<=IntKind.wrap .u8 n/\IntKind.wrap .u8 n<256:=by
 unfold IntKind.wrap;rw[show((2:Int)^IntKind.bits .u8)=256 from rfl];simp[IntKind.signed];omega
theorem aF2 {l:aA YV} {s:Y0} {r:Int} (hs:s.sm) (h0:s.Measures.length=0) (h:l.length<900000):Ok (Pj l s r) (fun v=>0<v.length):=by
 unfold Pj;have hp:=hs.Parts;refine Ob (P:=fun v=>v.length<=l.length+4) (bE (l:=s.Parts) (fun q=>q.1) (fun i q=>q.2.length<=l.length+i) (by omega) rfl (by simp) (fun i x q m f hi e d hg hw=>?_) (fun q hi d=>?_)) fun v1 h1=>?_;obtain⟨k,j⟩:=q;have g:=hs.PartsE x f;have n:=g.Name;simp only at hi e d hg hw;simp only[e,mH2,lO2,hg,kQ2,iR1,aE2];refine Ob (qT1 (by omega)) fun a _=>?_;refine Ob (P:=fun _=>True) (by split<;>exact .mk trivial) fun b _=>?_;refine Ob (P:=fun _=>True) (by split<;>exact .mk trivial) fun c _=>?_;refine Ob (aD2 (by omega)) fun v hv=>.mk ⟨hw,by dsimp only;omega⟩;obtain⟨k,j⟩:=q;simp only at hi d;simp only[hi,Int.lt_irrefl,mQ2,kX2,lQ2];exact .mk (by omega);refine Ob (P:=fun v=>v.length<=l.length+4) (bE (l:=s.Measures) (fun q=>q.1) (fun i q=>q.2.length<=l.length+4) (by omega) rfl h1 (fun i x q m f hi e d hg hw=>by omega) (fun q hi d=>?_)) fun v1 h1=>?_;obtain⟨k,j⟩:=q;simp only at hi d;simp only[hi,Int.lt_irrefl,mQ2,kX2,lQ2];exact .mk d;have o:=hs.Title;refine Ob (qT1 (by omega)) fun a _=>?_;simp only[iR1,kQ2];refine Ob (P:=fun _=>True) (by split<;>exact .mk trivial) fun b _=>?_;refine Ob (P:=fun r=>r=true) (Oi (fun _=>.mk rfl) (fun _=>.mk (by simp[h0]))) fun c hc=>?_;subst hc;simp only[Bool.true_or];refine Ob (dK1 (by omega)) fun v hv=>.mk (by have:=hv.1 rfl;omega)
def YU.ok (n:Int) (t:YU):Prop:=1<=t.Count/\t.Count<=n/\0<=t.First/\t.First+t.Count<=n/\1<=t.Actual/\t.Actual<=32/\1<=t.Normal/\t.Normal<=32
def Y0.pl (s:Y0) (m c v:Int):Prop:=∃x y z,aR s.Measures m=some x/\aR x.Cells c=some y/\aR y.Voices v=some z
theorem og {A α V:Type} (l:aA A) (v:aA V) (K k:Nat) {body:Int×aA V->aB ((Int×aA V)⊕aA V)} {m:aA V->aB α} {Q:α->Prop} (hl:l.length<9223372036854775808)
  (h:∀(i:Nat) (x:A) (s:Int×aA V),l[i]? =some x->x∈l->s.1=(i:Int)->s.1<(l.length:Int)->(v.length<=s.2.length/\s.2.length<=v.length+i*k)->aR l s.1=some x->aU (s.1+1)=(i:Int)+1->Ok (body s) (fun r=>match r with|.inl s'=>s'.1=(i:Int)+1/\v.length<=s'.2.length/\s'.2.length<=v.length+(i+1)*k|.inr e=>v.length<=e.length/\e.length<=v.length+K))
  (j:∀s,s.1=(l.length:Int)->(v.length<=s.2.length/\s.2.length<=v.length+l.length*k)->Ok (body s) (fun r=>match r with|.inl _=>False|.inr e=>v.length<=e.length/\e.length<=v.length+K))
  (hk:∀r,(v.length<=r.length/\r.length<=v.length+K)->Ok (m r) Q):Ok ((aQ body aY (0,v)).bind m) Q:=
 Ob (P:=fun r=>v.length<=r.length/\r.length<=v.length+K) (bE (l:=l) (fun q=>q.1) (fun i q=>v.length<=q.2.length/\q.2.length<=v.length+i*k) hl rfl ⟨kO2 _,by dsimp only;omega⟩ (fun i x s a b c d e f g=>(h i x s a b c d e f g).mono fun r hr=>by cases r<;>exact hr) (fun s a b=>(j s a b).mono fun r hr=>by cases r<;>exact hr)) hk
end Go.P
set_option maxHeartbeats 1000000
namespace Go.P
theorem U34 {v:YO} (hv:v.b):Ok (F17 v) (fun _=>True):=by
 unfold F17;refine Ob (P:=fun _=>True) (bE (l:=v.Events) (fun q=>q.2) (fun _ _=>True) hv.Events rfl trivial (fun i e q c a hi hl _ hg hw=>?_) (fun q hi _=>?_)) fun v _=>.mk trivial;obtain⟨n,k⟩:=q;dsimp only at hi hl hg hw;simp only[hl,hg,mH2,lO2,kQ2];refine Ob (P:=fun _=>True) (bE (l:=e.Lyrics) (fun q=>q.2) (fun _ _=>True) (hv.EventsE e a).Lyrics rfl trivial (fun i e q c a hi hl _ hg hw=>?_) (fun q hi _=>?_)) fun x _=>.mk ⟨hw,trivial⟩;obtain⟨n,k⟩:=q;dsimp only at hi hl hg hw;simp only[hl,hg,mH2,lO2,kQ2];exact .mk ⟨hw,trivial⟩;obtain⟨n,k⟩:=q;dsimp only at hi;simp only[hi,Int.lt_irrefl,mQ2,kX2,lQ2];exact .mk trivial;obtain⟨n,k⟩:=q;dsimp only at hi;simp only[hi,Int.lt_irrefl,mQ2,kX2,lQ2];exact .mk trivial
theorem U13 {s:Y0} (hb:s.b):Ok (F6 s) (fun r=>r=true->s.sm):=by
 unfold F6;refine Ob (P:=fun r=>match r with|.inl _=>True|.inr _=>∀p∈s.Parts,p.sm) (sU (l:=s.Parts) (fun p=>p.sm) hb.Parts (fun i p h0 h1 d hg hw=>?_) (fun i hi o=>?_)) fun r hr=>?_;simp only[h1,hg,hw,mH2,lO2,kQ2];refine Ob (P:=fun b=>b=true\/p.sm) (Oi (fun _=>.mk (.inl rfl)) (fun hc=>.mk ?_)) fun b hb=>?_;simp only[kV2]at hc;by_cases h:(p.Name.size:Int)>300;exact .inl (by simpa using h);exact .inr ⟨by omega,by omega⟩;exact Oi (fun _=>.mk trivial) (fun hc=>.mk ⟨rfl,hb.resolve_left hc⟩);simp only[hi,Int.lt_irrefl,mQ2,kX2,lQ2];exact .mk o;rcases r with _|_;exact .mk (fun h=>by cases h);refine Ob (P:=fun r=>match r with|.inl _=>True|.inr _=>∀m∈s.Measures,m.sm) (bE (l:=s.Measures) (fun q=>q.2.2) (fun i q=>∀m∈s.Measures.take i,m.sm) hb.Measures rfl (fun m j=>by simp at j) (fun i m q d j hi hl g hg hw=>?_) (fun q hi g=>?_)) fun r B=>?_;obtain⟨ev,by',k⟩:=q;have F:=hb.MeasuresE m j;dsimp only at hi hl hg hw;simp only[hl,hg,mH2,lO2,kQ2];refine Oi (fun _=>.mk trivial) (fun hc=>?_);simp only[lB2,kV2,nI2]at hc;refine Ob (P:=fun r=>match r with|.inl _=>True|.inr _=>∀c∈m.Cells,c.sm) (bE (l:=m.Cells) (fun q=>q.2.2) (fun i q=>∀c∈m.Cells.take i,c.sm) F.Cells rfl (fun m j=>by simp at j) (fun i c q C z hi hl w hg t=>?_) (fun q hi g=>?_)) fun r hr=>?_;obtain⟨ev,by',k⟩:=q;have E:=F.CellsE c z;dsimp only at hi hl hg t;simp only[hl,hg,mH2,lO2,kQ2];refine Ob (P:=fun b=>b=true\/(c.Clefs.length<=5/\c.Voices.length<=3)) (Oi (fun _=>.mk (.inl rfl)) (fun hc=>.mk ?_)) fun b hb=>?_;simp only[kV2]at hc;by_cases h:(c.Voices.length:Int)>3;exact .inl (by simpa using h);exact .inr ⟨by omega,by omega⟩;refine Oi (fun _=>.mk trivial) (fun hcc=>?_);have hcc:=hb.resolve_left hcc;refine Ob (P:=fun r=>match r with|.inl _=>True|.inr _=>∀v∈c.Voices,v.sm) (bE (l:=c.Voices) (fun q=>q.2.2) (fun i q=>∀v∈c.Voices.take i,v.sm) E.Voices rfl (fun m j=>by simp at j) (fun i v q D A hi hl g hg u=>?_) (fun q hi g=>?_)) fun r hr=>?_;obtain⟨ev,by',k⟩:=q;have bv:=E.VoicesE v A;dsimp only at hi hl hg u;simp only[hl,hg,mH2,lO2,kQ2];refine Ob (U33 bv) fun f hf=>?_;refine Oi (fun _=>.mk trivial) (fun y=>?_);refine Ob (U34 bv) fun n _=>?_;refine Oi (fun _=>.mk trivial) (fun _=>.mk ⟨u,fun x d=>?_⟩);rw[List.take_add_one,D]at d;rcases mL2.1 d with d|d;exact g x d;simp at d;subst d;exact hf (by simpa using y);obtain⟨ev,by',k⟩:=q;dsimp only at hi;simp only[hi,Int.lt_irrefl,mQ2,kX2,lQ2];rw[nB2]at g;exact .mk g;rcases r with⟨a,b⟩|⟨a,b⟩
 exact .mk trivial;refine .mk ⟨t,fun x d=>?_⟩;rw[List.take_add_one,C]at d;rcases mL2.1 d with d|d;exact w x d;simp at d;subst d;exact⟨hcc.1,hcc.2,hr⟩;obtain⟨ev,by',k⟩:=q;dsimp only at hi;simp only[hi,Int.lt_irrefl,mQ2,kX2,lQ2];rw[nB2]at g;exact .mk g;rcases r with⟨a,b⟩|⟨a,b⟩
 exact .mk trivial;refine .mk ⟨hw,fun x e=>?_⟩;rw[List.take_add_one,d]at e;rcases mL2.1 e with e|e;exact g x e;simp at e;subst e;exact⟨by omega,by omega,by omega,hr⟩;obtain⟨ev,by',k⟩:=q;dsimp only at hi;simp only[hi,Int.lt_irrefl,mQ2,kX2,lQ2];rw[nB2]at g;exact .mk g;rcases r with _|_;exact .mk (fun h=>by cases h);refine .mk (fun h=>?_);simp only[kL2,kV2]at h;exact⟨by omega,by omega,hr,by omega,B,by omega,by omega⟩
end Go.P
set_option maxHeartbeats 2000000
namespace Go.P
theorem aG2 {a:Int}:Ok (Ul a) (fun _=>True):=by
 unfold Ul;exact aX
theorem aH2 {f:aA UInt8} (a:f.length<=300):Ok (Zd f) (fun _=>True):=by
 unfold Zd;have g:=a;refine oI (l:=f) (fun q=>q) (kP2 a (by decide)) rfl (fun m k i h b d c e=>?_) (fun i b=>?_) fun j=>?_;simp only[d,c,nt];refine bQ (aG2) fun n=>?_;refine Oi (fun c13=>?_) (fun c13=>?_);exact aX;exact .mk e;simp only[b,nf];exact aX;rcases j with o|_;exact aX;exact aX
theorem aI2 {b:aA UInt8} (a:b.length<=300):Ok (Pi b) (fun _=>True):=by
 unfold Pi;refine bQ (aH2 a) fun c=>?_;exact aX
theorem T62 {b:ByteArray} (a:b.size<=300):Ok (F62 b) (fun _=>True):=by
 unfold F62;refine Ob (P:=fun r=>r=true->(decide ((b.size:Int)<=256))=true) ?_ fun e c=>?_;refine Oi (fun c16=>?_) (fun _=>.mk (fun h=>by cases h));refine bQ (aI2 (Vu a)) fun d=>?_;exact .mk (fun _=>c16);exact aX
theorem Hq {a b c:Int}:Ok (yR a b c) (fun _=>True):=by
 unfold yR;exact aX
theorem T64 {a:YL}:Ok (F64 a) (fun _=>True):=by
 unfold F64;refine Oi (fun c18=>?_) (fun c18=>?_);exact aX;exact aX
theorem jY {b:Bool} {f:YZ} {a:aA YV} {c:Y0} {g:Int} (d:a.length+1<=1000000) (e:c.sm):Ok (hZ b f a c g) (fun v=>a.length<=v.length/\v.length<=a.length+1):=by
 exact(dK1 (by omega)).mono fun v h=>by cases b<;>simp at h<;>omega
theorem qV1 {E:aA YV} {F:Y0} {x3:Int} (d2:E.length+15<=1000000) (a:F.sm):Ok (Pj E F x3) (fun v=>E.length<=v.length/\v.length<=E.length+15):=by
 unfold Pj;have b0:=a.Parts;refine og F.Parts E 4 1 (kP2 a.Parts (by decide)) (fun d8 b9 q30 b7 A c o g m u=>?_) (fun q30 c g=>?_) fun S z19=>?_;obtain⟨M,N⟩:=q30;dsimp only at c o m u g;simp only[o,m,nt];have L:=a.PartsE _ A;refine bQ (T62 L.Name) fun O=>?_;refine Ob (P:=fun r=>¬r=true->¬(!O)=true) ?_ fun R J=>?_;refine Oi (fun _=>.mk (fun h=>absurd rfl h)) (fun c35=>?_);refine bQ (Hq) fun e6=>?_;exact .mk (fun _=>c35);refine Ob (P:=fun r=>¬r=true->¬R=true) ?_ fun e8 d3=>?_;refine Oi (fun _=>.mk (fun h=>absurd rfl h)) (fun c38=>?_);have e3:=J c38;refine bQ (T64) fun e7=>?_;exact .mk (fun _=>c38);refine Ob (jY (by first|omega|(simp only[kZ2]at *;omega)) a) fun e9 d4=>?_;exact .mk ⟨u,by dsimp only;omega⟩;obtain⟨M,N⟩:=q30;dsimp only at c g;simp only[c,nf];exact .mk (by dsimp only;omega);have b4:=a.Measures;refine og F.Measures S 10 1 (kP2 a.Measures (by decide)) (fun d9 G q53 b8 B d p i b w=>?_) (fun q53 d i=>?_) fun f6 g3=>?_;obtain⟨T,U⟩:=q53;dsimp only at d p b w i;simp only[p,b,nt];have k:=a.MeasuresE _ B;refine bQ (T62 k.Rehearsal) fun f1=>?_;have b5:=k.Cells;refine oI (l:=G.Cells) (fun q=>q.2) (kP2 k.Cells (by decide)) rfl (fun e0 H q67 C e s j x=>?_) (fun q67 e=>?_) fun f4=>?_;obtain⟨V,W⟩:=q67;dsimp only at e s j x;simp only[s,b,j,nt];have z:=k.CellsE _ C;have b6:=z.Voices;refine oI (l:=H.Voices) (fun q=>q.2) (kP2 z.Voices (by decide)) rfl (fun e1 d1 q80 D f t n y=>?_) (fun q80 f=>?_) fun f2=>?_;obtain⟨X,Y⟩:=q80;dsimp only at f t n y;simp only[t,b,j,n,nt];have e5:=z.VoicesE _ D;exact .mk y;obtain⟨X,Y⟩:=q80;dsimp only at f;simp only[f,nf];exact aX;exact .mk x;obtain⟨V,W⟩:=q67;dsimp only at e;simp only[e,nf];exact aX;refine Ob (jY (by first|omega|(simp only[kZ2]at *;omega)) a) fun f5 d5=>?_;exact .mk ⟨w,by dsimp only;omega⟩;obtain⟨T,U⟩:=q53;dsimp only at d i;simp only[d,nf];exact .mk (by dsimp only;omega);refine bQ (T62 a.Title) fun Z=>?_;refine Ob (P:=fun r=>¬r=true->¬(!Z)=true) ?_ fun a0 K=>?_;refine Oi (fun _=>.mk (fun h=>absurd rfl h)) (fun c86=>?_);refine bQ (Hq) fun f7=>?_;exact .mk (fun _=>c86);refine Ob (P:=fun r=>¬r=true->¬a0=true) ?_ fun f9 d6=>?_;refine Oi (fun _=>.mk (fun h=>absurd rfl h)) (fun c89=>?_);have e4:=K c89;refine bQ (Hq) fun f8=>?_;exact .mk (fun _=>c89);refine Ob (jY (by first|omega|(simp only[kZ2]at *;omega)) a) fun g1 d7=>?_;exact .mk (by omega)
theorem qW1 {a:Y0} (b:a.sm):Ok (Mf a) (fun _=>True):=by
 unfold Mf;exact aX
theorem iS1 {f h:Int} {i j:Int} {k l m:Int} {b:YJ} {a:aA YZ} (c:b.sm) (e:a.length+1<=1000000):Ok (Cc f h i j k l m b a) (fun v=>v.length<=a.length+1):=by
 unfold Cc;refine Ob (dF (Q:=fun v=>v.length=a.length+1) (by omega) (by simp)) fun g d=>?_;exact .mk (by omega)
theorem Vw {d f:Int} {g h:Int} {i j k:Int} {l:YF} {a:aA YZ} (c:a.length+1<=1000000):Ok (rH d f g h i j k l a) (fun v=>v.length<=a.length+1):=by
 unfold rH;refine Ob (dF (Q:=fun v=>v.length=a.length+1) (by omega) (by simp)) fun e b=>?_;exact .mk (by omega)
theorem Vx {f h:Int} {i j:Int} {k l m:Int} {b:YM} {a:aA YZ} (c:b.sm) (e:a.length+1<=1000000):Ok (rI f h i j k l m b a) (fun v=>v.length<=a.length+1):=by
 unfold rI;refine Ob (dF (Q:=fun v=>v.length=a.length+1) (by omega) (by simp)) fun g d=>?_;exact .mk (by omega)
theorem Vy {f h:Int} {i j:Int} {k l m:Int} {b:YE} {a:aA YZ} (c:b.sm) (e:a.length+1<=1000000):Ok (rJ f h i j k l m b a) (fun v=>v.length<=a.length+1):=by
 unfold rJ;refine Ob (dF (Q:=fun v=>v.length=a.length+1) (by omega) (by simp)) fun g d=>?_;exact .mk (by omega)
theorem Vz {d f:Int} {g h:Int} {i j k:Int} {l:YN} {a:aA YZ} (c:a.length+1<=1000000):Ok (rK d f g h i j k l a) (fun v=>v.length<=a.length+1):=by
 unfold rK;refine Ob (dF (Q:=fun v=>v.length=a.length+1) (by omega) (by simp)) fun e b=>?_;exact .mk (by omega)
theorem qX1 {x1:Y0} {x2:aA YZ} (k:x1.sm) (j8:x2.length+3044<=1000000):Ok (Mg x1 x2) (fun v=>v.length<=x2.length+3044):=by
 unfold Mg;have e7:=k.Parts;refine Ob (P:=fun r=>r.length<=x2.length+24) (bE (l:=x1.Parts) (fun q=>q.2.1) (fun i q=>q.2.2.length<=x2.length+i*6) (kP2 k.Parts (by decide)) rfl (by dsimp only;omega) (fun j9 b7 q109 f6 a0 c C m w K=>?_) (fun q109 c m=>?_)) fun e3 k3=>?_;obtain⟨g5,g6,g7⟩:=q109;dsimp only at c C w K m;simp only[C,w,nt];have T:=k.PartsE _ a0;refine Ob (iS1 T (by first|omega|(simp only[kZ2]at *;omega))) fun e1 h5=>?_;have e8:=T.Staves;refine Ob (P:=fun r=>r.2.length<=e1.length+5) (bE (l:=b7.Staves) (fun q=>q.2.1) (fun i q=>q.2.2.length<=e1.length+i*1) (kP2 T.Staves (by decide)) rfl (by dsimp only;omega) (fun i0 h2 q125 f7 e5 d D n z L=>?_) (fun q125 d n=>?_)) fun⟨k1,k2⟩ e4=>?_;obtain⟨g8,g9,h0⟩:=q125;dsimp only at d D z L n;simp only[D,w,z,nt];refine Ob (Vw (by first|omega|(simp only[kZ2]at *;omega))) fun k0 h6=>?_;exact .mk ⟨L,by dsimp only;omega⟩;obtain⟨g8,g9,h0⟩:=q125;dsimp only at d n;simp only[d,nf];exact .mk (by dsimp only;omega)
 try dsimp only at e4
 exact .mk ⟨K,by dsimp only;omega⟩;obtain⟨g5,g6,g7⟩:=q109;dsimp only at c m;simp only[c,nf];exact .mk (by dsimp only;omega);have e9:=k.Measures;refine Ob (P:=fun r=>r.length<=e3.length+3010) (bE (l:=x1.Measures) (fun q=>q.1) (fun i q=>q.2.length<=e3.length+i*301) (kP2 k.Measures (by decide)) rfl (by dsimp only;omega) (fun i1 b8 q140 f8 b0 e E o a M=>?_) (fun q140 e o=>?_)) fun Z j3=>?_;obtain⟨d3,d4⟩:=q140;dsimp only at e E a M o;simp only[E,a,nt];have y:=k.MeasuresE _ b0;refine Ob (Vx y (by first|omega|(simp only[kZ2]at *;omega))) fun Y h7=>?_;have f1:=y.Cells;refine Ob (P:=fun r=>r.length<=Y.length+300) (bE (l:=b8.Cells) (fun q=>q.1) (fun i q=>q.2.length<=Y.length+i*60) (kP2 y.Cells (by decide)) rfl (by dsimp only;omega) (fun i2 b9 q156 f9 b4 f F p b N=>?_) (fun q156 f p=>?_)) fun j0 j4=>?_;obtain⟨d5,W⟩:=q156;dsimp only at f F b N p;simp only[F,a,b,nt];have U:=y.CellsE _ b4;have f2:=U.Voices;refine Ob (P:=fun r=>r.length<=W.length+60) (bE (l:=b9.Voices) (fun q=>q.1) (fun i q=>q.2.length<=W.length+i*20) (kP2 U.Voices (by decide)) rfl (by dsimp only;omega) (fun i3 d1 q171 g1 b5 g G s x O=>?_) (fun q171 g s=>?_)) fun i9 j5=>?_;obtain⟨d6,X⟩:=q171;dsimp only at g G x O s;simp only[G,a,b,x,nt];have V:=U.VoicesE _ b5;have f4:=V.Events;refine Ob (P:=fun r=>r.length<=X.length+20) (bE (l:=d1.Events) (fun q=>q.1) (fun i q=>q.2.length<=X.length+i*1) (kP2 V.Events (by decide)) rfl (by dsimp only;omega) (fun i4 h3 q187 g3 b6 h H t A R=>?_) (fun q187 h t=>?_)) fun i7 j6=>?_;obtain⟨d7,d8⟩:=q187;dsimp only at h H A R t;simp only[H,a,b,x,A,nt];have d2:=V.EventsE _ b6;refine Ob (Vy d2 (by first|omega|(simp only[kZ2]at *;omega))) fun i6 h8=>?_;exact .mk ⟨R,by dsimp only;omega⟩;obtain⟨d7,d8⟩:=q187;dsimp only at h t;simp only[h,nf];exact .mk (by dsimp only;omega);exact .mk ⟨O,by dsimp only;omega⟩;obtain⟨d6,X⟩:=q171;dsimp only at g s;simp only[g,nf];exact .mk (by dsimp only;omega);exact .mk ⟨N,by dsimp only;omega⟩;obtain⟨d5,W⟩:=q156;dsimp only at f p;simp only[f,nf];exact .mk (by dsimp only;omega);exact .mk ⟨M,by dsimp only;omega⟩;obtain⟨d3,d4⟩:=q140;dsimp only at e o;simp only[e,nf];exact .mk (by dsimp only;omega);have f5:=k.Spanners;refine Ob (P:=fun r=>r.length<=Z.length+10) (bE (l:=x1.Spanners) (fun q=>q.1) (fun i q=>q.2.length<=Z.length+i*1) (kP2 k.Spanners (by decide)) rfl (by dsimp only;omega) (fun i5 h4 q205 g4 e6 j J u B S=>?_) (fun q205 j u=>?_)) fun j2 j7=>?_;obtain⟨d9,e0⟩:=q205;dsimp only at j J B S u;simp only[J,B,nt];refine Ob (Vz (by first|omega|(simp only[kZ2]at *;omega))) fun j1 h9=>?_;exact .mk ⟨S,by dsimp only;omega⟩;obtain⟨d9,e0⟩:=q205;dsimp only at j u;simp only[j,nf];exact .mk (by dsimp only;omega);exact .mk (by omega)
theorem T65 {c:Y0} (a:c.sm):Ok (F65 c) (fun v=>v.length<=4000):=by
 unfold F65;refine bQ (qW1 a) fun _=>?_;refine Ob (qX1 a (by first|omega|(simp only[kZ2]at *;omega))) fun d b=>?_;exact .mk (by simp only[kZ2]at *;omega)
theorem T66 {b:YZ}:Ok (F66 b) (fun _=>True):=by
 unfold F66;refine bQ (Hq) fun c=>?_;refine Ob (P:=fun r=>r=true->c=true) ?_ fun e a=>?_;refine Oi (fun c212=>?_) (fun _=>.mk (fun h=>by cases h));refine bQ (Hq) fun d=>?_;exact .mk (fun _=>c212);exact aX
theorem T67 {h:Y0} {k:Int} (e:h.sm):Ok (F67 h k) (fun _=>True):=by
 unfold F67;have g:=e.Last;refine oI (l:=h.Last) (fun q=>q) (kP2 e.Last (by decide)) rfl (fun j i m f a c b d=>?_) (fun m a=>?_) fun n=>?_;simp only[c,b,nt];refine Oi (fun c225=>?_) (fun c225=>?_);exact aX;exact .mk d;simp only[a,nf];exact aX;rcases n with o|_;exact aX;exact aX
theorem qY1 {o:aA YV} {z:Y0} {x3:Int} (X:o.length+4001<=1000000) (c:z.sm):Ok (Zf o z x3) (fun v=>o.length<=v.length/\v.length<=o.length+4001):=by
 unfold Zf;refine Ob (T65 c) fun x4 n=>?_;have D:=n;refine Ob (P:=fun r=>o.length<=r.2.length/\r.2.length<=o.length+4000) (bE (l:=x4) (fun q=>q.1) (fun i q=>o.length<=q.2.2.length/\q.2.2.length<=o.length+i*1) (kP2 n (by decide)) rfl (by dsimp only;omega) (fun U p q238 G A a g d e k=>?_) (fun q238 a d=>?_)) fun⟨b0,b4⟩ y=>?_;obtain⟨H,t,J⟩:=q238;dsimp only at a g e k d;simp only[g,e,nt];refine bQ (T66) fun K=>?_;refine Ob (P:=fun r=>¬r=true->¬((!K)||(lH t p false))=true) ?_ fun Z N=>?_;refine Oi (fun _=>.mk (fun h=>absurd rfl h)) (fun c242=>?_);refine bQ (T67 c) fun Y=>?_;exact .mk (fun _=>c242);refine Ob (jY (by first|omega|(simp only[kZ2]at *;omega)) c) fun a0 O=>?_;exact .mk ⟨k,by dsimp only;omega⟩;obtain⟨H,t,J⟩:=q238;dsimp only at a d;simp only[a,nf];exact .mk (by dsimp only;omega)
 try dsimp only at y
 have E:=c.Last;refine oI (l:=z.Last) (fun q=>q.2) (kP2 c.Last (by decide)) rfl (fun V M q255 B b j f m=>?_) (fun q255 b=>?_) fun b9=>?_;obtain⟨u,w⟩:=q255;dsimp only at b j f m;simp only[j,f,nt];refine Ob (P:=fun r=>¬r=true->¬u=true) ?_ fun L s=>?_;refine Oi (fun _=>.mk (fun h=>absurd rfl h)) (fun c258=>?_);refine bQ (T66) fun b5=>?_;exact .mk (fun _=>c258);refine Ob (P:=fun r=>¬r=true->¬L=true) ?_ fun b8 R=>?_;refine Oi (fun _=>.mk (fun h=>absurd rfl h)) (fun c261=>?_);have W:=s c261;refine Ob (P:=fun r=>r=true->(decide (w>0))=true) ?_ fun b7 S=>?_;refine Oi (fun c264=>?_) (fun _=>.mk (fun h=>by cases h));have F:=c.Last;refine Ob (P:=fun x=>x∈z.Last) (bN (by(simp only[nm]at *;rw[bB (by omega) (by omega)];omega)) (by(simp only[nm]at *;rw[bB (by omega) (by omega)];omega)) (fun _ h _=>h)) fun b6 C=>?_;exact .mk (fun _=>c264);exact .mk (fun _=>c261);exact .mk m;obtain⟨u,w⟩:=q255;dsimp only at b;simp only[b,nf];exact aX;refine Ob (jY (by first|omega|(simp only[kZ2]at *;omega)) c) fun d1 T=>?_;exact .mk (by omega)
theorem T26 {b:Y0} (a:b.sm):Ok (F26 b) (fun v=>v<=9223372036854775807):=by
 unfold F26;have hp:=a.Parts;refine Ob (P:=fun v=>v<=9223372036854775807) (bE (l:=b.Parts) (fun q=>q.2) (fun i q=>q.1<=9223372036854775807) (by omega) rfl (by decide) (fun i e q f d hi hl _ hg hw=>?_) (fun q hi c=>?_)) fun v hv=>.mk hv;obtain⟨n,x⟩:=q;dsimp only at hi hl hg hw;simp only[hl,hg,nt];exact .mk ⟨hw,(Vv _).2⟩;obtain⟨n,x⟩:=q;dsimp only at hi c;simp only[hi,nf];exact .mk c
theorem T69 {O:Int} {C:YM} {W:Int} (m:C.sm):Ok (F69 O C W) (fun _=>True):=by
 unfold F69;have v:=m.Cells;refine oI (l:=C.Cells) (fun q=>q.2) (kP2 m.Cells (by decide)) rfl (fun H e q279 n b g d j=>?_) (fun q279 b=>?_) fun V=>?_;obtain⟨u,A⟩:=q279;dsimp only at b g d j;simp only[g,d,nt];have a:=m.CellsE _ n;refine Ob (P:=fun r=>¬r=true->¬(u||((e.Voices.length:Int)==0))=true) ?_ fun B t=>?_;refine Oi (fun _=>.mk (fun h=>absurd rfl h)) (fun c283=>?_);have w:=a.Voices;refine Ob (P:=fun x=>x∈e.Voices) (bN (by omega) (by(simp only[nm]at *;omega)) (fun _ h _=>h)) fun R o=>?_;have L:=a.VoicesE _ o;exact .mk (fun _=>c283);refine Ob (P:=fun r=>¬r=true->¬B=true) ?_ fun T G=>?_;refine Oi (fun _=>.mk (fun h=>absurd rfl h)) (fun c289=>?_);have K:=t c289;have y:=a.Voices;refine Ob (P:=fun x=>x∈e.Voices) (bN (by(simp only[nm]at *;rw[bB (by omega) (by omega)];omega)) (by(simp only[nm]at *;rw[bB (by omega) (by omega)];omega)) (fun _ h _=>h)) fun S p=>?_;have M:=a.VoicesE _ p;exact .mk (fun _=>c289);have z:=a.Voices;refine oI (l:=e.Voices) (fun q=>q.2) (kP2 a.Voices (by decide)) rfl (fun J F q305 s c i f k=>?_) (fun q305 c=>?_) fun U=>?_;obtain⟨D,E⟩:=q305;dsimp only at c i f k;simp only[i,d,f,nt];have N:=a.VoicesE _ s;exact .mk k;obtain⟨D,E⟩:=q305;dsimp only at c;simp only[c,nf];exact aX;exact .mk j;obtain⟨u,A⟩:=q279;dsimp only at b;simp only[b,nf];exact aX;exact aX
theorem aK2 {r:Int} {i:aA YV} {l:Y0} {w:Int} (q:i.length+10<=1000000) (f:l.sm):Ok (Zg r i l w) (fun v=>i.length<=v.length/\v.length<=i.length+10):=by
 unfold Zg;have j:=f.Measures;refine og l.Measures i 10 1 (kP2 f.Measures (by decide)) (fun o m q319 k g a d b c e=>?_) (fun q319 a b=>?_) fun u p=>?_;obtain⟨x,y⟩:=q319;dsimp only at a d c e b;simp only[d,c,nt];have h:=f.MeasuresE _ g;refine bQ (T69 h) fun s=>?_;refine Ob (jY (by first|omega|(simp only[kZ2]at *;omega)) f) fun t n=>?_;exact .mk ⟨e,by dsimp only;omega⟩;obtain⟨x,y⟩:=q319;dsimp only at a b;simp only[a,nf];exact .mk (by dsimp only;omega);exact .mk (by omega)
theorem qZ1 {b:aA YV} {e:Y0} {g:Int} (f:b.length+10<=1000000) (a:e.sm):Ok (Zh b e g) (fun v=>b.length<=v.length/\v.length<=b.length+10):=by
 unfold Zh;refine Ob (T26 a) fun h c=>?_;refine Ob (aK2 (by first|omega|(simp only[kZ2]at *;omega)) a) fun i d=>?_;exact .mk (by omega)
theorem aL2:Ok (Zi) (fun _=>True):=by
 unfold Zi;exact aX
theorem aM2 {b:Int}:Ok (Zj b) (fun _=>True):=by
 unfold Zj;refine Oi (fun c326=>?_) (fun c326=>?_);exact aX;refine bQ (aL2) fun c=>?_;refine Ob (bN (Q:=fun _=>True) (by(simp only[nm]at *;rw[bB (by omega) (by omega)];omega)) (by(simp only[nm,nl]at *;rw[bB (by omega) (by omega)];omega)) (fun _ _ _=>trivial)) fun d a=>?_;exact aX
theorem T70 {a:Int}:Ok (F70 a) (fun _=>True):=by
 unfold F70;refine bQ (aM2) fun⟨b,c⟩=>?_;exact aX
theorem aN2 {c:YX}:Ok (Zk c) (fun _=>True):=by
 unfold Zk;refine Oi (fun _=>aX) (fun _=>?_);refine Ob (P:=fun _=>True) (fZ (fun q=>q.2.2) 6 (fun _=>True) (by decide) (by decide) trivial (fun q _ h1 h2=>?_)) fun r _=>?_;obtain⟨a,n,i⟩:=q;dsimp only at h1 h2 ⊢;refine Oi (fun hc=>?_) (fun _=>aX);simp only[kV2]at hc;refine Ob (bN (Q:=fun _=>True) h1 hc (fun _ _ _=>trivial)) fun x _=>?_;refine Oi (fun _=>aX) (fun _=>?_);refine Ob (P:=fun _=>True) (Oi (fun _=>aX) (fun _=>aX)) fun v _=>.mk ⟨hc,h2 hc,trivial⟩;rcases r with⟨a,b⟩|⟨a,b⟩<;>exact aX
theorem aO2 {a:YX}:Ok (Um a) (fun v=>v=0->a.Unit≠0):=by
 unfold Um;refine Oi (fun c330=>?_) (fun c330=>?_);exact .mk (by omega);refine Oi (fun c331=>?_) (fun c331=>?_);exact .mk (by omega);refine bQ (aN2) fun b=>?_;refine Oi (fun c333=>?_) (fun c333=>?_);exact .mk (by omega);exact .mk (by(simp only[nm]at *;omega))
theorem aP2 {b:YX} (c:b.Unit≠0):Ok (Un b) (fun _=>True):=by
 unfold Un;refine Ob (rM (by omega)) fun d a=>?_;exact aX
theorem aQ2 {a:YX} (b:a.Unit≠0):Ok (Uo a) (fun _=>True):=by
 unfold Uo;refine bQ (aP2 (by omega)) fun c=>?_;exact aX
theorem T53 {b:YX}:Ok (F53 b) (fun _=>True):=by
 unfold F53;refine Ob (aO2) fun c a=>?_;refine Oi (fun c337=>?_) (fun c337=>?_);exact aX;refine bQ (aQ2 (by(simp only[nm]at *;omega))) fun d=>?_;exact aX
theorem T24 {b:YM} (c:b.sm):Ok (Am b) (fun _=>True):=by
 unfold Am;refine bQ (T53) fun⟨d,e⟩=>?_;refine Oi (fun c340=>?_) (fun c340=>?_);exact aX;refine Oi (fun c341=>?_) (fun c341=>?_);exact aX;refine bQ ?_ fun f=>?_;refine Oi (fun c343=>?_) (fun c343=>?_);exact aX;exact aX;refine Ob (De (by omega)) fun g a=>?_;refine Oi (fun c345=>?_) (fun c345=>?_);exact aX;refine Oi (fun c346=>?_) (fun c346=>?_);exact aX;exact aX
theorem T71 {O:Int} {B:YM} (k:B.sm):Ok (F71 O B) (fun _=>True):=by
 unfold F71;refine bQ (T24 k) fun⟨Y,Z⟩=>?_;have y:=k.Cells;refine oI (l:=B.Cells) (fun q=>q.2) (kP2 k.Cells (by decide)) rfl (fun K m q358 o a e c g=>?_) (fun q358 a=>?_) fun X=>?_;obtain⟨C,D⟩:=q358;dsimp only at a e c g;simp only[e,c,nt];have j:=k.CellsE _ o;have z:=j.Clefs;refine oI (l:=m.Clefs) (fun q=>q.2) (kP2 j.Clefs (by decide)) rfl (fun L G q371 v b f d i=>?_) (fun q371 b=>?_) fun W=>?_;obtain⟨t,u⟩:=q371;dsimp only at b f d i;simp only[f,c,d,nt];refine Ob (P:=fun r=>¬r=true->¬t=true) ?_ fun E n=>?_;refine Oi (fun _=>.mk (fun h=>absurd rfl h)) (fun c374=>?_);refine bQ (T70) fun R=>?_;exact .mk (fun _=>c374);refine Ob (P:=fun r=>¬r=true->¬E=true) ?_ fun F p=>?_;refine Oi (fun _=>.mk (fun h=>absurd rfl h)) (fun c377=>?_);have M:=n c377;refine bQ (Hq) fun S=>?_;exact .mk (fun _=>c377);refine Ob (P:=fun r=>¬r=true->¬F=true) ?_ fun V H=>?_;refine Oi (fun _=>.mk (fun h=>absurd rfl h)) (fun c381=>?_);have s:=p c381;have N:=n s;refine Ob (P:=fun r=>r=true->(decide (u>0))=true) ?_ fun U J=>?_;refine Oi (fun c385=>?_) (fun _=>.mk (fun h=>by cases h));have A:=j.Clefs;refine Ob (P:=fun x=>x∈m.Clefs) (bN (by(simp only[nm]at *;rw[bB (by omega) (by omega)];omega)) (by(simp only[nm]at *;rw[bB (by omega) (by omega)];omega)) (fun _ h _=>h)) fun T w=>?_;exact .mk (fun _=>c385);exact .mk (fun _=>c381);exact .mk i;obtain⟨t,u⟩:=q371;dsimp only at b;simp only[b,nf];exact aX;exact .mk g;obtain⟨C,D⟩:=q358;dsimp only at a;simp only[a,nf];exact aX;exact aX
theorem iT1 {i:aA YV} {l:Y0} {u:Int} (q:i.length+10<=1000000) (f:l.sm):Ok (Cd i l u) (fun v=>i.length<=v.length/\v.length<=i.length+10):=by
 unfold Cd;have j:=f.Measures;refine og l.Measures i 10 1 (kP2 f.Measures (by decide)) (fun o m q400 k g a d b c e=>?_) (fun q400 a b=>?_) fun t p=>?_;obtain⟨w,x⟩:=q400;dsimp only at a d c e b;simp only[d,c,nt];have h:=f.MeasuresE _ g;refine bQ (T71 h) fun r=>?_;refine Ob (jY (by first|omega|(simp only[kZ2]at *;omega)) f) fun s n=>?_;exact .mk ⟨e,by dsimp only;omega⟩;obtain⟨w,x⟩:=q400;dsimp only at a b;simp only[a,nf];exact .mk (by dsimp only;omega);exact .mk (by omega)
theorem rA1 {o:aA YV} {x:Y0} {O:Int} (H:o.length+30<=1000000) (f:x.sm):Ok (Zm o x O) (fun v=>o.length<=v.length/\v.length<=o.length+30):=by
 unfold Zm;have r:=f.Parts;refine og x.Parts o 20 5 (kP2 f.Parts (by decide)) (fun D n q416 t m a h c e j=>?_) (fun q416 a c=>?_) fun M F=>?_;obtain⟨w,p⟩:=q416;dsimp only at a h e j c;simp only[h,e,nt];have l:=f.PartsE _ m;have s:=l.Staves;refine og n.Staves p 5 1 (kP2 l.Staves (by decide)) (fun E A q430 u q b i d g k=>?_) (fun q430 b d=>?_) fun L G=>?_;obtain⟨y,z⟩:=q430;dsimp only at b i g k d;simp only[i,e,g,nt];refine bQ (T70) fun J=>?_;refine Ob (jY (by first|omega|(simp only[kZ2]at *;omega)) f) fun K B=>?_;exact .mk ⟨k,by dsimp only;omega⟩;obtain⟨y,z⟩:=q430;dsimp only at b d;simp only[b,nf];exact .mk (by dsimp only;omega);exact .mk ⟨j,by dsimp only;omega⟩;obtain⟨w,p⟩:=q416;dsimp only at a c;simp only[a,nf];exact .mk (by dsimp only;omega);refine Ob (iT1 (by first|omega|(simp only[kZ2]at *;omega)) f) fun N C=>?_;exact .mk (by omega)
theorem aR2 {a:Int}:Ok (Zn a) (fun _=>True):=by
 unfold Zn;refine Oi (fun c435=>?_) (fun c435=>?_);exact aX;exact aX
theorem T73 {b:Int} {a:YL}:Ok (F73 b a) (fun _=>True):=by
 unfold F73;refine Ob aR2 fun c _=>?_;refine Oi (fun _=>aX) (fun _=>?_);refine Oi (fun _=>aX) (fun _=>?_);have hw:=Vv (b+(aU ((aU (7*a.Semitones))-(aU (12*a.Steps)))));generalize aU (b+(aU ((aU (7*a.Semitones))-(aU (12*a.Steps)))))=x0 at hw ⊢;refine Ob (P:=fun v=> -9223372036854775808<=v/\v<=7) (cV (fun x=> -9223372036854775808<=x/\x<=9223372036854775807) (fun x=>(x+9223372036854775808).toNat) (fun x d=>?_) aY x0 hw (by simp only[aY];omega)) fun b h1=>?_;refine Oi (fun hc=>?_) (fun hc=>?_)<;>simp only[kV2]at hc;rw[bB (by omega) (by omega)];exact .mk ⟨by omega,by omega⟩;exact .mk (by omega);refine Ob (P:=fun v=>True) (cV (fun x=> -9223372036854775808<=x/\x<=7) (fun x=>(7-x).toNat) (fun x d=>?_) aY b h1 (by simp only[aY];omega)) fun a _=>aX;refine Oi (fun hc=>?_) (fun hc=>?_)<;>simp only[kV2]at hc;rw[bB (by omega) (by omega)];exact .mk ⟨by omega,by omega⟩;exact aX
theorem T72 {u:Int} {t:YM} {m:YK} (g:t.sm) (e:m.s'.sm):Ok (F72 u t m) (fun _=>True):=by
 unfold F72;refine bQ (T24 g) fun⟨A,z⟩=>?_;refine Ob (P:=fun r=>¬r=true->¬(z !=0)=true) ?_ fun C o=>?_;refine Oi (fun _=>.mk (fun h=>absurd rfl h)) (fun c438=>?_);refine bQ (Hq) fun B=>?_;exact .mk (fun _=>c438);have i:=e.Parts;refine oI (l:=m.s'.Parts) (fun q=>q.2) (kP2 e.Parts (by decide)) rfl (fun p n q450 f a c b d=>?_) (fun q450 a=>?_) fun y=>?_;obtain⟨j,k⟩:=q450;dsimp only at a c b d;simp only[c,b,nt];have s:=e.PartsE _ f;refine bQ ?_ fun x=>?_;refine Oi (fun c454=>?_) (fun c454=>?_);refine bQ (T73) fun⟨v,w⟩=>?_;exact aX;exact aX;exact .mk d;obtain⟨j,k⟩:=q450;dsimp only at a;simp only[a,nf];exact aX;exact aX
theorem iU1 {i:aA YV} {l:Y0} {u:Int} (q:i.length+10<=1000000) (c:l.sm):Ok (sT i l u) (fun v=>i.length<=v.length/\v.length<=i.length+10):=by
 unfold sT;have j:=c.Measures;refine og l.Measures i 10 1 (kP2 c.Measures (by decide)) (fun o m q467 k g a e b d f=>?_) (fun q467 a b=>?_) fun t p=>?_;obtain⟨w,x⟩:=q467;dsimp only at a e d f b;simp only[e,d,nt];have h:=c.MeasuresE _ g;refine bQ (T72 h c) fun r=>?_;refine Ob (jY (by first|omega|(simp only[kZ2]at *;omega)) c) fun s n=>?_;exact .mk ⟨f,by dsimp only;omega⟩;obtain⟨w,x⟩:=q467;dsimp only at a b;simp only[a,nf];exact .mk (by dsimp only;omega);exact .mk (by omega)
theorem rB1 {a:aA YV} {d:Y0} {f:Int} (e:a.length+10<=1000000) (b:d.sm):Ok (Up a d f) (fun v=>a.length<=v.length/\v.length<=a.length+10):=by
 unfold Up;refine Ob (iU1 (by first|omega|(simp only[kZ2]at *;omega)) b) fun g c=>?_;exact .mk (by omega)
theorem sY {a b:Int}:Ok (oM a b) (fun _=>True):=by
 unfold oM;refine Oi (fun c473=>?_) (fun c473=>?_);exact aX;exact aX
theorem Wa {h:aA Int} (e:h.length<=20):Ok (Gt h) (fun _=>True):=by
 unfold Gt;have g:=e;refine oI (l:=h) (fun q=>q) (kP2 e (by decide)) rfl (fun j i k f a c b d=>?_) (fun k a=>?_) fun m=>?_;simp only[c,b,nt];refine Oi (fun c485=>?_) (fun c485=>?_);exact aX;exact .mk d;simp only[a,nf];exact aX;rcases m with n|_;exact aX;exact aX
theorem rC1 {a:Int}:Ok (Uq a) (fun _=>True):=by
 unfold Uq;exact aX
theorem aS2 {a:Int}:Ok (Zp a) (fun _=>True):=by
 unfold Zp;refine Oi (fun c486=>?_) (fun c486=>?_);exact aX;exact aX
theorem aT2 {b:YE} (d:b.sm):Ok (Zq b) (fun v=>v.sm):=by
 unfold Zq;refine Ob (P:=fun r=>¬r=true->¬(b.Kind==1)=true) ?_ fun f a=>?_;refine Oi (fun _=>.mk (fun h=>absurd rfl h)) (fun c488=>?_);refine bQ (rC1) fun e=>?_;exact .mk (fun _=>c488);refine Oi (fun c490=>?_) (fun c490=>?_);exact .mk (by first|assumption|exact⟨lP2 _,lP2 _,lP2 _,fun _ h=>nomatch h⟩);have c:=a c490;refine bQ ?_ fun g=>?_;refine Oi (fun c493=>?_) (fun c493=>?_);exact aX;exact aX;refine bQ ?_ fun j=>?_;refine Oi (fun c495=>?_) (fun c495=>?_);refine bQ (aS2) fun i=>?_;exact aX;exact aX;exact .mk (by first|assumption|exact⟨lP2 _,lP2 _,lP2 _,fun _ h=>nomatch h⟩)
theorem aU2 {m n:aA YB} (e:m.length<=12) (f:n.length<=12):Ok (Zr m n) (fun _=>True):=by
 unfold Zr;refine Oi (fun c497=>?_) (fun c497=>?_);exact aX;have j:=e;refine oI (l:=m) (fun q=>q) (kP2 e (by decide)) rfl (fun p o r g a c b d=>?_) (fun r a=>?_) fun s=>?_;simp only[c,b,nt];have k:=f;refine Ob (P:=fun x=>x∈n) (bN (by omega) (by(simp only[nm]at *;omega)) (fun _ h _=>h)) fun t i=>?_;refine Oi (fun c512=>?_) (fun c512=>?_);exact aX;exact .mk d;simp only[a,nf];exact aX;rcases s with _|_;exact aX;exact aX
theorem aV2 {m n:aA YD} (e:m.length<=12) (f:n.length<=12):Ok (Zs m n) (fun _=>True):=by
 unfold Zs;refine Oi (fun c513=>?_) (fun c513=>?_);exact aX;have j:=e;refine oI (l:=m) (fun q=>q) (kP2 e (by decide)) rfl (fun p o r g a c b d=>?_) (fun r a=>?_) fun s=>?_;simp only[c,b,nt];have k:=f;refine Ob (P:=fun x=>x∈n) (bN (by omega) (by(simp only[nm]at *;omega)) (fun _ h _=>h)) fun t i=>?_;refine Oi (fun c528=>?_) (fun c528=>?_);exact aX;exact .mk d;simp only[a,nf];exact aX;rcases s with _|_;exact aX;exact aX
theorem aW2 {k m:aA YY} (g:k.length<=12) (i:∀y∈k,y.sm) (n:m.length<=12) (j:∀y∈m,y.sm):Ok (Zt k m) (fun _=>True):=by
 unfold Zt;refine Oi (fun c529=>?_) (fun c529=>?_);exact aX;have o:=g;refine oI (l:=k) (fun q=>q) (kP2 g (by decide)) rfl (fun s r v d a c b f=>?_) (fun v a=>?_) fun w=>?_;simp only[c,b,nt];have t:=i _ d;have p:=n;refine Ob (P:=fun x=>x∈m) (bN (by omega) (by(simp only[nm]at *;omega)) (fun _ h _=>h)) fun z e=>?_;have u:=j _ e;refine Oi (fun c546=>?_) (fun c546=>?_);exact aX;exact .mk f;simp only[a,nf];exact aX;rcases w with _|_;exact aX;exact aX
theorem aX2 {a b:YE} (c:a.sm) (d:b.sm):Ok (Zu a b) (fun _=>True):=by
 unfold Zu;refine Ob (P:=fun r=>r=true->(((((((a.Kind==b.Kind)&&(((a.Value.Log==b.Value.Log)&&((a.Value.Dots==b.Value.Dots)&&true))!=false))&&(a.Articulations==b.Articulations))&&(a.Ornament==b.Ornament))&&(a.Dynamic==b.Dynamic))&&(a.Stem==b.Stem))&&(a.Beam==b.Beam))=true) ?_ fun l e=>?_;refine Oi (fun c548=>?_) (fun _=>.mk (fun h=>by cases h));refine bQ (aU2 c.Heads d.Heads) fun n=>?_;exact .mk (fun _=>c548);refine Ob (P:=fun r=>r=true->l=true) ?_ fun m f=>?_;refine Oi (fun c551=>?_) (fun _=>.mk (fun h=>by cases h));have j:=e c551;refine bQ (aV2 c.Graces d.Graces) fun o=>?_;exact .mk (fun _=>c551);refine Ob (P:=fun r=>r=true->m=true) ?_ fun q i=>?_;refine Oi (fun c555=>?_) (fun _=>.mk (fun h=>by cases h));have g:=f c555;have k:=e g;refine bQ (aW2 c.Lyrics c.LyricsE d.Lyrics d.LyricsE) fun p=>?_;exact .mk (fun _=>c555);exact aX
theorem rD1 {a:YA}:Ok (Ur a) (fun v=>v=0-> -1<=a.Log/\a.Log<=8/\0<=a.Dots/\a.Dots<=3):=by
 unfold Ur;refine Oi (fun c559=>?_) (fun c559=>?_);exact .mk (by omega);exact .mk (by(simp only[nm]at *;omega))
theorem aY2:Ok (Zv) (fun _=>True):=by
 unfold Zv;exact aX
theorem rE1 {a:YH} (c:0<=a.Step/\a.Step<=6):Ok (Us a) (fun _=>True):=by
 unfold Us;refine bQ (aY2) fun d=>?_;refine Ob (bN (Q:=fun _=>True) (by omega) (by(simp only[nm,nl]at *;omega)) (fun _ _ _=>trivial)) fun e b=>?_;exact aX
theorem aZ2 {a:YH}:Ok (Zw a) (fun v=>v=0->0<=a.Step/\a.Step<=6):=by
 unfold Zw;refine Oi (fun c562=>?_) (fun c562=>?_);exact .mk (by omega);refine bQ (rE1 (by(simp only[nm]at *;omega))) fun b=>?_;refine Oi (fun c564=>?_) (fun c564=>?_);exact .mk (by omega);exact .mk (by(simp only[nm]at *;omega))
theorem T82 {b:YH}:Ok (F82 b) (fun _=>True):=by
 unfold F82;refine Ob (aZ2) fun c a=>?_;refine Oi (fun c566=>?_) (fun c566=>?_);exact aX;refine bQ (rE1 (by(simp only[nm]at *;omega))) fun d=>?_;exact aX
theorem iV1 {a:YH}:Ok (Pp a) (fun _=>True):=by
 unfold Pp;refine bQ (T82) fun⟨b,c⟩=>?_;refine Oi (fun c569=>?_) (fun c569=>?_);exact aX;exact aX
theorem bB2 {a:YB}:Ok (Zx a) (fun _=>True):=by
 unfold Zx;refine bQ (iV1) fun⟨b,c⟩=>?_;refine bQ (sY) fun d=>?_;refine bQ (Wa (by simp)) fun e=>?_;exact aX
theorem bC2 {h:aA YB} (e:h.length<=12):Ok (Zy h) (fun _=>True):=by
 unfold Zy;refine Oi (fun c573=>?_) (fun c573=>?_);exact aX;refine Oi (fun c574=>?_) (fun c574=>?_);exact aX;have g:=e;refine oI (l:=h) (fun q=>q.2) (kP2 e (by decide)) rfl (fun k j q585 f a c b d=>?_) (fun q585 a=>?_) fun i=>?_;obtain⟨p,r⟩:=q585;dsimp only at a c b d;simp only[c,b,nt];refine bQ (bB2) fun s=>?_;refine Oi (fun c588=>?_) (fun c588=>?_);exact aX;refine bQ (iV1) fun⟨m,n⟩=>?_;refine Oi (fun c590=>?_) (fun c590=>?_);exact aX;exact .mk d;obtain⟨p,r⟩:=q585;dsimp only at a;simp only[a,nf];exact aX;rcases i with o|_;exact aX;exact aX
theorem bD2 {h:aA YD} (e:h.length<=12):Ok (Zz h) (fun _=>True):=by
 unfold Zz;refine Oi (fun c591=>?_) (fun c591=>?_);exact aX;have g:=e;refine oI (l:=h) (fun q=>q) (kP2 e (by decide)) rfl (fun k j m f a c b d=>?_) (fun m a=>?_) fun i=>?_;simp only[c,b,nt];refine bQ (iV1) fun⟨n,o⟩=>?_;refine Oi (fun c604=>?_) (fun c604=>?_);exact aX;refine Oi (fun c605=>?_) (fun c605=>?_);exact aX;exact .mk d;simp only[a,nf];exact aX;rcases i with p|_;exact aX;exact aX
theorem bE2 {c:YY} (a:c.sm):Ok (aA1 c) (fun _=>True):=by
 unfold aA1;refine Oi (fun _=>aX) (fun _=>?_);refine Oi (fun _=>aX) (fun _=>?_);have hs:=a.Text;refine Ob (P:=fun _=>True) (fZ (fun q=>q) (c.Text.size:Int) (fun _=>True) (by omega) (by decide) trivial (fun i _ h1 h2=>?_)) fun r _=>?_;refine Oi (fun hc=>?_) (fun _=>aX);simp only[kV2]at hc;refine Ob (sW h1 hc) fun b _=>?_;refine Ob (P:=fun _=>True) (Oi (fun _=>aX) (fun _=>Ob (sW h1 hc) fun b _=>aX)) fun b _=>?_;exact Oi (fun _=>aX) (fun _=>.mk ⟨hc,h2 hc,trivial⟩);rcases r with _|_;exact aX;exact Oi (fun _=>aX) (fun _=>aX)
theorem bF2 {a:YY} (b:a.sm):Ok (aB1 a) (fun _=>True):=by
 unfold aB1;exact aX
theorem bG2 {j:aA YY} (c:j.length<=12) (b:∀y∈j,y.sm):Ok (aC1 j) (fun _=>True):=by
 unfold aC1;refine Oi (fun c606=>?_) (fun c606=>?_);exact aX;have o:=c;refine oI (l:=j) (fun q=>q) (kP2 c (by decide)) rfl (fun t s z f a e d i=>?_) (fun z a=>?_) fun A=>?_;simp only[e,d,nt];have m:=b _ f;refine bQ (bE2 m) fun B=>?_;refine Oi (fun c620=>?_) (fun c620=>?_);exact aX;exact .mk i;simp only[a,nf];exact aX;rcases A with C|_;exact aX;refine Ob (P:=fun r=>r=true->(decide ((j.length:Int)>0))=true) ?_ fun w k=>?_;refine Oi (fun c622=>?_) (fun _=>.mk (fun h=>by cases h));have p:=c;refine Ob (P:=fun x=>x∈j) (bN (by(simp only[nm]at *;rw[bB (by omega) (by omega)];omega)) (by(simp only[nm]at *;rw[bB (by omega) (by omega)];omega)) (fun _ h _=>h)) fun D g=>?_;have n:=b _ g;refine bQ (bF2 n) fun v=>?_;exact .mk (fun _=>c622);refine Oi (fun c628=>?_) (fun c628=>?_);have u:=k c628;exact aX;exact aX
theorem T79 {d:YE} (a:d.sm):Ok (F79 d) (fun _=>True):=by
 unfold F79;refine bQ (sY) fun y=>?_;refine bQ (sY) fun z=>?_;refine bQ (Wa (by simp)) fun A=>?_;refine Oi (fun c633=>?_) (fun c633=>?_);exact aX;refine bQ (rC1) fun B=>?_;refine Oi (fun c635=>?_) (fun c635=>?_);exact aX;refine Ob (aT2 a) fun C b=>?_;refine bQ (aX2 a b) fun D=>?_;refine Oi (fun c638=>?_) (fun c638=>?_);exact aX;refine Ob (P:=fun r=>r=true->(d.Kind !=3)=true) ?_ fun F c=>?_;refine Oi (fun c640=>?_) (fun _=>.mk (fun h=>by cases h));refine Ob (rD1) fun E e=>?_;exact .mk (fun _=>c640);refine Oi (fun c642=>?_) (fun c642=>?_);have f:=c c642;exact aX;refine Oi (fun c644=>?_) (fun c644=>?_);refine bQ (bC2 a.Heads) fun g=>?_;refine bQ (bD2 a.Graces) fun i=>?_;refine bQ (bG2 a.Lyrics a.LyricsE) fun j=>?_;refine bQ (Wa (by simp)) fun k=>?_;refine Oi (fun c649=>?_) (fun c649=>?_);exact aX;refine bQ (sY) fun l=>?_;refine bQ (sY) fun m=>?_;refine bQ (sY) fun n=>?_;refine bQ (sY) fun o=>?_;refine bQ (sY) fun p=>?_;refine bQ (Wa (by simp)) fun q=>?_;exact aX;refine bQ (sY) fun s=>?_;refine bQ (sY) fun t=>?_;refine bQ (sY) fun u=>?_;refine bQ (sY) fun v=>?_;refine bQ (sY) fun w=>?_;refine bQ (Wa (by simp)) fun x=>?_;exact aX
theorem bH2 {b:YE} (a:b.sm):Ok (aE1 b) (fun _=>True):=by
 unfold aE1;refine bQ (T79 a) fun c=>?_;exact aX
theorem bI2 {i:aA YE} (f:i.length<=20) (g:∀y∈i,y.sm):Ok (aF1 i) (fun _=>True):=by
 unfold aF1;have j:=f;refine oI (l:=i) (fun q=>q) (kP2 f (by decide)) rfl (fun m k n d a c b e=>?_) (fun n a=>?_) fun o=>?_;simp only[c,b,nt];have h:=g _ d;refine bQ (bH2 h) fun p=>?_;refine Oi (fun c676=>?_) (fun c676=>?_);exact aX;exact .mk e;simp only[a,nf];exact aX;rcases o with r|_;exact aX;exact aX
theorem rF1 {c:aA YE} (b:c.length<=20) (a:∀y∈c,y.sm):Ok (Uu c) (fun _=>True):=by
 unfold Uu;refine bQ (bI2 b a) fun d=>?_;exact aX
theorem rG1 {c:YO} (b:c.sm):Ok (aG1 c) (fun _=>True):=by
 unfold aG1;refine Ob (P:=fun r=>r=true->(decide ((c.Events.length:Int)>0))=true) ?_ fun i e=>?_;refine Oi (fun c679=>?_) (fun _=>.mk (fun h=>by cases h));have d:=b.Events;refine Ob (P:=fun x=>x∈c.Events) (bN (by omega) (by(simp only[nm]at *;omega)) (fun _ h _=>h)) fun g a=>?_;have f:=b.EventsE _ a;exact .mk (fun _=>c679);exact aX
theorem bJ2 {b:YA} (c: -1<=b.Log/\b.Log<=8/\0<=b.Dots/\b.Dots<=3):Ok (aH1 b) (fun _=>True):=by
 unfold aH1;refine Ob (rN (by rw[bB (by omega) (by omega)];omega)) fun n _=>?_;refine Ob (P:=fun _=>True) (fZ (fun q=>q.2.2) b.Dots (fun _=>True) (by omega) (by dsimp only;omega) trivial (fun q _ h1 h2=>?_)) fun r _=>aX;obtain⟨a,n,i⟩:=q;dsimp only at h1 h2 ⊢;refine Oi (fun hc=>?_) (fun _=>aX);simp only[kV2]at hc;exact Ob (rM (by decide)) fun x _=>.mk ⟨hc,h2 hc,trivial⟩
theorem bK2 {b:YA}:Ok (aI1 b) (fun _=>True):=by
 unfold aI1;refine Ob (rD1) fun c a=>?_;refine Oi (fun c685=>?_) (fun c685=>?_);exact aX;refine bQ (bJ2 (by(simp only[nm]at *;omega))) fun d=>?_;exact aX
theorem rH1 {b:YE} (a:b.sm):Ok (aJ1 b) (fun _=>True):=by
 unfold aJ1;refine bQ (T79 a) fun c=>?_;refine Oi (fun c688=>?_) (fun c688=>?_);exact aX;refine bQ (bK2) fun⟨d,e⟩=>?_;exact aX
theorem bL2 {c:aA YE} (h:c.length<=20) (d:∀y∈c,y.sm):Ok (Pr c) (fun v=>v.length<=20):=by
 unfold Pr;refine Ob (jW (by omega) (by omega) (by omega)) fun o h2=>?_;refine Ob (P:=fun v=>v.length=c.length) (bE (l:=c) (fun q=>q.1) (fun _ q=>q.2.length=c.length) (by omega) rfl (by rw[h2];simp) (fun i e q n g hi hl f hg hw=>?_) (fun q hi f=>?_)) fun v hv=>.mk (by omega);obtain⟨x,l⟩:=q;dsimp only at hi hl f hg hw;simp only[hl,hg,nt];refine Ob (rH1 (d e g)) fun⟨a,b⟩ _=>?_;refine Ob (eP (by omega) (by omega)) fun j k=>?_;refine Ob (rO (by omega)) fun m g=>.mk ⟨hw,by dsimp only;omega⟩;obtain⟨x,l⟩:=q;dsimp only at hi f;simp only[hi,nf];exact .mk f
theorem rI1 {a:Int}:Ok (Uv a) (fun v=>v=true->1<=a/\a<=32):=by
 unfold Uv;exact .mk (by(simp only[nm]at *;omega))
theorem bM2 {a b:YU}:Ok (aK1 a b) (fun _=>True):=by
 unfold aK1;refine Oi (fun c690=>?_) (fun c690=>?_);refine Oi (fun c691=>?_) (fun c691=>?_);exact aX;exact aX;refine Oi (fun c692=>?_) (fun c692=>?_);refine Oi (fun c693=>?_) (fun c693=>?_);exact aX;exact aX;exact aX
theorem dM1 {a:YU}:Ok (Jr a) (fun v=>v=aU (a.First+a.Count)):=by
 unfold Jr;exact .mk (by rfl)
theorem rJ1 {k:YU} {a:aA YU} (g:a.length<=6) (i:a.length<=3):Ok (Mi k a) (fun v=>v.2.length<=3):=by
 unfold Mi;refine Ob (P:=fun v=>v.length<=3) (cV (fun l=>l.length<=3) (fun l=>l.length) (fun l hl=>?_) aY a i (by simp only[aY];omega)) fun x d=>?_;refine Ob (P:=fun r=>r=true->0<l.length) (Oi (fun hc=>?_) (fun _=>.mk (fun h=>by cases h))) fun b hb=>?_;simp only[kV2]at hc;refine Ob (eP (by rw[bB (by omega) (by omega)];omega) (by rw[bB (by omega) (by omega)];omega)) fun j c=>?_;exact Ob (iA c.2) fun y _=>Ob dM1 fun e _=>.mk (fun _=>by omega);refine Oi (fun hc=>?_) (fun _=>.mk hl);have:=hb hc;refine Ob (Qd this (by rw[bB (by omega) (by omega)];omega) (by rw[bB (by omega) (by omega)];omega)) fun m f=>?_;have:=f.1;rw[bB (by omega) (by omega)]at this;exact .mk ⟨by omega,by omega⟩;refine Ob (P:=fun r=>r=true\/x.length<3) (Oi (fun hc=>.mk (.inl rfl)) (fun hc=>?_)) fun b hb=>?_;have hc:x.length<3:=by simp only[mO2]at hc;omega
 refine Ob (P:=fun _=>True) (Oi (fun hd=>?_) (fun _=>aX)) fun b _=>.mk (.inr hc);simp only[kV2]at hd;refine Ob dM1 fun e _=>?_;refine Ob (eP (by rw[bB (by omega) (by omega)];omega) (by rw[bB (by omega) (by omega)];omega)) fun j c=>?_;exact Ob (iA c.2) fun y _=>Ob dM1 fun e _=>aX;refine Oi (fun _=>.mk d) (fun hc=>?_);have hb:x.length<3:=by rcases hb with h|h;exact absurd h hc;exact h
 refine Ob (dF (Q:=fun v=>v.length=x.length+1) (by omega) (by simp)) fun m f=>.mk (by dsimp only;omega)
theorem rK1 {f:aA YU} {c:Int} (z:f.length<=6):Ok (aL1 f c) (fun v=>v=0->∀t∈f,t.ok c):=by
 unfold aL1;refine Oi (fun _=>.mk (fun h=>by cases h)) (fun n=>?_);refine Oi (fun _=>.mk (fun h=>by cases h)) (fun _=>?_);simp only[lB2,kV2,nI2]at n;refine Ob (P:=fun r=>match r with|.inl p=>p.1≠0|.inr _=>∀t∈f,t.ok c) (bE (l:=f) (fun q=>q.1) (fun i q=>q.2.length<=3/\∀j,j<i->∀t,f[j]? =some t->t.ok c) (by omega) rfl ⟨by decide,fun j k=>by omega⟩ (fun i e q A w hi hl d hg hw=>?_) (fun q hi d=>?_)) fun v hv=>?_;obtain⟨x,l⟩:=q;dsimp only at hi hl d hg hw;simp only[hl,hg,nt];refine Ob (P:=fun r=>r=false->(1<=e.Count/\e.Count<=c/\0<=e.First/\e.First+e.Count<=c/\1<=e.Actual/\e.Actual<=32)) (Oi (fun _=>.mk (fun h=>by cases h)) (fun hc=>?_)) fun b1 h1=>?_;simp only[lB2,kV2,nI2]at hc;rw[bB (by omega) (by omega)]at hc;refine Ob rI1 fun r hr=>.mk (fun h=>?_);have:=hr (by simpa using h);omega;refine Ob (P:=fun r=>r=false->e.ok c) (Oi (fun hc=>.mk (fun h=>by cases h)) (fun hc=>?_)) fun b2 h2=>?_;refine Ob rI1 fun r hr=>.mk (fun h=>?_);have:=hr (by simpa using h);have:=h1 (by simpa using hc);unfold YU.ok;omega;refine Oi (fun _=>.mk (show(2:Int)≠0 by decide)) (fun hc=>?_);have u:e.ok c:=h2 (by simp only[lB2,nI2,Bool.not_eq_true]at hc;exact hc.1);refine Ob (P:=fun _=>True) (Oi (fun hd=>?_) (fun _=>aX)) fun b3 _=>?_;simp only[kV2]at hd;have:=eU hg;refine Ob (bN (Q:=fun _=>True) (by rw[bB (by omega) (by omega)];omega) (by rw[bB (by omega) (by omega)];omega) (fun _ _ _=>trivial)) fun y _=>?_;exact Ob bM2 fun o _=>aX;refine Oi (fun _=>.mk (show(25:Int)≠0 by decide)) (fun _=>?_);refine Ob (rJ1 (lJ2 d.1 (by decide)) d.1) fun⟨a,m⟩ w=>?_;refine Oi (fun _=>.mk (show(21:Int)≠0 by decide)) (fun _=>.mk ⟨hw,w,fun j k t g=>?_⟩);by_cases s:j=i;subst s;rw[A]at g;cases g;exact u;exact d.2 j (by omega) t g;obtain⟨x,l⟩:=q;dsimp only at hi d;simp only[hi,nf];refine .mk (fun t g=>?_);obtain⟨j,k⟩:=lH2.1 g;exact d.2 j (kM2.1 k).1 t k;rcases v with⟨a,b⟩|b;exact .mk (fun h=>absurd h hv);exact .mk (fun _=>hv)
theorem bN2 {a:YU} {b:Int}:Ok (aM1 a b) (fun _=>True):=by
 unfold aM1;exact aX
theorem bO2 {e c:Int} (l:0<e/\0<c/\c<9223372036854775808):Ok (aN1 e c) (fun v=>0<v/\v∣e/\v∣c):=by
 unfold aN1;refine Ob (P:=fun v=>0<v/\v∣e/\v∣c) (cV (fun q=>0<q.1/\0<=q.2/\∀d:Int,d∣q.1->d∣q.2->d∣e/\d∣c) (fun q=>q.2.toNat) (fun q k=>?_) aY (e,c) ⟨l.1,by dsimp only;omega,fun d h1 h2=>⟨h1,h2⟩⟩ (by simp only[aY];omega)) fun v hv=>.mk hv;obtain⟨a,b⟩:=q;obtain⟨h1,h2,h⟩:=k;dsimp only at h1 h2 h;refine Oi (fun hc=>?_) (fun hc=>?_)<;>simp only[kV2]at hc;refine Ob (De (by omega)) fun n j=>?_;have i:n=a%b:=by rw[j,Int.tmod_eq_emod_of_nonneg (by omega)]
 have e2:=Int.emod_nonneg a (by omega:b≠0);have m:=Int.emod_lt_of_pos a hc;refine .mk ⟨⟨hc,by dsimp only;omega,fun d f g=>h d ?_ f⟩,by dsimp only;omega⟩;dsimp only at f g;rw[i]at g;have:=Int.emod_add_mul_ediv a b;rw[<-this];exact Int.dvd_add g (Int.dvd_trans f (Int.dvd_mul_right b _));have:b=0:=by omega
 subst this;exact .mk ⟨h1,h a (Int.dvd_refl a) (Int.dvd_zero a)⟩
theorem bP2 {o:aA YU} {H:Int} (w:o.length<=6) (C:∀t∈o,1<=t.Actual/\t.Actual<=32/\1<=t.Normal/\t.Normal<=32):Ok (aO1 o H) (fun v=>1<=v.2):=by
 unfold aO1;refine Ob (P:=fun v=>1<=v.2) (bE (l:=o) (fun q=>q.2.2) (fun i q=>1<=q.1/\q.1<=32^i/\1<=q.2.1/\q.2.1<=32^i) (by omega) rfl ⟨by decide,by decide,by decide,by decide⟩ (fun i e q E z hi hl f hg hw=>?_) (fun q hi f=>?_)) fun v hv=>.mk hv;obtain⟨a,b,x⟩:=q;dsimp only at hi hl f hg hw;simp only[hl,hg,nt];have j:=C e z;refine Ob bN2 fun c _=>?_;have y:i<=5:=by omega
 have A:(32:Int)^i<=33554432:=by
  have:i=0\/i=1\/i=2\/i=3\/i=4\/i=5:=by omega
  rcases this with rfl|rfl|rfl|rfl|rfl|rfl<;>decide
 have B:(32:Int)^(i+1)=32^i*32:=Int.pow_succ 32 i;refine Ob (P:=fun v=>1<=v.1/\v.1<=32^(i+1)/\1<=v.2/\v.2<=32^(i+1)) (Oi (fun _=>?_) (fun _=>?_)) fun⟨v1,v2⟩ hv=>.mk ⟨hw,hv⟩;have F:1<=a*e.Normal:=Int.le_trans (by decide) (nF2 f.1 j.2.2.1 (by decide) (by omega));have G:a*e.Normal<=32^i*32:=nF2 f.2.1 j.2.2.2 (by omega) (by omega);have s:1<=b*e.Actual:=Int.le_trans (by decide) (nF2 f.2.2.1 j.1 (by decide) (by omega));have u:b*e.Actual<=32^i*32:=nF2 f.2.2.2 j.2.1 (by omega) (by omega);rw[bB (n:=a*e.Normal) (by omega) (by omega),bB (n:=b*e.Actual) (by omega) (by omega)];generalize a*e.Normal=N at F G ⊢;generalize b*e.Actual=D at s u ⊢;refine Ob (bO2 ⟨by omega,by omega,by omega⟩) fun g hg=>?_;obtain⟨J,⟨k,rfl⟩,⟨m,rfl⟩⟩:=hg
 have K:1<=k:=by
  rcases Int.lt_or_le k 1 with h|h;have:=Int.mul_nonneg (a:=g) (b:= -k) (by omega) (by omega);rw[Int.mul_neg]at this;omega;exact h
 have M:1<=m:=by
  rcases Int.lt_or_le m 1 with h|h;have:=Int.mul_nonneg (a:=g) (b:= -m) (by omega) (by omega);rw[Int.mul_neg]at this;omega;exact h
 have L:k<=g*k:=by
  have:=nF2 (a:=1) (b:=k) (c:=g) (d:=k) (by omega) (mP2 k) (by omega) (by omega);omega
 have O:m<=g*m:=by
  have:=nF2 (a:=1) (b:=m) (c:=g) (d:=m) (by omega) (mP2 m) (by omega) (by omega);omega
 refine Ob (rM (by omega)) fun q1 p=>?_;refine Ob (rM (by omega)) fun q2 r=>?_;rw[Int.mul_tdiv_cancel_left k (by omega),show IntKind.wrap .i64 k=aU k from rfl,bB (by omega) (by omega)]at p;rw[Int.mul_tdiv_cancel_left m (by omega),show IntKind.wrap .i64 m=aU m from rfl,bB (by omega) (by omega)]at r;exact .mk ⟨by dsimp only;omega,by dsimp only;omega,by dsimp only;omega,by dsimp only;omega⟩;exact .mk ⟨f.1,by dsimp only;omega,f.2.2.1,by dsimp only;omega⟩;obtain⟨a,b,x⟩:=q;dsimp only at hi f;simp only[hi,nf];exact .mk f.2.2.1
theorem iW1 {c:aA YU} {f g:Int} (b:c.length<=6) (h:∀t∈c,1<=t.Actual/\t.Actual<=32/\1<=t.Normal/\t.Normal<=32):Ok (Uw c f g) (fun _=>True):=by
 unfold Uw;refine Oi (fun c694=>?_) (fun c694=>?_);exact aX;refine Ob (bP2 b (by omega)) fun⟨i,j⟩ a=>?_
 try dsimp only at a
 refine Ob (De (by omega)) fun k d=>?_;refine Oi (fun c697=>?_) (fun c697=>?_);exact aX;refine Ob (rM (by omega)) fun l e=>?_;exact aX
theorem rL1 {k:aA YU} {f:aA Int} (d:k.length<=6) (j:f.length<=20):Ok (Js k f) (fun v=>v.1.length<=20/\(v.2=0->∀t∈k,t.ok f.length)):=by
 unfold Js;refine Ob (rK1 d) fun c hc=>?_;refine Oi (fun hd=>.mk ⟨lP2 _,fun h=>absurd h (by simpa using hd)⟩) (fun hd=>?_);have n:=hc (by simpa using hd);refine Ob (jW (by decide) (by omega) (by omega)) fun w o=>?_;refine Ob (P:=fun r=>match r with|.inl p=>p.1≠0|.inr l=>l.length<=f.length) (bE (l:=f) (fun q=>q.1) (fun i q=>q.2.length<=i) (by omega) rfl (by rw[o];decide) (fun i e q u s hi hl g hg hw=>?_) (fun q hi g=>?_)) fun v hv=>?_;obtain⟨x,l⟩:=q;dsimp only at hi hl g hg hw;simp only[hl,hg,nt];refine Ob (iW1 d (fun t h=>by have:=n t h;unfold YU.ok at this;omega)) fun⟨a,b⟩ _=>?_;refine Oi (fun hb=>.mk (by simpa using hb)) (fun _=>?_);exact Ob (dF (Q:=fun v=>v.length=l.length+1) (by omega) (by simp)) fun m s=>.mk ⟨hw,by dsimp only;omega⟩;obtain⟨x,l⟩:=q;dsimp only at hi g;simp only[hi,nf];exact .mk g;rcases v with⟨a,b⟩|b;exact .mk ⟨lP2 _,fun h=>absurd h hv⟩;exact .mk ⟨lJ2 hv j,fun _=>n⟩
theorem bQ2 {c:aA YU} {f:Int} {g:aA Int} (m:c.length<=6) (o:g.length<=20) (k:0<=f/\f<(c.length:Int)) (hy:∀t∈c,t.ok g.length):Ok (aP1 c f g) (fun _=>True):=by
 unfold aP1;refine Ob (bN (Q:=fun x=>x∈c) k.1 k.2 (fun _ h _=>h)) fun j d=>?_;have p:=hy j d;unfold YU.ok at p;refine Ob (P:=fun _=>True) (fZ (fun q=>q.2) (j.First+j.Count) (fun _=>True) (by omega) (by dsimp only;omega) trivial (fun q _ h1 h2=>?_)) fun r _=>?_;obtain⟨s,i⟩:=q;dsimp only at h1 h2 ⊢;refine Ob dM1 fun e he=>?_;rw[bB (by omega) (by omega)]at he;subst he;refine Oi (fun hc=>?_) (fun _=>aX);simp only[kV2]at hc;refine Ob (Ao (by rw[bB (by omega) (by omega)];omega) (by rw[bB (by omega) (by omega)];omega) (by omega)) fun l hl=>?_;refine Ob (bN (Q:=fun _=>True) (by omega) (by omega) (fun _ _ _=>trivial)) fun y _=>?_;refine Ob (iW1 (by omega) (fun t h=>by have:=hy t (hl.2 t h);unfold YU.ok at this;omega)) fun⟨a,b⟩ _=>?_;exact Oi (fun _=>aX) (fun _=>.mk ⟨hc,h2 hc,trivial⟩);rcases r with a|a;exact aX;refine Ob (P:=fun _=>True) (fZ (fun q=>q) 9 (fun _=>True) (by decide) (by decide) trivial (fun q _ h1 h2=>?_)) fun r _=>?_;refine Oi (fun hc=>?_) (fun _=>aX);simp only[kV2]at hc;refine Ob (rN (by rw[bB (by omega) (by omega)];omega)) fun n _=>?_;exact Oi (fun _=>aX) (fun _=>.mk ⟨by omega,h2 (by omega),trivial⟩);rcases r with a|a<;>exact aX
theorem rM1 {h:aA YU} {j:aA Int} (c:h.length<=6) (d:j.length<=20):Ok (aQ1 h j) (fun _=>True):=by
 unfold aQ1;refine Ob (rL1 c d) fun⟨a,b⟩ f=>?_;dsimp only at f;refine Oi (fun _=>aX) (fun hd=>?_);have o:=f.2 (by simpa using hd);refine Ob (jW (by decide) (by omega) (by omega)) fun r k=>?_;refine Ob (P:=fun _=>True) (bE (l:=h) (fun q=>q.1) (fun i q=>q.2.length<=i) (by omega) rfl (by rw[k];decide) (fun i e q p n hi hl g hg hw=>?_) (fun q hi g=>?_)) fun v hv=>?_;obtain⟨x,l⟩:=q;dsimp only at hi hl g hg hw;simp only[hl,nt];refine Ob (bQ2 c d ⟨by omega,hl⟩ o) fun⟨a,b⟩ _=>?_;refine Oi (fun hb=>aX) (fun _=>?_);exact Ob (dF (Q:=fun v=>v.length=l.length+1) (by omega) (by simp)) fun m n=>.mk ⟨hw,by dsimp only;omega⟩;obtain⟨x,l⟩:=q;dsimp only at hi g;simp only[hi,nf];exact aX;rcases v with a|b<;>exact aX
theorem bR2 {k:YO} (a:k.sm):Ok (Ps k) (fun v=>v.1.length<=20):=by
 unfold Ps;have j:=a.Events;refine oI (l:=k.Events) (fun q=>q) (kP2 a.Events (by decide)) rfl (fun n m t f b e d g=>?_) (fun t b=>?_) fun u=>?_;simp only[e,d,nt];have i:=a.EventsE _ f;refine bQ (T79 i) fun w=>?_;refine Oi (fun c712=>?_) (fun c712=>?_);exact aX;refine Oi (fun c713=>?_) (fun c713=>?_);exact aX;exact .mk g;simp only[b,nf];exact aX;rcases u with x|_;exact .mk (by(simp only[nm,nl]at *;omega));refine Ob (bL2 a.Events a.EventsE) fun y c=>?_;refine Ob (rL1 a.Tuplets c) fun⟨o,p⟩ h=>?_
 try dsimp only at h
 refine Oi (fun c716=>?_) (fun c716=>?_);exact .mk (by(simp only[nm,nl]at *;omega));refine bQ (rM1 a.Tuplets c) fun⟨r,s⟩=>?_;refine Oi (fun c718=>?_) (fun c718=>?_);exact .mk (by(simp only[nm,nl]at *;omega));exact .mk (by(simp only[nm]at *;omega))
theorem bS2 {f:YO} {g:Int} (a:f.sm):Ok (Pt f g) (fun v=>v.1.length<=20):=by
 unfold Pt;refine Oi (fun c719=>?_) (fun c719=>?_);exact .mk (by(simp only[nm,nl]at *;omega));refine Oi (fun c720=>?_) (fun c720=>?_);exact .mk (by(simp only[nm,nl]at *;omega));refine bQ (rG1 a) fun i=>?_;refine Oi (fun c722=>?_) (fun c722=>?_);have e:=a.Events;refine Ob (P:=fun x=>x∈f.Events) (bN (by omega) (by(simp only[nm]at *;omega)) (fun _ h _=>h)) fun j b=>?_;have d:=a.EventsE _ b;refine bQ (T79 d) fun k=>?_;refine Oi (fun c728=>?_) (fun c728=>?_);exact .mk (by(simp only[nm,nl]at *;omega));refine Oi (fun c729=>?_) (fun c729=>?_);exact .mk (by(simp only[nm,nl]at *;omega));exact .mk (by(simp only[nm,nl]at *;omega));refine Ob (bR2 a) fun⟨l,m⟩ c=>?_
 try dsimp only at c
 exact .mk (by omega)
theorem rN1 {h:aA Int} (e:h.length<=20):Ok (aR1 h) (fun _=>True):=by
 unfold aR1;have g:=e;refine oI (l:=h) (fun q=>q.2) (kP2 e (by decide)) rfl (fun j i q741 f a c b d=>?_) (fun q741 a=>?_) fun n=>?_;obtain⟨k,m⟩:=q741;dsimp only at a c b d;simp only[c,b,nt];exact .mk d;obtain⟨k,m⟩:=q741;dsimp only at a;simp only[a,nf];exact aX;exact aX
theorem rO1 {e:YO} {f:Int} (c:e.sm):Ok (Jt e f) (fun v=>v.1.length<=20):=by
 unfold Jt;refine Ob (bS2 c) fun⟨g,i⟩ a=>?_
 try dsimp only at a
 refine Ob (P:=fun r=>r=true->((i==0)&&(decide ((g.length:Int)>0)))=true) ?_ fun k b=>?_;refine Oi (fun c745=>?_) (fun _=>.mk (fun h=>by cases h));refine bQ (rN1 a) fun j=>?_;exact .mk (fun _=>c745);refine bQ ?_ fun l=>?_;refine Oi (fun c748=>?_) (fun c748=>?_);have d:=b c748;exact aX;exact aX;refine Oi (fun c750=>?_) (fun c750=>?_);exact .mk (by(simp only[nm,nl]at *;omega));exact .mk (by omega)
theorem rP1 {c:YO} {d:Int} (b:c.sm):Ok (Ux c d) (fun _=>True):=by
 unfold Ux;refine Ob (rO1 b) fun⟨e,f⟩ a=>?_
 try dsimp only at a
 exact aX
theorem T75 {a:Int}:Ok (F75 a) (fun _=>True):=by
 unfold F75;exact aX
theorem bT2 {c:YO} {d:Int} (a:c.sm):Ok (aS1 c d) (fun _=>True):=by
 unfold aS1;refine bQ (rF1 a.Events a.EventsE) fun e=>?_;refine Ob (P:=fun r=>r=true->(!e)=true) ?_ fun i b=>?_;refine Oi (fun c754=>?_) (fun _=>.mk (fun h=>by cases h));refine bQ (rP1 a) fun f=>?_;refine bQ (T75) fun g=>?_;exact .mk (fun _=>c754);exact aX
theorem bU2 {i:aA YO} {n:Int} (f:i.length<=3) (g:∀y∈i,y.sm):Ok (aT1 i n) (fun _=>True):=by
 unfold aT1;have j:=f;refine oI (l:=i) (fun q=>q) (kP2 f (by decide)) rfl (fun m k o d a c b e=>?_) (fun o a=>?_) fun p=>?_;simp only[c,b,nt];have h:=g _ d;refine bQ (bT2 h) fun r=>?_;refine Oi (fun c770=>?_) (fun c770=>?_);exact aX;exact .mk e;simp only[a,nf];exact aX;rcases p with s|_;exact aX;exact aX
theorem bV2 {c:aA YO} {d:Int} (b:c.length<=3) (a:∀y∈c,y.sm):Ok (aU1 c d) (fun _=>True):=by
 unfold aU1;refine bQ (bU2 b a) fun e=>?_;exact aX
theorem bW2 {b:YW} {c:Int} (a:b.sm):Ok (aV1 b c) (fun _=>True):=by
 unfold aV1;refine bQ (bV2 a.Voices a.VoicesE) fun d=>?_;exact aX
theorem bX2 {i:aA YW} {n:Int} (f:i.length<=5) (g:∀y∈i,y.sm):Ok (aW1 i n) (fun _=>True):=by
 unfold aW1;have j:=f;refine oI (l:=i) (fun q=>q) (kP2 f (by decide)) rfl (fun m k o d a c b e=>?_) (fun o a=>?_) fun p=>?_;simp only[c,b,nt];have h:=g _ d;refine bQ (bW2 h) fun r=>?_;refine Oi (fun c786=>?_) (fun c786=>?_);exact aX;exact .mk e;simp only[a,nf];exact aX;rcases p with s|_;exact aX;exact aX
theorem bY2 {c:aA YW} {d:Int} (b:c.length<=5) (a:∀y∈c,y.sm):Ok (aX1 c d) (fun _=>True):=by
 unfold aX1;refine bQ (bX2 b a) fun e=>?_;exact aX
theorem bZ2 {c:Int} {b:YM} (a:b.sm):Ok (aY1 c b) (fun _=>True):=by
 unfold aY1;refine bQ (T24 a) fun⟨d,e⟩=>?_;refine Oi (fun c789=>?_) (fun c789=>?_);exact aX;refine bQ (bY2 a.Cells a.CellsE) fun f=>?_;exact aX
theorem iX1 {i:aA YV} {l:Y0} {u:Int} (q:i.length+10<=1000000) (f:l.sm):Ok (Ce i l u) (fun v=>i.length<=v.length/\v.length<=i.length+10):=by
 unfold Ce;have j:=f.Measures;refine og l.Measures i 10 1 (kP2 f.Measures (by decide)) (fun o m q802 k g a d b c e=>?_) (fun q802 a b=>?_) fun t p=>?_;obtain⟨w,x⟩:=q802;dsimp only at a d c e b;simp only[d,c,nt];have h:=f.MeasuresE _ g;refine bQ (bZ2 h) fun r=>?_;refine Ob (jY (by first|omega|(simp only[kZ2]at *;omega)) f) fun s n=>?_;exact .mk ⟨e,by dsimp only;omega⟩;obtain⟨w,x⟩:=q802;dsimp only at a b;simp only[a,nf];exact .mk (by dsimp only;omega);exact .mk (by omega)
theorem cA2 {a:aA YV} {d:Y0} {f:Int} (e:a.length+10<=1000000) (b:d.sm):Ok (bA1 a d f) (fun v=>a.length<=v.length/\v.length<=a.length+10):=by
 unfold bA1;refine Ob (iX1 (by first|omega|(simp only[kZ2]at *;omega)) b) fun g c=>?_;exact .mk (by omega)
theorem rQ1 {a:aA YV} {d:Y0} {f:Int} (e:a.length+10<=1000000) (b:d.sm):Ok (bB1 a d f) (fun v=>a.length<=v.length/\v.length<=a.length+10):=by
 unfold bB1;refine Ob (cA2 (by first|omega|(simp only[kZ2]at *;omega)) b) fun g c=>?_;exact .mk (by omega)
theorem T76 {b:Int}:Ok (F76 b) (fun _=>True):=by
 unfold F76;refine Ob (P:=fun r=>r=true->(b !=0)=true) ?_ fun d a=>?_;refine Oi (fun c810=>?_) (fun _=>.mk (fun h=>by cases h));refine bQ (T75) fun c=>?_;exact .mk (fun _=>c810);exact aX
theorem iY1 {c:YO} {d:Int} (a:c.sm):Ok (Cf c d) (fun _=>True):=by
 unfold Cf;refine bQ (rF1 a.Events a.EventsE) fun e=>?_;refine Ob (P:=fun r=>r=true->(!e)=true) ?_ fun i b=>?_;refine Oi (fun c814=>?_) (fun _=>.mk (fun h=>by cases h));refine bQ (rP1 a) fun f=>?_;refine bQ (T76) fun g=>?_;exact .mk (fun _=>c814);exact aX
theorem iZ1 {i:aA YO} {n:Int} (f:i.length<=3) (g:∀y∈i,y.sm):Ok (Cg i n) (fun _=>True):=by
 unfold Cg;have j:=f;refine oI (l:=i) (fun q=>q) (kP2 f (by decide)) rfl (fun m k o d a c b e=>?_) (fun o a=>?_) fun p=>?_;simp only[c,b,nt];have h:=g _ d;refine bQ (iY1 h) fun r=>?_;refine Oi (fun c830=>?_) (fun c830=>?_);exact aX;exact .mk e;simp only[a,nf];exact aX;rcases p with s|_;exact aX;exact aX
theorem jA1 {c:aA YO} {d:Int} (b:c.length<=3) (a:∀y∈c,y.sm):Ok (Ch c d) (fun _=>True):=by
 unfold Ch;refine bQ (iZ1 b a) fun e=>?_;exact aX
theorem jB1 {b:YW} {c:Int} (a:b.sm):Ok (Ci b c) (fun _=>True):=by
 unfold Ci;refine bQ (jA1 a.Voices a.VoicesE) fun d=>?_;exact aX
theorem jC1 {i:aA YW} {n:Int} (f:i.length<=5) (g:∀y∈i,y.sm):Ok (Cj i n) (fun _=>True):=by
 unfold Cj;have j:=f;refine oI (l:=i) (fun q=>q) (kP2 f (by decide)) rfl (fun m k o d a c b e=>?_) (fun o a=>?_) fun p=>?_;simp only[c,b,nt];have h:=g _ d;refine bQ (jB1 h) fun r=>?_;refine Oi (fun c846=>?_) (fun c846=>?_);exact aX;exact .mk e;simp only[a,nf];exact aX;rcases p with s|_;exact aX;exact aX
theorem jD1 {c:aA YW} {d:Int} (b:c.length<=5) (a:∀y∈c,y.sm):Ok (Ck c d) (fun _=>True):=by
 unfold Ck;refine bQ (jC1 b a) fun e=>?_;exact aX
theorem jE1 {c:Int} {b:YM} (a:b.sm):Ok (Cl c b) (fun _=>True):=by
 unfold Cl;refine bQ (T24 a) fun⟨d,e⟩=>?_;refine Oi (fun c849=>?_) (fun c849=>?_);exact aX;refine bQ (jD1 a.Cells a.CellsE) fun f=>?_;exact aX
theorem jF1 {i:aA YV} {l:Y0} {u:Int} (q:i.length+10<=1000000) (f:l.sm):Ok (Cm i l u) (fun v=>i.length<=v.length/\v.length<=i.length+10):=by
 unfold Cm;have j:=f.Measures;refine og l.Measures i 10 1 (kP2 f.Measures (by decide)) (fun o m q862 k g a d b c e=>?_) (fun q862 a b=>?_) fun t p=>?_;obtain⟨w,x⟩:=q862;dsimp only at a d c e b;simp only[d,c,nt];have h:=f.MeasuresE _ g;refine bQ (jE1 h) fun r=>?_;refine Ob (jY (by first|omega|(simp only[kZ2]at *;omega)) f) fun s n=>?_;exact .mk ⟨e,by dsimp only;omega⟩;obtain⟨w,x⟩:=q862;dsimp only at a b;simp only[a,nf];exact .mk (by dsimp only;omega);exact .mk (by omega)
theorem jG1 {a:aA YV} {d:Y0} {f:Int} (e:a.length+10<=1000000) (b:d.sm):Ok (Cn a d f) (fun v=>a.length<=v.length/\v.length<=a.length+10):=by
 unfold Cn;refine Ob (jF1 (by first|omega|(simp only[kZ2]at *;omega)) b) fun g c=>?_;exact .mk (by omega)
theorem rR1 {a:aA YV} {d:Y0} {f:Int} (e:a.length+10<=1000000) (b:d.sm):Ok (bL1 a d f) (fun v=>a.length<=v.length/\v.length<=a.length+10):=by
 unfold bL1;refine Ob (jG1 (by first|omega|(simp only[kZ2]at *;omega)) b) fun g c=>?_;exact .mk (by omega)
theorem T78 {c:YP} {b:YE} (a:b.sm):Ok (F78 c b) (fun _=>True):=by
 unfold F78;refine bQ (T79 a) fun d=>?_;exact aX
theorem cB2 {H:aA YV} {X:Y0} {x3:Int} (e0:H.length+3000<=1000000) (y:X.sm):Ok (bM1 H X x3) (fun v=>H.length<=v.length/\v.length<=H.length+3000):=by
 unfold bM1;have O:=y.Measures;refine og X.Measures H 3000 300 (kP2 y.Measures (by decide)) (fun b5 D q881 T z c m g a q=>?_) (fun q881 c g=>?_) fun d5 d6=>?_;obtain⟨Y,L⟩:=q881;dsimp only at c m a q g;simp only[m,a,nt];have u:=y.MeasuresE _ z;have P:=u.Cells;refine og D.Cells L 300 60 (kP2 u.Cells (by decide)) (fun b6 E q895 U A d n h b r=>?_) (fun q895 d h=>?_) fun d4 d7=>?_;obtain⟨Z,M⟩:=q895;dsimp only at d n b r h;simp only[n,a,b,nt];have w:=u.CellsE _ A;have R:=w.Voices;refine og E.Voices M 60 20 (kP2 w.Voices (by decide)) (fun b7 F q909 V B e o i k s=>?_) (fun q909 e i=>?_) fun d3 d8=>?_;obtain⟨a0,N⟩:=q909;dsimp only at e o k s i;simp only[o,a,b,k,nt];have x:=w.VoicesE _ B;have S:=x.Events;refine og F.Events N 20 1 (kP2 x.Events (by decide)) (fun b8 b0 q923 W C f p j l t=>?_) (fun q923 f j=>?_) fun d2 d9=>?_;obtain⟨J,K⟩:=q923;dsimp only at f p l t j;simp only[p,a,b,k,l,nt];have G:=x.EventsE _ C;refine bQ (T78 G) fun b9=>?_;refine Ob (jY (by first|omega|(simp only[kZ2]at *;omega)) y) fun d1 b4=>?_;exact .mk ⟨t,by dsimp only;omega⟩;obtain⟨J,K⟩:=q923;dsimp only at f j;simp only[f,nf];exact .mk (by dsimp only;omega);exact .mk ⟨s,by dsimp only;omega⟩;obtain⟨a0,N⟩:=q909;dsimp only at e i;simp only[e,nf];exact .mk (by dsimp only;omega);exact .mk ⟨r,by dsimp only;omega⟩;obtain⟨Z,M⟩:=q895;dsimp only at d h;simp only[d,nf];exact .mk (by dsimp only;omega);exact .mk ⟨q,by dsimp only;omega⟩;obtain⟨Y,L⟩:=q881;dsimp only at c g;simp only[c,nf];exact .mk (by dsimp only;omega);exact .mk (by omega)
theorem rS1 {a:aA YV} {d:Y0} {f:Int} (e:a.length+3000<=1000000) (b:d.sm):Ok (bN1 a d f) (fun v=>a.length<=v.length/\v.length<=a.length+3000):=by
 unfold bN1;refine Ob (cB2 (by first|omega|(simp only[kZ2]at *;omega)) b) fun g c=>?_;exact .mk (by omega)
theorem T27 {c:Y0} {f:Int} (d:c.sm):Ok (F27 c f) (fun v=>v.2.2=0->0<=v.1/\v.1<(c.Parts.length:Int)):=by
 unfold F27;have g:=d.Parts;refine Oi (fun _=>.mk (fun h=>absurd (show(2:Int)=0 from h) (by decide))) (fun _=>?_);refine Ob (P:=fun r=>match r with|.inl p=>0<=p.1/\p.1<(c.Parts.length:Int)|.inr _=>True) (bE (l:=c.Parts) (fun q=>q.2) (fun _ _=>True) (by omega) rfl trivial (fun i e q k j hi hl _ hg hw=>?_) (fun q hi _=>?_)) fun r hr=>?_;obtain⟨s,x⟩:=q;dsimp only at hi hl hg hw;simp only[hl,hg,nt];exact Oi (fun _=>.mk ⟨by dsimp only;omega,hl⟩) (fun _=>.mk ⟨hw,trivial⟩);obtain⟨s,x⟩:=q;dsimp only at hi;simp only[hi,nf];exact aX;rcases r with⟨a,b⟩|_;exact .mk (fun _=>hr);exact .mk (fun h=>absurd (show(2:Int)=0 from h) (by decide))
theorem T81 {a:YH} {b:Int}:Ok (F81 a b) (fun _=>True):=by
 unfold F81;refine bQ (T82) fun⟨c,d⟩=>?_;refine bQ (Hq) fun e=>?_;exact aX
theorem T84 {a:YB} {b:Int}:Ok (F84 a b) (fun _=>True):=by
 unfold F84;refine bQ (T81) fun c=>?_;exact aX
theorem cC2 {h:aA YB} {k:Int} (e:h.length<=12):Ok (bO1 h k) (fun _=>True):=by
 unfold bO1;have g:=e;refine oI (l:=h) (fun q=>q) (kP2 e (by decide)) rfl (fun j i m f a c b d=>?_) (fun m a=>?_) fun n=>?_;simp only[c,b,nt];refine bQ (T84) fun o=>?_;refine Oi (fun c944=>?_) (fun c944=>?_);exact aX;exact .mk d;simp only[a,nf];exact aX;rcases n with p|_;exact aX;exact aX
theorem T83 {b:aA YB} {c:Int} (a:b.length<=12):Ok (F83 b c) (fun _=>True):=by
 unfold F83;refine bQ (cC2 a) fun d=>?_;exact aX
theorem T86 {a:YD} {b:Int}:Ok (F86 a b) (fun _=>True):=by
 unfold F86;refine bQ (T81) fun c=>?_;exact aX
theorem cD2 {h:aA YD} {k:Int} (e:h.length<=12):Ok (bP1 h k) (fun _=>True):=by
 unfold bP1;have g:=e;refine oI (l:=h) (fun q=>q) (kP2 e (by decide)) rfl (fun j i m f a c b d=>?_) (fun m a=>?_) fun n=>?_;simp only[c,b,nt];refine bQ (T86) fun o=>?_;refine Oi (fun c959=>?_) (fun c959=>?_);exact aX;exact .mk d;simp only[a,nf];exact aX;rcases n with p|_;exact aX;exact aX
theorem T85 {b:aA YD} {c:Int} (a:b.length<=12):Ok (F85 b c) (fun _=>True):=by
 unfold F85;refine bQ (cD2 a) fun d=>?_;exact aX
theorem T80 {l:YP} {k:YE} {g:YK} (a:k.sm) (b:g.s'.sm):Ok (F80 l k g) (fun _=>True):=by
 unfold F80;refine bQ (T79 a) fun p=>?_;refine Oi (fun c962=>?_) (fun c962=>?_);exact aX;refine Ob (T27 b) fun⟨q,s,t⟩ d=>?_
 try dsimp only at d
 refine bQ ?_ fun v=>?_;refine Oi (fun c965=>?_) (fun c965=>?_);have e:=b.Parts;refine Ob (P:=fun x=>x∈g.s'.Parts) (bN (by(simp only[nm]at *;omega)) (by(simp only[nm]at *;omega)) (fun _ h _=>h)) fun u c=>?_;have j:=b.PartsE _ c;exact aX;exact aX;refine bQ ?_ fun m=>?_;refine Oi (fun c971=>?_) (fun c971=>?_);exact aX;exact aX;refine bQ (T83 a.Heads) fun f=>?_;refine Ob (P:=fun r=>¬r=true->¬f=true) ?_ fun o i=>?_;refine Oi (fun _=>.mk (fun h=>absurd rfl h)) (fun c974=>?_);refine bQ (T85 a.Graces) fun n=>?_;exact .mk (fun _=>c974);exact aX
theorem jH1 {H:aA YV} {x2:Y0} {x3:Int} (d9:H.length+3000<=1000000) (s:x2.sm):Ok (Co H x2 x3) (fun v=>H.length<=v.length/\v.length<=H.length+3000):=by
 unfold Co;have W:=s.Measures;refine og x2.Measures H 3000 300 (kP2 s.Measures (by decide)) (fun b8 F q987 X C h t j c w=>?_) (fun q987 h j=>?_) fun d6 d7=>?_;obtain⟨b0,L⟩:=q987;dsimp only at h t c w j;simp only[t,c,nt];have y:=s.MeasuresE _ C;have O:=y.Cells;refine og F.Cells L 300 60 (kP2 y.Cells (by decide)) (fun b9 G q1001 Y D i u k g x=>?_) (fun q1001 i k=>?_) fun d5 d8=>?_;obtain⟨b4,M⟩:=q1001;dsimp only at i u g x k;simp only[u,c,g,nt];have l:=y.CellsE _ D;have P:=l.Voices;refine og G.Voices M 60 20 (kP2 l.Voices (by decide)) (fun Z B q1015 S z a o d f q=>?_) (fun q1015 a d=>?_) fun d4 b6=>?_;obtain⟨b5,N⟩:=q1015;dsimp only at a o f q d;simp only[o,c,g,f,nt];have m:=l.VoicesE _ z;have R:=m.Events;refine og B.Events N 20 1 (kP2 m.Events (by decide)) (fun a0 U q1029 T A b p e n r=>?_) (fun q1029 b e=>?_) fun d3 b7=>?_;obtain⟨J,K⟩:=q1029;dsimp only at b p n r e;simp only[p,c,g,f,n,nt];have E:=m.EventsE _ A;refine bQ (T80 E s) fun d1=>?_;refine Ob (jY (by first|omega|(simp only[kZ2]at *;omega)) s) fun d2 V=>?_;exact .mk ⟨r,by dsimp only;omega⟩;obtain⟨J,K⟩:=q1029;dsimp only at b e;simp only[b,nf];exact .mk (by dsimp only;omega);exact .mk ⟨q,by dsimp only;omega⟩;obtain⟨b5,N⟩:=q1015;dsimp only at a d;simp only[a,nf];exact .mk (by dsimp only;omega);exact .mk ⟨x,by dsimp only;omega⟩;obtain⟨b4,M⟩:=q1001;dsimp only at i k;simp only[i,nf];exact .mk (by dsimp only;omega);exact .mk ⟨w,by dsimp only;omega⟩;obtain⟨b0,L⟩:=q987;dsimp only at h j;simp only[h,nf];exact .mk (by dsimp only;omega);exact .mk (by omega)
theorem rT1 {a:aA YV} {d:Y0} {f:Int} (e:a.length+3000<=1000000) (c:d.sm):Ok (bR1 a d f) (fun v=>a.length<=v.length/\v.length<=a.length+3000):=by
 unfold bR1;refine Ob (jH1 (by first|omega|(simp only[kZ2]at *;omega)) c) fun g b=>?_;exact .mk (by omega)
theorem cE2 {a:YB}:Ok (bS1 a) (fun _=>True):=by
 unfold bS1;exact aX
theorem jI1 {j:aA YB} (e:j.length<=12):Ok (Cp j) (fun _=>True):=by
 unfold Cp;have g:=e;refine oI (l:=j) (fun q=>q) (kP2 e (by decide)) rfl (fun i h k f a c b d=>?_) (fun k a=>?_) fun m=>?_;simp only[c,b,nt];refine bQ (cE2) fun n=>?_;refine Oi (fun c1047=>?_) (fun c1047=>?_);exact aX;exact .mk d;simp only[a,nf];exact aX;rcases m with o|_;exact aX;exact aX
theorem rU1 {b:aA YB} (a:b.length<=12):Ok (Mj b) (fun _=>True):=by
 unfold Mj;refine bQ (jI1 a) fun c=>?_;exact aX
theorem T88 {c:YE} (b:c.sm):Ok (F88 c) (fun _=>True):=by
 unfold F88;refine Ob (P:=fun r=>r=true->(c.Kind==1)=true) ?_ fun e a=>?_;refine Oi (fun c1050=>?_) (fun _=>.mk (fun h=>by cases h));refine bQ (rU1 b.Heads) fun d=>?_;exact .mk (fun _=>c1050);exact aX
theorem dN1 {b:Y0} {c d e:Int} (f:b.sm):Ok (Cq b c d e) (fun v=>v.length<=20/\(∀y∈v,y.sm)/\(v=[]\/∃x y z,aR b.Measures c=some x/\aR x.Cells d=some y/\aR y.Voices e=some z/\v=z.Events)):=by
 unfold Cq;refine Ob (P:=fun r=>¬r=true->0<=c/\0<=d/\∃x,aR b.Measures c=some x/\d<(x.Cells.length:Int)) ?_ fun l j=>?_;refine Oi (fun _=>.mk (fun h=>absurd rfl h)) (fun hc=>?_);simp only[lB2,kV2,nI2]at hc;exact Ok.bindE (bN (Q:=fun _=>True) (by omega) (by omega) (fun _ _ _=>trivial)) fun x a _=>.mk (fun h=>⟨by omega,by omega,x,a,by simp at h;omega⟩);refine Ob (P:=fun r=>¬r=true->∃x y,aR b.Measures c=some x/\aR x.Cells d=some y/\0<=e/\e<(y.Voices.length:Int)) ?_ fun m k=>?_;refine Oi (fun _=>.mk (fun h=>absurd rfl h)) (fun hc=>?_);simp only[lB2,kV2,nI2]at hc;obtain⟨h0,h1,x,a,hs⟩:=j hc.1;rw[a,kQ2];exact Ok.bindE (bN (Q:=fun _=>True) h1 hs (fun _ _ _=>trivial)) fun y hy _=>.mk (fun h=>⟨x,y,rfl,hy,by omega,by simp at h;omega⟩);refine Oi (fun _=>.mk ⟨lP2 _,fun _ h=>(List.not_mem_nil h).elim,.inl rfl⟩) (fun hc=>?_);obtain⟨x,y,a,hy,h0,h1⟩:=k hc;rw[a,kQ2,hy,kQ2];refine Ok.bindE (bN (Q:=fun _=>True) h0 h1 (fun _ _ _=>trivial)) fun z g _=>?_;have i:=((f.MeasuresE x (eU a).2.2.1).CellsE y (eU hy).2.2.1).VoicesE z (eU g).2.2.1;exact .mk ⟨i.Events,i.EventsE,.inr ⟨x,y,z,rfl,hy,g,rfl⟩⟩
theorem rV1 {c:Y0} {a:YP} (d:c.sm):Ok (Uy c a) (fun r=>r=0->a.Kind=4/\0<=a.Event/\∃l,Cq c a.Measure a.Staff a.Voice=some l/\a.Event<(l.length:Int)):=by
 unfold Uy;refine Oi (fun _=>.mk (fun h=>by cases h)) (fun hk=>?_);refine Ob (P:=fun r=>¬r=true->0<=a.Event/\∃l,Cq c a.Measure a.Staff a.Voice=some l/\a.Event<(l.length:Int)) (Oi (fun _=>.mk (fun h=>absurd rfl h)) (fun hc=>?_)) fun b hb=>?_;exact Ok.bindE (dN1 d) fun l hl _=>.mk (fun h=>⟨by simpa using hc,l,hl,by simpa using h⟩);exact Oi (fun _=>.mk (fun h=>by cases h)) (fun hc=>.mk (fun _=>⟨by simpa using hk,hb hc⟩))
theorem rW1 {a b:Int} {c d:Int}:Ok (Uz a b c d) (fun v=>v.Measure=a):=by
 unfold Uz;exact .mk (by rfl)
theorem T89 {d:Y0} {e:YP} (b:d.sm):Ok (F89 d e) (fun v=>v.2=true->0<=e.Measure/\e.Measure<(d.Measures.length:Int)/\0<=v.1.Measure/\v.1.Measure<(d.Measures.length:Int)):=by
 unfold F89;refine Ob (rV1 b) fun c hc=>?_;refine Oi (fun _=>.mk (fun h=>by cases h)) (fun hd=>?_);obtain⟨hk,h0,l,hl,j⟩:=hc (by simpa using hd);have i:=(dN1 b).of hl
 have f:0<=e.Measure/\e.Measure<(d.Measures.length:Int):=by
  rcases i.2.2 with h|⟨x,y,z,hx,_⟩
  rw[h,kZ2]at j;omega;have:=eU hx;exact⟨this.1,this.2.1⟩
 rw[hl,kQ2];refine Oi (fun _=>?_) (fun _=>?_);exact Ob rW1 fun a g=>.mk (fun _=>⟨f.1,f.2,by dsimp only;omega,by dsimp only;omega⟩);refine Ob (dN1 b) fun k h2=>?_;refine Oi (fun hc=>?_) (fun _=>.mk (fun h=>by cases h));refine Ob rW1 fun a g=>.mk (fun _=>?_);dsimp only at g ⊢;rcases h2.2.2 with h|⟨x,y,z,hx,_⟩
 rw[h]at hc;simp at hc;have:=eU hx;rw[g];exact⟨f.1,f.2,this.1,this.2.1⟩
theorem cF2 {b:YE} (a:b.sm):Ok (bU1 b) (fun v=>v.sm):=by
 unfold bU1;rw[sX (lJ2 a.Heads (by decide)),sX (lJ2 a.Graces (by decide)),sX (lJ2 a.Lyrics (by decide))];exact .mk ⟨a.Heads,a.Graces,a.Lyrics,a.LyricsE⟩
theorem T90 {f:Y0} {g:YP} (a:f.sm):Ok (F90 f g) (fun v=>v.1.sm):=by
 unfold F90;refine Ob (rV1 a) fun c hc=>?_;refine Oi (fun _=>.mk ⟨lP2 _,lP2 _,lP2 _,fun _ h=>(List.not_mem_nil h).elim⟩) (fun hd=>?_);obtain⟨hk,h0,l,hl,d⟩:=hc (by simpa using hd);have b:=(dN1 a).of hl;rw[hl,kQ2];exact Ob (bN (Q:=fun x=>x.sm) h0 d (fun x e _=>b.2.1 x e)) fun x e=>Ob (cF2 e) fun y hy=>.mk hy
theorem cG2 {a b:YB}:Ok (bV1 a b) (fun _=>True):=by
 unfold bV1;exact aX
theorem jJ1 {j:aA YB} {k:YB} (e:j.length<=12):Ok (Ct j k) (fun _=>True):=by
 unfold Ct;have g:=e;refine oI (l:=j) (fun q=>q) (kP2 e (by decide)) rfl (fun i h m f a c b d=>?_) (fun m a=>?_) fun n=>?_;simp only[c,b,nt];refine bQ (cG2) fun o=>?_;refine Oi (fun c1064=>?_) (fun c1064=>?_);exact aX;exact .mk d;simp only[a,nf];exact aX;rcases n with p|_;exact aX;exact aX
theorem rX1 {b:aA YB} {c:YB} (a:b.length<=12):Ok (Ml b c) (fun _=>True):=by
 unfold Ml;refine bQ (jJ1 a) fun d=>?_;exact aX
theorem T91 {p t:YE} (g:p.sm) (m:t.sm):Ok (F91 p t) (fun _=>True):=by
 unfold F91;refine Oi (fun c1066=>?_) (fun c1066=>?_);exact aX;have j:=g.Heads;refine oI (l:=p.Heads) (fun q=>q) (kP2 g.Heads (by decide)) rfl (fun n e w i a c b d=>?_) (fun w a=>?_) fun s=>?_;simp only[c,b,nt];refine Ob (P:=fun r=>r=true->e.Tied=true) ?_ fun v f=>?_;refine Oi (fun c1079=>?_) (fun _=>.mk (fun h=>by cases h));refine Ob (P:=fun r=>r=true->(t.Kind==1)=true) ?_ fun u k=>?_;refine Oi (fun c1081=>?_) (fun _=>.mk (fun h=>by cases h));refine bQ (rX1 m.Heads) fun x=>?_;exact .mk (fun _=>c1081);exact .mk (fun _=>c1079);refine Oi (fun c1083=>?_) (fun c1083=>?_);have o:=f c1083;exact aX;exact .mk d;simp only[a,nf];exact aX;rcases s with _|_;exact aX;exact aX
theorem T87 {i:YP} {f:YE} {g:YK} (c:f.sm) (d:g.s'.sm):Ok (F87 i f g) (fun _=>True):=by
 unfold F87;refine bQ (T88 c) fun l=>?_;refine Oi (fun c1086=>?_) (fun c1086=>?_);exact aX;refine Ob (T89 d) fun⟨m,k⟩ b=>?_
 try dsimp only at b
 refine Ob (T90 d) fun⟨n,o⟩ a=>?_
 try dsimp only at a
 refine Ob (P:=fun r=>¬r=true->¬(!k)=true) ?_ fun j e=>?_;refine Oi (fun _=>.mk (fun h=>absurd rfl h)) (fun c1090=>?_);refine bQ (T91 c a) fun p=>?_;exact .mk (fun _=>c1090);exact aX
theorem jK1 {H:aA YV} {x2:Y0} {x3:Int} (d9:H.length+3000<=1000000) (y:x2.sm):Ok (Cu H x2 x3) (fun v=>H.length<=v.length/\v.length<=H.length+3000):=by
 unfold Cu;have O:=y.Measures;refine og x2.Measures H 3000 300 (kP2 y.Measures (by decide)) (fun Z D q1103 T z c p g a t=>?_) (fun q1103 c g=>?_) fun d8 b8=>?_;obtain⟨b5,L⟩:=q1103;dsimp only at c p a t g;simp only[p,a,nt];have l:=y.MeasuresE _ z;have P:=l.Cells;refine og D.Cells L 300 60 (kP2 l.Cells (by decide)) (fun a0 E q1117 U A d q h b u=>?_) (fun q1117 d h=>?_) fun d7 b9=>?_;obtain⟨b6,M⟩:=q1117;dsimp only at d q b u h;simp only[q,a,b,nt];have m:=l.CellsE _ A;have R:=m.Voices;refine og E.Voices M 60 20 (kP2 m.Voices (by decide)) (fun b0 F q1131 V B e r i k w=>?_) (fun q1131 e i=>?_) fun d6 d1=>?_;obtain⟨b7,N⟩:=q1131;dsimp only at e r k w i;simp only[r,a,b,k,nt];have n:=m.VoicesE _ B;have S:=n.Events;refine og F.Events N 20 1 (kP2 n.Events (by decide)) (fun b4 X q1145 W C f s j o x=>?_) (fun q1145 f j=>?_) fun d5 d2=>?_;obtain⟨J,K⟩:=q1145;dsimp only at f s o x j;simp only[s,a,b,k,o,nt];have G:=n.EventsE _ C;refine bQ (T87 G y) fun d3=>?_;refine Ob (jY (by first|omega|(simp only[kZ2]at *;omega)) y) fun d4 Y=>?_;exact .mk ⟨x,by dsimp only;omega⟩;obtain⟨J,K⟩:=q1145;dsimp only at f j;simp only[f,nf];exact .mk (by dsimp only;omega);exact .mk ⟨w,by dsimp only;omega⟩;obtain⟨b7,N⟩:=q1131;dsimp only at e i;simp only[e,nf];exact .mk (by dsimp only;omega);exact .mk ⟨u,by dsimp only;omega⟩;obtain⟨b6,M⟩:=q1117;dsimp only at d h;simp only[d,nf];exact .mk (by dsimp only;omega);exact .mk ⟨t,by dsimp only;omega⟩;obtain⟨b5,L⟩:=q1103;dsimp only at c g;simp only[c,nf];exact .mk (by dsimp only;omega);exact .mk (by omega)
theorem rY1 {a:aA YV} {d:Y0} {f:Int} (e:a.length+3000<=1000000) (c:d.sm):Ok (bY1 a d f) (fun v=>a.length<=v.length/\v.length<=a.length+3000):=by
 unfold bY1;refine Ob (jK1 (by first|omega|(simp only[kZ2]at *;omega)) c) fun g b=>?_;exact .mk (by omega)
theorem cH2 {a:YE} {c:Int} (d:a.sm) (e:0<=c):Ok (bZ1 a c) (fun v=>v=false->c<(a.Lyrics.length:Int)):=by
 unfold bZ1;refine Ob (P:=fun r=>r=false->c<(a.Lyrics.length:Int)) (Oi (fun _=>.mk (fun h=>by cases h)) (fun hc=>?_)) fun b hb=>.mk hb;simp only[kV2]at hc;exact Ob (bN (Q:=fun _=>True) e (by omega) (fun _ _ _=>trivial)) fun y _=>.mk (fun _=>by omega)
theorem cI2 {o p v:Int} {E:aA (YP×Bool)} {A:aA YV} {s:Y0} {F:Int} (B:A.length+0<=1000000) (d:s.sm) (D:0<=o) (hy:0<=p) (t:0<=v):Ok (cA1 o p v E A s F) (fun _=>True):=by
 unfold cA1;have H:=d.Measures;refine Ob (P:=fun _=>True) (bE (l:=s.Measures) (fun q=>q.1) (fun _ _=>True) (by omega) rfl trivial (fun i e q _ g hi hl _ hg hw=>?_) (fun q hi _=>?_)) fun⟨a1,a2,a3,a4,a5,a6,a7⟩ _=>?_;obtain⟨x,k,st,m,n,ev,y,l⟩:=q;dsimp only at hi hl hg hw;simp only[hl,hg,nt];refine Ob (P:=fun r=>¬r=true->∃y,aR e.Cells o=some y/\p<(y.Voices.length:Int)) (Oi (fun _=>.mk (fun h=>absurd rfl h)) (fun hc=>?_)) fun b hb=>?_;simp only[kV2]at hc;exact Ok.bindE (bN (Q:=fun _=>True) D (by omega) (fun _ _ _=>trivial)) fun y hy _=>.mk (fun h=>⟨y,hy,by simpa using h⟩);refine Oi (fun _=>.mk ⟨hw,trivial⟩) (fun hc=>?_);obtain⟨c,f,hv⟩:=hb hc;rw[f,kQ2];refine Ok.bindE (bN (Q:=fun _=>True) hy hv (fun _ _ _=>trivial)) fun z j _=>?_;have u:=((d.MeasuresE e g).CellsE c (eU f).2.2.1).VoicesE z (eU j).2.2.1;have G:=u.Events;refine Ob (P:=fun _=>True) (bE (l:=z.Events) (fun q=>q.1) (fun _ _=>True) (by omega) rfl trivial (fun i e q _ g hi hl _ hg hw=>?_) (fun q hi _=>?_)) fun⟨a1,a2,a3,a4,a5,a6,a7⟩ _=>.mk ⟨hw,trivial⟩;obtain⟨x,k,st,m,n,ev,y,l⟩:=q;dsimp only at hi hl hg hw;simp only[hl,hg,nt];refine Ob (cH2 (u.EventsE e g) t) fun a C=>?_;refine Oi (fun _=>.mk ⟨hw,trivial⟩) (fun hc=>?_);refine Ob (bN (Q:=fun _=>True) t (C (by simpa using hc)) (fun _ _ _=>trivial)) fun w _=>?_;refine Ob (P:=fun _=>True) (Oi (fun _=>aX) (fun _=>aX)) fun _ _=>?_;exact Ob (P:=fun _=>True) (Oi (fun _=>aX) (fun _=>aX)) fun _ _=>.mk ⟨hw,trivial⟩;obtain⟨x,k,st,m,n,ev,y,l⟩:=q;dsimp only at hi;simp only[hi,nf];exact aX;obtain⟨x,k,st,m,n,ev,y,l⟩:=q;dsimp only at hi;simp only[hi,nf];exact aX;exact Ob (P:=fun _=>True) (Oi (fun _=>aX) (fun _=>aX)) fun _ _=>aX
theorem T93 {c:YP} {a:YE} {d:aA (YP×Bool)} (b:a.sm):Ok (F93 c a d) (fun _=>True):=by
 unfold F93;exact aX
theorem jL1 {x1:aA (YP×Bool)} {K:aA YV} {x3:Y0} {x4:Int} (d9:K.length+3000<=1000000) (y:x3.sm):Ok (Cv x1 K x3 x4) (fun v=>K.length<=v.length/\v.length<=K.length+3000):=by
 unfold Cv;have O:=y.Measures;refine og x3.Measures K 3000 300 (kP2 y.Measures (by decide)) (fun Z D q1162 T z c p g a t=>?_) (fun q1162 c g=>?_) fun d8 b8=>?_;obtain⟨b5,L⟩:=q1162;dsimp only at c p a t g;simp only[p,a,nt];have l:=y.MeasuresE _ z;have P:=l.Cells;refine og D.Cells L 300 60 (kP2 l.Cells (by decide)) (fun a0 E q1176 U A d q h b u=>?_) (fun q1176 d h=>?_) fun d7 b9=>?_;obtain⟨b6,M⟩:=q1176;dsimp only at d q b u h;simp only[q,a,b,nt];have m:=l.CellsE _ A;have R:=m.Voices;refine og E.Voices M 60 20 (kP2 m.Voices (by decide)) (fun b0 F q1190 V B e r i k w=>?_) (fun q1190 e i=>?_) fun d6 d1=>?_;obtain⟨b7,N⟩:=q1190;dsimp only at e r k w i;simp only[r,a,b,k,nt];have n:=m.VoicesE _ B;have S:=n.Events;refine og F.Events N 20 1 (kP2 n.Events (by decide)) (fun b4 X q1204 W C f s j o x=>?_) (fun q1204 f j=>?_) fun d5 d2=>?_;obtain⟨H,J⟩:=q1204;dsimp only at f s o x j;simp only[s,a,b,k,o,nt];have G:=n.EventsE _ C;refine bQ (T93 G) fun d3=>?_;refine Ob (jY (by first|omega|(simp only[kZ2]at *;omega)) y) fun d4 Y=>?_;exact .mk ⟨x,by dsimp only;omega⟩;obtain⟨H,J⟩:=q1204;dsimp only at f j;simp only[f,nf];exact .mk (by dsimp only;omega);exact .mk ⟨w,by dsimp only;omega⟩;obtain⟨b7,N⟩:=q1190;dsimp only at e i;simp only[e,nf];exact .mk (by dsimp only;omega);exact .mk ⟨u,by dsimp only;omega⟩;obtain⟨b6,M⟩:=q1176;dsimp only at d h;simp only[d,nf];exact .mk (by dsimp only;omega);exact .mk ⟨t,by dsimp only;omega⟩;obtain⟨b5,L⟩:=q1162;dsimp only at c g;simp only[c,nf];exact .mk (by dsimp only;omega);exact .mk (by omega)
theorem rZ1 {b:aA YV} {f:Y0} {i:Int} (g:b.length+3000<=1000000) (a:f.sm):Ok (cC1 b f i) (fun v=>b.length<=v.length/\v.length<=b.length+3000):=by
 unfold cC1;refine Ob (T26 a) fun n h=>?_;refine Ob (P:=fun _=>True) (fZ (fun q=>q.1) n (fun _=>True) h (by decide) trivial (fun q _ h1 h2=>?_)) fun m _=>?_;obtain⟨x,l⟩:=q;dsimp only at h1 h2 ⊢;refine Oi (fun hc=>?_) (fun _=>aX);simp only[kV2]at hc;refine Ob (P:=fun _=>True) (fZ (fun q=>q.1) 2 (fun _=>True) (by decide) (by dsimp only;omega) trivial (fun q _ c g2=>?_)) fun m _=>.mk ⟨hc,h2 hc,trivial⟩;obtain⟨y,l⟩:=q;dsimp only at c g2 ⊢;refine Oi (fun hd=>?_) (fun _=>aX);simp only[kV2]at hd;refine Ob (P:=fun _=>True) (fZ (fun q=>q.1) 4 (fun _=>True) (by decide) (by dsimp only;omega) trivial (fun q _ d e=>?_)) fun m _=>.mk ⟨hd,g2 hd,trivial⟩;obtain⟨z,l⟩:=q;dsimp only at d e ⊢;refine Oi (fun he=>?_) (fun _=>aX);simp only[kV2]at he;exact Ob (cI2 (by omega) a h1 c d) fun m _=>.mk ⟨he,e he,trivial⟩;exact Ob (jL1 (by omega) a) fun v hv=>.mk (by omega)
theorem dO1 {a:Y0} (b:a.sm):Ok (vD a) (fun _=>True):=by
 unfold vD;exact aX
theorem Wb {e f:Int} {g h:Int} {i j k:Int} {c:YJ} {l:Bool} {a:YP} {b:YZ} (d:c.sm):Ok (rL e f g h i j k c l a b) (fun _=>True):=by
 unfold rL;refine Oi (fun c1209=>?_) (fun c1209=>?_);exact aX;exact aX
theorem Jz {c d:Int} {e f:Int} {g h i:Int} {j:YF} {k:Bool} {a:YP} {b:YZ}:Ok (mI c d e f g h i j k a b) (fun _=>True):=by
 unfold mI;refine Oi (fun c1210=>?_) (fun c1210=>?_);exact aX;exact aX
theorem Ka {e f:Int} {g h:Int} {i j k:Int} {c:YM} {l:Bool} {a:YP} {b:YZ} (d:c.sm):Ok (mJ e f g h i j k c l a b) (fun _=>True):=by
 unfold mJ;refine Oi (fun c1211=>?_) (fun c1211=>?_);exact aX;exact aX
theorem Kb {e f:Int} {g h:Int} {i j k:Int} {c:YE} {l:Bool} {a:YP} {b:YZ} (d:c.sm):Ok (mK e f g h i j k c l a b) (fun _=>True):=by
 unfold mK;refine Oi (fun c1212=>?_) (fun c1212=>?_);exact aX;exact aX
theorem Kc {c d:Int} {e f:Int} {g h i:Int} {j:YN} {k:Bool} {a:YP} {b:YZ}:Ok (mL c d e f g h i j k a b) (fun _=>True):=by
 unfold mL;refine Oi (fun c1213=>?_) (fun c1213=>?_);exact aX;exact aX
theorem dP1 {m:Y0} {Y:Bool} {Z:YP} {x4:YZ} (g:m.sm):Ok (vE m Y Z x4) (fun v=>match v with|.inl p=>p.Kind=4->0<=p.Event/\m.pl p.Measure p.Staff p.Voice|.inr _=>True):=by
 unfold vE;have hP:=g.Parts;have hM:=g.Measures;have V:=g.Spanners;refine Ob (P:=fun r=>match r with|.inl p=>p.1≠4|.inr _=>True) (bE (l:=m.Parts) (fun q=>q.2) (fun _ _=>True) (by omega) rfl trivial (fun i e q E C hi hl _ hg hw=>?_) (fun q hi _=>?_)) fun r hr=>?_;obtain⟨s,x⟩:=q;dsimp only at hi hl hg hw;simp only[hl,hg,nt];refine Ob (Wb (g.PartsE e C)) fun r _=>?_;rcases r with _|_;exact .mk (show(1:Int)≠4 by decide);have V:=(g.PartsE e C).Staves;refine Ob (P:=fun _=>True) (bE (l:=e.Staves) (fun q=>q.2) (fun _ _=>True) (by omega) rfl trivial (fun i2 e2 q X W G B _ o D=>?_) (fun q hi _=>?_)) fun r _=>?_;obtain⟨s,y⟩:=q;dsimp only at G B o D;simp only[B,o,nt];refine Ob Jz fun r _=>?_;rcases r with _|_;exact aX;exact .mk ⟨D,trivial⟩;obtain⟨s,y⟩:=q;dsimp only at hi;simp only[hi,nf];exact aX;rcases r with⟨a,b⟩|a;exact .mk (show(2:Int)≠4 by decide);exact .mk ⟨hw,trivial⟩;obtain⟨s,y⟩:=q;dsimp only at hi;simp only[hi,nf];exact aX;rcases r with⟨k,p,st⟩|_;exact .mk (fun h=>absurd h hr);refine Ob (P:=fun r=>match r with|.inl p=>p.1=4->0<=p.2.2.2.2/\m.pl p.2.2.1 p.2.1 p.2.2.2.1|.inr _=>True) (bE (l:=m.Measures) (fun q=>q) (fun _ _=>True) (by omega) rfl trivial (fun i e q E C hi hl _ hg hw=>?_) (fun q hi _=>?_)) fun r hr=>?_;simp only[hl,hg,nt];have S:=g.MeasuresE e C;have hC:=S.Cells;refine Ob (Ka S) fun r _=>?_;rcases r with _|_;exact .mk (fun h=>absurd (show(3:Int)=4 from h) (by decide));refine Ob (P:=fun r=>match r with|.inl p=>0<=p.2.2/\m.pl q p.1 p.2.1|.inr _=>True) (bE (l:=e.Cells) (fun q=>q) (fun _ _=>True) (by omega) rfl trivial (fun j c w E K hj hlc _ z N=>?_) (fun q hi _=>?_)) fun r hr=>?_;simp only[hlc,z,nt];have T:=S.CellsE c K;have hV:=T.Voices;refine Ob (P:=fun r=>match r with|.inl p=>0<=p.2/\m.pl q w p.1|.inr _=>True) (bE (l:=c.Voices) (fun q=>q) (fun _ _=>True) (by omega) rfl trivial (fun k v u E M hk J _ A R=>?_) (fun q hi _=>?_)) fun r hr=>?_;simp only[J,A,nt];have U:=T.VoicesE v M;have hE:=U.Events;refine Ob (P:=fun r=>match r with|.inl x=>0<=x|.inr _=>True) (bE (l:=v.Events) (fun q=>q) (fun _ _=>True) (by omega) rfl trivial (fun n ev t E L ht H _ F O=>?_) (fun q hi _=>?_)) fun r hr=>?_;simp only[H,F,nt];refine Ob (Kb (U.EventsE ev L)) fun r _=>?_;rcases r with _|_;exact .mk (show(0:Int)<=t by omega);exact .mk ⟨O,trivial⟩;simp only[hi,nf];exact aX;rcases r with x|_;exact .mk ⟨hr,e,c,v,hg,z,A⟩;exact .mk ⟨R,trivial⟩;simp only[hi,nf];exact aX;rcases r with⟨a,b⟩|_;exact .mk hr;exact .mk ⟨N,trivial⟩;simp only[hi,nf];exact aX;rcases r with⟨a,b,c⟩|_;exact .mk (fun _=>hr);exact .mk ⟨hw,trivial⟩;simp only[hi,nf];exact aX;rcases r with⟨a,b,c,d,f⟩|_;exact .mk hr;refine Ob (P:=fun _=>True) (bE (l:=m.Spanners) (fun q=>q) (fun _ _=>True) (by omega) rfl trivial (fun i e q E C hi hl _ hg hw=>?_) (fun q hi _=>?_)) fun r hr=>?_;simp only[hl,hg,nt];refine Ob Kc fun r _=>?_;rcases r with _|_;exact aX;exact .mk ⟨hw,trivial⟩;simp only[hi,nf];exact aX;rcases r with x|_;exact .mk (fun h=>absurd (show(5:Int)=4 from h) (by decide));exact aX
theorem cJ2 {b:Y0} {c:YZ} (a:b.sm):Ok (cD1 b c) (fun v=>v.2=true->v.1.Kind=4->0<=v.1.Event/\b.pl v.1.Measure v.1.Staff v.1.Voice):=by
 unfold cD1;refine Oi (fun _=>.mk (fun h=>by cases h)) (fun _=>?_);refine Ob (dO1 a) fun _ _=>?_;refine Ob (dP1 a) fun r hr=>?_;rcases r with p|_;exact .mk (fun _=>hr);exact .mk (fun h=>by cases h)
theorem cK2 {a:aA Int} (c:a.length<=20):Ok (Pv a) (fun _=>True):=by
 unfold Pv;refine Ob (jW (by omega) (by omega) (by omega)) fun h h2=>?_;refine Ob (P:=fun v=>v.length=a.length) (fZ (fun q=>q.1) (a.length:Int) (fun q=>q.2.length=a.length) (by omega) (by dsimp only;omega) (by rw[h2];simp) (fun q b h1 h2=>?_)) fun v hv=>aX;obtain⟨i,l⟩:=q;dsimp only at b h1 h2 ⊢;refine Oi (fun hc=>?_) (fun _=>.mk b);simp only[kV2]at hc;rw[bB (n:=i-1) (by omega) (by omega)];refine Ob (eP (by omega) (by omega)) fun j e=>?_;refine Ob (iA (by omega)) fun x _=>?_;refine Ob (bN (Q:=fun _=>True) (by omega) (by omega) (fun _ _ _=>trivial)) fun y _=>?_;refine Ob (eP (by omega) (by omega)) fun g d=>?_;exact Ob (rO (by omega)) fun m f=>.mk ⟨hc,h2 hc,by dsimp only;omega⟩
theorem cL2 {c:YO} {d:Int} (b:c.sm):Ok (Ju c d) (fun _=>True):=by
 unfold Ju;refine Ob (rO1 b) fun⟨e,f⟩ a=>?_
 try dsimp only at a
 refine Oi (fun c1215=>?_) (fun c1215=>?_);exact aX;refine bQ (cK2 a) fun g=>?_;exact aX
theorem sA1 {i:YK} {k:YZ} (c:i.s'.sm):Ok (Vc i k) (fun _=>True):=by
 unfold Vc;refine Ob (cJ2 c) fun⟨p,f⟩ hp=>?_;dsimp only at hp;refine Oi (fun _=>aX) (fun hc=>?_);simp only[lB2,nI2,lE2,Bool.not_eq_false,bne_iff_ne,ne_eq,Decidable.not_not]at hc;obtain⟨h0,x,y,z,d,hy,g⟩:=hp hc.1 hc.2;simp only[d,hy,g,kQ2];have h:=c.MeasuresE x (eU d).2.2.1;have j:=(h.CellsE y (eU hy).2.2.1).VoicesE z (eU g).2.2.1;refine Ob (T24 h) fun⟨a,b⟩ _=>?_;refine Ob (cL2 j) fun⟨on,e⟩ _=>?_;refine Oi (fun _=>aX) (fun hd=>?_);simp only[kV2]at hd;exact Ob (bN (Q:=fun _=>True) h0 (by dsimp only at hd ⊢;omega) (fun _ _ _=>trivial)) fun w _=>aX
theorem dQ1 {a b:Int}:Ok (Jv a b) (fun _=>True):=by
 unfold Jv;exact aX
theorem sB1 {g:YQ}:Ok (Vd g) (fun _=>True):=by
 unfold Vd;refine bQ (dQ1) fun i=>?_;refine Ob (P:=fun r=>r=true->i=true) ?_ fun j a=>?_;refine Oi (fun c1219=>?_) (fun _=>.mk (fun h=>by cases h));refine bQ (dQ1) fun l=>?_;exact .mk (fun _=>c1219);refine Ob (P:=fun r=>r=true->j=true) ?_ fun k b=>?_;refine Oi (fun c1222=>?_) (fun _=>.mk (fun h=>by cases h));have e:=a c1222;refine bQ (dQ1) fun m=>?_;exact .mk (fun _=>c1222);refine Ob (P:=fun r=>r=true->k=true) ?_ fun o d=>?_;refine Oi (fun c1226=>?_) (fun _=>.mk (fun h=>by cases h));have c:=b c1226;have f:=a c;refine bQ (dQ1) fun n=>?_;exact .mk (fun _=>c1226);exact aX
theorem sC1 {a:Int}:Ok (Ve a) (fun _=>True):=by
 unfold Ve;exact aX
theorem sD1 {a:Int}:Ok (Pw a) (fun _=>True):=by
 unfold Pw;exact aX
theorem T60 {a b:Int}:Ok (Ho a b) (fun _=>True):=by
 unfold Ho;refine bQ (sD1) fun c=>?_;refine bQ (sD1) fun d=>?_;refine Oi (fun c1232=>?_) (fun c1232=>?_);refine Oi (fun c1233=>?_) (fun c1233=>?_);exact aX;exact aX;refine Oi (fun c1234=>?_) (fun c1234=>?_);exact aX;refine Oi (fun c1235=>?_) (fun c1235=>?_);exact aX;refine Oi (fun c1236=>?_) (fun c1236=>?_);exact aX;exact aX
theorem T59 {j:aA Int} (e:j.length<=20):Ok (F59 j) (fun _=>True):=by
 unfold F59;have g:=e;refine oI (l:=j) (fun q=>q) (kP2 e (by decide)) rfl (fun i h k f a c b d=>?_) (fun k a=>?_) fun m=>?_;simp only[c,b,nt];refine Oi (fun c1248=>?_) (fun c1248=>?_);exact aX;exact .mk d;simp only[a,nf];exact aX;rcases m with n|_;exact aX;exact aX
theorem Kd {a b:YQ}:Ok (yT a b) (fun _=>True):=by
 unfold yT;refine bQ (T60) fun c=>?_;refine bQ (T60) fun d=>?_;refine bQ (T59 (by simp)) fun e=>?_;exact aX
theorem cM2 {e:YS}:Ok (cE1 e) (fun _=>True):=by
 unfold cE1;refine Oi (fun c1252=>?_) (fun c1252=>?_);exact aX;refine bQ (sB1) fun f=>?_;refine Ob (P:=fun r=>¬r=true->¬(!f)=true) ?_ fun i a=>?_;refine Oi (fun _=>.mk (fun h=>absurd rfl h)) (fun c1255=>?_);refine bQ (sB1) fun g=>?_;exact .mk (fun _=>c1255);refine Oi (fun c1257=>?_) (fun c1257=>?_);exact aX;have c:=a c1257;refine Ob (P:=fun r=>¬r=true->¬(e.From.Staff !=e.To.Staff)=true) ?_ fun k b=>?_;refine Oi (fun _=>.mk (fun h=>absurd rfl h)) (fun c1260=>?_);refine bQ (sC1) fun j=>?_;exact .mk (fun _=>c1260);refine Oi (fun c1262=>?_) (fun c1262=>?_);exact aX;have d:=b c1262;refine bQ (Kd) fun l=>?_;refine Oi (fun c1265=>?_) (fun c1265=>?_);exact aX;exact aX
theorem sE1 {j:aA YV} {d:Y0} {m:Int} (k:j.length+0<=1000000) (c:d.sm):Ok (Vf j d m) (fun v=>v.1.length=d.Spanners.length/\v.2.length=d.Spanners.length):=by
 unfold Vf;have p:=c.Spanners;refine Ob (P:=fun v=>v.1.length=d.Spanners.length/\v.2.length=d.Spanners.length) (bE (l:=d.Spanners) (fun q=>q.1) (fun i q=>q.2.1.length=i/\q.2.2.length=i) (by omega) rfl ⟨rfl,rfl⟩ (fun i e q s r hi hl f hg hw=>?_) (fun q hi f=>?_)) fun⟨a,b⟩ hv=>.mk hv;obtain⟨x,g,h⟩:=q;dsimp only at hi hl f hg hw;simp only[hl,hg,nt];refine Ob (sA1 c) fun⟨p1,n⟩ _=>?_;refine Ob (sA1 c) fun⟨p2,o⟩ _=>?_;refine Ob (dF (Q:=fun v=>v.length=h.length+1) (by omega) (by simp)) fun t h1=>?_;refine Ob (P:=fun _=>True) (Oi (fun _=>aX) (fun _=>Ob cM2 fun _ _=>aX)) fun b _=>?_;exact Ob (dF (Q:=fun v=>v.length=g.length+1) (by omega) (by simp)) fun u h2=>.mk ⟨hw,by dsimp only;omega,by dsimp only;omega⟩;obtain⟨x,g,h⟩:=q;dsimp only at hi f;simp only[hi,nf];exact .mk f
theorem sF1 {c:aA YV} {h:Y0} {n:Int} (k:c.length+10<=1000000) (d:h.sm):Ok (cF1 c h n) (fun v=>c.length<=v.length/\v.length<=c.length+10):=by
 unfold cF1;have o:=d.Spanners;refine Ob (sE1 (by omega) d) fun⟨a,b⟩ g=>?_;dsimp only at g;refine Ob (P:=fun v=>c.length<=v.length/\v.length<=c.length+10) (bE (l:=h.Spanners) (fun q=>q.1) (fun i q=>c.length<=q.2.length/\q.2.length<=c.length+i) (by omega) rfl (by dsimp only;omega) (fun i e q r p hi hl f hg hw=>?_) (fun q hi f=>?_)) fun v hv=>.mk (by omega);obtain⟨x,l⟩:=q;dsimp only at hi hl f hg hw;simp only[hl,hg,nt];refine Ob (eP (by omega) (by omega)) fun j m=>?_;refine Ob (iA m.2) fun y _=>?_;exact Ob (jY (by omega) d) fun v hv=>.mk ⟨hw,by dsimp only;omega⟩;obtain⟨x,l⟩:=q;dsimp only at hi f;simp only[hi,nf];exact .mk (by omega)
theorem jM1 {b:Int}:Ok (Px b) (fun v=>v>0->1<=b/\b<=7):=by
 unfold Px;refine Oi (fun c1266=>?_) (fun c1266=>?_);exact .mk (by omega);refine Ob (bN (Q:=fun _=>True) (by(simp only[nm]at *;rw[bB (by omega) (by omega)];omega)) (by(simp only[nm,nl]at *;rw[bB (by omega) (by omega)];omega)) (fun _ _ _=>trivial)) fun c a=>?_;exact .mk (by(simp only[nm]at *;omega))
theorem cN2 {a c:YS}:Ok (cG1 a c) (fun v=>v=true->1<=a.Kind/\a.Kind<=7):=by
 unfold cG1;refine Ob jM1 fun f hf=>?_;refine Ob (P:=fun r=>r=true->1<=a.Kind/\a.Kind<=7) (Oi (fun hc=>?_) (fun _=>.mk (fun h=>by cases h))) fun b hb=>?_;simp only[kV2]at hc;have:=hf hc;exact Ob jM1 fun _ _=>Ob jM1 fun _ _=>.mk (fun _=>this);refine Ob (P:=fun r=>r=true->1<=a.Kind/\a.Kind<=7) (Oi (fun hc=>?_) (fun _=>.mk (fun h=>by cases h))) fun b hb=>.mk hb;simp only[kL2]at hc;have:=hb hc.1;exact Ob sC1 fun _ _=>.mk (fun _=>this)
theorem cO2 {b c:YS}:Ok (cH1 b c) (fun _=>True):=by
 unfold cH1;refine bQ (Kd) fun d=>?_;refine Ob (P:=fun r=>¬r=true->¬(decide (d<0))=true) ?_ fun f a=>?_;refine Oi (fun _=>.mk (fun h=>absurd rfl h)) (fun c1270=>?_);refine bQ (Kd) fun e=>?_;exact .mk (fun _=>c1270);exact aX
theorem jN1 {a b:YS}:Ok (Py a b) (fun _=>True):=by
 unfold Py;refine bQ (cO2) fun c=>?_;exact aX
theorem sG1 {b c:YS}:Ok (Vi b c) (fun _=>True):=by
 unfold Vi;refine bQ (Kd) fun d=>?_;refine Ob (P:=fun r=>¬r=true->¬(decide (d<=0))=true) ?_ fun f a=>?_;refine Oi (fun _=>.mk (fun h=>absurd rfl h)) (fun c1275=>?_);refine bQ (Kd) fun e=>?_;exact .mk (fun _=>c1275);exact aX
theorem jO1 {a b:YS}:Ok (Pz a b) (fun _=>True):=by
 unfold Pz;refine bQ (sG1) fun c=>?_;exact aX
theorem sH1 {b c:YS}:Ok (Vk b c) (fun _=>True):=by
 unfold Vk;refine bQ (Kd) fun d=>?_;refine Ob (P:=fun r=>r=true->(decide (d>=0))=true) ?_ fun f a=>?_;refine Oi (fun c1280=>?_) (fun _=>.mk (fun h=>by cases h));refine bQ (Kd) fun e=>?_;exact .mk (fun _=>c1280);exact aX
theorem cP2 {b c:YS}:Ok (cI1 b c) (fun _=>True):=by
 unfold cI1;refine bQ (sG1) fun d=>?_;refine Ob (P:=fun r=>r=true->(!d)=true) ?_ fun g a=>?_;refine Oi (fun c1284=>?_) (fun _=>.mk (fun h=>by cases h));refine bQ (sH1) fun e=>?_;refine bQ (sH1) fun f=>?_;exact .mk (fun _=>c1284);exact aX
theorem T95 {a f:YS}:Ok (F95 a f) (fun _=>True):=by
 unfold F95;refine Ob cN2 fun g hg=>?_;refine Oi (fun _=>aX) (fun hc=>?_);have hk:=hg (by simpa using hc);rw[bB (n:=a.Kind-1) (by omega) (by omega)];refine Oi (fun _=>Ob jN1 fun _ _=>aX) (fun e=>?_);refine Oi (fun _=>Ob jO1 fun _ _=>aX) (fun d=>?_);refine Oi (fun _=>Ob jN1 fun _ _=>aX) (fun c=>?_);refine Oi (fun _=>Ob jN1 fun _ _=>aX) (fun b=>?_);refine Oi (fun _=>Ob jO1 fun _ _=>aX) (fun h2=>?_);refine Oi (fun _=>Ob jO1 fun _ _=>aX) (fun h1=>?_);refine Oi (fun _=>Ob cP2 fun _ _=>aX) (fun h0=>?_);simp only[mO2]at h0 h1 h2 b c d e;omega
theorem sI1 {c:aA YV} {o:Y0} {s:Int} (p:c.length+10<=1000000) (d:o.sm):Ok (cJ1 c o s) (fun v=>c.length<=v.length/\v.length<=c.length+10):=by
 unfold cJ1;have t:=d.Spanners;refine Ob (sE1 (by omega) d) fun⟨a,b⟩ m=>?_;dsimp only at m;refine Ob (P:=fun v=>c.length<=v.length/\v.length<=c.length+10) (bE (l:=o.Spanners) (fun q=>q.1) (fun i q=>c.length<=q.2.length/\q.2.length<=c.length+i) (by omega) rfl (by dsimp only;omega) (fun i e q w u hi hl g hg hw=>?_) (fun q hi g=>?_)) fun v hv=>.mk (by omega);obtain⟨x,l⟩:=q;dsimp only at hi hl g hg hw;simp only[hl,hg,nt];refine Ob (P:=fun _=>True) (fZ (fun q=>q.2) x (fun _=>True) (by omega) (by dsimp only;omega) trivial (fun q _ h1 h2=>?_)) fun b _=>?_;obtain⟨ex,k⟩:=q;dsimp only at h1 h2 ⊢;refine Ob (P:=fun r=>r=true->k<x) (Oi (fun hc=>?_) (fun _=>.mk (fun h=>by cases h))) fun b hb=>?_;simp only[kV2]at hc;exact Ob (eP (by omega) (by omega)) fun j f=>Ob (iA f.2) fun y _=>.mk (fun _=>hc);refine Oi (fun hc=>?_) (fun _=>aX);simp only[kL2]at hc;have hk:=hb hc.1;refine Ob (eP (by omega) (by omega)) fun j f=>Ob (iA f.2) fun y _=>?_;refine Ob (P:=fun _=>True) (Oi (fun _=>?_) (fun _=>aX)) fun b _=>.mk ⟨hk,h2 hk,trivial⟩;exact Ob (eP (by omega) (by omega)) fun j f=>Ob (iA f.2) fun A _=>Ob (eP (by omega) (by omega)) fun z n=>Ob (iA n.2) fun B _=>Ob T95 fun b _=>aX;exact Ob (jY (by omega) d) fun v hv=>.mk ⟨hw,by dsimp only;omega⟩;obtain⟨x,l⟩:=q;dsimp only at hi g;simp only[hi,nf];exact .mk (by omega)
theorem T96 {d:Int} {a:YM} (c:a.sm):Ok (F96 d a) (fun v=>v=false->a.RepeatEnd<=8):=by
 unfold F96;simp only[iR1,kQ2];refine Ob (P:=fun r=>r=false->a.RepeatEnd<=8) (Oi (fun hc=>.mk (fun h=>?_)) (fun hc=>.mk (fun _=>?_))) fun b hb=>?_;simp at h;omega;simp at hc;omega;exact Ob (P:=fun r=>r=false->a.RepeatEnd<=8) (Oi (fun hc=>.mk (fun h=>by cases h)) (fun hc=>.mk (fun _=>hb (by simpa using hc)))) fun b hb=>.mk hb
theorem jP1 {a:aA YV} {d:Y0} {s:Int} (p:a.length+10<=1000000) (f:d.sm):Ok (Cw a d s) (fun v=>(a.length<=v.length/\v.length<=a.length+10)/\(v.length<=a.length->∀m∈d.Measures,m.RepeatEnd<=8)):=by
 unfold Cw;have t:=f.Measures;refine Ob (P:=fun v=>(a.length<=v.length/\v.length<=a.length+10)/\(v.length<=a.length->∀m∈d.Measures,m.RepeatEnd<=8)) (bE (l:=d.Measures) (fun q=>q.1) (fun i q=>q.2.length<=a.length+i/\a.length<=q.2.length/\(q.2.length<=a.length->∀j,j<i->∀m,d.Measures[j]? =some m->m.RepeatEnd<=8)) (by omega) rfl ⟨by dsimp only;omega,kO2 _,fun _ j k=>by omega⟩ (fun i e q r o hi hl g hg hw=>?_) (fun q hi g=>?_)) fun v hv=>.mk hv;obtain⟨x,l⟩:=q;dsimp only at hi hl g hg hw;simp only[hl,hg,nt];refine Ob (T96 (f.MeasuresE e o)) fun b hb=>?_;refine Ob (dK1 (by omega)) fun v hv=>.mk ⟨hw,?_,?_,fun h j k m c=>?_⟩;dsimp only;cases b<;>simp at hv<;>omega;dsimp only;cases b<;>simp at hv<;>omega;dsimp only at h;cases b with
 |true=>simp at hv;omega
 |false=>
  simp only[kX2,false_implies,forall_const,true_and]at hv;by_cases n:j=i;subst n;rw[r]at c;cases c;exact hb rfl;exact g.2.2 (by omega) j (by omega) m c
 obtain⟨x,l⟩:=q;dsimp only at hi g;simp only[hi,nf];refine .mk ⟨⟨by omega,by omega⟩,fun h m o=>?_⟩;obtain⟨j,k⟩:=lH2.1 o;exact g.2.2 h j (kM2.1 k).1 m k
theorem cQ2 {e:Int}:Ok (cL1 e) (fun v=>0<=v/\v<=1000):=by
 unfold cL1;refine Ob (P:=fun v=>0<=v.2/\v.2<=32) (Oi (fun _=>Ob (rN (by decide)) fun n _=>.mk (by dsimp only;omega)) (fun _=>.mk (by dsimp only;omega))) fun⟨h,i⟩ c=>?_;dsimp only at c;refine Ob (P:=fun v=>0<=v.2/\v.2<=48) (Oi (fun _=>Ob (rN (by decide)) fun n _=>.mk (by dsimp only;rw[bB (by omega) (by omega)];omega)) (fun _=>.mk (by dsimp only;omega))) fun⟨j,k⟩ d=>?_;dsimp only at d;refine Ob (P:=fun v=>0<=v.2/\v.2<=56) (Oi (fun _=>Ob (rN (by decide)) fun n _=>.mk (by dsimp only;rw[bB (by omega) (by omega)];omega)) (fun _=>.mk (by dsimp only;omega))) fun⟨g,f⟩ a=>?_;dsimp only at a;have hw:=qU1 g;refine Ob (sW hw.1 hw.2) fun b hb=>.mk ?_;rw[bB (n:=b) (by omega) (by omega),bB (by omega) (by omega)];omega
theorem dR1 {b:Int}:Ok (Jw b) (fun v=>0<=v/\v<=1000):=by
 unfold Jw;refine Ob (cQ2) fun c a=>?_;exact .mk (by omega)
theorem T98 {c:YG} (d:c.passes<=1000):Ok (F98 c) (fun _=>True):=by
 unfold F98;refine Ob (P:=fun r=>r=true->(decide (c.passes>0))=true) ?_ fun f a=>?_;refine Oi (fun c1289=>?_) (fun _=>.mk (fun h=>by cases h));refine Ob (Mr (by(simp only[nm]at *;rw[bB (by omega) (by omega)];omega))) fun e b=>?_;exact .mk (fun _=>c1289);exact aX
theorem cR2 {a:YG} {f:YM} (x:f.sm) (G:a.passes<=8) (hy:f.RepeatEnd<=8):Ok (cN1 a f) (fun v=>v.1.passes<=8):=by
 unfold cN1;refine Oi (fun c1291=>?_) (fun c1291=>?_);exact .mk (by omega);refine Oi (fun c1292=>?_) (fun c1292=>?_);refine Oi (fun c1293=>?_) (fun c1293=>?_);exact .mk (by omega);refine Ob (dR1) fun w g=>?_;refine Oi (fun c1295=>?_) (fun c1295=>?_);refine Oi (fun c1296=>?_) (fun c1296=>?_);exact .mk (by omega);refine Oi (fun c1297=>?_) (fun c1297=>?_);refine bQ (T98 (by(simp only[nm]at *;omega))) fun E=>?_;refine Ob (P:=fun r=>¬r=true->¬(E||((a.passes !=0)&&(f.RepeatEnd !=a.passes)))=true) ?_ fun J b=>?_;refine Oi (fun _=>.mk (fun h=>absurd rfl h)) (fun c1300=>?_);refine Ob (dR1) fun H i=>?_;exact .mk (fun _=>c1300);refine Oi (fun c1302=>?_) (fun c1302=>?_);exact .mk (by omega);have o:=b c1302;exact .mk (by omega);exact .mk (by omega);refine Ob (P:=fun r=>¬r=true->¬(decide ((aU (w-1))>=a.passes))=true) ?_ fun z c=>?_;refine Oi (fun _=>.mk (fun h=>absurd rfl h)) (fun c1305=>?_);refine Ob (P:=fun r=>r=true->((aU (w-1))==(aU (a.passes-1)))=true) ?_ fun y j=>?_;refine Oi (fun c1307=>?_) (fun _=>.mk (fun h=>by cases h));refine bQ (T98 (by(simp only[nm]at *;omega))) fun F=>?_;refine Ob (P:=fun r=>¬r=true->¬(!F)=true) ?_ fun L k=>?_;refine Oi (fun _=>.mk (fun h=>absurd rfl h)) (fun c1310=>?_);refine Ob (Mr (by(simp(disch:=omega) only[bB,nm]at *;omega))) fun K l=>?_;exact .mk (fun _=>c1310);exact .mk (fun _=>c1307);exact .mk (fun _=>c1305);refine Oi (fun c1312=>?_) (fun c1312=>?_);exact .mk (by omega);have p:=c c1312;refine Oi (fun c1314=>?_) (fun c1314=>?_);refine bQ (T98 (by(simp only[nm]at *;omega))) fun t=>?_;refine Ob (P:=fun r=>¬r=true->¬(t||((a.passes !=0)&&(f.RepeatEnd !=a.passes)))=true) ?_ fun B d=>?_;refine Oi (fun _=>.mk (fun h=>absurd rfl h)) (fun c1317=>?_);refine Ob (dR1) fun A m=>?_;exact .mk (fun _=>c1317);refine Oi (fun c1319=>?_) (fun c1319=>?_);exact .mk (by omega);have q:=d c1319;exact .mk (by omega);exact .mk (by omega);refine Oi (fun c1321=>?_) (fun c1321=>?_);exact .mk (by omega);refine Oi (fun c1322=>?_) (fun c1322=>?_);refine bQ (T98 (by omega)) fun u=>?_;refine Ob (P:=fun r=>¬r=true->¬(u||((a.passes !=0)&&(f.RepeatEnd !=a.passes)))=true) ?_ fun D e=>?_;refine Oi (fun _=>.mk (fun h=>absurd rfl h)) (fun c1325=>?_);refine Ob (dR1) fun C n=>?_;exact .mk (fun _=>c1325);refine Oi (fun c1327=>?_) (fun c1327=>?_);exact .mk (by omega);have s:=e c1327;exact .mk (by omega);exact .mk (by omega)
theorem T97 {i:YG} {e:YM} (d:e.sm) (c:i.passes<=8) (hy:e.RepeatEnd<=8):Ok (F97 i e) (fun v=>v.1.passes<=8):=by
 unfold F97;refine Oi (fun _=>Ob (cR2 d c hy) fun⟨a,b⟩ h=>.mk h) (fun _=>?_);refine Oi (fun _=>?_) (fun _=>?_);refine Ob (T98 (by omega)) fun f _=>?_;refine Oi (fun _=>.mk c) (fun _=>?_);refine Oi (fun _=>Oi (fun h=>by cases h) (fun _=>?_)) (fun _=>?_);exact Ob (P:=fun _=>True) (Oi (fun _=>aX) (fun _=>aX)) fun⟨a,b⟩ _=>.mk (show(0:Int)<=8 by decide);exact Ob (P:=fun _=>True) (Oi (fun _=>aX) (fun _=>aX)) fun a _=>.mk (show(0:Int)<=8 by decide);refine Oi (fun _=>Oi (fun _=>.mk c) (fun _=>?_)) (fun _=>?_);exact Ob (P:=fun _=>True) (Oi (fun _=>aX) (fun _=>aX)) fun⟨a,b⟩ _=>.mk (show(0:Int)<=8 by decide);exact Ob (P:=fun g=>g.passes<=8) (Oi (fun _=>.mk (show(0:Int)<=8 by decide)) (fun _=>.mk c)) fun g hg=>.mk hg
theorem sJ1 {f:aA YV} {h:Y0} {u:Int} (n:f.length+21<=1000000) (c:h.sm) (t:0<h.Measures.length):Ok (cO1 f h u) (fun v=>f.length<=v.length/\v.length<=f.length+21):=by
 unfold cO1;have w:=c.Measures;refine Ob (jP1 (by omega) c) fun m j=>?_;refine Oi (fun _=>.mk (by omega)) (fun hc=>?_);simp only[kV2]at hc;have s:=j.2 (by omega);have o:=j.1;refine Ob (P:=fun r=>match r with|.inl p=>m.length<=p.2.length/\p.2.length<=m.length+1|.inr g=>g.passes<=8) (bE (l:=h.Measures) (fun q=>q.1) (fun i q=>q.2.passes<=8) (by omega) rfl (show(0:Int)<=8 by decide) (fun i e q t k hi hl d hg hw=>?_) (fun q hi d=>?_)) fun r hr=>?_;obtain⟨x,g⟩:=q;dsimp only at hi hl d hg hw;simp only[hl,hg,nt];refine Ob (T97 (c.MeasuresE e k) d (s e k)) fun⟨g2,b⟩ hb=>?_;refine Oi (fun _=>?_) (fun _=>.mk ⟨hw,hb⟩);exact Ob (jY (by omega) c) fun v hv=>.mk (by dsimp only;omega);obtain⟨x,g⟩:=q;dsimp only at hi d;simp only[hi,nf];exact .mk d;rcases r with⟨a,v⟩|g;exact .mk (by dsimp only at hr;omega);dsimp only at hr;refine Ob (P:=fun _=>True) (Oi (fun _=>aX) (fun _=>?_)) fun b _=>?_;exact Ob (P:=fun _=>True) (Oi (fun _=>Ob (T98 (by omega)) fun _ _=>aX) (fun _=>aX)) fun _ _=>aX;refine Ob (bN (Q:=fun _=>True) (by rw[bB (by omega) (by omega)];omega) (by rw[bB (by omega) (by omega)];omega) (fun _ _ _=>trivial)) fun y _=>?_;exact Ob (jY (by omega) c) fun v hv=>.mk (by omega)
theorem cS2 {a b:YM} (c:a.sm) (d:b.sm):Ok (cP1 a b) (fun _=>True):=by
 unfold cP1;exact aX
theorem cT2 {j:aA YM} {o:YM} (g:j.length<=10) (h:∀y∈j,y.sm) (m:o.sm):Ok (cQ1 j o) (fun _=>True):=by
 unfold cQ1;have i:=g;refine oI (l:=j) (fun q=>q) (kP2 g (by decide)) rfl (fun n k p d a c b e=>?_) (fun p a=>?_) fun r=>?_;simp only[c,b,nt];have f:=h _ d;refine bQ (cS2 f m) fun s=>?_;refine Oi (fun c1342=>?_) (fun c1342=>?_);exact aX;exact .mk e;simp only[a,nf];exact aX;rcases r with t|_;exact aX;exact aX
theorem cU2 {d:aA YM} {e:YM} (b:d.length<=10) (a:∀y∈d,y.sm) (c:e.sm):Ok (cR1 d e) (fun _=>True):=by
 unfold cR1;refine bQ (cT2 b a c) fun f=>?_;exact aX
theorem cV2 {a:YM} {c:Int} (b:a.sm):Ok (cS1 a c) (fun _=>True):=by
 unfold cS1;exact aX
theorem jQ1 {j:aA YM} {n:Int} (g:j.length<=10) (h:∀y∈j,y.sm):Ok (Cy j n) (fun _=>True):=by
 unfold Cy;have i:=g;refine oI (l:=j) (fun q=>q) (kP2 g (by decide)) rfl (fun m k o d a c b e=>?_) (fun o a=>?_) fun p=>?_;simp only[c,b,nt];have f:=h _ d;refine bQ (cV2 f) fun r=>?_;refine Oi (fun c1357=>?_) (fun c1357=>?_);exact aX;exact .mk e;simp only[a,nf];exact aX;rcases p with s|_;exact aX;exact aX
theorem jR1 {b:YK} {c:Int} (a:b.s'.sm):Ok (Qb b c) (fun _=>True):=by
 unfold Qb;refine bQ (jQ1 a.Measures a.MeasuresE) fun d=>?_;exact aX
theorem jS1 {c:Int} {b:YK} {d:Int} (a:b.s'.sm):Ok (Qc c b d) (fun _=>True):=by
 unfold Qc;refine bQ (jR1 a) fun e=>?_;refine bQ (Hq) fun f=>?_;exact aX
theorem cW2 {e:YK} {f k:Int} (a:e.s'.sm):Ok (cU1 e f k) (fun _=>True):=by
 unfold cU1;refine Ob (P:=fun r=>r=true->(decide (f>=4))=true) ?_ fun n b=>?_;refine Oi (fun c1362=>?_) (fun _=>.mk (fun h=>by cases h));refine bQ (jS1 a) fun m=>?_;exact .mk (fun _=>c1362);refine Oi (fun c1364=>?_) (fun c1364=>?_);have d:=b c1364;exact aX;refine bQ ?_ fun o=>?_;refine Oi (fun c1367=>?_) (fun c1367=>?_);exact aX;exact aX;refine Oi (fun c1368=>?_) (fun c1368=>?_);refine bQ (jS1 a) fun p=>?_;exact aX;refine bQ ?_ fun q=>?_;refine Oi (fun c1371=>?_) (fun c1371=>?_);exact aX;exact aX;refine Oi (fun c1372=>?_) (fun c1372=>?_);refine bQ (jS1 a) fun l=>?_;refine Ob (P:=fun r=>r=true->l=true) ?_ fun j c=>?_;refine Oi (fun c1375=>?_) (fun _=>.mk (fun h=>by cases h));refine bQ (jR1 a) fun g=>?_;refine bQ (jR1 a) fun i=>?_;exact .mk (fun _=>c1375);exact aX;exact aX
theorem T99 {e:Int} {h:YM} {f:YK} (d:h.sm) (a:f.s'.sm) (g:0<=e/\e<=(f.s'.Measures.length:Int)):Ok (F99 e h f) (fun _=>True):=by
 unfold F99;refine Ob Hq fun w _=>?_;refine Ob (P:=fun _=>True) (Oi (fun _=>aX) (fun _=>Ob Hq fun _ _=>aX)) fun b _=>?_;refine Oi (fun _=>aX) (fun _=>?_);refine Ob (Ao (by decide) g.1 g.2) fun l hl=>?_;refine Ob (cU2 (lJ2 hl.1 a.Measures) (fun y hy=>a.MeasuresE y (hl.2 y hy)) d) fun c _=>?_;exact Ob (P:=fun _=>True) (Oi (fun _=>aX) (fun _=>Ob (cW2 a) fun _ _=>aX)) fun b _=>aX
theorem jT1 {i:aA YV} {o:Y0} {u:Int} (q:i.length+10<=1000000) (f:o.sm):Ok (Cz i o u) (fun v=>i.length<=v.length/\v.length<=i.length+10):=by
 unfold Cz;have j:=f.Measures;refine og o.Measures i 10 1 (kP2 f.Measures (by decide)) (fun n l q1389 k g a d b c e=>?_) (fun q1389 a b=>?_) fun t p=>?_;obtain⟨w,x⟩:=q1389;dsimp only at a d c e b;simp only[d,c,nt];have h:=f.MeasuresE _ g;refine bQ (T99 h f (by(simp only[nm]at *;omega))) fun r=>?_;refine Ob (jY (by first|omega|(simp only[kZ2]at *;omega)) f) fun s m=>?_;exact .mk ⟨e,by dsimp only;omega⟩;obtain⟨w,x⟩:=q1389;dsimp only at a b;simp only[a,nf];exact .mk (by dsimp only;omega);exact .mk (by omega)
theorem sK1 {a:aA YV} {d:Y0} {f:Int} (e:a.length+10<=1000000) (c:d.sm):Ok (cW1 a d f) (fun v=>a.length<=v.length/\v.length<=a.length+10):=by
 unfold cW1;refine Ob (jT1 (by first|omega|(simp only[kZ2]at *;omega)) c) fun g b=>?_;exact .mk (by omega)
theorem cX2 {E:Int} {m:YM} (f:m.sm):Ok (cX1 E m) (fun _=>True):=by
 unfold cX1;refine bQ (T24 f) fun⟨N,O⟩=>?_;refine Ob (P:=fun r=>r=true->(m.Swing !=0)=true) ?_ fun M u=>?_;refine Oi (fun c1397=>?_) (fun _=>.mk (fun h=>by cases h));refine bQ (Hq) fun R=>?_;exact .mk (fun _=>c1397);refine Ob (P:=fun r=>¬r=true->¬M=true) ?_ fun T v=>?_;refine Oi (fun _=>.mk (fun h=>absurd rfl h)) (fun c1400=>?_);refine bQ (Hq) fun S=>?_;exact .mk (fun _=>c1400);have p:=f.Tempi;refine oI (l:=m.Tempi) (fun q=>q.2) (kP2 f.Tempi (by decide)) rfl (fun z t q1412 n a c b d=>?_) (fun q1412 a=>?_) fun L=>?_;obtain⟨j,k⟩:=q1412;dsimp only at a c b d;simp only[c,b,nt];refine Ob (P:=fun r=>¬r=true->¬j=true) ?_ fun C e=>?_;refine Oi (fun _=>.mk (fun h=>absurd rfl h)) (fun c1415=>?_);refine bQ (Hq) fun F=>?_;exact .mk (fun _=>c1415);refine Ob (P:=fun r=>¬r=true->¬C=true) ?_ fun D g=>?_;refine Oi (fun _=>.mk (fun h=>absurd rfl h)) (fun c1418=>?_);have A:=e c1418;refine bQ (Hq) fun G=>?_;exact .mk (fun _=>c1418);refine Ob (P:=fun r=>¬r=true->¬D=true) ?_ fun K w=>?_;refine Oi (fun _=>.mk (fun h=>absurd rfl h)) (fun c1422=>?_);have i:=g c1422;have B:=e i;refine Ob (P:=fun r=>r=true->(decide (k>0))=true) ?_ fun J y=>?_;refine Oi (fun c1426=>?_) (fun _=>.mk (fun h=>by cases h));have s:=f.Tempi;refine Ob (P:=fun x=>x∈m.Tempi) (bN (by(simp only[nm]at *;rw[bB (by omega) (by omega)];omega)) (by(simp only[nm]at *;rw[bB (by omega) (by omega)];omega)) (fun _ h _=>h)) fun H o=>?_;exact .mk (fun _=>c1426);exact .mk (fun _=>c1422);exact .mk d;obtain⟨j,k⟩:=q1412;dsimp only at a;simp only[a,nf];exact aX;exact aX
theorem jU1 {i:aA YV} {o:Y0} {u:Int} (q:i.length+10<=1000000) (f:o.sm):Ok (Da i o u) (fun v=>i.length<=v.length/\v.length<=i.length+10):=by
 unfold Da;have j:=f.Measures;refine og o.Measures i 10 1 (kP2 f.Measures (by decide)) (fun n l q1441 k g a d b c e=>?_) (fun q1441 a b=>?_) fun t p=>?_;obtain⟨w,x⟩:=q1441;dsimp only at a d c e b;simp only[d,c,nt];have h:=f.MeasuresE _ g;refine bQ (cX2 h) fun r=>?_;refine Ob (jY (by first|omega|(simp only[kZ2]at *;omega)) f) fun s m=>?_;exact .mk ⟨e,by dsimp only;omega⟩;obtain⟨w,x⟩:=q1441;dsimp only at a b;simp only[a,nf];exact .mk (by dsimp only;omega);exact .mk (by omega)
theorem sL1 {a:aA YV} {d:Y0} {f:Int} (e:a.length+10<=1000000) (c:d.sm):Ok (cZ1 a d f) (fun v=>a.length<=v.length/\v.length<=a.length+10):=by
 unfold cZ1;refine Ob (jU1 (by first|omega|(simp only[kZ2]at *;omega)) c) fun g b=>?_;exact .mk (by omega)
theorem cY2 {i:YP} {e:YE} {g:YK} (a:e.sm) (c:g.s'.sm):Ok (dA1 i e g) (fun _=>True):=by
 unfold dA1;refine Ob (T89 c) fun⟨q,f⟩ d=>?_;dsimp only at d;refine Ob (P:=fun r=>¬r=true->f=true) (Oi (fun _=>.mk (fun h=>absurd rfl h)) (fun hc=>Ob (T88 a) fun t _=>.mk (fun _=>by simpa using hc))) fun b hb=>?_;refine Oi (fun _=>aX) (fun hc=>?_);simp only[lB2,nI2]at hc;have:=d (hb hc.1);exact Ob (bN (Q:=fun _=>True) this.1 this.2.1 (fun _ _ _=>trivial)) fun x _=>Ob (bN (Q:=fun _=>True) this.2.2.1 this.2.2.2 (fun _ _ _=>trivial)) fun y _=>aX
theorem jV1 {H:aA YV} {x2:Y0} {x3:Int} (d9:H.length+3000<=1000000) (y:x2.sm):Ok (Db H x2 x3) (fun v=>H.length<=v.length/\v.length<=H.length+3000):=by
 unfold Db;have O:=y.Measures;refine og x2.Measures H 3000 300 (kP2 y.Measures (by decide)) (fun Z D q1458 T z c p g a t=>?_) (fun q1458 c g=>?_) fun d8 b8=>?_;obtain⟨b5,L⟩:=q1458;dsimp only at c p a t g;simp only[p,a,nt];have l:=y.MeasuresE _ z;have P:=l.Cells;refine og D.Cells L 300 60 (kP2 l.Cells (by decide)) (fun a0 E q1472 U A d q h b u=>?_) (fun q1472 d h=>?_) fun d7 b9=>?_;obtain⟨b6,M⟩:=q1472;dsimp only at d q b u h;simp only[q,a,b,nt];have m:=l.CellsE _ A;have R:=m.Voices;refine og E.Voices M 60 20 (kP2 m.Voices (by decide)) (fun b0 F q1486 V B e r i k w=>?_) (fun q1486 e i=>?_) fun d6 d1=>?_;obtain⟨b7,N⟩:=q1486;dsimp only at e r k w i;simp only[r,a,b,k,nt];have n:=m.VoicesE _ B;have S:=n.Events;refine og F.Events N 20 1 (kP2 n.Events (by decide)) (fun b4 X q1500 W C f s j o x=>?_) (fun q1500 f j=>?_) fun d5 d2=>?_;obtain⟨J,K⟩:=q1500;dsimp only at f s o x j;simp only[s,a,b,k,o,nt];have G:=n.EventsE _ C;refine bQ (cY2 G y) fun d3=>?_;refine Ob (jY (by first|omega|(simp only[kZ2]at *;omega)) y) fun d4 Y=>?_;exact .mk ⟨x,by dsimp only;omega⟩;obtain⟨J,K⟩:=q1500;dsimp only at f j;simp only[f,nf];exact .mk (by dsimp only;omega);exact .mk ⟨w,by dsimp only;omega⟩;obtain⟨b7,N⟩:=q1486;dsimp only at e i;simp only[e,nf];exact .mk (by dsimp only;omega);exact .mk ⟨u,by dsimp only;omega⟩;obtain⟨b6,M⟩:=q1472;dsimp only at d h;simp only[d,nf];exact .mk (by dsimp only;omega);exact .mk ⟨t,by dsimp only;omega⟩;obtain⟨b5,L⟩:=q1458;dsimp only at c g;simp only[c,nf];exact .mk (by dsimp only;omega);exact .mk (by omega)
theorem sM1 {a:aA YV} {d:Y0} {f:Int} (e:a.length+3000<=1000000) (c:d.sm):Ok (dC1 a d f) (fun v=>a.length<=v.length/\v.length<=a.length+3000):=by
 unfold dC1;refine Ob (jV1 (by first|omega|(simp only[kZ2]at *;omega)) c) fun g b=>?_;exact .mk (by omega)
theorem nX {c1 c2:Bool} {x:aA YV} {R:aB (aA YV)} (c:Ok R fun _=>True):Ok (((if decide ((x.length:Int)>0)=true then((if c1=true then some true else((if c2=true then(cF x 0).bind fun a=>(dA x a).bind fun v=>some (decide (v.Rule<10))else some false:aB Bool)).bind fun y=>some y:aB Bool)).bind fun z=>some z else some false:aB Bool)).bind fun b=>if b=true then some x else R) fun _=>True:=by
 have k:∀D:aB Bool,(∃b,D=some b)->Ok (D.bind fun b=>if b=true then some x else R) fun _=>True:=fun D h=>by
  obtain⟨b,rfl⟩:=h;cases b with
  |true=>exact aX
  |false=>exact c
 refine k _ ?_;cases x with
 |nil=>exact⟨_,rfl⟩
 |cons v r=>
  have e:cF (v::r) 0=some 0:=by
   unfold cF oS;rw[kT2 ⟨by decide,by simp⟩];rfl
  rw[kT2 (by simp),e];cases c1<;>cases c2<;>exact⟨_,rfl⟩
theorem T21 {b:Y0} (a:b.sm) (c:0<b.Measures.length):Ok (F21 b) (fun _=>True):=by
 unfold F21;refine nX (Ob (qV1 (by simp only[nl]at *;omega) a) fun _ _=>?_);refine nX (Ob (qY1 (by simp only[nl]at *;omega) a) fun _ _=>?_);refine nX (Ob (qZ1 (by simp only[nl]at *;omega) a) fun _ _=>?_);refine nX (Ob (rA1 (by simp only[nl]at *;omega) a) fun _ _=>?_);refine nX (Ob (rB1 (by simp only[nl]at *;omega) a) fun _ _=>?_);refine nX (Ob (rQ1 (by simp only[nl]at *;omega) a) fun _ _=>?_);refine nX (Ob (rR1 (by simp only[nl]at *;omega) a) fun _ _=>?_);refine nX (Ob (rS1 (by simp only[nl]at *;omega) a) fun _ _=>?_);refine nX (Ob (rT1 (by simp only[nl]at *;omega) a) fun _ _=>?_);refine nX (Ob (rY1 (by simp only[nl]at *;omega) a) fun _ _=>?_);refine nX (Ob (rZ1 (by simp only[nl]at *;omega) a) fun _ _=>?_);refine nX (Ob (sF1 (by simp only[nl]at *;omega) a) fun _ _=>?_);refine nX (Ob (sI1 (by simp only[nl]at *;omega) a) fun _ _=>?_);refine nX (Ob (sJ1 (by simp only[nl]at *;omega) a c) fun _ _=>?_);refine nX (Ob (sK1 (by simp only[nl]at *;omega) a) fun _ _=>?_);refine nX (Ob (sL1 (by simp only[nl]at *;omega) a) fun _ _=>?_);refine nX (Ob (sM1 (by simp only[nl]at *;omega) a) fun _ _=>?_);exact aX
theorem T11 {c:Y0} (a:c.sm):Ok (Jx c) (fun _=>True):=by
 unfold Jx;refine Ob (P:=fun _=>True) ?_ fun v _=>aX;by_cases h0:0<c.Measures.length;exact(T21 a h0).mono fun _ _=>trivial;unfold F21;refine Ob (P:=fun r=>r=false) (Oi (fun h=>by simp at h) (fun _=>.mk rfl)) fun b hb=>?_;subst hb;refine Oi (fun h=>by cases h) (fun _=>?_);refine Ob (aF2 a (by omega) (by decide)) fun v hv=>?_;refine Ob (P:=fun r=>r=true) (Oi (fun h=>Ob (P:=fun r=>r=true) (Oi (fun _=>.mk rfl) (fun h=>absurd rfl h)) fun b hb=>.mk hb) (fun h=>by simp at h;simp[h]at hv)) fun b hb=>?_;subst hb;exact Oi (fun _=>aX) (fun h=>absurd rfl h)
end Go.P
set_option maxHeartbeats 1000000
namespace Go.P
theorem Ms {α β:Type} {x:aB α} {a:α} {K:α->aB β} {r:aB β} (h:x=some a) (hk:K a=r):x.bind K=r:=by subst h;exact hk
theorem Ok.eq {α:Type} {x:aB α} {a:α} (h:Ok x (fun v=>v=a)):x=some a:=by
 obtain⟨v,h1,rfl⟩:=h;exact h1
theorem jW1 (c d:Bool):(if c=true then some true else some d)=some (c||d):=by cases c<;>rfl
section
variable {K V:Type} [DecidableEq K]
theorem pP (k:K):∀(l:aA (K×V)) (i:Nat),hU k l (i+1)=(hU k l i).map fun p=>(p.1+1,p.2)
 |[],i=>rfl
 |p::r,i=>by
  simp only[hU]
  by_cases e:k=p.1
  rw[kT2 e,kT2 e];rfl
  rw[kR2 e,kR2 e];exact pP k r (i+1)
theorem oJ (p:K×V) (r:aA (K×V)) (k:K) (z:V):lH (p::r) k z=if k=p.1 then p.2 else lH r k z:=by
 unfold lH;simp only[hU];by_cases e:k=p.1;rw[kT2 e,kT2 e];rw[kR2 e,kR2 e,pP];cases hU k r 0<;>rfl
theorem Qe (p:K×V) (r:aA (K×V)) (k:K) (x:V):rF (p::r) k x=if k=p.1 then(k,x)::r else p::rF r k x:=by
 unfold rF;simp only[hU];by_cases e:k=p.1;rw[kT2 e,kT2 e];rfl;rw[kR2 e,kR2 e,pP];cases hU k r 0<;>rfl
theorem Ap (k a:K) (x z:V):∀l:aA (K×V),lH (rF l k x) a z=if a=k then x else lH l a z
 |[]=>by
  show lH ([]++[(k,x)]) a z=_
  rw[List.nil_append,oJ]
 |p::r=>by
  rw[Qe,oJ]
  by_cases e:k=p.1
  rw[kT2 e,oJ]
  by_cases e2:a=k
  rw[kT2 e2,kT2 e2]
  rw[kR2 e2,kR2 e2,kR2 (fun h=>e2 (h.trans e.symm))]
  rw[kR2 e,oJ,Ap k a x z r]
  by_cases e2:a=p.1
  rw[kT2 e2,kT2 e2,kR2 (fun h=>e (h.symm.trans e2))]
  rw[kR2 e2,kR2 e2]
end
end Go.P
namespace Go.P
variable {s:Y0}
def cY (s:Y0):Prop:=∀m∈s.Measures,∃n,Am m=some (n,0)
theorem cZ2 {x:Int} {m:YM} {c:YK} (f:m.sm) (hc:c.s'.sm):Ok (F72 x m c) (fun b=>b=false->∃n,Am m=some (n,0)):=by
 unfold F72;refine Ok.bindE (T24 f) fun⟨n,e⟩ hv _=>?_;dsimp only;refine Ob (P:=fun b=>e≠0->b=true) (Oi (fun _=>.mk fun _=>rfl) (fun h=>Ob Hq fun _ _=>.mk (fun h2=>absurd (by simpa using h2) h))) fun d h0=>?_;have g:=hc.Parts;refine Ob (P:=fun r=>d=true->r=true) (bE (l:=c.s'.Parts) (fun q=>q.2) (fun _ q=>d=true->q.1=true) (by omega) rfl (fun h=>h) (fun i y q j f hi hl a hg hw=>?_) (fun q hi a=>?_)) fun r hr=>.mk (fun hf=>⟨n,?_⟩);obtain⟨b,k⟩:=q;dsimp only at hi hl a hg hw;simp only[hl,hg,nt];refine Ob (P:=fun r=>d=true->r=true) (Oi (fun hd=>Ob T73 fun⟨u,v⟩ _=>.mk (fun h=>?_)) (fun _=>.mk a)) fun r hr=>.mk ⟨hw,hr⟩;rw[a h]at hd;simp at hd;obtain⟨b,k⟩:=q;dsimp only at hi a;simp only[hi,nf];exact .mk a
 have:e=0:=by
  by_cases he:e=0;exact he;have:=hr (h0 he);rw[hf]at this;cases this
 rw[hv,this]
theorem dA2 {l:aA YV} {r:Int} (h:l.length+10<=1000000) (hs:s.sm):Ok (sT l s r) (fun v=>v.length<=l.length->cY s):=by
 unfold sT;have p:=hs.Measures;refine Ob (P:=fun v=>v.length<=l.length->cY s) (bE (l:=s.Measures) (fun q=>q.1) (fun i q=>q.2.length<=l.length+i/\l.length<=q.2.length/\(q.2.length<=l.length->∀j,j<i->∀m,s.Measures[j]? =some m->∃n,Am m=some (n,0))) (by omega) rfl ⟨by dsimp only;omega,kO2 _,fun _ j d=>by omega⟩ (fun i e q o k hi hl c hg hw=>?_) (fun q hi c=>?_)) fun v hv=>.mk hv;obtain⟨x,v⟩:=q;dsimp only at hi hl c hg hw;simp only[hl,hg,nt];refine Ob (cZ2 (hs.MeasuresE e k) hs) fun b hb=>?_;refine Ob (dK1 (by omega)) fun u f=>.mk ⟨hw,?_,?_,fun h j d m a=>?_⟩;dsimp only;cases b<;>simp at f<;>omega;dsimp only;cases b<;>simp at f<;>omega;dsimp only at h;cases b with
 |true=>simp at f;omega
 |false=>
  simp only[kX2,false_implies,forall_const,true_and]at f;by_cases g:j=i;subst g;rw[o]at a;cases a;exact hb rfl;exact c.2.2 (by omega) j (by omega) m a
 obtain⟨x,v⟩:=q;dsimp only at hi c;simp only[hi,nf];refine .mk (fun h m k=>?_);obtain⟨j,d⟩:=lH2.1 k;exact c.2.2 h j (kM2.1 d).1 m d
theorem Hc {x v:aA YV} {D:aB Bool} {R:aB (aA YV)} (h:((if decide ((x.length:Int)>0)then D else some false).bind fun b=>if b then some x else R)=some v) (h0:v.length=0):R=some v:=by
 by_cases a:((x.length:Int)>0);rw[kT2 (by simpa using a)]at h;cases D with
 |none=>cases h
 |some b=>
  cases b with
  |true=>simp at h;subst h;omega
  |false=>exact h
 rw[kR2 (by simpa using a)]at h;exact h
theorem iV {A B:Type} {x:aB A} {k:A->aB B} {v:B} (h:x.bind k=some v):∃a,x=some a/\k a=some v:=kK2.1 h
theorem E38 (hs:s.sm) (t:0<s.Measures.length) {v:aA YV} (h:F21 s=some v) (h0:v.length=0):cY s:=by
 unfold F21 at h;have h:=Hc h h0;obtain⟨V,k,h⟩:=iV h;have M:=(qV1 (by decide) hs).of k;have h:=Hc h h0;obtain⟨W,e2,h⟩:=iV h;have N:=(qY1 (by simp only[nl]at *;omega) hs).of e2;have h:=Hc h h0;obtain⟨X,l,h⟩:=iV h;have O:=(qZ1 (by simp only[nl]at *;omega) hs).of l;have h:=Hc h h0;obtain⟨Y,m,h⟩:=iV h;have P:=(rA1 (by simp only[nl]at *;omega) hs).of m;have h:=Hc h h0;obtain⟨Z,a,h⟩:=iV h;have R:=(rB1 (by simp only[nl]at *;omega) hs).of a;have h:=Hc h h0;obtain⟨x6,n,h⟩:=iV h;have S:=(rQ1 (by simp only[nl]at *;omega) hs).of n;have h:=Hc h h0;obtain⟨x7,o,h⟩:=iV h;have T:=(rR1 (by simp only[nl]at *;omega) hs).of o;have h:=Hc h h0;obtain⟨x8,p,h⟩:=iV h;have i8:=(rS1 (by simp only[nl]at *;omega) hs).of p;have h:=Hc h h0;obtain⟨x9,q,h⟩:=iV h;have U:=(rT1 (by simp only[nl]at *;omega) hs).of q;have h:=Hc h h0;obtain⟨D,b,h⟩:=iV h;have u:=(rY1 (by simp only[nl]at *;omega) hs).of b;have h:=Hc h h0;obtain⟨E,c,h⟩:=iV h;have w:=(rZ1 (by simp only[nl]at *;omega) hs).of c;have h:=Hc h h0;obtain⟨F,d,h⟩:=iV h;have x:=(sF1 (by simp only[nl]at *;omega) hs).of d;have h:=Hc h h0;obtain⟨G,e,h⟩:=iV h;have z:=(sI1 (by simp only[nl]at *;omega) hs).of e;have h:=Hc h h0;obtain⟨H,f,h⟩:=iV h;have A:=(sJ1 (by simp only[nl]at *;omega) hs t).of f;have h:=Hc h h0;obtain⟨J,g,h⟩:=iV h;have B:=(sK1 (by simp only[nl]at *;omega) hs).of g;have h:=Hc h h0;obtain⟨K,i,h⟩:=iV h;have i16:=(sL1 (by simp only[nl]at *;omega) hs).of i;have h:=Hc h h0;obtain⟨L,j,h⟩:=iV h;have C:=(sM1 (by simp only[nl]at *;omega) hs).of j;cases h;unfold Up at a;obtain⟨y,a,r⟩:=iV a;cases r;exact(dA2 (by simp only[nl]at *;omega) hs).of a (by omega)
theorem sN1 (hs:s.sm) (hv:Jx s=some true):cY s:=by
 by_cases a:0<s.Measures.length;unfold Jx at hv;obtain⟨v,h,hv⟩:=iV hv;exact E38 hs a h (by simp at hv;simp[hv]);intro m b;have:=List.length_pos_of_mem b;omega
theorem U65:∀u:Fin 65,0<u.val->0<(1935360:Int).tdiv u.val/\(1935360:Int).tdiv u.val<=1935360:=by decide+kernel
theorem E94 {m:YM} {n:Int} (h:Am m=some (n,0)):0<n/\n<=15482880:=by
 unfold Am at h;obtain⟨⟨a,e⟩,h1,h⟩:=iV h;dsimp only at h;split at h;rename_i he;cases h;simp at he;rename_i he;have he:e=0:=by simpa using he
 subst he;split at h;cases h;rename_i o;obtain⟨x,b,h⟩:=iV h;obtain⟨y,_,h⟩:=iV h;split at h;cases h;split at h;cases h;rename_i p;cases h;simp only[kV2]at o b p;refine⟨?_,by omega⟩;split at b;cases b;assumption;cases b;unfold F53 Um Uo Un at h1;obtain⟨c,hc,h1⟩:=iV h1
 have f:c=0:=by
  by_cases d:c=0;exact d;rw[kT2 (by simpa using d)]at h1;cases h1;exact absurd rfl d
 subst f;rw[kR2 (by simp)]at h1;split at hc;cases hc;rename_i l;split at hc;cases hc;rename_i g2;simp only[lB2,kV2,nI2,bne_iff_ne,ne_eq,Decidable.not_not]at l g2;obtain⟨z,j,h1⟩:=iV h1;cases h1;obtain⟨q,g,j⟩:=iV j;cases j;generalize m.Metre.Unit=u at *;generalize m.Metre.Count=k at *;have i:=U65 ⟨u.toNat,by omega⟩ (by dsimp only;omega);dsimp only at i;rw[Int.toNat_of_nonneg (by omega)]at i;unfold Gm at g;rw[kR2 (by omega),show IntKind.wrap .i64 ((1935360:Int).tdiv u)=aU ((1935360:Int).tdiv u)from rfl,bB (by omega) (by omega)]at g;cases g;generalize(1935360:Int).tdiv u=z at *;have r:k*z<=64*1935360:=nF2 (by omega) i.2 (by omega) (by decide);have s:1*1<=k*z:=nF2 (by omega) (by omega) (by decide) (by omega);rw[bB (by omega) (by omega)];omega
end Go.P
namespace Go.P
theorem sO1 {α:Type} {x:aB α} {a:α} (h:Ok x (fun v=>v=a)):x=some a:=by
 obtain⟨v,rfl,rfl⟩:=h;rfl
theorem okb {α β:Type} {x:aB α} {v:α} {k:α->aB β} {Q:β->Prop} (h:x=some v) (hk:Ok (k v) Q):Ok (x.bind k) Q:=by
 subst h;exact hk
def pQ:aA Int->aA Int->Int
 |a::aqs,b::bs=>if a<b then -1 else if a>b then 1 else pQ aqs bs
 |_,_=>0
theorem dS1 {a b:Int} {aqs c:aA Int}:pQ (a::aqs) (b::c)<=0↔a<b\/a=b/\pQ aqs c<=0:=by
 rw[pQ];split;omega;split<;>omega
theorem He:∀a b:aA Int,pQ b a= -pQ a b
 |[],[]=>rfl
 |[],_::_=>rfl
 |_::_,[]=>rfl
 |a::aqs,b::bs=>by
  have:=He aqs bs
  simp only[pQ]
  repeat' split
  all_goals omega
theorem xX:∀a b c:aA Int,a.length=b.length->b.length=c.length->pQ a b<=0->pQ b c<=0->pQ a c<=0
 |[],[],[],_,_,_,_=>mP2 _
 |a::aqs,b::bs,c::cs,h1,h2,e,d=>by
  rw[dS1]at e d ⊢
  have:=xX aqs bs cs (by simpa using h1) (by simpa using h2)
  rcases e with e|⟨e,h5⟩
  rcases d with d|⟨d,h6⟩<;>exact .inl (by omega)
  rcases d with d|⟨d,h6⟩
  exact .inl (by omega)
  exact .inr ⟨by omega,this h5 h6⟩
def KN (x:aF):aA Int:=[x.On,x.Number,x.Part,x.Staff,x.Voice,x.Off,x.Event.Site,x.Event.Number,x.Head]
def cN (x y:aF):Int:=pQ (KN x) (KN y)
def Df (x y:aF):Prop:=cN x y<=0
theorem Dg (x:aF):(KN x).length=9:=rfl
theorem Dh (x y:aF):cN y x= -cN x y:=He _ _
theorem gA {x y z:aF} (h1:Df x y) (h2:Df y z):Df x z:=xX _ _ _ (by rw[Dg,Dg]) (by rw[Dg,Dg]) h1 h2
theorem Di {x y:aF} (h:cN x y<0):Df x y:=by unfold Df;omega
theorem Dj {x y:aF} (h:¬cN y x<0):Df x y:=by have:=Dh x y;unfold Df;omega
def Sd (r l:aA aF):Prop:=r.Perm l/\r.Pairwise Df
def d0:aF:=⟨0,0,0,0,0,0,⟨0,0⟩,0⟩
def gn (l:aA aF) (p:Nat):aF:=l.getD p d0
theorem xY {l:aA aF} {p:Nat} (h:p<l.length):gn l p=l[p]:=by simp[gn,h]
theorem gI {l:aA aF} {p:Nat} (h:p<l.length):dA l p=some (gn l p):=by
 rw[xY h];exact lV2 h
theorem eQ {A:Type} {l:aA A} {i:Int} {p:Nat} (hi:i=(p:Int)) (h:p<l.length):cF l i=some p:=by
 subst hi;unfold cF oS;rw[kT2 ⟨by omega,by omega⟩,Int.toNat_natCast]
def swp (l:aA aF) (p q:Nat):aA aF:=(l.set p (gn l q)).set q (gn l p)
theorem vF (l:aA aF) (p q:Nat):(swp l p q).length=l.length:=by simp[swp]
theorem Wc {l:aA aF} {p q:Nat} {v:aF} (h:p<l.length):gn (l.set p v) q=if q=p then v else gn l q:=by
 unfold gn;rw[List.getD_eq_getElem?_getD,List.getD_eq_getElem?_getD,lL2];by_cases a:p=q;subst a;simp[h];rw[kR2 a,kR2 (fun h=>a h.symm)]
theorem pR {l:aA aF} {p q k:Nat} (hp:p<l.length) (a:q<l.length):gn (swp l p q) k=if k=q then gn l p else if k=p then gn l q else gn l k:=by
 unfold swp;rw[Wc (by simpa using a),Wc hp]
theorem rP {l:aA aF} {p q:Nat} (hp:p<l.length) (a:q<l.length):(swp l p q).Perm l:=by
 unfold swp;rw[xY hp,xY a];exact List.set_set_perm hp a
theorem oK {l:aA aF} {p:Nat} {v:aF} (h:p<l.length):kW l p (fun _=>v)=some (l.set p v):=by
 unfold kW;rw[lV2 h];rfl
theorem jX1 {l:aA aF} {f g:Int} {p q:Nat} (h:f=(q:Int)) (e2:g=(p:Int)) (hp:p<l.length) (e:q<l.length) {B:Type} {k:aA aF->aB B} {Q:B->Prop} (hk:Ok (k (swp l p q)) Q):
  Ok ((cF l f).bind fun a=>(dA l a).bind fun x=>(cF l g).bind fun b=>(dA l b).bind fun y=>(cF l g).bind fun c=>(kW l c (fun _=>x)).bind fun i=>(cF i f).bind fun d=>(kW i d (fun _=>y)).bind k) Q:=by
 refine okb (eQ h e) (okb (gI e) (okb (eQ e2 hp) (okb (gI hp) (okb (eQ e2 hp) (okb (oK hp) ?_)))));exact okb (eQ h (by simpa using e)) (okb (oK (by simpa using e)) hk)
theorem dT1 {x:Int} (h0:0<=x) (h1:x<9223372036854775808):rE .u64 (IntKind.wrap .u64 (aU x)) 1=some (x/2):=by
 rw[bB (by omega) h1]
 have e:IntKind.wrap .u64 x=x:=by
  unfold IntKind.wrap;rw[show((2:Int)^IntKind.bits .u64)=18446744073709551616 from rfl];simp[IntKind.signed];omega
 rw[e];unfold rE;rw[kR2 (by decide),show min (Int.toNat 1) (IntKind.bits .u64)=1 from rfl];simp only[Int.pow_succ,Int.pow_zero,Int.one_mul];rw[Int.fdiv_eq_ediv_of_nonneg _ (by decide)]
def Sg (r l:aA aF) (a b:Nat):Prop:=r.Perm l/\r.length=l.length/\(∀p,p<a\/b<=p->gn r p=gn l p)/\∀p,a<=p->p<b->∃q,a<=q/\q<b/\gn r p=gn l q
theorem Sg.refl (l:aA aF) (a b:Nat):Sg l l a b:=⟨.refl _,rfl,fun _ _=>rfl,fun p h1 h2=>⟨p,h1,h2,rfl⟩⟩
theorem Sg.trans {r l m:aA aF} {a b:Nat} (h1:Sg r l a b) (h2:Sg l m a b):Sg r m a b:=
 ⟨h1.1.trans h2.1,h1.2.1.trans h2.2.1,fun p hp=>(h1.2.2.1 p hp).trans (h2.2.2.1 p hp),fun p c d=>by
  obtain⟨q,q1,q2,q3⟩:=h1.2.2.2 p c d
  obtain⟨s,e,f,g⟩:=h2.2.2.2 q q1 q2
  exact⟨s,e,f,q3.trans g⟩⟩
theorem Sg.mono {r l:aA aF} {a b a' b':Nat} (h:Sg r l a b) (e:a'<=a) (hb:b<=b'):Sg r l a' b':=
 ⟨h.1,h.2.1,fun p hp=>h.2.2.1 p (by omega),fun p c d=>by
  by_cases hc:a<=p/\p<b
  obtain⟨q,q1,q2,q3⟩:=h.2.2.2 p hc.1 hc.2
  exact⟨q,by omega,by omega,q3⟩
  exact⟨p,c,d,h.2.2.1 p (by omega)⟩⟩
theorem Sg.swp {l:aA aF} {a b p q:Nat} (hb:b<=l.length) (h1:a<=p) (h2:p<b) (d:a<=q) (e:q<b):Sg (swp l p q) l a b:=by
 refine⟨rP (by omega) (by omega),vF _ _ _,fun k hk=>?_,fun k f g=>?_⟩;rw[pR (by omega) (by omega),kR2 (by omega),kR2 (by omega)];rw[pR (by omega) (by omega)];by_cases c:k=q;exact⟨p,h1,h2,by rw[kT2 c]⟩;by_cases e2:k=p;exact⟨q,d,e,by rw[kR2 c,kT2 e2]⟩;exact⟨k,f,g,by rw[kR2 c,kR2 e2]⟩
def SS (l:aA aF) (a b:Nat):Prop:=∀p q,a<=p->p<=q->q<b->Df (gn l p) (gn l q)
theorem xZ (x:aF):Df x x:=by have:=Dh x x;unfold Df;omega
theorem SS.sub {l:aA aF} {a b a' b':Nat} (h:SS l a b) (d:a<=a') (hb:b'<=b):SS l a' b':=fun p q h1 h2 c=>h p q (by omega) h2 (by omega)
theorem SS.off {r l:aA aF} {a b x y:Nat} (h:SS l x y) (hs:Sg r l a b) (hd:y<=a\/b<=x):SS r x y:=fun p q h1 h2 c=>by
 rw[hs.2.2.1 p (by omega),hs.2.2.1 q (by omega)];exact h p q h1 h2 c
end Go.P
namespace Go.P
def Mt (a b:Int):Int:=if a<b then -1 else if b<a then 1 else 0
theorem jY1 (a b:Int):Ho a b=some (Mt a b):=by
 unfold Ho Pw Mt;simp only[bne_self_eq_false,kQ2,kX2,lQ2,kV2];split;rfl;split<;>rfl
def yC:aA Int->Int
 |[]=>0
 |a::r=>if a=0 then yC r else a
theorem Wd:∀a b:aA Int,yC (List.zipWith Mt a b)=pQ a b
 |[],_=>by simp[yC,pQ]
 |_::_,[]=>by simp[yC,pQ]
 |a::aqs,b::bs=>by
  rw[List.zipWith_cons_cons,yC,pQ,Wd aqs bs]
  unfold Mt
  repeat' split
  all_goals omega
theorem jZ1 {l:aA Int} (hl:l.length<1000):F59 l=some (yC l):=by
 refine sO1 ?_;unfold F59;refine Ob (P:=fun r=>match r with|.inl v=>v=yC l|.inr _=>0=yC l) (bE (l:=l) (fun q=>q) (fun i _=>yC (l.drop i)=yC l) (by omega) rfl rfl (fun i e q d f hi b a hg hw=>?_) (fun q hi a=>?_)) fun r hr=>?_;rw[hi]at hg b hw ⊢;obtain⟨c,rfl⟩:=kM2.1 d;rw[kT2 (by simpa using b),hg];simp only[kQ2];rw[List.drop_eq_getElem_cons c,yC]at a;by_cases h0:l[i]=0;rw[kT2 h0]at a;rw[kR2 (by simpa using h0),hw];exact .mk ⟨rfl,a⟩;rw[kR2 h0]at a;rw[kT2 (by simpa using h0)];exact .mk a;rw[hi,kR2 (by simp)];rw[List.drop_length]at a;exact .mk a;rcases r with v|_;exact .mk hr;exact .mk hr
theorem Dk (x y:aF):F31 x y=some (cN x y):=by
 unfold F31;simp only[jY1,kQ2];rw[jZ1 (by simp)];rw[show[Mt x.On y.On,Mt x.Number y.Number,Mt x.Part y.Part,Mt x.Staff y.Staff,Mt x.Voice y.Voice,Mt x.Off y.Off,Mt x.Event.Site y.Event.Site,Mt x.Event.Number y.Event.Number,Mt x.Head y.Head]=List.zipWith Mt (KN x) (KN y)from rfl,Wd];rfl
theorem yA {a b n:Nat} {l:aA aF} (h1:a+n<=b) (h2:b+n<=l.length) (hl:l.length<4611686018427387904):
  Ok (An ((a:Nat):Int) ((b:Nat):Int) ((n:Nat):Int) l) (fun r=>r.Perm l/\r.length=l.length/\∀p,gn r p=if a<=p/\p<a+n then gn l (p+(b-a))else if b<=p/\p<b+n then gn l (p-(b-a))else gn l p):=by
 unfold An;refine Ob (P:=fun r=>r.Perm l/\r.length=l.length/\∀p,gn r p=if a<=p/\p<a+n then gn l (p+(b-a))else if b<=p/\p<b+n then gn l (p-(b-a))else gn l p) (cV (fun(q:Int×aA aF)=>∃i:Nat,q.1=(i:Int)/\i<=n/\q.2.Perm l/\q.2.length=l.length/\∀p,gn q.2 p=if a<=p/\p<a+i then gn l (p+(b-a))else if b<=p/\p<b+i then gn l (p-(b-a))else gn l p) (fun(q:Int×aA aF)=>n-q.1.toNat) (fun q s=>?_) aY (0,l) ⟨0,rfl,by omega,.refl _,rfl,fun p=>by rw[kR2 (by omega),kR2 (by omega)]⟩ (by simp only[aY];omega)) fun r hr=>.mk hr;obtain⟨k,c⟩:=q;obtain⟨i,m,g2,e,f,d⟩:=s;dsimp only at m e f d ⊢;subst m;by_cases hc:(i:Int)<(n:Int);rw[kT2 (by simpa using hc)];have o:i<n:=by omega
 refine jX1 (p:=a+i) (q:=b+i) (by rw[bB (by omega) (by omega)];omega) (by rw[bB (by omega) (by omega)];omega) (by omega) (by omega) ?_;rw[bB (n:=(i:Int)+1) (by omega) (by omega)];refine .mk ⟨⟨i+1,by simp,by omega,(rP (by omega) (by omega)).trans e,by rw[vF];exact f,fun p=>?_⟩,by dsimp only;omega⟩;dsimp only;rw[pR (by omega) (by omega)];by_cases g:p=b+i;rw[kT2 g,d,kR2 (by omega),kR2 (by omega),kR2 (by omega),kT2 (by omega)];exact congrArg (gn l) (by omega);rw[kR2 g];by_cases e2:p=a+i;rw[kT2 e2,d,kR2 (by omega),kR2 (by omega),kT2 (by omega)];exact congrArg (gn l) (by omega);rw[kR2 e2,d];by_cases h:a<=p/\p<a+i;rw[kT2 h,kT2 (by omega)];rw[kR2 h,kR2 (c:=a<=p/\p<a+(i+1)) (by omega)];by_cases j:b<=p/\p<b+i;rw[kT2 j,kT2 (by omega)];rw[kR2 j,kR2 (by omega)];rw[kR2 (by simpa using hc)];have:i=n:=by omega
 subst this;exact .mk ⟨e,f,d⟩
def iW (f:Nat->aF) (x y z p:Nat):aF:=if x<=p/\p<x+(z-y)then f (p+(y-x))else if x+(z-y)<=p/\p<z then f (p-(z-y))else f p
theorem We {a m b:Nat} {l:aA aF} (h1:a<m) (h2:m<b) (B:b<=l.length) (hl:l.length<4611686018427387904):
  Ok (Mp ((a:Nat):Int) ((m:Nat):Int) ((b:Nat):Int) l) (fun r=>r.Perm l/\r.length=l.length/\∀p,gn r p=iW (gn l) a m b p):=by
 unfold Mp
 refine Ob (P:=fun r=>∃i:Nat,r.1=(i:Int)/\0<i/\a+i<=m/\m+i<=b/\r.2.Perm l/\r.2.length=l.length/\∀p,iW (gn r.2) (m-i) m (m+i) p=iW (gn l) a m b p) (cV (fun(q:Int×Int×aA aF)=>∃i j:Nat,q.1=(i:Int)/\q.2.1=(j:Int)/\0<i/\0<j/\a+i<=m/\m+j<=b/\q.2.2.Perm l/\q.2.2.length=l.length/\∀p,iW (gn q.2.2) (m-i) m (m+j) p=iW (gn l) a m b p) (fun(q:Int×Int×aA aF)=>q.1.toNat+q.2.1.toNat) (fun q z=>?_) aY (aU ((m:Int)-a),aU ((b:Int)-m),l) ⟨m-a,b-m,by show aU _=_;rw[bB (by omega) (by omega)];omega,by show aU _=_;rw[bB (by omega) (by omega)];omega,by omega,by omega,by omega,by omega,.refl _,rfl,fun p=>by
   rw[show m-(m-a)=a by omega,show m+(b-m)=b by omega]⟩ (by show(aU ((m:Int)-a)).toNat+(aU ((b:Int)-m)).toNat<aY;rw[bB (by omega) (by omega),bB (by omega) (by omega)];simp only[aY];omega)) fun r hr=>?_
 obtain⟨A,C,c⟩:=q;obtain⟨i,j,h,g2,w,y,k,o,g,s,t⟩:=z;dsimp only at h g2 g s t ⊢;subst h g2;by_cases x:i=j;rw[kR2 (by simp;omega)];subst x;exact .mk ⟨i,rfl,w,k,o,g,s,t⟩;rw[kT2 (by simp;omega)];by_cases f:(i:Int)>(j:Int);rw[kT2 (by simpa using f)];have f:j<i:=by omega
 rw[bB (n:=(m:Int)-i) (by omega) (by omega),bB (n:=(i:Int)-j) (by omega) (by omega),show(m:Int)-i=((m-i:Nat):Int)by omega,show(i:Int)-j=((i-j:Nat):Int)by omega];obtain⟨d,u,e2,v,e⟩:=yA (a:=m-i) (b:=m) (n:=j) (l:=c) (by omega) (by omega) (by omega);rw[u];simp only[kQ2];refine .mk ⟨⟨i-j,j,rfl,rfl,by omega,y,by omega,o,e2.trans g,v.trans s,fun p=>?_⟩,by dsimp only;omega⟩;rw[<-t p];dsimp only;unfold iW;rw[show m+j-m=j by omega,show m-(m-(i-j))=i-j by omega,show m-(m-i)=i by omega];by_cases c1:m-i<=p/\p<m-i+j;rw[kR2 (by omega),kR2 (by omega),kT2 (by omega),e,kT2 (by omega)];exact congrArg (gn c) (by omega);by_cases c2:m-i+j<=p/\p<m+j;rw[kR2 (c:=m-i<=p/\p<m-i+j) c1,kT2 (c:=m-i+j<=p/\p<m+j) c2];by_cases c3:p<m-(i-j)+j;rw[kT2 (by omega),e,kR2 (by omega),kT2 (by omega)];exact congrArg (gn c) (by omega);rw[kR2 (by omega),kT2 (by omega),e,kR2 (by omega),kR2 (by omega)];rw[kR2 (by omega),kR2 (by omega),kR2 (by omega),kR2 (by omega),e,kR2 (by omega),kR2 (by omega)];rw[kR2 (by simpa using f)];have f:i<j:=by omega
 rw[bB (n:=(m:Int)-i) (by omega) (by omega),bB (n:=(m:Int)+j) (by omega) (by omega),bB (n:=(m:Int)+j-i) (by omega) (by omega),bB (n:=(j:Int)-i) (by omega) (by omega),show(m:Int)-i=((m-i:Nat):Int)by omega,show(m:Int)+j-i=((m+j-i:Nat):Int)by omega,show(j:Int)-i=((j-i:Nat):Int)by omega];obtain⟨d,u,e2,v,e⟩:=yA (a:=m-i) (b:=m+j-i) (n:=i) (l:=c) (by omega) (by omega) (by omega);rw[u];simp only[kQ2];refine .mk ⟨⟨i,j-i,rfl,rfl,w,by omega,k,by omega,e2.trans g,v.trans s,fun p=>?_⟩,by dsimp only;omega⟩;rw[<-t p];dsimp only;unfold iW;rw[show m+(j-i)-m=j-i by omega,show m-(m-i)=i by omega,show m+j-m=j by omega];by_cases c1:m+j-i<=p/\p<m+j;rw[kR2 (by omega),kR2 (by omega),kR2 (by omega),kT2 (by omega),e,kR2 (by omega),kT2 (by omega)];exact congrArg (gn c) (by omega);by_cases c2:m-i<=p/\p<m+j-i;by_cases c3:p<m-i+(j-i);rw[kT2 (by omega),kT2 (by omega),e,kR2 (by omega),kR2 (by omega)];rw[kR2 (by omega),kT2 (by omega),kT2 (by omega),e,kT2 (by omega)];exact congrArg (gn c) (by omega);rw[kR2 (by omega),kR2 (by omega),kR2 (by omega),kR2 (by omega),e,kR2 (by omega),kR2 (by omega)];obtain⟨A,c⟩:=r;obtain⟨i,h,g2,w,y,k,o,g⟩:=hr;dsimp only at h k o g ⊢;subst h;rw[bB (n:=(m:Int)-i) (by omega) (by omega),show(m:Int)-i=((m-i:Nat):Int)by omega];refine(Ob (yA (a:=m-i) (b:=m) (n:=i) (l:=c) (by omega) (by omega) (by omega)) fun d hd=>.mk ⟨hd.1.trans k,hd.2.1.trans o,fun p=>?_⟩);rw[<-g p,hd.2.2 p];unfold iW;rw[show m-(m-i)=i by omega,show m+i-m=i by omega];by_cases c1:m-i<=p/\p<m-i+i;rw[kT2 c1,kT2 c1];rw[kR2 c1,kR2 c1];by_cases c2:m<=p/\p<m+i;rw[kT2 c2,kT2 (by omega)];rw[kR2 c2,kR2 (by omega)]
end Go.P
namespace Go.P
theorem Wg {body:Int×Int->aB ((Int×Int)⊕Int)} {lo hi:Nat} (T:Nat->Prop) (m:∀c a,lo<=c->c<=a->a<hi->T a->T c) (hl:lo<=hi) (o:hi<4611686018427387904)
  (h1:∀i j h:Nat,lo<=i->i<j->j<=hi->i<=h->h<j->((i:Int)+j)/2=(h:Int)->(T h/\body ((i:Int),(j:Int))=some (.inl (((h+1:Nat):Int),(j:Int))))\/(¬T h/\body ((i:Int),(j:Int))=some (.inl ((i:Int),(h:Int)))))
  (h2:∀i j:Int,¬i<j->body (i,j)=some (.inr i)):
  Ok (aQ body aY ((lo:Int),(hi:Int))) (fun r=>∃k:Nat,r=(k:Int)/\lo<=k/\k<=hi/\(∀c,lo<=c->c<k->T c)/\∀c,k<=c->c<hi->¬T c):=by
 refine cV (fun(q:Int×Int)=>∃i j:Nat,q=((i:Int),(j:Int))/\lo<=i/\i<=j/\j<=hi/\(∀c,lo<=c->c<i->T c)/\∀c,j<=c->c<hi->¬T c) (fun(q:Int×Int)=>(q.2-q.1).toNat) (fun q n=>?_) aY _ ⟨lo,hi,rfl,kO2 _,hl,kO2 _,fun c _ _=>by omega,fun c _ _=>by omega⟩ (by simp only[aY];omega);obtain⟨i,j,rfl,b,g2,d,g,l⟩:=n;by_cases hc:i<j;rcases h1 i j ((i+j)/2) b hc d (by omega) (by omega) (by omega)with⟨f,e⟩|⟨f,e⟩
 rw[e];exact .mk ⟨⟨(i+j)/2+1,j,rfl,by omega,by omega,d,fun c c1 c2=>m c ((i+j)/2) c1 (by omega) (by omega) f,l⟩,by dsimp only;omega⟩;rw[e];refine .mk ⟨⟨i,(i+j)/2,rfl,b,by omega,by omega,g,fun c c1 c2 c3=>?_⟩,by dsimp only;omega⟩;exact f (m _ c (by omega) c1 c2 c3);rw[h2 _ _ (by omega)];have:i=j:=by omega
 subst this;exact .mk ⟨i,rfl,b,d,g,l⟩
theorem uH {f:Nat->aF} {x y z p:Nat} (h:p<x):iW f x y z p=f p:=by
 unfold iW;rw[kR2 (by omega),kR2 (by omega)]
theorem yB {f:Nat->aF} {x y z p:Nat} (h1:x<=p) (h2:p<x+(z-y)):iW f x y z p=f (p+(y-x)):=by
 unfold iW;rw[kT2 ⟨h1,h2⟩]
theorem uI {f:Nat->aF} {x y z p:Nat} (h1:x+(z-y)<=p) (h2:p<z):iW f x y z p=f (p-(z-y)):=by
 unfold iW;rw[kR2 (by omega),kT2 ⟨h1,h2⟩]
theorem sZ {f:Nat->aF} {x y z p:Nat} (h0:x<=y) (h:z<=p) (h1:y<=z):iW f x y z p=f p:=by
 unfold iW;rw[kR2 (by omega),kR2 (by omega)]
theorem Ke {f:Nat->aF} {x y z p:Nat} (h0:x<=y) (h1:y<=z) (h:x=y\/y=z):iW f x y z p=f p:=by
 by_cases c1:p<x;exact uH c1;by_cases c2:p<x+(z-y);rw[yB (by omega) c2];exact congrArg f (by omega);by_cases c3:p<z;rw[uI (by omega) c3];exact congrArg f (by omega);exact sZ h0 (by omega) h1
section
variable {l r:List aF} {a s m e b:Nat}
theorem Kf (f:a<=s) (hs:s<=m) (he:m<=e) (hb:e<=b) (hp:r.Perm l) (hl:r.length=l.length) (h:∀p,gn r p=iW (gn l) s m e p):Sg r l a b:=by
 refine⟨hp,hl,fun p k=>?_,fun p c d=>?_⟩;rw[h];rcases k with k|k;exact uH (by omega);exact sZ hs (by omega) he;rw[h];by_cases c1:p<s;exact⟨p,c,d,uH c1⟩;by_cases c2:p<s+(e-m);exact⟨_,by omega,by omega,yB (by omega) c2⟩;by_cases c3:p<e;exact⟨_,by omega,by omega,uI (by omega) c3⟩;exact⟨p,c,d,sZ hs (by omega) he⟩
theorem Kg (g:a<=s) (hs:s<=m) (he:m<=e) (hb:e<=b) (h:∀p,gn r p=iW (gn l) s m e p) (d:SS l a m) (f:SS l m b):
  SS r a s/\SS r s (s+(e-m))/\SS r (s+(e-m)) e/\SS r e b:=by
 refine⟨fun p q h1 h2 c=>?_,fun p q h1 h2 c=>?_,fun p q h1 h2 c=>?_,fun p q h1 h2 c=>?_⟩;rw[h,h,uH (by omega),uH (by omega)];exact d p q h1 h2 (by omega);rw[h,h,yB (by omega) (by omega),yB (by omega) (by omega)];exact f _ _ (by omega) (by omega) (by omega);rw[h,h,uI (by omega) (by omega),uI (by omega) (by omega)];exact d _ _ (by omega) (by omega) (by omega);rw[h,h,sZ hs (by omega) he,sZ hs (by omega) he];exact f p q (by omega) h2 c
def Cr (l:aA aF) (a m b:Nat):Prop:=∀p q,a<=p->p<m->m<=q->q<b->Df (gn l p) (gn l q)
theorem Cr.glue (h:Cr l a m b) (d:SS l a m) (e:SS l m b):SS l a b:=fun p q h1 h2 c=>by
 by_cases c1:q<m
 exact d p q h1 h2 c1
 by_cases c2:p<m
 exact h p q h1 c2 (by omega) c
 exact e p q (by omega) h2 c
theorem Cr.left (h:Cr l a m b) (hs:Sg r l a m):Cr r a m b:=fun p q h1 h2 c d=>by
 obtain⟨u,e,f,g⟩:=hs.2.2.2 p h1 h2
 rw[g,hs.2.2.1 q (by omega)]
 exact h u q e f c d
theorem Cr.right (h:Cr l a m b) (hs:Sg r l m b):Cr r a m b:=fun p q h1 h2 c d=>by
 obtain⟨u,e,f,g⟩:=hs.2.2.2 q c d
 rw[g,hs.2.2.1 p (by omega)]
 exact h p u h1 h2 e f
theorem Kh (j:a<=s) (hs:s<=m) (he:m<=e) (hb:e<=b) (h:∀p,gn r p=iW (gn l) s m e p) (g:SS l a m) (i:SS l m b)
  (h1:∀u v,a<=u->u<s->e<=v->v<b->Df (gn l u) (gn l v)) (h2:∀w u,m<=w->w<e->s<=u->u<m->Df (gn l w) (gn l u)):Cr r a (s+(e-m)) b:=by
 intro p q c f k d;rw[h,h];by_cases c1:p<s;rw[uH c1];by_cases c2:q<e;rw[uI (by omega) c2];exact g _ _ c (by omega) (by omega);rw[sZ hs (by omega) he];exact h1 _ _ c c1 (by omega) d;rw[yB (by omega) f];by_cases c2:q<e;rw[uI (by omega) c2];exact h2 _ _ (by omega) (by omega) (by omega) (by omega);rw[sZ hs (by omega) he];exact i _ _ (by omega) (by omega) d
end
theorem mM {x y:aF}:¬cN x y<0↔Df y x:=by have:=Dh x y;unfold Df;omega
theorem sP1 {a z:Nat} {l:aA aF} (h1:a<z) (h2:z<=l.length) (hl:l.length<4611686018427387904) {body:Int×aA aF->aB ((Int×aA aF)⊕aA aF)}
  (hb:∀(k:Nat) (c:aA aF),a<=k->k+1<z->c.length=l.length->body ((k:Int),c)=some (.inl (((k+1:Nat):Int),swp c k (k+1)))) (he:∀c,body (((z-1:Nat):Int),c)=some (.inr c)):
  Ok (aQ body aY ((a:Int),l)) (fun r=>r.Perm l/\r.length=l.length/\∀p,gn r p=iW (gn l) a (a+1) z p):=by
 refine cV (fun(q:Int×aA aF)=>∃k:Nat,q.1=(k:Int)/\a<=k/\k<z/\q.2.Perm l/\q.2.length=l.length/\∀p,gn q.2 p=iW (gn l) a (a+1) (k+1) p) (fun(q:Int×aA aF)=>z-q.1.toNat) (fun q g=>?_) aY _ ⟨a,rfl,by omega,h1,.refl _,rfl,fun p=>(Ke (by omega) (by omega) (by omega)).symm⟩ (by simp only[aY];omega);obtain⟨i,c⟩:=q;obtain⟨k,f,g2,h,e,d,b⟩:=g;dsimp only at f e d b;subst f;by_cases hc:k+1<z;rw[hb k c g2 hc d];refine .mk ⟨⟨k+1,rfl,by omega,hc,(rP (by omega) (by omega)).trans e,by rw[vF];exact d,fun p=>?_⟩,by dsimp only;omega⟩;dsimp only;rw[pR (by omega) (by omega),b,b,b];by_cases c1:p=k+1;rw[kT2 c1,uI (by omega) (by omega),uI (by omega) (by omega)];exact congrArg (gn l) (by omega);rw[kR2 c1];by_cases c2:p=k;rw[kT2 c2,sZ (by omega) (by omega) (by omega),yB (by omega) (by omega)];exact congrArg (gn l) (by omega);rw[kR2 c2];by_cases c3:p<a;rw[uH c3,uH c3];by_cases c4:p<k;rw[yB (by omega) (by omega),yB (by omega) (by omega)];rw[sZ (by omega) (by omega) (by omega),sZ (by omega) (by omega) (by omega)];have:k=z-1:=by omega
 rw[this,he];exact .mk ⟨e,d,fun p=>by rw[b,show k+1=z by omega]⟩
theorem sQ1 {a z:Nat} {l:aA aF} (h1:a<=z) (h2:z<l.length) (hl:l.length<4611686018427387904) {body:Int×aA aF->aB ((Int×aA aF)⊕aA aF)}
  (hb:∀(k:Nat) (c:aA aF),a<k->k<=z->c.length=l.length->body ((k:Int),c)=some (.inl (((k-1:Nat):Int),swp c k (k-1)))) (he:∀c,body ((a:Int),c)=some (.inr c)):
  Ok (aQ body aY ((z:Int),l)) (fun r=>r.Perm l/\r.length=l.length/\∀p,gn r p=iW (gn l) a z (z+1) p):=by
 refine cV (fun(q:Int×aA aF)=>∃k:Nat,q.1=(k:Int)/\a<=k/\k<=z/\q.2.Perm l/\q.2.length=l.length/\∀p,gn q.2 p=iW (gn l) k z (z+1) p) (fun(q:Int×aA aF)=>q.1.toNat) (fun q h=>?_) aY _ ⟨z,rfl,h1,by omega,.refl _,rfl,fun p=>(Ke (by omega) (by omega) (by omega)).symm⟩ (by simp only[aY];omega);obtain⟨i,c⟩:=q;obtain⟨k,f,g2,g,e,d,b⟩:=h;dsimp only at f e d b;subst f;by_cases hc:a<k;rw[hb k c hc g d];refine .mk ⟨⟨k-1,rfl,by omega,by omega,(rP (by omega) (by omega)).trans e,by rw[vF];exact d,fun p=>?_⟩,by dsimp only;omega⟩;dsimp only;rw[pR (by omega) (by omega),b,b,b];by_cases c1:p=k-1;rw[kT2 c1,yB (by omega) (by omega),yB (by omega) (by omega)];exact congrArg (gn l) (by omega);rw[kR2 c1];by_cases c2:p=k;rw[kT2 c2,uH (by omega),uI (by omega) (by omega)];exact congrArg (gn l) (by omega);rw[kR2 c2];by_cases c3:p<k;rw[uH (by omega),uH (by omega)];by_cases c4:p<z+1;rw[uI (by omega) (by omega),uI (by omega) (by omega)];rw[sZ (by omega) (by omega) (by omega),sZ (by omega) (by omega) (by omega)];have:k=a:=by omega
 subst this;rw[he];exact .mk ⟨e,d,b⟩
end Go.P
namespace Go.P
theorem yU {a b:Int} {n:Nat} (h:a+b=(n:Int)) (c:n<9223372036854775808):aU (a+b)=(n:Int):=by rw[bB (by omega) (by omega)];exact h
theorem Dl {a b:Int} {n:Nat} (h:a-b=(n:Int)) (c:n<9223372036854775808):aU (a-b)=(n:Int):=by rw[bB (by omega) (by omega)];exact h
theorem dU1 {n:Nat} (a:n<9223372036854775808):aU (n:Int)=(n:Int):=bB (by omega) (by omega)
theorem hlf {a b:Int} {h:Nat} (h0:0<=a+b) (h1:a+b<9223372036854775808) (e:(a+b)/2=(h:Int)):rE .u64 (IntKind.wrap .u64 (aU (a+b))) 1=some (h:Int):=by rw[dT1 h0 h1,e]
theorem Mu {l:aA aF} {f g:Int} {p q:Nat} (h:f=(q:Int)) (e2:g=(p:Int)) (hp:p<l.length) (e:q<l.length) {B:Type} {k:aA aF->aB B}:
  ((cF l f).bind fun a=>(dA l a).bind fun x=>(cF l g).bind fun b=>(dA l b).bind fun y=>(cF l g).bind fun c=>(kW l c (fun _=>x)).bind fun i=>(cF i f).bind fun d=>(kW i d (fun _=>y)).bind k)=k (swp l p q):=by
 rw[eQ h e,kQ2,gI e,kQ2,eQ e2 hp,kQ2,gI hp,kQ2,kQ2,oK hp,kQ2,eQ h (by simpa using e),kQ2,oK (by simpa using e),kQ2];rfl
theorem Qf {rec:Int->Int->Int->aA aF->aB (aA aF)} {w a m b:Nat} {l:aA aF}
  (ih:∀(a m b:Nat) (l:aA aF),a<m->m<b->b<=l.length->l.length<4611686018427387904->b-a<=w->SS l a m->SS l m b->Ok (rec ((a:Nat):Int) ((m:Nat):Int) ((b:Nat):Int) l) (fun r=>Sg r l a b/\SS r a b))
  (h1:a<m) (h2:m<b) (h3:b<=l.length) (hl:l.length<4611686018427387904) (hw:b-a<=2*w) (F:SS l a m) (G:SS l m b):Ok (xW rec ((a:Nat):Int) ((m:Nat):Int) ((b:Nat):Int) l) (fun r=>Sg r l a b/\SS r a b):=by
 unfold xW;rw[Dl (a:=(m:Int)) (n:=m-a) (by omega) (by omega),Dl (a:=(b:Int)) (n:=b-m) (by omega) (by omega)];refine Oi (fun hc=>?_) (fun hc=>Oi (fun hd=>?_) (fun hd=>?_))
 have hc:m=a+1:=by
  have:=eq_of_beq hc;omega
 subst hc;refine Ob (Wg (lo:=a+1) (hi:=b) (fun c=>cN (gn l c) (gn l a)<0) (fun c L A t B C=>?_) (by omega) (by omega) (fun i j h A t B C Z R=>?_) (fun i j E=>?_)) fun x V=>?_;have H:=G c L A t B;have N:=Dh (gn l c) (gn l a);apply Decidable.byContradiction;intro J;have e4:Df (gn l a) (gn l c):=Dj J;have e5:Df (gn l a) (gn l L):=gA e4 H;have e6:=mM.2 e5;exact e6 C;dsimp only;rw[kT2 (by simpa using t),hlf (by omega) (by omega) R];simp only[kQ2];rw[dU1 (by omega),eQ rfl (show h<l.length by omega),eQ rfl (show a<l.length by omega)];simp only[kQ2];rw[gI (by omega),gI (by omega)];simp only[kQ2,Dk];by_cases o:cN (gn l h) (gn l a)<0;refine .inl ⟨o,?_⟩;rw[kT2 (by simpa using o),yU (n:=h+1) (by omega) (by omega)];rfl;refine .inr ⟨o,?_⟩;rw[kR2 (by simpa using o)];rfl;dsimp only;rw[kR2 (by simpa using E)];obtain⟨z,rfl,z1,z2,z3,z4⟩:=V;rw[Dl (n:=z-1) (by omega) (by omega)];refine Ob (sP1 (a:=a) (z:=z) (l:=l) (by omega) (by omega) hl (fun k c A t B=>?_) (fun c=>?_)) fun r hr=>?_;dsimp only;rw[kT2 (by simp;omega),yU (n:=k+1) (by omega) (by omega)];exact Mu rfl rfl (by omega) (by omega);dsimp only;rw[kR2 (by simp)];refine .mk ⟨Kf (kO2 _) (by omega) (by omega) z2 hr.1 hr.2.1 hr.2.2,?_⟩;have q:=Kg (s:=a) (m:=a+1) (e:=z) (b:=b) (kO2 _) (by omega) (by omega) z2 hr.2.2 F G;refine Cr.glue (m:=a+(z-(a+1))) (Kh (kO2 _) (by omega) (by omega) z2 hr.2.2 F G (fun u v A t=>by omega) (fun w u A t B C=>?_)) q.2.1 ?_;rw[show u=a by omega];exact Di (z3 w A t);refine Cr.glue (m:=z) (fun p q A t B C=>?_) q.2.2.1 q.2.2.2;rw[hr.2.2,hr.2.2,uI (by omega) (by omega),sZ (by omega) (by omega) (by omega),show p-(z-(a+1))=a by omega];exact Dj (z4 q B C)
 have hd:b=m+1:=by
  have:=eq_of_beq hd;omega
 subst hd;refine Ob (Wg (lo:=a) (hi:=m) (fun c=>¬cN (gn l m) (gn l c)<0) (fun c L A t B C=>?_) (by omega) (by omega) (fun i j h A t B C Z R=>?_) (fun i j E=>?_)) fun x V=>?_;have H:=F c L A t B;exact mM.2 (gA H (mM.1 C));dsimp only;rw[kT2 (by simpa using t),hlf (by omega) (by omega) R];simp only[kQ2];rw[dU1 (by omega),eQ rfl (show h<l.length by omega),eQ rfl (show m<l.length by omega)];simp only[kQ2];rw[gI (by omega),gI (by omega)];simp only[kQ2,Dk];by_cases o:cN (gn l m) (gn l h)<0;refine .inr ⟨fun J=>J o,?_⟩;rw[kR2 (by simpa using o)];rfl;refine .inl ⟨o,?_⟩;rw[kT2 (by simpa using o),yU (n:=h+1) (by omega) (by omega)];rfl;dsimp only;rw[kR2 (by simpa using E)];obtain⟨z,rfl,z1,z2,z3,z4⟩:=V;refine Ob (sQ1 (a:=z) (z:=m) (l:=l) (by omega) (by omega) hl (fun k c A t B=>?_) (fun c=>?_)) fun r hr=>?_;dsimp only;rw[kT2 (by simp;omega),Dl (n:=k-1) (by omega) (by omega)];exact Mu rfl rfl (by omega) (by omega);dsimp only;rw[kR2 (by simp)];refine .mk ⟨Kf z1 z2 (by omega) (kO2 _) hr.1 hr.2.1 hr.2.2,?_⟩;have q:=Kg (s:=z) (m:=m) (e:=m+1) (b:=m+1) z1 z2 (by omega) (kO2 _) hr.2.2 F G;refine Cr.glue (m:=z+(m+1-m)) (Kh z1 z2 (by omega) (kO2 _) hr.2.2 F G (fun u v A t=>by omega) (fun w u A t B C=>?_)) ?_ q.2.2.1;rw[show w=m by omega];exact Di (Decidable.byContradiction fun J=>z4 u B C J);refine Cr.glue (m:=z) (fun p q A t B C=>?_) q.1 q.2.1;rw[hr.2.2,hr.2.2,uH (by omega),yB (by omega) (by omega),show q+(m-z)=m by omega];exact mM.1 (z3 p A t);have hc:m-a≠1:=fun h=>hc (by rw[h];rfl);have hd:b-m≠1:=fun h=>hd (by rw[h];rfl);have K:∃g:Nat,g=(a+b)/2:=⟨_,rfl⟩
 obtain⟨g,K⟩:=K;rw[hlf (h:=g) (by omega) (by omega) (by omega)];simp only[kQ2];rw[dU1 (by omega),yU (n:=g+m) (by omega) (by omega),Dl (b:=1) (n:=g+m-1) (by omega) (by omega)];refine Ob (P:=fun r=>∃x y:Nat,r=((x:Int),(y:Int))/\(m>g/\x=g+m-b/\y=g\/m<=g/\x=a/\y=m)) ?_ fun r hr=>?_;by_cases O:(m:Int)>(g:Int);rw[kT2 (by simpa using O),Dl (n:=g+m-b) (by omega) (by omega)];exact .mk ⟨_,_,rfl,.inl ⟨by omega,rfl,rfl⟩⟩;rw[kR2 (by simpa using O)];exact .mk ⟨_,_,rfl,.inr ⟨by omega,rfl,rfl⟩⟩;obtain⟨x,y,rfl,b4⟩:=hr;dsimp only;have x1:a<=x:=by omega
 have x2:x<=y:=by omega
 have x3:y<=m:=by omega
 have x4:y<=g:=by omega
 have x5:g+m-x<=b:=by omega
 have x6:m<=g+m-y:=by omega
 refine Ob (Wg (lo:=x) (hi:=y) (fun c=>¬cN (gn l (g+m-1-c)) (gn l c)<0) (fun c L A t B C=>?_) x2 (by omega) (fun i j h A t B C Z R=>?_) (fun i j E=>?_)) fun u hu=>?_;have H:=F c L (by omega) t (by omega);have e2:=G (g+m-1-L) (g+m-1-c) (by omega) (by omega) (by omega);exact mM.2 (gA H (gA (mM.1 C) e2));dsimp only;rw[kT2 (by simpa using t),hlf (by omega) (by omega) R];simp only[kQ2];rw[dU1 (by omega),Dl (n:=g+m-1-h) (by omega) (by omega),eQ rfl (show g+m-1-h<l.length by omega),eQ rfl (show h<l.length by omega)];simp only[kQ2];rw[gI (by omega),gI (by omega)];simp only[kQ2,Dk];by_cases o:cN (gn l (g+m-1-h)) (gn l h)<0;refine .inr ⟨fun J=>J o,?_⟩;rw[kR2 (by simpa using o)];rfl;refine .inl ⟨o,?_⟩;rw[kT2 (by simpa using o),yU (n:=h+1) (by omega) (by omega)];rfl;dsimp only;rw[kR2 (by simpa using E)];obtain⟨s,rfl,z1,z2,z3,z4⟩:=hu;rw[Dl (n:=g+m-s) (by omega) (by omega)];obtain⟨e,he⟩:∃e:Nat,e=g+m-s:=⟨_,rfl⟩
 rw[<-he];have T:a<=s:=by omega
 have U:s<=m:=by omega
 have S:m<=e:=by omega
 have W:e<=b:=by omega
 have t5:s+(e-m)=g:=by omega
 refine Ob (P:=fun r=>r.Perm l/\r.length=l.length/\∀p,gn r p=iW (gn l) s m e p) ?_ fun r hr=>?_;by_cases D:s<m/\m<e;rw[kT2 (by simpa using D)];exact Ob (We D.1 D.2 (by omega) hl) fun d hd=>.mk hd;rw[kR2 (by simpa using D)];exact .mk ⟨.refl _,rfl,fun p=>(Ke U S (by omega)).symm⟩;have g0:=Kf T U S W hr.1 hr.2.1 hr.2.2;have M:=Kg T U S W hr.2.2 F G
 have g2:=Kh T U S W hr.2.2 F G (fun u v A t B C=>by
  have H:=F u (s-1) A (by omega) (by omega);have e2:=G e v S B C;have N:=mM.1 (z3 (s-1) (by omega) (by omega));rw[show g+m-1-(s-1)=e by omega]at N;exact gA H (gA N e2)) (fun w u A t B C=>by
  have H:=G w (e-1) A (by omega) (by omega);have e2:=F s u T B C;have N:=Di (Decidable.byContradiction fun J=>z4 s (kO2 _) (by omega) J);rw[show g+m-1-s=e-1 by omega]at N;exact gA H (gA N e2))
 rw[t5]at M g2;have b0:=hr.2.1;refine Ob (P:=fun d=>Sg d r a g/\SS d a g) ?_ fun d hd=>?_;by_cases D:a<s/\s<g;rw[kT2 (by simpa using D)];exact Ob (ih a s g r D.1 D.2 (by omega) (by omega) (by omega) M.1 M.2.1) fun d hd=>.mk hd;rw[kR2 (by simpa using D)];refine .mk ⟨Sg.refl _ _ _,?_⟩;by_cases hs:s=a;rw[<-hs];exact M.2.1;rw[show g=s by omega];exact M.1;have a0:=hd.1.2.1;have c2:=g2.left hd.1;have X:SS d g e:=M.2.2.1.off hd.1 (.inr (kO2 _));have Y:SS d e b:=M.2.2.2.off hd.1 (.inr (by omega));refine Ob (P:=fun f=>Sg f d g b/\SS f g b) ?_ fun f hf=>?_;by_cases D:g<e/\e<b;rw[kT2 (by simpa using D)];exact Ob (ih g e b d D.1 D.2 (by omega) (by omega) (by omega) X Y) fun d hd=>.mk hd;rw[kR2 (by simpa using D)];refine .mk ⟨Sg.refl _ _ _,?_⟩;by_cases hs:e=g;rw[<-hs];exact Y;rw[show b=e by omega];exact X;refine .mk ⟨((hf.1.mono (by omega) (kO2 _)).trans (hd.1.mono (kO2 _) (by omega))).trans g0,?_⟩;exact Cr.glue (c2.right hf.1) (hd.2.off hf.1 (.inl (kO2 _))) hf.2
theorem Mv:∀(k:Nat) (a m b:Nat) (l:aA aF),a<m->m<b->b<=l.length->l.length<4611686018427387904->b-a<=2^k->SS l a m->SS l m b->Ok (Dd k ((a:Nat):Int) ((m:Nat):Int) ((b:Nat):Int) l) (fun r=>Sg r l a b/\SS r a b)
 |0,a,m,b,l,h1,h2,h3,hl,hw,s1,s2=>by omega
 |k+1,a,m,b,l,h1,h2,h3,hl,hw,s1,s2=>Qf (rec:=Dd k) (w:=2^k) (Mv k) h1 h2 h3 hl (by rw[Nat.pow_succ]at hw;omega) s1 s2
theorem Hf {a m b:Nat} {l:aA aF} (h1:a<m) (h2:m<b) (c:b<=l.length) (hl:l.length<4611686018427387904) (d:SS l a m) (e:SS l m b):Ok (Ha ((a:Nat):Int) ((m:Nat):Int) ((b:Nat):Int) l) (fun r=>Sg r l a b/\SS r a b):=
 Mv 64 a m b l h1 h2 c hl (by rw[show(2:Nat)^64=18446744073709551616 from rfl];omega) d e
end Go.P
namespace Go.P
theorem Hg {a b:Nat} {l:aA aF} (h1:a<=b) (h2:b<=l.length) (hl:l.length<4611686018427387904):Ok (Gz ((a:Nat):Int) ((b:Nat):Int) l) (fun r=>Sg r l a b/\SS r a b):=by
 unfold Gz;rw[yU (n:=a+1) (by omega) (by omega)];refine Ob (P:=fun r=>Sg r l a b/\SS r a b) (cV (fun(q:Int×aA aF)=>∃i:Nat,q.1=(i:Int)/\a+1<=i/\(i<=b\/i=a+1)/\Sg q.2 l a b/\SS q.2 a i) (fun(q:Int×aA aF)=>b-q.1.toNat) (fun q x=>?_) aY _ ⟨a+1,rfl,kO2 _,.inr rfl,.refl _ _ _,fun p q e o h=>by rw[show p=q by omega];exact xZ _⟩ (by simp only[aY];omega)) fun r hr=>.mk hr;obtain⟨F,c⟩:=q;obtain⟨i,z,g2,E,u,w⟩:=x;dsimp only at z u w ⊢;subst z;have B:=u.2.1;by_cases m:(i:Int)<(b:Int);rw[kT2 (by simpa using m)];refine Ob (P:=fun r=>Sg r l a b/\SS r a (i+1)) (cV (fun(q:Int×aA aF)=>∃j:Nat,q.1=(j:Int)/\a<=j/\j<=i/\Sg q.2 l a b/\∀p s,a<=p->p<s->s<=i->s≠j->Df (gn q.2 p) (gn q.2 s)) (fun(q:Int×aA aF)=>q.1.toNat) (fun q x=>?_) aY _ ⟨i,rfl,by omega,kO2 _,u,fun p s e o h A=>w p s e (by omega) (by omega)⟩ (by simp only[aY];omega)) fun r hr=>?_;obtain⟨G,d⟩:=q;obtain⟨j,y,D,f3,k,g⟩:=x;dsimp only at y k g ⊢;subst y;have C:=k.2.1;by_cases h0:(j:Int)>(a:Int);rw[kT2 (by simpa using h0),Dl (n:=j-1) (by omega) (by omega),eQ rfl (show j<d.length by omega),eQ rfl (show j-1<d.length by omega)];simp only[kQ2];rw[gI (by omega),gI (by omega)];simp only[kQ2,Dk];by_cases hc:cN (gn d j) (gn d (j-1))<0;rw[kT2 (by simpa using hc),oK (by omega)];simp only[kQ2];rw[eQ rfl (show j-1<(d.set j (gn d (j-1))).length by simp;omega)];simp only[kQ2];rw[oK (by simp;omega)];simp only[kQ2];rw[show(d.set j (gn d (j-1))).set (j-1) (gn d j)=swp d j (j-1)from rfl];refine .mk ⟨⟨j-1,rfl,by omega,by omega,(Sg.swp (by omega) (by omega) (by omega) (by omega) (by omega)).trans k,fun p s e o h A=>?_⟩,by dsimp only;omega⟩;dsimp only;rw[pR (by omega) (by omega),pR (by omega) (by omega),kR2 A];by_cases f:s=j;subst f;rw[kT2 rfl];by_cases e2:p=s-1;rw[kT2 e2];exact Di hc;rw[kR2 e2,kR2 (by omega)];exact g p (s-1) e (by omega) (by omega) (by omega);rw[kR2 f];by_cases e2:p=j-1;rw[kT2 e2];exact g j s (by omega) (by omega) h f;rw[kR2 e2];by_cases t:p=j;rw[kT2 t];exact g (j-1) s (by omega) (by omega) h f;rw[kR2 t];exact g p s e o h f;rw[kR2 (by simpa using hc)];refine .mk ⟨k,fun p s e o h=>?_⟩;by_cases v:p=s;subst v;exact xZ _;by_cases f:s=j;have e2:=Dj hc;by_cases t:p=j-1;rw[f,t];exact e2;rw[f];exact gA (g p (j-1) e (by omega) (by omega) (by omega)) e2;exact g p s e (by omega) (by omega) f;rw[kR2 (by simpa using h0)];simp only[kQ2,kX2,lQ2];refine .mk ⟨k,fun p s e o h=>?_⟩;by_cases v:p=s;subst v;exact xZ _;exact g p s e (by omega) (by omega) (by omega);rw[yU (n:=i+1) (by omega) (by omega)];exact .mk ⟨⟨i+1,rfl,by omega,.inl (by omega),hr.1,hr.2⟩,by dsimp only;omega⟩;rw[kR2 (by simpa using m)];exact .mk ⟨u,w.sub (kO2 _) (by omega)⟩
def Bk (w n:Nat) (c:aA aF):Prop:=∀t,SS c (t*w) (min (t*w+w) n)
theorem SS.nil {l:aA aF} {a b:Nat} (h:b<=a):SS l a b:=fun p q h1 h2 c=>by omega
theorem Wh {l:aA aF} (hl:l.length<1152921504606846976):Ok (Mq (l.length:Int) l) (fun r=>Sg r l 0 l.length/\SS r 0 l.length):=by
 unfold Mq;refine Ob (P:=fun r=>∃t:Nat,r.1=((t*20:Nat):Int)/\t*20<=l.length/\l.length<t*20+20/\Sg r.2 l 0 l.length/\∀u,u<t->SS r.2 (u*20) (u*20+20)) (cV (fun(q:Int×Int×aA aF)=>∃t:Nat,q.1=((t*20:Nat):Int)/\q.2.1=((t*20+20:Nat):Int)/\t*20<=l.length/\Sg q.2.2 l 0 l.length/\∀u,u<t->SS q.2.2 (u*20) (u*20+20)) (fun(q:Int×Int×aA aF)=>l.length-q.1.toNat) (fun q p=>?_) aY _ ⟨0,rfl,rfl,by omega,.refl _ _ _,fun u h=>by omega⟩ (by simp only[aY];omega)) fun r hr=>?_;obtain⟨y,E,c⟩:=q;obtain⟨t,i,g2,o,f,g⟩:=p;dsimp only at i g2 f g ⊢;subst i g2;have k:=f.2.1;by_cases hc:((t*20+20:Nat):Int)<=(l.length:Int);rw[kT2 (by simpa using hc)];refine Ob (Hg (a:=t*20) (b:=t*20+20) (l:=c) (by omega) (by omega) (by omega)) fun d hd=>?_;rw[yU (n:=(t+1)*20+20) (by omega) (by omega)];refine .mk ⟨⟨t+1,by dsimp only;omega,rfl,by omega,(hd.1.mono (by omega) (by omega)).trans f,fun u D=>?_⟩,by dsimp only;omega⟩;by_cases e:u=t;subst e;exact hd.2;exact(g u (by omega)).off hd.1 (.inl (by omega));rw[kR2 (by simpa using hc)];exact .mk ⟨t,rfl,o,by omega,f,g⟩;obtain⟨y,c⟩:=r;obtain⟨t,i,g2,o,f,g⟩:=hr;dsimp only at i f g ⊢;subst i;have k:=f.2.1;refine Ob (Hg (a:=t*20) (b:=l.length) (l:=c) g2 (by omega) (by omega)) fun d hd=>?_
 have H:Bk 20 l.length d:=fun u=>by
  by_cases z:u<t;exact((g u z).off hd.1 (.inl (by omega))).sub (kO2 _) (by omega);by_cases e2:u=t;subst e2;exact hd.2.sub (kO2 _) (by omega);exact .nil (by omega)
 have J:Sg d l 0 l.length:=(hd.1.mono (by omega) (kO2 _)).trans f;refine Ob (P:=fun r=>Sg r l 0 l.length/\SS r 0 l.length) (cV (fun(q:Int×aA aF)=>∃w:Nat,q.1=(w:Int)/\0<w/\w<2305843009213693952/\Sg q.2 l 0 l.length/\Bk w l.length q.2) (fun(q:Int×aA aF)=>l.length-q.1.toNat) (fun q p=>?_) aY _ ⟨20,rfl,by omega,by omega,J,H⟩ (by simp only[aY];omega)) fun r hr=>.mk hr;obtain⟨N,c⟩:=q;obtain⟨w,B,L,f3,v,A⟩:=p;dsimp only at B v A ⊢;subst B;have k:=v.2.1;by_cases hw:(w:Int)<(l.length:Int);rw[kT2 (by simpa using hw),bB (n:=2*(w:Int)) (by omega) (by omega),bB (n:=(w:Int)*2) (by omega) (by omega)]
 refine Ob (P:=fun r=>∃t:Nat,r.1=((2*(t*w):Nat):Int)/\2*(t*w)<=l.length/\l.length<2*(t*w)+2*w/\Sg r.2 l 0 l.length/\(∀u,u<t->SS r.2 (2*(u*w)) (2*(u*w)+2*w))/\∀u,2*t<=u->SS r.2 (u*w) (min (u*w+w) l.length))
  (cV (fun(q:Int×Int×aA aF)=>∃t:Nat,q.1=((2*(t*w):Nat):Int)/\q.2.1=((2*(t*w)+2*w:Nat):Int)/\2*(t*w)<=l.length/\Sg q.2.2 l 0 l.length/\(∀u,u<t->SS q.2.2 (2*(u*w)) (2*(u*w)+2*w))/\∀u,2*t<=u->SS q.2.2 (u*w) (min (u*w+w) l.length)) (fun(q:Int×Int×aA aF)=>l.length-q.1.toNat) (fun q p=>?_) aY _ ⟨0,by simp,by simp,by omega,v,fun u h=>by omega,fun u _=>A u⟩ (by simp only[aY];omega)) fun r hr=>?_
 obtain⟨y,E,c⟩:=q;obtain⟨t,i,g2,o,f,g,j⟩:=p;dsimp only at i g2 f g j ⊢;subst i g2;have k:=f.2.1;have s:(2*t)*w=2*(t*w):=Nat.mul_assoc _ _ _;have x:(2*t+1)*w=2*(t*w)+w:=by rw[lZ2,s]
 have M:(t+1)*w=t*w+w:=lZ2 _ _;by_cases hc:((2*(t*w)+2*w:Nat):Int)<=(l.length:Int);rw[kT2 (by simpa using hc),yU (n:=2*(t*w)+w) (by omega) (by omega),bB (n:=((2*(t*w)+2*w:Nat):Int)+2*(w:Int)) (by omega) (by omega)];have q1:=j (2*t) (kO2 _);have q2:=j (2*t+1) (by omega);rw[s]at q1;rw[x]at q2;refine Ob (Hf (a:=2*(t*w)) (m:=2*(t*w)+w) (b:=2*(t*w)+2*w) (l:=c) (by omega) (by omega) (by omega) (by omega) (q1.sub (kO2 _) (by omega)) (q2.sub (kO2 _) (by omega))) fun d hd=>?_;refine .mk ⟨⟨t+1,by dsimp only;omega,by dsimp only;omega,by omega,(hd.1.mono (by omega) (by omega)).trans f,fun u D=>?_,fun u D=>?_⟩,by dsimp only;omega⟩;by_cases e:u=t;subst e;exact hd.2;have:=lM2 w (show u+1<=t by omega);rw[lZ2]at this;exact(g u (by omega)).off hd.1 (.inl (by omega));have:=lM2 w (show 2*t+1+1<=u by omega);rw[lZ2,x]at this;exact(j u (by omega)).off hd.1 (.inr (by omega));rw[kR2 (by simpa using hc)];exact .mk ⟨t,rfl,o,by omega,f,g,j⟩;obtain⟨y,c⟩:=r;obtain⟨t,i,g2,o,f,g,j⟩:=hr;dsimp only at i f g j ⊢;subst i;have k:=f.2.1;have s:(2*t)*w=2*(t*w):=Nat.mul_assoc _ _ _;have x:(2*t+1)*w=2*(t*w)+w:=by rw[lZ2,s]
 have q1:=j (2*t) (kO2 _);have q2:=j (2*t+1) (by omega);rw[s]at q1;rw[x]at q2;rw[yU (n:=2*(t*w)+w) (by omega) (by omega)];refine Ob (P:=fun d=>Sg d l 0 l.length/\Bk (w*2) l.length d) ?_ fun d hd=>?_
 have fin:∀d,Sg d c (2*(t*w)) l.length->SS d (2*(t*w)) l.length->Bk (w*2) l.length d:=fun d F G u=>by
  have K:u*(w*2)=2*(u*w):=by rw[<-Nat.mul_assoc,Nat.mul_comm]
  rw[K];by_cases z:u<t;have:=lM2 w (show u+1<=t by omega);rw[lZ2]at this;exact((g u z).off F (.inl (by omega))).sub (kO2 _) (by omega);by_cases e2:u=t;subst e2;exact G.sub (kO2 _) (by omega);have:=lM2 w (show t+1<=u by omega);rw[lZ2]at this;exact .nil (by omega)
 by_cases C:((2*(t*w)+w:Nat):Int)<(l.length:Int);rw[kT2 (by simpa using C)];refine Ob (Hf (a:=2*(t*w)) (m:=2*(t*w)+w) (b:=l.length) (l:=c) (by omega) (by omega) (by omega) (by omega) (q1.sub (kO2 _) (by omega)) (q2.sub (kO2 _) (by omega))) fun d hd=>?_;exact .mk ⟨(hd.1.mono (by omega) (kO2 _)).trans f,fin d hd.1 hd.2⟩;rw[kR2 (by simpa using C)];exact .mk ⟨f,fin c (.refl _ _ _) (q1.sub (kO2 _) (by omega))⟩;exact .mk ⟨⟨w*2,by dsimp only;omega,by omega,by omega,hd.1,hd.2⟩,by dsimp only;omega⟩;rw[kR2 (by simpa using hw)];have q:=A 0;rw[nX2]at q;exact .mk ⟨v,q.sub (kO2 _) (by omega)⟩
theorem dV1 {l:aA aF} (hl:l.length<1152921504606846976):Ok (dI1 l) (fun r=>Sd r l):=by
 unfold dI1;refine Ob (Wh hl) fun r hr=>.mk ⟨hr.1.1,List.pairwise_iff_getElem.2 fun i j hi a b=>?_⟩;have:=hr.2 i j (by omega) (by omega) (by rw[<-hr.1.2.1];exact a)
 rwa [xY hi,xY a]at this
theorem dW1 {A:Type} {l m:aA A} (h:l.length+m.length<=1073741824):iF false l m=some (l++m):=by
 have e:Sim.maxRoom=1073741824:=rfl;unfold iF;rw[kT2 ⟨by rw[e];omega,fun h=>by cases h⟩]
theorem dX1 {l:aA aF} (hl:l.length<=1073741824):dG1 [] l=some l:=by
 refine sO1 ?_;unfold dG1;refine Ob (P:=fun r=>r=l) (bE (l:=l) (fun(q:Int×aA aF)=>q.1) (fun(i:Nat) (q:Int×aA aF)=>q.2=l.take i) (by omega) rfl rfl (fun i e q d m hi a b hg hw=>?_) (fun q hi b=>?_)) fun r hr=>.mk hr;obtain⟨k,o⟩:=q;dsimp only at hi a b hg hw ⊢;subst hi b;obtain⟨h,rfl⟩:=kM2.1 d;rw[kT2 (by simpa using a)];refine Ob (eP (by omega) a) fun j g=>?_;refine Ob (iA g.2) fun y hy=>?_;have c:j=i:=by have:=g.1;omega
 have f:l[i]=y:=by rw[c]at hy;exact Option.some.inj (d.symm.trans hy.1)
 rw[<-f];unfold Dc;rw[dW1 (by simp;omega)];refine .mk ⟨hw,?_⟩;dsimp only;rw[List.take_add_one,d];rfl;obtain⟨k,o⟩:=q;dsimp only at hi b ⊢;rw[hi,kR2 (by simp)];exact .mk (by rw[b,nB2])
theorem Mw {l:aA aF} (hl:l.length<=1073741824):Ok (Hb l) (fun r=>Sd r l):=by
 unfold Hb iP1 iH1 iJ1 Vp;simp only[kQ2];rw[dX1 hl];simp only[kQ2];exact Ob (P:=fun r=>Sd r l) (Ob (dV1 (by omega)) fun r hr=>.mk hr) fun r hr=>.mk hr
end Go.P
namespace Go.P
variable {s:Y0}
theorem Ki {A:Type} {l:aA A} {N:Nat} (g:N<=l.length) (hl:l.length<1000000) (p:A->Bool) {body:Int×Int->aB ((Int×Int)⊕Int)}
  (h:∀(c:Int) (j:Nat) (x:A),l[j]? =some x->j<N->aR l (j:Int)=some x->0<=c->c<=j->body (c,(j:Int))=some (.inl ((if p x then c+1 else c),(j:Int)+1)))
  (a:∀c,body (c,(N:Int))=some (.inr c)):aQ body aY (0,0)=some (((l.take N).countP p:Nat):Int):=by
 refine Ok.eq (cV (fun(q:Int×Int)=>0<=q.2/\q.2<=(N:Int)/\q.1=(((l.take q.2.toNat).countP p:Nat):Int)) (fun(q:Int×Int)=>N-q.2.toNat) (fun q f=>?_) aY (0,0) ⟨by decide,by omega,by simp⟩ (by simp only[aY];omega));obtain⟨c,k⟩:=q;obtain⟨h1,h2,b⟩:=f;dsimp only at h1 h2 b;obtain⟨j,rfl⟩:∃j:Nat,k=(j:Int):=⟨k.toNat,by omega⟩
 rw[Int.toNat_natCast]at b;by_cases d:j<N;have e:j<l.length:=by omega
 have hg:l[j]? =some l[j]:=lV2 e;have hc:(l.take j).countP p<=j:=lJ2 List.countP_le_length (by rw[nA2];omega);rw[h c j l[j] hg d (by unfold aR;rw[kT2 (by omega),Int.toNat_natCast];exact hg) (by omega) (by omega)];refine .mk ⟨⟨by dsimp only;omega,by dsimp only;omega,?_⟩,by dsimp only;omega⟩;dsimp only;rw[show((j:Int)+1).toNat=j+1 by omega,List.take_add_one,hg,List.countP_append,b];cases hp:p l[j]<;>simp[hp];have:j=N:=by omega
 subst this;rw[a];exact .mk b
def Wi (l:aA bZ) (m:Int):Nat:=l.countP (fun b=>b.Measure==m)
theorem kA1 (l:aA bZ) (m:Int):Wi l m<=l.length:=List.countP_le_length
theorem Wj {l:aA bZ} {i:Nat} {b:bZ} (h:l[i]? =some b) (m:Int):Wi (l.take (i+1)) m=Wi (l.take i) m+(if b.Measure=m then 1 else 0):=by
 unfold Wi;rw[List.take_add_one,h,List.countP_append];simp
theorem Hh {l:aA bZ} {i:Nat} {m:Int}:Wi (l.take i) m<=i:=lJ2 (kA1 _ _) (by rw[nA2];omega)
def wr (n:Nat):aA bZ->aA bZ->Int
 |_,[]=>0
 |seen,b::r=>if b.Measure<0\/b.Measure>=n then 2 else if b.Pass≠(Wi seen b.Measure:Int)then 38 else wr n (seen++[b]) r
theorem My {n:Nat} {l:aA bZ} {i:Nat} {b:bZ} (h:l[i]? =some b):
  wr n (l.take i) (l.drop i)=if b.Measure<0\/b.Measure>=n then 2 else if b.Pass≠(Wi (l.take i) b.Measure:Int)then 38 else wr n (l.take (i+1)) (l.drop (i+1)):=by
 obtain⟨hi,rfl⟩:=kM2.1 h;rw[List.drop_eq_getElem_cons hi,wr,List.take_add_one,h];rfl
theorem Wk {n:Nat} {l:aA bZ}:wr n (l.take l.length) (l.drop l.length)=0:=by
 rw[List.drop_length];rfl
theorem sR1 {n:Nat} {l:aA bZ} (h:wr n [] l=0):∀b∈l,0<=b.Measure/\b.Measure<n:=by
 have:∀(l c:aA bZ),wr n c l=0->∀b∈l,0<=b.Measure/\b.Measure<n:=by
  intro l
  induction l with
  |nil=>intro c _ b hb;cases hb
  |cons a r ih=>
   intro c h b hb;rw[wr]at h;split at h;cases h;split at h;cases h;rename_i h1 _;rcases lF2.1 hb with rfl|hb;omega;exact ih _ h b hb
 exact this l [] h
theorem sS1 {l:aA bZ} (hl:l.length<9223372036854775808):F5 l=some (l.take 30):=by
 unfold F5 mE;by_cases h:(30:Int)<(l.length:Int);rw[kT2 h,kT2 ⟨by omega,by omega,by omega⟩];rfl;rw[kR2 h,kT2 ⟨by omega,by omega,by omega⟩];show some _=_
 rw[Int.toNat_natCast,lT2 (by simp),lT2 (by omega)];rfl
theorem dB2 {l:aA bZ} (hv:Jx s=some false):F9 s l=some 24:=by
 unfold F9;rw[hv];rfl
theorem sT1 {l:aA bZ} (hs:s.sm) (hv:Jx s=some true) (hl:l.length<=30):F9 s l=some (wr s.Measures.length [] l):=by
 have m:=hs.Measures;refine Ok.eq ?_;unfold F9;rw[hv];simp only[kQ2,nO2,kX2,lQ2];rw[kR2 (by simp;omega)];generalize hW:wr s.Measures.length [] l=W;refine Ob (P:=fun r=>match r with|.inl e=>e=W|.inr _=>0=W) (bE (l:=l) (fun q=>q) (fun i _=>wr s.Measures.length (l.take i) (l.drop i)=W) (by omega) rfl hW (fun i e q k p hi d a hg hw=>?_) (fun q hi a=>?_)) fun r hr=>?_;rw[hi]at hg d hw ⊢;simp only[d,hg,nt];rw[jW1];simp only[kQ2];rw[My k]at a;by_cases h1:e.Measure<0\/e.Measure>=(s.Measures.length:Int);rw[kT2 h1]at a;rw[kT2 (by simpa using h1)];exact .mk a;rw[kR2 h1]at a;rw[kR2 (by simpa using h1)];refine Ob (P:=fun c=>c=(Wi (l.take i) e.Measure:Int)) ?_ fun c hc=>?_;rw[Ki (l:=l) (N:=i) (by omega) (by omega) (fun b=>b.Measure==e.Measure) (fun c j x g o f h0 h1=>?_) (fun c=>?_)];exact .mk rfl;rw[kT2 (by simp;omega),f];simp only[kQ2];rw[bB (n:=(j:Int)+1) (by omega) (by omega),bB (n:=c+1) (by omega) (by omega)];cases(x.Measure==e.Measure)<;>rfl;rw[kR2 (by simp)];subst hc;by_cases h2:e.Pass=(Wi (l.take i) e.Measure:Int);rw[kR2 (fun h=>h h2)]at a;rw[kR2 (by simpa using h2),hw];exact .mk ⟨rfl,a⟩;rw[kT2 h2]at a;rw[kT2 (by simpa using h2)];exact .mk a;rw[hi];rw[kR2 (by simp)];rw[Wk]at a;exact .mk a;rcases r with e|_;exact .mk hr;exact .mk hr
theorem sU1 {l:aA bZ} (hv:Jx s=some false):F23 s l=some 24:=by
 unfold F23;rw[hv];rfl
theorem fU1 {l:aA bZ} (hs:s.sm) (hv:Jx s=some true) (hl:l.length<=30):F23 s l=some (wr s.Measures.length [] l):=by
 have j:=hs.Measures;refine Ok.eq ?_;unfold F23;rw[hv];simp only[kQ2,nO2,kX2,lQ2];rw[kR2 (by simp;omega)];generalize hW:wr s.Measures.length [] l=W;refine Ob (P:=fun r=>match r with|.inl e=>e.1=W|.inr _=>0=W) (bE (l:=l) (fun q=>q.1) (fun i q=>wr s.Measures.length (l.take i) (l.drop i)=W/\∀m,lH q.2 m 0=(Wi (l.take i) m:Int)) (by omega) rfl ⟨hW,fun m=>rfl⟩ (fun i e q d n hi c a hg hw=>?_) (fun q hi a=>?_)) fun r hr=>?_;obtain⟨k,E⟩:=q;dsimp only at hi c a hg hw;obtain⟨a,f⟩:=a;rw[hi]at hg c hw ⊢;simp only[c,hg,nt];rw[My d]at a;by_cases h1:e.Measure<0\/e.Measure>=(s.Measures.length:Int);rw[kT2 h1]at a;rw[kT2 (by simpa using h1)];exact .mk a;rw[kR2 h1]at a;rw[kR2 (by simpa using h1),f];have hc:=Hh (l:=l) (i:=i) (m:=e.Measure);by_cases h2:e.Pass=(Wi (l.take i) e.Measure:Int);rw[kR2 (fun h=>h h2)]at a;rw[kR2 (by simpa using h2),hw];have g:=(kM2.1 d).1;refine .mk ⟨rfl,a,fun m=>?_⟩;rw[Ap,bB (by omega) (by omega),Wj d];by_cases b:e.Measure=m;rw[kT2 b.symm,kT2 b,<-b];omega;rw[kR2 (fun h=>b h.symm),kR2 b,f];omega;rw[kT2 h2]at a;rw[kT2 (by simpa using h2)];exact .mk a;obtain⟨k,E⟩:=q;dsimp only at hi a;rw[hi];rw[kR2 (by simp)];rw[Wk]at a;exact .mk a.1;rcases r with⟨e,m⟩|_;exact .mk hr;exact .mk hr
def ln (s:Y0) (b:bZ):Int:=match aR s.Measures b.Measure with|some m=>(match Am m with|some r=>r.1|none=>0)|none=>0
def uJ (s:Y0) (l:aA bZ) (i:Nat):Int:=((l.take i).map (ln s)).sum
def ons (s:Y0) (l:aA bZ):aA Int:=(List.range (l.length+1)).map (uJ s l)
theorem tA {l:aA bZ} {i:Nat} {b:bZ} (h:l[i]? =some b):uJ s l (i+1)=uJ s l i+ln s b:=by
 unfold uJ;rw[List.take_add_one,h,nU2,List.sum_append];simp
theorem Wl (hg:cY s) {b:bZ} (h:0<=b.Measure/\b.Measure<s.Measures.length):∃m,aR s.Measures b.Measure=some m/\Am m=some (ln s b,0)/\0<ln s b/\ln s b<=15482880:=by
 obtain⟨m,d,a⟩:=bN (Q:=fun x=>x∈s.Measures) h.1 h.2 (fun _ h _=>h);obtain⟨n,c⟩:=hg m a;have:=E94 c;have hl:ln s b=n:=by unfold ln;rw[d];dsimp only;rw[c]
 exact⟨m,d,by rw[hl];exact c,by omega,by omega⟩
theorem Dm (hg:cY s) {l:aA bZ} (a:∀b∈l,0<=b.Measure/\b.Measure<s.Measures.length):∀{i:Nat},i<=l.length->0<=uJ s l i/\uJ s l i<=15482880*i
 |0,_=>by simp[uJ]
 |i+1,h=>by
  have ih:=Dm hg a (i:=i) (by omega)
  have c:l[i]? =some l[i]:=lV2 (by omega)
  obtain⟨_,_,_,h1,h2⟩:=Wl hg (a l[i] (mT2 (by omega)))
  rw[tA c]
  omega
def mP (s:Y0) (l:aA bZ) (i:Nat):aA Int:=(List.range (i+1)).map (uJ s l)
theorem vG {l:aA bZ} {i:Nat}:(mP s l i).length=i+1:=by simp[mP]
theorem Mz {l:aA bZ} {i j:Nat} (h:j<=i):(mP s l i)[j]? =some (uJ s l j):=by
 unfold mP;rw[lS2,mY2 (by omega)];rfl
theorem Hi {l:aA bZ} {i:Nat}:mP s l (i+1)=mP s l i++[uJ s l (i+1)]:=by
 unfold mP;rw[List.range_succ,nU2];rfl
theorem Na {A:Type} {l:aA A} {i:Nat} (h:i<l.length):cF l (i:Int)=some i:=by
 unfold cF oS;rw[kT2 ⟨by omega,by omega⟩,Int.toNat_natCast]
theorem Nb {A:Type} {l:aA A} {x:A} (h:l.length<1073741824):iF false l [x]=some (l++[x]):=by
 have:=dF (g:=false) (x:=x) h (Q:=fun v=>v=l++[x]) rfl;exact Ok.eq this
theorem kB1 (hs:s.sm) (hg:cY s) {l:aA bZ} (hl:l.length<=30) (f:∀b∈l,0<=b.Measure/\b.Measure<s.Measures.length):F20 s l=some (ons s l):=by
 unfold F20;refine Ok.eq (Ob (P:=fun r=>r=ons s l) (bE (l:=l) (fun q=>q.1) (fun i q=>q.2=mP s l i) (by omega) rfl rfl (fun i e q g j hi c d a hw=>?_) (fun q hi d=>?_)) fun r hr=>.mk hr);obtain⟨k,o⟩:=q;dsimp only at hi c d a hw;subst d;rw[hi]at c a hw ⊢;have h:=(kM2.1 g).1;obtain⟨m,h1,h2,n,p⟩:=Wl hg (f e j);simp only[c,a,h1,h2,nt];rw[Na (by rw[vG];omega)];simp only[kQ2];rw[show dA (mP s l i) i=some (uJ s l i)from Mz (kO2 _)];simp only[kQ2];have hp:=Dm hg f (i:=i) (by omega);rw[Nb (by rw[vG];omega),bB (by omega) (by omega),<-tA g,<-Hi];exact .mk ⟨hw,rfl⟩;obtain⟨k,o⟩:=q;dsimp only at hi d;subst d;simp only[hi,nf];exact .mk rfl
theorem kC1 (hs:s.sm) (hg:cY s) {l:aA bZ} (hl:l.length<=30) (h0:F23 s l=some 0) (g:∀b∈l,0<=b.Measure/\b.Measure<s.Measures.length):F13 s l=some (ons s l,0):=by
 unfold F13;rw[h0];simp only[kQ2];rw[kR2 (by simp)];refine Ms (a:=.inr (ons s l)) (Ok.eq (bE (l:=l) (fun q=>q.1) (fun i q=>q.2=mP s l i) (by omega) rfl rfl (fun i e q h n hi d f c hw=>?_) (fun q hi f=>?_))) rfl;obtain⟨k,o⟩:=q;dsimp only at hi d f c hw;subst f;rw[hi]at d c hw ⊢;have j:=(kM2.1 h).1;obtain⟨m,h1,h2,p,r⟩:=Wl hg (g e n);simp only[d,c,h1,h2,nt];rw[kR2 (by simp),Na (by rw[vG];omega)];simp only[kQ2];rw[show dA (mP s l i) i=some (uJ s l i)from Mz (kO2 _)];simp only[kQ2];have hp:=Dm hg g (i:=i) (by omega);rw[Nb (by rw[vG];omega),bB (by omega) (by omega),<-tA h,<-Hi];exact .mk ⟨hw,rfl⟩;obtain⟨k,o⟩:=q;dsimp only at hi f;subst f;simp only[hi,nf];exact .mk rfl
theorem sV1 {l:aA bZ} {e:Int} (he:e≠0) (h:F23 s l=some e):F13 s l=some ([],e):=by
 unfold F13;rw[h];simp only[kQ2];rw[kT2 (by simpa using he)]
end Go.P
set_option maxHeartbeats 2000000
namespace Go.P
theorem dC2 {c:aA YE} (h:c.length<=20) (d:∀y∈c,y.sm):Ok (Pr c) (fun v=>v.length=c.length):=by
 unfold Pr;refine Ob (jW (by omega) (by omega) (by omega)) fun o h2=>?_;refine Ob (P:=fun v=>v.length=c.length) (bE (l:=c) (fun q=>q.1) (fun _ q=>q.2.length=c.length) (by omega) rfl (by rw[h2];simp) (fun i e q n g hi hl f hg hw=>?_) (fun q hi f=>?_)) fun v hv=>.mk hv;obtain⟨x,l⟩:=q;dsimp only at hi hl f hg hw;simp only[hl,hg,nt];refine Ob (rH1 (d e g)) fun⟨a,b⟩ _=>?_;refine Ob (eP (by omega) (by omega)) fun j k=>?_;refine Ob (rO (by omega)) fun m g=>.mk ⟨hw,by dsimp only;omega⟩;obtain⟨x,l⟩:=q;dsimp only at hi f;simp only[hi,nf];exact .mk f
theorem dD2 {j:aA YU} {d:aA Int} (f:j.length<=6) (n:d.length<=20):Ok (Js j d) (fun v=>v.1.length<=d.length/\(v.2=0->∀t∈j,t.ok d.length)):=by
 unfold Js;refine Ob (rK1 f) fun c hc=>?_;refine Oi (fun hd=>.mk ⟨lP2 _,fun h=>absurd h (by simpa using hd)⟩) (fun hd=>?_);have k:=hc (by simpa using hd);refine Ob (jW (by decide) (by omega) (by omega)) fun w o=>?_;refine Ob (P:=fun r=>match r with|.inl p=>p.1≠0|.inr l=>l.length<=d.length) (bE (l:=d) (fun q=>q.1) (fun i q=>q.2.length<=i) (by omega) rfl (by rw[o];decide) (fun i e q u s hi hl g hg hw=>?_) (fun q hi g=>?_)) fun v hv=>?_;obtain⟨x,l⟩:=q;dsimp only at hi hl g hg hw;simp only[hl,hg,nt];refine Ob (iW1 f (fun t h=>by have:=k t h;unfold YU.ok at this;omega)) fun⟨a,b⟩ _=>?_;refine Oi (fun hb=>.mk (by simpa using hb)) (fun _=>?_);exact Ob (dF (Q:=fun v=>v.length=l.length+1) (by omega) (by simp)) fun m s=>.mk ⟨hw,by dsimp only;omega⟩;obtain⟨x,l⟩:=q;dsimp only at hi g;simp only[hi,nf];exact .mk g;rcases v with⟨a,b⟩|b;exact .mk ⟨lP2 _,fun h=>absurd h hv⟩;exact .mk ⟨hv,fun _=>k⟩
theorem dE2 {i:YO} (a:i.sm):Ok (Ps i) (fun v=>v.1.length<=i.Events.length):=by
 unfold Ps;have j:=a.Events;refine oI (l:=i.Events) (fun q=>q) (kP2 a.Events (by decide)) rfl (fun n k t e b d c f=>?_) (fun t b=>?_) fun u=>?_;simp only[d,c,nt];have h:=a.EventsE _ e;refine bQ (T79 h) fun w=>?_;refine Oi (fun c712=>?_) (fun c712=>?_);exact .mk trivial;refine Oi (fun c713=>?_) (fun c713=>?_);exact .mk trivial;exact .mk f;simp only[b,nf];exact .mk trivial;rcases u with x|_;exact .mk (by(simp only[nm,nl]at *;omega));refine Ob (dC2 a.Events a.EventsE) fun y m=>?_;refine Ob (dD2 a.Tuplets (by omega)) fun⟨o,p⟩ g=>?_
 try dsimp only at g
 refine Oi (fun c716=>?_) (fun c716=>?_);exact .mk (by(simp only[nm,nl]at *;omega));refine bQ (rM1 a.Tuplets (by omega)) fun⟨r,s⟩=>?_;refine Oi (fun c718=>?_) (fun c718=>?_);exact .mk (by(simp only[nm,nl]at *;omega));exact .mk (by(simp only[nm]at *;omega))
theorem dF2 {e:YO} {g:Int} (a:e.sm):Ok (Pt e g) (fun v=>v.1.length<=e.Events.length):=by
 unfold Pt;refine Oi (fun c719=>?_) (fun c719=>?_);exact .mk (by(simp only[nm,nl]at *;omega));refine Oi (fun c720=>?_) (fun c720=>?_);exact .mk (by(simp only[nm,nl]at *;omega));refine bQ (rG1 a) fun i=>?_;refine Oi (fun c722=>?_) (fun c722=>?_);have f:=a.Events;refine Ob (P:=fun x=>x∈e.Events) (bN (by omega) (by(simp only[nm]at *;omega)) (fun _ h _=>h)) fun j b=>?_;have d:=a.EventsE _ b;refine bQ (T79 d) fun k=>?_;refine Oi (fun c728=>?_) (fun c728=>?_);exact .mk (by(simp only[nm,nl]at *;omega));refine Oi (fun c729=>?_) (fun c729=>?_);exact .mk (by(simp only[nm,nl]at *;omega));exact .mk (by(simp only[nm,nl]at *;omega));refine Ob (dE2 a) fun⟨l,m⟩ c=>?_
 try dsimp only at c
 exact .mk (by omega)
theorem dG2 {d:YO} {f:Int} (b:d.sm):Ok (Jt d f) (fun v=>v.1.length<=d.Events.length):=by
 unfold Jt;refine Ob (dF2 b) fun⟨g,i⟩ a=>?_
 try dsimp only at a
 refine Ob (P:=fun r=>r=true->((i==0)&&(decide ((g.length:Int)>0)))=true) ?_ fun k c=>?_;refine Oi (fun c745=>?_) (fun _=>.mk (fun h=>by cases h));refine bQ (rN1 (lJ2 a b.Events)) fun j=>?_;exact .mk (fun _=>c745);refine bQ ?_ fun l=>?_;refine Oi (fun c748=>?_) (fun c748=>?_);have e:=c c748;exact .mk trivial;exact .mk trivial;refine Oi (fun c750=>?_) (fun c750=>?_);exact .mk (by(simp only[nm,nl]at *;omega));exact .mk (by omega)
theorem dH2 {a:aA Int} (c:a.length<=20):Ok (Pv a) (fun v=>v.length=a.length):=by
 unfold Pv;refine Ob (jW (by omega) (by omega) (by omega)) fun h h2=>?_;refine Ob (P:=fun v=>v.length=a.length) (fZ (fun q=>q.1) (a.length:Int) (fun q=>q.2.length=a.length) (by omega) (by dsimp only;omega) (by rw[h2];simp) (fun q b h1 h2=>?_)) fun v hv=>.mk hv;obtain⟨i,l⟩:=q;dsimp only at b h1 h2 ⊢;refine Oi (fun hc=>?_) (fun _=>.mk b);simp only[kV2]at hc;rw[bB (n:=i-1) (by omega) (by omega)];refine Ob (eP (by omega) (by omega)) fun j e=>?_;refine Ob (iA (by omega)) fun x _=>?_;refine Ob (bN (Q:=fun _=>True) (by omega) (by omega) (fun _ _ _=>trivial)) fun y _=>?_;refine Ob (eP (by omega) (by omega)) fun g d=>?_;exact Ob (rO (by omega)) fun m f=>.mk ⟨hc,h2 hc,by dsimp only;omega⟩
theorem dI2 {c:YO} {e:Int} (b:c.sm):Ok (Ju c e) (fun v=>v.1.length<=c.Events.length):=by
 unfold Ju;refine Ob (dG2 b) fun⟨f,g⟩ a=>?_
 try dsimp only at a
 refine Oi (fun c1215=>?_) (fun c1215=>?_);exact .mk (lP2 _);refine Ob (dH2 (lJ2 a b.Events)) fun h d=>?_;exact .mk (by rw[d];exact a)
end Go.P
set_option maxHeartbeats 1000000
namespace Go.P
section
variable {K V:Type} [DecidableEq K]
theorem Aq {k:K}:∀{l:aA (K×V)} {i:Nat} {p:Nat×V},hU k l i=some p->∃q∈l,q.2=p.2
 |q::l,i,p,h=>by
  simp only[hU]at h
  split at h
  cases h;exact⟨q,List.mem_cons_self ..,rfl⟩
  obtain⟨r,h1,h2⟩:=Aq h;exact⟨r,nH2 _ h1,h2⟩
theorem Wm {k:K} {l:aA (K×V)} {z:V} (h:Pd l k=true):∃q∈l,q.2=lH l k z:=by
 unfold Pd at h;cases e:hU k l 0 with
 |none=>rw[e]at h;cases h
 |some p=>unfold lH;rw[e];exact Aq e
theorem Wn {k:K} {x:V} {l:aA (K×V)} {q:K×V} (h:q∈rF l k x):q∈l\/q.2=x:=by
 unfold rF at h;split at h;rcases List.mem_or_eq_of_mem_set h with h|h;exact .inl h;exact .inr (by rw[h]);rcases mL2.1 h with h|h;exact .inl h;exact .inr (by rw[List.mem_singleton.1 h])
end
def Hd (m:aA (YH×Int)) (n:Nat):Prop:=∀q∈m,0<=q.2/\q.2<(n:Int)
theorem Hd.mono {m:aA (YH×Int)} {a b:Nat} (h:Hd m a) (c:a<=b):Hd m b:=fun q d=>by have:=h q d;omega
theorem dY1 {s:YE} {F G J:Int} {t:aA (YH×Int)} {H:aF} {c:aA aF} (h1:s.sm) (A:Hd t c.length) (hl:c.length<=900000000):
  Ok (dE1 s F G t H J c) (fun r=>Hd r.1 r.2.length/\c.length<=r.2.length/\r.2.length<=c.length+12):=by
 unfold dE1;have hb:=h1.Heads;refine Ob (P:=fun r=>Hd r.1 r.2.length/\c.length<=r.2.length/\r.2.length<=c.length+12) (bE (l:=s.Heads) (fun q=>q.1) (fun i q=>Hd q.2.1 q.2.2.length/\c.length<=q.2.2.length/\q.2.2.length<=c.length+i) (by omega) rfl ⟨fun q f=>(by cases f),kO2 _,kO2 _⟩ (fun i e q D K hi g d hg hw=>?_) (fun q hi d=>?_)) fun⟨a,b⟩ h=>.mk h;obtain⟨k,m,l⟩:=q;dsimp only at hi g d hg hw;obtain⟨w,L,M⟩:=d;have B:=(kM2.1 D).1;simp only[g,hg,nt];refine Ob (P:=fun r=>0<=r.1/\r.1<(r.2.length:Int)/\l.length<=r.2.length/\r.2.length<=l.length+1) (Oi (fun hc=>?_) (fun hc=>?_)) fun⟨n,E⟩ o=>?_;refine Ob T82 fun⟨p,_⟩ _=>?_;exact Ob (dF (Q:=fun v=>v.length=l.length+1) (by omega) (by simp)) fun v hv=>.mk ⟨by dsimp only;omega,by dsimp only;omega,by dsimp only;omega,by dsimp only;omega⟩;have hc:Pd t e.Pitch=true:=by simpa using hc
 obtain⟨q,q1,q2⟩:=Wm (z:=0) hc;have:=A q q1;rw[q2]at this;exact .mk ⟨this.1,by dsimp only;omega,kO2 _,Nat.le_succ _⟩;dsimp only at o;refine Ob (eP o.1 o.2.1) fun j C=>?_;refine Ob (rO C.2) fun x u=>?_;have u:x.length=E.length:=u;refine Ob (P:=fun y=>Hd y x.length) (Oi (fun _=>.mk fun q f=>?_) (fun _=>.mk (w.mono (by omega)))) fun y h2=>.mk ⟨hw,h2,by dsimp only;omega,by dsimp only;omega⟩;rcases Wn f with f|f;have:=w q f;omega;rw[f];omega;obtain⟨k,m,l⟩:=q;dsimp only at hi d;simp only[hi,nf];exact .mk ⟨d.1,d.2.1,lJ2 d.2.2 (by omega)⟩
def Dn (m:YM) (s:bC):Prop:=∃c v e,aR m.Cells s.Staff=some c/\aR c.Voices s.Voice=some v/\aR v.Events s.Event=some e/\e.sm
theorem kD1 {f:YM} (h1:f.sm):Ok (F54 f) (fun r=>r.1.length<=300/\∀s∈r.1,Dn f s):=by
 unfold F54;have T:=h1.Cells;refine Ob (T24 h1) fun⟨n,S⟩ _=>?_;refine Ob (P:=fun r=>r.2.length<=300/\∀s∈r.2,Dn f s) (bE (l:=f.Cells) (fun q=>q.2.1) (fun i q=>q.2.2.length<=60*i/\∀s∈q.2.2,Dn f s) (by omega) rfl ⟨lP2 _,fun s hs=>(by cases hs)⟩ (fun i c q O M hi A z hg hw=>?_) (fun q hi z=>?_)) fun⟨a,b⟩ h=>Oi (fun _=>.mk ⟨lP2 _,fun s hs=>(by cases hs)⟩) (fun _=>.mk h);obtain⟨e,k,l⟩:=q;dsimp only at hi A z hg hw;have K:=(kM2.1 O).1;have hc:=h1.CellsE c M;have V:=hc.Voices;simp only[A,hg,nt];refine Ob (P:=fun r=>match r with|.inl p=>p.2.length<=l.length+60/\(∀s∈p.2,Dn f s)|.inr p=>p.2.length<=l.length+60/\∀s∈p.2,Dn f s) (bE (l:=c.Voices) (fun q=>q.2.1) (fun j q=>q.2.2.length<=l.length+20*j/\∀s∈q.2.2,Dn f s) (by omega) rfl ⟨kO2 _,z.2⟩ (fun j v q hx2 hm2 m hlt2 d hg2 hw2=>?_) (fun q m d=>?_)) fun r hr=>?_;obtain⟨e,R,G⟩:=q;dsimp only at m hlt2 d hg2 hw2;have L:=(kM2.1 hx2).1;have hv:=hc.VoicesE v hm2;have U:=hv.Events;simp only[hlt2,hg2,nt];refine Oi (fun _=>.mk ⟨by dsimp only;omega,d.2⟩) (fun _=>?_);refine Ob (P:=fun _=>True) (by unfold iG1;exact .mk trivial) fun p _=>?_;refine Oi (fun _=>.mk ⟨hw2,by dsimp only;omega,d.2⟩) (fun _=>?_);refine Ob (dI2 hv) fun⟨on,e2⟩ B=>?_;dsimp only at B;refine Oi (fun _=>.mk ⟨by dsimp only;omega,d.2⟩) (fun _=>?_);refine Ob (P:=fun w=>w.length<=G.length+20/\∀s∈w,Dn f s) (bE (l:=on) (fun q=>q.1) (fun t q=>q.2.length<=G.length+t/\∀s∈q.2,Dn f s) (by omega) rfl ⟨kO2 _,d.2⟩ (fun t o q hx3 hm3 u hlt3 g hg3 hw3=>?_) (fun q u g=>?_)) fun w E=>.mk ⟨hw2,by dsimp only;omega,E.2⟩;obtain⟨H,J⟩:=q;dsimp only at u hlt3 g hg3 hw3;have N:=(kM2.1 hx3).1;simp only[hlt3,hg3,nt];refine Ob (P:=fun _=>True) (Oi (fun hc=>?_) (fun _=>.mk trivial)) fun off _=>?_;rw[hw3]at hc ⊢;exact Ob (bN (Q:=fun _=>True) (by omega) (by simpa using hc) (fun _ _ _=>trivial)) fun y _=>.mk trivial;refine Ob (dF (Q:=fun w=>w.length=J.length+1/\∀s∈w,Dn f s) (by omega) ⟨by simp,fun s hs=>?_⟩) fun w F=>.mk ⟨hw3,by dsimp only;omega,F.2⟩;rcases mL2.1 hs with hs|hs;exact g.2 s hs;rw[List.mem_singleton.1 hs];obtain⟨ev,C,D⟩:=bN (l:=v.Events) (i:=H) (Q:=fun x=>x∈v.Events) (by omega) (by omega) (fun _ h _=>h);exact⟨c,v,ev,hg,hg2,C,hv.EventsE _ D⟩;obtain⟨H,J⟩:=q;dsimp only at u g;simp only[u,nf];exact .mk ⟨by omega,g.2⟩;obtain⟨e,R,G⟩:=q;dsimp only at m d;simp only[m,nf];exact .mk ⟨by dsimp only;omega,d.2⟩;rcases r with⟨a,b⟩|⟨a,b⟩
 exact .mk ⟨by dsimp only at hr ⊢;omega,hr.2⟩;exact .mk ⟨hw,by dsimp only at hr ⊢;omega,hr.2⟩;obtain⟨e,k,l⟩:=q;dsimp only at hi z;simp only[hi,nf];exact .mk ⟨by dsimp only;omega,z.2⟩
theorem dZ1 {p:YM} {E F G J:Int} {t:aA (YH×Int)} {H:aF} {d:aA aF} (h1:p.sm) (w:Hd t d.length) (hl:d.length<=800000000):
  Ok (dF1 p E F G t H J d) (fun r=>Hd r.1 r.2.length/\d.length<=r.2.length/\r.2.length<=d.length+3600):=by
 unfold dF1;refine Ob (kD1 h1) fun⟨sl,K⟩ ⟨o,j⟩=>?_;dsimp only at o j;refine Ob (P:=fun r=>Hd r.2.1 r.2.2.length/\d.length<=r.2.2.length/\r.2.2.length<=d.length+3600) (bE (l:=sl) (fun q=>q.2.1) (fun i q=>Hd q.2.2.1 q.2.2.2.length/\d.length<=q.2.2.2.length/\q.2.2.2.length<=d.length+12*i) (by omega) rfl ⟨w,kO2 _,kO2 _⟩ (fun i s q z n hi g f hg hw=>?_) (fun q hi f=>?_)) fun⟨a,b,c⟩ h=>Ob (P:=fun m=>Hd m c.length) (Oi (fun _=>.mk fun q y=>(by cases y)) (fun _=>.mk h.1)) fun m n=>.mk ⟨n,h.2⟩;obtain⟨u,k,m,l⟩:=q;dsimp only at hi g f hg hw;have x:=(kM2.1 z).1;simp only[g,hg,nt];refine Ob (P:=fun r=>Hd r.2.1 r.2.2.length/\l.length<=r.2.2.length/\r.2.2.length<=l.length+12) (Oi (fun hc=>?_) (fun _=>.mk ⟨f.1,kO2 _,Nat.le_add_right _ _⟩)) fun⟨a,b,c⟩ h=>.mk ⟨hw,h.1,by dsimp only at h ⊢;omega,by dsimp only at h ⊢;omega⟩;obtain⟨c,v,e,A,B,C,D⟩:=j s n;simp only[kL2,mO2]at hc;rw[<-hc.1,<-hc.2,A];simp only[kQ2,B,C];exact Ob (dY1 D f.1 (by omega)) fun⟨a,b⟩ h=>.mk h;obtain⟨u,k,m,l⟩:=q;dsimp only at hi f;simp only[hi,nf];exact .mk ⟨f.1,f.2.1,lJ2 f.2.2 (by omega)⟩
end Go.P
namespace Go.P
variable {s:Y0}
theorem Nc (hs:s.sm):Ok (F25 s) (fun r=>r.length=s.Measures.length+1):=by
 unfold F25;have f:=hs.Measures;refine Ob (P:=fun r=>r.length=s.Measures.length+1) (bE (l:=s.Measures) (fun q=>q.1) (fun i q=>q.2.length=i+1) (by omega) rfl rfl (fun i e q g d hi a b hg hw=>?_) (fun q hi b=>?_)) fun r hr=>.mk hr;obtain⟨k,o⟩:=q;dsimp only at hi a b hg hw;simp only[a,hg,nt];refine Ob (T24 (hs.MeasuresE e d)) fun⟨n,_⟩ _=>?_;refine Ob (eP (by omega) (by omega)) fun j c=>?_;refine Ob (iA c.2) fun y hy=>?_;exact Ob (dF (Q:=fun v=>v.length=o.length+1) (by omega) (by simp)) fun v hv=>.mk ⟨hw,by dsimp only;omega⟩;obtain⟨k,o⟩:=q;dsimp only at hi b;simp only[hi,nf];exact .mk b
theorem kE1 (hs:s.sm):Ok (F26 s) (fun v=>0<=v/\v<=5*(s.Parts.length:Int)):=by
 unfold F26;have g:=hs.Parts;refine Ob (P:=fun v=>0<=v/\v<=5*(s.Parts.length:Int)) (bE (l:=s.Parts) (fun q=>q.2) (fun i q=>0<=q.1/\q.1<=5*(i:Int)) (by omega) rfl ⟨by decide,by decide⟩ (fun i e q f d hi a b hg hw=>?_) (fun q hi b=>?_)) fun r hr=>.mk hr;obtain⟨n,k⟩:=q;dsimp only at hi a b hg hw;have h:=(hs.PartsE e d).Staves;have c:=(kM2.1 f).1;simp only[a,hg,nt];rw[bB (n:=n+(e.Staves.length:Int)) (by omega) (by omega)];exact .mk ⟨hw,by dsimp only;omega,by dsimp only;omega⟩;obtain⟨n,k⟩:=q;dsimp only at hi b;simp only[hi,nf];exact .mk b
theorem S27 {c:Int} (hs:s.sm) (hp:0<s.Parts.length):Ok (F27 s c) (fun v=>0<=v.1/\v.1<(s.Parts.length:Int)):=by
 unfold F27;have d:=hs.Parts;refine Oi (fun _=>.mk ⟨mP2 _,by dsimp only;omega⟩) (fun _=>?_);refine Ob (P:=fun r=>match r with|.inl p=>0<=p.1/\p.1<(s.Parts.length:Int)|.inr _=>True) (bE (l:=s.Parts) (fun q=>q.2) (fun _ _=>True) (by omega) rfl trivial (fun i e q g f hi hl _ hg hw=>?_) (fun q hi _=>?_)) fun r hr=>?_;obtain⟨n,x⟩:=q;dsimp only at hi hl hg hw;simp only[hl,hg,nt];exact Oi (fun _=>.mk ⟨by dsimp only;omega,hl⟩) (fun _=>.mk ⟨hw,trivial⟩);obtain⟨n,x⟩:=q;dsimp only at hi;simp only[hi,nf];exact .mk trivial;rcases r with⟨a,b⟩|_;exact .mk hr;exact .mk ⟨mP2 _,by dsimp only;omega⟩
theorem kF1 (hs:s.sm) (hv:Jx s=some true):Ok (F15 s) (fun r=>r.2=0/\r.1.length<=1728000):=by
 have L:=hs.Measures;have M:=hs.Parts;unfold F15;rw[hv];simp only[kQ2];rw[kR2 (by decide)];refine Ob (Nc hs) fun st G=>?_;refine Ob (kE1 hs) fun n N=>?_;refine Ob (P:=fun l=>l.length<=1728000) (fZ (fun q=>q.1) n (fun q=>q.1<=n/\q.2.length<=86400*q.1.toNat) (by omega) (by dsimp only;omega) ⟨by dsimp only;omega,lP2 _⟩ (fun q B h0 hw=>?_)) fun l hl=>Ob (Mw (by omega)) fun r hr=>.mk ⟨rfl,by dsimp only;rw[hr.1.length_eq];exact hl⟩;obtain⟨x,l⟩:=q;dsimp only at B h0 hw;refine Oi (fun hc=>?_) (fun hc=>.mk (by dsimp only;omega));have hc:x<n:=by simpa using hc
 refine Ob (S27 hs (by omega)) fun⟨p,k,e⟩ hp=>?_;dsimp only at hp;refine Ob (P:=fun _=>True) (Oi (fun _=>Ob (bN (Q:=fun _=>True) hp.1 hp.2 (fun _ _ _=>trivial)) fun _ _=>.mk trivial) (fun _=>.mk trivial)) fun d _=>?_;refine Ob (P:=fun v=>v.length<=l.length+86400) (fZ (fun q=>q.1) 2 (fun q=>q.1<=2/\q.2.length<=l.length+43200*q.1.toNat) (by omega) (by dsimp only;omega) ⟨by dsimp only;omega,kO2 _⟩ (fun q z w j=>?_)) fun v D=>.mk ⟨hc,hw hc,by rw[hw hc];omega,by dsimp only;rw[hw hc];omega⟩;obtain⟨y,v⟩:=q;dsimp only at z w j;refine Oi (fun f=>?_) (fun f=>.mk (by dsimp only;omega));have f:y<2:=by simpa using f
 refine Ob (P:=fun r=>r.2.2.length<=v.length+43200) (bE (l:=s.Measures) (fun q=>q.1) (fun i q=>Hd q.2.1 q.2.2.2.length/\q.2.2.2.length<=v.length+3600*i) (by omega) rfl ⟨fun q F=>(by cases F),kO2 _⟩ (fun i m q H E hi t g hg u=>?_) (fun q hi g=>?_)) fun⟨a,b,c⟩ h=>.mk ⟨f,j f,by rw[j f];omega,by dsimp only at h ⊢;rw[j f];omega⟩;obtain⟨J,hd,A,K⟩:=q;dsimp only at hi t g hg u;have C:=(kM2.1 H).1;simp only[t,hg,nt];refine Ob (bN (l:=st) (Q:=fun _=>True) (by omega) (by omega) (fun _ _ _=>trivial)) fun o _=>?_;exact Ob (dZ1 (hs.MeasuresE m E) g.1 (by omega)) fun⟨a,b⟩ h=>.mk ⟨u,h.1,by dsimp only at h ⊢;omega⟩;obtain⟨J,hd,A,K⟩:=q;dsimp only at hi g;simp only[hi,nf];exact .mk (by dsimp only;omega)
def NL (on st:aA Int) (all:aA aF) (l:aA bZ):aB (aA aF):=(aQ (E:=aA aF) (fun(⟨b,h⟩:Int×(aA aF))=>if decide (b<(l.length:Int))then(aR l b).bind fun e=>(aQ (E:=aA aF) (fun(⟨f,g⟩:Int×(aA aF))=>if decide (f<(all.length:Int))then(aR all f).bind fun a=>(aR st e.Measure).bind fun i=>((if decide (a.On>=i)then(aR st (aU (e.Measure+1))).bind fun j=>some (decide (a.On<j))else some false:aB (Bool))).bind fun k=>((if k then(aR on b).bind fun c=>(aR st e.Measure).bind fun d=>(iF false g [(aF.mk (aU (a.On+(aU (c-d)))) (aU (a.Off+(aU (c-d)))) a.Number a.Part a.Staff a.Voice a.Event a.Head)]).bind fun m=>some ((aU (a.On+(aU (c-d)))),(aU (a.Off+(aU (c-d)))),m)else some (a.On,a.Off,g):aB (Int×Int×(aA aF)))).bind fun⟨p,q,n⟩=>some (.inl ((aU (f+1)),n))else some (.inr g)) aY (0,h)).bind fun o=>some (.inl ((aU (b+1)),o))else some (.inr h)) aY (0,[]))
theorem dup {A B C:Type} (x:aB A) (y:aB B) (f:A->B->A->B->aB C):(x.bind fun a=>y.bind fun b=>x.bind fun c=>y.bind fun d=>f a b c d)=x.bind fun a=>y.bind fun b=>f a b a b:=by
 cases x<;>cases y<;>rfl
theorem eA1 (n:Int):aU n=if n%18446744073709551616>=9223372036854775808 then n%18446744073709551616-18446744073709551616 else n%18446744073709551616:=by
 unfold aU IntKind.wrap;rw[show((2:Int)^IntKind.bits .i64)=18446744073709551616 from rfl,show((2:Int)^(IntKind.bits .i64-1))=9223372036854775808 from rfl];simp[IntKind.signed]
theorem wx (a b c:Int):aU (aU (a+b)-c)=aU (a+aU (b-c)):=by
 simp only[eA1];split<;>split<;>split<;>split<;>omega
theorem sW1 {on st:aA Int} {all:aA aF} {l:aA bZ} {M:Nat} (h1:on.length=l.length+1) (h2:st.length=M+1) (K:M<=12) (u:∀b∈l,0<=b.Measure/\b.Measure<M) (H:all.length<=1728000) (J:l.length<=30):Ok (NL on st all l) (fun r=>r.length<=51840000):=by
 unfold NL;refine bE (l:=l) (fun q=>q.1) (fun i q=>q.2.length<=1728000*i) (by omega) rfl (kO2 _) (fun i b q F D hi g s hg hw=>?_) (fun q hi s=>?_);obtain⟨k,o⟩:=q;dsimp only at hi g s hg hw;have B:=(kM2.1 F).1;have hb:=u b D;simp only[g,hg,nt];refine Ob (P:=fun r=>r.length<=o.length+1728000) (bE (l:=all) (fun q=>q.1) (fun j q=>q.2.length<=o.length+j) (by omega) rfl (kO2 _) (fun j n q w E c d e f m=>?_) (fun q c e=>?_)) fun r hr=>.mk ⟨hw,by dsimp only;omega⟩;obtain⟨G,A⟩:=q;dsimp only at c d e f m;have C:=(kM2.1 w).1;simp only[d,f,nt];refine Ob (bN (l:=st) (Q:=fun _=>True) (by omega) (by omega) (fun _ _ _=>trivial)) fun a _=>?_;refine Ob (P:=fun _=>True) (Oi (fun _=>?_) (fun _=>.mk trivial)) fun t _=>?_;rw[bB (by omega) (by omega)];exact Ob (bN (l:=st) (Q:=fun _=>True) (by omega) (by omega) (fun _ _ _=>trivial)) fun _ _=>.mk trivial;refine Ob (P:=fun r=>r.2.2.length<=A.length+1) (Oi (fun _=>?_) (fun _=>.mk (Nat.le_succ _))) fun⟨x,y,z⟩ h=>.mk ⟨m,by dsimp only at h ⊢;omega⟩;refine Ob (bN (l:=on) (Q:=fun _=>True) (by omega) (by omega) (fun _ _ _=>trivial)) fun p _=>?_;refine Ob (bN (l:=st) (Q:=fun _=>True) (by omega) (by omega) (fun _ _ _=>trivial)) fun p2 _=>?_;exact Ob (dF (Q:=fun v=>v.length<=A.length+1) (by omega) (by simp)) fun v hv=>.mk hv;obtain⟨G,A⟩:=q;dsimp only at c e;simp only[c,nf];exact .mk (by omega);obtain⟨k,o⟩:=q;dsimp only at hi s;simp only[hi,nf];exact .mk (by omega)
theorem sX1 {l:aA bZ} {on st:aA Int} {all:aA aF} (a:F13 s l=some (on,0)) (b:F14 s=some (st,0)) (c:F15 s=some (all,0)):F8 s l=(NL on st all l).bind fun n=>(Hb n).bind fun r=>some (r,0):=by
 unfold F8;rw[a,b,c];rfl
theorem kG1 {l:aA bZ} {on st:aA Int} {all:aA aF} (c:F20 s l=some on) (a:F14 s=some (st,0)) (b:F15 s=some (all,0)):F10 s l=(NL on st all l).bind fun n=>(Hb n).bind fun r=>some r:=by
 unfold F10;rw[a,b];simp only[kQ2];rw[c];simp only[kQ2,dup,wx];rfl
theorem eB1 {l:aA aF} (hl:l.length<9223372036854775808) {body:Int->aB (Int⊕(Unit⊕Unit))} (h:∀(i:Nat) (x:aF),l[i]? =some x->aR l (i:Int)=some x->aU ((i:Int)+1)=(i:Int)+1->body (i:Int)=some (.inl ((i:Int)+1))) (a:body (l.length:Int)=some (.inr (.inr ()))):aQ body aY 0=some (.inr ()):=by
 refine Ok.eq (bE (l:=l) (fun q=>q) (fun _ _=>True) hl rfl trivial (fun i x q b _ hi _ _ hg hw=>?_) (fun q hi _=>?_));rw[hi]at hg hw ⊢;rw[h i x b hg hw];exact .mk ⟨rfl,trivial⟩;rw[hi,a];exact .mk rfl
theorem dJ2 (hb:s.b) {k:aA bZ} (o:k.length<9223372036854775808):F3 s k=some true:=by
 unfold F3;rw[sS1 o];have hl:(k.take 30).length<=30:=by rw[nA2];omega
 generalize k.take 30=l at hl ⊢;rw[kQ2];obtain⟨r,hr,p⟩:=U13 hb;rw[hr];cases r with
 |false=>rfl
 |true=>
 have hs:=p rfl;have E:=hs.Measures;obtain⟨v,hv,_⟩:=T11 hs;simp only[kQ2,nO2,kX2,lQ2]
 have j:∀e:Int,e≠0->F23 s l=some e->F8 s l=some ([],e):=fun e he h1=>by
  unfold F8;rw[sV1 he h1];simp only[kQ2];rw[kT2 (by simpa using he)]
 cases v with
 |false=>rw[j 24 (by decide) (sU1 hv),dB2 hv];rfl
 |true=>
 by_cases h0:wr s.Measures.length [] l=0;have c:=sR1 h0;have hg:=sN1 hs hv;have h:=fU1 hs hv hl;rw[h0]at h;have m:=kC1 hs hg hl h c;obtain⟨st,t,e2⟩:=Nc hs
 have f:F14 s=some (st,0):=by
  unfold F14;rw[hv];simp only[kQ2];rw[kR2 (by decide),t];rfl
 obtain⟨⟨all,z⟩,g,rfl,u⟩:=kF1 hs hv;obtain⟨n,B,F⟩:=sW1 (on:=ons s l) (st:=st) (all:=all) (l:=l) (by simp[ons]) e2 (by omega) c u hl;obtain⟨r,C,D⟩:=Mw (l:=n) (by omega);have y:=D.1.length_eq;have q:=sX1 m f g;have d:=kG1 (kB1 hs hg hl c) f g;rw[B,kQ2,C,kQ2]at q d;rw[q,sT1 hs hv hl,h0,d];simp only[kQ2];rw[kR2 (by decide),kR2 (by simp)];refine Ms (a:=.inr ()) (eB1 (l:=r) (by omega) (fun i x A hg hw=>?_) ?_) rfl;have w:=(kM2.1 A).1;rw[kT2 (by simp;omega),hg];simp only[kQ2];rw[kR2 (by simp),hw];rw[kR2 (by simp)];rw[j _ h0 (fU1 hs hv hl),sT1 hs hv hl];simp only[kQ2];rw[kT2 (by simpa using h0)];simp
end Go.P
