import Derived.Test.YtndjmihnknjaeaaGreatGaB
/- A text of the proof. -/
set_option linter.all false
namespace Go.P
def Ok {α:Type} (x:Option α) (Q:α->Prop):Prop:=∃v,x=some v/\Q v
section
variable {α β:Type} {Q:α->Prop}
theorem Ok.mk {v:α} (h:Q v):Ok (some v) Q:=⟨v,rfl,h⟩
theorem Ob {P:β->Prop} {x:Option β} {k:β->Option α} (h:Ok x P) (hk:∀v,P v->Ok (k v) Q):Ok (x.bind k) Q:=by
 obtain⟨v,rfl,hv⟩:=h
 exact hk v hv
theorem Oi {c:Prop} [Decidable c] {a b:Option α} (h1:c->Ok a Q) (h2:¬c->Ok b Q):Ok (if c then a else b) Q:=by
 split
 .rename_i h;exact h1 h
 .rename_i h;exact h2 h
theorem Ok.mono {P:α->Prop} {x:Option α} (h:Ok x P) (a:∀v,P v->Q v):Ok x Q:=by
 obtain⟨v,h1,h2⟩:=h
 exact⟨v,h1,a v h2⟩
theorem Ok.ex {x:Option α} (h:Ok x Q):∃v,x=some v:=by
 obtain⟨v,h1,_⟩:=h
 exact⟨v,h1⟩
theorem cP {S E:Type} {body:S->Option (S⊕E)} {Q:E->Prop} (I:S->Prop) (μ:S->Nat)
  (h:∀s,I s->Ok (body s) (fun r=>match r with|.inl s'=>I s'/\μ s'<μ s|.inr e=>Q e)):∀(n:Nat) (s:S),I s->μ s<n->Ok (aQ body n s) Q
 |0,s,_,hn=>by omega
 |n+1,s,hi,hn=>by
  obtain⟨r,h1,h2⟩:=h s hi
  simp only[aQ,h1,Option.bind_some]
  cases r with
  |inl s'=>exact cP I μ h n s' h2.1 (by have:=h2.2;omega)
  |inr e=>exact .mk h2
end
theorem aY {n:Int} (h1: -9223372036854775808<=n) (h2:n<9223372036854775808):w64 n=n:=by
 have e:w64 n=if n%18446744073709551616>=9223372036854775808 then n%18446744073709551616-18446744073709551616 else n%18446744073709551616:=by
  unfold w64 IntKind.wrap
  rw[show((2:Int)^IntKind.bits .i64)=18446744073709551616 from rfl,show((2:Int)^(IntKind.bits .i64-1))=9223372036854775808 from rfl]
  simp[IntKind.signed]
 rw[e]
 split<;>omega
theorem bC {A:Type} {l:List A} {i:Int} {Q:A->Prop} (h0:0<=i) (h1:i<(l.length:Int)) (h:∀x,x∈l->l[i.toNat]? =some x->Q x):Ok (lget l i) Q:=by
 unfold lget
 rw[if_pos h0]
 have hi:i.toNat<l.length:=by omega
 exact⟨l[i.toNat],by simp[hi],h _ (List.getElem_mem hi) (by simp[hi])⟩
end Go.P
set_option maxRecDepth 100000
namespace Go.P
def idxF {A:Type} (l:List A) (g:A->Option Bool):Option Int:=
 (aQ (E:=Int⊕Unit) (fun(a:Int)=>
  if(decide (a<(l.length:Int)))then
   (lget l a).bind fun d=>
   (g d).bind fun b=>
   if b then
    some (.inr (.inl a))
   else
   some (.inl (w64 (a+1)))
  else
  some (.inr (.inr ()))) B64 0).bind fun c=>
 match c with
 |.inl x_7=>
  some x_7
 |.inr _=>
  some (-1)
theorem fZ1 {A:Type} {l:List A} {g:A->Option Bool} (hl:l.length<9223372036854775808) (hg:∀x∈l,∃b,g x=some b):Ok (idxF l g) (fun v=>(v= -1/\∀x∈l,g x=some false)\/(0<=v/\v<l.length/\∃x,l[v.toNat]? =some x/\g x=some true)):=by
 unfold idxF
 refine Ob (P:=fun r=>match r with|.inl v=>0<=v/\v<l.length/\∃x,l[v.toNat]? =some x/\g x=some true|.inr _=>∀x∈l,g x=some false)
  (cP (S:=Int) (fun i=>0<=i/\i<=l.length/\∀j,j<i.toNat->∀x,l[j]? =some x->g x=some false) (fun i=>l.length-i.toNat) (fun i hi=>?_) B64 0 ⟨by omega,by omega,fun j c=>by simp at c⟩ (by simp[B64];omega)) fun r hr=>?_
 .obtain ⟨h0,h1,h2⟩:=hi
  refine Oi (fun hc=>?_) (fun hc=>?_)
  .simp only[decide_eq_true_eq]at hc
   refine Ob (bC (Q:=fun x=>x∈l/\l[i.toNat]? =some x) h0 hc (fun x a b=>⟨a,b⟩)) fun x d=>?_
   obtain⟨b,hb⟩:=hg x d.1
   rw[hb]
   cases b with
   |true=>exact .mk ⟨h0,hc,x,d.2,hb⟩
   |false=>
    rw[Option.bind_some,aY (by omega) (by omega)]
    refine .mk ⟨⟨by omega,by omega,fun j c y hy=>?_⟩,by omega⟩
    by_cases e:j=i.toNat
    .subst e
     rw[d.2]at hy;cases hy;exact hb
    .exact h2 j (by omega) y hy
  .simp only[decide_eq_true_eq]at hc
   refine .mk (fun x d=>?_)
   obtain⟨j,c⟩:=List.mem_iff_getElem?.1 d
   have:=(List.getElem?_eq_some_iff.1 c).1
   exact h2 j (by omega) x c
 .cases r with
  |inl v=>exact .mk (.inr hr)
  |inr u=>exact .mk (.inl ⟨rfl,hr⟩)
end Go.P
namespace Go.P
structure Zy.b (x:Zy):Prop where
 Text:x.Text.size<9223372036854775808
structure Ze.b (x:Ze):Prop where
 Heads:x.Heads.length<9223372036854775808
 Graces:x.Graces.length<9223372036854775808
 Lyrics:x.Lyrics.length<9223372036854775808
 LyricsE:∀y∈x.Lyrics,y.b
structure Zo.b (x:Zo):Prop where
 Events:x.Events.length<9223372036854775808
 EventsE:∀y∈x.Events,y.b
 Tuplets:x.Tuplets.length<9223372036854775808
structure Zw.b (x:Zw):Prop where
 Clefs:x.Clefs.length<9223372036854775808
 Voices:x.Voices.length<9223372036854775808
 VoicesE:∀y∈x.Voices,y.b
structure Zm.b (x:Zm):Prop where
 Rehearsal:x.Rehearsal.size<9223372036854775808
 Tempi:x.Tempi.length<9223372036854775808
 Cells:x.Cells.length<9223372036854775808
 CellsE:∀y∈x.Cells,y.b
structure Zj.b (x:Zj):Prop where
 Name:x.Name.size<9223372036854775808
 Staves:x.Staves.length<9223372036854775808
structure Z0.b (x:Z0):Prop where
 Title:x.Title.size<9223372036854775808
 Parts:x.Parts.length<9223372036854775808
 PartsE:∀y∈x.Parts,y.b
 Measures:x.Measures.length<9223372036854775808
 MeasuresE:∀y∈x.Measures,y.b
 Spanners:x.Spanners.length<9223372036854775808
 Last:x.Last.length<9223372036854775808
structure Zy.sm (x:Zy):Prop where
 Text:x.Text.size<=300
structure Ze.sm (x:Ze):Prop where
 Heads:x.Heads.length<=12
 Graces:x.Graces.length<=12
 Lyrics:x.Lyrics.length<=12
 LyricsE:∀y∈x.Lyrics,y.sm
structure Zo.sm (x:Zo):Prop where
 Events:x.Events.length<=20
 EventsE:∀y∈x.Events,y.sm
 Tuplets:x.Tuplets.length<=6
structure Zw.sm (x:Zw):Prop where
 Clefs:x.Clefs.length<=5
 Voices:x.Voices.length<=3
 VoicesE:∀y∈x.Voices,y.sm
structure Zm.sm (x:Zm):Prop where
 Rehearsal:x.Rehearsal.size<=300
 Tempi:x.Tempi.length<=5
 Cells:x.Cells.length<=5
 CellsE:∀y∈x.Cells,y.sm
structure Zj.sm (x:Zj):Prop where
 Name:x.Name.size<=300
 Staves:x.Staves.length<=5
structure Z0.sm (x:Z0):Prop where
 Title:x.Title.size<=300
 Parts:x.Parts.length<=4
 PartsE:∀y∈x.Parts,y.sm
 Measures:x.Measures.length<=10
 MeasuresE:∀y∈x.Measures,y.sm
 Spanners:x.Spanners.length<=10
 Last:x.Last.length<=5
end Go.P
namespace Go.P
theorem mR {A E:Type} {l:List A} {body:Int->Option (Int⊕E)} {Q:E->Prop} (P:A->Prop) (hl:l.length<9223372036854775808)
  (h:∀(i:Int) (x:A),0<=i->i<(l.length:Int)->x∈l->lget l i=some x->w64 (i+1)=i+1->Ok (body i) (fun r=>match r with|.inl j=>j=i+1/\P x|.inr e=>Q e))
  (a:∀i:Int,i=(l.length:Int)->(∀x∈l,P x)->Ok (body i) (fun r=>match r with|.inl j=>False|.inr e=>Q e)):Ok (aQ body B64 0) Q:=by
 have hl:l.length<9223372036854775808:=hl
 refine cP (fun(i:Int)=>0<=i/\i<=l.length/\∀j,j<i.toNat->∀x,l[j]? =some x->P x) (fun i=>l.length-i.toNat) (fun i hi=>?_) B64 0 ⟨by omega,by omega,fun j b=>by simp at b⟩ (by simp[B64];omega)
 obtain⟨h0,h1,h2⟩:=hi
 by_cases c:i<(l.length:Int)
 .have hi:i.toNat<l.length:=by omega
  have hg:lget l i=some l[i.toNat]:=by unfold lget;rw[if_pos h0];simp[hi]
  refine(h i l[i.toNat] h0 c (List.getElem_mem hi) hg (aY (by omega) (by omega))).mono fun r hr=>?_
  cases r with
  |inl j=>
   obtain⟨rfl,hp⟩:=hr
   refine⟨⟨by omega,by omega,fun j b y hy=>?_⟩,by omega⟩
   by_cases e:j=i.toNat
   .subst e;rw[List.getElem?_eq_getElem hi]at hy;cases hy;exact hp
   .exact h2 j (by omega) y hy
  |inr e=>exact hr
 .refine (a i (by omega) (fun x d=>?_)).mono fun r hr=>?_
  .obtain ⟨j,b⟩:=List.mem_iff_getElem?.1 d
   have:=(List.getElem?_eq_some_iff.1 b).1
   exact h2 j (by omega) x b
  .cases r with
   |inl j=>exact hr.elim
   |inr e=>exact hr
theorem U33 {v:Zo} (hv:v.b):Ok (F23 v) (fun r=>r=true->v.sm):=by
 unfold F23
 refine Ob (P:=fun r=>match r with|.inl _=>True|.inr _=>∀e∈v.Events,e.sm) (mR (fun e=>e.sm) hv.Events (fun i x h0 h1 c hg hw=>?_) (fun i hi hp=>?_)) fun r hr=>?_
 .simp only[h1,decide_true,if_true,hg,Option.bind_some]
  refine Oi (fun hc=>.mk trivial) (fun hc=>?_)
  have a:=hv.EventsE x c
  simp only[Bool.or_eq_true,decide_eq_true_eq,not_or]at hc
  refine Ob (P:=fun r=>match r with|.inl _=>True|.inr _=>∀e∈x.Lyrics,e.sm) (mR (fun e=>e.sm) a.Lyrics (fun k y j d hy f g=>?_) (fun k hk hp=>?_)) fun r hr=>?_
  .simp only[d,decide_true,if_true,f,Option.bind_some]
   refine Oi (fun hd=>.mk trivial) (fun hd=>?_)
   rw[g]
   exact .mk ⟨rfl,⟨by simp at hd;omega⟩⟩
  .simp only[hk,Int.lt_irrefl,decide_false,Bool.false_eq_true,if_false]
   exact .mk hp
  .cases r with
   |inl u=>exact .mk trivial
   |inr u=>simp only;rw[hw];exact .mk ⟨rfl,⟨by omega,by omega,by omega,hr⟩⟩
 .simp only[hi,Int.lt_irrefl,decide_false,Bool.false_eq_true,if_false]
  exact .mk hp
 .cases r with
  |inl u=>exact .mk (fun h=>by cases h)
  |inr u=>
   refine .mk (fun h=>?_)
   simp only[Bool.and_eq_true,decide_eq_true_eq]at h
   exact⟨by omega,hr,by omega⟩
end Go.P
namespace Go.P
theorem aP {A S E:Type} {l:List A} {body:S->Option (S⊕E)} {Q:E->Prop} {s0:S} (a:S->Int) (I:Nat->S->Prop) (hl:l.length<9223372036854775808) (h0:a s0=0) (g:I 0 s0)
  (h:∀(i:Nat) (x:A) (s:S),l[i]? =some x->x∈l->a s=(i:Int)->a s<(l.length:Int)->I i s->lget l (a s)=some x->w64 (a s+1)=(i:Int)+1->Ok (body s) (fun r=>match r with|.inl s'=>a s'=(i:Int)+1/\I (i+1) s'|.inr e=>Q e))
  (b:∀s,a s=(l.length:Int)->I l.length s->Ok (body s) (fun r=>match r with|.inl _=>False|.inr e=>Q e)):Ok (aQ body B64 s0) Q:=by
 have hl:l.length<9223372036854775808:=hl
 refine cP (fun s=>0<=a s/\a s<=l.length/\I (a s).toNat s) (fun s=>l.length-(a s).toNat) (fun s hi=>?_) B64 s0 ⟨by omega,by omega,by rw[h0];exact g⟩ (by simp[B64];omega)
 obtain⟨k,n,d⟩:=hi
 by_cases c:a s<(l.length:Int)
 .have hi:(a s).toNat<l.length:=by omega
  have hc:(((a s).toNat:Nat):Int)=a s:=by omega
  have hg:lget l (a s)=some l[(a s).toNat]:=by unfold lget;rw[if_pos k];simp[hi]
  refine(h (a s).toNat l[(a s).toNat] s (by simp[hi]) (List.getElem_mem hi) hc.symm c d hg (by rw[aY (by omega) (by omega)];omega)).mono fun r hr=>?_
  cases r with
  |inl s'=>
   obtain⟨m,f⟩:=hr
   refine⟨⟨by omega,by omega,?_⟩,by omega⟩
   rw[show(a s').toNat=(a s).toNat+1 by omega]
   exact f
  |inr e=>exact hr
 .refine (b s (by omega) ?_).mono fun r hr=>?_
  .rw [show(a s).toNat=l.length by omega]at d;exact d
  .cases r with
   |inl j=>exact hr.elim
   |inr e=>exact hr
theorem cJ {A:Type} {g:Bool} {l:List A} {x:A} (h:l.length<1073741824) {Q:List A->Prop} (a:Q (l++[x])):Ok (lapp g l [x]) Q:=by
 unfold lapp
 have e:Sim.maxRoom=1073741824:=rfl
 rw[if_pos ⟨by rw[e,List.length_cons,List.length_nil];omega,fun _=>Nat.le_refl _⟩]
 exact .mk a
theorem U101 {w:Bool} {id:Zz} {l:List Zv} {s:Z0} {r:Int} (h:l.length<1000000):Ok (Fn66 w id l s r) (fun v=>v.length<=l.length+1):=by
 unfold Fn66
 refine Ob (P:=fun v=>v.length<=l.length+1) (Oi (fun _=>Ob (cJ (Q:=fun v=>v.length<=l.length+1) (by omega) (by simp)) fun v hv=>.mk hv) (fun _=>.mk (by omega))) fun v hv=>.mk hv
theorem E103 (n a b:Int):F68 n a b=some (decide (n>=a)&&decide (n<=b)):=rfl
theorem E104 (i:Zl):F69 i=some (if((((decide (i.Steps<(-77)))||(decide (i.Steps>77)))||(decide (i.Semitones<(-140))))||(decide (i.Semitones>140)))then 2 else 0):=by
 unfold F69;split<;>rfl
theorem U102 {s:ByteArray} (h:s.size<9223372036854775808):Ok (F67 s) (fun _=>True):=by
 unfold F67
 refine Ob (P:=fun _=>True) (Oi (fun _=>?_) (fun _=>.mk trivial)) fun v hv=>.mk hv
 have:Ok (F120 s.data.toList) (fun _=>True):=by
  unfold F120
  refine Ob (fZ1 (l:=s.data.toList) (g:=fun b=>F119 (b.toNat:Int)) (by rw[Array.length_toList];exact h) (fun x _=>⟨_,rfl⟩)) fun v hv=>.mk trivial
 exact Ob this fun v hv=>.mk trivial
end Go.P
namespace Go.P
section
variable {α β:Type} {Q:α->Prop}
theorem Ok.bindE {P:β->Prop} {x:Option β} {k:β->Option α} (h:Ok x P) (hk:∀v,x=some v->P v->Ok (k v) Q):Ok (x.bind k) Q:=by
 obtain⟨v,rfl,hv⟩:=h
 exact hk v rfl hv
theorem Ok.of {x:Option α} (h:Ok x Q) {v:α} (hv:x=some v):Q v:=by
 obtain⟨w,h1,h2⟩:=h
 rw[h1]at hv;cases hv;exact h2
theorem mS {k:IntKind} {a b:Int} (h:b≠0):Ok (quoO k a b) (fun v=>v=k.wrap (a.tdiv b)):=by
 unfold quoO;rw[if_neg h];exact .mk rfl
theorem uB {k:IntKind} {a b:Int} (h:b≠0):Ok (remO k a b) (fun v=>v=a.tmod b):=by
 unfold remO;rw[if_neg h];exact .mk rfl
theorem mT {k:IntKind} {a b:Int} (h:0<=b):Ok (shrO k a b) (fun v=>v=a.fdiv (2^min b.toNat k.bits)):=by
 unfold shrO;rw[if_neg (by omega)];exact .mk rfl
theorem aN1 {k:IntKind} {a b:Int} (h:0<=b):Ok (shlO k a b) (fun _=>True):=by
 unfold shlO;rw[if_neg (by omega)];exact .mk trivial
end
section
variable {A:Type} {l:List A}
theorem bK {i:Int} (h0:0<=i) (h1:i<(l.length:Int)):Ok (lidx l i) (fun v=>v=i.toNat/\v<l.length):=by
 unfold lidx tK;rw[if_pos ⟨h0,h1⟩];exact .mk ⟨rfl,by omega⟩
theorem bR {j:Nat} (h:j<l.length):Ok (lnth l j) (fun x=>l[j]? =some x/\x∈l):=by
 unfold lnth;rw[List.getElem?_eq_getElem h];exact .mk ⟨rfl,List.getElem_mem h⟩
theorem aO1 {j:Nat} {f:A->A} (h:j<l.length):Ok (lput l j f) (fun m=>m.length=l.length):=by
 unfold lput;rw[List.getElem?_eq_getElem h];exact .mk (by simp)
theorem jE {n c:Int} {z:A} (h0:0<=n) (h1:n<=c) (h2:c<=1073741824):Ok (pZ n c z) (fun v=>v=List.replicate n.toNat z):=by
 unfold pZ;rw[if_pos ⟨h0,h1,h2⟩];exact .mk rfl
theorem sK {a b:Int} (h0:0<=a) (h1:a<=b) (h2:b<=(l.length:Int)):Ok (mO l a b) (fun v=>v.length<=l.length/\∀x∈v,x∈l):=by
 unfold mO;rw[if_pos ⟨h0,h1,h2⟩]
 exact .mk ⟨by simp;omega,fun x c=>List.mem_of_mem_drop (List.mem_of_mem_take c)⟩
theorem aP1 {h:Int} (h0:0<l.length) (h1:0<=h) (h2:h<=(l.length:Int)):Ok (sH l h) (fun v=>v.length=h.toNat/\∀x∈v,x∈l):=by
 unfold sH;rw[if_pos ⟨h0,h1,h2⟩]
 exact .mk ⟨by simp;omega,fun x a=>List.mem_of_mem_take a⟩
theorem cT {i:Int} {x:A} (h:lget l i=some x):0<=i/\i<(l.length:Int)/\x∈l/\l[i.toNat]? =some x:=by
 unfold lget at h
 split at h
 .obtain ⟨hi,_⟩:=List.getElem?_eq_some_iff.1 h
  exact⟨by omega,by omega,List.mem_of_getElem? h,h⟩
 .cases h
end
theorem mU {s:ByteArray} {i:Int} (h0:0<=i) (h1:i<(s.size:Int)):Ok (kF s i) (fun v=>0<=v/\v<=255):=by
 unfold kF;rw[if_pos h0]
 have h:i.toNat<s.data.toList.length:=by rw[Array.length_toList];show i.toNat<s.size;omega
 rw[List.getElem?_eq_getElem h]
 have:=(s.data.toList[i.toNat]).toNat_lt
 exact .mk ⟨by dsimp only;omega,by dsimp only;omega⟩
theorem mV {A:Type} {l:List A} (h:l.length<=1073741824):mQ l=some l:=by
 unfold mQ
 rw[Nat.ble_eq_true_of_le h];rfl
theorem nm:(∀a b:Bool,((a||b)=true)=(a=true\/b=true))/\(∀a b:Bool,((a&&b)=true)=(a=true/\b=true))/\(∀b:Bool,((!b)=true)=(b=false))/\(∀(p:Prop) [Decidable p],(decide p=true)=p)/\
  (∀(p:Prop) [Decidable p],(decide p=false)=¬p)/\(∀p q:Prop,(¬(p\/q))=(¬p/\¬q))/\(∀p q:Prop,(¬(p/\q))=(p->¬q))/\(∀b:Bool,(¬b=true)=(b=false))/\(∀a b:Int,((a !=b)=true)=¬a=b)/\
  (∀a b:Int,((a==b)=true)=(a=b))/\(∀p:Prop,(¬¬p)=p):=
 ⟨fun a b=>by simp,fun a b=>by simp,fun b=>by simp,fun p _=>by simp,fun p _=>by simp,fun p q=>by simp,fun p q=>by simp,fun b=>by simp,fun a b=>by simp,fun a b=>by simp,fun p=>by simp⟩
theorem nl {A:Type}:(∀(a:A) (l:List A),(a::l).length=l.length+1)/\([]:List A).length=0:=⟨fun _ _=>rfl,rfl⟩
theorem nt:(∀[Decidable True],decide True=true)/\(∀(α:Type) [Decidable True] (a b:α),(if True then a else b)=a)/\∀(α β:Type) (a:α) (f:α->Option β),(some a).bind f=f a:=⟨decide_true _,fun _ _ _ _=>if_true ..,fun _ _ _ _=>rfl⟩
theorem nf:(∀a:Int,(a<a)=False)/\(∀[Decidable False],decide False=false)/\((false=true)=False)/\∀(α:Type) [Decidable False] (a b:α),(if False then a else b)=b:=⟨fun a=>by simp,decide_false _,by simp,fun _ _ _ _=>if_false ..⟩
theorem obT {α β:Type} {Q:α->Prop} {x:Option β} {k:β->Option α} (h:Ok x fun _=>True) (hk:∀v,Ok (k v) Q):Ok (x.bind k) Q:=Ob h fun v _=>hk v
theorem lpT {A S E β:Type} {l:List A} {body:S->Option (S⊕E)} {s0:S} {k:E->Option β} {Q:β->Prop} (a:S->Int) (hl:l.length<9223372036854775808) (h0:a s0=0)
  (h:∀(i:Nat) (x:A) (s:S),x∈l->a s=(i:Int)->a s<(l.length:Int)->lget l (a s)=some x->w64 (a s+1)=(i:Int)+1->Ok (body s) (fun r=>match r with|.inl s'=>a s'=(i:Int)+1|.inr _=>True))
  (b:∀s,a s=(l.length:Int)->Ok (body s) (fun r=>match r with|.inl _=>False|.inr _=>True)) (hk:∀e,Ok (k e) Q):Ok ((aQ body B64 s0).bind k) Q:=
 obT (aP (l:=l) a (fun _ _=>True) hl h0 trivial (fun i x s _ d hi c _ hg hw=>(h i x s d hi c hg hw).mono fun r hr=>by cases r with|inl s'=>exact⟨hr,trivial⟩|inr e=>trivial) (fun s hi _=>b s hi)) hk
theorem cX1 {s:ByteArray} {n:Nat} (h:s.size<=n):s.data.toList.length<=n:=by rw[Array.length_toList];exact h
theorem dY1 (n:Int): -9223372036854775808<=w64 n/\w64 n<=9223372036854775807:=by
 have e:w64 n=if n%18446744073709551616>=9223372036854775808 then n%18446744073709551616-18446744073709551616 else n%18446744073709551616:=by
  unfold w64 IntKind.wrap
  rw[show((2:Int)^IntKind.bits .i64)=18446744073709551616 from rfl,show((2:Int)^(IntKind.bits .i64-1))=9223372036854775808 from rfl]
  simp[IntKind.signed]
 rw[e]
 split<;>omega
theorem eU {S E:Type} {body:S->Option (S⊕E)} {Q:E->Prop} {s0:S} (d:S->Int) (N:Int) (I:S->Prop) (g:N<=9223372036854775807) (h0: -1000<=d s0) (f:I s0)
  (h:∀s,I s->d s0<=d s->(d s<N->w64 (d s+1)=d s+1)->Ok (body s) (fun r=>match r with|.inl s'=>d s<N/\d s'=d s+1/\I s'|.inr e=>Q e)):Ok (aQ body B64 s0) Q:=by
 refine cP (fun s=>I s/\d s0<=d s) (fun s=>(N-d s).toNat) (fun s hs=>?_) B64 s0 ⟨f,Int.le_refl _⟩ (by simp only[B64];omega)
 refine(h s hs.1 hs.2 (fun hc=>aY (by omega) (by omega))).mono fun r hr=>?_
 cases r with
 |inl s'=>obtain⟨a,b,c⟩:=hr;exact⟨⟨c,by omega⟩,by omega⟩
 |inr e=>exact hr
theorem S101 {w:Bool} {id:Zz} {l:List Zv} {s:Z0} {r:Int} (h:l.length<1000000):Ok (Fn66 w id l s r) (fun v=>(w=true->v.length=l.length+1)/\(w=false->v.length=l.length)):=by
 unfold Fn66
 refine Ob (P:=fun v=>(w=true->v.length=l.length+1)/\(w=false->v.length=l.length)) (Oi (fun h=>Ob (cJ (Q:=fun v=>v.length=l.length+1) (by omega) (by simp)) fun v hv=>.mk ⟨fun _=>hv,fun h2=>by rw[h]at h2;cases h2⟩) (fun h=>.mk ⟨fun h2=>absurd h2 h,fun _=>rfl⟩)) fun v hv=>.mk hv
theorem iW1 (n:Int):0<=IntKind.wrap .u8 n/\IntKind.wrap .u8 n<256:=by
 unfold IntKind.wrap
 rw[show((2:Int)^IntKind.bits .u8)=256 from rfl]
 simp[IntKind.signed]
 omega
theorem U59b {l:List Zv} {s:Z0} {r:Int} (hs:s.sm) (h0:s.Measures.length=0) (h:l.length<900000):Ok (Fn39 l s r) (fun v=>0<v.length):=by
 unfold Fn39
 have hp:=hs.Parts
 refine Ob (P:=fun v=>v.length<=l.length+4) (aP (l:=s.Parts) (fun q=>q.1) (fun i q=>q.2.length<=l.length+i) (by omega) rfl (by simp) (fun i x q m f hi e d hg hw=>?_) (fun q hi d=>?_)) fun v1 h1=>?_
 .obtain ⟨k,j⟩:=q
  have g:=hs.PartsE x f
  have n:=g.Name
  simp only at hi e d hg hw
  simp only[e,decide_true,if_true,hg,Option.bind_some,E103,E104]
  refine Ob (U102 (by omega)) fun a _=>?_
  refine Ob (P:=fun _=>True) (by split<;>exact .mk trivial) fun b _=>?_
  refine Ob (P:=fun _=>True) (by split<;>exact .mk trivial) fun c _=>?_
  refine Ob (U101 (by omega)) fun v hv=>.mk ⟨hw,by dsimp only;omega⟩
 .obtain ⟨k,j⟩:=q
  simp only at hi d
  simp only[hi,Int.lt_irrefl,decide_false,Bool.false_eq_true,if_false]
  exact .mk (by omega)
 refine Ob (P:=fun v=>v.length<=l.length+4) (aP (l:=s.Measures) (fun q=>q.1) (fun i q=>q.2.length<=l.length+4) (by omega) rfl h1 (fun i x q m f hi e d hg hw=>by omega) (fun q hi d=>?_)) fun v1 h1=>?_
 .obtain ⟨k,j⟩:=q
  simp only at hi d
  simp only[hi,Int.lt_irrefl,decide_false,Bool.false_eq_true,if_false]
  exact .mk d
 have o:=hs.Title
 refine Ob (U102 (by omega)) fun a _=>?_
 simp only[E103,Option.bind_some]
 refine Ob (P:=fun _=>True) (by split<;>exact .mk trivial) fun b _=>?_
 refine Ob (P:=fun r=>r=true) (Oi (fun _=>.mk rfl) (fun _=>.mk (by simp[h0]))) fun c hc=>?_
 subst hc
 simp only[Bool.true_or]
 refine Ob (S101 (by omega)) fun v hv=>.mk (by have:=hv.1 rfl;omega)
def Zu.ok (n:Int) (t:Zu):Prop:=1<=t.Count/\t.Count<=n/\0<=t.First/\t.First+t.Count<=n/\1<=t.Actual/\t.Actual<=32/\1<=t.Normal/\t.Normal<=32
def Z0.pl (s:Z0) (m c v:Int):Prop:=∃x y z,lget s.Measures m=some x/\lget x.Cells c=some y/\lget y.Voices v=some z
end Go.P
set_option maxHeartbeats 1000000
namespace Go.P
theorem U34 {v:Zo} (hv:v.b):Ok (F24 v) (fun _=>True):=by
 unfold F24
 refine Ob (P:=fun _=>True) (aP (l:=v.Events) (fun q=>q.2) (fun _ _=>True) hv.Events rfl trivial (fun i e q c a hi hl _ hg hw=>?_) (fun q hi _=>?_)) fun v _=>.mk trivial
 .obtain ⟨n,k⟩:=q
  dsimp only at hi hl hg hw
  simp only[hl,hg,decide_true,if_true,Option.bind_some]
  refine Ob (P:=fun _=>True) (aP (l:=e.Lyrics) (fun q=>q.2) (fun _ _=>True) (hv.EventsE e a).Lyrics rfl trivial (fun i e q c a hi hl _ hg hw=>?_) (fun q hi _=>?_)) fun x _=>.mk ⟨hw,trivial⟩
  .obtain ⟨n,k⟩:=q
   dsimp only at hi hl hg hw
   simp only[hl,hg,decide_true,if_true,Option.bind_some]
   exact .mk ⟨hw,trivial⟩
  .obtain ⟨n,k⟩:=q
   dsimp only at hi
   simp only[hi,Int.lt_irrefl,decide_false,Bool.false_eq_true,if_false]
   exact .mk trivial
 .obtain ⟨n,k⟩:=q
  dsimp only at hi
  simp only[hi,Int.lt_irrefl,decide_false,Bool.false_eq_true,if_false]
  exact .mk trivial
theorem U13 {s:Z0} (hb:s.b):Ok (F8 s) (fun r=>r=true->s.sm):=by
 unfold F8
 refine Ob (P:=fun r=>match r with|.inl _=>True|.inr _=>∀p∈s.Parts,p.sm) (mR (l:=s.Parts) (fun p=>p.sm) hb.Parts (fun i p h0 h1 d hg hw=>?_) (fun i hi o=>?_)) fun r hr=>?_
 .simp only[h1,hg,hw,decide_true,if_true,Option.bind_some]
  refine Ob (P:=fun b=>b=true\/p.sm) (Oi (fun _=>.mk (.inl rfl)) (fun hc=>.mk ?_)) fun b hb=>?_
  .simp only[decide_eq_true_eq]at hc
   by_cases h:(p.Name.size:Int)>300
   .exact .inl (by simpa using h)
   .exact .inr ⟨by omega,by omega⟩
  .exact Oi (fun _=>.mk trivial) (fun hc=>.mk ⟨rfl,hb.resolve_left hc⟩)
 .simp only[hi,Int.lt_irrefl,decide_false,Bool.false_eq_true,if_false]
  exact .mk o
 rcases r with _|_
 .exact .mk (fun h=>by cases h)
 refine Ob (P:=fun r=>match r with|.inl _=>True|.inr _=>∀m∈s.Measures,m.sm) (aP (l:=s.Measures) (fun q=>q.2.2) (fun i q=>∀m∈s.Measures.take i,m.sm) hb.Measures rfl (fun m j=>by simp at j) (fun i m q d j hi hl g hg hw=>?_) (fun q hi g=>?_)) fun r B=>?_
 .obtain ⟨ev,by',k⟩:=q
  have F:=hb.MeasuresE m j
  dsimp only at hi hl hg hw
  simp only[hl,hg,decide_true,if_true,Option.bind_some]
  refine Oi (fun _=>.mk trivial) (fun hc=>?_)
  simp only[Bool.or_eq_true,decide_eq_true_eq,not_or]at hc
  refine Ob (P:=fun r=>match r with|.inl _=>True|.inr _=>∀c∈m.Cells,c.sm) (aP (l:=m.Cells) (fun q=>q.2.2) (fun i q=>∀c∈m.Cells.take i,c.sm) F.Cells rfl (fun m j=>by simp at j) (fun i c q C z hi hl w hg t=>?_) (fun q hi g=>?_)) fun r hr=>?_
  .obtain ⟨ev,by',k⟩:=q
   have E:=F.CellsE c z
   dsimp only at hi hl hg t
   simp only[hl,hg,decide_true,if_true,Option.bind_some]
   refine Ob (P:=fun b=>b=true\/(c.Clefs.length<=5/\c.Voices.length<=3)) (Oi (fun _=>.mk (.inl rfl)) (fun hc=>.mk ?_)) fun b hb=>?_
   .simp only[decide_eq_true_eq]at hc
    by_cases h:(c.Voices.length:Int)>3
    .exact .inl (by simpa using h)
    .exact .inr ⟨by omega,by omega⟩
   refine Oi (fun _=>.mk trivial) (fun hcc=>?_)
   have hcc:=hb.resolve_left hcc
   refine Ob (P:=fun r=>match r with|.inl _=>True|.inr _=>∀v∈c.Voices,v.sm) (aP (l:=c.Voices) (fun q=>q.2.2) (fun i q=>∀v∈c.Voices.take i,v.sm) E.Voices rfl (fun m j=>by simp at j) (fun i v q D A hi hl g hg u=>?_) (fun q hi g=>?_)) fun r hr=>?_
   .obtain ⟨ev,by',k⟩:=q
    have bv:=E.VoicesE v A
    dsimp only at hi hl hg u
    simp only[hl,hg,decide_true,if_true,Option.bind_some]
    refine Ob (U33 bv) fun f hf=>?_
    refine Oi (fun _=>.mk trivial) (fun y=>?_)
    refine Ob (U34 bv) fun n _=>?_
    refine Oi (fun _=>.mk trivial) (fun _=>.mk ⟨u,fun x d=>?_⟩)
    rw[List.take_add_one,D]at d
    rcases List.mem_append.1 d with d|d
    .exact g x d
    .simp at d;subst d;exact hf (by simpa using y)
   .obtain ⟨ev,by',k⟩:=q
    dsimp only at hi
    simp only[hi,Int.lt_irrefl,decide_false,Bool.false_eq_true,if_false]
    rw[List.take_length]at g
    exact .mk g
   .rcases r with⟨a,b⟩|⟨a,b⟩
    .exact .mk trivial
    .refine .mk ⟨t,fun x d=>?_⟩
     rw[List.take_add_one,C]at d
     rcases List.mem_append.1 d with d|d
     .exact w x d
     .simp at d;subst d;exact⟨hcc.1,hcc.2,hr⟩
  .obtain ⟨ev,by',k⟩:=q
   dsimp only at hi
   simp only[hi,Int.lt_irrefl,decide_false,Bool.false_eq_true,if_false]
   rw[List.take_length]at g
   exact .mk g
  .rcases r with⟨a,b⟩|⟨a,b⟩
   .exact .mk trivial
   .refine .mk ⟨hw,fun x e=>?_⟩
    rw[List.take_add_one,d]at e
    rcases List.mem_append.1 e with e|e
    .exact g x e
    .simp at e;subst e;exact⟨by omega,by omega,by omega,hr⟩
 .obtain ⟨ev,by',k⟩:=q
  dsimp only at hi
  simp only[hi,Int.lt_irrefl,decide_false,Bool.false_eq_true,if_false]
  rw[List.take_length]at g
  exact .mk g
 .rcases r with _|_
  .exact .mk (fun h=>by cases h)
  .refine .mk (fun h=>?_)
   simp only[Bool.and_eq_true,decide_eq_true_eq]at h
   exact⟨by omega,by omega,hr,by omega,B,by omega,by omega⟩
end Go.P
set_option maxHeartbeats 2000000
namespace Go.P
theorem T119 {a:Int}:Ok (F119 a) (fun _=>True):=by
 unfold F119
 exact .mk trivial
theorem T165 {f:List UInt8} (a:f.length<=300):Ok (F165 f) (fun _=>True):=by
 unfold F165
 have g:=a
 refine lpT (l:=f) (fun q=>q) (Nat.lt_of_le_of_lt a (by decide)) rfl (fun k j x4 h b d c e=>?_) (fun x4 b=>?_) fun i=>?_
 .simp only[d,c,nt]
  refine obT (T119) fun m=>?_
  refine Oi (fun c13=>?_) (fun c13=>?_)
  .exact .mk trivial
  exact .mk e
 .simp only[b,nf]
  exact .mk trivial
 rcases i with n|_
 .exact .mk trivial
 .exact .mk trivial
theorem T120 {b:List UInt8} (a:b.length<=300):Ok (F120 b) (fun _=>True):=by
 unfold F120
 refine obT (T165 a) fun c=>?_
 exact .mk trivial
theorem T67 {b:ByteArray} (a:b.size<=300):Ok (F67 b) (fun _=>True):=by
 unfold F67
 refine Ob (P:=fun r=>r=true->(decide ((b.size:Int)<=256))=true) ?_ fun e c=>?_
 .refine Oi (fun c16=>?_) (fun _=>.mk (fun h=>by cases h))
  refine obT (T120 (cX1 a)) fun d=>?_
  exact .mk (fun _=>c16)
 exact .mk trivial
theorem T68 {a b c:Int}:Ok (F68 a b c) (fun _=>True):=by
 unfold F68
 exact .mk trivial
theorem T69 {a:Zl}:Ok (F69 a) (fun _=>True):=by
 unfold F69
 refine Oi (fun c18=>?_) (fun c18=>?_)
 .exact .mk trivial
 exact .mk trivial
theorem Tn66 {b:Bool} {e:Zz} {a:List Zv} {x4:Z0} {x5:Int} (c:a.length+1<=1000000) (d:x4.sm):Ok (Fn66 b e a x4 x5) (fun v=>a.length<=v.length/\v.length<=a.length+1):=by
 exact(S101 (by omega)).mono fun v h=>by cases b<;>simp at h<;>omega
theorem Tn39 {B:List Zv} {H:Z0} {x3:Int} (d2:B.length+15<=1000000) (a:H.sm):Ok (Fn39 B H x3) (fun v=>B.length<=v.length/\v.length<=B.length+15):=by
 unfold Fn39
 have b4:=a.Parts
 refine Ob (P:=fun r=>B.length<=r.length/\r.length<=B.length+4) (aP (l:=H.Parts) (fun q=>q.1) (fun i q=>B.length<=q.2.length/\q.2.length<=B.length+i*1) (Nat.lt_of_le_of_lt a.Parts (by decide)) rfl (by dsimp only;omega) (fun d8 d0 q30 b8 D c s g o x=>?_) (fun q30 c g=>?_)) fun n g3=>?_
 .obtain ⟨O,R⟩:=q30
  dsimp only at c s o x g
  simp only[s,o,nt]
  have N:=a.PartsE _ D
  refine obT (T67 N.Name) fun S=>?_
  refine Ob (P:=fun r=>¬r=true->¬(!S)=true) ?_ fun T L=>?_
  .refine Oi (fun _=>.mk (fun h=>absurd rfl h)) (fun c35=>?_)
   refine obT (T68) fun e7=>?_
   exact .mk (fun _=>c35)
  refine Ob (P:=fun r=>¬r=true->¬T=true) ?_ fun e9 d3=>?_
  .refine Oi (fun _=>.mk (fun h=>absurd rfl h)) (fun c38=>?_)
   have e2:=L c38
   refine obT (T69) fun e8=>?_
   exact .mk (fun _=>c38)
  refine Ob (Tn66 (by first|omega|(simp only[List.length_nil]at *;omega)) a) fun f0 d4=>?_
  exact .mk ⟨x,by dsimp only;omega⟩
 .obtain ⟨O,R⟩:=q30
  dsimp only at c g
  simp only[c,nf]
  exact .mk (by dsimp only;omega)
 have b5:=a.Measures
 refine Ob (P:=fun r=>n.length<=r.length/\r.length<=n.length+10) (aP (l:=H.Measures) (fun q=>q.1) (fun i q=>n.length<=q.2.length/\q.2.length<=n.length+i*1) (Nat.lt_of_le_of_lt a.Measures (by decide)) rfl (by dsimp only;omega) (fun d9 J q53 b9 E d t j b y=>?_) (fun q53 d j=>?_)) fun f6 g4=>?_
 .obtain ⟨U,V⟩:=q53
  dsimp only at d t b y j
  simp only[t,b,nt]
  have m:=a.MeasuresE _ E
  refine obT (T67 m.Rehearsal) fun f1=>?_
  have b6:=m.Cells
  refine lpT (l:=J.Cells) (fun q=>q.2) (Nat.lt_of_le_of_lt m.Cells (by decide)) rfl (fun e0 K q67 F e u k z=>?_) (fun q67 e=>?_) fun f3=>?_
  .obtain ⟨W,X⟩:=q67
   dsimp only at e u k z
   simp only[u,b,k,nt]
   have C:=m.CellsE _ F
   have b7:=C.Voices
   refine lpT (l:=K.Voices) (fun q=>q.2) (Nat.lt_of_le_of_lt C.Voices (by decide)) rfl (fun e1 d1 q80 G f w p A=>?_) (fun q80 f=>?_) fun f2=>?_
   .obtain ⟨Y,Z⟩:=q80
    dsimp only at f w p A
    simp only[w,b,k,p,nt]
    have e4:=C.VoicesE _ G
    exact .mk A
   .obtain ⟨Y,Z⟩:=q80
    dsimp only at f
    simp only[f,nf]
    exact .mk trivial
   exact .mk z
  .obtain ⟨W,X⟩:=q67
   dsimp only at e
   simp only[e,nf]
   exact .mk trivial
  refine Ob (Tn66 (by first|omega|(simp only[List.length_nil]at *;omega)) a) fun f4 d5=>?_
  exact .mk ⟨y,by dsimp only;omega⟩
 .obtain ⟨U,V⟩:=q53
  dsimp only at d j
  simp only[d,nf]
  exact .mk (by dsimp only;omega)
 refine obT (T67 a.Title) fun a0=>?_
 refine Ob (P:=fun r=>¬r=true->¬(!a0)=true) ?_ fun b0 M=>?_
 .refine Oi (fun _=>.mk (fun h=>absurd rfl h)) (fun c86=>?_)
  refine obT (T68) fun f7=>?_
  exact .mk (fun _=>c86)
 refine Ob (P:=fun r=>¬r=true->¬b0=true) ?_ fun f9 d6=>?_
 .refine Oi (fun _=>.mk (fun h=>absurd rfl h)) (fun c89=>?_)
  have e3:=M c89
  refine obT (T68) fun f8=>?_
  exact .mk (fun _=>c89)
 refine Ob (Tn66 (by first|omega|(simp only[List.length_nil]at *;omega)) a) fun g1 d7=>?_
 exact .mk (by omega)
theorem Tn121 {a:Z0} (b:a.sm):Ok (Fn121 a) (fun _=>True):=by
 unfold Fn121
 exact .mk trivial
theorem Ty70_5 {f h:Int} {i x4:Int} {x5 j k:Int} {b:Zj} {a:List Zz} (c:b.sm) (e:a.length+1<=1000000):Ok (Fy70_5 f h i x4 x5 j k b a) (fun v=>v.length<=a.length+1):=by
 unfold Fy70_5
 refine Ob (cJ (Q:=fun v=>v.length=a.length+1) (by omega) (by simp)) fun g d=>?_
 exact .mk (by omega)
theorem Ty70_5_2 {d f:Int} {g x4:Int} {x5 h i:Int} {j:Zf} {a:List Zz} (c:a.length+1<=1000000):Ok (Fy70_5_2 d f g x4 x5 h i j a) (fun v=>v.length<=a.length+1):=by
 unfold Fy70_5_2
 refine Ob (cJ (Q:=fun v=>v.length=a.length+1) (by omega) (by simp)) fun e b=>?_
 exact .mk (by omega)
theorem Ty70_5_3 {f h:Int} {i x4:Int} {x5 j k:Int} {b:Zm} {a:List Zz} (c:b.sm) (e:a.length+1<=1000000):Ok (Fy70_5_3 f h i x4 x5 j k b a) (fun v=>v.length<=a.length+1):=by
 unfold Fy70_5_3
 refine Ob (cJ (Q:=fun v=>v.length=a.length+1) (by omega) (by simp)) fun g d=>?_
 exact .mk (by omega)
theorem Ty70_5_4 {f h:Int} {i x4:Int} {x5 j k:Int} {b:Ze} {a:List Zz} (c:b.sm) (e:a.length+1<=1000000):Ok (Fy70_5_4 f h i x4 x5 j k b a) (fun v=>v.length<=a.length+1):=by
 unfold Fy70_5_4
 refine Ob (cJ (Q:=fun v=>v.length=a.length+1) (by omega) (by simp)) fun g d=>?_
 exact .mk (by omega)
theorem Ty70_5_5 {d f:Int} {g x4:Int} {x5 h i:Int} {j:Zn} {a:List Zz} (c:a.length+1<=1000000):Ok (Fy70_5_5 d f g x4 x5 h i j a) (fun v=>v.length<=a.length+1):=by
 unfold Fy70_5_5
 refine Ob (cJ (Q:=fun v=>v.length=a.length+1) (by omega) (by simp)) fun e b=>?_
 exact .mk (by omega)
theorem Tn166 {x1:Z0} {x2:List Zz} (k:x1.sm) (j7:x2.length+3044<=1000000):Ok (Fn166 x1 x2) (fun v=>v.length<=x2.length+3044):=by
 unfold Fn166
 have e7:=k.Parts
 refine Ob (P:=fun r=>r.length<=x2.length+24) (aP (l:=x1.Parts) (fun q=>q.2.1) (fun i q=>q.2.2.length<=x2.length+i*6) (Nat.lt_of_le_of_lt k.Parts (by decide)) rfl (by dsimp only;omega) (fun j8 b7 q109 f4 a0 c C m w K=>?_) (fun q109 c m=>?_)) fun e1 k2=>?_
 .obtain ⟨g4,g5,g6⟩:=q109
  dsimp only at c C w K m
  simp only[C,w,nt]
  have T:=k.PartsE _ a0
  refine Ob (Ty70_5 T (by first|omega|(simp only[List.length_nil]at *;omega))) fun e0 h4=>?_
  have e8:=T.Staves
  refine Ob (P:=fun r=>r.2.length<=e0.length+5) (aP (l:=b7.Staves) (fun q=>q.2.1) (fun i q=>q.2.2.length<=e0.length+i*1) (Nat.lt_of_le_of_lt T.Staves (by decide)) rfl (by dsimp only;omega) (fun h9 h0 q125 f6 e3 d D n z L=>?_) (fun q125 d n=>?_)) fun⟨k0,k1⟩ e2=>?_
  .obtain ⟨g7,g8,g9⟩:=q125
   dsimp only at d D z L n
   simp only[D,w,z,nt]
   refine Ob (Ty70_5_2 (by first|omega|(simp only[List.length_nil]at *;omega))) fun j9 h5=>?_
   exact .mk ⟨L,by dsimp only;omega⟩
  .obtain ⟨g7,g8,g9⟩:=q125
   dsimp only at d n
   simp only[d,nf]
   exact .mk (by dsimp only;omega)
  try dsimp only at e2
  exact .mk ⟨K,by dsimp only;omega⟩
 .obtain ⟨g4,g5,g6⟩:=q109
  dsimp only at c m
  simp only[c,nf]
  exact .mk (by dsimp only;omega)
 have e9:=k.Measures
 refine Ob (P:=fun r=>r.length<=e1.length+3010) (aP (l:=x1.Measures) (fun q=>q.1) (fun i q=>q.2.length<=e1.length+i*301) (Nat.lt_of_le_of_lt k.Measures (by decide)) rfl (by dsimp only;omega) (fun i0 b8 q140 f7 b0 e E o a M=>?_) (fun q140 e o=>?_)) fun Z j2=>?_
 .obtain ⟨d2,d3⟩:=q140
  dsimp only at e E a M o
  simp only[E,a,nt]
  have y:=k.MeasuresE _ b0
  refine Ob (Ty70_5_3 y (by first|omega|(simp only[List.length_nil]at *;omega))) fun Y h6=>?_
  have f0:=y.Cells
  refine Ob (P:=fun r=>r.length<=Y.length+300) (aP (l:=b8.Cells) (fun q=>q.1) (fun i q=>q.2.length<=Y.length+i*60) (Nat.lt_of_le_of_lt y.Cells (by decide)) rfl (by dsimp only;omega) (fun i1 b9 q156 f8 b4 f F p b N=>?_) (fun q156 f p=>?_)) fun i9 j3=>?_
  .obtain ⟨d4,W⟩:=q156
   dsimp only at f F b N p
   simp only[F,a,b,nt]
   have U:=y.CellsE _ b4
   have f1:=U.Voices
   refine Ob (P:=fun r=>r.length<=W.length+60) (aP (l:=b9.Voices) (fun q=>q.1) (fun i q=>q.2.length<=W.length+i*20) (Nat.lt_of_le_of_lt U.Voices (by decide)) rfl (by dsimp only;omega) (fun i2 d0 q171 f9 b5 g G s x O=>?_) (fun q171 g s=>?_)) fun i7 j4=>?_
   .obtain ⟨d5,X⟩:=q171
    dsimp only at g G x O s
    simp only[G,a,b,x,nt]
    have V:=U.VoicesE _ b5
    have f2:=V.Events
    refine Ob (P:=fun r=>r.length<=X.length+20) (aP (l:=d0.Events) (fun q=>q.1) (fun i q=>q.2.length<=X.length+i*1) (Nat.lt_of_le_of_lt V.Events (by decide)) rfl (by dsimp only;omega) (fun i3 h2 q187 g1 b6 h H t A R=>?_) (fun q187 h t=>?_)) fun i6 j5=>?_
    .obtain ⟨d6,d7⟩:=q187
     dsimp only at h H A R t
     simp only[H,a,b,x,A,nt]
     have d1:=V.EventsE _ b6
     refine Ob (Ty70_5_4 d1 (by first|omega|(simp only[List.length_nil]at *;omega))) fun i5 h7=>?_
     exact .mk ⟨R,by dsimp only;omega⟩
    .obtain ⟨d6,d7⟩:=q187
     dsimp only at h t
     simp only[h,nf]
     exact .mk (by dsimp only;omega)
    exact .mk ⟨O,by dsimp only;omega⟩
   .obtain ⟨d5,X⟩:=q171
    dsimp only at g s
    simp only[g,nf]
    exact .mk (by dsimp only;omega)
   exact .mk ⟨N,by dsimp only;omega⟩
  .obtain ⟨d4,W⟩:=q156
   dsimp only at f p
   simp only[f,nf]
   exact .mk (by dsimp only;omega)
  exact .mk ⟨M,by dsimp only;omega⟩
 .obtain ⟨d2,d3⟩:=q140
  dsimp only at e o
  simp only[e,nf]
  exact .mk (by dsimp only;omega)
 have f3:=k.Spanners
 refine Ob (P:=fun r=>r.length<=Z.length+10) (aP (l:=x1.Spanners) (fun q=>q.1) (fun i q=>q.2.length<=Z.length+i*1) (Nat.lt_of_le_of_lt k.Spanners (by decide)) rfl (by dsimp only;omega) (fun i4 h3 q205 g3 e4 j J u B S=>?_) (fun q205 j u=>?_)) fun j1 j6=>?_
 .obtain ⟨d8,d9⟩:=q205
  dsimp only at j J B S u
  simp only[J,B,nt]
  refine Ob (Ty70_5_5 (by first|omega|(simp only[List.length_nil]at *;omega))) fun j0 h8=>?_
  exact .mk ⟨S,by dsimp only;omega⟩
 .obtain ⟨d8,d9⟩:=q205
  dsimp only at j u
  simp only[j,nf]
  exact .mk (by dsimp only;omega)
 exact .mk (by omega)
theorem T70 {c:Z0} (a:c.sm):Ok (F70 c) (fun v=>v.length<=4000):=by
 unfold F70
 refine obT (Tn121 a) fun _=>?_
 refine Ob (Tn166 a (by first|omega|(simp only[List.length_nil]at *;omega))) fun d b=>?_
 exact .mk (by simp only[List.length_nil]at *;omega)
theorem T71 {b:Zz}:Ok (F71 b) (fun _=>True):=by
 unfold F71
 refine obT (T68) fun c=>?_
 refine Ob (P:=fun r=>r=true->c=true) ?_ fun x4 a=>?_
 .refine Oi (fun c212=>?_) (fun _=>.mk (fun h=>by cases h))
  refine obT (T68) fun d=>?_
  exact .mk (fun _=>c212)
 exact .mk trivial
theorem T72 {h:Z0} {k:Int} (e:h.sm):Ok (F72 h k) (fun _=>True):=by
 unfold F72
 have g:=e.Last
 refine lpT (l:=h.Last) (fun q=>q) (Nat.lt_of_le_of_lt e.Last (by decide)) rfl (fun j i x4 f a c b d=>?_) (fun x4 a=>?_) fun m=>?_
 .simp only[c,b,nt]
  refine Oi (fun c225=>?_) (fun c225=>?_)
  .exact .mk trivial
  exact .mk d
 .simp only[a,nf]
  exact .mk trivial
 rcases m with n|_
 .exact .mk trivial
 .exact .mk trivial
theorem Tn40 {o:List Zv} {z:Z0} {x3:Int} (X:o.length+4001<=1000000) (c:z.sm):Ok (Fn40 o z x3) (fun v=>o.length<=v.length/\v.length<=o.length+4001):=by
 unfold Fn40
 refine Ob (T70 c) fun x4 n=>?_
 have D:=n
 refine Ob (P:=fun r=>o.length<=r.2.length/\r.2.length<=o.length+4000) (aP (l:=x4) (fun q=>q.1) (fun i q=>o.length<=q.2.2.length/\q.2.2.length<=o.length+i*1) (Nat.lt_of_le_of_lt n (by decide)) rfl (by dsimp only;omega) (fun U p q238 G A a g d e k=>?_) (fun q238 a d=>?_)) fun⟨b0,b4⟩ y=>?_
 .obtain ⟨H,t,J⟩:=q238
  dsimp only at a g e k d
  simp only[g,e,nt]
  refine obT (T71) fun K=>?_
  refine Ob (P:=fun r=>¬r=true->¬((!K)||(mget t p false))=true) ?_ fun Z N=>?_
  .refine Oi (fun _=>.mk (fun h=>absurd rfl h)) (fun c242=>?_)
   refine obT (T72 c) fun Y=>?_
   exact .mk (fun _=>c242)
  refine Ob (Tn66 (by first|omega|(simp only[List.length_nil]at *;omega)) c) fun a0 O=>?_
  exact .mk ⟨k,by dsimp only;omega⟩
 .obtain ⟨H,t,J⟩:=q238
  dsimp only at a d
  simp only[a,nf]
  exact .mk (by dsimp only;omega)
 try dsimp only at y
 have E:=c.Last
 refine lpT (l:=z.Last) (fun q=>q.2) (Nat.lt_of_le_of_lt c.Last (by decide)) rfl (fun V M q255 B b j f m=>?_) (fun q255 b=>?_) fun b9=>?_
 .obtain ⟨u,w⟩:=q255
  dsimp only at b j f m
  simp only[j,f,nt]
  refine Ob (P:=fun r=>¬r=true->¬u=true) ?_ fun L s=>?_
  .refine Oi (fun _=>.mk (fun h=>absurd rfl h)) (fun c258=>?_)
   refine obT (T71) fun b5=>?_
   exact .mk (fun _=>c258)
  refine Ob (P:=fun r=>¬r=true->¬L=true) ?_ fun b8 R=>?_
  .refine Oi (fun _=>.mk (fun h=>absurd rfl h)) (fun c261=>?_)
   have W:=s c261
   refine Ob (P:=fun r=>r=true->(decide (w>0))=true) ?_ fun b7 S=>?_
   .refine Oi (fun c264=>?_) (fun _=>.mk (fun h=>by cases h))
    have F:=c.Last
    refine Ob (P:=fun x=>x∈z.Last) (bC (by(simp only[nm]at *;rw[aY (by omega) (by omega)];omega)) (by(simp only[nm]at *;rw[aY (by omega) (by omega)];omega)) (fun _ h _=>h)) fun b6 C=>?_
    exact .mk (fun _=>c264)
   exact .mk (fun _=>c261)
  exact .mk m
 .obtain ⟨u,w⟩:=q255
  dsimp only at b
  simp only[b,nf]
  exact .mk trivial
 refine Ob (Tn66 (by first|omega|(simp only[List.length_nil]at *;omega)) c) fun d0 T=>?_
 exact .mk (by omega)
theorem T73 {b:Z0} (a:b.sm):Ok (F73 b) (fun v=>v<=9223372036854775807):=by
 unfold F73
 have hp:=a.Parts
 refine Ob (P:=fun v=>v<=9223372036854775807) (aP (l:=b.Parts) (fun q=>q.2) (fun i q=>q.1<=9223372036854775807) (by omega) rfl (by decide) (fun i e q f d hi hl _ hg hw=>?_) (fun q hi c=>?_)) fun v hv=>.mk hv
 .obtain ⟨n,x⟩:=q
  dsimp only at hi hl hg hw
  simp only[hl,hg,nt]
  exact .mk ⟨hw,(dY1 _).2⟩
 .obtain ⟨n,x⟩:=q
  dsimp only at hi c
  simp only[hi,nf]
  exact .mk c
theorem T75 {O:Int} {C:Zm} {W:Int} (m:C.sm):Ok (F75 O C W) (fun _=>True):=by
 unfold F75
 have v:=m.Cells
 refine lpT (l:=C.Cells) (fun q=>q.2) (Nat.lt_of_le_of_lt m.Cells (by decide)) rfl (fun H e q279 n b g d j=>?_) (fun q279 b=>?_) fun V=>?_
 .obtain ⟨u,A⟩:=q279
  dsimp only at b g d j
  simp only[g,d,nt]
  have a:=m.CellsE _ n
  refine Ob (P:=fun r=>¬r=true->¬(u||((e.Voices.length:Int)==0))=true) ?_ fun B t=>?_
  .refine Oi (fun _=>.mk (fun h=>absurd rfl h)) (fun c283=>?_)
   have w:=a.Voices
   refine Ob (P:=fun x=>x∈e.Voices) (bC (by omega) (by(simp only[nm]at *;omega)) (fun _ h _=>h)) fun R o=>?_
   have L:=a.VoicesE _ o
   exact .mk (fun _=>c283)
  refine Ob (P:=fun r=>¬r=true->¬B=true) ?_ fun T G=>?_
  .refine Oi (fun _=>.mk (fun h=>absurd rfl h)) (fun c289=>?_)
   have K:=t c289
   have y:=a.Voices
   refine Ob (P:=fun x=>x∈e.Voices) (bC (by(simp only[nm]at *;rw[aY (by omega) (by omega)];omega)) (by(simp only[nm]at *;rw[aY (by omega) (by omega)];omega)) (fun _ h _=>h)) fun S p=>?_
   have M:=a.VoicesE _ p
   exact .mk (fun _=>c289)
  have z:=a.Voices
  refine lpT (l:=e.Voices) (fun q=>q.2) (Nat.lt_of_le_of_lt a.Voices (by decide)) rfl (fun J F q305 s c i f k=>?_) (fun q305 c=>?_) fun U=>?_
  .obtain ⟨D,E⟩:=q305
   dsimp only at c i f k
   simp only[i,d,f,nt]
   have N:=a.VoicesE _ s
   exact .mk k
  .obtain ⟨D,E⟩:=q305
   dsimp only at c
   simp only[c,nf]
   exact .mk trivial
  exact .mk j
 .obtain ⟨u,A⟩:=q279
  dsimp only at b
  simp only[b,nf]
  exact .mk trivial
 exact .mk trivial
theorem Tn74 {w:Int} {g:List Zv} {n:Z0} {x4:Int} (u:g.length+10<=1000000) (f:n.sm):Ok (Fn74 w g n x4) (fun v=>g.length<=v.length/\v.length<=g.length+10):=by
 unfold Fn74
 have k:=f.Measures
 refine Ob (P:=fun r=>g.length<=r.length/\r.length<=g.length+10) (aP (l:=n.Measures) (fun q=>q.1) (fun i q=>g.length<=q.2.length/\q.2.length<=g.length+i*1) (Nat.lt_of_le_of_lt f.Measures (by decide)) rfl (by dsimp only;omega) (fun s o q319 m h a d b c e=>?_) (fun q319 a b=>?_)) fun z t=>?_
 .obtain ⟨A,B⟩:=q319
  dsimp only at a d c e b
  simp only[d,c,nt]
  have j:=f.MeasuresE _ h
  refine obT (T75 j) fun x=>?_
  refine Ob (Tn66 (by first|omega|(simp only[List.length_nil]at *;omega)) f) fun y p=>?_
  exact .mk ⟨e,by dsimp only;omega⟩
 .obtain ⟨A,B⟩:=q319
  dsimp only at a b
  simp only[a,nf]
  exact .mk (by dsimp only;omega)
 exact .mk (by omega)
theorem Tn41 {b:List Zv} {e:Z0} {g:Int} (f:b.length+10<=1000000) (a:e.sm):Ok (Fn41 b e g) (fun v=>b.length<=v.length/\v.length<=b.length+10):=by
 unfold Fn41
 refine Ob (T73 a) fun x4 c=>?_
 refine Ob (Tn74 (by first|omega|(simp only[List.length_nil]at *;omega)) a) fun x5 d=>?_
 exact .mk (by omega)
theorem T167:Ok (F167) (fun _=>True):=by
 unfold F167
 exact .mk trivial
theorem T122 {b:Int}:Ok (F122 b) (fun _=>True):=by
 unfold F122
 refine Oi (fun c326=>?_) (fun c326=>?_)
 .exact .mk trivial
 refine obT (T167) fun c=>?_
 refine Ob (bC (Q:=fun _=>True) (by(simp only[nm]at *;rw[aY (by omega) (by omega)];omega)) (by(simp only[nm,nl]at *;rw[aY (by omega) (by omega)];omega)) (fun _ _ _=>trivial)) fun d a=>?_
 exact .mk trivial
theorem T76 {a:Int}:Ok (F76 a) (fun _=>True):=by
 unfold F76
 refine obT (T122) fun⟨b,c⟩=>?_
 exact .mk trivial
theorem T163 {c:Zx}:Ok (F163 c) (fun _=>True):=by
 unfold F163
 refine Oi (fun _=>.mk trivial) (fun _=>?_)
 refine Ob (P:=fun _=>True) (eU (fun q=>q.2.2) 6 (fun _=>True) (by decide) (by decide) trivial (fun q _ h1 h2=>?_)) fun r _=>?_
 .obtain ⟨a,n,i⟩:=q
  dsimp only at h1 h2 ⊢
  refine Oi (fun hc=>?_) (fun _=>.mk trivial)
  simp only[decide_eq_true_eq]at hc
  refine Ob (bC (Q:=fun _=>True) h1 hc (fun _ _ _=>trivial)) fun x _=>?_
  refine Oi (fun _=>.mk trivial) (fun _=>?_)
  refine Ob (P:=fun _=>True) (Oi (fun _=>.mk trivial) (fun _=>.mk trivial)) fun v _=>.mk ⟨hc,h2 hc,trivial⟩
 .rcases r with⟨a,b⟩|⟨a,b⟩<;>exact .mk trivial
theorem T112 {a:Zx}:Ok (F112 a) (fun v=>v=0->a.Unit≠0):=by
 unfold F112
 refine Oi (fun c330=>?_) (fun c330=>?_)
 .exact .mk (by omega)
 refine Oi (fun c331=>?_) (fun c331=>?_)
 .exact .mk (by omega)
 refine obT (T163) fun b=>?_
 refine Oi (fun c333=>?_) (fun c333=>?_)
 .exact .mk (by omega)
 exact .mk (by(simp only[nm]at *;omega))
theorem T164 {b:Zx} (c:b.Unit≠0):Ok (F164 b) (fun _=>True):=by
 unfold F164
 refine Ob (mS (by omega)) fun d a=>?_
 exact .mk trivial
theorem T113 {a:Zx} (b:a.Unit≠0):Ok (F113 a) (fun _=>True):=by
 unfold F113
 refine obT (T164 (by omega)) fun c=>?_
 exact .mk trivial
theorem T58 {b:Zx}:Ok (F58 b) (fun _=>True):=by
 unfold F58
 refine Ob (T112) fun c a=>?_
 refine Oi (fun c337=>?_) (fun c337=>?_)
 .exact .mk trivial
 refine obT (T113 (by(simp only[nm]at *;omega))) fun d=>?_
 exact .mk trivial
theorem T33 {b:Zm} (c:b.sm):Ok (F33 b) (fun _=>True):=by
 unfold F33
 refine obT (T58) fun⟨d,e⟩=>?_
 refine Oi (fun c340=>?_) (fun c340=>?_)
 .exact .mk trivial
 refine Oi (fun c341=>?_) (fun c341=>?_)
 .exact .mk trivial
 refine obT ?_ fun x4=>?_
 .refine Oi (fun c343=>?_) (fun c343=>?_)
  .exact .mk trivial
  exact .mk trivial
 refine Ob (uB (by omega)) fun x5 a=>?_
 refine Oi (fun c345=>?_) (fun c345=>?_)
 .exact .mk trivial
 refine Oi (fun c346=>?_) (fun c346=>?_)
 .exact .mk trivial
 exact .mk trivial
theorem T77 {O:Int} {B:Zm} (k:B.sm):Ok (F77 O B) (fun _=>True):=by
 unfold F77
 refine obT (T33 k) fun⟨Y,x4⟩=>?_
 have y:=k.Cells
 refine lpT (l:=B.Cells) (fun q=>q.2) (Nat.lt_of_le_of_lt k.Cells (by decide)) rfl (fun K m q358 o a e c g=>?_) (fun q358 a=>?_) fun X=>?_
 .obtain ⟨C,D⟩:=q358
  dsimp only at a e c g
  simp only[e,c,nt]
  have j:=k.CellsE _ o
  have z:=j.Clefs
  refine lpT (l:=m.Clefs) (fun q=>q.2) (Nat.lt_of_le_of_lt j.Clefs (by decide)) rfl (fun L G q371 v b f d i=>?_) (fun q371 b=>?_) fun W=>?_
  .obtain ⟨t,u⟩:=q371
   dsimp only at b f d i
   simp only[f,c,d,nt]
   refine Ob (P:=fun r=>¬r=true->¬t=true) ?_ fun E n=>?_
   .refine Oi (fun _=>.mk (fun h=>absurd rfl h)) (fun c374=>?_)
    refine obT (T76) fun R=>?_
    exact .mk (fun _=>c374)
   refine Ob (P:=fun r=>¬r=true->¬E=true) ?_ fun F p=>?_
   .refine Oi (fun _=>.mk (fun h=>absurd rfl h)) (fun c377=>?_)
    have M:=n c377
    refine obT (T68) fun S=>?_
    exact .mk (fun _=>c377)
   refine Ob (P:=fun r=>¬r=true->¬F=true) ?_ fun V H=>?_
   .refine Oi (fun _=>.mk (fun h=>absurd rfl h)) (fun c381=>?_)
    have s:=p c381
    have N:=n s
    refine Ob (P:=fun r=>r=true->(decide (u>0))=true) ?_ fun U J=>?_
    .refine Oi (fun c385=>?_) (fun _=>.mk (fun h=>by cases h))
     have A:=j.Clefs
     refine Ob (P:=fun x=>x∈m.Clefs) (bC (by(simp only[nm]at *;rw[aY (by omega) (by omega)];omega)) (by(simp only[nm]at *;rw[aY (by omega) (by omega)];omega)) (fun _ h _=>h)) fun T w=>?_
     exact .mk (fun _=>c385)
    exact .mk (fun _=>c381)
   exact .mk i
  .obtain ⟨t,u⟩:=q371
   dsimp only at b
   simp only[b,nf]
   exact .mk trivial
  exact .mk g
 .obtain ⟨C,D⟩:=q358
  dsimp only at a
  simp only[a,nf]
  exact .mk trivial
 exact .mk trivial
theorem Tn74_2 {g:List Zv} {n:Z0} {z:Int} (u:g.length+10<=1000000) (f:n.sm):Ok (Fn74_2 g n z) (fun v=>g.length<=v.length/\v.length<=g.length+10):=by
 unfold Fn74_2
 have k:=f.Measures
 refine Ob (P:=fun r=>g.length<=r.length/\r.length<=g.length+10) (aP (l:=n.Measures) (fun q=>q.1) (fun i q=>g.length<=q.2.length/\q.2.length<=g.length+i*1) (Nat.lt_of_le_of_lt f.Measures (by decide)) rfl (by dsimp only;omega) (fun s o q400 m h a d b c e=>?_) (fun q400 a b=>?_)) fun y t=>?_
 .obtain ⟨A,B⟩:=q400
  dsimp only at a d c e b
  simp only[d,c,nt]
  have j:=f.MeasuresE _ h
  refine obT (T77 j) fun w=>?_
  refine Ob (Tn66 (by first|omega|(simp only[List.length_nil]at *;omega)) f) fun x p=>?_
  exact .mk ⟨e,by dsimp only;omega⟩
 .obtain ⟨A,B⟩:=q400
  dsimp only at a b
  simp only[a,nf]
  exact .mk (by dsimp only;omega)
 exact .mk (by omega)
theorem Tn42 {p:List Zv} {B:Z0} {U:Int} (M:p.length+30<=1000000) (f:B.sm):Ok (Fn42 p B U) (fun v=>p.length<=v.length/\v.length<=p.length+30):=by
 unfold Fn42
 have w:=f.Parts
 refine Ob (P:=fun r=>p.length<=r.length/\r.length<=p.length+20) (aP (l:=B.Parts) (fun q=>q.1) (fun i q=>p.length<=q.2.length/\q.2.length<=p.length+i*5) (Nat.lt_of_le_of_lt f.Parts (by decide)) rfl (by dsimp only;omega) (fun H t q416 y s a h c e k=>?_) (fun q416 a c=>?_)) fun S K=>?_
 .obtain ⟨A,n⟩:=q416
  dsimp only at a h e k c
  simp only[h,e,nt]
  have o:=f.PartsE _ s
  have x:=o.Staves
  refine Ob (P:=fun r=>n.length<=r.length/\r.length<=n.length+5) (aP (l:=t.Staves) (fun q=>q.1) (fun i q=>n.length<=q.2.length/\q.2.length<=n.length+i*1) (Nat.lt_of_le_of_lt o.Staves (by decide)) rfl (by dsimp only;omega) (fun J E q430 z u b j d g m=>?_) (fun q430 b d=>?_)) fun R L=>?_
  .obtain ⟨C,D⟩:=q430
   dsimp only at b j g m d
   simp only[j,e,g,nt]
   refine obT (T76) fun N=>?_
   refine Ob (Tn66 (by first|omega|(simp only[List.length_nil]at *;omega)) f) fun O F=>?_
   exact .mk ⟨m,by dsimp only;omega⟩
  .obtain ⟨C,D⟩:=q430
   dsimp only at b d
   simp only[b,nf]
   exact .mk (by dsimp only;omega)
  exact .mk ⟨k,by dsimp only;omega⟩
 .obtain ⟨A,n⟩:=q416
  dsimp only at a c
  simp only[a,nf]
  exact .mk (by dsimp only;omega)
 refine Ob (Tn74_2 (by first|omega|(simp only[List.length_nil]at *;omega)) f) fun T G=>?_
 exact .mk (by omega)
theorem T123 {a:Int}:Ok (F123 a) (fun _=>True):=by
 unfold F123
 refine Oi (fun c435=>?_) (fun c435=>?_)
 .exact .mk trivial
 exact .mk trivial
theorem T79 {b:Int} {a:Zl}:Ok (F79 b a) (fun _=>True):=by
 unfold F79
 refine Ob T123 fun c _=>?_
 refine Oi (fun _=>.mk trivial) (fun _=>?_)
 refine Oi (fun _=>.mk trivial) (fun _=>?_)
 have hw:=dY1 (b+(w64 ((w64 (7*a.Semitones))-(w64 (12*a.Steps)))))
 generalize w64 (b+(w64 ((w64 (7*a.Semitones))-(w64 (12*a.Steps)))))=x0 at hw ⊢
 refine Ob (P:=fun v=> -9223372036854775808<=v/\v<=7) (cP (fun x=> -9223372036854775808<=x/\x<=9223372036854775807) (fun x=>(x+9223372036854775808).toNat) (fun x d=>?_) B64 x0 hw (by simp only[B64];omega)) fun b h1=>?_
 .refine Oi (fun hc=>?_) (fun hc=>?_)<;>simp only[decide_eq_true_eq]at hc
  .rw [aY (by omega) (by omega)];exact .mk ⟨by omega,by omega⟩
  .exact .mk (by omega)
 refine Ob (P:=fun v=>True) (cP (fun x=> -9223372036854775808<=x/\x<=7) (fun x=>(7-x).toNat) (fun x d=>?_) B64 b h1 (by simp only[B64];omega)) fun a _=>.mk trivial
 refine Oi (fun hc=>?_) (fun hc=>?_)<;>simp only[decide_eq_true_eq]at hc
 .rw [aY (by omega) (by omega)];exact .mk ⟨by omega,by omega⟩
 .exact .mk trivial
theorem T78 {u:Int} {t:Zm} {m:Zk} (g:t.sm) (e:m.s'.sm):Ok (F78 u t m) (fun _=>True):=by
 unfold F78
 refine obT (T33 g) fun⟨x4,x5⟩=>?_
 refine Ob (P:=fun r=>¬r=true->¬(x5 !=0)=true) ?_ fun A o=>?_
 .refine Oi (fun _=>.mk (fun h=>absurd rfl h)) (fun c438=>?_)
  refine obT (T68) fun z=>?_
  exact .mk (fun _=>c438)
 have i:=e.Parts
 refine lpT (l:=m.s'.Parts) (fun q=>q.2) (Nat.lt_of_le_of_lt e.Parts (by decide)) rfl (fun p n q450 f a c b d=>?_) (fun q450 a=>?_) fun y=>?_
 .obtain ⟨j,k⟩:=q450
  dsimp only at a c b d
  simp only[c,b,nt]
  have s:=e.PartsE _ f
  refine obT ?_ fun x=>?_
  .refine Oi (fun c454=>?_) (fun c454=>?_)
   .refine obT (T79) fun⟨v,w⟩=>?_
    exact .mk trivial
   exact .mk trivial
  exact .mk d
 .obtain ⟨j,k⟩:=q450
  dsimp only at a
  simp only[a,nf]
  exact .mk trivial
 exact .mk trivial
theorem Tn74_3 {g:List Zv} {n:Z0} {z:Int} (u:g.length+10<=1000000) (c:n.sm):Ok (Fn74_3 g n z) (fun v=>g.length<=v.length/\v.length<=g.length+10):=by
 unfold Fn74_3
 have k:=c.Measures
 refine Ob (P:=fun r=>g.length<=r.length/\r.length<=g.length+10) (aP (l:=n.Measures) (fun q=>q.1) (fun i q=>g.length<=q.2.length/\q.2.length<=g.length+i*1) (Nat.lt_of_le_of_lt c.Measures (by decide)) rfl (by dsimp only;omega) (fun s o q467 m h a e b d f=>?_) (fun q467 a b=>?_)) fun y t=>?_
 .obtain ⟨A,B⟩:=q467
  dsimp only at a e d f b
  simp only[e,d,nt]
  have j:=c.MeasuresE _ h
  refine obT (T78 j c) fun w=>?_
  refine Ob (Tn66 (by first|omega|(simp only[List.length_nil]at *;omega)) c) fun x p=>?_
  exact .mk ⟨f,by dsimp only;omega⟩
 .obtain ⟨A,B⟩:=q467
  dsimp only at a b
  simp only[a,nf]
  exact .mk (by dsimp only;omega)
 exact .mk (by omega)
theorem Tn43 {a:List Zv} {d:Z0} {f:Int} (e:a.length+10<=1000000) (b:d.sm):Ok (Fn43 a d f) (fun v=>a.length<=v.length/\v.length<=a.length+10):=by
 unfold Fn43
 refine Ob (Tn74_3 (by first|omega|(simp only[List.length_nil]at *;omega)) b) fun x4 c=>?_
 exact .mk (by omega)
theorem T133 {a b:Int}:Ok (F133 a b) (fun _=>True):=by
 unfold F133
 refine Oi (fun c473=>?_) (fun c473=>?_)
 .exact .mk trivial
 exact .mk trivial
theorem T132 {h:List Int} (e:h.length<=20):Ok (F132 h) (fun _=>True):=by
 unfold F132
 have g:=e
 refine lpT (l:=h) (fun q=>q) (Nat.lt_of_le_of_lt e (by decide)) rfl (fun j i k f a c b d=>?_) (fun k a=>?_) fun m=>?_
 .simp only[c,b,nt]
  refine Oi (fun c485=>?_) (fun c485=>?_)
  .exact .mk trivial
  exact .mk d
 .simp only[a,nf]
  exact .mk trivial
 rcases m with x5|_
 .exact .mk trivial
 .exact .mk trivial
theorem T134 {a:Int}:Ok (F134 a) (fun _=>True):=by
 unfold F134
 exact .mk trivial
theorem T175 {a:Int}:Ok (F175 a) (fun _=>True):=by
 unfold F175
 refine Oi (fun c486=>?_) (fun c486=>?_)
 .exact .mk trivial
 exact .mk trivial
theorem T136 {b:Ze} (d:b.sm):Ok (F136 b) (fun v=>v.sm):=by
 unfold F136
 refine Ob (P:=fun r=>¬r=true->¬(b.Kind==1)=true) ?_ fun f a=>?_
 .refine Oi (fun _=>.mk (fun h=>absurd rfl h)) (fun c488=>?_)
  refine obT (T134) fun e=>?_
  exact .mk (fun _=>c488)
 refine Oi (fun c490=>?_) (fun c490=>?_)
 .exact .mk (by first|assumption|exact⟨Nat.zero_le _,Nat.zero_le _,Nat.zero_le _,fun _ h=>nomatch h⟩)
 have c:=a c490
 refine obT ?_ fun x4=>?_
 .refine Oi (fun c493=>?_) (fun c493=>?_)
  .exact .mk trivial
  exact .mk trivial
 refine obT ?_ fun g=>?_
 .refine Oi (fun c495=>?_) (fun c495=>?_)
  .refine obT (T175) fun x5=>?_
   exact .mk trivial
  exact .mk trivial
 exact .mk (by first|assumption|exact⟨Nat.zero_le _,Nat.zero_le _,Nat.zero_le _,fun _ h=>nomatch h⟩)
theorem T172 {m n:List Zb} (e:m.length<=12) (f:n.length<=12):Ok (F172 m n) (fun _=>True):=by
 unfold F172
 refine Oi (fun c497=>?_) (fun c497=>?_)
 .exact .mk trivial
 have j:=e
 refine lpT (l:=m) (fun q=>q) (Nat.lt_of_le_of_lt e (by decide)) rfl (fun p o x5 g a c b d=>?_) (fun x5 a=>?_) fun r=>?_
 .simp only[c,b,nt]
  have k:=f
  refine Ob (P:=fun x=>x∈n) (bC (by omega) (by(simp only[nm]at *;omega)) (fun _ h _=>h)) fun s i=>?_
  refine Oi (fun c512=>?_) (fun c512=>?_)
  .exact .mk trivial
  exact .mk d
 .simp only[a,nf]
  exact .mk trivial
 rcases r with _|_
 .exact .mk trivial
 .exact .mk trivial
theorem T173 {m n:List Zd} (e:m.length<=12) (f:n.length<=12):Ok (F173 m n) (fun _=>True):=by
 unfold F173
 refine Oi (fun c513=>?_) (fun c513=>?_)
 .exact .mk trivial
 have j:=e
 refine lpT (l:=m) (fun q=>q) (Nat.lt_of_le_of_lt e (by decide)) rfl (fun p o x5 g a c b d=>?_) (fun x5 a=>?_) fun r=>?_
 .simp only[c,b,nt]
  have k:=f
  refine Ob (P:=fun x=>x∈n) (bC (by omega) (by(simp only[nm]at *;omega)) (fun _ h _=>h)) fun s i=>?_
  refine Oi (fun c528=>?_) (fun c528=>?_)
  .exact .mk trivial
  exact .mk d
 .simp only[a,nf]
  exact .mk trivial
 rcases r with _|_
 .exact .mk trivial
 .exact .mk trivial
theorem T174 {k m:List Zy} (g:k.length<=12) (i:∀y∈k,y.sm) (n:m.length<=12) (j:∀y∈m,y.sm):Ok (F174 k m) (fun _=>True):=by
 unfold F174
 refine Oi (fun c529=>?_) (fun c529=>?_)
 .exact .mk trivial
 have o:=g
 refine lpT (l:=k) (fun q=>q) (Nat.lt_of_le_of_lt g (by decide)) rfl (fun s r x5 d a c b f=>?_) (fun x5 a=>?_) fun v=>?_
 .simp only[c,b,nt]
  have t:=i _ d
  have p:=n
  refine Ob (P:=fun x=>x∈m) (bC (by omega) (by(simp only[nm]at *;omega)) (fun _ h _=>h)) fun w e=>?_
  have u:=j _ e
  refine Oi (fun c546=>?_) (fun c546=>?_)
  .exact .mk trivial
  exact .mk f
 .simp only[a,nf]
  exact .mk trivial
 rcases v with _|_
 .exact .mk trivial
 .exact .mk trivial
theorem T135 {a b:Ze} (c:a.sm) (d:b.sm):Ok (F135 a b) (fun _=>True):=by
 unfold F135
 refine Ob (P:=fun r=>r=true->(((((((a.Kind==b.Kind)&&(((a.Value.Log==b.Value.Log)&&((a.Value.Dots==b.Value.Dots)&&true))!=false))&&(a.Articulations==b.Articulations))&&(a.Ornament==b.Ornament))&&(a.Dynamic==b.Dynamic))&&(a.Stem==b.Stem))&&(a.Beam==b.Beam))=true) ?_ fun x4 e=>?_
 .refine Oi (fun c548=>?_) (fun _=>.mk (fun h=>by cases h))
  refine obT (T172 c.Heads d.Heads) fun m=>?_
  exact .mk (fun _=>c548)
 refine Ob (P:=fun r=>r=true->x4=true) ?_ fun l f=>?_
 .refine Oi (fun c551=>?_) (fun _=>.mk (fun h=>by cases h))
  have j:=e c551
  refine obT (T173 c.Graces d.Graces) fun x5=>?_
  exact .mk (fun _=>c551)
 refine Ob (P:=fun r=>r=true->l=true) ?_ fun o i=>?_
 .refine Oi (fun c555=>?_) (fun _=>.mk (fun h=>by cases h))
  have g:=f c555
  have k:=e g
  refine obT (T174 c.Lyrics c.LyricsE d.Lyrics d.LyricsE) fun n=>?_
  exact .mk (fun _=>c555)
 exact .mk trivial
theorem T137 {a:Za}:Ok (F137 a) (fun v=>v=0-> -1<=a.Log/\a.Log<=8/\0<=a.Dots/\a.Dots<=3):=by
 unfold F137
 refine Oi (fun c559=>?_) (fun c559=>?_)
 .exact .mk (by omega)
 exact .mk (by(simp only[nm]at *;omega))
theorem T180:Ok (F180) (fun _=>True):=by
 unfold F180
 exact .mk trivial
theorem T142 {a:Zh} (c:0<=a.Step/\a.Step<=6):Ok (F142 a) (fun _=>True):=by
 unfold F142
 refine obT (T180) fun d=>?_
 refine Ob (bC (Q:=fun _=>True) (by omega) (by(simp only[nm,nl]at *;omega)) (fun _ _ _=>trivial)) fun e b=>?_
 exact .mk trivial
theorem T141 {a:Zh}:Ok (F141 a) (fun v=>v=0->0<=a.Step/\a.Step<=6):=by
 unfold F141
 refine Oi (fun c562=>?_) (fun c562=>?_)
 .exact .mk (by omega)
 refine obT (T142 (by(simp only[nm]at *;omega))) fun b=>?_
 refine Oi (fun c564=>?_) (fun c564=>?_)
 .exact .mk (by omega)
 exact .mk (by(simp only[nm]at *;omega))
theorem T89 {b:Zh}:Ok (F89 b) (fun _=>True):=by
 unfold F89
 refine Ob (T141) fun c a=>?_
 refine Oi (fun c566=>?_) (fun c566=>?_)
 .exact .mk trivial
 refine obT (T142 (by(simp only[nm]at *;omega))) fun d=>?_
 exact .mk trivial
theorem T177 {a:Zh}:Ok (F177 a) (fun _=>True):=by
 unfold F177
 refine obT (T89) fun⟨b,c⟩=>?_
 refine Oi (fun c569=>?_) (fun c569=>?_)
 .exact .mk trivial
 exact .mk trivial
theorem T176 {a:Zb}:Ok (F176 a) (fun _=>True):=by
 unfold F176
 refine obT (T177) fun⟨b,c⟩=>?_
 refine obT (T133) fun x4=>?_
 refine obT (T132 (by simp)) fun x5=>?_
 exact .mk trivial
theorem T138 {h:List Zb} (e:h.length<=12):Ok (F138 h) (fun _=>True):=by
 unfold F138
 refine Oi (fun c573=>?_) (fun c573=>?_)
 .exact .mk trivial
 refine Oi (fun c574=>?_) (fun c574=>?_)
 .exact .mk trivial
 have g:=e
 refine lpT (l:=h) (fun q=>q.2) (Nat.lt_of_le_of_lt e (by decide)) rfl (fun k j q585 f a c b d=>?_) (fun q585 a=>?_) fun i=>?_
 .obtain ⟨p,r⟩:=q585
  dsimp only at a c b d
  simp only[c,b,nt]
  refine obT (T176) fun s=>?_
  refine Oi (fun c588=>?_) (fun c588=>?_)
  .exact .mk trivial
  refine obT (T177) fun⟨m,n⟩=>?_
  refine Oi (fun c590=>?_) (fun c590=>?_)
  .exact .mk trivial
  exact .mk d
 .obtain ⟨p,r⟩:=q585
  dsimp only at a
  simp only[a,nf]
  exact .mk trivial
 rcases i with o|_
 .exact .mk trivial
 .exact .mk trivial
theorem T139 {h:List Zd} (e:h.length<=12):Ok (F139 h) (fun _=>True):=by
 unfold F139
 refine Oi (fun c591=>?_) (fun c591=>?_)
 .exact .mk trivial
 have g:=e
 refine lpT (l:=h) (fun q=>q) (Nat.lt_of_le_of_lt e (by decide)) rfl (fun k j x5 f a c b d=>?_) (fun x5 a=>?_) fun i=>?_
 .simp only[c,b,nt]
  refine obT (T177) fun⟨m,n⟩=>?_
  refine Oi (fun c604=>?_) (fun c604=>?_)
  .exact .mk trivial
  refine Oi (fun c605=>?_) (fun c605=>?_)
  .exact .mk trivial
  exact .mk d
 .simp only[a,nf]
  exact .mk trivial
 rcases i with o|_
 .exact .mk trivial
 .exact .mk trivial
theorem T178 {c:Zy} (a:c.sm):Ok (F178 c) (fun _=>True):=by
 unfold F178
 refine Oi (fun _=>.mk trivial) (fun _=>?_)
 refine Oi (fun _=>.mk trivial) (fun _=>?_)
 have hs:=a.Text
 refine Ob (P:=fun _=>True) (eU (fun q=>q) (c.Text.size:Int) (fun _=>True) (by omega) (by decide) trivial (fun i _ h1 h2=>?_)) fun r _=>?_
 .refine Oi (fun hc=>?_) (fun _=>.mk trivial)
  simp only[decide_eq_true_eq]at hc
  refine Ob (mU h1 hc) fun b _=>?_
  refine Ob (P:=fun _=>True) (Oi (fun _=>.mk trivial) (fun _=>Ob (mU h1 hc) fun b _=>.mk trivial)) fun b _=>?_
  exact Oi (fun _=>.mk trivial) (fun _=>.mk ⟨hc,h2 hc,trivial⟩)
 .rcases r with _|_
  .exact .mk trivial
  .exact Oi (fun _=>.mk trivial) (fun _=>.mk trivial)
theorem T179 {a:Zy} (b:a.sm):Ok (F179 a) (fun _=>True):=by
 unfold F179
 exact .mk trivial
theorem T140 {j:List Zy} (c:j.length<=12) (b:∀y∈j,y.sm):Ok (F140 j) (fun _=>True):=by
 unfold F140
 refine Oi (fun c606=>?_) (fun c606=>?_)
 .exact .mk trivial
 have o:=c
 refine lpT (l:=j) (fun q=>q) (Nat.lt_of_le_of_lt c (by decide)) rfl (fun t s x4 f a e d i=>?_) (fun x4 a=>?_) fun z=>?_
 .simp only[e,d,nt]
  have m:=b _ f
  refine obT (T178 m) fun A=>?_
  refine Oi (fun c620=>?_) (fun c620=>?_)
  .exact .mk trivial
  exact .mk i
 .simp only[a,nf]
  exact .mk trivial
 rcases z with B|_
 .exact .mk trivial
 .refine Ob (P:=fun r=>r=true->(decide ((j.length:Int)>0))=true) ?_ fun w k=>?_
  .refine Oi (fun c622=>?_) (fun _=>.mk (fun h=>by cases h))
   have p:=c
   refine Ob (P:=fun x=>x∈j) (bC (by(simp only[nm]at *;rw[aY (by omega) (by omega)];omega)) (by(simp only[nm]at *;rw[aY (by omega) (by omega)];omega)) (fun _ h _=>h)) fun C g=>?_
   have n:=b _ g
   refine obT (T179 n) fun v=>?_
   exact .mk (fun _=>c622)
  refine Oi (fun c628=>?_) (fun c628=>?_)
  .have u:=k c628
   exact .mk trivial
  exact .mk trivial
theorem T85 {d:Ze} (a:d.sm):Ok (F85 d) (fun _=>True):=by
 unfold F85
 refine obT (T133) fun y=>?_
 refine obT (T133) fun z=>?_
 refine obT (T132 (by simp)) fun x4=>?_
 refine Oi (fun c633=>?_) (fun c633=>?_)
 .exact .mk trivial
 refine obT (T134) fun x5=>?_
 refine Oi (fun c635=>?_) (fun c635=>?_)
 .exact .mk trivial
 refine Ob (T136 a) fun A b=>?_
 refine obT (T135 a b) fun B=>?_
 refine Oi (fun c638=>?_) (fun c638=>?_)
 .exact .mk trivial
 refine Ob (P:=fun r=>r=true->(d.Kind !=3)=true) ?_ fun D c=>?_
 .refine Oi (fun c640=>?_) (fun _=>.mk (fun h=>by cases h))
  refine Ob (T137) fun C e=>?_
  exact .mk (fun _=>c640)
 refine Oi (fun c642=>?_) (fun c642=>?_)
 .have f:=c c642
  exact .mk trivial
 refine Oi (fun c644=>?_) (fun c644=>?_)
 .refine obT (T138 a.Heads) fun g=>?_
  refine obT (T139 a.Graces) fun i=>?_
  refine obT (T140 a.Lyrics a.LyricsE) fun j=>?_
  refine obT (T132 (by simp)) fun k=>?_
  refine Oi (fun c649=>?_) (fun c649=>?_)
  .exact .mk trivial
  refine obT (T133) fun l=>?_
  refine obT (T133) fun m=>?_
  refine obT (T133) fun n=>?_
  refine obT (T133) fun o=>?_
  refine obT (T133) fun p=>?_
  refine obT (T132 (by simp)) fun q=>?_
  exact .mk trivial
 refine obT (T133) fun s=>?_
 refine obT (T133) fun t=>?_
 refine obT (T133) fun u=>?_
 refine obT (T133) fun v=>?_
 refine obT (T133) fun w=>?_
 refine obT (T132 (by simp)) fun x=>?_
 exact .mk trivial
theorem T125 {b:Ze} (a:b.sm):Ok (F125 b) (fun _=>True):=by
 unfold F125
 refine obT (T85 a) fun c=>?_
 exact .mk trivial
theorem T170 {i:List Ze} (f:i.length<=20) (g:∀y∈i,y.sm):Ok (F170 i) (fun _=>True):=by
 unfold F170
 have j:=f
 refine lpT (l:=i) (fun q=>q) (Nat.lt_of_le_of_lt f (by decide)) rfl (fun m k x4 d a c b e=>?_) (fun x4 a=>?_) fun n=>?_
 .simp only[c,b,nt]
  have h:=g _ d
  refine obT (T125 h) fun o=>?_
  refine Oi (fun c676=>?_) (fun c676=>?_)
  .exact .mk trivial
  exact .mk e
 .simp only[a,nf]
  exact .mk trivial
 rcases n with p|_
 .exact .mk trivial
 .exact .mk trivial
theorem T130 {c:List Ze} (b:c.length<=20) (a:∀y∈c,y.sm):Ok (F130 c) (fun _=>True):=by
 unfold F130
 refine obT (T170 b a) fun d=>?_
 exact .mk trivial
theorem T201 {c:Zo} (b:c.sm):Ok (F201 c) (fun _=>True):=by
 unfold F201
 refine Ob (P:=fun r=>r=true->(decide ((c.Events.length:Int)>0))=true) ?_ fun i e=>?_
 .refine Oi (fun c679=>?_) (fun _=>.mk (fun h=>by cases h))
  have d:=b.Events
  refine Ob (P:=fun x=>x∈c.Events) (bC (by omega) (by(simp only[nm]at *;omega)) (fun _ h _=>h)) fun g a=>?_
  have f:=b.EventsE _ a
  exact .mk (fun _=>c679)
 exact .mk trivial
theorem T216 {b:Za} (c: -1<=b.Log/\b.Log<=8/\0<=b.Dots/\b.Dots<=3):Ok (F216 b) (fun _=>True):=by
 unfold F216
 refine Ob (mT (by rw[aY (by omega) (by omega)];omega)) fun n _=>?_
 refine Ob (P:=fun _=>True) (eU (fun q=>q.2.2) b.Dots (fun _=>True) (by omega) (by dsimp only;omega) trivial (fun q _ h1 h2=>?_)) fun r _=>.mk trivial
 obtain⟨a,n,i⟩:=q
 dsimp only at h1 h2 ⊢
 refine Oi (fun hc=>?_) (fun _=>.mk trivial)
 simp only[decide_eq_true_eq]at hc
 exact Ob (mS (by decide)) fun x _=>.mk ⟨hc,h2 hc,trivial⟩
theorem T210 {b:Za}:Ok (F210 b) (fun _=>True):=by
 unfold F210
 refine Ob (T137) fun c a=>?_
 refine Oi (fun c685=>?_) (fun c685=>?_)
 .exact .mk trivial
 refine obT (T216 (by(simp only[nm]at *;omega))) fun d=>?_
 exact .mk trivial
theorem T206 {b:Ze} (a:b.sm):Ok (F206 b) (fun _=>True):=by
 unfold F206
 refine obT (T85 a) fun c=>?_
 refine Oi (fun c688=>?_) (fun c688=>?_)
 .exact .mk trivial
 refine obT (T210) fun⟨d,x4⟩=>?_
 exact .mk trivial
theorem T203 {c:List Ze} (h:c.length<=20) (d:∀y∈c,y.sm):Ok (F203 c) (fun v=>v.length<=20):=by
 unfold F203
 refine Ob (jE (by omega) (by omega) (by omega)) fun o h2=>?_
 refine Ob (P:=fun v=>v.length=c.length) (aP (l:=c) (fun q=>q.1) (fun _ q=>q.2.length=c.length) (by omega) rfl (by rw[h2];simp) (fun i e q n g hi hl f hg hw=>?_) (fun q hi f=>?_)) fun v hv=>.mk (by omega)
 .obtain ⟨x,l⟩:=q
  dsimp only at hi hl f hg hw
  simp only[hl,hg,nt]
  refine Ob (T206 (d e g)) fun⟨a,b⟩ _=>?_
  refine Ob (bK (by omega) (by omega)) fun j k=>?_
  refine Ob (aO1 (by omega)) fun m g=>.mk ⟨hw,by dsimp only;omega⟩
 .obtain ⟨x,l⟩:=q
  dsimp only at hi f
  simp only[hi,nf]
  exact .mk f
theorem T213 {a:Int}:Ok (F213 a) (fun v=>v=true->1<=a/\a<=32):=by
 unfold F213
 exact .mk (by(simp only[nm]at *;omega))
theorem T214 {a b:Zu}:Ok (F214 a b) (fun _=>True):=by
 unfold F214
 refine Oi (fun c690=>?_) (fun c690=>?_)
 .refine Oi (fun c691=>?_) (fun c691=>?_)
  .exact .mk trivial
  exact .mk trivial
 refine Oi (fun c692=>?_) (fun c692=>?_)
 .refine Oi (fun c693=>?_) (fun c693=>?_)
  .exact .mk trivial
  exact .mk trivial
 exact .mk trivial
theorem T212 {a:Zu}:Ok (F212 a) (fun v=>v=w64 (a.First+a.Count)):=by
 unfold F212
 exact .mk (by rfl)
theorem Tn211 {k:Zu} {a:List Zu} (g:a.length<=6) (i:a.length<=3):Ok (Fn211 k a) (fun v=>v.2.length<=3):=by
 unfold Fn211
 refine Ob (P:=fun v=>v.length<=3) (cP (fun l=>l.length<=3) (fun l=>l.length) (fun l hl=>?_) B64 a i (by simp only[B64];omega)) fun x d=>?_
 .refine Ob (P:=fun r=>r=true->0<l.length) (Oi (fun hc=>?_) (fun _=>.mk (fun h=>by cases h))) fun b hb=>?_
  .simp only[decide_eq_true_eq]at hc
   refine Ob (bK (by rw[aY (by omega) (by omega)];omega) (by rw[aY (by omega) (by omega)];omega)) fun j c=>?_
   exact Ob (bR c.2) fun y _=>Ob T212 fun e _=>.mk (fun _=>by omega)
  .refine Oi (fun hc=>?_) (fun _=>.mk hl)
   have:=hb hc
   refine Ob (aP1 this (by rw[aY (by omega) (by omega)];omega) (by rw[aY (by omega) (by omega)];omega)) fun m f=>?_
   have:=f.1
   rw[aY (by omega) (by omega)]at this
   exact .mk ⟨by omega,by omega⟩
 .refine Ob (P:=fun r=>r=true\/x.length<3) (Oi (fun hc=>.mk (.inl rfl)) (fun hc=>?_)) fun b hb=>?_
  .have hc:x.length<3:=by simp only[beq_iff_eq]at hc;omega
   refine Ob (P:=fun _=>True) (Oi (fun hd=>?_) (fun _=>.mk trivial)) fun b _=>.mk (.inr hc)
   simp only[decide_eq_true_eq]at hd
   refine Ob T212 fun e _=>?_
   refine Ob (bK (by rw[aY (by omega) (by omega)];omega) (by rw[aY (by omega) (by omega)];omega)) fun j c=>?_
   exact Ob (bR c.2) fun y _=>Ob T212 fun e _=>.mk trivial
  .refine Oi (fun _=>.mk d) (fun hc=>?_)
   have hb:x.length<3:=by rcases hb with h|h;exact absurd h hc;exact h
   refine Ob (cJ (Q:=fun v=>v.length=x.length+1) (by omega) (by simp)) fun m f=>.mk (by dsimp only;omega)
theorem T207 {f:List Zu} {c:Int} (z:f.length<=6):Ok (F207 f c) (fun v=>v=0->∀t∈f,t.ok c):=by
 unfold F207
 refine Oi (fun _=>.mk (fun h=>by cases h)) (fun n=>?_)
 refine Oi (fun _=>.mk (fun h=>by cases h)) (fun _=>?_)
 simp only[Bool.or_eq_true,decide_eq_true_eq,not_or]at n
 refine Ob (P:=fun r=>match r with|.inl p=>p.1≠0|.inr _=>∀t∈f,t.ok c) (aP (l:=f) (fun q=>q.1) (fun i q=>q.2.length<=3/\∀j,j<i->∀t,f[j]? =some t->t.ok c) (by omega) rfl ⟨by decide,fun j k=>by omega⟩ (fun i e q A w hi hl d hg hw=>?_) (fun q hi d=>?_)) fun v hv=>?_
 .obtain ⟨x,l⟩:=q
  dsimp only at hi hl d hg hw
  simp only[hl,hg,nt]
  refine Ob (P:=fun r=>r=false->(1<=e.Count/\e.Count<=c/\0<=e.First/\e.First+e.Count<=c/\1<=e.Actual/\e.Actual<=32)) (Oi (fun _=>.mk (fun h=>by cases h)) (fun hc=>?_)) fun b1 h1=>?_
  .simp only[Bool.or_eq_true,decide_eq_true_eq,not_or]at hc
   rw[aY (by omega) (by omega)]at hc
   refine Ob T213 fun r hr=>.mk (fun h=>?_)
   have:=hr (by simpa using h)
   omega
  refine Ob (P:=fun r=>r=false->e.ok c) (Oi (fun hc=>.mk (fun h=>by cases h)) (fun hc=>?_)) fun b2 h2=>?_
  .refine Ob T213 fun r hr=>.mk (fun h=>?_)
   have:=hr (by simpa using h)
   have:=h1 (by simpa using hc)
   unfold Zu.ok;omega
  refine Oi (fun _=>.mk (show(2:Int)≠0 by decide)) (fun hc=>?_)
  have u:e.ok c:=h2 (by simp only[Bool.or_eq_true,not_or,Bool.not_eq_true]at hc;exact hc.1)
  refine Ob (P:=fun _=>True) (Oi (fun hd=>?_) (fun _=>.mk trivial)) fun b3 _=>?_
  .simp only[decide_eq_true_eq]at hd
   have:=cT hg
   refine Ob (bC (Q:=fun _=>True) (by rw[aY (by omega) (by omega)];omega) (by rw[aY (by omega) (by omega)];omega) (fun _ _ _=>trivial)) fun y _=>?_
   exact Ob T214 fun o _=>.mk trivial
  refine Oi (fun _=>.mk (show(25:Int)≠0 by decide)) (fun _=>?_)
  refine Ob (Tn211 (Nat.le_trans d.1 (by decide)) d.1) fun⟨a,m⟩ w=>?_
  refine Oi (fun _=>.mk (show(21:Int)≠0 by decide)) (fun _=>.mk ⟨hw,w,fun j k t g=>?_⟩)
  by_cases s:j=i
  .subst s;rw[A]at g;cases g;exact u
  .exact d.2 j (by omega) t g
 .obtain ⟨x,l⟩:=q
  dsimp only at hi d
  simp only[hi,nf]
  refine .mk (fun t g=>?_)
  obtain⟨j,k⟩:=List.mem_iff_getElem?.1 g
  exact d.2 j (List.getElem?_eq_some_iff.1 k).1 t k
 .rcases v with⟨a,b⟩|b
  .exact .mk (fun h=>absurd h hv)
  .exact .mk (fun _=>hv)
theorem T217 {a:Zu} {b:Int}:Ok (F217 a b) (fun _=>True):=by
 unfold F217
 exact .mk trivial
theorem T218 {e c:Int} (l:0<e/\0<c/\c<9223372036854775808):Ok (F218 e c) (fun v=>0<v/\v∣e/\v∣c):=by
 unfold F218
 refine Ob (P:=fun v=>0<v/\v∣e/\v∣c) (cP (fun q=>0<q.1/\0<=q.2/\∀d:Int,d∣q.1->d∣q.2->d∣e/\d∣c) (fun q=>q.2.toNat) (fun q k=>?_) B64 (e,c) ⟨l.1,by dsimp only;omega,fun d h1 h2=>⟨h1,h2⟩⟩ (by simp only[B64];omega)) fun v hv=>.mk hv
 obtain⟨a,b⟩:=q
 obtain⟨h1,h2,h⟩:=k
 dsimp only at h1 h2 h
 refine Oi (fun hc=>?_) (fun hc=>?_)<;>simp only[decide_eq_true_eq]at hc
 .refine Ob (uB (by omega)) fun n j=>?_
  have i:n=a%b:=by rw[j,Int.tmod_eq_emod_of_nonneg (by omega)]
  have m:=Int.emod_nonneg a (by omega:b≠0)
  have o:=Int.emod_lt_of_pos a hc
  refine .mk ⟨⟨hc,by dsimp only;omega,fun d f g=>h d ?_ f⟩,by dsimp only;omega⟩
  dsimp only at f g
  rw[i]at g
  have:=Int.emod_add_mul_ediv a b
  rw[<-this]
  exact Int.dvd_add g (Int.dvd_trans f (Int.dvd_mul_right b _))
 .have:b=0:=by omega
  subst this
  exact .mk ⟨h1,h a (Int.dvd_refl a) (Int.dvd_zero a)⟩
theorem T215 {o:List Zu} {H:Int} (w:o.length<=6) (C:∀t∈o,1<=t.Actual/\t.Actual<=32/\1<=t.Normal/\t.Normal<=32):Ok (F215 o H) (fun v=>1<=v.2):=by
 unfold F215
 refine Ob (P:=fun v=>1<=v.2) (aP (l:=o) (fun q=>q.2.2) (fun i q=>1<=q.1/\q.1<=32^i/\1<=q.2.1/\q.2.1<=32^i) (by omega) rfl ⟨by decide,by decide,by decide,by decide⟩ (fun i e q E z hi hl f hg hw=>?_) (fun q hi f=>?_)) fun v hv=>.mk hv
 .obtain ⟨a,b,x⟩:=q
  dsimp only at hi hl f hg hw
  simp only[hl,hg,nt]
  have j:=C e z
  refine Ob T217 fun c _=>?_
  have y:i<=5:=by omega
  have A:(32:Int)^i<=33554432:=by
   have:i=0\/i=1\/i=2\/i=3\/i=4\/i=5:=by omega
   rcases this with rfl|rfl|rfl|rfl|rfl|rfl<;>decide
  have B:(32:Int)^(i+1)=32^i*32:=Int.pow_succ 32 i
  refine Ob (P:=fun v=>1<=v.1/\v.1<=32^(i+1)/\1<=v.2/\v.2<=32^(i+1)) (Oi (fun _=>?_) (fun _=>?_)) fun⟨v1,v2⟩ hv=>.mk ⟨hw,hv⟩
  .have F:1<=a*e.Normal:=Int.le_trans (by decide) (Int.mul_le_mul f.1 j.2.2.1 (by decide) (by omega))
   have G:a*e.Normal<=32^i*32:=Int.mul_le_mul f.2.1 j.2.2.2 (by omega) (by omega)
   have s:1<=b*e.Actual:=Int.le_trans (by decide) (Int.mul_le_mul f.2.2.1 j.1 (by decide) (by omega))
   have u:b*e.Actual<=32^i*32:=Int.mul_le_mul f.2.2.2 j.2.1 (by omega) (by omega)
   rw[aY (n:=a*e.Normal) (by omega) (by omega),aY (n:=b*e.Actual) (by omega) (by omega)]
   generalize a*e.Normal=N at F G ⊢
   generalize b*e.Actual=D at s u ⊢
   refine Ob (T218 ⟨by omega,by omega,by omega⟩) fun g hg=>?_
   obtain⟨J,⟨k,rfl⟩,⟨m,rfl⟩⟩:=hg
   have K:1<=k:=by
    rcases Int.lt_or_le k 1 with h|h
    .have:=Int.mul_nonneg (a:=g) (b:= -k) (by omega) (by omega)
     rw[Int.mul_neg]at this;omega
    .exact h
   have M:1<=m:=by
    rcases Int.lt_or_le m 1 with h|h
    .have:=Int.mul_nonneg (a:=g) (b:= -m) (by omega) (by omega)
     rw[Int.mul_neg]at this;omega
    .exact h
   have L:k<=g*k:=by
    have:=Int.mul_le_mul (a:=1) (b:=k) (c:=g) (d:=k) (by omega) (Int.le_refl k) (by omega) (by omega)
    omega
   have O:m<=g*m:=by
    have:=Int.mul_le_mul (a:=1) (b:=m) (c:=g) (d:=m) (by omega) (Int.le_refl m) (by omega) (by omega)
    omega
   refine Ob (mS (by omega)) fun q1 p=>?_
   refine Ob (mS (by omega)) fun q2 r=>?_
   rw[Int.mul_tdiv_cancel_left k (by omega),show IntKind.wrap .i64 k=w64 k from rfl,aY (by omega) (by omega)]at p
   rw[Int.mul_tdiv_cancel_left m (by omega),show IntKind.wrap .i64 m=w64 m from rfl,aY (by omega) (by omega)]at r
   exact .mk ⟨by dsimp only;omega,by dsimp only;omega,by dsimp only;omega,by dsimp only;omega⟩
  .exact .mk ⟨f.1,by dsimp only;omega,f.2.2.1,by dsimp only;omega⟩
 .obtain ⟨a,b,x⟩:=q
  dsimp only at hi f
  simp only[hi,nf]
  exact .mk f.2.2.1
theorem T208 {c:List Zu} {f g:Int} (b:c.length<=6) (h:∀t∈c,1<=t.Actual/\t.Actual<=32/\1<=t.Normal/\t.Normal<=32):Ok (F208 c f g) (fun _=>True):=by
 unfold F208
 refine Oi (fun c694=>?_) (fun c694=>?_)
 .exact .mk trivial
 refine Ob (T215 b (by omega)) fun⟨x4,x5⟩ a=>?_
 try dsimp only at a
 refine Ob (uB (by omega)) fun i d=>?_
 refine Oi (fun c697=>?_) (fun c697=>?_)
 .exact .mk trivial
 refine Ob (mS (by omega)) fun j e=>?_
 exact .mk trivial
theorem T204 {k:List Zu} {f:List Int} (d:k.length<=6) (j:f.length<=20):Ok (F204 k f) (fun v=>v.1.length<=20/\(v.2=0->∀t∈k,t.ok f.length)):=by
 unfold F204
 refine Ob (T207 d) fun c hc=>?_
 refine Oi (fun hd=>.mk ⟨Nat.zero_le _,fun h=>absurd h (by simpa using hd)⟩) (fun hd=>?_)
 have n:=hc (by simpa using hd)
 refine Ob (jE (by decide) (by omega) (by omega)) fun w o=>?_
 refine Ob (P:=fun r=>match r with|.inl p=>p.1≠0|.inr l=>l.length<=f.length) (aP (l:=f) (fun q=>q.1) (fun i q=>q.2.length<=i) (by omega) rfl (by rw[o];decide) (fun i e q u s hi hl g hg hw=>?_) (fun q hi g=>?_)) fun v hv=>?_
 .obtain ⟨x,l⟩:=q
  dsimp only at hi hl g hg hw
  simp only[hl,hg,nt]
  refine Ob (T208 d (fun t h=>by have:=n t h;unfold Zu.ok at this;omega)) fun⟨a,b⟩ _=>?_
  refine Oi (fun hb=>.mk (by simpa using hb)) (fun _=>?_)
  exact Ob (cJ (Q:=fun v=>v.length=l.length+1) (by omega) (by simp)) fun m s=>.mk ⟨hw,by dsimp only;omega⟩
 .obtain ⟨x,l⟩:=q
  dsimp only at hi g
  simp only[hi,nf]
  exact .mk g
 .rcases v with⟨a,b⟩|b
  .exact .mk ⟨Nat.zero_le _,fun h=>absurd h hv⟩
  .exact .mk ⟨Nat.le_trans hv j,fun _=>n⟩
theorem T209 {c:List Zu} {f:Int} {g:List Int} (k:c.length<=6) (m:g.length<=20) (j:0<=f/\f<(c.length:Int)) (hy:∀t∈c,t.ok g.length):Ok (F209 c f g) (fun _=>True):=by
 unfold F209
 refine Ob (bC (Q:=fun x=>x∈c) j.1 j.2 (fun _ h _=>h)) fun x4 d=>?_
 have o:=hy x4 d
 unfold Zu.ok at o
 refine Ob (P:=fun _=>True) (eU (fun q=>q.2) (x4.First+x4.Count) (fun _=>True) (by omega) (by dsimp only;omega) trivial (fun q _ h1 h2=>?_)) fun r _=>?_
 .obtain ⟨s,i⟩:=q
  dsimp only at h1 h2 ⊢
  refine Ob T212 fun e he=>?_
  rw[aY (by omega) (by omega)]at he
  subst he
  refine Oi (fun hc=>?_) (fun _=>.mk trivial)
  simp only[decide_eq_true_eq]at hc
  refine Ob (sK (by rw[aY (by omega) (by omega)];omega) (by rw[aY (by omega) (by omega)];omega) (by omega)) fun l hl=>?_
  refine Ob (bC (Q:=fun _=>True) (by omega) (by omega) (fun _ _ _=>trivial)) fun y _=>?_
  refine Ob (T208 (by omega) (fun t h=>by have:=hy t (hl.2 t h);unfold Zu.ok at this;omega)) fun⟨a,b⟩ _=>?_
  exact Oi (fun _=>.mk trivial) (fun _=>.mk ⟨hc,h2 hc,trivial⟩)
 .rcases r with a|a
  .exact .mk trivial
  refine Ob (P:=fun _=>True) (eU (fun q=>q) 9 (fun _=>True) (by decide) (by decide) trivial (fun q _ h1 h2=>?_)) fun r _=>?_
  .refine Oi (fun hc=>?_) (fun _=>.mk trivial)
   simp only[decide_eq_true_eq]at hc
   refine Ob (mT (by rw[aY (by omega) (by omega)];omega)) fun n _=>?_
   exact Oi (fun _=>.mk trivial) (fun _=>.mk ⟨by omega,h2 (by omega),trivial⟩)
  .rcases r with a|a<;>exact .mk trivial
theorem T205 {h:List Zu} {j:List Int} (c:h.length<=6) (d:j.length<=20):Ok (F205 h j) (fun _=>True):=by
 unfold F205
 refine Ob (T204 c d) fun⟨a,b⟩ f=>?_
 dsimp only at f
 refine Oi (fun _=>.mk trivial) (fun hd=>?_)
 have o:=f.2 (by simpa using hd)
 refine Ob (jE (by decide) (by omega) (by omega)) fun r k=>?_
 refine Ob (P:=fun _=>True) (aP (l:=h) (fun q=>q.1) (fun i q=>q.2.length<=i) (by omega) rfl (by rw[k];decide) (fun i e q p n hi hl g hg hw=>?_) (fun q hi g=>?_)) fun v hv=>?_
 .obtain ⟨x,l⟩:=q
  dsimp only at hi hl g hg hw
  simp only[hl,nt]
  refine Ob (T209 c d ⟨by omega,hl⟩ o) fun⟨a,b⟩ _=>?_
  refine Oi (fun hb=>.mk trivial) (fun _=>?_)
  exact Ob (cJ (Q:=fun v=>v.length=l.length+1) (by omega) (by simp)) fun m n=>.mk ⟨hw,by dsimp only;omega⟩
 .obtain ⟨x,l⟩:=q
  dsimp only at hi g
  simp only[hi,nf]
  exact .mk trivial
 .rcases v with a|b<;>exact .mk trivial
theorem T202 {k:Zo} (a:k.sm):Ok (F202 k) (fun v=>v.1.length<=20):=by
 unfold F202
 have j:=a.Events
 refine lpT (l:=k.Events) (fun q=>q) (Nat.lt_of_le_of_lt a.Events (by decide)) rfl (fun n m x4 f b e d g=>?_) (fun x4 b=>?_) fun t=>?_
 .simp only[e,d,nt]
  have i:=a.EventsE _ f
  refine obT (T85 i) fun u=>?_
  refine Oi (fun c712=>?_) (fun c712=>?_)
  .exact .mk trivial
  refine Oi (fun c713=>?_) (fun c713=>?_)
  .exact .mk trivial
  exact .mk g
 .simp only[b,nf]
  exact .mk trivial
 rcases t with w|_
 .exact .mk (by(simp only[nm,nl]at *;omega))
 .refine Ob (T203 a.Events a.EventsE) fun x c=>?_
  refine Ob (T204 a.Tuplets c) fun⟨o,p⟩ h=>?_
  try dsimp only at h
  refine Oi (fun c716=>?_) (fun c716=>?_)
  .exact .mk (by(simp only[nm,nl]at *;omega))
  refine obT (T205 a.Tuplets c) fun⟨r,s⟩=>?_
  refine Oi (fun c718=>?_) (fun c718=>?_)
  .exact .mk (by(simp only[nm,nl]at *;omega))
  exact .mk (by(simp only[nm]at *;omega))
theorem T193 {f:Zo} {g:Int} (a:f.sm):Ok (F193 f g) (fun v=>v.1.length<=20):=by
 unfold F193
 refine Oi (fun c719=>?_) (fun c719=>?_)
 .exact .mk (by(simp only[nm,nl]at *;omega))
 refine Oi (fun c720=>?_) (fun c720=>?_)
 .exact .mk (by(simp only[nm,nl]at *;omega))
 refine obT (T201 a) fun i=>?_
 refine Oi (fun c722=>?_) (fun c722=>?_)
 .have e:=a.Events
  refine Ob (P:=fun x=>x∈f.Events) (bC (by omega) (by(simp only[nm]at *;omega)) (fun _ h _=>h)) fun x4 b=>?_
  have d:=a.EventsE _ b
  refine obT (T85 d) fun x5=>?_
  refine Oi (fun c728=>?_) (fun c728=>?_)
  .exact .mk (by(simp only[nm,nl]at *;omega))
  refine Oi (fun c729=>?_) (fun c729=>?_)
  .exact .mk (by(simp only[nm,nl]at *;omega))
  exact .mk (by(simp only[nm,nl]at *;omega))
 refine Ob (T202 a) fun⟨j,k⟩ c=>?_
 try dsimp only at c
 exact .mk (by omega)
theorem T194 {h:List Int} (e:h.length<=20):Ok (F194 h) (fun _=>True):=by
 unfold F194
 have g:=e
 refine lpT (l:=h) (fun q=>q.2) (Nat.lt_of_le_of_lt e (by decide)) rfl (fun j i q741 f a c b d=>?_) (fun q741 a=>?_) fun m=>?_
 .obtain ⟨k,x4⟩:=q741
  dsimp only at a c b d
  simp only[c,b,nt]
  exact .mk d
 .obtain ⟨k,x4⟩:=q741
  dsimp only at a
  simp only[a,nf]
  exact .mk trivial
 exact .mk trivial
theorem T171 {e:Zo} {f:Int} (c:e.sm):Ok (F171 e f) (fun v=>v.1.length<=20):=by
 unfold F171
 refine Ob (T193 c) fun⟨g,x4⟩ a=>?_
 try dsimp only at a
 refine Ob (P:=fun r=>r=true->((x4==0)&&(decide ((g.length:Int)>0)))=true) ?_ fun i b=>?_
 .refine Oi (fun c745=>?_) (fun _=>.mk (fun h=>by cases h))
  refine obT (T194 a) fun x5=>?_
  exact .mk (fun _=>c745)
 refine obT ?_ fun j=>?_
 .refine Oi (fun c748=>?_) (fun c748=>?_)
  .have d:=b c748
   exact .mk trivial
  exact .mk trivial
 refine Oi (fun c750=>?_) (fun c750=>?_)
 .exact .mk (by(simp only[nm,nl]at *;omega))
 exact .mk (by omega)
theorem T131 {c:Zo} {d:Int} (b:c.sm):Ok (F131 c d) (fun _=>True):=by
 unfold F131
 refine Ob (T171 b) fun⟨e,x4⟩ a=>?_
 try dsimp only at a
 exact .mk trivial
theorem T81 {a:Int}:Ok (F81 a) (fun _=>True):=by
 unfold F81
 exact .mk trivial
theorem T129 {c:Zo} {d:Int} (a:c.sm):Ok (F129 c d) (fun _=>True):=by
 unfold F129
 refine obT (T130 a.Events a.EventsE) fun e=>?_
 refine Ob (P:=fun r=>r=true->(!e)=true) ?_ fun f b=>?_
 .refine Oi (fun c754=>?_) (fun _=>.mk (fun h=>by cases h))
  refine obT (T131 a) fun x4=>?_
  refine obT (T81) fun x5=>?_
  exact .mk (fun _=>c754)
 exact .mk trivial
theorem T169 {i:List Zo} {n:Int} (f:i.length<=3) (g:∀y∈i,y.sm):Ok (F169 i n) (fun _=>True):=by
 unfold F169
 have j:=f
 refine lpT (l:=i) (fun q=>q) (Nat.lt_of_le_of_lt f (by decide)) rfl (fun m k x5 d a c b e=>?_) (fun x5 a=>?_) fun o=>?_
 .simp only[c,b,nt]
  have h:=g _ d
  refine obT (T129 h) fun p=>?_
  refine Oi (fun c770=>?_) (fun c770=>?_)
  .exact .mk trivial
  exact .mk e
 .simp only[a,nf]
  exact .mk trivial
 rcases o with r|_
 .exact .mk trivial
 .exact .mk trivial
theorem T128 {c:List Zo} {d:Int} (b:c.length<=3) (a:∀y∈c,y.sm):Ok (F128 c d) (fun _=>True):=by
 unfold F128
 refine obT (T169 b a) fun e=>?_
 exact .mk trivial
theorem T127 {b:Zw} {c:Int} (a:b.sm):Ok (F127 b c) (fun _=>True):=by
 unfold F127
 refine obT (T128 a.Voices a.VoicesE) fun d=>?_
 exact .mk trivial
theorem T168 {i:List Zw} {n:Int} (f:i.length<=5) (g:∀y∈i,y.sm):Ok (F168 i n) (fun _=>True):=by
 unfold F168
 have j:=f
 refine lpT (l:=i) (fun q=>q) (Nat.lt_of_le_of_lt f (by decide)) rfl (fun m k x5 d a c b e=>?_) (fun x5 a=>?_) fun o=>?_
 .simp only[c,b,nt]
  have h:=g _ d
  refine obT (T127 h) fun p=>?_
  refine Oi (fun c786=>?_) (fun c786=>?_)
  .exact .mk trivial
  exact .mk e
 .simp only[a,nf]
  exact .mk trivial
 rcases o with r|_
 .exact .mk trivial
 .exact .mk trivial
theorem T126 {c:List Zw} {d:Int} (b:c.length<=5) (a:∀y∈c,y.sm):Ok (F126 c d) (fun _=>True):=by
 unfold F126
 refine obT (T168 b a) fun e=>?_
 exact .mk trivial
theorem T124 {c:Int} {b:Zm} (a:b.sm):Ok (F124 c b) (fun _=>True):=by
 unfold F124
 refine obT (T33 a) fun⟨d,x4⟩=>?_
 refine Oi (fun c789=>?_) (fun c789=>?_)
 .exact .mk trivial
 refine obT (T126 a.Cells a.CellsE) fun x5=>?_
 exact .mk trivial
theorem Tn74_4 {g:List Zv} {n:Z0} {z:Int} (u:g.length+10<=1000000) (f:n.sm):Ok (Fn74_4 g n z) (fun v=>g.length<=v.length/\v.length<=g.length+10):=by
 unfold Fn74_4
 have k:=f.Measures
 refine Ob (P:=fun r=>g.length<=r.length/\r.length<=g.length+10) (aP (l:=n.Measures) (fun q=>q.1) (fun i q=>g.length<=q.2.length/\q.2.length<=g.length+i*1) (Nat.lt_of_le_of_lt f.Measures (by decide)) rfl (by dsimp only;omega) (fun s o q802 m h a d b c e=>?_) (fun q802 a b=>?_)) fun y t=>?_
 .obtain ⟨A,B⟩:=q802
  dsimp only at a d c e b
  simp only[d,c,nt]
  have j:=f.MeasuresE _ h
  refine obT (T124 j) fun w=>?_
  refine Ob (Tn66 (by first|omega|(simp only[List.length_nil]at *;omega)) f) fun x p=>?_
  exact .mk ⟨e,by dsimp only;omega⟩
 .obtain ⟨A,B⟩:=q802
  dsimp only at a b
  simp only[a,nf]
  exact .mk (by dsimp only;omega)
 exact .mk (by omega)
theorem Tn80 {a:List Zv} {d:Z0} {f:Int} (e:a.length+10<=1000000) (b:d.sm):Ok (Fn80 a d f) (fun v=>a.length<=v.length/\v.length<=a.length+10):=by
 unfold Fn80
 refine Ob (Tn74_4 (by first|omega|(simp only[List.length_nil]at *;omega)) b) fun x4 c=>?_
 exact .mk (by omega)
theorem Tn44 {a:List Zv} {d:Z0} {f:Int} (e:a.length+10<=1000000) (b:d.sm):Ok (Fn44 a d f) (fun v=>a.length<=v.length/\v.length<=a.length+10):=by
 unfold Fn44
 refine Ob (Tn80 (by first|omega|(simp only[List.length_nil]at *;omega)) b) fun x4 c=>?_
 exact .mk (by omega)
theorem T82 {b:Int}:Ok (F82 b) (fun _=>True):=by
 unfold F82
 refine Ob (P:=fun r=>r=true->(b !=0)=true) ?_ fun d a=>?_
 .refine Oi (fun c810=>?_) (fun _=>.mk (fun h=>by cases h))
  refine obT (T81) fun c=>?_
  exact .mk (fun _=>c810)
 exact .mk trivial
theorem T129_2 {c:Zo} {d:Int} (a:c.sm):Ok (F129_2 c d) (fun _=>True):=by
 unfold F129_2
 refine obT (T130 a.Events a.EventsE) fun e=>?_
 refine Ob (P:=fun r=>r=true->(!e)=true) ?_ fun f b=>?_
 .refine Oi (fun c814=>?_) (fun _=>.mk (fun h=>by cases h))
  refine obT (T131 a) fun x4=>?_
  refine obT (T82) fun x5=>?_
  exact .mk (fun _=>c814)
 exact .mk trivial
theorem T169_2 {i:List Zo} {n:Int} (f:i.length<=3) (g:∀y∈i,y.sm):Ok (F169_2 i n) (fun _=>True):=by
 unfold F169_2
 have j:=f
 refine lpT (l:=i) (fun q=>q) (Nat.lt_of_le_of_lt f (by decide)) rfl (fun m k x5 d a c b e=>?_) (fun x5 a=>?_) fun o=>?_
 .simp only[c,b,nt]
  have h:=g _ d
  refine obT (T129_2 h) fun p=>?_
  refine Oi (fun c830=>?_) (fun c830=>?_)
  .exact .mk trivial
  exact .mk e
 .simp only[a,nf]
  exact .mk trivial
 rcases o with r|_
 .exact .mk trivial
 .exact .mk trivial
theorem T128_2 {c:List Zo} {d:Int} (b:c.length<=3) (a:∀y∈c,y.sm):Ok (F128_2 c d) (fun _=>True):=by
 unfold F128_2
 refine obT (T169_2 b a) fun e=>?_
 exact .mk trivial
theorem T127_2 {b:Zw} {c:Int} (a:b.sm):Ok (F127_2 b c) (fun _=>True):=by
 unfold F127_2
 refine obT (T128_2 a.Voices a.VoicesE) fun d=>?_
 exact .mk trivial
theorem T168_2 {i:List Zw} {n:Int} (f:i.length<=5) (g:∀y∈i,y.sm):Ok (F168_2 i n) (fun _=>True):=by
 unfold F168_2
 have j:=f
 refine lpT (l:=i) (fun q=>q) (Nat.lt_of_le_of_lt f (by decide)) rfl (fun m k x5 d a c b e=>?_) (fun x5 a=>?_) fun o=>?_
 .simp only[c,b,nt]
  have h:=g _ d
  refine obT (T127_2 h) fun p=>?_
  refine Oi (fun c846=>?_) (fun c846=>?_)
  .exact .mk trivial
  exact .mk e
 .simp only[a,nf]
  exact .mk trivial
 rcases o with r|_
 .exact .mk trivial
 .exact .mk trivial
theorem T126_2 {c:List Zw} {d:Int} (b:c.length<=5) (a:∀y∈c,y.sm):Ok (F126_2 c d) (fun _=>True):=by
 unfold F126_2
 refine obT (T168_2 b a) fun e=>?_
 exact .mk trivial
theorem T124_2 {c:Int} {b:Zm} (a:b.sm):Ok (F124_2 c b) (fun _=>True):=by
 unfold F124_2
 refine obT (T33 a) fun⟨d,x4⟩=>?_
 refine Oi (fun c849=>?_) (fun c849=>?_)
 .exact .mk trivial
 refine obT (T126_2 a.Cells a.CellsE) fun x5=>?_
 exact .mk trivial
theorem Tn74_5 {g:List Zv} {n:Z0} {z:Int} (u:g.length+10<=1000000) (f:n.sm):Ok (Fn74_5 g n z) (fun v=>g.length<=v.length/\v.length<=g.length+10):=by
 unfold Fn74_5
 have k:=f.Measures
 refine Ob (P:=fun r=>g.length<=r.length/\r.length<=g.length+10) (aP (l:=n.Measures) (fun q=>q.1) (fun i q=>g.length<=q.2.length/\q.2.length<=g.length+i*1) (Nat.lt_of_le_of_lt f.Measures (by decide)) rfl (by dsimp only;omega) (fun s o q862 m h a d b c e=>?_) (fun q862 a b=>?_)) fun y t=>?_
 .obtain ⟨A,B⟩:=q862
  dsimp only at a d c e b
  simp only[d,c,nt]
  have j:=f.MeasuresE _ h
  refine obT (T124_2 j) fun w=>?_
  refine Ob (Tn66 (by first|omega|(simp only[List.length_nil]at *;omega)) f) fun x p=>?_
  exact .mk ⟨e,by dsimp only;omega⟩
 .obtain ⟨A,B⟩:=q862
  dsimp only at a b
  simp only[a,nf]
  exact .mk (by dsimp only;omega)
 exact .mk (by omega)
theorem Tn80_2 {a:List Zv} {d:Z0} {f:Int} (e:a.length+10<=1000000) (b:d.sm):Ok (Fn80_2 a d f) (fun v=>a.length<=v.length/\v.length<=a.length+10):=by
 unfold Fn80_2
 refine Ob (Tn74_5 (by first|omega|(simp only[List.length_nil]at *;omega)) b) fun x4 c=>?_
 exact .mk (by omega)
theorem Tn45 {a:List Zv} {d:Z0} {f:Int} (e:a.length+10<=1000000) (b:d.sm):Ok (Fn45 a d f) (fun v=>a.length<=v.length/\v.length<=a.length+10):=by
 unfold Fn45
 refine Ob (Tn80_2 (by first|omega|(simp only[List.length_nil]at *;omega)) b) fun x4 c=>?_
 exact .mk (by omega)
theorem T84 {c:Zp} {b:Ze} (a:b.sm):Ok (F84 c b) (fun _=>True):=by
 unfold F84
 refine obT (T85 a) fun d=>?_
 exact .mk trivial
theorem Tn83 {G:List Zv} {x2:Z0} {x3:Int} (e3:G.length+3000<=1000000) (F:x2.sm):Ok (Fn83 G x2 x3) (fun v=>G.length<=v.length/\v.length<=G.length+3000):=by
 unfold Fn83
 have U:=F.Measures
 refine Ob (P:=fun r=>G.length<=r.length/\r.length<=G.length+3000) (aP (l:=x2.Measures) (fun q=>q.1) (fun i q=>G.length<=q.2.length/\q.2.length<=G.length+i*300) (Nat.lt_of_le_of_lt F.Measures (by decide)) rfl (by dsimp only;omega) (fun b9 M q881 Y H c o g a u=>?_) (fun q881 c g=>?_)) fun d8 d9=>?_
 .obtain ⟨b4,C⟩:=q881
  dsimp only at c o a u g
  simp only[o,a,nt]
  have z:=F.MeasuresE _ H
  have V:=z.Cells
  refine Ob (P:=fun r=>C.length<=r.length/\r.length<=C.length+300) (aP (l:=M.Cells) (fun q=>q.1) (fun i q=>C.length<=q.2.length/\q.2.length<=C.length+i*60) (Nat.lt_of_le_of_lt z.Cells (by decide)) rfl (by dsimp only;omega) (fun d0 N q895 Z J d p h b w=>?_) (fun q895 d h=>?_)) fun d7 e0=>?_
  .obtain ⟨b5,D⟩:=q895
   dsimp only at d p b w h
   simp only[p,a,b,nt]
   have A:=z.CellsE _ J
   have W:=A.Voices
   refine Ob (P:=fun r=>D.length<=r.length/\r.length<=D.length+60) (aP (l:=N.Voices) (fun q=>q.1) (fun i q=>D.length<=q.2.length/\q.2.length<=D.length+i*20) (Nat.lt_of_le_of_lt A.Voices (by decide)) rfl (by dsimp only;omega) (fun d1 O q909 a0 K e s j m x=>?_) (fun q909 e j=>?_)) fun d6 e1=>?_
   .obtain ⟨b6,E⟩:=q909
    dsimp only at e s m x j
    simp only[s,a,b,m,nt]
    have B:=A.VoicesE _ K
    have X:=B.Events
    refine Ob (P:=fun r=>E.length<=r.length/\r.length<=E.length+20) (aP (l:=O.Events) (fun q=>q.1) (fun i q=>E.length<=q.2.length/\q.2.length<=E.length+i*1) (Nat.lt_of_le_of_lt B.Events (by decide)) rfl (by dsimp only;omega) (fun d2 b7 q923 b0 L f t k n y=>?_) (fun q923 f k=>?_)) fun d5 e2=>?_
    .obtain ⟨S,T⟩:=q923
     dsimp only at f t n y k
     simp only[t,a,b,m,n,nt]
     have R:=B.EventsE _ L
     refine obT (T84 R) fun d3=>?_
     refine Ob (Tn66 (by first|omega|(simp only[List.length_nil]at *;omega)) F) fun d4 b8=>?_
     exact .mk ⟨y,by dsimp only;omega⟩
    .obtain ⟨S,T⟩:=q923
     dsimp only at f k
     simp only[f,nf]
     exact .mk (by dsimp only;omega)
    exact .mk ⟨x,by dsimp only;omega⟩
   .obtain ⟨b6,E⟩:=q909
    dsimp only at e j
    simp only[e,nf]
    exact .mk (by dsimp only;omega)
   exact .mk ⟨w,by dsimp only;omega⟩
  .obtain ⟨b5,D⟩:=q895
   dsimp only at d h
   simp only[d,nf]
   exact .mk (by dsimp only;omega)
  exact .mk ⟨u,by dsimp only;omega⟩
 .obtain ⟨b4,C⟩:=q881
  dsimp only at c g
  simp only[c,nf]
  exact .mk (by dsimp only;omega)
 exact .mk (by omega)
theorem Tn46 {a:List Zv} {d:Z0} {f:Int} (e:a.length+3000<=1000000) (b:d.sm):Ok (Fn46 a d f) (fun v=>a.length<=v.length/\v.length<=a.length+3000):=by
 unfold Fn46
 refine Ob (Tn83 (by first|omega|(simp only[List.length_nil]at *;omega)) b) fun x4 c=>?_
 exact .mk (by omega)
theorem T87 {c:Z0} {f:Int} (d:c.sm):Ok (F87 c f) (fun v=>v.2.2=0->0<=v.1/\v.1<(c.Parts.length:Int)):=by
 unfold F87
 have g:=d.Parts
 refine Oi (fun _=>.mk (fun h=>absurd (show(2:Int)=0 from h) (by decide))) (fun _=>?_)
 refine Ob (P:=fun r=>match r with|.inl p=>0<=p.1/\p.1<(c.Parts.length:Int)|.inr _=>True) (aP (l:=c.Parts) (fun q=>q.2) (fun _ _=>True) (by omega) rfl trivial (fun i e q k j hi hl _ hg hw=>?_) (fun q hi _=>?_)) fun r hr=>?_
 .obtain ⟨s,x⟩:=q
  dsimp only at hi hl hg hw
  simp only[hl,hg,nt]
  exact Oi (fun _=>.mk ⟨by dsimp only;omega,hl⟩) (fun _=>.mk ⟨hw,trivial⟩)
 .obtain ⟨s,x⟩:=q
  dsimp only at hi
  simp only[hi,nf]
  exact .mk trivial
 rcases r with⟨a,b⟩|_
 .exact .mk (fun _=>hr)
 .exact .mk (fun h=>absurd (show(2:Int)=0 from h) (by decide))
theorem T88 {a:Zh} {b:Int}:Ok (F88 a b) (fun _=>True):=by
 unfold F88
 refine obT (T89) fun⟨c,x4⟩=>?_
 refine obT (T68) fun x5=>?_
 exact .mk trivial
theorem T91 {a:Zb} {b:Int}:Ok (F91 a b) (fun _=>True):=by
 unfold F91
 refine obT (T88) fun c=>?_
 exact .mk trivial
theorem T143 {h:List Zb} {k:Int} (e:h.length<=12):Ok (F143 h k) (fun _=>True):=by
 unfold F143
 have g:=e
 refine lpT (l:=h) (fun q=>q) (Nat.lt_of_le_of_lt e (by decide)) rfl (fun j i x5 f a c b d=>?_) (fun x5 a=>?_) fun m=>?_
 .simp only[c,b,nt]
  refine obT (T91) fun n=>?_
  refine Oi (fun c944=>?_) (fun c944=>?_)
  .exact .mk trivial
  exact .mk d
 .simp only[a,nf]
  exact .mk trivial
 rcases m with o|_
 .exact .mk trivial
 .exact .mk trivial
theorem T90 {b:List Zb} {c:Int} (a:b.length<=12):Ok (F90 b c) (fun _=>True):=by
 unfold F90
 refine obT (T143 a) fun d=>?_
 exact .mk trivial
theorem T93 {a:Zd} {b:Int}:Ok (F93 a b) (fun _=>True):=by
 unfold F93
 refine obT (T88) fun c=>?_
 exact .mk trivial
theorem T144 {h:List Zd} {k:Int} (e:h.length<=12):Ok (F144 h k) (fun _=>True):=by
 unfold F144
 have g:=e
 refine lpT (l:=h) (fun q=>q) (Nat.lt_of_le_of_lt e (by decide)) rfl (fun j i x5 f a c b d=>?_) (fun x5 a=>?_) fun m=>?_
 .simp only[c,b,nt]
  refine obT (T93) fun n=>?_
  refine Oi (fun c959=>?_) (fun c959=>?_)
  .exact .mk trivial
  exact .mk d
 .simp only[a,nf]
  exact .mk trivial
 rcases m with o|_
 .exact .mk trivial
 .exact .mk trivial
theorem T92 {b:List Zd} {c:Int} (a:b.length<=12):Ok (F92 b c) (fun _=>True):=by
 unfold F92
 refine obT (T144 a) fun d=>?_
 exact .mk trivial
theorem T86 {l:Zp} {k:Ze} {g:Zk} (a:k.sm) (b:g.s'.sm):Ok (F86 l k g) (fun _=>True):=by
 unfold F86
 refine obT (T85 a) fun x4=>?_
 refine Oi (fun c962=>?_) (fun c962=>?_)
 .exact .mk trivial
 refine Ob (T87 b) fun⟨x5,p,q⟩ d=>?_
 try dsimp only at d
 refine obT ?_ fun t=>?_
 .refine Oi (fun c965=>?_) (fun c965=>?_)
  .have e:=b.Parts
   refine Ob (P:=fun x=>x∈g.s'.Parts) (bC (by(simp only[nm]at *;omega)) (by(simp only[nm]at *;omega)) (fun _ h _=>h)) fun s c=>?_
   have j:=b.PartsE _ c
   exact .mk trivial
  exact .mk trivial
 refine obT ?_ fun m=>?_
 .refine Oi (fun c971=>?_) (fun c971=>?_)
  .exact .mk trivial
  exact .mk trivial
 refine obT (T90 a.Heads) fun f=>?_
 refine Ob (P:=fun r=>¬r=true->¬f=true) ?_ fun o i=>?_
 .refine Oi (fun _=>.mk (fun h=>absurd rfl h)) (fun c974=>?_)
  refine obT (T92 a.Graces) fun n=>?_
  exact .mk (fun _=>c974)
 exact .mk trivial
theorem Tn83_2 {J:List Zv} {x2:Z0} {x3:Int} (e3:J.length+3000<=1000000) (x:x2.sm):Ok (Fn83_2 J x2 x3) (fun v=>J.length<=v.length/\v.length<=J.length+3000):=by
 unfold Fn83_2
 have b0:=x.Measures
 refine Ob (P:=fun r=>J.length<=r.length/\r.length<=J.length+3000) (aP (l:=x2.Measures) (fun q=>q.1) (fun i q=>J.length<=q.2.length/\q.2.length<=J.length+i*300) (Nat.lt_of_le_of_lt x.Measures (by decide)) rfl (by dsimp only;omega) (fun d3 O q987 b4 L h y k c A=>?_) (fun q987 h k=>?_)) fun e0 e1=>?_
 .obtain ⟨b8,D⟩:=q987
  dsimp only at h y c A k
  simp only[y,c,nt]
  have C:=x.MeasuresE _ L
  have U:=C.Cells
  refine Ob (P:=fun r=>D.length<=r.length/\r.length<=D.length+300) (aP (l:=O.Cells) (fun q=>q.1) (fun i q=>D.length<=q.2.length/\q.2.length<=D.length+i*60) (Nat.lt_of_le_of_lt C.Cells (by decide)) rfl (by dsimp only;omega) (fun d4 R q1001 b5 M j z m g B=>?_) (fun q1001 j m=>?_)) fun d9 e2=>?_
  .obtain ⟨b9,E⟩:=q1001
   dsimp only at j z g B m
   simp only[z,c,g,nt]
   have n:=C.CellsE _ M
   have V:=n.Voices
   refine Ob (P:=fun r=>E.length<=r.length/\r.length<=E.length+60) (aP (l:=R.Voices) (fun q=>q.1) (fun i q=>E.length<=q.2.length/\q.2.length<=E.length+i*20) (Nat.lt_of_le_of_lt n.Voices (by decide)) rfl (by dsimp only;omega) (fun b6 K q1015 X G a s d f u=>?_) (fun q1015 a d=>?_)) fun d8 d1=>?_
   .obtain ⟨d0,F⟩:=q1015
    dsimp only at a s f u d
    simp only[s,c,g,f,nt]
    have o:=n.VoicesE _ G
    have W:=o.Events
    refine Ob (P:=fun r=>F.length<=r.length/\r.length<=F.length+20) (aP (l:=K.Events) (fun q=>q.1) (fun i q=>F.length<=q.2.length/\q.2.length<=F.length+i*1) (Nat.lt_of_le_of_lt o.Events (by decide)) rfl (by dsimp only;omega) (fun b7 Z q1029 Y H b t e p w=>?_) (fun q1029 b e=>?_)) fun d7 d2=>?_
    .obtain ⟨S,T⟩:=q1029
     dsimp only at b t p w e
     simp only[t,c,g,f,p,nt]
     have N:=o.EventsE _ H
     refine obT (T86 N x) fun d5=>?_
     refine Ob (Tn66 (by first|omega|(simp only[List.length_nil]at *;omega)) x) fun d6 a0=>?_
     exact .mk ⟨w,by dsimp only;omega⟩
    .obtain ⟨S,T⟩:=q1029
     dsimp only at b e
     simp only[b,nf]
     exact .mk (by dsimp only;omega)
    exact .mk ⟨u,by dsimp only;omega⟩
   .obtain ⟨d0,F⟩:=q1015
    dsimp only at a d
    simp only[a,nf]
    exact .mk (by dsimp only;omega)
   exact .mk ⟨B,by dsimp only;omega⟩
  .obtain ⟨b9,E⟩:=q1001
   dsimp only at j m
   simp only[j,nf]
   exact .mk (by dsimp only;omega)
  exact .mk ⟨A,by dsimp only;omega⟩
 .obtain ⟨b8,D⟩:=q987
  dsimp only at h k
  simp only[h,nf]
  exact .mk (by dsimp only;omega)
 exact .mk (by omega)
theorem Tn47 {a:List Zv} {d:Z0} {f:Int} (e:a.length+3000<=1000000) (c:d.sm):Ok (Fn47 a d f) (fun v=>a.length<=v.length/\v.length<=a.length+3000):=by
 unfold Fn47
 refine Ob (Tn83_2 (by first|omega|(simp only[List.length_nil]at *;omega)) c) fun x4 b=>?_
 exact .mk (by omega)
theorem T145 {a:Zb}:Ok (F145 a) (fun _=>True):=by
 unfold F145
 exact .mk trivial
theorem T143_2 {j:List Zb} (e:j.length<=12):Ok (F143_2 j) (fun _=>True):=by
 unfold F143_2
 have g:=e
 refine lpT (l:=j) (fun q=>q) (Nat.lt_of_le_of_lt e (by decide)) rfl (fun i h x4 f a c b d=>?_) (fun x4 a=>?_) fun k=>?_
 .simp only[c,b,nt]
  refine obT (T145) fun m=>?_
  refine Oi (fun c1047=>?_) (fun c1047=>?_)
  .exact .mk trivial
  exact .mk d
 .simp only[a,nf]
  exact .mk trivial
 rcases k with n|_
 .exact .mk trivial
 .exact .mk trivial
theorem T90_2 {b:List Zb} (a:b.length<=12):Ok (F90_2 b) (fun _=>True):=by
 unfold F90_2
 refine obT (T143_2 a) fun c=>?_
 exact .mk trivial
theorem T95 {c:Ze} (b:c.sm):Ok (F95 c) (fun _=>True):=by
 unfold F95
 refine Ob (P:=fun r=>r=true->(c.Kind==1)=true) ?_ fun e a=>?_
 .refine Oi (fun c1050=>?_) (fun _=>.mk (fun h=>by cases h))
  refine obT (T90_2 b.Heads) fun d=>?_
  exact .mk (fun _=>c1050)
 exact .mk trivial
theorem T147 {b:Z0} {c d x4:Int} (e:b.sm):Ok (F147 b c d x4) (fun v=>v.length<=20/\(∀y∈v,y.sm)/\(v=[]\/∃x y z,lget b.Measures c=some x/\lget x.Cells d=some y/\lget y.Voices x4=some z/\v=z.Events)):=by
 unfold F147
 refine Ob (P:=fun r=>¬r=true->0<=c/\0<=d/\∃x,lget b.Measures c=some x/\d<(x.Cells.length:Int)) ?_ fun k i=>?_
 .refine Oi (fun _=>.mk (fun h=>absurd rfl h)) (fun hc=>?_)
  simp only[Bool.or_eq_true,decide_eq_true_eq,not_or]at hc
  exact Ok.bindE (bC (Q:=fun _=>True) (by omega) (by omega) (fun _ _ _=>trivial)) fun x a _=>.mk (fun h=>⟨by omega,by omega,x,a,by simp at h;omega⟩)
 refine Ob (P:=fun r=>¬r=true->∃x y,lget b.Measures c=some x/\lget x.Cells d=some y/\0<=x4/\x4<(y.Voices.length:Int)) ?_ fun l j=>?_
 .refine Oi (fun _=>.mk (fun h=>absurd rfl h)) (fun hc=>?_)
  simp only[Bool.or_eq_true,decide_eq_true_eq,not_or]at hc
  obtain⟨h0,h1,x,a,hs⟩:=i hc.1
  rw[a,Option.bind_some]
  exact Ok.bindE (bC (Q:=fun _=>True) h1 hs (fun _ _ _=>trivial)) fun y hy _=>.mk (fun h=>⟨x,y,rfl,hy,by omega,by simp at h;omega⟩)
 refine Oi (fun _=>.mk ⟨Nat.zero_le _,fun _ h=>(List.not_mem_nil h).elim,.inl rfl⟩) (fun hc=>?_)
 obtain⟨x,y,a,hy,h0,h1⟩:=j hc
 rw[a,Option.bind_some,hy,Option.bind_some]
 refine Ok.bindE (bC (Q:=fun _=>True) h0 h1 (fun _ _ _=>trivial)) fun z f _=>?_
 have g:=((e.MeasuresE x (cT a).2.2.1).CellsE y (cT hy).2.2.1).VoicesE z (cT f).2.2.1
 exact .mk ⟨g.Events,g.EventsE,.inr ⟨x,y,z,rfl,hy,f,rfl⟩⟩
theorem T146 {c:Z0} {a:Zp} (d:c.sm):Ok (F146 c a) (fun r=>r=0->a.Kind=4/\0<=a.Event/\∃l,F147 c a.Measure a.Staff a.Voice=some l/\a.Event<(l.length:Int)):=by
 unfold F146
 refine Oi (fun _=>.mk (fun h=>by cases h)) (fun hk=>?_)
 refine Ob (P:=fun r=>¬r=true->0<=a.Event/\∃l,F147 c a.Measure a.Staff a.Voice=some l/\a.Event<(l.length:Int)) (Oi (fun _=>.mk (fun h=>absurd rfl h)) (fun hc=>?_)) fun b hb=>?_
 .exact Ok.bindE (T147 d) fun l hl _=>.mk (fun h=>⟨by simpa using hc,l,hl,by simpa using h⟩)
 exact Oi (fun _=>.mk (fun h=>by cases h)) (fun hc=>.mk (fun _=>⟨by simpa using hk,hb hc⟩))
theorem T148 {a b:Int} {c x4:Int}:Ok (F148 a b c x4) (fun v=>v.Measure=a):=by
 unfold F148
 exact .mk (by rfl)
theorem T96 {d:Z0} {e:Zp} (b:d.sm):Ok (F96 d e) (fun v=>v.2=true->0<=e.Measure/\e.Measure<(d.Measures.length:Int)/\0<=v.1.Measure/\v.1.Measure<(d.Measures.length:Int)):=by
 unfold F96
 refine Ob (T146 b) fun c hc=>?_
 refine Oi (fun _=>.mk (fun h=>by cases h)) (fun hd=>?_)
 obtain⟨hk,h0,l,hl,j⟩:=hc (by simpa using hd)
 have i:=(T147 b).of hl
 have f:0<=e.Measure/\e.Measure<(d.Measures.length:Int):=by
  rcases i.2.2 with h|⟨x,y,z,hx,_⟩
  .rw [h,List.length_nil]at j;omega
  .have:=cT hx;exact⟨this.1,this.2.1⟩
 rw[hl,Option.bind_some]
 refine Oi (fun _=>?_) (fun _=>?_)
 .exact Ob T148 fun a g=>.mk (fun _=>⟨f.1,f.2,by dsimp only;omega,by dsimp only;omega⟩)
 refine Ob (T147 b) fun k h2=>?_
 refine Oi (fun hc=>?_) (fun _=>.mk (fun h=>by cases h))
 refine Ob T148 fun a g=>.mk (fun _=>?_)
 dsimp only at g ⊢
 rcases h2.2.2 with h|⟨x,y,z,hx,_⟩
 .rw [h]at hc;simp at hc
 .have:=cT hx;rw[g];exact⟨f.1,f.2,this.1,this.2.1⟩
theorem T149 {b:Ze} (a:b.sm):Ok (F149 b) (fun v=>v.sm):=by
 unfold F149
 rw[mV (Nat.le_trans a.Heads (by decide)),mV (Nat.le_trans a.Graces (by decide)),mV (Nat.le_trans a.Lyrics (by decide))]
 exact .mk ⟨a.Heads,a.Graces,a.Lyrics,a.LyricsE⟩
theorem T97 {f:Z0} {g:Zp} (a:f.sm):Ok (F97 f g) (fun v=>v.1.sm):=by
 unfold F97
 refine Ob (T146 a) fun c hc=>?_
 refine Oi (fun _=>.mk ⟨Nat.zero_le _,Nat.zero_le _,Nat.zero_le _,fun _ h=>(List.not_mem_nil h).elim⟩) (fun hd=>?_)
 obtain⟨hk,h0,l,hl,d⟩:=hc (by simpa using hd)
 have b:=(T147 a).of hl
 rw[hl,Option.bind_some]
 exact Ob (bC (Q:=fun x=>x.sm) h0 d (fun x e _=>b.2.1 x e)) fun x e=>Ob (T149 e) fun y hy=>.mk hy
theorem T150 {a b:Zb}:Ok (F150 a b) (fun _=>True):=by
 unfold F150
 exact .mk trivial
theorem T143_3 {j:List Zb} {k:Zb} (e:j.length<=12):Ok (F143_3 j k) (fun _=>True):=by
 unfold F143_3
 have g:=e
 refine lpT (l:=j) (fun q=>q) (Nat.lt_of_le_of_lt e (by decide)) rfl (fun i h x5 f a c b d=>?_) (fun x5 a=>?_) fun m=>?_
 .simp only[c,b,nt]
  refine obT (T150) fun n=>?_
  refine Oi (fun c1064=>?_) (fun c1064=>?_)
  .exact .mk trivial
  exact .mk d
 .simp only[a,nf]
  exact .mk trivial
 rcases m with o|_
 .exact .mk trivial
 .exact .mk trivial
theorem T90_3 {b:List Zb} {c:Zb} (a:b.length<=12):Ok (F90_3 b c) (fun _=>True):=by
 unfold F90_3
 refine obT (T143_3 a) fun d=>?_
 exact .mk trivial
theorem T98 {p t:Ze} (g:p.sm) (m:t.sm):Ok (F98 p t) (fun _=>True):=by
 unfold F98
 refine Oi (fun c1066=>?_) (fun c1066=>?_)
 .exact .mk trivial
 have j:=g.Heads
 refine lpT (l:=p.Heads) (fun q=>q) (Nat.lt_of_le_of_lt g.Heads (by decide)) rfl (fun n e w i a c b d=>?_) (fun w a=>?_) fun s=>?_
 .simp only[c,b,nt]
  refine Ob (P:=fun r=>r=true->e.Tied=true) ?_ fun v f=>?_
  .refine Oi (fun c1079=>?_) (fun _=>.mk (fun h=>by cases h))
   refine Ob (P:=fun r=>r=true->(t.Kind==1)=true) ?_ fun u k=>?_
   .refine Oi (fun c1081=>?_) (fun _=>.mk (fun h=>by cases h))
    refine obT (T90_3 m.Heads) fun x=>?_
    exact .mk (fun _=>c1081)
   exact .mk (fun _=>c1079)
  refine Oi (fun c1083=>?_) (fun c1083=>?_)
  .have o:=f c1083
   exact .mk trivial
  exact .mk d
 .simp only[a,nf]
  exact .mk trivial
 rcases s with _|_
 .exact .mk trivial
 .exact .mk trivial
theorem T94 {i:Zp} {f:Ze} {g:Zk} (c:f.sm) (d:g.s'.sm):Ok (F94 i f g) (fun _=>True):=by
 unfold F94
 refine obT (T95 c) fun x4=>?_
 refine Oi (fun c1086=>?_) (fun c1086=>?_)
 .exact .mk trivial
 refine Ob (T96 d) fun⟨x5,k⟩ b=>?_
 try dsimp only at b
 refine Ob (T97 d) fun⟨l,m⟩ a=>?_
 try dsimp only at a
 refine Ob (P:=fun r=>¬r=true->¬(!k)=true) ?_ fun j e=>?_
 .refine Oi (fun _=>.mk (fun h=>absurd rfl h)) (fun c1090=>?_)
  refine obT (T98 c a) fun n=>?_
  exact .mk (fun _=>c1090)
 exact .mk trivial
theorem Tn83_3 {L:List Zv} {x2:Z0} {x3:Int} (e3:L.length+3000<=1000000) (C:x2.sm):Ok (Fn83_3 L x2 x3) (fun v=>L.length<=v.length/\v.length<=L.length+3000):=by
 unfold Fn83_3
 have U:=C.Measures
 refine Ob (P:=fun r=>L.length<=r.length/\r.length<=L.length+3000) (aP (l:=x2.Measures) (fun q=>q.1) (fun i q=>L.length<=q.2.length/\q.2.length<=L.length+i*300) (Nat.lt_of_le_of_lt C.Measures (by decide)) rfl (by dsimp only;omega) (fun b6 M q1103 Y G c t g a y=>?_) (fun q1103 c g=>?_)) fun e2 d3=>?_
 .obtain ⟨d0,D⟩:=q1103
  dsimp only at c t a y g
  simp only[t,a,nt]
  have n:=C.MeasuresE _ G
  have V:=n.Cells
  refine Ob (P:=fun r=>D.length<=r.length/\r.length<=D.length+300) (aP (l:=M.Cells) (fun q=>q.1) (fun i q=>D.length<=q.2.length/\q.2.length<=D.length+i*60) (Nat.lt_of_le_of_lt n.Cells (by decide)) rfl (by dsimp only;omega) (fun b7 N q1117 Z H d u h b z=>?_) (fun q1117 d h=>?_)) fun e1 d4=>?_
  .obtain ⟨d1,E⟩:=q1117
   dsimp only at d u b z h
   simp only[u,a,b,nt]
   have o:=n.CellsE _ H
   have W:=o.Voices
   refine Ob (P:=fun r=>E.length<=r.length/\r.length<=E.length+60) (aP (l:=N.Voices) (fun q=>q.1) (fun i q=>E.length<=q.2.length/\q.2.length<=E.length+i*20) (Nat.lt_of_le_of_lt o.Voices (by decide)) rfl (by dsimp only;omega) (fun b8 O q1131 a0 J e w j m A=>?_) (fun q1131 e j=>?_)) fun e0 d5=>?_
   .obtain ⟨d2,F⟩:=q1131
    dsimp only at e w m A j
    simp only[w,a,b,m,nt]
    have p:=o.VoicesE _ J
    have X:=p.Events
    refine Ob (P:=fun r=>F.length<=r.length/\r.length<=F.length+20) (aP (l:=O.Events) (fun q=>q.1) (fun i q=>F.length<=q.2.length/\q.2.length<=F.length+i*1) (Nat.lt_of_le_of_lt p.Events (by decide)) rfl (by dsimp only;omega) (fun b9 b4 q1145 b0 K f x k s B=>?_) (fun q1145 f k=>?_)) fun d9 d6=>?_
    .obtain ⟨S,T⟩:=q1145
     dsimp only at f x s B k
     simp only[x,a,b,m,s,nt]
     have R:=p.EventsE _ K
     refine obT (T94 R C) fun d7=>?_
     refine Ob (Tn66 (by first|omega|(simp only[List.length_nil]at *;omega)) C) fun d8 b5=>?_
     exact .mk ⟨B,by dsimp only;omega⟩
    .obtain ⟨S,T⟩:=q1145
     dsimp only at f k
     simp only[f,nf]
     exact .mk (by dsimp only;omega)
    exact .mk ⟨A,by dsimp only;omega⟩
   .obtain ⟨d2,F⟩:=q1131
    dsimp only at e j
    simp only[e,nf]
    exact .mk (by dsimp only;omega)
   exact .mk ⟨z,by dsimp only;omega⟩
  .obtain ⟨d1,E⟩:=q1117
   dsimp only at d h
   simp only[d,nf]
   exact .mk (by dsimp only;omega)
  exact .mk ⟨y,by dsimp only;omega⟩
 .obtain ⟨d0,D⟩:=q1103
  dsimp only at c g
  simp only[c,nf]
  exact .mk (by dsimp only;omega)
 exact .mk (by omega)
theorem Tn48 {a:List Zv} {d:Z0} {f:Int} (e:a.length+3000<=1000000) (c:d.sm):Ok (Fn48 a d f) (fun v=>a.length<=v.length/\v.length<=a.length+3000):=by
 unfold Fn48
 refine Ob (Tn83_3 (by first|omega|(simp only[List.length_nil]at *;omega)) c) fun x4 b=>?_
 exact .mk (by omega)
theorem T151 {a:Ze} {c:Int} (d:a.sm) (e:0<=c):Ok (F151 a c) (fun v=>v=false->c<(a.Lyrics.length:Int)):=by
 unfold F151
 refine Ob (P:=fun r=>r=false->c<(a.Lyrics.length:Int)) (Oi (fun _=>.mk (fun h=>by cases h)) (fun hc=>?_)) fun b hb=>.mk hb
 simp only[decide_eq_true_eq]at hc
 exact Ob (bC (Q:=fun _=>True) e (by omega) (fun _ _ _=>trivial)) fun y _=>.mk (fun _=>by omega)
theorem Tn99 {o p v:Int} {x4:List (Zp×Bool)} {x5:List Zv} {s:Z0} {D:Int} (A:x5.length+0<=1000000) (d:s.sm) (C:0<=o) (hy:0<=p) (t:0<=v):Ok (Fn99 o p v x4 x5 s D) (fun _=>True):=by
 unfold Fn99
 have F:=d.Measures
 refine Ob (P:=fun _=>True) (aP (l:=s.Measures) (fun q=>q.1) (fun _ _=>True) (by omega) rfl trivial (fun i e q _ g hi hl _ hg hw=>?_) (fun q hi _=>?_)) fun⟨a1,a2,a3,a4,a5,a6,a7⟩ _=>?_
 .obtain ⟨x,k,st,m,n,ev,y,l⟩:=q
  dsimp only at hi hl hg hw
  simp only[hl,hg,nt]
  refine Ob (P:=fun r=>¬r=true->∃y,lget e.Cells o=some y/\p<(y.Voices.length:Int)) (Oi (fun _=>.mk (fun h=>absurd rfl h)) (fun hc=>?_)) fun b hb=>?_
  .simp only[decide_eq_true_eq]at hc
   exact Ok.bindE (bC (Q:=fun _=>True) C (by omega) (fun _ _ _=>trivial)) fun y hy _=>.mk (fun h=>⟨y,hy,by simpa using h⟩)
  refine Oi (fun _=>.mk ⟨hw,trivial⟩) (fun hc=>?_)
  obtain⟨c,f,hv⟩:=hb hc
  rw[f,Option.bind_some]
  refine Ok.bindE (bC (Q:=fun _=>True) hy hv (fun _ _ _=>trivial)) fun z j _=>?_
  have u:=((d.MeasuresE e g).CellsE c (cT f).2.2.1).VoicesE z (cT j).2.2.1
  have E:=u.Events
  refine Ob (P:=fun _=>True) (aP (l:=z.Events) (fun q=>q.1) (fun _ _=>True) (by omega) rfl trivial (fun i e q _ g hi hl _ hg hw=>?_) (fun q hi _=>?_)) fun⟨a1,a2,a3,a4,a5,a6,a7⟩ _=>.mk ⟨hw,trivial⟩
  .obtain ⟨x,k,st,m,n,ev,y,l⟩:=q
   dsimp only at hi hl hg hw
   simp only[hl,hg,nt]
   refine Ob (T151 (u.EventsE e g) t) fun a B=>?_
   refine Oi (fun _=>.mk ⟨hw,trivial⟩) (fun hc=>?_)
   refine Ob (bC (Q:=fun _=>True) t (B (by simpa using hc)) (fun _ _ _=>trivial)) fun w _=>?_
   refine Ob (P:=fun _=>True) (Oi (fun _=>.mk trivial) (fun _=>.mk trivial)) fun _ _=>?_
   exact Ob (P:=fun _=>True) (Oi (fun _=>.mk trivial) (fun _=>.mk trivial)) fun _ _=>.mk ⟨hw,trivial⟩
  .obtain ⟨x,k,st,m,n,ev,y,l⟩:=q
   dsimp only at hi
   simp only[hi,nf]
   exact .mk trivial
 .obtain ⟨x,k,st,m,n,ev,y,l⟩:=q
  dsimp only at hi
  simp only[hi,nf]
  exact .mk trivial
 exact Ob (P:=fun _=>True) (Oi (fun _=>.mk trivial) (fun _=>.mk trivial)) fun _ _=>.mk trivial
theorem T100 {c:Zp} {a:Ze} {d:List (Zp×Bool)} (b:a.sm):Ok (F100 c a d) (fun _=>True):=by
 unfold F100
 exact .mk trivial
theorem Tn83_4 {x1:List (Zp×Bool)} {L:List Zv} {x3:Z0} {x4:Int} (e3:L.length+3000<=1000000) (F:x3.sm):Ok (Fn83_4 x1 L x3 x4) (fun v=>L.length<=v.length/\v.length<=L.length+3000):=by
 unfold Fn83_4
 have U:=F.Measures
 refine Ob (P:=fun r=>L.length<=r.length/\r.length<=L.length+3000) (aP (l:=x3.Measures) (fun q=>q.1) (fun i q=>L.length<=q.2.length/\q.2.length<=L.length+i*300) (Nat.lt_of_le_of_lt F.Measures (by decide)) rfl (by dsimp only;omega) (fun b6 M q1162 Y G c t g a y=>?_) (fun q1162 c g=>?_)) fun e2 d3=>?_
 .obtain ⟨d0,C⟩:=q1162
  dsimp only at c t a y g
  simp only[t,a,nt]
  have n:=F.MeasuresE _ G
  have V:=n.Cells
  refine Ob (P:=fun r=>C.length<=r.length/\r.length<=C.length+300) (aP (l:=M.Cells) (fun q=>q.1) (fun i q=>C.length<=q.2.length/\q.2.length<=C.length+i*60) (Nat.lt_of_le_of_lt n.Cells (by decide)) rfl (by dsimp only;omega) (fun b7 N q1176 Z H d u h b z=>?_) (fun q1176 d h=>?_)) fun e1 d4=>?_
  .obtain ⟨d1,D⟩:=q1176
   dsimp only at d u b z h
   simp only[u,a,b,nt]
   have o:=n.CellsE _ H
   have W:=o.Voices
   refine Ob (P:=fun r=>D.length<=r.length/\r.length<=D.length+60) (aP (l:=N.Voices) (fun q=>q.1) (fun i q=>D.length<=q.2.length/\q.2.length<=D.length+i*20) (Nat.lt_of_le_of_lt o.Voices (by decide)) rfl (by dsimp only;omega) (fun b8 O q1190 a0 J e w j m A=>?_) (fun q1190 e j=>?_)) fun e0 d5=>?_
   .obtain ⟨d2,E⟩:=q1190
    dsimp only at e w m A j
    simp only[w,a,b,m,nt]
    have p:=o.VoicesE _ J
    have X:=p.Events
    refine Ob (P:=fun r=>E.length<=r.length/\r.length<=E.length+20) (aP (l:=O.Events) (fun q=>q.1) (fun i q=>E.length<=q.2.length/\q.2.length<=E.length+i*1) (Nat.lt_of_le_of_lt p.Events (by decide)) rfl (by dsimp only;omega) (fun b9 b4 q1204 b0 K f x k s B=>?_) (fun q1204 f k=>?_)) fun d9 d6=>?_
    .obtain ⟨S,T⟩:=q1204
     dsimp only at f x s B k
     simp only[x,a,b,m,s,nt]
     have R:=p.EventsE _ K
     refine obT (T100 R) fun d7=>?_
     refine Ob (Tn66 (by first|omega|(simp only[List.length_nil]at *;omega)) F) fun d8 b5=>?_
     exact .mk ⟨B,by dsimp only;omega⟩
    .obtain ⟨S,T⟩:=q1204
     dsimp only at f k
     simp only[f,nf]
     exact .mk (by dsimp only;omega)
    exact .mk ⟨A,by dsimp only;omega⟩
   .obtain ⟨d2,E⟩:=q1190
    dsimp only at e j
    simp only[e,nf]
    exact .mk (by dsimp only;omega)
   exact .mk ⟨z,by dsimp only;omega⟩
  .obtain ⟨d1,D⟩:=q1176
   dsimp only at d h
   simp only[d,nf]
   exact .mk (by dsimp only;omega)
  exact .mk ⟨y,by dsimp only;omega⟩
 .obtain ⟨d0,C⟩:=q1162
  dsimp only at c g
  simp only[c,nf]
  exact .mk (by dsimp only;omega)
 exact .mk (by omega)
theorem Tn49 {b:List Zv} {f:Z0} {i:Int} (g:b.length+3000<=1000000) (a:f.sm):Ok (Fn49 b f i) (fun v=>b.length<=v.length/\v.length<=b.length+3000):=by
 unfold Fn49
 refine Ob (T73 a) fun n h=>?_
 refine Ob (P:=fun _=>True) (eU (fun q=>q.1) n (fun _=>True) h (by decide) trivial (fun q _ h1 h2=>?_)) fun m _=>?_
 .obtain ⟨x,l⟩:=q
  dsimp only at h1 h2 ⊢
  refine Oi (fun hc=>?_) (fun _=>.mk trivial)
  simp only[decide_eq_true_eq]at hc
  refine Ob (P:=fun _=>True) (eU (fun q=>q.1) 2 (fun _=>True) (by decide) (by dsimp only;omega) trivial (fun q _ c g2=>?_)) fun m _=>.mk ⟨hc,h2 hc,trivial⟩
  obtain⟨y,l⟩:=q
  dsimp only at c g2 ⊢
  refine Oi (fun hd=>?_) (fun _=>.mk trivial)
  simp only[decide_eq_true_eq]at hd
  refine Ob (P:=fun _=>True) (eU (fun q=>q.1) 4 (fun _=>True) (by decide) (by dsimp only;omega) trivial (fun q _ d e=>?_)) fun m _=>.mk ⟨hd,g2 hd,trivial⟩
  obtain⟨z,l⟩:=q
  dsimp only at d e ⊢
  refine Oi (fun he=>?_) (fun _=>.mk trivial)
  simp only[decide_eq_true_eq]at he
  exact Ob (Tn99 (by omega) a h1 c d) fun m _=>.mk ⟨he,e he,trivial⟩
 .exact Ob (Tn83_4 (by omega) a) fun v hv=>.mk (by omega)
theorem Tn121_2 {a:Z0} (b:a.sm):Ok (Fn121_2 a) (fun _=>True):=by
 unfold Fn121_2
 exact .mk trivial
theorem Ty184_13 {e f:Int} {g x4:Int} {x5 h i:Int} {c:Zj} {j:Bool} {a:Zp} {b:Zz} (d:c.sm):Ok (Fy184_13 e f g x4 x5 h i c j a b) (fun _=>True):=by
 unfold Fy184_13
 refine Oi (fun c1209=>?_) (fun c1209=>?_)
 .exact .mk trivial
 exact .mk trivial
theorem Ty184_13_2 {c d:Int} {e x4:Int} {x5 f g:Int} {h:Zf} {i:Bool} {a:Zp} {b:Zz}:Ok (Fy184_13_2 c d e x4 x5 f g h i a b) (fun _=>True):=by
 unfold Fy184_13_2
 refine Oi (fun c1210=>?_) (fun c1210=>?_)
 .exact .mk trivial
 exact .mk trivial
theorem Ty184_13_3 {e f:Int} {g x4:Int} {x5 h i:Int} {c:Zm} {j:Bool} {a:Zp} {b:Zz} (d:c.sm):Ok (Fy184_13_3 e f g x4 x5 h i c j a b) (fun _=>True):=by
 unfold Fy184_13_3
 refine Oi (fun c1211=>?_) (fun c1211=>?_)
 .exact .mk trivial
 exact .mk trivial
theorem Ty184_13_4 {e f:Int} {g x4:Int} {x5 h i:Int} {c:Ze} {j:Bool} {a:Zp} {b:Zz} (d:c.sm):Ok (Fy184_13_4 e f g x4 x5 h i c j a b) (fun _=>True):=by
 unfold Fy184_13_4
 refine Oi (fun c1212=>?_) (fun c1212=>?_)
 .exact .mk trivial
 exact .mk trivial
theorem Ty184_13_5 {c d:Int} {e x4:Int} {x5 f g:Int} {h:Zn} {i:Bool} {a:Zp} {b:Zz}:Ok (Fy184_13_5 c d e x4 x5 f g h i a b) (fun _=>True):=by
 unfold Fy184_13_5
 refine Oi (fun c1213=>?_) (fun c1213=>?_)
 .exact .mk trivial
 exact .mk trivial
theorem Tn166_2 {m:Z0} {Y:Bool} {Z:Zp} {x4:Zz} (g:m.sm):Ok (Fn166_2 m Y Z x4) (fun v=>match v with|.inl p=>p.Kind=4->0<=p.Event/\m.pl p.Measure p.Staff p.Voice|.inr _=>True):=by
 unfold Fn166_2
 have hP:=g.Parts
 have hM:=g.Measures
 have V:=g.Spanners
 refine Ob (P:=fun r=>match r with|.inl p=>p.1≠4|.inr _=>True) (aP (l:=m.Parts) (fun q=>q.2) (fun _ _=>True) (by omega) rfl trivial (fun i e q E C hi hl _ hg hw=>?_) (fun q hi _=>?_)) fun r hr=>?_
 .obtain ⟨s,x⟩:=q
  dsimp only at hi hl hg hw
  simp only[hl,hg,nt]
  refine Ob (Ty184_13 (g.PartsE e C)) fun r _=>?_
  rcases r with _|_
  .exact .mk (show(1:Int)≠4 by decide)
  have V:=(g.PartsE e C).Staves
  refine Ob (P:=fun _=>True) (aP (l:=e.Staves) (fun q=>q.2) (fun _ _=>True) (by omega) rfl trivial (fun i2 e2 q X W G B _ o D=>?_) (fun q hi _=>?_)) fun r _=>?_
  .obtain ⟨s,y⟩:=q
   dsimp only at G B o D
   simp only[B,o,nt]
   refine Ob Ty184_13_2 fun r _=>?_
   rcases r with _|_
   .exact .mk trivial
   .exact .mk ⟨D,trivial⟩
  .obtain ⟨s,y⟩:=q
   dsimp only at hi
   simp only[hi,nf]
   exact .mk trivial
  rcases r with⟨a,b⟩|a
  .exact .mk (show(2:Int)≠4 by decide)
  .exact .mk ⟨hw,trivial⟩
 .obtain ⟨s,y⟩:=q
  dsimp only at hi
  simp only[hi,nf]
  exact .mk trivial
 rcases r with⟨k,p,st⟩|_
 .exact .mk (fun h=>absurd h hr)
 refine Ob (P:=fun r=>match r with|.inl p=>p.1=4->0<=p.2.2.2.2/\m.pl p.2.2.1 p.2.1 p.2.2.2.1|.inr _=>True) (aP (l:=m.Measures) (fun q=>q) (fun _ _=>True) (by omega) rfl trivial (fun i e q E C hi hl _ hg hw=>?_) (fun q hi _=>?_)) fun r hr=>?_
 .simp only[hl,hg,nt]
  have S:=g.MeasuresE e C
  have hC:=S.Cells
  refine Ob (Ty184_13_3 S) fun r _=>?_
  rcases r with _|_
  .exact .mk (fun h=>absurd (show(3:Int)=4 from h) (by decide))
  refine Ob (P:=fun r=>match r with|.inl p=>0<=p.2.2/\m.pl q p.1 p.2.1|.inr _=>True) (aP (l:=e.Cells) (fun q=>q) (fun _ _=>True) (by omega) rfl trivial (fun j c w E K hj hlc _ z N=>?_) (fun q hi _=>?_)) fun r hr=>?_
  .simp only[hlc,z,nt]
   have T:=S.CellsE c K
   have hV:=T.Voices
   refine Ob (P:=fun r=>match r with|.inl p=>0<=p.2/\m.pl q w p.1|.inr _=>True) (aP (l:=c.Voices) (fun q=>q) (fun _ _=>True) (by omega) rfl trivial (fun k v u E M hk J _ A R=>?_) (fun q hi _=>?_)) fun r hr=>?_
   .simp only[J,A,nt]
    have U:=T.VoicesE v M
    have hE:=U.Events
    refine Ob (P:=fun r=>match r with|.inl x=>0<=x|.inr _=>True) (aP (l:=v.Events) (fun q=>q) (fun _ _=>True) (by omega) rfl trivial (fun n ev t E L ht H _ F O=>?_) (fun q hi _=>?_)) fun r hr=>?_
    .simp only[H,F,nt]
     refine Ob (Ty184_13_4 (U.EventsE ev L)) fun r _=>?_
     rcases r with _|_
     .exact .mk (show(0:Int)<=t by omega)
     .exact .mk ⟨O,trivial⟩
    .simp only[hi,nf]
     exact .mk trivial
    rcases r with x|_
    .exact .mk ⟨hr,e,c,v,hg,z,A⟩
    .exact .mk ⟨R,trivial⟩
   .simp only[hi,nf]
    exact .mk trivial
   rcases r with⟨a,b⟩|_
   .exact .mk hr
   .exact .mk ⟨N,trivial⟩
  .simp only[hi,nf]
   exact .mk trivial
  rcases r with⟨a,b,c⟩|_
  .exact .mk (fun _=>hr)
  .exact .mk ⟨hw,trivial⟩
 .simp only[hi,nf]
  exact .mk trivial
 rcases r with⟨a,b,c,d,f⟩|_
 .exact .mk hr
 refine Ob (P:=fun _=>True) (aP (l:=m.Spanners) (fun q=>q) (fun _ _=>True) (by omega) rfl trivial (fun i e q E C hi hl _ hg hw=>?_) (fun q hi _=>?_)) fun r hr=>?_
 .simp only[hl,hg,nt]
  refine Ob Ty184_13_5 fun r _=>?_
  rcases r with _|_
  .exact .mk trivial
  .exact .mk ⟨hw,trivial⟩
 .simp only[hi,nf]
  exact .mk trivial
 rcases r with x|_
 .exact .mk (fun h=>absurd (show(5:Int)=4 from h) (by decide))
 .exact .mk trivial
theorem T184 {b:Z0} {c:Zz} (a:b.sm):Ok (F184 b c) (fun v=>v.2=true->v.1.Kind=4->0<=v.1.Event/\b.pl v.1.Measure v.1.Staff v.1.Voice):=by
 unfold F184
 refine Oi (fun _=>.mk (fun h=>by cases h)) (fun _=>?_)
 refine Ob (Tn121_2 a) fun _ _=>?_
 refine Ob (Tn166_2 a) fun r hr=>?_
 rcases r with p|_
 .exact .mk (fun _=>hr)
 .exact .mk (fun h=>by cases h)
theorem T195 {a:List Int} (c:a.length<=20):Ok (F195 a) (fun _=>True):=by
 unfold F195
 refine Ob (jE (by omega) (by omega) (by omega)) fun h h2=>?_
 refine Ob (P:=fun v=>v.length=a.length) (eU (fun q=>q.1) (a.length:Int) (fun q=>q.2.length=a.length) (by omega) (by dsimp only;omega) (by rw[h2];simp) (fun q b h1 h2=>?_)) fun v hv=>.mk trivial
 obtain⟨i,l⟩:=q
 dsimp only at b h1 h2 ⊢
 refine Oi (fun hc=>?_) (fun _=>.mk b)
 simp only[decide_eq_true_eq]at hc
 rw[aY (n:=i-1) (by omega) (by omega)]
 refine Ob (bK (by omega) (by omega)) fun j e=>?_
 refine Ob (bR (by omega)) fun x _=>?_
 refine Ob (bC (Q:=fun _=>True) (by omega) (by omega) (fun _ _ _=>trivial)) fun y _=>?_
 refine Ob (bK (by omega) (by omega)) fun g d=>?_
 exact Ob (aO1 (by omega)) fun m f=>.mk ⟨hc,h2 hc,by dsimp only;omega⟩
theorem T185 {c:Zo} {d:Int} (b:c.sm):Ok (F185 c d) (fun _=>True):=by
 unfold F185
 refine Ob (T171 b) fun⟨e,x4⟩ a=>?_
 try dsimp only at a
 refine Oi (fun c1215=>?_) (fun c1215=>?_)
 .exact .mk trivial
 refine obT (T195 a) fun x5=>?_
 exact .mk trivial
theorem T152 {i:Zk} {k:Zz} (c:i.s'.sm):Ok (F152 i k) (fun _=>True):=by
 unfold F152
 refine Ob (T184 c) fun⟨p,f⟩ hp=>?_
 dsimp only at hp
 refine Oi (fun _=>.mk trivial) (fun hc=>?_)
 simp only[Bool.or_eq_true,not_or,Bool.not_eq_true',Bool.not_eq_false,bne_iff_ne,ne_eq,Decidable.not_not]at hc
 obtain⟨h0,x,y,z,d,hy,g⟩:=hp hc.1 hc.2
 simp only[d,hy,g,Option.bind_some]
 have h:=c.MeasuresE x (cT d).2.2.1
 have j:=(h.CellsE y (cT hy).2.2.1).VoicesE z (cT g).2.2.1
 refine Ob (T33 h) fun⟨a,b⟩ _=>?_
 refine Ob (T185 j) fun⟨on,e⟩ _=>?_
 refine Oi (fun _=>.mk trivial) (fun hd=>?_)
 simp only[decide_eq_true_eq]at hd
 exact Ob (bC (Q:=fun _=>True) h0 (by dsimp only at hd ⊢;omega) (fun _ _ _=>trivial)) fun w _=>.mk trivial
theorem T196 {a b:Int}:Ok (F196 a b) (fun _=>True):=by
 unfold F196
 exact .mk trivial
theorem T186 {g:Zq}:Ok (F186 g) (fun _=>True):=by
 unfold F186
 refine obT (T196) fun i=>?_
 refine Ob (P:=fun r=>r=true->i=true) ?_ fun x4 a=>?_
 .refine Oi (fun c1219=>?_) (fun _=>.mk (fun h=>by cases h))
  refine obT (T196) fun k=>?_
  exact .mk (fun _=>c1219)
 refine Ob (P:=fun r=>r=true->x4=true) ?_ fun j b=>?_
 .refine Oi (fun c1222=>?_) (fun _=>.mk (fun h=>by cases h))
  have e:=a c1222
  refine obT (T196) fun x5=>?_
  exact .mk (fun _=>c1222)
 refine Ob (P:=fun r=>r=true->j=true) ?_ fun m d=>?_
 .refine Oi (fun c1226=>?_) (fun _=>.mk (fun h=>by cases h))
  have c:=b c1226
  have f:=a c
  refine obT (T196) fun l=>?_
  exact .mk (fun _=>c1226)
 exact .mk trivial
theorem T187 {a:Int}:Ok (F187 a) (fun _=>True):=by
 unfold F187
 exact .mk trivial
theorem T114 {a:Int}:Ok (F114 a) (fun _=>True):=by
 unfold F114
 exact .mk trivial
theorem T198 {a b:Int}:Ok (F198 a b) (fun _=>True):=by
 unfold F198
 refine obT (T114) fun c=>?_
 refine obT (T114) fun x4=>?_
 refine Oi (fun c1232=>?_) (fun c1232=>?_)
 .refine Oi (fun c1233=>?_) (fun c1233=>?_)
  .exact .mk trivial
  exact .mk trivial
 refine Oi (fun c1234=>?_) (fun c1234=>?_)
 .exact .mk trivial
 refine Oi (fun c1235=>?_) (fun c1235=>?_)
 .exact .mk trivial
 refine Oi (fun c1236=>?_) (fun c1236=>?_)
 .exact .mk trivial
 exact .mk trivial
theorem T197 {j:List Int} (e:j.length<=20):Ok (F197 j) (fun _=>True):=by
 unfold F197
 have g:=e
 refine lpT (l:=j) (fun q=>q) (Nat.lt_of_le_of_lt e (by decide)) rfl (fun i h k f a c b d=>?_) (fun k a=>?_) fun m=>?_
 .simp only[c,b,nt]
  refine Oi (fun c1248=>?_) (fun c1248=>?_)
  .exact .mk trivial
  exact .mk d
 .simp only[a,nf]
  exact .mk trivial
 rcases m with x5|_
 .exact .mk trivial
 .exact .mk trivial
theorem T188 {a b:Zq}:Ok (F188 a b) (fun _=>True):=by
 unfold F188
 refine obT (T198) fun c=>?_
 refine obT (T198) fun x4=>?_
 refine obT (T197 (by simp)) fun x5=>?_
 exact .mk trivial
theorem T153 {e:Zs}:Ok (F153 e) (fun _=>True):=by
 unfold F153
 refine Oi (fun c1252=>?_) (fun c1252=>?_)
 .exact .mk trivial
 refine obT (T186) fun f=>?_
 refine Ob (P:=fun r=>¬r=true->¬(!f)=true) ?_ fun x4 a=>?_
 .refine Oi (fun _=>.mk (fun h=>absurd rfl h)) (fun c1255=>?_)
  refine obT (T186) fun g=>?_
  exact .mk (fun _=>c1255)
 refine Oi (fun c1257=>?_) (fun c1257=>?_)
 .exact .mk trivial
 have c:=a c1257
 refine Ob (P:=fun r=>¬r=true->¬(e.From.Staff !=e.To.Staff)=true) ?_ fun i b=>?_
 .refine Oi (fun _=>.mk (fun h=>absurd rfl h)) (fun c1260=>?_)
  refine obT (T187) fun x5=>?_
  exact .mk (fun _=>c1260)
 refine Oi (fun c1262=>?_) (fun c1262=>?_)
 .exact .mk trivial
 have d:=b c1262
 refine obT (T188) fun j=>?_
 refine Oi (fun c1265=>?_) (fun c1265=>?_)
 .exact .mk trivial
 exact .mk trivial
theorem Tn101 {j:List Zv} {d:Z0} {m:Int} (k:j.length+0<=1000000) (c:d.sm):Ok (Fn101 j d m) (fun v=>v.1.length=d.Spanners.length/\v.2.length=d.Spanners.length):=by
 unfold Fn101
 have p:=c.Spanners
 refine Ob (P:=fun v=>v.1.length=d.Spanners.length/\v.2.length=d.Spanners.length) (aP (l:=d.Spanners) (fun q=>q.1) (fun i q=>q.2.1.length=i/\q.2.2.length=i) (by omega) rfl ⟨rfl,rfl⟩ (fun i e q s r hi hl f hg hw=>?_) (fun q hi f=>?_)) fun⟨a,b⟩ hv=>.mk hv
 .obtain ⟨x,g,h⟩:=q
  dsimp only at hi hl f hg hw
  simp only[hl,hg,nt]
  refine Ob (T152 c) fun⟨p1,n⟩ _=>?_
  refine Ob (T152 c) fun⟨p2,o⟩ _=>?_
  refine Ob (cJ (Q:=fun v=>v.length=h.length+1) (by omega) (by simp)) fun t h1=>?_
  refine Ob (P:=fun _=>True) (Oi (fun _=>.mk trivial) (fun _=>Ob T153 fun _ _=>.mk trivial)) fun b _=>?_
  exact Ob (cJ (Q:=fun v=>v.length=g.length+1) (by omega) (by simp)) fun u h2=>.mk ⟨hw,by dsimp only;omega,by dsimp only;omega⟩
 .obtain ⟨x,g,h⟩:=q
  dsimp only at hi f
  simp only[hi,nf]
  exact .mk f
theorem Tn50 {c:List Zv} {h:Z0} {n:Int} (k:c.length+10<=1000000) (d:h.sm):Ok (Fn50 c h n) (fun v=>c.length<=v.length/\v.length<=c.length+10):=by
 unfold Fn50
 have o:=d.Spanners
 refine Ob (Tn101 (by omega) d) fun⟨a,b⟩ g=>?_
 dsimp only at g
 refine Ob (P:=fun v=>c.length<=v.length/\v.length<=c.length+10) (aP (l:=h.Spanners) (fun q=>q.1) (fun i q=>c.length<=q.2.length/\q.2.length<=c.length+i) (by omega) rfl (by dsimp only;omega) (fun i e q r p hi hl f hg hw=>?_) (fun q hi f=>?_)) fun v hv=>.mk (by omega)
 .obtain ⟨x,l⟩:=q
  dsimp only at hi hl f hg hw
  simp only[hl,hg,nt]
  refine Ob (bK (by omega) (by omega)) fun j m=>?_
  refine Ob (bR m.2) fun y _=>?_
  exact Ob (Tn66 (by omega) d) fun v hv=>.mk ⟨hw,by dsimp only;omega⟩
 .obtain ⟨x,l⟩:=q
  dsimp only at hi f
  simp only[hi,nf]
  exact .mk (by omega)
theorem T189 {b:Int}:Ok (F189 b) (fun v=>v>0->1<=b/\b<=7):=by
 unfold F189
 refine Oi (fun c1266=>?_) (fun c1266=>?_)
 .exact .mk (by omega)
 refine Ob (bC (Q:=fun _=>True) (by(simp only[nm]at *;rw[aY (by omega) (by omega)];omega)) (by(simp only[nm,nl]at *;rw[aY (by omega) (by omega)];omega)) (fun _ _ _=>trivial)) fun c a=>?_
 exact .mk (by(simp only[nm]at *;omega))
theorem T154 {a c:Zs}:Ok (F154 a c) (fun v=>v=true->1<=a.Kind/\a.Kind<=7):=by
 unfold F154
 refine Ob T189 fun f hf=>?_
 refine Ob (P:=fun r=>r=true->1<=a.Kind/\a.Kind<=7) (Oi (fun hc=>?_) (fun _=>.mk (fun h=>by cases h))) fun b hb=>?_
 .simp only[decide_eq_true_eq]at hc
  have:=hf hc
  exact Ob T189 fun _ _=>Ob T189 fun _ _=>.mk (fun _=>this)
 refine Ob (P:=fun r=>r=true->1<=a.Kind/\a.Kind<=7) (Oi (fun hc=>?_) (fun _=>.mk (fun h=>by cases h))) fun b hb=>.mk hb
 simp only[Bool.and_eq_true]at hc
 have:=hb hc.1
 exact Ob T187 fun _ _=>.mk (fun _=>this)
theorem T158 {b c:Zs}:Ok (F158 b c) (fun _=>True):=by
 unfold F158
 refine obT (T188) fun d=>?_
 refine Ob (P:=fun r=>¬r=true->¬(decide (d<0))=true) ?_ fun x5 a=>?_
 .refine Oi (fun _=>.mk (fun h=>absurd rfl h)) (fun c1270=>?_)
  refine obT (T188) fun x4=>?_
  exact .mk (fun _=>c1270)
 exact .mk trivial
theorem T157 {a b:Zs}:Ok (F157 a b) (fun _=>True):=by
 unfold F157
 refine obT (T158) fun c=>?_
 exact .mk trivial
theorem T156 {b c:Zs}:Ok (F156 b c) (fun _=>True):=by
 unfold F156
 refine obT (T188) fun d=>?_
 refine Ob (P:=fun r=>¬r=true->¬(decide (d<=0))=true) ?_ fun x5 a=>?_
 .refine Oi (fun _=>.mk (fun h=>absurd rfl h)) (fun c1275=>?_)
  refine obT (T188) fun x4=>?_
  exact .mk (fun _=>c1275)
 exact .mk trivial
theorem T155 {a b:Zs}:Ok (F155 a b) (fun _=>True):=by
 unfold F155
 refine obT (T156) fun c=>?_
 exact .mk trivial
theorem T190 {b c:Zs}:Ok (F190 b c) (fun _=>True):=by
 unfold F190
 refine obT (T188) fun d=>?_
 refine Ob (P:=fun r=>r=true->(decide (d>=0))=true) ?_ fun x5 a=>?_
 .refine Oi (fun c1280=>?_) (fun _=>.mk (fun h=>by cases h))
  refine obT (T188) fun x4=>?_
  exact .mk (fun _=>c1280)
 exact .mk trivial
theorem T159 {b c:Zs}:Ok (F159 b c) (fun _=>True):=by
 unfold F159
 refine obT (T156) fun d=>?_
 refine Ob (P:=fun r=>r=true->(!d)=true) ?_ fun e a=>?_
 .refine Oi (fun c1284=>?_) (fun _=>.mk (fun h=>by cases h))
  refine obT (T190) fun x4=>?_
  refine obT (T190) fun x5=>?_
  exact .mk (fun _=>c1284)
 exact .mk trivial
theorem T102 {a f:Zs}:Ok (F102 a f) (fun _=>True):=by
 unfold F102
 refine Ob T154 fun g hg=>?_
 refine Oi (fun _=>.mk trivial) (fun hc=>?_)
 have hk:=hg (by simpa using hc)
 rw[aY (n:=a.Kind-1) (by omega) (by omega)]
 refine Oi (fun _=>Ob T157 fun _ _=>.mk trivial) (fun e=>?_)
 refine Oi (fun _=>Ob T155 fun _ _=>.mk trivial) (fun d=>?_)
 refine Oi (fun _=>Ob T157 fun _ _=>.mk trivial) (fun c=>?_)
 refine Oi (fun _=>Ob T157 fun _ _=>.mk trivial) (fun b=>?_)
 refine Oi (fun _=>Ob T155 fun _ _=>.mk trivial) (fun h2=>?_)
 refine Oi (fun _=>Ob T155 fun _ _=>.mk trivial) (fun h1=>?_)
 refine Oi (fun _=>Ob T159 fun _ _=>.mk trivial) (fun h0=>?_)
 simp only[beq_iff_eq]at h0 h1 h2 b c d e
 omega
theorem Tn51 {c:List Zv} {o:Z0} {s:Int} (p:c.length+10<=1000000) (d:o.sm):Ok (Fn51 c o s) (fun v=>c.length<=v.length/\v.length<=c.length+10):=by
 unfold Fn51
 have t:=d.Spanners
 refine Ob (Tn101 (by omega) d) fun⟨a,b⟩ m=>?_
 dsimp only at m
 refine Ob (P:=fun v=>c.length<=v.length/\v.length<=c.length+10) (aP (l:=o.Spanners) (fun q=>q.1) (fun i q=>c.length<=q.2.length/\q.2.length<=c.length+i) (by omega) rfl (by dsimp only;omega) (fun i e q w u hi hl g hg hw=>?_) (fun q hi g=>?_)) fun v hv=>.mk (by omega)
 .obtain ⟨x,l⟩:=q
  dsimp only at hi hl g hg hw
  simp only[hl,hg,nt]
  refine Ob (P:=fun _=>True) (eU (fun q=>q.2) x (fun _=>True) (by omega) (by dsimp only;omega) trivial (fun q _ h1 h2=>?_)) fun b _=>?_
  .obtain ⟨ex,k⟩:=q
   dsimp only at h1 h2 ⊢
   refine Ob (P:=fun r=>r=true->k<x) (Oi (fun hc=>?_) (fun _=>.mk (fun h=>by cases h))) fun b hb=>?_
   .simp only[decide_eq_true_eq]at hc
    exact Ob (bK (by omega) (by omega)) fun j f=>Ob (bR f.2) fun y _=>.mk (fun _=>hc)
   refine Oi (fun hc=>?_) (fun _=>.mk trivial)
   simp only[Bool.and_eq_true]at hc
   have hk:=hb hc.1
   refine Ob (bK (by omega) (by omega)) fun j f=>Ob (bR f.2) fun y _=>?_
   refine Ob (P:=fun _=>True) (Oi (fun _=>?_) (fun _=>.mk trivial)) fun b _=>.mk ⟨hk,h2 hk,trivial⟩
   exact Ob (bK (by omega) (by omega)) fun j f=>Ob (bR f.2) fun A _=>Ob (bK (by omega) (by omega)) fun z n=>Ob (bR n.2) fun B _=>Ob T102 fun b _=>.mk trivial
  exact Ob (Tn66 (by omega) d) fun v hv=>.mk ⟨hw,by dsimp only;omega⟩
 .obtain ⟨x,l⟩:=q
  dsimp only at hi g
  simp only[hi,nf]
  exact .mk (by omega)
theorem T103 {d:Int} {a:Zm} (c:a.sm):Ok (F103 d a) (fun v=>v=false->a.RepeatEnd<=8):=by
 unfold F103
 simp only[E103,Option.bind_some]
 refine Ob (P:=fun r=>r=false->a.RepeatEnd<=8) (Oi (fun hc=>.mk (fun h=>?_)) (fun hc=>.mk (fun _=>?_))) fun b hb=>?_
 .simp at h;omega
 .simp at hc;omega
 exact Ob (P:=fun r=>r=false->a.RepeatEnd<=8) (Oi (fun hc=>.mk (fun h=>by cases h)) (fun hc=>.mk (fun _=>hb (by simpa using hc)))) fun b hb=>.mk hb
theorem Tn74_6 {a:List Zv} {d:Z0} {s:Int} (p:a.length+10<=1000000) (f:d.sm):Ok (Fn74_6 a d s) (fun v=>(a.length<=v.length/\v.length<=a.length+10)/\(v.length<=a.length->∀m∈d.Measures,m.RepeatEnd<=8)):=by
 unfold Fn74_6
 have t:=f.Measures
 refine Ob (P:=fun v=>(a.length<=v.length/\v.length<=a.length+10)/\(v.length<=a.length->∀m∈d.Measures,m.RepeatEnd<=8)) (aP (l:=d.Measures) (fun q=>q.1) (fun i q=>q.2.length<=a.length+i/\a.length<=q.2.length/\(q.2.length<=a.length->∀j,j<i->∀m,d.Measures[j]? =some m->m.RepeatEnd<=8)) (by omega) rfl ⟨by dsimp only;omega,Nat.le_refl _,fun _ j k=>by omega⟩ (fun i e q r o hi hl g hg hw=>?_) (fun q hi g=>?_)) fun v hv=>.mk hv
 .obtain ⟨x,l⟩:=q
  dsimp only at hi hl g hg hw
  simp only[hl,hg,nt]
  refine Ob (T103 (f.MeasuresE e o)) fun b hb=>?_
  refine Ob (S101 (by omega)) fun v hv=>.mk ⟨hw,?_,?_,fun h j k m c=>?_⟩
  .dsimp only;cases b<;>simp at hv<;>omega
  .dsimp only;cases b<;>simp at hv<;>omega
  .dsimp only at h
   cases b with
   |true=>simp at hv;omega
   |false=>
    simp only[Bool.false_eq_true,false_implies,forall_const,true_and]at hv
    by_cases n:j=i
    .subst n;rw[r]at c;cases c;exact hb rfl
    .exact g.2.2 (by omega) j (by omega) m c
 .obtain ⟨x,l⟩:=q
  dsimp only at hi g
  simp only[hi,nf]
  refine .mk ⟨⟨by omega,by omega⟩,fun h m o=>?_⟩
  obtain⟨j,k⟩:=List.mem_iff_getElem?.1 o
  exact g.2.2 h j (List.getElem?_eq_some_iff.1 k).1 m k
theorem T200 {e:Int}:Ok (F200 e) (fun v=>0<=v/\v<=1000):=by
 unfold F200
 refine Ob (P:=fun v=>0<=v.2/\v.2<=32) (Oi (fun _=>Ob (mT (by decide)) fun n _=>.mk (by dsimp only;omega)) (fun _=>.mk (by dsimp only;omega))) fun⟨h,x4⟩ c=>?_
 dsimp only at c
 refine Ob (P:=fun v=>0<=v.2/\v.2<=48) (Oi (fun _=>Ob (mT (by decide)) fun n _=>.mk (by dsimp only;rw[aY (by omega) (by omega)];omega)) (fun _=>.mk (by dsimp only;omega))) fun⟨i,j⟩ d=>?_
 dsimp only at d
 refine Ob (P:=fun v=>0<=v.2/\v.2<=56) (Oi (fun _=>Ob (mT (by decide)) fun n _=>.mk (by dsimp only;rw[aY (by omega) (by omega)];omega)) (fun _=>.mk (by dsimp only;omega))) fun⟨g,f⟩ a=>?_
 dsimp only at a
 have hw:=iW1 g
 refine Ob (mU hw.1 hw.2) fun b hb=>.mk ?_
 rw[aY (n:=b) (by omega) (by omega),aY (by omega) (by omega)]
 omega
theorem T191 {b:Int}:Ok (F191 b) (fun v=>0<=v/\v<=1000):=by
 unfold F191
 refine Ob (T200) fun c a=>?_
 exact .mk (by omega)
theorem T105 {c:Zg} (d:c.passes<=1000):Ok (F105 c) (fun _=>True):=by
 unfold F105
 refine Ob (P:=fun r=>r=true->(decide (c.passes>0))=true) ?_ fun f a=>?_
 .refine Oi (fun c1289=>?_) (fun _=>.mk (fun h=>by cases h))
  refine Ob (aN1 (by(simp only[nm]at *;rw[aY (by omega) (by omega)];omega))) fun e b=>?_
  exact .mk (fun _=>c1289)
 exact .mk trivial
theorem T160 {a:Zg} {f:Zm} (x:f.sm) (F:a.passes<=8) (hy:f.RepeatEnd<=8):Ok (F160 a f) (fun v=>v.1.passes<=8):=by
 unfold F160
 refine Oi (fun c1291=>?_) (fun c1291=>?_)
 .exact .mk (by omega)
 refine Oi (fun c1292=>?_) (fun c1292=>?_)
 .refine Oi (fun c1293=>?_) (fun c1293=>?_)
  .exact .mk (by omega)
  refine Ob (T191) fun w g=>?_
  refine Oi (fun c1295=>?_) (fun c1295=>?_)
  .refine Oi (fun c1296=>?_) (fun c1296=>?_)
   .exact .mk (by omega)
   refine Oi (fun c1297=>?_) (fun c1297=>?_)
   .refine obT (T105 (by(simp only[nm]at *;omega))) fun x4=>?_
    refine Ob (P:=fun r=>¬r=true->¬(x4||((a.passes !=0)&&(f.RepeatEnd !=a.passes)))=true) ?_ fun G b=>?_
    .refine Oi (fun _=>.mk (fun h=>absurd rfl h)) (fun c1300=>?_)
     refine Ob (T191) fun x5 i=>?_
     exact .mk (fun _=>c1300)
    refine Oi (fun c1302=>?_) (fun c1302=>?_)
    .exact .mk (by omega)
    have o:=b c1302
    exact .mk (by omega)
   exact .mk (by omega)
  refine Ob (P:=fun r=>¬r=true->¬(decide ((w64 (w-1))>=a.passes))=true) ?_ fun z c=>?_
  .refine Oi (fun _=>.mk (fun h=>absurd rfl h)) (fun c1305=>?_)
   refine Ob (P:=fun r=>r=true->((w64 (w-1))==(w64 (a.passes-1)))=true) ?_ fun y j=>?_
   .refine Oi (fun c1307=>?_) (fun _=>.mk (fun h=>by cases h))
    refine obT (T105 (by(simp only[nm]at *;omega))) fun E=>?_
    refine Ob (P:=fun r=>¬r=true->¬(!E)=true) ?_ fun J k=>?_
    .refine Oi (fun _=>.mk (fun h=>absurd rfl h)) (fun c1310=>?_)
     refine Ob (aN1 (by(simp(disch:=omega) only[aY,nm]at *;omega))) fun H l=>?_
     exact .mk (fun _=>c1310)
    exact .mk (fun _=>c1307)
   exact .mk (fun _=>c1305)
  refine Oi (fun c1312=>?_) (fun c1312=>?_)
  .exact .mk (by omega)
  have p:=c c1312
  refine Oi (fun c1314=>?_) (fun c1314=>?_)
  .refine obT (T105 (by(simp only[nm]at *;omega))) fun t=>?_
   refine Ob (P:=fun r=>¬r=true->¬(t||((a.passes !=0)&&(f.RepeatEnd !=a.passes)))=true) ?_ fun B d=>?_
   .refine Oi (fun _=>.mk (fun h=>absurd rfl h)) (fun c1317=>?_)
    refine Ob (T191) fun A m=>?_
    exact .mk (fun _=>c1317)
   refine Oi (fun c1319=>?_) (fun c1319=>?_)
   .exact .mk (by omega)
   have q:=d c1319
   exact .mk (by omega)
  exact .mk (by omega)
 refine Oi (fun c1321=>?_) (fun c1321=>?_)
 .exact .mk (by omega)
 refine Oi (fun c1322=>?_) (fun c1322=>?_)
 .refine obT (T105 (by omega)) fun u=>?_
  refine Ob (P:=fun r=>¬r=true->¬(u||((a.passes !=0)&&(f.RepeatEnd !=a.passes)))=true) ?_ fun D e=>?_
  .refine Oi (fun _=>.mk (fun h=>absurd rfl h)) (fun c1325=>?_)
   refine Ob (T191) fun C n=>?_
   exact .mk (fun _=>c1325)
  refine Oi (fun c1327=>?_) (fun c1327=>?_)
  .exact .mk (by omega)
  have s:=e c1327
  exact .mk (by omega)
 exact .mk (by omega)
theorem T104 {i:Zg} {e:Zm} (d:e.sm) (c:i.passes<=8) (hy:e.RepeatEnd<=8):Ok (F104 i e) (fun v=>v.1.passes<=8):=by
 unfold F104
 refine Oi (fun _=>Ob (T160 d c hy) fun⟨a,b⟩ h=>.mk h) (fun _=>?_)
 refine Oi (fun _=>?_) (fun _=>?_)
 .refine Ob (T105 (by omega)) fun f _=>?_
  refine Oi (fun _=>.mk c) (fun _=>?_)
  refine Oi (fun _=>Oi (fun h=>by cases h) (fun _=>?_)) (fun _=>?_)
  .exact Ob (P:=fun _=>True) (Oi (fun _=>.mk trivial) (fun _=>.mk trivial)) fun⟨a,b⟩ _=>.mk (show(0:Int)<=8 by decide)
  .exact Ob (P:=fun _=>True) (Oi (fun _=>.mk trivial) (fun _=>.mk trivial)) fun a _=>.mk (show(0:Int)<=8 by decide)
 .refine Oi (fun _=>Oi (fun _=>.mk c) (fun _=>?_)) (fun _=>?_)
  .exact Ob (P:=fun _=>True) (Oi (fun _=>.mk trivial) (fun _=>.mk trivial)) fun⟨a,b⟩ _=>.mk (show(0:Int)<=8 by decide)
  .exact Ob (P:=fun g=>g.passes<=8) (Oi (fun _=>.mk (show(0:Int)<=8 by decide)) (fun _=>.mk c)) fun g hg=>.mk hg
theorem Tn52 {f:List Zv} {h:Z0} {t:Int} (m:f.length+21<=1000000) (c:h.sm) (s:0<h.Measures.length):Ok (Fn52 f h t) (fun v=>f.length<=v.length/\v.length<=f.length+21):=by
 unfold Fn52
 have u:=c.Measures
 refine Ob (Tn74_6 (by omega) c) fun x4 j=>?_
 refine Oi (fun _=>.mk (by omega)) (fun hc=>?_)
 simp only[decide_eq_true_eq]at hc
 have o:=j.2 (by omega)
 have n:=j.1
 refine Ob (P:=fun r=>match r with|.inl p=>x4.length<=p.2.length/\p.2.length<=x4.length+1|.inr g=>g.passes<=8) (aP (l:=h.Measures) (fun q=>q.1) (fun i q=>q.2.passes<=8) (by omega) rfl (show(0:Int)<=8 by decide) (fun i e q s k hi hl d hg hw=>?_) (fun q hi d=>?_)) fun r hr=>?_
 .obtain ⟨x,g⟩:=q
  dsimp only at hi hl d hg hw
  simp only[hl,hg,nt]
  refine Ob (T104 (c.MeasuresE e k) d (o e k)) fun⟨g2,b⟩ hb=>?_
  refine Oi (fun _=>?_) (fun _=>.mk ⟨hw,hb⟩)
  exact Ob (Tn66 (by omega) c) fun v hv=>.mk (by dsimp only;omega)
 .obtain ⟨x,g⟩:=q
  dsimp only at hi d
  simp only[hi,nf]
  exact .mk d
 rcases r with⟨a,v⟩|g
 .exact .mk (by dsimp only at hr;omega)
 dsimp only at hr
 refine Ob (P:=fun _=>True) (Oi (fun _=>.mk trivial) (fun _=>?_)) fun b _=>?_
 .exact Ob (P:=fun _=>True) (Oi (fun _=>Ob (T105 (by omega)) fun _ _=>.mk trivial) (fun _=>.mk trivial)) fun _ _=>.mk trivial
 refine Ob (bC (Q:=fun _=>True) (by rw[aY (by omega) (by omega)];omega) (by rw[aY (by omega) (by omega)];omega) (fun _ _ _=>trivial)) fun y _=>?_
 exact Ob (Tn66 (by omega) c) fun v hv=>.mk (by omega)
theorem T107 {a b:Zm} (c:a.sm) (d:b.sm):Ok (F107 a b) (fun _=>True):=by
 unfold F107
 exact .mk trivial
theorem T117 {j:List Zm} {o:Zm} (g:j.length<=10) (h:∀y∈j,y.sm) (m:o.sm):Ok (F117 j o) (fun _=>True):=by
 unfold F117
 have i:=g
 refine lpT (l:=j) (fun q=>q) (Nat.lt_of_le_of_lt g (by decide)) rfl (fun n k x5 d a c b e=>?_) (fun x5 a=>?_) fun p=>?_
 .simp only[c,b,nt]
  have f:=h _ d
  refine obT (T107 f m) fun r=>?_
  refine Oi (fun c1342=>?_) (fun c1342=>?_)
  .exact .mk trivial
  exact .mk e
 .simp only[a,nf]
  exact .mk trivial
 rcases p with s|_
 .exact .mk trivial
 .exact .mk trivial
theorem T108 {d:List Zm} {e:Zm} (b:d.length<=10) (a:∀y∈d,y.sm) (c:e.sm):Ok (F108 d e) (fun _=>True):=by
 unfold F108
 refine obT (T117 b a c) fun f=>?_
 exact .mk trivial
theorem T192 {a:Zm} {c:Int} (b:a.sm):Ok (F192 a c) (fun _=>True):=by
 unfold F192
 exact .mk trivial
theorem T117_2 {j:List Zm} {n:Int} (g:j.length<=10) (h:∀y∈j,y.sm):Ok (F117_2 j n) (fun _=>True):=by
 unfold F117_2
 have i:=g
 refine lpT (l:=j) (fun q=>q) (Nat.lt_of_le_of_lt g (by decide)) rfl (fun m k x5 d a c b e=>?_) (fun x5 a=>?_) fun o=>?_
 .simp only[c,b,nt]
  have f:=h _ d
  refine obT (T192 f) fun p=>?_
  refine Oi (fun c1357=>?_) (fun c1357=>?_)
  .exact .mk trivial
  exact .mk e
 .simp only[a,nf]
  exact .mk trivial
 rcases o with r|_
 .exact .mk trivial
 .exact .mk trivial
theorem T162 {b:Zk} {c:Int} (a:b.s'.sm):Ok (F162 b c) (fun _=>True):=by
 unfold F162
 refine obT (T117_2 a.Measures a.MeasuresE) fun d=>?_
 exact .mk trivial
theorem T161 {c:Int} {b:Zk} {d:Int} (a:b.s'.sm):Ok (F161 c b d) (fun _=>True):=by
 unfold F161
 refine obT (T162 a) fun x4=>?_
 refine obT (T68) fun x5=>?_
 exact .mk trivial
theorem T109 {e:Zk} {f k:Int} (a:e.s'.sm):Ok (F109 e f k) (fun _=>True):=by
 unfold F109
 refine Ob (P:=fun r=>r=true->(decide (f>=4))=true) ?_ fun x5 b=>?_
 .refine Oi (fun c1362=>?_) (fun _=>.mk (fun h=>by cases h))
  refine obT (T161 a) fun x4=>?_
  exact .mk (fun _=>c1362)
 refine Oi (fun c1364=>?_) (fun c1364=>?_)
 .have d:=b c1364
  exact .mk trivial
 refine obT ?_ fun m=>?_
 .refine Oi (fun c1367=>?_) (fun c1367=>?_)
  .exact .mk trivial
  exact .mk trivial
 refine Oi (fun c1368=>?_) (fun c1368=>?_)
 .refine obT (T161 a) fun n=>?_
  exact .mk trivial
 refine obT ?_ fun o=>?_
 .refine Oi (fun c1371=>?_) (fun c1371=>?_)
  .exact .mk trivial
  exact .mk trivial
 refine Oi (fun c1372=>?_) (fun c1372=>?_)
 .refine obT (T161 a) fun l=>?_
  refine Ob (P:=fun r=>r=true->l=true) ?_ fun j c=>?_
  .refine Oi (fun c1375=>?_) (fun _=>.mk (fun h=>by cases h))
   refine obT (T162 a) fun g=>?_
   refine obT (T162 a) fun i=>?_
   exact .mk (fun _=>c1375)
  exact .mk trivial
 exact .mk trivial
theorem T106 {e:Int} {h:Zm} {f:Zk} (d:h.sm) (a:f.s'.sm) (g:0<=e/\e<=(f.s'.Measures.length:Int)):Ok (F106 e h f) (fun _=>True):=by
 unfold F106
 refine Ob T68 fun w _=>?_
 refine Ob (P:=fun _=>True) (Oi (fun _=>.mk trivial) (fun _=>Ob T68 fun _ _=>.mk trivial)) fun b _=>?_
 refine Oi (fun _=>.mk trivial) (fun _=>?_)
 refine Ob (sK (by decide) g.1 g.2) fun l hl=>?_
 refine Ob (T108 (Nat.le_trans hl.1 a.Measures) (fun y hy=>a.MeasuresE y (hl.2 y hy)) d) fun c _=>?_
 exact Ob (P:=fun _=>True) (Oi (fun _=>.mk trivial) (fun _=>Ob (T109 a) fun _ _=>.mk trivial)) fun b _=>.mk trivial
theorem Tn74_7 {h:List Zv} {s:Z0} {z:Int} (u:h.length+10<=1000000) (f:s.sm):Ok (Fn74_7 h s z) (fun v=>h.length<=v.length/\v.length<=h.length+10):=by
 unfold Fn74_7
 have k:=f.Measures
 refine Ob (P:=fun r=>h.length<=r.length/\r.length<=h.length+10) (aP (l:=s.Measures) (fun q=>q.1) (fun i q=>h.length<=q.2.length/\q.2.length<=h.length+i*1) (Nat.lt_of_le_of_lt f.Measures (by decide)) rfl (by dsimp only;omega) (fun p n q1389 m g a d b c e=>?_) (fun q1389 a b=>?_)) fun y t=>?_
 .obtain ⟨A,B⟩:=q1389
  dsimp only at a d c e b
  simp only[d,c,nt]
  have j:=f.MeasuresE _ g
  refine obT (T106 j f (by(simp only[nm]at *;omega))) fun w=>?_
  refine Ob (Tn66 (by first|omega|(simp only[List.length_nil]at *;omega)) f) fun x o=>?_
  exact .mk ⟨e,by dsimp only;omega⟩
 .obtain ⟨A,B⟩:=q1389
  dsimp only at a b
  simp only[a,nf]
  exact .mk (by dsimp only;omega)
 exact .mk (by omega)
theorem Tn53 {a:List Zv} {d:Z0} {f:Int} (e:a.length+10<=1000000) (c:d.sm):Ok (Fn53 a d f) (fun v=>a.length<=v.length/\v.length<=a.length+10):=by
 unfold Fn53
 refine Ob (Tn74_7 (by first|omega|(simp only[List.length_nil]at *;omega)) c) fun x4 b=>?_
 exact .mk (by omega)
theorem T110 {E:Int} {m:Zm} (f:m.sm):Ok (F110 E m) (fun _=>True):=by
 unfold F110
 refine obT (T33 f) fun⟨N,x4⟩=>?_
 refine Ob (P:=fun r=>r=true->(m.Swing !=0)=true) ?_ fun M u=>?_
 .refine Oi (fun c1397=>?_) (fun _=>.mk (fun h=>by cases h))
  refine obT (T68) fun x5=>?_
  exact .mk (fun _=>c1397)
 refine Ob (P:=fun r=>¬r=true->¬M=true) ?_ fun R v=>?_
 .refine Oi (fun _=>.mk (fun h=>absurd rfl h)) (fun c1400=>?_)
  refine obT (T68) fun O=>?_
  exact .mk (fun _=>c1400)
 have p:=f.Tempi
 refine lpT (l:=m.Tempi) (fun q=>q.2) (Nat.lt_of_le_of_lt f.Tempi (by decide)) rfl (fun z t q1412 n a c b d=>?_) (fun q1412 a=>?_) fun L=>?_
 .obtain ⟨j,k⟩:=q1412
  dsimp only at a c b d
  simp only[c,b,nt]
  refine Ob (P:=fun r=>¬r=true->¬j=true) ?_ fun C e=>?_
  .refine Oi (fun _=>.mk (fun h=>absurd rfl h)) (fun c1415=>?_)
   refine obT (T68) fun F=>?_
   exact .mk (fun _=>c1415)
  refine Ob (P:=fun r=>¬r=true->¬C=true) ?_ fun D g=>?_
  .refine Oi (fun _=>.mk (fun h=>absurd rfl h)) (fun c1418=>?_)
   have A:=e c1418
   refine obT (T68) fun G=>?_
   exact .mk (fun _=>c1418)
  refine Ob (P:=fun r=>¬r=true->¬D=true) ?_ fun K w=>?_
  .refine Oi (fun _=>.mk (fun h=>absurd rfl h)) (fun c1422=>?_)
   have i:=g c1422
   have B:=e i
   refine Ob (P:=fun r=>r=true->(decide (k>0))=true) ?_ fun J y=>?_
   .refine Oi (fun c1426=>?_) (fun _=>.mk (fun h=>by cases h))
    have s:=f.Tempi
    refine Ob (P:=fun x=>x∈m.Tempi) (bC (by(simp only[nm]at *;rw[aY (by omega) (by omega)];omega)) (by(simp only[nm]at *;rw[aY (by omega) (by omega)];omega)) (fun _ h _=>h)) fun H o=>?_
    exact .mk (fun _=>c1426)
   exact .mk (fun _=>c1422)
  exact .mk d
 .obtain ⟨j,k⟩:=q1412
  dsimp only at a
  simp only[a,nf]
  exact .mk trivial
 exact .mk trivial
theorem Tn74_8 {h:List Zv} {s:Z0} {z:Int} (u:h.length+10<=1000000) (f:s.sm):Ok (Fn74_8 h s z) (fun v=>h.length<=v.length/\v.length<=h.length+10):=by
 unfold Fn74_8
 have k:=f.Measures
 refine Ob (P:=fun r=>h.length<=r.length/\r.length<=h.length+10) (aP (l:=s.Measures) (fun q=>q.1) (fun i q=>h.length<=q.2.length/\q.2.length<=h.length+i*1) (Nat.lt_of_le_of_lt f.Measures (by decide)) rfl (by dsimp only;omega) (fun p n q1441 m g a d b c e=>?_) (fun q1441 a b=>?_)) fun y t=>?_
 .obtain ⟨A,B⟩:=q1441
  dsimp only at a d c e b
  simp only[d,c,nt]
  have j:=f.MeasuresE _ g
  refine obT (T110 j) fun w=>?_
  refine Ob (Tn66 (by first|omega|(simp only[List.length_nil]at *;omega)) f) fun x o=>?_
  exact .mk ⟨e,by dsimp only;omega⟩
 .obtain ⟨A,B⟩:=q1441
  dsimp only at a b
  simp only[a,nf]
  exact .mk (by dsimp only;omega)
 exact .mk (by omega)
theorem Tn54 {a:List Zv} {d:Z0} {f:Int} (e:a.length+10<=1000000) (c:d.sm):Ok (Fn54 a d f) (fun v=>a.length<=v.length/\v.length<=a.length+10):=by
 unfold Fn54
 refine Ob (Tn74_8 (by first|omega|(simp only[List.length_nil]at *;omega)) c) fun x4 b=>?_
 exact .mk (by omega)
theorem T111 {i:Zp} {e:Ze} {g:Zk} (a:e.sm) (c:g.s'.sm):Ok (F111 i e g) (fun _=>True):=by
 unfold F111
 refine Ob (T96 c) fun⟨q,f⟩ d=>?_
 dsimp only at d
 refine Ob (P:=fun r=>¬r=true->f=true) (Oi (fun _=>.mk (fun h=>absurd rfl h)) (fun hc=>Ob (T95 a) fun t _=>.mk (fun _=>by simpa using hc))) fun b hb=>?_
 refine Oi (fun _=>.mk trivial) (fun hc=>?_)
 simp only[Bool.or_eq_true,not_or]at hc
 have:=d (hb hc.1)
 exact Ob (bC (Q:=fun _=>True) this.1 this.2.1 (fun _ _ _=>trivial)) fun x _=>Ob (bC (Q:=fun _=>True) this.2.2.1 this.2.2.2 (fun _ _ _=>trivial)) fun y _=>.mk trivial
theorem Tn83_5 {L:List Zv} {x2:Z0} {x3:Int} (e3:L.length+3000<=1000000) (C:x2.sm):Ok (Fn83_5 L x2 x3) (fun v=>L.length<=v.length/\v.length<=L.length+3000):=by
 unfold Fn83_5
 have U:=C.Measures
 refine Ob (P:=fun r=>L.length<=r.length/\r.length<=L.length+3000) (aP (l:=x2.Measures) (fun q=>q.1) (fun i q=>L.length<=q.2.length/\q.2.length<=L.length+i*300) (Nat.lt_of_le_of_lt C.Measures (by decide)) rfl (by dsimp only;omega) (fun b6 M q1458 Y G c t g a y=>?_) (fun q1458 c g=>?_)) fun e2 d3=>?_
 .obtain ⟨d0,D⟩:=q1458
  dsimp only at c t a y g
  simp only[t,a,nt]
  have n:=C.MeasuresE _ G
  have V:=n.Cells
  refine Ob (P:=fun r=>D.length<=r.length/\r.length<=D.length+300) (aP (l:=M.Cells) (fun q=>q.1) (fun i q=>D.length<=q.2.length/\q.2.length<=D.length+i*60) (Nat.lt_of_le_of_lt n.Cells (by decide)) rfl (by dsimp only;omega) (fun b7 N q1472 Z H d u h b z=>?_) (fun q1472 d h=>?_)) fun e1 d4=>?_
  .obtain ⟨d1,E⟩:=q1472
   dsimp only at d u b z h
   simp only[u,a,b,nt]
   have o:=n.CellsE _ H
   have W:=o.Voices
   refine Ob (P:=fun r=>E.length<=r.length/\r.length<=E.length+60) (aP (l:=N.Voices) (fun q=>q.1) (fun i q=>E.length<=q.2.length/\q.2.length<=E.length+i*20) (Nat.lt_of_le_of_lt o.Voices (by decide)) rfl (by dsimp only;omega) (fun b8 O q1486 a0 J e w j m A=>?_) (fun q1486 e j=>?_)) fun e0 d5=>?_
   .obtain ⟨d2,F⟩:=q1486
    dsimp only at e w m A j
    simp only[w,a,b,m,nt]
    have p:=o.VoicesE _ J
    have X:=p.Events
    refine Ob (P:=fun r=>F.length<=r.length/\r.length<=F.length+20) (aP (l:=O.Events) (fun q=>q.1) (fun i q=>F.length<=q.2.length/\q.2.length<=F.length+i*1) (Nat.lt_of_le_of_lt p.Events (by decide)) rfl (by dsimp only;omega) (fun b9 b4 q1500 b0 K f x k s B=>?_) (fun q1500 f k=>?_)) fun d9 d6=>?_
    .obtain ⟨S,T⟩:=q1500
     dsimp only at f x s B k
     simp only[x,a,b,m,s,nt]
     have R:=p.EventsE _ K
     refine obT (T111 R C) fun d7=>?_
     refine Ob (Tn66 (by first|omega|(simp only[List.length_nil]at *;omega)) C) fun d8 b5=>?_
     exact .mk ⟨B,by dsimp only;omega⟩
    .obtain ⟨S,T⟩:=q1500
     dsimp only at f k
     simp only[f,nf]
     exact .mk (by dsimp only;omega)
    exact .mk ⟨A,by dsimp only;omega⟩
   .obtain ⟨d2,F⟩:=q1486
    dsimp only at e j
    simp only[e,nf]
    exact .mk (by dsimp only;omega)
   exact .mk ⟨z,by dsimp only;omega⟩
  .obtain ⟨d1,E⟩:=q1472
   dsimp only at d h
   simp only[d,nf]
   exact .mk (by dsimp only;omega)
  exact .mk ⟨y,by dsimp only;omega⟩
 .obtain ⟨d0,D⟩:=q1458
  dsimp only at c g
  simp only[c,nf]
  exact .mk (by dsimp only;omega)
 exact .mk (by omega)
theorem Tn55 {a:List Zv} {d:Z0} {f:Int} (e:a.length+3000<=1000000) (c:d.sm):Ok (Fn55 a d f) (fun v=>a.length<=v.length/\v.length<=a.length+3000):=by
 unfold Fn55
 refine Ob (Tn83_5 (by first|omega|(simp only[List.length_nil]at *;omega)) c) fun x4 b=>?_
 exact .mk (by omega)
theorem T27 {x1:Z0} (a:x1.sm) (hx:0<x1.Measures.length):Ok (F27 x1) (fun _=>True):=by
 unfold F27
 refine Ob (P:=fun r=>r=true->(decide ((([]:List Zv).length:Int)>0))=true) ?_ fun x6 b=>?_
 .refine Oi (fun c1507=>?_) (fun _=>.mk (fun h=>by cases h))
  refine Ob (P:=fun r=>¬r=true->¬false=true) ?_ fun x5 u=>?_
  .refine Oi (fun _=>.mk (fun h=>absurd rfl h)) (fun c1509=>?_)
   refine Ob (P:=fun r=>r=true->false=true) ?_ fun x4 v=>?_
   .refine Oi (fun c1511=>?_) (fun _=>.mk (fun h=>by cases h))
    refine Ob (bK (by omega) (by(simp only[nm]at *;omega))) fun x2 w=>?_
    refine Ob (bR (by omega)) fun x3 x=>?_
    exact .mk (fun _=>c1511)
   exact .mk (fun _=>c1509)
  exact .mk (fun _=>c1507)
 refine Oi (fun c1514=>?_) (fun c1514=>?_)
 .have i4:=b c1514
  exact .mk trivial
 refine Ob (Tn39 (by first|omega|(simp only[List.length_nil]at *;omega)) a) fun x7 y=>?_
 refine Ob (P:=fun r=>r=true->(decide ((x7.length:Int)>0))=true) ?_ fun m3 c=>?_
 .refine Oi (fun c1518=>?_) (fun _=>.mk (fun h=>by cases h))
  refine Ob (P:=fun r=>¬r=true->¬true=true) ?_ fun m2 z=>?_
  .refine Oi (fun _=>.mk (fun h=>absurd rfl h)) (fun c1520=>?_)
   refine Ob (P:=fun r=>r=true->false=true) ?_ fun m1 A=>?_
   .refine Oi (fun c1522=>?_) (fun _=>.mk (fun h=>by cases h))
    refine Ob (bK (by omega) (by(simp only[nm]at *;omega))) fun x8 B=>?_
    refine Ob (bR (by omega)) fun x9 C=>?_
    exact .mk (fun _=>c1522)
   exact .mk (fun _=>c1520)
  exact .mk (fun _=>c1518)
 refine Oi (fun c1525=>?_) (fun c1525=>?_)
 .have i5:=c c1525
  exact .mk trivial
 refine Ob (Tn40 (by first|omega|(simp only[List.length_nil]at *;omega)) a) fun k2 D=>?_
 refine Ob (P:=fun r=>r=true->(decide ((k2.length:Int)>0))=true) ?_ fun m8 d=>?_
 .refine Oi (fun c1529=>?_) (fun _=>.mk (fun h=>by cases h))
  refine Ob (P:=fun r=>¬r=true->¬false=true) ?_ fun m7 E=>?_
  .refine Oi (fun _=>.mk (fun h=>absurd rfl h)) (fun c1531=>?_)
   refine Ob (P:=fun r=>r=true->false=true) ?_ fun m6 F=>?_
   .refine Oi (fun c1533=>?_) (fun _=>.mk (fun h=>by cases h))
    refine Ob (bK (by omega) (by(simp only[nm]at *;omega))) fun m4 G=>?_
    refine Ob (bR (by omega)) fun m5 H=>?_
    exact .mk (fun _=>c1533)
   exact .mk (fun _=>c1531)
  exact .mk (fun _=>c1529)
 refine Oi (fun c1536=>?_) (fun c1536=>?_)
 .have i6:=d c1536
  exact .mk trivial
 refine Ob (Tn41 (by first|omega|(simp only[List.length_nil]at *;omega)) a) fun k3 J=>?_
 refine Ob (P:=fun r=>r=true->(decide ((k3.length:Int)>0))=true) ?_ fun n4 e=>?_
 .refine Oi (fun c1540=>?_) (fun _=>.mk (fun h=>by cases h))
  refine Ob (P:=fun r=>¬r=true->¬false=true) ?_ fun n3 K=>?_
  .refine Oi (fun _=>.mk (fun h=>absurd rfl h)) (fun c1542=>?_)
   refine Ob (P:=fun r=>r=true->false=true) ?_ fun n2 L=>?_
   .refine Oi (fun c1544=>?_) (fun _=>.mk (fun h=>by cases h))
    refine Ob (bK (by omega) (by(simp only[nm]at *;omega))) fun m9 M=>?_
    refine Ob (bR (by omega)) fun n1 N=>?_
    exact .mk (fun _=>c1544)
   exact .mk (fun _=>c1542)
  exact .mk (fun _=>c1540)
 refine Oi (fun c1547=>?_) (fun c1547=>?_)
 .have i7:=e c1547
  exact .mk trivial
 refine Ob (Tn42 (by first|omega|(simp only[List.length_nil]at *;omega)) a) fun k4 O=>?_
 refine Ob (P:=fun r=>r=true->(decide ((k4.length:Int)>0))=true) ?_ fun n9 f=>?_
 .refine Oi (fun c1551=>?_) (fun _=>.mk (fun h=>by cases h))
  refine Ob (P:=fun r=>¬r=true->¬false=true) ?_ fun n8 R=>?_
  .refine Oi (fun _=>.mk (fun h=>absurd rfl h)) (fun c1553=>?_)
   refine Ob (P:=fun r=>r=true->false=true) ?_ fun n7 S=>?_
   .refine Oi (fun c1555=>?_) (fun _=>.mk (fun h=>by cases h))
    refine Ob (bK (by omega) (by(simp only[nm]at *;omega))) fun n5 T=>?_
    refine Ob (bR (by omega)) fun n6 U=>?_
    exact .mk (fun _=>c1555)
   exact .mk (fun _=>c1553)
  exact .mk (fun _=>c1551)
 refine Oi (fun c1558=>?_) (fun c1558=>?_)
 .have i9:=f c1558
  exact .mk trivial
 refine Ob (Tn43 (by first|omega|(simp only[List.length_nil]at *;omega)) a) fun k5 V=>?_
 refine Ob (P:=fun r=>r=true->(decide ((k5.length:Int)>0))=true) ?_ fun r4 g=>?_
 .refine Oi (fun c1562=>?_) (fun _=>.mk (fun h=>by cases h))
  refine Ob (P:=fun r=>¬r=true->¬false=true) ?_ fun r3 W=>?_
  .refine Oi (fun _=>.mk (fun h=>absurd rfl h)) (fun c1564=>?_)
   refine Ob (P:=fun r=>r=true->false=true) ?_ fun r2 X=>?_
   .refine Oi (fun c1566=>?_) (fun _=>.mk (fun h=>by cases h))
    refine Ob (bK (by omega) (by(simp only[nm]at *;omega))) fun r0 Y=>?_
    refine Ob (bR (by omega)) fun r1 Z=>?_
    exact .mk (fun _=>c1566)
   exact .mk (fun _=>c1564)
  exact .mk (fun _=>c1562)
 refine Oi (fun c1569=>?_) (fun c1569=>?_)
 .have j0:=g c1569
  exact .mk trivial
 refine Ob (Tn44 (by first|omega|(simp only[List.length_nil]at *;omega)) a) fun k6 a0=>?_
 refine Ob (P:=fun r=>r=true->(decide ((k6.length:Int)>0))=true) ?_ fun r9 i=>?_
 .refine Oi (fun c1573=>?_) (fun _=>.mk (fun h=>by cases h))
  refine Ob (P:=fun r=>¬r=true->¬false=true) ?_ fun r8 b0=>?_
  .refine Oi (fun _=>.mk (fun h=>absurd rfl h)) (fun c1575=>?_)
   refine Ob (P:=fun r=>r=true->false=true) ?_ fun r7 b4=>?_
   .refine Oi (fun c1577=>?_) (fun _=>.mk (fun h=>by cases h))
    refine Ob (bK (by omega) (by(simp only[nm]at *;omega))) fun r5 b5=>?_
    refine Ob (bR (by omega)) fun r6 b6=>?_
    exact .mk (fun _=>c1577)
   exact .mk (fun _=>c1575)
  exact .mk (fun _=>c1573)
 refine Oi (fun c1580=>?_) (fun c1580=>?_)
 .have j1:=i c1580
  exact .mk trivial
 refine Ob (Tn45 (by first|omega|(simp only[List.length_nil]at *;omega)) a) fun k7 b7=>?_
 refine Ob (P:=fun r=>r=true->(decide ((k7.length:Int)>0))=true) ?_ fun s4 j=>?_
 .refine Oi (fun c1584=>?_) (fun _=>.mk (fun h=>by cases h))
  refine Ob (P:=fun r=>¬r=true->¬false=true) ?_ fun s3 b8=>?_
  .refine Oi (fun _=>.mk (fun h=>absurd rfl h)) (fun c1586=>?_)
   refine Ob (P:=fun r=>r=true->false=true) ?_ fun s2 b9=>?_
   .refine Oi (fun c1588=>?_) (fun _=>.mk (fun h=>by cases h))
    refine Ob (bK (by omega) (by(simp only[nm]at *;omega))) fun s0 d0=>?_
    refine Ob (bR (by omega)) fun s1 d1=>?_
    exact .mk (fun _=>c1588)
   exact .mk (fun _=>c1586)
  exact .mk (fun _=>c1584)
 refine Oi (fun c1591=>?_) (fun c1591=>?_)
 .have j2:=j c1591
  exact .mk trivial
 refine Ob (Tn46 (by first|omega|(simp only[List.length_nil]at *;omega)) a) fun k8 d2=>?_
 refine Ob (P:=fun r=>r=true->(decide ((k8.length:Int)>0))=true) ?_ fun s9 k=>?_
 .refine Oi (fun c1595=>?_) (fun _=>.mk (fun h=>by cases h))
  refine Ob (P:=fun r=>¬r=true->¬false=true) ?_ fun s8 d3=>?_
  .refine Oi (fun _=>.mk (fun h=>absurd rfl h)) (fun c1597=>?_)
   refine Ob (P:=fun r=>r=true->false=true) ?_ fun s7 d4=>?_
   .refine Oi (fun c1599=>?_) (fun _=>.mk (fun h=>by cases h))
    refine Ob (bK (by omega) (by(simp only[nm]at *;omega))) fun s5 d5=>?_
    refine Ob (bR (by omega)) fun s6 d6=>?_
    exact .mk (fun _=>c1599)
   exact .mk (fun _=>c1597)
  exact .mk (fun _=>c1595)
 refine Oi (fun c1602=>?_) (fun c1602=>?_)
 .have j3:=k c1602
  exact .mk trivial
 refine Ob (Tn47 (by first|omega|(simp only[List.length_nil]at *;omega)) a) fun k9 d7=>?_
 refine Ob (P:=fun r=>r=true->(decide ((k9.length:Int)>0))=true) ?_ fun t4 l=>?_
 .refine Oi (fun c1606=>?_) (fun _=>.mk (fun h=>by cases h))
  refine Ob (P:=fun r=>¬r=true->¬false=true) ?_ fun t3 d8=>?_
  .refine Oi (fun _=>.mk (fun h=>absurd rfl h)) (fun c1608=>?_)
   refine Ob (P:=fun r=>r=true->true=true) ?_ fun t2 d9=>?_
   .refine Oi (fun c1610=>?_) (fun _=>.mk (fun h=>by cases h))
    refine Ob (bK (by omega) (by(simp only[nm]at *;omega))) fun t0 e0=>?_
    refine Ob (bR (by omega)) fun t1 e1=>?_
    exact .mk (fun _=>c1610)
   exact .mk (fun _=>c1608)
  exact .mk (fun _=>c1606)
 refine Oi (fun c1613=>?_) (fun c1613=>?_)
 .have j4:=l c1613
  exact .mk trivial
 refine Ob (Tn48 (by first|omega|(simp only[List.length_nil]at *;omega)) a) fun l0 e2=>?_
 refine Ob (P:=fun r=>r=true->(decide ((l0.length:Int)>0))=true) ?_ fun u0 m=>?_
 .refine Oi (fun c1617=>?_) (fun _=>.mk (fun h=>by cases h))
  refine Ob (P:=fun r=>¬r=true->¬false=true) ?_ fun t9 e3=>?_
  .refine Oi (fun _=>.mk (fun h=>absurd rfl h)) (fun c1619=>?_)
   refine Ob (P:=fun r=>r=true->true=true) ?_ fun t8 e4=>?_
   .refine Oi (fun c1621=>?_) (fun _=>.mk (fun h=>by cases h))
    refine Ob (bK (by omega) (by(simp only[nm]at *;omega))) fun t6 e7=>?_
    refine Ob (bR (by omega)) fun t7 e8=>?_
    exact .mk (fun _=>c1621)
   exact .mk (fun _=>c1619)
  exact .mk (fun _=>c1617)
 refine Oi (fun c1624=>?_) (fun c1624=>?_)
 .have j5:=m c1624
  exact .mk trivial
 refine Ob (Tn49 (by first|omega|(simp only[List.length_nil]at *;omega)) a) fun l1 e9=>?_
 refine Ob (P:=fun r=>r=true->(decide ((l1.length:Int)>0))=true) ?_ fun u5 n=>?_
 .refine Oi (fun c1628=>?_) (fun _=>.mk (fun h=>by cases h))
  refine Ob (P:=fun r=>¬r=true->¬false=true) ?_ fun u4 f0=>?_
  .refine Oi (fun _=>.mk (fun h=>absurd rfl h)) (fun c1630=>?_)
   refine Ob (P:=fun r=>r=true->true=true) ?_ fun u3 f1=>?_
   .refine Oi (fun c1632=>?_) (fun _=>.mk (fun h=>by cases h))
    refine Ob (bK (by omega) (by(simp only[nm]at *;omega))) fun u1 f2=>?_
    refine Ob (bR (by omega)) fun u2 f3=>?_
    exact .mk (fun _=>c1632)
   exact .mk (fun _=>c1630)
  exact .mk (fun _=>c1628)
 refine Oi (fun c1635=>?_) (fun c1635=>?_)
 .have j6:=n c1635
  exact .mk trivial
 refine Ob (Tn50 (by first|omega|(simp only[List.length_nil]at *;omega)) a) fun l2 f4=>?_
 refine Ob (P:=fun r=>r=true->(decide ((l2.length:Int)>0))=true) ?_ fun v1 o=>?_
 .refine Oi (fun c1639=>?_) (fun _=>.mk (fun h=>by cases h))
  refine Ob (P:=fun r=>¬r=true->¬false=true) ?_ fun v0 f6=>?_
  .refine Oi (fun _=>.mk (fun h=>absurd rfl h)) (fun c1641=>?_)
   refine Ob (P:=fun r=>r=true->true=true) ?_ fun u9 f7=>?_
   .refine Oi (fun c1643=>?_) (fun _=>.mk (fun h=>by cases h))
    refine Ob (bK (by omega) (by(simp only[nm]at *;omega))) fun u6 f8=>?_
    refine Ob (bR (by omega)) fun u7 f9=>?_
    exact .mk (fun _=>c1643)
   exact .mk (fun _=>c1641)
  exact .mk (fun _=>c1639)
 refine Oi (fun c1646=>?_) (fun c1646=>?_)
 .have j7:=o c1646
  exact .mk trivial
 refine Ob (Tn51 (by first|omega|(simp only[List.length_nil]at *;omega)) a) fun l3 g1=>?_
 refine Ob (P:=fun r=>r=true->(decide ((l3.length:Int)>0))=true) ?_ fun v6 p=>?_
 .refine Oi (fun c1650=>?_) (fun _=>.mk (fun h=>by cases h))
  refine Ob (P:=fun r=>¬r=true->¬false=true) ?_ fun v5 g3=>?_
  .refine Oi (fun _=>.mk (fun h=>absurd rfl h)) (fun c1652=>?_)
   refine Ob (P:=fun r=>r=true->true=true) ?_ fun v4 g4=>?_
   .refine Oi (fun c1654=>?_) (fun _=>.mk (fun h=>by cases h))
    refine Ob (bK (by omega) (by(simp only[nm]at *;omega))) fun v2 g5=>?_
    refine Ob (bR (by omega)) fun v3 g6=>?_
    exact .mk (fun _=>c1654)
   exact .mk (fun _=>c1652)
  exact .mk (fun _=>c1650)
 refine Oi (fun c1657=>?_) (fun c1657=>?_)
 .have j8:=p c1657
  exact .mk trivial
 refine Ob (Tn52 (by first|omega|(simp only[List.length_nil]at *;omega)) a (by omega)) fun l4 g7=>?_
 refine Ob (P:=fun r=>r=true->(decide ((l4.length:Int)>0))=true) ?_ fun w2 q=>?_
 .refine Oi (fun c1661=>?_) (fun _=>.mk (fun h=>by cases h))
  refine Ob (P:=fun r=>¬r=true->¬false=true) ?_ fun w1 g8=>?_
  .refine Oi (fun _=>.mk (fun h=>absurd rfl h)) (fun c1663=>?_)
   refine Ob (P:=fun r=>r=true->true=true) ?_ fun v9 g9=>?_
   .refine Oi (fun c1665=>?_) (fun _=>.mk (fun h=>by cases h))
    refine Ob (bK (by omega) (by(simp only[nm]at *;omega))) fun v7 h0=>?_
    refine Ob (bR (by omega)) fun v8 h2=>?_
    exact .mk (fun _=>c1665)
   exact .mk (fun _=>c1663)
  exact .mk (fun _=>c1661)
 refine Oi (fun c1668=>?_) (fun c1668=>?_)
 .have j9:=q c1668
  exact .mk trivial
 refine Ob (Tn53 (by first|omega|(simp only[List.length_nil]at *;omega)) a) fun l5 h3=>?_
 refine Ob (P:=fun r=>r=true->(decide ((l5.length:Int)>0))=true) ?_ fun w7 s=>?_
 .refine Oi (fun c1672=>?_) (fun _=>.mk (fun h=>by cases h))
  refine Ob (P:=fun r=>¬r=true->¬false=true) ?_ fun w6 h4=>?_
  .refine Oi (fun _=>.mk (fun h=>absurd rfl h)) (fun c1674=>?_)
   refine Ob (P:=fun r=>r=true->true=true) ?_ fun w5 h5=>?_
   .refine Oi (fun c1676=>?_) (fun _=>.mk (fun h=>by cases h))
    refine Ob (bK (by omega) (by(simp only[nm]at *;omega))) fun w3 h6=>?_
    refine Ob (bR (by omega)) fun w4 h7=>?_
    exact .mk (fun _=>c1676)
   exact .mk (fun _=>c1674)
  exact .mk (fun _=>c1672)
 refine Oi (fun c1679=>?_) (fun c1679=>?_)
 .have k0:=s c1679
  exact .mk trivial
 refine Ob (Tn54 (by first|omega|(simp only[List.length_nil]at *;omega)) a) fun l6 h8=>?_
 refine Ob (P:=fun r=>r=true->(decide ((l6.length:Int)>0))=true) ?_ fun l9 t=>?_
 .refine Oi (fun c1683=>?_) (fun _=>.mk (fun h=>by cases h))
  refine Ob (P:=fun r=>¬r=true->¬false=true) ?_ fun l8 h9=>?_
  .refine Oi (fun _=>.mk (fun h=>absurd rfl h)) (fun c1685=>?_)
   refine Ob (P:=fun r=>r=true->true=true) ?_ fun l7 i0=>?_
   .refine Oi (fun c1687=>?_) (fun _=>.mk (fun h=>by cases h))
    refine Ob (bK (by omega) (by(simp only[nm]at *;omega))) fun w8 i1=>?_
    refine Ob (bR (by omega)) fun w9 i2=>?_
    exact .mk (fun _=>c1687)
   exact .mk (fun _=>c1685)
  exact .mk (fun _=>c1683)
 refine Oi (fun c1690=>?_) (fun c1690=>?_)
 .have k1:=t c1690
  exact .mk trivial
 refine Ob (Tn55 (by first|omega|(simp only[List.length_nil]at *;omega)) a) fun m0 i3=>?_
 exact .mk trivial
theorem T11 {c:Z0} (a:c.sm):Ok (F11 c) (fun _=>True):=by
 unfold F11
 refine Ob (P:=fun _=>True) ?_ fun v _=>.mk trivial
 by_cases h0:0<c.Measures.length
 .exact (T27 a h0).mono fun _ _=>trivial
 unfold F27
 refine Ob (P:=fun r=>r=false) (Oi (fun h=>by simp at h) (fun _=>.mk rfl)) fun b hb=>?_
 subst hb
 refine Oi (fun h=>by cases h) (fun _=>?_)
 refine Ob (U59b a (by omega) (by decide)) fun v hv=>?_
 refine Ob (P:=fun r=>r=true) (Oi (fun h=>Ob (P:=fun r=>r=true) (Oi (fun _=>.mk rfl) (fun h=>absurd rfl h)) fun b hb=>.mk hb) (fun h=>by simp at h;simp[h]at hv)) fun b hb=>?_
 subst hb
 exact Oi (fun _=>.mk trivial) (fun h=>absurd rfl h)
end Go.P
set_option maxHeartbeats 1000000
namespace Go.P
theorem Ok.eq {α:Type} {x:Option α} {a:α} (h:Ok x (fun v=>v=a)):x=some a:=by
 obtain⟨v,h1,rfl⟩:=h
 exact h1
section
variable {K V:Type} [DecidableEq K]
theorem jZ (k:K):∀(l:List (K×V)) (i:Nat),jC k l (i+1)=(jC k l i).map fun p=>(p.1+1,p.2)
 |[],i=>rfl
 |p::r,i=>by
  simp only[jC]
  by_cases e:k=p.1
  .rw [if_pos e,if_pos e];rfl
  .rw [if_neg e,if_neg e];exact jZ k r (i+1)
theorem jF (p:K×V) (r:List (K×V)) (k:K) (z:V):mget (p::r) k z=if k=p.1 then p.2 else mget r k z:=by
 unfold mget
 simp only[jC]
 by_cases e:k=p.1
 .rw [if_pos e,if_pos e]
 .rw [if_neg e,if_neg e,jZ]
  cases jC k r 0<;>rfl
theorem aQ1 (p:K×V) (r:List (K×V)) (k:K) (x:V):mput (p::r) k x=if k=p.1 then(k,x)::r else p::mput r k x:=by
 unfold mput
 simp only[jC]
 by_cases e:k=p.1
 .rw [if_pos e,if_pos e];rfl
 .rw [if_neg e,if_neg e,jZ]
  cases jC k r 0<;>rfl
theorem mW (k b:K) (x z:V):∀l:List (K×V),mget (mput l k x) b z=if b=k then x else mget l b z
 |[]=>by
  show mget ([]++[(k,x)]) b z=_
  rw[List.nil_append,jF]
 |p::r=>by
  rw[aQ1,jF]
  by_cases e:k=p.1
  .rw [if_pos e,jF]
   by_cases a:b=k
   .rw [if_pos a,if_pos a]
   .rw [if_neg a,if_neg a,if_neg (fun h=>a (h.trans e.symm))]
  .rw [if_neg e,jF,mW k b x z r]
   by_cases a:b=p.1
   .rw [if_pos a,if_pos a,if_neg (fun h=>e (h.symm.trans a))]
   .rw [if_neg a,if_neg a]
end
end Go.P
namespace Go.P
variable {s:Z0}
def cnt (l:List GBar) (m:Int):Nat:=l.countP (fun b=>b.Measure==m)
theorem hZ1 (l:List GBar) (m:Int):cnt l m<=l.length:=List.countP_le_length
theorem vU {l:List GBar} {i:Nat} {b:GBar} (h:l[i]? =some b) (m:Int):cnt (l.take (i+1)) m=cnt (l.take i) m+(if b.Measure=m then 1 else 0):=by
 unfold cnt
 rw[List.take_add_one,h,List.countP_append]
 simp
theorem mX {l:List GBar} {i:Nat} {m:Int}:cnt (l.take i) m<=i:=Nat.le_trans (hZ1 _ _) (by rw[List.length_take];omega)
def wr (n:Nat):List GBar->List GBar->Int
 |_,[]=>0
 |seen,b::r=>if b.Measure<0\/b.Measure>=n then 2 else if b.Pass≠(cnt seen b.Measure:Int)then 38 else wr n (seen++[b]) r
theorem gA1 {n:Nat} {l:List GBar} {i:Nat} {b:GBar} (h:l[i]? =some b):
  wr n (l.take i) (l.drop i)=if b.Measure<0\/b.Measure>=n then 2 else if b.Pass≠(cnt (l.take i) b.Measure:Int)then 38 else wr n (l.take (i+1)) (l.drop (i+1)):=by
 obtain⟨hi,rfl⟩:=List.getElem?_eq_some_iff.1 h
 rw[List.drop_eq_getElem_cons hi,wr,List.take_add_one,h]
 rfl
theorem iA1 {n:Nat} {l:List GBar}:wr n (l.take l.length) (l.drop l.length)=0:=by
 rw[List.drop_length]
 rfl
theorem iX1 {n:Nat} {l:List GBar} (h:wr n [] l=0):∀b∈l,0<=b.Measure/\b.Measure<n:=by
 have:∀(l c:List GBar),wr n c l=0->∀b∈l,0<=b.Measure/\b.Measure<n:=by
  intro l
  induction l with
  |nil=>intro c _ b hb;cases hb
  |cons a r ih=>
   intro c h b hb
   rw[wr]at h
   split at h
   .cases h
   .split at h
    .cases h
    .rename_i h1 _
     rcases List.mem_cons.1 hb with rfl|hb
     .omega
     .exact ih _ h b hb
 exact this l [] h
theorem F32_t {l:List GBar} (hs:s.sm) (hv:F11 s=some true) (hl:l.length<=30):F32 s l=some (wr s.Measures.length [] l):=by
 have j:=hs.Measures
 refine Ok.eq ?_
 unfold F32
 rw[hv]
 simp only[Option.bind_some,Bool.not_true,Bool.false_eq_true,if_false]
 rw[if_neg (by simp;omega)]
 generalize hW:wr s.Measures.length [] l=W
 refine Ob (P:=fun r=>match r with|.inl e=>e.1=W|.inr _=>0=W) (aP (l:=l) (fun q=>q.1) (fun i q=>wr s.Measures.length (l.take i) (l.drop i)=W/\∀m,mget q.2 m 0=(cnt (l.take i) m:Int)) (by omega) rfl ⟨hW,fun m=>rfl⟩ (fun i e q d n hi c a hg hw=>?_) (fun q hi a=>?_)) fun r hr=>?_
 .obtain ⟨k,E⟩:=q
  dsimp only at hi c a hg hw
  obtain⟨a,f⟩:=a
  rw[hi]at hg c hw ⊢
  simp only[c,hg,nt]
  rw[gA1 d]at a
  by_cases h1:e.Measure<0\/e.Measure>=(s.Measures.length:Int)
  .rw [if_pos h1]at a
   rw[if_pos (by simpa using h1)]
   exact .mk a
  rw[if_neg h1]at a
  rw[if_neg (by simpa using h1),f]
  have hc:=mX (l:=l) (i:=i) (m:=e.Measure)
  by_cases h2:e.Pass=(cnt (l.take i) e.Measure:Int)
  .rw [if_neg (fun h=>h h2)]at a
   rw[if_neg (by simpa using h2),hw]
   have g:=(List.getElem?_eq_some_iff.1 d).1
   refine .mk ⟨rfl,a,fun m=>?_⟩
   rw[mW,aY (by omega) (by omega),vU d]
   by_cases b:e.Measure=m
   .rw [if_pos b.symm,if_pos b,<-b];omega
   .rw [if_neg (fun h=>b h.symm),if_neg b,f];omega
  .rw [if_pos h2]at a
   rw[if_pos (by simpa using h2)]
   exact .mk a
 .obtain ⟨k,E⟩:=q
  dsimp only at hi a
  rw[hi]
  rw[if_neg (by simp)]
  rw[iA1]at a
  exact .mk a.1
 .rcases r with⟨e,m⟩|_
  .exact .mk hr
  .exact .mk hr
theorem F57_ok {l:List Int} (hl:l.length<1000000) (x:Int):Ok (F31 l x) (fun b=>b=true↔x∈l):=by
 unfold F31 F57
 refine Ob (P:=fun v=>(v>=0↔x∈l)) (Ob (P:=fun r=>match r with|.inl v=>0<=v/\x∈l|.inr _=>x∉l) (aP (l:=l) (fun q=>q) (fun i _=>x∉l.take i) (by omega) rfl (by simp) (fun i e q g f hi c d hg hw=>?_) (fun q hi d=>?_)) fun r hr=>?_) fun v hv=>.mk (by simpa using hv)
 .rw [hi]at hg c hw ⊢
  simp only[c,hg,nt]
  by_cases a:x=e
  .rw [if_pos (by simpa using a)]
   exact .mk ⟨by omega,by rw[a];exact f⟩
  .rw [if_neg (by simpa using a),hw]
   refine .mk ⟨rfl,?_⟩
   rw[List.take_add_one,g]
   simp only[List.mem_append,Option.toList_some,List.mem_singleton,not_or]
   exact⟨d,a⟩
 .rw [hi,if_neg (by simp)]
  rw[List.take_length]at d
  exact .mk d
 .rcases r with v|_
  .exact .mk ⟨fun _=>hr.2,fun _=>hr.1⟩
  .exact .mk ⟨fun h=>absurd h (by decide),fun h=>absurd h hr⟩
theorem F19_t {l:List GBar} (hs:s.sm) (hv:F11 s=some true) (hl:l.length<=30) (h0:wr s.Measures.length [] l=0):Ok (F19 s l) (fun r=>r.2=0/\r.1.length=s.Measures.length/\∀m:Nat,m<s.Measures.length->r.1[m]? =some (cnt l m:Int)):=by
 have z:=hs.Measures
 unfold F19
 rw[F32_t hs hv hl,h0]
 simp only[Option.bind_some]
 rw[if_neg (by simp)]
 refine Ob (jE (by omega) (by omega) (by omega)) fun o t=>?_
 have f:=iX1 h0
 refine Ob (P:=fun r=>r.length=s.Measures.length/\∀m:Nat,m<s.Measures.length->r[m]? =some (cnt l m:Int)) (aP (l:=l) (fun q=>q.1) (fun i q=>q.2.length=s.Measures.length/\∀m:Nat,m<s.Measures.length->q.2[m]? =some (cnt (l.take i) m:Int)) (by omega) rfl ⟨by rw[t];simp,fun m h=>by rw[t,Int.toNat_natCast,List.getElem?_replicate,if_pos h];simp[cnt]⟩ (fun i e q u h hi c a hg hw=>?_) (fun q hi a=>?_)) fun r hr=>.mk ⟨rfl,hr⟩
 .obtain ⟨k,o⟩:=q
  dsimp only at hi c a hg hw
  simp only[c,hg,nt]
  have he:=f e h
  refine Ob (bK he.1 (by omega)) fun j x=>?_
  refine Ob (bR x.2) fun y hy=>?_
  refine Ob (bK he.1 (by omega)) fun v g=>?_
  have hc:=mX (l:=l) (i:=i) (m:=e.Measure)
  have w:=(List.getElem?_eq_some_iff.1 u).1
  have p:y=(cnt (l.take i) e.Measure:Int):=by
   have:=a.2 j (by omega)
   rw[hy.1]at this
   rw[Option.some.inj this,show((j:Nat):Int)=e.Measure by omega]
  have d:lput o v (fun _=>w64 (y+1))=some (o.set v (w64 (y+1))):=by
   unfold lput
   rw[List.getElem?_eq_getElem g.2];rfl
  rw[d]
  refine .mk ⟨hw,by simpa using a.1,fun m n=>?_⟩
  dsimp only
  rw[vU u,List.getElem?_set,p,aY (by omega) (by omega)]
  by_cases b:e.Measure=(m:Int)
  .rw [if_pos (by omega),if_pos (by omega),if_pos b,<-b];simp
  .rw [if_neg (by omega),if_neg b,a.2 m n];simp
 .obtain ⟨k,o⟩:=q
  dsimp only at hi a
  simp only[hi,nf]
  rw[List.take_length]at a
  exact .mk a
end Go.P
namespace Go.P
variable {s:Z0}
def Ch:List aH->Int->Int->Prop
 |[],a,b=>a=b
 |g::r,a,b=>g.body.first=a/\a<=g.body.end'/\g.body.end'<=b/\g.endings=[]/\g.passes=1/\Ch r g.body.end' b
theorem aR1:∀{l:List aH} {a b c:Int},Ch l a b->b<=c->Ch (l++[aH.mk (aM.mk b c) [] 1]) a c
 |[],a,b,c,h,hc=>by cases(show a=b from h);exact⟨rfl,hc,Int.le_refl _,rfl,rfl,rfl⟩
 |g::r,a,b,c,h,hc=>⟨h.1,h.2.1,Int.le_trans h.2.2.1 hc,h.2.2.2.1,h.2.2.2.2.1,aR1 h.2.2.2.2.2 hc⟩
def uC (s:Z0):Prop:=∀m∈s.Measures,m.RepeatEnd=0/\m.Endings=0/\m.Jump=0
theorem F36_ok (hs:s.sm) (hp:uC s):Ok (F36 s) (fun k=>Ch k 0 (s.Measures.length:Int)/\k.length<=100):=by
 have w:=hs.Measures
 unfold F36
 refine Ob (P:=fun r=>0<=r.1/\r.1<=(s.Measures.length:Int)/\Ch r.2 0 r.1/\(r.2.length:Int)<=r.1) (cP (fun(q:Int×Int×List aH)=>0<=q.1/\q.1<=q.2.1/\q.2.1<=(s.Measures.length:Int)/\Ch q.2.2 0 q.1/\(q.2.2.length:Int)<=q.1) (fun(q:Int×Int×List aH)=>(2*((s.Measures.length:Int)-q.2.1)+(q.2.1-q.1)).toNat) (fun q n=>?_) B64 (0,0,[]) ⟨by simp,by simp,by simp,rfl,by simp⟩ (by simp only[B64];omega)) fun r hr=>?_
 .obtain ⟨b,i,o⟩:=q
  obtain⟨h1,h2,d,c,e⟩:=n
  dsimp only at h1 h2 d c e ⊢
  by_cases a:i<(s.Measures.length:Int)
  .rw [if_pos (by simpa using a)]
   refine Ob (bC (Q:=fun m=>m∈s.Measures) (by omega) a (fun x u _=>u)) fun m l=>?_
   obtain⟨p1,p2,p3⟩:=hp m l
   rw[if_neg (by simp[p2])]
   by_cases hc:m.RepeatStart=true/\i>b
   .rw [if_pos (by simpa using hc)]
    refine Ob (P:=fun t=>t.1=i/\t.2.1=i-1/\Ch t.2.2 0 i/\(t.2.2.length:Int)<=i) (Ob (cJ (by omega) (Q:=fun v=>v=o++[aH.mk (aM.mk b i) [] 1]) rfl) fun v hv=>?_) fun t p=>?_
    .subst hv
     rw[aY (by omega) (by omega)]
     refine .mk ⟨rfl,rfl,aR1 c h2,?_⟩
     simp only[List.length_append,List.length_cons,List.length_nil]
     omega
    .obtain ⟨y,z,A⟩:=t
     obtain⟨f,g,h,j⟩:=p
     dsimp only at f g h j ⊢
     subst f g
     rw[aY (by omega) (by omega)]
     refine .mk ⟨⟨by dsimp only;omega,by dsimp only;omega,by dsimp only;omega,h,j⟩,by dsimp only;omega⟩
   .rw [if_neg (by simpa using hc),if_neg (by simp[p1])]
    simp only[Option.bind_some]
    rw[aY (by omega) (by omega)]
    refine .mk ⟨⟨h1,by dsimp only;omega,by dsimp only;omega,c,e⟩,by dsimp only;omega⟩
  .rw [if_neg (by simpa using a)]
   exact .mk ⟨h1,by omega,c,e⟩
 .obtain ⟨b,o⟩:=r
  obtain⟨h1,h2,d,c⟩:=hr
  dsimp only at h1 h2 d c ⊢
  refine Ob (P:=fun v=>Ch v 0 (s.Measures.length:Int)/\v.length<=100) ?_ fun v hv=>.mk hv
  by_cases a:b<(s.Measures.length:Int)
  .rw [if_pos (by simpa using a)]
   refine Ob (cJ (by omega) (Q:=fun v=>v=o++[aH.mk (aM.mk b (s.Measures.length:Int)) [] 1]) rfl) fun v hv=>?_
   subst hv
   refine .mk ⟨aR1 d h2,?_⟩
   simp only[List.length_append,List.length_cons,List.length_nil]
   omega
  .rw [if_neg (by simpa using a)]
   have:b=(s.Measures.length:Int):=by omega
   subst this
   exact .mk ⟨d,by omega⟩
def brs (n:Nat):List GBar:=(List.range n).map fun(i:Nat)=>GBar.mk (i:Int) 0
theorem qB (n:Nat):(brs n).length=n:=by simp[brs]
theorem qC (n:Nat):brs (n+1)=brs n++[GBar.mk (n:Int) 0]:=by simp[brs,List.range_succ]
theorem aS1 {n i:Nat} (h:i<n):(brs n)[i]? =some (GBar.mk (i:Int) 0):=by simp[brs,List.getElem?_range h]
def Laid (E:List (Int×Int)) (o:List GBar) (a:Int):Prop:=0<=a/\o=brs a.toNat/\∀k:Int,a<=k->mget E k 0=0
theorem Fy35_ok (hs:s.sm) (hp:uC s) {E:List (Int×Int)} {o:List GBar} {a j:Int} {c:Bool} {k:List GBar} (h:Laid E o a) (e:a<(s.Measures.length:Int)):
  Fy35_18 a c s E o j k=some (.inr (o++[GBar.mk a 0])):=by
 have n:=hs.Measures
 obtain⟨h0,rfl,d⟩:=h
 have hb:=qB a.toNat
 obtain⟨m,f,b⟩:=bC (l:=s.Measures) (Q:=fun m=>m∈s.Measures) h0 e (fun x i _=>i)
 obtain⟨_,_,p3⟩:=hp m b
 obtain⟨v,hv,hv2⟩:=cJ (g:=false) (l:=brs a.toNat) (x:=GBar.mk a 0) (by omega) (Q:=fun v=>v=brs a.toNat++[GBar.mk a 0]) rfl
 subst hv2
 unfold Fy35_18 Fy10_16
 rw[if_neg (by simp[hb];omega),d a (Int.le_refl _),hv]
 simp only[Option.bind_some]
 rw[f]
 simp only[Option.bind_some]
 rw[if_neg (by simp[p3])]
theorem aT1 {E:List (Int×Int)} {o:List GBar} {a x:Int} (h:Laid E o a):Laid (mput E a x) (o++[GBar.mk a 0]) (a+1):=by
 obtain⟨h0,rfl,b⟩:=h
 refine⟨by omega,?_,fun k hk=>?_⟩
 .rw [show(a+1).toNat=a.toNat+1 by omega,qC,show((a.toNat:Nat):Int)=a by omega]
 .rw [mW,if_neg (by omega),b k (by omega)]
theorem Fn62_ok (hs:s.sm) (hp:uC s) {g:aH} {E:List (Int×Int)} {o:List GBar} {a x5:Int} {z:List GBar} (h1:g.body.first=a) (h2:a<=g.body.end') (w:g.body.end'<=(s.Measures.length:Int)) (u:g.endings=[]) (v:g.passes=1) (h:Laid E o a):
  Ok (Fn62 g s E o x5 z) (fun r=>∃E' o',r=.inr (E',o')/\Laid E' o' g.body.end'):=by
 have A:=hs.Measures
 obtain⟨⟨f,e⟩,en,ps⟩:=g
 dsimp only at h1 h2 w u v
 subst h1 u v
 unfold Fn62
 dsimp only
 refine Ob (P:=fun r=>∃E' o',r=.inr (E',o')/\Laid E' o' e) (cP (fun(q:Int×List (Int×Int)×List GBar)=>(q.1=0/\Laid q.2.1 q.2.2 f)\/(q.1=1/\Laid q.2.1 q.2.2 e)) (fun q=>(1-q.1).toNat) (fun q b=>?_) B64 (0,E,o) (.inl ⟨rfl,h⟩) (by simp[B64])) fun r hr=>?_
 .obtain ⟨t,E1,x⟩:=q
  dsimp only at b ⊢
  rcases b with⟨rfl,b⟩|⟨rfl,b⟩
  .rw [if_pos (by simp)]
   have i:aQ (E:=List aM) (fun(⟨c,d⟩:Int×(List aM))=>if decide (c<(([]:List bV).length:Int))then(lget ([]:List bV) c).bind fun j=>(shrO .i64 j.bits 0).bind fun l=>((if(iand .i64 l 1)==1 then(lapp false d [j.span]).bind fun m=>some m else some d:Option (List aM))).bind fun p=>some (.inl ((w64 (c+1)),p))else some (.inr d)) B64 (0,[aM.mk f e])=some [aM.mk f e]:=by
    refine Ok.eq (cP (fun q=>q=(0,[aM.mk f e])) (fun _=>0) (fun q b=>?_) B64 _ rfl (by decide))
    subst b
    exact .mk rfl
   rw[i]
   simp only[Option.bind_some]
   refine Ob (P:=fun r=>∃E' o',r=.inr (E',o')/\Laid E' o' e) (cP (fun(q:Int×List (Int×Int)×List GBar)=>(q.1=0/\Laid q.2.1 q.2.2 f)\/(q.1=1/\Laid q.2.1 q.2.2 e)) (fun q=>(1-q.1).toNat) (fun q b=>?_) B64 (0,E1,x) (.inl ⟨rfl,b⟩) (by simp[B64])) fun r hr=>?_
   .obtain ⟨t,E2,y⟩:=q
    dsimp only at b ⊢
    rcases b with⟨rfl,b⟩|⟨rfl,b⟩
    .rw [if_pos (by simp)]
     rw[show lidx [aM.mk f e] 0=some 0 from rfl]
     simp only[Option.bind_some]
     rw[show lnth [aM.mk f e] 0=some (aM.mk f e)from rfl]
     simp only[Option.bind_some]
     refine Ob (P:=fun r=>∃E' o',r=.inr (E',o')/\Laid E' o' e) (cP (fun(q:Int×List (Int×Int)×List GBar)=>q.1<=e/\Laid q.2.1 q.2.2 q.1) (fun q=>(e-q.1).toNat) (fun q b=>?_) B64 (f,E2,y) ⟨h2,b⟩ (by have:=b.1;simp only[B64];omega)) fun r hr=>?_
     .obtain ⟨k,E3,B⟩:=q
      obtain⟨q1,q2⟩:=b
      dsimp only at q1 q2 ⊢
      have q0:=q2.1
      by_cases hk:k<e
      .rw [if_pos (by simpa using hk),Fy35_ok hs hp q2 (by omega)]
       simp only[Option.bind_some]
       rw[aY (n:=k+1) (by omega) (by omega)]
       exact .mk ⟨⟨by dsimp only;omega,aT1 q2⟩,by dsimp only;omega⟩
      .rw [if_neg (by simpa using hk)]
       have:k=e:=by omega
       subst this
       exact .mk ⟨_,_,rfl,q2⟩
     .obtain ⟨E',o',rfl,hl⟩:=hr
      dsimp only
      exact .mk ⟨.inr ⟨rfl,hl⟩,by show((1:Int)-w64 (0+1)).toNat<((1:Int)-0).toNat;decide⟩
    .rw [if_neg (by simp)]
     exact .mk ⟨_,_,rfl,b⟩
   .obtain ⟨E',o',rfl,hl⟩:=hr
    dsimp only
    exact .mk ⟨.inr ⟨rfl,hl⟩,by show((1:Int)-w64 (0+1)).toNat<((1:Int)-0).toNat;decide⟩
  .rw [if_neg (by simp)]
   exact .mk ⟨_,_,rfl,b⟩
 .obtain ⟨E',o',rfl,hl⟩:=hr
  exact .mk ⟨_,_,rfl,hl⟩
theorem Fn35_ok (hs:s.sm) (hp:uC s) {x4:Int} {x5:List GBar}:Ok (Fn35 s [] [] x4 x5) (fun r=>∃E',r=.inr (E',brs s.Measures.length)):=by
 have j:=hs.Measures
 unfold Fn35
 refine Ob (F36_ok hs hp) fun g d=>?_
 obtain⟨hc,hl⟩:=d
 refine Ob (P:=fun r=>∃E',r=.inr (E',brs s.Measures.length)) (aP (l:=g) (fun q=>q.1) (fun(i:Nat) (q:Int×List (Int×Int)×List GBar)=>∃a,Ch (g.drop i) a (s.Measures.length:Int)/\Laid q.2.1 q.2.2 a) (by omega) rfl ⟨0,by simpa using hc,Int.le_refl _,rfl,fun _ _=>rfl⟩ (fun i e q h m hi b c hg hw=>?_) (fun q hi c=>?_)) fun r hr=>?_
 .obtain ⟨k,E,o⟩:=q
  obtain⟨a,h1,h2⟩:=c
  dsimp only at hi b hg hw h2 ⊢
  obtain⟨f,rfl⟩:=List.getElem?_eq_some_iff.1 h
  rw[List.drop_eq_getElem_cons f]at h1
  obtain⟨c1,c2,c3,c4,c5,c6⟩:=h1
  rw[if_pos (by simpa using b),hg]
  simp only[Option.bind_some,Fn37]
  refine Ob (Fn62_ok hs hp c1 c2 c3 c4 c5 h2) fun r hr=>?_
  obtain⟨E',o',rfl,hl⟩:=hr
  dsimp only
  exact .mk ⟨hw,_,c6,hl⟩
 .obtain ⟨k,E,o⟩:=q
  obtain⟨a,h1,h2⟩:=c
  dsimp only at hi h2 ⊢
  rw[hi,if_neg (by simp)]
  rw[List.drop_length]at h1
  rw[show a=(s.Measures.length:Int)from h1]at h2
  exact .mk ⟨_,by rw[h2.2.1,Int.toNat_natCast]⟩
 .obtain ⟨E',rfl⟩:=hr
  exact .mk ⟨_,rfl⟩
theorem F10_eq (hs:s.sm) (hp:uC s) (hv:F11 s=some true):F10 s=some (brs s.Measures.length,0):=by
 unfold F10
 rw[hv]
 simp only[Option.bind_some,Bool.not_true,Bool.false_eq_true,if_false,Fn26]
 obtain⟨r,hr,E',rfl⟩:=Fn35_ok hs hp (x4:=0) (x5:=[])
 rw[hr]
 rfl
theorem uD:∀(n m:Nat),cnt (brs n) (m:Int)=if m<n then 1 else 0
 |0,m=>by simp[brs,cnt]
 |n+1,m=>by
  have ih:=uD n m
  rw[qC]
  unfold cnt at ih ⊢
  rw[List.countP_append,ih]
  by_cases h:n=m
  .subst h;simp
  .by_cases h2:m<n
   .rw [if_pos h2,if_pos (by omega)]
    simp
    omega
   .rw [if_neg h2,if_neg (by omega)]
    simp
    omega
theorem dZ1 (n:Nat):∀(k i:Nat),i+k=n->wr n (brs i) ((brs n).drop i)=0
 |0,i,h=>by
  rw[List.drop_eq_nil_of_le (by rw[qB];omega)]
  rfl
 |k+1,i,h=>by
  have hi:i<(brs n).length:=by rw[qB];omega
  have hg:(brs n)[i]=GBar.mk (i:Int) 0:=by
   have:=aS1 (n:=n) (i:=i) (by omega)
   rw[List.getElem?_eq_getElem hi]at this
   exact Option.some.inj this
  rw[List.drop_eq_getElem_cons hi,hg,wr,if_neg (by dsimp only;omega),if_neg (by dsimp only;rw[uD,if_neg (Nat.lt_irrefl _)];simp),<-qC]
  exact dZ1 n k (i+1) (by omega)
theorem law5 (hb:s.b):F5 s=some true:=by
 unfold F5
 obtain⟨r,hr,y⟩:=U13 hb
 rw[hr]
 cases r with
 |false=>rfl
 |true=>
 have hs:=y rfl
 have D:=hs.Measures
 obtain⟨v,hv,_⟩:=T11 hs
 simp only[Option.bind_some,Bool.not_true,Bool.false_eq_true,if_false]
 rw[hv]
 cases v with
 |false=>rfl
 |true=>
 simp only[Option.bind_some,Bool.not_true,Bool.false_eq_true,if_false]
 refine Ok.eq (Ob (P:=fun r=>match r with|.inl _=>True|.inr _=>uC s) (aP (l:=s.Measures) (fun q=>q) (fun i _=>∀m∈s.Measures.take i,m.RepeatEnd=0/\m.Endings=0/\m.Jump=0) (by omega) rfl (by simp) (fun i e q k c hi a n hg hw=>?_) (fun q hi n=>?_)) fun r hr=>?_)
 .rw [hi]at hg a hw ⊢
  simp only[a,hg,nt]
  by_cases h:e.RepeatEnd=0/\e.Endings=0/\e.Jump=0
  .obtain ⟨h1,h2,z⟩:=h
   rw[if_neg (by simp[h1,h2,z]),hw]
   refine .mk ⟨rfl,fun m c=>?_⟩
   rw[List.take_add_one,k]at c
   rcases List.mem_append.1 c with c|c
   .exact n m c
   .simp only[Option.toList_some,List.mem_singleton]at c
    subst c
    exact⟨h1,h2,z⟩
  .rw [if_pos (by simp only[Bool.or_eq_true,bne_iff_ne];omega)]
   exact .mk trivial
 .rw [hi,if_neg (by simp)]
  rw[List.take_length]at n
  exact .mk n
 .rcases r with _|_
  .exact .mk rfl
  .have hp:uC s:=hr
   have d:=qB s.Measures.length
   have h0:wr s.Measures.length [] (brs s.Measures.length)=0:=by
    rw[<-List.drop_zero (l:=brs s.Measures.length)]
    exact dZ1 s.Measures.length s.Measures.length 0 (by omega)
   obtain⟨⟨o,e⟩,C,he,x,g⟩:=F19_t hs hv (l:=brs s.Measures.length) (by omega) h0
   dsimp only at he x g
   subst he
   obtain⟨b,f,u⟩:=F57_ok (l:=o) (by omega) 0
   have t:b=false:=by
    cases b with
    |false=>rfl
    |true=>
     obtain⟨j,A⟩:=List.mem_iff_getElem?.1 (u.1 rfl)
     have h1:=(List.getElem?_eq_some_iff.1 A).1
     have h2:=g j (by omega)
     rw[A,uD,if_pos (by omega)]at h2
     cases h2
   have p:F17 s (brs s.Measures.length)=some true:=by
    unfold F17;rw[C]
    simp only[Option.bind_some]
    rw[if_pos (by simp),f,t];rfl
   dsimp only
   rw[F10_eq hs hp hv]
   simp only[Option.bind_some]
   rw[d,if_neg (by simp),p]
   simp only[Option.bind_some,Bool.not_true,Bool.false_eq_true,if_false]
   refine Ob (P:=fun r=>r=.inr ()) (aP (l:=brs s.Measures.length) (fun q=>q) (fun _ _=>True) (by omega) rfl trivial (fun i e q k c hi a _ w hw=>?_) (fun q hi _=>?_)) fun r hr=>?_
   .have B:=(List.getElem?_eq_some_iff.1 k).1
    rw[aS1 (by omega)]at k
    cases k
    rw[d]at a
    simp only[a,w,nt]
    rw[if_neg (by simp[hi])]
    exact .mk ⟨hw,trivial⟩
   .rw [d]at hi
    simp only[hi,nf]
    exact .mk rfl
   .subst hr
    exact .mk rfl
end Go.P
