import Derived.Test.YtflklffaiianhaaGreatGaB
import Derived.KernelRfl
/- A text of the proof. -/
set_option linter.all false
namespace Go.P
def Ok {α:Type} (x:Option α) (Q:α->Prop):Prop:=∃v,x=some v/\Q v
section
variable {α β:Type} {Q:α->Prop}
theorem Ok.mk {v:α} (h:Q v):Ok (some v) Q:=⟨v,rfl,h⟩
theorem Ob {P:β->Prop} {x:Option β} {k:β->Option α} (h:Ok x P) (hk:∀v,P v->Ok (k v) Q):Ok (x.bind k) Q:=by
 obtain⟨v,rfl,hv⟩:=h
 exact hk v hv
theorem Oi {c:Prop} [Decidable c] {a b:Option α} (h1:c->Ok a Q) (h2:¬c->Ok b Q):Ok (if c then a else b) Q:=by
 split
 .rename_i h;exact h1 h
 .rename_i h;exact h2 h
theorem Ok.mono {P:α->Prop} {x:Option α} (h:Ok x P) (a:∀v,P v->Q v):Ok x Q:=by
 obtain⟨v,h1,h2⟩:=h
 exact⟨v,h1,a v h2⟩
theorem Ok.ex {x:Option α} (h:Ok x Q):∃v,x=some v:=by
 obtain⟨v,h1,_⟩:=h
 exact⟨v,h1⟩
theorem cQ {S E:Type} {body:S->Option (S⊕E)} {Q:E->Prop} (I:S->Prop) (μ:S->Nat)
  (h:∀s,I s->Ok (body s) (fun r=>match r with|.inl s'=>I s'/\μ s'<μ s|.inr e=>Q e)):∀(n:Nat) (s:S),I s->μ s<n->Ok (aO body n s) Q
 |0,s,_,hn=>by omega
 |n+1,s,hi,hn=>by
  obtain⟨r,h1,h2⟩:=h s hi
  simp only[aO,h1,Option.bind_some]
  cases r with
  |inl s'=>exact cQ I μ h n s' h2.1 (by have:=h2.2;omega)
  |inr e=>exact .mk h2
end
theorem aV {n:Int} (h1: -9223372036854775808<=n) (h2:n<9223372036854775808):w64 n=n:=by
 have e:w64 n=if n%18446744073709551616>=9223372036854775808 then n%18446744073709551616-18446744073709551616 else n%18446744073709551616:=by
  unfold w64 IntKind.wrap
  rw[show((2:Int)^IntKind.bits .i64)=18446744073709551616 from rfl,show((2:Int)^(IntKind.bits .i64-1))=9223372036854775808 from rfl]
  simp[IntKind.signed]
 rw[e]
 split<;>omega
theorem bE {A:Type} {l:List A} {i:Int} {Q:A->Prop} (h0:0<=i) (h1:i<(l.length:Int)) (h:∀x,x∈l->l[i.toNat]? =some x->Q x):Ok (lget l i) Q:=by
 unfold lget
 rw[if_pos h0]
 have hi:i.toNat<l.length:=by omega
 exact⟨l[i.toNat],by simp[hi],h _ (List.getElem_mem hi) (by simp[hi])⟩
end Go.P
set_option maxRecDepth 100000
namespace Go.P
def idxF {A:Type} (l:List A) (g:A->Option Bool):Option Int:=
 (aO (E:=Int⊕Unit) (fun(a:Int)=>
  if(decide (a<(l.length:Int)))then
   (lget l a).bind fun d=>
   (g d).bind fun b=>
   if b then
    some (.inr (.inl a))
   else
   some (.inl (w64 (a+1)))
  else
  some (.inr (.inr ()))) B64 0).bind fun c=>
 match c with
 |.inl x_7=>
  some x_7
 |.inr _=>
  some (-1)
theorem uG {A:Type} {l:List A} {g:A->Option Bool} (hl:l.length<9223372036854775808) (hg:∀x∈l,∃b,g x=some b):Ok (idxF l g) (fun v=>(v= -1/\∀x∈l,g x=some false)\/(0<=v/\v<l.length/\∃x,l[v.toNat]? =some x/\g x=some true)):=by
 unfold idxF
 refine Ob (P:=fun r=>match r with|.inl v=>0<=v/\v<l.length/\∃x,l[v.toNat]? =some x/\g x=some true|.inr _=>∀x∈l,g x=some false)
  (cQ (S:=Int) (fun i=>0<=i/\i<=l.length/\∀j,j<i.toNat->∀x,l[j]? =some x->g x=some false) (fun i=>l.length-i.toNat) (fun i hi=>?_) B64 0 ⟨by omega,by omega,fun j c=>by simp at c⟩ (by simp[B64];omega)) fun r hr=>?_
 .obtain ⟨h0,h1,h2⟩:=hi
  refine Oi (fun hc=>?_) (fun hc=>?_)
  .simp only[decide_eq_true_eq]at hc
   refine Ob (bE (Q:=fun x=>x∈l/\l[i.toNat]? =some x) h0 hc (fun x a b=>⟨a,b⟩)) fun x d=>?_
   obtain⟨b,hb⟩:=hg x d.1
   rw[hb]
   cases b with
   |true=>exact .mk ⟨h0,hc,x,d.2,hb⟩
   |false=>
    rw[Option.bind_some,aV (by omega) (by omega)]
    refine .mk ⟨⟨by omega,by omega,fun j c y hy=>?_⟩,by omega⟩
    by_cases e:j=i.toNat
    .subst e
     rw[d.2]at hy;cases hy;exact hb
    .exact h2 j (by omega) y hy
  .simp only[decide_eq_true_eq]at hc
   refine .mk (fun x d=>?_)
   obtain⟨j,c⟩:=List.mem_iff_getElem?.1 d
   have:=(List.getElem?_eq_some_iff.1 c).1
   exact h2 j (by omega) x c
 .cases r with
  |inl v=>exact .mk (.inr hr)
  |inr u=>exact .mk (.inl ⟨rfl,hr⟩)
end Go.P
namespace Go.P
structure Zy.b (x:Zy):Prop where
 Text:x.Text.size<9223372036854775808
structure Ze.b (x:Ze):Prop where
 Heads:x.Heads.length<9223372036854775808
 Graces:x.Graces.length<9223372036854775808
 Lyrics:x.Lyrics.length<9223372036854775808
 LyricsE:∀y∈x.Lyrics,y.b
structure Zo.b (x:Zo):Prop where
 Events:x.Events.length<9223372036854775808
 EventsE:∀y∈x.Events,y.b
 Tuplets:x.Tuplets.length<9223372036854775808
structure Zw.b (x:Zw):Prop where
 Clefs:x.Clefs.length<9223372036854775808
 Voices:x.Voices.length<9223372036854775808
 VoicesE:∀y∈x.Voices,y.b
structure Zm.b (x:Zm):Prop where
 Rehearsal:x.Rehearsal.size<9223372036854775808
 Tempi:x.Tempi.length<9223372036854775808
 Cells:x.Cells.length<9223372036854775808
 CellsE:∀y∈x.Cells,y.b
structure Zj.b (x:Zj):Prop where
 Name:x.Name.size<9223372036854775808
 Staves:x.Staves.length<9223372036854775808
structure Z0.b (x:Z0):Prop where
 Title:x.Title.size<9223372036854775808
 Parts:x.Parts.length<9223372036854775808
 PartsE:∀y∈x.Parts,y.b
 Measures:x.Measures.length<9223372036854775808
 MeasuresE:∀y∈x.Measures,y.b
 Spanners:x.Spanners.length<9223372036854775808
 Last:x.Last.length<9223372036854775808
structure Zy.sm (x:Zy):Prop where
 Text:x.Text.size<=300
structure Ze.sm (x:Ze):Prop where
 Heads:x.Heads.length<=12
 Graces:x.Graces.length<=12
 Lyrics:x.Lyrics.length<=12
 LyricsE:∀y∈x.Lyrics,y.sm
structure Zo.sm (x:Zo):Prop where
 Events:x.Events.length<=20
 EventsE:∀y∈x.Events,y.sm
 Tuplets:x.Tuplets.length<=6
structure Zw.sm (x:Zw):Prop where
 Clefs:x.Clefs.length<=5
 Voices:x.Voices.length<=3
 VoicesE:∀y∈x.Voices,y.sm
structure Zm.sm (x:Zm):Prop where
 Rehearsal:x.Rehearsal.size<=300
 Tempi:x.Tempi.length<=5
 Cells:x.Cells.length<=5
 CellsE:∀y∈x.Cells,y.sm
structure Zj.sm (x:Zj):Prop where
 Name:x.Name.size<=300
 Staves:x.Staves.length<=5
structure Z0.sm (x:Z0):Prop where
 Title:x.Title.size<=300
 Parts:x.Parts.length<=4
 PartsE:∀y∈x.Parts,y.sm
 Measures:x.Measures.length<=10
 MeasuresE:∀y∈x.Measures,y.sm
 Spanners:x.Spanners.length<=10
 Last:x.Last.length<=5
end Go.P
namespace Go.P
theorem gU {A E:Type} {l:List A} {body:Int->Option (Int⊕E)} {Q:E->Prop} (P:A->Prop) (hl:l.length<9223372036854775808)
  (h:∀(i:Int) (x:A),0<=i->i<(l.length:Int)->x∈l->lget l i=some x->w64 (i+1)=i+1->Ok (body i) (fun r=>match r with|.inl j=>j=i+1/\P x|.inr e=>Q e))
  (a:∀i:Int,i=(l.length:Int)->(∀x∈l,P x)->Ok (body i) (fun r=>match r with|.inl j=>False|.inr e=>Q e)):Ok (aO body B64 0) Q:=by
 have hl:l.length<9223372036854775808:=hl
 refine cQ (fun(i:Int)=>0<=i/\i<=l.length/\∀j,j<i.toNat->∀x,l[j]? =some x->P x) (fun i=>l.length-i.toNat) (fun i hi=>?_) B64 0 ⟨by omega,by omega,fun j b=>by simp at b⟩ (by simp[B64];omega)
 obtain⟨h0,h1,h2⟩:=hi
 by_cases c:i<(l.length:Int)
 .have hi:i.toNat<l.length:=by omega
  have hg:lget l i=some l[i.toNat]:=by unfold lget;rw[if_pos h0];simp[hi]
  refine(h i l[i.toNat] h0 c (List.getElem_mem hi) hg (aV (by omega) (by omega))).mono fun r hr=>?_
  cases r with
  |inl j=>
   obtain⟨rfl,hp⟩:=hr
   refine⟨⟨by omega,by omega,fun j b y hy=>?_⟩,by omega⟩
   by_cases e:j=i.toNat
   .subst e;rw[List.getElem?_eq_getElem hi]at hy;cases hy;exact hp
   .exact h2 j (by omega) y hy
  |inr e=>exact hr
 .refine (a i (by omega) (fun x d=>?_)).mono fun r hr=>?_
  .obtain ⟨j,b⟩:=List.mem_iff_getElem?.1 d
   have:=(List.getElem?_eq_some_iff.1 b).1
   exact h2 j (by omega) x b
  .cases r with
   |inl j=>exact hr.elim
   |inr e=>exact hr
theorem U33 {v:Zo} (hv:v.b):Ok (F33 v) (fun r=>r=true->v.sm):=by
 unfold F33
 refine Ob (P:=fun r=>match r with|.inl _=>True|.inr _=>∀e∈v.Events,e.sm) (gU (fun e=>e.sm) hv.Events (fun i x h0 h1 c hg hw=>?_) (fun i hi hp=>?_)) fun r hr=>?_
 .simp only[h1,decide_true,if_true,hg,Option.bind_some]
  refine Oi (fun hc=>.mk trivial) (fun hc=>?_)
  have a:=hv.EventsE x c
  simp only[Bool.or_eq_true,decide_eq_true_eq,not_or]at hc
  refine Ob (P:=fun r=>match r with|.inl _=>True|.inr _=>∀e∈x.Lyrics,e.sm) (gU (fun e=>e.sm) a.Lyrics (fun k y j d hy f g=>?_) (fun k hk hp=>?_)) fun r hr=>?_
  .simp only[d,decide_true,if_true,f,Option.bind_some]
   refine Oi (fun hd=>.mk trivial) (fun hd=>?_)
   rw[g]
   exact .mk ⟨rfl,⟨by simp at hd;omega⟩⟩
  .simp only[hk,Int.lt_irrefl,decide_false,Bool.false_eq_true,if_false]
   exact .mk hp
  .cases r with
   |inl u=>exact .mk trivial
   |inr u=>simp only;rw[hw];exact .mk ⟨rfl,⟨by omega,by omega,by omega,hr⟩⟩
 .simp only[hi,Int.lt_irrefl,decide_false,Bool.false_eq_true,if_false]
  exact .mk hp
 .cases r with
  |inl u=>exact .mk (fun h=>by cases h)
  |inr u=>
   refine .mk (fun h=>?_)
   simp only[Bool.and_eq_true,decide_eq_true_eq]at h
   exact⟨by omega,hr,by omega⟩
end Go.P
namespace Go.P
theorem aP {A S E:Type} {l:List A} {body:S->Option (S⊕E)} {Q:E->Prop} {s0:S} (a:S->Int) (I:Nat->S->Prop) (hl:l.length<9223372036854775808) (h0:a s0=0) (g:I 0 s0)
  (h:∀(i:Nat) (x:A) (s:S),l[i]? =some x->x∈l->a s=(i:Int)->a s<(l.length:Int)->I i s->lget l (a s)=some x->w64 (a s+1)=(i:Int)+1->Ok (body s) (fun r=>match r with|.inl s'=>a s'=(i:Int)+1/\I (i+1) s'|.inr e=>Q e))
  (b:∀s,a s=(l.length:Int)->I l.length s->Ok (body s) (fun r=>match r with|.inl _=>False|.inr e=>Q e)):Ok (aO body B64 s0) Q:=by
 have hl:l.length<9223372036854775808:=hl
 refine cQ (fun s=>0<=a s/\a s<=l.length/\I (a s).toNat s) (fun s=>l.length-(a s).toNat) (fun s hi=>?_) B64 s0 ⟨by omega,by omega,by rw[h0];exact g⟩ (by simp[B64];omega)
 obtain⟨k,n,d⟩:=hi
 by_cases c:a s<(l.length:Int)
 .have hi:(a s).toNat<l.length:=by omega
  have hc:(((a s).toNat:Nat):Int)=a s:=by omega
  have hg:lget l (a s)=some l[(a s).toNat]:=by unfold lget;rw[if_pos k];simp[hi]
  refine(h (a s).toNat l[(a s).toNat] s (by simp[hi]) (List.getElem_mem hi) hc.symm c d hg (by rw[aV (by omega) (by omega)];omega)).mono fun r hr=>?_
  cases r with
  |inl s'=>
   obtain⟨m,f⟩:=hr
   refine⟨⟨by omega,by omega,?_⟩,by omega⟩
   rw[show(a s').toNat=(a s).toNat+1 by omega]
   exact f
  |inr e=>exact hr
 .refine (b s (by omega) ?_).mono fun r hr=>?_
  .rw [show(a s).toNat=l.length by omega]at d;exact d
  .cases r with
   |inl j=>exact hr.elim
   |inr e=>exact hr
theorem bX {A:Type} {g:Bool} {l:List A} {x:A} (h:l.length<1073741824) {Q:List A->Prop} (a:Q (l++[x])):Ok (lapp g l [x]) Q:=by
 unfold lapp
 have e:Sim.maxRoom=1073741824:=rfl
 rw[if_pos ⟨by rw[e,List.length_cons,List.length_nil];omega,fun _=>Nat.le_refl _⟩]
 exact .mk a
theorem U101 {w:Bool} {id:Zz} {l:List Zv} {s:Z0} {r:Int} (h:l.length<1000000):Ok (Fn101 w id l s r) (fun v=>v.length<=l.length+1):=by
 unfold Fn101
 refine Ob (P:=fun v=>v.length<=l.length+1) (Oi (fun _=>Ob (bX (Q:=fun v=>v.length<=l.length+1) (by omega) (by simp)) fun v hv=>.mk hv) (fun _=>.mk (by omega))) fun v hv=>.mk hv
theorem E103 (n a b:Int):F103 n a b=some (decide (n>=a)&&decide (n<=b)):=rfl
theorem E104 (i:Zl):F104 i=some (if((((decide (i.Steps<(-77)))||(decide (i.Steps>77)))||(decide (i.Semitones<(-140))))||(decide (i.Semitones>140)))then 2 else 0):=by
 unfold F104;split<;>rfl
theorem U102 {s:ByteArray} (h:s.size<9223372036854775808):Ok (F102 s) (fun _=>True):=by
 unfold F102
 refine Ob (P:=fun _=>True) (Oi (fun _=>?_) (fun _=>.mk trivial)) fun v hv=>.mk hv
 have:Ok (F166 s.data.toList) (fun _=>True):=by
  unfold F166
  refine Ob (uG (l:=s.data.toList) (g:=fun b=>F165 (b.toNat:Int)) (by rw[Array.length_toList];exact h) (fun x _=>⟨_,rfl⟩)) fun v hv=>.mk trivial
 exact Ob this fun v hv=>.mk trivial
end Go.P
namespace Go.P
section
variable {α β:Type} {Q:α->Prop}
theorem Ok.bindE {P:β->Prop} {x:Option β} {k:β->Option α} (h:Ok x P) (hk:∀v,x=some v->P v->Ok (k v) Q):Ok (x.bind k) Q:=by
 obtain⟨v,rfl,hv⟩:=h
 exact hk v rfl hv
theorem Ok.of {x:Option α} (h:Ok x Q) {v:α} (hv:x=some v):Q v:=by
 obtain⟨w,h1,h2⟩:=h
 rw[h1]at hv;cases hv;exact h2
theorem mY {k:IntKind} {a b:Int} (h:b≠0):Ok (quoO k a b) (fun v=>v=k.wrap (a.tdiv b)):=by
 unfold quoO;rw[if_neg h];exact .mk rfl
theorem uH {k:IntKind} {a b:Int} (h:b≠0):Ok (remO k a b) (fun v=>v=a.tmod b):=by
 unfold remO;rw[if_neg h];exact .mk rfl
theorem mZ {k:IntKind} {a b:Int} (h:0<=b):Ok (shrO k a b) (fun v=>v=a.fdiv (2^min b.toNat k.bits)):=by
 unfold shrO;rw[if_neg (by omega)];exact .mk rfl
theorem aN1 {k:IntKind} {a b:Int} (h:0<=b):Ok (shlO k a b) (fun _=>True):=by
 unfold shlO;rw[if_neg (by omega)];exact .mk trivial
end
section
variable {A:Type} {l:List A}
theorem bN {i:Int} (h0:0<=i) (h1:i<(l.length:Int)):Ok (lidx l i) (fun v=>v=i.toNat/\v<l.length):=by
 unfold lidx tP;rw[if_pos ⟨h0,h1⟩];exact .mk ⟨rfl,by omega⟩
theorem bR {j:Nat} (h:j<l.length):Ok (lnth l j) (fun x=>l[j]? =some x/\x∈l):=by
 unfold lnth;rw[List.getElem?_eq_getElem h];exact .mk ⟨rfl,List.getElem_mem h⟩
theorem aO1 {j:Nat} {f:A->A} (h:j<l.length):Ok (lput l j f) (fun m=>m.length=l.length):=by
 unfold lput;rw[List.getElem?_eq_getElem h];exact .mk (by simp)
theorem lF {n c:Int} {z:A} (h0:0<=n) (h1:n<=c) (h2:c<=1073741824):Ok (sL n c z) (fun v=>v=List.replicate n.toNat z):=by
 unfold sL;rw[if_pos ⟨h0,h1,h2⟩];exact .mk rfl
theorem sN {a b:Int} (h0:0<=a) (h1:a<=b) (h2:b<=(l.length:Int)):Ok (mU l a b) (fun v=>v.length<=l.length/\∀x∈v,x∈l):=by
 unfold mU;rw[if_pos ⟨h0,h1,h2⟩]
 exact .mk ⟨by simp;omega,fun x c=>List.mem_of_mem_drop (List.mem_of_mem_take c)⟩
theorem aP1 {h:Int} (h0:0<l.length) (h1:0<=h) (h2:h<=(l.length:Int)):Ok (sK l h) (fun v=>v.length=h.toNat/\∀x∈v,x∈l):=by
 unfold sK;rw[if_pos ⟨h0,h1,h2⟩]
 exact .mk ⟨by simp;omega,fun x a=>List.mem_of_mem_take a⟩
theorem bJ {i:Int} {x:A} (h:lget l i=some x):0<=i/\i<(l.length:Int)/\x∈l/\l[i.toNat]? =some x:=by
 unfold lget at h
 split at h
 .obtain ⟨hi,_⟩:=List.getElem?_eq_some_iff.1 h
  exact⟨by omega,by omega,List.mem_of_getElem? h,h⟩
 .cases h
end
theorem nA {s:ByteArray} {i:Int} (h0:0<=i) (h1:i<(s.size:Int)):Ok (kM s i) (fun v=>0<=v/\v<=255):=by
 unfold kM;rw[if_pos h0]
 have h:i.toNat<s.data.toList.length:=by rw[Array.length_toList];show i.toNat<s.size;omega
 rw[List.getElem?_eq_getElem h]
 have:=(s.data.toList[i.toNat]).toNat_lt
 exact .mk ⟨by dsimp only;omega,by dsimp only;omega⟩
theorem nB {A:Type} {l:List A} (h:l.length<=1073741824):mX l=some l:=by
 unfold mX
 rw[Nat.ble_eq_true_of_le h];rfl
theorem nm:(∀a b:Bool,((a||b)=true)=(a=true\/b=true))/\(∀a b:Bool,((a&&b)=true)=(a=true/\b=true))/\(∀b:Bool,((!b)=true)=(b=false))/\(∀(p:Prop) [Decidable p],(decide p=true)=p)/\
  (∀(p:Prop) [Decidable p],(decide p=false)=¬p)/\(∀p q:Prop,(¬(p\/q))=(¬p/\¬q))/\(∀p q:Prop,(¬(p/\q))=(p->¬q))/\(∀b:Bool,(¬b=true)=(b=false))/\(∀a b:Int,((a !=b)=true)=¬a=b)/\
  (∀a b:Int,((a==b)=true)=(a=b))/\(∀p:Prop,(¬¬p)=p):=
 ⟨fun a b=>by simp,fun a b=>by simp,fun b=>by simp,fun p _=>by simp,fun p _=>by simp,fun p q=>by simp,fun p q=>by simp,fun b=>by simp,fun a b=>by simp,fun a b=>by simp,fun p=>by simp⟩
theorem nl {A:Type}:(∀(a:A) (l:List A),(a::l).length=l.length+1)/\([]:List A).length=0:=⟨fun _ _=>rfl,rfl⟩
theorem nt:(∀[Decidable True],decide True=true)/\(∀(α:Type) [Decidable True] (a b:α),(if True then a else b)=a)/\∀(α β:Type) (a:α) (f:α->Option β),(some a).bind f=f a:=⟨decide_true _,fun _ _ _ _=>if_true ..,fun _ _ _ _=>rfl⟩
theorem nf:(∀a:Int,(a<a)=False)/\(∀[Decidable False],decide False=false)/\((false=true)=False)/\∀(α:Type) [Decidable False] (a b:α),(if False then a else b)=b:=⟨fun a=>by simp,decide_false _,by simp,fun _ _ _ _=>if_false ..⟩
theorem obT {α β:Type} {Q:α->Prop} {x:Option β} {k:β->Option α} (h:Ok x fun _=>True) (hk:∀v,Ok (k v) Q):Ok (x.bind k) Q:=Ob h fun v _=>hk v
theorem lpT {A S E β:Type} {l:List A} {body:S->Option (S⊕E)} {s0:S} {k:E->Option β} {Q:β->Prop} (a:S->Int) (hl:l.length<9223372036854775808) (h0:a s0=0)
  (h:∀(i:Nat) (x:A) (s:S),x∈l->a s=(i:Int)->a s<(l.length:Int)->lget l (a s)=some x->w64 (a s+1)=(i:Int)+1->Ok (body s) (fun r=>match r with|.inl s'=>a s'=(i:Int)+1|.inr _=>True))
  (b:∀s,a s=(l.length:Int)->Ok (body s) (fun r=>match r with|.inl _=>False|.inr _=>True)) (hk:∀e,Ok (k e) Q):Ok ((aO body B64 s0).bind k) Q:=
 obT (aP (l:=l) a (fun _ _=>True) hl h0 trivial (fun i x s _ d hi c _ hg hw=>(h i x s d hi c hg hw).mono fun r hr=>by cases r with|inl s'=>exact⟨hr,trivial⟩|inr e=>trivial) (fun s hi _=>b s hi)) hk
theorem cX1 {s:ByteArray} {n:Nat} (h:s.size<=n):s.data.toList.length<=n:=by rw[Array.length_toList];exact h
theorem dV1 (n:Int): -9223372036854775808<=w64 n/\w64 n<=9223372036854775807:=by
 have e:w64 n=if n%18446744073709551616>=9223372036854775808 then n%18446744073709551616-18446744073709551616 else n%18446744073709551616:=by
  unfold w64 IntKind.wrap
  rw[show((2:Int)^IntKind.bits .i64)=18446744073709551616 from rfl,show((2:Int)^(IntKind.bits .i64-1))=9223372036854775808 from rfl]
  simp[IntKind.signed]
 rw[e]
 split<;>omega
theorem eI {S E:Type} {body:S->Option (S⊕E)} {Q:E->Prop} {s0:S} (d:S->Int) (N:Int) (I:S->Prop) (g:N<=9223372036854775807) (h0: -1000<=d s0) (f:I s0)
  (h:∀s,I s->d s0<=d s->(d s<N->w64 (d s+1)=d s+1)->Ok (body s) (fun r=>match r with|.inl s'=>d s<N/\d s'=d s+1/\I s'|.inr e=>Q e)):Ok (aO body B64 s0) Q:=by
 refine cQ (fun s=>I s/\d s0<=d s) (fun s=>(N-d s).toNat) (fun s hs=>?_) B64 s0 ⟨f,Int.le_refl _⟩ (by simp only[B64];omega)
 refine(h s hs.1 hs.2 (fun hc=>aV (by omega) (by omega))).mono fun r hr=>?_
 cases r with
 |inl s'=>obtain⟨a,b,c⟩:=hr;exact⟨⟨c,by omega⟩,by omega⟩
 |inr e=>exact hr
theorem S101 {w:Bool} {id:Zz} {l:List Zv} {s:Z0} {r:Int} (h:l.length<1000000):Ok (Fn101 w id l s r) (fun v=>(w=true->v.length=l.length+1)/\(w=false->v.length=l.length)):=by
 unfold Fn101
 refine Ob (P:=fun v=>(w=true->v.length=l.length+1)/\(w=false->v.length=l.length)) (Oi (fun h=>Ob (bX (Q:=fun v=>v.length=l.length+1) (by omega) (by simp)) fun v hv=>.mk ⟨fun _=>hv,fun h2=>by rw[h]at h2;cases h2⟩) (fun h=>.mk ⟨fun h2=>absurd h2 h,fun _=>rfl⟩)) fun v hv=>.mk hv
theorem iK1 (n:Int):0<=IntKind.wrap .u8 n/\IntKind.wrap .u8 n<256:=by
 unfold IntKind.wrap
 rw[show((2:Int)^IntKind.bits .u8)=256 from rfl]
 simp[IntKind.signed]
 omega
theorem U59b {l:List Zv} {s:Z0} {r:Int} (hs:s.sm) (h0:s.Measures.length=0) (h:l.length<900000):Ok (Fn59 l s r) (fun v=>0<v.length):=by
 unfold Fn59
 have hp:=hs.Parts
 refine Ob (P:=fun v=>v.length<=l.length+4) (aP (l:=s.Parts) (fun q=>q.1) (fun i q=>q.2.length<=l.length+i) (by omega) rfl (by simp) (fun i x q m f hi e d hg hw=>?_) (fun q hi d=>?_)) fun v1 h1=>?_
 .obtain ⟨k,j⟩:=q
  have g:=hs.PartsE x f
  have n:=g.Name
  simp only at hi e d hg hw
  simp only[e,decide_true,if_true,hg,Option.bind_some,E103,E104]
  refine Ob (U102 (by omega)) fun a _=>?_
  refine Ob (P:=fun _=>True) (by split<;>exact .mk trivial) fun b _=>?_
  refine Ob (P:=fun _=>True) (by split<;>exact .mk trivial) fun c _=>?_
  refine Ob (U101 (by omega)) fun v hv=>.mk ⟨hw,by dsimp only;omega⟩
 .obtain ⟨k,j⟩:=q
  simp only at hi d
  simp only[hi,Int.lt_irrefl,decide_false,Bool.false_eq_true,if_false]
  exact .mk (by omega)
 refine Ob (P:=fun v=>v.length<=l.length+4) (aP (l:=s.Measures) (fun q=>q.1) (fun i q=>q.2.length<=l.length+4) (by omega) rfl h1 (fun i x q m f hi e d hg hw=>by omega) (fun q hi d=>?_)) fun v1 h1=>?_
 .obtain ⟨k,j⟩:=q
  simp only at hi d
  simp only[hi,Int.lt_irrefl,decide_false,Bool.false_eq_true,if_false]
  exact .mk d
 have o:=hs.Title
 refine Ob (U102 (by omega)) fun a _=>?_
 simp only[E103,Option.bind_some]
 refine Ob (P:=fun _=>True) (by split<;>exact .mk trivial) fun b _=>?_
 refine Ob (P:=fun r=>r=true) (Oi (fun _=>.mk rfl) (fun _=>.mk (by simp[h0]))) fun c hc=>?_
 subst hc
 simp only[Bool.true_or]
 refine Ob (S101 (by omega)) fun v hv=>.mk (by have:=hv.1 rfl;omega)
def Zu.ok (n:Int) (t:Zu):Prop:=1<=t.Count/\t.Count<=n/\0<=t.First/\t.First+t.Count<=n/\1<=t.Actual/\t.Actual<=32/\1<=t.Normal/\t.Normal<=32
def Z0.pl (s:Z0) (m c v:Int):Prop:=∃x y z,lget s.Measures m=some x/\lget x.Cells c=some y/\lget y.Voices v=some z
end Go.P
set_option maxHeartbeats 1000000
namespace Go.P
theorem U34 {v:Zo} (hv:v.b):Ok (F34 v) (fun _=>True):=by
 unfold F34
 refine Ob (P:=fun _=>True) (aP (l:=v.Events) (fun q=>q.2) (fun _ _=>True) hv.Events rfl trivial (fun i e q c a hi hl _ hg hw=>?_) (fun q hi _=>?_)) fun v _=>.mk trivial
 .obtain ⟨n,k⟩:=q
  dsimp only at hi hl hg hw
  simp only[hl,hg,decide_true,if_true,Option.bind_some]
  refine Ob (P:=fun _=>True) (aP (l:=e.Lyrics) (fun q=>q.2) (fun _ _=>True) (hv.EventsE e a).Lyrics rfl trivial (fun i e q c a hi hl _ hg hw=>?_) (fun q hi _=>?_)) fun x _=>.mk ⟨hw,trivial⟩
  .obtain ⟨n,k⟩:=q
   dsimp only at hi hl hg hw
   simp only[hl,hg,decide_true,if_true,Option.bind_some]
   exact .mk ⟨hw,trivial⟩
  .obtain ⟨n,k⟩:=q
   dsimp only at hi
   simp only[hi,Int.lt_irrefl,decide_false,Bool.false_eq_true,if_false]
   exact .mk trivial
 .obtain ⟨n,k⟩:=q
  dsimp only at hi
  simp only[hi,Int.lt_irrefl,decide_false,Bool.false_eq_true,if_false]
  exact .mk trivial
theorem U13 {s:Z0} (hb:s.b):Ok (F13 s) (fun r=>r=true->s.sm):=by
 unfold F13
 refine Ob (P:=fun r=>match r with|.inl _=>True|.inr _=>∀p∈s.Parts,p.sm) (gU (l:=s.Parts) (fun p=>p.sm) hb.Parts (fun i p h0 h1 d hg hw=>?_) (fun i hi o=>?_)) fun r hr=>?_
 .simp only[h1,hg,hw,decide_true,if_true,Option.bind_some]
  refine Ob (P:=fun b=>b=true\/p.sm) (Oi (fun _=>.mk (.inl rfl)) (fun hc=>.mk ?_)) fun b hb=>?_
  .simp only[decide_eq_true_eq]at hc
   by_cases h:(p.Name.size:Int)>300
   .exact .inl (by simpa using h)
   .exact .inr ⟨by omega,by omega⟩
  .exact Oi (fun _=>.mk trivial) (fun hc=>.mk ⟨rfl,hb.resolve_left hc⟩)
 .simp only[hi,Int.lt_irrefl,decide_false,Bool.false_eq_true,if_false]
  exact .mk o
 rcases r with _|_
 .exact .mk (fun h=>by cases h)
 refine Ob (P:=fun r=>match r with|.inl _=>True|.inr _=>∀m∈s.Measures,m.sm) (aP (l:=s.Measures) (fun q=>q.2.2) (fun i q=>∀m∈s.Measures.take i,m.sm) hb.Measures rfl (fun m j=>by simp at j) (fun i m q d j hi hl g hg hw=>?_) (fun q hi g=>?_)) fun r B=>?_
 .obtain ⟨ev,by',k⟩:=q
  have F:=hb.MeasuresE m j
  dsimp only at hi hl hg hw
  simp only[hl,hg,decide_true,if_true,Option.bind_some]
  refine Oi (fun _=>.mk trivial) (fun hc=>?_)
  simp only[Bool.or_eq_true,decide_eq_true_eq,not_or]at hc
  refine Ob (P:=fun r=>match r with|.inl _=>True|.inr _=>∀c∈m.Cells,c.sm) (aP (l:=m.Cells) (fun q=>q.2.2) (fun i q=>∀c∈m.Cells.take i,c.sm) F.Cells rfl (fun m j=>by simp at j) (fun i c q C z hi hl w hg t=>?_) (fun q hi g=>?_)) fun r hr=>?_
  .obtain ⟨ev,by',k⟩:=q
   have E:=F.CellsE c z
   dsimp only at hi hl hg t
   simp only[hl,hg,decide_true,if_true,Option.bind_some]
   refine Ob (P:=fun b=>b=true\/(c.Clefs.length<=5/\c.Voices.length<=3)) (Oi (fun _=>.mk (.inl rfl)) (fun hc=>.mk ?_)) fun b hb=>?_
   .simp only[decide_eq_true_eq]at hc
    by_cases h:(c.Voices.length:Int)>3
    .exact .inl (by simpa using h)
    .exact .inr ⟨by omega,by omega⟩
   refine Oi (fun _=>.mk trivial) (fun hcc=>?_)
   have hcc:=hb.resolve_left hcc
   refine Ob (P:=fun r=>match r with|.inl _=>True|.inr _=>∀v∈c.Voices,v.sm) (aP (l:=c.Voices) (fun q=>q.2.2) (fun i q=>∀v∈c.Voices.take i,v.sm) E.Voices rfl (fun m j=>by simp at j) (fun i v q D A hi hl g hg u=>?_) (fun q hi g=>?_)) fun r hr=>?_
   .obtain ⟨ev,by',k⟩:=q
    have bv:=E.VoicesE v A
    dsimp only at hi hl hg u
    simp only[hl,hg,decide_true,if_true,Option.bind_some]
    refine Ob (U33 bv) fun f hf=>?_
    refine Oi (fun _=>.mk trivial) (fun y=>?_)
    refine Ob (U34 bv) fun n _=>?_
    refine Oi (fun _=>.mk trivial) (fun _=>.mk ⟨u,fun x d=>?_⟩)
    rw[List.take_add_one,D]at d
    rcases List.mem_append.1 d with d|d
    .exact g x d
    .simp at d;subst d;exact hf (by simpa using y)
   .obtain ⟨ev,by',k⟩:=q
    dsimp only at hi
    simp only[hi,Int.lt_irrefl,decide_false,Bool.false_eq_true,if_false]
    rw[List.take_length]at g
    exact .mk g
   .rcases r with⟨a,b⟩|⟨a,b⟩
    .exact .mk trivial
    .refine .mk ⟨t,fun x d=>?_⟩
     rw[List.take_add_one,C]at d
     rcases List.mem_append.1 d with d|d
     .exact w x d
     .simp at d;subst d;exact⟨hcc.1,hcc.2,hr⟩
  .obtain ⟨ev,by',k⟩:=q
   dsimp only at hi
   simp only[hi,Int.lt_irrefl,decide_false,Bool.false_eq_true,if_false]
   rw[List.take_length]at g
   exact .mk g
  .rcases r with⟨a,b⟩|⟨a,b⟩
   .exact .mk trivial
   .refine .mk ⟨hw,fun x e=>?_⟩
    rw[List.take_add_one,d]at e
    rcases List.mem_append.1 e with e|e
    .exact g x e
    .simp at e;subst e;exact⟨by omega,by omega,by omega,hr⟩
 .obtain ⟨ev,by',k⟩:=q
  dsimp only at hi
  simp only[hi,Int.lt_irrefl,decide_false,Bool.false_eq_true,if_false]
  rw[List.take_length]at g
  exact .mk g
 .rcases r with _|_
  .exact .mk (fun h=>by cases h)
  .refine .mk (fun h=>?_)
   simp only[Bool.and_eq_true,decide_eq_true_eq]at h
   exact⟨by omega,by omega,hr,by omega,B,by omega,by omega⟩
end Go.P
set_option maxHeartbeats 2000000
namespace Go.P
theorem T165 {a:Int}:Ok (F165 a) (fun _=>True):=by
 unfold F165
 exact .mk trivial
theorem T221 {f:List UInt8} (a:f.length<=300):Ok (F221 f) (fun _=>True):=by
 unfold F221
 have g:=a
 refine lpT (l:=f) (fun q=>q) (Nat.lt_of_le_of_lt a (by decide)) rfl (fun m k i h b d c e=>?_) (fun i b=>?_) fun j=>?_
 .simp only[d,c,nt]
  refine obT (T165) fun n=>?_
  refine Oi (fun c13=>?_) (fun c13=>?_)
  .exact .mk trivial
  exact .mk e
 .simp only[b,nf]
  exact .mk trivial
 rcases j with o|_
 .exact .mk trivial
 .exact .mk trivial
theorem T166 {b:List UInt8} (a:b.length<=300):Ok (F166 b) (fun _=>True):=by
 unfold F166
 refine obT (T221 a) fun c=>?_
 exact .mk trivial
theorem T102 {b:ByteArray} (a:b.size<=300):Ok (F102 b) (fun _=>True):=by
 unfold F102
 refine Ob (P:=fun r=>r=true->(decide ((b.size:Int)<=256))=true) ?_ fun e c=>?_
 .refine Oi (fun c16=>?_) (fun _=>.mk (fun h=>by cases h))
  refine obT (T166 (cX1 a)) fun d=>?_
  exact .mk (fun _=>c16)
 exact .mk trivial
theorem T103 {a b c:Int}:Ok (F103 a b c) (fun _=>True):=by
 unfold F103
 exact .mk trivial
theorem T104 {a:Zl}:Ok (F104 a) (fun _=>True):=by
 unfold F104
 refine Oi (fun c18=>?_) (fun c18=>?_)
 .exact .mk trivial
 exact .mk trivial
theorem Tn101 {b:Bool} {f:Zz} {a:List Zv} {c:Z0} {g:Int} (d:a.length+1<=1000000) (e:c.sm):Ok (Fn101 b f a c g) (fun v=>a.length<=v.length/\v.length<=a.length+1):=by
 exact(S101 (by omega)).mono fun v h=>by cases b<;>simp at h<;>omega
theorem Tn59 {B:List Zv} {H:Z0} {x3:Int} (d2:B.length+15<=1000000) (a:H.sm):Ok (Fn59 B H x3) (fun v=>B.length<=v.length/\v.length<=B.length+15):=by
 unfold Fn59
 have b4:=a.Parts
 refine Ob (P:=fun r=>B.length<=r.length/\r.length<=B.length+4) (aP (l:=H.Parts) (fun q=>q.1) (fun i q=>B.length<=q.2.length/\q.2.length<=B.length+i*1) (Nat.lt_of_le_of_lt a.Parts (by decide)) rfl (by dsimp only;omega) (fun d8 d0 q30 b8 D c s g o x=>?_) (fun q30 c g=>?_)) fun n g4=>?_
 .obtain ⟨O,R⟩:=q30
  dsimp only at c s o x g
  simp only[s,o,nt]
  have N:=a.PartsE _ D
  refine obT (T102 N.Name) fun S=>?_
  refine Ob (P:=fun r=>¬r=true->¬(!S)=true) ?_ fun T L=>?_
  .refine Oi (fun _=>.mk (fun h=>absurd rfl h)) (fun c35=>?_)
   refine obT (T103) fun e5=>?_
   exact .mk (fun _=>c35)
  refine Ob (P:=fun r=>¬r=true->¬T=true) ?_ fun e7 d3=>?_
  .refine Oi (fun _=>.mk (fun h=>absurd rfl h)) (fun c38=>?_)
   have e2:=L c38
   refine obT (T104) fun e6=>?_
   exact .mk (fun _=>c38)
  refine Ob (Tn101 (by first|omega|(simp only[List.length_nil]at *;omega)) a) fun e8 d4=>?_
  exact .mk ⟨x,by dsimp only;omega⟩
 .obtain ⟨O,R⟩:=q30
  dsimp only at c g
  simp only[c,nf]
  exact .mk (by dsimp only;omega)
 have b5:=a.Measures
 refine Ob (P:=fun r=>n.length<=r.length/\r.length<=n.length+10) (aP (l:=H.Measures) (fun q=>q.1) (fun i q=>n.length<=q.2.length/\q.2.length<=n.length+i*1) (Nat.lt_of_le_of_lt a.Measures (by decide)) rfl (by dsimp only;omega) (fun d9 J q53 b9 E d t j b y=>?_) (fun q53 d j=>?_)) fun f4 g5=>?_
 .obtain ⟨U,V⟩:=q53
  dsimp only at d t b y j
  simp only[t,b,nt]
  have m:=a.MeasuresE _ E
  refine obT (T102 m.Rehearsal) fun e9=>?_
  have b6:=m.Cells
  refine lpT (l:=J.Cells) (fun q=>q.2) (Nat.lt_of_le_of_lt m.Cells (by decide)) rfl (fun e0 K q67 F e u k z=>?_) (fun q67 e=>?_) fun f1=>?_
  .obtain ⟨W,X⟩:=q67
   dsimp only at e u k z
   simp only[u,b,k,nt]
   have C:=m.CellsE _ F
   have b7:=C.Voices
   refine lpT (l:=K.Voices) (fun q=>q.2) (Nat.lt_of_le_of_lt C.Voices (by decide)) rfl (fun e1 d1 q80 G f w p A=>?_) (fun q80 f=>?_) fun f0=>?_
   .obtain ⟨Y,Z⟩:=q80
    dsimp only at f w p A
    simp only[w,b,k,p,nt]
    have e4:=C.VoicesE _ G
    exact .mk A
   .obtain ⟨Y,Z⟩:=q80
    dsimp only at f
    simp only[f,nf]
    exact .mk trivial
   exact .mk z
  .obtain ⟨W,X⟩:=q67
   dsimp only at e
   simp only[e,nf]
   exact .mk trivial
  refine Ob (Tn101 (by first|omega|(simp only[List.length_nil]at *;omega)) a) fun f2 d5=>?_
  exact .mk ⟨y,by dsimp only;omega⟩
 .obtain ⟨U,V⟩:=q53
  dsimp only at d j
  simp only[d,nf]
  exact .mk (by dsimp only;omega)
 refine obT (T102 a.Title) fun a0=>?_
 refine Ob (P:=fun r=>¬r=true->¬(!a0)=true) ?_ fun b0 M=>?_
 .refine Oi (fun _=>.mk (fun h=>absurd rfl h)) (fun c86=>?_)
  refine obT (T103) fun f8=>?_
  exact .mk (fun _=>c86)
 refine Ob (P:=fun r=>¬r=true->¬b0=true) ?_ fun g1 d6=>?_
 .refine Oi (fun _=>.mk (fun h=>absurd rfl h)) (fun c89=>?_)
  have e3:=M c89
  refine obT (T103) fun f9=>?_
  exact .mk (fun _=>c89)
 refine Ob (Tn101 (by first|omega|(simp only[List.length_nil]at *;omega)) a) fun g3 d7=>?_
 exact .mk (by omega)
theorem Tn56 {a:Z0} (b:a.sm):Ok (Fn56 a) (fun _=>True):=by
 unfold Fn56
 exact .mk trivial
theorem Ty105_5 {f h:Int} {i j:Int} {k l m:Int} {b:Zj} {a:List Zz} (c:b.sm) (e:a.length+1<=1000000):Ok (Fy105_5 f h i j k l m b a) (fun v=>v.length<=a.length+1):=by
 unfold Fy105_5
 refine Ob (bX (Q:=fun v=>v.length=a.length+1) (by omega) (by simp)) fun g d=>?_
 exact .mk (by omega)
theorem Ty105_5_2 {d f:Int} {g h:Int} {i j k:Int} {l:Zf} {a:List Zz} (c:a.length+1<=1000000):Ok (Fy105_5_2 d f g h i j k l a) (fun v=>v.length<=a.length+1):=by
 unfold Fy105_5_2
 refine Ob (bX (Q:=fun v=>v.length=a.length+1) (by omega) (by simp)) fun e b=>?_
 exact .mk (by omega)
theorem Ty105_5_3 {f h:Int} {i j:Int} {k l m:Int} {b:Zm} {a:List Zz} (c:b.sm) (e:a.length+1<=1000000):Ok (Fy105_5_3 f h i j k l m b a) (fun v=>v.length<=a.length+1):=by
 unfold Fy105_5_3
 refine Ob (bX (Q:=fun v=>v.length=a.length+1) (by omega) (by simp)) fun g d=>?_
 exact .mk (by omega)
theorem Ty105_5_4 {f h:Int} {i j:Int} {k l m:Int} {b:Ze} {a:List Zz} (c:b.sm) (e:a.length+1<=1000000):Ok (Fy105_5_4 f h i j k l m b a) (fun v=>v.length<=a.length+1):=by
 unfold Fy105_5_4
 refine Ob (bX (Q:=fun v=>v.length=a.length+1) (by omega) (by simp)) fun g d=>?_
 exact .mk (by omega)
theorem Ty105_5_5 {d f:Int} {g h:Int} {i j k:Int} {l:Zn} {a:List Zz} (c:a.length+1<=1000000):Ok (Fy105_5_5 d f g h i j k l a) (fun v=>v.length<=a.length+1):=by
 unfold Fy105_5_5
 refine Ob (bX (Q:=fun v=>v.length=a.length+1) (by omega) (by simp)) fun e b=>?_
 exact .mk (by omega)
theorem Tn100 {x1:Z0} {x2:List Zz} (k:x1.sm) (j8:x2.length+3044<=1000000):Ok (Fn100 x1 x2) (fun v=>v.length<=x2.length+3044):=by
 unfold Fn100
 have e5:=k.Parts
 refine Ob (P:=fun r=>r.length<=x2.length+24) (aP (l:=x1.Parts) (fun q=>q.2.1) (fun i q=>q.2.2.length<=x2.length+i*6) (Nat.lt_of_le_of_lt k.Parts (by decide)) rfl (by dsimp only;omega) (fun j9 b7 q109 f2 a0 c C m w K=>?_) (fun q109 c m=>?_)) fun e1 k3=>?_
 .obtain ⟨g5,g6,g7⟩:=q109
  dsimp only at c C w K m
  simp only[C,w,nt]
  have T:=k.PartsE _ a0
  refine Ob (Ty105_5 T (by first|omega|(simp only[List.length_nil]at *;omega))) fun e0 h5=>?_
  have e6:=T.Staves
  refine Ob (P:=fun r=>r.2.length<=e0.length+5) (aP (l:=b7.Staves) (fun q=>q.2.1) (fun i q=>q.2.2.length<=e0.length+i*1) (Nat.lt_of_le_of_lt T.Staves (by decide)) rfl (by dsimp only;omega) (fun i0 h2 q125 f4 e3 d D n z L=>?_) (fun q125 d n=>?_)) fun⟨k1,k2⟩ e2=>?_
  .obtain ⟨g8,g9,h0⟩:=q125
   dsimp only at d D z L n
   simp only[D,w,z,nt]
   refine Ob (Ty105_5_2 (by first|omega|(simp only[List.length_nil]at *;omega))) fun k0 h6=>?_
   exact .mk ⟨L,by dsimp only;omega⟩
  .obtain ⟨g8,g9,h0⟩:=q125
   dsimp only at d n
   simp only[d,nf]
   exact .mk (by dsimp only;omega)
  try dsimp only at e2
  exact .mk ⟨K,by dsimp only;omega⟩
 .obtain ⟨g5,g6,g7⟩:=q109
  dsimp only at c m
  simp only[c,nf]
  exact .mk (by dsimp only;omega)
 have e7:=k.Measures
 refine Ob (P:=fun r=>r.length<=e1.length+3010) (aP (l:=x1.Measures) (fun q=>q.1) (fun i q=>q.2.length<=e1.length+i*301) (Nat.lt_of_le_of_lt k.Measures (by decide)) rfl (by dsimp only;omega) (fun i1 b8 q140 f8 b0 e E o a M=>?_) (fun q140 e o=>?_)) fun Z j3=>?_
 .obtain ⟨d2,d3⟩:=q140
  dsimp only at e E a M o
  simp only[E,a,nt]
  have y:=k.MeasuresE _ b0
  refine Ob (Ty105_5_3 y (by first|omega|(simp only[List.length_nil]at *;omega))) fun Y h7=>?_
  have e8:=y.Cells
  refine Ob (P:=fun r=>r.length<=Y.length+300) (aP (l:=b8.Cells) (fun q=>q.1) (fun i q=>q.2.length<=Y.length+i*60) (Nat.lt_of_le_of_lt y.Cells (by decide)) rfl (by dsimp only;omega) (fun i2 b9 q156 f9 b4 f F p b N=>?_) (fun q156 f p=>?_)) fun j0 j4=>?_
  .obtain ⟨d4,W⟩:=q156
   dsimp only at f F b N p
   simp only[F,a,b,nt]
   have U:=y.CellsE _ b4
   have e9:=U.Voices
   refine Ob (P:=fun r=>r.length<=W.length+60) (aP (l:=b9.Voices) (fun q=>q.1) (fun i q=>q.2.length<=W.length+i*20) (Nat.lt_of_le_of_lt U.Voices (by decide)) rfl (by dsimp only;omega) (fun i3 d0 q171 g1 b5 g G s x O=>?_) (fun q171 g s=>?_)) fun i9 j5=>?_
   .obtain ⟨d5,X⟩:=q171
    dsimp only at g G x O s
    simp only[G,a,b,x,nt]
    have V:=U.VoicesE _ b5
    have f0:=V.Events
    refine Ob (P:=fun r=>r.length<=X.length+20) (aP (l:=d0.Events) (fun q=>q.1) (fun i q=>q.2.length<=X.length+i*1) (Nat.lt_of_le_of_lt V.Events (by decide)) rfl (by dsimp only;omega) (fun i4 h3 q187 g3 b6 h H t A R=>?_) (fun q187 h t=>?_)) fun i7 j6=>?_
    .obtain ⟨d6,d7⟩:=q187
     dsimp only at h H A R t
     simp only[H,a,b,x,A,nt]
     have d1:=V.EventsE _ b6
     refine Ob (Ty105_5_4 d1 (by first|omega|(simp only[List.length_nil]at *;omega))) fun i6 h8=>?_
     exact .mk ⟨R,by dsimp only;omega⟩
    .obtain ⟨d6,d7⟩:=q187
     dsimp only at h t
     simp only[h,nf]
     exact .mk (by dsimp only;omega)
    exact .mk ⟨O,by dsimp only;omega⟩
   .obtain ⟨d5,X⟩:=q171
    dsimp only at g s
    simp only[g,nf]
    exact .mk (by dsimp only;omega)
   exact .mk ⟨N,by dsimp only;omega⟩
  .obtain ⟨d4,W⟩:=q156
   dsimp only at f p
   simp only[f,nf]
   exact .mk (by dsimp only;omega)
  exact .mk ⟨M,by dsimp only;omega⟩
 .obtain ⟨d2,d3⟩:=q140
  dsimp only at e o
  simp only[e,nf]
  exact .mk (by dsimp only;omega)
 have f1:=k.Spanners
 refine Ob (P:=fun r=>r.length<=Z.length+10) (aP (l:=x1.Spanners) (fun q=>q.1) (fun i q=>q.2.length<=Z.length+i*1) (Nat.lt_of_le_of_lt k.Spanners (by decide)) rfl (by dsimp only;omega) (fun i5 h4 q205 g4 e4 j J u B S=>?_) (fun q205 j u=>?_)) fun j2 j7=>?_
 .obtain ⟨d8,d9⟩:=q205
  dsimp only at j J B S u
  simp only[J,B,nt]
  refine Ob (Ty105_5_5 (by first|omega|(simp only[List.length_nil]at *;omega))) fun j1 h9=>?_
  exact .mk ⟨S,by dsimp only;omega⟩
 .obtain ⟨d8,d9⟩:=q205
  dsimp only at j u
  simp only[j,nf]
  exact .mk (by dsimp only;omega)
 exact .mk (by omega)
theorem T105 {c:Z0} (a:c.sm):Ok (F105 c) (fun v=>v.length<=4000):=by
 unfold F105
 refine obT (Tn56 a) fun _=>?_
 refine Ob (Tn100 a (by first|omega|(simp only[List.length_nil]at *;omega))) fun d b=>?_
 exact .mk (by simp only[List.length_nil]at *;omega)
theorem T106 {b:Zz}:Ok (F106 b) (fun _=>True):=by
 unfold F106
 refine obT (T103) fun c=>?_
 refine Ob (P:=fun r=>r=true->c=true) ?_ fun e a=>?_
 .refine Oi (fun c212=>?_) (fun _=>.mk (fun h=>by cases h))
  refine obT (T103) fun d=>?_
  exact .mk (fun _=>c212)
 exact .mk trivial
theorem T107 {h:Z0} {k:Int} (e:h.sm):Ok (F107 h k) (fun _=>True):=by
 unfold F107
 have g:=e.Last
 refine lpT (l:=h.Last) (fun q=>q) (Nat.lt_of_le_of_lt e.Last (by decide)) rfl (fun j i m f a c b d=>?_) (fun m a=>?_) fun n=>?_
 .simp only[c,b,nt]
  refine Oi (fun c225=>?_) (fun c225=>?_)
  .exact .mk trivial
  exact .mk d
 .simp only[a,nf]
  exact .mk trivial
 rcases n with o|_
 .exact .mk trivial
 .exact .mk trivial
theorem Tn60 {o:List Zv} {z:Z0} {x3:Int} (X:o.length+4001<=1000000) (c:z.sm):Ok (Fn60 o z x3) (fun v=>o.length<=v.length/\v.length<=o.length+4001):=by
 unfold Fn60
 refine Ob (T105 c) fun x4 n=>?_
 have D:=n
 refine Ob (P:=fun r=>o.length<=r.2.length/\r.2.length<=o.length+4000) (aP (l:=x4) (fun q=>q.1) (fun i q=>o.length<=q.2.2.length/\q.2.2.length<=o.length+i*1) (Nat.lt_of_le_of_lt n (by decide)) rfl (by dsimp only;omega) (fun U p q238 G A a g d e k=>?_) (fun q238 a d=>?_)) fun⟨b0,b4⟩ y=>?_
 .obtain ⟨H,t,J⟩:=q238
  dsimp only at a g e k d
  simp only[g,e,nt]
  refine obT (T106) fun K=>?_
  refine Ob (P:=fun r=>¬r=true->¬((!K)||(mget t p false))=true) ?_ fun Z N=>?_
  .refine Oi (fun _=>.mk (fun h=>absurd rfl h)) (fun c242=>?_)
   refine obT (T107 c) fun Y=>?_
   exact .mk (fun _=>c242)
  refine Ob (Tn101 (by first|omega|(simp only[List.length_nil]at *;omega)) c) fun a0 O=>?_
  exact .mk ⟨k,by dsimp only;omega⟩
 .obtain ⟨H,t,J⟩:=q238
  dsimp only at a d
  simp only[a,nf]
  exact .mk (by dsimp only;omega)
 try dsimp only at y
 have E:=c.Last
 refine lpT (l:=z.Last) (fun q=>q.2) (Nat.lt_of_le_of_lt c.Last (by decide)) rfl (fun V M q255 B b j f m=>?_) (fun q255 b=>?_) fun b9=>?_
 .obtain ⟨u,w⟩:=q255
  dsimp only at b j f m
  simp only[j,f,nt]
  refine Ob (P:=fun r=>¬r=true->¬u=true) ?_ fun L s=>?_
  .refine Oi (fun _=>.mk (fun h=>absurd rfl h)) (fun c258=>?_)
   refine obT (T106) fun b5=>?_
   exact .mk (fun _=>c258)
  refine Ob (P:=fun r=>¬r=true->¬L=true) ?_ fun b8 R=>?_
  .refine Oi (fun _=>.mk (fun h=>absurd rfl h)) (fun c261=>?_)
   have W:=s c261
   refine Ob (P:=fun r=>r=true->(decide (w>0))=true) ?_ fun b7 S=>?_
   .refine Oi (fun c264=>?_) (fun _=>.mk (fun h=>by cases h))
    have F:=c.Last
    refine Ob (P:=fun x=>x∈z.Last) (bE (by(simp only[nm]at *;rw[aV (by omega) (by omega)];omega)) (by(simp only[nm]at *;rw[aV (by omega) (by omega)];omega)) (fun _ h _=>h)) fun b6 C=>?_
    exact .mk (fun _=>c264)
   exact .mk (fun _=>c261)
  exact .mk m
 .obtain ⟨u,w⟩:=q255
  dsimp only at b
  simp only[b,nf]
  exact .mk trivial
 refine Ob (Tn101 (by first|omega|(simp only[List.length_nil]at *;omega)) c) fun d0 T=>?_
 exact .mk (by omega)
theorem T52 {b:Z0} (a:b.sm):Ok (F52 b) (fun v=>v<=9223372036854775807):=by
 unfold F52
 have hp:=a.Parts
 refine Ob (P:=fun v=>v<=9223372036854775807) (aP (l:=b.Parts) (fun q=>q.2) (fun i q=>q.1<=9223372036854775807) (by omega) rfl (by decide) (fun i e q f d hi hl _ hg hw=>?_) (fun q hi c=>?_)) fun v hv=>.mk hv
 .obtain ⟨n,x⟩:=q
  dsimp only at hi hl hg hw
  simp only[hl,hg,nt]
  exact .mk ⟨hw,(dV1 _).2⟩
 .obtain ⟨n,x⟩:=q
  dsimp only at hi c
  simp only[hi,nf]
  exact .mk c
theorem T109 {O:Int} {C:Zm} {W:Int} (m:C.sm):Ok (F109 O C W) (fun _=>True):=by
 unfold F109
 have v:=m.Cells
 refine lpT (l:=C.Cells) (fun q=>q.2) (Nat.lt_of_le_of_lt m.Cells (by decide)) rfl (fun H e q279 n b g d j=>?_) (fun q279 b=>?_) fun V=>?_
 .obtain ⟨u,A⟩:=q279
  dsimp only at b g d j
  simp only[g,d,nt]
  have a:=m.CellsE _ n
  refine Ob (P:=fun r=>¬r=true->¬(u||((e.Voices.length:Int)==0))=true) ?_ fun B t=>?_
  .refine Oi (fun _=>.mk (fun h=>absurd rfl h)) (fun c283=>?_)
   have w:=a.Voices
   refine Ob (P:=fun x=>x∈e.Voices) (bE (by omega) (by(simp only[nm]at *;omega)) (fun _ h _=>h)) fun R o=>?_
   have L:=a.VoicesE _ o
   exact .mk (fun _=>c283)
  refine Ob (P:=fun r=>¬r=true->¬B=true) ?_ fun T G=>?_
  .refine Oi (fun _=>.mk (fun h=>absurd rfl h)) (fun c289=>?_)
   have K:=t c289
   have y:=a.Voices
   refine Ob (P:=fun x=>x∈e.Voices) (bE (by(simp only[nm]at *;rw[aV (by omega) (by omega)];omega)) (by(simp only[nm]at *;rw[aV (by omega) (by omega)];omega)) (fun _ h _=>h)) fun S p=>?_
   have M:=a.VoicesE _ p
   exact .mk (fun _=>c289)
  have z:=a.Voices
  refine lpT (l:=e.Voices) (fun q=>q.2) (Nat.lt_of_le_of_lt a.Voices (by decide)) rfl (fun J F q305 s c i f k=>?_) (fun q305 c=>?_) fun U=>?_
  .obtain ⟨D,E⟩:=q305
   dsimp only at c i f k
   simp only[i,d,f,nt]
   have N:=a.VoicesE _ s
   exact .mk k
  .obtain ⟨D,E⟩:=q305
   dsimp only at c
   simp only[c,nf]
   exact .mk trivial
  exact .mk j
 .obtain ⟨u,A⟩:=q279
  dsimp only at b
  simp only[b,nf]
  exact .mk trivial
 exact .mk trivial
theorem Tn108 {w:Int} {g:List Zv} {n:Z0} {A:Int} (u:g.length+10<=1000000) (f:n.sm):Ok (Fn108 w g n A) (fun v=>g.length<=v.length/\v.length<=g.length+10):=by
 unfold Fn108
 have k:=f.Measures
 refine Ob (P:=fun r=>g.length<=r.length/\r.length<=g.length+10) (aP (l:=n.Measures) (fun q=>q.1) (fun i q=>g.length<=q.2.length/\q.2.length<=g.length+i*1) (Nat.lt_of_le_of_lt f.Measures (by decide)) rfl (by dsimp only;omega) (fun s o q319 m h a d b c e=>?_) (fun q319 a b=>?_)) fun z t=>?_
 .obtain ⟨B,C⟩:=q319
  dsimp only at a d c e b
  simp only[d,c,nt]
  have j:=f.MeasuresE _ h
  refine obT (T109 j) fun x=>?_
  refine Ob (Tn101 (by first|omega|(simp only[List.length_nil]at *;omega)) f) fun y p=>?_
  exact .mk ⟨e,by dsimp only;omega⟩
 .obtain ⟨B,C⟩:=q319
  dsimp only at a b
  simp only[a,nf]
  exact .mk (by dsimp only;omega)
 exact .mk (by omega)
theorem Tn61 {b:List Zv} {e:Z0} {g:Int} (f:b.length+10<=1000000) (a:e.sm):Ok (Fn61 b e g) (fun v=>b.length<=v.length/\v.length<=b.length+10):=by
 unfold Fn61
 refine Ob (T52 a) fun h c=>?_
 refine Ob (Tn108 (by first|omega|(simp only[List.length_nil]at *;omega)) a) fun i d=>?_
 exact .mk (by omega)
theorem T222:Ok (F222) (fun _=>True):=by
 unfold F222
 exact .mk trivial
theorem T167 {b:Int}:Ok (F167 b) (fun _=>True):=by
 unfold F167
 refine Oi (fun c326=>?_) (fun c326=>?_)
 .exact .mk trivial
 refine obT (T222) fun c=>?_
 refine Ob (bE (Q:=fun _=>True) (by(simp only[nm]at *;rw[aV (by omega) (by omega)];omega)) (by(simp only[nm,nl]at *;rw[aV (by omega) (by omega)];omega)) (fun _ _ _=>trivial)) fun d a=>?_
 exact .mk trivial
theorem T110 {a:Int}:Ok (F110 a) (fun _=>True):=by
 unfold F110
 refine obT (T167) fun⟨b,c⟩=>?_
 exact .mk trivial
theorem T244 {c:Zx}:Ok (F244 c) (fun _=>True):=by
 unfold F244
 refine Oi (fun _=>.mk trivial) (fun _=>?_)
 refine Ob (P:=fun _=>True) (eI (fun q=>q.2.2) 6 (fun _=>True) (by decide) (by decide) trivial (fun q _ h1 h2=>?_)) fun r _=>?_
 .obtain ⟨a,n,i⟩:=q
  dsimp only at h1 h2 ⊢
  refine Oi (fun hc=>?_) (fun _=>.mk trivial)
  simp only[decide_eq_true_eq]at hc
  refine Ob (bE (Q:=fun _=>True) h1 hc (fun _ _ _=>trivial)) fun x _=>?_
  refine Oi (fun _=>.mk trivial) (fun _=>?_)
  refine Ob (P:=fun _=>True) (Oi (fun _=>.mk trivial) (fun _=>.mk trivial)) fun v _=>.mk ⟨hc,h2 hc,trivial⟩
 .rcases r with⟨a,b⟩|⟨a,b⟩<;>exact .mk trivial
theorem T214 {a:Zx}:Ok (F214 a) (fun v=>v=0->a.Unit≠0):=by
 unfold F214
 refine Oi (fun c330=>?_) (fun c330=>?_)
 .exact .mk (by omega)
 refine Oi (fun c331=>?_) (fun c331=>?_)
 .exact .mk (by omega)
 refine obT (T244) fun b=>?_
 refine Oi (fun c333=>?_) (fun c333=>?_)
 .exact .mk (by omega)
 exact .mk (by(simp only[nm]at *;omega))
theorem T245 {b:Zx} (c:b.Unit≠0):Ok (F245 b) (fun _=>True):=by
 unfold F245
 refine Ob (mY (by omega)) fun d a=>?_
 exact .mk trivial
theorem T215 {a:Zx} (b:a.Unit≠0):Ok (F215 a) (fun _=>True):=by
 unfold F215
 refine obT (T245 (by omega)) fun c=>?_
 exact .mk trivial
theorem T157 {b:Zx}:Ok (F157 b) (fun _=>True):=by
 unfold F157
 refine Ob (T214) fun c a=>?_
 refine Oi (fun c337=>?_) (fun c337=>?_)
 .exact .mk trivial
 refine obT (T215 (by(simp only[nm]at *;omega))) fun d=>?_
 exact .mk trivial
theorem T94 {b:Zm} (c:b.sm):Ok (F94 b) (fun _=>True):=by
 unfold F94
 refine obT (T157) fun⟨d,e⟩=>?_
 refine Oi (fun c340=>?_) (fun c340=>?_)
 .exact .mk trivial
 refine Oi (fun c341=>?_) (fun c341=>?_)
 .exact .mk trivial
 refine obT ?_ fun f=>?_
 .refine Oi (fun c343=>?_) (fun c343=>?_)
  .exact .mk trivial
  exact .mk trivial
 refine Ob (uH (by omega)) fun g a=>?_
 refine Oi (fun c345=>?_) (fun c345=>?_)
 .exact .mk trivial
 refine Oi (fun c346=>?_) (fun c346=>?_)
 .exact .mk trivial
 exact .mk trivial
theorem T111 {O:Int} {B:Zm} (k:B.sm):Ok (F111 O B) (fun _=>True):=by
 unfold F111
 refine obT (T94 k) fun⟨Y,Z⟩=>?_
 have y:=k.Cells
 refine lpT (l:=B.Cells) (fun q=>q.2) (Nat.lt_of_le_of_lt k.Cells (by decide)) rfl (fun K m q358 o a e c g=>?_) (fun q358 a=>?_) fun X=>?_
 .obtain ⟨C,D⟩:=q358
  dsimp only at a e c g
  simp only[e,c,nt]
  have j:=k.CellsE _ o
  have z:=j.Clefs
  refine lpT (l:=m.Clefs) (fun q=>q.2) (Nat.lt_of_le_of_lt j.Clefs (by decide)) rfl (fun L G q371 v b f d i=>?_) (fun q371 b=>?_) fun W=>?_
  .obtain ⟨t,u⟩:=q371
   dsimp only at b f d i
   simp only[f,c,d,nt]
   refine Ob (P:=fun r=>¬r=true->¬t=true) ?_ fun E n=>?_
   .refine Oi (fun _=>.mk (fun h=>absurd rfl h)) (fun c374=>?_)
    refine obT (T110) fun R=>?_
    exact .mk (fun _=>c374)
   refine Ob (P:=fun r=>¬r=true->¬E=true) ?_ fun F p=>?_
   .refine Oi (fun _=>.mk (fun h=>absurd rfl h)) (fun c377=>?_)
    have M:=n c377
    refine obT (T103) fun S=>?_
    exact .mk (fun _=>c377)
   refine Ob (P:=fun r=>¬r=true->¬F=true) ?_ fun V H=>?_
   .refine Oi (fun _=>.mk (fun h=>absurd rfl h)) (fun c381=>?_)
    have s:=p c381
    have N:=n s
    refine Ob (P:=fun r=>r=true->(decide (u>0))=true) ?_ fun U J=>?_
    .refine Oi (fun c385=>?_) (fun _=>.mk (fun h=>by cases h))
     have A:=j.Clefs
     refine Ob (P:=fun x=>x∈m.Clefs) (bE (by(simp only[nm]at *;rw[aV (by omega) (by omega)];omega)) (by(simp only[nm]at *;rw[aV (by omega) (by omega)];omega)) (fun _ h _=>h)) fun T w=>?_
     exact .mk (fun _=>c385)
    exact .mk (fun _=>c381)
   exact .mk i
  .obtain ⟨t,u⟩:=q371
   dsimp only at b
   simp only[b,nf]
   exact .mk trivial
  exact .mk g
 .obtain ⟨C,D⟩:=q358
  dsimp only at a
  simp only[a,nf]
  exact .mk trivial
 exact .mk trivial
theorem Tn108_2 {g:List Zv} {n:Z0} {z:Int} (u:g.length+10<=1000000) (f:n.sm):Ok (Fn108_2 g n z) (fun v=>g.length<=v.length/\v.length<=g.length+10):=by
 unfold Fn108_2
 have k:=f.Measures
 refine Ob (P:=fun r=>g.length<=r.length/\r.length<=g.length+10) (aP (l:=n.Measures) (fun q=>q.1) (fun i q=>g.length<=q.2.length/\q.2.length<=g.length+i*1) (Nat.lt_of_le_of_lt f.Measures (by decide)) rfl (by dsimp only;omega) (fun s o q400 m h a d b c e=>?_) (fun q400 a b=>?_)) fun y t=>?_
 .obtain ⟨A,B⟩:=q400
  dsimp only at a d c e b
  simp only[d,c,nt]
  have j:=f.MeasuresE _ h
  refine obT (T111 j) fun w=>?_
  refine Ob (Tn101 (by first|omega|(simp only[List.length_nil]at *;omega)) f) fun x p=>?_
  exact .mk ⟨e,by dsimp only;omega⟩
 .obtain ⟨A,B⟩:=q400
  dsimp only at a b
  simp only[a,nf]
  exact .mk (by dsimp only;omega)
 exact .mk (by omega)
theorem Tn62 {p:List Zv} {B:Z0} {U:Int} (M:p.length+30<=1000000) (f:B.sm):Ok (Fn62 p B U) (fun v=>p.length<=v.length/\v.length<=p.length+30):=by
 unfold Fn62
 have w:=f.Parts
 refine Ob (P:=fun r=>p.length<=r.length/\r.length<=p.length+20) (aP (l:=B.Parts) (fun q=>q.1) (fun i q=>p.length<=q.2.length/\q.2.length<=p.length+i*5) (Nat.lt_of_le_of_lt f.Parts (by decide)) rfl (by dsimp only;omega) (fun H t q416 y s a h c e k=>?_) (fun q416 a c=>?_)) fun S K=>?_
 .obtain ⟨A,n⟩:=q416
  dsimp only at a h e k c
  simp only[h,e,nt]
  have o:=f.PartsE _ s
  have x:=o.Staves
  refine Ob (P:=fun r=>n.length<=r.length/\r.length<=n.length+5) (aP (l:=t.Staves) (fun q=>q.1) (fun i q=>n.length<=q.2.length/\q.2.length<=n.length+i*1) (Nat.lt_of_le_of_lt o.Staves (by decide)) rfl (by dsimp only;omega) (fun J E q430 z u b j d g m=>?_) (fun q430 b d=>?_)) fun R L=>?_
  .obtain ⟨C,D⟩:=q430
   dsimp only at b j g m d
   simp only[j,e,g,nt]
   refine obT (T110) fun N=>?_
   refine Ob (Tn101 (by first|omega|(simp only[List.length_nil]at *;omega)) f) fun O F=>?_
   exact .mk ⟨m,by dsimp only;omega⟩
  .obtain ⟨C,D⟩:=q430
   dsimp only at b d
   simp only[b,nf]
   exact .mk (by dsimp only;omega)
  exact .mk ⟨k,by dsimp only;omega⟩
 .obtain ⟨A,n⟩:=q416
  dsimp only at a c
  simp only[a,nf]
  exact .mk (by dsimp only;omega)
 refine Ob (Tn108_2 (by first|omega|(simp only[List.length_nil]at *;omega)) f) fun T G=>?_
 exact .mk (by omega)
theorem T168 {a:Int}:Ok (F168 a) (fun _=>True):=by
 unfold F168
 refine Oi (fun c435=>?_) (fun c435=>?_)
 .exact .mk trivial
 exact .mk trivial
theorem T113 {b:Int} {a:Zl}:Ok (F113 b a) (fun _=>True):=by
 unfold F113
 refine Ob T168 fun c _=>?_
 refine Oi (fun _=>.mk trivial) (fun _=>?_)
 refine Oi (fun _=>.mk trivial) (fun _=>?_)
 have hw:=dV1 (b+(w64 ((w64 (7*a.Semitones))-(w64 (12*a.Steps)))))
 generalize w64 (b+(w64 ((w64 (7*a.Semitones))-(w64 (12*a.Steps)))))=x0 at hw ⊢
 refine Ob (P:=fun v=> -9223372036854775808<=v/\v<=7) (cQ (fun x=> -9223372036854775808<=x/\x<=9223372036854775807) (fun x=>(x+9223372036854775808).toNat) (fun x d=>?_) B64 x0 hw (by simp only[B64];omega)) fun b h1=>?_
 .refine Oi (fun hc=>?_) (fun hc=>?_)<;>simp only[decide_eq_true_eq]at hc
  .rw [aV (by omega) (by omega)];exact .mk ⟨by omega,by omega⟩
  .exact .mk (by omega)
 refine Ob (P:=fun v=>True) (cQ (fun x=> -9223372036854775808<=x/\x<=7) (fun x=>(7-x).toNat) (fun x d=>?_) B64 b h1 (by simp only[B64];omega)) fun a _=>.mk trivial
 refine Oi (fun hc=>?_) (fun hc=>?_)<;>simp only[decide_eq_true_eq]at hc
 .rw [aV (by omega) (by omega)];exact .mk ⟨by omega,by omega⟩
 .exact .mk trivial
theorem T112 {u:Int} {t:Zm} {m:Zk} (g:t.sm) (e:m.s'.sm):Ok (F112 u t m) (fun _=>True):=by
 unfold F112
 refine obT (T94 g) fun⟨A,z⟩=>?_
 refine Ob (P:=fun r=>¬r=true->¬(z !=0)=true) ?_ fun C o=>?_
 .refine Oi (fun _=>.mk (fun h=>absurd rfl h)) (fun c438=>?_)
  refine obT (T103) fun B=>?_
  exact .mk (fun _=>c438)
 have i:=e.Parts
 refine lpT (l:=m.s'.Parts) (fun q=>q.2) (Nat.lt_of_le_of_lt e.Parts (by decide)) rfl (fun p n q450 f a c b d=>?_) (fun q450 a=>?_) fun y=>?_
 .obtain ⟨j,k⟩:=q450
  dsimp only at a c b d
  simp only[c,b,nt]
  have s:=e.PartsE _ f
  refine obT ?_ fun x=>?_
  .refine Oi (fun c454=>?_) (fun c454=>?_)
   .refine obT (T113) fun⟨v,w⟩=>?_
    exact .mk trivial
   exact .mk trivial
  exact .mk d
 .obtain ⟨j,k⟩:=q450
  dsimp only at a
  simp only[a,nf]
  exact .mk trivial
 exact .mk trivial
theorem Tn108_3 {g:List Zv} {n:Z0} {z:Int} (u:g.length+10<=1000000) (c:n.sm):Ok (Fn108_3 g n z) (fun v=>g.length<=v.length/\v.length<=g.length+10):=by
 unfold Fn108_3
 have k:=c.Measures
 refine Ob (P:=fun r=>g.length<=r.length/\r.length<=g.length+10) (aP (l:=n.Measures) (fun q=>q.1) (fun i q=>g.length<=q.2.length/\q.2.length<=g.length+i*1) (Nat.lt_of_le_of_lt c.Measures (by decide)) rfl (by dsimp only;omega) (fun s o q467 m h a e b d f=>?_) (fun q467 a b=>?_)) fun y t=>?_
 .obtain ⟨A,B⟩:=q467
  dsimp only at a e d f b
  simp only[e,d,nt]
  have j:=c.MeasuresE _ h
  refine obT (T112 j c) fun w=>?_
  refine Ob (Tn101 (by first|omega|(simp only[List.length_nil]at *;omega)) c) fun x p=>?_
  exact .mk ⟨f,by dsimp only;omega⟩
 .obtain ⟨A,B⟩:=q467
  dsimp only at a b
  simp only[a,nf]
  exact .mk (by dsimp only;omega)
 exact .mk (by omega)
theorem Tn63 {a:List Zv} {d:Z0} {f:Int} (e:a.length+10<=1000000) (b:d.sm):Ok (Fn63 a d f) (fun v=>a.length<=v.length/\v.length<=a.length+10):=by
 unfold Fn63
 refine Ob (Tn108_3 (by first|omega|(simp only[List.length_nil]at *;omega)) b) fun g c=>?_
 exact .mk (by omega)
theorem T176 {a b:Int}:Ok (F176 a b) (fun _=>True):=by
 unfold F176
 refine Oi (fun c473=>?_) (fun c473=>?_)
 .exact .mk trivial
 exact .mk trivial
theorem T175 {h:List Int} (e:h.length<=20):Ok (F175 h) (fun _=>True):=by
 unfold F175
 have g:=e
 refine lpT (l:=h) (fun q=>q) (Nat.lt_of_le_of_lt e (by decide)) rfl (fun j i k f a c b d=>?_) (fun k a=>?_) fun m=>?_
 .simp only[c,b,nt]
  refine Oi (fun c485=>?_) (fun c485=>?_)
  .exact .mk trivial
  exact .mk d
 .simp only[a,nf]
  exact .mk trivial
 rcases m with n|_
 .exact .mk trivial
 .exact .mk trivial
theorem T177 {a:Int}:Ok (F177 a) (fun _=>True):=by
 unfold F177
 exact .mk trivial
theorem T227 {a:Int}:Ok (F227 a) (fun _=>True):=by
 unfold F227
 refine Oi (fun c486=>?_) (fun c486=>?_)
 .exact .mk trivial
 exact .mk trivial
theorem T179 {b:Ze} (d:b.sm):Ok (F179 b) (fun v=>v.sm):=by
 unfold F179
 refine Ob (P:=fun r=>¬r=true->¬(b.Kind==1)=true) ?_ fun f a=>?_
 .refine Oi (fun _=>.mk (fun h=>absurd rfl h)) (fun c488=>?_)
  refine obT (T177) fun e=>?_
  exact .mk (fun _=>c488)
 refine Oi (fun c490=>?_) (fun c490=>?_)
 .exact .mk (by first|assumption|exact⟨Nat.zero_le _,Nat.zero_le _,Nat.zero_le _,fun _ h=>nomatch h⟩)
 have c:=a c490
 refine obT ?_ fun g=>?_
 .refine Oi (fun c493=>?_) (fun c493=>?_)
  .exact .mk trivial
  exact .mk trivial
 refine obT ?_ fun j=>?_
 .refine Oi (fun c495=>?_) (fun c495=>?_)
  .refine obT (T227) fun i=>?_
   exact .mk trivial
  exact .mk trivial
 exact .mk (by first|assumption|exact⟨Nat.zero_le _,Nat.zero_le _,Nat.zero_le _,fun _ h=>nomatch h⟩)
theorem T224 {m n:List Zb} (e:m.length<=12) (f:n.length<=12):Ok (F224 m n) (fun _=>True):=by
 unfold F224
 refine Oi (fun c497=>?_) (fun c497=>?_)
 .exact .mk trivial
 have j:=e
 refine lpT (l:=m) (fun q=>q) (Nat.lt_of_le_of_lt e (by decide)) rfl (fun p o r g a c b d=>?_) (fun r a=>?_) fun s=>?_
 .simp only[c,b,nt]
  have k:=f
  refine Ob (P:=fun x=>x∈n) (bE (by omega) (by(simp only[nm]at *;omega)) (fun _ h _=>h)) fun t i=>?_
  refine Oi (fun c512=>?_) (fun c512=>?_)
  .exact .mk trivial
  exact .mk d
 .simp only[a,nf]
  exact .mk trivial
 rcases s with _|_
 .exact .mk trivial
 .exact .mk trivial
theorem T225 {m n:List Zd} (e:m.length<=12) (f:n.length<=12):Ok (F225 m n) (fun _=>True):=by
 unfold F225
 refine Oi (fun c513=>?_) (fun c513=>?_)
 .exact .mk trivial
 have j:=e
 refine lpT (l:=m) (fun q=>q) (Nat.lt_of_le_of_lt e (by decide)) rfl (fun p o r g a c b d=>?_) (fun r a=>?_) fun s=>?_
 .simp only[c,b,nt]
  have k:=f
  refine Ob (P:=fun x=>x∈n) (bE (by omega) (by(simp only[nm]at *;omega)) (fun _ h _=>h)) fun t i=>?_
  refine Oi (fun c528=>?_) (fun c528=>?_)
  .exact .mk trivial
  exact .mk d
 .simp only[a,nf]
  exact .mk trivial
 rcases s with _|_
 .exact .mk trivial
 .exact .mk trivial
theorem T226 {k m:List Zy} (g:k.length<=12) (i:∀y∈k,y.sm) (n:m.length<=12) (j:∀y∈m,y.sm):Ok (F226 k m) (fun _=>True):=by
 unfold F226
 refine Oi (fun c529=>?_) (fun c529=>?_)
 .exact .mk trivial
 have o:=g
 refine lpT (l:=k) (fun q=>q) (Nat.lt_of_le_of_lt g (by decide)) rfl (fun s r v d a c b f=>?_) (fun v a=>?_) fun w=>?_
 .simp only[c,b,nt]
  have t:=i _ d
  have p:=n
  refine Ob (P:=fun x=>x∈m) (bE (by omega) (by(simp only[nm]at *;omega)) (fun _ h _=>h)) fun z e=>?_
  have u:=j _ e
  refine Oi (fun c546=>?_) (fun c546=>?_)
  .exact .mk trivial
  exact .mk f
 .simp only[a,nf]
  exact .mk trivial
 rcases w with _|_
 .exact .mk trivial
 .exact .mk trivial
theorem T178 {a b:Ze} (c:a.sm) (d:b.sm):Ok (F178 a b) (fun _=>True):=by
 unfold F178
 refine Ob (P:=fun r=>r=true->(((((((a.Kind==b.Kind)&&(((a.Value.Log==b.Value.Log)&&((a.Value.Dots==b.Value.Dots)&&true))!=false))&&(a.Articulations==b.Articulations))&&(a.Ornament==b.Ornament))&&(a.Dynamic==b.Dynamic))&&(a.Stem==b.Stem))&&(a.Beam==b.Beam))=true) ?_ fun l e=>?_
 .refine Oi (fun c548=>?_) (fun _=>.mk (fun h=>by cases h))
  refine obT (T224 c.Heads d.Heads) fun n=>?_
  exact .mk (fun _=>c548)
 refine Ob (P:=fun r=>r=true->l=true) ?_ fun m f=>?_
 .refine Oi (fun c551=>?_) (fun _=>.mk (fun h=>by cases h))
  have j:=e c551
  refine obT (T225 c.Graces d.Graces) fun o=>?_
  exact .mk (fun _=>c551)
 refine Ob (P:=fun r=>r=true->m=true) ?_ fun q i=>?_
 .refine Oi (fun c555=>?_) (fun _=>.mk (fun h=>by cases h))
  have g:=f c555
  have k:=e g
  refine obT (T226 c.Lyrics c.LyricsE d.Lyrics d.LyricsE) fun p=>?_
  exact .mk (fun _=>c555)
 exact .mk trivial
theorem T180 {a:Za}:Ok (F180 a) (fun v=>v=0-> -1<=a.Log/\a.Log<=8/\0<=a.Dots/\a.Dots<=3):=by
 unfold F180
 refine Oi (fun c559=>?_) (fun c559=>?_)
 .exact .mk (by omega)
 exact .mk (by(simp only[nm]at *;omega))
theorem T232:Ok (F232) (fun _=>True):=by
 unfold F232
 exact .mk trivial
theorem T185 {a:Zh} (c:0<=a.Step/\a.Step<=6):Ok (F185 a) (fun _=>True):=by
 unfold F185
 refine obT (T232) fun d=>?_
 refine Ob (bE (Q:=fun _=>True) (by omega) (by(simp only[nm,nl]at *;omega)) (fun _ _ _=>trivial)) fun e b=>?_
 exact .mk trivial
theorem T184 {a:Zh}:Ok (F184 a) (fun v=>v=0->0<=a.Step/\a.Step<=6):=by
 unfold F184
 refine Oi (fun c562=>?_) (fun c562=>?_)
 .exact .mk (by omega)
 refine obT (T185 (by(simp only[nm]at *;omega))) fun b=>?_
 refine Oi (fun c564=>?_) (fun c564=>?_)
 .exact .mk (by omega)
 exact .mk (by(simp only[nm]at *;omega))
theorem T122 {b:Zh}:Ok (F122 b) (fun _=>True):=by
 unfold F122
 refine Ob (T184) fun c a=>?_
 refine Oi (fun c566=>?_) (fun c566=>?_)
 .exact .mk trivial
 refine obT (T185 (by(simp only[nm]at *;omega))) fun d=>?_
 exact .mk trivial
theorem T229 {a:Zh}:Ok (F229 a) (fun _=>True):=by
 unfold F229
 refine obT (T122) fun⟨b,c⟩=>?_
 refine Oi (fun c569=>?_) (fun c569=>?_)
 .exact .mk trivial
 exact .mk trivial
theorem T228 {a:Zb}:Ok (F228 a) (fun _=>True):=by
 unfold F228
 refine obT (T229) fun⟨b,c⟩=>?_
 refine obT (T176) fun d=>?_
 refine obT (T175 (by simp)) fun e=>?_
 exact .mk trivial
theorem T181 {h:List Zb} (e:h.length<=12):Ok (F181 h) (fun _=>True):=by
 unfold F181
 refine Oi (fun c573=>?_) (fun c573=>?_)
 .exact .mk trivial
 refine Oi (fun c574=>?_) (fun c574=>?_)
 .exact .mk trivial
 have g:=e
 refine lpT (l:=h) (fun q=>q.2) (Nat.lt_of_le_of_lt e (by decide)) rfl (fun k j q585 f a c b d=>?_) (fun q585 a=>?_) fun i=>?_
 .obtain ⟨p,r⟩:=q585
  dsimp only at a c b d
  simp only[c,b,nt]
  refine obT (T228) fun s=>?_
  refine Oi (fun c588=>?_) (fun c588=>?_)
  .exact .mk trivial
  refine obT (T229) fun⟨m,n⟩=>?_
  refine Oi (fun c590=>?_) (fun c590=>?_)
  .exact .mk trivial
  exact .mk d
 .obtain ⟨p,r⟩:=q585
  dsimp only at a
  simp only[a,nf]
  exact .mk trivial
 rcases i with o|_
 .exact .mk trivial
 .exact .mk trivial
theorem T182 {h:List Zd} (e:h.length<=12):Ok (F182 h) (fun _=>True):=by
 unfold F182
 refine Oi (fun c591=>?_) (fun c591=>?_)
 .exact .mk trivial
 have g:=e
 refine lpT (l:=h) (fun q=>q) (Nat.lt_of_le_of_lt e (by decide)) rfl (fun k j m f a c b d=>?_) (fun m a=>?_) fun i=>?_
 .simp only[c,b,nt]
  refine obT (T229) fun⟨n,o⟩=>?_
  refine Oi (fun c604=>?_) (fun c604=>?_)
  .exact .mk trivial
  refine Oi (fun c605=>?_) (fun c605=>?_)
  .exact .mk trivial
  exact .mk d
 .simp only[a,nf]
  exact .mk trivial
 rcases i with p|_
 .exact .mk trivial
 .exact .mk trivial
theorem T230 {c:Zy} (a:c.sm):Ok (F230 c) (fun _=>True):=by
 unfold F230
 refine Oi (fun _=>.mk trivial) (fun _=>?_)
 refine Oi (fun _=>.mk trivial) (fun _=>?_)
 have hs:=a.Text
 refine Ob (P:=fun _=>True) (eI (fun q=>q) (c.Text.size:Int) (fun _=>True) (by omega) (by decide) trivial (fun i _ h1 h2=>?_)) fun r _=>?_
 .refine Oi (fun hc=>?_) (fun _=>.mk trivial)
  simp only[decide_eq_true_eq]at hc
  refine Ob (nA h1 hc) fun b _=>?_
  refine Ob (P:=fun _=>True) (Oi (fun _=>.mk trivial) (fun _=>Ob (nA h1 hc) fun b _=>.mk trivial)) fun b _=>?_
  exact Oi (fun _=>.mk trivial) (fun _=>.mk ⟨hc,h2 hc,trivial⟩)
 .rcases r with _|_
  .exact .mk trivial
  .exact Oi (fun _=>.mk trivial) (fun _=>.mk trivial)
theorem T231 {a:Zy} (b:a.sm):Ok (F231 a) (fun _=>True):=by
 unfold F231
 exact .mk trivial
theorem T183 {j:List Zy} (c:j.length<=12) (b:∀y∈j,y.sm):Ok (F183 j) (fun _=>True):=by
 unfold F183
 refine Oi (fun c606=>?_) (fun c606=>?_)
 .exact .mk trivial
 have o:=c
 refine lpT (l:=j) (fun q=>q) (Nat.lt_of_le_of_lt c (by decide)) rfl (fun t s z f a e d i=>?_) (fun z a=>?_) fun A=>?_
 .simp only[e,d,nt]
  have m:=b _ f
  refine obT (T230 m) fun B=>?_
  refine Oi (fun c620=>?_) (fun c620=>?_)
  .exact .mk trivial
  exact .mk i
 .simp only[a,nf]
  exact .mk trivial
 rcases A with C|_
 .exact .mk trivial
 .refine Ob (P:=fun r=>r=true->(decide ((j.length:Int)>0))=true) ?_ fun w k=>?_
  .refine Oi (fun c622=>?_) (fun _=>.mk (fun h=>by cases h))
   have p:=c
   refine Ob (P:=fun x=>x∈j) (bE (by(simp only[nm]at *;rw[aV (by omega) (by omega)];omega)) (by(simp only[nm]at *;rw[aV (by omega) (by omega)];omega)) (fun _ h _=>h)) fun D g=>?_
   have n:=b _ g
   refine obT (T231 n) fun v=>?_
   exact .mk (fun _=>c622)
  refine Oi (fun c628=>?_) (fun c628=>?_)
  .have u:=k c628
   exact .mk trivial
  exact .mk trivial
theorem T119 {d:Ze} (a:d.sm):Ok (F119 d) (fun _=>True):=by
 unfold F119
 refine obT (T176) fun y=>?_
 refine obT (T176) fun z=>?_
 refine obT (T175 (by simp)) fun A=>?_
 refine Oi (fun c633=>?_) (fun c633=>?_)
 .exact .mk trivial
 refine obT (T177) fun B=>?_
 refine Oi (fun c635=>?_) (fun c635=>?_)
 .exact .mk trivial
 refine Ob (T179 a) fun C b=>?_
 refine obT (T178 a b) fun D=>?_
 refine Oi (fun c638=>?_) (fun c638=>?_)
 .exact .mk trivial
 refine Ob (P:=fun r=>r=true->(d.Kind !=3)=true) ?_ fun F c=>?_
 .refine Oi (fun c640=>?_) (fun _=>.mk (fun h=>by cases h))
  refine Ob (T180) fun E e=>?_
  exact .mk (fun _=>c640)
 refine Oi (fun c642=>?_) (fun c642=>?_)
 .have f:=c c642
  exact .mk trivial
 refine Oi (fun c644=>?_) (fun c644=>?_)
 .refine obT (T181 a.Heads) fun g=>?_
  refine obT (T182 a.Graces) fun i=>?_
  refine obT (T183 a.Lyrics a.LyricsE) fun j=>?_
  refine obT (T175 (by simp)) fun k=>?_
  refine Oi (fun c649=>?_) (fun c649=>?_)
  .exact .mk trivial
  refine obT (T176) fun l=>?_
  refine obT (T176) fun m=>?_
  refine obT (T176) fun n=>?_
  refine obT (T176) fun o=>?_
  refine obT (T176) fun p=>?_
  refine obT (T175 (by simp)) fun q=>?_
  exact .mk trivial
 refine obT (T176) fun s=>?_
 refine obT (T176) fun t=>?_
 refine obT (T176) fun u=>?_
 refine obT (T176) fun v=>?_
 refine obT (T176) fun w=>?_
 refine obT (T175 (by simp)) fun x=>?_
 exact .mk trivial
theorem T170 {b:Ze} (a:b.sm):Ok (F170 b) (fun _=>True):=by
 unfold F170
 refine obT (T119 a) fun c=>?_
 exact .mk trivial
theorem T209 {i:List Ze} (f:i.length<=20) (g:∀y∈i,y.sm):Ok (F209 i) (fun _=>True):=by
 unfold F209
 have j:=f
 refine lpT (l:=i) (fun q=>q) (Nat.lt_of_le_of_lt f (by decide)) rfl (fun m k n d a c b e=>?_) (fun n a=>?_) fun o=>?_
 .simp only[c,b,nt]
  have h:=g _ d
  refine obT (T170 h) fun p=>?_
  refine Oi (fun c676=>?_) (fun c676=>?_)
  .exact .mk trivial
  exact .mk e
 .simp only[a,nf]
  exact .mk trivial
 rcases o with r|_
 .exact .mk trivial
 .exact .mk trivial
theorem T150 {c:List Ze} (b:c.length<=20) (a:∀y∈c,y.sm):Ok (F150 c) (fun _=>True):=by
 unfold F150
 refine obT (T209 b a) fun d=>?_
 exact .mk trivial
theorem T253 {c:Zo} (b:c.sm):Ok (F253 c) (fun _=>True):=by
 unfold F253
 refine Ob (P:=fun r=>r=true->(decide ((c.Events.length:Int)>0))=true) ?_ fun i e=>?_
 .refine Oi (fun c679=>?_) (fun _=>.mk (fun h=>by cases h))
  have d:=b.Events
  refine Ob (P:=fun x=>x∈c.Events) (bE (by omega) (by(simp only[nm]at *;omega)) (fun _ h _=>h)) fun g a=>?_
  have f:=b.EventsE _ a
  exact .mk (fun _=>c679)
 exact .mk trivial
theorem T270 {b:Za} (c: -1<=b.Log/\b.Log<=8/\0<=b.Dots/\b.Dots<=3):Ok (F270 b) (fun _=>True):=by
 unfold F270
 refine Ob (mZ (by rw[aV (by omega) (by omega)];omega)) fun n _=>?_
 refine Ob (P:=fun _=>True) (eI (fun q=>q.2.2) b.Dots (fun _=>True) (by omega) (by dsimp only;omega) trivial (fun q _ h1 h2=>?_)) fun r _=>.mk trivial
 obtain⟨a,n,i⟩:=q
 dsimp only at h1 h2 ⊢
 refine Oi (fun hc=>?_) (fun _=>.mk trivial)
 simp only[decide_eq_true_eq]at hc
 exact Ob (mY (by decide)) fun x _=>.mk ⟨hc,h2 hc,trivial⟩
theorem T264 {b:Za}:Ok (F264 b) (fun _=>True):=by
 unfold F264
 refine Ob (T180) fun c a=>?_
 refine Oi (fun c685=>?_) (fun c685=>?_)
 .exact .mk trivial
 refine obT (T270 (by(simp only[nm]at *;omega))) fun d=>?_
 exact .mk trivial
theorem T260 {b:Ze} (a:b.sm):Ok (F260 b) (fun _=>True):=by
 unfold F260
 refine obT (T119 a) fun c=>?_
 refine Oi (fun c688=>?_) (fun c688=>?_)
 .exact .mk trivial
 refine obT (T264) fun⟨d,e⟩=>?_
 exact .mk trivial
theorem T256 {c:List Ze} (h:c.length<=20) (d:∀y∈c,y.sm):Ok (F256 c) (fun v=>v.length<=20):=by
 unfold F256
 refine Ob (lF (by omega) (by omega) (by omega)) fun o h2=>?_
 refine Ob (P:=fun v=>v.length=c.length) (aP (l:=c) (fun q=>q.1) (fun _ q=>q.2.length=c.length) (by omega) rfl (by rw[h2];simp) (fun i e q n g hi hl f hg hw=>?_) (fun q hi f=>?_)) fun v hv=>.mk (by omega)
 .obtain ⟨x,l⟩:=q
  dsimp only at hi hl f hg hw
  simp only[hl,hg,nt]
  refine Ob (T260 (d e g)) fun⟨a,b⟩ _=>?_
  refine Ob (bN (by omega) (by omega)) fun j k=>?_
  refine Ob (aO1 (by omega)) fun m g=>.mk ⟨hw,by dsimp only;omega⟩
 .obtain ⟨x,l⟩:=q
  dsimp only at hi f
  simp only[hi,nf]
  exact .mk f
theorem T267 {a:Int}:Ok (F267 a) (fun v=>v=true->1<=a/\a<=32):=by
 unfold F267
 exact .mk (by(simp only[nm]at *;omega))
theorem T268 {a b:Zu}:Ok (F268 a b) (fun _=>True):=by
 unfold F268
 refine Oi (fun c690=>?_) (fun c690=>?_)
 .refine Oi (fun c691=>?_) (fun c691=>?_)
  .exact .mk trivial
  exact .mk trivial
 refine Oi (fun c692=>?_) (fun c692=>?_)
 .refine Oi (fun c693=>?_) (fun c693=>?_)
  .exact .mk trivial
  exact .mk trivial
 exact .mk trivial
theorem T266 {a:Zu}:Ok (F266 a) (fun v=>v=w64 (a.First+a.Count)):=by
 unfold F266
 exact .mk (by rfl)
theorem Tn265 {k:Zu} {a:List Zu} (g:a.length<=6) (i:a.length<=3):Ok (Fn265 k a) (fun v=>v.2.length<=3):=by
 unfold Fn265
 refine Ob (P:=fun v=>v.length<=3) (cQ (fun l=>l.length<=3) (fun l=>l.length) (fun l hl=>?_) B64 a i (by simp only[B64];omega)) fun x d=>?_
 .refine Ob (P:=fun r=>r=true->0<l.length) (Oi (fun hc=>?_) (fun _=>.mk (fun h=>by cases h))) fun b hb=>?_
  .simp only[decide_eq_true_eq]at hc
   refine Ob (bN (by rw[aV (by omega) (by omega)];omega) (by rw[aV (by omega) (by omega)];omega)) fun j c=>?_
   exact Ob (bR c.2) fun y _=>Ob T266 fun e _=>.mk (fun _=>by omega)
  .refine Oi (fun hc=>?_) (fun _=>.mk hl)
   have:=hb hc
   refine Ob (aP1 this (by rw[aV (by omega) (by omega)];omega) (by rw[aV (by omega) (by omega)];omega)) fun m f=>?_
   have:=f.1
   rw[aV (by omega) (by omega)]at this
   exact .mk ⟨by omega,by omega⟩
 .refine Ob (P:=fun r=>r=true\/x.length<3) (Oi (fun hc=>.mk (.inl rfl)) (fun hc=>?_)) fun b hb=>?_
  .have hc:x.length<3:=by simp only[beq_iff_eq]at hc;omega
   refine Ob (P:=fun _=>True) (Oi (fun hd=>?_) (fun _=>.mk trivial)) fun b _=>.mk (.inr hc)
   simp only[decide_eq_true_eq]at hd
   refine Ob T266 fun e _=>?_
   refine Ob (bN (by rw[aV (by omega) (by omega)];omega) (by rw[aV (by omega) (by omega)];omega)) fun j c=>?_
   exact Ob (bR c.2) fun y _=>Ob T266 fun e _=>.mk trivial
  .refine Oi (fun _=>.mk d) (fun hc=>?_)
   have hb:x.length<3:=by rcases hb with h|h;exact absurd h hc;exact h
   refine Ob (bX (Q:=fun v=>v.length=x.length+1) (by omega) (by simp)) fun m f=>.mk (by dsimp only;omega)
theorem T261 {f:List Zu} {c:Int} (z:f.length<=6):Ok (F261 f c) (fun v=>v=0->∀t∈f,t.ok c):=by
 unfold F261
 refine Oi (fun _=>.mk (fun h=>by cases h)) (fun n=>?_)
 refine Oi (fun _=>.mk (fun h=>by cases h)) (fun _=>?_)
 simp only[Bool.or_eq_true,decide_eq_true_eq,not_or]at n
 refine Ob (P:=fun r=>match r with|.inl p=>p.1≠0|.inr _=>∀t∈f,t.ok c) (aP (l:=f) (fun q=>q.1) (fun i q=>q.2.length<=3/\∀j,j<i->∀t,f[j]? =some t->t.ok c) (by omega) rfl ⟨by decide,fun j k=>by omega⟩ (fun i e q A w hi hl d hg hw=>?_) (fun q hi d=>?_)) fun v hv=>?_
 .obtain ⟨x,l⟩:=q
  dsimp only at hi hl d hg hw
  simp only[hl,hg,nt]
  refine Ob (P:=fun r=>r=false->(1<=e.Count/\e.Count<=c/\0<=e.First/\e.First+e.Count<=c/\1<=e.Actual/\e.Actual<=32)) (Oi (fun _=>.mk (fun h=>by cases h)) (fun hc=>?_)) fun b1 h1=>?_
  .simp only[Bool.or_eq_true,decide_eq_true_eq,not_or]at hc
   rw[aV (by omega) (by omega)]at hc
   refine Ob T267 fun r hr=>.mk (fun h=>?_)
   have:=hr (by simpa using h)
   omega
  refine Ob (P:=fun r=>r=false->e.ok c) (Oi (fun hc=>.mk (fun h=>by cases h)) (fun hc=>?_)) fun b2 h2=>?_
  .refine Ob T267 fun r hr=>.mk (fun h=>?_)
   have:=hr (by simpa using h)
   have:=h1 (by simpa using hc)
   unfold Zu.ok;omega
  refine Oi (fun _=>.mk (show(2:Int)≠0 by decide)) (fun hc=>?_)
  have u:e.ok c:=h2 (by simp only[Bool.or_eq_true,not_or,Bool.not_eq_true]at hc;exact hc.1)
  refine Ob (P:=fun _=>True) (Oi (fun hd=>?_) (fun _=>.mk trivial)) fun b3 _=>?_
  .simp only[decide_eq_true_eq]at hd
   have:=bJ hg
   refine Ob (bE (Q:=fun _=>True) (by rw[aV (by omega) (by omega)];omega) (by rw[aV (by omega) (by omega)];omega) (fun _ _ _=>trivial)) fun y _=>?_
   exact Ob T268 fun o _=>.mk trivial
  refine Oi (fun _=>.mk (show(25:Int)≠0 by decide)) (fun _=>?_)
  refine Ob (Tn265 (Nat.le_trans d.1 (by decide)) d.1) fun⟨a,m⟩ w=>?_
  refine Oi (fun _=>.mk (show(21:Int)≠0 by decide)) (fun _=>.mk ⟨hw,w,fun j k t g=>?_⟩)
  by_cases s:j=i
  .subst s;rw[A]at g;cases g;exact u
  .exact d.2 j (by omega) t g
 .obtain ⟨x,l⟩:=q
  dsimp only at hi d
  simp only[hi,nf]
  refine .mk (fun t g=>?_)
  obtain⟨j,k⟩:=List.mem_iff_getElem?.1 g
  exact d.2 j (List.getElem?_eq_some_iff.1 k).1 t k
 .rcases v with⟨a,b⟩|b
  .exact .mk (fun h=>absurd h hv)
  .exact .mk (fun _=>hv)
theorem T271 {a:Zu} {b:Int}:Ok (F271 a b) (fun _=>True):=by
 unfold F271
 exact .mk trivial
theorem T272 {e c:Int} (l:0<e/\0<c/\c<9223372036854775808):Ok (F272 e c) (fun v=>0<v/\v∣e/\v∣c):=by
 unfold F272
 refine Ob (P:=fun v=>0<v/\v∣e/\v∣c) (cQ (fun q=>0<q.1/\0<=q.2/\∀d:Int,d∣q.1->d∣q.2->d∣e/\d∣c) (fun q=>q.2.toNat) (fun q k=>?_) B64 (e,c) ⟨l.1,by dsimp only;omega,fun d h1 h2=>⟨h1,h2⟩⟩ (by simp only[B64];omega)) fun v hv=>.mk hv
 obtain⟨a,b⟩:=q
 obtain⟨h1,h2,h⟩:=k
 dsimp only at h1 h2 h
 refine Oi (fun hc=>?_) (fun hc=>?_)<;>simp only[decide_eq_true_eq]at hc
 .refine Ob (uH (by omega)) fun n j=>?_
  have i:n=a%b:=by rw[j,Int.tmod_eq_emod_of_nonneg (by omega)]
  have m:=Int.emod_nonneg a (by omega:b≠0)
  have o:=Int.emod_lt_of_pos a hc
  refine .mk ⟨⟨hc,by dsimp only;omega,fun d f g=>h d ?_ f⟩,by dsimp only;omega⟩
  dsimp only at f g
  rw[i]at g
  have:=Int.emod_add_mul_ediv a b
  rw[<-this]
  exact Int.dvd_add g (Int.dvd_trans f (Int.dvd_mul_right b _))
 .have:b=0:=by omega
  subst this
  exact .mk ⟨h1,h a (Int.dvd_refl a) (Int.dvd_zero a)⟩
theorem T269 {o:List Zu} {H:Int} (w:o.length<=6) (C:∀t∈o,1<=t.Actual/\t.Actual<=32/\1<=t.Normal/\t.Normal<=32):Ok (F269 o H) (fun v=>1<=v.2):=by
 unfold F269
 refine Ob (P:=fun v=>1<=v.2) (aP (l:=o) (fun q=>q.2.2) (fun i q=>1<=q.1/\q.1<=32^i/\1<=q.2.1/\q.2.1<=32^i) (by omega) rfl ⟨by decide,by decide,by decide,by decide⟩ (fun i e q E z hi hl f hg hw=>?_) (fun q hi f=>?_)) fun v hv=>.mk hv
 .obtain ⟨a,b,x⟩:=q
  dsimp only at hi hl f hg hw
  simp only[hl,hg,nt]
  have j:=C e z
  refine Ob T271 fun c _=>?_
  have y:i<=5:=by omega
  have A:(32:Int)^i<=33554432:=by
   have:i=0\/i=1\/i=2\/i=3\/i=4\/i=5:=by omega
   rcases this with rfl|rfl|rfl|rfl|rfl|rfl<;>decide
  have B:(32:Int)^(i+1)=32^i*32:=Int.pow_succ 32 i
  refine Ob (P:=fun v=>1<=v.1/\v.1<=32^(i+1)/\1<=v.2/\v.2<=32^(i+1)) (Oi (fun _=>?_) (fun _=>?_)) fun⟨v1,v2⟩ hv=>.mk ⟨hw,hv⟩
  .have F:1<=a*e.Normal:=Int.le_trans (by decide) (Int.mul_le_mul f.1 j.2.2.1 (by decide) (by omega))
   have G:a*e.Normal<=32^i*32:=Int.mul_le_mul f.2.1 j.2.2.2 (by omega) (by omega)
   have s:1<=b*e.Actual:=Int.le_trans (by decide) (Int.mul_le_mul f.2.2.1 j.1 (by decide) (by omega))
   have u:b*e.Actual<=32^i*32:=Int.mul_le_mul f.2.2.2 j.2.1 (by omega) (by omega)
   rw[aV (n:=a*e.Normal) (by omega) (by omega),aV (n:=b*e.Actual) (by omega) (by omega)]
   generalize a*e.Normal=N at F G ⊢
   generalize b*e.Actual=D at s u ⊢
   refine Ob (T272 ⟨by omega,by omega,by omega⟩) fun g hg=>?_
   obtain⟨J,⟨k,rfl⟩,⟨m,rfl⟩⟩:=hg
   have K:1<=k:=by
    rcases Int.lt_or_le k 1 with h|h
    .have:=Int.mul_nonneg (a:=g) (b:= -k) (by omega) (by omega)
     rw[Int.mul_neg]at this;omega
    .exact h
   have M:1<=m:=by
    rcases Int.lt_or_le m 1 with h|h
    .have:=Int.mul_nonneg (a:=g) (b:= -m) (by omega) (by omega)
     rw[Int.mul_neg]at this;omega
    .exact h
   have L:k<=g*k:=by
    have:=Int.mul_le_mul (a:=1) (b:=k) (c:=g) (d:=k) (by omega) (Int.le_refl k) (by omega) (by omega)
    omega
   have O:m<=g*m:=by
    have:=Int.mul_le_mul (a:=1) (b:=m) (c:=g) (d:=m) (by omega) (Int.le_refl m) (by omega) (by omega)
    omega
   refine Ob (mY (by omega)) fun q1 p=>?_
   refine Ob (mY (by omega)) fun q2 r=>?_
   rw[Int.mul_tdiv_cancel_left k (by omega),show IntKind.wrap .i64 k=w64 k from rfl,aV (by omega) (by omega)]at p
   rw[Int.mul_tdiv_cancel_left m (by omega),show IntKind.wrap .i64 m=w64 m from rfl,aV (by omega) (by omega)]at r
   exact .mk ⟨by dsimp only;omega,by dsimp only;omega,by dsimp only;omega,by dsimp only;omega⟩
  .exact .mk ⟨f.1,by dsimp only;omega,f.2.2.1,by dsimp only;omega⟩
 .obtain ⟨a,b,x⟩:=q
  dsimp only at hi f
  simp only[hi,nf]
  exact .mk f.2.2.1
theorem T262 {c:List Zu} {f g:Int} (b:c.length<=6) (h:∀t∈c,1<=t.Actual/\t.Actual<=32/\1<=t.Normal/\t.Normal<=32):Ok (F262 c f g) (fun _=>True):=by
 unfold F262
 refine Oi (fun c694=>?_) (fun c694=>?_)
 .exact .mk trivial
 refine Ob (T269 b (by omega)) fun⟨i,j⟩ a=>?_
 try dsimp only at a
 refine Ob (uH (by omega)) fun k d=>?_
 refine Oi (fun c697=>?_) (fun c697=>?_)
 .exact .mk trivial
 refine Ob (mY (by omega)) fun l e=>?_
 exact .mk trivial
theorem T257 {k:List Zu} {f:List Int} (d:k.length<=6) (j:f.length<=20):Ok (F257 k f) (fun v=>v.1.length<=20/\(v.2=0->∀t∈k,t.ok f.length)):=by
 unfold F257
 refine Ob (T261 d) fun c hc=>?_
 refine Oi (fun hd=>.mk ⟨Nat.zero_le _,fun h=>absurd h (by simpa using hd)⟩) (fun hd=>?_)
 have n:=hc (by simpa using hd)
 refine Ob (lF (by decide) (by omega) (by omega)) fun w o=>?_
 refine Ob (P:=fun r=>match r with|.inl p=>p.1≠0|.inr l=>l.length<=f.length) (aP (l:=f) (fun q=>q.1) (fun i q=>q.2.length<=i) (by omega) rfl (by rw[o];decide) (fun i e q u s hi hl g hg hw=>?_) (fun q hi g=>?_)) fun v hv=>?_
 .obtain ⟨x,l⟩:=q
  dsimp only at hi hl g hg hw
  simp only[hl,hg,nt]
  refine Ob (T262 d (fun t h=>by have:=n t h;unfold Zu.ok at this;omega)) fun⟨a,b⟩ _=>?_
  refine Oi (fun hb=>.mk (by simpa using hb)) (fun _=>?_)
  exact Ob (bX (Q:=fun v=>v.length=l.length+1) (by omega) (by simp)) fun m s=>.mk ⟨hw,by dsimp only;omega⟩
 .obtain ⟨x,l⟩:=q
  dsimp only at hi g
  simp only[hi,nf]
  exact .mk g
 .rcases v with⟨a,b⟩|b
  .exact .mk ⟨Nat.zero_le _,fun h=>absurd h hv⟩
  .exact .mk ⟨Nat.le_trans hv j,fun _=>n⟩
theorem T263 {c:List Zu} {f:Int} {g:List Int} (m:c.length<=6) (o:g.length<=20) (k:0<=f/\f<(c.length:Int)) (hy:∀t∈c,t.ok g.length):Ok (F263 c f g) (fun _=>True):=by
 unfold F263
 refine Ob (bE (Q:=fun x=>x∈c) k.1 k.2 (fun _ h _=>h)) fun j d=>?_
 have p:=hy j d
 unfold Zu.ok at p
 refine Ob (P:=fun _=>True) (eI (fun q=>q.2) (j.First+j.Count) (fun _=>True) (by omega) (by dsimp only;omega) trivial (fun q _ h1 h2=>?_)) fun r _=>?_
 .obtain ⟨s,i⟩:=q
  dsimp only at h1 h2 ⊢
  refine Ob T266 fun e he=>?_
  rw[aV (by omega) (by omega)]at he
  subst he
  refine Oi (fun hc=>?_) (fun _=>.mk trivial)
  simp only[decide_eq_true_eq]at hc
  refine Ob (sN (by rw[aV (by omega) (by omega)];omega) (by rw[aV (by omega) (by omega)];omega) (by omega)) fun l hl=>?_
  refine Ob (bE (Q:=fun _=>True) (by omega) (by omega) (fun _ _ _=>trivial)) fun y _=>?_
  refine Ob (T262 (by omega) (fun t h=>by have:=hy t (hl.2 t h);unfold Zu.ok at this;omega)) fun⟨a,b⟩ _=>?_
  exact Oi (fun _=>.mk trivial) (fun _=>.mk ⟨hc,h2 hc,trivial⟩)
 .rcases r with a|a
  .exact .mk trivial
  refine Ob (P:=fun _=>True) (eI (fun q=>q) 9 (fun _=>True) (by decide) (by decide) trivial (fun q _ h1 h2=>?_)) fun r _=>?_
  .refine Oi (fun hc=>?_) (fun _=>.mk trivial)
   simp only[decide_eq_true_eq]at hc
   refine Ob (mZ (by rw[aV (by omega) (by omega)];omega)) fun n _=>?_
   exact Oi (fun _=>.mk trivial) (fun _=>.mk ⟨by omega,h2 (by omega),trivial⟩)
  .rcases r with a|a<;>exact .mk trivial
theorem T258 {h:List Zu} {j:List Int} (c:h.length<=6) (d:j.length<=20):Ok (F258 h j) (fun _=>True):=by
 unfold F258
 refine Ob (T257 c d) fun⟨a,b⟩ f=>?_
 dsimp only at f
 refine Oi (fun _=>.mk trivial) (fun hd=>?_)
 have o:=f.2 (by simpa using hd)
 refine Ob (lF (by decide) (by omega) (by omega)) fun r k=>?_
 refine Ob (P:=fun _=>True) (aP (l:=h) (fun q=>q.1) (fun i q=>q.2.length<=i) (by omega) rfl (by rw[k];decide) (fun i e q p n hi hl g hg hw=>?_) (fun q hi g=>?_)) fun v hv=>?_
 .obtain ⟨x,l⟩:=q
  dsimp only at hi hl g hg hw
  simp only[hl,nt]
  refine Ob (T263 c d ⟨by omega,hl⟩ o) fun⟨a,b⟩ _=>?_
  refine Oi (fun hb=>.mk trivial) (fun _=>?_)
  exact Ob (bX (Q:=fun v=>v.length=l.length+1) (by omega) (by simp)) fun m n=>.mk ⟨hw,by dsimp only;omega⟩
 .obtain ⟨x,l⟩:=q
  dsimp only at hi g
  simp only[hi,nf]
  exact .mk trivial
 .rcases v with a|b<;>exact .mk trivial
theorem T254 {k:Zo} (a:k.sm):Ok (F254 k) (fun v=>v.1.length<=20):=by
 unfold F254
 have j:=a.Events
 refine lpT (l:=k.Events) (fun q=>q) (Nat.lt_of_le_of_lt a.Events (by decide)) rfl (fun n m t f b e d g=>?_) (fun t b=>?_) fun u=>?_
 .simp only[e,d,nt]
  have i:=a.EventsE _ f
  refine obT (T119 i) fun w=>?_
  refine Oi (fun c712=>?_) (fun c712=>?_)
  .exact .mk trivial
  refine Oi (fun c713=>?_) (fun c713=>?_)
  .exact .mk trivial
  exact .mk g
 .simp only[b,nf]
  exact .mk trivial
 rcases u with x|_
 .exact .mk (by(simp only[nm,nl]at *;omega))
 .refine Ob (T256 a.Events a.EventsE) fun y c=>?_
  refine Ob (T257 a.Tuplets c) fun⟨o,p⟩ h=>?_
  try dsimp only at h
  refine Oi (fun c716=>?_) (fun c716=>?_)
  .exact .mk (by(simp only[nm,nl]at *;omega))
  refine obT (T258 a.Tuplets c) fun⟨r,s⟩=>?_
  refine Oi (fun c718=>?_) (fun c718=>?_)
  .exact .mk (by(simp only[nm,nl]at *;omega))
  exact .mk (by(simp only[nm]at *;omega))
theorem T246 {f:Zo} {g:Int} (a:f.sm):Ok (F246 f g) (fun v=>v.1.length<=20):=by
 unfold F246
 refine Oi (fun c719=>?_) (fun c719=>?_)
 .exact .mk (by(simp only[nm,nl]at *;omega))
 refine Oi (fun c720=>?_) (fun c720=>?_)
 .exact .mk (by(simp only[nm,nl]at *;omega))
 refine obT (T253 a) fun i=>?_
 refine Oi (fun c722=>?_) (fun c722=>?_)
 .have e:=a.Events
  refine Ob (P:=fun x=>x∈f.Events) (bE (by omega) (by(simp only[nm]at *;omega)) (fun _ h _=>h)) fun j b=>?_
  have d:=a.EventsE _ b
  refine obT (T119 d) fun k=>?_
  refine Oi (fun c728=>?_) (fun c728=>?_)
  .exact .mk (by(simp only[nm,nl]at *;omega))
  refine Oi (fun c729=>?_) (fun c729=>?_)
  .exact .mk (by(simp only[nm,nl]at *;omega))
  exact .mk (by(simp only[nm,nl]at *;omega))
 refine Ob (T254 a) fun⟨l,m⟩ c=>?_
 try dsimp only at c
 exact .mk (by omega)
theorem T247 {h:List Int} (e:h.length<=20):Ok (F247 h) (fun _=>True):=by
 unfold F247
 have g:=e
 refine lpT (l:=h) (fun q=>q.2) (Nat.lt_of_le_of_lt e (by decide)) rfl (fun j i q741 f a c b d=>?_) (fun q741 a=>?_) fun n=>?_
 .obtain ⟨k,m⟩:=q741
  dsimp only at a c b d
  simp only[c,b,nt]
  exact .mk d
 .obtain ⟨k,m⟩:=q741
  dsimp only at a
  simp only[a,nf]
  exact .mk trivial
 exact .mk trivial
theorem T216 {e:Zo} {f:Int} (c:e.sm):Ok (F216 e f) (fun v=>v.1.length<=20):=by
 unfold F216
 refine Ob (T246 c) fun⟨g,i⟩ a=>?_
 try dsimp only at a
 refine Ob (P:=fun r=>r=true->((i==0)&&(decide ((g.length:Int)>0)))=true) ?_ fun k b=>?_
 .refine Oi (fun c745=>?_) (fun _=>.mk (fun h=>by cases h))
  refine obT (T247 a) fun j=>?_
  exact .mk (fun _=>c745)
 refine obT ?_ fun l=>?_
 .refine Oi (fun c748=>?_) (fun c748=>?_)
  .have d:=b c748
   exact .mk trivial
  exact .mk trivial
 refine Oi (fun c750=>?_) (fun c750=>?_)
 .exact .mk (by(simp only[nm,nl]at *;omega))
 exact .mk (by omega)
theorem T174 {c:Zo} {d:Int} (b:c.sm):Ok (F174 c d) (fun _=>True):=by
 unfold F174
 refine Ob (T216 b) fun⟨e,f⟩ a=>?_
 try dsimp only at a
 exact .mk trivial
theorem T115 {a:Int}:Ok (F115 a) (fun _=>True):=by
 unfold F115
 exact .mk trivial
theorem T173 {c:Zo} {d:Int} (a:c.sm):Ok (F173 c d) (fun _=>True):=by
 unfold F173
 refine obT (T150 a.Events a.EventsE) fun e=>?_
 refine Ob (P:=fun r=>r=true->(!e)=true) ?_ fun i b=>?_
 .refine Oi (fun c754=>?_) (fun _=>.mk (fun h=>by cases h))
  refine obT (T174 a) fun f=>?_
  refine obT (T115) fun g=>?_
  exact .mk (fun _=>c754)
 exact .mk trivial
theorem T223 {i:List Zo} {n:Int} (f:i.length<=3) (g:∀y∈i,y.sm):Ok (F223 i n) (fun _=>True):=by
 unfold F223
 have j:=f
 refine lpT (l:=i) (fun q=>q) (Nat.lt_of_le_of_lt f (by decide)) rfl (fun m k o d a c b e=>?_) (fun o a=>?_) fun p=>?_
 .simp only[c,b,nt]
  have h:=g _ d
  refine obT (T173 h) fun r=>?_
  refine Oi (fun c770=>?_) (fun c770=>?_)
  .exact .mk trivial
  exact .mk e
 .simp only[a,nf]
  exact .mk trivial
 rcases p with s|_
 .exact .mk trivial
 .exact .mk trivial
theorem T172 {c:List Zo} {d:Int} (b:c.length<=3) (a:∀y∈c,y.sm):Ok (F172 c d) (fun _=>True):=by
 unfold F172
 refine obT (T223 b a) fun e=>?_
 exact .mk trivial
theorem T171 {b:Zw} {c:Int} (a:b.sm):Ok (F171 b c) (fun _=>True):=by
 unfold F171
 refine obT (T172 a.Voices a.VoicesE) fun d=>?_
 exact .mk trivial
theorem T152 {i:List Zw} {n:Int} (f:i.length<=5) (g:∀y∈i,y.sm):Ok (F152 i n) (fun _=>True):=by
 unfold F152
 have j:=f
 refine lpT (l:=i) (fun q=>q) (Nat.lt_of_le_of_lt f (by decide)) rfl (fun m k o d a c b e=>?_) (fun o a=>?_) fun p=>?_
 .simp only[c,b,nt]
  have h:=g _ d
  refine obT (T171 h) fun r=>?_
  refine Oi (fun c786=>?_) (fun c786=>?_)
  .exact .mk trivial
  exact .mk e
 .simp only[a,nf]
  exact .mk trivial
 rcases p with s|_
 .exact .mk trivial
 .exact .mk trivial
theorem T84 {c:List Zw} {d:Int} (b:c.length<=5) (a:∀y∈c,y.sm):Ok (F84 c d) (fun _=>True):=by
 unfold F84
 refine obT (T152 b a) fun e=>?_
 exact .mk trivial
theorem T169 {c:Int} {b:Zm} (a:b.sm):Ok (F169 c b) (fun _=>True):=by
 unfold F169
 refine obT (T94 a) fun⟨d,e⟩=>?_
 refine Oi (fun c789=>?_) (fun c789=>?_)
 .exact .mk trivial
 refine obT (T84 a.Cells a.CellsE) fun f=>?_
 exact .mk trivial
theorem Tn108_4 {g:List Zv} {n:Z0} {z:Int} (u:g.length+10<=1000000) (f:n.sm):Ok (Fn108_4 g n z) (fun v=>g.length<=v.length/\v.length<=g.length+10):=by
 unfold Fn108_4
 have k:=f.Measures
 refine Ob (P:=fun r=>g.length<=r.length/\r.length<=g.length+10) (aP (l:=n.Measures) (fun q=>q.1) (fun i q=>g.length<=q.2.length/\q.2.length<=g.length+i*1) (Nat.lt_of_le_of_lt f.Measures (by decide)) rfl (by dsimp only;omega) (fun s o q802 m h a d b c e=>?_) (fun q802 a b=>?_)) fun y t=>?_
 .obtain ⟨A,B⟩:=q802
  dsimp only at a d c e b
  simp only[d,c,nt]
  have j:=f.MeasuresE _ h
  refine obT (T169 j) fun w=>?_
  refine Ob (Tn101 (by first|omega|(simp only[List.length_nil]at *;omega)) f) fun x p=>?_
  exact .mk ⟨e,by dsimp only;omega⟩
 .obtain ⟨A,B⟩:=q802
  dsimp only at a b
  simp only[a,nf]
  exact .mk (by dsimp only;omega)
 exact .mk (by omega)
theorem Tn114 {a:List Zv} {d:Z0} {f:Int} (e:a.length+10<=1000000) (b:d.sm):Ok (Fn114 a d f) (fun v=>a.length<=v.length/\v.length<=a.length+10):=by
 unfold Fn114
 refine Ob (Tn108_4 (by first|omega|(simp only[List.length_nil]at *;omega)) b) fun g c=>?_
 exact .mk (by omega)
theorem Tn64 {a:List Zv} {d:Z0} {f:Int} (e:a.length+10<=1000000) (b:d.sm):Ok (Fn64 a d f) (fun v=>a.length<=v.length/\v.length<=a.length+10):=by
 unfold Fn64
 refine Ob (Tn114 (by first|omega|(simp only[List.length_nil]at *;omega)) b) fun g c=>?_
 exact .mk (by omega)
theorem T116 {b:Int}:Ok (F116 b) (fun _=>True):=by
 unfold F116
 refine Ob (P:=fun r=>r=true->(b !=0)=true) ?_ fun d a=>?_
 .refine Oi (fun c810=>?_) (fun _=>.mk (fun h=>by cases h))
  refine obT (T115) fun c=>?_
  exact .mk (fun _=>c810)
 exact .mk trivial
theorem T173_2 {c:Zo} {d:Int} (a:c.sm):Ok (F173_2 c d) (fun _=>True):=by
 unfold F173_2
 refine obT (T150 a.Events a.EventsE) fun e=>?_
 refine Ob (P:=fun r=>r=true->(!e)=true) ?_ fun i b=>?_
 .refine Oi (fun c814=>?_) (fun _=>.mk (fun h=>by cases h))
  refine obT (T174 a) fun f=>?_
  refine obT (T116) fun g=>?_
  exact .mk (fun _=>c814)
 exact .mk trivial
theorem T223_2 {i:List Zo} {n:Int} (f:i.length<=3) (g:∀y∈i,y.sm):Ok (F223_2 i n) (fun _=>True):=by
 unfold F223_2
 have j:=f
 refine lpT (l:=i) (fun q=>q) (Nat.lt_of_le_of_lt f (by decide)) rfl (fun m k o d a c b e=>?_) (fun o a=>?_) fun p=>?_
 .simp only[c,b,nt]
  have h:=g _ d
  refine obT (T173_2 h) fun r=>?_
  refine Oi (fun c830=>?_) (fun c830=>?_)
  .exact .mk trivial
  exact .mk e
 .simp only[a,nf]
  exact .mk trivial
 rcases p with s|_
 .exact .mk trivial
 .exact .mk trivial
theorem T172_2 {c:List Zo} {d:Int} (b:c.length<=3) (a:∀y∈c,y.sm):Ok (F172_2 c d) (fun _=>True):=by
 unfold F172_2
 refine obT (T223_2 b a) fun e=>?_
 exact .mk trivial
theorem T171_2 {b:Zw} {c:Int} (a:b.sm):Ok (F171_2 b c) (fun _=>True):=by
 unfold F171_2
 refine obT (T172_2 a.Voices a.VoicesE) fun d=>?_
 exact .mk trivial
theorem T152_2 {i:List Zw} {n:Int} (f:i.length<=5) (g:∀y∈i,y.sm):Ok (F152_2 i n) (fun _=>True):=by
 unfold F152_2
 have j:=f
 refine lpT (l:=i) (fun q=>q) (Nat.lt_of_le_of_lt f (by decide)) rfl (fun m k o d a c b e=>?_) (fun o a=>?_) fun p=>?_
 .simp only[c,b,nt]
  have h:=g _ d
  refine obT (T171_2 h) fun r=>?_
  refine Oi (fun c846=>?_) (fun c846=>?_)
  .exact .mk trivial
  exact .mk e
 .simp only[a,nf]
  exact .mk trivial
 rcases p with s|_
 .exact .mk trivial
 .exact .mk trivial
theorem T84_2 {c:List Zw} {d:Int} (b:c.length<=5) (a:∀y∈c,y.sm):Ok (F84_2 c d) (fun _=>True):=by
 unfold F84_2
 refine obT (T152_2 b a) fun e=>?_
 exact .mk trivial
theorem T169_2 {c:Int} {b:Zm} (a:b.sm):Ok (F169_2 c b) (fun _=>True):=by
 unfold F169_2
 refine obT (T94 a) fun⟨d,e⟩=>?_
 refine Oi (fun c849=>?_) (fun c849=>?_)
 .exact .mk trivial
 refine obT (T84_2 a.Cells a.CellsE) fun f=>?_
 exact .mk trivial
theorem Tn108_5 {g:List Zv} {n:Z0} {z:Int} (u:g.length+10<=1000000) (f:n.sm):Ok (Fn108_5 g n z) (fun v=>g.length<=v.length/\v.length<=g.length+10):=by
 unfold Fn108_5
 have k:=f.Measures
 refine Ob (P:=fun r=>g.length<=r.length/\r.length<=g.length+10) (aP (l:=n.Measures) (fun q=>q.1) (fun i q=>g.length<=q.2.length/\q.2.length<=g.length+i*1) (Nat.lt_of_le_of_lt f.Measures (by decide)) rfl (by dsimp only;omega) (fun s o q862 m h a d b c e=>?_) (fun q862 a b=>?_)) fun y t=>?_
 .obtain ⟨A,B⟩:=q862
  dsimp only at a d c e b
  simp only[d,c,nt]
  have j:=f.MeasuresE _ h
  refine obT (T169_2 j) fun w=>?_
  refine Ob (Tn101 (by first|omega|(simp only[List.length_nil]at *;omega)) f) fun x p=>?_
  exact .mk ⟨e,by dsimp only;omega⟩
 .obtain ⟨A,B⟩:=q862
  dsimp only at a b
  simp only[a,nf]
  exact .mk (by dsimp only;omega)
 exact .mk (by omega)
theorem Tn114_2 {a:List Zv} {d:Z0} {f:Int} (e:a.length+10<=1000000) (b:d.sm):Ok (Fn114_2 a d f) (fun v=>a.length<=v.length/\v.length<=a.length+10):=by
 unfold Fn114_2
 refine Ob (Tn108_5 (by first|omega|(simp only[List.length_nil]at *;omega)) b) fun g c=>?_
 exact .mk (by omega)
theorem Tn65 {a:List Zv} {d:Z0} {f:Int} (e:a.length+10<=1000000) (b:d.sm):Ok (Fn65 a d f) (fun v=>a.length<=v.length/\v.length<=a.length+10):=by
 unfold Fn65
 refine Ob (Tn114_2 (by first|omega|(simp only[List.length_nil]at *;omega)) b) fun g c=>?_
 exact .mk (by omega)
theorem T118 {c:Zp} {b:Ze} (a:b.sm):Ok (F118 c b) (fun _=>True):=by
 unfold F118
 refine obT (T119 a) fun d=>?_
 exact .mk trivial
theorem Tn117 {G:List Zv} {x2:Z0} {x3:Int} (e3:G.length+3000<=1000000) (F:x2.sm):Ok (Fn117 G x2 x3) (fun v=>G.length<=v.length/\v.length<=G.length+3000):=by
 unfold Fn117
 have U:=F.Measures
 refine Ob (P:=fun r=>G.length<=r.length/\r.length<=G.length+3000) (aP (l:=x2.Measures) (fun q=>q.1) (fun i q=>G.length<=q.2.length/\q.2.length<=G.length+i*300) (Nat.lt_of_le_of_lt F.Measures (by decide)) rfl (by dsimp only;omega) (fun b9 M q881 Y H c o g a u=>?_) (fun q881 c g=>?_)) fun d8 d9=>?_
 .obtain ⟨b4,C⟩:=q881
  dsimp only at c o a u g
  simp only[o,a,nt]
  have z:=F.MeasuresE _ H
  have V:=z.Cells
  refine Ob (P:=fun r=>C.length<=r.length/\r.length<=C.length+300) (aP (l:=M.Cells) (fun q=>q.1) (fun i q=>C.length<=q.2.length/\q.2.length<=C.length+i*60) (Nat.lt_of_le_of_lt z.Cells (by decide)) rfl (by dsimp only;omega) (fun d0 N q895 Z J d p h b w=>?_) (fun q895 d h=>?_)) fun d7 e0=>?_
  .obtain ⟨b5,D⟩:=q895
   dsimp only at d p b w h
   simp only[p,a,b,nt]
   have A:=z.CellsE _ J
   have W:=A.Voices
   refine Ob (P:=fun r=>D.length<=r.length/\r.length<=D.length+60) (aP (l:=N.Voices) (fun q=>q.1) (fun i q=>D.length<=q.2.length/\q.2.length<=D.length+i*20) (Nat.lt_of_le_of_lt A.Voices (by decide)) rfl (by dsimp only;omega) (fun d1 O q909 a0 K e s j m x=>?_) (fun q909 e j=>?_)) fun d6 e1=>?_
   .obtain ⟨b6,E⟩:=q909
    dsimp only at e s m x j
    simp only[s,a,b,m,nt]
    have B:=A.VoicesE _ K
    have X:=B.Events
    refine Ob (P:=fun r=>E.length<=r.length/\r.length<=E.length+20) (aP (l:=O.Events) (fun q=>q.1) (fun i q=>E.length<=q.2.length/\q.2.length<=E.length+i*1) (Nat.lt_of_le_of_lt B.Events (by decide)) rfl (by dsimp only;omega) (fun d2 b7 q923 b0 L f t k n y=>?_) (fun q923 f k=>?_)) fun d5 e2=>?_
    .obtain ⟨S,T⟩:=q923
     dsimp only at f t n y k
     simp only[t,a,b,m,n,nt]
     have R:=B.EventsE _ L
     refine obT (T118 R) fun d3=>?_
     refine Ob (Tn101 (by first|omega|(simp only[List.length_nil]at *;omega)) F) fun d4 b8=>?_
     exact .mk ⟨y,by dsimp only;omega⟩
    .obtain ⟨S,T⟩:=q923
     dsimp only at f k
     simp only[f,nf]
     exact .mk (by dsimp only;omega)
    exact .mk ⟨x,by dsimp only;omega⟩
   .obtain ⟨b6,E⟩:=q909
    dsimp only at e j
    simp only[e,nf]
    exact .mk (by dsimp only;omega)
   exact .mk ⟨w,by dsimp only;omega⟩
  .obtain ⟨b5,D⟩:=q895
   dsimp only at d h
   simp only[d,nf]
   exact .mk (by dsimp only;omega)
  exact .mk ⟨u,by dsimp only;omega⟩
 .obtain ⟨b4,C⟩:=q881
  dsimp only at c g
  simp only[c,nf]
  exact .mk (by dsimp only;omega)
 exact .mk (by omega)
theorem Tn66 {a:List Zv} {d:Z0} {f:Int} (e:a.length+3000<=1000000) (b:d.sm):Ok (Fn66 a d f) (fun v=>a.length<=v.length/\v.length<=a.length+3000):=by
 unfold Fn66
 refine Ob (Tn117 (by first|omega|(simp only[List.length_nil]at *;omega)) b) fun g c=>?_
 exact .mk (by omega)
theorem T53 {c:Z0} {f:Int} (d:c.sm):Ok (F53 c f) (fun v=>v.2.2=0->0<=v.1/\v.1<(c.Parts.length:Int)):=by
 unfold F53
 have g:=d.Parts
 refine Oi (fun _=>.mk (fun h=>absurd (show(2:Int)=0 from h) (by decide))) (fun _=>?_)
 refine Ob (P:=fun r=>match r with|.inl p=>0<=p.1/\p.1<(c.Parts.length:Int)|.inr _=>True) (aP (l:=c.Parts) (fun q=>q.2) (fun _ _=>True) (by omega) rfl trivial (fun i e q k j hi hl _ hg hw=>?_) (fun q hi _=>?_)) fun r hr=>?_
 .obtain ⟨s,x⟩:=q
  dsimp only at hi hl hg hw
  simp only[hl,hg,nt]
  exact Oi (fun _=>.mk ⟨by dsimp only;omega,hl⟩) (fun _=>.mk ⟨hw,trivial⟩)
 .obtain ⟨s,x⟩:=q
  dsimp only at hi
  simp only[hi,nf]
  exact .mk trivial
 rcases r with⟨a,b⟩|_
 .exact .mk (fun _=>hr)
 .exact .mk (fun h=>absurd (show(2:Int)=0 from h) (by decide))
theorem T121 {a:Zh} {b:Int}:Ok (F121 a b) (fun _=>True):=by
 unfold F121
 refine obT (T122) fun⟨c,d⟩=>?_
 refine obT (T103) fun e=>?_
 exact .mk trivial
theorem T124 {a:Zb} {b:Int}:Ok (F124 a b) (fun _=>True):=by
 unfold F124
 refine obT (T121) fun c=>?_
 exact .mk trivial
theorem T186 {h:List Zb} {k:Int} (e:h.length<=12):Ok (F186 h k) (fun _=>True):=by
 unfold F186
 have g:=e
 refine lpT (l:=h) (fun q=>q) (Nat.lt_of_le_of_lt e (by decide)) rfl (fun j i m f a c b d=>?_) (fun m a=>?_) fun n=>?_
 .simp only[c,b,nt]
  refine obT (T124) fun o=>?_
  refine Oi (fun c944=>?_) (fun c944=>?_)
  .exact .mk trivial
  exact .mk d
 .simp only[a,nf]
  exact .mk trivial
 rcases n with p|_
 .exact .mk trivial
 .exact .mk trivial
theorem T123 {b:List Zb} {c:Int} (a:b.length<=12):Ok (F123 b c) (fun _=>True):=by
 unfold F123
 refine obT (T186 a) fun d=>?_
 exact .mk trivial
theorem T126 {a:Zd} {b:Int}:Ok (F126 a b) (fun _=>True):=by
 unfold F126
 refine obT (T121) fun c=>?_
 exact .mk trivial
theorem T187 {h:List Zd} {k:Int} (e:h.length<=12):Ok (F187 h k) (fun _=>True):=by
 unfold F187
 have g:=e
 refine lpT (l:=h) (fun q=>q) (Nat.lt_of_le_of_lt e (by decide)) rfl (fun j i m f a c b d=>?_) (fun m a=>?_) fun n=>?_
 .simp only[c,b,nt]
  refine obT (T126) fun o=>?_
  refine Oi (fun c959=>?_) (fun c959=>?_)
  .exact .mk trivial
  exact .mk d
 .simp only[a,nf]
  exact .mk trivial
 rcases n with p|_
 .exact .mk trivial
 .exact .mk trivial
theorem T125 {b:List Zd} {c:Int} (a:b.length<=12):Ok (F125 b c) (fun _=>True):=by
 unfold F125
 refine obT (T187 a) fun d=>?_
 exact .mk trivial
theorem T120 {l:Zp} {k:Ze} {g:Zk} (a:k.sm) (b:g.s'.sm):Ok (F120 l k g) (fun _=>True):=by
 unfold F120
 refine obT (T119 a) fun p=>?_
 refine Oi (fun c962=>?_) (fun c962=>?_)
 .exact .mk trivial
 refine Ob (T53 b) fun⟨q,s,t⟩ d=>?_
 try dsimp only at d
 refine obT ?_ fun v=>?_
 .refine Oi (fun c965=>?_) (fun c965=>?_)
  .have e:=b.Parts
   refine Ob (P:=fun x=>x∈g.s'.Parts) (bE (by(simp only[nm]at *;omega)) (by(simp only[nm]at *;omega)) (fun _ h _=>h)) fun u c=>?_
   have j:=b.PartsE _ c
   exact .mk trivial
  exact .mk trivial
 refine obT ?_ fun m=>?_
 .refine Oi (fun c971=>?_) (fun c971=>?_)
  .exact .mk trivial
  exact .mk trivial
 refine obT (T123 a.Heads) fun f=>?_
 refine Ob (P:=fun r=>¬r=true->¬f=true) ?_ fun o i=>?_
 .refine Oi (fun _=>.mk (fun h=>absurd rfl h)) (fun c974=>?_)
  refine obT (T125 a.Graces) fun n=>?_
  exact .mk (fun _=>c974)
 exact .mk trivial
theorem Tn117_2 {J:List Zv} {x2:Z0} {x3:Int} (e3:J.length+3000<=1000000) (x:x2.sm):Ok (Fn117_2 J x2 x3) (fun v=>J.length<=v.length/\v.length<=J.length+3000):=by
 unfold Fn117_2
 have b0:=x.Measures
 refine Ob (P:=fun r=>J.length<=r.length/\r.length<=J.length+3000) (aP (l:=x2.Measures) (fun q=>q.1) (fun i q=>J.length<=q.2.length/\q.2.length<=J.length+i*300) (Nat.lt_of_le_of_lt x.Measures (by decide)) rfl (by dsimp only;omega) (fun d3 O q987 b4 L h y k c A=>?_) (fun q987 h k=>?_)) fun e0 e1=>?_
 .obtain ⟨b8,D⟩:=q987
  dsimp only at h y c A k
  simp only[y,c,nt]
  have C:=x.MeasuresE _ L
  have U:=C.Cells
  refine Ob (P:=fun r=>D.length<=r.length/\r.length<=D.length+300) (aP (l:=O.Cells) (fun q=>q.1) (fun i q=>D.length<=q.2.length/\q.2.length<=D.length+i*60) (Nat.lt_of_le_of_lt C.Cells (by decide)) rfl (by dsimp only;omega) (fun d4 R q1001 b5 M j z m g B=>?_) (fun q1001 j m=>?_)) fun d9 e2=>?_
  .obtain ⟨b9,E⟩:=q1001
   dsimp only at j z g B m
   simp only[z,c,g,nt]
   have n:=C.CellsE _ M
   have V:=n.Voices
   refine Ob (P:=fun r=>E.length<=r.length/\r.length<=E.length+60) (aP (l:=R.Voices) (fun q=>q.1) (fun i q=>E.length<=q.2.length/\q.2.length<=E.length+i*20) (Nat.lt_of_le_of_lt n.Voices (by decide)) rfl (by dsimp only;omega) (fun b6 K q1015 X G a s d f u=>?_) (fun q1015 a d=>?_)) fun d8 d1=>?_
   .obtain ⟨d0,F⟩:=q1015
    dsimp only at a s f u d
    simp only[s,c,g,f,nt]
    have o:=n.VoicesE _ G
    have W:=o.Events
    refine Ob (P:=fun r=>F.length<=r.length/\r.length<=F.length+20) (aP (l:=K.Events) (fun q=>q.1) (fun i q=>F.length<=q.2.length/\q.2.length<=F.length+i*1) (Nat.lt_of_le_of_lt o.Events (by decide)) rfl (by dsimp only;omega) (fun b7 Z q1029 Y H b t e p w=>?_) (fun q1029 b e=>?_)) fun d7 d2=>?_
    .obtain ⟨S,T⟩:=q1029
     dsimp only at b t p w e
     simp only[t,c,g,f,p,nt]
     have N:=o.EventsE _ H
     refine obT (T120 N x) fun d5=>?_
     refine Ob (Tn101 (by first|omega|(simp only[List.length_nil]at *;omega)) x) fun d6 a0=>?_
     exact .mk ⟨w,by dsimp only;omega⟩
    .obtain ⟨S,T⟩:=q1029
     dsimp only at b e
     simp only[b,nf]
     exact .mk (by dsimp only;omega)
    exact .mk ⟨u,by dsimp only;omega⟩
   .obtain ⟨d0,F⟩:=q1015
    dsimp only at a d
    simp only[a,nf]
    exact .mk (by dsimp only;omega)
   exact .mk ⟨B,by dsimp only;omega⟩
  .obtain ⟨b9,E⟩:=q1001
   dsimp only at j m
   simp only[j,nf]
   exact .mk (by dsimp only;omega)
  exact .mk ⟨A,by dsimp only;omega⟩
 .obtain ⟨b8,D⟩:=q987
  dsimp only at h k
  simp only[h,nf]
  exact .mk (by dsimp only;omega)
 exact .mk (by omega)
theorem Tn67 {a:List Zv} {d:Z0} {f:Int} (e:a.length+3000<=1000000) (c:d.sm):Ok (Fn67 a d f) (fun v=>a.length<=v.length/\v.length<=a.length+3000):=by
 unfold Fn67
 refine Ob (Tn117_2 (by first|omega|(simp only[List.length_nil]at *;omega)) c) fun g b=>?_
 exact .mk (by omega)
theorem T188 {a:Zb}:Ok (F188 a) (fun _=>True):=by
 unfold F188
 exact .mk trivial
theorem T186_2 {j:List Zb} (e:j.length<=12):Ok (F186_2 j) (fun _=>True):=by
 unfold F186_2
 have g:=e
 refine lpT (l:=j) (fun q=>q) (Nat.lt_of_le_of_lt e (by decide)) rfl (fun i h k f a c b d=>?_) (fun k a=>?_) fun m=>?_
 .simp only[c,b,nt]
  refine obT (T188) fun n=>?_
  refine Oi (fun c1047=>?_) (fun c1047=>?_)
  .exact .mk trivial
  exact .mk d
 .simp only[a,nf]
  exact .mk trivial
 rcases m with o|_
 .exact .mk trivial
 .exact .mk trivial
theorem T123_2 {b:List Zb} (a:b.length<=12):Ok (F123_2 b) (fun _=>True):=by
 unfold F123_2
 refine obT (T186_2 a) fun c=>?_
 exact .mk trivial
theorem T128 {c:Ze} (b:c.sm):Ok (F128 c) (fun _=>True):=by
 unfold F128
 refine Ob (P:=fun r=>r=true->(c.Kind==1)=true) ?_ fun e a=>?_
 .refine Oi (fun c1050=>?_) (fun _=>.mk (fun h=>by cases h))
  refine obT (T123_2 b.Heads) fun d=>?_
  exact .mk (fun _=>c1050)
 exact .mk trivial
theorem T190 {b:Z0} {c d e:Int} (f:b.sm):Ok (F190 b c d e) (fun v=>v.length<=20/\(∀y∈v,y.sm)/\(v=[]\/∃x y z,lget b.Measures c=some x/\lget x.Cells d=some y/\lget y.Voices e=some z/\v=z.Events)):=by
 unfold F190
 refine Ob (P:=fun r=>¬r=true->0<=c/\0<=d/\∃x,lget b.Measures c=some x/\d<(x.Cells.length:Int)) ?_ fun l j=>?_
 .refine Oi (fun _=>.mk (fun h=>absurd rfl h)) (fun hc=>?_)
  simp only[Bool.or_eq_true,decide_eq_true_eq,not_or]at hc
  exact Ok.bindE (bE (Q:=fun _=>True) (by omega) (by omega) (fun _ _ _=>trivial)) fun x a _=>.mk (fun h=>⟨by omega,by omega,x,a,by simp at h;omega⟩)
 refine Ob (P:=fun r=>¬r=true->∃x y,lget b.Measures c=some x/\lget x.Cells d=some y/\0<=e/\e<(y.Voices.length:Int)) ?_ fun m k=>?_
 .refine Oi (fun _=>.mk (fun h=>absurd rfl h)) (fun hc=>?_)
  simp only[Bool.or_eq_true,decide_eq_true_eq,not_or]at hc
  obtain⟨h0,h1,x,a,hs⟩:=j hc.1
  rw[a,Option.bind_some]
  exact Ok.bindE (bE (Q:=fun _=>True) h1 hs (fun _ _ _=>trivial)) fun y hy _=>.mk (fun h=>⟨x,y,rfl,hy,by omega,by simp at h;omega⟩)
 refine Oi (fun _=>.mk ⟨Nat.zero_le _,fun _ h=>(List.not_mem_nil h).elim,.inl rfl⟩) (fun hc=>?_)
 obtain⟨x,y,a,hy,h0,h1⟩:=k hc
 rw[a,Option.bind_some,hy,Option.bind_some]
 refine Ok.bindE (bE (Q:=fun _=>True) h0 h1 (fun _ _ _=>trivial)) fun z g _=>?_
 have i:=((f.MeasuresE x (bJ a).2.2.1).CellsE y (bJ hy).2.2.1).VoicesE z (bJ g).2.2.1
 exact .mk ⟨i.Events,i.EventsE,.inr ⟨x,y,z,rfl,hy,g,rfl⟩⟩
theorem T189 {c:Z0} {a:Zp} (d:c.sm):Ok (F189 c a) (fun r=>r=0->a.Kind=4/\0<=a.Event/\∃l,F190 c a.Measure a.Staff a.Voice=some l/\a.Event<(l.length:Int)):=by
 unfold F189
 refine Oi (fun _=>.mk (fun h=>by cases h)) (fun hk=>?_)
 refine Ob (P:=fun r=>¬r=true->0<=a.Event/\∃l,F190 c a.Measure a.Staff a.Voice=some l/\a.Event<(l.length:Int)) (Oi (fun _=>.mk (fun h=>absurd rfl h)) (fun hc=>?_)) fun b hb=>?_
 .exact Ok.bindE (T190 d) fun l hl _=>.mk (fun h=>⟨by simpa using hc,l,hl,by simpa using h⟩)
 exact Oi (fun _=>.mk (fun h=>by cases h)) (fun hc=>.mk (fun _=>⟨by simpa using hk,hb hc⟩))
theorem T191 {a b:Int} {c d:Int}:Ok (F191 a b c d) (fun v=>v.Measure=a):=by
 unfold F191
 exact .mk (by rfl)
theorem T129 {d:Z0} {e:Zp} (b:d.sm):Ok (F129 d e) (fun v=>v.2=true->0<=e.Measure/\e.Measure<(d.Measures.length:Int)/\0<=v.1.Measure/\v.1.Measure<(d.Measures.length:Int)):=by
 unfold F129
 refine Ob (T189 b) fun c hc=>?_
 refine Oi (fun _=>.mk (fun h=>by cases h)) (fun hd=>?_)
 obtain⟨hk,h0,l,hl,j⟩:=hc (by simpa using hd)
 have i:=(T190 b).of hl
 have f:0<=e.Measure/\e.Measure<(d.Measures.length:Int):=by
  rcases i.2.2 with h|⟨x,y,z,hx,_⟩
  .rw [h,List.length_nil]at j;omega
  .have:=bJ hx;exact⟨this.1,this.2.1⟩
 rw[hl,Option.bind_some]
 refine Oi (fun _=>?_) (fun _=>?_)
 .exact Ob T191 fun a g=>.mk (fun _=>⟨f.1,f.2,by dsimp only;omega,by dsimp only;omega⟩)
 refine Ob (T190 b) fun k h2=>?_
 refine Oi (fun hc=>?_) (fun _=>.mk (fun h=>by cases h))
 refine Ob T191 fun a g=>.mk (fun _=>?_)
 dsimp only at g ⊢
 rcases h2.2.2 with h|⟨x,y,z,hx,_⟩
 .rw [h]at hc;simp at hc
 .have:=bJ hx;rw[g];exact⟨f.1,f.2,this.1,this.2.1⟩
theorem T192 {b:Ze} (a:b.sm):Ok (F192 b) (fun v=>v.sm):=by
 unfold F192
 rw[nB (Nat.le_trans a.Heads (by decide)),nB (Nat.le_trans a.Graces (by decide)),nB (Nat.le_trans a.Lyrics (by decide))]
 exact .mk ⟨a.Heads,a.Graces,a.Lyrics,a.LyricsE⟩
theorem T130 {f:Z0} {g:Zp} (a:f.sm):Ok (F130 f g) (fun v=>v.1.sm):=by
 unfold F130
 refine Ob (T189 a) fun c hc=>?_
 refine Oi (fun _=>.mk ⟨Nat.zero_le _,Nat.zero_le _,Nat.zero_le _,fun _ h=>(List.not_mem_nil h).elim⟩) (fun hd=>?_)
 obtain⟨hk,h0,l,hl,d⟩:=hc (by simpa using hd)
 have b:=(T190 a).of hl
 rw[hl,Option.bind_some]
 exact Ob (bE (Q:=fun x=>x.sm) h0 d (fun x e _=>b.2.1 x e)) fun x e=>Ob (T192 e) fun y hy=>.mk hy
theorem T193 {a b:Zb}:Ok (F193 a b) (fun _=>True):=by
 unfold F193
 exact .mk trivial
theorem T186_3 {j:List Zb} {k:Zb} (e:j.length<=12):Ok (F186_3 j k) (fun _=>True):=by
 unfold F186_3
 have g:=e
 refine lpT (l:=j) (fun q=>q) (Nat.lt_of_le_of_lt e (by decide)) rfl (fun i h m f a c b d=>?_) (fun m a=>?_) fun n=>?_
 .simp only[c,b,nt]
  refine obT (T193) fun o=>?_
  refine Oi (fun c1064=>?_) (fun c1064=>?_)
  .exact .mk trivial
  exact .mk d
 .simp only[a,nf]
  exact .mk trivial
 rcases n with p|_
 .exact .mk trivial
 .exact .mk trivial
theorem T123_3 {b:List Zb} {c:Zb} (a:b.length<=12):Ok (F123_3 b c) (fun _=>True):=by
 unfold F123_3
 refine obT (T186_3 a) fun d=>?_
 exact .mk trivial
theorem T131 {p t:Ze} (g:p.sm) (m:t.sm):Ok (F131 p t) (fun _=>True):=by
 unfold F131
 refine Oi (fun c1066=>?_) (fun c1066=>?_)
 .exact .mk trivial
 have j:=g.Heads
 refine lpT (l:=p.Heads) (fun q=>q) (Nat.lt_of_le_of_lt g.Heads (by decide)) rfl (fun n e w i a c b d=>?_) (fun w a=>?_) fun s=>?_
 .simp only[c,b,nt]
  refine Ob (P:=fun r=>r=true->e.Tied=true) ?_ fun v f=>?_
  .refine Oi (fun c1079=>?_) (fun _=>.mk (fun h=>by cases h))
   refine Ob (P:=fun r=>r=true->(t.Kind==1)=true) ?_ fun u k=>?_
   .refine Oi (fun c1081=>?_) (fun _=>.mk (fun h=>by cases h))
    refine obT (T123_3 m.Heads) fun x=>?_
    exact .mk (fun _=>c1081)
   exact .mk (fun _=>c1079)
  refine Oi (fun c1083=>?_) (fun c1083=>?_)
  .have o:=f c1083
   exact .mk trivial
  exact .mk d
 .simp only[a,nf]
  exact .mk trivial
 rcases s with _|_
 .exact .mk trivial
 .exact .mk trivial
theorem T127 {i:Zp} {f:Ze} {g:Zk} (c:f.sm) (d:g.s'.sm):Ok (F127 i f g) (fun _=>True):=by
 unfold F127
 refine obT (T128 c) fun l=>?_
 refine Oi (fun c1086=>?_) (fun c1086=>?_)
 .exact .mk trivial
 refine Ob (T129 d) fun⟨m,k⟩ b=>?_
 try dsimp only at b
 refine Ob (T130 d) fun⟨n,o⟩ a=>?_
 try dsimp only at a
 refine Ob (P:=fun r=>¬r=true->¬(!k)=true) ?_ fun j e=>?_
 .refine Oi (fun _=>.mk (fun h=>absurd rfl h)) (fun c1090=>?_)
  refine obT (T131 c a) fun p=>?_
  exact .mk (fun _=>c1090)
 exact .mk trivial
theorem Tn117_3 {L:List Zv} {x2:Z0} {x3:Int} (e3:L.length+3000<=1000000) (C:x2.sm):Ok (Fn117_3 L x2 x3) (fun v=>L.length<=v.length/\v.length<=L.length+3000):=by
 unfold Fn117_3
 have U:=C.Measures
 refine Ob (P:=fun r=>L.length<=r.length/\r.length<=L.length+3000) (aP (l:=x2.Measures) (fun q=>q.1) (fun i q=>L.length<=q.2.length/\q.2.length<=L.length+i*300) (Nat.lt_of_le_of_lt C.Measures (by decide)) rfl (by dsimp only;omega) (fun b6 M q1103 Y G c t g a y=>?_) (fun q1103 c g=>?_)) fun e2 d3=>?_
 .obtain ⟨d0,D⟩:=q1103
  dsimp only at c t a y g
  simp only[t,a,nt]
  have n:=C.MeasuresE _ G
  have V:=n.Cells
  refine Ob (P:=fun r=>D.length<=r.length/\r.length<=D.length+300) (aP (l:=M.Cells) (fun q=>q.1) (fun i q=>D.length<=q.2.length/\q.2.length<=D.length+i*60) (Nat.lt_of_le_of_lt n.Cells (by decide)) rfl (by dsimp only;omega) (fun b7 N q1117 Z H d u h b z=>?_) (fun q1117 d h=>?_)) fun e1 d4=>?_
  .obtain ⟨d1,E⟩:=q1117
   dsimp only at d u b z h
   simp only[u,a,b,nt]
   have o:=n.CellsE _ H
   have W:=o.Voices
   refine Ob (P:=fun r=>E.length<=r.length/\r.length<=E.length+60) (aP (l:=N.Voices) (fun q=>q.1) (fun i q=>E.length<=q.2.length/\q.2.length<=E.length+i*20) (Nat.lt_of_le_of_lt o.Voices (by decide)) rfl (by dsimp only;omega) (fun b8 O q1131 a0 J e w j m A=>?_) (fun q1131 e j=>?_)) fun e0 d5=>?_
   .obtain ⟨d2,F⟩:=q1131
    dsimp only at e w m A j
    simp only[w,a,b,m,nt]
    have p:=o.VoicesE _ J
    have X:=p.Events
    refine Ob (P:=fun r=>F.length<=r.length/\r.length<=F.length+20) (aP (l:=O.Events) (fun q=>q.1) (fun i q=>F.length<=q.2.length/\q.2.length<=F.length+i*1) (Nat.lt_of_le_of_lt p.Events (by decide)) rfl (by dsimp only;omega) (fun b9 b4 q1145 b0 K f x k s B=>?_) (fun q1145 f k=>?_)) fun d9 d6=>?_
    .obtain ⟨S,T⟩:=q1145
     dsimp only at f x s B k
     simp only[x,a,b,m,s,nt]
     have R:=p.EventsE _ K
     refine obT (T127 R C) fun d7=>?_
     refine Ob (Tn101 (by first|omega|(simp only[List.length_nil]at *;omega)) C) fun d8 b5=>?_
     exact .mk ⟨B,by dsimp only;omega⟩
    .obtain ⟨S,T⟩:=q1145
     dsimp only at f k
     simp only[f,nf]
     exact .mk (by dsimp only;omega)
    exact .mk ⟨A,by dsimp only;omega⟩
   .obtain ⟨d2,F⟩:=q1131
    dsimp only at e j
    simp only[e,nf]
    exact .mk (by dsimp only;omega)
   exact .mk ⟨z,by dsimp only;omega⟩
  .obtain ⟨d1,E⟩:=q1117
   dsimp only at d h
   simp only[d,nf]
   exact .mk (by dsimp only;omega)
  exact .mk ⟨y,by dsimp only;omega⟩
 .obtain ⟨d0,D⟩:=q1103
  dsimp only at c g
  simp only[c,nf]
  exact .mk (by dsimp only;omega)
 exact .mk (by omega)
theorem Tn68 {a:List Zv} {d:Z0} {f:Int} (e:a.length+3000<=1000000) (c:d.sm):Ok (Fn68 a d f) (fun v=>a.length<=v.length/\v.length<=a.length+3000):=by
 unfold Fn68
 refine Ob (Tn117_3 (by first|omega|(simp only[List.length_nil]at *;omega)) c) fun g b=>?_
 exact .mk (by omega)
theorem T194 {a:Ze} {c:Int} (d:a.sm) (e:0<=c):Ok (F194 a c) (fun v=>v=false->c<(a.Lyrics.length:Int)):=by
 unfold F194
 refine Ob (P:=fun r=>r=false->c<(a.Lyrics.length:Int)) (Oi (fun _=>.mk (fun h=>by cases h)) (fun hc=>?_)) fun b hb=>.mk hb
 simp only[decide_eq_true_eq]at hc
 exact Ob (bE (Q:=fun _=>True) e (by omega) (fun _ _ _=>trivial)) fun y _=>.mk (fun _=>by omega)
theorem Tn132 {o p v:Int} {E:List (Zp×Bool)} {A:List Zv} {s:Z0} {F:Int} (B:A.length+0<=1000000) (d:s.sm) (D:0<=o) (hy:0<=p) (t:0<=v):Ok (Fn132 o p v E A s F) (fun _=>True):=by
 unfold Fn132
 have H:=d.Measures
 refine Ob (P:=fun _=>True) (aP (l:=s.Measures) (fun q=>q.1) (fun _ _=>True) (by omega) rfl trivial (fun i e q _ g hi hl _ hg hw=>?_) (fun q hi _=>?_)) fun⟨a1,a2,a3,a4,a5,a6,a7⟩ _=>?_
 .obtain ⟨x,k,st,m,n,ev,y,l⟩:=q
  dsimp only at hi hl hg hw
  simp only[hl,hg,nt]
  refine Ob (P:=fun r=>¬r=true->∃y,lget e.Cells o=some y/\p<(y.Voices.length:Int)) (Oi (fun _=>.mk (fun h=>absurd rfl h)) (fun hc=>?_)) fun b hb=>?_
  .simp only[decide_eq_true_eq]at hc
   exact Ok.bindE (bE (Q:=fun _=>True) D (by omega) (fun _ _ _=>trivial)) fun y hy _=>.mk (fun h=>⟨y,hy,by simpa using h⟩)
  refine Oi (fun _=>.mk ⟨hw,trivial⟩) (fun hc=>?_)
  obtain⟨c,f,hv⟩:=hb hc
  rw[f,Option.bind_some]
  refine Ok.bindE (bE (Q:=fun _=>True) hy hv (fun _ _ _=>trivial)) fun z j _=>?_
  have u:=((d.MeasuresE e g).CellsE c (bJ f).2.2.1).VoicesE z (bJ j).2.2.1
  have G:=u.Events
  refine Ob (P:=fun _=>True) (aP (l:=z.Events) (fun q=>q.1) (fun _ _=>True) (by omega) rfl trivial (fun i e q _ g hi hl _ hg hw=>?_) (fun q hi _=>?_)) fun⟨a1,a2,a3,a4,a5,a6,a7⟩ _=>.mk ⟨hw,trivial⟩
  .obtain ⟨x,k,st,m,n,ev,y,l⟩:=q
   dsimp only at hi hl hg hw
   simp only[hl,hg,nt]
   refine Ob (T194 (u.EventsE e g) t) fun a C=>?_
   refine Oi (fun _=>.mk ⟨hw,trivial⟩) (fun hc=>?_)
   refine Ob (bE (Q:=fun _=>True) t (C (by simpa using hc)) (fun _ _ _=>trivial)) fun w _=>?_
   refine Ob (P:=fun _=>True) (Oi (fun _=>.mk trivial) (fun _=>.mk trivial)) fun _ _=>?_
   exact Ob (P:=fun _=>True) (Oi (fun _=>.mk trivial) (fun _=>.mk trivial)) fun _ _=>.mk ⟨hw,trivial⟩
  .obtain ⟨x,k,st,m,n,ev,y,l⟩:=q
   dsimp only at hi
   simp only[hi,nf]
   exact .mk trivial
 .obtain ⟨x,k,st,m,n,ev,y,l⟩:=q
  dsimp only at hi
  simp only[hi,nf]
  exact .mk trivial
 exact Ob (P:=fun _=>True) (Oi (fun _=>.mk trivial) (fun _=>.mk trivial)) fun _ _=>.mk trivial
theorem T133 {c:Zp} {a:Ze} {d:List (Zp×Bool)} (b:a.sm):Ok (F133 c a d) (fun _=>True):=by
 unfold F133
 exact .mk trivial
theorem Tn117_4 {x1:List (Zp×Bool)} {L:List Zv} {x3:Z0} {x4:Int} (e3:L.length+3000<=1000000) (F:x3.sm):Ok (Fn117_4 x1 L x3 x4) (fun v=>L.length<=v.length/\v.length<=L.length+3000):=by
 unfold Fn117_4
 have U:=F.Measures
 refine Ob (P:=fun r=>L.length<=r.length/\r.length<=L.length+3000) (aP (l:=x3.Measures) (fun q=>q.1) (fun i q=>L.length<=q.2.length/\q.2.length<=L.length+i*300) (Nat.lt_of_le_of_lt F.Measures (by decide)) rfl (by dsimp only;omega) (fun b6 M q1162 Y G c t g a y=>?_) (fun q1162 c g=>?_)) fun e2 d3=>?_
 .obtain ⟨d0,C⟩:=q1162
  dsimp only at c t a y g
  simp only[t,a,nt]
  have n:=F.MeasuresE _ G
  have V:=n.Cells
  refine Ob (P:=fun r=>C.length<=r.length/\r.length<=C.length+300) (aP (l:=M.Cells) (fun q=>q.1) (fun i q=>C.length<=q.2.length/\q.2.length<=C.length+i*60) (Nat.lt_of_le_of_lt n.Cells (by decide)) rfl (by dsimp only;omega) (fun b7 N q1176 Z H d u h b z=>?_) (fun q1176 d h=>?_)) fun e1 d4=>?_
  .obtain ⟨d1,D⟩:=q1176
   dsimp only at d u b z h
   simp only[u,a,b,nt]
   have o:=n.CellsE _ H
   have W:=o.Voices
   refine Ob (P:=fun r=>D.length<=r.length/\r.length<=D.length+60) (aP (l:=N.Voices) (fun q=>q.1) (fun i q=>D.length<=q.2.length/\q.2.length<=D.length+i*20) (Nat.lt_of_le_of_lt o.Voices (by decide)) rfl (by dsimp only;omega) (fun b8 O q1190 a0 J e w j m A=>?_) (fun q1190 e j=>?_)) fun e0 d5=>?_
   .obtain ⟨d2,E⟩:=q1190
    dsimp only at e w m A j
    simp only[w,a,b,m,nt]
    have p:=o.VoicesE _ J
    have X:=p.Events
    refine Ob (P:=fun r=>E.length<=r.length/\r.length<=E.length+20) (aP (l:=O.Events) (fun q=>q.1) (fun i q=>E.length<=q.2.length/\q.2.length<=E.length+i*1) (Nat.lt_of_le_of_lt p.Events (by decide)) rfl (by dsimp only;omega) (fun b9 b4 q1204 b0 K f x k s B=>?_) (fun q1204 f k=>?_)) fun d9 d6=>?_
    .obtain ⟨S,T⟩:=q1204
     dsimp only at f x s B k
     simp only[x,a,b,m,s,nt]
     have R:=p.EventsE _ K
     refine obT (T133 R) fun d7=>?_
     refine Ob (Tn101 (by first|omega|(simp only[List.length_nil]at *;omega)) F) fun d8 b5=>?_
     exact .mk ⟨B,by dsimp only;omega⟩
    .obtain ⟨S,T⟩:=q1204
     dsimp only at f k
     simp only[f,nf]
     exact .mk (by dsimp only;omega)
    exact .mk ⟨A,by dsimp only;omega⟩
   .obtain ⟨d2,E⟩:=q1190
    dsimp only at e j
    simp only[e,nf]
    exact .mk (by dsimp only;omega)
   exact .mk ⟨z,by dsimp only;omega⟩
  .obtain ⟨d1,D⟩:=q1176
   dsimp only at d h
   simp only[d,nf]
   exact .mk (by dsimp only;omega)
  exact .mk ⟨y,by dsimp only;omega⟩
 .obtain ⟨d0,C⟩:=q1162
  dsimp only at c g
  simp only[c,nf]
  exact .mk (by dsimp only;omega)
 exact .mk (by omega)
theorem Tn69 {b:List Zv} {f:Z0} {i:Int} (g:b.length+3000<=1000000) (a:f.sm):Ok (Fn69 b f i) (fun v=>b.length<=v.length/\v.length<=b.length+3000):=by
 unfold Fn69
 refine Ob (T52 a) fun n h=>?_
 refine Ob (P:=fun _=>True) (eI (fun q=>q.1) n (fun _=>True) h (by decide) trivial (fun q _ h1 h2=>?_)) fun m _=>?_
 .obtain ⟨x,l⟩:=q
  dsimp only at h1 h2 ⊢
  refine Oi (fun hc=>?_) (fun _=>.mk trivial)
  simp only[decide_eq_true_eq]at hc
  refine Ob (P:=fun _=>True) (eI (fun q=>q.1) 2 (fun _=>True) (by decide) (by dsimp only;omega) trivial (fun q _ c g2=>?_)) fun m _=>.mk ⟨hc,h2 hc,trivial⟩
  obtain⟨y,l⟩:=q
  dsimp only at c g2 ⊢
  refine Oi (fun hd=>?_) (fun _=>.mk trivial)
  simp only[decide_eq_true_eq]at hd
  refine Ob (P:=fun _=>True) (eI (fun q=>q.1) 4 (fun _=>True) (by decide) (by dsimp only;omega) trivial (fun q _ d e=>?_)) fun m _=>.mk ⟨hd,g2 hd,trivial⟩
  obtain⟨z,l⟩:=q
  dsimp only at d e ⊢
  refine Oi (fun he=>?_) (fun _=>.mk trivial)
  simp only[decide_eq_true_eq]at he
  exact Ob (Tn132 (by omega) a h1 c d) fun m _=>.mk ⟨he,e he,trivial⟩
 .exact Ob (Tn117_4 (by omega) a) fun v hv=>.mk (by omega)
theorem Tn56_2 {a:Z0} (b:a.sm):Ok (Fn56_2 a) (fun _=>True):=by
 unfold Fn56_2
 exact .mk trivial
theorem Ty30_13 {e f:Int} {g h:Int} {i j k:Int} {c:Zj} {l:Bool} {a:Zp} {b:Zz} (d:c.sm):Ok (Fy30_13 e f g h i j k c l a b) (fun _=>True):=by
 unfold Fy30_13
 refine Oi (fun c1209=>?_) (fun c1209=>?_)
 .exact .mk trivial
 exact .mk trivial
theorem Ty30_13_2 {c d:Int} {e f:Int} {g h i:Int} {j:Zf} {k:Bool} {a:Zp} {b:Zz}:Ok (Fy30_13_2 c d e f g h i j k a b) (fun _=>True):=by
 unfold Fy30_13_2
 refine Oi (fun c1210=>?_) (fun c1210=>?_)
 .exact .mk trivial
 exact .mk trivial
theorem Ty30_13_3 {e f:Int} {g h:Int} {i j k:Int} {c:Zm} {l:Bool} {a:Zp} {b:Zz} (d:c.sm):Ok (Fy30_13_3 e f g h i j k c l a b) (fun _=>True):=by
 unfold Fy30_13_3
 refine Oi (fun c1211=>?_) (fun c1211=>?_)
 .exact .mk trivial
 exact .mk trivial
theorem Ty30_13_4 {e f:Int} {g h:Int} {i j k:Int} {c:Ze} {l:Bool} {a:Zp} {b:Zz} (d:c.sm):Ok (Fy30_13_4 e f g h i j k c l a b) (fun _=>True):=by
 unfold Fy30_13_4
 refine Oi (fun c1212=>?_) (fun c1212=>?_)
 .exact .mk trivial
 exact .mk trivial
theorem Ty30_13_5 {c d:Int} {e f:Int} {g h i:Int} {j:Zn} {k:Bool} {a:Zp} {b:Zz}:Ok (Fy30_13_5 c d e f g h i j k a b) (fun _=>True):=by
 unfold Fy30_13_5
 refine Oi (fun c1213=>?_) (fun c1213=>?_)
 .exact .mk trivial
 exact .mk trivial
theorem Tn100_2 {m:Z0} {Y:Bool} {Z:Zp} {x4:Zz} (g:m.sm):Ok (Fn100_2 m Y Z x4) (fun v=>match v with|.inl p=>p.Kind=4->0<=p.Event/\m.pl p.Measure p.Staff p.Voice|.inr _=>True):=by
 unfold Fn100_2
 have hP:=g.Parts
 have hM:=g.Measures
 have V:=g.Spanners
 refine Ob (P:=fun r=>match r with|.inl p=>p.1≠4|.inr _=>True) (aP (l:=m.Parts) (fun q=>q.2) (fun _ _=>True) (by omega) rfl trivial (fun i e q E C hi hl _ hg hw=>?_) (fun q hi _=>?_)) fun r hr=>?_
 .obtain ⟨s,x⟩:=q
  dsimp only at hi hl hg hw
  simp only[hl,hg,nt]
  refine Ob (Ty30_13 (g.PartsE e C)) fun r _=>?_
  rcases r with _|_
  .exact .mk (show(1:Int)≠4 by decide)
  have V:=(g.PartsE e C).Staves
  refine Ob (P:=fun _=>True) (aP (l:=e.Staves) (fun q=>q.2) (fun _ _=>True) (by omega) rfl trivial (fun i2 e2 q X W G B _ o D=>?_) (fun q hi _=>?_)) fun r _=>?_
  .obtain ⟨s,y⟩:=q
   dsimp only at G B o D
   simp only[B,o,nt]
   refine Ob Ty30_13_2 fun r _=>?_
   rcases r with _|_
   .exact .mk trivial
   .exact .mk ⟨D,trivial⟩
  .obtain ⟨s,y⟩:=q
   dsimp only at hi
   simp only[hi,nf]
   exact .mk trivial
  rcases r with⟨a,b⟩|a
  .exact .mk (show(2:Int)≠4 by decide)
  .exact .mk ⟨hw,trivial⟩
 .obtain ⟨s,y⟩:=q
  dsimp only at hi
  simp only[hi,nf]
  exact .mk trivial
 rcases r with⟨k,p,st⟩|_
 .exact .mk (fun h=>absurd h hr)
 refine Ob (P:=fun r=>match r with|.inl p=>p.1=4->0<=p.2.2.2.2/\m.pl p.2.2.1 p.2.1 p.2.2.2.1|.inr _=>True) (aP (l:=m.Measures) (fun q=>q) (fun _ _=>True) (by omega) rfl trivial (fun i e q E C hi hl _ hg hw=>?_) (fun q hi _=>?_)) fun r hr=>?_
 .simp only[hl,hg,nt]
  have S:=g.MeasuresE e C
  have hC:=S.Cells
  refine Ob (Ty30_13_3 S) fun r _=>?_
  rcases r with _|_
  .exact .mk (fun h=>absurd (show(3:Int)=4 from h) (by decide))
  refine Ob (P:=fun r=>match r with|.inl p=>0<=p.2.2/\m.pl q p.1 p.2.1|.inr _=>True) (aP (l:=e.Cells) (fun q=>q) (fun _ _=>True) (by omega) rfl trivial (fun j c w E K hj hlc _ z N=>?_) (fun q hi _=>?_)) fun r hr=>?_
  .simp only[hlc,z,nt]
   have T:=S.CellsE c K
   have hV:=T.Voices
   refine Ob (P:=fun r=>match r with|.inl p=>0<=p.2/\m.pl q w p.1|.inr _=>True) (aP (l:=c.Voices) (fun q=>q) (fun _ _=>True) (by omega) rfl trivial (fun k v u E M hk J _ A R=>?_) (fun q hi _=>?_)) fun r hr=>?_
   .simp only[J,A,nt]
    have U:=T.VoicesE v M
    have hE:=U.Events
    refine Ob (P:=fun r=>match r with|.inl x=>0<=x|.inr _=>True) (aP (l:=v.Events) (fun q=>q) (fun _ _=>True) (by omega) rfl trivial (fun n ev t E L ht H _ F O=>?_) (fun q hi _=>?_)) fun r hr=>?_
    .simp only[H,F,nt]
     refine Ob (Ty30_13_4 (U.EventsE ev L)) fun r _=>?_
     rcases r with _|_
     .exact .mk (show(0:Int)<=t by omega)
     .exact .mk ⟨O,trivial⟩
    .simp only[hi,nf]
     exact .mk trivial
    rcases r with x|_
    .exact .mk ⟨hr,e,c,v,hg,z,A⟩
    .exact .mk ⟨R,trivial⟩
   .simp only[hi,nf]
    exact .mk trivial
   rcases r with⟨a,b⟩|_
   .exact .mk hr
   .exact .mk ⟨N,trivial⟩
  .simp only[hi,nf]
   exact .mk trivial
  rcases r with⟨a,b,c⟩|_
  .exact .mk (fun _=>hr)
  .exact .mk ⟨hw,trivial⟩
 .simp only[hi,nf]
  exact .mk trivial
 rcases r with⟨a,b,c,d,f⟩|_
 .exact .mk hr
 refine Ob (P:=fun _=>True) (aP (l:=m.Spanners) (fun q=>q) (fun _ _=>True) (by omega) rfl trivial (fun i e q E C hi hl _ hg hw=>?_) (fun q hi _=>?_)) fun r hr=>?_
 .simp only[hl,hg,nt]
  refine Ob Ty30_13_5 fun r _=>?_
  rcases r with _|_
  .exact .mk trivial
  .exact .mk ⟨hw,trivial⟩
 .simp only[hi,nf]
  exact .mk trivial
 rcases r with x|_
 .exact .mk (fun h=>absurd (show(5:Int)=4 from h) (by decide))
 .exact .mk trivial
theorem T30 {b:Z0} {c:Zz} (a:b.sm):Ok (F30 b c) (fun v=>v.2=true->v.1.Kind=4->0<=v.1.Event/\b.pl v.1.Measure v.1.Staff v.1.Voice):=by
 unfold F30
 refine Oi (fun _=>.mk (fun h=>by cases h)) (fun _=>?_)
 refine Ob (Tn56_2 a) fun _ _=>?_
 refine Ob (Tn100_2 a) fun r hr=>?_
 rcases r with p|_
 .exact .mk (fun _=>hr)
 .exact .mk (fun h=>by cases h)
theorem T217 {a:List Int} (c:a.length<=20):Ok (F217 a) (fun _=>True):=by
 unfold F217
 refine Ob (lF (by omega) (by omega) (by omega)) fun h h2=>?_
 refine Ob (P:=fun v=>v.length=a.length) (eI (fun q=>q.1) (a.length:Int) (fun q=>q.2.length=a.length) (by omega) (by dsimp only;omega) (by rw[h2];simp) (fun q b h1 h2=>?_)) fun v hv=>.mk trivial
 obtain⟨i,l⟩:=q
 dsimp only at b h1 h2 ⊢
 refine Oi (fun hc=>?_) (fun _=>.mk b)
 simp only[decide_eq_true_eq]at hc
 rw[aV (n:=i-1) (by omega) (by omega)]
 refine Ob (bN (by omega) (by omega)) fun j e=>?_
 refine Ob (bR (by omega)) fun x _=>?_
 refine Ob (bE (Q:=fun _=>True) (by omega) (by omega) (fun _ _ _=>trivial)) fun y _=>?_
 refine Ob (bN (by omega) (by omega)) fun g d=>?_
 exact Ob (aO1 (by omega)) fun m f=>.mk ⟨hc,h2 hc,by dsimp only;omega⟩
theorem T159 {c:Zo} {d:Int} (b:c.sm):Ok (F159 c d) (fun _=>True):=by
 unfold F159
 refine Ob (T216 b) fun⟨e,f⟩ a=>?_
 try dsimp only at a
 refine Oi (fun c1215=>?_) (fun c1215=>?_)
 .exact .mk trivial
 refine obT (T217 a) fun g=>?_
 exact .mk trivial
theorem T195 {i:Zk} {k:Zz} (c:i.s'.sm):Ok (F195 i k) (fun _=>True):=by
 unfold F195
 refine Ob (T30 c) fun⟨p,f⟩ hp=>?_
 dsimp only at hp
 refine Oi (fun _=>.mk trivial) (fun hc=>?_)
 simp only[Bool.or_eq_true,not_or,Bool.not_eq_true',Bool.not_eq_false,bne_iff_ne,ne_eq,Decidable.not_not]at hc
 obtain⟨h0,x,y,z,d,hy,g⟩:=hp hc.1 hc.2
 simp only[d,hy,g,Option.bind_some]
 have h:=c.MeasuresE x (bJ d).2.2.1
 have j:=(h.CellsE y (bJ hy).2.2.1).VoicesE z (bJ g).2.2.1
 refine Ob (T94 h) fun⟨a,b⟩ _=>?_
 refine Ob (T159 j) fun⟨on,e⟩ _=>?_
 refine Oi (fun _=>.mk trivial) (fun hd=>?_)
 simp only[decide_eq_true_eq]at hd
 exact Ob (bE (Q:=fun _=>True) h0 (by dsimp only at hd ⊢;omega) (fun _ _ _=>trivial)) fun w _=>.mk trivial
theorem T250 {a b:Int}:Ok (F250 a b) (fun _=>True):=by
 unfold F250
 exact .mk trivial
theorem T236 {g:Zq}:Ok (F236 g) (fun _=>True):=by
 unfold F236
 refine obT (T250) fun i=>?_
 refine Ob (P:=fun r=>r=true->i=true) ?_ fun j a=>?_
 .refine Oi (fun c1219=>?_) (fun _=>.mk (fun h=>by cases h))
  refine obT (T250) fun l=>?_
  exact .mk (fun _=>c1219)
 refine Ob (P:=fun r=>r=true->j=true) ?_ fun k b=>?_
 .refine Oi (fun c1222=>?_) (fun _=>.mk (fun h=>by cases h))
  have e:=a c1222
  refine obT (T250) fun m=>?_
  exact .mk (fun _=>c1222)
 refine Ob (P:=fun r=>r=true->k=true) ?_ fun o d=>?_
 .refine Oi (fun c1226=>?_) (fun _=>.mk (fun h=>by cases h))
  have c:=b c1226
  have f:=a c
  refine obT (T250) fun n=>?_
  exact .mk (fun _=>c1226)
 exact .mk trivial
theorem T237 {a:Int}:Ok (F237 a) (fun _=>True):=by
 unfold F237
 exact .mk trivial
theorem T220 {a:Int}:Ok (F220 a) (fun _=>True):=by
 unfold F220
 exact .mk trivial
theorem T164 {a b:Int}:Ok (F164 a b) (fun _=>True):=by
 unfold F164
 refine obT (T220) fun c=>?_
 refine obT (T220) fun d=>?_
 refine Oi (fun c1232=>?_) (fun c1232=>?_)
 .refine Oi (fun c1233=>?_) (fun c1233=>?_)
  .exact .mk trivial
  exact .mk trivial
 refine Oi (fun c1234=>?_) (fun c1234=>?_)
 .exact .mk trivial
 refine Oi (fun c1235=>?_) (fun c1235=>?_)
 .exact .mk trivial
 refine Oi (fun c1236=>?_) (fun c1236=>?_)
 .exact .mk trivial
 exact .mk trivial
theorem T163 {j:List Int} (e:j.length<=20):Ok (F163 j) (fun _=>True):=by
 unfold F163
 have g:=e
 refine lpT (l:=j) (fun q=>q) (Nat.lt_of_le_of_lt e (by decide)) rfl (fun i h k f a c b d=>?_) (fun k a=>?_) fun m=>?_
 .simp only[c,b,nt]
  refine Oi (fun c1248=>?_) (fun c1248=>?_)
  .exact .mk trivial
  exact .mk d
 .simp only[a,nf]
  exact .mk trivial
 rcases m with n|_
 .exact .mk trivial
 .exact .mk trivial
theorem T238 {a b:Zq}:Ok (F238 a b) (fun _=>True):=by
 unfold F238
 refine obT (T164) fun c=>?_
 refine obT (T164) fun d=>?_
 refine obT (T163 (by simp)) fun e=>?_
 exact .mk trivial
theorem T196 {e:Zs}:Ok (F196 e) (fun _=>True):=by
 unfold F196
 refine Oi (fun c1252=>?_) (fun c1252=>?_)
 .exact .mk trivial
 refine obT (T236) fun f=>?_
 refine Ob (P:=fun r=>¬r=true->¬(!f)=true) ?_ fun i a=>?_
 .refine Oi (fun _=>.mk (fun h=>absurd rfl h)) (fun c1255=>?_)
  refine obT (T236) fun g=>?_
  exact .mk (fun _=>c1255)
 refine Oi (fun c1257=>?_) (fun c1257=>?_)
 .exact .mk trivial
 have c:=a c1257
 refine Ob (P:=fun r=>¬r=true->¬(e.From.Staff !=e.To.Staff)=true) ?_ fun k b=>?_
 .refine Oi (fun _=>.mk (fun h=>absurd rfl h)) (fun c1260=>?_)
  refine obT (T237) fun j=>?_
  exact .mk (fun _=>c1260)
 refine Oi (fun c1262=>?_) (fun c1262=>?_)
 .exact .mk trivial
 have d:=b c1262
 refine obT (T238) fun l=>?_
 refine Oi (fun c1265=>?_) (fun c1265=>?_)
 .exact .mk trivial
 exact .mk trivial
theorem Tn134 {j:List Zv} {d:Z0} {m:Int} (k:j.length+0<=1000000) (c:d.sm):Ok (Fn134 j d m) (fun v=>v.1.length=d.Spanners.length/\v.2.length=d.Spanners.length):=by
 unfold Fn134
 have p:=c.Spanners
 refine Ob (P:=fun v=>v.1.length=d.Spanners.length/\v.2.length=d.Spanners.length) (aP (l:=d.Spanners) (fun q=>q.1) (fun i q=>q.2.1.length=i/\q.2.2.length=i) (by omega) rfl ⟨rfl,rfl⟩ (fun i e q s r hi hl f hg hw=>?_) (fun q hi f=>?_)) fun⟨a,b⟩ hv=>.mk hv
 .obtain ⟨x,g,h⟩:=q
  dsimp only at hi hl f hg hw
  simp only[hl,hg,nt]
  refine Ob (T195 c) fun⟨p1,n⟩ _=>?_
  refine Ob (T195 c) fun⟨p2,o⟩ _=>?_
  refine Ob (bX (Q:=fun v=>v.length=h.length+1) (by omega) (by simp)) fun t h1=>?_
  refine Ob (P:=fun _=>True) (Oi (fun _=>.mk trivial) (fun _=>Ob T196 fun _ _=>.mk trivial)) fun b _=>?_
  exact Ob (bX (Q:=fun v=>v.length=g.length+1) (by omega) (by simp)) fun u h2=>.mk ⟨hw,by dsimp only;omega,by dsimp only;omega⟩
 .obtain ⟨x,g,h⟩:=q
  dsimp only at hi f
  simp only[hi,nf]
  exact .mk f
theorem Tn70 {c:List Zv} {h:Z0} {n:Int} (k:c.length+10<=1000000) (d:h.sm):Ok (Fn70 c h n) (fun v=>c.length<=v.length/\v.length<=c.length+10):=by
 unfold Fn70
 have o:=d.Spanners
 refine Ob (Tn134 (by omega) d) fun⟨a,b⟩ g=>?_
 dsimp only at g
 refine Ob (P:=fun v=>c.length<=v.length/\v.length<=c.length+10) (aP (l:=h.Spanners) (fun q=>q.1) (fun i q=>c.length<=q.2.length/\q.2.length<=c.length+i) (by omega) rfl (by dsimp only;omega) (fun i e q r p hi hl f hg hw=>?_) (fun q hi f=>?_)) fun v hv=>.mk (by omega)
 .obtain ⟨x,l⟩:=q
  dsimp only at hi hl f hg hw
  simp only[hl,hg,nt]
  refine Ob (bN (by omega) (by omega)) fun j m=>?_
  refine Ob (bR m.2) fun y _=>?_
  exact Ob (Tn101 (by omega) d) fun v hv=>.mk ⟨hw,by dsimp only;omega⟩
 .obtain ⟨x,l⟩:=q
  dsimp only at hi f
  simp only[hi,nf]
  exact .mk (by omega)
theorem T239 {b:Int}:Ok (F239 b) (fun v=>v>0->1<=b/\b<=7):=by
 unfold F239
 refine Oi (fun c1266=>?_) (fun c1266=>?_)
 .exact .mk (by omega)
 refine Ob (bE (Q:=fun _=>True) (by(simp only[nm]at *;rw[aV (by omega) (by omega)];omega)) (by(simp only[nm,nl]at *;rw[aV (by omega) (by omega)];omega)) (fun _ _ _=>trivial)) fun c a=>?_
 exact .mk (by(simp only[nm]at *;omega))
theorem T197 {a c:Zs}:Ok (F197 a c) (fun v=>v=true->1<=a.Kind/\a.Kind<=7):=by
 unfold F197
 refine Ob T239 fun f hf=>?_
 refine Ob (P:=fun r=>r=true->1<=a.Kind/\a.Kind<=7) (Oi (fun hc=>?_) (fun _=>.mk (fun h=>by cases h))) fun b hb=>?_
 .simp only[decide_eq_true_eq]at hc
  have:=hf hc
  exact Ob T239 fun _ _=>Ob T239 fun _ _=>.mk (fun _=>this)
 refine Ob (P:=fun r=>r=true->1<=a.Kind/\a.Kind<=7) (Oi (fun hc=>?_) (fun _=>.mk (fun h=>by cases h))) fun b hb=>.mk hb
 simp only[Bool.and_eq_true]at hc
 have:=hb hc.1
 exact Ob T237 fun _ _=>.mk (fun _=>this)
theorem T201 {b c:Zs}:Ok (F201 b c) (fun _=>True):=by
 unfold F201
 refine obT (T238) fun d=>?_
 refine Ob (P:=fun r=>¬r=true->¬(decide (d<0))=true) ?_ fun f a=>?_
 .refine Oi (fun _=>.mk (fun h=>absurd rfl h)) (fun c1270=>?_)
  refine obT (T238) fun e=>?_
  exact .mk (fun _=>c1270)
 exact .mk trivial
theorem T200 {a b:Zs}:Ok (F200 a b) (fun _=>True):=by
 unfold F200
 refine obT (T201) fun c=>?_
 exact .mk trivial
theorem T199 {b c:Zs}:Ok (F199 b c) (fun _=>True):=by
 unfold F199
 refine obT (T238) fun d=>?_
 refine Ob (P:=fun r=>¬r=true->¬(decide (d<=0))=true) ?_ fun f a=>?_
 .refine Oi (fun _=>.mk (fun h=>absurd rfl h)) (fun c1275=>?_)
  refine obT (T238) fun e=>?_
  exact .mk (fun _=>c1275)
 exact .mk trivial
theorem T198 {a b:Zs}:Ok (F198 a b) (fun _=>True):=by
 unfold F198
 refine obT (T199) fun c=>?_
 exact .mk trivial
theorem T240 {b c:Zs}:Ok (F240 b c) (fun _=>True):=by
 unfold F240
 refine obT (T238) fun d=>?_
 refine Ob (P:=fun r=>r=true->(decide (d>=0))=true) ?_ fun f a=>?_
 .refine Oi (fun c1280=>?_) (fun _=>.mk (fun h=>by cases h))
  refine obT (T238) fun e=>?_
  exact .mk (fun _=>c1280)
 exact .mk trivial
theorem T202 {b c:Zs}:Ok (F202 b c) (fun _=>True):=by
 unfold F202
 refine obT (T199) fun d=>?_
 refine Ob (P:=fun r=>r=true->(!d)=true) ?_ fun g a=>?_
 .refine Oi (fun c1284=>?_) (fun _=>.mk (fun h=>by cases h))
  refine obT (T240) fun e=>?_
  refine obT (T240) fun f=>?_
  exact .mk (fun _=>c1284)
 exact .mk trivial
theorem T135 {a f:Zs}:Ok (F135 a f) (fun _=>True):=by
 unfold F135
 refine Ob T197 fun g hg=>?_
 refine Oi (fun _=>.mk trivial) (fun hc=>?_)
 have hk:=hg (by simpa using hc)
 rw[aV (n:=a.Kind-1) (by omega) (by omega)]
 refine Oi (fun _=>Ob T200 fun _ _=>.mk trivial) (fun e=>?_)
 refine Oi (fun _=>Ob T198 fun _ _=>.mk trivial) (fun d=>?_)
 refine Oi (fun _=>Ob T200 fun _ _=>.mk trivial) (fun c=>?_)
 refine Oi (fun _=>Ob T200 fun _ _=>.mk trivial) (fun b=>?_)
 refine Oi (fun _=>Ob T198 fun _ _=>.mk trivial) (fun h2=>?_)
 refine Oi (fun _=>Ob T198 fun _ _=>.mk trivial) (fun h1=>?_)
 refine Oi (fun _=>Ob T202 fun _ _=>.mk trivial) (fun h0=>?_)
 simp only[beq_iff_eq]at h0 h1 h2 b c d e
 omega
theorem Tn71 {c:List Zv} {o:Z0} {s:Int} (p:c.length+10<=1000000) (d:o.sm):Ok (Fn71 c o s) (fun v=>c.length<=v.length/\v.length<=c.length+10):=by
 unfold Fn71
 have t:=d.Spanners
 refine Ob (Tn134 (by omega) d) fun⟨a,b⟩ m=>?_
 dsimp only at m
 refine Ob (P:=fun v=>c.length<=v.length/\v.length<=c.length+10) (aP (l:=o.Spanners) (fun q=>q.1) (fun i q=>c.length<=q.2.length/\q.2.length<=c.length+i) (by omega) rfl (by dsimp only;omega) (fun i e q w u hi hl g hg hw=>?_) (fun q hi g=>?_)) fun v hv=>.mk (by omega)
 .obtain ⟨x,l⟩:=q
  dsimp only at hi hl g hg hw
  simp only[hl,hg,nt]
  refine Ob (P:=fun _=>True) (eI (fun q=>q.2) x (fun _=>True) (by omega) (by dsimp only;omega) trivial (fun q _ h1 h2=>?_)) fun b _=>?_
  .obtain ⟨ex,k⟩:=q
   dsimp only at h1 h2 ⊢
   refine Ob (P:=fun r=>r=true->k<x) (Oi (fun hc=>?_) (fun _=>.mk (fun h=>by cases h))) fun b hb=>?_
   .simp only[decide_eq_true_eq]at hc
    exact Ob (bN (by omega) (by omega)) fun j f=>Ob (bR f.2) fun y _=>.mk (fun _=>hc)
   refine Oi (fun hc=>?_) (fun _=>.mk trivial)
   simp only[Bool.and_eq_true]at hc
   have hk:=hb hc.1
   refine Ob (bN (by omega) (by omega)) fun j f=>Ob (bR f.2) fun y _=>?_
   refine Ob (P:=fun _=>True) (Oi (fun _=>?_) (fun _=>.mk trivial)) fun b _=>.mk ⟨hk,h2 hk,trivial⟩
   exact Ob (bN (by omega) (by omega)) fun j f=>Ob (bR f.2) fun A _=>Ob (bN (by omega) (by omega)) fun z n=>Ob (bR n.2) fun B _=>Ob T135 fun b _=>.mk trivial
  exact Ob (Tn101 (by omega) d) fun v hv=>.mk ⟨hw,by dsimp only;omega⟩
 .obtain ⟨x,l⟩:=q
  dsimp only at hi g
  simp only[hi,nf]
  exact .mk (by omega)
theorem T136 {d:Int} {a:Zm} (c:a.sm):Ok (F136 d a) (fun v=>v=false->a.RepeatEnd<=8):=by
 unfold F136
 simp only[E103,Option.bind_some]
 refine Ob (P:=fun r=>r=false->a.RepeatEnd<=8) (Oi (fun hc=>.mk (fun h=>?_)) (fun hc=>.mk (fun _=>?_))) fun b hb=>?_
 .simp at h;omega
 .simp at hc;omega
 exact Ob (P:=fun r=>r=false->a.RepeatEnd<=8) (Oi (fun hc=>.mk (fun h=>by cases h)) (fun hc=>.mk (fun _=>hb (by simpa using hc)))) fun b hb=>.mk hb
theorem Tn108_6 {a:List Zv} {d:Z0} {s:Int} (p:a.length+10<=1000000) (f:d.sm):Ok (Fn108_6 a d s) (fun v=>(a.length<=v.length/\v.length<=a.length+10)/\(v.length<=a.length->∀m∈d.Measures,m.RepeatEnd<=8)):=by
 unfold Fn108_6
 have t:=f.Measures
 refine Ob (P:=fun v=>(a.length<=v.length/\v.length<=a.length+10)/\(v.length<=a.length->∀m∈d.Measures,m.RepeatEnd<=8)) (aP (l:=d.Measures) (fun q=>q.1) (fun i q=>q.2.length<=a.length+i/\a.length<=q.2.length/\(q.2.length<=a.length->∀j,j<i->∀m,d.Measures[j]? =some m->m.RepeatEnd<=8)) (by omega) rfl ⟨by dsimp only;omega,Nat.le_refl _,fun _ j k=>by omega⟩ (fun i e q r o hi hl g hg hw=>?_) (fun q hi g=>?_)) fun v hv=>.mk hv
 .obtain ⟨x,l⟩:=q
  dsimp only at hi hl g hg hw
  simp only[hl,hg,nt]
  refine Ob (T136 (f.MeasuresE e o)) fun b hb=>?_
  refine Ob (S101 (by omega)) fun v hv=>.mk ⟨hw,?_,?_,fun h j k m c=>?_⟩
  .dsimp only;cases b<;>simp at hv<;>omega
  .dsimp only;cases b<;>simp at hv<;>omega
  .dsimp only at h
   cases b with
   |true=>simp at hv;omega
   |false=>
    simp only[Bool.false_eq_true,false_implies,forall_const,true_and]at hv
    by_cases n:j=i
    .subst n;rw[r]at c;cases c;exact hb rfl
    .exact g.2.2 (by omega) j (by omega) m c
 .obtain ⟨x,l⟩:=q
  dsimp only at hi g
  simp only[hi,nf]
  refine .mk ⟨⟨by omega,by omega⟩,fun h m o=>?_⟩
  obtain⟨j,k⟩:=List.mem_iff_getElem?.1 o
  exact g.2.2 h j (List.getElem?_eq_some_iff.1 k).1 m k
theorem T252 {e:Int}:Ok (F252 e) (fun v=>0<=v/\v<=1000):=by
 unfold F252
 refine Ob (P:=fun v=>0<=v.2/\v.2<=32) (Oi (fun _=>Ob (mZ (by decide)) fun n _=>.mk (by dsimp only;omega)) (fun _=>.mk (by dsimp only;omega))) fun⟨h,i⟩ c=>?_
 dsimp only at c
 refine Ob (P:=fun v=>0<=v.2/\v.2<=48) (Oi (fun _=>Ob (mZ (by decide)) fun n _=>.mk (by dsimp only;rw[aV (by omega) (by omega)];omega)) (fun _=>.mk (by dsimp only;omega))) fun⟨j,k⟩ d=>?_
 dsimp only at d
 refine Ob (P:=fun v=>0<=v.2/\v.2<=56) (Oi (fun _=>Ob (mZ (by decide)) fun n _=>.mk (by dsimp only;rw[aV (by omega) (by omega)];omega)) (fun _=>.mk (by dsimp only;omega))) fun⟨g,f⟩ a=>?_
 dsimp only at a
 have hw:=iK1 g
 refine Ob (nA hw.1 hw.2) fun b hb=>.mk ?_
 rw[aV (n:=b) (by omega) (by omega),aV (by omega) (by omega)]
 omega
theorem T241 {b:Int}:Ok (F241 b) (fun v=>0<=v/\v<=1000):=by
 unfold F241
 refine Ob (T252) fun c a=>?_
 exact .mk (by omega)
theorem T138 {c:Zg} (d:c.passes<=1000):Ok (F138 c) (fun _=>True):=by
 unfold F138
 refine Ob (P:=fun r=>r=true->(decide (c.passes>0))=true) ?_ fun f a=>?_
 .refine Oi (fun c1289=>?_) (fun _=>.mk (fun h=>by cases h))
  refine Ob (aN1 (by(simp only[nm]at *;rw[aV (by omega) (by omega)];omega))) fun e b=>?_
  exact .mk (fun _=>c1289)
 exact .mk trivial
theorem T203 {a:Zg} {f:Zm} (x:f.sm) (G:a.passes<=8) (hy:f.RepeatEnd<=8):Ok (F203 a f) (fun v=>v.1.passes<=8):=by
 unfold F203
 refine Oi (fun c1291=>?_) (fun c1291=>?_)
 .exact .mk (by omega)
 refine Oi (fun c1292=>?_) (fun c1292=>?_)
 .refine Oi (fun c1293=>?_) (fun c1293=>?_)
  .exact .mk (by omega)
  refine Ob (T241) fun w g=>?_
  refine Oi (fun c1295=>?_) (fun c1295=>?_)
  .refine Oi (fun c1296=>?_) (fun c1296=>?_)
   .exact .mk (by omega)
   refine Oi (fun c1297=>?_) (fun c1297=>?_)
   .refine obT (T138 (by(simp only[nm]at *;omega))) fun E=>?_
    refine Ob (P:=fun r=>¬r=true->¬(E||((a.passes !=0)&&(f.RepeatEnd !=a.passes)))=true) ?_ fun J b=>?_
    .refine Oi (fun _=>.mk (fun h=>absurd rfl h)) (fun c1300=>?_)
     refine Ob (T241) fun H i=>?_
     exact .mk (fun _=>c1300)
    refine Oi (fun c1302=>?_) (fun c1302=>?_)
    .exact .mk (by omega)
    have o:=b c1302
    exact .mk (by omega)
   exact .mk (by omega)
  refine Ob (P:=fun r=>¬r=true->¬(decide ((w64 (w-1))>=a.passes))=true) ?_ fun z c=>?_
  .refine Oi (fun _=>.mk (fun h=>absurd rfl h)) (fun c1305=>?_)
   refine Ob (P:=fun r=>r=true->((w64 (w-1))==(w64 (a.passes-1)))=true) ?_ fun y j=>?_
   .refine Oi (fun c1307=>?_) (fun _=>.mk (fun h=>by cases h))
    refine obT (T138 (by(simp only[nm]at *;omega))) fun F=>?_
    refine Ob (P:=fun r=>¬r=true->¬(!F)=true) ?_ fun L k=>?_
    .refine Oi (fun _=>.mk (fun h=>absurd rfl h)) (fun c1310=>?_)
     refine Ob (aN1 (by(simp(disch:=omega) only[aV,nm]at *;omega))) fun K l=>?_
     exact .mk (fun _=>c1310)
    exact .mk (fun _=>c1307)
   exact .mk (fun _=>c1305)
  refine Oi (fun c1312=>?_) (fun c1312=>?_)
  .exact .mk (by omega)
  have p:=c c1312
  refine Oi (fun c1314=>?_) (fun c1314=>?_)
  .refine obT (T138 (by(simp only[nm]at *;omega))) fun t=>?_
   refine Ob (P:=fun r=>¬r=true->¬(t||((a.passes !=0)&&(f.RepeatEnd !=a.passes)))=true) ?_ fun B d=>?_
   .refine Oi (fun _=>.mk (fun h=>absurd rfl h)) (fun c1317=>?_)
    refine Ob (T241) fun A m=>?_
    exact .mk (fun _=>c1317)
   refine Oi (fun c1319=>?_) (fun c1319=>?_)
   .exact .mk (by omega)
   have q:=d c1319
   exact .mk (by omega)
  exact .mk (by omega)
 refine Oi (fun c1321=>?_) (fun c1321=>?_)
 .exact .mk (by omega)
 refine Oi (fun c1322=>?_) (fun c1322=>?_)
 .refine obT (T138 (by omega)) fun u=>?_
  refine Ob (P:=fun r=>¬r=true->¬(u||((a.passes !=0)&&(f.RepeatEnd !=a.passes)))=true) ?_ fun D e=>?_
  .refine Oi (fun _=>.mk (fun h=>absurd rfl h)) (fun c1325=>?_)
   refine Ob (T241) fun C n=>?_
   exact .mk (fun _=>c1325)
  refine Oi (fun c1327=>?_) (fun c1327=>?_)
  .exact .mk (by omega)
  have s:=e c1327
  exact .mk (by omega)
 exact .mk (by omega)
theorem T137 {i:Zg} {e:Zm} (d:e.sm) (c:i.passes<=8) (hy:e.RepeatEnd<=8):Ok (F137 i e) (fun v=>v.1.passes<=8):=by
 unfold F137
 refine Oi (fun _=>Ob (T203 d c hy) fun⟨a,b⟩ h=>.mk h) (fun _=>?_)
 refine Oi (fun _=>?_) (fun _=>?_)
 .refine Ob (T138 (by omega)) fun f _=>?_
  refine Oi (fun _=>.mk c) (fun _=>?_)
  refine Oi (fun _=>Oi (fun h=>by cases h) (fun _=>?_)) (fun _=>?_)
  .exact Ob (P:=fun _=>True) (Oi (fun _=>.mk trivial) (fun _=>.mk trivial)) fun⟨a,b⟩ _=>.mk (show(0:Int)<=8 by decide)
  .exact Ob (P:=fun _=>True) (Oi (fun _=>.mk trivial) (fun _=>.mk trivial)) fun a _=>.mk (show(0:Int)<=8 by decide)
 .refine Oi (fun _=>Oi (fun _=>.mk c) (fun _=>?_)) (fun _=>?_)
  .exact Ob (P:=fun _=>True) (Oi (fun _=>.mk trivial) (fun _=>.mk trivial)) fun⟨a,b⟩ _=>.mk (show(0:Int)<=8 by decide)
  .exact Ob (P:=fun g=>g.passes<=8) (Oi (fun _=>.mk (show(0:Int)<=8 by decide)) (fun _=>.mk c)) fun g hg=>.mk hg
theorem Tn72 {f:List Zv} {h:Z0} {u:Int} (n:f.length+21<=1000000) (c:h.sm) (t:0<h.Measures.length):Ok (Fn72 f h u) (fun v=>f.length<=v.length/\v.length<=f.length+21):=by
 unfold Fn72
 have w:=c.Measures
 refine Ob (Tn108_6 (by omega) c) fun m j=>?_
 refine Oi (fun _=>.mk (by omega)) (fun hc=>?_)
 simp only[decide_eq_true_eq]at hc
 have s:=j.2 (by omega)
 have o:=j.1
 refine Ob (P:=fun r=>match r with|.inl p=>m.length<=p.2.length/\p.2.length<=m.length+1|.inr g=>g.passes<=8) (aP (l:=h.Measures) (fun q=>q.1) (fun i q=>q.2.passes<=8) (by omega) rfl (show(0:Int)<=8 by decide) (fun i e q t k hi hl d hg hw=>?_) (fun q hi d=>?_)) fun r hr=>?_
 .obtain ⟨x,g⟩:=q
  dsimp only at hi hl d hg hw
  simp only[hl,hg,nt]
  refine Ob (T137 (c.MeasuresE e k) d (s e k)) fun⟨g2,b⟩ hb=>?_
  refine Oi (fun _=>?_) (fun _=>.mk ⟨hw,hb⟩)
  exact Ob (Tn101 (by omega) c) fun v hv=>.mk (by dsimp only;omega)
 .obtain ⟨x,g⟩:=q
  dsimp only at hi d
  simp only[hi,nf]
  exact .mk d
 rcases r with⟨a,v⟩|g
 .exact .mk (by dsimp only at hr;omega)
 dsimp only at hr
 refine Ob (P:=fun _=>True) (Oi (fun _=>.mk trivial) (fun _=>?_)) fun b _=>?_
 .exact Ob (P:=fun _=>True) (Oi (fun _=>Ob (T138 (by omega)) fun _ _=>.mk trivial) (fun _=>.mk trivial)) fun _ _=>.mk trivial
 refine Ob (bE (Q:=fun _=>True) (by rw[aV (by omega) (by omega)];omega) (by rw[aV (by omega) (by omega)];omega) (fun _ _ _=>trivial)) fun y _=>?_
 exact Ob (Tn101 (by omega) c) fun v hv=>.mk (by omega)
theorem T140 {a b:Zm} (c:a.sm) (d:b.sm):Ok (F140 a b) (fun _=>True):=by
 unfold F140
 exact .mk trivial
theorem T204 {j:List Zm} {o:Zm} (g:j.length<=10) (h:∀y∈j,y.sm) (m:o.sm):Ok (F204 j o) (fun _=>True):=by
 unfold F204
 have i:=g
 refine lpT (l:=j) (fun q=>q) (Nat.lt_of_le_of_lt g (by decide)) rfl (fun n k p d a c b e=>?_) (fun p a=>?_) fun r=>?_
 .simp only[c,b,nt]
  have f:=h _ d
  refine obT (T140 f m) fun s=>?_
  refine Oi (fun c1342=>?_) (fun c1342=>?_)
  .exact .mk trivial
  exact .mk e
 .simp only[a,nf]
  exact .mk trivial
 rcases r with t|_
 .exact .mk trivial
 .exact .mk trivial
theorem T141 {d:List Zm} {e:Zm} (b:d.length<=10) (a:∀y∈d,y.sm) (c:e.sm):Ok (F141 d e) (fun _=>True):=by
 unfold F141
 refine obT (T204 b a c) fun f=>?_
 exact .mk trivial
theorem T242 {a:Zm} {c:Int} (b:a.sm):Ok (F242 a c) (fun _=>True):=by
 unfold F242
 exact .mk trivial
theorem T204_2 {j:List Zm} {n:Int} (g:j.length<=10) (h:∀y∈j,y.sm):Ok (F204_2 j n) (fun _=>True):=by
 unfold F204_2
 have i:=g
 refine lpT (l:=j) (fun q=>q) (Nat.lt_of_le_of_lt g (by decide)) rfl (fun m k o d a c b e=>?_) (fun o a=>?_) fun p=>?_
 .simp only[c,b,nt]
  have f:=h _ d
  refine obT (T242 f) fun r=>?_
  refine Oi (fun c1357=>?_) (fun c1357=>?_)
  .exact .mk trivial
  exact .mk e
 .simp only[a,nf]
  exact .mk trivial
 rcases p with s|_
 .exact .mk trivial
 .exact .mk trivial
theorem T206 {b:Zk} {c:Int} (a:b.s'.sm):Ok (F206 b c) (fun _=>True):=by
 unfold F206
 refine obT (T204_2 a.Measures a.MeasuresE) fun d=>?_
 exact .mk trivial
theorem T205 {c:Int} {b:Zk} {d:Int} (a:b.s'.sm):Ok (F205 c b d) (fun _=>True):=by
 unfold F205
 refine obT (T206 a) fun e=>?_
 refine obT (T103) fun f=>?_
 exact .mk trivial
theorem T142 {e:Zk} {f k:Int} (a:e.s'.sm):Ok (F142 e f k) (fun _=>True):=by
 unfold F142
 refine Ob (P:=fun r=>r=true->(decide (f>=4))=true) ?_ fun n b=>?_
 .refine Oi (fun c1362=>?_) (fun _=>.mk (fun h=>by cases h))
  refine obT (T205 a) fun m=>?_
  exact .mk (fun _=>c1362)
 refine Oi (fun c1364=>?_) (fun c1364=>?_)
 .have d:=b c1364
  exact .mk trivial
 refine obT ?_ fun o=>?_
 .refine Oi (fun c1367=>?_) (fun c1367=>?_)
  .exact .mk trivial
  exact .mk trivial
 refine Oi (fun c1368=>?_) (fun c1368=>?_)
 .refine obT (T205 a) fun p=>?_
  exact .mk trivial
 refine obT ?_ fun q=>?_
 .refine Oi (fun c1371=>?_) (fun c1371=>?_)
  .exact .mk trivial
  exact .mk trivial
 refine Oi (fun c1372=>?_) (fun c1372=>?_)
 .refine obT (T205 a) fun l=>?_
  refine Ob (P:=fun r=>r=true->l=true) ?_ fun j c=>?_
  .refine Oi (fun c1375=>?_) (fun _=>.mk (fun h=>by cases h))
   refine obT (T206 a) fun g=>?_
   refine obT (T206 a) fun i=>?_
   exact .mk (fun _=>c1375)
  exact .mk trivial
 exact .mk trivial
theorem T139 {e:Int} {h:Zm} {f:Zk} (d:h.sm) (a:f.s'.sm) (g:0<=e/\e<=(f.s'.Measures.length:Int)):Ok (F139 e h f) (fun _=>True):=by
 unfold F139
 refine Ob T103 fun w _=>?_
 refine Ob (P:=fun _=>True) (Oi (fun _=>.mk trivial) (fun _=>Ob T103 fun _ _=>.mk trivial)) fun b _=>?_
 refine Oi (fun _=>.mk trivial) (fun _=>?_)
 refine Ob (sN (by decide) g.1 g.2) fun l hl=>?_
 refine Ob (T141 (Nat.le_trans hl.1 a.Measures) (fun y hy=>a.MeasuresE y (hl.2 y hy)) d) fun c _=>?_
 exact Ob (P:=fun _=>True) (Oi (fun _=>.mk trivial) (fun _=>Ob (T142 a) fun _ _=>.mk trivial)) fun b _=>.mk trivial
theorem Tn108_7 {h:List Zv} {s:Z0} {z:Int} (u:h.length+10<=1000000) (f:s.sm):Ok (Fn108_7 h s z) (fun v=>h.length<=v.length/\v.length<=h.length+10):=by
 unfold Fn108_7
 have k:=f.Measures
 refine Ob (P:=fun r=>h.length<=r.length/\r.length<=h.length+10) (aP (l:=s.Measures) (fun q=>q.1) (fun i q=>h.length<=q.2.length/\q.2.length<=h.length+i*1) (Nat.lt_of_le_of_lt f.Measures (by decide)) rfl (by dsimp only;omega) (fun p n q1389 m g a d b c e=>?_) (fun q1389 a b=>?_)) fun y t=>?_
 .obtain ⟨A,B⟩:=q1389
  dsimp only at a d c e b
  simp only[d,c,nt]
  have j:=f.MeasuresE _ g
  refine obT (T139 j f (by(simp only[nm]at *;omega))) fun w=>?_
  refine Ob (Tn101 (by first|omega|(simp only[List.length_nil]at *;omega)) f) fun x o=>?_
  exact .mk ⟨e,by dsimp only;omega⟩
 .obtain ⟨A,B⟩:=q1389
  dsimp only at a b
  simp only[a,nf]
  exact .mk (by dsimp only;omega)
 exact .mk (by omega)
theorem Tn73 {a:List Zv} {d:Z0} {f:Int} (e:a.length+10<=1000000) (c:d.sm):Ok (Fn73 a d f) (fun v=>a.length<=v.length/\v.length<=a.length+10):=by
 unfold Fn73
 refine Ob (Tn108_7 (by first|omega|(simp only[List.length_nil]at *;omega)) c) fun g b=>?_
 exact .mk (by omega)
theorem T143 {E:Int} {m:Zm} (f:m.sm):Ok (F143 E m) (fun _=>True):=by
 unfold F143
 refine obT (T94 f) fun⟨N,O⟩=>?_
 refine Ob (P:=fun r=>r=true->(m.Swing !=0)=true) ?_ fun M u=>?_
 .refine Oi (fun c1397=>?_) (fun _=>.mk (fun h=>by cases h))
  refine obT (T103) fun R=>?_
  exact .mk (fun _=>c1397)
 refine Ob (P:=fun r=>¬r=true->¬M=true) ?_ fun T v=>?_
 .refine Oi (fun _=>.mk (fun h=>absurd rfl h)) (fun c1400=>?_)
  refine obT (T103) fun S=>?_
  exact .mk (fun _=>c1400)
 have p:=f.Tempi
 refine lpT (l:=m.Tempi) (fun q=>q.2) (Nat.lt_of_le_of_lt f.Tempi (by decide)) rfl (fun z t q1412 n a c b d=>?_) (fun q1412 a=>?_) fun L=>?_
 .obtain ⟨j,k⟩:=q1412
  dsimp only at a c b d
  simp only[c,b,nt]
  refine Ob (P:=fun r=>¬r=true->¬j=true) ?_ fun C e=>?_
  .refine Oi (fun _=>.mk (fun h=>absurd rfl h)) (fun c1415=>?_)
   refine obT (T103) fun F=>?_
   exact .mk (fun _=>c1415)
  refine Ob (P:=fun r=>¬r=true->¬C=true) ?_ fun D g=>?_
  .refine Oi (fun _=>.mk (fun h=>absurd rfl h)) (fun c1418=>?_)
   have A:=e c1418
   refine obT (T103) fun G=>?_
   exact .mk (fun _=>c1418)
  refine Ob (P:=fun r=>¬r=true->¬D=true) ?_ fun K w=>?_
  .refine Oi (fun _=>.mk (fun h=>absurd rfl h)) (fun c1422=>?_)
   have i:=g c1422
   have B:=e i
   refine Ob (P:=fun r=>r=true->(decide (k>0))=true) ?_ fun J y=>?_
   .refine Oi (fun c1426=>?_) (fun _=>.mk (fun h=>by cases h))
    have s:=f.Tempi
    refine Ob (P:=fun x=>x∈m.Tempi) (bE (by(simp only[nm]at *;rw[aV (by omega) (by omega)];omega)) (by(simp only[nm]at *;rw[aV (by omega) (by omega)];omega)) (fun _ h _=>h)) fun H o=>?_
    exact .mk (fun _=>c1426)
   exact .mk (fun _=>c1422)
  exact .mk d
 .obtain ⟨j,k⟩:=q1412
  dsimp only at a
  simp only[a,nf]
  exact .mk trivial
 exact .mk trivial
theorem Tn108_8 {h:List Zv} {s:Z0} {z:Int} (u:h.length+10<=1000000) (f:s.sm):Ok (Fn108_8 h s z) (fun v=>h.length<=v.length/\v.length<=h.length+10):=by
 unfold Fn108_8
 have k:=f.Measures
 refine Ob (P:=fun r=>h.length<=r.length/\r.length<=h.length+10) (aP (l:=s.Measures) (fun q=>q.1) (fun i q=>h.length<=q.2.length/\q.2.length<=h.length+i*1) (Nat.lt_of_le_of_lt f.Measures (by decide)) rfl (by dsimp only;omega) (fun p n q1441 m g a d b c e=>?_) (fun q1441 a b=>?_)) fun y t=>?_
 .obtain ⟨A,B⟩:=q1441
  dsimp only at a d c e b
  simp only[d,c,nt]
  have j:=f.MeasuresE _ g
  refine obT (T143 j) fun w=>?_
  refine Ob (Tn101 (by first|omega|(simp only[List.length_nil]at *;omega)) f) fun x o=>?_
  exact .mk ⟨e,by dsimp only;omega⟩
 .obtain ⟨A,B⟩:=q1441
  dsimp only at a b
  simp only[a,nf]
  exact .mk (by dsimp only;omega)
 exact .mk (by omega)
theorem Tn74 {a:List Zv} {d:Z0} {f:Int} (e:a.length+10<=1000000) (c:d.sm):Ok (Fn74 a d f) (fun v=>a.length<=v.length/\v.length<=a.length+10):=by
 unfold Fn74
 refine Ob (Tn108_8 (by first|omega|(simp only[List.length_nil]at *;omega)) c) fun g b=>?_
 exact .mk (by omega)
theorem T144 {i:Zp} {e:Ze} {g:Zk} (a:e.sm) (c:g.s'.sm):Ok (F144 i e g) (fun _=>True):=by
 unfold F144
 refine Ob (T129 c) fun⟨q,f⟩ d=>?_
 dsimp only at d
 refine Ob (P:=fun r=>¬r=true->f=true) (Oi (fun _=>.mk (fun h=>absurd rfl h)) (fun hc=>Ob (T128 a) fun t _=>.mk (fun _=>by simpa using hc))) fun b hb=>?_
 refine Oi (fun _=>.mk trivial) (fun hc=>?_)
 simp only[Bool.or_eq_true,not_or]at hc
 have:=d (hb hc.1)
 exact Ob (bE (Q:=fun _=>True) this.1 this.2.1 (fun _ _ _=>trivial)) fun x _=>Ob (bE (Q:=fun _=>True) this.2.2.1 this.2.2.2 (fun _ _ _=>trivial)) fun y _=>.mk trivial
theorem Tn117_5 {L:List Zv} {x2:Z0} {x3:Int} (e3:L.length+3000<=1000000) (C:x2.sm):Ok (Fn117_5 L x2 x3) (fun v=>L.length<=v.length/\v.length<=L.length+3000):=by
 unfold Fn117_5
 have U:=C.Measures
 refine Ob (P:=fun r=>L.length<=r.length/\r.length<=L.length+3000) (aP (l:=x2.Measures) (fun q=>q.1) (fun i q=>L.length<=q.2.length/\q.2.length<=L.length+i*300) (Nat.lt_of_le_of_lt C.Measures (by decide)) rfl (by dsimp only;omega) (fun b6 M q1458 Y G c t g a y=>?_) (fun q1458 c g=>?_)) fun e2 d3=>?_
 .obtain ⟨d0,D⟩:=q1458
  dsimp only at c t a y g
  simp only[t,a,nt]
  have n:=C.MeasuresE _ G
  have V:=n.Cells
  refine Ob (P:=fun r=>D.length<=r.length/\r.length<=D.length+300) (aP (l:=M.Cells) (fun q=>q.1) (fun i q=>D.length<=q.2.length/\q.2.length<=D.length+i*60) (Nat.lt_of_le_of_lt n.Cells (by decide)) rfl (by dsimp only;omega) (fun b7 N q1472 Z H d u h b z=>?_) (fun q1472 d h=>?_)) fun e1 d4=>?_
  .obtain ⟨d1,E⟩:=q1472
   dsimp only at d u b z h
   simp only[u,a,b,nt]
   have o:=n.CellsE _ H
   have W:=o.Voices
   refine Ob (P:=fun r=>E.length<=r.length/\r.length<=E.length+60) (aP (l:=N.Voices) (fun q=>q.1) (fun i q=>E.length<=q.2.length/\q.2.length<=E.length+i*20) (Nat.lt_of_le_of_lt o.Voices (by decide)) rfl (by dsimp only;omega) (fun b8 O q1486 a0 J e w j m A=>?_) (fun q1486 e j=>?_)) fun e0 d5=>?_
   .obtain ⟨d2,F⟩:=q1486
    dsimp only at e w m A j
    simp only[w,a,b,m,nt]
    have p:=o.VoicesE _ J
    have X:=p.Events
    refine Ob (P:=fun r=>F.length<=r.length/\r.length<=F.length+20) (aP (l:=O.Events) (fun q=>q.1) (fun i q=>F.length<=q.2.length/\q.2.length<=F.length+i*1) (Nat.lt_of_le_of_lt p.Events (by decide)) rfl (by dsimp only;omega) (fun b9 b4 q1500 b0 K f x k s B=>?_) (fun q1500 f k=>?_)) fun d9 d6=>?_
    .obtain ⟨S,T⟩:=q1500
     dsimp only at f x s B k
     simp only[x,a,b,m,s,nt]
     have R:=p.EventsE _ K
     refine obT (T144 R C) fun d7=>?_
     refine Ob (Tn101 (by first|omega|(simp only[List.length_nil]at *;omega)) C) fun d8 b5=>?_
     exact .mk ⟨B,by dsimp only;omega⟩
    .obtain ⟨S,T⟩:=q1500
     dsimp only at f k
     simp only[f,nf]
     exact .mk (by dsimp only;omega)
    exact .mk ⟨A,by dsimp only;omega⟩
   .obtain ⟨d2,F⟩:=q1486
    dsimp only at e j
    simp only[e,nf]
    exact .mk (by dsimp only;omega)
   exact .mk ⟨z,by dsimp only;omega⟩
  .obtain ⟨d1,E⟩:=q1472
   dsimp only at d h
   simp only[d,nf]
   exact .mk (by dsimp only;omega)
  exact .mk ⟨y,by dsimp only;omega⟩
 .obtain ⟨d0,D⟩:=q1458
  dsimp only at c g
  simp only[c,nf]
  exact .mk (by dsimp only;omega)
 exact .mk (by omega)
theorem Tn75 {a:List Zv} {d:Z0} {f:Int} (e:a.length+3000<=1000000) (c:d.sm):Ok (Fn75 a d f) (fun v=>a.length<=v.length/\v.length<=a.length+3000):=by
 unfold Fn75
 refine Ob (Tn117_5 (by first|omega|(simp only[List.length_nil]at *;omega)) c) fun g b=>?_
 exact .mk (by omega)
theorem T38 {x1:Z0} (a:x1.sm) (hx:0<x1.Measures.length):Ok (F38 x1) (fun _=>True):=by
 unfold F38
 refine Ob (P:=fun r=>r=true->(decide ((([]:List Zv).length:Int)>0))=true) ?_ fun x6 b=>?_
 .refine Oi (fun c1507=>?_) (fun _=>.mk (fun h=>by cases h))
  refine Ob (P:=fun r=>¬r=true->¬false=true) ?_ fun x5 u=>?_
  .refine Oi (fun _=>.mk (fun h=>absurd rfl h)) (fun c1509=>?_)
   refine Ob (P:=fun r=>r=true->false=true) ?_ fun x4 v=>?_
   .refine Oi (fun c1511=>?_) (fun _=>.mk (fun h=>by cases h))
    refine Ob (bN (by omega) (by(simp only[nm]at *;omega))) fun x2 w=>?_
    refine Ob (bR (by omega)) fun x3 x=>?_
    exact .mk (fun _=>c1511)
   exact .mk (fun _=>c1509)
  exact .mk (fun _=>c1507)
 refine Oi (fun c1514=>?_) (fun c1514=>?_)
 .have i5:=b c1514
  exact .mk trivial
 refine Ob (Tn59 (by first|omega|(simp only[List.length_nil]at *;omega)) a) fun x7 y=>?_
 refine Ob (P:=fun r=>r=true->(decide ((x7.length:Int)>0))=true) ?_ fun m4 c=>?_
 .refine Oi (fun c1518=>?_) (fun _=>.mk (fun h=>by cases h))
  refine Ob (P:=fun r=>¬r=true->¬true=true) ?_ fun m3 z=>?_
  .refine Oi (fun _=>.mk (fun h=>absurd rfl h)) (fun c1520=>?_)
   refine Ob (P:=fun r=>r=true->false=true) ?_ fun m2 A=>?_
   .refine Oi (fun c1522=>?_) (fun _=>.mk (fun h=>by cases h))
    refine Ob (bN (by omega) (by(simp only[nm]at *;omega))) fun x8 B=>?_
    refine Ob (bR (by omega)) fun x9 C=>?_
    exact .mk (fun _=>c1522)
   exact .mk (fun _=>c1520)
  exact .mk (fun _=>c1518)
 refine Oi (fun c1525=>?_) (fun c1525=>?_)
 .have i6:=c c1525
  exact .mk trivial
 refine Ob (Tn60 (by first|omega|(simp only[List.length_nil]at *;omega)) a) fun k3 D=>?_
 refine Ob (P:=fun r=>r=true->(decide ((k3.length:Int)>0))=true) ?_ fun m9 d=>?_
 .refine Oi (fun c1529=>?_) (fun _=>.mk (fun h=>by cases h))
  refine Ob (P:=fun r=>¬r=true->¬false=true) ?_ fun m8 E=>?_
  .refine Oi (fun _=>.mk (fun h=>absurd rfl h)) (fun c1531=>?_)
   refine Ob (P:=fun r=>r=true->false=true) ?_ fun m7 F=>?_
   .refine Oi (fun c1533=>?_) (fun _=>.mk (fun h=>by cases h))
    refine Ob (bN (by omega) (by(simp only[nm]at *;omega))) fun m5 G=>?_
    refine Ob (bR (by omega)) fun m6 H=>?_
    exact .mk (fun _=>c1533)
   exact .mk (fun _=>c1531)
  exact .mk (fun _=>c1529)
 refine Oi (fun c1536=>?_) (fun c1536=>?_)
 .have i7:=d c1536
  exact .mk trivial
 refine Ob (Tn61 (by first|omega|(simp only[List.length_nil]at *;omega)) a) fun k4 J=>?_
 refine Ob (P:=fun r=>r=true->(decide ((k4.length:Int)>0))=true) ?_ fun n5 e=>?_
 .refine Oi (fun c1540=>?_) (fun _=>.mk (fun h=>by cases h))
  refine Ob (P:=fun r=>¬r=true->¬false=true) ?_ fun n4 K=>?_
  .refine Oi (fun _=>.mk (fun h=>absurd rfl h)) (fun c1542=>?_)
   refine Ob (P:=fun r=>r=true->false=true) ?_ fun n3 L=>?_
   .refine Oi (fun c1544=>?_) (fun _=>.mk (fun h=>by cases h))
    refine Ob (bN (by omega) (by(simp only[nm]at *;omega))) fun n1 M=>?_
    refine Ob (bR (by omega)) fun n2 N=>?_
    exact .mk (fun _=>c1544)
   exact .mk (fun _=>c1542)
  exact .mk (fun _=>c1540)
 refine Oi (fun c1547=>?_) (fun c1547=>?_)
 .have i9:=e c1547
  exact .mk trivial
 refine Ob (Tn62 (by first|omega|(simp only[List.length_nil]at *;omega)) a) fun k5 O=>?_
 refine Ob (P:=fun r=>r=true->(decide ((k5.length:Int)>0))=true) ?_ fun r0 f=>?_
 .refine Oi (fun c1551=>?_) (fun _=>.mk (fun h=>by cases h))
  refine Ob (P:=fun r=>¬r=true->¬false=true) ?_ fun n9 R=>?_
  .refine Oi (fun _=>.mk (fun h=>absurd rfl h)) (fun c1553=>?_)
   refine Ob (P:=fun r=>r=true->false=true) ?_ fun n8 S=>?_
   .refine Oi (fun c1555=>?_) (fun _=>.mk (fun h=>by cases h))
    refine Ob (bN (by omega) (by(simp only[nm]at *;omega))) fun n6 T=>?_
    refine Ob (bR (by omega)) fun n7 U=>?_
    exact .mk (fun _=>c1555)
   exact .mk (fun _=>c1553)
  exact .mk (fun _=>c1551)
 refine Oi (fun c1558=>?_) (fun c1558=>?_)
 .have j0:=f c1558
  exact .mk trivial
 refine Ob (Tn63 (by first|omega|(simp only[List.length_nil]at *;omega)) a) fun k6 V=>?_
 refine Ob (P:=fun r=>r=true->(decide ((k6.length:Int)>0))=true) ?_ fun r5 g=>?_
 .refine Oi (fun c1562=>?_) (fun _=>.mk (fun h=>by cases h))
  refine Ob (P:=fun r=>¬r=true->¬false=true) ?_ fun r4 W=>?_
  .refine Oi (fun _=>.mk (fun h=>absurd rfl h)) (fun c1564=>?_)
   refine Ob (P:=fun r=>r=true->false=true) ?_ fun r3 X=>?_
   .refine Oi (fun c1566=>?_) (fun _=>.mk (fun h=>by cases h))
    refine Ob (bN (by omega) (by(simp only[nm]at *;omega))) fun r1 Y=>?_
    refine Ob (bR (by omega)) fun r2 Z=>?_
    exact .mk (fun _=>c1566)
   exact .mk (fun _=>c1564)
  exact .mk (fun _=>c1562)
 refine Oi (fun c1569=>?_) (fun c1569=>?_)
 .have j1:=g c1569
  exact .mk trivial
 refine Ob (Tn64 (by first|omega|(simp only[List.length_nil]at *;omega)) a) fun k7 a0=>?_
 refine Ob (P:=fun r=>r=true->(decide ((k7.length:Int)>0))=true) ?_ fun s0 i=>?_
 .refine Oi (fun c1573=>?_) (fun _=>.mk (fun h=>by cases h))
  refine Ob (P:=fun r=>¬r=true->¬false=true) ?_ fun r9 b0=>?_
  .refine Oi (fun _=>.mk (fun h=>absurd rfl h)) (fun c1575=>?_)
   refine Ob (P:=fun r=>r=true->false=true) ?_ fun r8 b4=>?_
   .refine Oi (fun c1577=>?_) (fun _=>.mk (fun h=>by cases h))
    refine Ob (bN (by omega) (by(simp only[nm]at *;omega))) fun r6 b5=>?_
    refine Ob (bR (by omega)) fun r7 b6=>?_
    exact .mk (fun _=>c1577)
   exact .mk (fun _=>c1575)
  exact .mk (fun _=>c1573)
 refine Oi (fun c1580=>?_) (fun c1580=>?_)
 .have j2:=i c1580
  exact .mk trivial
 refine Ob (Tn65 (by first|omega|(simp only[List.length_nil]at *;omega)) a) fun k8 b7=>?_
 refine Ob (P:=fun r=>r=true->(decide ((k8.length:Int)>0))=true) ?_ fun s5 j=>?_
 .refine Oi (fun c1584=>?_) (fun _=>.mk (fun h=>by cases h))
  refine Ob (P:=fun r=>¬r=true->¬false=true) ?_ fun s4 b8=>?_
  .refine Oi (fun _=>.mk (fun h=>absurd rfl h)) (fun c1586=>?_)
   refine Ob (P:=fun r=>r=true->false=true) ?_ fun s3 b9=>?_
   .refine Oi (fun c1588=>?_) (fun _=>.mk (fun h=>by cases h))
    refine Ob (bN (by omega) (by(simp only[nm]at *;omega))) fun s1 d0=>?_
    refine Ob (bR (by omega)) fun s2 d1=>?_
    exact .mk (fun _=>c1588)
   exact .mk (fun _=>c1586)
  exact .mk (fun _=>c1584)
 refine Oi (fun c1591=>?_) (fun c1591=>?_)
 .have j3:=j c1591
  exact .mk trivial
 refine Ob (Tn66 (by first|omega|(simp only[List.length_nil]at *;omega)) a) fun k9 d2=>?_
 refine Ob (P:=fun r=>r=true->(decide ((k9.length:Int)>0))=true) ?_ fun t0 k=>?_
 .refine Oi (fun c1595=>?_) (fun _=>.mk (fun h=>by cases h))
  refine Ob (P:=fun r=>¬r=true->¬false=true) ?_ fun s9 d3=>?_
  .refine Oi (fun _=>.mk (fun h=>absurd rfl h)) (fun c1597=>?_)
   refine Ob (P:=fun r=>r=true->false=true) ?_ fun s8 d4=>?_
   .refine Oi (fun c1599=>?_) (fun _=>.mk (fun h=>by cases h))
    refine Ob (bN (by omega) (by(simp only[nm]at *;omega))) fun s6 d5=>?_
    refine Ob (bR (by omega)) fun s7 d6=>?_
    exact .mk (fun _=>c1599)
   exact .mk (fun _=>c1597)
  exact .mk (fun _=>c1595)
 refine Oi (fun c1602=>?_) (fun c1602=>?_)
 .have j4:=k c1602
  exact .mk trivial
 refine Ob (Tn67 (by first|omega|(simp only[List.length_nil]at *;omega)) a) fun l0 d7=>?_
 refine Ob (P:=fun r=>r=true->(decide ((l0.length:Int)>0))=true) ?_ fun t6 l=>?_
 .refine Oi (fun c1606=>?_) (fun _=>.mk (fun h=>by cases h))
  refine Ob (P:=fun r=>¬r=true->¬false=true) ?_ fun t4 d8=>?_
  .refine Oi (fun _=>.mk (fun h=>absurd rfl h)) (fun c1608=>?_)
   refine Ob (P:=fun r=>r=true->true=true) ?_ fun t3 d9=>?_
   .refine Oi (fun c1610=>?_) (fun _=>.mk (fun h=>by cases h))
    refine Ob (bN (by omega) (by(simp only[nm]at *;omega))) fun t1 e0=>?_
    refine Ob (bR (by omega)) fun t2 e1=>?_
    exact .mk (fun _=>c1610)
   exact .mk (fun _=>c1608)
  exact .mk (fun _=>c1606)
 refine Oi (fun c1613=>?_) (fun c1613=>?_)
 .have j5:=l c1613
  exact .mk trivial
 refine Ob (Tn68 (by first|omega|(simp only[List.length_nil]at *;omega)) a) fun l1 e2=>?_
 refine Ob (P:=fun r=>r=true->(decide ((l1.length:Int)>0))=true) ?_ fun u1 m=>?_
 .refine Oi (fun c1617=>?_) (fun _=>.mk (fun h=>by cases h))
  refine Ob (P:=fun r=>¬r=true->¬false=true) ?_ fun u0 e3=>?_
  .refine Oi (fun _=>.mk (fun h=>absurd rfl h)) (fun c1619=>?_)
   refine Ob (P:=fun r=>r=true->true=true) ?_ fun t9 e4=>?_
   .refine Oi (fun c1621=>?_) (fun _=>.mk (fun h=>by cases h))
    refine Ob (bN (by omega) (by(simp only[nm]at *;omega))) fun t7 e5=>?_
    refine Ob (bR (by omega)) fun t8 e6=>?_
    exact .mk (fun _=>c1621)
   exact .mk (fun _=>c1619)
  exact .mk (fun _=>c1617)
 refine Oi (fun c1624=>?_) (fun c1624=>?_)
 .have j6:=m c1624
  exact .mk trivial
 refine Ob (Tn69 (by first|omega|(simp only[List.length_nil]at *;omega)) a) fun l2 e7=>?_
 refine Ob (P:=fun r=>r=true->(decide ((l2.length:Int)>0))=true) ?_ fun u6 n=>?_
 .refine Oi (fun c1628=>?_) (fun _=>.mk (fun h=>by cases h))
  refine Ob (P:=fun r=>¬r=true->¬false=true) ?_ fun u5 e8=>?_
  .refine Oi (fun _=>.mk (fun h=>absurd rfl h)) (fun c1630=>?_)
   refine Ob (P:=fun r=>r=true->true=true) ?_ fun u4 e9=>?_
   .refine Oi (fun c1632=>?_) (fun _=>.mk (fun h=>by cases h))
    refine Ob (bN (by omega) (by(simp only[nm]at *;omega))) fun u2 f0=>?_
    refine Ob (bR (by omega)) fun u3 f1=>?_
    exact .mk (fun _=>c1632)
   exact .mk (fun _=>c1630)
  exact .mk (fun _=>c1628)
 refine Oi (fun c1635=>?_) (fun c1635=>?_)
 .have j7:=n c1635
  exact .mk trivial
 refine Ob (Tn70 (by first|omega|(simp only[List.length_nil]at *;omega)) a) fun l3 f2=>?_
 refine Ob (P:=fun r=>r=true->(decide ((l3.length:Int)>0))=true) ?_ fun v2 o=>?_
 .refine Oi (fun c1639=>?_) (fun _=>.mk (fun h=>by cases h))
  refine Ob (P:=fun r=>¬r=true->¬false=true) ?_ fun v1 f4=>?_
  .refine Oi (fun _=>.mk (fun h=>absurd rfl h)) (fun c1641=>?_)
   refine Ob (P:=fun r=>r=true->true=true) ?_ fun v0 f8=>?_
   .refine Oi (fun c1643=>?_) (fun _=>.mk (fun h=>by cases h))
    refine Ob (bN (by omega) (by(simp only[nm]at *;omega))) fun u7 f9=>?_
    refine Ob (bR (by omega)) fun u9 g1=>?_
    exact .mk (fun _=>c1643)
   exact .mk (fun _=>c1641)
  exact .mk (fun _=>c1639)
 refine Oi (fun c1646=>?_) (fun c1646=>?_)
 .have j8:=o c1646
  exact .mk trivial
 refine Ob (Tn71 (by first|omega|(simp only[List.length_nil]at *;omega)) a) fun l4 g3=>?_
 refine Ob (P:=fun r=>r=true->(decide ((l4.length:Int)>0))=true) ?_ fun v7 p=>?_
 .refine Oi (fun c1650=>?_) (fun _=>.mk (fun h=>by cases h))
  refine Ob (P:=fun r=>¬r=true->¬false=true) ?_ fun v6 g4=>?_
  .refine Oi (fun _=>.mk (fun h=>absurd rfl h)) (fun c1652=>?_)
   refine Ob (P:=fun r=>r=true->true=true) ?_ fun v5 g5=>?_
   .refine Oi (fun c1654=>?_) (fun _=>.mk (fun h=>by cases h))
    refine Ob (bN (by omega) (by(simp only[nm]at *;omega))) fun v3 g6=>?_
    refine Ob (bR (by omega)) fun v4 g7=>?_
    exact .mk (fun _=>c1654)
   exact .mk (fun _=>c1652)
  exact .mk (fun _=>c1650)
 refine Oi (fun c1657=>?_) (fun c1657=>?_)
 .have j9:=p c1657
  exact .mk trivial
 refine Ob (Tn72 (by first|omega|(simp only[List.length_nil]at *;omega)) a (by omega)) fun l5 g8=>?_
 refine Ob (P:=fun r=>r=true->(decide ((l5.length:Int)>0))=true) ?_ fun w3 q=>?_
 .refine Oi (fun c1661=>?_) (fun _=>.mk (fun h=>by cases h))
  refine Ob (P:=fun r=>¬r=true->¬false=true) ?_ fun w2 g9=>?_
  .refine Oi (fun _=>.mk (fun h=>absurd rfl h)) (fun c1663=>?_)
   refine Ob (P:=fun r=>r=true->true=true) ?_ fun w1 h0=>?_
   .refine Oi (fun c1665=>?_) (fun _=>.mk (fun h=>by cases h))
    refine Ob (bN (by omega) (by(simp only[nm]at *;omega))) fun v8 h2=>?_
    refine Ob (bR (by omega)) fun v9 h3=>?_
    exact .mk (fun _=>c1665)
   exact .mk (fun _=>c1663)
  exact .mk (fun _=>c1661)
 refine Oi (fun c1668=>?_) (fun c1668=>?_)
 .have k0:=q c1668
  exact .mk trivial
 refine Ob (Tn73 (by first|omega|(simp only[List.length_nil]at *;omega)) a) fun l6 h4=>?_
 refine Ob (P:=fun r=>r=true->(decide ((l6.length:Int)>0))=true) ?_ fun w8 s=>?_
 .refine Oi (fun c1672=>?_) (fun _=>.mk (fun h=>by cases h))
  refine Ob (P:=fun r=>¬r=true->¬false=true) ?_ fun w7 h5=>?_
  .refine Oi (fun _=>.mk (fun h=>absurd rfl h)) (fun c1674=>?_)
   refine Ob (P:=fun r=>r=true->true=true) ?_ fun w6 h6=>?_
   .refine Oi (fun c1676=>?_) (fun _=>.mk (fun h=>by cases h))
    refine Ob (bN (by omega) (by(simp only[nm]at *;omega))) fun w4 h7=>?_
    refine Ob (bR (by omega)) fun w5 h8=>?_
    exact .mk (fun _=>c1676)
   exact .mk (fun _=>c1674)
  exact .mk (fun _=>c1672)
 refine Oi (fun c1679=>?_) (fun c1679=>?_)
 .have k1:=s c1679
  exact .mk trivial
 refine Ob (Tn74 (by first|omega|(simp only[List.length_nil]at *;omega)) a) fun l7 h9=>?_
 refine Ob (P:=fun r=>r=true->(decide ((l7.length:Int)>0))=true) ?_ fun m0 t=>?_
 .refine Oi (fun c1683=>?_) (fun _=>.mk (fun h=>by cases h))
  refine Ob (P:=fun r=>¬r=true->¬false=true) ?_ fun l9 i0=>?_
  .refine Oi (fun _=>.mk (fun h=>absurd rfl h)) (fun c1685=>?_)
   refine Ob (P:=fun r=>r=true->true=true) ?_ fun l8 i1=>?_
   .refine Oi (fun c1687=>?_) (fun _=>.mk (fun h=>by cases h))
    refine Ob (bN (by omega) (by(simp only[nm]at *;omega))) fun w9 i2=>?_
    refine Ob (bR (by omega)) fun x0 i3=>?_
    exact .mk (fun _=>c1687)
   exact .mk (fun _=>c1685)
  exact .mk (fun _=>c1683)
 refine Oi (fun c1690=>?_) (fun c1690=>?_)
 .have k2:=t c1690
  exact .mk trivial
 refine Ob (Tn75 (by first|omega|(simp only[List.length_nil]at *;omega)) a) fun m1 i4=>?_
 exact .mk trivial
theorem T16 {c:Z0} (a:c.sm):Ok (F16 c) (fun _=>True):=by
 unfold F16
 refine Ob (P:=fun _=>True) ?_ fun v _=>.mk trivial
 by_cases h0:0<c.Measures.length
 .exact (T38 a h0).mono fun _ _=>trivial
 unfold F38
 refine Ob (P:=fun r=>r=false) (Oi (fun h=>by simp at h) (fun _=>.mk rfl)) fun b hb=>?_
 subst hb
 refine Oi (fun h=>by cases h) (fun _=>?_)
 refine Ob (U59b a (by omega) (by decide)) fun v hv=>?_
 refine Ob (P:=fun r=>r=true) (Oi (fun h=>Ob (P:=fun r=>r=true) (Oi (fun _=>.mk rfl) (fun h=>absurd rfl h)) fun b hb=>.mk hb) (fun h=>by simp at h;simp[h]at hv)) fun b hb=>?_
 subst hb
 exact Oi (fun _=>.mk trivial) (fun h=>absurd rfl h)
end Go.P
set_option maxHeartbeats 1000000
namespace Go.P
theorem dI {α β:Type} {x:Option α} {a:α} {K:α->Option β} {r:Option β} (h:x=some a) (hk:K a=r):x.bind K=r:=by subst h;exact hk
theorem Ok.eq {α:Type} {x:Option α} {a:α} (h:Ok x (fun v=>v=a)):x=some a:=by
 obtain⟨v,h1,rfl⟩:=h
 exact h1
theorem aQ1 (c d:Bool):(if c=true then some true else some d)=some (c||d):=by cases c<;>rfl
theorem uI (c d:Bool):(if c=true then some d else some false)=some (c&&d):=by cases c<;>rfl
theorem dJ {A:Type} {l:List A} {body:Int->Option (Int⊕(Unit⊕Unit))} (p:A->Bool) (hl:l.length<9223372036854775808)
  (h:∀(i:Int) (x:A),0<=i->i<(l.length:Int)->x∈l->lget l i=some x->w64 (i+1)=i+1->body i=some (if p x then .inr (.inl ())else .inl (i+1)))
  (b:body (l.length:Int)=some (.inr (.inr ()))):aO body B64 0=some (if l.any p then .inl ()else .inr ()):=by
 refine Ok.eq (gU (fun x=>p x=false) hl (fun i x h0 h1 c hg hw=>?_) (fun i hi a=>?_))
 .rw [h i x h0 h1 c hg hw]
  cases hp:p x with
  |false=>exact .mk ⟨rfl,rfl⟩
  |true=>
   refine .mk ?_
   have:l.any p=true:=List.any_eq_true.2 ⟨x,c,hp⟩
   rw[this];rfl
 .rw [hi,b]
  refine .mk ?_
  have:l.any p=false:=by rw[List.any_eq_false];intro x c;rw[a x c];exact Bool.false_ne_true
  rw[this];rfl
theorem fS1 {A:Type} {l:List A} {body:Bool×Int->Option ((Bool×Int)⊕Bool)} (p:A->Bool) (hl:l.length<9223372036854775808) (e:Bool)
  (h:∀(b:Bool) (i:Int) (x:A),0<=i->i<(l.length:Int)->x∈l->lget l i=some x->w64 (i+1)=i+1->body (b,i)=some (.inl (b||p x,i+1)))
  (c:∀b,body (b,(l.length:Int))=some (.inr b)):aO body B64 (e,0)=some (e||l.any p):=by
 refine Ok.eq (aP (l:=l) (fun q=>q.2) (fun i q=>q.1=(e||(l.take i).any p)) hl rfl (by simp) (fun i x q g f hi d a hg hw=>?_) (fun q hi a=>?_))
 .obtain ⟨b,k⟩:=q
  dsimp only at hi d a hg hw
  rw[h b k x (by omega) d f hg (by omega)]
  refine .mk ⟨by dsimp only;omega,?_⟩
  dsimp only
  rw[a,List.take_add_one,g,List.any_append,Bool.or_assoc]
  simp
 .obtain ⟨b,k⟩:=q
  dsimp only at hi a
  subst hi
  rw[c]
  refine .mk ?_
  rw[a,List.take_length]
theorem qD {A:Type} {l:List A} {g:A->Option Bool} (p:A->Bool) (hl:l.length<9223372036854775808) (hg:∀x∈l,g x=some (p x)):((idxF l g).bind fun v=>some (decide (v>=0)))=some (l.any p):=by
 obtain⟨v,h1,h2⟩:=uG hl (fun x a=>⟨_,hg x a⟩)
 rw[h1,Option.bind_some]
 rcases h2 with⟨rfl,h⟩|⟨h0,_,x,a,hp⟩
 .have:l.any p=false:=by
   rw[List.any_eq_false]
   intro x a
   have:=h x a
   rw[hg x a]at this
   rw[Option.some.inj this]
   exact Bool.false_ne_true
  rw[this];rfl
 .have b:=List.mem_of_getElem? a
  rw[hg x b]at hp
  have:l.any p=true:=List.any_eq_true.2 ⟨x,b,Option.some.inj hp⟩
  rw[this,decide_eq_true (show v>=0 from h0)]
section
variable {K V:Type} [DecidableEq K]
theorem kG (k:K):∀(l:List (K×V)) (i:Nat),jM k l (i+1)=(jM k l i).map fun p=>(p.1+1,p.2)
 |[],i=>rfl
 |p::r,i=>by
  simp only[jM]
  by_cases e:k=p.1
  .rw [if_pos e,if_pos e];rfl
  .rw [if_neg e,if_neg e];exact kG k r (i+1)
theorem jO (p:K×V) (r:List (K×V)) (k:K) (z:V):mget (p::r) k z=if k=p.1 then p.2 else mget r k z:=by
 unfold mget
 simp only[jM]
 by_cases e:k=p.1
 .rw [if_pos e,if_pos e]
 .rw [if_neg e,if_neg e,kG]
  cases jM k r 0<;>rfl
theorem aR1 (p:K×V) (r:List (K×V)) (k:K) (x:V):mput (p::r) k x=if k=p.1 then(k,x)::r else p::mput r k x:=by
 unfold mput
 simp only[jM]
 by_cases e:k=p.1
 .rw [if_pos e,if_pos e];rfl
 .rw [if_neg e,if_neg e,kG]
  cases jM k r 0<;>rfl
theorem nC (k b:K) (x z:V):∀l:List (K×V),mget (mput l k x) b z=if b=k then x else mget l b z
 |[]=>by
  show mget ([]++[(k,x)]) b z=_
  rw[List.nil_append,jO]
 |p::r=>by
  rw[aR1,jO]
  by_cases e:k=p.1
  .rw [if_pos e,jO]
   by_cases a:b=k
   .rw [if_pos a,if_pos a]
   .rw [if_neg a,if_neg a,if_neg (fun h=>a (h.trans e.symm))]
  .rw [if_neg e,jO,nC k b x z r]
   by_cases a:b=p.1
   .rw [if_pos a,if_pos a,if_neg (fun h=>e (h.symm.trans a))]
   .rw [if_neg a,if_neg a]
end
def qE (s:Z0) (id:Zz):Bool:=s.Spanners.any fun x=>decide (id=x.From)||decide (id=x.To)
def eY (s:Z0) (e:Ze):Bool:=((decide ((e.Heads.length:Int)>0)||(e.Dynamic !=0))||(e.Articulations !=0))||qE s e.ID
def empB (s:Z0) (m:Zm):Bool:=(!(m.RepeatStart||m.RepeatEnd !=0||m.Endings !=0||m.Jump !=0||m.Labels !=0)&& !(m.Tempi.any fun x=>x.At !=0))&&(!(m.Cells.any fun c=>c.Clefs.any fun x=>x.At !=0)&& !(m.Cells.any fun c=>c.Voices.any fun v=>v.Events.any (eY s)))
theorem hQ1 (a b:Zz):(((a.Site==b.Site)&&((a.Number==b.Number)&&true))!=false)=decide (b=a):=by
 have h:((a.Site==b.Site)&&((a.Number==b.Number)&&true))=decide (b=a):=by
  rw[Bool.eq_iff_iff]
  simp only[Bool.and_eq_true,beq_iff_eq,decide_eq_true_eq,and_true]
  constructor
  .rintro ⟨h1,h2⟩
   cases a;cases b;dsimp only at h1 h2;rw[h1,h2]
  .rintro rfl;exact⟨rfl,rfl⟩
 rw[h]
 cases decide (b=a)<;>rfl
theorem F43_ok {s:Z0} (hs:s.sm):Ok (F43 s) (fun E=>∀id,mget E id false=qE s id):=by
 unfold F43
 have h:=hs.Spanners
 refine Ob (P:=fun E=>∀id,mget E id false=qE s id) (aP (l:=s.Spanners) (fun q=>q.1) (fun i q=>∀id,mget q.2 id false=(s.Spanners.take i).any fun x=>decide (id=x.From)||decide (id=x.To)) (by omega) rfl (fun id=>rfl) (fun i e q d f hi hl a hg hw=>?_) (fun q hi a=>?_)) fun v hv=>.mk hv
 .obtain ⟨x,l⟩:=q
  dsimp only at hi hl a hg hw
  simp only[hl,hg,decide_true,if_true,Option.bind_some]
  refine .mk ⟨hw,fun id=>?_⟩
  dsimp only
  rw[nC,nC,a,List.take_add_one,d,List.any_append]
  by_cases b:id=e.To
  .simp [b]
  .by_cases c:id=e.From<;>simp[b,c]
 .obtain ⟨x,l⟩:=q
  dsimp only at hi a
  simp only[hi,Int.lt_irrefl,decide_false,Bool.false_eq_true,if_false]
  refine .mk (fun id=>?_)
  rw[a,List.take_length];rfl
section
variable {s:Z0} {E:List (Zz×Bool)}
theorem F150_eq (a:∀id,mget E id false=qE s id) {l:List Ze} (hl:l.length<=20):F150_2 l E=some (l.any (eY s)):=
 qD (l:=l) (g:=fun x=>F149 x E) (eY s) (by omega) (fun x _=>by unfold F149 eY;rw[a])
theorem F81_eq (b:∀id,mget E id false=qE s id) {m:Zm} (a:m.sm):F81 m E=some (!(m.Cells.any fun c=>c.Voices.any fun v=>v.Events.any (eY s))):=by
 unfold F81
 have g:=a.Cells
 refine dI (dJ (fun c=>c.Voices.any fun v=>v.Events.any (eY s)) (l:=m.Cells) (by omega) (fun i c h0 h1 hc hg hw=>?_) ?_) ?_
 .simp only[h1,hg,hw,decide_true,if_true,Option.bind_some]
  have h:=(a.CellsE c hc).Voices
  refine dI (dJ (fun v=>v.Events.any (eY s)) (l:=c.Voices) (by omega) (fun j v k d hv e f=>?_) ?_) ?_
  .simp only[d,e,f,decide_true,if_true,Option.bind_some]
   rw[F150_eq b ((a.CellsE c hc).VoicesE v hv).Events,Option.bind_some]
   cases v.Events.any (eY s)<;>rfl
  .simp only[Int.lt_irrefl,decide_false,Bool.false_eq_true,if_false]
  .cases c.Voices.any (fun v=>v.Events.any (eY s))<;>rfl
 .simp only[Int.lt_irrefl,decide_false,Bool.false_eq_true,if_false]
 .cases m.Cells.any (fun c=>c.Voices.any fun v=>v.Events.any (eY s))<;>rfl
theorem F79_eq {m:Zm} (d:m.sm):F79 m=some (!((m.Tempi.any fun x=>x.At !=0)||(m.Cells.any fun c=>c.Clefs.any fun x=>x.At !=0))):=by
 unfold F79
 have h:=d.Tempi
 have e:=d.Cells
 refine dI (a:=m.Tempi.any fun x=>x.At !=0) (qD (g:=F146) _ (by omega) (fun x _=>rfl)) ?_
 refine dI (fS1 (fun c=>c.Clefs.any fun x=>x.At !=0) (l:=m.Cells) (by omega) (m.Tempi.any fun x=>x.At !=0) (fun b i c h0 h1 hc hg hw=>?_) (fun b=>?_)) rfl
 .have f:=(d.CellsE c hc).Clefs
  have h2:F147 c.Clefs=some (c.Clefs.any fun x=>x.At !=0):=qD (g:=F148) _ (by omega) (fun x _=>rfl)
  simp only[h1,hg,hw,h2,decide_true,if_true,Option.bind_some,aQ1]
 .simp only[Int.lt_irrefl,decide_false,Bool.false_eq_true,if_false]
theorem F42_eq (i:∀id,mget E id false=qE s id) {m:Zm} (d:m.sm):F42 m E=some (empB s m):=by
 unfold F42 Fn82 Fn151 F83 F83_2 F83_3 F83_4 F76 F77 F78 F80
 rw[F81_eq i d,F79_eq d]
 unfold empB
 simp only[Option.bind_some]
 generalize(m.Tempi.any fun x=>x.At !=0)=a
 generalize(m.Cells.any fun c=>c.Clefs.any fun x=>x.At !=0)=b
 generalize(m.Cells.any fun c=>c.Voices.any fun v=>v.Events.any (eY s))=c
 have e:(m.RepeatEnd !=0)= !(m.RepeatEnd==0):=rfl
 have f:(m.Endings !=0)= !(m.Endings==0):=rfl
 have g:(m.Jump !=0)= !(m.Jump==0):=rfl
 have h:(m.Labels !=0)= !(m.Labels==0):=rfl
 rw[e,f,g,h]
 generalize(m.RepeatEnd==0)=x1
 generalize(m.Endings==0)=x2
 generalize(m.Jump==0)=x3
 generalize(m.Labels==0)=x4
 generalize m.RepeatStart=x5
 cases x1<;>cases x2<;>cases x3<;>cases x4<;>cases x5<;>cases a<;>cases b<;>cases c<;>rfl
end
theorem F44_eq {s:Z0} (hs:s.sm) (id:Zz):F44 s id=some (qE s id):=by
 unfold F44
 have h:=hs.Spanners
 refine dI (dJ (fun x=>decide (id=x.From)||decide (id=x.To)) (l:=s.Spanners) (by omega) (fun i x h0 h1 a hg hw=>?_) ?_) ?_
 .simp only[h1,hg,hw,decide_true,if_true,Option.bind_some,hQ1,aQ1]
  cases(decide (id=x.From)||decide (id=x.To))<;>rfl
 .simp only[Int.lt_irrefl,decide_false,Bool.false_eq_true,if_false]
 .unfold qE
  cases s.Spanners.any (fun x=>decide (id=x.From)||decide (id=x.To))<;>rfl
def empS (s:Z0) (i:Int):Bool:=match lget s.Measures i with|some m=>empB s m|none=>false
theorem eJ {A:Type} {l:List A} {i:Int} (h:¬(0<=i/\i<(l.length:Int))):lget l i=none:=by
 cases e:lget l i with
 |none=>rfl
 |some x=>have:=bJ e;omega
theorem fS {A:Type} {l:List A} {i:Int} (h:0<=i/\i<(l.length:Int)):∃x,lget l i=some x:=(bE (Q:=fun _=>True) h.1 h.2 (fun _ _ _=>trivial)).ex
theorem F23_eq {s:Z0} (hs:s.sm) (i:Int):F23 s i=some (empS s i):=by
 unfold F23 empS
 by_cases hr:0<=i/\i<(s.Measures.length:Int)
 case neg=>
  rw[if_pos (by simp;omega),eJ hr]
 obtain⟨m,g⟩:=fS hr
 have sm:=hs.MeasuresE m (bJ g).2.2.1
 rw[if_neg (by simp;omega),g,Option.bind_some]
 show _=some (empB s m)
 unfold empB
 cases hc:(m.RepeatStart||m.RepeatEnd !=0||m.Endings !=0||m.Jump !=0||m.Labels !=0)with
 |true=>rfl
 |false=>
 simp only[Bool.false_eq_true,if_false,Bool.not_false,Bool.true_and]
 have p:=sm.Tempi
 have n:=sm.Cells
 refine dI (dJ (fun x=>x.At !=0) (l:=m.Tempi) (by omega) (fun j x h0 h1 d hg hw=>?_) ?_) ?_
 .simp only[h1,hg,hw,decide_true,if_true,Option.bind_some]
  cases(x.At !=0)<;>rfl
 .simp only[Int.lt_irrefl,decide_false,Bool.false_eq_true,if_false]
 cases m.Tempi.any (fun x=>x.At !=0)with
 |true=>simp only[if_true,Bool.not_true,Bool.false_and]
 |false=>
 simp only[Bool.false_eq_true,if_false,Bool.not_false,Bool.true_and]
 refine dI (dJ (fun c=>(c.Clefs.any fun x=>x.At !=0)||(c.Voices.any fun v=>v.Events.any (eY s))) (l:=m.Cells) (by omega) (fun j c h0 h1 d hg hw=>?_) ?_) ?_
 .simp only[h1,hg,hw,decide_true,if_true,Option.bind_some]
  have f:=sm.CellsE c d
  have o:=f.Clefs
  have q:=f.Voices
  refine dI (dJ (fun x=>x.At !=0) (l:=c.Clefs) (by omega) (fun j x h0 h1 d hg hw=>?_) ?_) ?_
  .simp only[h1,hg,hw,decide_true,if_true,Option.bind_some]
   cases(x.At !=0)<;>rfl
  .simp only[Int.lt_irrefl,decide_false,Bool.false_eq_true,if_false]
  cases c.Clefs.any (fun x=>x.At !=0)with
  |true=>rfl
  |false=>
  simp only[Bool.false_eq_true,if_false,Bool.false_or]
  refine dI (dJ (fun v=>v.Events.any (eY s)) (l:=c.Voices) (by omega) (fun j v h0 h1 d hg hw=>?_) ?_) ?_
  .simp only[h1,hg,hw,decide_true,if_true,Option.bind_some]
   have k:=f.VoicesE v d
   have h:=k.Events
   refine dI (dJ (eY s) (l:=v.Events) (by omega) (fun j e h0 h1 d hg hw=>?_) ?_) ?_
   .simp only[h1,hg,hw,decide_true,if_true,Option.bind_some,F44_eq hs,aQ1]
    unfold eY
    cases(((decide ((e.Heads.length:Int)>0)||(e.Dynamic !=0))||(e.Articulations !=0))||qE s e.ID)<;>rfl
   .simp only[Int.lt_irrefl,decide_false,Bool.false_eq_true,if_false]
   .cases v.Events.any (eY s)<;>rfl
  .simp only[Int.lt_irrefl,decide_false,Bool.false_eq_true,if_false]
  .cases c.Voices.any (fun v=>v.Events.any (eY s))<;>rfl
 .simp only[Int.lt_irrefl,decide_false,Bool.false_eq_true,if_false]
 .have e:(m.Cells.any fun c=>(c.Clefs.any fun x=>x.At !=0)||(c.Voices.any fun v=>v.Events.any (eY s)))=((m.Cells.any fun c=>c.Clefs.any fun x=>x.At !=0)||(m.Cells.any fun c=>c.Voices.any fun v=>v.Events.any (eY s))):=by
   induction m.Cells with
   |nil=>rfl
   |cons c r ih=>
    simp only[List.any_cons,ih]
    generalize(c.Clefs.any fun x=>x.At !=0)=a
    generalize(c.Voices.any fun v=>v.Events.any (eY s))=b
    cases a<;>cases b<;>simp
  rw[e]
  cases(m.Cells.any fun c=>c.Clefs.any fun x=>x.At !=0)<;>cases(m.Cells.any fun c=>c.Voices.any fun v=>v.Events.any (eY s))<;>rfl
def joiB (a b:Zm):Bool:=(((((((((a.Metre.Count==b.Metre.Count)&&((a.Metre.Unit==b.Metre.Unit)&&((a.Metre.Groups.c0==b.Metre.Groups.c0)&&((a.Metre.Groups.c1==b.Metre.Groups.c1)&&((a.Metre.Groups.c2==b.Metre.Groups.c2)&&((a.Metre.Groups.c3==b.Metre.Groups.c3)&&((a.Metre.Groups.c4==b.Metre.Groups.c4)&&((a.Metre.Groups.c5==b.Metre.Groups.c5)&&true))))))))!=false)&&(a.Length==b.Length))&&(a.Fifths==b.Fifths))&&((b.Tempi.length:Int)==0))&&(!(b.Cells.any fun c=>decide ((c.Clefs.length:Int)>0))))&&(b.Swing==0))&&(b.Break==0))&&(b.Rehearsal.toList==(⟨#[]⟩:ByteArray).toList)
def joiS (s:Z0) (i:Int):Bool:=match lget s.Measures (i-1),lget s.Measures i with|some a,some b=>joiB a b|_,_=>false
theorem F45_eq {s:Z0} (hs:s.sm) {i:Int} (h0:0<=i) (h1:i<(s.Measures.length:Int)):F45 s i=some (joiS s i):=by
 unfold F45 joiS
 have f:=hs.Measures
 by_cases hi:i=0
 .rw [if_pos (by simp[hi]),eJ (by omega)]
 rw[if_neg (by simp[hi]),aV (by omega) (by omega)]
 obtain⟨a,d⟩:=fS (l:=s.Measures) (i:=i-1) (by omega)
 obtain⟨b,hb⟩:=fS (l:=s.Measures) (i:=i) (by omega)
 rw[d,hb]
 have e:=(hs.MeasuresE b (bJ hb).2.2.1).Cells
 have h2:F84_3 b.Cells=some (b.Cells.any fun c=>decide ((c.Clefs.length:Int)>0)):=qD (g:=F85) _ (by omega) (fun x _=>rfl)
 simp only[Option.bind_some,h2]
 rfl
theorem F25_eq {s:Z0} (hs:s.sm) (i:Int):F25 s i=some (joiS s i):=by
 unfold F25 joiS
 have f:=hs.Measures
 by_cases hr:1<=i/\i<(s.Measures.length:Int)
 case neg=>
  rw[if_pos (by simp;omega)]
  by_cases h:0<=i/\i<(s.Measures.length:Int)
  .rw [eJ (i:=i-1) (by omega)]
  .rw [eJ h];cases lget s.Measures (i-1)<;>rfl
 rw[if_neg (by simp;omega),aV (by omega) (by omega)]
 obtain⟨a,d⟩:=fS (l:=s.Measures) (i:=i-1) (by omega)
 obtain⟨b,hb⟩:=fS (l:=s.Measures) (i:=i) (by omega)
 rw[d,hb]
 simp only[Option.bind_some]
 have e:=(hs.MeasuresE b (bJ hb).2.2.1).Cells
 refine dI (dJ (fun c=>decide ((c.Clefs.length:Int)>0)) (l:=b.Cells) (by omega) (fun j c h0 h1 g hg hw=>?_) ?_) ?_
 .simp only[h1,hg,hw,decide_true,if_true,Option.bind_some]
  cases decide ((c.Clefs.length:Int)>0)<;>rfl
 .simp only[Int.lt_irrefl,decide_false,Bool.false_eq_true,if_false]
 .unfold joiB
  cases(b.Cells.any fun c=>decide ((c.Clefs.length:Int)>0))with
  |true=>simp only[if_true,Bool.not_true,Bool.and_false,Bool.false_and]
  |false=>simp only[Bool.false_eq_true,if_false,Bool.not_false,Bool.and_true]
end Go.P
namespace Go.P
section
variable (e j:Nat->Bool) (n:Nat)
def nxt (t:Nat):Nat:=if t<n/\(e t&&j t)=true then nxt (t+1)else t
termination_by n-t
decreasing_by omega
def til (i:Nat):Nat:=if e i then nxt e j n (i+1)else i+1
theorem jP (t:Nat):t<=nxt e j n t/\(t<=n->nxt e j n t<=n)/\(∀k,t<=k->k<nxt e j n t->e k=true/\j k=true)/\¬(nxt e j n t<n/\(e (nxt e j n t)&&j (nxt e j n t))=true):=by
 rw[nxt]
 split
 .rename_i h
  have ih:=jP (t+1)
  refine⟨by omega,fun _=>ih.2.1 (by omega),fun k h1 h2=>?_,ih.2.2.2⟩
  by_cases hk:k=t
  .subst hk;simpa using h.2
  .exact ih.2.2.1 k (by omega) h2
 .rename_i h
  exact⟨Nat.le_refl _,fun h=>h,fun k h1 h2=>by omega,h⟩
termination_by n-t
decreasing_by omega
theorem oQ (i:Nat):i<til e j n i:=by
 unfold til
 split
 .have:=(jP e j n (i+1)).1;omega
 .omega
theorem vZ {i:Nat} (h:i<n):til e j n i<=n:=by
 unfold til
 split
 .exact (jP e j n (i+1)).2.1 (by omega)
 .omega
def vl (i:Nat):List Zr:=if i<n then⟨(i:Int),((til e j n i-i:Nat):Int)⟩::vl (til e j n i)else[]
termination_by n-i
decreasing_by have:=oQ e j n i;omega
def Tile:Nat->List Zr->Nat->Prop
 |a,[],b=>a=b
 |a,r::L,b=>r.First=(a:Int)/\1<=r.Count/\Tile (a+r.Count.toNat) L b
theorem aS1 (i:Nat) (h:i<=n):Tile i (vl e j n i) n:=by
 rw[vl]
 split
 .rename_i hi
  have h1:=oQ e j n i
  have h2:=vZ e j n hi
  refine⟨rfl,by dsimp only;omega,?_⟩
  dsimp only
  rw[show i+((til e j n i-i:Nat):Int).toNat=til e j n i by omega]
  exact aS1 _ h2
 .show i=n;omega
termination_by n-i
decreasing_by omega
end
theorem dQ:∀{a b:Nat} {L:List Zr},Tile a L b->a+L.length<=b
 |a,b,[],h=>by have h:a=b:=h;simp;omega
 |a,b,r::L,h=>by
  obtain⟨h1,h2,c⟩:=h
  have:=dQ c
  rw[List.length_cons];omega
theorem iB:∀{a b:Nat} {L:List Zr},Tile a L b->∀r∈L,(a:Int)<=r.First/\1<=r.Count/\r.First+r.Count<=(b:Int)
 |a,b,[],h,r,hr=>(List.not_mem_nil hr).elim
 |a,b,x::L,h,r,hr=>by
  obtain⟨h1,h2,c⟩:=h
  have hl:=dQ c
  rcases List.mem_cons.1 hr with rfl|hr
  .omega
  .have:=iB c r hr;omega
theorem qF:∀{a b:Nat} {L1 L2:List Zr},Tile a (L1++L2) b->∃m,Tile a L1 m/\Tile m L2 b
 |a,b,[],L2,h=>⟨a,rfl,h⟩
 |a,b,r::L1,L2,h=>by
  obtain⟨h1,h2,c⟩:=h
  obtain⟨m,d,e⟩:=qF (L1:=L1) c
  exact⟨m,⟨h1,h2,d⟩,e⟩
theorem oR:∀{a b:Nat} {L:List Zr},Tile a L b->∀x:Int,(a:Int)<=x->x<(b:Int)->∃r∈L,r.First<=x/\x<r.First+r.Count
 |a,b,[],h,x,h0,h1=>by have h:a=b:=h;omega
 |a,b,r::L,h,x,h0,h1=>by
  obtain⟨f,g,e⟩:=h
  by_cases d:x<r.First+r.Count
  .exact ⟨r,by simp,by omega,d⟩
  .obtain ⟨q,c,h2⟩:=oR e x (by omega) h1
   exact⟨q,by simp[c],h2⟩
theorem aT1 {a b:Nat} {L1 L2:List Zr} {r:Zr} (h:Tile a (L1++r::L2) b) {q:Zr} (c:q∈L1++r::L2) {x:Int} (h1:r.First<=x) (h2:x<r.First+r.Count) (f:q.First<=x) (g:x<q.First+q.Count):q=r:=by
 obtain⟨m,d,i,j,e⟩:=qF h
 rcases List.mem_append.1 c with c|c
 .have:=iB d q c;omega
 .rcases List.mem_cons.1 c with rfl|c
  .rfl
  .have:=iB e q c;omega
theorem sO:∀{a b:Nat} {L:List Zr},Tile a L b->L.Pairwise (fun p q=>p.First+p.Count<=q.First)
 |a,b,[],h=>.nil
 |a,b,r::L,h=>by
  obtain⟨h1,h2,c⟩:=h
  refine .cons (fun q d=>?_) (sO c)
  have:=iB c q d;omega
theorem sP {h:Zr}:∀{a b:Nat} {L:List Zr},Tile a L b->h.First=(b:Int)->1<=h.Count->Tile a (L++[h]) (b+h.Count.toNat)
 |a,b,[],h1,h2,h3=>by have h1:a=b:=h1;subst h1;exact⟨h2,h3,rfl⟩
 |a,b,r::L,h1,h2,h3=>⟨h1.1,h1.2.1,sP h1.2.2 h2 h3⟩
def two (l:List Zr):List Zr:=l.filter fun r=>decide (2<=r.Count)
section
variable (s:Z0)
def eN (i:Nat):Bool:=empS s (i:Int)
def jN (i:Nat):Bool:=joiS s (i:Int)
def V:List Zr:=vl (eN s) (jN s) s.Measures.length 0
end
variable {s:Z0}
theorem iI:Tile 0 (V s) s.Measures.length:=aS1 _ _ _ 0 (Nat.zero_le _)
theorem fT1 {i:Nat} (h:eN s i=true):i<s.Measures.length:=by
 unfold eN empS at h
 split at h
 .rename_i m a;have:=bJ a;omega
 .cases h
theorem sQ (hs:s.sm):Ok (Fn58 [] s) (fun v=>v=two (V s)):=by
 have z:=hs.Measures
 unfold Fn58
 refine Ob (F43_ok hs) fun E r=>?_
 refine Ob (P:=fun v=>v=two (V s)) (cQ (fun q=>∃k:Nat,q.1=(k:Int)/\k<=s.Measures.length/\q.2.length<=k/\q.2++two (vl (eN s) (jN s) s.Measures.length k)=two (V s)) (fun q=>s.Measures.length-q.1.toNat) (fun q j=>?_) B64 (0,[]) ⟨0,rfl,Nat.zero_le _,Nat.zero_le _,rfl⟩ (by simp only[B64];omega)) fun v hv=>.mk hv
 obtain⟨i,l⟩:=q
 obtain⟨k,rfl,hk,hlen,e⟩:=j
 dsimp only at hlen e ⊢
 refine Oi (fun hc=>?_) (fun hc=>?_)
 case refine_2=>
  refine .mk ?_
  simp only[decide_eq_true_eq]at hc
  rw[vl,if_neg (by omega)]at e
  simpa[two]using e
 simp only[decide_eq_true_eq]at hc
 have hk:k<s.Measures.length:=by omega
 rw[vl,if_pos hk]at e
 have w:=oQ (eN s) (jN s) s.Measures.length k
 have g2:=vZ (eN s) (jN s) s.Measures.length hk
 refine Ob (P:=fun q=>if eN s k then q=(((til (eN s) (jN s) s.Measures.length k:Nat):Int),((til (eN s) (jN s) s.Measures.length k-k:Nat):Int))else q=((k:Int),0))
  (cQ (fun q=>∃t:Nat,q=((t:Int),((t-k:Nat):Int))/\t<=s.Measures.length/\(t=k\/(k<t/\eN s k=true/\nxt (eN s) (jN s) s.Measures.length (k+1)=nxt (eN s) (jN s) s.Measures.length t))) (fun q=>s.Measures.length-q.1.toNat) (fun q j=>?_) B64 ((k:Int),0) ⟨k,by simp,by omega,.inl rfl⟩ (by simp only[B64];omega)) fun⟨x,c⟩ f=>?_
 .obtain ⟨t,rfl,A,d⟩:=j
  dsimp only
  refine Ob (P:=fun b=>b=(decide (t<s.Measures.length)&&eN s t)) (Oi (fun hd=>?_) (fun hd=>.mk ?_)) fun b hb=>?_
  .simp only[decide_eq_true_eq]at hd
   obtain⟨m,g⟩:=fS (l:=s.Measures) (i:=(t:Int)) (by omega)
   rw[g,Option.bind_some,F42_eq r (hs.MeasuresE m (bJ g).2.2.1)]
   refine .mk ?_
   rw[decide_eq_true (by omega:t<s.Measures.length)]
   unfold eN empS;rw[g];rfl
  .simp only[decide_eq_true_eq]at hd
   rw[decide_eq_false (by omega:¬t<s.Measures.length)];rfl
  subst hb
  refine Ob (P:=fun b=>b=((decide (t<s.Measures.length)&&eN s t)&&(decide (t=k)||jN s t))) (Oi (fun hd=>?_) (fun hd=>.mk ?_)) fun b hb=>?_
  .simp only[Bool.and_eq_true,decide_eq_true_eq]at hd
   rw[decide_eq_true hd.1,hd.2]
   refine Ob (P:=fun b=>b=(decide (t=k)||jN s t)) (Oi (fun h0=>.mk ?_) (fun h0=>?_)) fun b hb=>.mk (by rw[hb];rfl)
   .simp only[beq_iff_eq]at h0
    rw[decide_eq_true (by omega:t=k)];rfl
   .simp only[beq_iff_eq]at h0
    rw[F45_eq hs (by omega) (by omega)]
    refine .mk ?_
    rw[decide_eq_false (by omega:¬t=k)];rfl
  .simp only[Bool.not_eq_true]at hd
   rw[hd];rfl
  subst hb
  refine Oi (fun hd=>?_) (fun hd=>?_)
  .simp only[Bool.and_eq_true,Bool.or_eq_true,decide_eq_true_eq]at hd
   rw[aV (n:=(t:Int)+1) (by omega) (by omega),aV (by omega) (by omega)]
   refine .mk ⟨⟨t+1,by rw[show((t+1-k:Nat):Int)=((t-k:Nat):Int)+1 by omega];rfl,by omega,.inr ⟨by omega,?_,?_⟩⟩,by dsimp only;omega⟩
   .rcases d with h|h
    .rw [<-h];exact hd.1.2
    .exact h.2.1
   .rcases d with h|h
    .rw [h]
    .rw [h.2.2]
     conv=>lhs;rw[nxt]
     rw[if_pos ⟨hd.1.1,by rw[hd.1.2];rcases hd.2 with h2|h2;omega;exact h2⟩]
  .refine .mk ?_
   dsimp only
   by_cases a:eN s k=true
   .rw [if_pos a]
    have u:k<t:=by
     rcases d with h|h
     .exfalso;apply hd;subst h;rw[a,decide_eq_true hk];simp
     .exact h.1
    have p:til (eN s) (jN s) s.Measures.length k=t:=by
     unfold til
     rw[if_pos a]
     rcases d with h|h
     .omega
     rw[h.2.2,nxt,if_neg]
     rintro⟨q1,q2⟩
     apply hd
     simp only[Bool.and_eq_true]at q2
     rw[decide_eq_true q1,q2.1,q2.2];simp
    rw[p]
   .rw [if_neg a]
    rcases d with h|h
    .subst h;simp
    .exact absurd h.2.1 a
 .dsimp only
  have key:(if eN s k then(((til (eN s) (jN s) s.Measures.length k:Nat):Int),((til (eN s) (jN s) s.Measures.length k-k:Nat):Int))else((k:Int),0))=(x,c):=by
   by_cases a:eN s k=true
   .rw [if_pos a]at f ⊢;exact f.symm
   .rw [if_neg a]at f ⊢;exact f.symm
  clear f
  refine Oi (fun hd=>?_) (fun hd=>?_)
  .simp only[decide_eq_true_eq]at hd
   have a:eN s k=true:=by
    by_cases a:eN s k=true
    .exact a
    .rw [if_neg a]at key;cases key;omega
   rw[if_pos a]at key
   cases key
   unfold Fy57_4
   refine Ob (P:=fun v=>v=l++[⟨(k:Int),((til (eN s) (jN s) s.Measures.length k-k:Nat):Int)⟩]) (Ob (bX (Q:=fun v=>v=l++[⟨(k:Int),((til (eN s) (jN s) s.Measures.length k-k:Nat):Int)⟩]) (by omega) rfl) fun v hv=>.mk hv) fun v hv=>?_
   refine Ob (P:=fun v=>v=((til (eN s) (jN s) s.Measures.length k:Nat):Int)) (Oi (fun h0=>absurd h0 (by simp;omega)) (fun _=>.mk rfl)) fun y hy=>?_
   subst hv;subst hy
   refine .mk ⟨⟨til (eN s) (jN s) s.Measures.length k,rfl,g2,by rw[List.length_append];simp;omega,?_⟩,by dsimp only;omega⟩
   rw[<-e]
   dsimp only
   unfold two
   rw[List.filter_cons_of_pos (by simpa using hd),List.append_assoc]
   rfl
  .simp only[decide_eq_true_eq]at hd
   have o:til (eN s) (jN s) s.Measures.length k=k+1:=by
    by_cases a:eN s k=true
    .rw [if_pos a]at key;cases key;omega
    .unfold til;rw[if_neg a]
   refine Ob (P:=fun v=>v=((k+1:Nat):Int)) (Oi (fun h0=>?_) (fun h0=>?_)) fun y hy=>?_
   .simp only[beq_iff_eq]at h0
    have:x=(k:Int):=by
     by_cases a:eN s k=true
     .rw [if_pos a]at key;cases key;omega
     .rw [if_neg a]at key;cases key;rfl
    rw[this,aV (by omega) (by omega)]
    exact .mk (by omega)
   .simp only[beq_iff_eq]at h0
    have:x=((k+1:Nat):Int):=by
     by_cases a:eN s k=true
     .rw [if_pos a,o]at key;cases key;rfl
     .rw [if_neg a]at key;cases key;omega
    exact .mk this
   subst hy
   refine .mk ⟨⟨k+1,rfl,by omega,by dsimp only;omega,?_⟩,by dsimp only;omega⟩
   rw[<-e,o]
   unfold two
   rw[List.filter_cons_of_neg (by simp)]
theorem xH (hs:s.sm):Ok (Fn58_2 [] s) (fun v=>v=two (V s)):=sQ hs
theorem Fn35_eq (hs:s.sm):Fn35 s=some (two (V s)):=by
 unfold Fn35 Fn57
 rw[(sQ hs).eq];rfl
theorem Fn35_2_eq (hs:s.sm):Fn35_2 s=some (two (V s)):=by
 unfold Fn35_2 Fn57_2
 rw[(xH hs).eq];rfl
theorem F17_eq (hs:s.sm):F17 s=some (two (V s)):=by
 have m:=hs.Measures
 unfold F17
 refine Ok.eq (Ob (P:=fun v=>v=two (V s)) (cQ (fun q=>∃k:Nat,q.1=(k:Int)/\k<=s.Measures.length/\q.2.length<=k/\q.2++two (vl (eN s) (jN s) s.Measures.length k)=two (V s)) (fun q=>s.Measures.length-q.1.toNat) (fun q d=>?_) B64 (0,[]) ⟨0,rfl,Nat.zero_le _,Nat.zero_le _,rfl⟩ (by simp only[B64];omega)) fun v hv=>.mk hv)
 obtain⟨i,l⟩:=q
 obtain⟨k,rfl,hk,hlen,b⟩:=d
 dsimp only at hlen b ⊢
 refine Oi (fun hc=>?_) (fun hc=>?_)
 case refine_2=>
  refine .mk ?_
  simp only[decide_eq_true_eq]at hc
  rw[vl,if_neg (by omega)]at b
  simpa[two]using b
 simp only[decide_eq_true_eq]at hc
 have hk:k<s.Measures.length:=by omega
 rw[vl,if_pos hk]at b
 have j:=oQ (eN s) (jN s) s.Measures.length k
 have g2:=vZ (eN s) (jN s) s.Measures.length hk
 have hw:w64 ((k:Int)+1)=((k+1:Nat):Int):=by rw[aV (by omega) (by omega)];omega
 rw[hw]
 refine Ob (P:=fun x=>x=((til (eN s) (jN s) s.Measures.length k:Nat):Int))
  (cQ (fun x=>∃t:Nat,x=(t:Int)/\k<t/\t<=s.Measures.length/\(eN s k=true->nxt (eN s) (jN s) s.Measures.length (k+1)=nxt (eN s) (jN s) s.Measures.length t)/\(eN s k=false->t=k+1)) (fun x=>s.Measures.length-x.toNat) (fun q d=>?_) B64 ((k+1:Nat):Int) ⟨k+1,rfl,by omega,by omega,fun _=>rfl,fun _=>rfl⟩ (by simp only[B64];omega)) fun x h=>?_
 .obtain ⟨t,rfl,g,n,h1,h2⟩:=d
  rw[F23_eq hs,F23_eq hs,F25_eq hs]
  simp only[Option.bind_some,uI]
  refine Oi (fun hd=>?_) (fun hd=>?_)
  .simp only[Bool.and_eq_true]at hd
   have e:t<s.Measures.length:=fT1 (s:=s) hd.1.2
   rw[aV (by omega) (by omega)]
   refine .mk ⟨⟨t+1,by omega,by omega,by omega,fun he=>?_,fun he=>?_⟩,by omega⟩
   .rw [h1 he]
    conv=>lhs;rw[nxt]
    rw[if_pos ⟨e,by show(empS s t&&joiS s t)=true;rw[hd.1.2,hd.2];rfl⟩]
   .have:eN s k=true:=hd.1.1
    rw[this]at he;cases he
  .refine .mk ?_
   unfold til
   by_cases a:eN s k=true
   .rw [if_pos a,h1 a,nxt,if_neg]
    rintro⟨q1,q2⟩
    apply hd
    have c:empS s (k:Int)=true:=a
    simp only[Bool.and_eq_true]at q2 ⊢
    exact⟨⟨c,q2.1⟩,q2.2⟩
   .rw [if_neg a]
    rw[h2 (by simpa using a)]
 .subst h
  have f:w64 (((til (eN s) (jN s) s.Measures.length k:Nat):Int)-(k:Int))=((til (eN s) (jN s) s.Measures.length k-k:Nat):Int):=by
   rw[aV (by omega) (by omega)];omega
  rw[f]
  refine Ob (P:=fun v=>v.length<=l.length+1/\v++two (vl (eN s) (jN s) s.Measures.length (til (eN s) (jN s) s.Measures.length k))=two (V s)) (Oi (fun hd=>?_) (fun hd=>.mk ?_)) fun v hv=>?_
  .simp only[decide_eq_true_eq]at hd
   refine Ob (bX (Q:=fun v=>v=l++[⟨(k:Int),((til (eN s) (jN s) s.Measures.length k-k:Nat):Int)⟩]) (by omega) rfl) fun v hv=>.mk ?_
   subst hv
   refine⟨by simp,?_⟩
   rw[<-b]
   unfold two
   rw[List.filter_cons_of_pos (by simpa using hd),List.append_assoc]
   rfl
  .simp only[decide_eq_true_eq]at hd
   refine⟨by omega,?_⟩
   rw[<-b]
   unfold two
   rw[List.filter_cons_of_neg (by simp;omega)]
  .exact .mk ⟨⟨til (eN s) (jN s) s.Measures.length k,rfl,g2,by dsimp only;omega,hv.2⟩,by dsimp only;omega⟩
end Go.P
namespace Go.P
variable {s:Z0}
def FD (l:List Zr) (x:Int) (v:Zr×Bool):Prop:=
 (v.2=true/\v.1∈l/\v.1.First<=x/\x<v.1.First+v.1.Count)\/(v=(⟨0,0⟩,false)/\∀r∈l,¬(r.First<=x/\x<r.First+r.Count))
def aU1 (l:List Zr):Prop:=l.length<=10/\∀r∈l,0<=r.First/\1<=r.Count/\r.First+r.Count<=10
theorem F40_eq {r:Zr} {x:Int} (h:0<=r.First/\1<=r.Count/\r.First+r.Count<=10) (h0:0<=x) (h1:x<=10):F40 r x=some (decide (r.First<=x/\x<r.First+r.Count)):=by
 unfold F40
 rw[aV (by omega) (by omega)]
 by_cases a:r.First<=x<;>by_cases b:x<r.First+r.Count
 .rw [decide_eq_true (by omega:x>=r.First),decide_eq_true (by omega:x-r.First<r.Count),decide_eq_true ⟨a,b⟩];rfl
 .rw [decide_eq_true (by omega:x>=r.First),decide_eq_false (by omega:¬x-r.First<r.Count),decide_eq_false (by omega)];rfl
 .rw [decide_eq_false (by omega:¬x>=r.First),decide_eq_false (by omega:¬(r.First<=x/\x<r.First+r.Count))];rfl
 .rw [decide_eq_false (by omega:¬x>=r.First),decide_eq_false (by omega:¬(r.First<=x/\x<r.First+r.Count))];rfl
theorem F20_ok {l:List Zr} {x:Int} (hl:aU1 l) (h0:0<=x) (h1:x<=10):Ok (F20 l x) (FD l x):=by
 unfold F20
 have hlen:=hl.1
 have e:F39 l x=idxF l (fun r=>F40 r x):=rfl
 rw[e]
 refine Ob (uG (l:=l) (by omega) (fun r hr=>⟨_,F40_eq (hl.2 r hr) h0 h1⟩)) fun v hv=>?_
 rcases hv with⟨rfl,h⟩|⟨h2,h3,r,hr,hp⟩
 .refine Oi (fun _=>.mk (.inr ⟨rfl,fun r hr=>?_⟩)) (fun hc=>absurd (by decide) hc)
  have:=h r hr
  rw[F40_eq (hl.2 r hr) h0 h1]at this
  simpa using this
 .refine Oi (fun hc=>by simp at hc;omega) (fun _=>?_)
  refine Ob (bE (Q:=fun q=>q=r) h2 h3 (fun q _ a=>by rw[hr]at a;cases a;rfl)) fun q a=>?_
  subst a
  have b:=List.mem_of_getElem? hr
  rw[F40_eq (hl.2 q b) h0 h1]at hp
  exact .mk (.inl ⟨rfl,b,by simpa using hp⟩)
theorem F21_ok {l:List Zr} {x:Int} (hl:aU1 l) (h0:0<=x) (h1:x<=10):Ok (F21 l x) (FD l x):=by
 unfold F21
 have hlen:=hl.1
 refine Ob (P:=fun r=>match r with|.inl r=>r∈l/\r.First<=x/\x<r.First+r.Count|.inr _=>∀r∈l,¬(r.First<=x/\x<r.First+r.Count))
  (gU (l:=l) (fun r=>¬(r.First<=x/\x<r.First+r.Count)) (by omega) (fun i r c b hr hg hw=>?_) (fun i hi a=>?_)) fun r hr=>?_
 .simp only[b,hg,hw,decide_true,if_true,Option.bind_some,uI]
  have k:=hl.2 r hr
  rw[aV (by omega) (by omega)]
  refine Oi (fun hc=>.mk ?_) (fun hc=>.mk ⟨rfl,?_⟩)<;>simp only[Bool.and_eq_true,decide_eq_true_eq]at hc
  .exact ⟨hr,by omega,by omega⟩
  .omega
 .simp only[hi,Int.lt_irrefl,decide_false,Bool.false_eq_true,if_false]
  exact .mk a
 .rcases r with r|_
  .exact .mk (.inl ⟨rfl,hr⟩)
  .exact .mk (.inr ⟨rfl,hr⟩)
theorem okV (hs:s.sm):aU1 (two (V s)):=by
 have h:=iI (s:=s)
 have h1:=dQ h
 have a:=hs.Measures
 refine⟨Nat.le_trans (List.length_filter_le _ _) (by unfold V at h1 ⊢;omega),fun r hr=>?_⟩
 have:=iB h r (List.mem_filter.1 hr).1
 omega
theorem fU1 {L1 L2:List Zr} {r:Zr} {x:Int} {v:Zr×Bool} (f:V s=L1++r::L2) (h1:r.First<=x) (h2:x<r.First+r.Count) (hv:FD (two (V s)) x v):if 2<=r.Count then v=(r,true)else v=(⟨0,0⟩,false):=by
 have g:=iI (s:=s)
 rw[f]at g
 rcases hv with⟨a,b,c,d⟩|⟨a,b⟩
 .have hb:=List.mem_filter.1 b
  rw[f]at hb
  have:=aT1 g hb.1 h1 h2 c d
  have e:=hb.2
  rw[this]at e
  rw[if_pos (by simpa using e)]
  obtain⟨v1,v2⟩:=v
  dsimp only at a this
  rw[a,this]
 .split
  .rename_i e
   exact absurd ⟨h1,h2⟩ (b r (List.mem_filter.2 ⟨by rw[f];simp,by simpa using e⟩))
  .exact a
theorem F37_eq (hs:s.sm):F37 s=some ((V s).map (·.First),(V s).map (·.Count)):=by
 have l:=hs.Measures
 unfold F37
 rw[Fn35_2_eq hs]
 refine Ok.eq (Ob (P:=fun _=>True) (.mk trivial) fun _ _=>?_)
 rw[Option.bind_some]
 refine Ob (P:=fun v=>v=((V s).map (·.Count),(V s).map (·.First))) (cQ (fun q=>∃(m:Nat) (L1 L2:List Zr),V s=L1++L2/\q=((m:Int),L1.map (·.Count),L1.map (·.First))/\Tile m L2 s.Measures.length) (fun q=>s.Measures.length-q.1.toNat) (fun q j=>?_) B64 (0,[],[]) ⟨0,[],V s,rfl,rfl,iI⟩ (by simp only[B64];omega)) fun⟨a,b⟩ hv=>by cases hv;exact .mk rfl
 obtain⟨m,L1,L2,d,rfl,e⟩:=j
 dsimp only
 have hlen:L1.length<=10:=by
  have:=dQ (iI (s:=s))
  rw[d,List.length_append]at this
  omega
 refine Oi (fun hc=>?_) (fun hc=>?_)<;>simp only[decide_eq_true_eq]at hc
 .cases L2 with
  |nil=>have e:m=s.Measures.length:=e;omega
  |cons h L2=>
   obtain⟨g,k,f⟩:=e
   have hl:=dQ f
   refine Ob (F20_ok (okV hs) (by omega) (by omega)) fun⟨v1,v2⟩ hv=>?_
   have hv:=fU1 d (by omega) (by omega) hv
   refine Ob (P:=fun c=>c=h.Count) (Oi (fun hd=>.mk ?_) (fun hd=>.mk ?_)) fun c hc=>?_
   .split at hv
    .cases hv;rfl
    .cases hv;cases hd
   .split at hv
    .cases hv;exact absurd rfl hd
    .omega
   subst hc
   refine Ob (bX (Q:=fun v=>v=L1.map (·.First)++[(m:Int)]) (by rw[List.length_map];omega) rfl) fun a i=>?_
   refine Ob (bX (Q:=fun v=>v=L1.map (·.Count)++[h.Count]) (by rw[List.length_map];omega) rfl) fun b hb=>?_
   subst i;subst hb
   rw[aV (by omega) (by omega)]
   refine .mk ⟨⟨m+h.Count.toNat,L1++[h],L2,by rw[d];simp,?_,f⟩,by dsimp only;omega⟩
   rw[List.map_append,List.map_append,show((m+h.Count.toNat:Nat):Int)=(m:Int)+h.Count by omega,<-g]
   rfl
 .cases L2 with
  |nil=>rw[d,List.append_nil];exact .mk rfl
  |cons h L2=>
   obtain⟨g,k,f⟩:=e
   have hl:=dQ f
   omega
theorem F18_eq (hs:s.sm):F18 s=some ((V s).map (·.First),(V s).map (·.Count)):=by
 have H:=hs.Measures
 unfold F18
 rw[F17_eq hs,Option.bind_some]
 refine Ok.eq (Ob (P:=fun v=>v=((V s).map (·.Count),(V s).map (·.First))) (aP (l:=s.Measures) (fun q=>q.1) (fun i q=>∃(m:Nat) (L1 L2:List Zr),V s=L1++L2/\q.2=(L1.map (·.Count),L1.map (·.First))/\Tile 0 L1 m/\Tile m L2 s.Measures.length/\i<=m/\∀r∈L1,r.First<(i:Int)) (by omega) rfl ⟨0,[],V s,rfl,rfl,rfl,iI,Nat.le_refl _,fun r hr=>(List.not_mem_nil hr).elim⟩ (fun i e q K J hi hl t hg hw=>?_) (fun q hi t=>?_)) fun⟨a,b⟩ hv=>by cases hv;exact .mk rfl)
 .obtain ⟨x,q⟩:=q
  obtain⟨m,L1,L2,d,h2,o,f,w,c⟩:=t
  dsimp only at hi hl hg hw h2
  subst h2
  simp only[hl,decide_true,if_true]
  have hlen:L1.length<=10:=by
   have:=dQ (iI (s:=s))
   rw[d,List.length_append]at this
   omega
  subst hi
  refine Ob (F21_ok (okV hs) (by omega) (by omega)) fun⟨v1,v2⟩ hv=>?_
  by_cases y:m=i
  .subst y
   cases L2 with
   |nil=>have f:m=s.Measures.length:=f;omega
   |cons h L2=>
    obtain⟨k,z,n⟩:=f
    have D:=dQ n
    have hv:=fU1 d (by omega) (by omega) hv
    have j:¬(v2&&(v1.First !=(m:Int)))=true:=by
     split at hv<;>cases hv
     .simp [k]
     .simp
    have g:(if v1.Count>1 then v1.Count else 1)=h.Count:=by
     split at hv
     .cases hv;rw[if_pos (by omega)]
     .cases hv;rw[if_neg (by decide)];omega
    refine Oi (fun hd=>absurd hd j) (fun _=>?_)
    rw[g]
    refine Ob (bX (Q:=fun v=>v=L1.map (·.First)++[(m:Int)]) (by rw[List.length_map];omega) rfl) fun a C=>?_
    refine Ob (bX (Q:=fun v=>v=L1.map (·.Count)++[h.Count]) (by rw[List.length_map];omega) rfl) fun b hb=>?_
    subst C;subst hb
    refine .mk ⟨hw,m+h.Count.toNat,L1++[h],L2,by rw[d];simp,?_,?_,n,by omega,fun r hr=>?_⟩
    .rw [List.map_append,List.map_append,<-k];rfl
    .obtain ⟨L,q1,q2⟩:=qF (L1:=L1) (L2:=h::L2) (by rw[<-d];exact iI)
     have:Tile 0 (L1++[h]) (m+h.Count.toNat):=sP o k z
     exact this
    .rcases List.mem_append.1 hr with hr|hr
     .have:=c r hr;omega
     .rw [List.mem_singleton]at hr;subst hr;omega
  .obtain ⟨r,hr,F,G⟩:=oR o (i:Int) (by omega) (by omega)
   obtain⟨A,B,p⟩:=List.append_of_mem hr
   have u:V s=A++r::(B++L2):=by rw[d,p];simp
   have hv:=fU1 u F G hv
   have hf:=c r hr
   rw[if_pos (by omega)]at hv
   cases hv
   refine Oi (fun _=>.mk ⟨hw,m,L1,L2,d,rfl,o,f,by omega,fun q E=>by have:=c q E;omega⟩) (fun hd=>absurd (by simp;omega) hd)
 .obtain ⟨x,q⟩:=q
  obtain⟨m,L1,L2,d,h2,o,f,w,c⟩:=t
  dsimp only at hi h2
  subst h2
  simp only[hi,Int.lt_irrefl,decide_false,Bool.false_eq_true,if_false]
  cases L2 with
  |nil=>rw[d,List.append_nil];exact .mk rfl
  |cons h L2=>
   obtain⟨k,z,n⟩:=f
   have hl:=dQ n
   omega
theorem F19_eq {l:List Int} (hl:l.length<=10):F19 l l=some true:=by
 unfold F19
 rw[if_neg (by simp)]
 refine dI (dJ (fun _=>false) (l:=l) (by omega) (fun i x h0 h1 a hg hw=>?_) ?_) ?_
 .simp only[h1,hg,hw,decide_true,if_true,Option.bind_some]
  rw[if_neg (by simp)]
  simp
 .simp only[Int.lt_irrefl,decide_false,Bool.false_eq_true,if_false]
 .have:(l.any fun _=>false)=false:=by simp
  rw[this];rfl
theorem lenV (hs:s.sm):(V s).length<=10:=by
 have:=dQ (iI (s:=s))
 have:=hs.Measures
 omega
end Go.P
namespace Go.P
variable {s:Z0}
theorem F12_known:F12=some true:=by kernel_rfl
theorem F14_t (hs:s.sm) (hv:F16 s=some true):F14 s=some (two (V s),0):=by
 unfold F14;rw[hv,Option.bind_some,Fn35_eq hs];rfl
theorem F14_f (hv:F16 s=some false):F14 s=some ([],24):=by
 unfold F14;rw[hv];rfl
theorem F15_t (hs:s.sm) (hv:F16 s=some true):F15 s=some ((V s).map (·.First),0):=by
 unfold F15;rw[hv,Option.bind_some,F37_eq hs];rfl
theorem F15_f (hv:F16 s=some false):F15 s=some ([],24):=by
 unfold F15;rw[hv];rfl
theorem F22_t (hs:s.sm) (hv:F16 s=some true) (i:Int):F22 s i=some (empS s i):=by
 unfold F22 F41 empS
 rw[hv]
 simp only[Option.bind_some,Bool.true_and]
 by_cases hr:0<=i/\i<(s.Measures.length:Int)
 .obtain ⟨m,a⟩:=fS hr
  obtain⟨E,h1,b⟩:=F43_ok hs
  rw[a,h1,if_pos (by simpa using hr)]
  simp only[Option.bind_some]
  rw[F42_eq b (hs.MeasuresE m (bJ a).2.2.1)];rfl
 .rw [eJ hr,if_neg (by simpa using hr)];rfl
theorem F22_f (hv:F16 s=some false) (i:Int):F22 s i=some false:=by
 unfold F22 F41;rw[hv];rfl
theorem F24_t (hs:s.sm) (hv:F16 s=some true) (i:Int):F24 s i=some (joiS s i):=by
 unfold F24 F41
 rw[hv]
 simp only[Option.bind_some,Bool.true_and]
 by_cases hr:0<=i/\i<(s.Measures.length:Int)
 .rw [if_pos (by simpa using hr),F45_eq hs hr.1 hr.2];rfl
 .rw [if_neg (by simpa using hr)]
  unfold joiS
  rw[eJ hr]
  cases lget s.Measures (i-1)<;>rfl
theorem F24_f (hv:F16 s=some false) (i:Int):F24 s i=some false:=by
 unfold F24 F41;rw[hv];rfl
theorem law3 (hb:s.b):F3 s=some true:=by
 unfold F3
 rw[F12_known]
 obtain⟨r,hr,a⟩:=U13 hb
 rw[hr]
 cases r with
 |false=>rfl
 |true=>
 have hs:=a rfl
 obtain⟨v,hv,_⟩:=T16 hs
 simp only[Option.bind_some,Bool.not_true,Bool.false_eq_true,if_false]
 cases v with
 |false=>rw[F14_f hv,F15_f hv,hv];rfl
 |true=>
 rw[F14_t hs hv,F15_t hs hv,hv,F17_eq hs]
 simp only[Option.bind_some,Bool.not_true,Bool.false_eq_true,if_false]
 rw[if_neg (by simp)]
 have hl:=(okV hs).1
 refine dI (dJ (fun _=>false) (l:=two (V s)) (by omega) (fun i x h0 h1 c hg hw=>?_) ?_) ?_
 .simp only[h1,hg,hw,decide_true,if_true,Option.bind_some]
  rw[if_neg (by simp)]
  simp
 .simp only[Int.lt_irrefl,decide_false,Bool.false_eq_true,if_false]
 .have:((two (V s)).any fun _=>false)=false:=by simp
  rw[this]
  simp only[Bool.false_eq_true,if_false]
  rw[F18_eq hs,Option.bind_some]
  dsimp only
  rw[F19_eq (by rw[List.length_map];exact lenV hs)]
  rfl
theorem law5 (hb:s.b) (i:Int):F5 s i=some true:=by
 unfold F5
 rw[F12_known]
 obtain⟨r,hr,a⟩:=U13 hb
 rw[hr]
 cases r with
 |false=>rfl
 |true=>
 have hs:=a rfl
 obtain⟨v,hv,_⟩:=T16 hs
 simp only[Option.bind_some,Bool.not_true,Bool.false_eq_true,if_false]
 rw[hv,F23_eq hs,F25_eq hs]
 cases v with
 |false=>rw[F22_f hv,F24_f hv];rfl
 |true=>
 rw[F22_t hs hv,F24_t hs hv]
 cases empS s i<;>cases joiS s i<;>rfl
section
variable (e j:Nat->Bool) (n:Nat)
def good (i:Nat):Prop:=¬(1<=i/\e (i-1)=true/\e i=true/\j i=true)
theorem cY1 (he:∀i,e i=true->i<n) (i:Nat):good e j (til e j n i):=by
 unfold til
 split
 .rename_i h
  have:=(jP e j n (i+1)).2.2.2
  rintro⟨h1,h2,a,b⟩
  exact this ⟨he _ a,by rw[a,b];rfl⟩
 .rename_i h
  rintro⟨h1,h2,a,b⟩
  rw[show i+1-1=i by omega]at h2
  exact h h2
theorem wA (he:∀i,e i=true->i<n) (i:Nat) (h:good e j i):∀r∈vl e j n i,∃k:Nat,r=⟨(k:Int),((til e j n k-k:Nat):Int)⟩/\k<n/\good e j k:=by
 intro r hr
 rw[vl]at hr
 split at hr
 .rename_i hi
  have h1:=oQ e j n i
  rcases List.mem_cons.1 hr with rfl|hr
  .exact ⟨i,rfl,hi,h⟩
  .exact wA he _ (cY1 e j n he i) r hr
 .exact (List.not_mem_nil hr).elim
termination_by n-i
decreasing_by omega
end
theorem aV1 (hs:s.sm) {r:Zr} (hr:r∈two (V s)):∃k t:Nat,r=⟨(k:Int),((t-k:Nat):Int)⟩/\k+2<=t/\t<=s.Measures.length/\(∀x:Nat,k<=x->x<t->empS s (x:Int)=true)/\(∀x:Nat,k<x->x<t->joiS s (x:Int)=true)/\(empS s ((k:Int)-1)&&joiS s (k:Int))=false/\(empS s (t:Int)&&joiS s (t:Int))=false:=by
 obtain⟨h1,h2⟩:=List.mem_filter.1 hr
 obtain⟨k,rfl,hk,hg⟩:=wA (eN s) (jN s) s.Measures.length (fun i h=>fT1 h) 0 (by rintro⟨h,_⟩;omega) r h1
 simp only[decide_eq_true_eq]at h2
 have f:=oQ (eN s) (jN s) s.Measures.length k
 have g2:=vZ (eN s) (jN s) s.Measures.length hk
 have a:eN s k=true:=by
  by_cases a:eN s k=true
  .exact a
  .have:til (eN s) (jN s) s.Measures.length k=k+1:=by unfold til;rw[if_neg a]
   omega
 have c:til (eN s) (jN s) s.Measures.length k=nxt (eN s) (jN s) s.Measures.length (k+1):=by unfold til;rw[if_pos a]
 have sp:=jP (eN s) (jN s) s.Measures.length (k+1)
 rw[<-c]at sp
 refine⟨k,til (eN s) (jN s) s.Measures.length k,rfl,by omega,g2,fun x e b=>?_,fun x e b=>(sp.2.2.1 x (by omega) b).2,?_,?_⟩
 .by_cases d:x=k
  .rw [d];exact a
  .exact (sp.2.2.1 x (by omega) b).1
 .cases h3:(empS s ((k:Int)-1)&&joiS s (k:Int))with
  |false=>rfl
  |true=>
   simp only[Bool.and_eq_true]at h3
   by_cases h0:1<=k
   .exact (hg ⟨h0,by unfold eN;rw[show((k-1:Nat):Int)=(k:Int)-1 by omega];exact h3.1,a,h3.2⟩).elim
   .have:empS s ((k:Int)-1)=false:=by unfold empS;rw[eJ (by omega)]
    rw[this]at h3;cases h3.1
 .cases h3:(empS s ((til (eN s) (jN s) s.Measures.length k:Nat):Int)&&joiS s ((til (eN s) (jN s) s.Measures.length k:Nat):Int))with
  |false=>rfl
  |true=>
   simp only[Bool.and_eq_true]at h3
   exact(sp.2.2.2 ⟨fT1 (s:=s) h3.1,by show(empS s _&&joiS s _)=true;rw[h3.1,h3.2];rfl⟩).elim
theorem law6 (hb:s.b):F6 s=some true:=by
 unfold F6
 rw[F12_known]
 obtain⟨r,hr,e⟩:=U13 hb
 rw[hr]
 cases r with
 |false=>rfl
 |true=>
 have hs:=e rfl
 obtain⟨v,hv,_⟩:=T16 hs
 simp only[Option.bind_some,Bool.not_true,Bool.false_eq_true,if_false]
 rw[hv]
 cases v with
 |false=>rfl
 |true=>
 rw[F14_t hs hv]
 simp only[Option.bind_some,Bool.not_true,Bool.false_eq_true,if_false]
 have hl:=(okV hs).1
 have C:=hs.Measures
 have z:(two (V s)).Pairwise (fun p q=>p.First+p.Count<=q.First):=List.Pairwise.sublist List.filter_sublist (sO iI)
 refine dI (a:=.inr ()) (Ok.eq (aP (l:=two (V s)) (fun q=>q.2) (fun i q=>∀(j:Nat) r,i<=j->(two (V s))[j]? =some r->q.1<=r.First) (by omega) rfl (fun j r _ g=>((okV hs).2 r (List.mem_of_getElem? g)).1) (fun i r q f A hi hl d hg hw=>?_) (fun q hi d=>?_))) rfl
 .obtain ⟨a,b⟩:=q
  dsimp only at hi hl d hg hw
  simp only[hl,hg,hw,decide_true,if_true,Option.bind_some]
  obtain⟨k,t,rfl,h1,h2,m,o,u,w⟩:=aV1 hs A
  have hf:=d i _ (Nat.le_refl _) f
  dsimp only at hf ⊢
  have c:(k:Int)+((t-k:Nat):Int)=(t:Int):=by omega
  rw[c,aV (n:=(t:Int)) (by omega) (by omega),aV (n:=(k:Int)-1) (by omega) (by omega)]
  refine Oi (fun hc=>absurd hc (by simp;omega)) (fun _=>?_)
  refine Ob (P:=fun r=>r=.inr ()) (eI (fun x=>x) (t:Int) (fun _=>True) (by omega) (by omega) trivial (fun x _ D B=>?_)) fun r hr=>?_
  .refine Oi (fun hc=>?_) (fun _=>.mk rfl)
   simp only[decide_eq_true_eq]at hc
   obtain⟨y,rfl⟩:∃y:Nat,x=(y:Int):=⟨x.toNat,by omega⟩
   rw[F22_t hs hv,m y (by omega) (by omega)]
   simp only[Option.bind_some,Bool.not_true,Bool.false_eq_true,if_false]
   refine Ob (P:=fun b=>b=false) (Ob (P:=fun b=>b=false) (Oi (fun hd=>?_) (fun _=>.mk rfl)) fun b hb=>.mk hb) fun b hb=>?_
   .simp only[decide_eq_true_eq]at hd
    rw[F24_t hs hv,o y (by omega) (by omega)]
    exact .mk rfl
   .subst hb
    exact Oi (fun h=>by cases h) (fun _=>.mk ⟨hc,B hc,trivial⟩)
  .subst hr
   dsimp only
   rw[F22_t hs hv,F24_t hs hv,F22_t hs hv,F24_t hs hv]
   simp only[Option.bind_some,uI,u,w,Bool.false_eq_true,if_false]
   refine .mk ⟨rfl,fun j r g hr=>?_⟩
   dsimp only
   have hp:=List.pairwise_iff_getElem.1 z i j (List.getElem?_eq_some_iff.1 f).1 (List.getElem?_eq_some_iff.1 hr).1 (by omega)
   rw[(List.getElem?_eq_some_iff.1 f).2,(List.getElem?_eq_some_iff.1 hr).2]at hp
   dsimp only at hp
   omega
 .obtain ⟨a,b⟩:=q
  dsimp only at hi
  simp only[hi,Int.lt_irrefl,decide_false,Bool.false_eq_true,if_false]
  exact .mk rfl
end Go.P
namespace Go.P
variable {s:Z0}
def Good (s:Z0):Prop:=∀m∈s.Measures,∃n,F94 m=some (n,0)
theorem E112 {x:Int} {m:Zm} {c:Zk} (f:m.sm) (hc:c.s'.sm):Ok (F112 x m c) (fun b=>b=false->∃n,F94 m=some (n,0)):=by
 unfold F112
 refine Ok.bindE (T94 f) fun⟨n,e⟩ hv _=>?_
 dsimp only
 refine Ob (P:=fun b=>e≠0->b=true) (Oi (fun _=>.mk fun _=>rfl) (fun h=>Ob T103 fun _ _=>.mk (fun h2=>absurd (by simpa using h2) h))) fun d h0=>?_
 have g:=hc.Parts
 refine Ob (P:=fun r=>d=true->r=true) (aP (l:=c.s'.Parts) (fun q=>q.2) (fun _ q=>d=true->q.1=true) (by omega) rfl (fun h=>h) (fun i y q j f hi hl a hg hw=>?_) (fun q hi a=>?_)) fun r hr=>.mk (fun hf=>⟨n,?_⟩)
 .obtain ⟨b,k⟩:=q
  dsimp only at hi hl a hg hw
  simp only[hl,hg,nt]
  refine Ob (P:=fun r=>d=true->r=true) (Oi (fun hd=>Ob T113 fun⟨u,v⟩ _=>.mk (fun h=>?_)) (fun _=>.mk a)) fun r hr=>.mk ⟨hw,hr⟩
  rw[a h]at hd
  simp at hd
 .obtain ⟨b,k⟩:=q
  dsimp only at hi a
  simp only[hi,nf]
  exact .mk a
 .have:e=0:=by
   by_cases he:e=0
   .exact he
   .have:=hr (h0 he);rw[hf]at this;cases this
  rw[hv,this]
theorem E108 {l:List Zv} {r:Int} (h:l.length+10<=1000000) (hs:s.sm):Ok (Fn108_3 l s r) (fun v=>v.length<=l.length->Good s):=by
 unfold Fn108_3
 have p:=hs.Measures
 refine Ob (P:=fun v=>v.length<=l.length->Good s) (aP (l:=s.Measures) (fun q=>q.1) (fun i q=>q.2.length<=l.length+i/\l.length<=q.2.length/\(q.2.length<=l.length->∀j,j<i->∀m,s.Measures[j]? =some m->∃n,F94 m=some (n,0))) (by omega) rfl ⟨by dsimp only;omega,Nat.le_refl _,fun _ j d=>by omega⟩ (fun i e q o k hi hl c hg hw=>?_) (fun q hi c=>?_)) fun v hv=>.mk hv
 .obtain ⟨x,v⟩:=q
  dsimp only at hi hl c hg hw
  simp only[hl,hg,nt]
  refine Ob (E112 (hs.MeasuresE e k) hs) fun b hb=>?_
  refine Ob (S101 (by omega)) fun u f=>.mk ⟨hw,?_,?_,fun h j d m a=>?_⟩
  .dsimp only;cases b<;>simp at f<;>omega
  .dsimp only;cases b<;>simp at f<;>omega
  .dsimp only at h
   cases b with
   |true=>simp at f;omega
   |false=>
    simp only[Bool.false_eq_true,false_implies,forall_const,true_and]at f
    by_cases g:j=i
    .subst g;rw[o]at a;cases a;exact hb rfl
    .exact c.2.2 (by omega) j (by omega) m a
 .obtain ⟨x,v⟩:=q
  dsimp only at hi c
  simp only[hi,nf]
  refine .mk (fun h m k=>?_)
  obtain⟨j,d⟩:=List.mem_iff_getElem?.1 k
  exact c.2.2 h j (List.getElem?_eq_some_iff.1 d).1 m d
theorem blk {x v:List Zv} {D:Option Bool} {R:Option (List Zv)} (h:((if decide ((x.length:Int)>0)then D else some false).bind fun b=>if b then some x else R)=some v) (h0:v.length=0):R=some v:=by
 by_cases a:((x.length:Int)>0)
 .rw [if_pos (by simpa using a)]at h
  cases D with
  |none=>cases h
  |some b=>
   cases b with
   |true=>simp at h;subst h;omega
   |false=>exact h
 .rw [if_neg (by simpa using a)]at h
  exact h
theorem bndO {A B:Type} {x:Option A} {k:A->Option B} {v:B} (h:x.bind k=some v):∃a,x=some a/\k a=some v:=Option.bind_eq_some_iff.1 h
theorem E38 (hs:s.sm) (u:0<s.Measures.length) {v:List Zv} (h:F38 s=some v) (h0:v.length=0):Good s:=by
 unfold F38 at h
 have h:=blk h h0
 obtain⟨W,k,h⟩:=bndO h
 have N:=(Tn59 (by decide) hs).of k
 have h:=blk h h0
 obtain⟨X,l,h⟩:=bndO h
 have O:=(Tn60 (by simp only[nl]at *;omega) hs).of l
 have h:=blk h h0
 obtain⟨Y,m,h⟩:=bndO h
 have P:=(Tn61 (by simp only[nl]at *;omega) hs).of m
 have h:=blk h h0
 obtain⟨Z,n,h⟩:=bndO h
 have R:=(Tn62 (by simp only[nl]at *;omega) hs).of n
 have h:=blk h h0
 obtain⟨x5,a,h⟩:=bndO h
 have S:=(Tn63 (by simp only[nl]at *;omega) hs).of a
 have h:=blk h h0
 obtain⟨x6,o,h⟩:=bndO h
 have T:=(Tn64 (by simp only[nl]at *;omega) hs).of o
 have h:=blk h h0
 obtain⟨x7,p,h⟩:=bndO h
 have U:=(Tn65 (by simp only[nl]at *;omega) hs).of p
 have h:=blk h h0
 obtain⟨x8,q,h⟩:=bndO h
 have i8:=(Tn66 (by simp only[nl]at *;omega) hs).of q
 have h:=blk h h0
 obtain⟨x9,r,h⟩:=bndO h
 have V:=(Tn67 (by simp only[nl]at *;omega) hs).of r
 have h:=blk h h0
 obtain⟨E,b,h⟩:=bndO h
 have w:=(Tn68 (by simp only[nl]at *;omega) hs).of b
 have h:=blk h h0
 obtain⟨F,c,h⟩:=bndO h
 have x:=(Tn69 (by simp only[nl]at *;omega) hs).of c
 have h:=blk h h0
 obtain⟨G,d,h⟩:=bndO h
 have z:=(Tn70 (by simp only[nl]at *;omega) hs).of d
 have h:=blk h h0
 obtain⟨H,e,h⟩:=bndO h
 have A:=(Tn71 (by simp only[nl]at *;omega) hs).of e
 have h:=blk h h0
 obtain⟨J,f,h⟩:=bndO h
 have B:=(Tn72 (by simp only[nl]at *;omega) hs u).of f
 have h:=blk h h0
 obtain⟨K,g,h⟩:=bndO h
 have C:=(Tn73 (by simp only[nl]at *;omega) hs).of g
 have h:=blk h h0
 obtain⟨L,i,h⟩:=bndO h
 have i16:=(Tn74 (by simp only[nl]at *;omega) hs).of i
 have h:=blk h h0
 obtain⟨M,j,h⟩:=bndO h
 have D:=(Tn75 (by simp only[nl]at *;omega) hs).of j
 cases h
 unfold Fn63 at a
 obtain⟨y,a,t⟩:=bndO a
 cases t
 exact(E108 (by simp only[nl]at *;omega) hs).of a (by omega)
theorem iL1 (hs:s.sm) (hv:F16 s=some true):Good s:=by
 by_cases a:0<s.Measures.length
 .unfold F16 at hv
  obtain⟨v,h,hv⟩:=bndO hv
  exact E38 hs a h (by simp at hv;simp[hv])
 .intro m b
  have:=List.length_pos_of_mem b
  omega
theorem U64:∀u:Fin 65,iand .i64 (u.val:Int) (w64 ((u.val:Int)-1))=0->0<u.val->1935360%u.val=0:=by decide+kernel
theorem E47 {m:Zm} {n:Int} (h:F94 m=some (n,0)):F47 m=some n:=by
 unfold F94 at h
 obtain⟨⟨a,e⟩,h1,h⟩:=bndO h
 dsimp only at h
 split at h
 .rename_i he
  cases h
  simp at he
 rename_i he
 have he:e=0:=by simpa using he
 subst he
 split at h
 .cases h
 rename_i w
 obtain⟨x,i,h⟩:=bndO h
 obtain⟨y,_,h⟩:=bndO h
 split at h
 .cases h
 split at h
 .cases h
 cases h
 simp only[decide_eq_true_eq]at w i
 unfold F47
 split at i
 .rename_i hp
  cases i
  rw[if_pos (by simp;omega)]
 .rename_i hp
  cases i
  rw[if_neg (by simp;omega)]
  unfold F157 F214 F215 F245 at h1
  obtain⟨c,hc,h1⟩:=bndO h1
  have l:c=0:=by
   by_cases j:c=0
   .exact j
   .rw [if_pos (by simpa using j)]at h1;cases h1;exact absurd rfl j
  subst l
  rw[if_neg (by simp)]at h1
  split at hc
  .cases hc
  rename_i v
  split at hc
  .cases hc
  rename_i g2
  simp only[Bool.or_eq_true,decide_eq_true_eq,not_or,bne_iff_ne,ne_eq,Decidable.not_not]at v g2
  obtain⟨z,p,h1⟩:=bndO h1
  cases h1
  obtain⟨q,f,p⟩:=bndO p
  cases p
  generalize m.Metre.Unit=u at *
  generalize m.Metre.Count=k at *
  have s:=U64 ⟨u.toNat,by omega⟩ (by dsimp only;rw[Int.toNat_of_nonneg (by omega)];exact g2.2) (by dsimp only;omega)
  dsimp only at s
  obtain⟨t,g⟩:=Nat.dvd_of_mod_eq_zero s
  have g:(1935360:Int)=u*t:=by
   have:((1935360:Nat):Int)=((u.toNat*t:Nat):Int):=by rw[<-g]
   rw[Int.natCast_mul,Int.toNat_of_nonneg (by omega)]at this
   exact this
  have b:(0:Int)<=t:=Int.natCast_nonneg t
  have o:(t:Int)<=1935360:=by
   have:((1:Int)*t)<=u*t:=Int.mul_le_mul_of_nonneg_right (by omega) b
   omega
  have d:u≠0:=by omega
  have A:k*(t:Int)<=64*1935360:=Int.mul_le_mul (by omega) o b (by decide)
  have r:0<=k*(t:Int):=Int.mul_nonneg (by omega) b
  unfold quoO at f ⊢
  rw[if_neg d]at f ⊢
  rw[g,Int.mul_tdiv_cancel_left _ d,show IntKind.wrap .i64 (t:Int)=w64 t from rfl,aV (by omega) (by omega)]at f
  cases f
  rw[aV (n:=k*1935360) (by omega) (by omega),g,show k*(u*(t:Int))=u*(k*t)by rw[<-Int.mul_assoc,Int.mul_comm k u,Int.mul_assoc],Int.mul_tdiv_cancel_left _ d]
  rfl
theorem F51_eq (hg:Good s):F51 s=F27 s:=by
 unfold F51 F27
 refine congrArg (fun f=>(aO f B64 (0,[0])).bind fun x=>some x) (funext fun⟨i,l⟩=>?_)
 dsimp only
 split
 .cases hm:lget s.Measures i with
  |none=>cases lidx l i with
   |none=>rfl
   |some j=>
    show none=(lnth l j).bind _
    cases lnth l j<;>rfl
  |some m=>
   obtain⟨n,a⟩:=hg m (bJ hm).2.2.1
   have h2:=E47 a
   simp only[Option.bind_some,a,h2]
 .rfl
theorem T27 (hs:s.sm) (hg:Good s):Ok (F27 s) (fun v=>v.length=s.Measures.length+1):=by
 unfold F27
 have f:=hs.Measures
 refine Ob (P:=fun v=>v.length=s.Measures.length+1) (aP (l:=s.Measures) (fun q=>q.1) (fun i q=>q.2.length=i+1) (by omega) rfl rfl (fun i m q g d hi hl b a hw=>?_) (fun q hi b=>?_)) fun v hv=>.mk hv
 .obtain ⟨x,l⟩:=q
  dsimp only at hi hl b a hw
  obtain⟨n,e⟩:=hg m d
  simp only[hl,a,E47 e,nt]
  refine Ob (bN (by omega) (by omega)) fun j c=>Ob (bR c.2) fun y _=>?_
  exact Ob (bX (Q:=fun v=>v.length=l.length+1) (by omega) (by simp)) fun v hv=>.mk ⟨hw,by dsimp only;omega⟩
 .obtain ⟨x,l⟩:=q
  dsimp only at hi b
  simp only[hi,nf]
  exact .mk b
theorem law7 (hb:s.b) (i:Int):F7 s i=some true:=by
 unfold F7
 rw[F12_known]
 obtain⟨r,hr,a⟩:=U13 hb
 rw[hr]
 cases r with
 |false=>rfl
 |true=>
 have hs:=a rfl
 obtain⟨v,hv,_⟩:=T16 hs
 simp only[Option.bind_some,Bool.not_true,Bool.false_eq_true,if_false]
 unfold F26 F46
 rw[hv]
 cases v with
 |false=>rfl
 |true=>
 have hg:=iL1 hs hv
 obtain⟨L,d,e⟩:=T27 hs hg
 rw[F51_eq hg,d,F37_eq hs,F18_eq hs]
 simp only[Option.bind_some,Bool.not_true,Bool.false_eq_true,if_false]
 rw[if_neg (by simp)]
 by_cases hc:((decide (i<0))||(decide (i>=(((V s).map (·.First)).length:Int))))=true
 .rw [if_pos hc]
  simp only[Option.bind_some]
  rw[if_pos hc];rfl
 .rw [if_neg hc]
  simp only[Bool.or_eq_true,decide_eq_true_eq,not_or]at hc
  obtain⟨f,hf⟩:=fS (l:=(V s).map (·.First)) (i:=i) (by omega)
  obtain⟨q,g,rfl⟩:=List.mem_map.1 (bJ hf).2.2.1
  have h:=iB iI q g
  obtain⟨t,c⟩:=fS (l:=L) (i:=q.First) (by omega)
  rw[hf]
  simp only[Option.bind_some]
  rw[c]
  simp only[Option.bind_some]
  simp at hc ⊢
  omega
end Go.P
