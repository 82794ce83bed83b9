import Derived.Test.YtmocdkmjkfpkeaaGreatGaB
/- A text of the proof. -/
set_option linter.all false
namespace Go.P
def Ok {α:Type} (x:Option α) (Q:α->Prop):Prop:=∃v,x=some v/\Q v
section
variable {α β:Type} {Q:α->Prop}
theorem Ok.mk {v:α} (h:Q v):Ok (some v) Q:=⟨v,rfl,h⟩
theorem Ob {P:β->Prop} {x:Option β} {k:β->Option α} (h:Ok x P) (hk:∀v,P v->Ok (k v) Q):Ok (x.bind k) Q:=by
 obtain⟨v,rfl,hv⟩:=h
 exact hk v hv
theorem Oi {c:Prop} [Decidable c] {a b:Option α} (h1:c->Ok a Q) (h2:¬c->Ok b Q):Ok (if c then a else b) Q:=by
 split
 .rename_i h;exact h1 h
 .rename_i h;exact h2 h
theorem Ok.mono {P:α->Prop} {x:Option α} (h:Ok x P) (a:∀v,P v->Q v):Ok x Q:=by
 obtain⟨v,h1,h2⟩:=h
 exact⟨v,h1,a v h2⟩
theorem Ok.ex {x:Option α} (h:Ok x Q):∃v,x=some v:=by
 obtain⟨v,h1,_⟩:=h
 exact⟨v,h1⟩
theorem eG {S E:Type} {body:S->Option (S⊕E)} {Q:E->Prop} (I:S->Prop) (μ:S->Nat)
  (h:∀s,I s->Ok (body s) (fun r=>match r with|.inl s'=>I s'/\μ s'<μ s|.inr e=>Q e)):∀(n:Nat) (s:S),I s->μ s<n->Ok (aO body n s) Q
 |0,s,_,hn=>by omega
 |n+1,s,hi,hn=>by
  obtain⟨r,h1,h2⟩:=h s hi
  simp only[aO,h1,Option.bind_some]
  cases r with
  |inl s'=>exact eG I μ h n s' h2.1 (by have:=h2.2;omega)
  |inr e=>exact .mk h2
end
theorem aV {n:Int} (h1: -9223372036854775808<=n) (h2:n<9223372036854775808):w64 n=n:=by
 have e:w64 n=if n%18446744073709551616>=9223372036854775808 then n%18446744073709551616-18446744073709551616 else n%18446744073709551616:=by
  unfold w64 IntKind.wrap
  rw[show((2:Int)^IntKind.bits .i64)=18446744073709551616 from rfl,show((2:Int)^(IntKind.bits .i64-1))=9223372036854775808 from rfl]
  simp[IntKind.signed]
 rw[e]
 split<;>omega
theorem bC {A:Type} {l:List A} {i:Int} {Q:A->Prop} (h0:0<=i) (h1:i<(l.length:Int)) (h:∀x,x∈l->l[i.toNat]? =some x->Q x):Ok (lget l i) Q:=by
 unfold lget
 rw[if_pos h0]
 have hi:i.toNat<l.length:=by omega
 exact⟨l[i.toNat],by simp[hi],h _ (List.getElem_mem hi) (by simp[hi])⟩
end Go.P
set_option maxRecDepth 100000
namespace Go.P
def idxF {A:Type} (l:List A) (g:A->Option Bool):Option Int:=
 (aO (E:=Int⊕Unit) (fun(a:Int)=>
  if(decide (a<(l.length:Int)))then
   (lget l a).bind fun d=>
   (g d).bind fun b=>
   if b then
    some (.inr (.inl a))
   else
   some (.inl (w64 (a+1)))
  else
  some (.inr (.inr ()))) B64 0).bind fun c=>
 match c with
 |.inl x_7=>
  some x_7
 |.inr _=>
  some (-1)
theorem hD1 {A:Type} {l:List A} {g:A->Option Bool} (hl:l.length<9223372036854775808) (hg:∀x∈l,∃b,g x=some b):Ok (idxF l g) (fun v=>(v= -1/\∀x∈l,g x=some false)\/(0<=v/\v<l.length/\∃x,l[v.toNat]? =some x/\g x=some true)):=by
 unfold idxF
 refine Ob (P:=fun r=>match r with|.inl v=>0<=v/\v<l.length/\∃x,l[v.toNat]? =some x/\g x=some true|.inr _=>∀x∈l,g x=some false)
  (eG (S:=Int) (fun i=>0<=i/\i<=l.length/\∀j,j<i.toNat->∀x,l[j]? =some x->g x=some false) (fun i=>l.length-i.toNat) (fun i hi=>?_) B64 0 ⟨by omega,by omega,fun j c=>by simp at c⟩ (by simp[B64];omega)) fun r hr=>?_
 .obtain ⟨h0,h1,h2⟩:=hi
  refine Oi (fun hc=>?_) (fun hc=>?_)
  .simp only[decide_eq_true_eq]at hc
   refine Ob (bC (Q:=fun x=>x∈l/\l[i.toNat]? =some x) h0 hc (fun x a b=>⟨a,b⟩)) fun x d=>?_
   obtain⟨b,hb⟩:=hg x d.1
   rw[hb]
   cases b with
   |true=>exact .mk ⟨h0,hc,x,d.2,hb⟩
   |false=>
    rw[Option.bind_some,aV (by omega) (by omega)]
    refine .mk ⟨⟨by omega,by omega,fun j c y hy=>?_⟩,by omega⟩
    by_cases e:j=i.toNat
    .subst e
     rw[d.2]at hy;cases hy;exact hb
    .exact h2 j (by omega) y hy
  .simp only[decide_eq_true_eq]at hc
   refine .mk (fun x d=>?_)
   obtain⟨j,c⟩:=List.mem_iff_getElem?.1 d
   have:=(List.getElem?_eq_some_iff.1 c).1
   exact h2 j (by omega) x c
 .cases r with
  |inl v=>exact .mk (.inr hr)
  |inr u=>exact .mk (.inl ⟨rfl,hr⟩)
end Go.P
namespace Go.P
structure Zy.b (x:Zy):Prop where
 Text:x.Text.size<9223372036854775808
structure Ze.b (x:Ze):Prop where
 Heads:x.Heads.length<9223372036854775808
 Graces:x.Graces.length<9223372036854775808
 Lyrics:x.Lyrics.length<9223372036854775808
 LyricsE:∀y∈x.Lyrics,y.b
structure Zo.b (x:Zo):Prop where
 Events:x.Events.length<9223372036854775808
 EventsE:∀y∈x.Events,y.b
 Tuplets:x.Tuplets.length<9223372036854775808
structure Zw.b (x:Zw):Prop where
 Clefs:x.Clefs.length<9223372036854775808
 Voices:x.Voices.length<9223372036854775808
 VoicesE:∀y∈x.Voices,y.b
structure Zm.b (x:Zm):Prop where
 Rehearsal:x.Rehearsal.size<9223372036854775808
 Tempi:x.Tempi.length<9223372036854775808
 Cells:x.Cells.length<9223372036854775808
 CellsE:∀y∈x.Cells,y.b
structure Zj.b (x:Zj):Prop where
 Name:x.Name.size<9223372036854775808
 Staves:x.Staves.length<9223372036854775808
structure Z0.b (x:Z0):Prop where
 Title:x.Title.size<9223372036854775808
 Parts:x.Parts.length<9223372036854775808
 PartsE:∀y∈x.Parts,y.b
 Measures:x.Measures.length<9223372036854775808
 MeasuresE:∀y∈x.Measures,y.b
 Spanners:x.Spanners.length<9223372036854775808
 Last:x.Last.length<9223372036854775808
structure Zy.sm (x:Zy):Prop where
 Text:x.Text.size<=300
structure Ze.sm (x:Ze):Prop where
 Heads:x.Heads.length<=12
 Graces:x.Graces.length<=12
 Lyrics:x.Lyrics.length<=12
 LyricsE:∀y∈x.Lyrics,y.sm
structure Zo.sm (x:Zo):Prop where
 Events:x.Events.length<=20
 EventsE:∀y∈x.Events,y.sm
 Tuplets:x.Tuplets.length<=6
structure Zw.sm (x:Zw):Prop where
 Clefs:x.Clefs.length<=5
 Voices:x.Voices.length<=3
 VoicesE:∀y∈x.Voices,y.sm
structure Zm.sm (x:Zm):Prop where
 Rehearsal:x.Rehearsal.size<=300
 Tempi:x.Tempi.length<=5
 Cells:x.Cells.length<=5
 CellsE:∀y∈x.Cells,y.sm
structure Zj.sm (x:Zj):Prop where
 Name:x.Name.size<=300
 Staves:x.Staves.length<=5
structure Z0.sm (x:Z0):Prop where
 Title:x.Title.size<=300
 Parts:x.Parts.length<=4
 PartsE:∀y∈x.Parts,y.sm
 Measures:x.Measures.length<=10
 MeasuresE:∀y∈x.Measures,y.sm
 Spanners:x.Spanners.length<=10
 Last:x.Last.length<=5
end Go.P
namespace Go.P
theorem nT {A E:Type} {l:List A} {body:Int->Option (Int⊕E)} {Q:E->Prop} (P:A->Prop) (hl:l.length<9223372036854775808)
  (h:∀(i:Int) (x:A),0<=i->i<(l.length:Int)->x∈l->lget l i=some x->w64 (i+1)=i+1->Ok (body i) (fun r=>match r with|.inl j=>j=i+1/\P x|.inr e=>Q e))
  (a:∀i:Int,i=(l.length:Int)->(∀x∈l,P x)->Ok (body i) (fun r=>match r with|.inl j=>False|.inr e=>Q e)):Ok (aO body B64 0) Q:=by
 have hl:l.length<9223372036854775808:=hl
 refine eG (fun(i:Int)=>0<=i/\i<=l.length/\∀j,j<i.toNat->∀x,l[j]? =some x->P x) (fun i=>l.length-i.toNat) (fun i hi=>?_) B64 0 ⟨by omega,by omega,fun j b=>by simp at b⟩ (by simp[B64];omega)
 obtain⟨h0,h1,h2⟩:=hi
 by_cases c:i<(l.length:Int)
 .have hi:i.toNat<l.length:=by omega
  have hg:lget l i=some l[i.toNat]:=by unfold lget;rw[if_pos h0];simp[hi]
  refine(h i l[i.toNat] h0 c (List.getElem_mem hi) hg (aV (by omega) (by omega))).mono fun r hr=>?_
  cases r with
  |inl j=>
   obtain⟨rfl,hp⟩:=hr
   refine⟨⟨by omega,by omega,fun j b y hy=>?_⟩,by omega⟩
   by_cases e:j=i.toNat
   .subst e;rw[List.getElem?_eq_getElem hi]at hy;cases hy;exact hp
   .exact h2 j (by omega) y hy
  |inr e=>exact hr
 .refine (a i (by omega) (fun x d=>?_)).mono fun r hr=>?_
  .obtain ⟨j,b⟩:=List.mem_iff_getElem?.1 d
   have:=(List.getElem?_eq_some_iff.1 b).1
   exact h2 j (by omega) x b
  .cases r with
   |inl j=>exact hr.elim
   |inr e=>exact hr
theorem U33 {v:Zo} (hv:v.b):Ok (F17 v) (fun r=>r=true->v.sm):=by
 unfold F17
 refine Ob (P:=fun r=>match r with|.inl _=>True|.inr _=>∀e∈v.Events,e.sm) (nT (fun e=>e.sm) hv.Events (fun i x h0 h1 c hg hw=>?_) (fun i hi hp=>?_)) fun r hr=>?_
 .simp only[h1,decide_true,if_true,hg,Option.bind_some]
  refine Oi (fun hc=>.mk trivial) (fun hc=>?_)
  have a:=hv.EventsE x c
  simp only[Bool.or_eq_true,decide_eq_true_eq,not_or]at hc
  refine Ob (P:=fun r=>match r with|.inl _=>True|.inr _=>∀e∈x.Lyrics,e.sm) (nT (fun e=>e.sm) a.Lyrics (fun k y j d hy f g=>?_) (fun k hk hp=>?_)) fun r hr=>?_
  .simp only[d,decide_true,if_true,f,Option.bind_some]
   refine Oi (fun hd=>.mk trivial) (fun hd=>?_)
   rw[g]
   exact .mk ⟨rfl,⟨by simp at hd;omega⟩⟩
  .simp only[hk,Int.lt_irrefl,decide_false,Bool.false_eq_true,if_false]
   exact .mk hp
  .cases r with
   |inl u=>exact .mk trivial
   |inr u=>simp only;rw[hw];exact .mk ⟨rfl,⟨by omega,by omega,by omega,hr⟩⟩
 .simp only[hi,Int.lt_irrefl,decide_false,Bool.false_eq_true,if_false]
  exact .mk hp
 .cases r with
  |inl u=>exact .mk (fun h=>by cases h)
  |inr u=>
   refine .mk (fun h=>?_)
   simp only[Bool.and_eq_true,decide_eq_true_eq]at h
   exact⟨by omega,hr,by omega⟩
end Go.P
namespace Go.P
theorem aP {A S E:Type} {l:List A} {body:S->Option (S⊕E)} {Q:E->Prop} {s0:S} (a:S->Int) (I:Nat->S->Prop) (hl:l.length<9223372036854775808) (h0:a s0=0) (g:I 0 s0)
  (h:∀(i:Nat) (x:A) (s:S),l[i]? =some x->x∈l->a s=(i:Int)->a s<(l.length:Int)->I i s->lget l (a s)=some x->w64 (a s+1)=(i:Int)+1->Ok (body s) (fun r=>match r with|.inl s'=>a s'=(i:Int)+1/\I (i+1) s'|.inr e=>Q e))
  (b:∀s,a s=(l.length:Int)->I l.length s->Ok (body s) (fun r=>match r with|.inl _=>False|.inr e=>Q e)):Ok (aO body B64 s0) Q:=by
 have hl:l.length<9223372036854775808:=hl
 refine eG (fun s=>0<=a s/\a s<=l.length/\I (a s).toNat s) (fun s=>l.length-(a s).toNat) (fun s hi=>?_) B64 s0 ⟨by omega,by omega,by rw[h0];exact g⟩ (by simp[B64];omega)
 obtain⟨k,n,d⟩:=hi
 by_cases c:a s<(l.length:Int)
 .have hi:(a s).toNat<l.length:=by omega
  have hc:(((a s).toNat:Nat):Int)=a s:=by omega
  have hg:lget l (a s)=some l[(a s).toNat]:=by unfold lget;rw[if_pos k];simp[hi]
  refine(h (a s).toNat l[(a s).toNat] s (by simp[hi]) (List.getElem_mem hi) hc.symm c d hg (by rw[aV (by omega) (by omega)];omega)).mono fun r hr=>?_
  cases r with
  |inl s'=>
   obtain⟨m,f⟩:=hr
   refine⟨⟨by omega,by omega,?_⟩,by omega⟩
   rw[show(a s').toNat=(a s).toNat+1 by omega]
   exact f
  |inr e=>exact hr
 .refine (b s (by omega) ?_).mono fun r hr=>?_
  .rw [show(a s).toNat=l.length by omega]at d;exact d
  .cases r with
   |inl j=>exact hr.elim
   |inr e=>exact hr
theorem cU {A:Type} {g:Bool} {l:List A} {x:A} (h:l.length<1073741824) {Q:List A->Prop} (a:Q (l++[x])):Ok (lapp g l [x]) Q:=by
 unfold lapp
 have e:Sim.maxRoom=1073741824:=rfl
 rw[if_pos ⟨by rw[e,List.length_cons,List.length_nil];omega,fun _=>Nat.le_refl _⟩]
 exact .mk a
theorem U101 {w:Bool} {id:Zz} {l:List Zv} {s:Z0} {r:Int} (h:l.length<1000000):Ok (Fn58 w id l s r) (fun v=>v.length<=l.length+1):=by
 unfold Fn58
 refine Ob (P:=fun v=>v.length<=l.length+1) (Oi (fun _=>Ob (cU (Q:=fun v=>v.length<=l.length+1) (by omega) (by simp)) fun v hv=>.mk hv) (fun _=>.mk (by omega))) fun v hv=>.mk hv
theorem E103 (n a b:Int):F60 n a b=some (decide (n>=a)&&decide (n<=b)):=rfl
theorem E104 (i:Zl):F48 i=some (if((((decide (i.Steps<(-77)))||(decide (i.Steps>77)))||(decide (i.Semitones<(-140))))||(decide (i.Semitones>140)))then 2 else 0):=by
 unfold F48;split<;>rfl
theorem U102 {s:ByteArray} (h:s.size<9223372036854775808):Ok (F59 s) (fun _=>True):=by
 unfold F59
 refine Ob (P:=fun _=>True) (Oi (fun _=>?_) (fun _=>.mk trivial)) fun v hv=>.mk hv
 have:Ok (F112 s.data.toList) (fun _=>True):=by
  unfold F112
  refine Ob (hD1 (l:=s.data.toList) (g:=fun b=>F111 (b.toNat:Int)) (by rw[Array.length_toList];exact h) (fun x _=>⟨_,rfl⟩)) fun v hv=>.mk trivial
 exact Ob this fun v hv=>.mk trivial
end Go.P
namespace Go.P
section
variable {α β:Type} {Q:α->Prop}
theorem Ok.bindE {P:β->Prop} {x:Option β} {k:β->Option α} (h:Ok x P) (hk:∀v,x=some v->P v->Ok (k v) Q):Ok (x.bind k) Q:=by
 obtain⟨v,rfl,hv⟩:=h
 exact hk v rfl hv
theorem Ok.of {x:Option α} (h:Ok x Q) {v:α} (hv:x=some v):Q v:=by
 obtain⟨w,h1,h2⟩:=h
 rw[h1]at hv;cases hv;exact h2
theorem nU {k:IntKind} {a b:Int} (h:b≠0):Ok (quoO k a b) (fun v=>v=k.wrap (a.tdiv b)):=by
 unfold quoO;rw[if_neg h];exact .mk rfl
theorem vG {k:IntKind} {a b:Int} (h:b≠0):Ok (remO k a b) (fun v=>v=a.tmod b):=by
 unfold remO;rw[if_neg h];exact .mk rfl
theorem nV {k:IntKind} {a b:Int} (h:0<=b):Ok (shrO k a b) (fun v=>v=a.fdiv (2^min b.toNat k.bits)):=by
 unfold shrO;rw[if_neg (by omega)];exact .mk rfl
theorem bM1 {k:IntKind} {a b:Int} (h:0<=b):Ok (shlO k a b) (fun _=>True):=by
 unfold shlO;rw[if_neg (by omega)];exact .mk trivial
end
section
variable {A:Type} {l:List A}
theorem bM {i:Int} (h0:0<=i) (h1:i<(l.length:Int)):Ok (lidx l i) (fun v=>v=i.toNat/\v<l.length):=by
 unfold lidx uL;rw[if_pos ⟨h0,h1⟩];exact .mk ⟨rfl,by omega⟩
theorem bR {j:Nat} (h:j<l.length):Ok (lnth l j) (fun x=>l[j]? =some x/\x∈l):=by
 unfold lnth;rw[List.getElem?_eq_getElem h];exact .mk ⟨rfl,List.getElem_mem h⟩
theorem bN1 {j:Nat} {f:A->A} (h:j<l.length):Ok (lput l j f) (fun m=>m.length=l.length):=by
 unfold lput;rw[List.getElem?_eq_getElem h];exact .mk (by simp)
theorem lS {n c:Int} {z:A} (h0:0<=n) (h1:n<=c) (h2:c<=1073741824):Ok (tJ n c z) (fun v=>v=List.replicate n.toNat z):=by
 unfold tJ;rw[if_pos ⟨h0,h1,h2⟩];exact .mk rfl
theorem tL {a b:Int} (h0:0<=a) (h1:a<=b) (h2:b<=(l.length:Int)):Ok (fO l a b) (fun v=>v.length<=l.length/\∀x∈v,x∈l):=by
 unfold fO;rw[if_pos ⟨h0,h1,h2⟩]
 exact .mk ⟨by simp;omega,fun x c=>List.mem_of_mem_drop (List.mem_of_mem_take c)⟩
theorem bO1 {h:Int} (h0:0<l.length) (h1:0<=h) (h2:h<=(l.length:Int)):Ok (tH l h) (fun v=>v.length=h.toNat/\∀x∈v,x∈l):=by
 unfold tH;rw[if_pos ⟨h0,h1,h2⟩]
 exact .mk ⟨by simp;omega,fun x a=>List.mem_of_mem_take a⟩
theorem cQ {i:Int} {x:A} (h:lget l i=some x):0<=i/\i<(l.length:Int)/\x∈l/\l[i.toNat]? =some x:=by
 unfold lget at h
 split at h
 .obtain ⟨hi,_⟩:=List.getElem?_eq_some_iff.1 h
  exact⟨by omega,by omega,List.mem_of_getElem? h,h⟩
 .cases h
end
theorem nW {s:ByteArray} {i:Int} (h0:0<=i) (h1:i<(s.size:Int)):Ok (kX s i) (fun v=>0<=v/\v<=255):=by
 unfold kX;rw[if_pos h0]
 have h:i.toNat<s.data.toList.length:=by rw[Array.length_toList];show i.toNat<s.size;omega
 rw[List.getElem?_eq_getElem h]
 have:=(s.data.toList[i.toNat]).toNat_lt
 exact .mk ⟨by dsimp only;omega,by dsimp only;omega⟩
theorem nX {A:Type} {l:List A} (h:l.length<=1073741824):nR l=some l:=by
 unfold nR
 rw[Nat.ble_eq_true_of_le h];rfl
theorem nm:(∀a b:Bool,((a||b)=true)=(a=true\/b=true))/\(∀a b:Bool,((a&&b)=true)=(a=true/\b=true))/\(∀b:Bool,((!b)=true)=(b=false))/\(∀(p:Prop) [Decidable p],(decide p=true)=p)/\
  (∀(p:Prop) [Decidable p],(decide p=false)=¬p)/\(∀p q:Prop,(¬(p\/q))=(¬p/\¬q))/\(∀p q:Prop,(¬(p/\q))=(p->¬q))/\(∀b:Bool,(¬b=true)=(b=false))/\(∀a b:Int,((a !=b)=true)=¬a=b)/\
  (∀a b:Int,((a==b)=true)=(a=b))/\(∀p:Prop,(¬¬p)=p):=
 ⟨fun a b=>by simp,fun a b=>by simp,fun b=>by simp,fun p _=>by simp,fun p _=>by simp,fun p q=>by simp,fun p q=>by simp,fun b=>by simp,fun a b=>by simp,fun a b=>by simp,fun p=>by simp⟩
theorem nl {A:Type}:(∀(a:A) (l:List A),(a::l).length=l.length+1)/\([]:List A).length=0:=⟨fun _ _=>rfl,rfl⟩
theorem nt:(∀[Decidable True],decide True=true)/\(∀(α:Type) [Decidable True] (a b:α),(if True then a else b)=a)/\∀(α β:Type) (a:α) (f:α->Option β),(some a).bind f=f a:=⟨decide_true _,fun _ _ _ _=>if_true ..,fun _ _ _ _=>rfl⟩
theorem nf:(∀a:Int,(a<a)=False)/\(∀[Decidable False],decide False=false)/\((false=true)=False)/\∀(α:Type) [Decidable False] (a b:α),(if False then a else b)=b:=⟨fun a=>by simp,decide_false _,by simp,fun _ _ _ _=>if_false ..⟩
theorem obT {α β:Type} {Q:α->Prop} {x:Option β} {k:β->Option α} (h:Ok x fun _=>True) (hk:∀v,Ok (k v) Q):Ok (x.bind k) Q:=Ob h fun v _=>hk v
theorem lpT {A S E β:Type} {l:List A} {body:S->Option (S⊕E)} {s0:S} {k:E->Option β} {Q:β->Prop} (a:S->Int) (hl:l.length<9223372036854775808) (h0:a s0=0)
  (h:∀(i:Nat) (x:A) (s:S),x∈l->a s=(i:Int)->a s<(l.length:Int)->lget l (a s)=some x->w64 (a s+1)=(i:Int)+1->Ok (body s) (fun r=>match r with|.inl s'=>a s'=(i:Int)+1|.inr _=>True))
  (b:∀s,a s=(l.length:Int)->Ok (body s) (fun r=>match r with|.inl _=>False|.inr _=>True)) (hk:∀e,Ok (k e) Q):Ok ((aO body B64 s0).bind k) Q:=
 obT (aP (l:=l) a (fun _ _=>True) hl h0 trivial (fun i x s _ d hi c _ hg hw=>(h i x s d hi c hg hw).mono fun r hr=>by cases r with|inl s'=>exact⟨hr,trivial⟩|inr e=>trivial) (fun s hi _=>b s hi)) hk
theorem dX1 {s:ByteArray} {n:Nat} (h:s.size<=n):s.data.toList.length<=n:=by rw[Array.length_toList];exact h
theorem eX1 (n:Int): -9223372036854775808<=w64 n/\w64 n<=9223372036854775807:=by
 have e:w64 n=if n%18446744073709551616>=9223372036854775808 then n%18446744073709551616-18446744073709551616 else n%18446744073709551616:=by
  unfold w64 IntKind.wrap
  rw[show((2:Int)^IntKind.bits .i64)=18446744073709551616 from rfl,show((2:Int)^(IntKind.bits .i64-1))=9223372036854775808 from rfl]
  simp[IntKind.signed]
 rw[e]
 split<;>omega
theorem fF {S E:Type} {body:S->Option (S⊕E)} {Q:E->Prop} {s0:S} (d:S->Int) (N:Int) (I:S->Prop) (g:N<=9223372036854775807) (h0: -1000<=d s0) (f:I s0)
  (h:∀s,I s->d s0<=d s->(d s<N->w64 (d s+1)=d s+1)->Ok (body s) (fun r=>match r with|.inl s'=>d s<N/\d s'=d s+1/\I s'|.inr e=>Q e)):Ok (aO body B64 s0) Q:=by
 refine eG (fun s=>I s/\d s0<=d s) (fun s=>(N-d s).toNat) (fun s hs=>?_) B64 s0 ⟨f,Int.le_refl _⟩ (by simp only[B64];omega)
 refine(h s hs.1 hs.2 (fun hc=>aV (by omega) (by omega))).mono fun r hr=>?_
 cases r with
 |inl s'=>obtain⟨a,b,c⟩:=hr;exact⟨⟨c,by omega⟩,by omega⟩
 |inr e=>exact hr
theorem S101 {w:Bool} {id:Zz} {l:List Zv} {s:Z0} {r:Int} (h:l.length<1000000):Ok (Fn58 w id l s r) (fun v=>(w=true->v.length=l.length+1)/\(w=false->v.length=l.length)):=by
 unfold Fn58
 refine Ob (P:=fun v=>(w=true->v.length=l.length+1)/\(w=false->v.length=l.length)) (Oi (fun h=>Ob (cU (Q:=fun v=>v.length=l.length+1) (by omega) (by simp)) fun v hv=>.mk ⟨fun _=>hv,fun h2=>by rw[h]at h2;cases h2⟩) (fun h=>.mk ⟨fun h2=>absurd h2 h,fun _=>rfl⟩)) fun v hv=>.mk hv
theorem kA1 (n:Int):0<=IntKind.wrap .u8 n/\IntKind.wrap .u8 n<256:=by
 unfold IntKind.wrap
 rw[show((2:Int)^IntKind.bits .u8)=256 from rfl]
 simp[IntKind.signed]
 omega
theorem U59b {l:List Zv} {s:Z0} {r:Int} (hs:s.sm) (h0:s.Measures.length=0) (h:l.length<900000):Ok (Fn31 l s r) (fun v=>0<v.length):=by
 unfold Fn31
 have hp:=hs.Parts
 refine Ob (P:=fun v=>v.length<=l.length+4) (aP (l:=s.Parts) (fun q=>q.1) (fun i q=>q.2.length<=l.length+i) (by omega) rfl (by simp) (fun i x q k f hi e d hg hw=>?_) (fun q hi d=>?_)) fun v1 h1=>?_
 .obtain ⟨x1,j⟩:=q
  have g:=hs.PartsE x f
  have m:=g.Name
  simp only at hi e d hg hw
  simp only[e,decide_true,if_true,hg,Option.bind_some,E103,E104]
  refine Ob (U102 (by omega)) fun a _=>?_
  refine Ob (P:=fun _=>True) (by split<;>exact .mk trivial) fun b _=>?_
  refine Ob (P:=fun _=>True) (by split<;>exact .mk trivial) fun c _=>?_
  refine Ob (U101 (by omega)) fun v hv=>.mk ⟨hw,by dsimp only;omega⟩
 .obtain ⟨x1,j⟩:=q
  simp only at hi d
  simp only[hi,Int.lt_irrefl,decide_false,Bool.false_eq_true,if_false]
  exact .mk (by omega)
 refine Ob (P:=fun v=>v.length<=l.length+4) (aP (l:=s.Measures) (fun q=>q.1) (fun i q=>q.2.length<=l.length+4) (by omega) rfl h1 (fun i x q k f hi e d hg hw=>by omega) (fun q hi d=>?_)) fun v1 h1=>?_
 .obtain ⟨x1,j⟩:=q
  simp only at hi d
  simp only[hi,Int.lt_irrefl,decide_false,Bool.false_eq_true,if_false]
  exact .mk d
 have n:=hs.Title
 refine Ob (U102 (by omega)) fun a _=>?_
 simp only[E103,Option.bind_some]
 refine Ob (P:=fun _=>True) (by split<;>exact .mk trivial) fun b _=>?_
 refine Ob (P:=fun r=>r=true) (Oi (fun _=>.mk rfl) (fun _=>.mk (by simp[h0]))) fun c hc=>?_
 subst hc
 simp only[Bool.true_or]
 refine Ob (S101 (by omega)) fun v hv=>.mk (by have:=hv.1 rfl;omega)
def Zu.ok (n:Int) (t:Zu):Prop:=1<=t.Count/\t.Count<=n/\0<=t.First/\t.First+t.Count<=n/\1<=t.Actual/\t.Actual<=32/\1<=t.Normal/\t.Normal<=32
def Z0.pl (s:Z0) (m c v:Int):Prop:=∃x y z,lget s.Measures m=some x/\lget x.Cells c=some y/\lget y.Voices v=some z
end Go.P
set_option maxHeartbeats 1000000
namespace Go.P
theorem U34 {v:Zo} (hv:v.b):Ok (F18 v) (fun _=>True):=by
 unfold F18
 refine Ob (P:=fun _=>True) (aP (l:=v.Events) (fun q=>q.2) (fun _ _=>True) hv.Events rfl trivial (fun i e q c a hi hl _ hg hw=>?_) (fun q hi _=>?_)) fun v _=>.mk trivial
 .obtain ⟨n,k⟩:=q
  dsimp only at hi hl hg hw
  simp only[hl,hg,decide_true,if_true,Option.bind_some]
  refine Ob (P:=fun _=>True) (aP (l:=e.Lyrics) (fun q=>q.2) (fun _ _=>True) (hv.EventsE e a).Lyrics rfl trivial (fun i e q c a hi hl _ hg hw=>?_) (fun q hi _=>?_)) fun x _=>.mk ⟨hw,trivial⟩
  .obtain ⟨n,k⟩:=q
   dsimp only at hi hl hg hw
   simp only[hl,hg,decide_true,if_true,Option.bind_some]
   exact .mk ⟨hw,trivial⟩
  .obtain ⟨n,k⟩:=q
   dsimp only at hi
   simp only[hi,Int.lt_irrefl,decide_false,Bool.false_eq_true,if_false]
   exact .mk trivial
 .obtain ⟨n,k⟩:=q
  dsimp only at hi
  simp only[hi,Int.lt_irrefl,decide_false,Bool.false_eq_true,if_false]
  exact .mk trivial
theorem U13 {s:Z0} (hb:s.b):Ok (F5 s) (fun r=>r=true->s.sm):=by
 unfold F5
 refine Ob (P:=fun r=>match r with|.inl _=>True|.inr _=>∀p∈s.Parts,p.sm) (nT (l:=s.Parts) (fun p=>p.sm) hb.Parts (fun i p h0 h1 d hg hw=>?_) (fun i hi t=>?_)) fun r hr=>?_
 .simp only[h1,hg,hw,decide_true,if_true,Option.bind_some]
  refine Ob (P:=fun b=>b=true\/p.sm) (Oi (fun _=>.mk (.inl rfl)) (fun hc=>.mk ?_)) fun b hb=>?_
  .simp only[decide_eq_true_eq]at hc
   by_cases h:(p.Name.size:Int)>300
   .exact .inl (by simpa using h)
   .exact .inr ⟨by omega,by omega⟩
  .exact Oi (fun _=>.mk trivial) (fun hc=>.mk ⟨rfl,hb.resolve_left hc⟩)
 .simp only[hi,Int.lt_irrefl,decide_false,Bool.false_eq_true,if_false]
  exact .mk t
 rcases r with _|_
 .exact .mk (fun h=>by cases h)
 refine Ob (P:=fun r=>match r with|.inl _=>True|.inr _=>∀m∈s.Measures,m.sm) (aP (l:=s.Measures) (fun q=>q.2.2) (fun i q=>∀m∈s.Measures.take i,m.sm) hb.Measures rfl (fun m o=>by simp at o) (fun i m q d o hi hl g hg hw=>?_) (fun q hi g=>?_)) fun r C=>?_
 .obtain ⟨ev,by',k⟩:=q
  have G:=hb.MeasuresE m o
  dsimp only at hi hl hg hw
  simp only[hl,hg,decide_true,if_true,Option.bind_some]
  refine Oi (fun _=>.mk trivial) (fun hc=>?_)
  simp only[Bool.or_eq_true,decide_eq_true_eq,not_or]at hc
  refine Ob (P:=fun r=>match r with|.inl _=>True|.inr _=>∀c∈m.Cells,c.sm) (aP (l:=m.Cells) (fun q=>q.2.2) (fun i q=>∀c∈m.Cells.take i,c.sm) G.Cells rfl (fun m o=>by simp at o) (fun i c q D A hi hl y hg u=>?_) (fun q hi g=>?_)) fun r hr=>?_
  .obtain ⟨ev,by',k⟩:=q
   have F:=G.CellsE c A
   dsimp only at hi hl hg u
   simp only[hl,hg,decide_true,if_true,Option.bind_some]
   refine Ob (P:=fun b=>b=true\/(c.Clefs.length<=5/\c.Voices.length<=3)) (Oi (fun _=>.mk (.inl rfl)) (fun hc=>.mk ?_)) fun b hb=>?_
   .simp only[decide_eq_true_eq]at hc
    by_cases h:(c.Voices.length:Int)>3
    .exact .inl (by simpa using h)
    .exact .inr ⟨by omega,by omega⟩
   refine Oi (fun _=>.mk trivial) (fun j=>?_)
   have j:=hb.resolve_left j
   refine Ob (P:=fun r=>match r with|.inl _=>True|.inr _=>∀v∈c.Voices,v.sm) (aP (l:=c.Voices) (fun q=>q.2.2) (fun i q=>∀v∈c.Voices.take i,v.sm) F.Voices rfl (fun m o=>by simp at o) (fun i v q E B hi hl g hg w=>?_) (fun q hi g=>?_)) fun r hr=>?_
   .obtain ⟨ev,by',k⟩:=q
    have bv:=F.VoicesE v B
    dsimp only at hi hl hg w
    simp only[hl,hg,decide_true,if_true,Option.bind_some]
    refine Ob (U33 bv) fun f hf=>?_
    refine Oi (fun _=>.mk trivial) (fun z=>?_)
    refine Ob (U34 bv) fun n _=>?_
    refine Oi (fun _=>.mk trivial) (fun _=>.mk ⟨w,fun x d=>?_⟩)
    rw[List.take_add_one,E]at d
    rcases List.mem_append.1 d with d|d
    .exact g x d
    .simp at d;subst d;exact hf (by simpa using z)
   .obtain ⟨ev,by',k⟩:=q
    dsimp only at hi
    simp only[hi,Int.lt_irrefl,decide_false,Bool.false_eq_true,if_false]
    rw[List.take_length]at g
    exact .mk g
   .rcases r with⟨a,b⟩|⟨a,b⟩
    .exact .mk trivial
    .refine .mk ⟨u,fun x d=>?_⟩
     rw[List.take_add_one,D]at d
     rcases List.mem_append.1 d with d|d
     .exact y x d
     .simp at d;subst d;exact⟨j.1,j.2,hr⟩
  .obtain ⟨ev,by',k⟩:=q
   dsimp only at hi
   simp only[hi,Int.lt_irrefl,decide_false,Bool.false_eq_true,if_false]
   rw[List.take_length]at g
   exact .mk g
  .rcases r with⟨a,b⟩|⟨a,b⟩
   .exact .mk trivial
   .refine .mk ⟨hw,fun x e=>?_⟩
    rw[List.take_add_one,d]at e
    rcases List.mem_append.1 e with e|e
    .exact g x e
    .simp at e;subst e;exact⟨by omega,by omega,by omega,hr⟩
 .obtain ⟨ev,by',k⟩:=q
  dsimp only at hi
  simp only[hi,Int.lt_irrefl,decide_false,Bool.false_eq_true,if_false]
  rw[List.take_length]at g
  exact .mk g
 .rcases r with _|_
  .exact .mk (fun h=>by cases h)
  .refine .mk (fun h=>?_)
   simp only[Bool.and_eq_true,decide_eq_true_eq]at h
   exact⟨by omega,by omega,hr,by omega,C,by omega,by omega⟩
end Go.P
set_option maxHeartbeats 2000000
namespace Go.P
theorem T111 {x1:Int}:Ok (F111 x1) (fun _=>True):=by
 unfold F111
 exact .mk trivial
theorem T163 {x1:List UInt8} (a:x1.length<=300):Ok (F163 x1) (fun _=>True):=by
 unfold F163
 have f:=a
 refine lpT (l:=x1) (fun q=>q) (Nat.lt_of_le_of_lt a (by decide)) rfl (fun k j h g b d c e=>?_) (fun h b=>?_) fun i=>?_
 .simp only[d,c,nt]
  refine obT (T111) fun m=>?_
  refine Oi (fun c13=>?_) (fun c13=>?_)
  .exact .mk trivial
  exact .mk e
 .simp only[b,nf]
  exact .mk trivial
 rcases i with n|_
 .exact .mk trivial
 .exact .mk trivial
theorem T112 {x1:List UInt8} (a:x1.length<=300):Ok (F112 x1) (fun _=>True):=by
 unfold F112
 refine obT (T163 a) fun b=>?_
 exact .mk trivial
theorem T59 {x1:ByteArray} (a:x1.size<=300):Ok (F59 x1) (fun _=>True):=by
 unfold F59
 refine Ob (P:=fun r=>r=true->(decide ((x1.size:Int)<=256))=true) ?_ fun d b=>?_
 .refine Oi (fun c16=>?_) (fun _=>.mk (fun h=>by cases h))
  refine obT (T112 (dX1 a)) fun c=>?_
  exact .mk (fun _=>c16)
 exact .mk trivial
theorem T60 {x1 a b:Int}:Ok (F60 x1 a b) (fun _=>True):=by
 unfold F60
 exact .mk trivial
theorem T48 {x1:Zl}:Ok (F48 x1) (fun _=>True):=by
 unfold F48
 refine Oi (fun c18=>?_) (fun c18=>?_)
 .exact .mk trivial
 exact .mk trivial
theorem Tn58 {x1:Bool} {e:Zz} {a:List Zv} {b:Z0} {f:Int} (c:a.length+1<=1000000) (d:b.sm):Ok (Fn58 x1 e a b f) (fun v=>a.length<=v.length/\v.length<=a.length+1):=by
 exact(S101 (by omega)).mono fun v h=>by cases x1<;>simp at h<;>omega
theorem Tn31 {x1:List Zv} {G:Z0} {x3:Int} (d1:x1.length+15<=1000000) (a:G.sm):Ok (Fn31 x1 G x3) (fun v=>x1.length<=v.length/\v.length<=x1.length+15):=by
 unfold Fn31
 have b0:=a.Parts
 refine Ob (P:=fun r=>x1.length<=r.length/\r.length<=x1.length+4) (aP (l:=G.Parts) (fun q=>q.1) (fun i q=>x1.length<=q.2.length/\q.2.length<=x1.length+i*1) (Nat.lt_of_le_of_lt a.Parts (by decide)) rfl (by dsimp only;omega) (fun d7 b9 q30 b7 C c s g o x=>?_) (fun q30 c g=>?_)) fun n f8=>?_
 .obtain ⟨N,O⟩:=q30
  dsimp only at c s o x g
  simp only[s,o,nt]
  have M:=a.PartsE _ C
  refine obT (T59 M.Name) fun R=>?_
  refine Ob (P:=fun r=>¬r=true->¬(!R)=true) ?_ fun S K=>?_
  .refine Oi (fun _=>.mk (fun h=>absurd rfl h)) (fun c35=>?_)
   refine obT (T60) fun e4=>?_
   exact .mk (fun _=>c35)
  refine Ob (P:=fun r=>¬r=true->¬S=true) ?_ fun e6 d2=>?_
  .refine Oi (fun _=>.mk (fun h=>absurd rfl h)) (fun c38=>?_)
   have e1:=K c38
   refine obT (T48) fun e5=>?_
   exact .mk (fun _=>c38)
  refine Ob (Tn58 (by first|omega|(simp only[List.length_nil]at *;omega)) a) fun e7 d3=>?_
  exact .mk ⟨x,by dsimp only;omega⟩
 .obtain ⟨N,O⟩:=q30
  dsimp only at c g
  simp only[c,nf]
  exact .mk (by dsimp only;omega)
 have b4:=a.Measures
 refine Ob (P:=fun r=>n.length<=r.length/\r.length<=n.length+10) (aP (l:=G.Measures) (fun q=>q.1) (fun i q=>n.length<=q.2.length/\q.2.length<=n.length+i*1) (Nat.lt_of_le_of_lt a.Measures (by decide)) rfl (by dsimp only;omega) (fun d8 H q53 b8 D d t j b y=>?_) (fun q53 d j=>?_)) fun f2 f9=>?_
 .obtain ⟨T,U⟩:=q53
  dsimp only at d t b y j
  simp only[t,b,nt]
  have m:=a.MeasuresE _ D
  refine obT (T59 m.Rehearsal) fun e8=>?_
  have b5:=m.Cells
  refine lpT (l:=H.Cells) (fun q=>q.2) (Nat.lt_of_le_of_lt m.Cells (by decide)) rfl (fun d9 J q67 E e u k z=>?_) (fun q67 e=>?_) fun f0=>?_
  .obtain ⟨V,W⟩:=q67
   dsimp only at e u k z
   simp only[u,b,k,nt]
   have B:=m.CellsE _ E
   have b6:=B.Voices
   refine lpT (l:=J.Voices) (fun q=>q.2) (Nat.lt_of_le_of_lt B.Voices (by decide)) rfl (fun e0 d0 q80 F f w p A=>?_) (fun q80 f=>?_) fun e9=>?_
   .obtain ⟨X,Y⟩:=q80
    dsimp only at f w p A
    simp only[w,b,k,p,nt]
    have e3:=B.VoicesE _ F
    exact .mk A
   .obtain ⟨X,Y⟩:=q80
    dsimp only at f
    simp only[f,nf]
    exact .mk trivial
   exact .mk z
  .obtain ⟨V,W⟩:=q67
   dsimp only at e
   simp only[e,nf]
   exact .mk trivial
  refine Ob (Tn58 (by first|omega|(simp only[List.length_nil]at *;omega)) a) fun f1 d4=>?_
  exact .mk ⟨y,by dsimp only;omega⟩
 .obtain ⟨T,U⟩:=q53
  dsimp only at d j
  simp only[d,nf]
  exact .mk (by dsimp only;omega)
 refine obT (T59 a.Title) fun Z=>?_
 refine Ob (P:=fun r=>¬r=true->¬(!Z)=true) ?_ fun a0 L=>?_
 .refine Oi (fun _=>.mk (fun h=>absurd rfl h)) (fun c86=>?_)
  refine obT (T60) fun f3=>?_
  exact .mk (fun _=>c86)
 refine Ob (P:=fun r=>¬r=true->¬a0=true) ?_ fun f6 d5=>?_
 .refine Oi (fun _=>.mk (fun h=>absurd rfl h)) (fun c89=>?_)
  have e2:=L c89
  refine obT (T60) fun f5=>?_
  exact .mk (fun _=>c89)
 refine Ob (Tn58 (by first|omega|(simp only[List.length_nil]at *;omega)) a) fun f7 d6=>?_
 exact .mk (by omega)
theorem Tn113 {x1:Z0} (a:x1.sm):Ok (Fn113 x1) (fun _=>True):=by
 unfold Fn113
 exact .mk trivial
theorem Ty61_5 {x1 g:Int} {h i:Int} {j k l:Int} {b:Zj} {a:List Zz} (c:b.sm) (e:a.length+1<=1000000):Ok (Fy61_5 x1 g h i j k l b a) (fun v=>v.length<=a.length+1):=by
 unfold Fy61_5
 refine Ob (cU (Q:=fun v=>v.length=a.length+1) (by omega) (by simp)) fun f d=>?_
 exact .mk (by omega)
theorem Ty61_5_2 {x1 e:Int} {f g:Int} {h i j:Int} {k:Zf} {a:List Zz} (c:a.length+1<=1000000):Ok (Fy61_5_2 x1 e f g h i j k a) (fun v=>v.length<=a.length+1):=by
 unfold Fy61_5_2
 refine Ob (cU (Q:=fun v=>v.length=a.length+1) (by omega) (by simp)) fun d b=>?_
 exact .mk (by omega)
theorem Ty61_5_3 {x1 g:Int} {h i:Int} {j k l:Int} {b:Zm} {a:List Zz} (c:b.sm) (e:a.length+1<=1000000):Ok (Fy61_5_3 x1 g h i j k l b a) (fun v=>v.length<=a.length+1):=by
 unfold Fy61_5_3
 refine Ob (cU (Q:=fun v=>v.length=a.length+1) (by omega) (by simp)) fun f d=>?_
 exact .mk (by omega)
theorem Ty61_5_4 {x1 g:Int} {h i:Int} {j k l:Int} {b:Ze} {a:List Zz} (c:b.sm) (e:a.length+1<=1000000):Ok (Fy61_5_4 x1 g h i j k l b a) (fun v=>v.length<=a.length+1):=by
 unfold Fy61_5_4
 refine Ob (cU (Q:=fun v=>v.length=a.length+1) (by omega) (by simp)) fun f d=>?_
 exact .mk (by omega)
theorem Ty61_5_5 {x1 e:Int} {f g:Int} {h i j:Int} {k:Zn} {a:List Zz} (c:a.length+1<=1000000):Ok (Fy61_5_5 x1 e f g h i j k a) (fun v=>v.length<=a.length+1):=by
 unfold Fy61_5_5
 refine Ob (cU (Q:=fun v=>v.length=a.length+1) (by omega) (by simp)) fun d b=>?_
 exact .mk (by omega)
theorem Tn164 {x1:Z0} {x2:List Zz} (k:x1.sm) (j5:x2.length+3044<=1000000):Ok (Fn164 x1 x2) (fun v=>v.length<=x2.length+3044):=by
 unfold Fn164
 have e5:=k.Parts
 refine Ob (P:=fun r=>r.length<=x2.length+24) (aP (l:=x1.Parts) (fun q=>q.2.1) (fun i q=>q.2.2.length<=x2.length+i*6) (Nat.lt_of_le_of_lt k.Parts (by decide)) rfl (by dsimp only;omega) (fun j6 b7 q109 f2 a0 c C m w K=>?_) (fun q109 c m=>?_)) fun e1 k0=>?_
 .obtain ⟨g1,g3,g4⟩:=q109
  dsimp only at c C w K m
  simp only[C,w,nt]
  have T:=k.PartsE _ a0
  refine Ob (Ty61_5 T (by first|omega|(simp only[List.length_nil]at *;omega))) fun e0 h2=>?_
  have e6:=T.Staves
  refine Ob (P:=fun r=>r.2.length<=e0.length+5) (aP (l:=b7.Staves) (fun q=>q.2.1) (fun i q=>q.2.2.length<=e0.length+i*1) (Nat.lt_of_le_of_lt T.Staves (by decide)) rfl (by dsimp only;omega) (fun h7 g8 q125 f3 e3 d D n z L=>?_) (fun q125 d n=>?_)) fun⟨j8,j9⟩ e2=>?_
  .obtain ⟨g5,g6,g7⟩:=q125
   dsimp only at d D z L n
   simp only[D,w,z,nt]
   refine Ob (Ty61_5_2 (by first|omega|(simp only[List.length_nil]at *;omega))) fun j7 h3=>?_
   exact .mk ⟨L,by dsimp only;omega⟩
  .obtain ⟨g5,g6,g7⟩:=q125
   dsimp only at d n
   simp only[d,nf]
   exact .mk (by dsimp only;omega)
  try dsimp only at e2
  exact .mk ⟨K,by dsimp only;omega⟩
 .obtain ⟨g1,g3,g4⟩:=q109
  dsimp only at c m
  simp only[c,nf]
  exact .mk (by dsimp only;omega)
 have e7:=k.Measures
 refine Ob (P:=fun r=>r.length<=e1.length+3010) (aP (l:=x1.Measures) (fun q=>q.1) (fun i q=>q.2.length<=e1.length+i*301) (Nat.lt_of_le_of_lt k.Measures (by decide)) rfl (by dsimp only;omega) (fun h8 b8 q140 f5 b0 e E o a M=>?_) (fun q140 e o=>?_)) fun Z j0=>?_
 .obtain ⟨d2,d3⟩:=q140
  dsimp only at e E a M o
  simp only[E,a,nt]
  have y:=k.MeasuresE _ b0
  refine Ob (Ty61_5_3 y (by first|omega|(simp only[List.length_nil]at *;omega))) fun Y h4=>?_
  have e8:=y.Cells
  refine Ob (P:=fun r=>r.length<=Y.length+300) (aP (l:=b8.Cells) (fun q=>q.1) (fun i q=>q.2.length<=Y.length+i*60) (Nat.lt_of_le_of_lt y.Cells (by decide)) rfl (by dsimp only;omega) (fun h9 b9 q156 f6 b4 f F p b N=>?_) (fun q156 f p=>?_)) fun i6 j1=>?_
  .obtain ⟨d4,W⟩:=q156
   dsimp only at f F b N p
   simp only[F,a,b,nt]
   have U:=y.CellsE _ b4
   have e9:=U.Voices
   refine Ob (P:=fun r=>r.length<=W.length+60) (aP (l:=b9.Voices) (fun q=>q.1) (fun i q=>q.2.length<=W.length+i*20) (Nat.lt_of_le_of_lt U.Voices (by decide)) rfl (by dsimp only;omega) (fun i0 d0 q171 f7 b5 g G s x O=>?_) (fun q171 g s=>?_)) fun i5 j2=>?_
   .obtain ⟨d5,X⟩:=q171
    dsimp only at g G x O s
    simp only[G,a,b,x,nt]
    have V:=U.VoicesE _ b5
    have f0:=V.Events
    refine Ob (P:=fun r=>r.length<=X.length+20) (aP (l:=d0.Events) (fun q=>q.1) (fun i q=>q.2.length<=X.length+i*1) (Nat.lt_of_le_of_lt V.Events (by decide)) rfl (by dsimp only;omega) (fun i1 g9 q187 f8 b6 h H t A R=>?_) (fun q187 h t=>?_)) fun i4 j3=>?_
    .obtain ⟨d6,d7⟩:=q187
     dsimp only at h H A R t
     simp only[H,a,b,x,A,nt]
     have d1:=V.EventsE _ b6
     refine Ob (Ty61_5_4 d1 (by first|omega|(simp only[List.length_nil]at *;omega))) fun i3 h5=>?_
     exact .mk ⟨R,by dsimp only;omega⟩
    .obtain ⟨d6,d7⟩:=q187
     dsimp only at h t
     simp only[h,nf]
     exact .mk (by dsimp only;omega)
    exact .mk ⟨O,by dsimp only;omega⟩
   .obtain ⟨d5,X⟩:=q171
    dsimp only at g s
    simp only[g,nf]
    exact .mk (by dsimp only;omega)
   exact .mk ⟨N,by dsimp only;omega⟩
  .obtain ⟨d4,W⟩:=q156
   dsimp only at f p
   simp only[f,nf]
   exact .mk (by dsimp only;omega)
  exact .mk ⟨M,by dsimp only;omega⟩
 .obtain ⟨d2,d3⟩:=q140
  dsimp only at e o
  simp only[e,nf]
  exact .mk (by dsimp only;omega)
 have f1:=k.Spanners
 refine Ob (P:=fun r=>r.length<=Z.length+10) (aP (l:=x1.Spanners) (fun q=>q.1) (fun i q=>q.2.length<=Z.length+i*1) (Nat.lt_of_le_of_lt k.Spanners (by decide)) rfl (by dsimp only;omega) (fun i2 h0 q205 f9 e4 j J u B S=>?_) (fun q205 j u=>?_)) fun i9 j4=>?_
 .obtain ⟨d8,d9⟩:=q205
  dsimp only at j J B S u
  simp only[J,B,nt]
  refine Ob (Ty61_5_5 (by first|omega|(simp only[List.length_nil]at *;omega))) fun i7 h6=>?_
  exact .mk ⟨S,by dsimp only;omega⟩
 .obtain ⟨d8,d9⟩:=q205
  dsimp only at j u
  simp only[j,nf]
  exact .mk (by dsimp only;omega)
 exact .mk (by omega)
theorem T61 {x1:Z0} (a:x1.sm):Ok (F61 x1) (fun v=>v.length<=4000):=by
 unfold F61
 refine obT (Tn113 a) fun _=>?_
 refine Ob (Tn164 a (by first|omega|(simp only[List.length_nil]at *;omega))) fun c b=>?_
 exact .mk (by simp only[List.length_nil]at *;omega)
theorem T62 {x1:Zz}:Ok (F62 x1) (fun _=>True):=by
 unfold F62
 refine obT (T60) fun b=>?_
 refine Ob (P:=fun r=>r=true->b=true) ?_ fun d a=>?_
 .refine Oi (fun c212=>?_) (fun _=>.mk (fun h=>by cases h))
  refine obT (T60) fun c=>?_
  exact .mk (fun _=>c212)
 exact .mk trivial
theorem T63 {x1:Z0} {j:Int} (e:x1.sm):Ok (F63 x1 j) (fun _=>True):=by
 unfold F63
 have g:=e.Last
 refine lpT (l:=x1.Last) (fun q=>q) (Nat.lt_of_le_of_lt e.Last (by decide)) rfl (fun i h k f a c b d=>?_) (fun k a=>?_) fun m=>?_
 .simp only[c,b,nt]
  refine Oi (fun c225=>?_) (fun c225=>?_)
  .exact .mk trivial
  exact .mk d
 .simp only[a,nf]
  exact .mk trivial
 rcases m with n|_
 .exact .mk trivial
 .exact .mk trivial
theorem Tn32 {x1:List Zv} {y:Z0} {x3:Int} (W:x1.length+4001<=1000000) (c:y.sm):Ok (Fn32 x1 y x3) (fun v=>x1.length<=v.length/\v.length<=x1.length+4001):=by
 unfold Fn32
 refine Ob (T61 c) fun x4 n=>?_
 have C:=n
 refine Ob (P:=fun r=>x1.length<=r.2.length/\r.2.length<=x1.length+4000) (aP (l:=x4) (fun q=>q.1) (fun i q=>x1.length<=q.2.2.length/\q.2.2.length<=x1.length+i*1) (Nat.lt_of_le_of_lt n (by decide)) rfl (by dsimp only;omega) (fun T o q238 F z a g d e k=>?_) (fun q238 a d=>?_)) fun⟨a0,b0⟩ w=>?_
 .obtain ⟨G,s,H⟩:=q238
  dsimp only at a g e k d
  simp only[g,e,nt]
  refine obT (T62) fun J=>?_
  refine Ob (P:=fun r=>¬r=true->¬((!J)||(mget s o false))=true) ?_ fun Y M=>?_
  .refine Oi (fun _=>.mk (fun h=>absurd rfl h)) (fun c242=>?_)
   refine obT (T63 c) fun X=>?_
   exact .mk (fun _=>c242)
  refine Ob (Tn58 (by first|omega|(simp only[List.length_nil]at *;omega)) c) fun Z N=>?_
  exact .mk ⟨k,by dsimp only;omega⟩
 .obtain ⟨G,s,H⟩:=q238
  dsimp only at a d
  simp only[a,nf]
  exact .mk (by dsimp only;omega)
 try dsimp only at w
 have D:=c.Last
 refine lpT (l:=y.Last) (fun q=>q.2) (Nat.lt_of_le_of_lt c.Last (by decide)) rfl (fun U L q255 A b j f m=>?_) (fun q255 b=>?_) fun b8=>?_
 .obtain ⟨t,u⟩:=q255
  dsimp only at b j f m
  simp only[j,f,nt]
  refine Ob (P:=fun r=>¬r=true->¬t=true) ?_ fun K p=>?_
  .refine Oi (fun _=>.mk (fun h=>absurd rfl h)) (fun c258=>?_)
   refine obT (T62) fun b4=>?_
   exact .mk (fun _=>c258)
  refine Ob (P:=fun r=>¬r=true->¬K=true) ?_ fun b7 O=>?_
  .refine Oi (fun _=>.mk (fun h=>absurd rfl h)) (fun c261=>?_)
   have V:=p c261
   refine Ob (P:=fun r=>r=true->(decide (u>0))=true) ?_ fun b6 R=>?_
   .refine Oi (fun c264=>?_) (fun _=>.mk (fun h=>by cases h))
    have E:=c.Last
    refine Ob (P:=fun x=>x∈y.Last) (bC (by(simp only[nm]at *;rw[aV (by omega) (by omega)];omega)) (by(simp only[nm]at *;rw[aV (by omega) (by omega)];omega)) (fun _ h _=>h)) fun b5 B=>?_
    exact .mk (fun _=>c264)
   exact .mk (fun _=>c261)
  exact .mk m
 .obtain ⟨t,u⟩:=q255
  dsimp only at b
  simp only[b,nf]
  exact .mk trivial
 refine Ob (Tn58 (by first|omega|(simp only[List.length_nil]at *;omega)) c) fun b9 S=>?_
 exact .mk (by omega)
theorem T49 {x1:Z0} (a:x1.sm):Ok (F49 x1) (fun v=>v<=9223372036854775807):=by
 unfold F49
 have hp:=a.Parts
 refine Ob (P:=fun v=>v<=9223372036854775807) (aP (l:=x1.Parts) (fun q=>q.2) (fun i q=>q.1<=9223372036854775807) (by omega) rfl (by decide) (fun i e q d c hi hl _ hg hw=>?_) (fun q hi b=>?_)) fun v hv=>.mk hv
 .obtain ⟨n,x⟩:=q
  dsimp only at hi hl hg hw
  simp only[hl,hg,nt]
  exact .mk ⟨hw,(eX1 _).2⟩
 .obtain ⟨n,x⟩:=q
  dsimp only at hi b
  simp only[hi,nf]
  exact .mk b
theorem T65 {x1:Int} {C:Zm} {V:Int} (m:C.sm):Ok (F65 x1 C V) (fun _=>True):=by
 unfold F65
 have v:=m.Cells
 refine lpT (l:=C.Cells) (fun q=>q.2) (Nat.lt_of_le_of_lt m.Cells (by decide)) rfl (fun H e q279 n b g d j=>?_) (fun q279 b=>?_) fun U=>?_
 .obtain ⟨u,A⟩:=q279
  dsimp only at b g d j
  simp only[g,d,nt]
  have a:=m.CellsE _ n
  refine Ob (P:=fun r=>¬r=true->¬(u||((e.Voices.length:Int)==0))=true) ?_ fun B t=>?_
  .refine Oi (fun _=>.mk (fun h=>absurd rfl h)) (fun c283=>?_)
   have w:=a.Voices
   refine Ob (P:=fun x=>x∈e.Voices) (bC (by omega) (by(simp only[nm]at *;omega)) (fun _ h _=>h)) fun O o=>?_
   have L:=a.VoicesE _ o
   exact .mk (fun _=>c283)
  refine Ob (P:=fun r=>¬r=true->¬B=true) ?_ fun S G=>?_
  .refine Oi (fun _=>.mk (fun h=>absurd rfl h)) (fun c289=>?_)
   have K:=t c289
   have y:=a.Voices
   refine Ob (P:=fun x=>x∈e.Voices) (bC (by(simp only[nm]at *;rw[aV (by omega) (by omega)];omega)) (by(simp only[nm]at *;rw[aV (by omega) (by omega)];omega)) (fun _ h _=>h)) fun R p=>?_
   have M:=a.VoicesE _ p
   exact .mk (fun _=>c289)
  have z:=a.Voices
  refine lpT (l:=e.Voices) (fun q=>q.2) (Nat.lt_of_le_of_lt a.Voices (by decide)) rfl (fun J F q305 s c i f k=>?_) (fun q305 c=>?_) fun T=>?_
  .obtain ⟨D,E⟩:=q305
   dsimp only at c i f k
   simp only[i,d,f,nt]
   have N:=a.VoicesE _ s
   exact .mk k
  .obtain ⟨D,E⟩:=q305
   dsimp only at c
   simp only[c,nf]
   exact .mk trivial
  exact .mk j
 .obtain ⟨u,A⟩:=q279
  dsimp only at b
  simp only[b,nf]
  exact .mk trivial
 exact .mk trivial
theorem Tn64 {x1:Int} {g:List Zv} {n:Z0} {z:Int} (u:g.length+10<=1000000) (f:n.sm):Ok (Fn64 x1 g n z) (fun v=>g.length<=v.length/\v.length<=g.length+10):=by
 unfold Fn64
 have k:=f.Measures
 refine Ob (P:=fun r=>g.length<=r.length/\r.length<=g.length+10) (aP (l:=n.Measures) (fun q=>q.1) (fun i q=>g.length<=q.2.length/\q.2.length<=g.length+i*1) (Nat.lt_of_le_of_lt f.Measures (by decide)) rfl (by dsimp only;omega) (fun s o q319 m h a d b c e=>?_) (fun q319 a b=>?_)) fun y t=>?_
 .obtain ⟨A,B⟩:=q319
  dsimp only at a d c e b
  simp only[d,c,nt]
  have j:=f.MeasuresE _ h
  refine obT (T65 j) fun w=>?_
  refine Ob (Tn58 (by first|omega|(simp only[List.length_nil]at *;omega)) f) fun x p=>?_
  exact .mk ⟨e,by dsimp only;omega⟩
 .obtain ⟨A,B⟩:=q319
  dsimp only at a b
  simp only[a,nf]
  exact .mk (by dsimp only;omega)
 exact .mk (by omega)
theorem Tn33 {x1:List Zv} {d:Z0} {f:Int} (e:x1.length+10<=1000000) (a:d.sm):Ok (Fn33 x1 d f) (fun v=>x1.length<=v.length/\v.length<=x1.length+10):=by
 unfold Fn33
 refine Ob (T49 a) fun g b=>?_
 refine Ob (Tn64 (by first|omega|(simp only[List.length_nil]at *;omega)) a) fun h c=>?_
 exact .mk (by omega)
theorem T165:Ok (F165) (fun _=>True):=by
 unfold F165
 exact .mk trivial
theorem T114 {x1:Int}:Ok (F114 x1) (fun _=>True):=by
 unfold F114
 refine Oi (fun c326=>?_) (fun c326=>?_)
 .exact .mk trivial
 refine obT (T165) fun b=>?_
 refine Ob (bC (Q:=fun _=>True) (by(simp only[nm]at *;rw[aV (by omega) (by omega)];omega)) (by(simp only[nm,nl]at *;rw[aV (by omega) (by omega)];omega)) (fun _ _ _=>trivial)) fun c a=>?_
 exact .mk trivial
theorem T66 {x1:Int}:Ok (F66 x1) (fun _=>True):=by
 unfold F66
 refine obT (T114) fun⟨a,b⟩=>?_
 exact .mk trivial
theorem T198 {x1:Zx}:Ok (F198 x1) (fun _=>True):=by
 unfold F198
 refine Oi (fun _=>.mk trivial) (fun _=>?_)
 refine Ob (P:=fun _=>True) (fF (fun q=>q.2.2) 6 (fun _=>True) (by decide) (by decide) trivial (fun q _ h1 h2=>?_)) fun r _=>?_
 .obtain ⟨a,n,i⟩:=q
  dsimp only at h1 h2 ⊢
  refine Oi (fun hc=>?_) (fun _=>.mk trivial)
  simp only[decide_eq_true_eq]at hc
  refine Ob (bC (Q:=fun _=>True) h1 hc (fun _ _ _=>trivial)) fun x _=>?_
  refine Oi (fun _=>.mk trivial) (fun _=>?_)
  refine Ob (P:=fun _=>True) (Oi (fun _=>.mk trivial) (fun _=>.mk trivial)) fun v _=>.mk ⟨hc,h2 hc,trivial⟩
 .rcases r with⟨a,b⟩|⟨a,b⟩<;>exact .mk trivial
theorem T166 {x1:Zx}:Ok (F166 x1) (fun v=>v=0->x1.Unit≠0):=by
 unfold F166
 refine Oi (fun c330=>?_) (fun c330=>?_)
 .exact .mk (by omega)
 refine Oi (fun c331=>?_) (fun c331=>?_)
 .exact .mk (by omega)
 refine obT (T198) fun a=>?_
 refine Oi (fun c333=>?_) (fun c333=>?_)
 .exact .mk (by omega)
 exact .mk (by(simp only[nm]at *;omega))
theorem T199 {x1:Zx} (b:x1.Unit≠0):Ok (F199 x1) (fun _=>True):=by
 unfold F199
 refine Ob (nU (by omega)) fun c a=>?_
 exact .mk trivial
theorem T167 {x1:Zx} (a:x1.Unit≠0):Ok (F167 x1) (fun _=>True):=by
 unfold F167
 refine obT (T199 (by omega)) fun b=>?_
 exact .mk trivial
theorem T115 {x1:Zx}:Ok (F115 x1) (fun _=>True):=by
 unfold F115
 refine Ob (T166) fun b a=>?_
 refine Oi (fun c337=>?_) (fun c337=>?_)
 .exact .mk trivial
 refine obT (T167 (by(simp only[nm]at *;omega))) fun c=>?_
 exact .mk trivial
theorem T68 {x1:Zm} (b:x1.sm):Ok (F68 x1) (fun _=>True):=by
 unfold F68
 refine obT (T115) fun⟨c,d⟩=>?_
 refine Oi (fun c340=>?_) (fun c340=>?_)
 .exact .mk trivial
 refine Oi (fun c341=>?_) (fun c341=>?_)
 .exact .mk trivial
 refine obT ?_ fun e=>?_
 .refine Oi (fun c343=>?_) (fun c343=>?_)
  .exact .mk trivial
  exact .mk trivial
 refine Ob (vG (by omega)) fun f a=>?_
 refine Oi (fun c345=>?_) (fun c345=>?_)
 .exact .mk trivial
 refine Oi (fun c346=>?_) (fun c346=>?_)
 .exact .mk trivial
 exact .mk trivial
theorem T67 {x1:Int} {B:Zm} (k:B.sm):Ok (F67 x1 B) (fun _=>True):=by
 unfold F67
 refine obT (T68 k) fun⟨X,Y⟩=>?_
 have y:=k.Cells
 refine lpT (l:=B.Cells) (fun q=>q.2) (Nat.lt_of_le_of_lt k.Cells (by decide)) rfl (fun K m q358 o a e c g=>?_) (fun q358 a=>?_) fun W=>?_
 .obtain ⟨C,D⟩:=q358
  dsimp only at a e c g
  simp only[e,c,nt]
  have j:=k.CellsE _ o
  have z:=j.Clefs
  refine lpT (l:=m.Clefs) (fun q=>q.2) (Nat.lt_of_le_of_lt j.Clefs (by decide)) rfl (fun L G q371 v b f d i=>?_) (fun q371 b=>?_) fun V=>?_
  .obtain ⟨t,u⟩:=q371
   dsimp only at b f d i
   simp only[f,c,d,nt]
   refine Ob (P:=fun r=>¬r=true->¬t=true) ?_ fun E n=>?_
   .refine Oi (fun _=>.mk (fun h=>absurd rfl h)) (fun c374=>?_)
    refine obT (T66) fun O=>?_
    exact .mk (fun _=>c374)
   refine Ob (P:=fun r=>¬r=true->¬E=true) ?_ fun F p=>?_
   .refine Oi (fun _=>.mk (fun h=>absurd rfl h)) (fun c377=>?_)
    have M:=n c377
    refine obT (T60) fun R=>?_
    exact .mk (fun _=>c377)
   refine Ob (P:=fun r=>¬r=true->¬F=true) ?_ fun U H=>?_
   .refine Oi (fun _=>.mk (fun h=>absurd rfl h)) (fun c381=>?_)
    have s:=p c381
    have N:=n s
    refine Ob (P:=fun r=>r=true->(decide (u>0))=true) ?_ fun T J=>?_
    .refine Oi (fun c385=>?_) (fun _=>.mk (fun h=>by cases h))
     have A:=j.Clefs
     refine Ob (P:=fun x=>x∈m.Clefs) (bC (by(simp only[nm]at *;rw[aV (by omega) (by omega)];omega)) (by(simp only[nm]at *;rw[aV (by omega) (by omega)];omega)) (fun _ h _=>h)) fun S w=>?_
     exact .mk (fun _=>c385)
    exact .mk (fun _=>c381)
   exact .mk i
  .obtain ⟨t,u⟩:=q371
   dsimp only at b
   simp only[b,nf]
   exact .mk trivial
  exact .mk g
 .obtain ⟨C,D⟩:=q358
  dsimp only at a
  simp only[a,nf]
  exact .mk trivial
 exact .mk trivial
theorem Tn64_2 {x1:List Zv} {m:Z0} {y:Int} (t:x1.length+10<=1000000) (f:m.sm):Ok (Fn64_2 x1 m y) (fun v=>x1.length<=v.length/\v.length<=x1.length+10):=by
 unfold Fn64_2
 have j:=f.Measures
 refine Ob (P:=fun r=>x1.length<=r.length/\r.length<=x1.length+10) (aP (l:=m.Measures) (fun q=>q.1) (fun i q=>x1.length<=q.2.length/\q.2.length<=x1.length+i*1) (Nat.lt_of_le_of_lt f.Measures (by decide)) rfl (by dsimp only;omega) (fun p n q400 k g a d b c e=>?_) (fun q400 a b=>?_)) fun x s=>?_
 .obtain ⟨z,A⟩:=q400
  dsimp only at a d c e b
  simp only[d,c,nt]
  have h:=f.MeasuresE _ g
  refine obT (T67 h) fun u=>?_
  refine Ob (Tn58 (by first|omega|(simp only[List.length_nil]at *;omega)) f) fun w o=>?_
  exact .mk ⟨e,by dsimp only;omega⟩
 .obtain ⟨z,A⟩:=q400
  dsimp only at a b
  simp only[a,nf]
  exact .mk (by dsimp only;omega)
 exact .mk (by omega)
theorem Tn34 {x1:List Zv} {A:Z0} {T:Int} (L:x1.length+30<=1000000) (f:A.sm):Ok (Fn34 x1 A T) (fun v=>x1.length<=v.length/\v.length<=x1.length+30):=by
 unfold Fn34
 have u:=f.Parts
 refine Ob (P:=fun r=>x1.length<=r.length/\r.length<=x1.length+20) (aP (l:=A.Parts) (fun q=>q.1) (fun i q=>x1.length<=q.2.length/\q.2.length<=x1.length+i*5) (Nat.lt_of_le_of_lt f.Parts (by decide)) rfl (by dsimp only;omega) (fun G s q416 x p a h c e k=>?_) (fun q416 a c=>?_)) fun R J=>?_
 .obtain ⟨z,n⟩:=q416
  dsimp only at a h e k c
  simp only[h,e,nt]
  have o:=f.PartsE _ p
  have w:=o.Staves
  refine Ob (P:=fun r=>n.length<=r.length/\r.length<=n.length+5) (aP (l:=s.Staves) (fun q=>q.1) (fun i q=>n.length<=q.2.length/\q.2.length<=n.length+i*1) (Nat.lt_of_le_of_lt o.Staves (by decide)) rfl (by dsimp only;omega) (fun H D q430 y t b j d g m=>?_) (fun q430 b d=>?_)) fun O K=>?_
  .obtain ⟨B,C⟩:=q430
   dsimp only at b j g m d
   simp only[j,e,g,nt]
   refine obT (T66) fun M=>?_
   refine Ob (Tn58 (by first|omega|(simp only[List.length_nil]at *;omega)) f) fun N E=>?_
   exact .mk ⟨m,by dsimp only;omega⟩
  .obtain ⟨B,C⟩:=q430
   dsimp only at b d
   simp only[b,nf]
   exact .mk (by dsimp only;omega)
  exact .mk ⟨k,by dsimp only;omega⟩
 .obtain ⟨z,n⟩:=q416
  dsimp only at a c
  simp only[a,nf]
  exact .mk (by dsimp only;omega)
 refine Ob (Tn64_2 (by first|omega|(simp only[List.length_nil]at *;omega)) f) fun S F=>?_
 exact .mk (by omega)
theorem T26 {x1:Int}:Ok (F26 x1) (fun _=>True):=by
 unfold F26
 refine Oi (fun c435=>?_) (fun c435=>?_)
 .exact .mk trivial
 exact .mk trivial
theorem T12 {x1:Int} {a:Zl}:Ok (F12 x1 a) (fun _=>True):=by
 unfold F12
 refine Ob T26 fun c _=>?_
 refine Oi (fun _=>.mk trivial) (fun _=>?_)
 refine Oi (fun _=>.mk trivial) (fun _=>?_)
 have hw:=eX1 (x1+(w64 ((w64 (7*a.Semitones))-(w64 (12*a.Steps)))))
 generalize w64 (x1+(w64 ((w64 (7*a.Semitones))-(w64 (12*a.Steps)))))=x0 at hw ⊢
 refine Ob (P:=fun v=> -9223372036854775808<=v/\v<=7) (eG (fun x=> -9223372036854775808<=x/\x<=9223372036854775807) (fun x=>(x+9223372036854775808).toNat) (fun x b=>?_) B64 x0 hw (by simp only[B64];omega)) fun x1 h1=>?_
 .refine Oi (fun hc=>?_) (fun hc=>?_)<;>simp only[decide_eq_true_eq]at hc
  .rw [aV (by omega) (by omega)];exact .mk ⟨by omega,by omega⟩
  .exact .mk (by omega)
 refine Ob (P:=fun v=>True) (eG (fun x=> -9223372036854775808<=x/\x<=7) (fun x=>(7-x).toNat) (fun x b=>?_) B64 x1 h1 (by simp only[B64];omega)) fun a _=>.mk trivial
 refine Oi (fun hc=>?_) (fun hc=>?_)<;>simp only[decide_eq_true_eq]at hc
 .rw [aV (by omega) (by omega)];exact .mk ⟨by omega,by omega⟩
 .exact .mk trivial
theorem T69 {x1:Int} {t:Zm} {m:Zk} (g:t.sm) (e:m.s'.sm):Ok (F69 x1 t m) (fun _=>True):=by
 unfold F69
 refine obT (T68 g) fun⟨z,y⟩=>?_
 refine Ob (P:=fun r=>¬r=true->¬(y !=0)=true) ?_ fun B o=>?_
 .refine Oi (fun _=>.mk (fun h=>absurd rfl h)) (fun c438=>?_)
  refine obT (T60) fun A=>?_
  exact .mk (fun _=>c438)
 have i:=e.Parts
 refine lpT (l:=m.s'.Parts) (fun q=>q.2) (Nat.lt_of_le_of_lt e.Parts (by decide)) rfl (fun p n q450 f a c b d=>?_) (fun q450 a=>?_) fun x=>?_
 .obtain ⟨j,k⟩:=q450
  dsimp only at a c b d
  simp only[c,b,nt]
  have s:=e.PartsE _ f
  refine obT ?_ fun w=>?_
  .refine Oi (fun c454=>?_) (fun c454=>?_)
   .refine obT (T12) fun⟨u,v⟩=>?_
    exact .mk trivial
   exact .mk trivial
  exact .mk d
 .obtain ⟨j,k⟩:=q450
  dsimp only at a
  simp only[a,nf]
  exact .mk trivial
 exact .mk trivial
theorem Tn64_3 {x1:List Zv} {m:Z0} {y:Int} (t:x1.length+10<=1000000) (c:m.sm):Ok (Fn64_3 x1 m y) (fun v=>x1.length<=v.length/\v.length<=x1.length+10):=by
 unfold Fn64_3
 have j:=c.Measures
 refine Ob (P:=fun r=>x1.length<=r.length/\r.length<=x1.length+10) (aP (l:=m.Measures) (fun q=>q.1) (fun i q=>x1.length<=q.2.length/\q.2.length<=x1.length+i*1) (Nat.lt_of_le_of_lt c.Measures (by decide)) rfl (by dsimp only;omega) (fun p n q467 k g a e b d f=>?_) (fun q467 a b=>?_)) fun x s=>?_
 .obtain ⟨z,A⟩:=q467
  dsimp only at a e d f b
  simp only[e,d,nt]
  have h:=c.MeasuresE _ g
  refine obT (T69 h c) fun u=>?_
  refine Ob (Tn58 (by first|omega|(simp only[List.length_nil]at *;omega)) c) fun w o=>?_
  exact .mk ⟨f,by dsimp only;omega⟩
 .obtain ⟨z,A⟩:=q467
  dsimp only at a b
  simp only[a,nf]
  exact .mk (by dsimp only;omega)
 exact .mk (by omega)
theorem Tn35 {x1:List Zv} {c:Z0} {e:Int} (d:x1.length+10<=1000000) (a:c.sm):Ok (Fn35 x1 c e) (fun v=>x1.length<=v.length/\v.length<=x1.length+10):=by
 unfold Fn35
 refine Ob (Tn64_3 (by first|omega|(simp only[List.length_nil]at *;omega)) a) fun f b=>?_
 exact .mk (by omega)
theorem T125 {x1 a:Int}:Ok (F125 x1 a) (fun _=>True):=by
 unfold F125
 refine Oi (fun c473=>?_) (fun c473=>?_)
 .exact .mk trivial
 exact .mk trivial
theorem T124 {x1:List Int} (e:x1.length<=20):Ok (F124 x1) (fun _=>True):=by
 unfold F124
 have g:=e
 refine lpT (l:=x1) (fun q=>q) (Nat.lt_of_le_of_lt e (by decide)) rfl (fun i h j f a c b d=>?_) (fun j a=>?_) fun k=>?_
 .simp only[c,b,nt]
  refine Oi (fun c485=>?_) (fun c485=>?_)
  .exact .mk trivial
  exact .mk d
 .simp only[a,nf]
  exact .mk trivial
 rcases k with m|_
 .exact .mk trivial
 .exact .mk trivial
theorem T126 {x1:Int}:Ok (F126 x1) (fun _=>True):=by
 unfold F126
 exact .mk trivial
theorem T175 {x1:Int}:Ok (F175 x1) (fun _=>True):=by
 unfold F175
 refine Oi (fun c486=>?_) (fun c486=>?_)
 .exact .mk trivial
 exact .mk trivial
theorem T128 {x1:Ze} (c:x1.sm):Ok (F128 x1) (fun v=>v.sm):=by
 unfold F128
 refine Ob (P:=fun r=>¬r=true->¬(x1.Kind==1)=true) ?_ fun e a=>?_
 .refine Oi (fun _=>.mk (fun h=>absurd rfl h)) (fun c488=>?_)
  refine obT (T126) fun d=>?_
  exact .mk (fun _=>c488)
 refine Oi (fun c490=>?_) (fun c490=>?_)
 .exact .mk (by first|assumption|exact⟨Nat.zero_le _,Nat.zero_le _,Nat.zero_le _,fun _ h=>nomatch h⟩)
 have b:=a c490
 refine obT ?_ fun f=>?_
 .refine Oi (fun c493=>?_) (fun c493=>?_)
  .exact .mk trivial
  exact .mk trivial
 refine obT ?_ fun i=>?_
 .refine Oi (fun c495=>?_) (fun c495=>?_)
  .refine obT (T175) fun g=>?_
   exact .mk trivial
  exact .mk trivial
 exact .mk (by first|assumption|exact⟨Nat.zero_le _,Nat.zero_le _,Nat.zero_le _,fun _ h=>nomatch h⟩)
theorem T172 {x1 m:List Zb} (e:x1.length<=12) (f:m.length<=12):Ok (F172 x1 m) (fun _=>True):=by
 unfold F172
 refine Oi (fun c497=>?_) (fun c497=>?_)
 .exact .mk trivial
 have j:=e
 refine lpT (l:=x1) (fun q=>q) (Nat.lt_of_le_of_lt e (by decide)) rfl (fun o n p g a c b d=>?_) (fun p a=>?_) fun r=>?_
 .simp only[c,b,nt]
  have k:=f
  refine Ob (P:=fun x=>x∈m) (bC (by omega) (by(simp only[nm]at *;omega)) (fun _ h _=>h)) fun s i=>?_
  refine Oi (fun c512=>?_) (fun c512=>?_)
  .exact .mk trivial
  exact .mk d
 .simp only[a,nf]
  exact .mk trivial
 rcases r with _|_
 .exact .mk trivial
 .exact .mk trivial
theorem T173 {x1 m:List Zd} (e:x1.length<=12) (f:m.length<=12):Ok (F173 x1 m) (fun _=>True):=by
 unfold F173
 refine Oi (fun c513=>?_) (fun c513=>?_)
 .exact .mk trivial
 have j:=e
 refine lpT (l:=x1) (fun q=>q) (Nat.lt_of_le_of_lt e (by decide)) rfl (fun o n p g a c b d=>?_) (fun p a=>?_) fun r=>?_
 .simp only[c,b,nt]
  have k:=f
  refine Ob (P:=fun x=>x∈m) (bC (by omega) (by(simp only[nm]at *;omega)) (fun _ h _=>h)) fun s i=>?_
  refine Oi (fun c528=>?_) (fun c528=>?_)
  .exact .mk trivial
  exact .mk d
 .simp only[a,nf]
  exact .mk trivial
 rcases r with _|_
 .exact .mk trivial
 .exact .mk trivial
theorem T174 {x1 k:List Zy} (g:x1.length<=12) (i:∀y∈x1,y.sm) (m:k.length<=12) (j:∀y∈k,y.sm):Ok (F174 x1 k) (fun _=>True):=by
 unfold F174
 refine Oi (fun c529=>?_) (fun c529=>?_)
 .exact .mk trivial
 have n:=g
 refine lpT (l:=x1) (fun q=>q) (Nat.lt_of_le_of_lt g (by decide)) rfl (fun r p u d a c b f=>?_) (fun u a=>?_) fun v=>?_
 .simp only[c,b,nt]
  have s:=i _ d
  have o:=m
  refine Ob (P:=fun x=>x∈k) (bC (by omega) (by(simp only[nm]at *;omega)) (fun _ h _=>h)) fun w e=>?_
  have t:=j _ e
  refine Oi (fun c546=>?_) (fun c546=>?_)
  .exact .mk trivial
  exact .mk f
 .simp only[a,nf]
  exact .mk trivial
 rcases v with _|_
 .exact .mk trivial
 .exact .mk trivial
theorem T127 {x1 a:Ze} (b:x1.sm) (c:a.sm):Ok (F127 x1 a) (fun _=>True):=by
 unfold F127
 refine Ob (P:=fun r=>r=true->(((((((x1.Kind==a.Kind)&&(((x1.Value.Log==a.Value.Log)&&((x1.Value.Dots==a.Value.Dots)&&true))!=false))&&(x1.Articulations==a.Articulations))&&(x1.Ornament==a.Ornament))&&(x1.Dynamic==a.Dynamic))&&(x1.Stem==a.Stem))&&(x1.Beam==a.Beam))=true) ?_ fun k d=>?_
 .refine Oi (fun c548=>?_) (fun _=>.mk (fun h=>by cases h))
  refine obT (T172 b.Heads c.Heads) fun m=>?_
  exact .mk (fun _=>c548)
 refine Ob (P:=fun r=>r=true->k=true) ?_ fun l e=>?_
 .refine Oi (fun c551=>?_) (fun _=>.mk (fun h=>by cases h))
  have i:=d c551
  refine obT (T173 b.Graces c.Graces) fun n=>?_
  exact .mk (fun _=>c551)
 refine Ob (P:=fun r=>r=true->l=true) ?_ fun p g=>?_
 .refine Oi (fun c555=>?_) (fun _=>.mk (fun h=>by cases h))
  have f:=e c555
  have j:=d f
  refine obT (T174 b.Lyrics b.LyricsE c.Lyrics c.LyricsE) fun o=>?_
  exact .mk (fun _=>c555)
 exact .mk trivial
theorem T129 {x1:Za}:Ok (F129 x1) (fun v=>v=0-> -1<=x1.Log/\x1.Log<=8/\0<=x1.Dots/\x1.Dots<=3):=by
 unfold F129
 refine Oi (fun c559=>?_) (fun c559=>?_)
 .exact .mk (by omega)
 exact .mk (by(simp only[nm]at *;omega))
theorem T100:Ok (F100) (fun _=>True):=by
 unfold F100
 exact .mk trivial
theorem T51 {x1:Zh} (b:0<=x1.Step/\x1.Step<=6):Ok (F51 x1) (fun _=>True):=by
 unfold F51
 refine obT (T100) fun c=>?_
 refine Ob (bC (Q:=fun _=>True) (by omega) (by(simp only[nm,nl]at *;omega)) (fun _ _ _=>trivial)) fun d a=>?_
 exact .mk trivial
theorem T50 {x1:Zh}:Ok (F50 x1) (fun v=>v=0->0<=x1.Step/\x1.Step<=6):=by
 unfold F50
 refine Oi (fun c562=>?_) (fun c562=>?_)
 .exact .mk (by omega)
 refine obT (T51 (by(simp only[nm]at *;omega))) fun a=>?_
 refine Oi (fun c564=>?_) (fun c564=>?_)
 .exact .mk (by omega)
 exact .mk (by(simp only[nm]at *;omega))
theorem T28 {x1:Zh}:Ok (F28 x1) (fun _=>True):=by
 unfold F28
 refine Ob (T50) fun b a=>?_
 refine Oi (fun c566=>?_) (fun c566=>?_)
 .exact .mk trivial
 refine obT (T51 (by(simp only[nm]at *;omega))) fun c=>?_
 exact .mk trivial
theorem T177 {x1:Zh}:Ok (F177 x1) (fun _=>True):=by
 unfold F177
 refine obT (T28) fun⟨a,b⟩=>?_
 refine Oi (fun c569=>?_) (fun c569=>?_)
 .exact .mk trivial
 exact .mk trivial
theorem T176 {x1:Zb}:Ok (F176 x1) (fun _=>True):=by
 unfold F176
 refine obT (T177) fun⟨a,b⟩=>?_
 refine obT (T125) fun c=>?_
 refine obT (T124 (by simp)) fun d=>?_
 exact .mk trivial
theorem T130 {x1:List Zb} (e:x1.length<=12):Ok (F130 x1) (fun _=>True):=by
 unfold F130
 refine Oi (fun c573=>?_) (fun c573=>?_)
 .exact .mk trivial
 refine Oi (fun c574=>?_) (fun c574=>?_)
 .exact .mk trivial
 have g:=e
 refine lpT (l:=x1) (fun q=>q.2) (Nat.lt_of_le_of_lt e (by decide)) rfl (fun j i q585 f a c b d=>?_) (fun q585 a=>?_) fun h=>?_
 .obtain ⟨o,p⟩:=q585
  dsimp only at a c b d
  simp only[c,b,nt]
  refine obT (T176) fun r=>?_
  refine Oi (fun c588=>?_) (fun c588=>?_)
  .exact .mk trivial
  refine obT (T177) fun⟨k,m⟩=>?_
  refine Oi (fun c590=>?_) (fun c590=>?_)
  .exact .mk trivial
  exact .mk d
 .obtain ⟨o,p⟩:=q585
  dsimp only at a
  simp only[a,nf]
  exact .mk trivial
 rcases h with n|_
 .exact .mk trivial
 .exact .mk trivial
theorem T131 {x1:List Zd} (e:x1.length<=12):Ok (F131 x1) (fun _=>True):=by
 unfold F131
 refine Oi (fun c591=>?_) (fun c591=>?_)
 .exact .mk trivial
 have g:=e
 refine lpT (l:=x1) (fun q=>q) (Nat.lt_of_le_of_lt e (by decide)) rfl (fun j i k f a c b d=>?_) (fun k a=>?_) fun h=>?_
 .simp only[c,b,nt]
  refine obT (T177) fun⟨m,n⟩=>?_
  refine Oi (fun c604=>?_) (fun c604=>?_)
  .exact .mk trivial
  refine Oi (fun c605=>?_) (fun c605=>?_)
  .exact .mk trivial
  exact .mk d
 .simp only[a,nf]
  exact .mk trivial
 rcases h with o|_
 .exact .mk trivial
 .exact .mk trivial
theorem T178 {x1:Zy} (a:x1.sm):Ok (F178 x1) (fun _=>True):=by
 unfold F178
 refine Oi (fun _=>.mk trivial) (fun _=>?_)
 refine Oi (fun _=>.mk trivial) (fun _=>?_)
 have hs:=a.Text
 refine Ob (P:=fun _=>True) (fF (fun q=>q) (x1.Text.size:Int) (fun _=>True) (by omega) (by decide) trivial (fun i _ h1 h2=>?_)) fun r _=>?_
 .refine Oi (fun hc=>?_) (fun _=>.mk trivial)
  simp only[decide_eq_true_eq]at hc
  refine Ob (nW h1 hc) fun b _=>?_
  refine Ob (P:=fun _=>True) (Oi (fun _=>.mk trivial) (fun _=>Ob (nW h1 hc) fun b _=>.mk trivial)) fun b _=>?_
  exact Oi (fun _=>.mk trivial) (fun _=>.mk ⟨hc,h2 hc,trivial⟩)
 .rcases r with _|_
  .exact .mk trivial
  .exact Oi (fun _=>.mk trivial) (fun _=>.mk trivial)
theorem T179 {x1:Zy} (a:x1.sm):Ok (F179 x1) (fun _=>True):=by
 unfold F179
 exact .mk trivial
theorem T132 {x1:List Zy} (c:x1.length<=12) (b:∀y∈x1,y.sm):Ok (F132 x1) (fun _=>True):=by
 unfold F132
 refine Oi (fun c606=>?_) (fun c606=>?_)
 .exact .mk trivial
 have n:=c
 refine lpT (l:=x1) (fun q=>q) (Nat.lt_of_le_of_lt c (by decide)) rfl (fun s p w f a e d i=>?_) (fun w a=>?_) fun z=>?_
 .simp only[e,d,nt]
  have k:=b _ f
  refine obT (T178 k) fun A=>?_
  refine Oi (fun c620=>?_) (fun c620=>?_)
  .exact .mk trivial
  exact .mk i
 .simp only[a,nf]
  exact .mk trivial
 rcases z with B|_
 .exact .mk trivial
 .refine Ob (P:=fun r=>r=true->(decide ((x1.length:Int)>0))=true) ?_ fun v j=>?_
  .refine Oi (fun c622=>?_) (fun _=>.mk (fun h=>by cases h))
   have o:=c
   refine Ob (P:=fun x=>x∈x1) (bC (by(simp only[nm]at *;rw[aV (by omega) (by omega)];omega)) (by(simp only[nm]at *;rw[aV (by omega) (by omega)];omega)) (fun _ h _=>h)) fun C g=>?_
   have m:=b _ g
   refine obT (T179 m) fun u=>?_
   exact .mk (fun _=>c622)
  refine Oi (fun c628=>?_) (fun c628=>?_)
  .have t:=j c628
   exact .mk trivial
  exact .mk trivial
theorem T75 {x1:Ze} (a:x1.sm):Ok (F75 x1) (fun _=>True):=by
 unfold F75
 refine obT (T125) fun x=>?_
 refine obT (T125) fun y=>?_
 refine obT (T124 (by simp)) fun z=>?_
 refine Oi (fun c633=>?_) (fun c633=>?_)
 .exact .mk trivial
 refine obT (T126) fun A=>?_
 refine Oi (fun c635=>?_) (fun c635=>?_)
 .exact .mk trivial
 refine Ob (T128 a) fun B b=>?_
 refine obT (T127 a b) fun C=>?_
 refine Oi (fun c638=>?_) (fun c638=>?_)
 .exact .mk trivial
 refine Ob (P:=fun r=>r=true->(x1.Kind !=3)=true) ?_ fun E c=>?_
 .refine Oi (fun c640=>?_) (fun _=>.mk (fun h=>by cases h))
  refine Ob (T129) fun D d=>?_
  exact .mk (fun _=>c640)
 refine Oi (fun c642=>?_) (fun c642=>?_)
 .have e:=c c642
  exact .mk trivial
 refine Oi (fun c644=>?_) (fun c644=>?_)
 .refine obT (T130 a.Heads) fun f=>?_
  refine obT (T131 a.Graces) fun g=>?_
  refine obT (T132 a.Lyrics a.LyricsE) fun i=>?_
  refine obT (T124 (by simp)) fun j=>?_
  refine Oi (fun c649=>?_) (fun c649=>?_)
  .exact .mk trivial
  refine obT (T125) fun k=>?_
  refine obT (T125) fun l=>?_
  refine obT (T125) fun m=>?_
  refine obT (T125) fun n=>?_
  refine obT (T125) fun o=>?_
  refine obT (T124 (by simp)) fun p=>?_
  exact .mk trivial
 refine obT (T125) fun q=>?_
 refine obT (T125) fun s=>?_
 refine obT (T125) fun t=>?_
 refine obT (T125) fun u=>?_
 refine obT (T125) fun v=>?_
 refine obT (T124 (by simp)) fun w=>?_
 exact .mk trivial
theorem T117 {x1:Ze} (a:x1.sm):Ok (F117 x1) (fun _=>True):=by
 unfold F117
 refine obT (T75 a) fun b=>?_
 exact .mk trivial
theorem T170 {x1:List Ze} (f:x1.length<=20) (g:∀y∈x1,y.sm):Ok (F170 x1) (fun _=>True):=by
 unfold F170
 have i:=f
 refine lpT (l:=x1) (fun q=>q) (Nat.lt_of_le_of_lt f (by decide)) rfl (fun k j m d a c b e=>?_) (fun m a=>?_) fun n=>?_
 .simp only[c,b,nt]
  have h:=g _ d
  refine obT (T117 h) fun o=>?_
  refine Oi (fun c676=>?_) (fun c676=>?_)
  .exact .mk trivial
  exact .mk e
 .simp only[a,nf]
  exact .mk trivial
 rcases n with p|_
 .exact .mk trivial
 .exact .mk trivial
theorem T122 {x1:List Ze} (b:x1.length<=20) (a:∀y∈x1,y.sm):Ok (F122 x1) (fun _=>True):=by
 unfold F122
 refine obT (T170 b a) fun c=>?_
 exact .mk trivial
theorem T211 {x1:Zo} (b:x1.sm):Ok (F211 x1) (fun _=>True):=by
 unfold F211
 refine Ob (P:=fun r=>r=true->(decide ((x1.Events.length:Int)>0))=true) ?_ fun g d=>?_
 .refine Oi (fun c679=>?_) (fun _=>.mk (fun h=>by cases h))
  have c:=b.Events
  refine Ob (P:=fun x=>x∈x1.Events) (bC (by omega) (by(simp only[nm]at *;omega)) (fun _ h _=>h)) fun f a=>?_
  have e:=b.EventsE _ a
  exact .mk (fun _=>c679)
 exact .mk trivial
theorem T241 {x1:Za} (b: -1<=x1.Log/\x1.Log<=8/\0<=x1.Dots/\x1.Dots<=3):Ok (F241 x1) (fun _=>True):=by
 unfold F241
 refine Ob (nV (by rw[aV (by omega) (by omega)];omega)) fun n _=>?_
 refine Ob (P:=fun _=>True) (fF (fun q=>q.2.2) x1.Dots (fun _=>True) (by omega) (by dsimp only;omega) trivial (fun q _ h1 h2=>?_)) fun r _=>.mk trivial
 obtain⟨a,n,i⟩:=q
 dsimp only at h1 h2 ⊢
 refine Oi (fun hc=>?_) (fun _=>.mk trivial)
 simp only[decide_eq_true_eq]at hc
 exact Ob (nU (by decide)) fun x _=>.mk ⟨hc,h2 hc,trivial⟩
theorem T235 {x1:Za}:Ok (F235 x1) (fun _=>True):=by
 unfold F235
 refine Ob (T129) fun b a=>?_
 refine Oi (fun c685=>?_) (fun c685=>?_)
 .exact .mk trivial
 refine obT (T241 (by(simp only[nm]at *;omega))) fun c=>?_
 exact .mk trivial
theorem T230 {x1:Ze} (a:x1.sm):Ok (F230 x1) (fun _=>True):=by
 unfold F230
 refine obT (T75 a) fun b=>?_
 refine Oi (fun c688=>?_) (fun c688=>?_)
 .exact .mk trivial
 refine obT (T235) fun⟨c,d⟩=>?_
 exact .mk trivial
theorem T222 {x1:List Ze} (g:x1.length<=20) (c:∀y∈x1,y.sm):Ok (F222 x1) (fun v=>v.length<=20):=by
 unfold F222
 refine Ob (lS (by omega) (by omega) (by omega)) fun n h2=>?_
 refine Ob (P:=fun v=>v.length=x1.length) (aP (l:=x1) (fun q=>q.1) (fun _ q=>q.2.length=x1.length) (by omega) rfl (by rw[h2];simp) (fun i e q k f hi hl d hg hw=>?_) (fun q hi d=>?_)) fun v hv=>.mk (by omega)
 .obtain ⟨x,l⟩:=q
  dsimp only at hi hl d hg hw
  simp only[hl,hg,nt]
  refine Ob (T230 (c e f)) fun⟨a,b⟩ _=>?_
  refine Ob (bM (by omega) (by omega)) fun j h=>?_
  refine Ob (bN1 (by omega)) fun m f=>.mk ⟨hw,by dsimp only;omega⟩
 .obtain ⟨x,l⟩:=q
  dsimp only at hi d
  simp only[hi,nf]
  exact .mk d
theorem T238 {x1:Int}:Ok (F238 x1) (fun v=>v=true->1<=x1/\x1<=32):=by
 unfold F238
 exact .mk (by(simp only[nm]at *;omega))
theorem T239 {x1 a:Zu}:Ok (F239 x1 a) (fun _=>True):=by
 unfold F239
 refine Oi (fun c690=>?_) (fun c690=>?_)
 .refine Oi (fun c691=>?_) (fun c691=>?_)
  .exact .mk trivial
  exact .mk trivial
 refine Oi (fun c692=>?_) (fun c692=>?_)
 .refine Oi (fun c693=>?_) (fun c693=>?_)
  .exact .mk trivial
  exact .mk trivial
 exact .mk trivial
theorem T237 {x1:Zu}:Ok (F237 x1) (fun v=>v=w64 (x1.First+x1.Count)):=by
 unfold F237
 exact .mk (by rfl)
theorem Tn236 {x1:Zu} {a:List Zu} (g:a.length<=6) (i:a.length<=3):Ok (Fn236 x1 a) (fun v=>v.2.length<=3):=by
 unfold Fn236
 refine Ob (P:=fun v=>v.length<=3) (eG (fun l=>l.length<=3) (fun l=>l.length) (fun l hl=>?_) B64 a i (by simp only[B64];omega)) fun x d=>?_
 .refine Ob (P:=fun r=>r=true->0<l.length) (Oi (fun hc=>?_) (fun _=>.mk (fun h=>by cases h))) fun b hb=>?_
  .simp only[decide_eq_true_eq]at hc
   refine Ob (bM (by rw[aV (by omega) (by omega)];omega) (by rw[aV (by omega) (by omega)];omega)) fun j c=>?_
   exact Ob (bR c.2) fun y _=>Ob T237 fun e _=>.mk (fun _=>by omega)
  .refine Oi (fun hc=>?_) (fun _=>.mk hl)
   have:=hb hc
   refine Ob (bO1 this (by rw[aV (by omega) (by omega)];omega) (by rw[aV (by omega) (by omega)];omega)) fun m f=>?_
   have:=f.1
   rw[aV (by omega) (by omega)]at this
   exact .mk ⟨by omega,by omega⟩
 .refine Ob (P:=fun r=>r=true\/x.length<3) (Oi (fun hc=>.mk (.inl rfl)) (fun hc=>?_)) fun b hb=>?_
  .have hc:x.length<3:=by simp only[beq_iff_eq]at hc;omega
   refine Ob (P:=fun _=>True) (Oi (fun hd=>?_) (fun _=>.mk trivial)) fun b _=>.mk (.inr hc)
   simp only[decide_eq_true_eq]at hd
   refine Ob T237 fun e _=>?_
   refine Ob (bM (by rw[aV (by omega) (by omega)];omega) (by rw[aV (by omega) (by omega)];omega)) fun j c=>?_
   exact Ob (bR c.2) fun y _=>Ob T237 fun e _=>.mk trivial
  .refine Oi (fun _=>.mk d) (fun hc=>?_)
   have hb:x.length<3:=by rcases hb with h|h;exact absurd h hc;exact h
   refine Ob (cU (Q:=fun v=>v.length=x.length+1) (by omega) (by simp)) fun m f=>.mk (by dsimp only;omega)
theorem T231 {x1:List Zu} {c:Int} (w:x1.length<=6):Ok (F231 x1 c) (fun v=>v=0->∀t∈x1,t.ok c):=by
 unfold F231
 refine Oi (fun _=>.mk (fun h=>by cases h)) (fun k=>?_)
 refine Oi (fun _=>.mk (fun h=>by cases h)) (fun _=>?_)
 simp only[Bool.or_eq_true,decide_eq_true_eq,not_or]at k
 refine Ob (P:=fun r=>match r with|.inl p=>p.1≠0|.inr _=>∀t∈x1,t.ok c) (aP (l:=x1) (fun q=>q.1) (fun i q=>q.2.length<=3/\∀j,j<i->∀t,x1[j]? =some t->t.ok c) (by omega) rfl ⟨by decide,fun j g=>by omega⟩ (fun i e q z u hi hl d hg hw=>?_) (fun q hi d=>?_)) fun v hv=>?_
 .obtain ⟨x,l⟩:=q
  dsimp only at hi hl d hg hw
  simp only[hl,hg,nt]
  refine Ob (P:=fun r=>r=false->(1<=e.Count/\e.Count<=c/\0<=e.First/\e.First+e.Count<=c/\1<=e.Actual/\e.Actual<=32)) (Oi (fun _=>.mk (fun h=>by cases h)) (fun hc=>?_)) fun b1 h1=>?_
  .simp only[Bool.or_eq_true,decide_eq_true_eq,not_or]at hc
   rw[aV (by omega) (by omega)]at hc
   refine Ob T238 fun r hr=>.mk (fun h=>?_)
   have:=hr (by simpa using h)
   omega
  refine Ob (P:=fun r=>r=false->e.ok c) (Oi (fun hc=>.mk (fun h=>by cases h)) (fun hc=>?_)) fun b2 h2=>?_
  .refine Ob T238 fun r hr=>.mk (fun h=>?_)
   have:=hr (by simpa using h)
   have:=h1 (by simpa using hc)
   unfold Zu.ok;omega
  refine Oi (fun _=>.mk (show(2:Int)≠0 by decide)) (fun hc=>?_)
  have s:e.ok c:=h2 (by simp only[Bool.or_eq_true,not_or,Bool.not_eq_true]at hc;exact hc.1)
  refine Ob (P:=fun _=>True) (Oi (fun hd=>?_) (fun _=>.mk trivial)) fun b3 _=>?_
  .simp only[decide_eq_true_eq]at hd
   have:=cQ hg
   refine Ob (bC (Q:=fun _=>True) (by rw[aV (by omega) (by omega)];omega) (by rw[aV (by omega) (by omega)];omega) (fun _ _ _=>trivial)) fun y _=>?_
   exact Ob T239 fun o _=>.mk trivial
  refine Oi (fun _=>.mk (show(25:Int)≠0 by decide)) (fun _=>?_)
  refine Ob (Tn236 (Nat.le_trans d.1 (by decide)) d.1) fun⟨a,m⟩ u=>?_
  refine Oi (fun _=>.mk (show(21:Int)≠0 by decide)) (fun _=>.mk ⟨hw,u,fun j g t f=>?_⟩)
  by_cases n:j=i
  .subst n;rw[z]at f;cases f;exact s
  .exact d.2 j (by omega) t f
 .obtain ⟨x,l⟩:=q
  dsimp only at hi d
  simp only[hi,nf]
  refine .mk (fun t f=>?_)
  obtain⟨j,g⟩:=List.mem_iff_getElem?.1 f
  exact d.2 j (List.getElem?_eq_some_iff.1 g).1 t g
 .rcases v with⟨a,b⟩|b
  .exact .mk (fun h=>absurd h hv)
  .exact .mk (fun _=>hv)
theorem T242 {x1:Zu} {a:Int}:Ok (F242 x1 a) (fun _=>True):=by
 unfold F242
 exact .mk trivial
theorem T243 {x1 c:Int} (k:0<x1/\0<c/\c<9223372036854775808):Ok (F243 x1 c) (fun v=>0<v/\v∣x1/\v∣c):=by
 unfold F243
 refine Ob (P:=fun v=>0<v/\v∣x1/\v∣c) (eG (fun q=>0<q.1/\0<=q.2/\∀d:Int,d∣q.1->d∣q.2->d∣x1/\d∣c) (fun q=>q.2.toNat) (fun q j=>?_) B64 (x1,c) ⟨k.1,by dsimp only;omega,fun d h1 h2=>⟨h1,h2⟩⟩ (by simp only[B64];omega)) fun v hv=>.mk hv
 obtain⟨a,b⟩:=q
 obtain⟨h1,h2,g⟩:=j
 dsimp only at h1 h2 g
 refine Oi (fun hc=>?_) (fun hc=>?_)<;>simp only[decide_eq_true_eq]at hc
 .refine Ob (vG (by omega)) fun n i=>?_
  have h:n=a%b:=by rw[i,Int.tmod_eq_emod_of_nonneg (by omega)]
  have l:=Int.emod_nonneg a (by omega:b≠0)
  have m:=Int.emod_lt_of_pos a hc
  refine .mk ⟨⟨hc,by dsimp only;omega,fun d e f=>g d ?_ e⟩,by dsimp only;omega⟩
  dsimp only at e f
  rw[h]at f
  have:=Int.emod_add_mul_ediv a b
  rw[<-this]
  exact Int.dvd_add f (Int.dvd_trans e (Int.dvd_mul_right b _))
 .have:b=0:=by omega
  subst this
  exact .mk ⟨h1,g a (Int.dvd_refl a) (Int.dvd_zero a)⟩
theorem T240 {x1:List Zu} {G:Int} (u:x1.length<=6) (B:∀t∈x1,1<=t.Actual/\t.Actual<=32/\1<=t.Normal/\t.Normal<=32):Ok (F240 x1 G) (fun v=>1<=v.2):=by
 unfold F240
 refine Ob (P:=fun v=>1<=v.2) (aP (l:=x1) (fun q=>q.2.2) (fun i q=>1<=q.1/\q.1<=32^i/\1<=q.2.1/\q.2.1<=32^i) (by omega) rfl ⟨by decide,by decide,by decide,by decide⟩ (fun i e q C y hi hl f hg hw=>?_) (fun q hi f=>?_)) fun v hv=>.mk hv
 .obtain ⟨a,b,x⟩:=q
  dsimp only at hi hl f hg hw
  simp only[hl,hg,nt]
  have j:=B e y
  refine Ob T242 fun c _=>?_
  have w:i<=5:=by omega
  have z:(32:Int)^i<=33554432:=by
   have:i=0\/i=1\/i=2\/i=3\/i=4\/i=5:=by omega
   rcases this with rfl|rfl|rfl|rfl|rfl|rfl<;>decide
  have A:(32:Int)^(i+1)=32^i*32:=Int.pow_succ 32 i
  refine Ob (P:=fun v=>1<=v.1/\v.1<=32^(i+1)/\1<=v.2/\v.2<=32^(i+1)) (Oi (fun _=>?_) (fun _=>?_)) fun⟨v1,v2⟩ hv=>.mk ⟨hw,hv⟩
  .have E:1<=a*e.Normal:=Int.le_trans (by decide) (Int.mul_le_mul f.1 j.2.2.1 (by decide) (by omega))
   have F:a*e.Normal<=32^i*32:=Int.mul_le_mul f.2.1 j.2.2.2 (by omega) (by omega)
   have r:1<=b*e.Actual:=Int.le_trans (by decide) (Int.mul_le_mul f.2.2.1 j.1 (by decide) (by omega))
   have s:b*e.Actual<=32^i*32:=Int.mul_le_mul f.2.2.2 j.2.1 (by omega) (by omega)
   rw[aV (n:=a*e.Normal) (by omega) (by omega),aV (n:=b*e.Actual) (by omega) (by omega)]
   generalize a*e.Normal=N at E F ⊢
   generalize b*e.Actual=D at r s ⊢
   refine Ob (T243 ⟨by omega,by omega,by omega⟩) fun g hg=>?_
   obtain⟨H,⟨k,rfl⟩,⟨m,rfl⟩⟩:=hg
   have J:1<=k:=by
    rcases Int.lt_or_le k 1 with h|h
    .have:=Int.mul_nonneg (a:=g) (b:= -k) (by omega) (by omega)
     rw[Int.mul_neg]at this;omega
    .exact h
   have L:1<=m:=by
    rcases Int.lt_or_le m 1 with h|h
    .have:=Int.mul_nonneg (a:=g) (b:= -m) (by omega) (by omega)
     rw[Int.mul_neg]at this;omega
    .exact h
   have K:k<=g*k:=by
    have:=Int.mul_le_mul (a:=1) (b:=k) (c:=g) (d:=k) (by omega) (Int.le_refl k) (by omega) (by omega)
    omega
   have M:m<=g*m:=by
    have:=Int.mul_le_mul (a:=1) (b:=m) (c:=g) (d:=m) (by omega) (Int.le_refl m) (by omega) (by omega)
    omega
   refine Ob (nU (by omega)) fun q1 o=>?_
   refine Ob (nU (by omega)) fun q2 p=>?_
   rw[Int.mul_tdiv_cancel_left k (by omega),show IntKind.wrap .i64 k=w64 k from rfl,aV (by omega) (by omega)]at o
   rw[Int.mul_tdiv_cancel_left m (by omega),show IntKind.wrap .i64 m=w64 m from rfl,aV (by omega) (by omega)]at p
   exact .mk ⟨by dsimp only;omega,by dsimp only;omega,by dsimp only;omega,by dsimp only;omega⟩
  .exact .mk ⟨f.1,by dsimp only;omega,f.2.2.1,by dsimp only;omega⟩
 .obtain ⟨a,b,x⟩:=q
  dsimp only at hi f
  simp only[hi,nf]
  exact .mk f.2.2.1
theorem T232 {x1:List Zu} {e f:Int} (b:x1.length<=6) (g:∀t∈x1,1<=t.Actual/\t.Actual<=32/\1<=t.Normal/\t.Normal<=32):Ok (F232 x1 e f) (fun _=>True):=by
 unfold F232
 refine Oi (fun c694=>?_) (fun c694=>?_)
 .exact .mk trivial
 refine Ob (T240 b (by omega)) fun⟨h,i⟩ a=>?_
 try dsimp only at a
 refine Ob (vG (by omega)) fun j c=>?_
 refine Oi (fun c697=>?_) (fun c697=>?_)
 .exact .mk trivial
 refine Ob (nU (by omega)) fun k d=>?_
 exact .mk trivial
theorem T223 {x1:List Zu} {f:List Int} (d:x1.length<=6) (j:f.length<=20):Ok (F223 x1 f) (fun v=>v.1.length<=20/\(v.2=0->∀t∈x1,t.ok f.length)):=by
 unfold F223
 refine Ob (T231 d) fun c hc=>?_
 refine Oi (fun hd=>.mk ⟨Nat.zero_le _,fun h=>absurd h (by simpa using hd)⟩) (fun hd=>?_)
 have k:=hc (by simpa using hd)
 refine Ob (lS (by decide) (by omega) (by omega)) fun u n=>?_
 refine Ob (P:=fun r=>match r with|.inl p=>p.1≠0|.inr l=>l.length<=f.length) (aP (l:=f) (fun q=>q.1) (fun i q=>q.2.length<=i) (by omega) rfl (by rw[n];decide) (fun i e q s o hi hl g hg hw=>?_) (fun q hi g=>?_)) fun v hv=>?_
 .obtain ⟨x,l⟩:=q
  dsimp only at hi hl g hg hw
  simp only[hl,hg,nt]
  refine Ob (T232 d (fun t h=>by have:=k t h;unfold Zu.ok at this;omega)) fun⟨a,b⟩ _=>?_
  refine Oi (fun hb=>.mk (by simpa using hb)) (fun _=>?_)
  exact Ob (cU (Q:=fun v=>v.length=l.length+1) (by omega) (by simp)) fun m o=>.mk ⟨hw,by dsimp only;omega⟩
 .obtain ⟨x,l⟩:=q
  dsimp only at hi g
  simp only[hi,nf]
  exact .mk g
 .rcases v with⟨a,b⟩|b
  .exact .mk ⟨Nat.zero_le _,fun h=>absurd h hv⟩
  .exact .mk ⟨Nat.le_trans hv j,fun _=>k⟩
theorem T233 {x1:List Zu} {d:Int} {f:List Int} (k:x1.length<=6) (m:f.length<=20) (j:0<=d/\d<(x1.length:Int)) (hy:∀t∈x1,t.ok f.length):Ok (F233 x1 d f) (fun _=>True):=by
 unfold F233
 refine Ob (bC (Q:=fun x=>x∈x1) j.1 j.2 (fun _ h _=>h)) fun g c=>?_
 have o:=hy g c
 unfold Zu.ok at o
 refine Ob (P:=fun _=>True) (fF (fun q=>q.2) (g.First+g.Count) (fun _=>True) (by omega) (by dsimp only;omega) trivial (fun q _ h1 h2=>?_)) fun r _=>?_
 .obtain ⟨s,i⟩:=q
  dsimp only at h1 h2 ⊢
  refine Ob T237 fun e he=>?_
  rw[aV (by omega) (by omega)]at he
  subst he
  refine Oi (fun hc=>?_) (fun _=>.mk trivial)
  simp only[decide_eq_true_eq]at hc
  refine Ob (tL (by rw[aV (by omega) (by omega)];omega) (by rw[aV (by omega) (by omega)];omega) (by omega)) fun l hl=>?_
  refine Ob (bC (Q:=fun _=>True) (by omega) (by omega) (fun _ _ _=>trivial)) fun y _=>?_
  refine Ob (T232 (by omega) (fun t h=>by have:=hy t (hl.2 t h);unfold Zu.ok at this;omega)) fun⟨a,b⟩ _=>?_
  exact Oi (fun _=>.mk trivial) (fun _=>.mk ⟨hc,h2 hc,trivial⟩)
 .rcases r with a|a
  .exact .mk trivial
  refine Ob (P:=fun _=>True) (fF (fun q=>q) 9 (fun _=>True) (by decide) (by decide) trivial (fun q _ h1 h2=>?_)) fun r _=>?_
  .refine Oi (fun hc=>?_) (fun _=>.mk trivial)
   simp only[decide_eq_true_eq]at hc
   refine Ob (nV (by rw[aV (by omega) (by omega)];omega)) fun n _=>?_
   exact Oi (fun _=>.mk trivial) (fun _=>.mk ⟨by omega,h2 (by omega),trivial⟩)
  .rcases r with a|a<;>exact .mk trivial
theorem T224 {x1:List Zu} {h:List Int} (c:x1.length<=6) (d:h.length<=20):Ok (F224 x1 h) (fun _=>True):=by
 unfold F224
 refine Ob (T223 c d) fun⟨a,b⟩ f=>?_
 dsimp only at f
 refine Oi (fun _=>.mk trivial) (fun hd=>?_)
 have n:=f.2 (by simpa using hd)
 refine Ob (lS (by decide) (by omega) (by omega)) fun p j=>?_
 refine Ob (P:=fun _=>True) (aP (l:=x1) (fun q=>q.1) (fun i q=>q.2.length<=i) (by omega) rfl (by rw[j];decide) (fun i e q o k hi hl g hg hw=>?_) (fun q hi g=>?_)) fun v hv=>?_
 .obtain ⟨x,l⟩:=q
  dsimp only at hi hl g hg hw
  simp only[hl,nt]
  refine Ob (T233 c d ⟨by omega,hl⟩ n) fun⟨a,b⟩ _=>?_
  refine Oi (fun hb=>.mk trivial) (fun _=>?_)
  exact Ob (cU (Q:=fun v=>v.length=l.length+1) (by omega) (by simp)) fun m k=>.mk ⟨hw,by dsimp only;omega⟩
 .obtain ⟨x,l⟩:=q
  dsimp only at hi g
  simp only[hi,nf]
  exact .mk trivial
 .rcases v with a|b<;>exact .mk trivial
theorem T212 {x1:Zo} (a:x1.sm):Ok (F212 x1) (fun v=>v.1.length<=20):=by
 unfold F212
 have j:=a.Events
 refine lpT (l:=x1.Events) (fun q=>q) (Nat.lt_of_le_of_lt a.Events (by decide)) rfl (fun m k s f b e d g=>?_) (fun s b=>?_) fun t=>?_
 .simp only[e,d,nt]
  have i:=a.EventsE _ f
  refine obT (T75 i) fun u=>?_
  refine Oi (fun c712=>?_) (fun c712=>?_)
  .exact .mk trivial
  refine Oi (fun c713=>?_) (fun c713=>?_)
  .exact .mk trivial
  exact .mk g
 .simp only[b,nf]
  exact .mk trivial
 rcases t with w|_
 .exact .mk (by(simp only[nm,nl]at *;omega))
 .refine Ob (T222 a.Events a.EventsE) fun x c=>?_
  refine Ob (T223 a.Tuplets c) fun⟨n,o⟩ h=>?_
  try dsimp only at h
  refine Oi (fun c716=>?_) (fun c716=>?_)
  .exact .mk (by(simp only[nm,nl]at *;omega))
  refine obT (T224 a.Tuplets c) fun⟨p,r⟩=>?_
  refine Oi (fun c718=>?_) (fun c718=>?_)
  .exact .mk (by(simp only[nm,nl]at *;omega))
  exact .mk (by(simp only[nm]at *;omega))
theorem T200 {x1:Zo} {f:Int} (a:x1.sm):Ok (F200 x1 f) (fun v=>v.1.length<=20):=by
 unfold F200
 refine Oi (fun c719=>?_) (fun c719=>?_)
 .exact .mk (by(simp only[nm,nl]at *;omega))
 refine Oi (fun c720=>?_) (fun c720=>?_)
 .exact .mk (by(simp only[nm,nl]at *;omega))
 refine obT (T211 a) fun g=>?_
 refine Oi (fun c722=>?_) (fun c722=>?_)
 .have e:=a.Events
  refine Ob (P:=fun x=>x∈x1.Events) (bC (by omega) (by(simp only[nm]at *;omega)) (fun _ h _=>h)) fun i b=>?_
  have d:=a.EventsE _ b
  refine obT (T75 d) fun j=>?_
  refine Oi (fun c728=>?_) (fun c728=>?_)
  .exact .mk (by(simp only[nm,nl]at *;omega))
  refine Oi (fun c729=>?_) (fun c729=>?_)
  .exact .mk (by(simp only[nm,nl]at *;omega))
  exact .mk (by(simp only[nm,nl]at *;omega))
 refine Ob (T212 a) fun⟨k,l⟩ c=>?_
 try dsimp only at c
 exact .mk (by omega)
theorem T201 {x1:List Int} (e:x1.length<=20):Ok (F201 x1) (fun _=>True):=by
 unfold F201
 have g:=e
 refine lpT (l:=x1) (fun q=>q.2) (Nat.lt_of_le_of_lt e (by decide)) rfl (fun i h q741 f a c b d=>?_) (fun q741 a=>?_) fun m=>?_
 .obtain ⟨j,k⟩:=q741
  dsimp only at a c b d
  simp only[c,b,nt]
  exact .mk d
 .obtain ⟨j,k⟩:=q741
  dsimp only at a
  simp only[a,nf]
  exact .mk trivial
 exact .mk trivial
theorem T171 {x1:Zo} {e:Int} (c:x1.sm):Ok (F171 x1 e) (fun v=>v.1.length<=20):=by
 unfold F171
 refine Ob (T200 c) fun⟨f,g⟩ a=>?_
 try dsimp only at a
 refine Ob (P:=fun r=>r=true->((g==0)&&(decide ((f.length:Int)>0)))=true) ?_ fun j b=>?_
 .refine Oi (fun c745=>?_) (fun _=>.mk (fun h=>by cases h))
  refine obT (T201 a) fun i=>?_
  exact .mk (fun _=>c745)
 refine obT ?_ fun k=>?_
 .refine Oi (fun c748=>?_) (fun c748=>?_)
  .have d:=b c748
   exact .mk trivial
  exact .mk trivial
 refine Oi (fun c750=>?_) (fun c750=>?_)
 .exact .mk (by(simp only[nm,nl]at *;omega))
 exact .mk (by omega)
theorem T123 {x1:Zo} {c:Int} (b:x1.sm):Ok (F123 x1 c) (fun _=>True):=by
 unfold F123
 refine Ob (T171 b) fun⟨d,e⟩ a=>?_
 try dsimp only at a
 exact .mk trivial
theorem T71 {x1:Int}:Ok (F71 x1) (fun _=>True):=by
 unfold F71
 exact .mk trivial
theorem T121 {x1:Zo} {c:Int} (a:x1.sm):Ok (F121 x1 c) (fun _=>True):=by
 unfold F121
 refine obT (T122 a.Events a.EventsE) fun d=>?_
 refine Ob (P:=fun r=>r=true->(!d)=true) ?_ fun g b=>?_
 .refine Oi (fun c754=>?_) (fun _=>.mk (fun h=>by cases h))
  refine obT (T123 a) fun e=>?_
  refine obT (T71) fun f=>?_
  exact .mk (fun _=>c754)
 exact .mk trivial
theorem T169 {x1:List Zo} {m:Int} (f:x1.length<=3) (g:∀y∈x1,y.sm):Ok (F169 x1 m) (fun _=>True):=by
 unfold F169
 have i:=f
 refine lpT (l:=x1) (fun q=>q) (Nat.lt_of_le_of_lt f (by decide)) rfl (fun k j n d a c b e=>?_) (fun n a=>?_) fun o=>?_
 .simp only[c,b,nt]
  have h:=g _ d
  refine obT (T121 h) fun p=>?_
  refine Oi (fun c770=>?_) (fun c770=>?_)
  .exact .mk trivial
  exact .mk e
 .simp only[a,nf]
  exact .mk trivial
 rcases o with r|_
 .exact .mk trivial
 .exact .mk trivial
theorem T120 {x1:List Zo} {c:Int} (b:x1.length<=3) (a:∀y∈x1,y.sm):Ok (F120 x1 c) (fun _=>True):=by
 unfold F120
 refine obT (T169 b a) fun d=>?_
 exact .mk trivial
theorem T119 {x1:Zw} {b:Int} (a:x1.sm):Ok (F119 x1 b) (fun _=>True):=by
 unfold F119
 refine obT (T120 a.Voices a.VoicesE) fun c=>?_
 exact .mk trivial
theorem T168 {x1:List Zw} {m:Int} (f:x1.length<=5) (g:∀y∈x1,y.sm):Ok (F168 x1 m) (fun _=>True):=by
 unfold F168
 have i:=f
 refine lpT (l:=x1) (fun q=>q) (Nat.lt_of_le_of_lt f (by decide)) rfl (fun k j n d a c b e=>?_) (fun n a=>?_) fun o=>?_
 .simp only[c,b,nt]
  have h:=g _ d
  refine obT (T119 h) fun p=>?_
  refine Oi (fun c786=>?_) (fun c786=>?_)
  .exact .mk trivial
  exact .mk e
 .simp only[a,nf]
  exact .mk trivial
 rcases o with r|_
 .exact .mk trivial
 .exact .mk trivial
theorem T118 {x1:List Zw} {c:Int} (b:x1.length<=5) (a:∀y∈x1,y.sm):Ok (F118 x1 c) (fun _=>True):=by
 unfold F118
 refine obT (T168 b a) fun d=>?_
 exact .mk trivial
theorem T116 {x1:Int} {b:Zm} (a:b.sm):Ok (F116 x1 b) (fun _=>True):=by
 unfold F116
 refine obT (T68 a) fun⟨c,d⟩=>?_
 refine Oi (fun c789=>?_) (fun c789=>?_)
 .exact .mk trivial
 refine obT (T118 a.Cells a.CellsE) fun e=>?_
 exact .mk trivial
theorem Tn64_4 {x1:List Zv} {m:Z0} {y:Int} (t:x1.length+10<=1000000) (f:m.sm):Ok (Fn64_4 x1 m y) (fun v=>x1.length<=v.length/\v.length<=x1.length+10):=by
 unfold Fn64_4
 have j:=f.Measures
 refine Ob (P:=fun r=>x1.length<=r.length/\r.length<=x1.length+10) (aP (l:=m.Measures) (fun q=>q.1) (fun i q=>x1.length<=q.2.length/\q.2.length<=x1.length+i*1) (Nat.lt_of_le_of_lt f.Measures (by decide)) rfl (by dsimp only;omega) (fun p n q802 k g a d b c e=>?_) (fun q802 a b=>?_)) fun x s=>?_
 .obtain ⟨z,A⟩:=q802
  dsimp only at a d c e b
  simp only[d,c,nt]
  have h:=f.MeasuresE _ g
  refine obT (T116 h) fun u=>?_
  refine Ob (Tn58 (by first|omega|(simp only[List.length_nil]at *;omega)) f) fun w o=>?_
  exact .mk ⟨e,by dsimp only;omega⟩
 .obtain ⟨z,A⟩:=q802
  dsimp only at a b
  simp only[a,nf]
  exact .mk (by dsimp only;omega)
 exact .mk (by omega)
theorem Tn70 {x1:List Zv} {c:Z0} {e:Int} (d:x1.length+10<=1000000) (a:c.sm):Ok (Fn70 x1 c e) (fun v=>x1.length<=v.length/\v.length<=x1.length+10):=by
 unfold Fn70
 refine Ob (Tn64_4 (by first|omega|(simp only[List.length_nil]at *;omega)) a) fun f b=>?_
 exact .mk (by omega)
theorem Tn36 {x1:List Zv} {c:Z0} {e:Int} (d:x1.length+10<=1000000) (a:c.sm):Ok (Fn36 x1 c e) (fun v=>x1.length<=v.length/\v.length<=x1.length+10):=by
 unfold Fn36
 refine Ob (Tn70 (by first|omega|(simp only[List.length_nil]at *;omega)) a) fun f b=>?_
 exact .mk (by omega)
theorem T72 {x1:Int}:Ok (F72 x1) (fun _=>True):=by
 unfold F72
 refine Ob (P:=fun r=>r=true->(x1 !=0)=true) ?_ fun c a=>?_
 .refine Oi (fun c810=>?_) (fun _=>.mk (fun h=>by cases h))
  refine obT (T71) fun b=>?_
  exact .mk (fun _=>c810)
 exact .mk trivial
theorem T121_2 {x1:Zo} {c:Int} (a:x1.sm):Ok (F121_2 x1 c) (fun _=>True):=by
 unfold F121_2
 refine obT (T122 a.Events a.EventsE) fun d=>?_
 refine Ob (P:=fun r=>r=true->(!d)=true) ?_ fun g b=>?_
 .refine Oi (fun c814=>?_) (fun _=>.mk (fun h=>by cases h))
  refine obT (T123 a) fun e=>?_
  refine obT (T72) fun f=>?_
  exact .mk (fun _=>c814)
 exact .mk trivial
theorem T169_2 {x1:List Zo} {m:Int} (f:x1.length<=3) (g:∀y∈x1,y.sm):Ok (F169_2 x1 m) (fun _=>True):=by
 unfold F169_2
 have i:=f
 refine lpT (l:=x1) (fun q=>q) (Nat.lt_of_le_of_lt f (by decide)) rfl (fun k j n d a c b e=>?_) (fun n a=>?_) fun o=>?_
 .simp only[c,b,nt]
  have h:=g _ d
  refine obT (T121_2 h) fun p=>?_
  refine Oi (fun c830=>?_) (fun c830=>?_)
  .exact .mk trivial
  exact .mk e
 .simp only[a,nf]
  exact .mk trivial
 rcases o with r|_
 .exact .mk trivial
 .exact .mk trivial
theorem T120_2 {x1:List Zo} {c:Int} (b:x1.length<=3) (a:∀y∈x1,y.sm):Ok (F120_2 x1 c) (fun _=>True):=by
 unfold F120_2
 refine obT (T169_2 b a) fun d=>?_
 exact .mk trivial
theorem T119_2 {x1:Zw} {b:Int} (a:x1.sm):Ok (F119_2 x1 b) (fun _=>True):=by
 unfold F119_2
 refine obT (T120_2 a.Voices a.VoicesE) fun c=>?_
 exact .mk trivial
theorem T168_2 {x1:List Zw} {m:Int} (f:x1.length<=5) (g:∀y∈x1,y.sm):Ok (F168_2 x1 m) (fun _=>True):=by
 unfold F168_2
 have i:=f
 refine lpT (l:=x1) (fun q=>q) (Nat.lt_of_le_of_lt f (by decide)) rfl (fun k j n d a c b e=>?_) (fun n a=>?_) fun o=>?_
 .simp only[c,b,nt]
  have h:=g _ d
  refine obT (T119_2 h) fun p=>?_
  refine Oi (fun c846=>?_) (fun c846=>?_)
  .exact .mk trivial
  exact .mk e
 .simp only[a,nf]
  exact .mk trivial
 rcases o with r|_
 .exact .mk trivial
 .exact .mk trivial
theorem T118_2 {x1:List Zw} {c:Int} (b:x1.length<=5) (a:∀y∈x1,y.sm):Ok (F118_2 x1 c) (fun _=>True):=by
 unfold F118_2
 refine obT (T168_2 b a) fun d=>?_
 exact .mk trivial
theorem T116_2 {x1:Int} {b:Zm} (a:b.sm):Ok (F116_2 x1 b) (fun _=>True):=by
 unfold F116_2
 refine obT (T68 a) fun⟨c,d⟩=>?_
 refine Oi (fun c849=>?_) (fun c849=>?_)
 .exact .mk trivial
 refine obT (T118_2 a.Cells a.CellsE) fun e=>?_
 exact .mk trivial
theorem Tn64_5 {x1:List Zv} {m:Z0} {y:Int} (t:x1.length+10<=1000000) (f:m.sm):Ok (Fn64_5 x1 m y) (fun v=>x1.length<=v.length/\v.length<=x1.length+10):=by
 unfold Fn64_5
 have j:=f.Measures
 refine Ob (P:=fun r=>x1.length<=r.length/\r.length<=x1.length+10) (aP (l:=m.Measures) (fun q=>q.1) (fun i q=>x1.length<=q.2.length/\q.2.length<=x1.length+i*1) (Nat.lt_of_le_of_lt f.Measures (by decide)) rfl (by dsimp only;omega) (fun p n q862 k g a d b c e=>?_) (fun q862 a b=>?_)) fun x s=>?_
 .obtain ⟨z,A⟩:=q862
  dsimp only at a d c e b
  simp only[d,c,nt]
  have h:=f.MeasuresE _ g
  refine obT (T116_2 h) fun u=>?_
  refine Ob (Tn58 (by first|omega|(simp only[List.length_nil]at *;omega)) f) fun w o=>?_
  exact .mk ⟨e,by dsimp only;omega⟩
 .obtain ⟨z,A⟩:=q862
  dsimp only at a b
  simp only[a,nf]
  exact .mk (by dsimp only;omega)
 exact .mk (by omega)
theorem Tn70_2 {x1:List Zv} {c:Z0} {e:Int} (d:x1.length+10<=1000000) (a:c.sm):Ok (Fn70_2 x1 c e) (fun v=>x1.length<=v.length/\v.length<=x1.length+10):=by
 unfold Fn70_2
 refine Ob (Tn64_5 (by first|omega|(simp only[List.length_nil]at *;omega)) a) fun f b=>?_
 exact .mk (by omega)
theorem Tn37 {x1:List Zv} {c:Z0} {e:Int} (d:x1.length+10<=1000000) (a:c.sm):Ok (Fn37 x1 c e) (fun v=>x1.length<=v.length/\v.length<=x1.length+10):=by
 unfold Fn37
 refine Ob (Tn70_2 (by first|omega|(simp only[List.length_nil]at *;omega)) a) fun f b=>?_
 exact .mk (by omega)
theorem T74 {x1:Zp} {b:Ze} (a:b.sm):Ok (F74 x1 b) (fun _=>True):=by
 unfold F74
 refine obT (T75 a) fun c=>?_
 exact .mk trivial
theorem Tn73 {x1:List Zv} {x2:Z0} {x3:Int} (e2:x1.length+3000<=1000000) (F:x2.sm):Ok (Fn73 x1 x2 x3) (fun v=>x1.length<=v.length/\v.length<=x1.length+3000):=by
 unfold Fn73
 have T:=F.Measures
 refine Ob (P:=fun r=>x1.length<=r.length/\r.length<=x1.length+3000) (aP (l:=x2.Measures) (fun q=>q.1) (fun i q=>x1.length<=q.2.length/\q.2.length<=x1.length+i*300) (Nat.lt_of_le_of_lt F.Measures (by decide)) rfl (by dsimp only;omega) (fun b8 L q881 X G c o g a u=>?_) (fun q881 c g=>?_)) fun d7 d8=>?_
 .obtain ⟨b0,C⟩:=q881
  dsimp only at c o a u g
  simp only[o,a,nt]
  have z:=F.MeasuresE _ G
  have U:=z.Cells
  refine Ob (P:=fun r=>C.length<=r.length/\r.length<=C.length+300) (aP (l:=L.Cells) (fun q=>q.1) (fun i q=>C.length<=q.2.length/\q.2.length<=C.length+i*60) (Nat.lt_of_le_of_lt z.Cells (by decide)) rfl (by dsimp only;omega) (fun b9 M q895 Y H d p h b w=>?_) (fun q895 d h=>?_)) fun d6 d9=>?_
  .obtain ⟨b4,D⟩:=q895
   dsimp only at d p b w h
   simp only[p,a,b,nt]
   have A:=z.CellsE _ H
   have V:=A.Voices
   refine Ob (P:=fun r=>D.length<=r.length/\r.length<=D.length+60) (aP (l:=M.Voices) (fun q=>q.1) (fun i q=>D.length<=q.2.length/\q.2.length<=D.length+i*20) (Nat.lt_of_le_of_lt A.Voices (by decide)) rfl (by dsimp only;omega) (fun d0 N q909 Z J e s j m x=>?_) (fun q909 e j=>?_)) fun d5 e0=>?_
   .obtain ⟨b5,E⟩:=q909
    dsimp only at e s m x j
    simp only[s,a,b,m,nt]
    have B:=A.VoicesE _ J
    have W:=B.Events
    refine Ob (P:=fun r=>E.length<=r.length/\r.length<=E.length+20) (aP (l:=N.Events) (fun q=>q.1) (fun i q=>E.length<=q.2.length/\q.2.length<=E.length+i*1) (Nat.lt_of_le_of_lt B.Events (by decide)) rfl (by dsimp only;omega) (fun d1 b6 q923 a0 K f t k n y=>?_) (fun q923 f k=>?_)) fun d4 e1=>?_
    .obtain ⟨R,S⟩:=q923
     dsimp only at f t n y k
     simp only[t,a,b,m,n,nt]
     have O:=B.EventsE _ K
     refine obT (T74 O) fun d2=>?_
     refine Ob (Tn58 (by first|omega|(simp only[List.length_nil]at *;omega)) F) fun d3 b7=>?_
     exact .mk ⟨y,by dsimp only;omega⟩
    .obtain ⟨R,S⟩:=q923
     dsimp only at f k
     simp only[f,nf]
     exact .mk (by dsimp only;omega)
    exact .mk ⟨x,by dsimp only;omega⟩
   .obtain ⟨b5,E⟩:=q909
    dsimp only at e j
    simp only[e,nf]
    exact .mk (by dsimp only;omega)
   exact .mk ⟨w,by dsimp only;omega⟩
  .obtain ⟨b4,D⟩:=q895
   dsimp only at d h
   simp only[d,nf]
   exact .mk (by dsimp only;omega)
  exact .mk ⟨u,by dsimp only;omega⟩
 .obtain ⟨b0,C⟩:=q881
  dsimp only at c g
  simp only[c,nf]
  exact .mk (by dsimp only;omega)
 exact .mk (by omega)
theorem Tn38 {x1:List Zv} {c:Z0} {e:Int} (d:x1.length+3000<=1000000) (a:c.sm):Ok (Fn38 x1 c e) (fun v=>x1.length<=v.length/\v.length<=x1.length+3000):=by
 unfold Fn38
 refine Ob (Tn73 (by first|omega|(simp only[List.length_nil]at *;omega)) a) fun f b=>?_
 exact .mk (by omega)
theorem T77 {x1:Z0} {d:Int} (c:x1.sm):Ok (F77 x1 d) (fun v=>v.2.2=0->0<=v.1/\v.1<(x1.Parts.length:Int)):=by
 unfold F77
 have f:=c.Parts
 refine Oi (fun _=>.mk (fun h=>absurd (show(2:Int)=0 from h) (by decide))) (fun _=>?_)
 refine Ob (P:=fun r=>match r with|.inl p=>0<=p.1/\p.1<(x1.Parts.length:Int)|.inr _=>True) (aP (l:=x1.Parts) (fun q=>q.2) (fun _ _=>True) (by omega) rfl trivial (fun i e q j g hi hl _ hg hw=>?_) (fun q hi _=>?_)) fun r hr=>?_
 .obtain ⟨s,x⟩:=q
  dsimp only at hi hl hg hw
  simp only[hl,hg,nt]
  exact Oi (fun _=>.mk ⟨by dsimp only;omega,hl⟩) (fun _=>.mk ⟨hw,trivial⟩)
 .obtain ⟨s,x⟩:=q
  dsimp only at hi
  simp only[hi,nf]
  exact .mk trivial
 rcases r with⟨a,b⟩|_
 .exact .mk (fun _=>hr)
 .exact .mk (fun h=>absurd (show(2:Int)=0 from h) (by decide))
theorem T78 {x1:Zh} {a:Int}:Ok (F78 x1 a) (fun _=>True):=by
 unfold F78
 refine obT (T28) fun⟨b,c⟩=>?_
 refine obT (T60) fun d=>?_
 exact .mk trivial
theorem T80 {x1:Zb} {a:Int}:Ok (F80 x1 a) (fun _=>True):=by
 unfold F80
 refine obT (T78) fun b=>?_
 exact .mk trivial
theorem T133 {x1:List Zb} {j:Int} (e:x1.length<=12):Ok (F133 x1 j) (fun _=>True):=by
 unfold F133
 have g:=e
 refine lpT (l:=x1) (fun q=>q) (Nat.lt_of_le_of_lt e (by decide)) rfl (fun i h k f a c b d=>?_) (fun k a=>?_) fun m=>?_
 .simp only[c,b,nt]
  refine obT (T80) fun n=>?_
  refine Oi (fun c944=>?_) (fun c944=>?_)
  .exact .mk trivial
  exact .mk d
 .simp only[a,nf]
  exact .mk trivial
 rcases m with o|_
 .exact .mk trivial
 .exact .mk trivial
theorem T79 {x1:List Zb} {b:Int} (a:x1.length<=12):Ok (F79 x1 b) (fun _=>True):=by
 unfold F79
 refine obT (T133 a) fun c=>?_
 exact .mk trivial
theorem T82 {x1:Zd} {a:Int}:Ok (F82 x1 a) (fun _=>True):=by
 unfold F82
 refine obT (T78) fun b=>?_
 exact .mk trivial
theorem T134 {x1:List Zd} {j:Int} (e:x1.length<=12):Ok (F134 x1 j) (fun _=>True):=by
 unfold F134
 have g:=e
 refine lpT (l:=x1) (fun q=>q) (Nat.lt_of_le_of_lt e (by decide)) rfl (fun i h k f a c b d=>?_) (fun k a=>?_) fun m=>?_
 .simp only[c,b,nt]
  refine obT (T82) fun n=>?_
  refine Oi (fun c959=>?_) (fun c959=>?_)
  .exact .mk trivial
  exact .mk d
 .simp only[a,nf]
  exact .mk trivial
 rcases m with o|_
 .exact .mk trivial
 .exact .mk trivial
theorem T81 {x1:List Zd} {b:Int} (a:x1.length<=12):Ok (F81 x1 b) (fun _=>True):=by
 unfold F81
 refine obT (T134 a) fun c=>?_
 exact .mk trivial
theorem T76 {x1:Zp} {k:Ze} {g:Zk} (a:k.sm) (b:g.s'.sm):Ok (F76 x1 k g) (fun _=>True):=by
 unfold F76
 refine obT (T75 a) fun o=>?_
 refine Oi (fun c962=>?_) (fun c962=>?_)
 .exact .mk trivial
 refine Ob (T77 b) fun⟨p,q,s⟩ d=>?_
 try dsimp only at d
 refine obT ?_ fun u=>?_
 .refine Oi (fun c965=>?_) (fun c965=>?_)
  .have e:=b.Parts
   refine Ob (P:=fun x=>x∈g.s'.Parts) (bC (by(simp only[nm]at *;omega)) (by(simp only[nm]at *;omega)) (fun _ h _=>h)) fun t c=>?_
   have j:=b.PartsE _ c
   exact .mk trivial
  exact .mk trivial
 refine obT ?_ fun l=>?_
 .refine Oi (fun c971=>?_) (fun c971=>?_)
  .exact .mk trivial
  exact .mk trivial
 refine obT (T79 a.Heads) fun f=>?_
 refine Ob (P:=fun r=>¬r=true->¬f=true) ?_ fun n i=>?_
 .refine Oi (fun _=>.mk (fun h=>absurd rfl h)) (fun c974=>?_)
  refine obT (T81 a.Graces) fun m=>?_
  exact .mk (fun _=>c974)
 exact .mk trivial
theorem Tn73_2 {x1:List Zv} {x2:Z0} {x3:Int} (e2:x1.length+3000<=1000000) (x:x2.sm):Ok (Fn73_2 x1 x2 x3) (fun v=>x1.length<=v.length/\v.length<=x1.length+3000):=by
 unfold Fn73_2
 have a0:=x.Measures
 refine Ob (P:=fun r=>x1.length<=r.length/\r.length<=x1.length+3000) (aP (l:=x2.Measures) (fun q=>q.1) (fun i q=>x1.length<=q.2.length/\q.2.length<=x1.length+i*300) (Nat.lt_of_le_of_lt x.Measures (by decide)) rfl (by dsimp only;omega) (fun d2 N q987 b0 K h y k c A=>?_) (fun q987 h k=>?_)) fun d9 e0=>?_
 .obtain ⟨b7,D⟩:=q987
  dsimp only at h y c A k
  simp only[y,c,nt]
  have C:=x.MeasuresE _ K
  have T:=C.Cells
  refine Ob (P:=fun r=>D.length<=r.length/\r.length<=D.length+300) (aP (l:=N.Cells) (fun q=>q.1) (fun i q=>D.length<=q.2.length/\q.2.length<=D.length+i*60) (Nat.lt_of_le_of_lt C.Cells (by decide)) rfl (by dsimp only;omega) (fun d3 O q1001 b4 L j z m g B=>?_) (fun q1001 j m=>?_)) fun d8 e1=>?_
  .obtain ⟨b8,E⟩:=q1001
   dsimp only at j z g B m
   simp only[z,c,g,nt]
   have n:=C.CellsE _ L
   have U:=n.Voices
   refine Ob (P:=fun r=>E.length<=r.length/\r.length<=E.length+60) (aP (l:=O.Voices) (fun q=>q.1) (fun i q=>E.length<=q.2.length/\q.2.length<=E.length+i*20) (Nat.lt_of_le_of_lt n.Voices (by decide)) rfl (by dsimp only;omega) (fun b5 J q1015 W G a s d f u=>?_) (fun q1015 a d=>?_)) fun d7 d0=>?_
   .obtain ⟨b9,F⟩:=q1015
    dsimp only at a s f u d
    simp only[s,c,g,f,nt]
    have o:=n.VoicesE _ G
    have V:=o.Events
    refine Ob (P:=fun r=>F.length<=r.length/\r.length<=F.length+20) (aP (l:=J.Events) (fun q=>q.1) (fun i q=>F.length<=q.2.length/\q.2.length<=F.length+i*1) (Nat.lt_of_le_of_lt o.Events (by decide)) rfl (by dsimp only;omega) (fun b6 Y q1029 X H b t e p w=>?_) (fun q1029 b e=>?_)) fun d6 d1=>?_
    .obtain ⟨R,S⟩:=q1029
     dsimp only at b t p w e
     simp only[t,c,g,f,p,nt]
     have M:=o.EventsE _ H
     refine obT (T76 M x) fun d4=>?_
     refine Ob (Tn58 (by first|omega|(simp only[List.length_nil]at *;omega)) x) fun d5 Z=>?_
     exact .mk ⟨w,by dsimp only;omega⟩
    .obtain ⟨R,S⟩:=q1029
     dsimp only at b e
     simp only[b,nf]
     exact .mk (by dsimp only;omega)
    exact .mk ⟨u,by dsimp only;omega⟩
   .obtain ⟨b9,F⟩:=q1015
    dsimp only at a d
    simp only[a,nf]
    exact .mk (by dsimp only;omega)
   exact .mk ⟨B,by dsimp only;omega⟩
  .obtain ⟨b8,E⟩:=q1001
   dsimp only at j m
   simp only[j,nf]
   exact .mk (by dsimp only;omega)
  exact .mk ⟨A,by dsimp only;omega⟩
 .obtain ⟨b7,D⟩:=q987
  dsimp only at h k
  simp only[h,nf]
  exact .mk (by dsimp only;omega)
 exact .mk (by omega)
theorem Tn39 {x1:List Zv} {c:Z0} {e:Int} (d:x1.length+3000<=1000000) (b:c.sm):Ok (Fn39 x1 c e) (fun v=>x1.length<=v.length/\v.length<=x1.length+3000):=by
 unfold Fn39
 refine Ob (Tn73_2 (by first|omega|(simp only[List.length_nil]at *;omega)) b) fun f a=>?_
 exact .mk (by omega)
theorem T135 {x1:Zb}:Ok (F135 x1) (fun _=>True):=by
 unfold F135
 exact .mk trivial
theorem T133_2 {x1:List Zb} (e:x1.length<=12):Ok (F133_2 x1) (fun _=>True):=by
 unfold F133_2
 have g:=e
 refine lpT (l:=x1) (fun q=>q) (Nat.lt_of_le_of_lt e (by decide)) rfl (fun i h j f a c b d=>?_) (fun j a=>?_) fun k=>?_
 .simp only[c,b,nt]
  refine obT (T135) fun m=>?_
  refine Oi (fun c1047=>?_) (fun c1047=>?_)
  .exact .mk trivial
  exact .mk d
 .simp only[a,nf]
  exact .mk trivial
 rcases k with n|_
 .exact .mk trivial
 .exact .mk trivial
theorem T79_2 {x1:List Zb} (a:x1.length<=12):Ok (F79_2 x1) (fun _=>True):=by
 unfold F79_2
 refine obT (T133_2 a) fun b=>?_
 exact .mk trivial
theorem T84 {x1:Ze} (b:x1.sm):Ok (F84 x1) (fun _=>True):=by
 unfold F84
 refine Ob (P:=fun r=>r=true->(x1.Kind==1)=true) ?_ fun d a=>?_
 .refine Oi (fun c1050=>?_) (fun _=>.mk (fun h=>by cases h))
  refine obT (T79_2 b.Heads) fun c=>?_
  exact .mk (fun _=>c1050)
 exact .mk trivial
theorem T137 {x1:Z0} {b c d:Int} (e:x1.sm):Ok (F137 x1 b c d) (fun v=>v.length<=20/\(∀y∈v,y.sm)/\(v=[]\/∃x y z,lget x1.Measures b=some x/\lget x.Cells c=some y/\lget y.Voices d=some z/\v=z.Events)):=by
 unfold F137
 refine Ob (P:=fun r=>¬r=true->0<=b/\0<=c/\∃x,lget x1.Measures b=some x/\c<(x.Cells.length:Int)) ?_ fun k i=>?_
 .refine Oi (fun _=>.mk (fun h=>absurd rfl h)) (fun hc=>?_)
  simp only[Bool.or_eq_true,decide_eq_true_eq,not_or]at hc
  exact Ok.bindE (bC (Q:=fun _=>True) (by omega) (by omega) (fun _ _ _=>trivial)) fun x a _=>.mk (fun h=>⟨by omega,by omega,x,a,by simp at h;omega⟩)
 refine Ob (P:=fun r=>¬r=true->∃x y,lget x1.Measures b=some x/\lget x.Cells c=some y/\0<=d/\d<(y.Voices.length:Int)) ?_ fun l j=>?_
 .refine Oi (fun _=>.mk (fun h=>absurd rfl h)) (fun hc=>?_)
  simp only[Bool.or_eq_true,decide_eq_true_eq,not_or]at hc
  obtain⟨h0,h1,x,a,hs⟩:=i hc.1
  rw[a,Option.bind_some]
  exact Ok.bindE (bC (Q:=fun _=>True) h1 hs (fun _ _ _=>trivial)) fun y hy _=>.mk (fun h=>⟨x,y,rfl,hy,by omega,by simp at h;omega⟩)
 refine Oi (fun _=>.mk ⟨Nat.zero_le _,fun _ h=>(List.not_mem_nil h).elim,.inl rfl⟩) (fun hc=>?_)
 obtain⟨x,y,a,hy,h0,h1⟩:=j hc
 rw[a,Option.bind_some,hy,Option.bind_some]
 refine Ok.bindE (bC (Q:=fun _=>True) h0 h1 (fun _ _ _=>trivial)) fun z f _=>?_
 have g:=((e.MeasuresE x (cQ a).2.2.1).CellsE y (cQ hy).2.2.1).VoicesE z (cQ f).2.2.1
 exact .mk ⟨g.Events,g.EventsE,.inr ⟨x,y,z,rfl,hy,f,rfl⟩⟩
theorem T136 {x1:Z0} {a:Zp} (c:x1.sm):Ok (F136 x1 a) (fun r=>r=0->a.Kind=4/\0<=a.Event/\∃l,F137 x1 a.Measure a.Staff a.Voice=some l/\a.Event<(l.length:Int)):=by
 unfold F136
 refine Oi (fun _=>.mk (fun h=>by cases h)) (fun hk=>?_)
 refine Ob (P:=fun r=>¬r=true->0<=a.Event/\∃l,F137 x1 a.Measure a.Staff a.Voice=some l/\a.Event<(l.length:Int)) (Oi (fun _=>.mk (fun h=>absurd rfl h)) (fun hc=>?_)) fun b hb=>?_
 .exact Ok.bindE (T137 c) fun l hl _=>.mk (fun h=>⟨by simpa using hc,l,hl,by simpa using h⟩)
 exact Oi (fun _=>.mk (fun h=>by cases h)) (fun hc=>.mk (fun _=>⟨by simpa using hk,hb hc⟩))
theorem T138 {x1 a:Int} {b c:Int}:Ok (F138 x1 a b c) (fun v=>v.Measure=x1):=by
 unfold F138
 exact .mk (by rfl)
theorem T85 {x1:Z0} {d:Zp} (b:x1.sm):Ok (F85 x1 d) (fun v=>v.2=true->0<=d.Measure/\d.Measure<(x1.Measures.length:Int)/\0<=v.1.Measure/\v.1.Measure<(x1.Measures.length:Int)):=by
 unfold F85
 refine Ob (T136 b) fun c hc=>?_
 refine Oi (fun _=>.mk (fun h=>by cases h)) (fun hd=>?_)
 obtain⟨hk,h0,l,hl,i⟩:=hc (by simpa using hd)
 have g:=(T137 b).of hl
 have e:0<=d.Measure/\d.Measure<(x1.Measures.length:Int):=by
  rcases g.2.2 with h|⟨x,y,z,hx,_⟩
  .rw [h,List.length_nil]at i;omega
  .have:=cQ hx;exact⟨this.1,this.2.1⟩
 rw[hl,Option.bind_some]
 refine Oi (fun _=>?_) (fun _=>?_)
 .exact Ob T138 fun a f=>.mk (fun _=>⟨e.1,e.2,by dsimp only;omega,by dsimp only;omega⟩)
 refine Ob (T137 b) fun j h2=>?_
 refine Oi (fun hc=>?_) (fun _=>.mk (fun h=>by cases h))
 refine Ob T138 fun a f=>.mk (fun _=>?_)
 dsimp only at f ⊢
 rcases h2.2.2 with h|⟨x,y,z,hx,_⟩
 .rw [h]at hc;simp at hc
 .have:=cQ hx;rw[f];exact⟨e.1,e.2,this.1,this.2.1⟩
theorem T139 {x1:Ze} (a:x1.sm):Ok (F139 x1) (fun v=>v.sm):=by
 unfold F139
 rw[nX (Nat.le_trans a.Heads (by decide)),nX (Nat.le_trans a.Graces (by decide)),nX (Nat.le_trans a.Lyrics (by decide))]
 exact .mk ⟨a.Heads,a.Graces,a.Lyrics,a.LyricsE⟩
theorem T86 {x1:Z0} {f:Zp} (a:x1.sm):Ok (F86 x1 f) (fun v=>v.1.sm):=by
 unfold F86
 refine Ob (T136 a) fun c hc=>?_
 refine Oi (fun _=>.mk ⟨Nat.zero_le _,Nat.zero_le _,Nat.zero_le _,fun _ h=>(List.not_mem_nil h).elim⟩) (fun hd=>?_)
 obtain⟨hk,h0,l,hl,d⟩:=hc (by simpa using hd)
 have b:=(T137 a).of hl
 rw[hl,Option.bind_some]
 exact Ob (bC (Q:=fun x=>x.sm) h0 d (fun x e _=>b.2.1 x e)) fun x e=>Ob (T139 e) fun y hy=>.mk hy
theorem T140 {x1 a:Zb}:Ok (F140 x1 a) (fun _=>True):=by
 unfold F140
 exact .mk trivial
theorem T133_3 {x1:List Zb} {j:Zb} (e:x1.length<=12):Ok (F133_3 x1 j) (fun _=>True):=by
 unfold F133_3
 have g:=e
 refine lpT (l:=x1) (fun q=>q) (Nat.lt_of_le_of_lt e (by decide)) rfl (fun i h k f a c b d=>?_) (fun k a=>?_) fun m=>?_
 .simp only[c,b,nt]
  refine obT (T140) fun n=>?_
  refine Oi (fun c1064=>?_) (fun c1064=>?_)
  .exact .mk trivial
  exact .mk d
 .simp only[a,nf]
  exact .mk trivial
 rcases m with o|_
 .exact .mk trivial
 .exact .mk trivial
theorem T79_3 {x1:List Zb} {b:Zb} (a:x1.length<=12):Ok (F79_3 x1 b) (fun _=>True):=by
 unfold F79_3
 refine obT (T133_3 a) fun c=>?_
 exact .mk trivial
theorem T87 {x1 s:Ze} (g:x1.sm) (m:s.sm):Ok (F87 x1 s) (fun _=>True):=by
 unfold F87
 refine Oi (fun c1066=>?_) (fun c1066=>?_)
 .exact .mk trivial
 have j:=g.Heads
 refine lpT (l:=x1.Heads) (fun q=>q) (Nat.lt_of_le_of_lt g.Heads (by decide)) rfl (fun n e v i a c b d=>?_) (fun v a=>?_) fun p=>?_
 .simp only[c,b,nt]
  refine Ob (P:=fun r=>r=true->e.Tied=true) ?_ fun u f=>?_
  .refine Oi (fun c1079=>?_) (fun _=>.mk (fun h=>by cases h))
   refine Ob (P:=fun r=>r=true->(s.Kind==1)=true) ?_ fun t k=>?_
   .refine Oi (fun c1081=>?_) (fun _=>.mk (fun h=>by cases h))
    refine obT (T79_3 m.Heads) fun w=>?_
    exact .mk (fun _=>c1081)
   exact .mk (fun _=>c1079)
  refine Oi (fun c1083=>?_) (fun c1083=>?_)
  .have o:=f c1083
   exact .mk trivial
  exact .mk d
 .simp only[a,nf]
  exact .mk trivial
 rcases p with _|_
 .exact .mk trivial
 .exact .mk trivial
theorem T83 {x1:Zp} {f:Ze} {g:Zk} (c:f.sm) (d:g.s'.sm):Ok (F83 x1 f g) (fun _=>True):=by
 unfold F83
 refine obT (T84 c) fun k=>?_
 refine Oi (fun c1086=>?_) (fun c1086=>?_)
 .exact .mk trivial
 refine Ob (T85 d) fun⟨l,j⟩ b=>?_
 try dsimp only at b
 refine Ob (T86 d) fun⟨m,n⟩ a=>?_
 try dsimp only at a
 refine Ob (P:=fun r=>¬r=true->¬(!j)=true) ?_ fun i e=>?_
 .refine Oi (fun _=>.mk (fun h=>absurd rfl h)) (fun c1090=>?_)
  refine obT (T87 c a) fun o=>?_
  exact .mk (fun _=>c1090)
 exact .mk trivial
theorem Tn73_3 {x1:List Zv} {x2:Z0} {x3:Int} (e2:x1.length+3000<=1000000) (C:x2.sm):Ok (Fn73_3 x1 x2 x3) (fun v=>x1.length<=v.length/\v.length<=x1.length+3000):=by
 unfold Fn73_3
 have T:=C.Measures
 refine Ob (P:=fun r=>x1.length<=r.length/\r.length<=x1.length+3000) (aP (l:=x2.Measures) (fun q=>q.1) (fun i q=>x1.length<=q.2.length/\q.2.length<=x1.length+i*300) (Nat.lt_of_le_of_lt C.Measures (by decide)) rfl (by dsimp only;omega) (fun b5 L q1103 X G c t g a y=>?_) (fun q1103 c g=>?_)) fun e1 d2=>?_
 .obtain ⟨b9,D⟩:=q1103
  dsimp only at c t a y g
  simp only[t,a,nt]
  have n:=C.MeasuresE _ G
  have U:=n.Cells
  refine Ob (P:=fun r=>D.length<=r.length/\r.length<=D.length+300) (aP (l:=L.Cells) (fun q=>q.1) (fun i q=>D.length<=q.2.length/\q.2.length<=D.length+i*60) (Nat.lt_of_le_of_lt n.Cells (by decide)) rfl (by dsimp only;omega) (fun b6 M q1117 Y H d u h b z=>?_) (fun q1117 d h=>?_)) fun e0 d3=>?_
  .obtain ⟨d0,E⟩:=q1117
   dsimp only at d u b z h
   simp only[u,a,b,nt]
   have o:=n.CellsE _ H
   have V:=o.Voices
   refine Ob (P:=fun r=>E.length<=r.length/\r.length<=E.length+60) (aP (l:=M.Voices) (fun q=>q.1) (fun i q=>E.length<=q.2.length/\q.2.length<=E.length+i*20) (Nat.lt_of_le_of_lt o.Voices (by decide)) rfl (by dsimp only;omega) (fun b7 N q1131 Z J e w j m A=>?_) (fun q1131 e j=>?_)) fun d9 d4=>?_
   .obtain ⟨d1,F⟩:=q1131
    dsimp only at e w m A j
    simp only[w,a,b,m,nt]
    have p:=o.VoicesE _ J
    have W:=p.Events
    refine Ob (P:=fun r=>F.length<=r.length/\r.length<=F.length+20) (aP (l:=N.Events) (fun q=>q.1) (fun i q=>F.length<=q.2.length/\q.2.length<=F.length+i*1) (Nat.lt_of_le_of_lt p.Events (by decide)) rfl (by dsimp only;omega) (fun b8 b0 q1145 a0 K f x k s B=>?_) (fun q1145 f k=>?_)) fun d8 d5=>?_
    .obtain ⟨R,S⟩:=q1145
     dsimp only at f x s B k
     simp only[x,a,b,m,s,nt]
     have O:=p.EventsE _ K
     refine obT (T83 O C) fun d6=>?_
     refine Ob (Tn58 (by first|omega|(simp only[List.length_nil]at *;omega)) C) fun d7 b4=>?_
     exact .mk ⟨B,by dsimp only;omega⟩
    .obtain ⟨R,S⟩:=q1145
     dsimp only at f k
     simp only[f,nf]
     exact .mk (by dsimp only;omega)
    exact .mk ⟨A,by dsimp only;omega⟩
   .obtain ⟨d1,F⟩:=q1131
    dsimp only at e j
    simp only[e,nf]
    exact .mk (by dsimp only;omega)
   exact .mk ⟨z,by dsimp only;omega⟩
  .obtain ⟨d0,E⟩:=q1117
   dsimp only at d h
   simp only[d,nf]
   exact .mk (by dsimp only;omega)
  exact .mk ⟨y,by dsimp only;omega⟩
 .obtain ⟨b9,D⟩:=q1103
  dsimp only at c g
  simp only[c,nf]
  exact .mk (by dsimp only;omega)
 exact .mk (by omega)
theorem Tn40 {x1:List Zv} {c:Z0} {e:Int} (d:x1.length+3000<=1000000) (b:c.sm):Ok (Fn40 x1 c e) (fun v=>x1.length<=v.length/\v.length<=x1.length+3000):=by
 unfold Fn40
 refine Ob (Tn73_3 (by first|omega|(simp only[List.length_nil]at *;omega)) b) fun f a=>?_
 exact .mk (by omega)
theorem T141 {x1:Ze} {a:Int} (c:x1.sm) (d:0<=a):Ok (F141 x1 a) (fun v=>v=false->a<(x1.Lyrics.length:Int)):=by
 unfold F141
 refine Ob (P:=fun r=>r=false->a<(x1.Lyrics.length:Int)) (Oi (fun _=>.mk (fun h=>by cases h)) (fun hc=>?_)) fun b hb=>.mk hb
 simp only[decide_eq_true_eq]at hc
 exact Ob (bC (Q:=fun _=>True) d (by omega) (fun _ _ _=>trivial)) fun y _=>.mk (fun _=>by omega)
theorem Tn88 {x1 o u:Int} {D:List (Zp×Bool)} {v:List Zv} {p:Z0} {E:Int} (A:v.length+0<=1000000) (d:p.sm) (C:0<=x1) (hy:0<=o) (s:0<=u):Ok (Fn88 x1 o u D v p E) (fun _=>True):=by
 unfold Fn88
 have G:=d.Measures
 refine Ob (P:=fun _=>True) (aP (l:=p.Measures) (fun q=>q.1) (fun _ _=>True) (by omega) rfl trivial (fun i e q _ g hi hl _ hg hw=>?_) (fun q hi _=>?_)) fun⟨a1,a2,a3,a4,a5,a6,a7⟩ _=>?_
 .obtain ⟨x,k,st,m,n,ev,y,l⟩:=q
  dsimp only at hi hl hg hw
  simp only[hl,hg,nt]
  refine Ob (P:=fun r=>¬r=true->∃y,lget e.Cells x1=some y/\o<(y.Voices.length:Int)) (Oi (fun _=>.mk (fun h=>absurd rfl h)) (fun hc=>?_)) fun b hb=>?_
  .simp only[decide_eq_true_eq]at hc
   exact Ok.bindE (bC (Q:=fun _=>True) C (by omega) (fun _ _ _=>trivial)) fun y hy _=>.mk (fun h=>⟨y,hy,by simpa using h⟩)
  refine Oi (fun _=>.mk ⟨hw,trivial⟩) (fun hc=>?_)
  obtain⟨c,f,hv⟩:=hb hc
  rw[f,Option.bind_some]
  refine Ok.bindE (bC (Q:=fun _=>True) hy hv (fun _ _ _=>trivial)) fun z j _=>?_
  have t:=((d.MeasuresE e g).CellsE c (cQ f).2.2.1).VoicesE z (cQ j).2.2.1
  have F:=t.Events
  refine Ob (P:=fun _=>True) (aP (l:=z.Events) (fun q=>q.1) (fun _ _=>True) (by omega) rfl trivial (fun i e q _ g hi hl _ hg hw=>?_) (fun q hi _=>?_)) fun⟨a1,a2,a3,a4,a5,a6,a7⟩ _=>.mk ⟨hw,trivial⟩
  .obtain ⟨x,k,st,m,n,ev,y,l⟩:=q
   dsimp only at hi hl hg hw
   simp only[hl,hg,nt]
   refine Ob (T141 (t.EventsE e g) s) fun a B=>?_
   refine Oi (fun _=>.mk ⟨hw,trivial⟩) (fun hc=>?_)
   refine Ob (bC (Q:=fun _=>True) s (B (by simpa using hc)) (fun _ _ _=>trivial)) fun w _=>?_
   refine Ob (P:=fun _=>True) (Oi (fun _=>.mk trivial) (fun _=>.mk trivial)) fun _ _=>?_
   exact Ob (P:=fun _=>True) (Oi (fun _=>.mk trivial) (fun _=>.mk trivial)) fun _ _=>.mk ⟨hw,trivial⟩
  .obtain ⟨x,k,st,m,n,ev,y,l⟩:=q
   dsimp only at hi
   simp only[hi,nf]
   exact .mk trivial
 .obtain ⟨x,k,st,m,n,ev,y,l⟩:=q
  dsimp only at hi
  simp only[hi,nf]
  exact .mk trivial
 exact Ob (P:=fun _=>True) (Oi (fun _=>.mk trivial) (fun _=>.mk trivial)) fun _ _=>.mk trivial
theorem T89 {x1:Zp} {a:Ze} {c:List (Zp×Bool)} (b:a.sm):Ok (F89 x1 a c) (fun _=>True):=by
 unfold F89
 exact .mk trivial
theorem Tn73_4 {x1:List (Zp×Bool)} {L:List Zv} {x3:Z0} {x4:Int} (e3:L.length+3000<=1000000) (F:x3.sm):Ok (Fn73_4 x1 L x3 x4) (fun v=>L.length<=v.length/\v.length<=L.length+3000):=by
 unfold Fn73_4
 have U:=F.Measures
 refine Ob (P:=fun r=>L.length<=r.length/\r.length<=L.length+3000) (aP (l:=x3.Measures) (fun q=>q.1) (fun i q=>L.length<=q.2.length/\q.2.length<=L.length+i*300) (Nat.lt_of_le_of_lt F.Measures (by decide)) rfl (by dsimp only;omega) (fun b6 M q1162 Y G c t g a y=>?_) (fun q1162 c g=>?_)) fun e2 d3=>?_
 .obtain ⟨d0,C⟩:=q1162
  dsimp only at c t a y g
  simp only[t,a,nt]
  have n:=F.MeasuresE _ G
  have V:=n.Cells
  refine Ob (P:=fun r=>C.length<=r.length/\r.length<=C.length+300) (aP (l:=M.Cells) (fun q=>q.1) (fun i q=>C.length<=q.2.length/\q.2.length<=C.length+i*60) (Nat.lt_of_le_of_lt n.Cells (by decide)) rfl (by dsimp only;omega) (fun b7 N q1176 Z H d u h b z=>?_) (fun q1176 d h=>?_)) fun e1 d4=>?_
  .obtain ⟨d1,D⟩:=q1176
   dsimp only at d u b z h
   simp only[u,a,b,nt]
   have o:=n.CellsE _ H
   have W:=o.Voices
   refine Ob (P:=fun r=>D.length<=r.length/\r.length<=D.length+60) (aP (l:=N.Voices) (fun q=>q.1) (fun i q=>D.length<=q.2.length/\q.2.length<=D.length+i*20) (Nat.lt_of_le_of_lt o.Voices (by decide)) rfl (by dsimp only;omega) (fun b8 O q1190 a0 J e w j m A=>?_) (fun q1190 e j=>?_)) fun e0 d5=>?_
   .obtain ⟨d2,E⟩:=q1190
    dsimp only at e w m A j
    simp only[w,a,b,m,nt]
    have p:=o.VoicesE _ J
    have X:=p.Events
    refine Ob (P:=fun r=>E.length<=r.length/\r.length<=E.length+20) (aP (l:=O.Events) (fun q=>q.1) (fun i q=>E.length<=q.2.length/\q.2.length<=E.length+i*1) (Nat.lt_of_le_of_lt p.Events (by decide)) rfl (by dsimp only;omega) (fun b9 b4 q1204 b0 K f x k s B=>?_) (fun q1204 f k=>?_)) fun d9 d6=>?_
    .obtain ⟨S,T⟩:=q1204
     dsimp only at f x s B k
     simp only[x,a,b,m,s,nt]
     have R:=p.EventsE _ K
     refine obT (T89 R) fun d7=>?_
     refine Ob (Tn58 (by first|omega|(simp only[List.length_nil]at *;omega)) F) fun d8 b5=>?_
     exact .mk ⟨B,by dsimp only;omega⟩
    .obtain ⟨S,T⟩:=q1204
     dsimp only at f k
     simp only[f,nf]
     exact .mk (by dsimp only;omega)
    exact .mk ⟨A,by dsimp only;omega⟩
   .obtain ⟨d2,E⟩:=q1190
    dsimp only at e j
    simp only[e,nf]
    exact .mk (by dsimp only;omega)
   exact .mk ⟨z,by dsimp only;omega⟩
  .obtain ⟨d1,D⟩:=q1176
   dsimp only at d h
   simp only[d,nf]
   exact .mk (by dsimp only;omega)
  exact .mk ⟨y,by dsimp only;omega⟩
 .obtain ⟨d0,C⟩:=q1162
  dsimp only at c g
  simp only[c,nf]
  exact .mk (by dsimp only;omega)
 exact .mk (by omega)
theorem Tn41 {x1:List Zv} {e:Z0} {h:Int} (f:x1.length+3000<=1000000) (a:e.sm):Ok (Fn41 x1 e h) (fun v=>x1.length<=v.length/\v.length<=x1.length+3000):=by
 unfold Fn41
 refine Ob (T49 a) fun n g=>?_
 refine Ob (P:=fun _=>True) (fF (fun q=>q.1) n (fun _=>True) g (by decide) trivial (fun q _ h1 h2=>?_)) fun m _=>?_
 .obtain ⟨x,l⟩:=q
  dsimp only at h1 h2 ⊢
  refine Oi (fun hc=>?_) (fun _=>.mk trivial)
  simp only[decide_eq_true_eq]at hc
  refine Ob (P:=fun _=>True) (fF (fun q=>q.1) 2 (fun _=>True) (by decide) (by dsimp only;omega) trivial (fun q _ b g2=>?_)) fun m _=>.mk ⟨hc,h2 hc,trivial⟩
  obtain⟨y,l⟩:=q
  dsimp only at b g2 ⊢
  refine Oi (fun hd=>?_) (fun _=>.mk trivial)
  simp only[decide_eq_true_eq]at hd
  refine Ob (P:=fun _=>True) (fF (fun q=>q.1) 4 (fun _=>True) (by decide) (by dsimp only;omega) trivial (fun q _ c d=>?_)) fun m _=>.mk ⟨hd,g2 hd,trivial⟩
  obtain⟨z,l⟩:=q
  dsimp only at c d ⊢
  refine Oi (fun he=>?_) (fun _=>.mk trivial)
  simp only[decide_eq_true_eq]at he
  exact Ob (Tn88 (by omega) a h1 b c) fun m _=>.mk ⟨he,d he,trivial⟩
 .exact Ob (Tn73_4 (by omega) a) fun v hv=>.mk (by omega)
theorem Tn113_2 {x1:Z0} (a:x1.sm):Ok (Fn113_2 x1) (fun _=>True):=by
 unfold Fn113_2
 exact .mk trivial
theorem Ty183_13 {x1 e:Int} {f g:Int} {h i j:Int} {c:Zj} {k:Bool} {a:Zp} {b:Zz} (d:c.sm):Ok (Fy183_13 x1 e f g h i j c k a b) (fun _=>True):=by
 unfold Fy183_13
 refine Oi (fun c1209=>?_) (fun c1209=>?_)
 .exact .mk trivial
 exact .mk trivial
theorem Ty183_13_2 {x1 c:Int} {d e:Int} {f g h:Int} {i:Zf} {j:Bool} {a:Zp} {b:Zz}:Ok (Fy183_13_2 x1 c d e f g h i j a b) (fun _=>True):=by
 unfold Fy183_13_2
 refine Oi (fun c1210=>?_) (fun c1210=>?_)
 .exact .mk trivial
 exact .mk trivial
theorem Ty183_13_3 {x1 e:Int} {f g:Int} {h i j:Int} {c:Zm} {k:Bool} {a:Zp} {b:Zz} (d:c.sm):Ok (Fy183_13_3 x1 e f g h i j c k a b) (fun _=>True):=by
 unfold Fy183_13_3
 refine Oi (fun c1211=>?_) (fun c1211=>?_)
 .exact .mk trivial
 exact .mk trivial
theorem Ty183_13_4 {x1 e:Int} {f g:Int} {h i j:Int} {c:Ze} {k:Bool} {a:Zp} {b:Zz} (d:c.sm):Ok (Fy183_13_4 x1 e f g h i j c k a b) (fun _=>True):=by
 unfold Fy183_13_4
 refine Oi (fun c1212=>?_) (fun c1212=>?_)
 .exact .mk trivial
 exact .mk trivial
theorem Ty183_13_5 {x1 c:Int} {d e:Int} {f g h:Int} {i:Zn} {j:Bool} {a:Zp} {b:Zz}:Ok (Fy183_13_5 x1 c d e f g h i j a b) (fun _=>True):=by
 unfold Fy183_13_5
 refine Oi (fun c1213=>?_) (fun c1213=>?_)
 .exact .mk trivial
 exact .mk trivial
theorem Tn164_2 {x1:Z0} {X:Bool} {Y:Zp} {Z:Zz} (g:x1.sm):Ok (Fn164_2 x1 X Y Z) (fun v=>match v with|.inl p=>p.Kind=4->0<=p.Event/\x1.pl p.Measure p.Staff p.Voice|.inr _=>True):=by
 unfold Fn164_2
 have hP:=g.Parts
 have hM:=g.Measures
 have U:=g.Spanners
 refine Ob (P:=fun r=>match r with|.inl p=>p.1≠4|.inr _=>True) (aP (l:=x1.Parts) (fun q=>q.2) (fun _ _=>True) (by omega) rfl trivial (fun i e q D B hi hl _ hg hw=>?_) (fun q hi _=>?_)) fun r hr=>?_
 .obtain ⟨s,x⟩:=q
  dsimp only at hi hl hg hw
  simp only[hl,hg,nt]
  refine Ob (Ty183_13 (g.PartsE e B)) fun r _=>?_
  rcases r with _|_
  .exact .mk (show(1:Int)≠4 by decide)
  have U:=(g.PartsE e B).Staves
  refine Ob (P:=fun _=>True) (aP (l:=e.Staves) (fun q=>q.2) (fun _ _=>True) (by omega) rfl trivial (fun i2 e2 q W V F A _ m C=>?_) (fun q hi _=>?_)) fun r _=>?_
  .obtain ⟨s,y⟩:=q
   dsimp only at F A m C
   simp only[A,m,nt]
   refine Ob Ty183_13_2 fun r _=>?_
   rcases r with _|_
   .exact .mk trivial
   .exact .mk ⟨C,trivial⟩
  .obtain ⟨s,y⟩:=q
   dsimp only at hi
   simp only[hi,nf]
   exact .mk trivial
  rcases r with⟨a,b⟩|a
  .exact .mk (show(2:Int)≠4 by decide)
  .exact .mk ⟨hw,trivial⟩
 .obtain ⟨s,y⟩:=q
  dsimp only at hi
  simp only[hi,nf]
  exact .mk trivial
 rcases r with⟨k,p,st⟩|_
 .exact .mk (fun h=>absurd h hr)
 refine Ob (P:=fun r=>match r with|.inl p=>p.1=4->0<=p.2.2.2.2/\x1.pl p.2.2.1 p.2.1 p.2.2.2.1|.inr _=>True) (aP (l:=x1.Measures) (fun q=>q) (fun _ _=>True) (by omega) rfl trivial (fun i e q D B hi hl _ hg hw=>?_) (fun q hi _=>?_)) fun r hr=>?_
 .simp only[hl,hg,nt]
  have R:=g.MeasuresE e B
  have hC:=R.Cells
  refine Ob (Ty183_13_3 R) fun r _=>?_
  rcases r with _|_
  .exact .mk (fun h=>absurd (show(3:Int)=4 from h) (by decide))
  refine Ob (P:=fun r=>match r with|.inl p=>0<=p.2.2/\x1.pl q p.1 p.2.1|.inr _=>True) (aP (l:=e.Cells) (fun q=>q) (fun _ _=>True) (by omega) rfl trivial (fun j c w D J hj hlc _ o M=>?_) (fun q hi _=>?_)) fun r hr=>?_
  .simp only[hlc,o,nt]
   have S:=R.CellsE c J
   have hV:=S.Voices
   refine Ob (P:=fun r=>match r with|.inl p=>0<=p.2/\x1.pl q w p.1|.inr _=>True) (aP (l:=c.Voices) (fun q=>q) (fun _ _=>True) (by omega) rfl trivial (fun k v u D L hk H _ z O=>?_) (fun q hi _=>?_)) fun r hr=>?_
   .simp only[H,z,nt]
    have T:=S.VoicesE v L
    have hE:=T.Events
    refine Ob (P:=fun r=>match r with|.inl x=>0<=x|.inr _=>True) (aP (l:=v.Events) (fun q=>q) (fun _ _=>True) (by omega) rfl trivial (fun n ev t D K ht G _ E N=>?_) (fun q hi _=>?_)) fun r hr=>?_
    .simp only[G,E,nt]
     refine Ob (Ty183_13_4 (T.EventsE ev K)) fun r _=>?_
     rcases r with _|_
     .exact .mk (show(0:Int)<=t by omega)
     .exact .mk ⟨N,trivial⟩
    .simp only[hi,nf]
     exact .mk trivial
    rcases r with x|_
    .exact .mk ⟨hr,e,c,v,hg,o,z⟩
    .exact .mk ⟨O,trivial⟩
   .simp only[hi,nf]
    exact .mk trivial
   rcases r with⟨a,b⟩|_
   .exact .mk hr
   .exact .mk ⟨M,trivial⟩
  .simp only[hi,nf]
   exact .mk trivial
  rcases r with⟨a,b,c⟩|_
  .exact .mk (fun _=>hr)
  .exact .mk ⟨hw,trivial⟩
 .simp only[hi,nf]
  exact .mk trivial
 rcases r with⟨a,b,c,d,f⟩|_
 .exact .mk hr
 refine Ob (P:=fun _=>True) (aP (l:=x1.Spanners) (fun q=>q) (fun _ _=>True) (by omega) rfl trivial (fun i e q D B hi hl _ hg hw=>?_) (fun q hi _=>?_)) fun r hr=>?_
 .simp only[hl,hg,nt]
  refine Ob Ty183_13_5 fun r _=>?_
  rcases r with _|_
  .exact .mk trivial
  .exact .mk ⟨hw,trivial⟩
 .simp only[hi,nf]
  exact .mk trivial
 rcases r with x|_
 .exact .mk (fun h=>absurd (show(5:Int)=4 from h) (by decide))
 .exact .mk trivial
theorem T183 {x1:Z0} {b:Zz} (a:x1.sm):Ok (F183 x1 b) (fun v=>v.2=true->v.1.Kind=4->0<=v.1.Event/\x1.pl v.1.Measure v.1.Staff v.1.Voice):=by
 unfold F183
 refine Oi (fun _=>.mk (fun h=>by cases h)) (fun _=>?_)
 refine Ob (Tn113_2 a) fun _ _=>?_
 refine Ob (Tn164_2 a) fun r hr=>?_
 rcases r with p|_
 .exact .mk (fun _=>hr)
 .exact .mk (fun h=>by cases h)
theorem T202 {x1:List Int} (b:x1.length<=20):Ok (F202 x1) (fun _=>True):=by
 unfold F202
 refine Ob (lS (by omega) (by omega) (by omega)) fun g h2=>?_
 refine Ob (P:=fun v=>v.length=x1.length) (fF (fun q=>q.1) (x1.length:Int) (fun q=>q.2.length=x1.length) (by omega) (by dsimp only;omega) (by rw[h2];simp) (fun q a h1 h2=>?_)) fun v hv=>.mk trivial
 obtain⟨i,l⟩:=q
 dsimp only at a h1 h2 ⊢
 refine Oi (fun hc=>?_) (fun _=>.mk a)
 simp only[decide_eq_true_eq]at hc
 rw[aV (n:=i-1) (by omega) (by omega)]
 refine Ob (bM (by omega) (by omega)) fun j d=>?_
 refine Ob (bR (by omega)) fun x _=>?_
 refine Ob (bC (Q:=fun _=>True) (by omega) (by omega) (fun _ _ _=>trivial)) fun y _=>?_
 refine Ob (bM (by omega) (by omega)) fun f c=>?_
 exact Ob (bN1 (by omega)) fun m e=>.mk ⟨hc,h2 hc,by dsimp only;omega⟩
theorem T184 {x1:Zo} {c:Int} (b:x1.sm):Ok (F184 x1 c) (fun _=>True):=by
 unfold F184
 refine Ob (T171 b) fun⟨d,e⟩ a=>?_
 try dsimp only at a
 refine Oi (fun c1215=>?_) (fun c1215=>?_)
 .exact .mk trivial
 refine obT (T202 a) fun f=>?_
 exact .mk trivial
theorem T142 {x1:Zk} {j:Zz} (c:x1.s'.sm):Ok (F142 x1 j) (fun _=>True):=by
 unfold F142
 refine Ob (T183 c) fun⟨p,f⟩ hp=>?_
 dsimp only at hp
 refine Oi (fun _=>.mk trivial) (fun hc=>?_)
 simp only[Bool.or_eq_true,not_or,Bool.not_eq_true',Bool.not_eq_false,bne_iff_ne,ne_eq,Decidable.not_not]at hc
 obtain⟨h0,x,y,z,d,hy,g⟩:=hp hc.1 hc.2
 simp only[d,hy,g,Option.bind_some]
 have h:=c.MeasuresE x (cQ d).2.2.1
 have i:=(h.CellsE y (cQ hy).2.2.1).VoicesE z (cQ g).2.2.1
 refine Ob (T68 h) fun⟨a,b⟩ _=>?_
 refine Ob (T184 i) fun⟨on,e⟩ _=>?_
 refine Oi (fun _=>.mk trivial) (fun hd=>?_)
 simp only[decide_eq_true_eq]at hd
 exact Ob (bC (Q:=fun _=>True) h0 (by dsimp only at hd ⊢;omega) (fun _ _ _=>trivial)) fun w _=>.mk trivial
theorem T203 {x1 a:Int}:Ok (F203 x1 a) (fun _=>True):=by
 unfold F203
 exact .mk trivial
theorem T185 {x1:Zq}:Ok (F185 x1) (fun _=>True):=by
 unfold F185
 refine obT (T203) fun g=>?_
 refine Ob (P:=fun r=>r=true->g=true) ?_ fun i a=>?_
 .refine Oi (fun c1219=>?_) (fun _=>.mk (fun h=>by cases h))
  refine obT (T203) fun k=>?_
  exact .mk (fun _=>c1219)
 refine Ob (P:=fun r=>r=true->i=true) ?_ fun j b=>?_
 .refine Oi (fun c1222=>?_) (fun _=>.mk (fun h=>by cases h))
  have e:=a c1222
  refine obT (T203) fun l=>?_
  exact .mk (fun _=>c1222)
 refine Ob (P:=fun r=>r=true->j=true) ?_ fun n d=>?_
 .refine Oi (fun c1226=>?_) (fun _=>.mk (fun h=>by cases h))
  have c:=b c1226
  have f:=a c
  refine obT (T203) fun m=>?_
  exact .mk (fun _=>c1226)
 exact .mk trivial
theorem T186 {x1:Int}:Ok (F186 x1) (fun _=>True):=by
 unfold F186
 exact .mk trivial
theorem T213 {x1:Int}:Ok (F213 x1) (fun _=>True):=by
 unfold F213
 exact .mk trivial
theorem T205 {x1 a:Int}:Ok (F205 x1 a) (fun _=>True):=by
 unfold F205
 refine obT (T213) fun b=>?_
 refine obT (T213) fun c=>?_
 refine Oi (fun c1232=>?_) (fun c1232=>?_)
 .refine Oi (fun c1233=>?_) (fun c1233=>?_)
  .exact .mk trivial
  exact .mk trivial
 refine Oi (fun c1234=>?_) (fun c1234=>?_)
 .exact .mk trivial
 refine Oi (fun c1235=>?_) (fun c1235=>?_)
 .exact .mk trivial
 refine Oi (fun c1236=>?_) (fun c1236=>?_)
 .exact .mk trivial
 exact .mk trivial
theorem T204 {x1:List Int} (e:x1.length<=20):Ok (F204 x1) (fun _=>True):=by
 unfold F204
 have g:=e
 refine lpT (l:=x1) (fun q=>q) (Nat.lt_of_le_of_lt e (by decide)) rfl (fun i h j f a c b d=>?_) (fun j a=>?_) fun k=>?_
 .simp only[c,b,nt]
  refine Oi (fun c1248=>?_) (fun c1248=>?_)
  .exact .mk trivial
  exact .mk d
 .simp only[a,nf]
  exact .mk trivial
 rcases k with m|_
 .exact .mk trivial
 .exact .mk trivial
theorem T187 {x1 a:Zq}:Ok (F187 x1 a) (fun _=>True):=by
 unfold F187
 refine obT (T205) fun b=>?_
 refine obT (T205) fun c=>?_
 refine obT (T204 (by simp)) fun d=>?_
 exact .mk trivial
theorem T143 {x1:Zs}:Ok (F143 x1) (fun _=>True):=by
 unfold F143
 refine Oi (fun c1252=>?_) (fun c1252=>?_)
 .exact .mk trivial
 refine obT (T185) fun e=>?_
 refine Ob (P:=fun r=>¬r=true->¬(!e)=true) ?_ fun g a=>?_
 .refine Oi (fun _=>.mk (fun h=>absurd rfl h)) (fun c1255=>?_)
  refine obT (T185) fun f=>?_
  exact .mk (fun _=>c1255)
 refine Oi (fun c1257=>?_) (fun c1257=>?_)
 .exact .mk trivial
 have c:=a c1257
 refine Ob (P:=fun r=>¬r=true->¬(x1.From.Staff !=x1.To.Staff)=true) ?_ fun j b=>?_
 .refine Oi (fun _=>.mk (fun h=>absurd rfl h)) (fun c1260=>?_)
  refine obT (T186) fun i=>?_
  exact .mk (fun _=>c1260)
 refine Oi (fun c1262=>?_) (fun c1262=>?_)
 .exact .mk trivial
 have d:=b c1262
 refine obT (T187) fun k=>?_
 refine Oi (fun c1265=>?_) (fun c1265=>?_)
 .exact .mk trivial
 exact .mk trivial
theorem Tn90 {x1:List Zv} {d:Z0} {k:Int} (j:x1.length+0<=1000000) (c:d.sm):Ok (Fn90 x1 d k) (fun v=>v.1.length=d.Spanners.length/\v.2.length=d.Spanners.length):=by
 unfold Fn90
 have o:=c.Spanners
 refine Ob (P:=fun v=>v.1.length=d.Spanners.length/\v.2.length=d.Spanners.length) (aP (l:=d.Spanners) (fun q=>q.1) (fun i q=>q.2.1.length=i/\q.2.2.length=i) (by omega) rfl ⟨rfl,rfl⟩ (fun i e q r p hi hl f hg hw=>?_) (fun q hi f=>?_)) fun⟨a,b⟩ hv=>.mk hv
 .obtain ⟨x,g,h⟩:=q
  dsimp only at hi hl f hg hw
  simp only[hl,hg,nt]
  refine Ob (T142 c) fun⟨p1,m⟩ _=>?_
  refine Ob (T142 c) fun⟨p2,n⟩ _=>?_
  refine Ob (cU (Q:=fun v=>v.length=h.length+1) (by omega) (by simp)) fun s h1=>?_
  refine Ob (P:=fun _=>True) (Oi (fun _=>.mk trivial) (fun _=>Ob T143 fun _ _=>.mk trivial)) fun b _=>?_
  exact Ob (cU (Q:=fun v=>v.length=g.length+1) (by omega) (by simp)) fun t h2=>.mk ⟨hw,by dsimp only;omega,by dsimp only;omega⟩
 .obtain ⟨x,g,h⟩:=q
  dsimp only at hi f
  simp only[hi,nf]
  exact .mk f
theorem Tn42 {x1:List Zv} {g:Z0} {m:Int} (h:x1.length+10<=1000000) (c:g.sm):Ok (Fn42 x1 g m) (fun v=>x1.length<=v.length/\v.length<=x1.length+10):=by
 unfold Fn42
 have n:=c.Spanners
 refine Ob (Tn90 (by omega) c) fun⟨a,b⟩ f=>?_
 dsimp only at f
 refine Ob (P:=fun v=>x1.length<=v.length/\v.length<=x1.length+10) (aP (l:=g.Spanners) (fun q=>q.1) (fun i q=>x1.length<=q.2.length/\q.2.length<=x1.length+i) (by omega) rfl (by dsimp only;omega) (fun i e q p o hi hl d hg hw=>?_) (fun q hi d=>?_)) fun v hv=>.mk (by omega)
 .obtain ⟨x,l⟩:=q
  dsimp only at hi hl d hg hw
  simp only[hl,hg,nt]
  refine Ob (bM (by omega) (by omega)) fun j k=>?_
  refine Ob (bR k.2) fun y _=>?_
  exact Ob (Tn58 (by omega) c) fun v hv=>.mk ⟨hw,by dsimp only;omega⟩
 .obtain ⟨x,l⟩:=q
  dsimp only at hi d
  simp only[hi,nf]
  exact .mk (by omega)
theorem T188 {x1:Int}:Ok (F188 x1) (fun v=>v>0->1<=x1/\x1<=7):=by
 unfold F188
 refine Oi (fun c1266=>?_) (fun c1266=>?_)
 .exact .mk (by omega)
 refine Ob (bC (Q:=fun _=>True) (by(simp only[nm]at *;rw[aV (by omega) (by omega)];omega)) (by(simp only[nm,nl]at *;rw[aV (by omega) (by omega)];omega)) (fun _ _ _=>trivial)) fun b a=>?_
 exact .mk (by(simp only[nm]at *;omega))
theorem T144 {x1 a:Zs}:Ok (F144 x1 a) (fun v=>v=true->1<=x1.Kind/\x1.Kind<=7):=by
 unfold F144
 refine Ob T188 fun f hf=>?_
 refine Ob (P:=fun r=>r=true->1<=x1.Kind/\x1.Kind<=7) (Oi (fun hc=>?_) (fun _=>.mk (fun h=>by cases h))) fun b hb=>?_
 .simp only[decide_eq_true_eq]at hc
  have:=hf hc
  exact Ob T188 fun _ _=>Ob T188 fun _ _=>.mk (fun _=>this)
 refine Ob (P:=fun r=>r=true->1<=x1.Kind/\x1.Kind<=7) (Oi (fun hc=>?_) (fun _=>.mk (fun h=>by cases h))) fun b hb=>.mk hb
 simp only[Bool.and_eq_true]at hc
 have:=hb hc.1
 exact Ob T186 fun _ _=>.mk (fun _=>this)
theorem T148 {x1 b:Zs}:Ok (F148 x1 b) (fun _=>True):=by
 unfold F148
 refine obT (T187) fun c=>?_
 refine Ob (P:=fun r=>¬r=true->¬(decide (c<0))=true) ?_ fun e a=>?_
 .refine Oi (fun _=>.mk (fun h=>absurd rfl h)) (fun c1270=>?_)
  refine obT (T187) fun d=>?_
  exact .mk (fun _=>c1270)
 exact .mk trivial
theorem T147 {x1 a:Zs}:Ok (F147 x1 a) (fun _=>True):=by
 unfold F147
 refine obT (T148) fun b=>?_
 exact .mk trivial
theorem T146 {x1 b:Zs}:Ok (F146 x1 b) (fun _=>True):=by
 unfold F146
 refine obT (T187) fun c=>?_
 refine Ob (P:=fun r=>¬r=true->¬(decide (c<=0))=true) ?_ fun e a=>?_
 .refine Oi (fun _=>.mk (fun h=>absurd rfl h)) (fun c1275=>?_)
  refine obT (T187) fun d=>?_
  exact .mk (fun _=>c1275)
 exact .mk trivial
theorem T145 {x1 a:Zs}:Ok (F145 x1 a) (fun _=>True):=by
 unfold F145
 refine obT (T146) fun b=>?_
 exact .mk trivial
theorem T189 {x1 b:Zs}:Ok (F189 x1 b) (fun _=>True):=by
 unfold F189
 refine obT (T187) fun c=>?_
 refine Ob (P:=fun r=>r=true->(decide (c>=0))=true) ?_ fun e a=>?_
 .refine Oi (fun c1280=>?_) (fun _=>.mk (fun h=>by cases h))
  refine obT (T187) fun d=>?_
  exact .mk (fun _=>c1280)
 exact .mk trivial
theorem T149 {x1 b:Zs}:Ok (F149 x1 b) (fun _=>True):=by
 unfold F149
 refine obT (T146) fun c=>?_
 refine Ob (P:=fun r=>r=true->(!c)=true) ?_ fun f a=>?_
 .refine Oi (fun c1284=>?_) (fun _=>.mk (fun h=>by cases h))
  refine obT (T189) fun d=>?_
  refine obT (T189) fun e=>?_
  exact .mk (fun _=>c1284)
 exact .mk trivial
theorem T91 {x1 e:Zs}:Ok (F91 x1 e) (fun _=>True):=by
 unfold F91
 refine Ob T144 fun g hg=>?_
 refine Oi (fun _=>.mk trivial) (fun hc=>?_)
 have hk:=hg (by simpa using hc)
 rw[aV (n:=x1.Kind-1) (by omega) (by omega)]
 refine Oi (fun _=>Ob T147 fun _ _=>.mk trivial) (fun d=>?_)
 refine Oi (fun _=>Ob T145 fun _ _=>.mk trivial) (fun c=>?_)
 refine Oi (fun _=>Ob T147 fun _ _=>.mk trivial) (fun b=>?_)
 refine Oi (fun _=>Ob T147 fun _ _=>.mk trivial) (fun a=>?_)
 refine Oi (fun _=>Ob T145 fun _ _=>.mk trivial) (fun h2=>?_)
 refine Oi (fun _=>Ob T145 fun _ _=>.mk trivial) (fun h1=>?_)
 refine Oi (fun _=>Ob T149 fun _ _=>.mk trivial) (fun h0=>?_)
 simp only[beq_iff_eq]at h0 h1 h2 a b c d
 omega
theorem Tn43 {x1:List Zv} {n:Z0} {p:Int} (o:x1.length+10<=1000000) (c:n.sm):Ok (Fn43 x1 n p) (fun v=>x1.length<=v.length/\v.length<=x1.length+10):=by
 unfold Fn43
 have s:=c.Spanners
 refine Ob (Tn90 (by omega) c) fun⟨a,b⟩ g=>?_
 dsimp only at g
 refine Ob (P:=fun v=>x1.length<=v.length/\v.length<=x1.length+10) (aP (l:=n.Spanners) (fun q=>q.1) (fun i q=>x1.length<=q.2.length/\q.2.length<=x1.length+i) (by omega) rfl (by dsimp only;omega) (fun i e q u t hi hl f hg hw=>?_) (fun q hi f=>?_)) fun v hv=>.mk (by omega)
 .obtain ⟨x,l⟩:=q
  dsimp only at hi hl f hg hw
  simp only[hl,hg,nt]
  refine Ob (P:=fun _=>True) (fF (fun q=>q.2) x (fun _=>True) (by omega) (by dsimp only;omega) trivial (fun q _ h1 h2=>?_)) fun b _=>?_
  .obtain ⟨ex,k⟩:=q
   dsimp only at h1 h2 ⊢
   refine Ob (P:=fun r=>r=true->k<x) (Oi (fun hc=>?_) (fun _=>.mk (fun h=>by cases h))) fun b hb=>?_
   .simp only[decide_eq_true_eq]at hc
    exact Ob (bM (by omega) (by omega)) fun j d=>Ob (bR d.2) fun y _=>.mk (fun _=>hc)
   refine Oi (fun hc=>?_) (fun _=>.mk trivial)
   simp only[Bool.and_eq_true]at hc
   have hk:=hb hc.1
   refine Ob (bM (by omega) (by omega)) fun j d=>Ob (bR d.2) fun y _=>?_
   refine Ob (P:=fun _=>True) (Oi (fun _=>?_) (fun _=>.mk trivial)) fun b _=>.mk ⟨hk,h2 hk,trivial⟩
   exact Ob (bM (by omega) (by omega)) fun j d=>Ob (bR d.2) fun z _=>Ob (bM (by omega) (by omega)) fun w m=>Ob (bR m.2) fun A _=>Ob T91 fun b _=>.mk trivial
  exact Ob (Tn58 (by omega) c) fun v hv=>.mk ⟨hw,by dsimp only;omega⟩
 .obtain ⟨x,l⟩:=q
  dsimp only at hi f
  simp only[hi,nf]
  exact .mk (by omega)
theorem T92 {x1:Int} {a:Zm} (c:a.sm):Ok (F92 x1 a) (fun v=>v=false->a.RepeatEnd<=8):=by
 unfold F92
 simp only[E103,Option.bind_some]
 refine Ob (P:=fun r=>r=false->a.RepeatEnd<=8) (Oi (fun hc=>.mk (fun h=>?_)) (fun hc=>.mk (fun _=>?_))) fun b hb=>?_
 .simp at h;omega
 .simp at hc;omega
 exact Ob (P:=fun r=>r=false->a.RepeatEnd<=8) (Oi (fun hc=>.mk (fun h=>by cases h)) (fun hc=>.mk (fun _=>hb (by simpa using hc)))) fun b hb=>.mk hb
theorem Tn64_6 {x1:List Zv} {c:Z0} {r:Int} (o:x1.length+10<=1000000) (d:c.sm):Ok (Fn64_6 x1 c r) (fun v=>(x1.length<=v.length/\v.length<=x1.length+10)/\(v.length<=x1.length->∀m∈c.Measures,m.RepeatEnd<=8)):=by
 unfold Fn64_6
 have s:=d.Measures
 refine Ob (P:=fun v=>(x1.length<=v.length/\v.length<=x1.length+10)/\(v.length<=x1.length->∀m∈c.Measures,m.RepeatEnd<=8)) (aP (l:=c.Measures) (fun q=>q.1) (fun i q=>q.2.length<=x1.length+i/\x1.length<=q.2.length/\(q.2.length<=x1.length->∀j,j<i->∀m,c.Measures[j]? =some m->m.RepeatEnd<=8)) (by omega) rfl ⟨by dsimp only;omega,Nat.le_refl _,fun _ j g=>by omega⟩ (fun i e q p n hi hl f hg hw=>?_) (fun q hi f=>?_)) fun v hv=>.mk hv
 .obtain ⟨x,l⟩:=q
  dsimp only at hi hl f hg hw
  simp only[hl,hg,nt]
  refine Ob (T92 (d.MeasuresE e n)) fun b hb=>?_
  refine Ob (S101 (by omega)) fun v hv=>.mk ⟨hw,?_,?_,fun h j g m a=>?_⟩
  .dsimp only;cases b<;>simp at hv<;>omega
  .dsimp only;cases b<;>simp at hv<;>omega
  .dsimp only at h
   cases b with
   |true=>simp at hv;omega
   |false=>
    simp only[Bool.false_eq_true,false_implies,forall_const,true_and]at hv
    by_cases k:j=i
    .subst k;rw[p]at a;cases a;exact hb rfl
    .exact f.2.2 (by omega) j (by omega) m a
 .obtain ⟨x,l⟩:=q
  dsimp only at hi f
  simp only[hi,nf]
  refine .mk ⟨⟨by omega,by omega⟩,fun h m n=>?_⟩
  obtain⟨j,g⟩:=List.mem_iff_getElem?.1 n
  exact f.2.2 h j (List.getElem?_eq_some_iff.1 g).1 m g
theorem T207 {x1:Int}:Ok (F207 x1) (fun v=>0<=v/\v<=1000):=by
 unfold F207
 refine Ob (P:=fun v=>0<=v.2/\v.2<=32) (Oi (fun _=>Ob (nV (by decide)) fun n _=>.mk (by dsimp only;omega)) (fun _=>.mk (by dsimp only;omega))) fun⟨g,h⟩ c=>?_
 dsimp only at c
 refine Ob (P:=fun v=>0<=v.2/\v.2<=48) (Oi (fun _=>Ob (nV (by decide)) fun n _=>.mk (by dsimp only;rw[aV (by omega) (by omega)];omega)) (fun _=>.mk (by dsimp only;omega))) fun⟨i,j⟩ d=>?_
 dsimp only at d
 refine Ob (P:=fun v=>0<=v.2/\v.2<=56) (Oi (fun _=>Ob (nV (by decide)) fun n _=>.mk (by dsimp only;rw[aV (by omega) (by omega)];omega)) (fun _=>.mk (by dsimp only;omega))) fun⟨f,e⟩ a=>?_
 dsimp only at a
 have hw:=kA1 f
 refine Ob (nW hw.1 hw.2) fun b hb=>.mk ?_
 rw[aV (n:=b) (by omega) (by omega),aV (by omega) (by omega)]
 omega
theorem T190 {x1:Int}:Ok (F190 x1) (fun v=>0<=v/\v<=1000):=by
 unfold F190
 refine Ob (T207) fun b a=>?_
 exact .mk (by omega)
theorem T94 {x1:Zg} (c:x1.passes<=1000):Ok (F94 x1) (fun _=>True):=by
 unfold F94
 refine Ob (P:=fun r=>r=true->(decide (x1.passes>0))=true) ?_ fun e a=>?_
 .refine Oi (fun c1289=>?_) (fun _=>.mk (fun h=>by cases h))
  refine Ob (bM1 (by(simp only[nm]at *;rw[aV (by omega) (by omega)];omega))) fun d b=>?_
  exact .mk (fun _=>c1289)
 exact .mk trivial
theorem T150 {x1:Zg} {e:Zm} (w:e.sm) (F:x1.passes<=8) (hy:e.RepeatEnd<=8):Ok (F150 x1 e) (fun v=>v.1.passes<=8):=by
 unfold F150
 refine Oi (fun c1291=>?_) (fun c1291=>?_)
 .exact .mk (by omega)
 refine Oi (fun c1292=>?_) (fun c1292=>?_)
 .refine Oi (fun c1293=>?_) (fun c1293=>?_)
  .exact .mk (by omega)
  refine Ob (T190) fun u f=>?_
  refine Oi (fun c1295=>?_) (fun c1295=>?_)
  .refine Oi (fun c1296=>?_) (fun c1296=>?_)
   .exact .mk (by omega)
   refine Oi (fun c1297=>?_) (fun c1297=>?_)
   .refine obT (T94 (by(simp only[nm]at *;omega))) fun D=>?_
    refine Ob (P:=fun r=>¬r=true->¬(D||((x1.passes !=0)&&(e.RepeatEnd !=x1.passes)))=true) ?_ fun H a=>?_
    .refine Oi (fun _=>.mk (fun h=>absurd rfl h)) (fun c1300=>?_)
     refine Ob (T190) fun G g=>?_
     exact .mk (fun _=>c1300)
    refine Oi (fun c1302=>?_) (fun c1302=>?_)
    .exact .mk (by omega)
    have n:=a c1302
    exact .mk (by omega)
   exact .mk (by omega)
  refine Ob (P:=fun r=>¬r=true->¬(decide ((w64 (u-1))>=x1.passes))=true) ?_ fun y b=>?_
  .refine Oi (fun _=>.mk (fun h=>absurd rfl h)) (fun c1305=>?_)
   refine Ob (P:=fun r=>r=true->((w64 (u-1))==(w64 (x1.passes-1)))=true) ?_ fun x i=>?_
   .refine Oi (fun c1307=>?_) (fun _=>.mk (fun h=>by cases h))
    refine obT (T94 (by(simp only[nm]at *;omega))) fun E=>?_
    refine Ob (P:=fun r=>¬r=true->¬(!E)=true) ?_ fun K j=>?_
    .refine Oi (fun _=>.mk (fun h=>absurd rfl h)) (fun c1310=>?_)
     refine Ob (bM1 (by(simp(disch:=omega) only[aV,nm]at *;omega))) fun J k=>?_
     exact .mk (fun _=>c1310)
    exact .mk (fun _=>c1307)
   exact .mk (fun _=>c1305)
  refine Oi (fun c1312=>?_) (fun c1312=>?_)
  .exact .mk (by omega)
  have o:=b c1312
  refine Oi (fun c1314=>?_) (fun c1314=>?_)
  .refine obT (T94 (by(simp only[nm]at *;omega))) fun s=>?_
   refine Ob (P:=fun r=>¬r=true->¬(s||((x1.passes !=0)&&(e.RepeatEnd !=x1.passes)))=true) ?_ fun A c=>?_
   .refine Oi (fun _=>.mk (fun h=>absurd rfl h)) (fun c1317=>?_)
    refine Ob (T190) fun z l=>?_
    exact .mk (fun _=>c1317)
   refine Oi (fun c1319=>?_) (fun c1319=>?_)
   .exact .mk (by omega)
   have p:=c c1319
   exact .mk (by omega)
  exact .mk (by omega)
 refine Oi (fun c1321=>?_) (fun c1321=>?_)
 .exact .mk (by omega)
 refine Oi (fun c1322=>?_) (fun c1322=>?_)
 .refine obT (T94 (by omega)) fun t=>?_
  refine Ob (P:=fun r=>¬r=true->¬(t||((x1.passes !=0)&&(e.RepeatEnd !=x1.passes)))=true) ?_ fun C d=>?_
  .refine Oi (fun _=>.mk (fun h=>absurd rfl h)) (fun c1325=>?_)
   refine Ob (T190) fun B m=>?_
   exact .mk (fun _=>c1325)
  refine Oi (fun c1327=>?_) (fun c1327=>?_)
  .exact .mk (by omega)
  have q:=d c1327
  exact .mk (by omega)
 exact .mk (by omega)
theorem T93 {x1:Zg} {e:Zm} (d:e.sm) (c:x1.passes<=8) (hy:e.RepeatEnd<=8):Ok (F93 x1 e) (fun v=>v.1.passes<=8):=by
 unfold F93
 refine Oi (fun _=>Ob (T150 d c hy) fun⟨a,b⟩ h=>.mk h) (fun _=>?_)
 refine Oi (fun _=>?_) (fun _=>?_)
 .refine Ob (T94 (by omega)) fun f _=>?_
  refine Oi (fun _=>.mk c) (fun _=>?_)
  refine Oi (fun _=>Oi (fun h=>by cases h) (fun _=>?_)) (fun _=>?_)
  .exact Ob (P:=fun _=>True) (Oi (fun _=>.mk trivial) (fun _=>.mk trivial)) fun⟨a,b⟩ _=>.mk (show(0:Int)<=8 by decide)
  .exact Ob (P:=fun _=>True) (Oi (fun _=>.mk trivial) (fun _=>.mk trivial)) fun a _=>.mk (show(0:Int)<=8 by decide)
 .refine Oi (fun _=>Oi (fun _=>.mk c) (fun _=>?_)) (fun _=>?_)
  .exact Ob (P:=fun _=>True) (Oi (fun _=>.mk trivial) (fun _=>.mk trivial)) fun⟨a,b⟩ _=>.mk (show(0:Int)<=8 by decide)
  .exact Ob (P:=fun g=>g.passes<=8) (Oi (fun _=>.mk (show(0:Int)<=8 by decide)) (fun _=>.mk c)) fun g hg=>.mk hg
theorem Tn44 {x1:List Zv} {f:Z0} {t:Int} (m:x1.length+21<=1000000) (c:f.sm) (s:0<f.Measures.length):Ok (Fn44 x1 f t) (fun v=>x1.length<=v.length/\v.length<=x1.length+21):=by
 unfold Fn44
 have u:=c.Measures
 refine Ob (Tn64_6 (by omega) c) fun k h=>?_
 refine Oi (fun _=>.mk (by omega)) (fun hc=>?_)
 simp only[decide_eq_true_eq]at hc
 have o:=h.2 (by omega)
 have n:=h.1
 refine Ob (P:=fun r=>match r with|.inl p=>k.length<=p.2.length/\p.2.length<=k.length+1|.inr g=>g.passes<=8) (aP (l:=f.Measures) (fun q=>q.1) (fun i q=>q.2.passes<=8) (by omega) rfl (show(0:Int)<=8 by decide) (fun i e q s j hi hl d hg hw=>?_) (fun q hi d=>?_)) fun r hr=>?_
 .obtain ⟨x,g⟩:=q
  dsimp only at hi hl d hg hw
  simp only[hl,hg,nt]
  refine Ob (T93 (c.MeasuresE e j) d (o e j)) fun⟨g2,b⟩ hb=>?_
  refine Oi (fun _=>?_) (fun _=>.mk ⟨hw,hb⟩)
  exact Ob (Tn58 (by omega) c) fun v hv=>.mk (by dsimp only;omega)
 .obtain ⟨x,g⟩:=q
  dsimp only at hi d
  simp only[hi,nf]
  exact .mk d
 rcases r with⟨a,v⟩|g
 .exact .mk (by dsimp only at hr;omega)
 dsimp only at hr
 refine Ob (P:=fun _=>True) (Oi (fun _=>.mk trivial) (fun _=>?_)) fun b _=>?_
 .exact Ob (P:=fun _=>True) (Oi (fun _=>Ob (T94 (by omega)) fun _ _=>.mk trivial) (fun _=>.mk trivial)) fun _ _=>.mk trivial
 refine Ob (bC (Q:=fun _=>True) (by rw[aV (by omega) (by omega)];omega) (by rw[aV (by omega) (by omega)];omega) (fun _ _ _=>trivial)) fun y _=>?_
 exact Ob (Tn58 (by omega) c) fun v hv=>.mk (by omega)
theorem T96 {x1 a:Zm} (b:x1.sm) (c:a.sm):Ok (F96 x1 a) (fun _=>True):=by
 unfold F96
 exact .mk trivial
theorem T110 {x1:List Zm} {n:Zm} (g:x1.length<=10) (h:∀y∈x1,y.sm) (k:n.sm):Ok (F110 x1 n) (fun _=>True):=by
 unfold F110
 have i:=g
 refine lpT (l:=x1) (fun q=>q) (Nat.lt_of_le_of_lt g (by decide)) rfl (fun m j o d a c b e=>?_) (fun o a=>?_) fun p=>?_
 .simp only[c,b,nt]
  have f:=h _ d
  refine obT (T96 f k) fun r=>?_
  refine Oi (fun c1342=>?_) (fun c1342=>?_)
  .exact .mk trivial
  exact .mk e
 .simp only[a,nf]
  exact .mk trivial
 rcases p with s|_
 .exact .mk trivial
 .exact .mk trivial
theorem T56 {x1:List Zm} {d:Zm} (b:x1.length<=10) (a:∀y∈x1,y.sm) (c:d.sm):Ok (F56 x1 d) (fun _=>True):=by
 unfold F56
 refine obT (T110 b a c) fun e=>?_
 exact .mk trivial
theorem T191 {x1:Zm} {b:Int} (a:x1.sm):Ok (F191 x1 b) (fun _=>True):=by
 unfold F191
 exact .mk trivial
theorem T110_2 {x1:List Zm} {m:Int} (g:x1.length<=10) (h:∀y∈x1,y.sm):Ok (F110_2 x1 m) (fun _=>True):=by
 unfold F110_2
 have i:=g
 refine lpT (l:=x1) (fun q=>q) (Nat.lt_of_le_of_lt g (by decide)) rfl (fun k j n d a c b e=>?_) (fun n a=>?_) fun o=>?_
 .simp only[c,b,nt]
  have f:=h _ d
  refine obT (T191 f) fun p=>?_
  refine Oi (fun c1357=>?_) (fun c1357=>?_)
  .exact .mk trivial
  exact .mk e
 .simp only[a,nf]
  exact .mk trivial
 rcases o with r|_
 .exact .mk trivial
 .exact .mk trivial
theorem T152 {x1:Zk} {b:Int} (a:x1.s'.sm):Ok (F152 x1 b) (fun _=>True):=by
 unfold F152
 refine obT (T110_2 a.Measures a.MeasuresE) fun c=>?_
 exact .mk trivial
theorem T151 {x1:Int} {b:Zk} {c:Int} (a:b.s'.sm):Ok (F151 x1 b c) (fun _=>True):=by
 unfold F151
 refine obT (T152 a) fun d=>?_
 refine obT (T60) fun e=>?_
 exact .mk trivial
theorem T97 {x1:Zk} {e j:Int} (a:x1.s'.sm):Ok (F97 x1 e j) (fun _=>True):=by
 unfold F97
 refine Ob (P:=fun r=>r=true->(decide (e>=4))=true) ?_ fun m b=>?_
 .refine Oi (fun c1362=>?_) (fun _=>.mk (fun h=>by cases h))
  refine obT (T151 a) fun l=>?_
  exact .mk (fun _=>c1362)
 refine Oi (fun c1364=>?_) (fun c1364=>?_)
 .have d:=b c1364
  exact .mk trivial
 refine obT ?_ fun n=>?_
 .refine Oi (fun c1367=>?_) (fun c1367=>?_)
  .exact .mk trivial
  exact .mk trivial
 refine Oi (fun c1368=>?_) (fun c1368=>?_)
 .refine obT (T151 a) fun o=>?_
  exact .mk trivial
 refine obT ?_ fun p=>?_
 .refine Oi (fun c1371=>?_) (fun c1371=>?_)
  .exact .mk trivial
  exact .mk trivial
 refine Oi (fun c1372=>?_) (fun c1372=>?_)
 .refine obT (T151 a) fun k=>?_
  refine Ob (P:=fun r=>r=true->k=true) ?_ fun i c=>?_
  .refine Oi (fun c1375=>?_) (fun _=>.mk (fun h=>by cases h))
   refine obT (T152 a) fun f=>?_
   refine obT (T152 a) fun g=>?_
   exact .mk (fun _=>c1375)
  exact .mk trivial
 exact .mk trivial
theorem T95 {x1:Int} {g:Zm} {e:Zk} (d:g.sm) (a:e.s'.sm) (f:0<=x1/\x1<=(e.s'.Measures.length:Int)):Ok (F95 x1 g e) (fun _=>True):=by
 unfold F95
 refine Ob T60 fun w _=>?_
 refine Ob (P:=fun _=>True) (Oi (fun _=>.mk trivial) (fun _=>Ob T60 fun _ _=>.mk trivial)) fun b _=>?_
 refine Oi (fun _=>.mk trivial) (fun _=>?_)
 refine Ob (tL (by decide) f.1 f.2) fun l hl=>?_
 refine Ob (T56 (Nat.le_trans hl.1 a.Measures) (fun y hy=>a.MeasuresE y (hl.2 y hy)) d) fun c _=>?_
 exact Ob (P:=fun _=>True) (Oi (fun _=>.mk trivial) (fun _=>Ob (T97 a) fun _ _=>.mk trivial)) fun b _=>.mk trivial
theorem Tn64_7 {x1:List Zv} {p:Z0} {y:Int} (t:x1.length+10<=1000000) (f:p.sm):Ok (Fn64_7 x1 p y) (fun v=>x1.length<=v.length/\v.length<=x1.length+10):=by
 unfold Fn64_7
 have j:=f.Measures
 refine Ob (P:=fun r=>x1.length<=r.length/\r.length<=x1.length+10) (aP (l:=p.Measures) (fun q=>q.1) (fun i q=>x1.length<=q.2.length/\q.2.length<=x1.length+i*1) (Nat.lt_of_le_of_lt f.Measures (by decide)) rfl (by dsimp only;omega) (fun o m q1389 k g a d b c e=>?_) (fun q1389 a b=>?_)) fun x s=>?_
 .obtain ⟨z,A⟩:=q1389
  dsimp only at a d c e b
  simp only[d,c,nt]
  have h:=f.MeasuresE _ g
  refine obT (T95 h f (by(simp only[nm]at *;omega))) fun u=>?_
  refine Ob (Tn58 (by first|omega|(simp only[List.length_nil]at *;omega)) f) fun w n=>?_
  exact .mk ⟨e,by dsimp only;omega⟩
 .obtain ⟨z,A⟩:=q1389
  dsimp only at a b
  simp only[a,nf]
  exact .mk (by dsimp only;omega)
 exact .mk (by omega)
theorem Tn45 {x1:List Zv} {c:Z0} {e:Int} (d:x1.length+10<=1000000) (b:c.sm):Ok (Fn45 x1 c e) (fun v=>x1.length<=v.length/\v.length<=x1.length+10):=by
 unfold Fn45
 refine Ob (Tn64_7 (by first|omega|(simp only[List.length_nil]at *;omega)) b) fun f a=>?_
 exact .mk (by omega)
theorem T98 {x1:Int} {m:Zm} (f:m.sm):Ok (F98 x1 m) (fun _=>True):=by
 unfold F98
 refine obT (T68 f) fun⟨M,N⟩=>?_
 refine Ob (P:=fun r=>r=true->(m.Swing !=0)=true) ?_ fun L u=>?_
 .refine Oi (fun c1397=>?_) (fun _=>.mk (fun h=>by cases h))
  refine obT (T60) fun O=>?_
  exact .mk (fun _=>c1397)
 refine Ob (P:=fun r=>¬r=true->¬L=true) ?_ fun S v=>?_
 .refine Oi (fun _=>.mk (fun h=>absurd rfl h)) (fun c1400=>?_)
  refine obT (T60) fun R=>?_
  exact .mk (fun _=>c1400)
 have p:=f.Tempi
 refine lpT (l:=m.Tempi) (fun q=>q.2) (Nat.lt_of_le_of_lt f.Tempi (by decide)) rfl (fun z t q1412 n a c b d=>?_) (fun q1412 a=>?_) fun K=>?_
 .obtain ⟨j,k⟩:=q1412
  dsimp only at a c b d
  simp only[c,b,nt]
  refine Ob (P:=fun r=>¬r=true->¬j=true) ?_ fun C e=>?_
  .refine Oi (fun _=>.mk (fun h=>absurd rfl h)) (fun c1415=>?_)
   refine obT (T60) fun E=>?_
   exact .mk (fun _=>c1415)
  refine Ob (P:=fun r=>¬r=true->¬C=true) ?_ fun D g=>?_
  .refine Oi (fun _=>.mk (fun h=>absurd rfl h)) (fun c1418=>?_)
   have A:=e c1418
   refine obT (T60) fun F=>?_
   exact .mk (fun _=>c1418)
  refine Ob (P:=fun r=>¬r=true->¬D=true) ?_ fun J w=>?_
  .refine Oi (fun _=>.mk (fun h=>absurd rfl h)) (fun c1422=>?_)
   have i:=g c1422
   have B:=e i
   refine Ob (P:=fun r=>r=true->(decide (k>0))=true) ?_ fun H y=>?_
   .refine Oi (fun c1426=>?_) (fun _=>.mk (fun h=>by cases h))
    have s:=f.Tempi
    refine Ob (P:=fun x=>x∈m.Tempi) (bC (by(simp only[nm]at *;rw[aV (by omega) (by omega)];omega)) (by(simp only[nm]at *;rw[aV (by omega) (by omega)];omega)) (fun _ h _=>h)) fun G o=>?_
    exact .mk (fun _=>c1426)
   exact .mk (fun _=>c1422)
  exact .mk d
 .obtain ⟨j,k⟩:=q1412
  dsimp only at a
  simp only[a,nf]
  exact .mk trivial
 exact .mk trivial
theorem Tn64_8 {x1:List Zv} {p:Z0} {y:Int} (t:x1.length+10<=1000000) (f:p.sm):Ok (Fn64_8 x1 p y) (fun v=>x1.length<=v.length/\v.length<=x1.length+10):=by
 unfold Fn64_8
 have j:=f.Measures
 refine Ob (P:=fun r=>x1.length<=r.length/\r.length<=x1.length+10) (aP (l:=p.Measures) (fun q=>q.1) (fun i q=>x1.length<=q.2.length/\q.2.length<=x1.length+i*1) (Nat.lt_of_le_of_lt f.Measures (by decide)) rfl (by dsimp only;omega) (fun o m q1441 k g a d b c e=>?_) (fun q1441 a b=>?_)) fun x s=>?_
 .obtain ⟨z,A⟩:=q1441
  dsimp only at a d c e b
  simp only[d,c,nt]
  have h:=f.MeasuresE _ g
  refine obT (T98 h) fun u=>?_
  refine Ob (Tn58 (by first|omega|(simp only[List.length_nil]at *;omega)) f) fun w n=>?_
  exact .mk ⟨e,by dsimp only;omega⟩
 .obtain ⟨z,A⟩:=q1441
  dsimp only at a b
  simp only[a,nf]
  exact .mk (by dsimp only;omega)
 exact .mk (by omega)
theorem Tn46 {x1:List Zv} {c:Z0} {e:Int} (d:x1.length+10<=1000000) (b:c.sm):Ok (Fn46 x1 c e) (fun v=>x1.length<=v.length/\v.length<=x1.length+10):=by
 unfold Fn46
 refine Ob (Tn64_8 (by first|omega|(simp only[List.length_nil]at *;omega)) b) fun f a=>?_
 exact .mk (by omega)
theorem T99 {x1:Zp} {e:Ze} {g:Zk} (a:e.sm) (c:g.s'.sm):Ok (F99 x1 e g) (fun _=>True):=by
 unfold F99
 refine Ob (T85 c) fun⟨q,f⟩ d=>?_
 dsimp only at d
 refine Ob (P:=fun r=>¬r=true->f=true) (Oi (fun _=>.mk (fun h=>absurd rfl h)) (fun hc=>Ob (T84 a) fun t _=>.mk (fun _=>by simpa using hc))) fun b hb=>?_
 refine Oi (fun _=>.mk trivial) (fun hc=>?_)
 simp only[Bool.or_eq_true,not_or]at hc
 have:=d (hb hc.1)
 exact Ob (bC (Q:=fun _=>True) this.1 this.2.1 (fun _ _ _=>trivial)) fun x _=>Ob (bC (Q:=fun _=>True) this.2.2.1 this.2.2.2 (fun _ _ _=>trivial)) fun y _=>.mk trivial
theorem Tn73_5 {x1:List Zv} {x2:Z0} {x3:Int} (e2:x1.length+3000<=1000000) (C:x2.sm):Ok (Fn73_5 x1 x2 x3) (fun v=>x1.length<=v.length/\v.length<=x1.length+3000):=by
 unfold Fn73_5
 have T:=C.Measures
 refine Ob (P:=fun r=>x1.length<=r.length/\r.length<=x1.length+3000) (aP (l:=x2.Measures) (fun q=>q.1) (fun i q=>x1.length<=q.2.length/\q.2.length<=x1.length+i*300) (Nat.lt_of_le_of_lt C.Measures (by decide)) rfl (by dsimp only;omega) (fun b5 L q1458 X G c t g a y=>?_) (fun q1458 c g=>?_)) fun e1 d2=>?_
 .obtain ⟨b9,D⟩:=q1458
  dsimp only at c t a y g
  simp only[t,a,nt]
  have n:=C.MeasuresE _ G
  have U:=n.Cells
  refine Ob (P:=fun r=>D.length<=r.length/\r.length<=D.length+300) (aP (l:=L.Cells) (fun q=>q.1) (fun i q=>D.length<=q.2.length/\q.2.length<=D.length+i*60) (Nat.lt_of_le_of_lt n.Cells (by decide)) rfl (by dsimp only;omega) (fun b6 M q1472 Y H d u h b z=>?_) (fun q1472 d h=>?_)) fun e0 d3=>?_
  .obtain ⟨d0,E⟩:=q1472
   dsimp only at d u b z h
   simp only[u,a,b,nt]
   have o:=n.CellsE _ H
   have V:=o.Voices
   refine Ob (P:=fun r=>E.length<=r.length/\r.length<=E.length+60) (aP (l:=M.Voices) (fun q=>q.1) (fun i q=>E.length<=q.2.length/\q.2.length<=E.length+i*20) (Nat.lt_of_le_of_lt o.Voices (by decide)) rfl (by dsimp only;omega) (fun b7 N q1486 Z J e w j m A=>?_) (fun q1486 e j=>?_)) fun d9 d4=>?_
   .obtain ⟨d1,F⟩:=q1486
    dsimp only at e w m A j
    simp only[w,a,b,m,nt]
    have p:=o.VoicesE _ J
    have W:=p.Events
    refine Ob (P:=fun r=>F.length<=r.length/\r.length<=F.length+20) (aP (l:=N.Events) (fun q=>q.1) (fun i q=>F.length<=q.2.length/\q.2.length<=F.length+i*1) (Nat.lt_of_le_of_lt p.Events (by decide)) rfl (by dsimp only;omega) (fun b8 b0 q1500 a0 K f x k s B=>?_) (fun q1500 f k=>?_)) fun d8 d5=>?_
    .obtain ⟨R,S⟩:=q1500
     dsimp only at f x s B k
     simp only[x,a,b,m,s,nt]
     have O:=p.EventsE _ K
     refine obT (T99 O C) fun d6=>?_
     refine Ob (Tn58 (by first|omega|(simp only[List.length_nil]at *;omega)) C) fun d7 b4=>?_
     exact .mk ⟨B,by dsimp only;omega⟩
    .obtain ⟨R,S⟩:=q1500
     dsimp only at f k
     simp only[f,nf]
     exact .mk (by dsimp only;omega)
    exact .mk ⟨A,by dsimp only;omega⟩
   .obtain ⟨d1,F⟩:=q1486
    dsimp only at e j
    simp only[e,nf]
    exact .mk (by dsimp only;omega)
   exact .mk ⟨z,by dsimp only;omega⟩
  .obtain ⟨d0,E⟩:=q1472
   dsimp only at d h
   simp only[d,nf]
   exact .mk (by dsimp only;omega)
  exact .mk ⟨y,by dsimp only;omega⟩
 .obtain ⟨b9,D⟩:=q1458
  dsimp only at c g
  simp only[c,nf]
  exact .mk (by dsimp only;omega)
 exact .mk (by omega)
theorem Tn47 {x1:List Zv} {c:Z0} {e:Int} (d:x1.length+3000<=1000000) (b:c.sm):Ok (Fn47 x1 c e) (fun v=>x1.length<=v.length/\v.length<=x1.length+3000):=by
 unfold Fn47
 refine Ob (Tn73_5 (by first|omega|(simp only[List.length_nil]at *;omega)) b) fun f a=>?_
 exact .mk (by omega)
theorem T24 {x1:Z0} (a:x1.sm) (hx:0<x1.Measures.length):Ok (F24 x1) (fun _=>True):=by
 unfold F24
 refine Ob (P:=fun r=>r=true->(decide ((([]:List Zv).length:Int)>0))=true) ?_ fun x6 b=>?_
 .refine Oi (fun c1507=>?_) (fun _=>.mk (fun h=>by cases h))
  refine Ob (P:=fun r=>¬r=true->¬false=true) ?_ fun x5 u=>?_
  .refine Oi (fun _=>.mk (fun h=>absurd rfl h)) (fun c1509=>?_)
   refine Ob (P:=fun r=>r=true->false=true) ?_ fun x4 v=>?_
   .refine Oi (fun c1511=>?_) (fun _=>.mk (fun h=>by cases h))
    refine Ob (bM (by omega) (by(simp only[nm]at *;omega))) fun x2 w=>?_
    refine Ob (bR (by omega)) fun x3 x=>?_
    exact .mk (fun _=>c1511)
   exact .mk (fun _=>c1509)
  exact .mk (fun _=>c1507)
 refine Oi (fun c1514=>?_) (fun c1514=>?_)
 .have i2:=b c1514
  exact .mk trivial
 refine Ob (Tn31 (by first|omega|(simp only[List.length_nil]at *;omega)) a) fun x7 y=>?_
 refine Ob (P:=fun r=>r=true->(decide ((x7.length:Int)>0))=true) ?_ fun m1 c=>?_
 .refine Oi (fun c1518=>?_) (fun _=>.mk (fun h=>by cases h))
  refine Ob (P:=fun r=>¬r=true->¬true=true) ?_ fun m0 z=>?_
  .refine Oi (fun _=>.mk (fun h=>absurd rfl h)) (fun c1520=>?_)
   refine Ob (P:=fun r=>r=true->false=true) ?_ fun l9 A=>?_
   .refine Oi (fun c1522=>?_) (fun _=>.mk (fun h=>by cases h))
    refine Ob (bM (by omega) (by(simp only[nm]at *;omega))) fun x8 B=>?_
    refine Ob (bR (by omega)) fun x9 C=>?_
    exact .mk (fun _=>c1522)
   exact .mk (fun _=>c1520)
  exact .mk (fun _=>c1518)
 refine Oi (fun c1525=>?_) (fun c1525=>?_)
 .have i3:=c c1525
  exact .mk trivial
 refine Ob (Tn32 (by first|omega|(simp only[List.length_nil]at *;omega)) a) fun k0 D=>?_
 refine Ob (P:=fun r=>r=true->(decide ((k0.length:Int)>0))=true) ?_ fun m6 d=>?_
 .refine Oi (fun c1529=>?_) (fun _=>.mk (fun h=>by cases h))
  refine Ob (P:=fun r=>¬r=true->¬false=true) ?_ fun m5 E=>?_
  .refine Oi (fun _=>.mk (fun h=>absurd rfl h)) (fun c1531=>?_)
   refine Ob (P:=fun r=>r=true->false=true) ?_ fun m4 F=>?_
   .refine Oi (fun c1533=>?_) (fun _=>.mk (fun h=>by cases h))
    refine Ob (bM (by omega) (by(simp only[nm]at *;omega))) fun m2 G=>?_
    refine Ob (bR (by omega)) fun m3 H=>?_
    exact .mk (fun _=>c1533)
   exact .mk (fun _=>c1531)
  exact .mk (fun _=>c1529)
 refine Oi (fun c1536=>?_) (fun c1536=>?_)
 .have i4:=d c1536
  exact .mk trivial
 refine Ob (Tn33 (by first|omega|(simp only[List.length_nil]at *;omega)) a) fun k1 J=>?_
 refine Ob (P:=fun r=>r=true->(decide ((k1.length:Int)>0))=true) ?_ fun n2 e=>?_
 .refine Oi (fun c1540=>?_) (fun _=>.mk (fun h=>by cases h))
  refine Ob (P:=fun r=>¬r=true->¬false=true) ?_ fun n1 K=>?_
  .refine Oi (fun _=>.mk (fun h=>absurd rfl h)) (fun c1542=>?_)
   refine Ob (P:=fun r=>r=true->false=true) ?_ fun m9 L=>?_
   .refine Oi (fun c1544=>?_) (fun _=>.mk (fun h=>by cases h))
    refine Ob (bM (by omega) (by(simp only[nm]at *;omega))) fun m7 M=>?_
    refine Ob (bR (by omega)) fun m8 N=>?_
    exact .mk (fun _=>c1544)
   exact .mk (fun _=>c1542)
  exact .mk (fun _=>c1540)
 refine Oi (fun c1547=>?_) (fun c1547=>?_)
 .have i5:=e c1547
  exact .mk trivial
 refine Ob (Tn34 (by first|omega|(simp only[List.length_nil]at *;omega)) a) fun k2 O=>?_
 refine Ob (P:=fun r=>r=true->(decide ((k2.length:Int)>0))=true) ?_ fun n7 f=>?_
 .refine Oi (fun c1551=>?_) (fun _=>.mk (fun h=>by cases h))
  refine Ob (P:=fun r=>¬r=true->¬false=true) ?_ fun n6 R=>?_
  .refine Oi (fun _=>.mk (fun h=>absurd rfl h)) (fun c1553=>?_)
   refine Ob (P:=fun r=>r=true->false=true) ?_ fun n5 S=>?_
   .refine Oi (fun c1555=>?_) (fun _=>.mk (fun h=>by cases h))
    refine Ob (bM (by omega) (by(simp only[nm]at *;omega))) fun n3 T=>?_
    refine Ob (bR (by omega)) fun n4 U=>?_
    exact .mk (fun _=>c1555)
   exact .mk (fun _=>c1553)
  exact .mk (fun _=>c1551)
 refine Oi (fun c1558=>?_) (fun c1558=>?_)
 .have i6:=f c1558
  exact .mk trivial
 refine Ob (Tn35 (by first|omega|(simp only[List.length_nil]at *;omega)) a) fun k3 V=>?_
 refine Ob (P:=fun r=>r=true->(decide ((k3.length:Int)>0))=true) ?_ fun r2 g=>?_
 .refine Oi (fun c1562=>?_) (fun _=>.mk (fun h=>by cases h))
  refine Ob (P:=fun r=>¬r=true->¬false=true) ?_ fun r1 W=>?_
  .refine Oi (fun _=>.mk (fun h=>absurd rfl h)) (fun c1564=>?_)
   refine Ob (P:=fun r=>r=true->false=true) ?_ fun r0 X=>?_
   .refine Oi (fun c1566=>?_) (fun _=>.mk (fun h=>by cases h))
    refine Ob (bM (by omega) (by(simp only[nm]at *;omega))) fun n8 Y=>?_
    refine Ob (bR (by omega)) fun n9 Z=>?_
    exact .mk (fun _=>c1566)
   exact .mk (fun _=>c1564)
  exact .mk (fun _=>c1562)
 refine Oi (fun c1569=>?_) (fun c1569=>?_)
 .have i7:=g c1569
  exact .mk trivial
 refine Ob (Tn36 (by first|omega|(simp only[List.length_nil]at *;omega)) a) fun k4 a0=>?_
 refine Ob (P:=fun r=>r=true->(decide ((k4.length:Int)>0))=true) ?_ fun r8 i=>?_
 .refine Oi (fun c1573=>?_) (fun _=>.mk (fun h=>by cases h))
  refine Ob (P:=fun r=>¬r=true->¬false=true) ?_ fun r7 b0=>?_
  .refine Oi (fun _=>.mk (fun h=>absurd rfl h)) (fun c1575=>?_)
   refine Ob (P:=fun r=>r=true->false=true) ?_ fun r6 b4=>?_
   .refine Oi (fun c1577=>?_) (fun _=>.mk (fun h=>by cases h))
    refine Ob (bM (by omega) (by(simp only[nm]at *;omega))) fun r4 b5=>?_
    refine Ob (bR (by omega)) fun r5 b6=>?_
    exact .mk (fun _=>c1577)
   exact .mk (fun _=>c1575)
  exact .mk (fun _=>c1573)
 refine Oi (fun c1580=>?_) (fun c1580=>?_)
 .have i9:=i c1580
  exact .mk trivial
 refine Ob (Tn37 (by first|omega|(simp only[List.length_nil]at *;omega)) a) fun k5 b7=>?_
 refine Ob (P:=fun r=>r=true->(decide ((k5.length:Int)>0))=true) ?_ fun s4 j=>?_
 .refine Oi (fun c1584=>?_) (fun _=>.mk (fun h=>by cases h))
  refine Ob (P:=fun r=>¬r=true->¬false=true) ?_ fun s3 b8=>?_
  .refine Oi (fun _=>.mk (fun h=>absurd rfl h)) (fun c1586=>?_)
   refine Ob (P:=fun r=>r=true->false=true) ?_ fun s2 b9=>?_
   .refine Oi (fun c1588=>?_) (fun _=>.mk (fun h=>by cases h))
    refine Ob (bM (by omega) (by(simp only[nm]at *;omega))) fun s0 d0=>?_
    refine Ob (bR (by omega)) fun s1 d1=>?_
    exact .mk (fun _=>c1588)
   exact .mk (fun _=>c1586)
  exact .mk (fun _=>c1584)
 refine Oi (fun c1591=>?_) (fun c1591=>?_)
 .have j0:=j c1591
  exact .mk trivial
 refine Ob (Tn38 (by first|omega|(simp only[List.length_nil]at *;omega)) a) fun k6 d2=>?_
 refine Ob (P:=fun r=>r=true->(decide ((k6.length:Int)>0))=true) ?_ fun s9 k=>?_
 .refine Oi (fun c1595=>?_) (fun _=>.mk (fun h=>by cases h))
  refine Ob (P:=fun r=>¬r=true->¬false=true) ?_ fun s8 d3=>?_
  .refine Oi (fun _=>.mk (fun h=>absurd rfl h)) (fun c1597=>?_)
   refine Ob (P:=fun r=>r=true->false=true) ?_ fun s7 d4=>?_
   .refine Oi (fun c1599=>?_) (fun _=>.mk (fun h=>by cases h))
    refine Ob (bM (by omega) (by(simp only[nm]at *;omega))) fun s5 d5=>?_
    refine Ob (bR (by omega)) fun s6 d6=>?_
    exact .mk (fun _=>c1599)
   exact .mk (fun _=>c1597)
  exact .mk (fun _=>c1595)
 refine Oi (fun c1602=>?_) (fun c1602=>?_)
 .have j1:=k c1602
  exact .mk trivial
 refine Ob (Tn39 (by first|omega|(simp only[List.length_nil]at *;omega)) a) fun k7 d7=>?_
 refine Ob (P:=fun r=>r=true->(decide ((k7.length:Int)>0))=true) ?_ fun t4 l=>?_
 .refine Oi (fun c1606=>?_) (fun _=>.mk (fun h=>by cases h))
  refine Ob (P:=fun r=>¬r=true->¬false=true) ?_ fun t3 d8=>?_
  .refine Oi (fun _=>.mk (fun h=>absurd rfl h)) (fun c1608=>?_)
   refine Ob (P:=fun r=>r=true->true=true) ?_ fun t2 d9=>?_
   .refine Oi (fun c1610=>?_) (fun _=>.mk (fun h=>by cases h))
    refine Ob (bM (by omega) (by(simp only[nm]at *;omega))) fun t0 e0=>?_
    refine Ob (bR (by omega)) fun t1 e1=>?_
    exact .mk (fun _=>c1610)
   exact .mk (fun _=>c1608)
  exact .mk (fun _=>c1606)
 refine Oi (fun c1613=>?_) (fun c1613=>?_)
 .have j2:=l c1613
  exact .mk trivial
 refine Ob (Tn40 (by first|omega|(simp only[List.length_nil]at *;omega)) a) fun k8 e2=>?_
 refine Ob (P:=fun r=>r=true->(decide ((k8.length:Int)>0))=true) ?_ fun u0 m=>?_
 .refine Oi (fun c1617=>?_) (fun _=>.mk (fun h=>by cases h))
  refine Ob (P:=fun r=>¬r=true->¬false=true) ?_ fun t9 e3=>?_
  .refine Oi (fun _=>.mk (fun h=>absurd rfl h)) (fun c1619=>?_)
   refine Ob (P:=fun r=>r=true->true=true) ?_ fun t8 e4=>?_
   .refine Oi (fun c1621=>?_) (fun _=>.mk (fun h=>by cases h))
    refine Ob (bM (by omega) (by(simp only[nm]at *;omega))) fun t6 e5=>?_
    refine Ob (bR (by omega)) fun t7 e6=>?_
    exact .mk (fun _=>c1621)
   exact .mk (fun _=>c1619)
  exact .mk (fun _=>c1617)
 refine Oi (fun c1624=>?_) (fun c1624=>?_)
 .have j3:=m c1624
  exact .mk trivial
 refine Ob (Tn41 (by first|omega|(simp only[List.length_nil]at *;omega)) a) fun k9 e7=>?_
 refine Ob (P:=fun r=>r=true->(decide ((k9.length:Int)>0))=true) ?_ fun u5 n=>?_
 .refine Oi (fun c1628=>?_) (fun _=>.mk (fun h=>by cases h))
  refine Ob (P:=fun r=>¬r=true->¬false=true) ?_ fun u4 e8=>?_
  .refine Oi (fun _=>.mk (fun h=>absurd rfl h)) (fun c1630=>?_)
   refine Ob (P:=fun r=>r=true->true=true) ?_ fun u3 e9=>?_
   .refine Oi (fun c1632=>?_) (fun _=>.mk (fun h=>by cases h))
    refine Ob (bM (by omega) (by(simp only[nm]at *;omega))) fun u1 f0=>?_
    refine Ob (bR (by omega)) fun u2 f1=>?_
    exact .mk (fun _=>c1632)
   exact .mk (fun _=>c1630)
  exact .mk (fun _=>c1628)
 refine Oi (fun c1635=>?_) (fun c1635=>?_)
 .have j4:=n c1635
  exact .mk trivial
 refine Ob (Tn42 (by first|omega|(simp only[List.length_nil]at *;omega)) a) fun l0 f2=>?_
 refine Ob (P:=fun r=>r=true->(decide ((l0.length:Int)>0))=true) ?_ fun v1 o=>?_
 .refine Oi (fun c1639=>?_) (fun _=>.mk (fun h=>by cases h))
  refine Ob (P:=fun r=>¬r=true->¬false=true) ?_ fun v0 f3=>?_
  .refine Oi (fun _=>.mk (fun h=>absurd rfl h)) (fun c1641=>?_)
   refine Ob (P:=fun r=>r=true->true=true) ?_ fun u9 f5=>?_
   .refine Oi (fun c1643=>?_) (fun _=>.mk (fun h=>by cases h))
    refine Ob (bM (by omega) (by(simp only[nm]at *;omega))) fun u6 f6=>?_
    refine Ob (bR (by omega)) fun u7 f7=>?_
    exact .mk (fun _=>c1643)
   exact .mk (fun _=>c1641)
  exact .mk (fun _=>c1639)
 refine Oi (fun c1646=>?_) (fun c1646=>?_)
 .have j5:=o c1646
  exact .mk trivial
 refine Ob (Tn43 (by first|omega|(simp only[List.length_nil]at *;omega)) a) fun l1 f8=>?_
 refine Ob (P:=fun r=>r=true->(decide ((l1.length:Int)>0))=true) ?_ fun v6 p=>?_
 .refine Oi (fun c1650=>?_) (fun _=>.mk (fun h=>by cases h))
  refine Ob (P:=fun r=>¬r=true->¬false=true) ?_ fun v5 f9=>?_
  .refine Oi (fun _=>.mk (fun h=>absurd rfl h)) (fun c1652=>?_)
   refine Ob (P:=fun r=>r=true->true=true) ?_ fun v4 g1=>?_
   .refine Oi (fun c1654=>?_) (fun _=>.mk (fun h=>by cases h))
    refine Ob (bM (by omega) (by(simp only[nm]at *;omega))) fun v2 g3=>?_
    refine Ob (bR (by omega)) fun v3 g4=>?_
    exact .mk (fun _=>c1654)
   exact .mk (fun _=>c1652)
  exact .mk (fun _=>c1650)
 refine Oi (fun c1657=>?_) (fun c1657=>?_)
 .have j6:=p c1657
  exact .mk trivial
 refine Ob (Tn44 (by first|omega|(simp only[List.length_nil]at *;omega)) a (by omega)) fun l2 g5=>?_
 refine Ob (P:=fun r=>r=true->(decide ((l2.length:Int)>0))=true) ?_ fun w3 q=>?_
 .refine Oi (fun c1661=>?_) (fun _=>.mk (fun h=>by cases h))
  refine Ob (P:=fun r=>¬r=true->¬false=true) ?_ fun w2 g6=>?_
  .refine Oi (fun _=>.mk (fun h=>absurd rfl h)) (fun c1663=>?_)
   refine Ob (P:=fun r=>r=true->true=true) ?_ fun v9 g7=>?_
   .refine Oi (fun c1665=>?_) (fun _=>.mk (fun h=>by cases h))
    refine Ob (bM (by omega) (by(simp only[nm]at *;omega))) fun v7 g8=>?_
    refine Ob (bR (by omega)) fun v8 g9=>?_
    exact .mk (fun _=>c1665)
   exact .mk (fun _=>c1663)
  exact .mk (fun _=>c1661)
 refine Oi (fun c1668=>?_) (fun c1668=>?_)
 .have j7:=q c1668
  exact .mk trivial
 refine Ob (Tn45 (by first|omega|(simp only[List.length_nil]at *;omega)) a) fun l3 h0=>?_
 refine Ob (P:=fun r=>r=true->(decide ((l3.length:Int)>0))=true) ?_ fun w8 s=>?_
 .refine Oi (fun c1672=>?_) (fun _=>.mk (fun h=>by cases h))
  refine Ob (P:=fun r=>¬r=true->¬false=true) ?_ fun w7 h2=>?_
  .refine Oi (fun _=>.mk (fun h=>absurd rfl h)) (fun c1674=>?_)
   refine Ob (P:=fun r=>r=true->true=true) ?_ fun w6 h3=>?_
   .refine Oi (fun c1676=>?_) (fun _=>.mk (fun h=>by cases h))
    refine Ob (bM (by omega) (by(simp only[nm]at *;omega))) fun w4 h4=>?_
    refine Ob (bR (by omega)) fun w5 h5=>?_
    exact .mk (fun _=>c1676)
   exact .mk (fun _=>c1674)
  exact .mk (fun _=>c1672)
 refine Oi (fun c1679=>?_) (fun c1679=>?_)
 .have j8:=s c1679
  exact .mk trivial
 refine Ob (Tn46 (by first|omega|(simp only[List.length_nil]at *;omega)) a) fun l4 h6=>?_
 refine Ob (P:=fun r=>r=true->(decide ((l4.length:Int)>0))=true) ?_ fun l7 t=>?_
 .refine Oi (fun c1683=>?_) (fun _=>.mk (fun h=>by cases h))
  refine Ob (P:=fun r=>¬r=true->¬false=true) ?_ fun l6 h7=>?_
  .refine Oi (fun _=>.mk (fun h=>absurd rfl h)) (fun c1685=>?_)
   refine Ob (P:=fun r=>r=true->true=true) ?_ fun l5 h8=>?_
   .refine Oi (fun c1687=>?_) (fun _=>.mk (fun h=>by cases h))
    refine Ob (bM (by omega) (by(simp only[nm]at *;omega))) fun w9 h9=>?_
    refine Ob (bR (by omega)) fun x0 i0=>?_
    exact .mk (fun _=>c1687)
   exact .mk (fun _=>c1685)
  exact .mk (fun _=>c1683)
 refine Oi (fun c1690=>?_) (fun c1690=>?_)
 .have j9:=t c1690
  exact .mk trivial
 refine Ob (Tn47 (by first|omega|(simp only[List.length_nil]at *;omega)) a) fun l8 i1=>?_
 exact .mk trivial
theorem T9 {x1:Z0} (a:x1.sm):Ok (F9 x1) (fun _=>True):=by
 unfold F9
 refine Ob (P:=fun _=>True) ?_ fun v _=>.mk trivial
 by_cases h0:0<x1.Measures.length
 .exact (T24 a h0).mono fun _ _=>trivial
 unfold F24
 refine Ob (P:=fun r=>r=false) (Oi (fun h=>by simp at h) (fun _=>.mk rfl)) fun b hb=>?_
 subst hb
 refine Oi (fun h=>by cases h) (fun _=>?_)
 refine Ob (U59b a (by omega) (by decide)) fun v hv=>?_
 refine Ob (P:=fun r=>r=true) (Oi (fun h=>Ob (P:=fun r=>r=true) (Oi (fun _=>.mk rfl) (fun h=>absurd rfl h)) fun b hb=>.mk hb) (fun h=>by simp at h;simp[h]at hv)) fun b hb=>?_
 subst hb
 exact Oi (fun _=>.mk trivial) (fun h=>absurd rfl h)
end Go.P
set_option maxHeartbeats 1000000
namespace Go.P
theorem jC {α β:Type} {x:Option α} {a:α} {K:α->Option β} {r:Option β} (h:x=some a) (hk:K a=r):x.bind K=r:=by subst h;exact hk
theorem Ok.eq {α:Type} {x:Option α} {a:α} (h:Ok x (fun v=>v=a)):x=some a:=by
 obtain⟨v,h1,rfl⟩:=h
 exact h1
section
variable {K V:Type} [DecidableEq K]
end
end Go.P
namespace Go.P
variable {s:Z0}
theorem blk0 {x v:List Zv} {D:Option Bool} {R:Option (List Zv)} (h:((if decide ((x.length:Int)>0)then D else some false).bind fun b=>if b then some x else R)=some v) (h0:v.length=0):R=some v:=by
 by_cases a:((x.length:Int)>0)
 .rw [if_pos (by simpa using a)]at h
  cases D with
  |none=>cases h
  |some b=>
   cases b with
   |true=>simp at h;subst h;omega
   |false=>exact h
 .rw [if_neg (by simpa using a)]at h
  exact h
theorem bnd0 {A B:Type} {x:Option A} {k:A->Option B} {v:B} (h:x.bind k=some v):∃a,x=some a/\k a=some v:=Option.bind_eq_some_iff.1 h
theorem nil0 {A:Type} {l:List A} (h:l.length=0):l=[]:=List.eq_nil_of_length_eq_zero h
structure jE1 (s:Z0):Prop where
 r1:Fn31 [] s 1=some []
 r2:Fn32 [] s 2=some []
 r3:Fn33 [] s 3=some []
 r4:Fn34 [] s 4=some []
 r5:Fn35 [] s 5=some []
 r6:Fn36 [] s 6=some []
 r7:Fn37 [] s 7=some []
 r8:Fn38 [] s 8=some []
 r9:Fn39 [] s 9=some []
 r10:Fn40 [] s 10=some []
 r11:Fn41 [] s 11=some []
 r12:Fn42 [] s 12=some []
 r13:Fn43 [] s 13=some []
 r14:Fn44 [] s 14=some []
 r15:Fn45 [] s 15=some []
 r16:Fn46 [] s 16=some []
 r17:Fn47 [] s 17=some []
theorem hF1 (hs:s.sm) (B:0<s.Measures.length) {v:List Zv} (h:F24 s=some v) (h0:v.length=0):jE1 s:=by
 unfold F24 at h
 have h:=blk0 h h0
 obtain⟨x1,q,h⟩:=bnd0 h
 have i1:=(Tn31 (by decide) hs).of q
 have h:=blk0 h h0
 obtain⟨L,r,h⟩:=bnd0 h
 have U:=(Tn32 (by simp only[nl]at *;omega) hs).of r
 have h:=blk0 h h0
 obtain⟨M,t,h⟩:=bnd0 h
 have V:=(Tn33 (by simp only[nl]at *;omega) hs).of t
 have h:=blk0 h h0
 obtain⟨N,u,h⟩:=bnd0 h
 have W:=(Tn34 (by simp only[nl]at *;omega) hs).of u
 have h:=blk0 h h0
 obtain⟨O,w,h⟩:=bnd0 h
 have X:=(Tn35 (by simp only[nl]at *;omega) hs).of w
 have h:=blk0 h h0
 obtain⟨P,x,h⟩:=bnd0 h
 have Y:=(Tn36 (by simp only[nl]at *;omega) hs).of x
 have h:=blk0 h h0
 obtain⟨R,y,h⟩:=bnd0 h
 have Z:=(Tn37 (by simp only[nl]at *;omega) hs).of y
 have h:=blk0 h h0
 obtain⟨S,z,h⟩:=bnd0 h
 have i8:=(Tn38 (by simp only[nl]at *;omega) hs).of z
 have h:=blk0 h h0
 obtain⟨T,A,h⟩:=bnd0 h
 have i9:=(Tn39 (by simp only[nl]at *;omega) hs).of A
 have h:=blk0 h h0
 obtain⟨j,a,h⟩:=bnd0 h
 have C:=(Tn40 (by simp only[nl]at *;omega) hs).of a
 have h:=blk0 h h0
 obtain⟨k,b,h⟩:=bnd0 h
 have D:=(Tn41 (by simp only[nl]at *;omega) hs).of b
 have h:=blk0 h h0
 obtain⟨l,c,h⟩:=bnd0 h
 have E:=(Tn42 (by simp only[nl]at *;omega) hs).of c
 have h:=blk0 h h0
 obtain⟨m,d,h⟩:=bnd0 h
 have F:=(Tn43 (by simp only[nl]at *;omega) hs).of d
 have h:=blk0 h h0
 obtain⟨n,e,h⟩:=bnd0 h
 have G:=(Tn44 (by simp only[nl]at *;omega) hs B).of e
 have h:=blk0 h h0
 obtain⟨o,f,h⟩:=bnd0 h
 have H:=(Tn45 (by simp only[nl]at *;omega) hs).of f
 have h:=blk0 h h0
 obtain⟨p,g,h⟩:=bnd0 h
 have i16:=(Tn46 (by simp only[nl]at *;omega) hs).of g
 have h:=blk0 h h0
 obtain⟨K,i,h⟩:=bnd0 h
 have J:=(Tn47 (by simp only[nl]at *;omega) hs).of i
 cases h
 have z17:v=[]:=nil0 h0
 have z16:p=[]:=nil0 (by simp only[nl]at *;omega)
 have z15:o=[]:=nil0 (by simp only[nl]at *;omega)
 have z14:n=[]:=nil0 (by simp only[nl]at *;omega)
 have z13:m=[]:=nil0 (by simp only[nl]at *;omega)
 have z12:l=[]:=nil0 (by simp only[nl]at *;omega)
 have z11:k=[]:=nil0 (by simp only[nl]at *;omega)
 have z10:j=[]:=nil0 (by simp only[nl]at *;omega)
 have z9:T=[]:=nil0 (by simp only[nl]at *;omega)
 have z8:S=[]:=nil0 (by simp only[nl]at *;omega)
 have z7:R=[]:=nil0 (by simp only[nl]at *;omega)
 have z6:P=[]:=nil0 (by simp only[nl]at *;omega)
 have z5:O=[]:=nil0 (by simp only[nl]at *;omega)
 have z4:N=[]:=nil0 (by simp only[nl]at *;omega)
 have z3:M=[]:=nil0 (by simp only[nl]at *;omega)
 have z2:L=[]:=nil0 (by simp only[nl]at *;omega)
 have z1:x1=[]:=nil0 (by simp only[nl]at *;omega)
 subst z1 z2 z3 z4 z5 z6 z7 z8 z9 z10 z11 z12 z13 z14 z15 z16 z17
 exact⟨q,r,t,u,w,x,y,z,A,a,b,c,d,e,f,g,i⟩
theorem jF1 (hs:s.sm) (a:0<s.Measures.length) (hv:F9 s=some true):jE1 s:=by
 unfold F9 at hv
 obtain⟨v,h,hv⟩:=bnd0 hv
 exact hF1 hs a h (by simp at hv;simp[hv])
end Go.P
namespace Go.P
variable {s:Z0}
theorem dI {A S E T:Type} {l:List A} {body:S->Option (S⊕E)} {s0:S} {Q:E->Prop} (a:S->Int) (b:S->T) (f:T->A->T) (hl:l.length<9223372036854775808) (h0:a s0=0)
  (h:∀(i:Nat) (x:A) (q:S),l[i]? =some x->x∈l->a q=(i:Int)->a q<(l.length:Int)->b q=(l.take i).foldl f (b s0)->lget l (a q)=some x->w64 (a q+1)=(i:Int)+1->Ok (body q) (fun r=>match r with|.inl q'=>a q'=(i:Int)+1/\b q'=f (b q) x|.inr e=>False))
  (d:∀q,a q=(l.length:Int)->b q=l.foldl f (b s0)->Ok (body q) (fun r=>match r with|.inl _=>False|.inr e=>Q e)):Ok (aO body B64 s0) Q:=by
 refine aP (l:=l) a (fun i q=>b q=(l.take i).foldl f (b s0)) hl h0 (by simp) (fun i x q j k hi g c hg hw=>?_) (fun q hi c=>?_)
 .refine (h i x q j k hi g c hg hw).mono fun r hr=>?_
  cases r with
  |inl q'=>
   refine⟨hr.1,?_⟩
   rw[hr.2,c,List.take_add_one,j]
   simp
  |inr e=>exact hr.elim
 .rw [List.take_length]at c
  exact(d q hi c).mono fun r hr=>by cases r<;>exact hr
theorem eW {A:Type} {l:List A} {i:Nat} (h:i<l.length):lget l (i:Int)=some l[i]:=by
 unfold lget
 rw[if_pos (by omega),Int.toNat_natCast]
 exact List.getElem?_eq_getElem h
def stv (s:Z0):Nat:=(s.Parts.map fun p=>p.Staves.length).sum
theorem fQ (l:List Zj) (n:Int):l.foldl (fun t p=>t+(p.Staves.length:Int)) n=n+(((l.map fun p=>p.Staves.length).sum:Nat):Int):=by
 induction l generalizing n with
 |nil=>simp
 |cons p l ih=>rw[List.foldl_cons,ih];simp;omega
theorem eY1 {l:List Zj} (h:∀p∈l,p.Staves.length<=5):(l.map fun p=>p.Staves.length).sum<=5*l.length:=by
 induction l with
 |nil=>simp
 |cons p l ih=>
  have h1:=h p (by simp)
  have h2:=ih (fun q a=>h q (by simp[a]))
  simp
  omega
theorem F72_eq (hs:s.sm):F49 s=some (stv s:Int):=by
 unfold F49
 have hp:=hs.Parts
 refine jC (a:=(stv s:Int)) (Ok.eq (dI (l:=s.Parts) (fun q=>q.2) (fun q=>q.1) (fun t p=>t+(p.Staves.length:Int)) (by omega) rfl (fun i p q g c hi hl b hg hw=>?_) (fun q hi b=>?_))) rfl
 .obtain ⟨t,k⟩:=q
  dsimp only at hi hl b hg hw
  have d:=eY1 (l:=s.Parts.take i) (fun p hp=>(hs.PartsE p (List.mem_of_mem_take hp)).Staves)
  have e:(s.Parts.take i).length<=4:=by rw[List.length_take];omega
  have f:=(hs.PartsE p c).Staves
  rw[fQ]at b
  simp only[hl,hg,nt]
  refine .mk ⟨hw,?_⟩
  dsimp only
  rw[aV (by omega) (by omega)]
 .obtain ⟨t,k⟩:=q
  dsimp only at hi b
  rw[fQ]at b
  simp only[hi,nf]
  refine .mk ?_
  rw[b]
  unfold stv
  omega
theorem E105 {x n:Int} {m:Zm} (o:m.sm):Ok (F65 x m n) (fun b=>b=false->(m.Cells.length:Int)=n):=by
 unfold F65
 have hc:=o.Cells
 refine Ob (P:=fun r=>((m.Cells.length:Int)!=n)=true->r=true) (aP (l:=m.Cells) (fun q=>q.2) (fun _ q=>((m.Cells.length:Int)!=n)=true->q.1=true) (by omega) rfl (fun h=>h) (fun i y q s g hi hl a hg hw=>?_) (fun q hi a=>?_)) fun r hr=>.mk (fun h=>?_)
 .obtain ⟨b,k⟩:=q
  dsimp only at hi hl a hg hw
  have hv:=(o.CellsE y g).Voices
  simp only[hl,hg,nt]
  have first:∀{c:Bool} {z:Option Bool},(b=true->c=true)->(b=false->Ok z (fun _=>True))->True:=fun _ _=>trivial
  refine Ob (P:=fun r=>(b=true->r=true)/\(r=false->0<y.Voices.length)) (Oi (fun h=>.mk ⟨fun _=>rfl,fun h=>(by cases h)⟩) (fun h=>?_)) fun j d=>?_
  .simp only[nm]at h
   have h0:0<y.Voices.length:=by
    have:=h.2
    omega
   exact Ob (bC (Q:=fun _=>True) (by omega) (by omega) (fun _ _ _=>trivial)) fun z _=>.mk ⟨fun hb=>(by rw[hb]at h;cases h.1),fun _=>h0⟩
  refine Ob (P:=fun r=>(j=true->r=true)) (Oi (fun h=>.mk (fun _=>rfl)) (fun h=>?_)) fun e f=>?_
  .have h0:=d.2 (by simpa using h)
   exact Ob (bC (Q:=fun _=>True) (by rw[aV (by omega) (by omega)];omega) (by rw[aV (by omega) (by omega)];omega) (fun _ _ _=>trivial)) fun z _=>.mk (fun h2=>absurd h2 h)
  refine Ob (P:=fun r=>e=true->r=true) (aP (l:=y.Voices) (fun q=>q.2) (fun _ q=>e=true->q.1=true) (by omega) rfl (fun h=>h) (fun i z q s p hi hl a hg hw=>?_) (fun q hi a=>?_)) fun r hr=>.mk ⟨hw,fun h=>hr (f (d.1 (a h)))⟩
  .obtain ⟨b2,t⟩:=q
   dsimp only at hi hl a hg hw
   simp only[hl,hg,nt]
   exact .mk ⟨hw,fun h=>by rw[a h];rfl⟩
  .obtain ⟨b2,t⟩:=q
   dsimp only at hi a
   simp only[hi,nf]
   exact .mk a
 .obtain ⟨b,k⟩:=q
  dsimp only at hi a
  simp only[hi,nf]
  exact .mk a
 .by_cases he:(m.Cells.length:Int)=n
  .exact he
  .have:=hr (by simpa using he)
   rw[h]at this;cases this
theorem Z104 (hs:s.sm) {n r:Int} (h:Fn64 n [] s r=some []):∀m∈s.Measures,(m.Cells.length:Int)=n:=by
 unfold Fn64 at h
 have p:=hs.Measures
 obtain⟨v,h1,h2⟩:=bnd0 h
 cases h2
 have:=Ok.of (Q:=fun v:List Zv=>v.length=0->∀m∈s.Measures,(m.Cells.length:Int)=n) (aP (l:=s.Measures) (fun q=>q.1) (fun i q=>q.2.length<=i/\(q.2.length=0->∀j,j<i->∀m,s.Measures[j]? =some m->(m.Cells.length:Int)=n)) (by omega) rfl ⟨by simp,fun _ j d=>by omega⟩ (fun i e q o g hi hl c hg hw=>?_) (fun q hi c=>?_)) h1 rfl
 .exact this
 .obtain ⟨x,v⟩:=q
  dsimp only at hi hl c hg hw
  simp only[hl,hg,nt]
  refine Ob (E105 (hs.MeasuresE e g)) fun b hb=>?_
  refine Ob (S101 (by omega)) fun u k=>.mk ⟨hw,?_,fun h j d m a=>?_⟩
  .dsimp only;cases b<;>simp at k<;>omega
  .dsimp only at h
   cases b with
   |true=>simp at k;omega
   |false=>
    simp only[Bool.false_eq_true,false_implies,forall_const,true_and]at k
    by_cases f:j=i
    .subst f;rw[o]at a;cases a;exact hb rfl
    .exact c.2 (by omega) j (by omega) m a
 .obtain ⟨x,v⟩:=q
  dsimp only at hi c
  simp only[hi,nf]
  refine .mk (fun h m g=>?_)
  obtain⟨j,d⟩:=List.mem_iff_getElem?.1 g
  exact c.2 h j (List.getElem?_eq_some_iff.1 d).1 m d
theorem jG1 (hs:s.sm) (hv:F9 s=some true):∀m∈s.Measures,m.Cells.length=stv s:=by
 intro m b
 have a:=(jF1 hs (List.length_pos_of_mem b) hv).r3
 unfold Fn33 at a
 rw[F72_eq hs]at a
 simp only[Option.bind_some]at a
 obtain⟨v,h1,h2⟩:=bnd0 a
 cases h2
 have:=Z104 hs h1 m b
 omega
end Go.P
namespace Go.P
variable {s:Z0}
theorem jY {A B E:Type} {l:List A} {body:Int×List B->Option ((Int×List B)⊕List B)} (f:A->List B) (K c:Int) (d:List B) (hc:0<=c) (hK:0<=K) (hl:l.length<=1000) (o:c<=1000) (hf:∀x∈l,((f x).length:Int)<=K) (hb:(d.length:Int)+K*l.length<=1000000000)
  (h:∀(i:Nat) (x:A) (a:List B),x∈l->l[i]? =some x->i<l.length->(a.length:Int)<=d.length+K*i->w64 (c+i+1)=c+i+1->Ok (body (c+i,a)) (fun r=>r=.inl (c+i+1,a++f x)))
  (g:∀a,body (c+l.length,a)=some (.inr a)):Ok (aO body B64 (c,d)) (fun v=>v=d++l.flatMap f):=by
 have hlen:∀i,i<=l.length->(((l.take i).flatMap f).length:Int)<=K*i:=by
  intro i
  induction i with
  |zero=>intro _;simp
  |succ i ih=>
   intro hi
   have j:l[i]? =some l[i]:=List.getElem?_eq_getElem (by omega)
   rw[List.take_add_one,j,List.flatMap_append]
   have:=hf l[i] (List.getElem_mem _)
   have:=ih (by omega)
   simp only[Option.toList_some,List.flatMap_cons,List.flatMap_nil,List.append_nil,List.length_append]
   have e:K*((i+1:Nat):Int)=K*i+K:=by rw[Int.natCast_add,Int.mul_add];simp
   omega
 refine aP (l:=l) (fun q=>q.1-c) (fun i q=>q.2=d++(l.take i).flatMap f) (by omega) (by simp) (by simp) (fun i x q j p hi n b hg hw=>?_) (fun q hi b=>?_)
 .obtain ⟨k,a⟩:=q
  dsimp only at hi n b
  have m:=(List.getElem?_eq_some_iff.1 j).1
  have hk:k=c+i:=by omega
  subst hk
  have h2:=hlen i (by omega)
  refine(h i x a p j m (by rw[b];simp only[List.length_append];omega) (aV (by omega) (by omega))).mono fun r hr=>?_
  subst hr
  refine⟨by dsimp only;omega,?_⟩
  dsimp only
  rw[b,List.take_add_one,j,List.flatMap_append]
  simp
 .obtain ⟨k,a⟩:=q
  dsimp only at hi b
  have hk:k=c+l.length:=by omega
  subst hk
  rw[g,b,List.take_length]
  exact .mk rfl
def hpE (e:Ze):List Zh:=e.Heads.map (·.Pitch)
def hpV (v:Zo):List Zh:=v.Events.flatMap hpE
def hpC (c:Zw):List Zh:=c.Voices.flatMap hpV
def hpM (a n:Nat) (m:Zm):List Zh:=((m.Cells.drop a).take n).flatMap hpC
def hpS (s:Z0) (a n:Nat):List Zh:=s.Measures.flatMap (hpM a n)
theorem rD {A B:Type} {l:List A} {f:A->List B} {K:Nat} (h:∀x∈l,(f x).length<=K):(l.flatMap f).length<=K*l.length:=by
 induction l with
 |nil=>simp
 |cons x l ih=>
  have h1:=h x (by simp)
  have h2:=ih (fun y hy=>h y (by simp[hy]))
  simp only[List.flatMap_cons,List.length_append,List.length_cons]
  have e:K*(l.length+1)=K*l.length+K:=Nat.mul_succ _ _
  omega
theorem eZ1 {e:Ze} (h:e.sm):(hpE e).length<=12:=by unfold hpE;rw[List.length_map];exact h.Heads
theorem fA1 {v:Zo} (h:v.sm):(hpV v).length<=240:=by
 have:=rD (l:=v.Events) (f:=hpE) (K:=12) (fun x a=>eZ1 (h.EventsE x a))
 have:=h.Events
 unfold hpV;omega
theorem fB1 {c:Zw} (h:c.sm):(hpC c).length<=720:=by
 have:=rD (l:=c.Voices) (f:=hpV) (K:=240) (fun x a=>fA1 (h.VoicesE x a))
 have:=h.Voices
 unfold hpC;omega
theorem jZ {A:Type} {l:List A} {a n:Nat} {x:A} (h:x∈(l.drop a).take n):x∈l:=List.mem_of_mem_drop (List.mem_of_mem_take h)
theorem fC1 {m:Zm} {a n:Nat} (h:m.sm):(hpM a n m).length<=3600:=by
 have h1:=rD (l:=(m.Cells.drop a).take n) (f:=hpC) (K:=720) (fun x b=>fB1 (h.CellsE x (jZ b)))
 have h2:((m.Cells.drop a).take n).length<=5:=by
  have:=h.Cells
  rw[List.length_take,List.length_drop];omega
 unfold hpM;omega
theorem F17_eq (hs:s.sm) {a n:Nat} (h:∀m∈s.Measures,a+n<=m.Cells.length) (hn:n<=5) (ha:a<=100):F15 s a (a+n:Int) false=some (hpS s a n):=by
 have hM:=hs.Measures
 unfold F15
 refine jC (a:=hpS s a n) (Ok.eq ((jY (E:=Unit) (l:=s.Measures) (hpM a n) 3600 0 [] (by omega) (by omega) (by omega) (by omega) (fun m B=>by have:=fC1 (a:=a) (n:=n) (hs.MeasuresE m B);omega) (by simp;omega) (fun i m p B hx hi g hw=>?_) (fun p=>?_)).mono (fun v hv=>by simpa[hpS]using hv))) rfl
 .have z:=hs.MeasuresE m B
  have X:=h m B
  have H:lget s.Measures ((0:Int)+i)=some m:=by rw[Int.zero_add,eW hi];rw[<-hx,List.getElem?_eq_getElem hi]
  dsimp only
  rw[if_pos (by simp;omega)]
  have Y:((m.Cells.drop a).take n).length=n:=by rw[List.length_take,List.length_drop];omega
  refine Ob (P:=fun v=>v=p++hpM a n m) (jY (E:=Unit) (l:=(m.Cells.drop a).take n) hpC 720 a p (by omega) (by omega) (by omega) (by omega) (fun c hc=>by have:=fB1 (z.CellsE c (jZ hc));omega) (by simp at g;omega) (fun j c d hc u hj S K=>?_) (fun d=>?_)) fun v hv=>?_
  .have t:=z.CellsE c (jZ hc)
   have D:lget m.Cells ((a:Int)+j)=some c:=by
    rw[List.getElem?_take,if_pos (by omega),List.getElem?_drop]at u
    have y:=(List.getElem?_eq_some_iff.1 u).1
    rw[show(a:Int)+j=((a+j:Nat):Int)by omega,eW y,<-u,List.getElem?_eq_getElem y]
   dsimp only
   rw[if_pos (by simp;omega),H,Option.bind_some,D,Option.bind_some]
   have Z:=t.Voices
   refine Ob (P:=fun v=>v=d++hpC c) (jY (E:=Unit) (l:=c.Voices) hpV 240 0 d (by omega) (by omega) (by omega) (by omega) (fun v hv=>by have:=fA1 (t.VoicesE v hv);omega) (by simp at g;omega) (fun k v f hv R hk T L=>?_) (fun f=>?_)) fun v hv=>.mk ?_
   .have hvv:=t.VoicesE v hv
    have J:lget c.Voices ((0:Int)+k)=some v:=by rw[Int.zero_add,eW hk,<-R,List.getElem?_eq_getElem hk]
    dsimp only
    rw[if_pos (by simp;omega),J,Option.bind_some]
    have a0:=hvv.Events
    refine Ob (P:=fun w=>w=f++hpV v) (jY (E:=Unit) (l:=v.Events) hpE 12 0 f (by omega) (by omega) (by omega) (by omega) (fun e he=>by have:=eZ1 (hvv.EventsE e he);omega) (by simp at g;omega) (fun q e b he O W U M=>?_) (fun b=>?_)) fun w hw=>.mk ?_
    .have C:=hvv.EventsE e he
     have F:lget v.Events ((0:Int)+q)=some e:=by rw[Int.zero_add,eW W,<-O,List.getElem?_eq_getElem W]
     have hh:=C.Heads
     dsimp only
     rw[if_pos (by simp;omega),F,Option.bind_some]
     refine Ob (P:=fun w=>w=b++hpE e) ((jY (E:=Unit) (l:=e.Heads) (fun h=>[h.Pitch]) 1 0 b (by omega) (by omega) (by omega) (by omega) (fun e he=>by simp) (by simp at g;omega) (fun r x o b0 A hr V N=>?_) (fun o=>?_)).mono (fun v hv=>by rw[hv];congr 1;unfold hpE;induction e.Heads<;>simp_all)) fun w hw=>?_
     .have G:lget e.Heads ((0:Int)+r)=some x:=by rw[Int.zero_add,eW hr,<-A,List.getElem?_eq_getElem hr]
      dsimp only
      rw[if_pos (by simp;omega),G,Option.bind_some]
      refine Ob (cU (Q:=fun v=>v=o++[x.Pitch]) (by simp at g;omega) rfl) fun v hv=>.mk ?_
      rw[hv,N]
     .dsimp only
      rw[if_neg (by simp)]
     .subst hw
      refine Ob (P:=fun w=>w=b++hpE e) ?_ fun w hw=>.mk ?_
      .refine ⟨_,?_,rfl⟩
       rw[show B64=18446744073709551615+1 from rfl,aO]
       dsimp only
       rw[if_neg (by simp)]
       rfl
      .rw [hw,M]
    .dsimp only
     rw[if_neg (by simp)]
    .rw [hw,L]
   .dsimp only
    rw[if_neg (by simp)]
   .rw [hv,K]
  .dsimp only
   rw[if_neg (by simp;omega)]
  .rw [hv]
   exact .mk (by rw[hw])
 .dsimp only
  rw[if_neg (by simp)]
def nmP (p:Zh):Int:=((F28 p).getD (0,0)).1
theorem F37_eq (p:Zh):∃e,F28 p=some (nmP p,e):=by
 obtain⟨⟨n,e⟩,h,_⟩:=T28 (x1:=p)
 exact⟨e,by unfold nmP;rw[h];rfl⟩
theorem F18_eq (p:Zh):F16 p=some (nmP p):=by
 obtain⟨e,h⟩:=F37_eq p
 unfold F16
 rw[h];rfl
abbrev RT:=Bool×Int×Int×Zh×Zh
def rgP (t:RT) (p:Zh):RT:=
 (true,if(!t.1)||decide (nmP p<t.2.1)then nmP p else t.2.1,if(!t.1)||decide (nmP p>t.2.2.1)then nmP p else t.2.2.1,if(!t.1)||decide (nmP p>t.2.2.1)then p else t.2.2.2.1,if(!t.1)||decide (nmP p<t.2.1)then p else t.2.2.2.2)
def rgE (t:RT) (e:Ze):RT:=(hpE e).foldl rgP t
def rgV (t:RT) (v:Zo):RT:=(hpV v).foldl rgP t
def rgC (t:RT) (c:Zw):RT:=(hpC c).foldl rgP t
def rgM (a n:Nat) (t:RT) (m:Zm):RT:=(hpM a n m).foldl rgP t
theorem hU {A B T:Type} (f:T->B->T) (g:A->List B):∀(l:List A) (t:T),(l.flatMap g).foldl f t=l.foldl (fun t x=>(g x).foldl f t) t
 |[],t=>rfl
 |x::l,t=>by rw[List.flatMap_cons,List.foldl_append,List.foldl_cons,hU f g l]
theorem F36_eq (hs:s.sm) {i:Int} (h0:0<=i) (h1:i<(s.Parts.length:Int)):∃p,lget s.Parts i=some p/\∃a:Nat,F27 s i=some ((a:Int),0)/\F14 s i=some (a:Int)/\a+p.Staves.length<=stv s/\p.Staves.length<=5/\stv s<=20:=by
 have hp:=hs.Parts
 have hi:i.toNat<s.Parts.length:=by omega
 have h:fO s.Parts 0 i=some (s.Parts.take i.toNat):=by
  unfold fO
  rw[if_pos ⟨by omega,h0,by omega⟩]
  simp
 have c:∀k,((s.Parts.take k).map fun p=>p.Staves.length).sum<=20:=fun k=>by
  have:=eY1 (l:=s.Parts.take k) (fun p hp=>(hs.PartsE p (List.mem_of_mem_take hp)).Staves)
  have:(s.Parts.take k).length<=4:=by rw[List.length_take];omega
  omega
 have hg:lget s.Parts i=some s.Parts[i.toNat]:=by
  have:=eW (l:=s.Parts) hi
  rwa [Int.toNat_of_nonneg h0]at this
 refine⟨s.Parts[i.toNat],hg,((s.Parts.take i.toNat).map fun p=>p.Staves.length).sum,?_,?_,?_,(hs.PartsE _ (List.getElem_mem hi)).Staves,?_⟩
 .unfold F27 F49_2
  rw[if_neg (by simp;omega),h]
  simp only[Option.bind_some]
  have n:(s.Parts.take i.toNat).length<=4:=by rw[List.length_take];omega
  refine jC (a:=((((s.Parts.take i.toNat).map fun p=>p.Staves.length).sum:Nat):Int)) (jC (Ok.eq (dI (l:=s.Parts.take i.toNat) (fun q=>q.2) (fun q=>q.1) (fun t p=>t+(p.Staves.length:Int)) (by omega) rfl (fun j p q d g hi hl b hg hw=>?_) (fun q hi b=>?_))) rfl) rfl
  .obtain ⟨t,k⟩:=q
   dsimp only at hi hl b hg hw
   rw[fQ,List.take_take]at b
   have:=c (min j i.toNat)
   have m:=(hs.PartsE p (List.mem_of_mem_take g)).Staves
   simp only[hl,hg,nt]
   refine .mk ⟨hw,?_⟩
   dsimp only
   rw[aV (by omega) (by omega)]
  .obtain ⟨t,k⟩:=q
   dsimp only at hi b
   rw[fQ]at b
   simp only[hi,nf]
   refine .mk ?_
   rw[b]
   omega
 .unfold F14
  refine jC (a:=((((s.Parts.take i.toNat).map fun p=>p.Staves.length).sum:Nat):Int)) (Ok.eq (dI (l:=s.Parts.take i.toNat) (fun q=>q.2) (fun q=>q.1) (fun t p=>t+(p.Staves.length:Int)) (by rw[List.length_take];omega) rfl (fun j p q d g hi hl b hg hw=>?_) (fun q hi b=>?_))) rfl
  .obtain ⟨t,k⟩:=q
   dsimp only at hi hl b hg hw
   rw[List.length_take]at hl
   have f:=(List.getElem?_eq_some_iff.1 d).1
   rw[List.length_take]at f
   have e:lget s.Parts k=some p:=by
    rw[List.getElem?_take,if_pos (by omega)]at d
    rw[hi,eW (by omega),<-d,List.getElem?_eq_getElem (by omega)]
   rw[fQ,List.take_take]at b
   have:=c (min j i.toNat)
   have m:=(hs.PartsE p (List.mem_of_mem_take g)).Staves
   dsimp only
   rw[if_pos (by simp;omega),e,Option.bind_some]
   refine .mk ⟨hw,?_⟩
   dsimp only
   rw[aV (by omega) (by omega)]
  .obtain ⟨t,k⟩:=q
   dsimp only at hi b
   rw[List.length_take]at hi
   rw[fQ]at b
   dsimp only
   rw[if_neg (by simp;omega)]
   refine .mk ?_
   rw[b]
   omega
 .unfold stv
  have:s.Parts=s.Parts.take i.toNat++s.Parts[i.toNat]::s.Parts.drop (i.toNat+1):=by
   rw[<-List.drop_eq_getElem_cons hi,List.take_append_drop]
  have:=congrArg (fun l:List Zj=>(l.map fun p=>p.Staves.length).sum) this
  simp only[List.map_append,List.map_cons,List.sum_append,List.sum_cons]at this
  omega
 .have:=c s.Parts.length
  rwa [List.take_length]at this
theorem F15_eq (hs:s.sm) (hv:F9 s=some true) {i:Int} {p:Zj} {a:Nat} (h0:0<=i) (h1:i<(s.Parts.length:Int)) (hp:lget s.Parts i=some p) (D:F27 s i=some ((a:Int),0)) (A:∀m∈s.Measures,a+p.Staves.length<=m.Cells.length) (hb:a+p.Staves.length<=100):
  F13 s i=some (((hpS s a p.Staves.length).foldl rgP (false,0,0,⟨0,0,0⟩,⟨0,0,0⟩)).2.2.2.2,((hpS s a p.Staves.length).foldl rgP (false,0,0,⟨0,0,0⟩,⟨0,0,0⟩)).2.2.2.1,((hpS s a p.Staves.length).foldl rgP (false,0,0,⟨0,0,0⟩,⟨0,0,0⟩)).1):=by
 have J:=hs.Measures
 have y:F21 s i=some 0:=by
  unfold F21
  rw[hv]
  simp only[Option.bind_some,Bool.not_true,Bool.false_eq_true,if_false]
  rw[if_neg (by simp;omega)]
 unfold F13
 rw[y,Option.bind_some,if_neg (by simp),D]
 simp only[Option.bind_some]
 generalize hT:((false,0,0,⟨0,0,0⟩,⟨0,0,0⟩):RT)=t0
 refine jC (a:=(((hpS s a p.Staves.length).foldl rgP t0).1,((hpS s a p.Staves.length).foldl rgP t0).2.2.2.1,((hpS s a p.Staves.length).foldl rgP t0).2.2.2.2)) (Ok.eq (dI (l:=s.Measures) (fun q=>q.2.2.2.1) (fun q=>((q.1,q.2.1,q.2.2.1,q.2.2.2.2.1,q.2.2.2.2.2):RT)) (rgM a p.Staves.length) (by omega) rfl (fun j m q u C hi hl f hg hw=>?_) (fun q hi f=>?_))) rfl
 .obtain ⟨ok,lo,b,k,d,g⟩:=q
  dsimp only at hi hl f hg hw
  have o:=hs.MeasuresE m C
  have B:fO m.Cells (a:Int) (w64 ((a:Int)+(p.Staves.length:Int)))=some ((m.Cells.drop a).take p.Staves.length):=by
   have:=A m C
   rw[aV (by omega) (by omega)]
   unfold fO
   rw[if_pos ⟨by omega,by omega,by omega⟩]
   congr 2
   omega
  have E:=o.Cells
  simp only[hl,hg,nt,hp,B]
  refine Ob (P:=fun v=>v=rgM a p.Staves.length (ok,lo,b,d,g) m) (dI (l:=(m.Cells.drop a).take p.Staves.length) (fun q=>q.2.2.2.1) (fun q=>((q.1,q.2.1,q.2.2.1,q.2.2.2.2.1,q.2.2.2.2.2):RT)) rgC (by rw[List.length_take,List.length_drop];omega) rfl (fun j c q u hc hi hl f hg hw=>?_) (fun q hi f=>?_)) fun v hv=>?_
  .obtain ⟨ok,lo,b,k,d,g⟩:=q
   dsimp only at hi hl f hg hw
   have n:=o.CellsE c (jZ hc)
   have H:=n.Voices
   simp only[hl,hg,nt]
   refine Ob (P:=fun v=>v=rgC (ok,lo,b,d,g) c) (dI (l:=c.Voices) (fun q=>q.2.2.2.1) (fun q=>((q.1,q.2.1,q.2.2.1,q.2.2.2.2.1,q.2.2.2.2.2):RT)) rgV (by omega) rfl (fun j v q u hv hi hl f hg hw=>?_) (fun q hi f=>?_)) fun v hv=>?_
   .obtain ⟨ok,lo,b,k,d,g⟩:=q
    dsimp only at hi hl f hg hw
    have hvv:=n.VoicesE v hv
    have F:=hvv.Events
    simp only[hl,hg,nt]
    refine Ob (P:=fun w=>w=rgV (ok,lo,b,d,g) v) (dI (l:=v.Events) (fun q=>q.2.2.2.1) (fun q=>((q.1,q.2.1,q.2.2.1,q.2.2.2.2.1,q.2.2.2.2.2):RT)) rgE (by omega) rfl (fun j e q u he hi hl f hg hw=>?_) (fun q hi f=>?_)) fun v hv=>?_
    .obtain ⟨ok,lo,b,k,d,g⟩:=q
     dsimp only at hi hl f hg hw
     have z:=hvv.EventsE e he
     have G:=z.Heads
     simp only[hl,hg,nt]
     refine Ob (P:=fun w=>w=rgE (ok,lo,b,d,g) e) (dI (l:=e.Heads) (fun q=>q.2.2.2.1) (fun q=>((q.1,q.2.1,q.2.2.1,q.2.2.2.2.1,q.2.2.2.2.2):RT)) (fun t h=>rgP t h.Pitch) (by omega) rfl (fun j h q u K hi hl f hg hw=>?_) (fun q hi f=>?_)) fun v hv=>?_
     .obtain ⟨ok,lo,b,k,d,g⟩:=q
      dsimp only at hi hl f hg hw
      obtain⟨x,r⟩:=F37_eq h.Pitch
      simp only[hl,hg,nt,r]
      by_cases c1:((!ok)||decide (nmP h.Pitch<lo))=true
      .rw [if_pos c1]
       by_cases c2:((!ok)||decide (nmP h.Pitch>b))=true
       .rw [if_pos c2]
        exact .mk ⟨hw,by simp only[rgP,c1,c2,if_true]⟩
       .rw [if_neg c2]
        exact .mk ⟨hw,by simp only[rgP,c1,c2,if_true,if_false,Bool.false_eq_true]⟩
      .rw [if_neg c1]
       by_cases c2:((!ok)||decide (nmP h.Pitch>b))=true
       .rw [if_pos c2]
        exact .mk ⟨hw,by simp only[rgP,c1,c2,if_true,if_false,Bool.false_eq_true]⟩
       .rw [if_neg c2]
        exact .mk ⟨hw,by simp only[rgP,c1,c2,if_true,if_false,Bool.false_eq_true]⟩
     .obtain ⟨ok,lo,b,k,d,g⟩:=q
      dsimp only at hi f
      simp only[hi,nf]
      exact .mk (by rw[f];unfold rgE hpE;rw[List.foldl_map])
     .subst hv
      exact .mk ⟨hw,rfl⟩
    .obtain ⟨ok,lo,b,k,d,g⟩:=q
     dsimp only at hi f
     simp only[hi,nf]
     exact .mk (by rw[f];unfold rgV hpV;rw[hU];rfl)
    .subst hv
     exact .mk ⟨hw,rfl⟩
   .obtain ⟨ok,lo,b,k,d,g⟩:=q
    dsimp only at hi f
    simp only[hi,nf]
    exact .mk (by rw[f];unfold rgC hpC;rw[hU];rfl)
   .subst hv
    exact .mk ⟨hw,rfl⟩
  .obtain ⟨ok,lo,b,k,d,g⟩:=q
   dsimp only at hi f
   simp only[hi,nf]
   exact .mk (by rw[f];unfold rgM hpM;rw[hU];rfl)
  .subst hv
   exact .mk ⟨hw,rfl⟩
 .obtain ⟨ok,lo,b,k,d,g⟩:=q
  dsimp only at hi f
  simp only[hi,nf]
  have hf:(hpS s a p.Staves.length).foldl rgP t0=(ok,lo,b,d,g):=by
   rw[f,<-hT];unfold hpS;rw[hU];rfl
  rw[hf]
  exact .mk rfl
theorem hG1 (l:List Zh):∀(a b:Zh),l.foldl rgP (true,nmP a,nmP b,b,a)=(true,nmP (l.foldl (fun a p=>if nmP p<nmP a then p else a) a),nmP (l.foldl (fun b p=>if nmP p>nmP b then p else b) b),l.foldl (fun b p=>if nmP p>nmP b then p else b) b,l.foldl (fun a p=>if nmP p<nmP a then p else a) a):=by
 induction l with
 |nil=>intro a b;rfl
 |cons p l ih=>
  intro a b
  rw[List.foldl_cons,List.foldl_cons,List.foldl_cons,<-ih]
  congr 1
  simp only[rgP,Bool.not_true,Bool.false_or,decide_eq_true_eq]
  split<;>split<;>rfl
theorem law4 (hb:s.b) (i:Int):F4 s i=some true:=by
 unfold F4
 obtain⟨r,hr,E⟩:=U13 hb
 rw[hr]
 cases r with
 |false=>rfl
 |true=>
 have hs:=E rfl
 obtain⟨v,hv,_⟩:=T9 hs
 simp only[Option.bind_some,Bool.not_true,Bool.false_eq_true,if_false]
 by_cases hc:v=false\/i<0\/i>=(s.Parts.length:Int)
 .have u:F13 s i=some (⟨0,0,0⟩,⟨0,0,0⟩,false):=by
   unfold F13 F21
   rw[hv]
   simp only[Option.bind_some]
   cases v with
   |false=>rfl
   |true=>
    simp only[Bool.not_true,Bool.false_eq_true,if_false]
    rw[if_pos (by simpa using hc)]
    rfl
  rw[u,hv]
  simp only[Option.bind_some]
  rw[if_pos (by rcases hc with rfl|h|h<;>simp[*])]
  rfl
 .simp only[not_or]at hc
  obtain⟨c1,c2,c3⟩:=hc
  have F:v=true:=by simpa using c1
  subst F
  obtain⟨p,hp,a,B,A,P,N,M⟩:=F36_eq hs (i:=i) (by omega) (by omega)
  have c:∀m∈s.Measures,a+p.Staves.length<=m.Cells.length:=fun m o=>by
   have:=jG1 hs hv m o
   omega
  rw[F15_eq hs hv (by omega) (by omega) hp B c (by omega),hv,A,hp]
  simp only[Option.bind_some]
  rw[if_neg (by simp;omega),aV (by omega) (by omega),F17_eq hs c N (by omega)]
  simp only[Option.bind_some]
  generalize hL:hpS s a p.Staves.length=L
  cases L with
  |nil=>rfl
  |cons q l=>
   rw[if_neg (by simp;omega)]
   have C:lget (q::l) 0=some q:=rfl
   simp only[C,Option.bind_some]
   have hlen:(q::l).length<=100000:=by
    rw[<-hL]
    have:=rD (l:=s.Measures) (f:=hpM a p.Staves.length) (K:=3600) (fun m o=>fC1 (hs.MeasuresE m o))
    have:=hs.Measures
    unfold hpS;omega
   have d:(q::l).foldl rgP (false,0,0,⟨0,0,0⟩,⟨0,0,0⟩)=l.foldl rgP (true,nmP q,nmP q,q,q):=rfl
   rw[d,hG1]
   refine jC (a:=(l.foldl (fun b p=>if nmP p>nmP b then p else b) q,l.foldl (fun a p=>if nmP p<nmP a then p else a) q)) (Ok.eq (dI (l:=l) (fun z=>z.1-1) (fun z=>(z.2.1,z.2.2)) (fun t p=>(if nmP p>nmP t.1 then p else t.1,if nmP p<nmP t.2 then p else t.2)) (by simp at hlen;omega) rfl (fun j x z G o hi hl g hg hw=>?_) (fun z hi g=>?_))) ?_
   .obtain ⟨k,b,a⟩:=z
    dsimp only at hi hl g hw
    have hk:k=((j+1:Nat):Int):=by omega
    have O:=(List.getElem?_eq_some_iff.1 G).1
    have D:lget (q::l) k=some x:=by
     rw[hk,eW (by simp;omega)]
     simp only[List.getElem_cons_succ]
     rw[<-G,List.getElem?_eq_getElem O]
    simp only[List.length_cons]at hlen ⊢
    rw[if_pos (by simp;omega)]
    simp only[D,Option.bind_some,F18_eq]
    rw[aV (n:=k+1) (by omega) (by omega)]
    by_cases H:nmP x<nmP a<;>by_cases J:nmP x>nmP b<;>simp only[H,J,decide_true,decide_false,if_true,if_false,Bool.false_eq_true,Option.bind_some]<;>exact .mk ⟨by dsimp only;omega,rfl⟩
   .obtain ⟨k,b,a⟩:=z
    dsimp only at hi g
    simp only[List.length_cons]
    rw[if_neg (by simp;omega)]
    have e:∀(m:List Zh) (x y:Zh),m.foldl (fun(t:Zh×Zh) p=>(if nmP p>nmP t.1 then p else t.1,if nmP p<nmP t.2 then p else t.2)) (x,y)=(m.foldl (fun b p=>if nmP p>nmP b then p else b) x,m.foldl (fun a p=>if nmP p<nmP a then p else a) y):=by
     intro m
     induction m with
     |nil=>intro x y;rfl
     |cons w m ih=>intro x y;simp only[List.foldl_cons];rw[ih]
    refine .mk ?_
    rw[g,e]
   .simp
end Go.P
