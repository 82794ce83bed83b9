import Derived.Test.YtnjheelameojaaaGreatGaB
/- A text of the proof. -/
set_option linter.all false
namespace Go.P
def Ok {α:Type} (x:Option α) (Q:α->Prop):Prop:=∃v,x=some v/\Q v
section
variable {α β:Type} {Q:α->Prop}
theorem Ok.mk {v:α} (h:Q v):Ok (some v) Q:=⟨v,rfl,h⟩
theorem Ob {P:β->Prop} {x:Option β} {k:β->Option α} (h:Ok x P) (hk:∀v,P v->Ok (k v) Q):Ok (x.bind k) Q:=by
 obtain⟨v,rfl,hv⟩:=h
 exact hk v hv
theorem Oi {c:Prop} [Decidable c] {a b:Option α} (h1:c->Ok a Q) (h2:¬c->Ok b Q):Ok (if c then a else b) Q:=by
 split
 .rename_i h;exact h1 h
 .rename_i h;exact h2 h
theorem Ok.mono {P:α->Prop} {x:Option α} (h:Ok x P) (a:∀v,P v->Q v):Ok x Q:=by
 obtain⟨v,h1,h2⟩:=h
 exact⟨v,h1,a v h2⟩
theorem Ok.ex {x:Option α} (h:Ok x Q):∃v,x=some v:=by
 obtain⟨v,h1,_⟩:=h
 exact⟨v,h1⟩
theorem eH {S E:Type} {body:S->Option (S⊕E)} {Q:E->Prop} (I:S->Prop) (μ:S->Nat)
  (h:∀s,I s->Ok (body s) (fun r=>match r with|.inl s'=>I s'/\μ s'<μ s|.inr e=>Q e)):∀(n:Nat) (s:S),I s->μ s<n->Ok (aO body n s) Q
 |0,s,_,hn=>by omega
 |n+1,s,hi,hn=>by
  obtain⟨r,h1,h2⟩:=h s hi
  simp only[aO,h1,Option.bind_some]
  cases r with
  |inl s'=>exact eH I μ h n s' h2.1 (by have:=h2.2;omega)
  |inr e=>exact .mk h2
end
theorem aU {n:Int} (h1: -9223372036854775808<=n) (h2:n<9223372036854775808):w64 n=n:=by
 have e:w64 n=if n%18446744073709551616>=9223372036854775808 then n%18446744073709551616-18446744073709551616 else n%18446744073709551616:=by
  unfold w64 IntKind.wrap
  rw[show((2:Int)^IntKind.bits .i64)=18446744073709551616 from rfl,show((2:Int)^(IntKind.bits .i64-1))=9223372036854775808 from rfl]
  simp[IntKind.signed]
 rw[e]
 split<;>omega
theorem bC {A:Type} {l:List A} {i:Int} {Q:A->Prop} (h0:0<=i) (h1:i<(l.length:Int)) (h:∀x,x∈l->l[i.toNat]? =some x->Q x):Ok (lget l i) Q:=by
 unfold lget
 rw[if_pos h0]
 have hi:i.toNat<l.length:=by omega
 exact⟨l[i.toNat],by simp[hi],h _ (List.getElem_mem hi) (by simp[hi])⟩
end Go.P
set_option maxRecDepth 100000
namespace Go.P
def idxF {A:Type} (l:List A) (g:A->Option Bool):Option Int:=
 (aO (E:=Int⊕Unit) (fun(a:Int)=>
  if(decide (a<(l.length:Int)))then
   (lget l a).bind fun d=>
   (g d).bind fun b=>
   if b then
    some (.inr (.inl a))
   else
   some (.inl (w64 (a+1)))
  else
  some (.inr (.inr ()))) B64 0).bind fun c=>
 match c with
 |.inl x_7=>
  some x_7
 |.inr _=>
  some (-1)
theorem hA1 {A:Type} {l:List A} {g:A->Option Bool} (hl:l.length<9223372036854775808) (hg:∀x∈l,∃b,g x=some b):Ok (idxF l g) (fun v=>(v= -1/\∀x∈l,g x=some false)\/(0<=v/\v<l.length/\∃x,l[v.toNat]? =some x/\g x=some true)):=by
 unfold idxF
 refine Ob (P:=fun r=>match r with|.inl v=>0<=v/\v<l.length/\∃x,l[v.toNat]? =some x/\g x=some true|.inr _=>∀x∈l,g x=some false)
  (eH (S:=Int) (fun i=>0<=i/\i<=l.length/\∀j,j<i.toNat->∀x,l[j]? =some x->g x=some false) (fun i=>l.length-i.toNat) (fun i hi=>?_) B64 0 ⟨by omega,by omega,fun j c=>by simp at c⟩ (by simp[B64];omega)) fun r hr=>?_
 .obtain ⟨h0,h1,h2⟩:=hi
  refine Oi (fun hc=>?_) (fun hc=>?_)
  .simp only[decide_eq_true_eq]at hc
   refine Ob (bC (Q:=fun x=>x∈l/\l[i.toNat]? =some x) h0 hc (fun x a b=>⟨a,b⟩)) fun x d=>?_
   obtain⟨b,hb⟩:=hg x d.1
   rw[hb]
   cases b with
   |true=>exact .mk ⟨h0,hc,x,d.2,hb⟩
   |false=>
    rw[Option.bind_some,aU (by omega) (by omega)]
    refine .mk ⟨⟨by omega,by omega,fun j c y hy=>?_⟩,by omega⟩
    by_cases e:j=i.toNat
    .subst e
     rw[d.2]at hy;cases hy;exact hb
    .exact h2 j (by omega) y hy
  .simp only[decide_eq_true_eq]at hc
   refine .mk (fun x d=>?_)
   obtain⟨j,c⟩:=List.mem_iff_getElem?.1 d
   have:=(List.getElem?_eq_some_iff.1 c).1
   exact h2 j (by omega) x c
 .cases r with
  |inl v=>exact .mk (.inr hr)
  |inr u=>exact .mk (.inl ⟨rfl,hr⟩)
end Go.P
namespace Go.P
structure Zy.b (x:Zy):Prop where
 Text:x.Text.size<9223372036854775808
structure Ze.b (x:Ze):Prop where
 Heads:x.Heads.length<9223372036854775808
 Graces:x.Graces.length<9223372036854775808
 Lyrics:x.Lyrics.length<9223372036854775808
 LyricsE:∀y∈x.Lyrics,y.b
structure Zo.b (x:Zo):Prop where
 Events:x.Events.length<9223372036854775808
 EventsE:∀y∈x.Events,y.b
 Tuplets:x.Tuplets.length<9223372036854775808
structure Zw.b (x:Zw):Prop where
 Clefs:x.Clefs.length<9223372036854775808
 Voices:x.Voices.length<9223372036854775808
 VoicesE:∀y∈x.Voices,y.b
structure Zm.b (x:Zm):Prop where
 Rehearsal:x.Rehearsal.size<9223372036854775808
 Tempi:x.Tempi.length<9223372036854775808
 Cells:x.Cells.length<9223372036854775808
 CellsE:∀y∈x.Cells,y.b
structure Zj.b (x:Zj):Prop where
 Name:x.Name.size<9223372036854775808
 Staves:x.Staves.length<9223372036854775808
structure Z0.b (x:Z0):Prop where
 Title:x.Title.size<9223372036854775808
 Parts:x.Parts.length<9223372036854775808
 PartsE:∀y∈x.Parts,y.b
 Measures:x.Measures.length<9223372036854775808
 MeasuresE:∀y∈x.Measures,y.b
 Spanners:x.Spanners.length<9223372036854775808
 Last:x.Last.length<9223372036854775808
structure Zy.sm (x:Zy):Prop where
 Text:x.Text.size<=300
structure Ze.sm (x:Ze):Prop where
 Heads:x.Heads.length<=12
 Graces:x.Graces.length<=12
 Lyrics:x.Lyrics.length<=12
 LyricsE:∀y∈x.Lyrics,y.sm
structure Zo.sm (x:Zo):Prop where
 Events:x.Events.length<=20
 EventsE:∀y∈x.Events,y.sm
 Tuplets:x.Tuplets.length<=6
structure Zw.sm (x:Zw):Prop where
 Clefs:x.Clefs.length<=5
 Voices:x.Voices.length<=3
 VoicesE:∀y∈x.Voices,y.sm
structure Zm.sm (x:Zm):Prop where
 Rehearsal:x.Rehearsal.size<=300
 Tempi:x.Tempi.length<=5
 Cells:x.Cells.length<=5
 CellsE:∀y∈x.Cells,y.sm
structure Zj.sm (x:Zj):Prop where
 Name:x.Name.size<=300
 Staves:x.Staves.length<=5
structure Z0.sm (x:Z0):Prop where
 Title:x.Title.size<=300
 Parts:x.Parts.length<=4
 PartsE:∀y∈x.Parts,y.sm
 Measures:x.Measures.length<=10
 MeasuresE:∀y∈x.Measures,y.sm
 Spanners:x.Spanners.length<=10
 Last:x.Last.length<=5
end Go.P
namespace Go.P
theorem nQ {A E:Type} {l:List A} {body:Int->Option (Int⊕E)} {Q:E->Prop} (P:A->Prop) (hl:l.length<9223372036854775808)
  (h:∀(i:Int) (x:A),0<=i->i<(l.length:Int)->x∈l->lget l i=some x->w64 (i+1)=i+1->Ok (body i) (fun r=>match r with|.inl j=>j=i+1/\P x|.inr e=>Q e))
  (a:∀i:Int,i=(l.length:Int)->(∀x∈l,P x)->Ok (body i) (fun r=>match r with|.inl j=>False|.inr e=>Q e)):Ok (aO body B64 0) Q:=by
 have hl:l.length<9223372036854775808:=hl
 refine eH (fun(i:Int)=>0<=i/\i<=l.length/\∀j,j<i.toNat->∀x,l[j]? =some x->P x) (fun i=>l.length-i.toNat) (fun i hi=>?_) B64 0 ⟨by omega,by omega,fun j b=>by simp at b⟩ (by simp[B64];omega)
 obtain⟨h0,h1,h2⟩:=hi
 by_cases c:i<(l.length:Int)
 .have hi:i.toNat<l.length:=by omega
  have hg:lget l i=some l[i.toNat]:=by unfold lget;rw[if_pos h0];simp[hi]
  refine(h i l[i.toNat] h0 c (List.getElem_mem hi) hg (aU (by omega) (by omega))).mono fun r hr=>?_
  cases r with
  |inl j=>
   obtain⟨rfl,hp⟩:=hr
   refine⟨⟨by omega,by omega,fun j b y hy=>?_⟩,by omega⟩
   by_cases e:j=i.toNat
   .subst e;rw[List.getElem?_eq_getElem hi]at hy;cases hy;exact hp
   .exact h2 j (by omega) y hy
  |inr e=>exact hr
 .refine (a i (by omega) (fun x d=>?_)).mono fun r hr=>?_
  .obtain ⟨j,b⟩:=List.mem_iff_getElem?.1 d
   have:=(List.getElem?_eq_some_iff.1 b).1
   exact h2 j (by omega) x b
  .cases r with
   |inl j=>exact hr.elim
   |inr e=>exact hr
theorem U33 {v:Zo} (hv:v.b):Ok (F38 v) (fun r=>r=true->v.sm):=by
 unfold F38
 refine Ob (P:=fun r=>match r with|.inl _=>True|.inr _=>∀e∈v.Events,e.sm) (nQ (fun e=>e.sm) hv.Events (fun i x h0 h1 c hg hw=>?_) (fun i hi hp=>?_)) fun r hr=>?_
 .simp only[h1,decide_true,if_true,hg,Option.bind_some]
  refine Oi (fun hc=>.mk trivial) (fun hc=>?_)
  have a:=hv.EventsE x c
  simp only[Bool.or_eq_true,decide_eq_true_eq,not_or]at hc
  refine Ob (P:=fun r=>match r with|.inl _=>True|.inr _=>∀e∈x.Lyrics,e.sm) (nQ (fun e=>e.sm) a.Lyrics (fun k y j d hy f g=>?_) (fun k hk hp=>?_)) fun r hr=>?_
  .simp only[d,decide_true,if_true,f,Option.bind_some]
   refine Oi (fun hd=>.mk trivial) (fun hd=>?_)
   rw[g]
   exact .mk ⟨rfl,⟨by simp at hd;omega⟩⟩
  .simp only[hk,Int.lt_irrefl,decide_false,Bool.false_eq_true,if_false]
   exact .mk hp
  .cases r with
   |inl u=>exact .mk trivial
   |inr u=>simp only;rw[hw];exact .mk ⟨rfl,⟨by omega,by omega,by omega,hr⟩⟩
 .simp only[hi,Int.lt_irrefl,decide_false,Bool.false_eq_true,if_false]
  exact .mk hp
 .cases r with
  |inl u=>exact .mk (fun h=>by cases h)
  |inr u=>
   refine .mk (fun h=>?_)
   simp only[Bool.and_eq_true,decide_eq_true_eq]at h
   exact⟨by omega,hr,by omega⟩
end Go.P
namespace Go.P
theorem aN {A S E:Type} {l:List A} {body:S->Option (S⊕E)} {Q:E->Prop} {s0:S} (a:S->Int) (I:Nat->S->Prop) (hl:l.length<9223372036854775808) (h0:a s0=0) (g:I 0 s0)
  (h:∀(i:Nat) (x:A) (s:S),l[i]? =some x->x∈l->a s=(i:Int)->a s<(l.length:Int)->I i s->lget l (a s)=some x->w64 (a s+1)=(i:Int)+1->Ok (body s) (fun r=>match r with|.inl s'=>a s'=(i:Int)+1/\I (i+1) s'|.inr e=>Q e))
  (b:∀s,a s=(l.length:Int)->I l.length s->Ok (body s) (fun r=>match r with|.inl _=>False|.inr e=>Q e)):Ok (aO body B64 s0) Q:=by
 have hl:l.length<9223372036854775808:=hl
 refine eH (fun s=>0<=a s/\a s<=l.length/\I (a s).toNat s) (fun s=>l.length-(a s).toNat) (fun s hi=>?_) B64 s0 ⟨by omega,by omega,by rw[h0];exact g⟩ (by simp[B64];omega)
 obtain⟨k,n,d⟩:=hi
 by_cases c:a s<(l.length:Int)
 .have hi:(a s).toNat<l.length:=by omega
  have hc:(((a s).toNat:Nat):Int)=a s:=by omega
  have hg:lget l (a s)=some l[(a s).toNat]:=by unfold lget;rw[if_pos k];simp[hi]
  refine(h (a s).toNat l[(a s).toNat] s (by simp[hi]) (List.getElem_mem hi) hc.symm c d hg (by rw[aU (by omega) (by omega)];omega)).mono fun r hr=>?_
  cases r with
  |inl s'=>
   obtain⟨m,f⟩:=hr
   refine⟨⟨by omega,by omega,?_⟩,by omega⟩
   rw[show(a s').toNat=(a s).toNat+1 by omega]
   exact f
  |inr e=>exact hr
 .refine (b s (by omega) ?_).mono fun r hr=>?_
  .rw [show(a s).toNat=l.length by omega]at d;exact d
  .cases r with
   |inl j=>exact hr.elim
   |inr e=>exact hr
theorem cW {A:Type} {g:Bool} {l:List A} {x:A} (h:l.length<1073741824) {Q:List A->Prop} (a:Q (l++[x])):Ok (lapp g l [x]) Q:=by
 unfold lapp
 have e:Sim.maxRoom=1073741824:=rfl
 rw[if_pos ⟨by rw[e,List.length_cons,List.length_nil];omega,fun _=>Nat.le_refl _⟩]
 exact .mk a
theorem U101 {w:Bool} {id:Zz} {l:List Zv} {s:Z0} {r:Int} (h:l.length<1000000):Ok (Fn96 w id l s r) (fun v=>v.length<=l.length+1):=by
 unfold Fn96
 refine Ob (P:=fun v=>v.length<=l.length+1) (Oi (fun _=>Ob (cW (Q:=fun v=>v.length<=l.length+1) (by omega) (by simp)) fun v hv=>.mk hv) (fun _=>.mk (by omega))) fun v hv=>.mk hv
theorem E103 (n a b:Int):F98 n a b=some (decide (n>=a)&&decide (n<=b)):=rfl
theorem E104 (i:Zl):F99 i=some (if((((decide (i.Steps<(-77)))||(decide (i.Steps>77)))||(decide (i.Semitones<(-140))))||(decide (i.Semitones>140)))then 2 else 0):=by
 unfold F99;split<;>rfl
theorem U102 {s:ByteArray} (h:s.size<9223372036854775808):Ok (F97 s) (fun _=>True):=by
 unfold F97
 refine Ob (P:=fun _=>True) (Oi (fun _=>?_) (fun _=>.mk trivial)) fun v hv=>.mk hv
 have:Ok (F157 s.data.toList) (fun _=>True):=by
  unfold F157
  refine Ob (hA1 (l:=s.data.toList) (g:=fun b=>F156 (b.toNat:Int)) (by rw[Array.length_toList];exact h) (fun x _=>⟨_,rfl⟩)) fun v hv=>.mk trivial
 exact Ob this fun v hv=>.mk trivial
end Go.P
namespace Go.P
section
variable {α β:Type} {Q:α->Prop}
theorem Ok.bindE {P:β->Prop} {x:Option β} {k:β->Option α} (h:Ok x P) (hk:∀v,x=some v->P v->Ok (k v) Q):Ok (x.bind k) Q:=by
 obtain⟨v,rfl,hv⟩:=h
 exact hk v rfl hv
theorem Ok.of {x:Option α} (h:Ok x Q) {v:α} (hv:x=some v):Q v:=by
 obtain⟨w,h1,h2⟩:=h
 rw[h1]at hv;cases hv;exact h2
theorem nR {k:IntKind} {a b:Int} (h:b≠0):Ok (quoO k a b) (fun v=>v=k.wrap (a.tdiv b)):=by
 unfold quoO;rw[if_neg h];exact .mk rfl
theorem vG {k:IntKind} {a b:Int} (h:b≠0):Ok (remO k a b) (fun v=>v=a.tmod b):=by
 unfold remO;rw[if_neg h];exact .mk rfl
theorem nT {k:IntKind} {a b:Int} (h:0<=b):Ok (shrO k a b) (fun v=>v=a.fdiv (2^min b.toNat k.bits)):=by
 unfold shrO;rw[if_neg (by omega)];exact .mk rfl
theorem bJ1 {k:IntKind} {a b:Int} (h:0<=b):Ok (shlO k a b) (fun _=>True):=by
 unfold shlO;rw[if_neg (by omega)];exact .mk trivial
end
section
variable {A:Type} {l:List A}
theorem bJ {i:Int} (h0:0<=i) (h1:i<(l.length:Int)):Ok (lidx l i) (fun v=>v=i.toNat/\v<l.length):=by
 unfold lidx uL;rw[if_pos ⟨h0,h1⟩];exact .mk ⟨rfl,by omega⟩
theorem bS {j:Nat} (h:j<l.length):Ok (lnth l j) (fun x=>l[j]? =some x/\x∈l):=by
 unfold lnth;rw[List.getElem?_eq_getElem h];exact .mk ⟨rfl,List.getElem_mem h⟩
theorem bK1 {j:Nat} {f:A->A} (h:j<l.length):Ok (lput l j f) (fun m=>m.length=l.length):=by
 unfold lput;rw[List.getElem?_eq_getElem h];exact .mk (by simp)
theorem jY {n c:Int} {z:A} (h0:0<=n) (h1:n<=c) (h2:c<=1073741824):Ok (nZ n c z) (fun v=>v=List.replicate n.toNat z):=by
 unfold nZ;rw[if_pos ⟨h0,h1,h2⟩];exact .mk rfl
theorem tK {a b:Int} (h0:0<=a) (h1:a<=b) (h2:b<=(l.length:Int)):Ok (iP l a b) (fun v=>v.length<=l.length/\∀x∈v,x∈l):=by
 unfold iP;rw[if_pos ⟨h0,h1,h2⟩]
 exact .mk ⟨by simp;omega,fun x c=>List.mem_of_mem_drop (List.mem_of_mem_take c)⟩
theorem bL1 {h:Int} (h0:0<l.length) (h1:0<=h) (h2:h<=(l.length:Int)):Ok (tH l h) (fun v=>v.length=h.toNat/\∀x∈v,x∈l):=by
 unfold tH;rw[if_pos ⟨h0,h1,h2⟩]
 exact .mk ⟨by simp;omega,fun x a=>List.mem_of_mem_take a⟩
theorem cM {i:Int} {x:A} (h:lget l i=some x):0<=i/\i<(l.length:Int)/\x∈l/\l[i.toNat]? =some x:=by
 unfold lget at h
 split at h
 .obtain ⟨hi,_⟩:=List.getElem?_eq_some_iff.1 h
  exact⟨by omega,by omega,List.mem_of_getElem? h,h⟩
 .cases h
end
theorem nU {s:ByteArray} {i:Int} (h0:0<=i) (h1:i<(s.size:Int)):Ok (kY s i) (fun v=>0<=v/\v<=255):=by
 unfold kY;rw[if_pos h0]
 have h:i.toNat<s.data.toList.length:=by rw[Array.length_toList];show i.toNat<s.size;omega
 rw[List.getElem?_eq_getElem h]
 have:=(s.data.toList[i.toNat]).toNat_lt
 exact .mk ⟨by dsimp only;omega,by dsimp only;omega⟩
theorem nV {A:Type} {l:List A} (h:l.length<=1073741824):nP l=some l:=by
 unfold nP
 rw[Nat.ble_eq_true_of_le h];rfl
theorem nm:(∀a b:Bool,((a||b)=true)=(a=true\/b=true))/\(∀a b:Bool,((a&&b)=true)=(a=true/\b=true))/\(∀b:Bool,((!b)=true)=(b=false))/\(∀(p:Prop) [Decidable p],(decide p=true)=p)/\
  (∀(p:Prop) [Decidable p],(decide p=false)=¬p)/\(∀p q:Prop,(¬(p\/q))=(¬p/\¬q))/\(∀p q:Prop,(¬(p/\q))=(p->¬q))/\(∀b:Bool,(¬b=true)=(b=false))/\(∀a b:Int,((a !=b)=true)=¬a=b)/\
  (∀a b:Int,((a==b)=true)=(a=b))/\(∀p:Prop,(¬¬p)=p):=
 ⟨fun a b=>by simp,fun a b=>by simp,fun b=>by simp,fun p _=>by simp,fun p _=>by simp,fun p q=>by simp,fun p q=>by simp,fun b=>by simp,fun a b=>by simp,fun a b=>by simp,fun p=>by simp⟩
theorem nl {A:Type}:(∀(a:A) (l:List A),(a::l).length=l.length+1)/\([]:List A).length=0:=⟨fun _ _=>rfl,rfl⟩
theorem nt:(∀[Decidable True],decide True=true)/\(∀(α:Type) [Decidable True] (a b:α),(if True then a else b)=a)/\∀(α β:Type) (a:α) (f:α->Option β),(some a).bind f=f a:=⟨decide_true _,fun _ _ _ _=>if_true ..,fun _ _ _ _=>rfl⟩
theorem nf:(∀a:Int,(a<a)=False)/\(∀[Decidable False],decide False=false)/\((false=true)=False)/\∀(α:Type) [Decidable False] (a b:α),(if False then a else b)=b:=⟨fun a=>by simp,decide_false _,by simp,fun _ _ _ _=>if_false ..⟩
theorem obT {α β:Type} {Q:α->Prop} {x:Option β} {k:β->Option α} (h:Ok x fun _=>True) (hk:∀v,Ok (k v) Q):Ok (x.bind k) Q:=Ob h fun v _=>hk v
theorem lpT {A S E β:Type} {l:List A} {body:S->Option (S⊕E)} {s0:S} {k:E->Option β} {Q:β->Prop} (a:S->Int) (hl:l.length<9223372036854775808) (h0:a s0=0)
  (h:∀(i:Nat) (x:A) (s:S),x∈l->a s=(i:Int)->a s<(l.length:Int)->lget l (a s)=some x->w64 (a s+1)=(i:Int)+1->Ok (body s) (fun r=>match r with|.inl s'=>a s'=(i:Int)+1|.inr _=>True))
  (b:∀s,a s=(l.length:Int)->Ok (body s) (fun r=>match r with|.inl _=>False|.inr _=>True)) (hk:∀e,Ok (k e) Q):Ok ((aO body B64 s0).bind k) Q:=
 obT (aN (l:=l) a (fun _ _=>True) hl h0 trivial (fun i x s _ d hi c _ hg hw=>(h i x s d hi c hg hw).mono fun r hr=>by cases r with|inl s'=>exact⟨hr,trivial⟩|inr e=>trivial) (fun s hi _=>b s hi)) hk
theorem dX1 {s:ByteArray} {n:Nat} (h:s.size<=n):s.data.toList.length<=n:=by rw[Array.length_toList];exact h
theorem eV1 (n:Int): -9223372036854775808<=w64 n/\w64 n<=9223372036854775807:=by
 have e:w64 n=if n%18446744073709551616>=9223372036854775808 then n%18446744073709551616-18446744073709551616 else n%18446744073709551616:=by
  unfold w64 IntKind.wrap
  rw[show((2:Int)^IntKind.bits .i64)=18446744073709551616 from rfl,show((2:Int)^(IntKind.bits .i64-1))=9223372036854775808 from rfl]
  simp[IntKind.signed]
 rw[e]
 split<;>omega
theorem dQ {S E:Type} {body:S->Option (S⊕E)} {Q:E->Prop} {s0:S} (d:S->Int) (N:Int) (I:S->Prop) (g:N<=9223372036854775807) (h0: -1000<=d s0) (f:I s0)
  (h:∀s,I s->d s0<=d s->(d s<N->w64 (d s+1)=d s+1)->Ok (body s) (fun r=>match r with|.inl s'=>d s<N/\d s'=d s+1/\I s'|.inr e=>Q e)):Ok (aO body B64 s0) Q:=by
 refine eH (fun s=>I s/\d s0<=d s) (fun s=>(N-d s).toNat) (fun s hs=>?_) B64 s0 ⟨f,Int.le_refl _⟩ (by simp only[B64];omega)
 refine(h s hs.1 hs.2 (fun hc=>aU (by omega) (by omega))).mono fun r hr=>?_
 cases r with
 |inl s'=>obtain⟨a,b,c⟩:=hr;exact⟨⟨c,by omega⟩,by omega⟩
 |inr e=>exact hr
theorem S101 {w:Bool} {id:Zz} {l:List Zv} {s:Z0} {r:Int} (h:l.length<1000000):Ok (Fn96 w id l s r) (fun v=>(w=true->v.length=l.length+1)/\(w=false->v.length=l.length)):=by
 unfold Fn96
 refine Ob (P:=fun v=>(w=true->v.length=l.length+1)/\(w=false->v.length=l.length)) (Oi (fun h=>Ob (cW (Q:=fun v=>v.length=l.length+1) (by omega) (by simp)) fun v hv=>.mk ⟨fun _=>hv,fun h2=>by rw[h]at h2;cases h2⟩) (fun h=>.mk ⟨fun h2=>absurd h2 h,fun _=>rfl⟩)) fun v hv=>.mk hv
theorem jS1 (n:Int):0<=IntKind.wrap .u8 n/\IntKind.wrap .u8 n<256:=by
 unfold IntKind.wrap
 rw[show((2:Int)^IntKind.bits .u8)=256 from rfl]
 simp[IntKind.signed]
 omega
theorem U59b {l:List Zv} {s:Z0} {r:Int} (hs:s.sm) (h0:s.Measures.length=0) (h:l.length<900000):Ok (Fn59 l s r) (fun v=>0<v.length):=by
 unfold Fn59
 have hp:=hs.Parts
 refine Ob (P:=fun v=>v.length<=l.length+4) (aN (l:=s.Parts) (fun q=>q.1) (fun i q=>q.2.length<=l.length+i) (by omega) rfl (by simp) (fun i x q m f hi e d hg hw=>?_) (fun q hi d=>?_)) fun v1 h1=>?_
 .obtain ⟨k,j⟩:=q
  have g:=hs.PartsE x f
  have n:=g.Name
  simp only at hi e d hg hw
  simp only[e,decide_true,if_true,hg,Option.bind_some,E103,E104]
  refine Ob (U102 (by omega)) fun a _=>?_
  refine Ob (P:=fun _=>True) (by split<;>exact .mk trivial) fun b _=>?_
  refine Ob (P:=fun _=>True) (by split<;>exact .mk trivial) fun c _=>?_
  refine Ob (U101 (by omega)) fun v hv=>.mk ⟨hw,by dsimp only;omega⟩
 .obtain ⟨k,j⟩:=q
  simp only at hi d
  simp only[hi,Int.lt_irrefl,decide_false,Bool.false_eq_true,if_false]
  exact .mk (by omega)
 refine Ob (P:=fun v=>v.length<=l.length+4) (aN (l:=s.Measures) (fun q=>q.1) (fun i q=>q.2.length<=l.length+4) (by omega) rfl h1 (fun i x q m f hi e d hg hw=>by omega) (fun q hi d=>?_)) fun v1 h1=>?_
 .obtain ⟨k,j⟩:=q
  simp only at hi d
  simp only[hi,Int.lt_irrefl,decide_false,Bool.false_eq_true,if_false]
  exact .mk d
 have o:=hs.Title
 refine Ob (U102 (by omega)) fun a _=>?_
 simp only[E103,Option.bind_some]
 refine Ob (P:=fun _=>True) (by split<;>exact .mk trivial) fun b _=>?_
 refine Ob (P:=fun r=>r=true) (Oi (fun _=>.mk rfl) (fun _=>.mk (by simp[h0]))) fun c hc=>?_
 subst hc
 simp only[Bool.true_or]
 refine Ob (S101 (by omega)) fun v hv=>.mk (by have:=hv.1 rfl;omega)
def Zu.ok (n:Int) (t:Zu):Prop:=1<=t.Count/\t.Count<=n/\0<=t.First/\t.First+t.Count<=n/\1<=t.Actual/\t.Actual<=32/\1<=t.Normal/\t.Normal<=32
def Z0.pl (s:Z0) (m c v:Int):Prop:=∃x y z,lget s.Measures m=some x/\lget x.Cells c=some y/\lget y.Voices v=some z
end Go.P
set_option maxHeartbeats 1000000
namespace Go.P
theorem U34 {v:Zo} (hv:v.b):Ok (F39 v) (fun _=>True):=by
 unfold F39
 refine Ob (P:=fun _=>True) (aN (l:=v.Events) (fun q=>q.2) (fun _ _=>True) hv.Events rfl trivial (fun i e q c a hi hl _ hg hw=>?_) (fun q hi _=>?_)) fun v _=>.mk trivial
 .obtain ⟨n,k⟩:=q
  dsimp only at hi hl hg hw
  simp only[hl,hg,decide_true,if_true,Option.bind_some]
  refine Ob (P:=fun _=>True) (aN (l:=e.Lyrics) (fun q=>q.2) (fun _ _=>True) (hv.EventsE e a).Lyrics rfl trivial (fun i e q c a hi hl _ hg hw=>?_) (fun q hi _=>?_)) fun x _=>.mk ⟨hw,trivial⟩
  .obtain ⟨n,k⟩:=q
   dsimp only at hi hl hg hw
   simp only[hl,hg,decide_true,if_true,Option.bind_some]
   exact .mk ⟨hw,trivial⟩
  .obtain ⟨n,k⟩:=q
   dsimp only at hi
   simp only[hi,Int.lt_irrefl,decide_false,Bool.false_eq_true,if_false]
   exact .mk trivial
 .obtain ⟨n,k⟩:=q
  dsimp only at hi
  simp only[hi,Int.lt_irrefl,decide_false,Bool.false_eq_true,if_false]
  exact .mk trivial
theorem U13 {s:Z0} (hb:s.b):Ok (F17 s) (fun r=>r=true->s.sm):=by
 unfold F17
 refine Ob (P:=fun r=>match r with|.inl _=>True|.inr _=>∀p∈s.Parts,p.sm) (nQ (l:=s.Parts) (fun p=>p.sm) hb.Parts (fun i p h0 h1 d hg hw=>?_) (fun i hi o=>?_)) fun r hr=>?_
 .simp only[h1,hg,hw,decide_true,if_true,Option.bind_some]
  refine Ob (P:=fun b=>b=true\/p.sm) (Oi (fun _=>.mk (.inl rfl)) (fun hc=>.mk ?_)) fun b hb=>?_
  .simp only[decide_eq_true_eq]at hc
   by_cases h:(p.Name.size:Int)>300
   .exact .inl (by simpa using h)
   .exact .inr ⟨by omega,by omega⟩
  .exact Oi (fun _=>.mk trivial) (fun hc=>.mk ⟨rfl,hb.resolve_left hc⟩)
 .simp only[hi,Int.lt_irrefl,decide_false,Bool.false_eq_true,if_false]
  exact .mk o
 rcases r with _|_
 .exact .mk (fun h=>by cases h)
 refine Ob (P:=fun r=>match r with|.inl _=>True|.inr _=>∀m∈s.Measures,m.sm) (aN (l:=s.Measures) (fun q=>q.2.2) (fun i q=>∀m∈s.Measures.take i,m.sm) hb.Measures rfl (fun m j=>by simp at j) (fun i m q d j hi hl g hg hw=>?_) (fun q hi g=>?_)) fun r B=>?_
 .obtain ⟨ev,by',k⟩:=q
  have F:=hb.MeasuresE m j
  dsimp only at hi hl hg hw
  simp only[hl,hg,decide_true,if_true,Option.bind_some]
  refine Oi (fun _=>.mk trivial) (fun hc=>?_)
  simp only[Bool.or_eq_true,decide_eq_true_eq,not_or]at hc
  refine Ob (P:=fun r=>match r with|.inl _=>True|.inr _=>∀c∈m.Cells,c.sm) (aN (l:=m.Cells) (fun q=>q.2.2) (fun i q=>∀c∈m.Cells.take i,c.sm) F.Cells rfl (fun m j=>by simp at j) (fun i c q C z hi hl w hg t=>?_) (fun q hi g=>?_)) fun r hr=>?_
  .obtain ⟨ev,by',k⟩:=q
   have E:=F.CellsE c z
   dsimp only at hi hl hg t
   simp only[hl,hg,decide_true,if_true,Option.bind_some]
   refine Ob (P:=fun b=>b=true\/(c.Clefs.length<=5/\c.Voices.length<=3)) (Oi (fun _=>.mk (.inl rfl)) (fun hc=>.mk ?_)) fun b hb=>?_
   .simp only[decide_eq_true_eq]at hc
    by_cases h:(c.Voices.length:Int)>3
    .exact .inl (by simpa using h)
    .exact .inr ⟨by omega,by omega⟩
   refine Oi (fun _=>.mk trivial) (fun hcc=>?_)
   have hcc:=hb.resolve_left hcc
   refine Ob (P:=fun r=>match r with|.inl _=>True|.inr _=>∀v∈c.Voices,v.sm) (aN (l:=c.Voices) (fun q=>q.2.2) (fun i q=>∀v∈c.Voices.take i,v.sm) E.Voices rfl (fun m j=>by simp at j) (fun i v q D A hi hl g hg u=>?_) (fun q hi g=>?_)) fun r hr=>?_
   .obtain ⟨ev,by',k⟩:=q
    have bv:=E.VoicesE v A
    dsimp only at hi hl hg u
    simp only[hl,hg,decide_true,if_true,Option.bind_some]
    refine Ob (U33 bv) fun f hf=>?_
    refine Oi (fun _=>.mk trivial) (fun y=>?_)
    refine Ob (U34 bv) fun n _=>?_
    refine Oi (fun _=>.mk trivial) (fun _=>.mk ⟨u,fun x d=>?_⟩)
    rw[List.take_add_one,D]at d
    rcases List.mem_append.1 d with d|d
    .exact g x d
    .simp at d;subst d;exact hf (by simpa using y)
   .obtain ⟨ev,by',k⟩:=q
    dsimp only at hi
    simp only[hi,Int.lt_irrefl,decide_false,Bool.false_eq_true,if_false]
    rw[List.take_length]at g
    exact .mk g
   .rcases r with⟨a,b⟩|⟨a,b⟩
    .exact .mk trivial
    .refine .mk ⟨t,fun x d=>?_⟩
     rw[List.take_add_one,C]at d
     rcases List.mem_append.1 d with d|d
     .exact w x d
     .simp at d;subst d;exact⟨hcc.1,hcc.2,hr⟩
  .obtain ⟨ev,by',k⟩:=q
   dsimp only at hi
   simp only[hi,Int.lt_irrefl,decide_false,Bool.false_eq_true,if_false]
   rw[List.take_length]at g
   exact .mk g
  .rcases r with⟨a,b⟩|⟨a,b⟩
   .exact .mk trivial
   .refine .mk ⟨hw,fun x e=>?_⟩
    rw[List.take_add_one,d]at e
    rcases List.mem_append.1 e with e|e
    .exact g x e
    .simp at e;subst e;exact⟨by omega,by omega,by omega,hr⟩
 .obtain ⟨ev,by',k⟩:=q
  dsimp only at hi
  simp only[hi,Int.lt_irrefl,decide_false,Bool.false_eq_true,if_false]
  rw[List.take_length]at g
  exact .mk g
 .rcases r with _|_
  .exact .mk (fun h=>by cases h)
  .refine .mk (fun h=>?_)
   simp only[Bool.and_eq_true,decide_eq_true_eq]at h
   exact⟨by omega,by omega,hr,by omega,B,by omega,by omega⟩
end Go.P
set_option maxHeartbeats 2000000
namespace Go.P
theorem T156 {a:Int}:Ok (F156 a) (fun _=>True):=by
 unfold F156
 exact .mk trivial
theorem T205 {f:List UInt8} (a:f.length<=300):Ok (F205 f) (fun _=>True):=by
 unfold F205
 have g:=a
 refine lpT (l:=f) (fun q=>q) (Nat.lt_of_le_of_lt a (by decide)) rfl (fun m k i h b d c e=>?_) (fun i b=>?_) fun j=>?_
 .simp only[d,c,nt]
  refine obT (T156) fun n=>?_
  refine Oi (fun c13=>?_) (fun c13=>?_)
  .exact .mk trivial
  exact .mk e
 .simp only[b,nf]
  exact .mk trivial
 rcases j with o|_
 .exact .mk trivial
 .exact .mk trivial
theorem T157 {b:List UInt8} (a:b.length<=300):Ok (F157 b) (fun _=>True):=by
 unfold F157
 refine obT (T205 a) fun x2=>?_
 exact .mk trivial
theorem T97 {b:ByteArray} (a:b.size<=300):Ok (F97 b) (fun _=>True):=by
 unfold F97
 refine Ob (P:=fun r=>r=true->(decide ((b.size:Int)<=256))=true) ?_ fun d c=>?_
 .refine Oi (fun c16=>?_) (fun _=>.mk (fun h=>by cases h))
  refine obT (T157 (dX1 a)) fun x2=>?_
  exact .mk (fun _=>c16)
 exact .mk trivial
theorem T98 {a x2 b:Int}:Ok (F98 a x2 b) (fun _=>True):=by
 unfold F98
 exact .mk trivial
theorem T99 {a:Zl}:Ok (F99 a) (fun _=>True):=by
 unfold F99
 refine Oi (fun c18=>?_) (fun c18=>?_)
 .exact .mk trivial
 exact .mk trivial
theorem Tn96 {b:Bool} {x2:Zz} {a:List Zv} {c:Z0} {f:Int} (d:a.length+1<=1000000) (e:c.sm):Ok (Fn96 b x2 a c f) (fun v=>a.length<=v.length/\v.length<=a.length+1):=by
 exact(S101 (by omega)).mono fun v h=>by cases b<;>simp at h<;>omega
theorem Tn59 {B:List Zv} {x2:Z0} {x3:Int} (d1:B.length+15<=1000000) (a:x2.sm):Ok (Fn59 B x2 x3) (fun v=>B.length<=v.length/\v.length<=B.length+15):=by
 unfold Fn59
 have b0:=a.Parts
 refine Ob (P:=fun r=>B.length<=r.length/\r.length<=B.length+4) (aN (l:=x2.Parts) (fun q=>q.1) (fun i q=>B.length<=q.2.length/\q.2.length<=B.length+i*1) (Nat.lt_of_le_of_lt a.Parts (by decide)) rfl (by dsimp only;omega) (fun d7 b9 q30 b7 D c s g o x=>?_) (fun q30 c g=>?_)) fun n z19=>?_
 .obtain ⟨N,O⟩:=q30
  dsimp only at c s o x g
  simp only[s,o,nt]
  have M:=a.PartsE _ D
  refine obT (T97 M.Name) fun R=>?_
  refine Ob (P:=fun r=>¬r=true->¬(!R)=true) ?_ fun S K=>?_
  .refine Oi (fun _=>.mk (fun h=>absurd rfl h)) (fun c35=>?_)
   refine obT (T98) fun e4=>?_
   exact .mk (fun _=>c35)
  refine Ob (P:=fun r=>¬r=true->¬S=true) ?_ fun e6 d2=>?_
  .refine Oi (fun _=>.mk (fun h=>absurd rfl h)) (fun c38=>?_)
   have e1:=K c38
   refine obT (T99) fun e5=>?_
   exact .mk (fun _=>c38)
  refine Ob (Tn96 (by first|omega|(simp only[List.length_nil]at *;omega)) a) fun e7 d3=>?_
  exact .mk ⟨x,by dsimp only;omega⟩
 .obtain ⟨N,O⟩:=q30
  dsimp only at c g
  simp only[c,nf]
  exact .mk (by dsimp only;omega)
 have b4:=a.Measures
 refine Ob (P:=fun r=>n.length<=r.length/\r.length<=n.length+10) (aN (l:=x2.Measures) (fun q=>q.1) (fun i q=>n.length<=q.2.length/\q.2.length<=n.length+i*1) (Nat.lt_of_le_of_lt a.Measures (by decide)) rfl (by dsimp only;omega) (fun d8 H q53 b8 E d t j b y=>?_) (fun q53 d j=>?_)) fun f2 f9=>?_
 .obtain ⟨T,U⟩:=q53
  dsimp only at d t b y j
  simp only[t,b,nt]
  have m:=a.MeasuresE _ E
  refine obT (T97 m.Rehearsal) fun e8=>?_
  have b5:=m.Cells
  refine lpT (l:=H.Cells) (fun q=>q.2) (Nat.lt_of_le_of_lt m.Cells (by decide)) rfl (fun d9 J q67 F e u k z=>?_) (fun q67 e=>?_) fun f0=>?_
  .obtain ⟨V,W⟩:=q67
   dsimp only at e u k z
   simp only[u,b,k,nt]
   have C:=m.CellsE _ F
   have b6:=C.Voices
   refine lpT (l:=J.Voices) (fun q=>q.2) (Nat.lt_of_le_of_lt C.Voices (by decide)) rfl (fun e0 d0 q80 G f w p A=>?_) (fun q80 f=>?_) fun e9=>?_
   .obtain ⟨X,Y⟩:=q80
    dsimp only at f w p A
    simp only[w,b,k,p,nt]
    have e3:=C.VoicesE _ G
    exact .mk A
   .obtain ⟨X,Y⟩:=q80
    dsimp only at f
    simp only[f,nf]
    exact .mk trivial
   exact .mk z
  .obtain ⟨V,W⟩:=q67
   dsimp only at e
   simp only[e,nf]
   exact .mk trivial
  refine Ob (Tn96 (by first|omega|(simp only[List.length_nil]at *;omega)) a) fun f1 d4=>?_
  exact .mk ⟨y,by dsimp only;omega⟩
 .obtain ⟨T,U⟩:=q53
  dsimp only at d j
  simp only[d,nf]
  exact .mk (by dsimp only;omega)
 refine obT (T97 a.Title) fun Z=>?_
 refine Ob (P:=fun r=>¬r=true->¬(!Z)=true) ?_ fun a0 L=>?_
 .refine Oi (fun _=>.mk (fun h=>absurd rfl h)) (fun c86=>?_)
  refine obT (T98) fun f3=>?_
  exact .mk (fun _=>c86)
 refine Ob (P:=fun r=>¬r=true->¬a0=true) ?_ fun f7 d5=>?_
 .refine Oi (fun _=>.mk (fun h=>absurd rfl h)) (fun c89=>?_)
  have e2:=L c89
  refine obT (T98) fun f6=>?_
  exact .mk (fun _=>c89)
 refine Ob (Tn96 (by first|omega|(simp only[List.length_nil]at *;omega)) a) fun f8 d6=>?_
 exact .mk (by omega)
theorem Tn91 {a:Z0} (b:a.sm):Ok (Fn91 a) (fun _=>True):=by
 unfold Fn91
 exact .mk trivial
theorem Ty100_5 {f x2:Int} {h i:Int} {j k l:Int} {b:Zj} {a:List Zz} (c:b.sm) (e:a.length+1<=1000000):Ok (Fy100_5 f x2 h i j k l b a) (fun v=>v.length<=a.length+1):=by
 unfold Fy100_5
 refine Ob (cW (Q:=fun v=>v.length=a.length+1) (by omega) (by simp)) fun g d=>?_
 exact .mk (by omega)
theorem Ty100_5_2 {d x2:Int} {f g:Int} {h i j:Int} {k:Zf} {a:List Zz} (c:a.length+1<=1000000):Ok (Fy100_5_2 d x2 f g h i j k a) (fun v=>v.length<=a.length+1):=by
 unfold Fy100_5_2
 refine Ob (cW (Q:=fun v=>v.length=a.length+1) (by omega) (by simp)) fun e b=>?_
 exact .mk (by omega)
theorem Ty100_5_3 {f x2:Int} {h i:Int} {j k l:Int} {b:Zm} {a:List Zz} (c:b.sm) (e:a.length+1<=1000000):Ok (Fy100_5_3 f x2 h i j k l b a) (fun v=>v.length<=a.length+1):=by
 unfold Fy100_5_3
 refine Ob (cW (Q:=fun v=>v.length=a.length+1) (by omega) (by simp)) fun g d=>?_
 exact .mk (by omega)
theorem Ty100_5_4 {f x2:Int} {h i:Int} {j k l:Int} {b:Ze} {a:List Zz} (c:b.sm) (e:a.length+1<=1000000):Ok (Fy100_5_4 f x2 h i j k l b a) (fun v=>v.length<=a.length+1):=by
 unfold Fy100_5_4
 refine Ob (cW (Q:=fun v=>v.length=a.length+1) (by omega) (by simp)) fun g d=>?_
 exact .mk (by omega)
theorem Ty100_5_5 {d x2:Int} {f g:Int} {h i j:Int} {k:Zn} {a:List Zz} (c:a.length+1<=1000000):Ok (Fy100_5_5 d x2 f g h i j k a) (fun v=>v.length<=a.length+1):=by
 unfold Fy100_5_5
 refine Ob (cW (Q:=fun v=>v.length=a.length+1) (by omega) (by simp)) fun e b=>?_
 exact .mk (by omega)
theorem Tn154 {x1:Z0} {x2:List Zz} (k:x1.sm) (j6:x2.length+3044<=1000000):Ok (Fn154 x1 x2) (fun v=>v.length<=x2.length+3044):=by
 unfold Fn154
 have e5:=k.Parts
 refine Ob (P:=fun r=>r.length<=x2.length+24) (aN (l:=x1.Parts) (fun q=>q.2.1) (fun i q=>q.2.2.length<=x2.length+i*6) (Nat.lt_of_le_of_lt k.Parts (by decide)) rfl (by dsimp only;omega) (fun j7 b7 q109 f2 a0 c C m w K=>?_) (fun q109 c m=>?_)) fun e1 k1=>?_
 .obtain ⟨g3,g4,g5⟩:=q109
  dsimp only at c C w K m
  simp only[C,w,nt]
  have T:=k.PartsE _ a0
  refine Ob (Ty100_5 T (by first|omega|(simp only[List.length_nil]at *;omega))) fun e0 h3=>?_
  have e6:=T.Staves
  refine Ob (P:=fun r=>r.2.length<=e0.length+5) (aN (l:=b7.Staves) (fun q=>q.2.1) (fun i q=>q.2.2.length<=e0.length+i*1) (Nat.lt_of_le_of_lt T.Staves (by decide)) rfl (by dsimp only;omega) (fun h8 g9 q125 f3 e3 d D n z L=>?_) (fun q125 d n=>?_)) fun⟨j9,k0⟩ e2=>?_
  .obtain ⟨g6,g7,g8⟩:=q125
   dsimp only at d D z L n
   simp only[D,w,z,nt]
   refine Ob (Ty100_5_2 (by first|omega|(simp only[List.length_nil]at *;omega))) fun j8 h4=>?_
   exact .mk ⟨L,by dsimp only;omega⟩
  .obtain ⟨g6,g7,g8⟩:=q125
   dsimp only at d n
   simp only[d,nf]
   exact .mk (by dsimp only;omega)
  try dsimp only at e2
  exact .mk ⟨K,by dsimp only;omega⟩
 .obtain ⟨g3,g4,g5⟩:=q109
  dsimp only at c m
  simp only[c,nf]
  exact .mk (by dsimp only;omega)
 have e7:=k.Measures
 refine Ob (P:=fun r=>r.length<=e1.length+3010) (aN (l:=x1.Measures) (fun q=>q.1) (fun i q=>q.2.length<=e1.length+i*301) (Nat.lt_of_le_of_lt k.Measures (by decide)) rfl (by dsimp only;omega) (fun h9 b8 q140 f6 b0 e E o a M=>?_) (fun q140 e o=>?_)) fun Z j1=>?_
 .obtain ⟨d2,d3⟩:=q140
  dsimp only at e E a M o
  simp only[E,a,nt]
  have y:=k.MeasuresE _ b0
  refine Ob (Ty100_5_3 y (by first|omega|(simp only[List.length_nil]at *;omega))) fun Y h5=>?_
  have e8:=y.Cells
  refine Ob (P:=fun r=>r.length<=Y.length+300) (aN (l:=b8.Cells) (fun q=>q.1) (fun i q=>q.2.length<=Y.length+i*60) (Nat.lt_of_le_of_lt y.Cells (by decide)) rfl (by dsimp only;omega) (fun i0 b9 q156 f7 b4 f F p b N=>?_) (fun q156 f p=>?_)) fun i7 j2=>?_
  .obtain ⟨d4,W⟩:=q156
   dsimp only at f F b N p
   simp only[F,a,b,nt]
   have U:=y.CellsE _ b4
   have e9:=U.Voices
   refine Ob (P:=fun r=>r.length<=W.length+60) (aN (l:=b9.Voices) (fun q=>q.1) (fun i q=>q.2.length<=W.length+i*20) (Nat.lt_of_le_of_lt U.Voices (by decide)) rfl (by dsimp only;omega) (fun i1 d0 q171 f8 b5 g G s x O=>?_) (fun q171 g s=>?_)) fun i6 j3=>?_
   .obtain ⟨d5,X⟩:=q171
    dsimp only at g G x O s
    simp only[G,a,b,x,nt]
    have V:=U.VoicesE _ b5
    have f0:=V.Events
    refine Ob (P:=fun r=>r.length<=X.length+20) (aN (l:=d0.Events) (fun q=>q.1) (fun i q=>q.2.length<=X.length+i*1) (Nat.lt_of_le_of_lt V.Events (by decide)) rfl (by dsimp only;omega) (fun i2 h0 q187 f9 b6 h H t A R=>?_) (fun q187 h t=>?_)) fun i5 j4=>?_
    .obtain ⟨d6,d7⟩:=q187
     dsimp only at h H A R t
     simp only[H,a,b,x,A,nt]
     have d1:=V.EventsE _ b6
     refine Ob (Ty100_5_4 d1 (by first|omega|(simp only[List.length_nil]at *;omega))) fun i4 h6=>?_
     exact .mk ⟨R,by dsimp only;omega⟩
    .obtain ⟨d6,d7⟩:=q187
     dsimp only at h t
     simp only[h,nf]
     exact .mk (by dsimp only;omega)
    exact .mk ⟨O,by dsimp only;omega⟩
   .obtain ⟨d5,X⟩:=q171
    dsimp only at g s
    simp only[g,nf]
    exact .mk (by dsimp only;omega)
   exact .mk ⟨N,by dsimp only;omega⟩
  .obtain ⟨d4,W⟩:=q156
   dsimp only at f p
   simp only[f,nf]
   exact .mk (by dsimp only;omega)
  exact .mk ⟨M,by dsimp only;omega⟩
 .obtain ⟨d2,d3⟩:=q140
  dsimp only at e o
  simp only[e,nf]
  exact .mk (by dsimp only;omega)
 have f1:=k.Spanners
 refine Ob (P:=fun r=>r.length<=Z.length+10) (aN (l:=x1.Spanners) (fun q=>q.1) (fun i q=>q.2.length<=Z.length+i*1) (Nat.lt_of_le_of_lt k.Spanners (by decide)) rfl (by dsimp only;omega) (fun i3 h2 q205 g1 e4 j J u B S=>?_) (fun q205 j u=>?_)) fun j0 j5=>?_
 .obtain ⟨d8,d9⟩:=q205
  dsimp only at j J B S u
  simp only[J,B,nt]
  refine Ob (Ty100_5_5 (by first|omega|(simp only[List.length_nil]at *;omega))) fun i9 h7=>?_
  exact .mk ⟨S,by dsimp only;omega⟩
 .obtain ⟨d8,d9⟩:=q205
  dsimp only at j u
  simp only[j,nf]
  exact .mk (by dsimp only;omega)
 exact .mk (by omega)
theorem T100 {c:Z0} (a:c.sm):Ok (F100 c) (fun v=>v.length<=4000):=by
 unfold F100
 refine obT (Tn91 a) fun _=>?_
 refine Ob (Tn154 a (by first|omega|(simp only[List.length_nil]at *;omega))) fun x2 b=>?_
 exact .mk (by simp only[List.length_nil]at *;omega)
theorem T101 {b:Zz}:Ok (F101 b) (fun _=>True):=by
 unfold F101
 refine obT (T98) fun x2=>?_
 refine Ob (P:=fun r=>r=true->x2=true) ?_ fun d a=>?_
 .refine Oi (fun c212=>?_) (fun _=>.mk (fun h=>by cases h))
  refine obT (T98) fun c=>?_
  exact .mk (fun _=>c212)
 exact .mk trivial
theorem T8 {h:Z0} {x2:Int} (e:h.sm):Ok (F8 h x2) (fun _=>True):=by
 unfold F8
 have g:=e.Last
 refine lpT (l:=h.Last) (fun q=>q) (Nat.lt_of_le_of_lt e.Last (by decide)) rfl (fun j i k f a c b d=>?_) (fun k a=>?_) fun m=>?_
 .simp only[c,b,nt]
  refine Oi (fun c225=>?_) (fun c225=>?_)
  .exact .mk trivial
  exact .mk d
 .simp only[a,nf]
  exact .mk trivial
 rcases m with n|_
 .exact .mk trivial
 .exact .mk trivial
theorem Tn60 {o:List Zv} {x2:Z0} {x3:Int} (W:o.length+4001<=1000000) (c:x2.sm):Ok (Fn60 o x2 x3) (fun v=>o.length<=v.length/\v.length<=o.length+4001):=by
 unfold Fn60
 refine Ob (T100 c) fun x4 n=>?_
 have C:=n
 refine Ob (P:=fun r=>o.length<=r.2.length/\r.2.length<=o.length+4000) (aN (l:=x4) (fun q=>q.1) (fun i q=>o.length<=q.2.2.length/\q.2.2.length<=o.length+i*1) (Nat.lt_of_le_of_lt n (by decide)) rfl (by dsimp only;omega) (fun T p q238 F z a g d e k=>?_) (fun q238 a d=>?_)) fun⟨a0,b0⟩ y=>?_
 .obtain ⟨G,t,H⟩:=q238
  dsimp only at a g e k d
  simp only[g,e,nt]
  refine obT (T101) fun J=>?_
  refine Ob (P:=fun r=>¬r=true->¬((!J)||(mget t p false))=true) ?_ fun Y M=>?_
  .refine Oi (fun _=>.mk (fun h=>absurd rfl h)) (fun c242=>?_)
   refine obT (T8 c) fun X=>?_
   exact .mk (fun _=>c242)
  refine Ob (Tn96 (by first|omega|(simp only[List.length_nil]at *;omega)) c) fun Z N=>?_
  exact .mk ⟨k,by dsimp only;omega⟩
 .obtain ⟨G,t,H⟩:=q238
  dsimp only at a d
  simp only[a,nf]
  exact .mk (by dsimp only;omega)
 try dsimp only at y
 have D:=c.Last
 refine lpT (l:=x2.Last) (fun q=>q.2) (Nat.lt_of_le_of_lt c.Last (by decide)) rfl (fun U L q255 A b j f m=>?_) (fun q255 b=>?_) fun b8=>?_
 .obtain ⟨u,w⟩:=q255
  dsimp only at b j f m
  simp only[j,f,nt]
  refine Ob (P:=fun r=>¬r=true->¬u=true) ?_ fun K s=>?_
  .refine Oi (fun _=>.mk (fun h=>absurd rfl h)) (fun c258=>?_)
   refine obT (T101) fun b4=>?_
   exact .mk (fun _=>c258)
  refine Ob (P:=fun r=>¬r=true->¬K=true) ?_ fun b7 O=>?_
  .refine Oi (fun _=>.mk (fun h=>absurd rfl h)) (fun c261=>?_)
   have V:=s c261
   refine Ob (P:=fun r=>r=true->(decide (w>0))=true) ?_ fun b6 R=>?_
   .refine Oi (fun c264=>?_) (fun _=>.mk (fun h=>by cases h))
    have E:=c.Last
    refine Ob (P:=fun x=>x∈x2.Last) (bC (by(simp only[nm]at *;rw[aU (by omega) (by omega)];omega)) (by(simp only[nm]at *;rw[aU (by omega) (by omega)];omega)) (fun _ h _=>h)) fun b5 B=>?_
    exact .mk (fun _=>c264)
   exact .mk (fun _=>c261)
  exact .mk m
 .obtain ⟨u,w⟩:=q255
  dsimp only at b
  simp only[b,nf]
  exact .mk trivial
 refine Ob (Tn96 (by first|omega|(simp only[List.length_nil]at *;omega)) c) fun b9 S=>?_
 exact .mk (by omega)
theorem T32 {b:Z0} (a:b.sm):Ok (F32 b) (fun v=>v<=9223372036854775807):=by
 unfold F32
 have hp:=a.Parts
 refine Ob (P:=fun v=>v<=9223372036854775807) (aN (l:=b.Parts) (fun q=>q.2) (fun i q=>q.1<=9223372036854775807) (by omega) rfl (by decide) (fun i e q f d hi hl _ hg hw=>?_) (fun q hi c=>?_)) fun v hv=>.mk hv
 .obtain ⟨n,x⟩:=q
  dsimp only at hi hl hg hw
  simp only[hl,hg,nt]
  exact .mk ⟨hw,(eV1 _).2⟩
 .obtain ⟨n,x⟩:=q
  dsimp only at hi c
  simp only[hi,nf]
  exact .mk c
theorem T103 {N:Int} {x2:Zm} {V:Int} (m:x2.sm):Ok (F103 N x2 V) (fun _=>True):=by
 unfold F103
 have v:=m.Cells
 refine lpT (l:=x2.Cells) (fun q=>q.2) (Nat.lt_of_le_of_lt m.Cells (by decide)) rfl (fun G e q279 n b g d j=>?_) (fun q279 b=>?_) fun U=>?_
 .obtain ⟨u,A⟩:=q279
  dsimp only at b g d j
  simp only[g,d,nt]
  have a:=m.CellsE _ n
  refine Ob (P:=fun r=>¬r=true->¬(u||((e.Voices.length:Int)==0))=true) ?_ fun B t=>?_
  .refine Oi (fun _=>.mk (fun h=>absurd rfl h)) (fun c283=>?_)
   have w:=a.Voices
   refine Ob (P:=fun x=>x∈e.Voices) (bC (by omega) (by(simp only[nm]at *;omega)) (fun _ h _=>h)) fun O o=>?_
   have K:=a.VoicesE _ o
   exact .mk (fun _=>c283)
  refine Ob (P:=fun r=>¬r=true->¬B=true) ?_ fun S F=>?_
  .refine Oi (fun _=>.mk (fun h=>absurd rfl h)) (fun c289=>?_)
   have J:=t c289
   have y:=a.Voices
   refine Ob (P:=fun x=>x∈e.Voices) (bC (by(simp only[nm]at *;rw[aU (by omega) (by omega)];omega)) (by(simp only[nm]at *;rw[aU (by omega) (by omega)];omega)) (fun _ h _=>h)) fun R p=>?_
   have L:=a.VoicesE _ p
   exact .mk (fun _=>c289)
  have z:=a.Voices
  refine lpT (l:=e.Voices) (fun q=>q.2) (Nat.lt_of_le_of_lt a.Voices (by decide)) rfl (fun H E q305 s c i f k=>?_) (fun q305 c=>?_) fun T=>?_
  .obtain ⟨C,D⟩:=q305
   dsimp only at c i f k
   simp only[i,d,f,nt]
   have M:=a.VoicesE _ s
   exact .mk k
  .obtain ⟨C,D⟩:=q305
   dsimp only at c
   simp only[c,nf]
   exact .mk trivial
  exact .mk j
 .obtain ⟨u,A⟩:=q279
  dsimp only at b
  simp only[b,nf]
  exact .mk trivial
 exact .mk trivial
theorem Tn102 {u:Int} {x2:List Zv} {m:Z0} {z:Int} (t:x2.length+10<=1000000) (f:m.sm):Ok (Fn102 u x2 m z) (fun v=>x2.length<=v.length/\v.length<=x2.length+10):=by
 unfold Fn102
 have j:=f.Measures
 refine Ob (P:=fun r=>x2.length<=r.length/\r.length<=x2.length+10) (aN (l:=m.Measures) (fun q=>q.1) (fun i q=>x2.length<=q.2.length/\q.2.length<=x2.length+i*1) (Nat.lt_of_le_of_lt f.Measures (by decide)) rfl (by dsimp only;omega) (fun p n q319 k g a d b c e=>?_) (fun q319 a b=>?_)) fun y s=>?_
 .obtain ⟨A,B⟩:=q319
  dsimp only at a d c e b
  simp only[d,c,nt]
  have h:=f.MeasuresE _ g
  refine obT (T103 h) fun w=>?_
  refine Ob (Tn96 (by first|omega|(simp only[List.length_nil]at *;omega)) f) fun x o=>?_
  exact .mk ⟨e,by dsimp only;omega⟩
 .obtain ⟨A,B⟩:=q319
  dsimp only at a b
  simp only[a,nf]
  exact .mk (by dsimp only;omega)
 exact .mk (by omega)
theorem Tn61 {b:List Zv} {x2:Z0} {f:Int} (e:b.length+10<=1000000) (a:x2.sm):Ok (Fn61 b x2 f) (fun v=>b.length<=v.length/\v.length<=b.length+10):=by
 unfold Fn61
 refine Ob (T32 a) fun g c=>?_
 refine Ob (Tn102 (by first|omega|(simp only[List.length_nil]at *;omega)) a) fun h d=>?_
 exact .mk (by omega)
theorem T206:Ok (F206) (fun _=>True):=by
 unfold F206
 exact .mk trivial
theorem T158 {b:Int}:Ok (F158 b) (fun _=>True):=by
 unfold F158
 refine Oi (fun c326=>?_) (fun c326=>?_)
 .exact .mk trivial
 refine obT (T206) fun x2=>?_
 refine Ob (bC (Q:=fun _=>True) (by(simp only[nm]at *;rw[aU (by omega) (by omega)];omega)) (by(simp only[nm,nl]at *;rw[aU (by omega) (by omega)];omega)) (fun _ _ _=>trivial)) fun c a=>?_
 exact .mk trivial
theorem T104 {a:Int}:Ok (F104 a) (fun _=>True):=by
 unfold F104
 refine obT (T158) fun⟨x2,b⟩=>?_
 exact .mk trivial
theorem T231 {c:Zx}:Ok (F231 c) (fun _=>True):=by
 unfold F231
 refine Oi (fun _=>.mk trivial) (fun _=>?_)
 refine Ob (P:=fun _=>True) (dQ (fun q=>q.2.2) 6 (fun _=>True) (by decide) (by decide) trivial (fun q _ h1 h2=>?_)) fun r _=>?_
 .obtain ⟨a,n,i⟩:=q
  dsimp only at h1 h2 ⊢
  refine Oi (fun hc=>?_) (fun _=>.mk trivial)
  simp only[decide_eq_true_eq]at hc
  refine Ob (bC (Q:=fun _=>True) h1 hc (fun _ _ _=>trivial)) fun x _=>?_
  refine Oi (fun _=>.mk trivial) (fun _=>?_)
  refine Ob (P:=fun _=>True) (Oi (fun _=>.mk trivial) (fun _=>.mk trivial)) fun v _=>.mk ⟨hc,h2 hc,trivial⟩
 .rcases r with⟨a,b⟩|⟨a,b⟩<;>exact .mk trivial
theorem T207 {a:Zx}:Ok (F207 a) (fun v=>v=0->a.Unit≠0):=by
 unfold F207
 refine Oi (fun c330=>?_) (fun c330=>?_)
 .exact .mk (by omega)
 refine Oi (fun c331=>?_) (fun c331=>?_)
 .exact .mk (by omega)
 refine obT (T231) fun x2=>?_
 refine Oi (fun c333=>?_) (fun c333=>?_)
 .exact .mk (by omega)
 exact .mk (by(simp only[nm]at *;omega))
theorem T232 {b:Zx} (c:b.Unit≠0):Ok (F232 b) (fun _=>True):=by
 unfold F232
 refine Ob (nR (by omega)) fun x2 a=>?_
 exact .mk trivial
theorem T208 {a:Zx} (b:a.Unit≠0):Ok (F208 a) (fun _=>True):=by
 unfold F208
 refine obT (T232 (by omega)) fun x2=>?_
 exact .mk trivial
theorem T159 {b:Zx}:Ok (F159 b) (fun _=>True):=by
 unfold F159
 refine Ob (T207) fun x2 a=>?_
 refine Oi (fun c337=>?_) (fun c337=>?_)
 .exact .mk trivial
 refine obT (T208 (by(simp only[nm]at *;omega))) fun c=>?_
 exact .mk trivial
theorem T106 {b:Zm} (c:b.sm):Ok (F106 b) (fun _=>True):=by
 unfold F106
 refine obT (T159) fun⟨x2,d⟩=>?_
 refine Oi (fun c340=>?_) (fun c340=>?_)
 .exact .mk trivial
 refine Oi (fun c341=>?_) (fun c341=>?_)
 .exact .mk trivial
 refine obT ?_ fun e=>?_
 .refine Oi (fun c343=>?_) (fun c343=>?_)
  .exact .mk trivial
  exact .mk trivial
 refine Ob (vG (by omega)) fun f a=>?_
 refine Oi (fun c345=>?_) (fun c345=>?_)
 .exact .mk trivial
 refine Oi (fun c346=>?_) (fun c346=>?_)
 .exact .mk trivial
 exact .mk trivial
theorem T105 {N:Int} {x2:Zm} (k:x2.sm):Ok (F105 N x2) (fun _=>True):=by
 unfold F105
 refine obT (T106 k) fun⟨X,Y⟩=>?_
 have y:=k.Cells
 refine lpT (l:=x2.Cells) (fun q=>q.2) (Nat.lt_of_le_of_lt k.Cells (by decide)) rfl (fun J m q358 o a e c g=>?_) (fun q358 a=>?_) fun W=>?_
 .obtain ⟨B,C⟩:=q358
  dsimp only at a e c g
  simp only[e,c,nt]
  have j:=k.CellsE _ o
  have z:=j.Clefs
  refine lpT (l:=m.Clefs) (fun q=>q.2) (Nat.lt_of_le_of_lt j.Clefs (by decide)) rfl (fun K F q371 v b f d i=>?_) (fun q371 b=>?_) fun V=>?_
  .obtain ⟨t,u⟩:=q371
   dsimp only at b f d i
   simp only[f,c,d,nt]
   refine Ob (P:=fun r=>¬r=true->¬t=true) ?_ fun D n=>?_
   .refine Oi (fun _=>.mk (fun h=>absurd rfl h)) (fun c374=>?_)
    refine obT (T104) fun O=>?_
    exact .mk (fun _=>c374)
   refine Ob (P:=fun r=>¬r=true->¬D=true) ?_ fun E p=>?_
   .refine Oi (fun _=>.mk (fun h=>absurd rfl h)) (fun c377=>?_)
    have L:=n c377
    refine obT (T98) fun R=>?_
    exact .mk (fun _=>c377)
   refine Ob (P:=fun r=>¬r=true->¬E=true) ?_ fun U G=>?_
   .refine Oi (fun _=>.mk (fun h=>absurd rfl h)) (fun c381=>?_)
    have s:=p c381
    have M:=n s
    refine Ob (P:=fun r=>r=true->(decide (u>0))=true) ?_ fun T H=>?_
    .refine Oi (fun c385=>?_) (fun _=>.mk (fun h=>by cases h))
     have A:=j.Clefs
     refine Ob (P:=fun x=>x∈m.Clefs) (bC (by(simp only[nm]at *;rw[aU (by omega) (by omega)];omega)) (by(simp only[nm]at *;rw[aU (by omega) (by omega)];omega)) (fun _ h _=>h)) fun S w=>?_
     exact .mk (fun _=>c385)
    exact .mk (fun _=>c381)
   exact .mk i
  .obtain ⟨t,u⟩:=q371
   dsimp only at b
   simp only[b,nf]
   exact .mk trivial
  exact .mk g
 .obtain ⟨B,C⟩:=q358
  dsimp only at a
  simp only[a,nf]
  exact .mk trivial
 exact .mk trivial
theorem Tn102_2 {g:List Zv} {x2:Z0} {y:Int} (t:g.length+10<=1000000) (f:x2.sm):Ok (Fn102_2 g x2 y) (fun v=>g.length<=v.length/\v.length<=g.length+10):=by
 unfold Fn102_2
 have k:=f.Measures
 refine Ob (P:=fun r=>g.length<=r.length/\r.length<=g.length+10) (aN (l:=x2.Measures) (fun q=>q.1) (fun i q=>g.length<=q.2.length/\q.2.length<=g.length+i*1) (Nat.lt_of_le_of_lt f.Measures (by decide)) rfl (by dsimp only;omega) (fun p n q400 m h a d b c e=>?_) (fun q400 a b=>?_)) fun x s=>?_
 .obtain ⟨z,A⟩:=q400
  dsimp only at a d c e b
  simp only[d,c,nt]
  have j:=f.MeasuresE _ h
  refine obT (T105 j) fun u=>?_
  refine Ob (Tn96 (by first|omega|(simp only[List.length_nil]at *;omega)) f) fun w o=>?_
  exact .mk ⟨e,by dsimp only;omega⟩
 .obtain ⟨z,A⟩:=q400
  dsimp only at a b
  simp only[a,nf]
  exact .mk (by dsimp only;omega)
 exact .mk (by omega)
theorem Tn62 {p:List Zv} {x2:Z0} {T:Int} (L:p.length+30<=1000000) (f:x2.sm):Ok (Fn62 p x2 T) (fun v=>p.length<=v.length/\v.length<=p.length+30):=by
 unfold Fn62
 have w:=f.Parts
 refine Ob (P:=fun r=>p.length<=r.length/\r.length<=p.length+20) (aN (l:=x2.Parts) (fun q=>q.1) (fun i q=>p.length<=q.2.length/\q.2.length<=p.length+i*5) (Nat.lt_of_le_of_lt f.Parts (by decide)) rfl (by dsimp only;omega) (fun G t q416 y s a h c e k=>?_) (fun q416 a c=>?_)) fun R J=>?_
 .obtain ⟨A,n⟩:=q416
  dsimp only at a h e k c
  simp only[h,e,nt]
  have o:=f.PartsE _ s
  have x:=o.Staves
  refine Ob (P:=fun r=>n.length<=r.length/\r.length<=n.length+5) (aN (l:=t.Staves) (fun q=>q.1) (fun i q=>n.length<=q.2.length/\q.2.length<=n.length+i*1) (Nat.lt_of_le_of_lt o.Staves (by decide)) rfl (by dsimp only;omega) (fun H D q430 z u b j d g m=>?_) (fun q430 b d=>?_)) fun O K=>?_
  .obtain ⟨B,C⟩:=q430
   dsimp only at b j g m d
   simp only[j,e,g,nt]
   refine obT (T104) fun M=>?_
   refine Ob (Tn96 (by first|omega|(simp only[List.length_nil]at *;omega)) f) fun N E=>?_
   exact .mk ⟨m,by dsimp only;omega⟩
  .obtain ⟨B,C⟩:=q430
   dsimp only at b d
   simp only[b,nf]
   exact .mk (by dsimp only;omega)
  exact .mk ⟨k,by dsimp only;omega⟩
 .obtain ⟨A,n⟩:=q416
  dsimp only at a c
  simp only[a,nf]
  exact .mk (by dsimp only;omega)
 refine Ob (Tn102_2 (by first|omega|(simp only[List.length_nil]at *;omega)) f) fun S F=>?_
 exact .mk (by omega)
theorem T160 {a:Int}:Ok (F160 a) (fun _=>True):=by
 unfold F160
 refine Oi (fun c435=>?_) (fun c435=>?_)
 .exact .mk trivial
 exact .mk trivial
theorem T108 {a:Int} {x2:Zl}:Ok (F108 a x2) (fun _=>True):=by
 unfold F108
 refine Ob T160 fun c _=>?_
 refine Oi (fun _=>.mk trivial) (fun _=>?_)
 refine Oi (fun _=>.mk trivial) (fun _=>?_)
 have hw:=eV1 (a+(w64 ((w64 (7*x2.Semitones))-(w64 (12*x2.Steps)))))
 generalize w64 (a+(w64 ((w64 (7*x2.Semitones))-(w64 (12*x2.Steps)))))=x0 at hw ⊢
 refine Ob (P:=fun v=> -9223372036854775808<=v/\v<=7) (eH (fun x=> -9223372036854775808<=x/\x<=9223372036854775807) (fun x=>(x+9223372036854775808).toNat) (fun x b=>?_) B64 x0 hw (by simp only[B64];omega)) fun a h1=>?_
 .refine Oi (fun hc=>?_) (fun hc=>?_)<;>simp only[decide_eq_true_eq]at hc
  .rw [aU (by omega) (by omega)];exact .mk ⟨by omega,by omega⟩
  .exact .mk (by omega)
 refine Ob (P:=fun v=>True) (eH (fun x=> -9223372036854775808<=x/\x<=7) (fun x=>(7-x).toNat) (fun x b=>?_) B64 a h1 (by simp only[B64];omega)) fun x2 _=>.mk trivial
 refine Oi (fun hc=>?_) (fun hc=>?_)<;>simp only[decide_eq_true_eq]at hc
 .rw [aU (by omega) (by omega)];exact .mk ⟨by omega,by omega⟩
 .exact .mk trivial
theorem T107 {t:Int} {x2:Zm} {m:Zk} (g:x2.sm) (e:m.s'.sm):Ok (F107 t x2 m) (fun _=>True):=by
 unfold F107
 refine obT (T106 g) fun⟨z,y⟩=>?_
 refine Ob (P:=fun r=>¬r=true->¬(y !=0)=true) ?_ fun B o=>?_
 .refine Oi (fun _=>.mk (fun h=>absurd rfl h)) (fun c438=>?_)
  refine obT (T98) fun A=>?_
  exact .mk (fun _=>c438)
 have i:=e.Parts
 refine lpT (l:=m.s'.Parts) (fun q=>q.2) (Nat.lt_of_le_of_lt e.Parts (by decide)) rfl (fun p n q450 f a c b d=>?_) (fun q450 a=>?_) fun x=>?_
 .obtain ⟨j,k⟩:=q450
  dsimp only at a c b d
  simp only[c,b,nt]
  have s:=e.PartsE _ f
  refine obT ?_ fun w=>?_
  .refine Oi (fun c454=>?_) (fun c454=>?_)
   .refine obT (T108) fun⟨u,v⟩=>?_
    exact .mk trivial
   exact .mk trivial
  exact .mk d
 .obtain ⟨j,k⟩:=q450
  dsimp only at a
  simp only[a,nf]
  exact .mk trivial
 exact .mk trivial
theorem Tn102_3 {g:List Zv} {x2:Z0} {y:Int} (t:g.length+10<=1000000) (c:x2.sm):Ok (Fn102_3 g x2 y) (fun v=>g.length<=v.length/\v.length<=g.length+10):=by
 unfold Fn102_3
 have k:=c.Measures
 refine Ob (P:=fun r=>g.length<=r.length/\r.length<=g.length+10) (aN (l:=x2.Measures) (fun q=>q.1) (fun i q=>g.length<=q.2.length/\q.2.length<=g.length+i*1) (Nat.lt_of_le_of_lt c.Measures (by decide)) rfl (by dsimp only;omega) (fun p n q467 m h a e b d f=>?_) (fun q467 a b=>?_)) fun x s=>?_
 .obtain ⟨z,A⟩:=q467
  dsimp only at a e d f b
  simp only[e,d,nt]
  have j:=c.MeasuresE _ h
  refine obT (T107 j c) fun u=>?_
  refine Ob (Tn96 (by first|omega|(simp only[List.length_nil]at *;omega)) c) fun w o=>?_
  exact .mk ⟨f,by dsimp only;omega⟩
 .obtain ⟨z,A⟩:=q467
  dsimp only at a b
  simp only[a,nf]
  exact .mk (by dsimp only;omega)
 exact .mk (by omega)
theorem Tn63 {a:List Zv} {x2:Z0} {e:Int} (d:a.length+10<=1000000) (b:x2.sm):Ok (Fn63 a x2 e) (fun v=>a.length<=v.length/\v.length<=a.length+10):=by
 unfold Fn63
 refine Ob (Tn102_3 (by first|omega|(simp only[List.length_nil]at *;omega)) b) fun f c=>?_
 exact .mk (by omega)
theorem T168 {a x2:Int}:Ok (F168 a x2) (fun _=>True):=by
 unfold F168
 refine Oi (fun c473=>?_) (fun c473=>?_)
 .exact .mk trivial
 exact .mk trivial
theorem T167 {h:List Int} (e:h.length<=20):Ok (F167 h) (fun _=>True):=by
 unfold F167
 have g:=e
 refine lpT (l:=h) (fun q=>q) (Nat.lt_of_le_of_lt e (by decide)) rfl (fun j i k f a c b d=>?_) (fun k a=>?_) fun m=>?_
 .simp only[c,b,nt]
  refine Oi (fun c485=>?_) (fun c485=>?_)
  .exact .mk trivial
  exact .mk d
 .simp only[a,nf]
  exact .mk trivial
 rcases m with n|_
 .exact .mk trivial
 .exact .mk trivial
theorem T169 {a:Int}:Ok (F169 a) (fun _=>True):=by
 unfold F169
 exact .mk trivial
theorem T214 {a:Int}:Ok (F214 a) (fun _=>True):=by
 unfold F214
 refine Oi (fun c486=>?_) (fun c486=>?_)
 .exact .mk trivial
 exact .mk trivial
theorem T171 {b:Ze} (d:b.sm):Ok (F171 b) (fun v=>v.sm):=by
 unfold F171
 refine Ob (P:=fun r=>¬r=true->¬(b.Kind==1)=true) ?_ fun e a=>?_
 .refine Oi (fun _=>.mk (fun h=>absurd rfl h)) (fun c488=>?_)
  refine obT (T169) fun x2=>?_
  exact .mk (fun _=>c488)
 refine Oi (fun c490=>?_) (fun c490=>?_)
 .exact .mk (by first|assumption|exact⟨Nat.zero_le _,Nat.zero_le _,Nat.zero_le _,fun _ h=>nomatch h⟩)
 have c:=a c490
 refine obT ?_ fun f=>?_
 .refine Oi (fun c493=>?_) (fun c493=>?_)
  .exact .mk trivial
  exact .mk trivial
 refine obT ?_ fun i=>?_
 .refine Oi (fun c495=>?_) (fun c495=>?_)
  .refine obT (T214) fun g=>?_
   exact .mk trivial
  exact .mk trivial
 exact .mk (by first|assumption|exact⟨Nat.zero_le _,Nat.zero_le _,Nat.zero_le _,fun _ h=>nomatch h⟩)
theorem T211 {m x2:List Zb} (e:m.length<=12) (f:x2.length<=12):Ok (F211 m x2) (fun _=>True):=by
 unfold F211
 refine Oi (fun c497=>?_) (fun c497=>?_)
 .exact .mk trivial
 have j:=e
 refine lpT (l:=m) (fun q=>q) (Nat.lt_of_le_of_lt e (by decide)) rfl (fun o n p g a c b d=>?_) (fun p a=>?_) fun r=>?_
 .simp only[c,b,nt]
  have k:=f
  refine Ob (P:=fun x=>x∈x2) (bC (by omega) (by(simp only[nm]at *;omega)) (fun _ h _=>h)) fun s i=>?_
  refine Oi (fun c512=>?_) (fun c512=>?_)
  .exact .mk trivial
  exact .mk d
 .simp only[a,nf]
  exact .mk trivial
 rcases r with _|_
 .exact .mk trivial
 .exact .mk trivial
theorem T212 {m x2:List Zd} (e:m.length<=12) (f:x2.length<=12):Ok (F212 m x2) (fun _=>True):=by
 unfold F212
 refine Oi (fun c513=>?_) (fun c513=>?_)
 .exact .mk trivial
 have j:=e
 refine lpT (l:=m) (fun q=>q) (Nat.lt_of_le_of_lt e (by decide)) rfl (fun o n p g a c b d=>?_) (fun p a=>?_) fun r=>?_
 .simp only[c,b,nt]
  have k:=f
  refine Ob (P:=fun x=>x∈x2) (bC (by omega) (by(simp only[nm]at *;omega)) (fun _ h _=>h)) fun s i=>?_
  refine Oi (fun c528=>?_) (fun c528=>?_)
  .exact .mk trivial
  exact .mk d
 .simp only[a,nf]
  exact .mk trivial
 rcases r with _|_
 .exact .mk trivial
 .exact .mk trivial
theorem T213 {k x2:List Zy} (g:k.length<=12) (i:∀y∈k,y.sm) (m:x2.length<=12) (j:∀y∈x2,y.sm):Ok (F213 k x2) (fun _=>True):=by
 unfold F213
 refine Oi (fun c529=>?_) (fun c529=>?_)
 .exact .mk trivial
 have n:=g
 refine lpT (l:=k) (fun q=>q) (Nat.lt_of_le_of_lt g (by decide)) rfl (fun r p u d a c b f=>?_) (fun u a=>?_) fun v=>?_
 .simp only[c,b,nt]
  have s:=i _ d
  have o:=m
  refine Ob (P:=fun x=>x∈x2) (bC (by omega) (by(simp only[nm]at *;omega)) (fun _ h _=>h)) fun w e=>?_
  have t:=j _ e
  refine Oi (fun c546=>?_) (fun c546=>?_)
  .exact .mk trivial
  exact .mk f
 .simp only[a,nf]
  exact .mk trivial
 rcases v with _|_
 .exact .mk trivial
 .exact .mk trivial
theorem T170 {a x2:Ze} (b:a.sm) (c:x2.sm):Ok (F170 a x2) (fun _=>True):=by
 unfold F170
 refine Ob (P:=fun r=>r=true->(((((((a.Kind==x2.Kind)&&(((a.Value.Log==x2.Value.Log)&&((a.Value.Dots==x2.Value.Dots)&&true))!=false))&&(a.Articulations==x2.Articulations))&&(a.Ornament==x2.Ornament))&&(a.Dynamic==x2.Dynamic))&&(a.Stem==x2.Stem))&&(a.Beam==x2.Beam))=true) ?_ fun k d=>?_
 .refine Oi (fun c548=>?_) (fun _=>.mk (fun h=>by cases h))
  refine obT (T211 b.Heads c.Heads) fun m=>?_
  exact .mk (fun _=>c548)
 refine Ob (P:=fun r=>r=true->k=true) ?_ fun l e=>?_
 .refine Oi (fun c551=>?_) (fun _=>.mk (fun h=>by cases h))
  have i:=d c551
  refine obT (T212 b.Graces c.Graces) fun n=>?_
  exact .mk (fun _=>c551)
 refine Ob (P:=fun r=>r=true->l=true) ?_ fun p g=>?_
 .refine Oi (fun c555=>?_) (fun _=>.mk (fun h=>by cases h))
  have f:=e c555
  have j:=d f
  refine obT (T213 b.Lyrics b.LyricsE c.Lyrics c.LyricsE) fun o=>?_
  exact .mk (fun _=>c555)
 exact .mk trivial
theorem T172 {a:Za}:Ok (F172 a) (fun v=>v=0-> -1<=a.Log/\a.Log<=8/\0<=a.Dots/\a.Dots<=3):=by
 unfold F172
 refine Oi (fun c559=>?_) (fun c559=>?_)
 .exact .mk (by omega)
 exact .mk (by(simp only[nm]at *;omega))
theorem T203:Ok (F203) (fun _=>True):=by
 unfold F203
 exact .mk trivial
theorem T148 {a:Zh} (c:0<=a.Step/\a.Step<=6):Ok (F148 a) (fun _=>True):=by
 unfold F148
 refine obT (T203) fun x2=>?_
 refine Ob (bC (Q:=fun _=>True) (by omega) (by(simp only[nm,nl]at *;omega)) (fun _ _ _=>trivial)) fun d b=>?_
 exact .mk trivial
theorem T147 {a:Zh}:Ok (F147 a) (fun v=>v=0->0<=a.Step/\a.Step<=6):=by
 unfold F147
 refine Oi (fun c562=>?_) (fun c562=>?_)
 .exact .mk (by omega)
 refine obT (T148 (by(simp only[nm]at *;omega))) fun x2=>?_
 refine Oi (fun c564=>?_) (fun c564=>?_)
 .exact .mk (by omega)
 exact .mk (by(simp only[nm]at *;omega))
theorem T79 {b:Zh}:Ok (F79 b) (fun _=>True):=by
 unfold F79
 refine Ob (T147) fun x2 a=>?_
 refine Oi (fun c566=>?_) (fun c566=>?_)
 .exact .mk trivial
 refine obT (T148 (by(simp only[nm]at *;omega))) fun c=>?_
 exact .mk trivial
theorem T216 {a:Zh}:Ok (F216 a) (fun _=>True):=by
 unfold F216
 refine obT (T79) fun⟨x2,b⟩=>?_
 refine Oi (fun c569=>?_) (fun c569=>?_)
 .exact .mk trivial
 exact .mk trivial
theorem T215 {a:Zb}:Ok (F215 a) (fun _=>True):=by
 unfold F215
 refine obT (T216) fun⟨x2,b⟩=>?_
 refine obT (T168) fun c=>?_
 refine obT (T167 (by simp)) fun d=>?_
 exact .mk trivial
theorem T173 {h:List Zb} (e:h.length<=12):Ok (F173 h) (fun _=>True):=by
 unfold F173
 refine Oi (fun c573=>?_) (fun c573=>?_)
 .exact .mk trivial
 refine Oi (fun c574=>?_) (fun c574=>?_)
 .exact .mk trivial
 have g:=e
 refine lpT (l:=h) (fun q=>q.2) (Nat.lt_of_le_of_lt e (by decide)) rfl (fun k j q585 f a c b d=>?_) (fun q585 a=>?_) fun i=>?_
 .obtain ⟨p,r⟩:=q585
  dsimp only at a c b d
  simp only[c,b,nt]
  refine obT (T215) fun s=>?_
  refine Oi (fun c588=>?_) (fun c588=>?_)
  .exact .mk trivial
  refine obT (T216) fun⟨m,n⟩=>?_
  refine Oi (fun c590=>?_) (fun c590=>?_)
  .exact .mk trivial
  exact .mk d
 .obtain ⟨p,r⟩:=q585
  dsimp only at a
  simp only[a,nf]
  exact .mk trivial
 rcases i with o|_
 .exact .mk trivial
 .exact .mk trivial
theorem T174 {h:List Zd} (e:h.length<=12):Ok (F174 h) (fun _=>True):=by
 unfold F174
 refine Oi (fun c591=>?_) (fun c591=>?_)
 .exact .mk trivial
 have g:=e
 refine lpT (l:=h) (fun q=>q) (Nat.lt_of_le_of_lt e (by decide)) rfl (fun k j m f a c b d=>?_) (fun m a=>?_) fun i=>?_
 .simp only[c,b,nt]
  refine obT (T216) fun⟨n,o⟩=>?_
  refine Oi (fun c604=>?_) (fun c604=>?_)
  .exact .mk trivial
  refine Oi (fun c605=>?_) (fun c605=>?_)
  .exact .mk trivial
  exact .mk d
 .simp only[a,nf]
  exact .mk trivial
 rcases i with p|_
 .exact .mk trivial
 .exact .mk trivial
theorem T217 {c:Zy} (a:c.sm):Ok (F217 c) (fun _=>True):=by
 unfold F217
 refine Oi (fun _=>.mk trivial) (fun _=>?_)
 refine Oi (fun _=>.mk trivial) (fun _=>?_)
 have hs:=a.Text
 refine Ob (P:=fun _=>True) (dQ (fun q=>q) (c.Text.size:Int) (fun _=>True) (by omega) (by decide) trivial (fun i _ h1 h2=>?_)) fun r _=>?_
 .refine Oi (fun hc=>?_) (fun _=>.mk trivial)
  simp only[decide_eq_true_eq]at hc
  refine Ob (nU h1 hc) fun b _=>?_
  refine Ob (P:=fun _=>True) (Oi (fun _=>.mk trivial) (fun _=>Ob (nU h1 hc) fun b _=>.mk trivial)) fun b _=>?_
  exact Oi (fun _=>.mk trivial) (fun _=>.mk ⟨hc,h2 hc,trivial⟩)
 .rcases r with _|_
  .exact .mk trivial
  .exact Oi (fun _=>.mk trivial) (fun _=>.mk trivial)
theorem T218 {a:Zy} (b:a.sm):Ok (F218 a) (fun _=>True):=by
 unfold F218
 exact .mk trivial
theorem T175 {j:List Zy} (c:j.length<=12) (b:∀y∈j,y.sm):Ok (F175 j) (fun _=>True):=by
 unfold F175
 refine Oi (fun c606=>?_) (fun c606=>?_)
 .exact .mk trivial
 have o:=c
 refine lpT (l:=j) (fun q=>q) (Nat.lt_of_le_of_lt c (by decide)) rfl (fun t s z f a e d i=>?_) (fun z a=>?_) fun A=>?_
 .simp only[e,d,nt]
  have m:=b _ f
  refine obT (T217 m) fun B=>?_
  refine Oi (fun c620=>?_) (fun c620=>?_)
  .exact .mk trivial
  exact .mk i
 .simp only[a,nf]
  exact .mk trivial
 rcases A with C|_
 .exact .mk trivial
 .refine Ob (P:=fun r=>r=true->(decide ((j.length:Int)>0))=true) ?_ fun w k=>?_
  .refine Oi (fun c622=>?_) (fun _=>.mk (fun h=>by cases h))
   have p:=c
   refine Ob (P:=fun x=>x∈j) (bC (by(simp only[nm]at *;rw[aU (by omega) (by omega)];omega)) (by(simp only[nm]at *;rw[aU (by omega) (by omega)];omega)) (fun _ h _=>h)) fun D g=>?_
   have n:=b _ g
   refine obT (T218 n) fun v=>?_
   exact .mk (fun _=>c622)
  refine Oi (fun c628=>?_) (fun c628=>?_)
  .have u:=k c628
   exact .mk trivial
  exact .mk trivial
theorem T114 {d:Ze} (a:d.sm):Ok (F114 d) (fun _=>True):=by
 unfold F114
 refine obT (T168) fun x2=>?_
 refine obT (T168) fun y=>?_
 refine obT (T167 (by simp)) fun z=>?_
 refine Oi (fun c633=>?_) (fun c633=>?_)
 .exact .mk trivial
 refine obT (T169) fun A=>?_
 refine Oi (fun c635=>?_) (fun c635=>?_)
 .exact .mk trivial
 refine Ob (T171 a) fun B b=>?_
 refine obT (T170 a b) fun C=>?_
 refine Oi (fun c638=>?_) (fun c638=>?_)
 .exact .mk trivial
 refine Ob (P:=fun r=>r=true->(d.Kind !=3)=true) ?_ fun E c=>?_
 .refine Oi (fun c640=>?_) (fun _=>.mk (fun h=>by cases h))
  refine Ob (T172) fun D e=>?_
  exact .mk (fun _=>c640)
 refine Oi (fun c642=>?_) (fun c642=>?_)
 .have f:=c c642
  exact .mk trivial
 refine Oi (fun c644=>?_) (fun c644=>?_)
 .refine obT (T173 a.Heads) fun g=>?_
  refine obT (T174 a.Graces) fun i=>?_
  refine obT (T175 a.Lyrics a.LyricsE) fun j=>?_
  refine obT (T167 (by simp)) fun k=>?_
  refine Oi (fun c649=>?_) (fun c649=>?_)
  .exact .mk trivial
  refine obT (T168) fun l=>?_
  refine obT (T168) fun m=>?_
  refine obT (T168) fun n=>?_
  refine obT (T168) fun o=>?_
  refine obT (T168) fun p=>?_
  refine obT (T167 (by simp)) fun q=>?_
  exact .mk trivial
 refine obT (T168) fun s=>?_
 refine obT (T168) fun t=>?_
 refine obT (T168) fun u=>?_
 refine obT (T168) fun v=>?_
 refine obT (T168) fun w=>?_
 refine obT (T167 (by simp)) fun x=>?_
 exact .mk trivial
theorem T162 {b:Ze} (a:b.sm):Ok (F162 b) (fun _=>True):=by
 unfold F162
 refine obT (T114 a) fun x2=>?_
 exact .mk trivial
theorem T95 {i:List Ze} (f:i.length<=20) (g:∀y∈i,y.sm):Ok (F95 i) (fun _=>True):=by
 unfold F95
 have j:=f
 refine lpT (l:=i) (fun q=>q) (Nat.lt_of_le_of_lt f (by decide)) rfl (fun m k n d a c b e=>?_) (fun n a=>?_) fun o=>?_
 .simp only[c,b,nt]
  have h:=g _ d
  refine obT (T162 h) fun p=>?_
  refine Oi (fun c676=>?_) (fun c676=>?_)
  .exact .mk trivial
  exact .mk e
 .simp only[a,nf]
  exact .mk trivial
 rcases o with r|_
 .exact .mk trivial
 .exact .mk trivial
theorem T57 {c:List Ze} (b:c.length<=20) (a:∀y∈c,y.sm):Ok (F57 c) (fun _=>True):=by
 unfold F57
 refine obT (T95 b a) fun x2=>?_
 exact .mk trivial
theorem T247 {c:Zo} (b:c.sm):Ok (F247 c) (fun _=>True):=by
 unfold F247
 refine Ob (P:=fun r=>r=true->(decide ((c.Events.length:Int)>0))=true) ?_ fun g e=>?_
 .refine Oi (fun c679=>?_) (fun _=>.mk (fun h=>by cases h))
  have d:=b.Events
  refine Ob (P:=fun x=>x∈c.Events) (bC (by omega) (by(simp only[nm]at *;omega)) (fun _ h _=>h)) fun x2 a=>?_
  have f:=b.EventsE _ a
  exact .mk (fun _=>c679)
 exact .mk trivial
theorem T268 {b:Za} (c: -1<=b.Log/\b.Log<=8/\0<=b.Dots/\b.Dots<=3):Ok (F268 b) (fun _=>True):=by
 unfold F268
 refine Ob (nT (by rw[aU (by omega) (by omega)];omega)) fun n _=>?_
 refine Ob (P:=fun _=>True) (dQ (fun q=>q.2.2) b.Dots (fun _=>True) (by omega) (by dsimp only;omega) trivial (fun q _ h1 h2=>?_)) fun r _=>.mk trivial
 obtain⟨a,n,i⟩:=q
 dsimp only at h1 h2 ⊢
 refine Oi (fun hc=>?_) (fun _=>.mk trivial)
 simp only[decide_eq_true_eq]at hc
 exact Ob (nR (by decide)) fun x _=>.mk ⟨hc,h2 hc,trivial⟩
theorem T262 {b:Za}:Ok (F262 b) (fun _=>True):=by
 unfold F262
 refine Ob (T172) fun x2 a=>?_
 refine Oi (fun c685=>?_) (fun c685=>?_)
 .exact .mk trivial
 refine obT (T268 (by(simp only[nm]at *;omega))) fun c=>?_
 exact .mk trivial
theorem T258 {b:Ze} (a:b.sm):Ok (F258 b) (fun _=>True):=by
 unfold F258
 refine obT (T114 a) fun x2=>?_
 refine Oi (fun c688=>?_) (fun c688=>?_)
 .exact .mk trivial
 refine obT (T262) fun⟨c,d⟩=>?_
 exact .mk trivial
theorem T254 {c:List Ze} (h:c.length<=20) (d:∀y∈c,y.sm):Ok (F254 c) (fun v=>v.length<=20):=by
 unfold F254
 refine Ob (jY (by omega) (by omega) (by omega)) fun o h2=>?_
 refine Ob (P:=fun v=>v.length=c.length) (aN (l:=c) (fun q=>q.1) (fun _ q=>q.2.length=c.length) (by omega) rfl (by rw[h2];simp) (fun i e q n g hi hl f hg hw=>?_) (fun q hi f=>?_)) fun v hv=>.mk (by omega)
 .obtain ⟨x,l⟩:=q
  dsimp only at hi hl f hg hw
  simp only[hl,hg,nt]
  refine Ob (T258 (d e g)) fun⟨a,b⟩ _=>?_
  refine Ob (bJ (by omega) (by omega)) fun j k=>?_
  refine Ob (bK1 (by omega)) fun m g=>.mk ⟨hw,by dsimp only;omega⟩
 .obtain ⟨x,l⟩:=q
  dsimp only at hi f
  simp only[hi,nf]
  exact .mk f
theorem T265 {a:Int}:Ok (F265 a) (fun v=>v=true->1<=a/\a<=32):=by
 unfold F265
 exact .mk (by(simp only[nm]at *;omega))
theorem T266 {a x2:Zu}:Ok (F266 a x2) (fun _=>True):=by
 unfold F266
 refine Oi (fun c690=>?_) (fun c690=>?_)
 .refine Oi (fun c691=>?_) (fun c691=>?_)
  .exact .mk trivial
  exact .mk trivial
 refine Oi (fun c692=>?_) (fun c692=>?_)
 .refine Oi (fun c693=>?_) (fun c693=>?_)
  .exact .mk trivial
  exact .mk trivial
 exact .mk trivial
theorem T264 {a:Zu}:Ok (F264 a) (fun v=>v=w64 (a.First+a.Count)):=by
 unfold F264
 exact .mk (by rfl)
theorem Tn263 {i:Zu} {x2:List Zu} (f:x2.length<=6) (g:x2.length<=3):Ok (Fn263 i x2) (fun v=>v.2.length<=3):=by
 unfold Fn263
 refine Ob (P:=fun v=>v.length<=3) (eH (fun l=>l.length<=3) (fun l=>l.length) (fun l hl=>?_) B64 x2 g (by simp only[B64];omega)) fun x c=>?_
 .refine Ob (P:=fun r=>r=true->0<l.length) (Oi (fun hc=>?_) (fun _=>.mk (fun h=>by cases h))) fun b hb=>?_
  .simp only[decide_eq_true_eq]at hc
   refine Ob (bJ (by rw[aU (by omega) (by omega)];omega) (by rw[aU (by omega) (by omega)];omega)) fun j a=>?_
   exact Ob (bS a.2) fun y _=>Ob T264 fun e _=>.mk (fun _=>by omega)
  .refine Oi (fun hc=>?_) (fun _=>.mk hl)
   have:=hb hc
   refine Ob (bL1 this (by rw[aU (by omega) (by omega)];omega) (by rw[aU (by omega) (by omega)];omega)) fun m d=>?_
   have:=d.1
   rw[aU (by omega) (by omega)]at this
   exact .mk ⟨by omega,by omega⟩
 .refine Ob (P:=fun r=>r=true\/x.length<3) (Oi (fun hc=>.mk (.inl rfl)) (fun hc=>?_)) fun b hb=>?_
  .have hc:x.length<3:=by simp only[beq_iff_eq]at hc;omega
   refine Ob (P:=fun _=>True) (Oi (fun hd=>?_) (fun _=>.mk trivial)) fun b _=>.mk (.inr hc)
   simp only[decide_eq_true_eq]at hd
   refine Ob T264 fun e _=>?_
   refine Ob (bJ (by rw[aU (by omega) (by omega)];omega) (by rw[aU (by omega) (by omega)];omega)) fun j a=>?_
   exact Ob (bS a.2) fun y _=>Ob T264 fun e _=>.mk trivial
  .refine Oi (fun _=>.mk c) (fun hc=>?_)
   have hb:x.length<3:=by rcases hb with h|h;exact absurd h hc;exact h
   refine Ob (cW (Q:=fun v=>v.length=x.length+1) (by omega) (by simp)) fun m d=>.mk (by dsimp only;omega)
theorem T259 {d:List Zu} {x2:Int} (w:d.length<=6):Ok (F259 d x2) (fun v=>v=0->∀t∈d,t.ok x2):=by
 unfold F259
 refine Oi (fun _=>.mk (fun h=>by cases h)) (fun k=>?_)
 refine Oi (fun _=>.mk (fun h=>by cases h)) (fun _=>?_)
 simp only[Bool.or_eq_true,decide_eq_true_eq,not_or]at k
 refine Ob (P:=fun r=>match r with|.inl p=>p.1≠0|.inr _=>∀t∈d,t.ok x2) (aN (l:=d) (fun q=>q.1) (fun i q=>q.2.length<=3/\∀j,j<i->∀t,d[j]? =some t->t.ok x2) (by omega) rfl ⟨by decide,fun j g=>by omega⟩ (fun i e q z u hi hl c hg hw=>?_) (fun q hi c=>?_)) fun v hv=>?_
 .obtain ⟨x,l⟩:=q
  dsimp only at hi hl c hg hw
  simp only[hl,hg,nt]
  refine Ob (P:=fun r=>r=false->(1<=e.Count/\e.Count<=x2/\0<=e.First/\e.First+e.Count<=x2/\1<=e.Actual/\e.Actual<=32)) (Oi (fun _=>.mk (fun h=>by cases h)) (fun hc=>?_)) fun b1 h1=>?_
  .simp only[Bool.or_eq_true,decide_eq_true_eq,not_or]at hc
   rw[aU (by omega) (by omega)]at hc
   refine Ob T265 fun r hr=>.mk (fun h=>?_)
   have:=hr (by simpa using h)
   omega
  refine Ob (P:=fun r=>r=false->e.ok x2) (Oi (fun hc=>.mk (fun h=>by cases h)) (fun hc=>?_)) fun b2 h2=>?_
  .refine Ob T265 fun r hr=>.mk (fun h=>?_)
   have:=hr (by simpa using h)
   have:=h1 (by simpa using hc)
   unfold Zu.ok;omega
  refine Oi (fun _=>.mk (show(2:Int)≠0 by decide)) (fun hc=>?_)
  have s:e.ok x2:=h2 (by simp only[Bool.or_eq_true,not_or,Bool.not_eq_true]at hc;exact hc.1)
  refine Ob (P:=fun _=>True) (Oi (fun hd=>?_) (fun _=>.mk trivial)) fun b3 _=>?_
  .simp only[decide_eq_true_eq]at hd
   have:=cM hg
   refine Ob (bC (Q:=fun _=>True) (by rw[aU (by omega) (by omega)];omega) (by rw[aU (by omega) (by omega)];omega) (fun _ _ _=>trivial)) fun y _=>?_
   exact Ob T266 fun o _=>.mk trivial
  refine Oi (fun _=>.mk (show(25:Int)≠0 by decide)) (fun _=>?_)
  refine Ob (Tn263 (Nat.le_trans c.1 (by decide)) c.1) fun⟨a,m⟩ u=>?_
  refine Oi (fun _=>.mk (show(21:Int)≠0 by decide)) (fun _=>.mk ⟨hw,u,fun j g t f=>?_⟩)
  by_cases n:j=i
  .subst n;rw[z]at f;cases f;exact s
  .exact c.2 j (by omega) t f
 .obtain ⟨x,l⟩:=q
  dsimp only at hi c
  simp only[hi,nf]
  refine .mk (fun t f=>?_)
  obtain⟨j,g⟩:=List.mem_iff_getElem?.1 f
  exact c.2 j (List.getElem?_eq_some_iff.1 g).1 t g
 .rcases v with⟨a,b⟩|b
  .exact .mk (fun h=>absurd h hv)
  .exact .mk (fun _=>hv)
theorem T269 {a:Zu} {x2:Int}:Ok (F269 a x2) (fun _=>True):=by
 unfold F269
 exact .mk trivial
theorem T270 {c x2:Int} (k:0<c/\0<x2/\x2<9223372036854775808):Ok (F270 c x2) (fun v=>0<v/\v∣c/\v∣x2):=by
 unfold F270
 refine Ob (P:=fun v=>0<v/\v∣c/\v∣x2) (eH (fun q=>0<q.1/\0<=q.2/\∀d:Int,d∣q.1->d∣q.2->d∣c/\d∣x2) (fun q=>q.2.toNat) (fun q j=>?_) B64 (c,x2) ⟨k.1,by dsimp only;omega,fun d h1 h2=>⟨h1,h2⟩⟩ (by simp only[B64];omega)) fun v hv=>.mk hv
 obtain⟨a,b⟩:=q
 obtain⟨h1,h2,g⟩:=j
 dsimp only at h1 h2 g
 refine Oi (fun hc=>?_) (fun hc=>?_)<;>simp only[decide_eq_true_eq]at hc
 .refine Ob (vG (by omega)) fun n i=>?_
  have h:n=a%b:=by rw[i,Int.tmod_eq_emod_of_nonneg (by omega)]
  have l:=Int.emod_nonneg a (by omega:b≠0)
  have m:=Int.emod_lt_of_pos a hc
  refine .mk ⟨⟨hc,by dsimp only;omega,fun d e f=>g d ?_ e⟩,by dsimp only;omega⟩
  dsimp only at e f
  rw[h]at f
  have:=Int.emod_add_mul_ediv a b
  rw[<-this]
  exact Int.dvd_add f (Int.dvd_trans e (Int.dvd_mul_right b _))
 .have:b=0:=by omega
  subst this
  exact .mk ⟨h1,g a (Int.dvd_refl a) (Int.dvd_zero a)⟩
theorem T267 {o:List Zu} {x2:Int} (w:o.length<=6) (C:∀t∈o,1<=t.Actual/\t.Actual<=32/\1<=t.Normal/\t.Normal<=32):Ok (F267 o x2) (fun v=>1<=v.2):=by
 unfold F267
 refine Ob (P:=fun v=>1<=v.2) (aN (l:=o) (fun q=>q.2.2) (fun i q=>1<=q.1/\q.1<=32^i/\1<=q.2.1/\q.2.1<=32^i) (by omega) rfl ⟨by decide,by decide,by decide,by decide⟩ (fun i e q E z hi hl f hg hw=>?_) (fun q hi f=>?_)) fun v hv=>.mk hv
 .obtain ⟨a,b,x⟩:=q
  dsimp only at hi hl f hg hw
  simp only[hl,hg,nt]
  have j:=C e z
  refine Ob T269 fun c _=>?_
  have y:i<=5:=by omega
  have A:(32:Int)^i<=33554432:=by
   have:i=0\/i=1\/i=2\/i=3\/i=4\/i=5:=by omega
   rcases this with rfl|rfl|rfl|rfl|rfl|rfl<;>decide
  have B:(32:Int)^(i+1)=32^i*32:=Int.pow_succ 32 i
  refine Ob (P:=fun v=>1<=v.1/\v.1<=32^(i+1)/\1<=v.2/\v.2<=32^(i+1)) (Oi (fun _=>?_) (fun _=>?_)) fun⟨v1,v2⟩ hv=>.mk ⟨hw,hv⟩
  .have F:1<=a*e.Normal:=Int.le_trans (by decide) (Int.mul_le_mul f.1 j.2.2.1 (by decide) (by omega))
   have G:a*e.Normal<=32^i*32:=Int.mul_le_mul f.2.1 j.2.2.2 (by omega) (by omega)
   have s:1<=b*e.Actual:=Int.le_trans (by decide) (Int.mul_le_mul f.2.2.1 j.1 (by decide) (by omega))
   have u:b*e.Actual<=32^i*32:=Int.mul_le_mul f.2.2.2 j.2.1 (by omega) (by omega)
   rw[aU (n:=a*e.Normal) (by omega) (by omega),aU (n:=b*e.Actual) (by omega) (by omega)]
   generalize a*e.Normal=N at F G ⊢
   generalize b*e.Actual=D at s u ⊢
   refine Ob (T270 ⟨by omega,by omega,by omega⟩) fun g hg=>?_
   obtain⟨H,⟨k,rfl⟩,⟨m,rfl⟩⟩:=hg
   have J:1<=k:=by
    rcases Int.lt_or_le k 1 with h|h
    .have:=Int.mul_nonneg (a:=g) (b:= -k) (by omega) (by omega)
     rw[Int.mul_neg]at this;omega
    .exact h
   have L:1<=m:=by
    rcases Int.lt_or_le m 1 with h|h
    .have:=Int.mul_nonneg (a:=g) (b:= -m) (by omega) (by omega)
     rw[Int.mul_neg]at this;omega
    .exact h
   have K:k<=g*k:=by
    have:=Int.mul_le_mul (a:=1) (b:=k) (c:=g) (d:=k) (by omega) (Int.le_refl k) (by omega) (by omega)
    omega
   have M:m<=g*m:=by
    have:=Int.mul_le_mul (a:=1) (b:=m) (c:=g) (d:=m) (by omega) (Int.le_refl m) (by omega) (by omega)
    omega
   refine Ob (nR (by omega)) fun q1 p=>?_
   refine Ob (nR (by omega)) fun q2 r=>?_
   rw[Int.mul_tdiv_cancel_left k (by omega),show IntKind.wrap .i64 k=w64 k from rfl,aU (by omega) (by omega)]at p
   rw[Int.mul_tdiv_cancel_left m (by omega),show IntKind.wrap .i64 m=w64 m from rfl,aU (by omega) (by omega)]at r
   exact .mk ⟨by dsimp only;omega,by dsimp only;omega,by dsimp only;omega,by dsimp only;omega⟩
  .exact .mk ⟨f.1,by dsimp only;omega,f.2.2.1,by dsimp only;omega⟩
 .obtain ⟨a,b,x⟩:=q
  dsimp only at hi f
  simp only[hi,nf]
  exact .mk f.2.2.1
theorem T260 {c:List Zu} {x2 f:Int} (b:c.length<=6) (g:∀t∈c,1<=t.Actual/\t.Actual<=32/\1<=t.Normal/\t.Normal<=32):Ok (F260 c x2 f) (fun _=>True):=by
 unfold F260
 refine Oi (fun c694=>?_) (fun c694=>?_)
 .exact .mk trivial
 refine Ob (T267 b (by omega)) fun⟨h,i⟩ a=>?_
 try dsimp only at a
 refine Ob (vG (by omega)) fun j d=>?_
 refine Oi (fun c697=>?_) (fun c697=>?_)
 .exact .mk trivial
 refine Ob (nR (by omega)) fun k e=>?_
 exact .mk trivial
theorem T255 {j:List Zu} {x2:List Int} (d:j.length<=6) (g:x2.length<=20):Ok (F255 j x2) (fun v=>v.1.length<=20/\(v.2=0->∀t∈j,t.ok x2.length)):=by
 unfold F255
 refine Ob (T259 d) fun c hc=>?_
 refine Oi (fun hd=>.mk ⟨Nat.zero_le _,fun h=>absurd h (by simpa using hd)⟩) (fun hd=>?_)
 have k:=hc (by simpa using hd)
 refine Ob (jY (by decide) (by omega) (by omega)) fun u n=>?_
 refine Ob (P:=fun r=>match r with|.inl p=>p.1≠0|.inr l=>l.length<=x2.length) (aN (l:=x2) (fun q=>q.1) (fun i q=>q.2.length<=i) (by omega) rfl (by rw[n];decide) (fun i e q s o hi hl f hg hw=>?_) (fun q hi f=>?_)) fun v hv=>?_
 .obtain ⟨x,l⟩:=q
  dsimp only at hi hl f hg hw
  simp only[hl,hg,nt]
  refine Ob (T260 d (fun t h=>by have:=k t h;unfold Zu.ok at this;omega)) fun⟨a,b⟩ _=>?_
  refine Oi (fun hb=>.mk (by simpa using hb)) (fun _=>?_)
  exact Ob (cW (Q:=fun v=>v.length=l.length+1) (by omega) (by simp)) fun m o=>.mk ⟨hw,by dsimp only;omega⟩
 .obtain ⟨x,l⟩:=q
  dsimp only at hi f
  simp only[hi,nf]
  exact .mk f
 .rcases v with⟨a,b⟩|b
  .exact .mk ⟨Nat.zero_le _,fun h=>absurd h hv⟩
  .exact .mk ⟨Nat.le_trans hv g,fun _=>k⟩
theorem T261 {c:List Zu} {x2:Int} {f:List Int} (k:c.length<=6) (m:f.length<=20) (j:0<=x2/\x2<(c.length:Int)) (hy:∀t∈c,t.ok f.length):Ok (F261 c x2 f) (fun _=>True):=by
 unfold F261
 refine Ob (bC (Q:=fun x=>x∈c) j.1 j.2 (fun _ h _=>h)) fun g d=>?_
 have o:=hy g d
 unfold Zu.ok at o
 refine Ob (P:=fun _=>True) (dQ (fun q=>q.2) (g.First+g.Count) (fun _=>True) (by omega) (by dsimp only;omega) trivial (fun q _ h1 h2=>?_)) fun r _=>?_
 .obtain ⟨s,i⟩:=q
  dsimp only at h1 h2 ⊢
  refine Ob T264 fun e he=>?_
  rw[aU (by omega) (by omega)]at he
  subst he
  refine Oi (fun hc=>?_) (fun _=>.mk trivial)
  simp only[decide_eq_true_eq]at hc
  refine Ob (tK (by rw[aU (by omega) (by omega)];omega) (by rw[aU (by omega) (by omega)];omega) (by omega)) fun l hl=>?_
  refine Ob (bC (Q:=fun _=>True) (by omega) (by omega) (fun _ _ _=>trivial)) fun y _=>?_
  refine Ob (T260 (by omega) (fun t h=>by have:=hy t (hl.2 t h);unfold Zu.ok at this;omega)) fun⟨a,b⟩ _=>?_
  exact Oi (fun _=>.mk trivial) (fun _=>.mk ⟨hc,h2 hc,trivial⟩)
 .rcases r with a|a
  .exact .mk trivial
  refine Ob (P:=fun _=>True) (dQ (fun q=>q) 9 (fun _=>True) (by decide) (by decide) trivial (fun q _ h1 h2=>?_)) fun r _=>?_
  .refine Oi (fun hc=>?_) (fun _=>.mk trivial)
   simp only[decide_eq_true_eq]at hc
   refine Ob (nT (by rw[aU (by omega) (by omega)];omega)) fun n _=>?_
   exact Oi (fun _=>.mk trivial) (fun _=>.mk ⟨by omega,h2 (by omega),trivial⟩)
  .rcases r with a|a<;>exact .mk trivial
theorem T256 {h:List Zu} {x2:List Int} (c:h.length<=6) (d:x2.length<=20):Ok (F256 h x2) (fun _=>True):=by
 unfold F256
 refine Ob (T255 c d) fun⟨a,b⟩ f=>?_
 dsimp only at f
 refine Oi (fun _=>.mk trivial) (fun hd=>?_)
 have n:=f.2 (by simpa using hd)
 refine Ob (jY (by decide) (by omega) (by omega)) fun p j=>?_
 refine Ob (P:=fun _=>True) (aN (l:=h) (fun q=>q.1) (fun i q=>q.2.length<=i) (by omega) rfl (by rw[j];decide) (fun i e q o k hi hl g hg hw=>?_) (fun q hi g=>?_)) fun v hv=>?_
 .obtain ⟨x,l⟩:=q
  dsimp only at hi hl g hg hw
  simp only[hl,nt]
  refine Ob (T261 c d ⟨by omega,hl⟩ n) fun⟨a,b⟩ _=>?_
  refine Oi (fun hb=>.mk trivial) (fun _=>?_)
  exact Ob (cW (Q:=fun v=>v.length=l.length+1) (by omega) (by simp)) fun m k=>.mk ⟨hw,by dsimp only;omega⟩
 .obtain ⟨x,l⟩:=q
  dsimp only at hi g
  simp only[hi,nf]
  exact .mk trivial
 .rcases v with a|b<;>exact .mk trivial
theorem T248 {k:Zo} (a:k.sm):Ok (F248 k) (fun v=>v.1.length<=20):=by
 unfold F248
 have j:=a.Events
 refine lpT (l:=k.Events) (fun q=>q) (Nat.lt_of_le_of_lt a.Events (by decide)) rfl (fun n m t f b e d g=>?_) (fun t b=>?_) fun u=>?_
 .simp only[e,d,nt]
  have i:=a.EventsE _ f
  refine obT (T114 i) fun w=>?_
  refine Oi (fun c712=>?_) (fun c712=>?_)
  .exact .mk trivial
  refine Oi (fun c713=>?_) (fun c713=>?_)
  .exact .mk trivial
  exact .mk g
 .simp only[b,nf]
  exact .mk trivial
 rcases u with x|_
 .exact .mk (by(simp only[nm,nl]at *;omega))
 .refine Ob (T254 a.Events a.EventsE) fun y c=>?_
  refine Ob (T255 a.Tuplets c) fun⟨o,p⟩ h=>?_
  try dsimp only at h
  refine Oi (fun c716=>?_) (fun c716=>?_)
  .exact .mk (by(simp only[nm,nl]at *;omega))
  refine obT (T256 a.Tuplets c) fun⟨r,s⟩=>?_
  refine Oi (fun c718=>?_) (fun c718=>?_)
  .exact .mk (by(simp only[nm,nl]at *;omega))
  exact .mk (by(simp only[nm]at *;omega))
theorem T233 {f:Zo} {x2:Int} (a:f.sm):Ok (F233 f x2) (fun v=>v.1.length<=20):=by
 unfold F233
 refine Oi (fun c719=>?_) (fun c719=>?_)
 .exact .mk (by(simp only[nm,nl]at *;omega))
 refine Oi (fun c720=>?_) (fun c720=>?_)
 .exact .mk (by(simp only[nm,nl]at *;omega))
 refine obT (T247 a) fun g=>?_
 refine Oi (fun c722=>?_) (fun c722=>?_)
 .have e:=a.Events
  refine Ob (P:=fun x=>x∈f.Events) (bC (by omega) (by(simp only[nm]at *;omega)) (fun _ h _=>h)) fun i b=>?_
  have d:=a.EventsE _ b
  refine obT (T114 d) fun j=>?_
  refine Oi (fun c728=>?_) (fun c728=>?_)
  .exact .mk (by(simp only[nm,nl]at *;omega))
  refine Oi (fun c729=>?_) (fun c729=>?_)
  .exact .mk (by(simp only[nm,nl]at *;omega))
  exact .mk (by(simp only[nm,nl]at *;omega))
 refine Ob (T248 a) fun⟨k,l⟩ c=>?_
 try dsimp only at c
 exact .mk (by omega)
theorem T234 {h:List Int} (e:h.length<=20):Ok (F234 h) (fun _=>True):=by
 unfold F234
 have g:=e
 refine lpT (l:=h) (fun q=>q.2) (Nat.lt_of_le_of_lt e (by decide)) rfl (fun j i q741 f a c b d=>?_) (fun q741 a=>?_) fun n=>?_
 .obtain ⟨k,m⟩:=q741
  dsimp only at a c b d
  simp only[c,b,nt]
  exact .mk d
 .obtain ⟨k,m⟩:=q741
  dsimp only at a
  simp only[a,nf]
  exact .mk trivial
 exact .mk trivial
theorem T210 {e:Zo} {x2:Int} (c:e.sm):Ok (F210 e x2) (fun v=>v.1.length<=20):=by
 unfold F210
 refine Ob (T233 c) fun⟨f,g⟩ a=>?_
 try dsimp only at a
 refine Ob (P:=fun r=>r=true->((g==0)&&(decide ((f.length:Int)>0)))=true) ?_ fun j b=>?_
 .refine Oi (fun c745=>?_) (fun _=>.mk (fun h=>by cases h))
  refine obT (T234 a) fun i=>?_
  exact .mk (fun _=>c745)
 refine obT ?_ fun k=>?_
 .refine Oi (fun c748=>?_) (fun c748=>?_)
  .have d:=b c748
   exact .mk trivial
  exact .mk trivial
 refine Oi (fun c750=>?_) (fun c750=>?_)
 .exact .mk (by(simp only[nm,nl]at *;omega))
 exact .mk (by omega)
theorem T166 {c:Zo} {x2:Int} (b:c.sm):Ok (F166 c x2) (fun _=>True):=by
 unfold F166
 refine Ob (T210 b) fun⟨d,e⟩ a=>?_
 try dsimp only at a
 exact .mk trivial
theorem T110 {a:Int}:Ok (F110 a) (fun _=>True):=by
 unfold F110
 exact .mk trivial
theorem T165 {c:Zo} {x2:Int} (a:c.sm):Ok (F165 c x2) (fun _=>True):=by
 unfold F165
 refine obT (T57 a.Events a.EventsE) fun d=>?_
 refine Ob (P:=fun r=>r=true->(!d)=true) ?_ fun g b=>?_
 .refine Oi (fun c754=>?_) (fun _=>.mk (fun h=>by cases h))
  refine obT (T166 a) fun e=>?_
  refine obT (T110) fun f=>?_
  exact .mk (fun _=>c754)
 exact .mk trivial
theorem T94 {i:List Zo} {x2:Int} (f:i.length<=3) (g:∀y∈i,y.sm):Ok (F94 i x2) (fun _=>True):=by
 unfold F94
 have j:=f
 refine lpT (l:=i) (fun q=>q) (Nat.lt_of_le_of_lt f (by decide)) rfl (fun m k n d a c b e=>?_) (fun n a=>?_) fun o=>?_
 .simp only[c,b,nt]
  have h:=g _ d
  refine obT (T165 h) fun p=>?_
  refine Oi (fun c770=>?_) (fun c770=>?_)
  .exact .mk trivial
  exact .mk e
 .simp only[a,nf]
  exact .mk trivial
 rcases o with r|_
 .exact .mk trivial
 .exact .mk trivial
theorem T55 {c:List Zo} {x2:Int} (b:c.length<=3) (a:∀y∈c,y.sm):Ok (F55 c x2) (fun _=>True):=by
 unfold F55
 refine obT (T94 b a) fun d=>?_
 exact .mk trivial
theorem T164 {b:Zw} {x2:Int} (a:b.sm):Ok (F164 b x2) (fun _=>True):=by
 unfold F164
 refine obT (T55 a.Voices a.VoicesE) fun c=>?_
 exact .mk trivial
theorem T209 {i:List Zw} {x2:Int} (f:i.length<=5) (g:∀y∈i,y.sm):Ok (F209 i x2) (fun _=>True):=by
 unfold F209
 have j:=f
 refine lpT (l:=i) (fun q=>q) (Nat.lt_of_le_of_lt f (by decide)) rfl (fun m k n d a c b e=>?_) (fun n a=>?_) fun o=>?_
 .simp only[c,b,nt]
  have h:=g _ d
  refine obT (T164 h) fun p=>?_
  refine Oi (fun c786=>?_) (fun c786=>?_)
  .exact .mk trivial
  exact .mk e
 .simp only[a,nf]
  exact .mk trivial
 rcases o with r|_
 .exact .mk trivial
 .exact .mk trivial
theorem T163 {c:List Zw} {x2:Int} (b:c.length<=5) (a:∀y∈c,y.sm):Ok (F163 c x2) (fun _=>True):=by
 unfold F163
 refine obT (T209 b a) fun d=>?_
 exact .mk trivial
theorem T161 {b:Int} {x2:Zm} (a:x2.sm):Ok (F161 b x2) (fun _=>True):=by
 unfold F161
 refine obT (T106 a) fun⟨c,d⟩=>?_
 refine Oi (fun c789=>?_) (fun c789=>?_)
 .exact .mk trivial
 refine obT (T163 a.Cells a.CellsE) fun e=>?_
 exact .mk trivial
theorem Tn102_4 {g:List Zv} {x2:Z0} {y:Int} (t:g.length+10<=1000000) (f:x2.sm):Ok (Fn102_4 g x2 y) (fun v=>g.length<=v.length/\v.length<=g.length+10):=by
 unfold Fn102_4
 have k:=f.Measures
 refine Ob (P:=fun r=>g.length<=r.length/\r.length<=g.length+10) (aN (l:=x2.Measures) (fun q=>q.1) (fun i q=>g.length<=q.2.length/\q.2.length<=g.length+i*1) (Nat.lt_of_le_of_lt f.Measures (by decide)) rfl (by dsimp only;omega) (fun p n q802 m h a d b c e=>?_) (fun q802 a b=>?_)) fun x s=>?_
 .obtain ⟨z,A⟩:=q802
  dsimp only at a d c e b
  simp only[d,c,nt]
  have j:=f.MeasuresE _ h
  refine obT (T161 j) fun u=>?_
  refine Ob (Tn96 (by first|omega|(simp only[List.length_nil]at *;omega)) f) fun w o=>?_
  exact .mk ⟨e,by dsimp only;omega⟩
 .obtain ⟨z,A⟩:=q802
  dsimp only at a b
  simp only[a,nf]
  exact .mk (by dsimp only;omega)
 exact .mk (by omega)
theorem Tn109 {a:List Zv} {x2:Z0} {e:Int} (d:a.length+10<=1000000) (b:x2.sm):Ok (Fn109 a x2 e) (fun v=>a.length<=v.length/\v.length<=a.length+10):=by
 unfold Fn109
 refine Ob (Tn102_4 (by first|omega|(simp only[List.length_nil]at *;omega)) b) fun f c=>?_
 exact .mk (by omega)
theorem Tn64 {a:List Zv} {x2:Z0} {e:Int} (d:a.length+10<=1000000) (b:x2.sm):Ok (Fn64 a x2 e) (fun v=>a.length<=v.length/\v.length<=a.length+10):=by
 unfold Fn64
 refine Ob (Tn109 (by first|omega|(simp only[List.length_nil]at *;omega)) b) fun f c=>?_
 exact .mk (by omega)
theorem T111 {b:Int}:Ok (F111 b) (fun _=>True):=by
 unfold F111
 refine Ob (P:=fun r=>r=true->(b !=0)=true) ?_ fun c a=>?_
 .refine Oi (fun c810=>?_) (fun _=>.mk (fun h=>by cases h))
  refine obT (T110) fun x2=>?_
  exact .mk (fun _=>c810)
 exact .mk trivial
theorem T165_2 {c:Zo} {x2:Int} (a:c.sm):Ok (F165_2 c x2) (fun _=>True):=by
 unfold F165_2
 refine obT (T57 a.Events a.EventsE) fun d=>?_
 refine Ob (P:=fun r=>r=true->(!d)=true) ?_ fun g b=>?_
 .refine Oi (fun c814=>?_) (fun _=>.mk (fun h=>by cases h))
  refine obT (T166 a) fun e=>?_
  refine obT (T111) fun f=>?_
  exact .mk (fun _=>c814)
 exact .mk trivial
theorem T94_2 {i:List Zo} {x2:Int} (f:i.length<=3) (g:∀y∈i,y.sm):Ok (F94_2 i x2) (fun _=>True):=by
 unfold F94_2
 have j:=f
 refine lpT (l:=i) (fun q=>q) (Nat.lt_of_le_of_lt f (by decide)) rfl (fun m k n d a c b e=>?_) (fun n a=>?_) fun o=>?_
 .simp only[c,b,nt]
  have h:=g _ d
  refine obT (T165_2 h) fun p=>?_
  refine Oi (fun c830=>?_) (fun c830=>?_)
  .exact .mk trivial
  exact .mk e
 .simp only[a,nf]
  exact .mk trivial
 rcases o with r|_
 .exact .mk trivial
 .exact .mk trivial
theorem T55_2 {c:List Zo} {x2:Int} (b:c.length<=3) (a:∀y∈c,y.sm):Ok (F55_2 c x2) (fun _=>True):=by
 unfold F55_2
 refine obT (T94_2 b a) fun d=>?_
 exact .mk trivial
theorem T164_2 {b:Zw} {x2:Int} (a:b.sm):Ok (F164_2 b x2) (fun _=>True):=by
 unfold F164_2
 refine obT (T55_2 a.Voices a.VoicesE) fun c=>?_
 exact .mk trivial
theorem T209_2 {i:List Zw} {x2:Int} (f:i.length<=5) (g:∀y∈i,y.sm):Ok (F209_2 i x2) (fun _=>True):=by
 unfold F209_2
 have j:=f
 refine lpT (l:=i) (fun q=>q) (Nat.lt_of_le_of_lt f (by decide)) rfl (fun m k n d a c b e=>?_) (fun n a=>?_) fun o=>?_
 .simp only[c,b,nt]
  have h:=g _ d
  refine obT (T164_2 h) fun p=>?_
  refine Oi (fun c846=>?_) (fun c846=>?_)
  .exact .mk trivial
  exact .mk e
 .simp only[a,nf]
  exact .mk trivial
 rcases o with r|_
 .exact .mk trivial
 .exact .mk trivial
theorem T163_2 {c:List Zw} {x2:Int} (b:c.length<=5) (a:∀y∈c,y.sm):Ok (F163_2 c x2) (fun _=>True):=by
 unfold F163_2
 refine obT (T209_2 b a) fun d=>?_
 exact .mk trivial
theorem T161_2 {b:Int} {x2:Zm} (a:x2.sm):Ok (F161_2 b x2) (fun _=>True):=by
 unfold F161_2
 refine obT (T106 a) fun⟨c,d⟩=>?_
 refine Oi (fun c849=>?_) (fun c849=>?_)
 .exact .mk trivial
 refine obT (T163_2 a.Cells a.CellsE) fun e=>?_
 exact .mk trivial
theorem Tn102_5 {g:List Zv} {x2:Z0} {y:Int} (t:g.length+10<=1000000) (f:x2.sm):Ok (Fn102_5 g x2 y) (fun v=>g.length<=v.length/\v.length<=g.length+10):=by
 unfold Fn102_5
 have k:=f.Measures
 refine Ob (P:=fun r=>g.length<=r.length/\r.length<=g.length+10) (aN (l:=x2.Measures) (fun q=>q.1) (fun i q=>g.length<=q.2.length/\q.2.length<=g.length+i*1) (Nat.lt_of_le_of_lt f.Measures (by decide)) rfl (by dsimp only;omega) (fun p n q862 m h a d b c e=>?_) (fun q862 a b=>?_)) fun x s=>?_
 .obtain ⟨z,A⟩:=q862
  dsimp only at a d c e b
  simp only[d,c,nt]
  have j:=f.MeasuresE _ h
  refine obT (T161_2 j) fun u=>?_
  refine Ob (Tn96 (by first|omega|(simp only[List.length_nil]at *;omega)) f) fun w o=>?_
  exact .mk ⟨e,by dsimp only;omega⟩
 .obtain ⟨z,A⟩:=q862
  dsimp only at a b
  simp only[a,nf]
  exact .mk (by dsimp only;omega)
 exact .mk (by omega)
theorem Tn109_2 {a:List Zv} {x2:Z0} {e:Int} (d:a.length+10<=1000000) (b:x2.sm):Ok (Fn109_2 a x2 e) (fun v=>a.length<=v.length/\v.length<=a.length+10):=by
 unfold Fn109_2
 refine Ob (Tn102_5 (by first|omega|(simp only[List.length_nil]at *;omega)) b) fun f c=>?_
 exact .mk (by omega)
theorem Tn65 {a:List Zv} {x2:Z0} {e:Int} (d:a.length+10<=1000000) (b:x2.sm):Ok (Fn65 a x2 e) (fun v=>a.length<=v.length/\v.length<=a.length+10):=by
 unfold Fn65
 refine Ob (Tn109_2 (by first|omega|(simp only[List.length_nil]at *;omega)) b) fun f c=>?_
 exact .mk (by omega)
theorem T113 {b:Zp} {x2:Ze} (a:x2.sm):Ok (F113 b x2) (fun _=>True):=by
 unfold F113
 refine obT (T114 a) fun c=>?_
 exact .mk trivial
theorem Tn112 {G:List Zv} {x2:Z0} {x3:Int} (e3:G.length+3000<=1000000) (F:x2.sm):Ok (Fn112 G x2 x3) (fun v=>G.length<=v.length/\v.length<=G.length+3000):=by
 unfold Fn112
 have U:=F.Measures
 refine Ob (P:=fun r=>G.length<=r.length/\r.length<=G.length+3000) (aN (l:=x2.Measures) (fun q=>q.1) (fun i q=>G.length<=q.2.length/\q.2.length<=G.length+i*300) (Nat.lt_of_le_of_lt F.Measures (by decide)) rfl (by dsimp only;omega) (fun b9 M q881 Y H c o g a u=>?_) (fun q881 c g=>?_)) fun d8 d9=>?_
 .obtain ⟨b4,C⟩:=q881
  dsimp only at c o a u g
  simp only[o,a,nt]
  have z:=F.MeasuresE _ H
  have V:=z.Cells
  refine Ob (P:=fun r=>C.length<=r.length/\r.length<=C.length+300) (aN (l:=M.Cells) (fun q=>q.1) (fun i q=>C.length<=q.2.length/\q.2.length<=C.length+i*60) (Nat.lt_of_le_of_lt z.Cells (by decide)) rfl (by dsimp only;omega) (fun d0 N q895 Z J d p h b w=>?_) (fun q895 d h=>?_)) fun d7 e0=>?_
  .obtain ⟨b5,D⟩:=q895
   dsimp only at d p b w h
   simp only[p,a,b,nt]
   have A:=z.CellsE _ J
   have W:=A.Voices
   refine Ob (P:=fun r=>D.length<=r.length/\r.length<=D.length+60) (aN (l:=N.Voices) (fun q=>q.1) (fun i q=>D.length<=q.2.length/\q.2.length<=D.length+i*20) (Nat.lt_of_le_of_lt A.Voices (by decide)) rfl (by dsimp only;omega) (fun d1 O q909 a0 K e s j m x=>?_) (fun q909 e j=>?_)) fun d6 e1=>?_
   .obtain ⟨b6,E⟩:=q909
    dsimp only at e s m x j
    simp only[s,a,b,m,nt]
    have B:=A.VoicesE _ K
    have X:=B.Events
    refine Ob (P:=fun r=>E.length<=r.length/\r.length<=E.length+20) (aN (l:=O.Events) (fun q=>q.1) (fun i q=>E.length<=q.2.length/\q.2.length<=E.length+i*1) (Nat.lt_of_le_of_lt B.Events (by decide)) rfl (by dsimp only;omega) (fun d2 b7 q923 b0 L f t k n y=>?_) (fun q923 f k=>?_)) fun d5 e2=>?_
    .obtain ⟨S,T⟩:=q923
     dsimp only at f t n y k
     simp only[t,a,b,m,n,nt]
     have R:=B.EventsE _ L
     refine obT (T113 R) fun d3=>?_
     refine Ob (Tn96 (by first|omega|(simp only[List.length_nil]at *;omega)) F) fun d4 b8=>?_
     exact .mk ⟨y,by dsimp only;omega⟩
    .obtain ⟨S,T⟩:=q923
     dsimp only at f k
     simp only[f,nf]
     exact .mk (by dsimp only;omega)
    exact .mk ⟨x,by dsimp only;omega⟩
   .obtain ⟨b6,E⟩:=q909
    dsimp only at e j
    simp only[e,nf]
    exact .mk (by dsimp only;omega)
   exact .mk ⟨w,by dsimp only;omega⟩
  .obtain ⟨b5,D⟩:=q895
   dsimp only at d h
   simp only[d,nf]
   exact .mk (by dsimp only;omega)
  exact .mk ⟨u,by dsimp only;omega⟩
 .obtain ⟨b4,C⟩:=q881
  dsimp only at c g
  simp only[c,nf]
  exact .mk (by dsimp only;omega)
 exact .mk (by omega)
theorem Tn66 {a:List Zv} {x2:Z0} {e:Int} (d:a.length+3000<=1000000) (b:x2.sm):Ok (Fn66 a x2 e) (fun v=>a.length<=v.length/\v.length<=a.length+3000):=by
 unfold Fn66
 refine Ob (Tn112 (by first|omega|(simp only[List.length_nil]at *;omega)) b) fun f c=>?_
 exact .mk (by omega)
theorem T53 {c:Z0} {x2:Int} (d:c.sm):Ok (F53 c x2) (fun v=>v.2.2=0->0<=v.1/\v.1<(c.Parts.length:Int)):=by
 unfold F53
 have f:=d.Parts
 refine Oi (fun _=>.mk (fun h=>absurd (show(2:Int)=0 from h) (by decide))) (fun _=>?_)
 refine Ob (P:=fun r=>match r with|.inl p=>0<=p.1/\p.1<(c.Parts.length:Int)|.inr _=>True) (aN (l:=c.Parts) (fun q=>q.2) (fun _ _=>True) (by omega) rfl trivial (fun i e q j g hi hl _ hg hw=>?_) (fun q hi _=>?_)) fun r hr=>?_
 .obtain ⟨s,x⟩:=q
  dsimp only at hi hl hg hw
  simp only[hl,hg,nt]
  exact Oi (fun _=>.mk ⟨by dsimp only;omega,hl⟩) (fun _=>.mk ⟨hw,trivial⟩)
 .obtain ⟨s,x⟩:=q
  dsimp only at hi
  simp only[hi,nf]
  exact .mk trivial
 rcases r with⟨a,b⟩|_
 .exact .mk (fun _=>hr)
 .exact .mk (fun h=>absurd (show(2:Int)=0 from h) (by decide))
theorem T116 {a:Zh} {x2:Int}:Ok (F116 a x2) (fun _=>True):=by
 unfold F116
 refine obT (T79) fun⟨b,c⟩=>?_
 refine obT (T98) fun d=>?_
 exact .mk trivial
theorem T118 {a:Zb} {x2:Int}:Ok (F118 a x2) (fun _=>True):=by
 unfold F118
 refine obT (T116) fun b=>?_
 exact .mk trivial
theorem T176 {h:List Zb} {x2:Int} (e:h.length<=12):Ok (F176 h x2) (fun _=>True):=by
 unfold F176
 have g:=e
 refine lpT (l:=h) (fun q=>q) (Nat.lt_of_le_of_lt e (by decide)) rfl (fun j i k f a c b d=>?_) (fun k a=>?_) fun m=>?_
 .simp only[c,b,nt]
  refine obT (T118) fun n=>?_
  refine Oi (fun c944=>?_) (fun c944=>?_)
  .exact .mk trivial
  exact .mk d
 .simp only[a,nf]
  exact .mk trivial
 rcases m with o|_
 .exact .mk trivial
 .exact .mk trivial
theorem T117 {b:List Zb} {x2:Int} (a:b.length<=12):Ok (F117 b x2) (fun _=>True):=by
 unfold F117
 refine obT (T176 a) fun c=>?_
 exact .mk trivial
theorem T120 {a:Zd} {x2:Int}:Ok (F120 a x2) (fun _=>True):=by
 unfold F120
 refine obT (T116) fun b=>?_
 exact .mk trivial
theorem T177 {h:List Zd} {x2:Int} (e:h.length<=12):Ok (F177 h x2) (fun _=>True):=by
 unfold F177
 have g:=e
 refine lpT (l:=h) (fun q=>q) (Nat.lt_of_le_of_lt e (by decide)) rfl (fun j i k f a c b d=>?_) (fun k a=>?_) fun m=>?_
 .simp only[c,b,nt]
  refine obT (T120) fun n=>?_
  refine Oi (fun c959=>?_) (fun c959=>?_)
  .exact .mk trivial
  exact .mk d
 .simp only[a,nf]
  exact .mk trivial
 rcases m with o|_
 .exact .mk trivial
 .exact .mk trivial
theorem T119 {b:List Zd} {x2:Int} (a:b.length<=12):Ok (F119 b x2) (fun _=>True):=by
 unfold F119
 refine obT (T177 a) fun c=>?_
 exact .mk trivial
theorem T115 {k:Zp} {x2:Ze} {g:Zk} (a:x2.sm) (b:g.s'.sm):Ok (F115 k x2 g) (fun _=>True):=by
 unfold F115
 refine obT (T114 a) fun o=>?_
 refine Oi (fun c962=>?_) (fun c962=>?_)
 .exact .mk trivial
 refine Ob (T53 b) fun⟨p,q,s⟩ d=>?_
 try dsimp only at d
 refine obT ?_ fun u=>?_
 .refine Oi (fun c965=>?_) (fun c965=>?_)
  .have e:=b.Parts
   refine Ob (P:=fun x=>x∈g.s'.Parts) (bC (by(simp only[nm]at *;omega)) (by(simp only[nm]at *;omega)) (fun _ h _=>h)) fun t c=>?_
   have j:=b.PartsE _ c
   exact .mk trivial
  exact .mk trivial
 refine obT ?_ fun l=>?_
 .refine Oi (fun c971=>?_) (fun c971=>?_)
  .exact .mk trivial
  exact .mk trivial
 refine obT (T117 a.Heads) fun f=>?_
 refine Ob (P:=fun r=>¬r=true->¬f=true) ?_ fun n i=>?_
 .refine Oi (fun _=>.mk (fun h=>absurd rfl h)) (fun c974=>?_)
  refine obT (T119 a.Graces) fun m=>?_
  exact .mk (fun _=>c974)
 exact .mk trivial
theorem Tn112_2 {J:List Zv} {x2:Z0} {x3:Int} (e3:J.length+3000<=1000000) (x:x2.sm):Ok (Fn112_2 J x2 x3) (fun v=>J.length<=v.length/\v.length<=J.length+3000):=by
 unfold Fn112_2
 have b0:=x.Measures
 refine Ob (P:=fun r=>J.length<=r.length/\r.length<=J.length+3000) (aN (l:=x2.Measures) (fun q=>q.1) (fun i q=>J.length<=q.2.length/\q.2.length<=J.length+i*300) (Nat.lt_of_le_of_lt x.Measures (by decide)) rfl (by dsimp only;omega) (fun d3 O q987 b4 L h y k c A=>?_) (fun q987 h k=>?_)) fun e0 e1=>?_
 .obtain ⟨b8,D⟩:=q987
  dsimp only at h y c A k
  simp only[y,c,nt]
  have C:=x.MeasuresE _ L
  have U:=C.Cells
  refine Ob (P:=fun r=>D.length<=r.length/\r.length<=D.length+300) (aN (l:=O.Cells) (fun q=>q.1) (fun i q=>D.length<=q.2.length/\q.2.length<=D.length+i*60) (Nat.lt_of_le_of_lt C.Cells (by decide)) rfl (by dsimp only;omega) (fun d4 R q1001 b5 M j z m g B=>?_) (fun q1001 j m=>?_)) fun d9 e2=>?_
  .obtain ⟨b9,E⟩:=q1001
   dsimp only at j z g B m
   simp only[z,c,g,nt]
   have n:=C.CellsE _ M
   have V:=n.Voices
   refine Ob (P:=fun r=>E.length<=r.length/\r.length<=E.length+60) (aN (l:=R.Voices) (fun q=>q.1) (fun i q=>E.length<=q.2.length/\q.2.length<=E.length+i*20) (Nat.lt_of_le_of_lt n.Voices (by decide)) rfl (by dsimp only;omega) (fun b6 K q1015 X G a s d f u=>?_) (fun q1015 a d=>?_)) fun d8 d1=>?_
   .obtain ⟨d0,F⟩:=q1015
    dsimp only at a s f u d
    simp only[s,c,g,f,nt]
    have o:=n.VoicesE _ G
    have W:=o.Events
    refine Ob (P:=fun r=>F.length<=r.length/\r.length<=F.length+20) (aN (l:=K.Events) (fun q=>q.1) (fun i q=>F.length<=q.2.length/\q.2.length<=F.length+i*1) (Nat.lt_of_le_of_lt o.Events (by decide)) rfl (by dsimp only;omega) (fun b7 Z q1029 Y H b t e p w=>?_) (fun q1029 b e=>?_)) fun d7 d2=>?_
    .obtain ⟨S,T⟩:=q1029
     dsimp only at b t p w e
     simp only[t,c,g,f,p,nt]
     have N:=o.EventsE _ H
     refine obT (T115 N x) fun d5=>?_
     refine Ob (Tn96 (by first|omega|(simp only[List.length_nil]at *;omega)) x) fun d6 a0=>?_
     exact .mk ⟨w,by dsimp only;omega⟩
    .obtain ⟨S,T⟩:=q1029
     dsimp only at b e
     simp only[b,nf]
     exact .mk (by dsimp only;omega)
    exact .mk ⟨u,by dsimp only;omega⟩
   .obtain ⟨d0,F⟩:=q1015
    dsimp only at a d
    simp only[a,nf]
    exact .mk (by dsimp only;omega)
   exact .mk ⟨B,by dsimp only;omega⟩
  .obtain ⟨b9,E⟩:=q1001
   dsimp only at j m
   simp only[j,nf]
   exact .mk (by dsimp only;omega)
  exact .mk ⟨A,by dsimp only;omega⟩
 .obtain ⟨b8,D⟩:=q987
  dsimp only at h k
  simp only[h,nf]
  exact .mk (by dsimp only;omega)
 exact .mk (by omega)
theorem Tn67 {a:List Zv} {x2:Z0} {e:Int} (d:a.length+3000<=1000000) (c:x2.sm):Ok (Fn67 a x2 e) (fun v=>a.length<=v.length/\v.length<=a.length+3000):=by
 unfold Fn67
 refine Ob (Tn112_2 (by first|omega|(simp only[List.length_nil]at *;omega)) c) fun f b=>?_
 exact .mk (by omega)
theorem T178 {a:Zb}:Ok (F178 a) (fun _=>True):=by
 unfold F178
 exact .mk trivial
theorem T176_2 {j:List Zb} (e:j.length<=12):Ok (F176_2 j) (fun _=>True):=by
 unfold F176_2
 have g:=e
 refine lpT (l:=j) (fun q=>q) (Nat.lt_of_le_of_lt e (by decide)) rfl (fun i h k f a c b d=>?_) (fun k a=>?_) fun m=>?_
 .simp only[c,b,nt]
  refine obT (T178) fun n=>?_
  refine Oi (fun c1047=>?_) (fun c1047=>?_)
  .exact .mk trivial
  exact .mk d
 .simp only[a,nf]
  exact .mk trivial
 rcases m with o|_
 .exact .mk trivial
 .exact .mk trivial
theorem T117_2 {b:List Zb} (a:b.length<=12):Ok (F117_2 b) (fun _=>True):=by
 unfold F117_2
 refine obT (T176_2 a) fun x2=>?_
 exact .mk trivial
theorem T122 {c:Ze} (b:c.sm):Ok (F122 c) (fun _=>True):=by
 unfold F122
 refine Ob (P:=fun r=>r=true->(c.Kind==1)=true) ?_ fun d a=>?_
 .refine Oi (fun c1050=>?_) (fun _=>.mk (fun h=>by cases h))
  refine obT (T117_2 b.Heads) fun x2=>?_
  exact .mk (fun _=>c1050)
 exact .mk trivial
theorem T180 {b:Z0} {x2 c d:Int} (e:b.sm):Ok (F180 b x2 c d) (fun v=>v.length<=20/\(∀y∈v,y.sm)/\(v=[]\/∃x y z,lget b.Measures x2=some x/\lget x.Cells c=some y/\lget y.Voices d=some z/\v=z.Events)):=by
 unfold F180
 refine Ob (P:=fun r=>¬r=true->0<=x2/\0<=c/\∃x,lget b.Measures x2=some x/\c<(x.Cells.length:Int)) ?_ fun k i=>?_
 .refine Oi (fun _=>.mk (fun h=>absurd rfl h)) (fun hc=>?_)
  simp only[Bool.or_eq_true,decide_eq_true_eq,not_or]at hc
  exact Ok.bindE (bC (Q:=fun _=>True) (by omega) (by omega) (fun _ _ _=>trivial)) fun x a _=>.mk (fun h=>⟨by omega,by omega,x,a,by simp at h;omega⟩)
 refine Ob (P:=fun r=>¬r=true->∃x y,lget b.Measures x2=some x/\lget x.Cells c=some y/\0<=d/\d<(y.Voices.length:Int)) ?_ fun l j=>?_
 .refine Oi (fun _=>.mk (fun h=>absurd rfl h)) (fun hc=>?_)
  simp only[Bool.or_eq_true,decide_eq_true_eq,not_or]at hc
  obtain⟨h0,h1,x,a,hs⟩:=i hc.1
  rw[a,Option.bind_some]
  exact Ok.bindE (bC (Q:=fun _=>True) h1 hs (fun _ _ _=>trivial)) fun y hy _=>.mk (fun h=>⟨x,y,rfl,hy,by omega,by simp at h;omega⟩)
 refine Oi (fun _=>.mk ⟨Nat.zero_le _,fun _ h=>(List.not_mem_nil h).elim,.inl rfl⟩) (fun hc=>?_)
 obtain⟨x,y,a,hy,h0,h1⟩:=j hc
 rw[a,Option.bind_some,hy,Option.bind_some]
 refine Ok.bindE (bC (Q:=fun _=>True) h0 h1 (fun _ _ _=>trivial)) fun z f _=>?_
 have g:=((e.MeasuresE x (cM a).2.2.1).CellsE y (cM hy).2.2.1).VoicesE z (cM f).2.2.1
 exact .mk ⟨g.Events,g.EventsE,.inr ⟨x,y,z,rfl,hy,f,rfl⟩⟩
theorem T179 {a:Z0} {x2:Zp} (c:a.sm):Ok (F179 a x2) (fun r=>r=0->x2.Kind=4/\0<=x2.Event/\∃l,F180 a x2.Measure x2.Staff x2.Voice=some l/\x2.Event<(l.length:Int)):=by
 unfold F179
 refine Oi (fun _=>.mk (fun h=>by cases h)) (fun hk=>?_)
 refine Ob (P:=fun r=>¬r=true->0<=x2.Event/\∃l,F180 a x2.Measure x2.Staff x2.Voice=some l/\x2.Event<(l.length:Int)) (Oi (fun _=>.mk (fun h=>absurd rfl h)) (fun hc=>?_)) fun b hb=>?_
 .exact Ok.bindE (T180 c) fun l hl _=>.mk (fun h=>⟨by simpa using hc,l,hl,by simpa using h⟩)
 exact Oi (fun _=>.mk (fun h=>by cases h)) (fun hc=>.mk (fun _=>⟨by simpa using hk,hb hc⟩))
theorem T181 {a x2:Int} {b c:Int}:Ok (F181 a x2 b c) (fun v=>v.Measure=a):=by
 unfold F181
 exact .mk (by rfl)
theorem T123 {d:Z0} {x2:Zp} (b:d.sm):Ok (F123 d x2) (fun v=>v.2=true->0<=x2.Measure/\x2.Measure<(d.Measures.length:Int)/\0<=v.1.Measure/\v.1.Measure<(d.Measures.length:Int)):=by
 unfold F123
 refine Ob (T179 b) fun c hc=>?_
 refine Oi (fun _=>.mk (fun h=>by cases h)) (fun hd=>?_)
 obtain⟨hk,h0,l,hl,i⟩:=hc (by simpa using hd)
 have g:=(T180 b).of hl
 have e:0<=x2.Measure/\x2.Measure<(d.Measures.length:Int):=by
  rcases g.2.2 with h|⟨x,y,z,hx,_⟩
  .rw [h,List.length_nil]at i;omega
  .have:=cM hx;exact⟨this.1,this.2.1⟩
 rw[hl,Option.bind_some]
 refine Oi (fun _=>?_) (fun _=>?_)
 .exact Ob T181 fun a f=>.mk (fun _=>⟨e.1,e.2,by dsimp only;omega,by dsimp only;omega⟩)
 refine Ob (T180 b) fun j h2=>?_
 refine Oi (fun hc=>?_) (fun _=>.mk (fun h=>by cases h))
 refine Ob T181 fun a f=>.mk (fun _=>?_)
 dsimp only at f ⊢
 rcases h2.2.2 with h|⟨x,y,z,hx,_⟩
 .rw [h]at hc;simp at hc
 .have:=cM hx;rw[f];exact⟨e.1,e.2,this.1,this.2.1⟩
theorem T140 {b:Ze} (a:b.sm):Ok (F140 b) (fun v=>v.sm):=by
 unfold F140
 rw[nV (Nat.le_trans a.Heads (by decide)),nV (Nat.le_trans a.Graces (by decide)),nV (Nat.le_trans a.Lyrics (by decide))]
 exact .mk ⟨a.Heads,a.Graces,a.Lyrics,a.LyricsE⟩
theorem T124 {f:Z0} {x2:Zp} (a:f.sm):Ok (F124 f x2) (fun v=>v.1.sm):=by
 unfold F124
 refine Ob (T179 a) fun c hc=>?_
 refine Oi (fun _=>.mk ⟨Nat.zero_le _,Nat.zero_le _,Nat.zero_le _,fun _ h=>(List.not_mem_nil h).elim⟩) (fun hd=>?_)
 obtain⟨hk,h0,l,hl,d⟩:=hc (by simpa using hd)
 have b:=(T180 a).of hl
 rw[hl,Option.bind_some]
 exact Ob (bC (Q:=fun x=>x.sm) h0 d (fun x e _=>b.2.1 x e)) fun x e=>Ob (T140 e) fun y hy=>.mk hy
theorem T182 {a x2:Zb}:Ok (F182 a x2) (fun _=>True):=by
 unfold F182
 exact .mk trivial
theorem T176_3 {j:List Zb} {x2:Zb} (e:j.length<=12):Ok (F176_3 j x2) (fun _=>True):=by
 unfold F176_3
 have g:=e
 refine lpT (l:=j) (fun q=>q) (Nat.lt_of_le_of_lt e (by decide)) rfl (fun i h k f a c b d=>?_) (fun k a=>?_) fun m=>?_
 .simp only[c,b,nt]
  refine obT (T182) fun n=>?_
  refine Oi (fun c1064=>?_) (fun c1064=>?_)
  .exact .mk trivial
  exact .mk d
 .simp only[a,nf]
  exact .mk trivial
 rcases m with o|_
 .exact .mk trivial
 .exact .mk trivial
theorem T117_3 {b:List Zb} {x2:Zb} (a:b.length<=12):Ok (F117_3 b x2) (fun _=>True):=by
 unfold F117_3
 refine obT (T176_3 a) fun c=>?_
 exact .mk trivial
theorem T125 {p x2:Ze} (g:p.sm) (m:x2.sm):Ok (F125 p x2) (fun _=>True):=by
 unfold F125
 refine Oi (fun c1066=>?_) (fun c1066=>?_)
 .exact .mk trivial
 have j:=g.Heads
 refine lpT (l:=p.Heads) (fun q=>q) (Nat.lt_of_le_of_lt g.Heads (by decide)) rfl (fun n e v i a c b d=>?_) (fun v a=>?_) fun s=>?_
 .simp only[c,b,nt]
  refine Ob (P:=fun r=>r=true->e.Tied=true) ?_ fun u f=>?_
  .refine Oi (fun c1079=>?_) (fun _=>.mk (fun h=>by cases h))
   refine Ob (P:=fun r=>r=true->(x2.Kind==1)=true) ?_ fun t k=>?_
   .refine Oi (fun c1081=>?_) (fun _=>.mk (fun h=>by cases h))
    refine obT (T117_3 m.Heads) fun w=>?_
    exact .mk (fun _=>c1081)
   exact .mk (fun _=>c1079)
  refine Oi (fun c1083=>?_) (fun c1083=>?_)
  .have o:=f c1083
   exact .mk trivial
  exact .mk d
 .simp only[a,nf]
  exact .mk trivial
 rcases s with _|_
 .exact .mk trivial
 .exact .mk trivial
theorem T121 {g:Zp} {x2:Ze} {f:Zk} (c:x2.sm) (d:f.s'.sm):Ok (F121 g x2 f) (fun _=>True):=by
 unfold F121
 refine obT (T122 c) fun k=>?_
 refine Oi (fun c1086=>?_) (fun c1086=>?_)
 .exact .mk trivial
 refine Ob (T123 d) fun⟨l,j⟩ b=>?_
 try dsimp only at b
 refine Ob (T124 d) fun⟨m,n⟩ a=>?_
 try dsimp only at a
 refine Ob (P:=fun r=>¬r=true->¬(!j)=true) ?_ fun i e=>?_
 .refine Oi (fun _=>.mk (fun h=>absurd rfl h)) (fun c1090=>?_)
  refine obT (T125 c a) fun o=>?_
  exact .mk (fun _=>c1090)
 exact .mk trivial
theorem Tn112_3 {L:List Zv} {x2:Z0} {x3:Int} (e3:L.length+3000<=1000000) (C:x2.sm):Ok (Fn112_3 L x2 x3) (fun v=>L.length<=v.length/\v.length<=L.length+3000):=by
 unfold Fn112_3
 have U:=C.Measures
 refine Ob (P:=fun r=>L.length<=r.length/\r.length<=L.length+3000) (aN (l:=x2.Measures) (fun q=>q.1) (fun i q=>L.length<=q.2.length/\q.2.length<=L.length+i*300) (Nat.lt_of_le_of_lt C.Measures (by decide)) rfl (by dsimp only;omega) (fun b6 M q1103 Y G c t g a y=>?_) (fun q1103 c g=>?_)) fun e2 d3=>?_
 .obtain ⟨d0,D⟩:=q1103
  dsimp only at c t a y g
  simp only[t,a,nt]
  have n:=C.MeasuresE _ G
  have V:=n.Cells
  refine Ob (P:=fun r=>D.length<=r.length/\r.length<=D.length+300) (aN (l:=M.Cells) (fun q=>q.1) (fun i q=>D.length<=q.2.length/\q.2.length<=D.length+i*60) (Nat.lt_of_le_of_lt n.Cells (by decide)) rfl (by dsimp only;omega) (fun b7 N q1117 Z H d u h b z=>?_) (fun q1117 d h=>?_)) fun e1 d4=>?_
  .obtain ⟨d1,E⟩:=q1117
   dsimp only at d u b z h
   simp only[u,a,b,nt]
   have o:=n.CellsE _ H
   have W:=o.Voices
   refine Ob (P:=fun r=>E.length<=r.length/\r.length<=E.length+60) (aN (l:=N.Voices) (fun q=>q.1) (fun i q=>E.length<=q.2.length/\q.2.length<=E.length+i*20) (Nat.lt_of_le_of_lt o.Voices (by decide)) rfl (by dsimp only;omega) (fun b8 O q1131 a0 J e w j m A=>?_) (fun q1131 e j=>?_)) fun e0 d5=>?_
   .obtain ⟨d2,F⟩:=q1131
    dsimp only at e w m A j
    simp only[w,a,b,m,nt]
    have p:=o.VoicesE _ J
    have X:=p.Events
    refine Ob (P:=fun r=>F.length<=r.length/\r.length<=F.length+20) (aN (l:=O.Events) (fun q=>q.1) (fun i q=>F.length<=q.2.length/\q.2.length<=F.length+i*1) (Nat.lt_of_le_of_lt p.Events (by decide)) rfl (by dsimp only;omega) (fun b9 b4 q1145 b0 K f x k s B=>?_) (fun q1145 f k=>?_)) fun d9 d6=>?_
    .obtain ⟨S,T⟩:=q1145
     dsimp only at f x s B k
     simp only[x,a,b,m,s,nt]
     have R:=p.EventsE _ K
     refine obT (T121 R C) fun d7=>?_
     refine Ob (Tn96 (by first|omega|(simp only[List.length_nil]at *;omega)) C) fun d8 b5=>?_
     exact .mk ⟨B,by dsimp only;omega⟩
    .obtain ⟨S,T⟩:=q1145
     dsimp only at f k
     simp only[f,nf]
     exact .mk (by dsimp only;omega)
    exact .mk ⟨A,by dsimp only;omega⟩
   .obtain ⟨d2,F⟩:=q1131
    dsimp only at e j
    simp only[e,nf]
    exact .mk (by dsimp only;omega)
   exact .mk ⟨z,by dsimp only;omega⟩
  .obtain ⟨d1,E⟩:=q1117
   dsimp only at d h
   simp only[d,nf]
   exact .mk (by dsimp only;omega)
  exact .mk ⟨y,by dsimp only;omega⟩
 .obtain ⟨d0,D⟩:=q1103
  dsimp only at c g
  simp only[c,nf]
  exact .mk (by dsimp only;omega)
 exact .mk (by omega)
theorem Tn68 {a:List Zv} {x2:Z0} {e:Int} (d:a.length+3000<=1000000) (c:x2.sm):Ok (Fn68 a x2 e) (fun v=>a.length<=v.length/\v.length<=a.length+3000):=by
 unfold Fn68
 refine Ob (Tn112_3 (by first|omega|(simp only[List.length_nil]at *;omega)) c) fun f b=>?_
 exact .mk (by omega)
theorem T183 {a:Ze} {x2:Int} (c:a.sm) (d:0<=x2):Ok (F183 a x2) (fun v=>v=false->x2<(a.Lyrics.length:Int)):=by
 unfold F183
 refine Ob (P:=fun r=>r=false->x2<(a.Lyrics.length:Int)) (Oi (fun _=>.mk (fun h=>by cases h)) (fun hc=>?_)) fun b hb=>.mk hb
 simp only[decide_eq_true_eq]at hc
 exact Ob (bC (Q:=fun _=>True) d (by omega) (fun _ _ _=>trivial)) fun y _=>.mk (fun _=>by omega)
theorem Tn126 {o x2 u:Int} {D:List (Zp×Bool)} {v:List Zv} {p:Z0} {E:Int} (A:v.length+0<=1000000) (d:p.sm) (C:0<=o) (hy:0<=x2) (s:0<=u):Ok (Fn126 o x2 u D v p E) (fun _=>True):=by
 unfold Fn126
 have G:=d.Measures
 refine Ob (P:=fun _=>True) (aN (l:=p.Measures) (fun q=>q.1) (fun _ _=>True) (by omega) rfl trivial (fun i e q _ g hi hl _ hg hw=>?_) (fun q hi _=>?_)) fun⟨a1,a2,a3,a4,a5,a6,a7⟩ _=>?_
 .obtain ⟨x,k,st,m,n,ev,y,l⟩:=q
  dsimp only at hi hl hg hw
  simp only[hl,hg,nt]
  refine Ob (P:=fun r=>¬r=true->∃y,lget e.Cells o=some y/\x2<(y.Voices.length:Int)) (Oi (fun _=>.mk (fun h=>absurd rfl h)) (fun hc=>?_)) fun b hb=>?_
  .simp only[decide_eq_true_eq]at hc
   exact Ok.bindE (bC (Q:=fun _=>True) C (by omega) (fun _ _ _=>trivial)) fun y hy _=>.mk (fun h=>⟨y,hy,by simpa using h⟩)
  refine Oi (fun _=>.mk ⟨hw,trivial⟩) (fun hc=>?_)
  obtain⟨c,f,hv⟩:=hb hc
  rw[f,Option.bind_some]
  refine Ok.bindE (bC (Q:=fun _=>True) hy hv (fun _ _ _=>trivial)) fun z j _=>?_
  have t:=((d.MeasuresE e g).CellsE c (cM f).2.2.1).VoicesE z (cM j).2.2.1
  have F:=t.Events
  refine Ob (P:=fun _=>True) (aN (l:=z.Events) (fun q=>q.1) (fun _ _=>True) (by omega) rfl trivial (fun i e q _ g hi hl _ hg hw=>?_) (fun q hi _=>?_)) fun⟨a1,a2,a3,a4,a5,a6,a7⟩ _=>.mk ⟨hw,trivial⟩
  .obtain ⟨x,k,st,m,n,ev,y,l⟩:=q
   dsimp only at hi hl hg hw
   simp only[hl,hg,nt]
   refine Ob (T183 (t.EventsE e g) s) fun a B=>?_
   refine Oi (fun _=>.mk ⟨hw,trivial⟩) (fun hc=>?_)
   refine Ob (bC (Q:=fun _=>True) s (B (by simpa using hc)) (fun _ _ _=>trivial)) fun w _=>?_
   refine Ob (P:=fun _=>True) (Oi (fun _=>.mk trivial) (fun _=>.mk trivial)) fun _ _=>?_
   exact Ob (P:=fun _=>True) (Oi (fun _=>.mk trivial) (fun _=>.mk trivial)) fun _ _=>.mk ⟨hw,trivial⟩
  .obtain ⟨x,k,st,m,n,ev,y,l⟩:=q
   dsimp only at hi
   simp only[hi,nf]
   exact .mk trivial
 .obtain ⟨x,k,st,m,n,ev,y,l⟩:=q
  dsimp only at hi
  simp only[hi,nf]
  exact .mk trivial
 exact Ob (P:=fun _=>True) (Oi (fun _=>.mk trivial) (fun _=>.mk trivial)) fun _ _=>.mk trivial
theorem T127 {b:Zp} {x2:Ze} {c:List (Zp×Bool)} (a:x2.sm):Ok (F127 b x2 c) (fun _=>True):=by
 unfold F127
 exact .mk trivial
theorem Tn112_4 {x1:List (Zp×Bool)} {x2:List Zv} {x3:Z0} {x4:Int} (e2:x2.length+3000<=1000000) (F:x3.sm):Ok (Fn112_4 x1 x2 x3 x4) (fun v=>x2.length<=v.length/\v.length<=x2.length+3000):=by
 unfold Fn112_4
 have T:=F.Measures
 refine Ob (P:=fun r=>x2.length<=r.length/\r.length<=x2.length+3000) (aN (l:=x3.Measures) (fun q=>q.1) (fun i q=>x2.length<=q.2.length/\q.2.length<=x2.length+i*300) (Nat.lt_of_le_of_lt F.Measures (by decide)) rfl (by dsimp only;omega) (fun b5 L q1162 X G c t g a y=>?_) (fun q1162 c g=>?_)) fun e1 d2=>?_
 .obtain ⟨b9,C⟩:=q1162
  dsimp only at c t a y g
  simp only[t,a,nt]
  have n:=F.MeasuresE _ G
  have U:=n.Cells
  refine Ob (P:=fun r=>C.length<=r.length/\r.length<=C.length+300) (aN (l:=L.Cells) (fun q=>q.1) (fun i q=>C.length<=q.2.length/\q.2.length<=C.length+i*60) (Nat.lt_of_le_of_lt n.Cells (by decide)) rfl (by dsimp only;omega) (fun b6 M q1176 Y H d u h b z=>?_) (fun q1176 d h=>?_)) fun e0 d3=>?_
  .obtain ⟨d0,D⟩:=q1176
   dsimp only at d u b z h
   simp only[u,a,b,nt]
   have o:=n.CellsE _ H
   have V:=o.Voices
   refine Ob (P:=fun r=>D.length<=r.length/\r.length<=D.length+60) (aN (l:=M.Voices) (fun q=>q.1) (fun i q=>D.length<=q.2.length/\q.2.length<=D.length+i*20) (Nat.lt_of_le_of_lt o.Voices (by decide)) rfl (by dsimp only;omega) (fun b7 N q1190 Z J e w j m A=>?_) (fun q1190 e j=>?_)) fun d9 d4=>?_
   .obtain ⟨d1,E⟩:=q1190
    dsimp only at e w m A j
    simp only[w,a,b,m,nt]
    have p:=o.VoicesE _ J
    have W:=p.Events
    refine Ob (P:=fun r=>E.length<=r.length/\r.length<=E.length+20) (aN (l:=N.Events) (fun q=>q.1) (fun i q=>E.length<=q.2.length/\q.2.length<=E.length+i*1) (Nat.lt_of_le_of_lt p.Events (by decide)) rfl (by dsimp only;omega) (fun b8 b0 q1204 a0 K f x k s B=>?_) (fun q1204 f k=>?_)) fun d8 d5=>?_
    .obtain ⟨R,S⟩:=q1204
     dsimp only at f x s B k
     simp only[x,a,b,m,s,nt]
     have O:=p.EventsE _ K
     refine obT (T127 O) fun d6=>?_
     refine Ob (Tn96 (by first|omega|(simp only[List.length_nil]at *;omega)) F) fun d7 b4=>?_
     exact .mk ⟨B,by dsimp only;omega⟩
    .obtain ⟨R,S⟩:=q1204
     dsimp only at f k
     simp only[f,nf]
     exact .mk (by dsimp only;omega)
    exact .mk ⟨A,by dsimp only;omega⟩
   .obtain ⟨d1,E⟩:=q1190
    dsimp only at e j
    simp only[e,nf]
    exact .mk (by dsimp only;omega)
   exact .mk ⟨z,by dsimp only;omega⟩
  .obtain ⟨d0,D⟩:=q1176
   dsimp only at d h
   simp only[d,nf]
   exact .mk (by dsimp only;omega)
  exact .mk ⟨y,by dsimp only;omega⟩
 .obtain ⟨b9,C⟩:=q1162
  dsimp only at c g
  simp only[c,nf]
  exact .mk (by dsimp only;omega)
 exact .mk (by omega)
theorem Tn69 {b:List Zv} {x2:Z0} {h:Int} (f:b.length+3000<=1000000) (a:x2.sm):Ok (Fn69 b x2 h) (fun v=>b.length<=v.length/\v.length<=b.length+3000):=by
 unfold Fn69
 refine Ob (T32 a) fun n g=>?_
 refine Ob (P:=fun _=>True) (dQ (fun q=>q.1) n (fun _=>True) g (by decide) trivial (fun q _ h1 h2=>?_)) fun m _=>?_
 .obtain ⟨x,l⟩:=q
  dsimp only at h1 h2 ⊢
  refine Oi (fun hc=>?_) (fun _=>.mk trivial)
  simp only[decide_eq_true_eq]at hc
  refine Ob (P:=fun _=>True) (dQ (fun q=>q.1) 2 (fun _=>True) (by decide) (by dsimp only;omega) trivial (fun q _ c g2=>?_)) fun m _=>.mk ⟨hc,h2 hc,trivial⟩
  obtain⟨y,l⟩:=q
  dsimp only at c g2 ⊢
  refine Oi (fun hd=>?_) (fun _=>.mk trivial)
  simp only[decide_eq_true_eq]at hd
  refine Ob (P:=fun _=>True) (dQ (fun q=>q.1) 4 (fun _=>True) (by decide) (by dsimp only;omega) trivial (fun q _ d e=>?_)) fun m _=>.mk ⟨hd,g2 hd,trivial⟩
  obtain⟨z,l⟩:=q
  dsimp only at d e ⊢
  refine Oi (fun he=>?_) (fun _=>.mk trivial)
  simp only[decide_eq_true_eq]at he
  exact Ob (Tn126 (by omega) a h1 c d) fun m _=>.mk ⟨he,e he,trivial⟩
 .exact Ob (Tn112_4 (by omega) a) fun v hv=>.mk (by omega)
theorem Tn91_2 {a:Z0} (b:a.sm):Ok (Fn91_2 a) (fun _=>True):=by
 unfold Fn91_2
 exact .mk trivial
theorem Ty47_13 {e x2:Int} {f g:Int} {h i j:Int} {c:Zj} {k:Bool} {a:Zp} {b:Zz} (d:c.sm):Ok (Fy47_13 e x2 f g h i j c k a b) (fun _=>True):=by
 unfold Fy47_13
 refine Oi (fun c1209=>?_) (fun c1209=>?_)
 .exact .mk trivial
 exact .mk trivial
theorem Ty47_13_2 {c x2:Int} {d e:Int} {f g h:Int} {i:Zf} {j:Bool} {a:Zp} {b:Zz}:Ok (Fy47_13_2 c x2 d e f g h i j a b) (fun _=>True):=by
 unfold Fy47_13_2
 refine Oi (fun c1210=>?_) (fun c1210=>?_)
 .exact .mk trivial
 exact .mk trivial
theorem Ty47_13_3 {e x2:Int} {f g:Int} {h i j:Int} {c:Zm} {k:Bool} {a:Zp} {b:Zz} (d:c.sm):Ok (Fy47_13_3 e x2 f g h i j c k a b) (fun _=>True):=by
 unfold Fy47_13_3
 refine Oi (fun c1211=>?_) (fun c1211=>?_)
 .exact .mk trivial
 exact .mk trivial
theorem Ty47_13_4 {e x2:Int} {f g:Int} {h i j:Int} {c:Ze} {k:Bool} {a:Zp} {b:Zz} (d:c.sm):Ok (Fy47_13_4 e x2 f g h i j c k a b) (fun _=>True):=by
 unfold Fy47_13_4
 refine Oi (fun c1212=>?_) (fun c1212=>?_)
 .exact .mk trivial
 exact .mk trivial
theorem Ty47_13_5 {c x2:Int} {d e:Int} {f g h:Int} {i:Zn} {j:Bool} {a:Zp} {b:Zz}:Ok (Fy47_13_5 c x2 d e f g h i j a b) (fun _=>True):=by
 unfold Fy47_13_5
 refine Oi (fun c1213=>?_) (fun c1213=>?_)
 .exact .mk trivial
 exact .mk trivial
theorem Tn154_2 {m:Z0} {x2:Bool} {Y:Zp} {Z:Zz} (g:m.sm):Ok (Fn154_2 m x2 Y Z) (fun v=>match v with|.inl p=>p.Kind=4->0<=p.Event/\m.pl p.Measure p.Staff p.Voice|.inr _=>True):=by
 unfold Fn154_2
 have hP:=g.Parts
 have hM:=g.Measures
 have V:=g.Spanners
 refine Ob (P:=fun r=>match r with|.inl p=>p.1≠4|.inr _=>True) (aN (l:=m.Parts) (fun q=>q.2) (fun _ _=>True) (by omega) rfl trivial (fun i e q E C hi hl _ hg hw=>?_) (fun q hi _=>?_)) fun r hr=>?_
 .obtain ⟨s,x⟩:=q
  dsimp only at hi hl hg hw
  simp only[hl,hg,nt]
  refine Ob (Ty47_13 (g.PartsE e C)) fun r _=>?_
  rcases r with _|_
  .exact .mk (show(1:Int)≠4 by decide)
  have V:=(g.PartsE e C).Staves
  refine Ob (P:=fun _=>True) (aN (l:=e.Staves) (fun q=>q.2) (fun _ _=>True) (by omega) rfl trivial (fun i2 e2 q X W G B _ o D=>?_) (fun q hi _=>?_)) fun r _=>?_
  .obtain ⟨s,y⟩:=q
   dsimp only at G B o D
   simp only[B,o,nt]
   refine Ob Ty47_13_2 fun r _=>?_
   rcases r with _|_
   .exact .mk trivial
   .exact .mk ⟨D,trivial⟩
  .obtain ⟨s,y⟩:=q
   dsimp only at hi
   simp only[hi,nf]
   exact .mk trivial
  rcases r with⟨a,b⟩|a
  .exact .mk (show(2:Int)≠4 by decide)
  .exact .mk ⟨hw,trivial⟩
 .obtain ⟨s,y⟩:=q
  dsimp only at hi
  simp only[hi,nf]
  exact .mk trivial
 rcases r with⟨k,p,st⟩|_
 .exact .mk (fun h=>absurd h hr)
 refine Ob (P:=fun r=>match r with|.inl p=>p.1=4->0<=p.2.2.2.2/\m.pl p.2.2.1 p.2.1 p.2.2.2.1|.inr _=>True) (aN (l:=m.Measures) (fun q=>q) (fun _ _=>True) (by omega) rfl trivial (fun i e q E C hi hl _ hg hw=>?_) (fun q hi _=>?_)) fun r hr=>?_
 .simp only[hl,hg,nt]
  have S:=g.MeasuresE e C
  have hC:=S.Cells
  refine Ob (Ty47_13_3 S) fun r _=>?_
  rcases r with _|_
  .exact .mk (fun h=>absurd (show(3:Int)=4 from h) (by decide))
  refine Ob (P:=fun r=>match r with|.inl p=>0<=p.2.2/\m.pl q p.1 p.2.1|.inr _=>True) (aN (l:=e.Cells) (fun q=>q) (fun _ _=>True) (by omega) rfl trivial (fun j c w E K hj hlc _ z N=>?_) (fun q hi _=>?_)) fun r hr=>?_
  .simp only[hlc,z,nt]
   have T:=S.CellsE c K
   have hV:=T.Voices
   refine Ob (P:=fun r=>match r with|.inl p=>0<=p.2/\m.pl q w p.1|.inr _=>True) (aN (l:=c.Voices) (fun q=>q) (fun _ _=>True) (by omega) rfl trivial (fun k v u E M hk J _ A R=>?_) (fun q hi _=>?_)) fun r hr=>?_
   .simp only[J,A,nt]
    have U:=T.VoicesE v M
    have hE:=U.Events
    refine Ob (P:=fun r=>match r with|.inl x=>0<=x|.inr _=>True) (aN (l:=v.Events) (fun q=>q) (fun _ _=>True) (by omega) rfl trivial (fun n ev t E L ht H _ F O=>?_) (fun q hi _=>?_)) fun r hr=>?_
    .simp only[H,F,nt]
     refine Ob (Ty47_13_4 (U.EventsE ev L)) fun r _=>?_
     rcases r with _|_
     .exact .mk (show(0:Int)<=t by omega)
     .exact .mk ⟨O,trivial⟩
    .simp only[hi,nf]
     exact .mk trivial
    rcases r with x|_
    .exact .mk ⟨hr,e,c,v,hg,z,A⟩
    .exact .mk ⟨R,trivial⟩
   .simp only[hi,nf]
    exact .mk trivial
   rcases r with⟨a,b⟩|_
   .exact .mk hr
   .exact .mk ⟨N,trivial⟩
  .simp only[hi,nf]
   exact .mk trivial
  rcases r with⟨a,b,c⟩|_
  .exact .mk (fun _=>hr)
  .exact .mk ⟨hw,trivial⟩
 .simp only[hi,nf]
  exact .mk trivial
 rcases r with⟨a,b,c,d,f⟩|_
 .exact .mk hr
 refine Ob (P:=fun _=>True) (aN (l:=m.Spanners) (fun q=>q) (fun _ _=>True) (by omega) rfl trivial (fun i e q E C hi hl _ hg hw=>?_) (fun q hi _=>?_)) fun r hr=>?_
 .simp only[hl,hg,nt]
  refine Ob Ty47_13_5 fun r _=>?_
  rcases r with _|_
  .exact .mk trivial
  .exact .mk ⟨hw,trivial⟩
 .simp only[hi,nf]
  exact .mk trivial
 rcases r with x|_
 .exact .mk (fun h=>absurd (show(5:Int)=4 from h) (by decide))
 .exact .mk trivial
theorem T47 {b:Z0} {x2:Zz} (a:b.sm):Ok (F47 b x2) (fun v=>v.2=true->v.1.Kind=4->0<=v.1.Event/\b.pl v.1.Measure v.1.Staff v.1.Voice):=by
 unfold F47
 refine Oi (fun _=>.mk (fun h=>by cases h)) (fun _=>?_)
 refine Ob (Tn91_2 a) fun _ _=>?_
 refine Ob (Tn154_2 a) fun r hr=>?_
 rcases r with p|_
 .exact .mk (fun _=>hr)
 .exact .mk (fun h=>by cases h)
theorem T235 {a:List Int} (c:a.length<=20):Ok (F235 a) (fun _=>True):=by
 unfold F235
 refine Ob (jY (by omega) (by omega) (by omega)) fun h h2=>?_
 refine Ob (P:=fun v=>v.length=a.length) (dQ (fun q=>q.1) (a.length:Int) (fun q=>q.2.length=a.length) (by omega) (by dsimp only;omega) (by rw[h2];simp) (fun q b h1 h2=>?_)) fun v hv=>.mk trivial
 obtain⟨i,l⟩:=q
 dsimp only at b h1 h2 ⊢
 refine Oi (fun hc=>?_) (fun _=>.mk b)
 simp only[decide_eq_true_eq]at hc
 rw[aU (n:=i-1) (by omega) (by omega)]
 refine Ob (bJ (by omega) (by omega)) fun j e=>?_
 refine Ob (bS (by omega)) fun x _=>?_
 refine Ob (bC (Q:=fun _=>True) (by omega) (by omega) (fun _ _ _=>trivial)) fun y _=>?_
 refine Ob (bJ (by omega) (by omega)) fun g d=>?_
 exact Ob (bK1 (by omega)) fun m f=>.mk ⟨hc,h2 hc,by dsimp only;omega⟩
theorem T219 {c:Zo} {x2:Int} (b:c.sm):Ok (F219 c x2) (fun _=>True):=by
 unfold F219
 refine Ob (T210 b) fun⟨d,e⟩ a=>?_
 try dsimp only at a
 refine Oi (fun c1215=>?_) (fun c1215=>?_)
 .exact .mk trivial
 refine obT (T235 a) fun f=>?_
 exact .mk trivial
theorem T184 {i:Zk} {x2:Zz} (c:i.s'.sm):Ok (F184 i x2) (fun _=>True):=by
 unfold F184
 refine Ob (T47 c) fun⟨p,f⟩ hp=>?_
 dsimp only at hp
 refine Oi (fun _=>.mk trivial) (fun hc=>?_)
 simp only[Bool.or_eq_true,not_or,Bool.not_eq_true',Bool.not_eq_false,bne_iff_ne,ne_eq,Decidable.not_not]at hc
 obtain⟨h0,x,y,z,d,hy,g⟩:=hp hc.1 hc.2
 simp only[d,hy,g,Option.bind_some]
 have h:=c.MeasuresE x (cM d).2.2.1
 have j:=(h.CellsE y (cM hy).2.2.1).VoicesE z (cM g).2.2.1
 refine Ob (T106 h) fun⟨a,b⟩ _=>?_
 refine Ob (T219 j) fun⟨on,e⟩ _=>?_
 refine Oi (fun _=>.mk trivial) (fun hd=>?_)
 simp only[decide_eq_true_eq]at hd
 exact Ob (bC (Q:=fun _=>True) h0 (by dsimp only at hd ⊢;omega) (fun _ _ _=>trivial)) fun w _=>.mk trivial
theorem T236 {a x2:Int}:Ok (F236 a x2) (fun _=>True):=by
 unfold F236
 exact .mk trivial
theorem T220 {g:Zq}:Ok (F220 g) (fun _=>True):=by
 unfold F220
 refine obT (T236) fun x2=>?_
 refine Ob (P:=fun r=>r=true->x2=true) ?_ fun i a=>?_
 .refine Oi (fun c1219=>?_) (fun _=>.mk (fun h=>by cases h))
  refine obT (T236) fun k=>?_
  exact .mk (fun _=>c1219)
 refine Ob (P:=fun r=>r=true->i=true) ?_ fun j b=>?_
 .refine Oi (fun c1222=>?_) (fun _=>.mk (fun h=>by cases h))
  have e:=a c1222
  refine obT (T236) fun l=>?_
  exact .mk (fun _=>c1222)
 refine Ob (P:=fun r=>r=true->j=true) ?_ fun n d=>?_
 .refine Oi (fun c1226=>?_) (fun _=>.mk (fun h=>by cases h))
  have c:=b c1226
  have f:=a c
  refine obT (T236) fun m=>?_
  exact .mk (fun _=>c1226)
 exact .mk trivial
theorem T221 {a:Int}:Ok (F221 a) (fun _=>True):=by
 unfold F221
 exact .mk trivial
theorem T50 {a:Int}:Ok (F50 a) (fun _=>True):=by
 unfold F50
 exact .mk trivial
theorem T26 {a x2:Int}:Ok (F26 a x2) (fun _=>True):=by
 unfold F26
 refine obT (T50) fun b=>?_
 refine obT (T50) fun c=>?_
 refine Oi (fun c1232=>?_) (fun c1232=>?_)
 .refine Oi (fun c1233=>?_) (fun c1233=>?_)
  .exact .mk trivial
  exact .mk trivial
 refine Oi (fun c1234=>?_) (fun c1234=>?_)
 .exact .mk trivial
 refine Oi (fun c1235=>?_) (fun c1235=>?_)
 .exact .mk trivial
 refine Oi (fun c1236=>?_) (fun c1236=>?_)
 .exact .mk trivial
 exact .mk trivial
theorem T25 {j:List Int} (e:j.length<=20):Ok (F25 j) (fun _=>True):=by
 unfold F25
 have g:=e
 refine lpT (l:=j) (fun q=>q) (Nat.lt_of_le_of_lt e (by decide)) rfl (fun i h k f a c b d=>?_) (fun k a=>?_) fun m=>?_
 .simp only[c,b,nt]
  refine Oi (fun c1248=>?_) (fun c1248=>?_)
  .exact .mk trivial
  exact .mk d
 .simp only[a,nf]
  exact .mk trivial
 rcases m with n|_
 .exact .mk trivial
 .exact .mk trivial
theorem T222 {a x2:Zq}:Ok (F222 a x2) (fun _=>True):=by
 unfold F222
 refine obT (T26) fun b=>?_
 refine obT (T26) fun c=>?_
 refine obT (T25 (by simp)) fun d=>?_
 exact .mk trivial
theorem T185 {e:Zs}:Ok (F185 e) (fun _=>True):=by
 unfold F185
 refine Oi (fun c1252=>?_) (fun c1252=>?_)
 .exact .mk trivial
 refine obT (T220) fun x2=>?_
 refine Ob (P:=fun r=>¬r=true->¬(!x2)=true) ?_ fun g a=>?_
 .refine Oi (fun _=>.mk (fun h=>absurd rfl h)) (fun c1255=>?_)
  refine obT (T220) fun f=>?_
  exact .mk (fun _=>c1255)
 refine Oi (fun c1257=>?_) (fun c1257=>?_)
 .exact .mk trivial
 have c:=a c1257
 refine Ob (P:=fun r=>¬r=true->¬(e.From.Staff !=e.To.Staff)=true) ?_ fun j b=>?_
 .refine Oi (fun _=>.mk (fun h=>absurd rfl h)) (fun c1260=>?_)
  refine obT (T221) fun i=>?_
  exact .mk (fun _=>c1260)
 refine Oi (fun c1262=>?_) (fun c1262=>?_)
 .exact .mk trivial
 have d:=b c1262
 refine obT (T222) fun k=>?_
 refine Oi (fun c1265=>?_) (fun c1265=>?_)
 .exact .mk trivial
 exact .mk trivial
theorem Tn128 {h:List Zv} {x2:Z0} {k:Int} (j:h.length+0<=1000000) (c:x2.sm):Ok (Fn128 h x2 k) (fun v=>v.1.length=x2.Spanners.length/\v.2.length=x2.Spanners.length):=by
 unfold Fn128
 have o:=c.Spanners
 refine Ob (P:=fun v=>v.1.length=x2.Spanners.length/\v.2.length=x2.Spanners.length) (aN (l:=x2.Spanners) (fun q=>q.1) (fun i q=>q.2.1.length=i/\q.2.2.length=i) (by omega) rfl ⟨rfl,rfl⟩ (fun i e q r p hi hl d hg hw=>?_) (fun q hi d=>?_)) fun⟨a,b⟩ hv=>.mk hv
 .obtain ⟨x,f,g⟩:=q
  dsimp only at hi hl d hg hw
  simp only[hl,hg,nt]
  refine Ob (T184 c) fun⟨p1,m⟩ _=>?_
  refine Ob (T184 c) fun⟨p2,n⟩ _=>?_
  refine Ob (cW (Q:=fun v=>v.length=g.length+1) (by omega) (by simp)) fun s h1=>?_
  refine Ob (P:=fun _=>True) (Oi (fun _=>.mk trivial) (fun _=>Ob T185 fun _ _=>.mk trivial)) fun b _=>?_
  exact Ob (cW (Q:=fun v=>v.length=f.length+1) (by omega) (by simp)) fun t h2=>.mk ⟨hw,by dsimp only;omega,by dsimp only;omega⟩
 .obtain ⟨x,f,g⟩:=q
  dsimp only at hi d
  simp only[hi,nf]
  exact .mk d
theorem Tn70 {c:List Zv} {x2:Z0} {m:Int} (h:c.length+10<=1000000) (d:x2.sm):Ok (Fn70 c x2 m) (fun v=>c.length<=v.length/\v.length<=c.length+10):=by
 unfold Fn70
 have n:=d.Spanners
 refine Ob (Tn128 (by omega) d) fun⟨a,b⟩ g=>?_
 dsimp only at g
 refine Ob (P:=fun v=>c.length<=v.length/\v.length<=c.length+10) (aN (l:=x2.Spanners) (fun q=>q.1) (fun i q=>c.length<=q.2.length/\q.2.length<=c.length+i) (by omega) rfl (by dsimp only;omega) (fun i e q p o hi hl f hg hw=>?_) (fun q hi f=>?_)) fun v hv=>.mk (by omega)
 .obtain ⟨x,l⟩:=q
  dsimp only at hi hl f hg hw
  simp only[hl,hg,nt]
  refine Ob (bJ (by omega) (by omega)) fun j k=>?_
  refine Ob (bS k.2) fun y _=>?_
  exact Ob (Tn96 (by omega) d) fun v hv=>.mk ⟨hw,by dsimp only;omega⟩
 .obtain ⟨x,l⟩:=q
  dsimp only at hi f
  simp only[hi,nf]
  exact .mk (by omega)
theorem T223 {b:Int}:Ok (F223 b) (fun v=>v>0->1<=b/\b<=7):=by
 unfold F223
 refine Oi (fun c1266=>?_) (fun c1266=>?_)
 .exact .mk (by omega)
 refine Ob (bC (Q:=fun _=>True) (by(simp only[nm]at *;rw[aU (by omega) (by omega)];omega)) (by(simp only[nm,nl]at *;rw[aU (by omega) (by omega)];omega)) (fun _ _ _=>trivial)) fun x2 a=>?_
 exact .mk (by(simp only[nm]at *;omega))
theorem T186 {a x2:Zs}:Ok (F186 a x2) (fun v=>v=true->1<=a.Kind/\a.Kind<=7):=by
 unfold F186
 refine Ob T223 fun f hf=>?_
 refine Ob (P:=fun r=>r=true->1<=a.Kind/\a.Kind<=7) (Oi (fun hc=>?_) (fun _=>.mk (fun h=>by cases h))) fun b hb=>?_
 .simp only[decide_eq_true_eq]at hc
  have:=hf hc
  exact Ob T223 fun _ _=>Ob T223 fun _ _=>.mk (fun _=>this)
 refine Ob (P:=fun r=>r=true->1<=a.Kind/\a.Kind<=7) (Oi (fun hc=>?_) (fun _=>.mk (fun h=>by cases h))) fun b hb=>.mk hb
 simp only[Bool.and_eq_true]at hc
 have:=hb hc.1
 exact Ob T221 fun _ _=>.mk (fun _=>this)
theorem T190 {b x2:Zs}:Ok (F190 b x2) (fun _=>True):=by
 unfold F190
 refine obT (T222) fun c=>?_
 refine Ob (P:=fun r=>¬r=true->¬(decide (c<0))=true) ?_ fun e a=>?_
 .refine Oi (fun _=>.mk (fun h=>absurd rfl h)) (fun c1270=>?_)
  refine obT (T222) fun d=>?_
  exact .mk (fun _=>c1270)
 exact .mk trivial
theorem T189 {a x2:Zs}:Ok (F189 a x2) (fun _=>True):=by
 unfold F189
 refine obT (T190) fun b=>?_
 exact .mk trivial
theorem T188 {b x2:Zs}:Ok (F188 b x2) (fun _=>True):=by
 unfold F188
 refine obT (T222) fun c=>?_
 refine Ob (P:=fun r=>¬r=true->¬(decide (c<=0))=true) ?_ fun e a=>?_
 .refine Oi (fun _=>.mk (fun h=>absurd rfl h)) (fun c1275=>?_)
  refine obT (T222) fun d=>?_
  exact .mk (fun _=>c1275)
 exact .mk trivial
theorem T187 {a x2:Zs}:Ok (F187 a x2) (fun _=>True):=by
 unfold F187
 refine obT (T188) fun b=>?_
 exact .mk trivial
theorem T224 {b x2:Zs}:Ok (F224 b x2) (fun _=>True):=by
 unfold F224
 refine obT (T222) fun c=>?_
 refine Ob (P:=fun r=>r=true->(decide (c>=0))=true) ?_ fun e a=>?_
 .refine Oi (fun c1280=>?_) (fun _=>.mk (fun h=>by cases h))
  refine obT (T222) fun d=>?_
  exact .mk (fun _=>c1280)
 exact .mk trivial
theorem T191 {b x2:Zs}:Ok (F191 b x2) (fun _=>True):=by
 unfold F191
 refine obT (T188) fun c=>?_
 refine Ob (P:=fun r=>r=true->(!c)=true) ?_ fun f a=>?_
 .refine Oi (fun c1284=>?_) (fun _=>.mk (fun h=>by cases h))
  refine obT (T224) fun d=>?_
  refine obT (T224) fun e=>?_
  exact .mk (fun _=>c1284)
 exact .mk trivial
theorem T129 {a x2:Zs}:Ok (F129 a x2) (fun _=>True):=by
 unfold F129
 refine Ob T186 fun g hg=>?_
 refine Oi (fun _=>.mk trivial) (fun hc=>?_)
 have hk:=hg (by simpa using hc)
 rw[aU (n:=a.Kind-1) (by omega) (by omega)]
 refine Oi (fun _=>Ob T189 fun _ _=>.mk trivial) (fun e=>?_)
 refine Oi (fun _=>Ob T187 fun _ _=>.mk trivial) (fun d=>?_)
 refine Oi (fun _=>Ob T189 fun _ _=>.mk trivial) (fun c=>?_)
 refine Oi (fun _=>Ob T189 fun _ _=>.mk trivial) (fun b=>?_)
 refine Oi (fun _=>Ob T187 fun _ _=>.mk trivial) (fun h2=>?_)
 refine Oi (fun _=>Ob T187 fun _ _=>.mk trivial) (fun h1=>?_)
 refine Oi (fun _=>Ob T191 fun _ _=>.mk trivial) (fun h0=>?_)
 simp only[beq_iff_eq]at h0 h1 h2 b c d e
 omega
theorem Tn71 {c:List Zv} {x2:Z0} {p:Int} (o:c.length+10<=1000000) (d:x2.sm):Ok (Fn71 c x2 p) (fun v=>c.length<=v.length/\v.length<=c.length+10):=by
 unfold Fn71
 have s:=d.Spanners
 refine Ob (Tn128 (by omega) d) fun⟨a,b⟩ m=>?_
 dsimp only at m
 refine Ob (P:=fun v=>c.length<=v.length/\v.length<=c.length+10) (aN (l:=x2.Spanners) (fun q=>q.1) (fun i q=>c.length<=q.2.length/\q.2.length<=c.length+i) (by omega) rfl (by dsimp only;omega) (fun i e q u t hi hl g hg hw=>?_) (fun q hi g=>?_)) fun v hv=>.mk (by omega)
 .obtain ⟨x,l⟩:=q
  dsimp only at hi hl g hg hw
  simp only[hl,hg,nt]
  refine Ob (P:=fun _=>True) (dQ (fun q=>q.2) x (fun _=>True) (by omega) (by dsimp only;omega) trivial (fun q _ h1 h2=>?_)) fun b _=>?_
  .obtain ⟨ex,k⟩:=q
   dsimp only at h1 h2 ⊢
   refine Ob (P:=fun r=>r=true->k<x) (Oi (fun hc=>?_) (fun _=>.mk (fun h=>by cases h))) fun b hb=>?_
   .simp only[decide_eq_true_eq]at hc
    exact Ob (bJ (by omega) (by omega)) fun j f=>Ob (bS f.2) fun y _=>.mk (fun _=>hc)
   refine Oi (fun hc=>?_) (fun _=>.mk trivial)
   simp only[Bool.and_eq_true]at hc
   have hk:=hb hc.1
   refine Ob (bJ (by omega) (by omega)) fun j f=>Ob (bS f.2) fun y _=>?_
   refine Ob (P:=fun _=>True) (Oi (fun _=>?_) (fun _=>.mk trivial)) fun b _=>.mk ⟨hk,h2 hk,trivial⟩
   exact Ob (bJ (by omega) (by omega)) fun j f=>Ob (bS f.2) fun z _=>Ob (bJ (by omega) (by omega)) fun w n=>Ob (bS n.2) fun A _=>Ob T129 fun b _=>.mk trivial
  exact Ob (Tn96 (by omega) d) fun v hv=>.mk ⟨hw,by dsimp only;omega⟩
 .obtain ⟨x,l⟩:=q
  dsimp only at hi g
  simp only[hi,nf]
  exact .mk (by omega)
theorem T130 {c:Int} {x2:Zm} (a:x2.sm):Ok (F130 c x2) (fun v=>v=false->x2.RepeatEnd<=8):=by
 unfold F130
 simp only[E103,Option.bind_some]
 refine Ob (P:=fun r=>r=false->x2.RepeatEnd<=8) (Oi (fun hc=>.mk (fun h=>?_)) (fun hc=>.mk (fun _=>?_))) fun b hb=>?_
 .simp at h;omega
 .simp at hc;omega
 exact Ob (P:=fun r=>r=false->x2.RepeatEnd<=8) (Oi (fun hc=>.mk (fun h=>by cases h)) (fun hc=>.mk (fun _=>hb (by simpa using hc)))) fun b hb=>.mk hb
theorem Tn102_6 {a:List Zv} {x2:Z0} {r:Int} (o:a.length+10<=1000000) (d:x2.sm):Ok (Fn102_6 a x2 r) (fun v=>(a.length<=v.length/\v.length<=a.length+10)/\(v.length<=a.length->∀m∈x2.Measures,m.RepeatEnd<=8)):=by
 unfold Fn102_6
 have s:=d.Measures
 refine Ob (P:=fun v=>(a.length<=v.length/\v.length<=a.length+10)/\(v.length<=a.length->∀m∈x2.Measures,m.RepeatEnd<=8)) (aN (l:=x2.Measures) (fun q=>q.1) (fun i q=>q.2.length<=a.length+i/\a.length<=q.2.length/\(q.2.length<=a.length->∀j,j<i->∀m,x2.Measures[j]? =some m->m.RepeatEnd<=8)) (by omega) rfl ⟨by dsimp only;omega,Nat.le_refl _,fun _ j g=>by omega⟩ (fun i e q p n hi hl f hg hw=>?_) (fun q hi f=>?_)) fun v hv=>.mk hv
 .obtain ⟨x,l⟩:=q
  dsimp only at hi hl f hg hw
  simp only[hl,hg,nt]
  refine Ob (T130 (d.MeasuresE e n)) fun b hb=>?_
  refine Ob (S101 (by omega)) fun v hv=>.mk ⟨hw,?_,?_,fun h j g m c=>?_⟩
  .dsimp only;cases b<;>simp at hv<;>omega
  .dsimp only;cases b<;>simp at hv<;>omega
  .dsimp only at h
   cases b with
   |true=>simp at hv;omega
   |false=>
    simp only[Bool.false_eq_true,false_implies,forall_const,true_and]at hv
    by_cases k:j=i
    .subst k;rw[p]at c;cases c;exact hb rfl
    .exact f.2.2 (by omega) j (by omega) m c
 .obtain ⟨x,l⟩:=q
  dsimp only at hi f
  simp only[hi,nf]
  refine .mk ⟨⟨by omega,by omega⟩,fun h m n=>?_⟩
  obtain⟨j,g⟩:=List.mem_iff_getElem?.1 n
  exact f.2.2 h j (List.getElem?_eq_some_iff.1 g).1 m g
theorem T238 {e:Int}:Ok (F238 e) (fun v=>0<=v/\v<=1000):=by
 unfold F238
 refine Ob (P:=fun v=>0<=v.2/\v.2<=32) (Oi (fun _=>Ob (nT (by decide)) fun n _=>.mk (by dsimp only;omega)) (fun _=>.mk (by dsimp only;omega))) fun⟨h,i⟩ c=>?_
 dsimp only at c
 refine Ob (P:=fun v=>0<=v.2/\v.2<=48) (Oi (fun _=>Ob (nT (by decide)) fun n _=>.mk (by dsimp only;rw[aU (by omega) (by omega)];omega)) (fun _=>.mk (by dsimp only;omega))) fun⟨j,k⟩ d=>?_
 dsimp only at d
 refine Ob (P:=fun v=>0<=v.2/\v.2<=56) (Oi (fun _=>Ob (nT (by decide)) fun n _=>.mk (by dsimp only;rw[aU (by omega) (by omega)];omega)) (fun _=>.mk (by dsimp only;omega))) fun⟨g,f⟩ a=>?_
 dsimp only at a
 have hw:=jS1 g
 refine Ob (nU hw.1 hw.2) fun b hb=>.mk ?_
 rw[aU (n:=b) (by omega) (by omega),aU (by omega) (by omega)]
 omega
theorem T225 {b:Int}:Ok (F225 b) (fun v=>0<=v/\v<=1000):=by
 unfold F225
 refine Ob (T238) fun x2 a=>?_
 exact .mk (by omega)
theorem T132 {c:Zg} (d:c.passes<=1000):Ok (F132 c) (fun _=>True):=by
 unfold F132
 refine Ob (P:=fun r=>r=true->(decide (c.passes>0))=true) ?_ fun e a=>?_
 .refine Oi (fun c1289=>?_) (fun _=>.mk (fun h=>by cases h))
  refine Ob (bJ1 (by(simp only[nm]at *;rw[aU (by omega) (by omega)];omega))) fun x2 b=>?_
  exact .mk (fun _=>c1289)
 exact .mk trivial
theorem T192 {a:Zg} {x2:Zm} (w:x2.sm) (F:a.passes<=8) (hy:x2.RepeatEnd<=8):Ok (F192 a x2) (fun v=>v.1.passes<=8):=by
 unfold F192
 refine Oi (fun c1291=>?_) (fun c1291=>?_)
 .exact .mk (by omega)
 refine Oi (fun c1292=>?_) (fun c1292=>?_)
 .refine Oi (fun c1293=>?_) (fun c1293=>?_)
  .exact .mk (by omega)
  refine Ob (T225) fun u f=>?_
  refine Oi (fun c1295=>?_) (fun c1295=>?_)
  .refine Oi (fun c1296=>?_) (fun c1296=>?_)
   .exact .mk (by omega)
   refine Oi (fun c1297=>?_) (fun c1297=>?_)
   .refine obT (T132 (by(simp only[nm]at *;omega))) fun D=>?_
    refine Ob (P:=fun r=>¬r=true->¬(D||((a.passes !=0)&&(x2.RepeatEnd !=a.passes)))=true) ?_ fun H b=>?_
    .refine Oi (fun _=>.mk (fun h=>absurd rfl h)) (fun c1300=>?_)
     refine Ob (T225) fun G g=>?_
     exact .mk (fun _=>c1300)
    refine Oi (fun c1302=>?_) (fun c1302=>?_)
    .exact .mk (by omega)
    have n:=b c1302
    exact .mk (by omega)
   exact .mk (by omega)
  refine Ob (P:=fun r=>¬r=true->¬(decide ((w64 (u-1))>=a.passes))=true) ?_ fun y c=>?_
  .refine Oi (fun _=>.mk (fun h=>absurd rfl h)) (fun c1305=>?_)
   refine Ob (P:=fun r=>r=true->((w64 (u-1))==(w64 (a.passes-1)))=true) ?_ fun x i=>?_
   .refine Oi (fun c1307=>?_) (fun _=>.mk (fun h=>by cases h))
    refine obT (T132 (by(simp only[nm]at *;omega))) fun E=>?_
    refine Ob (P:=fun r=>¬r=true->¬(!E)=true) ?_ fun K j=>?_
    .refine Oi (fun _=>.mk (fun h=>absurd rfl h)) (fun c1310=>?_)
     refine Ob (bJ1 (by(simp(disch:=omega) only[aU,nm]at *;omega))) fun J k=>?_
     exact .mk (fun _=>c1310)
    exact .mk (fun _=>c1307)
   exact .mk (fun _=>c1305)
  refine Oi (fun c1312=>?_) (fun c1312=>?_)
  .exact .mk (by omega)
  have o:=c c1312
  refine Oi (fun c1314=>?_) (fun c1314=>?_)
  .refine obT (T132 (by(simp only[nm]at *;omega))) fun s=>?_
   refine Ob (P:=fun r=>¬r=true->¬(s||((a.passes !=0)&&(x2.RepeatEnd !=a.passes)))=true) ?_ fun A d=>?_
   .refine Oi (fun _=>.mk (fun h=>absurd rfl h)) (fun c1317=>?_)
    refine Ob (T225) fun z l=>?_
    exact .mk (fun _=>c1317)
   refine Oi (fun c1319=>?_) (fun c1319=>?_)
   .exact .mk (by omega)
   have p:=d c1319
   exact .mk (by omega)
  exact .mk (by omega)
 refine Oi (fun c1321=>?_) (fun c1321=>?_)
 .exact .mk (by omega)
 refine Oi (fun c1322=>?_) (fun c1322=>?_)
 .refine obT (T132 (by omega)) fun t=>?_
  refine Ob (P:=fun r=>¬r=true->¬(t||((a.passes !=0)&&(x2.RepeatEnd !=a.passes)))=true) ?_ fun C e=>?_
  .refine Oi (fun _=>.mk (fun h=>absurd rfl h)) (fun c1325=>?_)
   refine Ob (T225) fun B m=>?_
   exact .mk (fun _=>c1325)
  refine Oi (fun c1327=>?_) (fun c1327=>?_)
  .exact .mk (by omega)
  have q:=e c1327
  exact .mk (by omega)
 exact .mk (by omega)
theorem T131 {e:Zg} {x2:Zm} (d:x2.sm) (c:e.passes<=8) (hy:x2.RepeatEnd<=8):Ok (F131 e x2) (fun v=>v.1.passes<=8):=by
 unfold F131
 refine Oi (fun _=>Ob (T192 d c hy) fun⟨a,b⟩ h=>.mk h) (fun _=>?_)
 refine Oi (fun _=>?_) (fun _=>?_)
 .refine Ob (T132 (by omega)) fun f _=>?_
  refine Oi (fun _=>.mk c) (fun _=>?_)
  refine Oi (fun _=>Oi (fun h=>by cases h) (fun _=>?_)) (fun _=>?_)
  .exact Ob (P:=fun _=>True) (Oi (fun _=>.mk trivial) (fun _=>.mk trivial)) fun⟨a,b⟩ _=>.mk (show(0:Int)<=8 by decide)
  .exact Ob (P:=fun _=>True) (Oi (fun _=>.mk trivial) (fun _=>.mk trivial)) fun a _=>.mk (show(0:Int)<=8 by decide)
 .refine Oi (fun _=>Oi (fun _=>.mk c) (fun _=>?_)) (fun _=>?_)
  .exact Ob (P:=fun _=>True) (Oi (fun _=>.mk trivial) (fun _=>.mk trivial)) fun⟨a,b⟩ _=>.mk (show(0:Int)<=8 by decide)
  .exact Ob (P:=fun g=>g.passes<=8) (Oi (fun _=>.mk (show(0:Int)<=8 by decide)) (fun _=>.mk c)) fun g hg=>.mk hg
theorem Tn72 {f:List Zv} {x2:Z0} {t:Int} (m:f.length+21<=1000000) (c:x2.sm) (s:0<x2.Measures.length):Ok (Fn72 f x2 t) (fun v=>f.length<=v.length/\v.length<=f.length+21):=by
 unfold Fn72
 have u:=c.Measures
 refine Ob (Tn102_6 (by omega) c) fun k h=>?_
 refine Oi (fun _=>.mk (by omega)) (fun hc=>?_)
 simp only[decide_eq_true_eq]at hc
 have o:=h.2 (by omega)
 have n:=h.1
 refine Ob (P:=fun r=>match r with|.inl p=>k.length<=p.2.length/\p.2.length<=k.length+1|.inr g=>g.passes<=8) (aN (l:=x2.Measures) (fun q=>q.1) (fun i q=>q.2.passes<=8) (by omega) rfl (show(0:Int)<=8 by decide) (fun i e q s j hi hl d hg hw=>?_) (fun q hi d=>?_)) fun r hr=>?_
 .obtain ⟨x,g⟩:=q
  dsimp only at hi hl d hg hw
  simp only[hl,hg,nt]
  refine Ob (T131 (c.MeasuresE e j) d (o e j)) fun⟨g2,b⟩ hb=>?_
  refine Oi (fun _=>?_) (fun _=>.mk ⟨hw,hb⟩)
  exact Ob (Tn96 (by omega) c) fun v hv=>.mk (by dsimp only;omega)
 .obtain ⟨x,g⟩:=q
  dsimp only at hi d
  simp only[hi,nf]
  exact .mk d
 rcases r with⟨a,v⟩|g
 .exact .mk (by dsimp only at hr;omega)
 dsimp only at hr
 refine Ob (P:=fun _=>True) (Oi (fun _=>.mk trivial) (fun _=>?_)) fun b _=>?_
 .exact Ob (P:=fun _=>True) (Oi (fun _=>Ob (T132 (by omega)) fun _ _=>.mk trivial) (fun _=>.mk trivial)) fun _ _=>.mk trivial
 refine Ob (bC (Q:=fun _=>True) (by rw[aU (by omega) (by omega)];omega) (by rw[aU (by omega) (by omega)];omega) (fun _ _ _=>trivial)) fun y _=>?_
 exact Ob (Tn96 (by omega) c) fun v hv=>.mk (by omega)
theorem T134 {a x2:Zm} (b:a.sm) (c:x2.sm):Ok (F134 a x2) (fun _=>True):=by
 unfold F134
 exact .mk trivial
theorem T193 {j:List Zm} {x2:Zm} (g:j.length<=10) (h:∀y∈j,y.sm) (m:x2.sm):Ok (F193 j x2) (fun _=>True):=by
 unfold F193
 have i:=g
 refine lpT (l:=j) (fun q=>q) (Nat.lt_of_le_of_lt g (by decide)) rfl (fun n k o d a c b e=>?_) (fun o a=>?_) fun p=>?_
 .simp only[c,b,nt]
  have f:=h _ d
  refine obT (T134 f m) fun r=>?_
  refine Oi (fun c1342=>?_) (fun c1342=>?_)
  .exact .mk trivial
  exact .mk e
 .simp only[a,nf]
  exact .mk trivial
 rcases p with s|_
 .exact .mk trivial
 .exact .mk trivial
theorem T135 {d:List Zm} {x2:Zm} (b:d.length<=10) (a:∀y∈d,y.sm) (c:x2.sm):Ok (F135 d x2) (fun _=>True):=by
 unfold F135
 refine obT (T193 b a c) fun e=>?_
 exact .mk trivial
theorem T226 {a:Zm} {x2:Int} (b:a.sm):Ok (F226 a x2) (fun _=>True):=by
 unfold F226
 exact .mk trivial
theorem T193_2 {j:List Zm} {x2:Int} (g:j.length<=10) (h:∀y∈j,y.sm):Ok (F193_2 j x2) (fun _=>True):=by
 unfold F193_2
 have i:=g
 refine lpT (l:=j) (fun q=>q) (Nat.lt_of_le_of_lt g (by decide)) rfl (fun m k n d a c b e=>?_) (fun n a=>?_) fun o=>?_
 .simp only[c,b,nt]
  have f:=h _ d
  refine obT (T226 f) fun p=>?_
  refine Oi (fun c1357=>?_) (fun c1357=>?_)
  .exact .mk trivial
  exact .mk e
 .simp only[a,nf]
  exact .mk trivial
 rcases o with r|_
 .exact .mk trivial
 .exact .mk trivial
theorem T195 {b:Zk} {x2:Int} (a:b.s'.sm):Ok (F195 b x2) (fun _=>True):=by
 unfold F195
 refine obT (T193_2 a.Measures a.MeasuresE) fun c=>?_
 exact .mk trivial
theorem T194 {b:Int} {x2:Zk} {c:Int} (a:x2.s'.sm):Ok (F194 b x2 c) (fun _=>True):=by
 unfold F194
 refine obT (T195 a) fun d=>?_
 refine obT (T98) fun e=>?_
 exact .mk trivial
theorem T136 {e:Zk} {x2 j:Int} (a:e.s'.sm):Ok (F136 e x2 j) (fun _=>True):=by
 unfold F136
 refine Ob (P:=fun r=>r=true->(decide (x2>=4))=true) ?_ fun m b=>?_
 .refine Oi (fun c1362=>?_) (fun _=>.mk (fun h=>by cases h))
  refine obT (T194 a) fun l=>?_
  exact .mk (fun _=>c1362)
 refine Oi (fun c1364=>?_) (fun c1364=>?_)
 .have d:=b c1364
  exact .mk trivial
 refine obT ?_ fun n=>?_
 .refine Oi (fun c1367=>?_) (fun c1367=>?_)
  .exact .mk trivial
  exact .mk trivial
 refine Oi (fun c1368=>?_) (fun c1368=>?_)
 .refine obT (T194 a) fun o=>?_
  exact .mk trivial
 refine obT ?_ fun p=>?_
 .refine Oi (fun c1371=>?_) (fun c1371=>?_)
  .exact .mk trivial
  exact .mk trivial
 refine Oi (fun c1372=>?_) (fun c1372=>?_)
 .refine obT (T194 a) fun k=>?_
  refine Ob (P:=fun r=>r=true->k=true) ?_ fun i c=>?_
  .refine Oi (fun c1375=>?_) (fun _=>.mk (fun h=>by cases h))
   refine obT (T195 a) fun f=>?_
   refine obT (T195 a) fun g=>?_
   exact .mk (fun _=>c1375)
  exact .mk trivial
 exact .mk trivial
theorem T133 {e:Int} {x2:Zm} {f:Zk} (d:x2.sm) (a:f.s'.sm) (g:0<=e/\e<=(f.s'.Measures.length:Int)):Ok (F133 e x2 f) (fun _=>True):=by
 unfold F133
 refine Ob T98 fun w _=>?_
 refine Ob (P:=fun _=>True) (Oi (fun _=>.mk trivial) (fun _=>Ob T98 fun _ _=>.mk trivial)) fun b _=>?_
 refine Oi (fun _=>.mk trivial) (fun _=>?_)
 refine Ob (tK (by decide) g.1 g.2) fun l hl=>?_
 refine Ob (T135 (Nat.le_trans hl.1 a.Measures) (fun y hy=>a.MeasuresE y (hl.2 y hy)) d) fun c _=>?_
 exact Ob (P:=fun _=>True) (Oi (fun _=>.mk trivial) (fun _=>Ob (T136 a) fun _ _=>.mk trivial)) fun b _=>.mk trivial
theorem Tn102_7 {h:List Zv} {x2:Z0} {y:Int} (t:h.length+10<=1000000) (f:x2.sm):Ok (Fn102_7 h x2 y) (fun v=>h.length<=v.length/\v.length<=h.length+10):=by
 unfold Fn102_7
 have k:=f.Measures
 refine Ob (P:=fun r=>h.length<=r.length/\r.length<=h.length+10) (aN (l:=x2.Measures) (fun q=>q.1) (fun i q=>h.length<=q.2.length/\q.2.length<=h.length+i*1) (Nat.lt_of_le_of_lt f.Measures (by decide)) rfl (by dsimp only;omega) (fun p n q1389 m g a d b c e=>?_) (fun q1389 a b=>?_)) fun x s=>?_
 .obtain ⟨z,A⟩:=q1389
  dsimp only at a d c e b
  simp only[d,c,nt]
  have j:=f.MeasuresE _ g
  refine obT (T133 j f (by(simp only[nm]at *;omega))) fun u=>?_
  refine Ob (Tn96 (by first|omega|(simp only[List.length_nil]at *;omega)) f) fun w o=>?_
  exact .mk ⟨e,by dsimp only;omega⟩
 .obtain ⟨z,A⟩:=q1389
  dsimp only at a b
  simp only[a,nf]
  exact .mk (by dsimp only;omega)
 exact .mk (by omega)
theorem Tn73 {a:List Zv} {x2:Z0} {e:Int} (d:a.length+10<=1000000) (c:x2.sm):Ok (Fn73 a x2 e) (fun v=>a.length<=v.length/\v.length<=a.length+10):=by
 unfold Fn73
 refine Ob (Tn102_7 (by first|omega|(simp only[List.length_nil]at *;omega)) c) fun f b=>?_
 exact .mk (by omega)
theorem T137 {D:Int} {x2:Zm} (f:x2.sm):Ok (F137 D x2) (fun _=>True):=by
 unfold F137
 refine obT (T106 f) fun⟨M,N⟩=>?_
 refine Ob (P:=fun r=>r=true->(x2.Swing !=0)=true) ?_ fun L t=>?_
 .refine Oi (fun c1397=>?_) (fun _=>.mk (fun h=>by cases h))
  refine obT (T98) fun O=>?_
  exact .mk (fun _=>c1397)
 refine Ob (P:=fun r=>¬r=true->¬L=true) ?_ fun S u=>?_
 .refine Oi (fun _=>.mk (fun h=>absurd rfl h)) (fun c1400=>?_)
  refine obT (T98) fun R=>?_
  exact .mk (fun _=>c1400)
 have o:=f.Tempi
 refine lpT (l:=x2.Tempi) (fun q=>q.2) (Nat.lt_of_le_of_lt f.Tempi (by decide)) rfl (fun y s q1412 m a c b d=>?_) (fun q1412 a=>?_) fun K=>?_
 .obtain ⟨j,k⟩:=q1412
  dsimp only at a c b d
  simp only[c,b,nt]
  refine Ob (P:=fun r=>¬r=true->¬j=true) ?_ fun B e=>?_
  .refine Oi (fun _=>.mk (fun h=>absurd rfl h)) (fun c1415=>?_)
   refine obT (T98) fun E=>?_
   exact .mk (fun _=>c1415)
  refine Ob (P:=fun r=>¬r=true->¬B=true) ?_ fun C g=>?_
  .refine Oi (fun _=>.mk (fun h=>absurd rfl h)) (fun c1418=>?_)
   have z:=e c1418
   refine obT (T98) fun F=>?_
   exact .mk (fun _=>c1418)
  refine Ob (P:=fun r=>¬r=true->¬C=true) ?_ fun J v=>?_
  .refine Oi (fun _=>.mk (fun h=>absurd rfl h)) (fun c1422=>?_)
   have i:=g c1422
   have A:=e i
   refine Ob (P:=fun r=>r=true->(decide (k>0))=true) ?_ fun H w=>?_
   .refine Oi (fun c1426=>?_) (fun _=>.mk (fun h=>by cases h))
    have p:=f.Tempi
    refine Ob (P:=fun x=>x∈x2.Tempi) (bC (by(simp only[nm]at *;rw[aU (by omega) (by omega)];omega)) (by(simp only[nm]at *;rw[aU (by omega) (by omega)];omega)) (fun _ h _=>h)) fun G n=>?_
    exact .mk (fun _=>c1426)
   exact .mk (fun _=>c1422)
  exact .mk d
 .obtain ⟨j,k⟩:=q1412
  dsimp only at a
  simp only[a,nf]
  exact .mk trivial
 exact .mk trivial
theorem Tn102_8 {h:List Zv} {x2:Z0} {y:Int} (t:h.length+10<=1000000) (f:x2.sm):Ok (Fn102_8 h x2 y) (fun v=>h.length<=v.length/\v.length<=h.length+10):=by
 unfold Fn102_8
 have k:=f.Measures
 refine Ob (P:=fun r=>h.length<=r.length/\r.length<=h.length+10) (aN (l:=x2.Measures) (fun q=>q.1) (fun i q=>h.length<=q.2.length/\q.2.length<=h.length+i*1) (Nat.lt_of_le_of_lt f.Measures (by decide)) rfl (by dsimp only;omega) (fun p n q1441 m g a d b c e=>?_) (fun q1441 a b=>?_)) fun x s=>?_
 .obtain ⟨z,A⟩:=q1441
  dsimp only at a d c e b
  simp only[d,c,nt]
  have j:=f.MeasuresE _ g
  refine obT (T137 j) fun u=>?_
  refine Ob (Tn96 (by first|omega|(simp only[List.length_nil]at *;omega)) f) fun w o=>?_
  exact .mk ⟨e,by dsimp only;omega⟩
 .obtain ⟨z,A⟩:=q1441
  dsimp only at a b
  simp only[a,nf]
  exact .mk (by dsimp only;omega)
 exact .mk (by omega)
theorem Tn74 {a:List Zv} {x2:Z0} {e:Int} (d:a.length+10<=1000000) (c:x2.sm):Ok (Fn74 a x2 e) (fun v=>a.length<=v.length/\v.length<=a.length+10):=by
 unfold Fn74
 refine Ob (Tn102_8 (by first|omega|(simp only[List.length_nil]at *;omega)) c) fun f b=>?_
 exact .mk (by omega)
theorem T138 {g:Zp} {x2:Ze} {e:Zk} (a:x2.sm) (c:e.s'.sm):Ok (F138 g x2 e) (fun _=>True):=by
 unfold F138
 refine Ob (T123 c) fun⟨q,f⟩ d=>?_
 dsimp only at d
 refine Ob (P:=fun r=>¬r=true->f=true) (Oi (fun _=>.mk (fun h=>absurd rfl h)) (fun hc=>Ob (T122 a) fun t _=>.mk (fun _=>by simpa using hc))) fun b hb=>?_
 refine Oi (fun _=>.mk trivial) (fun hc=>?_)
 simp only[Bool.or_eq_true,not_or]at hc
 have:=d (hb hc.1)
 exact Ob (bC (Q:=fun _=>True) this.1 this.2.1 (fun _ _ _=>trivial)) fun x _=>Ob (bC (Q:=fun _=>True) this.2.2.1 this.2.2.2 (fun _ _ _=>trivial)) fun y _=>.mk trivial
theorem Tn112_5 {L:List Zv} {x2:Z0} {x3:Int} (e3:L.length+3000<=1000000) (C:x2.sm):Ok (Fn112_5 L x2 x3) (fun v=>L.length<=v.length/\v.length<=L.length+3000):=by
 unfold Fn112_5
 have U:=C.Measures
 refine Ob (P:=fun r=>L.length<=r.length/\r.length<=L.length+3000) (aN (l:=x2.Measures) (fun q=>q.1) (fun i q=>L.length<=q.2.length/\q.2.length<=L.length+i*300) (Nat.lt_of_le_of_lt C.Measures (by decide)) rfl (by dsimp only;omega) (fun b6 M q1458 Y G c t g a y=>?_) (fun q1458 c g=>?_)) fun e2 d3=>?_
 .obtain ⟨d0,D⟩:=q1458
  dsimp only at c t a y g
  simp only[t,a,nt]
  have n:=C.MeasuresE _ G
  have V:=n.Cells
  refine Ob (P:=fun r=>D.length<=r.length/\r.length<=D.length+300) (aN (l:=M.Cells) (fun q=>q.1) (fun i q=>D.length<=q.2.length/\q.2.length<=D.length+i*60) (Nat.lt_of_le_of_lt n.Cells (by decide)) rfl (by dsimp only;omega) (fun b7 N q1472 Z H d u h b z=>?_) (fun q1472 d h=>?_)) fun e1 d4=>?_
  .obtain ⟨d1,E⟩:=q1472
   dsimp only at d u b z h
   simp only[u,a,b,nt]
   have o:=n.CellsE _ H
   have W:=o.Voices
   refine Ob (P:=fun r=>E.length<=r.length/\r.length<=E.length+60) (aN (l:=N.Voices) (fun q=>q.1) (fun i q=>E.length<=q.2.length/\q.2.length<=E.length+i*20) (Nat.lt_of_le_of_lt o.Voices (by decide)) rfl (by dsimp only;omega) (fun b8 O q1486 a0 J e w j m A=>?_) (fun q1486 e j=>?_)) fun e0 d5=>?_
   .obtain ⟨d2,F⟩:=q1486
    dsimp only at e w m A j
    simp only[w,a,b,m,nt]
    have p:=o.VoicesE _ J
    have X:=p.Events
    refine Ob (P:=fun r=>F.length<=r.length/\r.length<=F.length+20) (aN (l:=O.Events) (fun q=>q.1) (fun i q=>F.length<=q.2.length/\q.2.length<=F.length+i*1) (Nat.lt_of_le_of_lt p.Events (by decide)) rfl (by dsimp only;omega) (fun b9 b4 q1500 b0 K f x k s B=>?_) (fun q1500 f k=>?_)) fun d9 d6=>?_
    .obtain ⟨S,T⟩:=q1500
     dsimp only at f x s B k
     simp only[x,a,b,m,s,nt]
     have R:=p.EventsE _ K
     refine obT (T138 R C) fun d7=>?_
     refine Ob (Tn96 (by first|omega|(simp only[List.length_nil]at *;omega)) C) fun d8 b5=>?_
     exact .mk ⟨B,by dsimp only;omega⟩
    .obtain ⟨S,T⟩:=q1500
     dsimp only at f k
     simp only[f,nf]
     exact .mk (by dsimp only;omega)
    exact .mk ⟨A,by dsimp only;omega⟩
   .obtain ⟨d2,F⟩:=q1486
    dsimp only at e j
    simp only[e,nf]
    exact .mk (by dsimp only;omega)
   exact .mk ⟨z,by dsimp only;omega⟩
  .obtain ⟨d1,E⟩:=q1472
   dsimp only at d h
   simp only[d,nf]
   exact .mk (by dsimp only;omega)
  exact .mk ⟨y,by dsimp only;omega⟩
 .obtain ⟨d0,D⟩:=q1458
  dsimp only at c g
  simp only[c,nf]
  exact .mk (by dsimp only;omega)
 exact .mk (by omega)
theorem Tn75 {a:List Zv} {x2:Z0} {e:Int} (d:a.length+3000<=1000000) (c:x2.sm):Ok (Fn75 a x2 e) (fun v=>a.length<=v.length/\v.length<=a.length+3000):=by
 unfold Fn75
 refine Ob (Tn112_5 (by first|omega|(simp only[List.length_nil]at *;omega)) c) fun f b=>?_
 exact .mk (by omega)
theorem T40 {x1:Z0} (a:x1.sm) (hx:0<x1.Measures.length):Ok (F40 x1) (fun _=>True):=by
 unfold F40
 refine Ob (P:=fun r=>r=true->(decide ((([]:List Zv).length:Int)>0))=true) ?_ fun x6 b=>?_
 .refine Oi (fun c1507=>?_) (fun _=>.mk (fun h=>by cases h))
  refine Ob (P:=fun r=>¬r=true->¬false=true) ?_ fun x5 u=>?_
  .refine Oi (fun _=>.mk (fun h=>absurd rfl h)) (fun c1509=>?_)
   refine Ob (P:=fun r=>r=true->false=true) ?_ fun x4 v=>?_
   .refine Oi (fun c1511=>?_) (fun _=>.mk (fun h=>by cases h))
    refine Ob (bJ (by omega) (by(simp only[nm]at *;omega))) fun x2 w=>?_
    refine Ob (bS (by omega)) fun x3 x=>?_
    exact .mk (fun _=>c1511)
   exact .mk (fun _=>c1509)
  exact .mk (fun _=>c1507)
 refine Oi (fun c1514=>?_) (fun c1514=>?_)
 .have i3:=b c1514
  exact .mk trivial
 refine Ob (Tn59 (by first|omega|(simp only[List.length_nil]at *;omega)) a) fun x7 y=>?_
 refine Ob (P:=fun r=>r=true->(decide ((x7.length:Int)>0))=true) ?_ fun m2 c=>?_
 .refine Oi (fun c1518=>?_) (fun _=>.mk (fun h=>by cases h))
  refine Ob (P:=fun r=>¬r=true->¬true=true) ?_ fun m1 z=>?_
  .refine Oi (fun _=>.mk (fun h=>absurd rfl h)) (fun c1520=>?_)
   refine Ob (P:=fun r=>r=true->false=true) ?_ fun m0 A=>?_
   .refine Oi (fun c1522=>?_) (fun _=>.mk (fun h=>by cases h))
    refine Ob (bJ (by omega) (by(simp only[nm]at *;omega))) fun x8 B=>?_
    refine Ob (bS (by omega)) fun x9 C=>?_
    exact .mk (fun _=>c1522)
   exact .mk (fun _=>c1520)
  exact .mk (fun _=>c1518)
 refine Oi (fun c1525=>?_) (fun c1525=>?_)
 .have i4:=c c1525
  exact .mk trivial
 refine Ob (Tn60 (by first|omega|(simp only[List.length_nil]at *;omega)) a) fun k1 D=>?_
 refine Ob (P:=fun r=>r=true->(decide ((k1.length:Int)>0))=true) ?_ fun m7 d=>?_
 .refine Oi (fun c1529=>?_) (fun _=>.mk (fun h=>by cases h))
  refine Ob (P:=fun r=>¬r=true->¬false=true) ?_ fun m6 E=>?_
  .refine Oi (fun _=>.mk (fun h=>absurd rfl h)) (fun c1531=>?_)
   refine Ob (P:=fun r=>r=true->false=true) ?_ fun m5 F=>?_
   .refine Oi (fun c1533=>?_) (fun _=>.mk (fun h=>by cases h))
    refine Ob (bJ (by omega) (by(simp only[nm]at *;omega))) fun m3 G=>?_
    refine Ob (bS (by omega)) fun m4 H=>?_
    exact .mk (fun _=>c1533)
   exact .mk (fun _=>c1531)
  exact .mk (fun _=>c1529)
 refine Oi (fun c1536=>?_) (fun c1536=>?_)
 .have i5:=d c1536
  exact .mk trivial
 refine Ob (Tn61 (by first|omega|(simp only[List.length_nil]at *;omega)) a) fun k2 J=>?_
 refine Ob (P:=fun r=>r=true->(decide ((k2.length:Int)>0))=true) ?_ fun n3 e=>?_
 .refine Oi (fun c1540=>?_) (fun _=>.mk (fun h=>by cases h))
  refine Ob (P:=fun r=>¬r=true->¬false=true) ?_ fun n2 K=>?_
  .refine Oi (fun _=>.mk (fun h=>absurd rfl h)) (fun c1542=>?_)
   refine Ob (P:=fun r=>r=true->false=true) ?_ fun n1 L=>?_
   .refine Oi (fun c1544=>?_) (fun _=>.mk (fun h=>by cases h))
    refine Ob (bJ (by omega) (by(simp only[nm]at *;omega))) fun m8 M=>?_
    refine Ob (bS (by omega)) fun m9 N=>?_
    exact .mk (fun _=>c1544)
   exact .mk (fun _=>c1542)
  exact .mk (fun _=>c1540)
 refine Oi (fun c1547=>?_) (fun c1547=>?_)
 .have i6:=e c1547
  exact .mk trivial
 refine Ob (Tn62 (by first|omega|(simp only[List.length_nil]at *;omega)) a) fun k3 O=>?_
 refine Ob (P:=fun r=>r=true->(decide ((k3.length:Int)>0))=true) ?_ fun n8 f=>?_
 .refine Oi (fun c1551=>?_) (fun _=>.mk (fun h=>by cases h))
  refine Ob (P:=fun r=>¬r=true->¬false=true) ?_ fun n7 R=>?_
  .refine Oi (fun _=>.mk (fun h=>absurd rfl h)) (fun c1553=>?_)
   refine Ob (P:=fun r=>r=true->false=true) ?_ fun n6 S=>?_
   .refine Oi (fun c1555=>?_) (fun _=>.mk (fun h=>by cases h))
    refine Ob (bJ (by omega) (by(simp only[nm]at *;omega))) fun n4 T=>?_
    refine Ob (bS (by omega)) fun n5 U=>?_
    exact .mk (fun _=>c1555)
   exact .mk (fun _=>c1553)
  exact .mk (fun _=>c1551)
 refine Oi (fun c1558=>?_) (fun c1558=>?_)
 .have i7:=f c1558
  exact .mk trivial
 refine Ob (Tn63 (by first|omega|(simp only[List.length_nil]at *;omega)) a) fun k4 V=>?_
 refine Ob (P:=fun r=>r=true->(decide ((k4.length:Int)>0))=true) ?_ fun r3 g=>?_
 .refine Oi (fun c1562=>?_) (fun _=>.mk (fun h=>by cases h))
  refine Ob (P:=fun r=>¬r=true->¬false=true) ?_ fun r2 W=>?_
  .refine Oi (fun _=>.mk (fun h=>absurd rfl h)) (fun c1564=>?_)
   refine Ob (P:=fun r=>r=true->false=true) ?_ fun r1 X=>?_
   .refine Oi (fun c1566=>?_) (fun _=>.mk (fun h=>by cases h))
    refine Ob (bJ (by omega) (by(simp only[nm]at *;omega))) fun n9 Y=>?_
    refine Ob (bS (by omega)) fun r0 Z=>?_
    exact .mk (fun _=>c1566)
   exact .mk (fun _=>c1564)
  exact .mk (fun _=>c1562)
 refine Oi (fun c1569=>?_) (fun c1569=>?_)
 .have i9:=g c1569
  exact .mk trivial
 refine Ob (Tn64 (by first|omega|(simp only[List.length_nil]at *;omega)) a) fun k5 a0=>?_
 refine Ob (P:=fun r=>r=true->(decide ((k5.length:Int)>0))=true) ?_ fun r8 i=>?_
 .refine Oi (fun c1573=>?_) (fun _=>.mk (fun h=>by cases h))
  refine Ob (P:=fun r=>¬r=true->¬false=true) ?_ fun r7 b0=>?_
  .refine Oi (fun _=>.mk (fun h=>absurd rfl h)) (fun c1575=>?_)
   refine Ob (P:=fun r=>r=true->false=true) ?_ fun r6 b4=>?_
   .refine Oi (fun c1577=>?_) (fun _=>.mk (fun h=>by cases h))
    refine Ob (bJ (by omega) (by(simp only[nm]at *;omega))) fun r4 b5=>?_
    refine Ob (bS (by omega)) fun r5 b6=>?_
    exact .mk (fun _=>c1577)
   exact .mk (fun _=>c1575)
  exact .mk (fun _=>c1573)
 refine Oi (fun c1580=>?_) (fun c1580=>?_)
 .have j0:=i c1580
  exact .mk trivial
 refine Ob (Tn65 (by first|omega|(simp only[List.length_nil]at *;omega)) a) fun k6 b7=>?_
 refine Ob (P:=fun r=>r=true->(decide ((k6.length:Int)>0))=true) ?_ fun s3 j=>?_
 .refine Oi (fun c1584=>?_) (fun _=>.mk (fun h=>by cases h))
  refine Ob (P:=fun r=>¬r=true->¬false=true) ?_ fun s2 b8=>?_
  .refine Oi (fun _=>.mk (fun h=>absurd rfl h)) (fun c1586=>?_)
   refine Ob (P:=fun r=>r=true->false=true) ?_ fun s1 b9=>?_
   .refine Oi (fun c1588=>?_) (fun _=>.mk (fun h=>by cases h))
    refine Ob (bJ (by omega) (by(simp only[nm]at *;omega))) fun r9 d0=>?_
    refine Ob (bS (by omega)) fun s0 d1=>?_
    exact .mk (fun _=>c1588)
   exact .mk (fun _=>c1586)
  exact .mk (fun _=>c1584)
 refine Oi (fun c1591=>?_) (fun c1591=>?_)
 .have j1:=j c1591
  exact .mk trivial
 refine Ob (Tn66 (by first|omega|(simp only[List.length_nil]at *;omega)) a) fun k7 d2=>?_
 refine Ob (P:=fun r=>r=true->(decide ((k7.length:Int)>0))=true) ?_ fun s8 k=>?_
 .refine Oi (fun c1595=>?_) (fun _=>.mk (fun h=>by cases h))
  refine Ob (P:=fun r=>¬r=true->¬false=true) ?_ fun s7 d3=>?_
  .refine Oi (fun _=>.mk (fun h=>absurd rfl h)) (fun c1597=>?_)
   refine Ob (P:=fun r=>r=true->false=true) ?_ fun s6 d4=>?_
   .refine Oi (fun c1599=>?_) (fun _=>.mk (fun h=>by cases h))
    refine Ob (bJ (by omega) (by(simp only[nm]at *;omega))) fun s4 d5=>?_
    refine Ob (bS (by omega)) fun s5 d6=>?_
    exact .mk (fun _=>c1599)
   exact .mk (fun _=>c1597)
  exact .mk (fun _=>c1595)
 refine Oi (fun c1602=>?_) (fun c1602=>?_)
 .have j2:=k c1602
  exact .mk trivial
 refine Ob (Tn67 (by first|omega|(simp only[List.length_nil]at *;omega)) a) fun k8 d7=>?_
 refine Ob (P:=fun r=>r=true->(decide ((k8.length:Int)>0))=true) ?_ fun t3 l=>?_
 .refine Oi (fun c1606=>?_) (fun _=>.mk (fun h=>by cases h))
  refine Ob (P:=fun r=>¬r=true->¬false=true) ?_ fun t2 d8=>?_
  .refine Oi (fun _=>.mk (fun h=>absurd rfl h)) (fun c1608=>?_)
   refine Ob (P:=fun r=>r=true->true=true) ?_ fun t1 d9=>?_
   .refine Oi (fun c1610=>?_) (fun _=>.mk (fun h=>by cases h))
    refine Ob (bJ (by omega) (by(simp only[nm]at *;omega))) fun s9 e0=>?_
    refine Ob (bS (by omega)) fun t0 e1=>?_
    exact .mk (fun _=>c1610)
   exact .mk (fun _=>c1608)
  exact .mk (fun _=>c1606)
 refine Oi (fun c1613=>?_) (fun c1613=>?_)
 .have j3:=l c1613
  exact .mk trivial
 refine Ob (Tn68 (by first|omega|(simp only[List.length_nil]at *;omega)) a) fun k9 e2=>?_
 refine Ob (P:=fun r=>r=true->(decide ((k9.length:Int)>0))=true) ?_ fun t9 m=>?_
 .refine Oi (fun c1617=>?_) (fun _=>.mk (fun h=>by cases h))
  refine Ob (P:=fun r=>¬r=true->¬false=true) ?_ fun t8 e3=>?_
  .refine Oi (fun _=>.mk (fun h=>absurd rfl h)) (fun c1619=>?_)
   refine Ob (P:=fun r=>r=true->true=true) ?_ fun t7 e4=>?_
   .refine Oi (fun c1621=>?_) (fun _=>.mk (fun h=>by cases h))
    refine Ob (bJ (by omega) (by(simp only[nm]at *;omega))) fun t4 e5=>?_
    refine Ob (bS (by omega)) fun t6 e6=>?_
    exact .mk (fun _=>c1621)
   exact .mk (fun _=>c1619)
  exact .mk (fun _=>c1617)
 refine Oi (fun c1624=>?_) (fun c1624=>?_)
 .have j4:=m c1624
  exact .mk trivial
 refine Ob (Tn69 (by first|omega|(simp only[List.length_nil]at *;omega)) a) fun l0 e7=>?_
 refine Ob (P:=fun r=>r=true->(decide ((l0.length:Int)>0))=true) ?_ fun u4 n=>?_
 .refine Oi (fun c1628=>?_) (fun _=>.mk (fun h=>by cases h))
  refine Ob (P:=fun r=>¬r=true->¬false=true) ?_ fun u3 e8=>?_
  .refine Oi (fun _=>.mk (fun h=>absurd rfl h)) (fun c1630=>?_)
   refine Ob (P:=fun r=>r=true->true=true) ?_ fun u2 e9=>?_
   .refine Oi (fun c1632=>?_) (fun _=>.mk (fun h=>by cases h))
    refine Ob (bJ (by omega) (by(simp only[nm]at *;omega))) fun u0 f0=>?_
    refine Ob (bS (by omega)) fun u1 f1=>?_
    exact .mk (fun _=>c1632)
   exact .mk (fun _=>c1630)
  exact .mk (fun _=>c1628)
 refine Oi (fun c1635=>?_) (fun c1635=>?_)
 .have j5:=n c1635
  exact .mk trivial
 refine Ob (Tn70 (by first|omega|(simp only[List.length_nil]at *;omega)) a) fun l1 f2=>?_
 refine Ob (P:=fun r=>r=true->(decide ((l1.length:Int)>0))=true) ?_ fun v0 o=>?_
 .refine Oi (fun c1639=>?_) (fun _=>.mk (fun h=>by cases h))
  refine Ob (P:=fun r=>¬r=true->¬false=true) ?_ fun u9 f3=>?_
  .refine Oi (fun _=>.mk (fun h=>absurd rfl h)) (fun c1641=>?_)
   refine Ob (P:=fun r=>r=true->true=true) ?_ fun u7 f6=>?_
   .refine Oi (fun c1643=>?_) (fun _=>.mk (fun h=>by cases h))
    refine Ob (bJ (by omega) (by(simp only[nm]at *;omega))) fun u5 f7=>?_
    refine Ob (bS (by omega)) fun u6 f8=>?_
    exact .mk (fun _=>c1643)
   exact .mk (fun _=>c1641)
  exact .mk (fun _=>c1639)
 refine Oi (fun c1646=>?_) (fun c1646=>?_)
 .have j6:=o c1646
  exact .mk trivial
 refine Ob (Tn71 (by first|omega|(simp only[List.length_nil]at *;omega)) a) fun l2 f9=>?_
 refine Ob (P:=fun r=>r=true->(decide ((l2.length:Int)>0))=true) ?_ fun v5 p=>?_
 .refine Oi (fun c1650=>?_) (fun _=>.mk (fun h=>by cases h))
  refine Ob (P:=fun r=>¬r=true->¬false=true) ?_ fun v4 g1=>?_
  .refine Oi (fun _=>.mk (fun h=>absurd rfl h)) (fun c1652=>?_)
   refine Ob (P:=fun r=>r=true->true=true) ?_ fun v3 g3=>?_
   .refine Oi (fun c1654=>?_) (fun _=>.mk (fun h=>by cases h))
    refine Ob (bJ (by omega) (by(simp only[nm]at *;omega))) fun v1 g4=>?_
    refine Ob (bS (by omega)) fun v2 g5=>?_
    exact .mk (fun _=>c1654)
   exact .mk (fun _=>c1652)
  exact .mk (fun _=>c1650)
 refine Oi (fun c1657=>?_) (fun c1657=>?_)
 .have j7:=p c1657
  exact .mk trivial
 refine Ob (Tn72 (by first|omega|(simp only[List.length_nil]at *;omega)) a (by omega)) fun l3 g6=>?_
 refine Ob (P:=fun r=>r=true->(decide ((l3.length:Int)>0))=true) ?_ fun w2 q=>?_
 .refine Oi (fun c1661=>?_) (fun _=>.mk (fun h=>by cases h))
  refine Ob (P:=fun r=>¬r=true->¬false=true) ?_ fun v9 g7=>?_
  .refine Oi (fun _=>.mk (fun h=>absurd rfl h)) (fun c1663=>?_)
   refine Ob (P:=fun r=>r=true->true=true) ?_ fun v8 g8=>?_
   .refine Oi (fun c1665=>?_) (fun _=>.mk (fun h=>by cases h))
    refine Ob (bJ (by omega) (by(simp only[nm]at *;omega))) fun v6 g9=>?_
    refine Ob (bS (by omega)) fun v7 h0=>?_
    exact .mk (fun _=>c1665)
   exact .mk (fun _=>c1663)
  exact .mk (fun _=>c1661)
 refine Oi (fun c1668=>?_) (fun c1668=>?_)
 .have j8:=q c1668
  exact .mk trivial
 refine Ob (Tn73 (by first|omega|(simp only[List.length_nil]at *;omega)) a) fun l4 h2=>?_
 refine Ob (P:=fun r=>r=true->(decide ((l4.length:Int)>0))=true) ?_ fun w7 s=>?_
 .refine Oi (fun c1672=>?_) (fun _=>.mk (fun h=>by cases h))
  refine Ob (P:=fun r=>¬r=true->¬false=true) ?_ fun w6 h3=>?_
  .refine Oi (fun _=>.mk (fun h=>absurd rfl h)) (fun c1674=>?_)
   refine Ob (P:=fun r=>r=true->true=true) ?_ fun w5 h4=>?_
   .refine Oi (fun c1676=>?_) (fun _=>.mk (fun h=>by cases h))
    refine Ob (bJ (by omega) (by(simp only[nm]at *;omega))) fun w3 h5=>?_
    refine Ob (bS (by omega)) fun w4 h6=>?_
    exact .mk (fun _=>c1676)
   exact .mk (fun _=>c1674)
  exact .mk (fun _=>c1672)
 refine Oi (fun c1679=>?_) (fun c1679=>?_)
 .have j9:=s c1679
  exact .mk trivial
 refine Ob (Tn74 (by first|omega|(simp only[List.length_nil]at *;omega)) a) fun l5 h7=>?_
 refine Ob (P:=fun r=>r=true->(decide ((l5.length:Int)>0))=true) ?_ fun l8 t=>?_
 .refine Oi (fun c1683=>?_) (fun _=>.mk (fun h=>by cases h))
  refine Ob (P:=fun r=>¬r=true->¬false=true) ?_ fun l7 h8=>?_
  .refine Oi (fun _=>.mk (fun h=>absurd rfl h)) (fun c1685=>?_)
   refine Ob (P:=fun r=>r=true->true=true) ?_ fun l6 h9=>?_
   .refine Oi (fun c1687=>?_) (fun _=>.mk (fun h=>by cases h))
    refine Ob (bJ (by omega) (by(simp only[nm]at *;omega))) fun w8 i0=>?_
    refine Ob (bS (by omega)) fun w9 i1=>?_
    exact .mk (fun _=>c1687)
   exact .mk (fun _=>c1685)
  exact .mk (fun _=>c1683)
 refine Oi (fun c1690=>?_) (fun c1690=>?_)
 .have k0:=t c1690
  exact .mk trivial
 refine Ob (Tn75 (by first|omega|(simp only[List.length_nil]at *;omega)) a) fun l9 i2=>?_
 exact .mk trivial
theorem T18 {c:Z0} (a:c.sm):Ok (F18 c) (fun _=>True):=by
 unfold F18
 refine Ob (P:=fun _=>True) ?_ fun v _=>.mk trivial
 by_cases h0:0<c.Measures.length
 .exact (T40 a h0).mono fun _ _=>trivial
 unfold F40
 refine Ob (P:=fun r=>r=false) (Oi (fun h=>by simp at h) (fun _=>.mk rfl)) fun b hb=>?_
 subst hb
 refine Oi (fun h=>by cases h) (fun _=>?_)
 refine Ob (U59b a (by omega) (by decide)) fun v hv=>?_
 refine Ob (P:=fun r=>r=true) (Oi (fun h=>Ob (P:=fun r=>r=true) (Oi (fun _=>.mk rfl) (fun h=>absurd rfl h)) fun b hb=>.mk hb) (fun h=>by simp at h;simp[h]at hv)) fun b hb=>?_
 subst hb
 exact Oi (fun _=>.mk trivial) (fun h=>absurd rfl h)
end Go.P
namespace Go.P
theorem T58 {a:Ze} (b:a.sm):Ok (F58 a) (fun _=>True):=by
 unfold F58
 exact .mk trivial
theorem T95_2 {j:List Ze} (g:j.length<=20) (h:∀y∈j,y.sm):Ok (F95_2 j) (fun _=>True):=by
 unfold F95_2
 have i:=g
 refine lpT (l:=j) (fun q=>q) (Nat.lt_of_le_of_lt g (by decide)) rfl (fun m k n d a c b e=>?_) (fun n a=>?_) fun o=>?_
 .simp only[c,b,nt]
  have f:=h _ d
  refine obT (T58 f) fun p=>?_
  refine Oi (fun c1818=>?_) (fun c1818=>?_)
  .exact .mk trivial
  exact .mk e
 .simp only[a,nf]
  exact .mk trivial
 rcases o with r|_
 .exact .mk trivial
 .exact .mk trivial
theorem T57_2 {c:List Ze} (b:c.length<=20) (a:∀y∈c,y.sm):Ok (F57_2 c) (fun _=>True):=by
 unfold F57_2
 refine obT (T95_2 b a) fun x2=>?_
 exact .mk trivial
theorem T56 {b:Zo} (a:b.sm):Ok (F56 b) (fun _=>True):=by
 unfold F56
 refine obT (T57_2 a.Events a.EventsE) fun x2=>?_
 exact .mk trivial
theorem T94_3 {j:List Zo} (g:j.length<=3) (h:∀y∈j,y.sm):Ok (F94_3 j) (fun _=>True):=by
 unfold F94_3
 have i:=g
 refine lpT (l:=j) (fun q=>q) (Nat.lt_of_le_of_lt g (by decide)) rfl (fun m k n d a c b e=>?_) (fun n a=>?_) fun o=>?_
 .simp only[c,b,nt]
  have f:=h _ d
  refine obT (T56 f) fun p=>?_
  refine Oi (fun c1834=>?_) (fun c1834=>?_)
  .exact .mk trivial
  exact .mk e
 .simp only[a,nf]
  exact .mk trivial
 rcases o with r|_
 .exact .mk trivial
 .exact .mk trivial
theorem T55_3 {c:List Zo} (b:c.length<=3) (a:∀y∈c,y.sm):Ok (F55_3 c) (fun _=>True):=by
 unfold F55_3
 refine obT (T94_3 b a) fun x2=>?_
 exact .mk trivial
theorem T37 {e:Zm} {x2:Int} (c:e.sm):Ok (F37 e x2) (fun _=>True):=by
 unfold F37
 refine Oi (fun c1836=>?_) (fun c1836=>?_)
 .exact .mk trivial
 have d:=c.Cells
 refine Ob (P:=fun x=>x∈e.Cells) (bC (by(first|omega|assumption|(simp only[nm]at *;omega)|(simp only[nm,nl]at *;omega)|(simp only[nm]at *;rw[aU (by omega) (by omega)];omega)|(simp only[nm,nl]at *;rw[aU (by omega) (by omega)];omega)|(rw[aU (by omega) (by omega)];omega)|(simp(disch:=omega) only[aU,nm]at *;omega)|(simp only[nm]at *;assumption)|(dsimp only;omega)|(simp only[nm]at *;dsimp only;omega)|(simp only at *;omega))) (by(first|omega|assumption|(simp only[nm]at *;omega)|(simp only[nm,nl]at *;omega)|(simp only[nm]at *;rw[aU (by omega) (by omega)];omega)|(simp only[nm,nl]at *;rw[aU (by omega) (by omega)];omega)|(rw[aU (by omega) (by omega)];omega)|(simp(disch:=omega) only[aU,nm]at *;omega)|(simp only[nm]at *;assumption)|(dsimp only;omega)|(simp only[nm]at *;dsimp only;omega)|(simp only at *;omega))) (fun _ h _=>h)) fun f b=>?_
 have a:=c.CellsE _ b
 refine obT (T55_3 a.Voices a.VoicesE) fun g=>?_
 exact .mk trivial
end Go.P
set_option maxHeartbeats 1000000
namespace Go.P
theorem rA {α β:Type} {x:Option α} {a:α} {K:α->Option β} {r:Option β} (h:x=some a) (hk:K a=r):x.bind K=r:=by subst h;exact hk
theorem Ok.eq {α:Type} {x:Option α} {a:α} (h:Ok x (fun v=>v=a)):x=some a:=by
 obtain⟨v,h1,rfl⟩:=h
 exact h1
section
variable {K V:Type} [DecidableEq K]
end
end Go.P
namespace Go.P
variable {s:Z0}
end Go.P
namespace Go.P
theorem bM1 {A S E T:Type} {l:List A} {body:S->Option (S⊕E)} {s0:S} {Q:E->Prop} (a:S->Int) (b:S->T) (f:T->A->T) (hl:l.length<9223372036854775808) (h0:a s0=0)
  (h:∀(i:Nat) (x:A) (q:S),l[i]? =some x->x∈l->a q=(i:Int)->a q<(l.length:Int)->b q=(l.take i).foldl f (b s0)->lget l (a q)=some x->w64 (a q+1)=(i:Int)+1->Ok (body q) (fun r=>match r with|.inl q'=>a q'=(i:Int)+1/\b q'=f (b q) x|.inr e=>False))
  (d:∀q,a q=(l.length:Int)->b q=l.foldl f (b s0)->Ok (body q) (fun r=>match r with|.inl _=>False|.inr e=>Q e)):Ok (aO body B64 s0) Q:=by
 refine aN (l:=l) a (fun i q=>b q=(l.take i).foldl f (b s0)) hl h0 (by simp) (fun i x q j k hi g c hg hw=>?_) (fun q hi c=>?_)
 .refine (h i x q j k hi g c hg hw).mono fun r hr=>?_
  cases r with
  |inl q'=>
   refine⟨hr.1,?_⟩
   rw[hr.2,c,List.take_add_one,j]
   simp
  |inr e=>exact hr.elim
 .rw [List.take_length]at c
  exact(d q hi c).mono fun r hr=>by cases r<;>exact hr
theorem lT {A:Type} {l:List A} {i:Nat} (h:i<l.length):lget l (i:Int)=some l[i]:=by
 unfold lget
 rw[if_pos (by omega),Int.toNat_natCast]
 exact List.getElem?_eq_getElem h
end Go.P
namespace Go.P
variable {s:Z0}
theorem law5 (hb:s.b) (c:bO):F5 s c=some true:=by
 unfold F5
 obtain⟨r,hr,l⟩:=U13 hb
 rw[hr]
 simp only[Option.bind_some,Bool.not_true,Bool.false_eq_true,if_false]
 cases r with
 |false=>rfl
 |true=>
  obtain⟨v,hv,_⟩:=T18 (l rfl)
  rw[hv]
  cases v with
  |true=>rfl
  |false=>
   have a:∀i,F23 s i=some 24:=fun i=>by unfold F23;rw[hv];rfl
   have d:F35 s c=some 24:=by unfold F35;rw[hv];rfl
   have f:F12 s c.Part=some ([],24):=by unfold F12;rw[a];rfl
   have g:F13 s c.Part (aQ.mk 0 0)=some ([],24):=by unfold F13;rw[a];rfl
   have e:F11 s c=some (0,24):=by unfold F11;rw[d];rfl
   have h:F19 s c=some ([],24):=by unfold F19;rw[d];rfl
   have m:F9 s c.Part (aQ.mk 0 0)=some ([],24):=by unfold F9;rw[a];rfl
   have j:Fn20 s (Zz.mk 0 0) [c]=some ():=by unfold Fn20;rw[hv];rfl
   obtain⟨z,k⟩:∃z,F21 s=some (z,24):=⟨_,by unfold F21;rw[hv];rfl⟩
   simp only[Option.bind_some,Bool.not_false,if_true,if_false,Bool.false_eq_true,f,g,e,h,m,j,k]
   rfl
def slv (m:Zm) (j:Int):Bool:=(F37 m j).getD true
theorem F37_eq {m:Zm} (a:m.sm) (j:Int):F37 m j=some (slv m j):=by
 obtain⟨v,h,_⟩:=T37 (x2:=j) a
 unfold slv;rw[h];rfl
theorem tL (l:List Zj) (n:Int):l.foldl (fun t p=>t+(p.Staves.length:Int)) n=n+(((l.map fun p=>p.Staves.length).sum:Nat):Int):=by
 induction l generalizing n with
 |nil=>simp
 |cons p l ih=>rw[List.foldl_cons,ih];simp;omega
theorem jA1 {l:List Zj} (h:∀p∈l,p.Staves.length<=5):(l.map fun p=>p.Staves.length).sum<=5*l.length:=by
 induction l with
 |nil=>simp
 |cons p l ih=>
  have h1:=h p (by simp)
  have h2:=ih (fun q a=>h q (by simp[a]))
  simp only[List.map_cons,List.sum_cons,List.length_cons]
  omega
theorem F36_eq (hs:s.sm) {i:Int} (h0:0<=i) (h1:i<(s.Parts.length:Int)):∃p,lget s.Parts i=some p/\p.Staves.length<=5/\∃a:Nat,F36 s i=some ((a:Int),0)/\a<=20:=by
 have hp:=hs.Parts
 have hi:i.toNat<s.Parts.length:=by omega
 have d:iP s.Parts 0 i=some (s.Parts.take i.toNat):=by
  unfold iP
  rw[if_pos ⟨by omega,h0,by omega⟩]
  simp
 have c:∀k,((s.Parts.take k).map fun p=>p.Staves.length).sum<=20:=fun k=>by
  have:=jA1 (l:=s.Parts.take k) (fun p hp=>(hs.PartsE p (List.mem_of_mem_take hp)).Staves)
  have:(s.Parts.take k).length<=4:=by rw[List.length_take];omega
  omega
 have hg:lget s.Parts i=some s.Parts[i.toNat]:=by
  have:=lT (l:=s.Parts) hi
  rwa [Int.toNat_of_nonneg h0]at this
 refine⟨s.Parts[i.toNat],hg,(hs.PartsE _ (List.getElem_mem hi)).Staves,((s.Parts.take i.toNat).map fun p=>p.Staves.length).sum,?_,c _⟩
 unfold F36 F32_2
 rw[if_neg (by simp;omega),d]
 simp only[Option.bind_some]
 have e:(s.Parts.take i.toNat).length<=4:=by rw[List.length_take];omega
 refine rA (a:=((((s.Parts.take i.toNat).map fun p=>p.Staves.length).sum:Nat):Int)) (rA (Ok.eq (bM1 (l:=s.Parts.take i.toNat) (fun q=>q.2) (fun q=>q.1) (fun t p=>t+(p.Staves.length:Int)) (by omega) rfl (fun j p q h f hi hl b hg hw=>?_) (fun q hi b=>?_))) rfl) rfl
 .obtain ⟨t,k⟩:=q
  dsimp only at hi hl b hg hw
  rw[tL,List.take_take]at b
  have:=c (min j i.toNat)
  have g:=(hs.PartsE p (List.mem_of_mem_take f)).Staves
  simp only[hl,hg,nt]
  refine .mk ⟨hw,?_⟩
  dsimp only
  rw[aU (by omega) (by omega)]
 .obtain ⟨t,k⟩:=q
  dsimp only at hi b
  rw[tL]at b
  simp only[hi,nf]
  refine .mk ?_
  rw[b]
  omega
def rv (a n:Nat) (m:Zm):Bool:=(List.range n).all fun k=>slv m ((a:Int)+k)
theorem xB (n:Nat) (f:Nat->Bool):(List.range (n+1)).all f=((List.range n).all f&&f n):=by
 rw[List.range_succ,List.all_append];simp
theorem F28_eq (hs:s.sm) {i:Int} {p:Zj} {a:Nat} (hp:lget s.Parts i=some p) (R:p.Staves.length<=5) (L:F36 s i=some ((a:Int),0)) (J:a<=20):
  F28 s i=some (s.Measures.map (rv a p.Staves.length)):=by
 have S:=hs.Measures
 unfold F28
 rw[L]
 simp only[Option.bind_some]
 have C:nZ (s.Measures.length:Int) (s.Measures.length:Int) false=some (List.replicate s.Measures.length false):=by
  obtain⟨v,h,rfl⟩:=jY (n:=(s.Measures.length:Int)) (c:=(s.Measures.length:Int)) (z:=false) (by omega) (by omega) (by omega)
  rw[h];simp
 rw[C]
 simp only[Option.bind_some]
 have key:∀(i:Nat) (l:List Bool) (b:Bool),l=(s.Measures.take i).map (rv a p.Staves.length)++List.replicate (s.Measures.length-i) false->i<s.Measures.length->l.length=s.Measures.length/\∀c,l.set i c=(s.Measures.take i).map (rv a p.Staves.length)++c::List.replicate (s.Measures.length-(i+1)) false:=by
  intro i l b h hi
  subst h
  refine⟨by simp;omega,fun c=>?_⟩
  rw[List.set_append_right _ _ (by simp;omega)]
  simp only[List.length_map,List.length_take]
  rw[Nat.min_eq_left (by omega),Nat.sub_self]
  obtain⟨k,hk⟩:∃k,s.Measures.length-i=k+1:=⟨s.Measures.length-i-1,by omega⟩
  rw[hk,List.replicate_succ,List.set_cons_zero,show s.Measures.length-(i+1)=k by omega]
 refine rA (a:=s.Measures.map (rv a p.Staves.length)) (Ok.eq (aN (l:=s.Measures) (fun q=>q.1) (fun i q=>q.2=(s.Measures.take i).map (rv a p.Staves.length)++List.replicate (s.Measures.length-i) false) (by omega) rfl (by simp) (fun j m q F M hi hl g hg hw=>?_) (fun q hi g=>?_))) rfl
 .obtain ⟨k,l⟩:=q
  dsimp only at hi hl g hg hw
  have r:=(List.getElem?_eq_some_iff.1 F).1
  obtain⟨hlen,hset⟩:=key j l true g r
  have D:=hs.MeasuresE m M
  subst hi
  simp only[hl,hg,nt,hp]
  have d:∀l':List Bool,l'.length=s.Measures.length->lidx l' (j:Int)=some j:=fun l' h=>by
   obtain⟨v,h1,h2,_⟩:=bJ (l:=l') (i:=(j:Int)) (by omega) (by omega)
   rw[h1,h2];simp
  have e:∀(l':List Bool) (f:Bool->Bool),l'.length=s.Measures.length->∃b,lnth l' j=some b/\l'[j]? =some b/\lput l' j f=some (l'.set j (f b)):=fun l' f h=>by
   have B:j<l'.length:=by omega
   refine⟨l'[j],?_,by simp[B],?_⟩
   .unfold lnth;simp[B]
   .unfold lput;simp[B]
  rw[d l hlen]
  simp only[Option.bind_some]
  obtain⟨b,_,_,K⟩:=e l (fun _=>true) hlen
  rw[K]
  simp only[Option.bind_some]
  refine Ob (P:=fun v=>v=l.set j (rv a p.Staves.length m)) (dQ (fun q=>q.1) (p.Staves.length:Int) (fun q=>0<=q.1/\q.1<=(p.Staves.length:Int)/\q.2=l.set j ((List.range q.1.toNat).all fun k=>slv m ((a:Int)+k))) (by omega) (by simp) ⟨by simp,by simp,by simp⟩ (fun q o _ N=>?_)) fun v hv=>.mk ⟨hw,?_⟩
  .obtain ⟨k,w⟩:=q
   dsimp only at o
   obtain⟨O,g2,u⟩:=o
   have t:w.length=s.Measures.length:=by rw[u];simp[hlen]
   have hb:w[j]? =some ((List.range k.toNat).all fun k=>slv m ((a:Int)+k)):=by rw[u];simp[hlen,r]
   by_cases hk:k<(p.Staves.length:Int)
   .rw [if_pos (by simpa using hk)]
    obtain⟨b2,G,E,H⟩:=e w (fun _=>((List.range k.toNat).all fun k=>slv m ((a:Int)+k))&&slv m ((a:Int)+k)) t
    rw[d w t]
    simp only[Option.bind_some]
    rw[G]
    have y:b2=((List.range k.toNat).all fun k=>slv m ((a:Int)+k)):=by rw[hb]at E;exact(Option.some.inj E).symm
    simp only[Option.bind_some]
    rw[aU (n:=(a:Int)+k) (by omega) (by omega),F37_eq D]
    have A:(if b2=true then((some (slv m ((a:Int)+k))).bind fun x=>some x)else some false)=some (b2&&slv m ((a:Int)+k)):=by cases b2<;>rfl
    rw[A]
    simp only[Option.bind_some]
    rw[y,H]
    simp only[Option.bind_some]
    refine .mk ?_
    dsimp only
    rw[aU (by omega) (by omega)]
    refine⟨by omega,by omega,⟨by omega,by omega,?_⟩⟩
    rw[show(k+1).toNat=k.toNat+1 by omega,xB,u,List.set_set,show((k.toNat:Nat):Int)=k by omega]
   .rw [if_neg (by simpa using hk)]
    refine .mk ?_
    have:k.toNat=p.Staves.length:=by omega
    rw[u,this];rfl
  .subst hv
   dsimp only
   rw[hset,List.take_add_one,F]
   simp
 .obtain ⟨k,l⟩:=q
  dsimp only at hi g
  subst hi
  simp only[nf]
  refine .mk ?_
  rw[g];simp
theorem F15_eq (hs:s.sm) {i:Int} {p:Zj} {a:Nat} (hp:lget s.Parts i=some p) (o:p.Staves.length<=5) (h:F36 s i=some ((a:Int),0)) (f:a<=20) {j:Int} {m:Zm} (d:lget s.Measures j=some m):
  F15 s i j=some (rv a p.Staves.length m):=by
 have c:=hs.MeasuresE m (cM d).2.2.1
 unfold F15
 rw[h]
 simp only[Option.bind_some]
 refine Ok.eq (Ob (P:=fun e=>match e with|.inl _=>rv a p.Staves.length m=false|.inr _=>rv a p.Staves.length m=true) (dQ (fun q=>q) (p.Staves.length:Int) (fun q=>0<=q/\q<=(p.Staves.length:Int)/\((List.range q.toNat).all fun k=>slv m ((a:Int)+k))=true) (by omega) (by simp) ⟨by simp,by simp,by simp⟩ (fun q g _ hw=>?_)) fun v hv=>?_)
 .obtain ⟨l,g2,b⟩:=g
  rw[hp]
  simp only[Option.bind_some]
  by_cases hk:q<(p.Staves.length:Int)
  .rw [if_pos (by simpa using hk),d]
   simp only[Option.bind_some]
   rw[aU (n:=(a:Int)+q) (by omega) (by omega),F37_eq c]
   simp only[Option.bind_some]
   cases hv:slv m ((a:Int)+q)with
   |false=>
    rw[if_pos (by simp)]
    refine .mk ?_
    dsimp only
    unfold rv
    rw[List.all_eq_false]
    exact⟨q.toNat,by simp;omega,by rw[show((q.toNat:Nat):Int)=q by omega,hv];simp⟩
   |true=>
    rw[if_neg (by simp)]
    refine .mk ?_
    dsimp only
    rw[aU (by omega) (by omega)]
    refine⟨by omega,by omega,⟨by omega,by omega,?_⟩⟩
    rw[show(q+1).toNat=q.toNat+1 by omega,xB,b,show((q.toNat:Nat):Int)=q by omega,hv];rfl
  .rw [if_neg (by simpa using hk)]
   refine .mk ?_
   have:q.toNat=p.Staves.length:=by omega
   rw[this]at b
   exact b
 .cases v with
  |inl _=>exact .mk hv.symm
  |inr _=>exact .mk hv.symm
def en (L:List Bool) (r:Int) (j:Nat):Bool:=decide (L[j]? =some false/\r<=(j:Int)/\∀k,k<j->(j:Int)-r<=(k:Int)->L[k]? =some true)
def acc (L:List Bool) (r:Int) (n:Nat):List Int:=((List.range n).filter (en L r)).map fun(j:Nat)=>(j:Int)
theorem rB {L:List Bool} {r:Int} {n:Nat} (h:en L r n=true):acc L r (n+1)=acc L r n++[(n:Int)]:=by
 unfold acc;rw[List.range_succ,List.filter_append,List.map_append];simp[h]
theorem rC {L:List Bool} {r:Int} {n:Nat} (h:en L r n=false):acc L r (n+1)=acc L r n:=by
 unfold acc;rw[List.range_succ,List.filter_append,List.map_append];simp[h]
theorem eW1 (L:List Bool) (r:Int) (n:Nat):(acc L r n).length<=n:=by
 unfold acc;rw[List.length_map];exact Nat.le_trans (List.length_filter_le _ _) (by simp)
theorem hB1 (L:List Bool) (r:Int) (n k:Nat):acc L r n<+:acc L r (n+k):=by
 induction k with
 |zero=>exact List.prefix_refl _
 |succ k ih=>
  rw[<-Nat.add_assoc]
  cases h:en L r (n+k)with
  |true=>rw[rB h];exact ih.trans (List.prefix_append _ _)
  |false=>rw[rC h];exact ih
theorem F16_eq (hs:s.sm) {i:Int} {p:Zj} {a:Nat} (hp:lget s.Parts i=some p) (u:p.Staves.length<=5) (x:F36 s i=some ((a:Int),0)) (c:a<=20) {j:Nat} (y:j<s.Measures.length) {r:Int} (hr:1<=r) (z:r<=1000):
  F16 s i j r=some (en (s.Measures.map (rv a p.Staves.length)) r j):=by
 have B:=hs.Measures
 have b:∀k,(h:k<s.Measures.length)->F15 s i (k:Int)=some (rv a p.Staves.length s.Measures[k])/\(s.Measures.map (rv a p.Staves.length))[k]? =some (rv a p.Staves.length s.Measures[k]):=fun k h=>⟨F15_eq hs hp u x c (lT h),by simp[h]⟩
 unfold F16
 obtain⟨o,f⟩:=b j y
 rw[o]
 simp only[Option.bind_some]
 by_cases hc:(rv a p.Staves.length s.Measures[j]||decide ((j:Int)<r))=true
 .rw [if_pos hc]
  have:en (s.Measures.map (rv a p.Staves.length)) r j=false:=by
   unfold en
   rw[decide_eq_false_iff_not,f]
   rintro⟨h1,h2,_⟩
   cases h1':rv a p.Staves.length s.Measures[j]with
   |true=>rw[h1']at h1;simp at h1
   |false=>rw[h1']at hc;simp at hc;omega
  rw[this]
 .rw [if_neg hc]
  simp only[Bool.or_eq_true,not_or,Bool.not_eq_true,decide_eq_false_iff_not]at hc
  obtain⟨c1,c2⟩:=hc
  rw[aU (n:=(j:Int)-r) (by omega) (by omega)]
  refine Ok.eq (Ob (P:=fun e=>match e with|.inl _=>en (s.Measures.map (rv a p.Staves.length)) r j=false|.inr _=>en (s.Measures.map (rv a p.Staves.length)) r j=true) (dQ (fun q=>q) (j:Int) (fun q=>(j:Int)-r<=q/\q<=(j:Int)/\∀k:Nat,(k:Int)<q->(j:Int)-r<=(k:Int)->(s.Measures.map (rv a p.Staves.length))[k]? =some true) (by omega) (by omega) ⟨by omega,by omega,fun k h1 h2=>by omega⟩ (fun q w _ hw=>?_)) fun v hv=>?_)
  .obtain ⟨A,g2,m⟩:=w
   by_cases hk:q<(j:Int)
   .rw [if_pos (by simpa using hk)]
    obtain⟨g,l⟩:=b q.toNat (by omega)
    rw[show((q.toNat:Nat):Int)=q by omega]at g
    rw[g]
    simp only[Option.bind_some]
    cases hv:rv a p.Staves.length s.Measures[q.toNat]with
    |false=>
     rw[if_pos (by simp)]
     refine .mk ?_
     dsimp only
     unfold en
     rw[decide_eq_false_iff_not]
     rintro⟨_,_,t⟩
     have:=t q.toNat (by omega) (by omega)
     rw[l,hv]at this
     simp at this
    |true=>
     rw[if_neg (by simp)]
     refine .mk ?_
     dsimp only
     rw[hw hk]
     refine⟨hk,rfl,by omega,by omega,fun k h1 h2=>?_⟩
     by_cases d:(k:Int)<q
     .exact m k d h2
     .have:k=q.toNat:=by omega
      subst this
      rw[l,hv]
   .rw [if_neg (by simpa using hk)]
    refine .mk ?_
    dsimp only
    unfold en
    rw[decide_eq_true_iff,f,c1]
    exact⟨rfl,by omega,fun k h1 h2=>m k (by omega) h2⟩
  .cases v with
   |inl _=>exact .mk hv.symm
   |inr _=>exact .mk hv.symm
theorem Fn51_eq {L:List Bool} {r:aQ} (y:L.length<=1000) (hr:1<=r.Rest) (w:r.Rest<=1000):Fn51 r L []=some (acc L r.Rest L.length):=by
 unfold Fn51
 refine rA (a:=acc L r.Rest L.length) (Ok.eq (aN (l:=L) (fun q=>q.2.1) (fun i q=>0<=q.1/\q.1<=(i:Int)/\(∀k:Nat,q.1<=(k:Int)->k<i->L[k]? =some true)/\(q.1=0\/∃k:Nat,q.1=(k:Int)+1/\L[k]? =some false)/\q.2.2=acc L r.Rest i) (by omega) rfl ⟨by simp,by simp,fun k _ h=>by omega,.inl rfl,rfl⟩ (fun i x q c z hi hl d hg hw=>?_) (fun q hi d=>?_))) rfl
 .obtain ⟨f,k,out⟩:=q
  dsimp only at hi hl d hg hw
  obtain⟨s,g2,o,p,j⟩:=d
  subst hi
  simp only[hl,hg,nt]
  have u:=(List.getElem?_eq_some_iff.1 c).1
  cases x with
  |true=>
   rw[if_pos rfl]
   refine .mk ⟨hw,s,by dsimp only;omega,fun k h1 h2=>?_,p,?_⟩
   .by_cases hk:k=i
    .subst hk;exact c
    .exact o k h1 (by omega)
   .rw [rC (by unfold en;rw[decide_eq_false_iff_not,c];rintro⟨h,_⟩;simp at h)]
    exact j
  |false=>
   rw[if_neg (by simp),aU (n:=(i:Int)-f) (by omega) (by omega)]
   have e:∀k:Nat,(i:Int)+1<=(k:Int)->k<i+1->L[k]? =some true:=fun k h1 h2=>by omega
   by_cases hc:(i:Int)-f>=r.Rest
   .have b:en L r.Rest i=true:=by
     unfold en
     rw[decide_eq_true_iff]
     exact⟨c,by omega,fun k h1 h2=>o k (by omega) h1⟩
    rw[if_pos (by simpa using hc)]
    have hy:Fy13_30 (i:Int) f out=some (acc L r.Rest (i+1)):=by
     have m:=eW1 L r.Rest i
     rw[<-j]at m
     unfold Fy13_30
     obtain⟨v,h1,h2⟩:=cW (g:=false) (l:=out) (x:=(i:Int)) (Q:=fun v=>v=out++[(i:Int)]) (by omega) rfl
     rw[rB b,<-j,<-h2]
     first|rw[h1];rfl|exact h1
    rw[hy]
    exact .mk ⟨hw,by dsimp only;omega,by dsimp only;omega,by dsimp only;rw[hw];exact e,.inr ⟨i,hw,c⟩,rfl⟩
   .have b:en L r.Rest i=false:=by
     unfold en
     rw[decide_eq_false_iff_not]
     rintro⟨_,h2,t⟩
     rcases p with h0|⟨k,h0,hk⟩
     .omega
     .have:=t k (by omega) (by omega)
      rw[hk]at this
      simp at this
    rw[if_neg (by simpa using hc)]
    exact .mk ⟨hw,by dsimp only;omega,by dsimp only;omega,by dsimp only;rw[hw];exact e,.inr ⟨i,hw,c⟩,by rw[rC b];exact j⟩
 .obtain ⟨f,k,out⟩:=q
  dsimp only at hi d
  subst hi
  simp only[nf]
  exact .mk d.2.2.2.2
theorem law4 (hb:s.b) (i:Int) (r:aQ):F4 s i r=some true:=by
 unfold F4
 obtain⟨g,hg,D⟩:∃g,F7 s=some g/\(g=true->s.sm/\F18 s=some true):=by
  unfold F7
  obtain⟨z,hr,M⟩:=U13 hb
  rw[hr]
  cases z with
  |false=>exact⟨false,rfl,fun h=>by cases h⟩
  |true=>
   obtain⟨v,hv,_⟩:=T18 (M rfl)
   exact⟨v,by rw[hv];rfl,fun h=>⟨M rfl,by rw[hv,h]⟩⟩
 rw[hg]
 simp only[Option.bind_some,Bool.not_true,Bool.false_eq_true,if_false]
 cases g with
 |false=>rfl
 |true=>
 obtain⟨hs,hv⟩:=D rfl
 simp only[Bool.not_true,Bool.false_eq_true,if_false]
 have hM:=hs.Measures
 have e:F23 s i=some (if(decide (i<0)||decide (i>=(s.Parts.length:Int)))=true then 2 else 0):=by
  unfold F23;rw[hv];simp only[Option.bind_some,Bool.not_true,Bool.false_eq_true,if_false];split<;>rfl
 obtain⟨c,hc⟩:∃c:Bool,((((decide (r.Rest>=1))&&(decide (r.Rest<=1000)))&&(decide (r.Length>=1)))&&(decide (r.Length<=8)))=c:=⟨_,rfl⟩
 have A:F14 r=some (if c=true then 0 else 2):=by
  unfold F14
  cases c with
  |true=>simp at hc;rw[if_neg (by simp;omega)];rfl
  |false=>
   rw[if_pos (by simp at hc ⊢;omega)];rfl
 rw[hc]
 by_cases hi:(decide (i<0)||decide (i>=(s.Parts.length:Int)))=true
 .rw [if_pos hi]at e
  have w:F12 s i=some ([],2):=by unfold F12;rw[e];rfl
  have y:F13 s i r=some ([],2):=by unfold F13;rw[e];rfl
  rw[w,y,A]
  simp only[Option.bind_some]
  rw[if_pos hi]
  cases c<;>rfl
 .rw [if_neg hi]at e
  have J:0<=i/\i<(s.Parts.length:Int):=by simp at hi;omega
  obtain⟨p,hp,O,a,R,B⟩:=F36_eq hs J.1 J.2
  have H:=F28_eq hs hp O R B
  have w:F12 s i=some (s.Measures.map (rv a p.Staves.length),0):=by unfold F12;rw[e,H];rfl
  have y:F13 s i r=some (if c=true then(acc (s.Measures.map (rv a p.Staves.length)) r.Rest s.Measures.length,0)else([],2)):=by
   unfold F13
   rw[e,A]
   cases c with
   |false=>rfl
   |true=>
    simp at hc
    rw[H]
    have:=Fn51_eq (L:=s.Measures.map (rv a p.Staves.length)) (r:=r) (by simp;omega) (by omega) (by omega)
    rw[List.length_map]at this
    simp only[Option.bind_some,Fn27,this]
    rfl
  rw[w,y,A]
  simp only[Option.bind_some]
  rw[if_neg hi]
  generalize hL:s.Measures.map (rv a p.Staves.length)=L at *
  have P:L.length=s.Measures.length:=by rw[<-hL];simp
  have S:(aO (E:=Unit⊕Unit) (fun(o:Int)=>if decide (o<(L.length:Int))then(lget L o).bind fun X=>(F15 s i o).bind fun Y=>if(X==Y)!=true then some (.inr (.inl ()))else some (.inl (w64 (o+1)))else some (.inr (.inr ()))) B64 0)=some (.inr ()):=by
   refine Ok.eq (aN (l:=L) (fun q=>q) (fun _ _=>True) (by omega) rfl trivial (fun j x q F hm hi hl C hg hw=>?_) (fun q hi C=>?_))
   .subst hi
    have hj:=(List.getElem?_eq_some_iff.1 F).1
    have N:=F15_eq hs hp O R B (lT (l:=s.Measures) (i:=j) (by omega))
    have V:x=rv a p.Staves.length (s.Measures[j]'(by omega)):=by
     rw[<-hL]at F
     simp only[List.getElem?_map,List.getElem?_eq_getElem (show j<s.Measures.length by omega),Option.map_some]at F
     exact(Option.some.inj F).symm
    simp only[hl,hg,nt,N]
    rw[V,if_neg (by simp)]
    exact .mk ⟨hw,trivial⟩
   .subst hi
    simp only[nf]
    exact .mk rfl
  have K:(if((((if c=true then(0:Int)else 2)==0)==c)!=true)=true then some true else(if(!c)=true then some ((if c=true then(0:Int)else 2)!=2)else some false).bind fun W=>some W)=some false:=by cases c<;>rfl
  rw[K]
  simp only[Option.bind_some,Bool.false_eq_true,if_false]
  rw[if_neg (by simp[P]),S]
  simp only[Option.bind_some]
  cases c with
  |false=>rfl
  |true=>
   simp at hc
   simp only[if_true,Bool.not_true,Bool.false_eq_true,if_false]
   have T:(aO (E:=Int⊕Int) (fun(⟨f,m⟩:Int×Int)=>if decide (m<(s.Measures.length:Int))then(F16 s i m r.Rest).bind fun Z=>if Z then((if decide (f>=((acc L r.Rest s.Measures.length).length:Int))then some true else(lget (acc L r.Rest s.Measures.length) f).bind fun a0=>some (a0 !=m):Option (Bool))).bind fun b0=>if b0 then some (.inr (.inl f))else some (.inl ((w64 (f+1)),(w64 (m+1))))else some (.inl (f,(w64 (m+1))))else some (.inr (.inr f))) B64 (0,0))=some (.inr ((acc L r.Rest s.Measures.length).length:Int)):=by
    refine Ok.eq (aN (l:=s.Measures) (fun q=>q.2) (fun j q=>q.1=((acc L r.Rest j).length:Int)) (by omega) rfl rfl (fun j x q F hm hi hl C hg hw=>?_) (fun q hi C=>?_))
    .obtain ⟨n,k⟩:=q
     dsimp only at hi hl C hg hw
     subst hi C
     have hj:=(List.getElem?_eq_some_iff.1 F).1
     have G:=F16_eq hs hp O R B hj (r:=r.Rest) (by omega) (by omega)
     rw[hL]at G
     simp only[hl,G,nt]
     cases he:en L r.Rest j with
     |false=>
      rw[if_neg (by simp)]
      exact .mk ⟨hw,by dsimp only;rw[rC he]⟩
     |true=>
      rw[if_pos rfl]
      have b4:=eW1 L r.Rest j
      obtain⟨d,hd⟩:∃d,s.Measures.length=j+1+d:=⟨s.Measures.length-(j+1),by omega⟩
      have u:=hB1 L r.Rest (j+1) d
      rw[<-hd]at u
      obtain⟨t,U⟩:=u
      rw[rB he]at U
      have hlen:(acc L r.Rest j).length<(acc L r.Rest s.Measures.length).length:=by rw[<-U];simp
      have hget:lget (acc L r.Rest s.Measures.length) ((acc L r.Rest j).length:Int)=some (j:Int):=by
       rw[lT hlen]
       simp only[<-U]
       simp
      rw[if_neg (by simp;omega),hget]
      simp only[Option.bind_some]
      rw[if_neg (by simp)]
      refine .mk ⟨hw,?_⟩
      dsimp only
      rw[rB he,aU (by omega) (by omega)]
      simp
    .obtain ⟨n,k⟩:=q
     dsimp only at hi C
     subst hi C
     simp only[nf]
     exact .mk rfl
   rw[T]
   simp only[Option.bind_some]
   simp
end Go.P
