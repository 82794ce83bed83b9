import Derived.Test.YtccnabgijejljaaGreatGaB
import Derived.KernelRfl
/- A text of the proof. -/
set_option linter.all false
set_option maxRecDepth 100000
namespace Go.P
def Ok {α:Type} (x:Option α) (Q:α->Prop):Prop:=∃v,x=some v/\Q v
section
variable {α β:Type} {Q:α->Prop}
theorem Ok.mk {v:α} (h:Q v):Ok (some v) Q:=⟨v,rfl,h⟩
theorem Ob {P:β->Prop} {x:Option β} {k:β->Option α} (h:Ok x P) (hk:∀v,P v->Ok (k v) Q):Ok (x.bind k) Q:=by
 obtain⟨v,rfl,hv⟩:=h
 exact hk v hv
theorem Oi {c:Prop} [Decidable c] {a b:Option α} (h1:c->Ok a Q) (h2:¬c->Ok b Q):Ok (if c then a else b) Q:=by
 split
 .rename_i h;exact h1 h
 .rename_i h;exact h2 h
theorem Ok.mono {P:α->Prop} {x:Option α} (h:Ok x P) (a:∀v,P v->Q v):Ok x Q:=by
 obtain⟨v,h1,h2⟩:=h
 exact⟨v,h1,a v h2⟩
theorem Ok.ex {x:Option α} (h:Ok x Q):∃v,x=some v:=by
 obtain⟨v,h1,_⟩:=h
 exact⟨v,h1⟩
theorem uO {S E:Type} {body:S->Option (S⊕E)} {Q:E->Prop} (I:S->Prop) (μ:S->Nat)
  (h:∀s,I s->Ok (body s) (fun r=>match r with|.inl s'=>I s'/\μ s'<μ s|.inr e=>Q e)):∀(n:Nat) (s:S),I s->μ s<n->Ok (aN body n s) Q
 |0,s,_,hn=>by omega
 |n+1,s,hi,hn=>by
  obtain⟨r,h1,h2⟩:=h s hi
  simp only[aN,h1,Option.bind_some]
  cases r with
  |inl s'=>exact uO I μ h n s' h2.1 (by have:=h2.2;omega)
  |inr e=>exact .mk h2
end
theorem gE1 {n:Int} (h1: -9223372036854775808<=n) (h2:n<9223372036854775808):w64 n=n:=by
 have e:w64 n=if n%18446744073709551616>=9223372036854775808 then n%18446744073709551616-18446744073709551616 else n%18446744073709551616:=by
  unfold w64 IntKind.wrap
  rw[show((2:Int)^IntKind.bits .i64)=18446744073709551616 from rfl,show((2:Int)^(IntKind.bits .i64-1))=9223372036854775808 from rfl]
  simp[IntKind.signed]
 rw[e]
 split<;>omega
end Go.P
namespace Go.P
end Go.P
namespace Go.P
end Go.P
namespace Go.P
theorem sX {A S E:Type} {l:List A} {body:S->Option (S⊕E)} {Q:E->Prop} {s0:S} (a:S->Int) (I:Nat->S->Prop) (hl:l.length<9223372036854775808) (h0:a s0=0) (g:I 0 s0)
  (h:∀(i:Nat) (x:A) (s:S),l[i]? =some x->x∈l->a s=(i:Int)->a s<(l.length:Int)->I i s->lget l (a s)=some x->w64 (a s+1)=(i:Int)+1->Ok (body s) (fun r=>match r with|.inl s'=>a s'=(i:Int)+1/\I (i+1) s'|.inr e=>Q e))
  (b:∀s,a s=(l.length:Int)->I l.length s->Ok (body s) (fun r=>match r with|.inl _=>False|.inr e=>Q e)):Ok (aN body B64 s0) Q:=by
 have hl:l.length<9223372036854775808:=hl
 refine uO (fun s=>0<=a s/\a s<=l.length/\I (a s).toNat s) (fun s=>l.length-(a s).toNat) (fun s hi=>?_) B64 s0 ⟨by omega,by omega,by rw[h0];exact g⟩ (by simp[B64];omega)
 obtain⟨k,n,d⟩:=hi
 by_cases c:a s<(l.length:Int)
 .have hi:(a s).toNat<l.length:=by omega
  have hc:(((a s).toNat:Nat):Int)=a s:=by omega
  have hg:lget l (a s)=some l[(a s).toNat]:=by unfold lget;rw[if_pos k];simp[hi]
  refine(h (a s).toNat l[(a s).toNat] s (by simp[hi]) (List.getElem_mem hi) hc.symm c d hg (by rw[gE1 (by omega) (by omega)];omega)).mono fun r hr=>?_
  cases r with
  |inl s'=>
   obtain⟨m,f⟩:=hr
   refine⟨⟨by omega,by omega,?_⟩,by omega⟩
   rw[show(a s').toNat=(a s).toNat+1 by omega]
   exact f
  |inr e=>exact hr
 .refine (b s (by omega) ?_).mono fun r hr=>?_
  .rw [show(a s).toNat=l.length by omega]at d;exact d
  .cases r with
   |inl j=>exact hr.elim
   |inr e=>exact hr
theorem bM1 {A:Type} {g:Bool} {l:List A} {x:A} (h:l.length<1073741824) {Q:List A->Prop} (a:Q (l++[x])):Ok (lapp g l [x]) Q:=by
 unfold lapp
 have e:Sim.maxRoom=1073741824:=rfl
 rw[if_pos ⟨by rw[e,List.length_cons,List.length_nil];omega,fun _=>Nat.le_refl _⟩]
 exact .mk a
end Go.P
namespace Go.P
section
variable {α β:Type} {Q:α->Prop}
theorem Ok.of {x:Option α} (h:Ok x Q) {v:α} (hv:x=some v):Q v:=by
 obtain⟨w,h1,h2⟩:=h
 rw[h1]at hv;cases hv;exact h2
end
section
variable {A:Type} {l:List A}
end
theorem nt:(∀[Decidable True],decide True=true)/\(∀(α:Type) [Decidable True] (a b:α),(if True then a else b)=a)/\∀(α β:Type) (a:α) (f:α->Option β),(some a).bind f=f a:=⟨decide_true _,fun _ _ _ _=>if_true ..,fun _ _ _ _=>rfl⟩
theorem nf:(∀a:Int,(a<a)=False)/\(∀[Decidable False],decide False=false)/\((false=true)=False)/\∀(α:Type) [Decidable False] (a b:α),(if False then a else b)=b:=⟨fun a=>by simp,decide_false _,by simp,fun _ _ _ _=>if_false ..⟩
end Go.P
namespace Go.P
theorem zI {α β:Type} {x:Option α} {a:α} {K:α->Option β} {r:Option β} (h:x=some a) (hk:K a=r):x.bind K=r:=by subst h;exact hk
theorem Ok.eq {α:Type} {x:Option α} {a:α} (h:Ok x (fun v=>v=a)):x=some a:=by
 obtain⟨v,h1,rfl⟩:=h
 exact h1
section
variable {K V:Type} [DecidableEq K]
end
end Go.P
namespace Go.P
structure Zy.b (x:Zy):Prop where
 Text:x.Text.size<9223372036854775808
structure Ze.b (x:Ze):Prop where
 Heads:x.Heads.length<9223372036854775808
 Graces:x.Graces.length<9223372036854775808
 Lyrics:x.Lyrics.length<9223372036854775808
 LyricsE:∀y∈x.Lyrics,y.b
structure Zo.b (x:Zo):Prop where
 Events:x.Events.length<9223372036854775808
 EventsE:∀y∈x.Events,y.b
 Tuplets:x.Tuplets.length<9223372036854775808
structure Zw.b (x:Zw):Prop where
 Clefs:x.Clefs.length<9223372036854775808
 Voices:x.Voices.length<9223372036854775808
 VoicesE:∀y∈x.Voices,y.b
structure Zm.b (x:Zm):Prop where
 Rehearsal:x.Rehearsal.size<9223372036854775808
 Tempi:x.Tempi.length<9223372036854775808
 Cells:x.Cells.length<9223372036854775808
 CellsE:∀y∈x.Cells,y.b
structure Zj.b (x:Zj):Prop where
 Name:x.Name.size<9223372036854775808
 Staves:x.Staves.length<9223372036854775808
structure Z0.b (x:Z0):Prop where
 Title:x.Title.size<9223372036854775808
 Parts:x.Parts.length<9223372036854775808
 PartsE:∀y∈x.Parts,y.b
 Measures:x.Measures.length<9223372036854775808
 MeasuresE:∀y∈x.Measures,y.b
 Spanners:x.Spanners.length<9223372036854775808
 Last:x.Last.length<9223372036854775808
end Go.P
set_option maxHeartbeats 1000000
namespace Go.P
theorem lW {A:Type} {l:List A} (hl:l.length<1000000) (p:A->Bool) {body:Int×List A->Option ((Int×List A)⊕List A)}
  (h:∀(i:Int) (x:A) (o:List A),lget l i=some x->0<=i->i<(l.length:Int)->w64 (i+1)=i+1->o.length<1000000->body (i,o)=some (.inl (i+1,if p x then o++[x]else o)))
  (b:∀o,body ((l.length:Int),o)=some (.inr o)):aN body B64 (0,[])=some (l.filter p):=by
 refine Ok.eq (sX (l:=l) (fun q=>q.1) (fun i q=>q.2=(l.take i).filter p) (by omega) rfl (by simp) (fun i e q f g hi c a hg hw=>?_) (fun q hi a=>?_))
 .obtain ⟨k,o⟩:=q
  dsimp only at hi c a hg hw
  subst a
  have d:((l.take i).filter p).length<1000000:=Nat.lt_of_le_of_lt (List.length_filter_le _ _) (by rw[List.length_take];omega)
  rw[h k e _ hg (by omega) c (by omega) d]
  refine .mk ⟨by dsimp only;omega,?_⟩
  dsimp only
  rw[List.take_add_one,f,List.filter_append]
  cases hp:p e<;>simp[hp]
 .obtain ⟨k,o⟩:=q
  dsimp only at hi a
  subst a
  rw[hi,b,List.take_length]
  exact .mk rfl
theorem F9_eq {l:List aQ} (hl:l.length<1000000):F9 l l=some true:=by
 unfold F9
 rw[if_neg (by simp)]
 refine zI (a:=.inr ()) (Ok.eq (sX (l:=l) (fun q=>q) (fun _ _=>True) (by omega) rfl trivial (fun i e q d c hi b _ hg hw=>?_) (fun q hi _=>?_))) rfl
 .simp only[b,hg,nt]
  rw[if_neg (by simp)]
  exact .mk ⟨hw,trivial⟩
 .simp only[hi,nf]
  exact .mk rfl
def pA (t:Int) (x:aQ):Bool:=decide (x.On<=t)&&decide (t<x.Off)
def pB (p:Int) (x:aQ):Bool:=x.Part==p
theorem pC {A:Type} {l:List A} {x:A} (h:l.length<1073741824):lapp false l [x]=some (l++[x]):=
 Ok.eq (bM1 (g:=false) (x:=x) h (Q:=fun v=>v=l++[x]) rfl)
theorem F10_eq {l:List aQ} (hl:l.length<1000000) (t:Int):F10 l t=some (l.filter (pA t)):=by
 unfold F10 Fn20
 rw[lW hl (pA t) (fun i x o hg h0 h1 hw a=>?_) (fun o=>?_)]
 .rfl
 .dsimp only
  rw[if_pos (by simpa using h1),hg,Option.bind_some,show F21 x t=some (pA t x)from rfl,Option.bind_some,hw]
  cases pA t x
  .rfl
  .simp only[if_true]
   rw[pC (by omega)];rfl
 .dsimp only
  rw[if_neg (by simp)]
theorem F11_eq {l:List aQ} (hl:l.length<1000000) (t:Int):F11 l t=some (l.filter (pB t)):=by
 unfold F11 Fn20_2
 rw[lW hl (pB t) (fun i x o hg h0 h1 hw a=>?_) (fun o=>?_)]
 .rfl
 .dsimp only
  rw[if_pos (by simpa using h1),hg,Option.bind_some,show F22 x t=some (pB t x)from rfl,Option.bind_some,hw]
  cases pB t x
  .rfl
  .simp only[if_true]
   rw[pC (by omega)];rfl
 .dsimp only
  rw[if_neg (by simp)]
theorem law4 {c:List aQ} (g:c.length<9223372036854775808) (t p:Int):F4 c t p=some true:=by
 unfold F4
 have hc:jU c 0 (if 40<(c.length:Int)then 40 else(c.length:Int))=some (c.take 40):=by
  unfold jU
  by_cases h:(40:Int)<(c.length:Int)
  .rw [if_pos h,if_pos ⟨by omega,by omega,by omega⟩];rfl
  .rw [if_neg h,if_pos ⟨by omega,by omega,by omega⟩]
   show some _=_
   rw[Int.toNat_natCast,List.take_of_length_le (by simp),List.take_of_length_le (by omega)];rfl
 rw[hc,Option.bind_some]
 have hl:(c.take 40).length<=40:=by rw[List.length_take];omega
 generalize c.take 40=l at hl ⊢
 refine zI (a:=(l.filter (pB p),l.filter (pA t))) (Ok.eq (sX (l:=l) (fun q=>q.1) (fun i q=>q.2.1=(l.take i).filter (pB p)/\q.2.2=(l.take i).filter (pA t)) (by omega) rfl ⟨by simp,by simp⟩ (fun i e q j o hi f d hg hw=>?_) (fun q hi d=>?_))) ?_
 .obtain ⟨k,m,n⟩:=q
  dsimp only at hi f d hg hw
  obtain⟨rfl,rfl⟩:=d
  have b:∀p:aQ->Bool,((l.take i).filter p).length<1000000:=fun p=>Nat.lt_of_le_of_lt (List.length_filter_le _ _) (by rw[List.length_take];omega)
  simp only[f,hg,nt]
  have h1:(if decide (e.On<=t)=true then some (decide (t<e.Off))else some false)=some (pA t e):=by
   unfold pA;cases decide (e.On<=t)<;>rfl
  rw[h1]
  simp only[Option.bind_some]
  have hs:∀q:aQ->Bool,(l.take (i+1)).filter q=if q e then(l.take i).filter q++[e]else(l.take i).filter q:=fun q=>by
   rw[List.take_add_one,j,List.filter_append]
   cases hq:q e<;>simp[hq]
  refine Ob (P:=fun v=>v=(l.take (i+1)).filter (pA t)) ?_ fun v hv=>?_
  .rw [hs]
   refine Oi (fun hc=>?_) (fun hc=>?_)
   .rw [pC (Nat.lt_trans (b _) (by decide))]
    exact .mk (by rw[if_pos hc])
   .exact .mk (by rw[if_neg hc])
  .subst hv
   refine Ob (P:=fun v=>v=(l.take (i+1)).filter (pB p)) ?_ fun v hv=>?_
   .rw [hs]
    refine Oi (fun hc=>?_) (fun hc=>?_)
    .rw [pC (Nat.lt_trans (b _) (by decide))]
     exact .mk (by rw[if_pos (show pB p e=true from hc)])
    .exact .mk (by rw[if_neg (show ¬pB p e=true from hc)])
   .subst hv
    exact .mk ⟨hw,rfl,rfl⟩
 .obtain ⟨k,m,n⟩:=q
  dsimp only at hi d
  obtain⟨rfl,rfl⟩:=d
  simp only[hi,nf,List.take_length]
  exact .mk rfl
 .have b:∀p:aQ->Bool,(l.filter p).length<1000000:=fun p=>Nat.lt_of_le_of_lt (List.length_filter_le _ _) (by omega)
  simp only[Option.bind_some,if_true]
  rw[F10_eq (by omega),Option.bind_some,F9_eq (b _)]
  simp only[Option.bind_some,if_true]
  rw[F11_eq (by omega),Option.bind_some,F9_eq (b _)]
  rfl
end Go.P
