import Derived.Test.YtccnabgijejljaaGreatGaB
import Derived.KernelRfl
/- A text of the proof. -/
set_option linter.all false
set_option maxRecDepth 100000
namespace Go.P
def Ok {α:Type} (x:Option α) (Q:α->Prop):Prop:=∃v,x=some v/\Q v
section
variable {α β:Type} {Q:α->Prop}
theorem Ok.mk {v:α} (h:Q v):Ok (some v) Q:=⟨v,rfl,h⟩
theorem Ob {P:β->Prop} {x:Option β} {k:β->Option α} (h:Ok x P) (hk:∀v,P v->Ok (k v) Q):Ok (x.bind k) Q:=by
 obtain⟨v,rfl,hv⟩:=h
 exact hk v hv
theorem Oi {c:Prop} [Decidable c] {a b:Option α} (h1:c->Ok a Q) (h2:¬c->Ok b Q):Ok (if c then a else b) Q:=by
 split
 .rename_i h;exact h1 h
 .rename_i h;exact h2 h
theorem Ok.mono {P:α->Prop} {x:Option α} (h:Ok x P) (a:∀v,P v->Q v):Ok x Q:=by
 obtain⟨v,h1,h2⟩:=h
 exact⟨v,h1,a v h2⟩
theorem Ok.ex {x:Option α} (h:Ok x Q):∃v,x=some v:=by
 obtain⟨v,h1,_⟩:=h
 exact⟨v,h1⟩
theorem iZ {S E:Type} {body:S->Option (S⊕E)} {Q:E->Prop} (I:S->Prop) (μ:S->Nat)
  (h:∀s,I s->Ok (body s) (fun r=>match r with|.inl s'=>I s'/\μ s'<μ s|.inr e=>Q e)):∀(n:Nat) (s:S),I s->μ s<n->Ok (aO body n s) Q
 |0,s,_,hn=>by omega
 |n+1,s,hi,hn=>by
  obtain⟨r,h1,h2⟩:=h s hi
  simp only[aO,h1,Option.bind_some]
  cases r with
  |inl s'=>exact iZ I μ h n s' h2.1 (by have:=h2.2;omega)
  |inr e=>exact .mk h2
end
theorem uZ {n:Int} (h1: -9223372036854775808<=n) (h2:n<9223372036854775808):w64 n=n:=by
 have e:w64 n=if n%18446744073709551616>=9223372036854775808 then n%18446744073709551616-18446744073709551616 else n%18446744073709551616:=by
  unfold w64 IntKind.wrap
  rw[show((2:Int)^IntKind.bits .i64)=18446744073709551616 from rfl,show((2:Int)^(IntKind.bits .i64-1))=9223372036854775808 from rfl]
  simp[IntKind.signed]
 rw[e]
 split<;>omega
theorem eZ1 {A:Type} {l:List A} {i:Int} {Q:A->Prop} (h0:0<=i) (h1:i<(l.length:Int)) (h:∀x,x∈l->l[i.toNat]? =some x->Q x):Ok (lget l i) Q:=by
 unfold lget
 rw[if_pos h0]
 have hi:i.toNat<l.length:=by omega
 exact⟨l[i.toNat],by simp[hi],h _ (List.getElem_mem hi) (by simp[hi])⟩
end Go.P
namespace Go.P
def idxF {A:Type} (l:List A) (g:A->Option Bool):Option Int:=
 (aO (E:=Int⊕Unit) (fun(a:Int)=>
  if(decide (a<(l.length:Int)))then
   (lget l a).bind fun d=>
   (g d).bind fun b=>
   if b then
    some (.inr (.inl a))
   else
   some (.inl (w64 (a+1)))
  else
  some (.inr (.inr ()))) B64 0).bind fun c=>
 match c with
 |.inl x_7=>
  some x_7
 |.inr _=>
  some (-1)
theorem fA1 {A:Type} {l:List A} {g:A->Option Bool} (hl:l.length<9223372036854775808) (hg:∀x∈l,∃b,g x=some b):Ok (idxF l g) (fun v=>(v= -1/\∀x∈l,g x=some false)\/(0<=v/\v<l.length/\∃x,l[v.toNat]? =some x/\g x=some true)):=by
 unfold idxF
 refine Ob (P:=fun r=>match r with|.inl v=>0<=v/\v<l.length/\∃x,l[v.toNat]? =some x/\g x=some true|.inr _=>∀x∈l,g x=some false)
  (iZ (S:=Int) (fun i=>0<=i/\i<=l.length/\∀j,j<i.toNat->∀x,l[j]? =some x->g x=some false) (fun i=>l.length-i.toNat) (fun i hi=>?_) B64 0 ⟨by omega,by omega,fun j c=>by simp at c⟩ (by simp[B64];omega)) fun r hr=>?_
 .obtain ⟨h0,h1,h2⟩:=hi
  refine Oi (fun hc=>?_) (fun hc=>?_)
  .simp only[decide_eq_true_eq]at hc
   refine Ob (eZ1 (Q:=fun x=>x∈l/\l[i.toNat]? =some x) h0 hc (fun x a b=>⟨a,b⟩)) fun x d=>?_
   obtain⟨b,hb⟩:=hg x d.1
   rw[hb]
   cases b with
   |true=>exact .mk ⟨h0,hc,x,d.2,hb⟩
   |false=>
    rw[Option.bind_some,uZ (by omega) (by omega)]
    refine .mk ⟨⟨by omega,by omega,fun j c y hy=>?_⟩,by omega⟩
    by_cases e:j=i.toNat
    .subst e
     rw[d.2]at hy;cases hy;exact hb
    .exact h2 j (by omega) y hy
  .simp only[decide_eq_true_eq]at hc
   refine .mk (fun x d=>?_)
   obtain⟨j,c⟩:=List.mem_iff_getElem?.1 d
   have:=(List.getElem?_eq_some_iff.1 c).1
   exact h2 j (by omega) x c
 .cases r with
  |inl v=>exact .mk (.inr hr)
  |inr u=>exact .mk (.inl ⟨rfl,hr⟩)
end Go.P
namespace Go.P
theorem zP {A E:Type} {l:List A} {body:Int->Option (Int⊕E)} {Q:E->Prop} (P:A->Prop) (hl:l.length<9223372036854775808)
  (h:∀(i:Int) (x:A),0<=i->i<(l.length:Int)->x∈l->lget l i=some x->w64 (i+1)=i+1->Ok (body i) (fun r=>match r with|.inl j=>j=i+1/\P x|.inr e=>Q e))
  (a:∀i:Int,i=(l.length:Int)->(∀x∈l,P x)->Ok (body i) (fun r=>match r with|.inl j=>False|.inr e=>Q e)):Ok (aO body B64 0) Q:=by
 have hl:l.length<9223372036854775808:=hl
 refine iZ (fun(i:Int)=>0<=i/\i<=l.length/\∀j,j<i.toNat->∀x,l[j]? =some x->P x) (fun i=>l.length-i.toNat) (fun i hi=>?_) B64 0 ⟨by omega,by omega,fun j b=>by simp at b⟩ (by simp[B64];omega)
 obtain⟨h0,h1,h2⟩:=hi
 by_cases c:i<(l.length:Int)
 .have hi:i.toNat<l.length:=by omega
  have hg:lget l i=some l[i.toNat]:=by unfold lget;rw[if_pos h0];simp[hi]
  refine(h i l[i.toNat] h0 c (List.getElem_mem hi) hg (uZ (by omega) (by omega))).mono fun r hr=>?_
  cases r with
  |inl j=>
   obtain⟨rfl,hp⟩:=hr
   refine⟨⟨by omega,by omega,fun j b y hy=>?_⟩,by omega⟩
   by_cases e:j=i.toNat
   .subst e;rw[List.getElem?_eq_getElem hi]at hy;cases hy;exact hp
   .exact h2 j (by omega) y hy
  |inr e=>exact hr
 .refine (a i (by omega) (fun x d=>?_)).mono fun r hr=>?_
  .obtain ⟨j,b⟩:=List.mem_iff_getElem?.1 d
   have:=(List.getElem?_eq_some_iff.1 b).1
   exact h2 j (by omega) x b
  .cases r with
   |inl j=>exact hr.elim
   |inr e=>exact hr
end Go.P
namespace Go.P
theorem zQ {A S E:Type} {l:List A} {body:S->Option (S⊕E)} {Q:E->Prop} {s0:S} (a:S->Int) (I:Nat->S->Prop) (hl:l.length<9223372036854775808) (h0:a s0=0) (g:I 0 s0)
  (h:∀(i:Nat) (x:A) (s:S),l[i]? =some x->x∈l->a s=(i:Int)->a s<(l.length:Int)->I i s->lget l (a s)=some x->w64 (a s+1)=(i:Int)+1->Ok (body s) (fun r=>match r with|.inl s'=>a s'=(i:Int)+1/\I (i+1) s'|.inr e=>Q e))
  (b:∀s,a s=(l.length:Int)->I l.length s->Ok (body s) (fun r=>match r with|.inl _=>False|.inr e=>Q e)):Ok (aO body B64 s0) Q:=by
 have hl:l.length<9223372036854775808:=hl
 refine iZ (fun s=>0<=a s/\a s<=l.length/\I (a s).toNat s) (fun s=>l.length-(a s).toNat) (fun s hi=>?_) B64 s0 ⟨by omega,by omega,by rw[h0];exact g⟩ (by simp[B64];omega)
 obtain⟨k,n,d⟩:=hi
 by_cases c:a s<(l.length:Int)
 .have hi:(a s).toNat<l.length:=by omega
  have hc:(((a s).toNat:Nat):Int)=a s:=by omega
  have hg:lget l (a s)=some l[(a s).toNat]:=by unfold lget;rw[if_pos k];simp[hi]
  refine(h (a s).toNat l[(a s).toNat] s (by simp[hi]) (List.getElem_mem hi) hc.symm c d hg (by rw[uZ (by omega) (by omega)];omega)).mono fun r hr=>?_
  cases r with
  |inl s'=>
   obtain⟨m,f⟩:=hr
   refine⟨⟨by omega,by omega,?_⟩,by omega⟩
   rw[show(a s').toNat=(a s).toNat+1 by omega]
   exact f
  |inr e=>exact hr
 .refine (b s (by omega) ?_).mono fun r hr=>?_
  .rw [show(a s).toNat=l.length by omega]at d;exact d
  .cases r with
   |inl j=>exact hr.elim
   |inr e=>exact hr
theorem lapp1_ok {A:Type} {g:Bool} {l:List A} {x:A} (h:l.length<1073741824) {Q:List A->Prop} (a:Q (l++[x])):Ok (lapp g l [x]) Q:=by
 unfold lapp
 have e:Sim.maxRoom=1073741824:=rfl
 rw[if_pos ⟨by rw[e,List.length_cons,List.length_nil];omega,fun _=>Nat.le_refl _⟩]
 exact .mk a
end Go.P
namespace Go.P
section
variable {α β:Type} {Q:α->Prop}
theorem Ok.of {x:Option α} (h:Ok x Q) {v:α} (hv:x=some v):Q v:=by
 obtain⟨w,h1,h2⟩:=h
 rw[h1]at hv;cases hv;exact h2
theorem quoO_ok {k:IntKind} {a b:Int} (h:b≠0):Ok (quoO k a b) (fun v=>v=k.wrap (a.tdiv b)):=by
 unfold quoO;rw[if_neg h];exact .mk rfl
theorem remO_ok {k:IntKind} {a b:Int} (h:b≠0):Ok (remO k a b) (fun v=>v=a.tmod b):=by
 unfold remO;rw[if_neg h];exact .mk rfl
theorem shrO_ok {k:IntKind} {a b:Int} (h:0<=b):Ok (shrO k a b) (fun v=>v=a.fdiv (2^min b.toNat k.bits)):=by
 unfold shrO;rw[if_neg (by omega)];exact .mk rfl
theorem shlO_ok {k:IntKind} {a b:Int} (h:0<=b):Ok (shlO k a b) (fun _=>True):=by
 unfold shlO;rw[if_neg (by omega)];exact .mk trivial
end
section
variable {A:Type} {l:List A}
theorem lidx_ok {i:Int} (h0:0<=i) (h1:i<(l.length:Int)):Ok (lidx l i) (fun v=>v=i.toNat/\v<l.length):=by
 unfold lidx sP;rw[if_pos ⟨h0,h1⟩];exact .mk ⟨rfl,by omega⟩
theorem lnth_ok {j:Nat} (h:j<l.length):Ok (lnth l j) (fun x=>l[j]? =some x/\x∈l):=by
 unfold lnth;rw[List.getElem?_eq_getElem h];exact .mk ⟨rfl,List.getElem_mem h⟩
theorem lput_ok {j:Nat} {f:A->A} (h:j<l.length):Ok (lput l j f) (fun m=>m.length=l.length):=by
 unfold lput;rw[List.getElem?_eq_getElem h];exact .mk (by simp)
theorem lmake_ok {n c:Int} {z:A} (h0:0<=n) (h1:n<=c) (h2:c<=1073741824):Ok (rO n c z) (fun v=>v=List.replicate n.toNat z):=by
 unfold rO;rw[if_pos ⟨h0,h1,h2⟩];exact .mk rfl
theorem lslice_ok {a b:Int} (h0:0<=a) (h1:a<=b) (h2:b<=(l.length:Int)):Ok (gA l a b) (fun v=>v.length<=l.length/\∀x∈v,x∈l):=by
 unfold gA;rw[if_pos ⟨h0,h1,h2⟩]
 exact .mk ⟨by simp;omega,fun x c=>List.mem_of_mem_drop (List.mem_of_mem_take c)⟩
theorem ltrunc_ok {h:Int} (h0:0<l.length) (h1:0<=h) (h2:h<=(l.length:Int)):Ok (rN l h) (fun v=>v.length=h.toNat/\∀x∈v,x∈l):=by
 unfold rN;rw[if_pos ⟨h0,h1,h2⟩]
 exact .mk ⟨by simp;omega,fun x a=>List.mem_of_mem_take a⟩
theorem lget_some {i:Int} {x:A} (h:lget l i=some x):0<=i/\i<(l.length:Int)/\x∈l/\l[i.toNat]? =some x:=by
 unfold lget at h
 split at h
 .obtain ⟨hi,_⟩:=List.getElem?_eq_some_iff.1 h
  exact⟨by omega,by omega,List.mem_of_getElem? h,h⟩
 .cases h
end
theorem strIdx_ok {s:ByteArray} {i:Int} (h0:0<=i) (h1:i<(s.size:Int)):Ok (jZ s i) (fun v=>0<=v/\v<=255):=by
 unfold jZ;rw[if_pos h0]
 have h:i.toNat<s.data.toList.length:=by rw[Array.length_toList];show i.toNat<s.size;omega
 rw[List.getElem?_eq_getElem h]
 have:=(s.data.toList[i.toNat]).toNat_lt
 exact .mk ⟨by dsimp only;omega,by dsimp only;omega⟩
theorem nm:(∀a b:Bool,((a||b)=true)=(a=true\/b=true))/\(∀a b:Bool,((a&&b)=true)=(a=true/\b=true))/\(∀b:Bool,((!b)=true)=(b=false))/\(∀(p:Prop) [Decidable p],(decide p=true)=p)/\
  (∀(p:Prop) [Decidable p],(decide p=false)=¬p)/\(∀p q:Prop,(¬(p\/q))=(¬p/\¬q))/\(∀p q:Prop,(¬(p/\q))=(p->¬q))/\(∀b:Bool,(¬b=true)=(b=false))/\(∀a b:Int,((a !=b)=true)=¬a=b)/\
  (∀a b:Int,((a==b)=true)=(a=b))/\(∀p:Prop,(¬¬p)=p):=
 ⟨fun a b=>by simp,fun a b=>by simp,fun b=>by simp,fun p _=>by simp,fun p _=>by simp,fun p q=>by simp,fun p q=>by simp,fun b=>by simp,fun a b=>by simp,fun a b=>by simp,fun p=>by simp⟩
theorem nl {A:Type}:(∀(a:A) (l:List A),(a::l).length=l.length+1)/\([]:List A).length=0:=⟨fun _ _=>rfl,rfl⟩
theorem nt:(∀[Decidable True],decide True=true)/\(∀(α:Type) [Decidable True] (a b:α),(if True then a else b)=a)/\∀(α β:Type) (a:α) (f:α->Option β),(some a).bind f=f a:=⟨decide_true _,fun _ _ _ _=>if_true ..,fun _ _ _ _=>rfl⟩
theorem nf:(∀a:Int,(a<a)=False)/\(∀[Decidable False],decide False=false)/\((false=true)=False)/\∀(α:Type) [Decidable False] (a b:α),(if False then a else b)=b:=⟨fun a=>by simp,decide_false _,by simp,fun _ _ _ _=>if_false ..⟩
theorem obT {α β:Type} {Q:α->Prop} {x:Option β} {k:β->Option α} (h:Ok x fun _=>True) (hk:∀v,Ok (k v) Q):Ok (x.bind k) Q:=Ob h fun v _=>hk v
theorem lpT {A S E β:Type} {l:List A} {body:S->Option (S⊕E)} {s0:S} {k:E->Option β} {Q:β->Prop} (a:S->Int) (hl:l.length<9223372036854775808) (h0:a s0=0)
  (h:∀(i:Nat) (x:A) (s:S),x∈l->a s=(i:Int)->a s<(l.length:Int)->lget l (a s)=some x->w64 (a s+1)=(i:Int)+1->Ok (body s) (fun r=>match r with|.inl s'=>a s'=(i:Int)+1|.inr _=>True))
  (b:∀s,a s=(l.length:Int)->Ok (body s) (fun r=>match r with|.inl _=>False|.inr _=>True)) (hk:∀e,Ok (k e) Q):Ok ((aO body B64 s0).bind k) Q:=
 obT (zQ (l:=l) a (fun _ _=>True) hl h0 trivial (fun i x s _ d hi c _ hg hw=>(h i x s d hi c hg hw).mono fun r hr=>by cases r with|inl s'=>exact⟨hr,trivial⟩|inr e=>trivial) (fun s hi _=>b s hi)) hk
theorem len_data {s:ByteArray} {n:Nat} (h:s.size<=n):s.data.toList.length<=n:=by rw[Array.length_toList];exact h
theorem w64_le (n:Int): -9223372036854775808<=w64 n/\w64 n<=9223372036854775807:=by
 have e:w64 n=if n%18446744073709551616>=9223372036854775808 then n%18446744073709551616-18446744073709551616 else n%18446744073709551616:=by
  unfold w64 IntKind.wrap
  rw[show((2:Int)^IntKind.bits .i64)=18446744073709551616 from rfl,show((2:Int)^(IntKind.bits .i64-1))=9223372036854775808 from rfl]
  simp[IntKind.signed]
 rw[e]
 split<;>omega
theorem loop_up {S E:Type} {body:S->Option (S⊕E)} {Q:E->Prop} {s0:S} (d:S->Int) (N:Int) (I:S->Prop) (g:N<=9223372036854775807) (h0: -1000<=d s0) (f:I s0)
  (h:∀s,I s->d s0<=d s->(d s<N->w64 (d s+1)=d s+1)->Ok (body s) (fun r=>match r with|.inl s'=>d s<N/\d s'=d s+1/\I s'|.inr e=>Q e)):Ok (aO body B64 s0) Q:=by
 refine iZ (fun s=>I s/\d s0<=d s) (fun s=>(N-d s).toNat) (fun s hs=>?_) B64 s0 ⟨f,Int.le_refl _⟩ (by simp only[B64];omega)
 refine(h s hs.1 hs.2 (fun hc=>uZ (by omega) (by omega))).mono fun r hr=>?_
 cases r with
 |inl s'=>obtain⟨a,b,c⟩:=hr;exact⟨⟨c,by omega⟩,by omega⟩
 |inr e=>exact hr
theorem wrap8 (n:Int):0<=IntKind.wrap .u8 n/\IntKind.wrap .u8 n<256:=by
 unfold IntKind.wrap
 rw[show((2:Int)^IntKind.bits .u8)=256 from rfl]
 simp[IntKind.signed]
 omega
end Go.P
namespace Go.P
theorem bind_eq {α β:Type} {x:Option α} {a:α} {K:α->Option β} {r:Option β} (h:x=some a) (hk:K a=r):x.bind K=r:=by subst h;exact hk
theorem Ok.eq {α:Type} {x:Option α} {a:α} (h:Ok x (fun v=>v=a)):x=some a:=by
 obtain⟨v,h1,rfl⟩:=h
 exact h1
theorem ite_or (c d:Bool):(if c=true then some true else some d)=some (c||d):=by cases c<;>rfl
theorem ite_and (c d:Bool):(if c=true then some d else some false)=some (c&&d):=by cases c<;>rfl
theorem loop_any {A:Type} {l:List A} {body:Int->Option (Int⊕(Unit⊕Unit))} (p:A->Bool) (hl:l.length<9223372036854775808)
  (h:∀(i:Int) (x:A),0<=i->i<(l.length:Int)->x∈l->lget l i=some x->w64 (i+1)=i+1->body i=some (if p x then .inr (.inl ())else .inl (i+1)))
  (b:body (l.length:Int)=some (.inr (.inr ()))):aO body B64 0=some (if l.any p then .inl ()else .inr ()):=by
 refine Ok.eq (zP (fun x=>p x=false) hl (fun i x h0 h1 c hg hw=>?_) (fun i hi a=>?_))
 .rw [h i x h0 h1 c hg hw]
  cases hp:p x with
  |false=>exact .mk ⟨rfl,rfl⟩
  |true=>
   refine .mk ?_
   have:l.any p=true:=List.any_eq_true.2 ⟨x,c,hp⟩
   rw[this];rfl
 .rw [hi,b]
  refine .mk ?_
  have:l.any p=false:=by rw[List.any_eq_false];intro x c;rw[a x c];exact Bool.false_ne_true
  rw[this];rfl
theorem loop_or {A:Type} {l:List A} {body:Bool×Int->Option ((Bool×Int)⊕Bool)} (p:A->Bool) (hl:l.length<9223372036854775808) (e:Bool)
  (h:∀(b:Bool) (i:Int) (x:A),0<=i->i<(l.length:Int)->x∈l->lget l i=some x->w64 (i+1)=i+1->body (b,i)=some (.inl (b||p x,i+1)))
  (c:∀b,body (b,(l.length:Int))=some (.inr b)):aO body B64 (e,0)=some (e||l.any p):=by
 refine Ok.eq (zQ (l:=l) (fun q=>q.2) (fun i q=>q.1=(e||(l.take i).any p)) hl rfl (by simp) (fun i x q g f hi d a hg hw=>?_) (fun q hi a=>?_))
 .obtain ⟨b,k⟩:=q
  dsimp only at hi d a hg hw
  rw[h b k x (by omega) d f hg (by omega)]
  refine .mk ⟨by dsimp only;omega,?_⟩
  dsimp only
  rw[a,List.take_add_one,g,List.any_append,Bool.or_assoc]
  simp
 .obtain ⟨b,k⟩:=q
  dsimp only at hi a
  subst hi
  rw[c]
  refine .mk ?_
  rw[a,List.take_length]
theorem idx_any {A:Type} {l:List A} {g:A->Option Bool} (p:A->Bool) (hl:l.length<9223372036854775808) (hg:∀x∈l,g x=some (p x)):((idxF l g).bind fun v=>some (decide (v>=0)))=some (l.any p):=by
 obtain⟨v,h1,h2⟩:=fA1 hl (fun x a=>⟨_,hg x a⟩)
 rw[h1,Option.bind_some]
 rcases h2 with⟨rfl,h⟩|⟨h0,_,x,a,hp⟩
 .have:l.any p=false:=by
   rw[List.any_eq_false]
   intro x a
   have:=h x a
   rw[hg x a]at this
   rw[Option.some.inj this]
   exact Bool.false_ne_true
  rw[this];rfl
 .have b:=List.mem_of_getElem? a
  rw[hg x b]at hp
  have:l.any p=true:=List.any_eq_true.2 ⟨x,b,Option.some.inj hp⟩
  rw[this,decide_eq_true (show v>=0 from h0)]
section
variable {K V:Type} [DecidableEq K]
theorem jT (k:K):∀(l:List (K×V)) (i:Nat),iX k l (i+1)=(iX k l i).map fun p=>(p.1+1,p.2)
 |[],i=>rfl
 |p::r,i=>by
  simp only[iX]
  by_cases e:k=p.1
  .rw [if_pos e,if_pos e];rfl
  .rw [if_neg e,if_neg e];exact jT k r (i+1)
theorem jA (p:K×V) (r:List (K×V)) (k:K) (z:V):mget (p::r) k z=if k=p.1 then p.2 else mget r k z:=by
 unfold mget
 simp only[iX]
 by_cases e:k=p.1
 .rw [if_pos e,if_pos e]
 .rw [if_neg e,if_neg e,jT]
  cases iX k r 0<;>rfl
theorem zR (p:K×V) (r:List (K×V)) (k:K) (x:V):mput (p::r) k x=if k=p.1 then(k,x)::r else p::mput r k x:=by
 unfold mput
 simp only[iX]
 by_cases e:k=p.1
 .rw [if_pos e,if_pos e];rfl
 .rw [if_neg e,if_neg e,jT]
  cases iX k r 0<;>rfl
theorem zS (k b:K) (x z:V):∀l:List (K×V),mget (mput l k x) b z=if b=k then x else mget l b z
 |[]=>by
  show mget ([]++[(k,x)]) b z=_
  rw[List.nil_append,jA]
 |p::r=>by
  rw[zR,jA]
  by_cases e:k=p.1
  .rw [if_pos e,jA]
   by_cases a:b=k
   .rw [if_pos a,if_pos a]
   .rw [if_neg a,if_neg a,if_neg (fun h=>a (h.trans e.symm))]
  .rw [if_neg e,jA,zS k b x z r]
   by_cases a:b=p.1
   .rw [if_pos a,if_pos a,if_neg (fun h=>e (h.symm.trans a))]
   .rw [if_neg a,if_neg a]
end
end Go.P
namespace Go.P
structure Zy.b (x:Zy):Prop where
 Text:x.Text.size<9223372036854775808
structure Ze.b (x:Ze):Prop where
 Heads:x.Heads.length<9223372036854775808
 Graces:x.Graces.length<9223372036854775808
 Lyrics:x.Lyrics.length<9223372036854775808
 LyricsE:∀y∈x.Lyrics,y.b
structure Zo.b (x:Zo):Prop where
 Events:x.Events.length<9223372036854775808
 EventsE:∀y∈x.Events,y.b
 Tuplets:x.Tuplets.length<9223372036854775808
structure Zw.b (x:Zw):Prop where
 Clefs:x.Clefs.length<9223372036854775808
 Voices:x.Voices.length<9223372036854775808
 VoicesE:∀y∈x.Voices,y.b
structure Zm.b (x:Zm):Prop where
 Rehearsal:x.Rehearsal.size<9223372036854775808
 Tempi:x.Tempi.length<9223372036854775808
 Cells:x.Cells.length<9223372036854775808
 CellsE:∀y∈x.Cells,y.b
structure Zj.b (x:Zj):Prop where
 Name:x.Name.size<9223372036854775808
 Staves:x.Staves.length<9223372036854775808
structure Z0.b (x:Z0):Prop where
 Title:x.Title.size<9223372036854775808
 Parts:x.Parts.length<9223372036854775808
 PartsE:∀y∈x.Parts,y.b
 Measures:x.Measures.length<9223372036854775808
 MeasuresE:∀y∈x.Measures,y.b
 Spanners:x.Spanners.length<9223372036854775808
 Last:x.Last.length<9223372036854775808
end Go.P
set_option maxHeartbeats 1000000
namespace Go.P
theorem eqOk {α:Type} {x:Option α} {a:α} (h:Ok x (fun v=>v=a)):x=some a:=by
 obtain⟨v,rfl,rfl⟩:=h;rfl
def bn (x:aG):aG:=aG.mk x.On x.Off x.Number 0 0 0 (Zz.mk 0 0) 0
def Bare (x:aG):Prop:=bn x=x
theorem bn_bare (x:aG):Bare (bn x):=rfl
def ltN (x y:aG):Prop:=x.On<y.On\/(x.On=y.On/\(x.Number<y.Number\/(x.Number=y.Number/\x.Off<y.Off)))
def leN (x y:aG):Prop:=¬ltN y x
theorem leN_trans {x y z:aG} (h1:leN x y) (h2:leN y z):leN x z:=by
 unfold leN ltN at *;omega
theorem leN_of {x y:aG} (h:ltN x y):leN x y:=by
 unfold leN ltN at *;omega
theorem leN_anti {x y:aG} (a:Bare x) (hy:Bare y) (h1:leN x y) (h2:leN y x):x=y:=by
 have e:x.On=y.On/\x.Number=y.Number/\x.Off=y.Off:=by unfold leN ltN at *;omega
 rw[<-a,<-hy]
 unfold bn
 rw[e.1,e.2.1,e.2.2]
theorem uniq {l m:List aG} (hl:∀x∈l,Bare x) (d:∀x∈m,Bare x) (h1:l.Pairwise leN) (h2:m.Pairwise leN) (hp:l.Perm m):l=m:=
 List.Perm.eq_of_pairwise (fun a b c hb=>leN_anti (hl a c) (d b hb)) h1 h2 hp
def sgI (a b:Int):Int:=if a<b then -1 else if b<a then 1 else 0
theorem F41_eq (a b:Int):F41 a b=some (sgI a b):=by
 unfold F41 F65 sgI
 simp only[bne_self_eq_false,Option.bind_some,Bool.false_eq_true,if_false,decide_eq_true_eq]
 split
 .rfl
 .split<;>rfl
def fz1:List Int->Int
 |[]=>0
 |a::r=>if a=0 then fz1 r else a
theorem F40_eq {l:List Int} (hl:l.length<1000):F40 l=some (fz1 l):=by
 refine eqOk ?_
 unfold F40
 refine Ob (P:=fun r=>match r with|.inl v=>v=fz1 l|.inr _=>0=fz1 l) (zQ (l:=l) (fun q=>q) (fun i _=>fz1 (l.drop i)=fz1 l) (by omega) rfl rfl (fun i e q d f hi b a hg hw=>?_) (fun q hi a=>?_)) fun r hr=>?_
 .rw [hi]at hg b hw ⊢
  obtain⟨c,rfl⟩:=List.getElem?_eq_some_iff.1 d
  rw[if_pos (by simpa using b),hg]
  simp only[Option.bind_some]
  rw[List.drop_eq_getElem_cons c,fz1]at a
  by_cases h0:l[i]=0
  .rw [if_pos h0]at a
   rw[if_neg (by simpa using h0),hw]
   exact .mk ⟨rfl,a⟩
  .rw [if_neg h0]at a
   rw[if_pos (by simpa using h0)]
   exact .mk a
 .rw [hi,if_neg (by simp)]
  rw[List.drop_length]at a
  exact .mk a
 .rcases r with v|_
  .exact .mk hr
  .exact .mk hr
theorem F31_lt {x y:aG} (a:Bare x) (hy:Bare y):∃v,F31 x y=some v/\(v<0↔ltN x y):=by
 rw[<-a,<-hy]
 unfold F31
 simp only[F41_eq,Option.bind_some,bn]
 rw[F40_eq (by simp)]
 refine⟨_,rfl,?_⟩
 simp only[fz1,sgI,ltN,Int.lt_irrefl,if_false,if_true]
 repeat' split
 all_goals omega
def cmpL:List Int->List Int->Int
 |a::as,b::bs=>if a<b then -1 else if a>b then 1 else cmpL as bs
 |_,_=>0
theorem lidx_at {A:Type} {l:List A} {i:Nat} (h:i<l.length):lidx l (i:Int)=some i:=by
 unfold lidx sP
 rw[if_pos ⟨by omega,by omega⟩,Int.toNat_natCast]
theorem F32_eq (x y:aG):F32 x y=some (cmpL [x.On,x.Number,x.Part,x.Staff,x.Voice,x.Off,x.Event.Site,x.Event.Number,x.Head] [y.On,y.Number,y.Part,y.Staff,y.Voice,y.Off,y.Event.Site,y.Event.Number,y.Head]):=by
 refine eqOk ?_
 unfold F32
 generalize hA:[x.On,x.Number,x.Part,x.Staff,x.Voice,x.Off,x.Event.Site,x.Event.Number,x.Head]=A
 generalize hB:[y.On,y.Number,y.Part,y.Staff,y.Voice,y.Off,y.Event.Site,y.Event.Number,y.Head]=B
 have f:A.length=9:=by rw[<-hA];rfl
 have g:B.length=9:=by rw[<-hB];rfl
 refine Ob (P:=fun r=>match r with|.inl v=>v=cmpL A B|.inr _=>0=cmpL A B) (zQ (l:=A) (fun q=>q) (fun i _=>cmpL (A.drop i) (B.drop i)=cmpL A B) (by omega) rfl rfl (fun i e q h j hi d a hg hw=>?_) (fun q hi a=>?_)) fun r hr=>?_
 .rw [hi]at hg d hw ⊢
  obtain⟨b,rfl⟩:=List.getElem?_eq_some_iff.1 h
  have c:i<B.length:=by omega
  rw[if_pos (by simpa using d),lidx_at b,lidx_at c]
  simp only[Option.bind_some]
  rw[show lnth A i=some A[i]from List.getElem?_eq_getElem b,show lnth B i=some B[i]from List.getElem?_eq_getElem c]
  simp only[Option.bind_some]
  rw[List.drop_eq_getElem_cons b,List.drop_eq_getElem_cons c,cmpL]at a
  by_cases h1:A[i]<B[i]
  .rw [if_pos h1]at a
   rw[if_pos (by simpa using h1)]
   exact .mk a
  .rw [if_neg h1]at a
   rw[if_neg (by simpa using h1)]
   by_cases h2:A[i]>B[i]
   .rw [if_pos h2]at a
    rw[if_pos (by simpa using h2)]
    exact .mk a
   .rw [if_neg h2]at a
    rw[if_neg (by simpa using h2),hw]
    exact .mk ⟨rfl,a⟩
 .rw [hi,if_neg (by simp)]
  rw[List.drop_length]at a
  exact .mk (by simpa[cmpL]using a)
 .rcases r with v|_
  .exact .mk hr
  .exact .mk hr
theorem F32_lt {x y:aG} (a:Bare x) (hy:Bare y):∃v,F32 x y=some v/\(v>0↔ltN y x):=by
 rw[<-a,<-hy,F32_eq]
 refine⟨_,rfl,?_⟩
 simp only[bn,cmpL,ltN,Int.lt_irrefl,gt_iff_lt,if_false]
 repeat' split
 all_goals omega
theorem lapp_eq {A:Type} {l m:List A} (h:l.length+m.length<1000000):lapp false l m=some (l++m):=by
 have e:Sim.maxRoom=1073741824:=rfl
 unfold lapp
 rw[if_pos ⟨by rw[e];omega,fun h=>by cases h⟩]
theorem lget_nat {A:Type} {l:List A} {i:Nat} (h:i<l.length):lget l (i:Int)=some l[i]:=by
 unfold lget
 rw[if_pos (by omega),Int.toNat_natCast]
 exact List.getElem?_eq_getElem h
theorem F19_ok {l:List aG} {x:aG} (hl:l.length<1000) (hb:∀y∈l,Bare y) (t:Bare x) (hs:l.Pairwise leN):Ok (F19 l x) (fun r=>r.Perm (x::l)/\r.Pairwise leN):=by
 unfold F19
 refine Ob (P:=fun at'=>∃k:Nat,at'=(k:Int)/\k<=l.length/\(∀q (h:q<l.length),k<=q->ltN x l[q])/\∀(h:k-1<l.length),0<k->leN l[k-1] x) (iZ (fun(q:Int)=>∃k:Nat,q=(k:Int)/\k<=l.length/\∀p (h:p<l.length),k<=p->ltN x l[p]) (fun(q:Int)=>q.toNat) (fun q o=>?_) B64 (l.length:Int) ⟨l.length,rfl,Nat.le_refl _,fun p h h2=>by omega⟩ (by simp only[B64];omega)) fun r hr=>?_
 .obtain ⟨k,rfl,h1,h2⟩:=o
  by_cases h0:(k:Int)>0
  .rw [if_pos (by simpa using h0),uZ (n:=(k:Int)-1) (by omega) (by omega),show(k:Int)-1=((k-1:Nat):Int)by omega]
   have hk:k-1<l.length:=by omega
   rw[lget_nat hk]
   simp only[Option.bind_some]
   obtain⟨v,hv,c⟩:=F32_lt (hb _ (List.getElem_mem hk)) t
   rw[hv]
   simp only[Option.bind_some]
   by_cases hc:v>0
   .rw [if_pos (by simpa using hc)]
    refine .mk ⟨⟨k-1,rfl,by omega,fun p h hp=>?_⟩,by omega⟩
    by_cases e:p=k-1
    .subst e;exact c.1 hc
    .exact h2 p h (by omega)
   .rw [if_neg (by simpa using hc)]
    exact .mk ⟨k,rfl,h1,h2,fun _ _ g=>hc (c.2 g)⟩
  .rw [if_neg (by simpa using h0)]
   simp only[Option.bind_some,Bool.false_eq_true,if_false]
   exact .mk ⟨k,rfl,h1,h2,fun _ g=>by omega⟩
 .obtain ⟨k,rfl,h1,h2,d⟩:=hr
  have j:gA l 0 (k:Int)=some (l.take k):=by
   unfold gA
   rw[if_pos ⟨by omega,by omega,by omega⟩]
   simp
  have m:gA l (k:Int) (l.length:Int)=some (l.drop k):=by
   unfold gA
   rw[if_pos ⟨by omega,by omega,by omega⟩]
   simp only[Int.toNat_natCast]
   rw[List.take_of_length_le (by simp)]
  rw[j]
  simp only[Option.bind_some]
  rw[lapp_eq (by simp;omega)]
  simp only[Option.bind_some,List.nil_append]
  rw[lapp_eq (by simp;omega)]
  simp only[Option.bind_some]
  rw[m]
  simp only[Option.bind_some]
  rw[lapp_eq (by simp;omega)]
  refine .mk ⟨?_,?_⟩
  .have:=List.perm_middle (a:=x) (l₁:=l.take k) (l₂:=l.drop k)
   rw[List.take_append_drop]at this
   simpa using this
  .rw [List.append_assoc,List.pairwise_append]
   have b:=hs
   rw[<-List.take_append_drop k l,List.pairwise_append]at b
   have hd:∀y∈l.drop k,ltN x y:=fun y hy=>by
    obtain⟨i,hi,rfl⟩:=List.mem_iff_getElem.1 hy
    rw[List.getElem_drop]
    exact h2 _ _ (by omega)
   have s:∀y∈l.take k,leN y x:=fun y hy=>by
    obtain⟨i,hi,rfl⟩:=List.mem_iff_getElem.1 hy
    rw[List.length_take]at hi
    rw[List.getElem_take]
    have d:=d (by omega) (by omega)
    by_cases he:i=k-1
    .subst he;exact d
    .exact leN_trans (List.pairwise_iff_getElem.1 hs i (k-1) (by omega) (by omega) (by omega)) d
   refine⟨b.1,?_,fun y hy z f=>?_⟩
   .rw [List.singleton_append,List.pairwise_cons]
    exact⟨fun y hy=>leN_of (hd y hy),b.2.1⟩
   .rcases List.mem_cons.1 f with rfl|f
    .exact s y hy
    .exact b.2.2 y hy z f
def Srt (l:List aG) (i j:Nat):Prop:=∀p q (hp:p<l.length) (a:q<l.length),p<q->q<=i->q≠j->leN l[p] l[q]
theorem swap_get {l:List aG} {j:Nat} (b:j<l.length) (h0:0<j) {p:Nat} (hp:p<((l.set j l[j-1]).set (j-1) l[j]).length) (a:p<l.length):
  ((l.set j l[j-1]).set (j-1) l[j])[p]=if p=j-1 then l[j]else if p=j then l[j-1]else l[p]:=by
 rw[List.getElem_set,List.getElem_set]
 by_cases h1:p=j-1
 .rw [if_pos h1.symm,if_pos h1]
 .rw [if_neg (fun h=>h1 h.symm),if_neg h1]
  by_cases h2:p=j
  .rw [if_pos h2.symm,if_pos h2]
  .rw [if_neg (fun h=>h2 h.symm),if_neg h2]
theorem Srt.swap {l:List aG} {i j:Nat} (hs:Srt l i j) (d:j<l.length) (m:j<=i) (h0:0<j) (e:ltN l[j] l[j-1]):Srt ((l.set j l[j-1]).set (j-1) l[j]) i (j-1):=by
 intro p q hp k f c g
 have b:p<l.length:=by simpa using hp
 have a:q<l.length:=by simpa using k
 rw[swap_get d h0 hp b,swap_get d h0 k a,if_neg g]
 by_cases h1:q=j
 .subst h1
  rw[if_pos rfl]
  by_cases h2:p=q-1
  .rw [if_pos h2];exact leN_of e
  .rw [if_neg h2,if_neg (by omega)]
   exact hs p (q-1) b (by omega) (by omega) (by omega) (by omega)
 .rw [if_neg h1]
  by_cases h2:p=j-1
  .rw [if_pos h2]
   exact hs j q d a (by omega) c h1
  .rw [if_neg h2]
   by_cases h:p=j
   .rw [if_pos h]
    exact hs (j-1) q (by omega) a (by omega) c h1
   .rw [if_neg h]
    exact hs p q b a f c h1
theorem Fn115_ok {l:List aG} {n:Nat} (M:n<=l.length) (hl:l.length<1000) (hb:∀y∈l,Bare y):Ok (Fn115 0 (n:Int) l) (fun r=>r.Perm l/\r.length=l.length/\∀p q (hp:p<r.length) (b:q<r.length),p<q->q<n->leN r[p] r[q]):=by
 unfold Fn115
 refine Ob (P:=fun r=>r.Perm l/\r.length=l.length/\∀p q (hp:p<r.length) (b:q<r.length),p<q->q<n->leN r[p] r[q]) (iZ (fun(q:Int×List aG)=>∃i:Nat,q.1=(i:Int)/\1<=i/\(i<=n\/n=0/\i=1)/\q.2.Perm l/\∀p s (hp:p<q.2.length) (b:s<q.2.length),p<s->s<i->leN q.2[p] q.2[s]) (fun(q:Int×List aG)=>(1000-q.1).toNat) (fun q b=>?_) B64 (w64 (0+1),l) ⟨1,rfl,Nat.le_refl _,by omega,List.Perm.refl _,fun p s _ _ h1 h2=>by omega⟩ (by show(1000-w64 (0+1)).toNat<B64;decide)) fun r hr=>.mk hr
 obtain⟨k,c⟩:=q
 obtain⟨i,h1,h2,L,x,z⟩:=b
 dsimp only at h1 x z ⊢
 subst h1
 have A:=x.length_eq
 by_cases t:(i:Int)<(n:Int)
 .rw [if_pos (by simpa using t)]
  have hi:i<c.length:=by omega
  refine Ob (P:=fun r=>r.Perm l/\∀p s (hp:p<r.length) (b:s<r.length),p<s->s<i+1->leN r[p] r[s]) (iZ (fun(q:Int×List aG)=>∃j:Nat,q.1=(j:Int)/\j<=i/\q.2.Perm l/\Srt q.2 i j) (fun(q:Int×List aG)=>q.1.toNat) (fun q b=>?_) B64 ((i:Int),c) ⟨i,rfl,Nat.le_refl _,x,fun p q hp b C H J=>z p q hp b C (by omega)⟩ (by simp only[B64];omega)) fun r hr=>?_
  .obtain ⟨N,d⟩:=q
   obtain⟨j,E,g2,g,m⟩:=b
   dsimp only at E g m ⊢
   subst E
   have F:=g.length_eq
   have o:∀y∈d,Bare y:=fun y hy=>hb y (g.mem_iff.1 hy)
   have h:j<d.length:=by omega
   by_cases h0:(j:Int)>0
   .have a:j-1<d.length:=by omega
    rw[if_pos (by simpa using h0),uZ (n:=(j:Int)-1) (by omega) (by omega),show(j:Int)-1=((j-1:Nat):Int)by omega,lidx_at h,lidx_at a]
    simp only[Option.bind_some]
    rw[show lnth d j=some d[j]from List.getElem?_eq_getElem h,show lnth d (j-1)=some d[j-1]from List.getElem?_eq_getElem a]
    simp only[Option.bind_some]
    obtain⟨v,hv,w⟩:=F31_lt (o _ (List.getElem_mem h)) (o _ (List.getElem_mem a))
    rw[hv]
    simp only[Option.bind_some]
    by_cases hc:v<0
    .rw [if_pos (by simpa using hc)]
     have p1:lput d j (fun _=>d[j-1])=some (d.set j d[j-1]):=by
      unfold lput;rw[List.getElem?_eq_getElem h];rfl
     rw[p1]
     simp only[Option.bind_some]
     rw[lidx_at (l:=d.set j d[j-1]) (i:=j-1) (by simpa using a)]
     simp only[Option.bind_some]
     have p2:lput (d.set j d[j-1]) (j-1) (fun _=>d[j])=some ((d.set j d[j-1]).set (j-1) d[j]):=by
      unfold lput;rw[List.getElem?_eq_getElem (by simpa using a)];rfl
     rw[p2]
     simp only[Option.bind_some]
     refine .mk ⟨⟨j-1,rfl,by omega,(List.set_set_perm h a).trans g,m.swap h g2 (by omega) (w.1 hc)⟩,by dsimp only;omega⟩
    .rw [if_neg (by simpa using hc)]
     refine .mk ⟨g,fun p s hp b f D=>?_⟩
     by_cases u:s=j
     .subst u
      have e:leN d[s-1] d[s]:=fun G=>hc (w.2 G)
      by_cases B:p=s-1
      .subst B;exact e
      .exact leN_trans (m p (s-1) hp a (by omega) (by omega) (by omega)) e
     .exact m p s hp b f (by omega) u
   .rw [if_neg (by simpa using h0)]
    simp only[Option.bind_some,Bool.false_eq_true,if_false]
    exact .mk ⟨g,fun p s hp b f D=>m p s hp b f (by omega) (by omega)⟩
  .rw [uZ (n:=(i:Int)+1) (by omega) (by omega)]
   exact .mk ⟨⟨i+1,by simp,by omega,.inl (by omega),hr.1,hr.2⟩,by dsimp only;omega⟩
 .rw [if_neg (by simpa using t)]
  exact .mk ⟨x,A,fun p s hp b f K=>z p s hp b f (by omega)⟩
theorem Fn115_id {l:List aG} {n:Int} (b:n<=20):Fn115 20 n l=some l:=by
 refine eqOk ?_
 unfold Fn115
 refine Ob (P:=fun r=>r=l) (iZ (fun(q:Int×List aG)=>q=(21,l)) (fun _=>0) (fun q a=>?_) B64 (w64 (20+1),l) rfl (by decide)) fun r hr=>.mk hr
 subst a
 dsimp only
 rw[if_neg (by simp;omega)]
 exact .mk rfl
def Sd (r l:List aG):Prop:=r.Perm l/\r.Pairwise leN
theorem sd_of {r l:List aG} {n:Nat} (h1:r.Perm l) (h2:r.length=l.length) (d:l.length<=n) (b:∀p q (hp:p<r.length) (e:q<r.length),p<q->q<n->leN r[p] r[q]):Sd r l:=
 ⟨h1,List.pairwise_iff_getElem.2 (fun i j hi c a=>b i j hi c a (by omega))⟩
theorem Fn64_ok {l:List aG} (hl:l.length<=20) (hb:∀y∈l,Bare y):Ok (Fn64 (l.length:Int) l) (fun r=>Sd r l):=by
 unfold Fn64
 refine Ob (P:=fun r=>(r=(0,l)/\l.length<20)\/(r.1=20/\Sd r.2 l)) (iZ (fun(q:Int×Int×List aG)=>q=(0,20,l)\/(q.1=20/\q.2.1=40/\Sd q.2.2 l)) (fun(q:Int×Int×List aG)=>(60-q.2.1).toNat) (fun q d=>?_) B64 (0,20,l) (.inl rfl) (by show(60-(20:Int)).toNat<B64;decide)) fun r hr=>?_
 .rcases d with rfl|⟨h1,h2,h3⟩
  .dsimp only
   by_cases hc:(20:Int)<=(l.length:Int)
   .rw [if_pos (by simpa using hc)]
    have e:l.length=20:=by omega
    refine Ob (Fn115_ok (n:=20) (l:=l) (by omega) (by omega) hb) fun r hr=>?_
    refine .mk ⟨.inr ⟨rfl,rfl,sd_of hr.1 hr.2.1 (by omega) hr.2.2⟩,by show(60-w64 (20+20)).toNat<(60-(20:Int)).toNat;decide⟩
   .rw [if_neg (by simpa using hc)]
    exact .mk (.inl ⟨rfl,by omega⟩)
  .obtain ⟨a,b,c⟩:=q
   dsimp only at h1 h2 h3 ⊢
   subst h1 h2
   rw[if_neg (by simp;omega)]
   exact .mk (.inr ⟨rfl,h3⟩)
 .obtain ⟨a,c⟩:=r
  dsimp only
  refine Ob (P:=fun r=>Sd r l) ?_ fun r hr=>?_
  .rcases hr with⟨h1,h2⟩|⟨h1,h2⟩
   .cases h1
    exact(Fn115_ok (n:=l.length) (l:=l) (Nat.le_refl _) (by omega) hb).mono fun r hr=>sd_of hr.1 hr.2.1 (Nat.le_refl _) hr.2.2
   .dsimp only at h1 h2
    subst h1
    rw[Fn115_id (by omega)]
    exact .mk h2
  .refine Ob (P:=fun _=>True) (iZ (fun(_:Unit)=>True) (fun _=>0) (fun q d=>?_) B64 () trivial (by decide)) fun _ _=>.mk hr
   rw[if_neg (by simp;omega)]
   exact .mk trivial
theorem Fn39_eq {l:List aG} (hl:l.length<1000):Fn39 [] l=some l:=by
 refine eqOk ?_
 unfold Fn39
 refine Ob (P:=fun r=>r=l) (zQ (l:=l) (fun(q:Int×List aG)=>q.1) (fun(i:Nat) (q:Int×List aG)=>q.2=l.take i) (by omega) rfl rfl (fun i e q d f hi b a hg hw=>?_) (fun q hi a=>?_)) fun r hr=>.mk hr
 .obtain ⟨k,o⟩:=q
  dsimp only at hi b a hg hw ⊢
  subst hi a
  obtain⟨c,rfl⟩:=List.getElem?_eq_some_iff.1 d
  rw[if_pos (by simpa using b),lidx_at c]
  simp only[Option.bind_some]
  rw[show lnth l i=some l[i]from d]
  simp only[Option.bind_some]
  unfold Fy63_4
  rw[lapp_eq (by simp;omega)]
  refine .mk ⟨hw,?_⟩
  dsimp only
  rw[List.take_add_one,d]
  rfl
 .obtain ⟨k,o⟩:=q
  dsimp only at hi a ⊢
  rw[hi,if_neg (by simp)]
  exact .mk (by rw[a,List.take_length])
theorem map_take_succ {l:List aG} {i:Nat} (hi:i<l.length):(l.take (i+1)).map bn=(l.take i).map bn++[bn l[i]]:=by
 rw[List.take_add_one,List.getElem?_eq_getElem hi,List.map_append]
 rfl
theorem bare_map {l:List aG}:∀y∈l.map bn,Bare y:=fun y hy=>by
 obtain⟨x,_,rfl⟩:=List.mem_map.1 hy
 exact bn_bare x
theorem F16_ok {l:List aG} (hl:l.length<=20):Ok (F16 l) (fun r=>Sd r (l.map bn)):=by
 unfold F16
 refine Ob (P:=fun r=>r=l.map bn) (zQ (l:=l) (fun(q:Int×List aG)=>q.1) (fun(i:Nat) (q:Int×List aG)=>q.2=(l.take i).map bn) (by omega) rfl rfl (fun i e q d f hi b a hg hw=>?_) (fun q hi a=>?_)) fun r hr=>?_
 .obtain ⟨k,o⟩:=q
  dsimp only at hi b a hg hw ⊢
  subst hi a
  obtain⟨c,rfl⟩:=List.getElem?_eq_some_iff.1 d
  rw[if_pos (by simpa using b),hg]
  simp only[Option.bind_some]
  rw[lapp_eq (by simp;omega)]
  exact .mk ⟨hw,(map_take_succ c).symm⟩
 .obtain ⟨k,o⟩:=q
  dsimp only at hi a ⊢
  rw[hi,if_neg (by simp)]
  exact .mk (by rw[a,List.take_length])
 .subst hr
  refine Ob (P:=fun r=>Sd r (l.map bn)) ?_ fun r hr=>.mk hr
  unfold Fn17 Fn29 Fn37 Fn63 Fn30
  simp only[Option.bind_some]
  rw[Fn39_eq (by simp;omega)]
  simp only[Option.bind_some]
  refine Ob (P:=fun r=>Sd r (l.map bn)) ?_ fun r hr=>.mk hr
  unfold Fn38
  exact Ob (P:=fun r=>Sd r (l.map bn)) (Ob (Fn64_ok (by simpa using hl) bare_map) fun r hr=>.mk hr) fun r hr=>.mk hr
theorem ins_loop {l:List aG} (hl:l.length<=20) {body:List aG×Int->Option ((List aG×Int)⊕List aG)}
  (h:∀(o:List aG) (i:Nat) (hi:i<l.length),w64 ((i:Int)+1)=(i:Int)+1->body (o,(i:Int))=(F19 o (bn l[i])).bind fun r=>some (.inl (r,(i:Int)+1)))
  (b:∀o,body (o,(l.length:Int))=some (.inr o)):Ok (aO body B64 ([],0)) (fun r=>Sd r (l.map bn)):=by
 refine zQ (l:=l) (fun(q:List aG×Int)=>q.2) (fun(i:Nat) (q:List aG×Int)=>Sd q.1 ((l.take i).map bn)) (by omega) rfl ⟨List.Perm.refl _,List.Pairwise.nil⟩ (fun i e q f g hi d a hg hw=>?_) (fun q hi a=>?_)
 .obtain ⟨o,k⟩:=q
  dsimp only at hi d a hg hw ⊢
  subst hi
  obtain⟨c,rfl⟩:=List.getElem?_eq_some_iff.1 f
  rw[h o i c hw]
  have hlen:=a.1.length_eq
  simp only[List.length_map,List.length_take]at hlen
  refine Ob (F19_ok (by omega) (fun y hy=>bare_map y (a.1.mem_iff.1 hy)) (bn_bare _) a.2) fun r hr=>?_
  refine .mk ⟨rfl,?_,hr.2⟩
  rw[map_take_succ c]
  exact hr.1.trans ((List.Perm.cons _ a.1).trans (List.perm_append_singleton _ _).symm)
 .obtain ⟨o,k⟩:=q
  dsimp only at hi a ⊢
  subst hi
  rw[b]
  rw[List.take_length]at a
  exact .mk a
theorem F18_ok {l m:List aG} (hl:l.length<1000):Ok (F18 l m) (fun b=>l=m->b=true):=by
 unfold F18
 by_cases hlen:l.length=m.length
 .rw [if_neg (by simp[hlen])]
  refine Ob (P:=fun r=>match r with|.inl _=>l≠m|.inr _=>True) (zQ (l:=l) (fun q=>q) (fun _ _=>True) (by omega) rfl trivial (fun i e q d f hi a _ hg hw=>?_) (fun q hi _=>?_)) fun r hr=>?_
  .rw [hi]at hg a hw ⊢
   obtain⟨c,rfl⟩:=List.getElem?_eq_some_iff.1 d
   rw[if_pos (by simpa using a),hg,lget_nat (l:=m) (i:=i) (by omega)]
   simp only[Option.bind_some]
   split
   .rename_i hc
    refine .mk (fun he=>?_)
    subst he
    simp at hc
   .rw [hw]
    exact .mk ⟨rfl,trivial⟩
  .rw [hi,if_neg (by simp)]
   exact .mk trivial
  .rcases r with _|_
   .exact .mk (fun he=>absurd he hr)
   .exact .mk (fun _=>rfl)
 .rw [if_pos (by simp;omega)]
  exact .mk (fun he=>absurd (congrArg List.length he) hlen)
theorem F9_18 (l m:List aG):F9 l m=F18 l m:=by
 unfold F9 F18;rfl
theorem sd_eq {r r' l l':List aG} (h:Sd r (l.map bn)) (h':Sd r' (l'.map bn)) (hp:(l.map bn).Perm (l'.map bn)):r=r':=
 uniq (fun x a=>bare_map x (h.1.mem_iff.1 a)) (fun x a=>bare_map x (h'.1.mem_iff.1 a)) h.2 h'.2 (h.1.trans (hp.trans h'.1.symm))
theorem F8_7 {l m:List aG} (hl:l.length<=20) (e:m.length<=20):∃v,F7 l m=some v/\F8 l m=some v:=by
 obtain⟨a,f,c⟩:=F16_ok hl
 obtain⟨b,hb,d⟩:=F16_ok e
 obtain⟨v,hv,_⟩:=F18_ok (l:=a) (m:=b) (by have:=c.1.length_eq;simp at this;omega)
 refine⟨v,?_,?_⟩
 .unfold F7;rw[f,hb]
  simp only[Option.bind_some,hv]
 .unfold F8
  refine eqOk (Ob (P:=fun r=>r=a) ((ins_loop hl (fun o i hi hw=>?_) (fun o=>?_)).mono fun r hr=>sd_eq hr c (List.Perm.refl _)) fun r hr=>?_)
  .dsimp only
   rw[if_pos (by simp;omega),lget_nat hi]
   simp only[Option.bind_some,F5,hw]
   rfl
  .dsimp only
   rw[if_neg (by simp)]
  .subst hr
   refine Ob (P:=fun s=>s=b) ((ins_loop e (fun o i hi hw=>?_) (fun o=>?_)).mono fun s hs=>sd_eq hs d (List.Perm.refl _)) fun s hs=>?_
   .dsimp only
    rw[if_pos (by simp;omega),lget_nat hi]
    simp only[Option.bind_some,F5,hw]
    rfl
   .dsimp only
    rw[if_neg (by simp)]
   .subst hs
    rw[F9_18,hv]
    exact .mk rfl
theorem F7_t {l m:List aG} (hl:l.length<=20) (g:m.length<=20) (hp:(l.map bn).Perm (m.map bn)):F7 l m=some true:=by
 obtain⟨a,f,c⟩:=F16_ok hl
 obtain⟨b,hb,d⟩:=F16_ok g
 obtain⟨v,hv,e⟩:=F18_ok (l:=a) (m:=b) (by have:=c.1.length_eq;simp at this;omega)
 unfold F7;rw[f,hb]
 simp only[Option.bind_some,hv]
 rw[e (sd_eq c d hp)]
theorem cut20 {l:List aG} (h:l.length<9223372036854775808):gA l 0 (if 20<(l.length:Int)then 20 else(l.length:Int))=some (l.take 20):=by
 unfold gA
 by_cases hc:20<(l.length:Int)
 .rw [if_pos hc,if_pos ⟨by omega,by omega,by omega⟩];rfl
 .rw [if_neg hc,if_pos ⟨by omega,by omega,by omega⟩]
  simp only[Int.toNat_natCast,Int.toNat_zero,List.drop_zero,Nat.sub_zero]
  rw[List.take_of_length_le (Nat.le_refl _),List.take_of_length_le (by omega)]
theorem law3 {c d:List aG} (h1:c.length<9223372036854775808) (h2:d.length<9223372036854775808):F3 c d=some true:=by
 unfold F3
 rw[cut20 h1,cut20 h2]
 simp only[Option.bind_some]
 have hl:(c.take 20).length<=20:=by rw[List.length_take];omega
 have b:(d.take 20).length<=20:=by rw[List.length_take];omega
 generalize c.take 20=l at hl ⊢
 generalize d.take 20=m at b ⊢
 refine eqOk (Ob (P:=fun r=>(r.map bn).Perm (l.map bn)/\r.length=l.length) (iZ (fun(q:Int×List aG)=>∃k:Nat,q.1=(k:Int)-1/\k<=l.length/\(q.2.map bn).Perm ((l.drop k).map bn)/\q.2.length=l.length-k) (fun(q:Int×List aG)=>(q.1+1).toNat) (fun q s=>?_) B64 (w64 ((l.length:Int)-1),[]) ⟨l.length,by show w64 _=_;rw[uZ (by omega) (by omega)],Nat.le_refl _,by simp,by simp⟩ (by show(w64 ((l.length:Int)-1)+1).toNat<B64;rw[uZ (by omega) (by omega)];simp only[B64];omega)) fun r hr=>?_)
 .obtain ⟨j,o⟩:=q
  obtain⟨k,f,g2,e,p⟩:=s
  dsimp only at f e p ⊢
  subst f
  by_cases hk:(k:Int)-1>=0
  .have a:k-1<l.length:=by omega
   rw[if_pos (by simpa using hk),show(k:Int)-1=((k-1:Nat):Int)by omega,lget_nat a]
   simp only[Option.bind_some,F5]
   rw[lapp_eq (by simp;omega),uZ (by omega) (by omega)]
   refine .mk ⟨⟨k-1,rfl,by omega,?_,by simp;omega⟩,by dsimp only;omega⟩
   dsimp only
   rw[List.drop_eq_getElem_cons a,show k-1+1=k by omega,List.map_append,List.map_cons]
   refine(List.perm_append_singleton _ _).trans ?_
   exact List.Perm.cons _ e
  .rw [if_neg (by simpa using hk)]
   have:k=0:=by omega
   subst this
   exact .mk ⟨by simpa using e,by omega⟩
 .obtain ⟨v,g,h⟩:=F8_7 hl b
  have i:=F7_t (l:=l) (m:=r) hl (by omega) hr.1.symm
  have n:=F7_t (l:=m) (m:=m) b b (List.Perm.refl _)
  simp only[Option.bind_some,if_true,g,h,i,n]
  cases v<;>exact .mk rfl
end Go.P
