import Derived.Test.YtgboeaaoebjfaaaGreatGaB
import Derived.KernelRfl
/- A text of the proof. -/
set_option linter.all false
set_option maxRecDepth 100000
namespace Go.P
def Ok {α:Type} (x:Option α) (Q:α->Prop):Prop:=∃v,x=some v/\Q v
section
variable {α β:Type} {Q:α->Prop}
theorem Ok.mk {v:α} (h:Q v):Ok (some v) Q:=⟨v,rfl,h⟩
theorem Ob {P:β->Prop} {x:Option β} {k:β->Option α} (h:Ok x P) (hk:∀v,P v->Ok (k v) Q):Ok (x.bind k) Q:=by
 obtain⟨v,rfl,hv⟩:=h
 exact hk v hv
theorem Oi {c:Prop} [Decidable c] {a b:Option α} (h1:c->Ok a Q) (h2:¬c->Ok b Q):Ok (if c then a else b) Q:=by
 split
 .rename_i h;exact h1 h
 .rename_i h;exact h2 h
theorem Ok.mono {P:α->Prop} {x:Option α} (h:Ok x P) (a:∀v,P v->Q v):Ok x Q:=by
 obtain⟨v,h1,h2⟩:=h
 exact⟨v,h1,a v h2⟩
theorem Ok.ex {x:Option α} (h:Ok x Q):∃v,x=some v:=by
 obtain⟨v,h1,_⟩:=h
 exact⟨v,h1⟩
theorem cS {S E:Type} {body:S->Option (S⊕E)} {Q:E->Prop} (I:S->Prop) (μ:S->Nat)
  (h:∀s,I s->Ok (body s) (fun r=>match r with|.inl s'=>I s'/\μ s'<μ s|.inr e=>Q e)):∀(n:Nat) (s:S),I s->μ s<n->Ok (aP body n s) Q
 |0,s,_,hn=>by omega
 |n+1,s,hi,hn=>by
  obtain⟨r,h1,h2⟩:=h s hi
  simp only[aP,h1,mC1]
  cases r with
  |inl s'=>exact cS I μ h n s' h2.1 (by have:=h2.2;omega)
  |inr e=>exact .mk h2
end
theorem cU {n:Int} (h1: -9223372036854775808<=n) (h2:n<9223372036854775808):w64 n=n:=by
 have e:w64 n=if n%18446744073709551616>=9223372036854775808 then n%18446744073709551616-18446744073709551616 else n%18446744073709551616:=by
  unfold w64 IntKind.wrap
  rw[show((2:Int)^IntKind.bits .i64)=18446744073709551616 from rfl,show((2:Int)^(IntKind.bits .i64-1))=9223372036854775808 from rfl]
  simp[IntKind.signed]
 rw[e]
 split<;>omega
end Go.P
namespace Go.P
end Go.P
namespace Go.P
end Go.P
namespace Go.P
theorem oA {A S E:Type} {l:List A} {body:S->Option (S⊕E)} {Q:E->Prop} {s0:S} (a:S->Int) (I:Nat->S->Prop) (hl:l.length<9223372036854775808) (h0:a s0=0) (f:I 0 s0)
  (h:∀(i:Nat) (x:A) (s:S),l[i]? =some x->x∈l->a s=(i:Int)->a s<(l.length:Int)->I i s->lget l (a s)=some x->w64 (a s+1)=(i:Int)+1->Ok (body s) (fun r=>match r with|.inl s'=>a s'=(i:Int)+1/\I (i+1) s'|.inr e=>Q e))
  (b:∀s,a s=(l.length:Int)->I l.length s->Ok (body s) (fun r=>match r with|.inl _=>False|.inr e=>Q e)):Ok (aP body B64 s0) Q:=by
 have hl:l.length<9223372036854775808:=hl
 refine cS (fun s=>0<=a s/\a s<=l.length/\I (a s).toNat s) (fun s=>l.length-(a s).toNat) (fun s hi=>?_) B64 s0 ⟨by omega,by omega,by rw[h0];exact f⟩ (by simp[B64];omega)
 obtain⟨g,m,d⟩:=hi
 by_cases c:a s<(l.length:Int)
 .have hi:(a s).toNat<l.length:=by omega
  have hc:(((a s).toNat:Nat):Int)=a s:=by omega
  have hg:lget l (a s)=some l[(a s).toNat]:=by unfold lget;rw[mA1 g];simp[hi]
  refine(h (a s).toNat l[(a s).toNat] s (by simp[hi]) (List.getElem_mem hi) hc.symm c d hg (by rw[cU (by omega) (by omega)];omega)).mono fun r hr=>?_
  cases r with
  |inl s'=>
   obtain⟨k,e2⟩:=hr
   refine⟨⟨by omega,by omega,?_⟩,by omega⟩
   rw[show(a s').toNat=(a s).toNat+1 by omega]
   exact e2
  |inr e=>exact hr
 .refine (b s (by omega) ?_).mono fun r hr=>?_
  .rw [show(a s).toNat=l.length by omega]at d;exact d
  .cases r with
   |inl j=>exact hr.elim
   |inr e=>exact hr
end Go.P
namespace Go.P
section
variable {α β:Type} {Q:α->Prop}
theorem Ok.of {x:Option α} (h:Ok x Q) {v:α} (hv:x=some v):Q v:=by
 obtain⟨w,h1,h2⟩:=h
 rw[h1]at hv;cases hv;exact h2
end
section
variable {A:Type} {l:List A}
end
theorem nf:(∀a:Int,(a<a)=False)/\(∀[Decidable False],decide False=false)/\((false=true)=False)/\∀(α:Type) [Decidable False] (a b:α),(if False then a else b)=b:=⟨fun a=>by simp,decide_false _,by simp,fun _ _ _ _=>nI1 ..⟩
end Go.P
namespace Go.P
theorem Ok.eq {α:Type} {x:Option α} {a:α} (h:Ok x (fun v=>v=a)):x=some a:=by
 obtain⟨v,h1,rfl⟩:=h
 exact h1
section
variable {K V:Type} [DecidableEq K]
end
end Go.P
namespace Go.P
structure Zy.b (x:Zy):Prop where
 Text:x.Text.size<9223372036854775808
structure Ze.b (x:Ze):Prop where
 Heads:x.Heads.length<9223372036854775808
 Graces:x.Graces.length<9223372036854775808
 Lyrics:x.Lyrics.length<9223372036854775808
 LyricsE:∀y∈x.Lyrics,y.b
structure Zo.b (x:Zo):Prop where
 Events:x.Events.length<9223372036854775808
 EventsE:∀y∈x.Events,y.b
 Tuplets:x.Tuplets.length<9223372036854775808
structure Zw.b (x:Zw):Prop where
 Clefs:x.Clefs.length<9223372036854775808
 Voices:x.Voices.length<9223372036854775808
 VoicesE:∀y∈x.Voices,y.b
structure Zm.b (x:Zm):Prop where
 Rehearsal:x.Rehearsal.size<9223372036854775808
 Tempi:x.Tempi.length<9223372036854775808
 Cells:x.Cells.length<9223372036854775808
 CellsE:∀y∈x.Cells,y.b
structure Zj.b (x:Zj):Prop where
 Name:x.Name.size<9223372036854775808
 Staves:x.Staves.length<9223372036854775808
structure Z0.b (x:Z0):Prop where
 Title:x.Title.size<9223372036854775808
 Parts:x.Parts.length<9223372036854775808
 PartsE:∀y∈x.Parts,y.b
 Measures:x.Measures.length<9223372036854775808
 MeasuresE:∀y∈x.Measures,y.b
 Spanners:x.Spanners.length<9223372036854775808
 Last:x.Last.length<9223372036854775808
end Go.P
set_option maxHeartbeats 1000000
namespace Go.P
theorem eqOk {α:Type} {x:Option α} {a:α} (h:Ok x (fun v=>v=a)):x=some a:=by
 obtain⟨v,rfl,rfl⟩:=h;rfl
theorem okb {α β:Type} {x:Option α} {v:α} {k:α->Option β} {Q:β->Prop} (h:x=some v) (hk:Ok (k v) Q):Ok (x.bind k) Q:=by
 subst h;exact hk
def cmpL:List Int->List Int->Int
 |a::as,b::bs=>if a<b then -1 else if a>b then 1 else cmpL as bs
 |_,_=>0
theorem iR1 {a b:Int} {as c:List Int}:cmpL (a::as) (b::c)<=0↔a<b\/a=b/\cmpL as c<=0:=by
 rw[cmpL]
 split
 .omega
 .split<;>omega
theorem xI:∀a b:List Int,cmpL b a= -cmpL a b
 |[],[]=>rfl
 |[],_::_=>rfl
 |_::_,[]=>rfl
 |a::as,b::bs=>by
  have:=xI as bs
  simp only[cmpL]
  repeat' split
  all_goals omega
theorem pO:∀a b c:List Int,a.length=b.length->b.length=c.length->cmpL a b<=0->cmpL b c<=0->cmpL a c<=0
 |[],[],[],_,_,_,_=>oM1 _
 |a::as,b::bs,c::cs,h1,h2,e,d=>by
  rw[iR1]at e d ⊢
  have:=pO as bs cs (by simpa using h1) (by simpa using h2)
  rcases e with e|⟨e,h5⟩
  .rcases d with d|⟨d,h6⟩<;>exact .inl (by omega)
  .rcases d with d|⟨d,h6⟩
   .exact .inl (by omega)
   .exact .inr ⟨by omega,this h5 h6⟩
theorem tW:∀a b:List Int,a.length=b.length->cmpL a b=0->a=b
 |[],[],_,_=>rfl
 |a::as,b::bs,h1,h2=>by
  rw[cmpL]at h2
  split at h2
  .omega
  .split at h2
   .omega
   .rw [tW as bs (by simpa using h1) h2,show a=b by omega]
def KN (x:aE):List Int:=[x.On,x.Number,x.Part,x.Staff,x.Voice,x.Off,x.Event.Site,x.Event.Number,x.Head]
def cN (x y:aE):Int:=cmpL (KN x) (KN y)
def leN (x y:aE):Prop:=cN x y<=0
theorem pP (x:aE):(KN x).length=9:=rfl
theorem pQ (x y:aE):cN y x= -cN x y:=xI _ _
theorem cY {x y z:aE} (h1:leN x y) (h2:leN y z):leN x z:=pO _ _ _ (by rw[pP,pP]) (by rw[pP,pP]) h1 h2
theorem tX {x y:aE} (h:cN x y<0):leN x y:=by unfold leN;omega
theorem vQ {x y:aE} (h:¬cN y x<0):leN x y:=by have:=pQ x y;unfold leN;omega
theorem fJ1 {x y:aE} (h1:leN x y) (h2:leN y x):x=y:=by
 have h:KN x=KN y:=tW _ _ (by rw[pP,pP]) (by have:=pQ x y;unfold leN at *;unfold cN at *;omega)
 obtain⟨_,_,_,_,_,_,⟨_,_⟩,_⟩:=x
 obtain⟨_,_,_,_,_,_,⟨_,_⟩,_⟩:=y
 simp only[KN,oV1,and_true]at h
 simp[h]
def Sd (r l:List aE):Prop:=r.Perm l/\r.Pairwise leN
theorem Sd.uniq {r r' l l':List aE} (h:Sd r l) (h':Sd r' l') (hp:l.Perm l'):r=r':=
 List.Perm.eq_of_pairwise (fun a b _ _=>fJ1) h.2 h'.2 (h.1.trans (hp.trans h'.1.symm))
def d0:aE:=⟨0,0,0,0,0,0,⟨0,0⟩,0⟩
def gn (l:List aE) (p:Nat):aE:=l.getD p d0
theorem tY {l:List aE} {p:Nat} (h:p<l.length):gn l p=l[p]:=by simp[gn,h]
theorem eD {l:List aE} {p:Nat} (h:p<l.length):lnth l p=some (gn l p):=by
 rw[tY h];exact nL1 h
theorem cO {A:Type} {l:List A} {i:Int} {p:Nat} (hi:i=(p:Int)) (h:p<l.length):lidx l i=some p:=by
 subst hi
 unfold lidx uY
 rw[mA1 ⟨by omega,by omega⟩,Int.toNat_natCast]
def swp (l:List aE) (p q:Nat):List aE:=(l.set p (gn l q)).set q (gn l p)
theorem rK (l:List aE) (p q:Nat):(swp l p q).length=l.length:=by simp[swp]
theorem gH1 {l:List aE} {p q:Nat} {v:aE} (h:p<l.length):gn (l.set p v) q=if q=p then v else gn l q:=by
 unfold gn
 rw[List.getD_eq_getElem?_getD,List.getD_eq_getElem?_getD,mN1]
 by_cases a:p=q
 .subst a;simp[h]
 .rw [lY1 a,lY1 (fun h=>a h.symm)]
theorem oB {l:List aE} {p q k:Nat} (hp:p<l.length) (a:q<l.length):gn (swp l p q) k=if k=q then gn l p else if k=p then gn l q else gn l k:=by
 unfold swp
 rw[gH1 (by simpa using a),gH1 hp]
theorem mA {l:List aE} {p q:Nat} (hp:p<l.length) (a:q<l.length):(swp l p q).Perm l:=by
 unfold swp
 rw[tY hp,tY a]
 exact List.set_set_perm hp a
theorem kY {l:List aE} {p:Nat} {v:aE} (h:p<l.length):lput l p (fun _=>v)=some (l.set p v):=by
 unfold lput;rw[nL1 h];rfl
theorem kU1 {l:List aE} {f g:Int} {p q:Nat} (h:f=(q:Int)) (e2:g=(p:Int)) (hp:p<l.length) (e:q<l.length) {B:Type} {k:List aE->Option B} {Q:B->Prop} (hk:Ok (k (swp l p q)) Q):
  Ok ((lidx l f).bind fun a=>(lnth l a).bind fun x=>(lidx l g).bind fun b=>(lnth l b).bind fun y=>(lidx l g).bind fun c=>(lput l c (fun _=>x)).bind fun i=>(lidx i f).bind fun d=>(lput i d (fun _=>y)).bind k) Q:=by
 refine okb (cO h e) (okb (eD e) (okb (cO e2 hp) (okb (eD hp) (okb (cO e2 hp) (okb (kY hp) ?_)))))
 exact okb (cO h (by simpa using e)) (okb (kY (by simpa using e)) hk)
theorem iS1 {x:Int} (h0:0<=x) (h1:x<9223372036854775808):shrO .u64 (IntKind.wrap .u64 (w64 x)) 1=some (x/2):=by
 rw[cU (by omega) h1]
 have e:IntKind.wrap .u64 x=x:=by
  unfold IntKind.wrap
  rw[show((2:Int)^IntKind.bits .u64)=18446744073709551616 from rfl]
  simp[IntKind.signed]
  omega
 rw[e]
 unfold shrO
 rw[lY1 (by decide),show min (Int.toNat 1) (IntKind.bits .u64)=1 from rfl]
 simp only[Int.pow_succ,Int.pow_zero,Int.one_mul]
 rw[Int.fdiv_eq_ediv_of_nonneg _ (by decide)]
def Sg (r l:List aE) (a b:Nat):Prop:=r.Perm l/\r.length=l.length/\(∀p,p<a\/b<=p->gn r p=gn l p)/\∀p,a<=p->p<b->∃q,a<=q/\q<b/\gn r p=gn l q
theorem Sg.refl (l:List aE) (a b:Nat):Sg l l a b:=⟨.refl _,rfl,fun _ _=>rfl,fun p h1 h2=>⟨p,h1,h2,rfl⟩⟩
theorem Sg.trans {r l m:List aE} {a b:Nat} (h1:Sg r l a b) (h2:Sg l m a b):Sg r m a b:=
 ⟨h1.1.trans h2.1,h1.2.1.trans h2.2.1,fun p hp=>(h1.2.2.1 p hp).trans (h2.2.2.1 p hp),fun p c d=>by
  obtain⟨q,q1,q2,q3⟩:=h1.2.2.2 p c d
  obtain⟨s,e,f,g⟩:=h2.2.2.2 q q1 q2
  exact⟨s,e,f,q3.trans g⟩⟩
theorem Sg.mono {r l:List aE} {a b a' b':Nat} (h:Sg r l a b) (e:a'<=a) (hb:b<=b'):Sg r l a' b':=
 ⟨h.1,h.2.1,fun p hp=>h.2.2.1 p (by omega),fun p c d=>by
  by_cases hc:a<=p/\p<b
  .obtain ⟨q,q1,q2,q3⟩:=h.2.2.2 p hc.1 hc.2
   exact⟨q,by omega,by omega,q3⟩
  .exact ⟨p,c,d,h.2.2.1 p (by omega)⟩⟩
theorem Sg.swp {l:List aE} {a b p q:Nat} (hb:b<=l.length) (h1:a<=p) (h2:p<b) (d:a<=q) (e:q<b):Sg (swp l p q) l a b:=by
 refine⟨mA (by omega) (by omega),rK _ _ _,fun k hk=>?_,fun k f g=>?_⟩
 .rw [oB (by omega) (by omega),lY1 (by omega),lY1 (by omega)]
 .rw [oB (by omega) (by omega)]
  by_cases c:k=q
  .exact ⟨p,h1,h2,by rw[mA1 c]⟩
  .by_cases e2:k=p
   .exact ⟨q,d,e,by rw[lY1 c,mA1 e2]⟩
   .exact ⟨k,f,g,by rw[lY1 c,lY1 e2]⟩
def SS (l:List aE) (a b:Nat):Prop:=∀p q,a<=p->p<=q->q<b->leN (gn l p) (gn l q)
theorem rL (x:aE):leN x x:=by have:=pQ x x;unfold leN;omega
theorem SS.sub {l:List aE} {a b a' b':Nat} (h:SS l a b) (d:a<=a') (hb:b'<=b):SS l a' b':=fun p q h1 h2 c=>h p q (by omega) h2 (by omega)
theorem SS.off {r l:List aE} {a b x y:Nat} (h:SS l x y) (hs:Sg r l a b) (hd:y<=a\/b<=x):SS r x y:=fun p q h1 h2 c=>by
 rw[hs.2.2.1 p (by omega),hs.2.2.1 q (by omega)];exact h p q h1 h2 c
end Go.P
namespace Go.P
def sgI (a b:Int):Int:=if a<b then -1 else if b<a then 1 else 0
theorem F11_eq (a b:Int):F11 a b=some (sgI a b):=by
 unfold F11 F18 sgI
 simp only[bne_self_eq_false,mC1,mG1,nI1,mU1]
 split
 .rfl
 .split<;>rfl
def fz1:List Int->Int
 |[]=>0
 |a::r=>if a=0 then fz1 r else a
theorem gI1:∀a b:List Int,fz1 (List.zipWith sgI a b)=cmpL a b
 |[],_=>by simp[fz1,cmpL]
 |_::_,[]=>by simp[fz1,cmpL]
 |a::as,b::bs=>by
  rw[List.zipWith_cons_cons,fz1,cmpL,gI1 as bs]
  unfold sgI
  repeat' split
  all_goals omega
theorem F10_eq {l:List Int} (hl:l.length<1000):F10 l=some (fz1 l):=by
 refine eqOk ?_
 unfold F10
 refine Ob (P:=fun r=>match r with|.inl v=>v=fz1 l|.inr _=>0=fz1 l) (oA (l:=l) (fun q=>q) (fun i _=>fz1 (l.drop i)=fz1 l) (by omega) rfl rfl (fun i e q d f hi b a hg hw=>?_) (fun q hi a=>?_)) fun r hr=>?_
 .rw [hi]at hg b hw ⊢
  obtain⟨c,rfl⟩:=lX1.1 d
  rw[mA1 (by simpa using b),hg]
  simp only[mC1]
  rw[List.drop_eq_getElem_cons c,fz1]at a
  by_cases h0:l[i]=0
  .rw [mA1 h0]at a
   rw[lY1 (by simpa using h0),hw]
   exact .mk ⟨rfl,a⟩
  .rw [lY1 h0]at a
   rw[mA1 (by simpa using h0)]
   exact .mk a
 .rw [hi,lY1 (by simp)]
  rw[List.drop_length]at a
  exact .mk a
 .rcases r with v|_
  .exact .mk hr
  .exact .mk hr
theorem F5_eq (x y:aE):F5 x y=some (cN x y):=by
 unfold F5
 simp only[F11_eq,mC1]
 rw[F10_eq (by simp)]
 rw[show[sgI x.On y.On,sgI x.Number y.Number,sgI x.Part y.Part,sgI x.Staff y.Staff,sgI x.Voice y.Voice,sgI x.Off y.Off,sgI x.Event.Site y.Event.Site,sgI x.Event.Number y.Event.Number,sgI x.Head y.Head]=List.zipWith sgI (KN x) (KN y)from rfl,gI1]
 rfl
theorem Fn155_ok {a b n:Nat} {l:List aE} (h1:a+n<=b) (h2:b+n<=l.length) (hl:l.length<4611686018427387904):
  Ok (Fn155 ((a:Nat):Int) ((b:Nat):Int) ((n:Nat):Int) l) (fun r=>r.Perm l/\r.length=l.length/\∀p,gn r p=if a<=p/\p<a+n then gn l (p+(b-a))else if b<=p/\p<b+n then gn l (p-(b-a))else gn l p):=by
 unfold Fn155
 refine Ob (P:=fun r=>r.Perm l/\r.length=l.length/\∀p,gn r p=if a<=p/\p<a+n then gn l (p+(b-a))else if b<=p/\p<b+n then gn l (p-(b-a))else gn l p) (cS (fun(q:Int×List aE)=>∃i:Nat,q.1=(i:Int)/\i<=n/\q.2.Perm l/\q.2.length=l.length/\∀p,gn q.2 p=if a<=p/\p<a+i then gn l (p+(b-a))else if b<=p/\p<b+i then gn l (p-(b-a))else gn l p) (fun(q:Int×List aE)=>n-q.1.toNat) (fun q s=>?_) B64 (0,l) ⟨0,rfl,by omega,.refl _,rfl,fun p=>by rw[lY1 (by omega),lY1 (by omega)]⟩ (by simp only[B64];omega)) fun r hr=>.mk hr
 obtain⟨k,c⟩:=q
 obtain⟨i,m,g2,e,f,d⟩:=s
 dsimp only at m e f d ⊢
 subst m
 by_cases hc:(i:Int)<(n:Int)
 .rw [mA1 (by simpa using hc)]
  have o:i<n:=by omega
  refine kU1 (p:=a+i) (q:=b+i) (by rw[cU (by omega) (by omega)];omega) (by rw[cU (by omega) (by omega)];omega) (by omega) (by omega) ?_
  rw[cU (n:=(i:Int)+1) (by omega) (by omega)]
  refine .mk ⟨⟨i+1,by simp,by omega,(mA (by omega) (by omega)).trans e,by rw[rK];exact f,fun p=>?_⟩,by dsimp only;omega⟩
  dsimp only
  rw[oB (by omega) (by omega)]
  by_cases g:p=b+i
  .rw [mA1 g,d,lY1 (by omega),lY1 (by omega),lY1 (by omega),mA1 (by omega)]
   exact congrArg (gn l) (by omega)
  .rw [lY1 g]
   by_cases e2:p=a+i
   .rw [mA1 e2,d,lY1 (by omega),lY1 (by omega),mA1 (by omega)]
    exact congrArg (gn l) (by omega)
   .rw [lY1 e2,d]
    by_cases h:a<=p/\p<a+i
    .rw [mA1 h,mA1 (by omega)]
    .rw [lY1 h,lY1 (c:=a<=p/\p<a+(i+1)) (by omega)]
     by_cases j:b<=p/\p<b+i
     .rw [mA1 j,mA1 (by omega)]
     .rw [lY1 j,lY1 (by omega)]
 .rw [lY1 (by simpa using hc)]
  have:i=n:=by omega
  subst this
  exact .mk ⟨e,f,d⟩
def rotF (f:Nat->aE) (x y z p:Nat):aE:=if x<=p/\p<x+(z-y)then f (p+(y-x))else if x+(z-y)<=p/\p<z then f (p-(z-y))else f p
theorem Fn106_ok {a m b:Nat} {l:List aE} (h1:a<m) (h2:m<b) (B:b<=l.length) (hl:l.length<4611686018427387904):
  Ok (Fn106 ((a:Nat):Int) ((m:Nat):Int) ((b:Nat):Int) l) (fun r=>r.Perm l/\r.length=l.length/\∀p,gn r p=rotF (gn l) a m b p):=by
 unfold Fn106
 refine Ob (P:=fun r=>∃i:Nat,r.1=(i:Int)/\0<i/\a+i<=m/\m+i<=b/\r.2.Perm l/\r.2.length=l.length/\∀p,rotF (gn r.2) (m-i) m (m+i) p=rotF (gn l) a m b p) (cS (fun(q:Int×Int×List aE)=>∃i j:Nat,q.1=(i:Int)/\q.2.1=(j:Int)/\0<i/\0<j/\a+i<=m/\m+j<=b/\q.2.2.Perm l/\q.2.2.length=l.length/\∀p,rotF (gn q.2.2) (m-i) m (m+j) p=rotF (gn l) a m b p) (fun(q:Int×Int×List aE)=>q.1.toNat+q.2.1.toNat) (fun q z=>?_) B64 (w64 ((m:Int)-a),w64 ((b:Int)-m),l) ⟨m-a,b-m,by show w64 _=_;rw[cU (by omega) (by omega)];omega,by show w64 _=_;rw[cU (by omega) (by omega)];omega,by omega,by omega,by omega,by omega,.refl _,rfl,fun p=>by
   rw[show m-(m-a)=a by omega,show m+(b-m)=b by omega]⟩ (by show(w64 ((m:Int)-a)).toNat+(w64 ((b:Int)-m)).toNat<B64;rw[cU (by omega) (by omega),cU (by omega) (by omega)];simp only[B64];omega)) fun r hr=>?_
 .obtain ⟨A,C,c⟩:=q
  obtain⟨i,j,h,g2,w,y,k,o,g,s,t⟩:=z
  dsimp only at h g2 g s t ⊢
  subst h g2
  by_cases x:i=j
  .rw [lY1 (by simp;omega)]
   subst x
   exact .mk ⟨i,rfl,w,k,o,g,s,t⟩
  .rw [mA1 (by simp;omega)]
   by_cases f:(i:Int)>(j:Int)
   .rw [mA1 (by simpa using f)]
    have f:j<i:=by omega
    rw[cU (n:=(m:Int)-i) (by omega) (by omega),cU (n:=(i:Int)-j) (by omega) (by omega),show(m:Int)-i=((m-i:Nat):Int)by omega,show(i:Int)-j=((i-j:Nat):Int)by omega]
    obtain⟨d,u,e2,v,e⟩:=Fn155_ok (a:=m-i) (b:=m) (n:=j) (l:=c) (by omega) (by omega) (by omega)
    rw[u]
    simp only[mC1]
    refine .mk ⟨⟨i-j,j,rfl,rfl,by omega,y,by omega,o,e2.trans g,v.trans s,fun p=>?_⟩,by dsimp only;omega⟩
    rw[<-t p]
    dsimp only
    unfold rotF
    rw[show m+j-m=j by omega,show m-(m-(i-j))=i-j by omega,show m-(m-i)=i by omega]
    by_cases c1:m-i<=p/\p<m-i+j
    .rw [lY1 (by omega),lY1 (by omega),mA1 (by omega),e,mA1 (by omega)]
     exact congrArg (gn c) (by omega)
    .by_cases c2:m-i+j<=p/\p<m+j
     .rw [lY1 (c:=m-i<=p/\p<m-i+j) c1,mA1 (c:=m-i+j<=p/\p<m+j) c2]
      by_cases c3:p<m-(i-j)+j
      .rw [mA1 (by omega),e,lY1 (by omega),mA1 (by omega)]
       exact congrArg (gn c) (by omega)
      .rw [lY1 (by omega),mA1 (by omega),e,lY1 (by omega),lY1 (by omega)]
     .rw [lY1 (by omega),lY1 (by omega),lY1 (by omega),lY1 (by omega),e,lY1 (by omega),lY1 (by omega)]
   .rw [lY1 (by simpa using f)]
    have f:i<j:=by omega
    rw[cU (n:=(m:Int)-i) (by omega) (by omega),cU (n:=(m:Int)+j) (by omega) (by omega),cU (n:=(m:Int)+j-i) (by omega) (by omega),cU (n:=(j:Int)-i) (by omega) (by omega),show(m:Int)-i=((m-i:Nat):Int)by omega,show(m:Int)+j-i=((m+j-i:Nat):Int)by omega,show(j:Int)-i=((j-i:Nat):Int)by omega]
    obtain⟨d,u,e2,v,e⟩:=Fn155_ok (a:=m-i) (b:=m+j-i) (n:=i) (l:=c) (by omega) (by omega) (by omega)
    rw[u]
    simp only[mC1]
    refine .mk ⟨⟨i,j-i,rfl,rfl,w,by omega,k,by omega,e2.trans g,v.trans s,fun p=>?_⟩,by dsimp only;omega⟩
    rw[<-t p]
    dsimp only
    unfold rotF
    rw[show m+(j-i)-m=j-i by omega,show m-(m-i)=i by omega,show m+j-m=j by omega]
    by_cases c1:m+j-i<=p/\p<m+j
    .rw [lY1 (by omega),lY1 (by omega),lY1 (by omega),mA1 (by omega),e,lY1 (by omega),mA1 (by omega)]
     exact congrArg (gn c) (by omega)
    .by_cases c2:m-i<=p/\p<m+j-i
     .by_cases c3:p<m-i+(j-i)
      .rw [mA1 (by omega),mA1 (by omega),e,lY1 (by omega),lY1 (by omega)]
      .rw [lY1 (by omega),mA1 (by omega),mA1 (by omega),e,mA1 (by omega)]
       exact congrArg (gn c) (by omega)
     .rw [lY1 (by omega),lY1 (by omega),lY1 (by omega),lY1 (by omega),e,lY1 (by omega),lY1 (by omega)]
 .obtain ⟨A,c⟩:=r
  obtain⟨i,h,g2,w,y,k,o,g⟩:=hr
  dsimp only at h k o g ⊢
  subst h
  rw[cU (n:=(m:Int)-i) (by omega) (by omega),show(m:Int)-i=((m-i:Nat):Int)by omega]
  refine(Ob (Fn155_ok (a:=m-i) (b:=m) (n:=i) (l:=c) (by omega) (by omega) (by omega)) fun d hd=>.mk ⟨hd.1.trans k,hd.2.1.trans o,fun p=>?_⟩)
  rw[<-g p,hd.2.2 p]
  unfold rotF
  rw[show m-(m-i)=i by omega,show m+i-m=i by omega]
  by_cases c1:m-i<=p/\p<m-i+i
  .rw [mA1 c1,mA1 c1]
  .rw [lY1 c1,lY1 c1]
   by_cases c2:m<=p/\p<m+i
   .rw [mA1 c2,mA1 (by omega)]
   .rw [lY1 c2,lY1 (by omega)]
end Go.P
namespace Go.P
theorem iT1 {body:Int×Int->Option ((Int×Int)⊕Int)} {lo hi:Nat} (T:Nat->Prop) (m:∀c a,lo<=c->c<=a->a<hi->T a->T c) (hl:lo<=hi) (o:hi<4611686018427387904)
  (h1:∀i j h:Nat,lo<=i->i<j->j<=hi->i<=h->h<j->((i:Int)+j)/2=(h:Int)->(T h/\body ((i:Int),(j:Int))=some (.inl (((h+1:Nat):Int),(j:Int))))\/(¬T h/\body ((i:Int),(j:Int))=some (.inl ((i:Int),(h:Int)))))
  (h2:∀i j:Int,¬i<j->body (i,j)=some (.inr i)):
  Ok (aP body B64 ((lo:Int),(hi:Int))) (fun r=>∃k:Nat,r=(k:Int)/\lo<=k/\k<=hi/\(∀c,lo<=c->c<k->T c)/\∀c,k<=c->c<hi->¬T c):=by
 refine cS (fun(q:Int×Int)=>∃i j:Nat,q=((i:Int),(j:Int))/\lo<=i/\i<=j/\j<=hi/\(∀c,lo<=c->c<i->T c)/\∀c,j<=c->c<hi->¬T c) (fun(q:Int×Int)=>(q.2-q.1).toNat) (fun q n=>?_) B64 _ ⟨lo,hi,rfl,lW1 _,hl,lW1 _,fun c _ _=>by omega,fun c _ _=>by omega⟩ (by simp only[B64];omega)
 obtain⟨i,j,rfl,b,g2,d,g,l⟩:=n
 by_cases hc:i<j
 .rcases h1 i j ((i+j)/2) b hc d (by omega) (by omega) (by omega)with⟨f,e⟩|⟨f,e⟩
  .rw [e]
   exact .mk ⟨⟨(i+j)/2+1,j,rfl,by omega,by omega,d,fun c c1 c2=>m c ((i+j)/2) c1 (by omega) (by omega) f,l⟩,by dsimp only;omega⟩
  .rw [e]
   refine .mk ⟨⟨i,(i+j)/2,rfl,b,by omega,by omega,g,fun c c1 c2 c3=>?_⟩,by dsimp only;omega⟩
   exact f (m _ c (by omega) c1 c2 c3)
 .rw [h2 _ _ (by omega)]
  have:i=j:=by omega
  subst this
  exact .mk ⟨i,rfl,b,d,g,l⟩
theorem rot1 {f:Nat->aE} {x y z p:Nat} (h:p<x):rotF f x y z p=f p:=by
 unfold rotF
 rw[lY1 (by omega),lY1 (by omega)]
theorem rot2 {f:Nat->aE} {x y z p:Nat} (h1:x<=p) (h2:p<x+(z-y)):rotF f x y z p=f (p+(y-x)):=by
 unfold rotF
 rw[mA1 ⟨h1,h2⟩]
theorem rot3 {f:Nat->aE} {x y z p:Nat} (h1:x+(z-y)<=p) (h2:p<z):rotF f x y z p=f (p-(z-y)):=by
 unfold rotF
 rw[lY1 (by omega),mA1 ⟨h1,h2⟩]
theorem rot4 {f:Nat->aE} {x y z p:Nat} (h0:x<=y) (h:z<=p) (h1:y<=z):rotF f x y z p=f p:=by
 unfold rotF
 rw[lY1 (by omega),lY1 (by omega)]
theorem cJ1 {f:Nat->aE} {x y z p:Nat} (h0:x<=y) (h1:y<=z) (h:x=y\/y=z):rotF f x y z p=f p:=by
 by_cases c1:p<x
 .exact rot1 c1
 .by_cases c2:p<x+(z-y)
  .rw [rot2 (by omega) c2];exact congrArg f (by omega)
  .by_cases c3:p<z
   .rw [rot3 (by omega) c3];exact congrArg f (by omega)
   .exact rot4 h0 (by omega) h1
section
variable {l r:List aE} {a s m e b:Nat}
theorem cK1 (f:a<=s) (hs:s<=m) (he:m<=e) (hb:e<=b) (hp:r.Perm l) (hl:r.length=l.length) (h:∀p,gn r p=rotF (gn l) s m e p):Sg r l a b:=by
 refine⟨hp,hl,fun p k=>?_,fun p c d=>?_⟩
 .rw [h]
  rcases k with k|k
  .exact rot1 (by omega)
  .exact rot4 hs (by omega) he
 .rw [h]
  by_cases c1:p<s
  .exact ⟨p,c,d,rot1 c1⟩
  .by_cases c2:p<s+(e-m)
   .exact ⟨_,by omega,by omega,rot2 (by omega) c2⟩
   .by_cases c3:p<e
    .exact ⟨_,by omega,by omega,rot3 (by omega) c3⟩
    .exact ⟨p,c,d,rot4 hs (by omega) he⟩
theorem cL1 (g:a<=s) (hs:s<=m) (he:m<=e) (hb:e<=b) (h:∀p,gn r p=rotF (gn l) s m e p) (d:SS l a m) (f:SS l m b):
  SS r a s/\SS r s (s+(e-m))/\SS r (s+(e-m)) e/\SS r e b:=by
 refine⟨fun p q h1 h2 c=>?_,fun p q h1 h2 c=>?_,fun p q h1 h2 c=>?_,fun p q h1 h2 c=>?_⟩
 .rw [h,h,rot1 (by omega),rot1 (by omega)];exact d p q h1 h2 (by omega)
 .rw [h,h,rot2 (by omega) (by omega),rot2 (by omega) (by omega)];exact f _ _ (by omega) (by omega) (by omega)
 .rw [h,h,rot3 (by omega) (by omega),rot3 (by omega) (by omega)];exact d _ _ (by omega) (by omega) (by omega)
 .rw [h,h,rot4 hs (by omega) he,rot4 hs (by omega) he];exact f p q (by omega) h2 c
def Cr (l:List aE) (a m b:Nat):Prop:=∀p q,a<=p->p<m->m<=q->q<b->leN (gn l p) (gn l q)
theorem Cr.glue (h:Cr l a m b) (d:SS l a m) (e:SS l m b):SS l a b:=fun p q h1 h2 c=>by
 by_cases c1:q<m
 .exact d p q h1 h2 c1
 .by_cases c2:p<m
  .exact h p q h1 c2 (by omega) c
  .exact e p q (by omega) h2 c
theorem Cr.left (h:Cr l a m b) (hs:Sg r l a m):Cr r a m b:=fun p q h1 h2 c d=>by
 obtain⟨u,e,f,g⟩:=hs.2.2.2 p h1 h2
 rw[g,hs.2.2.1 q (by omega)]
 exact h u q e f c d
theorem Cr.right (h:Cr l a m b) (hs:Sg r l m b):Cr r a m b:=fun p q h1 h2 c d=>by
 obtain⟨u,e,f,g⟩:=hs.2.2.2 q c d
 rw[g,hs.2.2.1 p (by omega)]
 exact h p u h1 h2 e f
theorem cM1 (j:a<=s) (hs:s<=m) (he:m<=e) (hb:e<=b) (h:∀p,gn r p=rotF (gn l) s m e p) (g:SS l a m) (i:SS l m b)
  (h1:∀u v,a<=u->u<s->e<=v->v<b->leN (gn l u) (gn l v)) (h2:∀w u,m<=w->w<e->s<=u->u<m->leN (gn l w) (gn l u)):Cr r a (s+(e-m)) b:=by
 intro p q c f k d
 rw[h,h]
 by_cases c1:p<s
 .rw [rot1 c1]
  by_cases c2:q<e
  .rw [rot3 (by omega) c2];exact g _ _ c (by omega) (by omega)
  .rw [rot4 hs (by omega) he];exact h1 _ _ c c1 (by omega) d
 .rw [rot2 (by omega) f]
  by_cases c2:q<e
  .rw [rot3 (by omega) c2];exact h2 _ _ (by omega) (by omega) (by omega) (by omega)
  .rw [rot4 hs (by omega) he];exact i _ _ (by omega) (by omega) d
end
theorem jF {x y:aE}:¬cN x y<0↔leN y x:=by have:=pQ x y;unfold leN;omega
theorem lO1 {a z:Nat} {l:List aE} (h1:a<z) (h2:z<=l.length) (hl:l.length<4611686018427387904) {body:Int×List aE->Option ((Int×List aE)⊕List aE)}
  (hb:∀(k:Nat) (c:List aE),a<=k->k+1<z->c.length=l.length->body ((k:Int),c)=some (.inl (((k+1:Nat):Int),swp c k (k+1)))) (he:∀c,body (((z-1:Nat):Int),c)=some (.inr c)):
  Ok (aP body B64 ((a:Int),l)) (fun r=>r.Perm l/\r.length=l.length/\∀p,gn r p=rotF (gn l) a (a+1) z p):=by
 refine cS (fun(q:Int×List aE)=>∃k:Nat,q.1=(k:Int)/\a<=k/\k<z/\q.2.Perm l/\q.2.length=l.length/\∀p,gn q.2 p=rotF (gn l) a (a+1) (k+1) p) (fun(q:Int×List aE)=>z-q.1.toNat) (fun q g=>?_) B64 _ ⟨a,rfl,by omega,h1,.refl _,rfl,fun p=>(cJ1 (by omega) (by omega) (by omega)).symm⟩ (by simp only[B64];omega)
 obtain⟨i,c⟩:=q
 obtain⟨k,f,g2,h,e,d,b⟩:=g
 dsimp only at f e d b
 subst f
 by_cases hc:k+1<z
 .rw [hb k c g2 hc d]
  refine .mk ⟨⟨k+1,rfl,by omega,hc,(mA (by omega) (by omega)).trans e,by rw[rK];exact d,fun p=>?_⟩,by dsimp only;omega⟩
  dsimp only
  rw[oB (by omega) (by omega),b,b,b]
  by_cases c1:p=k+1
  .rw [mA1 c1,rot3 (by omega) (by omega),rot3 (by omega) (by omega)];exact congrArg (gn l) (by omega)
  .rw [lY1 c1]
   by_cases c2:p=k
   .rw [mA1 c2,rot4 (by omega) (by omega) (by omega),rot2 (by omega) (by omega)];exact congrArg (gn l) (by omega)
   .rw [lY1 c2]
    by_cases c3:p<a
    .rw [rot1 c3,rot1 c3]
    .by_cases c4:p<k
     .rw [rot2 (by omega) (by omega),rot2 (by omega) (by omega)]
     .rw [rot4 (by omega) (by omega) (by omega),rot4 (by omega) (by omega) (by omega)]
 .have:k=z-1:=by omega
  rw[this,he]
  exact .mk ⟨e,d,fun p=>by rw[b,show k+1=z by omega]⟩
theorem lP1 {a z:Nat} {l:List aE} (h1:a<=z) (h2:z<l.length) (hl:l.length<4611686018427387904) {body:Int×List aE->Option ((Int×List aE)⊕List aE)}
  (hb:∀(k:Nat) (c:List aE),a<k->k<=z->c.length=l.length->body ((k:Int),c)=some (.inl (((k-1:Nat):Int),swp c k (k-1)))) (he:∀c,body ((a:Int),c)=some (.inr c)):
  Ok (aP body B64 ((z:Int),l)) (fun r=>r.Perm l/\r.length=l.length/\∀p,gn r p=rotF (gn l) a z (z+1) p):=by
 refine cS (fun(q:Int×List aE)=>∃k:Nat,q.1=(k:Int)/\a<=k/\k<=z/\q.2.Perm l/\q.2.length=l.length/\∀p,gn q.2 p=rotF (gn l) k z (z+1) p) (fun(q:Int×List aE)=>q.1.toNat) (fun q h=>?_) B64 _ ⟨z,rfl,h1,by omega,.refl _,rfl,fun p=>(cJ1 (by omega) (by omega) (by omega)).symm⟩ (by simp only[B64];omega)
 obtain⟨i,c⟩:=q
 obtain⟨k,f,g2,g,e,d,b⟩:=h
 dsimp only at f e d b
 subst f
 by_cases hc:a<k
 .rw [hb k c hc g d]
  refine .mk ⟨⟨k-1,rfl,by omega,by omega,(mA (by omega) (by omega)).trans e,by rw[rK];exact d,fun p=>?_⟩,by dsimp only;omega⟩
  dsimp only
  rw[oB (by omega) (by omega),b,b,b]
  by_cases c1:p=k-1
  .rw [mA1 c1,rot2 (by omega) (by omega),rot2 (by omega) (by omega)];exact congrArg (gn l) (by omega)
  .rw [lY1 c1]
   by_cases c2:p=k
   .rw [mA1 c2,rot1 (by omega),rot3 (by omega) (by omega)];exact congrArg (gn l) (by omega)
   .rw [lY1 c2]
    by_cases c3:p<k
    .rw [rot1 (by omega),rot1 (by omega)]
    .by_cases c4:p<z+1
     .rw [rot3 (by omega) (by omega),rot3 (by omega) (by omega)]
     .rw [rot4 (by omega) (by omega) (by omega),rot4 (by omega) (by omega) (by omega)]
 .have:k=a:=by omega
  subst this
  rw[he]
  exact .mk ⟨e,d,b⟩
end Go.P
namespace Go.P
theorem iadd {a b:Int} {n:Nat} (h:a+b=(n:Int)) (c:n<9223372036854775808):w64 (a+b)=(n:Int):=by rw[cU (by omega) (by omega)];exact h
theorem isub {a b:Int} {n:Nat} (h:a-b=(n:Int)) (c:n<9223372036854775808):w64 (a-b)=(n:Int):=by rw[cU (by omega) (by omega)];exact h
theorem inat {n:Nat} (a:n<9223372036854775808):w64 (n:Int)=(n:Int):=cU (by omega) (by omega)
theorem hlf {a b:Int} {h:Nat} (h0:0<=a+b) (h1:a+b<9223372036854775808) (e:(a+b)/2=(h:Int)):shrO .u64 (IntKind.wrap .u64 (w64 (a+b))) 1=some (h:Int):=by rw[iS1 h0 h1,e]
theorem cN1 {l:List aE} {f g:Int} {p q:Nat} (h:f=(q:Int)) (e2:g=(p:Int)) (hp:p<l.length) (e:q<l.length) {B:Type} {k:List aE->Option B}:
  ((lidx l f).bind fun a=>(lnth l a).bind fun x=>(lidx l g).bind fun b=>(lnth l b).bind fun y=>(lidx l g).bind fun c=>(lput l c (fun _=>x)).bind fun i=>(lidx i f).bind fun d=>(lput i d (fun _=>y)).bind k)=k (swp l p q):=by
 rw[cO h e,mC1,eD e,mC1,cO e2 hp,mC1,eD hp,mC1,mC1,kY hp,mC1,cO h (by simpa using e),mC1,kY (by simpa using e),mC1]
 rfl
theorem Fn56_step {rec:Int->Int->Int->List aE->Option (List aE)} {w a m b:Nat} {l:List aE}
  (ih:∀(a m b:Nat) (l:List aE),a<m->m<b->b<=l.length->l.length<4611686018427387904->b-a<=w->SS l a m->SS l m b->Ok (rec ((a:Nat):Int) ((m:Nat):Int) ((b:Nat):Int) l) (fun r=>Sg r l a b/\SS r a b))
  (h1:a<m) (h2:m<b) (h3:b<=l.length) (hl:l.length<4611686018427387904) (hw:b-a<=2*w) (F:SS l a m) (G:SS l m b):Ok (Fn56r rec ((a:Nat):Int) ((m:Nat):Int) ((b:Nat):Int) l) (fun r=>Sg r l a b/\SS r a b):=by
 unfold Fn56r
 rw[isub (a:=(m:Int)) (n:=m-a) (by omega) (by omega),isub (a:=(b:Int)) (n:=b-m) (by omega) (by omega)]
 refine Oi (fun hc=>?_) (fun hc=>Oi (fun hd=>?_) (fun hd=>?_))
 .have hc:m=a+1:=by
   have:=eq_of_beq hc
   omega
  subst hc
  refine Ob (iT1 (lo:=a+1) (hi:=b) (fun c=>cN (gn l c) (gn l a)<0) (fun c L A t B C=>?_) (by omega) (by omega) (fun i j h A t B C Z R=>?_) (fun i j E=>?_)) fun x V=>?_
  .have H:=G c L A t B
   have N:=pQ (gn l c) (gn l a)
   apply Decidable.byContradiction
   intro J
   have e4:leN (gn l a) (gn l c):=vQ J
   have e5:leN (gn l a) (gn l L):=cY e4 H
   have e6:=jF.2 e5
   exact e6 C
  .dsimp only
   rw[mA1 (by simpa using t),hlf (by omega) (by omega) R]
   simp only[mC1]
   rw[inat (by omega),cO rfl (show h<l.length by omega),cO rfl (show a<l.length by omega)]
   simp only[mC1]
   rw[eD (by omega),eD (by omega)]
   simp only[mC1,F5_eq]
   by_cases o:cN (gn l h) (gn l a)<0
   .refine .inl ⟨o,?_⟩
    rw[mA1 (by simpa using o),iadd (n:=h+1) (by omega) (by omega)]
    rfl
   .refine .inr ⟨o,?_⟩
    rw[lY1 (by simpa using o)]
    rfl
  .dsimp only
   rw[lY1 (by simpa using E)]
  .obtain ⟨z,rfl,z1,z2,z3,z4⟩:=V
   rw[isub (n:=z-1) (by omega) (by omega)]
   refine Ob (lO1 (a:=a) (z:=z) (l:=l) (by omega) (by omega) hl (fun k c A t B=>?_) (fun c=>?_)) fun r hr=>?_
   .dsimp only
    rw[mA1 (by simp;omega),iadd (n:=k+1) (by omega) (by omega)]
    exact cN1 rfl rfl (by omega) (by omega)
   .dsimp only
    rw[lY1 (by simp)]
   .refine .mk ⟨cK1 (lW1 _) (by omega) (by omega) z2 hr.1 hr.2.1 hr.2.2,?_⟩
    have q:=cL1 (s:=a) (m:=a+1) (e:=z) (b:=b) (lW1 _) (by omega) (by omega) z2 hr.2.2 F G
    refine Cr.glue (m:=a+(z-(a+1))) (cM1 (lW1 _) (by omega) (by omega) z2 hr.2.2 F G (fun u v A t=>by omega) (fun w u A t B C=>?_)) q.2.1 ?_
    .rw [show u=a by omega];exact tX (z3 w A t)
    .refine Cr.glue (m:=z) (fun p q A t B C=>?_) q.2.2.1 q.2.2.2
     rw[hr.2.2,hr.2.2,rot3 (by omega) (by omega),rot4 (by omega) (by omega) (by omega),show p-(z-(a+1))=a by omega]
     exact vQ (z4 q B C)
 .have hd:b=m+1:=by
   have:=eq_of_beq hd
   omega
  subst hd
  refine Ob (iT1 (lo:=a) (hi:=m) (fun c=>¬cN (gn l m) (gn l c)<0) (fun c L A t B C=>?_) (by omega) (by omega) (fun i j h A t B C Z R=>?_) (fun i j E=>?_)) fun x V=>?_
  .have H:=F c L A t B
   exact jF.2 (cY H (jF.1 C))
  .dsimp only
   rw[mA1 (by simpa using t),hlf (by omega) (by omega) R]
   simp only[mC1]
   rw[inat (by omega),cO rfl (show h<l.length by omega),cO rfl (show m<l.length by omega)]
   simp only[mC1]
   rw[eD (by omega),eD (by omega)]
   simp only[mC1,F5_eq]
   by_cases o:cN (gn l m) (gn l h)<0
   .refine .inr ⟨fun J=>J o,?_⟩
    rw[lY1 (by simpa using o)]
    rfl
   .refine .inl ⟨o,?_⟩
    rw[mA1 (by simpa using o),iadd (n:=h+1) (by omega) (by omega)]
    rfl
  .dsimp only
   rw[lY1 (by simpa using E)]
  .obtain ⟨z,rfl,z1,z2,z3,z4⟩:=V
   refine Ob (lP1 (a:=z) (z:=m) (l:=l) (by omega) (by omega) hl (fun k c A t B=>?_) (fun c=>?_)) fun r hr=>?_
   .dsimp only
    rw[mA1 (by simp;omega),isub (n:=k-1) (by omega) (by omega)]
    exact cN1 rfl rfl (by omega) (by omega)
   .dsimp only
    rw[lY1 (by simp)]
   .refine .mk ⟨cK1 z1 z2 (by omega) (lW1 _) hr.1 hr.2.1 hr.2.2,?_⟩
    have q:=cL1 (s:=z) (m:=m) (e:=m+1) (b:=m+1) z1 z2 (by omega) (lW1 _) hr.2.2 F G
    refine Cr.glue (m:=z+(m+1-m)) (cM1 z1 z2 (by omega) (lW1 _) hr.2.2 F G (fun u v A t=>by omega) (fun w u A t B C=>?_)) ?_ q.2.2.1
    .rw [show w=m by omega];exact tX (Decidable.byContradiction fun J=>z4 u B C J)
    .refine Cr.glue (m:=z) (fun p q A t B C=>?_) q.1 q.2.1
     rw[hr.2.2,hr.2.2,rot1 (by omega),rot2 (by omega) (by omega),show q+(m-z)=m by omega]
     exact jF.1 (z3 p A t)
 .have hc:m-a≠1:=fun h=>hc (by rw[h];rfl)
  have hd:b-m≠1:=fun h=>hd (by rw[h];rfl)
  have K:∃g:Nat,g=(a+b)/2:=⟨_,rfl⟩
  obtain⟨g,K⟩:=K
  rw[hlf (h:=g) (by omega) (by omega) (by omega)]
  simp only[mC1]
  rw[inat (by omega),iadd (n:=g+m) (by omega) (by omega),isub (b:=1) (n:=g+m-1) (by omega) (by omega)]
  refine Ob (P:=fun r=>∃x y:Nat,r=((x:Int),(y:Int))/\(m>g/\x=g+m-b/\y=g\/m<=g/\x=a/\y=m)) ?_ fun r hr=>?_
  .by_cases O:(m:Int)>(g:Int)
   .rw [mA1 (by simpa using O),isub (n:=g+m-b) (by omega) (by omega)]
    exact .mk ⟨_,_,rfl,.inl ⟨by omega,rfl,rfl⟩⟩
   .rw [lY1 (by simpa using O)]
    exact .mk ⟨_,_,rfl,.inr ⟨by omega,rfl,rfl⟩⟩
  obtain⟨x,y,rfl,b4⟩:=hr
  dsimp only
  have x1:a<=x:=by omega
  have x2:x<=y:=by omega
  have x3:y<=m:=by omega
  have x4:y<=g:=by omega
  have x5:g+m-x<=b:=by omega
  have x6:m<=g+m-y:=by omega
  refine Ob (iT1 (lo:=x) (hi:=y) (fun c=>¬cN (gn l (g+m-1-c)) (gn l c)<0) (fun c L A t B C=>?_) x2 (by omega) (fun i j h A t B C Z R=>?_) (fun i j E=>?_)) fun u hu=>?_
  .have H:=F c L (by omega) t (by omega)
   have e2:=G (g+m-1-L) (g+m-1-c) (by omega) (by omega) (by omega)
   exact jF.2 (cY H (cY (jF.1 C) e2))
  .dsimp only
   rw[mA1 (by simpa using t),hlf (by omega) (by omega) R]
   simp only[mC1]
   rw[inat (by omega),isub (n:=g+m-1-h) (by omega) (by omega),cO rfl (show g+m-1-h<l.length by omega),cO rfl (show h<l.length by omega)]
   simp only[mC1]
   rw[eD (by omega),eD (by omega)]
   simp only[mC1,F5_eq]
   by_cases o:cN (gn l (g+m-1-h)) (gn l h)<0
   .refine .inr ⟨fun J=>J o,?_⟩
    rw[lY1 (by simpa using o)]
    rfl
   .refine .inl ⟨o,?_⟩
    rw[mA1 (by simpa using o),iadd (n:=h+1) (by omega) (by omega)]
    rfl
  .dsimp only
   rw[lY1 (by simpa using E)]
  obtain⟨s,rfl,z1,z2,z3,z4⟩:=hu
  rw[isub (n:=g+m-s) (by omega) (by omega)]
  obtain⟨e,he⟩:∃e:Nat,e=g+m-s:=⟨_,rfl⟩
  rw[<-he]
  have T:a<=s:=by omega
  have U:s<=m:=by omega
  have S:m<=e:=by omega
  have W:e<=b:=by omega
  have t5:s+(e-m)=g:=by omega
  refine Ob (P:=fun r=>r.Perm l/\r.length=l.length/\∀p,gn r p=rotF (gn l) s m e p) ?_ fun r hr=>?_
  .by_cases D:s<m/\m<e
   .rw [mA1 (by simpa using D)]
    exact Ob (Fn106_ok D.1 D.2 (by omega) hl) fun d hd=>.mk hd
   .rw [lY1 (by simpa using D)]
    exact .mk ⟨.refl _,rfl,fun p=>(cJ1 U S (by omega)).symm⟩
  have g0:=cK1 T U S W hr.1 hr.2.1 hr.2.2
  have M:=cL1 T U S W hr.2.2 F G
  have g2:=cM1 T U S W hr.2.2 F G (fun u v A t B C=>by
   have H:=F u (s-1) A (by omega) (by omega)
   have e2:=G e v S B C
   have N:=jF.1 (z3 (s-1) (by omega) (by omega))
   rw[show g+m-1-(s-1)=e by omega]at N
   exact cY H (cY N e2)) (fun w u A t B C=>by
   have H:=G w (e-1) A (by omega) (by omega)
   have e2:=F s u T B C
   have N:=tX (Decidable.byContradiction fun J=>z4 s (lW1 _) (by omega) J)
   rw[show g+m-1-s=e-1 by omega]at N
   exact cY H (cY N e2))
  rw[t5]at M g2
  have b0:=hr.2.1
  refine Ob (P:=fun d=>Sg d r a g/\SS d a g) ?_ fun d hd=>?_
  .by_cases D:a<s/\s<g
   .rw [mA1 (by simpa using D)]
    exact Ob (ih a s g r D.1 D.2 (by omega) (by omega) (by omega) M.1 M.2.1) fun d hd=>.mk hd
   .rw [lY1 (by simpa using D)]
    refine .mk ⟨Sg.refl _ _ _,?_⟩
    by_cases hs:s=a
    .rw [<-hs];exact M.2.1
    .rw [show g=s by omega];exact M.1
  have a0:=hd.1.2.1
  have c2:=g2.left hd.1
  have X:SS d g e:=M.2.2.1.off hd.1 (.inr (lW1 _))
  have Y:SS d e b:=M.2.2.2.off hd.1 (.inr (by omega))
  refine Ob (P:=fun f=>Sg f d g b/\SS f g b) ?_ fun f hf=>?_
  .by_cases D:g<e/\e<b
   .rw [mA1 (by simpa using D)]
    exact Ob (ih g e b d D.1 D.2 (by omega) (by omega) (by omega) X Y) fun d hd=>.mk hd
   .rw [lY1 (by simpa using D)]
    refine .mk ⟨Sg.refl _ _ _,?_⟩
    by_cases hs:e=g
    .rw [<-hs];exact Y
    .rw [show b=e by omega];exact X
  refine .mk ⟨((hf.1.mono (by omega) (lW1 _)).trans (hd.1.mono (lW1 _) (by omega))).trans g0,?_⟩
  exact Cr.glue (c2.right hf.1) (hd.2.off hf.1 (.inl (lW1 _))) hf.2
theorem cO1:∀(k:Nat) (a m b:Nat) (l:List aE),a<m->m<b->b<=l.length->l.length<4611686018427387904->b-a<=2^k->SS l a m->SS l m b->Ok (Gsym k ((a:Nat):Int) ((m:Nat):Int) ((b:Nat):Int) l) (fun r=>Sg r l a b/\SS r a b)
 |0,a,m,b,l,h1,h2,h3,hl,hw,s1,s2=>by omega
 |k+1,a,m,b,l,h1,h2,h3,hl,hw,s1,s2=>Fn56_step (rec:=Gsym k) (w:=2^k) (cO1 k) h1 h2 h3 hl (by rw[Nat.pow_succ]at hw;omega) s1 s2
theorem Fn56_ok {a m b:Nat} {l:List aE} (h1:a<m) (h2:m<b) (c:b<=l.length) (hl:l.length<4611686018427387904) (d:SS l a m) (e:SS l m b):Ok (Fn56 ((a:Nat):Int) ((m:Nat):Int) ((b:Nat):Int) l) (fun r=>Sg r l a b/\SS r a b):=
 cO1 64 a m b l h1 h2 c hl (by rw[show(2:Nat)^64=18446744073709551616 from rfl];omega) d e
end Go.P
namespace Go.P
theorem Fn55_ok {a b:Nat} {l:List aE} (h1:a<=b) (h2:b<=l.length) (hl:l.length<4611686018427387904):Ok (Fn55 ((a:Nat):Int) ((b:Nat):Int) l) (fun r=>Sg r l a b/\SS r a b):=by
 unfold Fn55
 rw[iadd (n:=a+1) (by omega) (by omega)]
 refine Ob (P:=fun r=>Sg r l a b/\SS r a b) (cS (fun(q:Int×List aE)=>∃i:Nat,q.1=(i:Int)/\a+1<=i/\(i<=b\/i=a+1)/\Sg q.2 l a b/\SS q.2 a i) (fun(q:Int×List aE)=>b-q.1.toNat) (fun q x=>?_) B64 _ ⟨a+1,rfl,lW1 _,.inr rfl,.refl _ _ _,fun p q e o h=>by rw[show p=q by omega];exact rL _⟩ (by simp only[B64];omega)) fun r hr=>.mk hr
 obtain⟨F,c⟩:=q
 obtain⟨i,z,g2,E,u,w⟩:=x
 dsimp only at z u w ⊢
 subst z
 have B:=u.2.1
 by_cases m:(i:Int)<(b:Int)
 .rw [mA1 (by simpa using m)]
  refine Ob (P:=fun r=>Sg r l a b/\SS r a (i+1)) (cS (fun(q:Int×List aE)=>∃j:Nat,q.1=(j:Int)/\a<=j/\j<=i/\Sg q.2 l a b/\∀p s,a<=p->p<s->s<=i->s≠j->leN (gn q.2 p) (gn q.2 s)) (fun(q:Int×List aE)=>q.1.toNat) (fun q x=>?_) B64 _ ⟨i,rfl,by omega,lW1 _,u,fun p s e o h A=>w p s e (by omega) (by omega)⟩ (by simp only[B64];omega)) fun r hr=>?_
  .obtain ⟨G,d⟩:=q
   obtain⟨j,y,D,f3,k,g⟩:=x
   dsimp only at y k g ⊢
   subst y
   have C:=k.2.1
   by_cases h0:(j:Int)>(a:Int)
   .rw [mA1 (by simpa using h0),isub (n:=j-1) (by omega) (by omega),cO rfl (show j<d.length by omega),cO rfl (show j-1<d.length by omega)]
    simp only[mC1]
    rw[eD (by omega),eD (by omega)]
    simp only[mC1,F5_eq]
    by_cases hc:cN (gn d j) (gn d (j-1))<0
    .rw [mA1 (by simpa using hc),kY (by omega)]
     simp only[mC1]
     rw[cO rfl (show j-1<(d.set j (gn d (j-1))).length by simp;omega)]
     simp only[mC1]
     rw[kY (by simp;omega)]
     simp only[mC1]
     rw[show(d.set j (gn d (j-1))).set (j-1) (gn d j)=swp d j (j-1)from rfl]
     refine .mk ⟨⟨j-1,rfl,by omega,by omega,(Sg.swp (by omega) (by omega) (by omega) (by omega) (by omega)).trans k,fun p s e o h A=>?_⟩,by dsimp only;omega⟩
     dsimp only
     rw[oB (by omega) (by omega),oB (by omega) (by omega),lY1 A]
     by_cases f:s=j
     .subst f
      rw[mA1 rfl]
      by_cases e2:p=s-1
      .rw [mA1 e2];exact tX hc
      .rw [lY1 e2,lY1 (by omega)]
       exact g p (s-1) e (by omega) (by omega) (by omega)
     .rw [lY1 f]
      by_cases e2:p=j-1
      .rw [mA1 e2]
       exact g j s (by omega) (by omega) h f
      .rw [lY1 e2]
       by_cases t:p=j
       .rw [mA1 t]
        exact g (j-1) s (by omega) (by omega) h f
       .rw [lY1 t]
        exact g p s e o h f
    .rw [lY1 (by simpa using hc)]
     refine .mk ⟨k,fun p s e o h=>?_⟩
     by_cases v:p=s
     .subst v;exact rL _
     .by_cases f:s=j
      .have e2:=vQ hc
       by_cases t:p=j-1
       .rw [f,t];exact e2
       .rw [f];exact cY (g p (j-1) e (by omega) (by omega) (by omega)) e2
      .exact g p s e (by omega) (by omega) f
   .rw [lY1 (by simpa using h0)]
    simp only[mC1,mG1,nI1]
    refine .mk ⟨k,fun p s e o h=>?_⟩
    by_cases v:p=s
    .subst v;exact rL _
    .exact g p s e (by omega) (by omega) (by omega)
  .rw [iadd (n:=i+1) (by omega) (by omega)]
   exact .mk ⟨⟨i+1,rfl,by omega,.inl (by omega),hr.1,hr.2⟩,by dsimp only;omega⟩
 .rw [lY1 (by simpa using m)]
  exact .mk ⟨u,w.sub (lW1 _) (by omega)⟩
def Bk (w n:Nat) (c:List aE):Prop:=∀t,SS c (t*w) (min (t*w+w) n)
theorem SS.nil {l:List aE} {a b:Nat} (h:b<=a):SS l a b:=fun p q h1 h2 c=>by omega
theorem Fn33_ok {l:List aE} (hl:l.length<1152921504606846976):Ok (Fn33 (l.length:Int) l) (fun r=>Sg r l 0 l.length/\SS r 0 l.length):=by
 unfold Fn33
 refine Ob (P:=fun r=>∃t:Nat,r.1=((t*20:Nat):Int)/\t*20<=l.length/\l.length<t*20+20/\Sg r.2 l 0 l.length/\∀u,u<t->SS r.2 (u*20) (u*20+20)) (cS (fun(q:Int×Int×List aE)=>∃t:Nat,q.1=((t*20:Nat):Int)/\q.2.1=((t*20+20:Nat):Int)/\t*20<=l.length/\Sg q.2.2 l 0 l.length/\∀u,u<t->SS q.2.2 (u*20) (u*20+20)) (fun(q:Int×Int×List aE)=>l.length-q.1.toNat) (fun q p=>?_) B64 _ ⟨0,rfl,rfl,by omega,.refl _ _ _,fun u h=>by omega⟩ (by simp only[B64];omega)) fun r hr=>?_
 .obtain ⟨y,E,c⟩:=q
  obtain⟨t,i,g2,o,f,g⟩:=p
  dsimp only at i g2 f g ⊢
  subst i g2
  have k:=f.2.1
  by_cases hc:((t*20+20:Nat):Int)<=(l.length:Int)
  .rw [mA1 (by simpa using hc)]
   refine Ob (Fn55_ok (a:=t*20) (b:=t*20+20) (l:=c) (by omega) (by omega) (by omega)) fun d hd=>?_
   rw[iadd (n:=(t+1)*20+20) (by omega) (by omega)]
   refine .mk ⟨⟨t+1,by dsimp only;omega,rfl,by omega,(hd.1.mono (by omega) (by omega)).trans f,fun u D=>?_⟩,by dsimp only;omega⟩
   by_cases e:u=t
   .subst e;exact hd.2
   .exact (g u (by omega)).off hd.1 (.inl (by omega))
  .rw [lY1 (by simpa using hc)]
   exact .mk ⟨t,rfl,o,by omega,f,g⟩
 obtain⟨y,c⟩:=r
 obtain⟨t,i,g2,o,f,g⟩:=hr
 dsimp only at i f g ⊢
 subst i
 have k:=f.2.1
 refine Ob (Fn55_ok (a:=t*20) (b:=l.length) (l:=c) g2 (by omega) (by omega)) fun d hd=>?_
 have H:Bk 20 l.length d:=fun u=>by
  by_cases z:u<t
  .exact ((g u z).off hd.1 (.inl (by omega))).sub (lW1 _) (by omega)
  .by_cases e2:u=t
   .subst e2;exact hd.2.sub (lW1 _) (by omega)
   .exact .nil (by omega)
 have J:Sg d l 0 l.length:=(hd.1.mono (by omega) (lW1 _)).trans f
 refine Ob (P:=fun r=>Sg r l 0 l.length/\SS r 0 l.length) (cS (fun(q:Int×List aE)=>∃w:Nat,q.1=(w:Int)/\0<w/\w<2305843009213693952/\Sg q.2 l 0 l.length/\Bk w l.length q.2) (fun(q:Int×List aE)=>l.length-q.1.toNat) (fun q p=>?_) B64 _ ⟨20,rfl,by omega,by omega,J,H⟩ (by simp only[B64];omega)) fun r hr=>.mk hr
 obtain⟨N,c⟩:=q
 obtain⟨w,B,L,f3,v,A⟩:=p
 dsimp only at B v A ⊢
 subst B
 have k:=v.2.1
 by_cases hw:(w:Int)<(l.length:Int)
 .rw [mA1 (by simpa using hw),cU (n:=2*(w:Int)) (by omega) (by omega),cU (n:=(w:Int)*2) (by omega) (by omega)]
  refine Ob (P:=fun r=>∃t:Nat,r.1=((2*(t*w):Nat):Int)/\2*(t*w)<=l.length/\l.length<2*(t*w)+2*w/\Sg r.2 l 0 l.length/\(∀u,u<t->SS r.2 (2*(u*w)) (2*(u*w)+2*w))/\∀u,2*t<=u->SS r.2 (u*w) (min (u*w+w) l.length))
   (cS (fun(q:Int×Int×List aE)=>∃t:Nat,q.1=((2*(t*w):Nat):Int)/\q.2.1=((2*(t*w)+2*w:Nat):Int)/\2*(t*w)<=l.length/\Sg q.2.2 l 0 l.length/\(∀u,u<t->SS q.2.2 (2*(u*w)) (2*(u*w)+2*w))/\∀u,2*t<=u->SS q.2.2 (u*w) (min (u*w+w) l.length)) (fun(q:Int×Int×List aE)=>l.length-q.1.toNat) (fun q p=>?_) B64 _ ⟨0,by simp,by simp,by omega,v,fun u h=>by omega,fun u _=>A u⟩ (by simp only[B64];omega)) fun r hr=>?_
  .obtain ⟨y,E,c⟩:=q
   obtain⟨t,i,g2,o,f,g,j⟩:=p
   dsimp only at i g2 f g j ⊢
   subst i g2
   have k:=f.2.1
   have s:(2*t)*w=2*(t*w):=Nat.mul_assoc _ _ _
   have x:(2*t+1)*w=2*(t*w)+w:=by rw[nG1,s]
   have M:(t+1)*w=t*w+w:=nG1 _ _
   by_cases hc:((2*(t*w)+2*w:Nat):Int)<=(l.length:Int)
   .rw [mA1 (by simpa using hc),iadd (n:=2*(t*w)+w) (by omega) (by omega),cU (n:=((2*(t*w)+2*w:Nat):Int)+2*(w:Int)) (by omega) (by omega)]
    have q1:=j (2*t) (lW1 _)
    have q2:=j (2*t+1) (by omega)
    rw[s]at q1
    rw[x]at q2
    refine Ob (Fn56_ok (a:=2*(t*w)) (m:=2*(t*w)+w) (b:=2*(t*w)+2*w) (l:=c) (by omega) (by omega) (by omega) (by omega) (q1.sub (lW1 _) (by omega)) (q2.sub (lW1 _) (by omega))) fun d hd=>?_
    refine .mk ⟨⟨t+1,by dsimp only;omega,by dsimp only;omega,by omega,(hd.1.mono (by omega) (by omega)).trans f,fun u D=>?_,fun u D=>?_⟩,by dsimp only;omega⟩
    .by_cases e:u=t
     .subst e;exact hd.2
     .have:=mR1 w (show u+1<=t by omega)
      rw[nG1]at this
      exact(g u (by omega)).off hd.1 (.inl (by omega))
    .have:=mR1 w (show 2*t+1+1<=u by omega)
     rw[nG1,x]at this
     exact(j u (by omega)).off hd.1 (.inr (by omega))
   .rw [lY1 (by simpa using hc)]
    exact .mk ⟨t,rfl,o,by omega,f,g,j⟩
  .obtain ⟨y,c⟩:=r
   obtain⟨t,i,g2,o,f,g,j⟩:=hr
   dsimp only at i f g j ⊢
   subst i
   have k:=f.2.1
   have s:(2*t)*w=2*(t*w):=Nat.mul_assoc _ _ _
   have x:(2*t+1)*w=2*(t*w)+w:=by rw[nG1,s]
   have q1:=j (2*t) (lW1 _)
   have q2:=j (2*t+1) (by omega)
   rw[s]at q1
   rw[x]at q2
   rw[iadd (n:=2*(t*w)+w) (by omega) (by omega)]
   refine Ob (P:=fun d=>Sg d l 0 l.length/\Bk (w*2) l.length d) ?_ fun d hd=>?_
   .have fin:∀d,Sg d c (2*(t*w)) l.length->SS d (2*(t*w)) l.length->Bk (w*2) l.length d:=fun d F G u=>by
     have K:u*(w*2)=2*(u*w):=by rw[<-Nat.mul_assoc,Nat.mul_comm]
     rw[K]
     by_cases z:u<t
     .have:=mR1 w (show u+1<=t by omega)
      rw[nG1]at this
      exact((g u z).off F (.inl (by omega))).sub (lW1 _) (by omega)
     .by_cases e2:u=t
      .subst e2;exact G.sub (lW1 _) (by omega)
      .have:=mR1 w (show t+1<=u by omega)
       rw[nG1]at this
       exact .nil (by omega)
    by_cases C:((2*(t*w)+w:Nat):Int)<(l.length:Int)
    .rw [mA1 (by simpa using C)]
     refine Ob (Fn56_ok (a:=2*(t*w)) (m:=2*(t*w)+w) (b:=l.length) (l:=c) (by omega) (by omega) (by omega) (by omega) (q1.sub (lW1 _) (by omega)) (q2.sub (lW1 _) (by omega))) fun d hd=>?_
     exact .mk ⟨(hd.1.mono (by omega) (lW1 _)).trans f,fin d hd.1 hd.2⟩
    .rw [lY1 (by simpa using C)]
     exact .mk ⟨f,fin c (.refl _ _ _) (q1.sub (lW1 _) (by omega))⟩
   .exact .mk ⟨⟨w*2,by dsimp only;omega,by omega,by omega,hd.1,hd.2⟩,by dsimp only;omega⟩
 .rw [lY1 (by simpa using hw)]
  have q:=A 0
  rw[pE1]at q
  exact .mk ⟨v,q.sub (lW1 _) (by omega)⟩
theorem Fn26_ok {l:List aE} (hl:l.length<1152921504606846976):Ok (Fn26 l) (fun r=>Sd r l):=by
 unfold Fn26
 refine Ob (Fn33_ok hl) fun r hr=>.mk ⟨hr.1.1,List.pairwise_iff_getElem.2 fun i j hi a b=>?_⟩
 have:=hr.2 i j (by omega) (by omega) (by rw[<-hr.1.2.1];exact a)
 rwa [tY hi,tY a]at this
theorem rM {A:Type} {l m:List A} (h:l.length+m.length<=1073741824):lapp false l m=some (l++m):=by
 have e:Sim.maxRoom=1073741824:=rfl
 unfold lapp
 rw[mA1 ⟨by rw[e];omega,fun h=>by cases h⟩]
theorem Fn27_eq {l:List aE} (hl:l.length<=1073741824):Fn27 [] l=some l:=by
 refine eqOk ?_
 unfold Fn27
 refine Ob (P:=fun r=>r=l) (oA (l:=l) (fun(q:Int×List aE)=>q.1) (fun(i:Nat) (q:Int×List aE)=>q.2=l.take i) (by omega) rfl rfl (fun i e q c f hi b a hg hw=>?_) (fun q hi a=>?_)) fun r hr=>.mk hr
 .obtain ⟨k,o⟩:=q
  dsimp only at hi b a hg hw ⊢
  subst hi a
  obtain⟨d,rfl⟩:=lX1.1 c
  rw[mA1 (by simpa using b),hg]
  simp only[mC1]
  unfold Fy32_4
  rw[rM (by simp;omega)]
  refine .mk ⟨hw,?_⟩
  dsimp only
  rw[List.take_add_one,c]
  rfl
 .obtain ⟨k,o⟩:=q
  dsimp only at hi a ⊢
  rw[hi,lY1 (by simp)]
  exact .mk (by rw[a,pA1])
theorem Fn9_ok {l:List aE} (hl:l.length<=1073741824):Ok (Fn9 l) (fun r=>Sd r l):=by
 unfold Fn9 Fn17 Fn16 Fn25 Fn32
 simp only[mC1]
 rw[Fn27_eq hl]
 simp only[mC1]
 exact Ob (P:=fun r=>Sd r l) (Ob (Fn26_ok (by omega)) fun r hr=>.mk hr) fun r hr=>.mk hr
end Go.P
namespace Go.P
theorem xJ {A:Type} {l:List A} {i:Nat} (h:i<l.length):lget l (i:Int)=some l[i]:=by
 unfold lget
 rw[mA1 (by omega),Int.toNat_natCast]
 exact nL1 h
theorem F6_eq (x y:aE):F6 x y=some (cN x y):=by
 refine eqOk ?_
 unfold F6 cN KN
 generalize hA:[x.On,x.Number,x.Part,x.Staff,x.Voice,x.Off,x.Event.Site,x.Event.Number,x.Head]=A
 generalize hB:[y.On,y.Number,y.Part,y.Staff,y.Voice,y.Off,y.Event.Site,y.Event.Number,y.Head]=B
 have f:A.length=9:=by rw[<-hA];rfl
 have g:B.length=9:=by rw[<-hB];rfl
 refine Ob (P:=fun r=>match r with|.inl v=>v=cmpL A B|.inr _=>0=cmpL A B) (oA (l:=A) (fun q=>q) (fun i _=>cmpL (A.drop i) (B.drop i)=cmpL A B) (by omega) rfl rfl (fun i e q h j hi d a hg hw=>?_) (fun q hi a=>?_)) fun r hr=>?_
 .rw [hi]at hg d hw ⊢
  obtain⟨b,rfl⟩:=lX1.1 h
  have c:i<B.length:=by omega
  rw[mA1 (by simpa using d),cO rfl b,cO rfl c]
  simp only[mC1]
  rw[show lnth A i=some A[i]from nL1 b,show lnth B i=some B[i]from nL1 c]
  simp only[mC1]
  rw[List.drop_eq_getElem_cons b,List.drop_eq_getElem_cons c,cmpL]at a
  by_cases h1:A[i]<B[i]
  .rw [mA1 h1]at a
   rw[mA1 (by simpa using h1)]
   exact .mk a
  .rw [lY1 h1]at a
   rw[lY1 (by simpa using h1)]
   by_cases h2:A[i]>B[i]
   .rw [mA1 h2]at a
    rw[mA1 (by simpa using h2)]
    exact .mk a
   .rw [lY1 h2]at a
    rw[lY1 (by simpa using h2),hw]
    exact .mk ⟨rfl,a⟩
 .rw [hi,lY1 (by simp)]
  rw[List.drop_length]at a
  exact .mk (by simpa[cmpL]using a)
 .rcases r with v|_
  .exact .mk hr
  .exact .mk hr
theorem F4_ok {l:List aE} {x:aE} (hl:l.length<1000) (hs:l.Pairwise leN):Ok (F4 l x) (fun r=>r.Perm (x::l)/\r.Pairwise leN):=by
 unfold F4
 refine Ob (P:=fun at'=>∃k:Nat,at'=(k:Int)/\k<=l.length/\(∀q (h:q<l.length),k<=q->leN x l[q])/\∀(h:k-1<l.length),0<k->leN l[k-1] x) (cS (fun(q:Int)=>∃k:Nat,q=(k:Int)/\k<=l.length/\∀p (h:p<l.length),k<=p->leN x l[p]) (fun(q:Int)=>q.toNat) (fun q j=>?_) B64 (l.length:Int) ⟨l.length,rfl,lW1 _,fun p h h2=>by omega⟩ (by simp only[B64];omega)) fun r hr=>?_
 .obtain ⟨k,rfl,h1,h2⟩:=j
  by_cases h0:(k:Int)>0
  .rw [mA1 (by simpa using h0),isub (n:=k-1) (by omega) (by omega)]
   have hk:k-1<l.length:=by omega
   rw[xJ hk]
   simp only[mC1,F6_eq]
   by_cases hc:cN l[k-1] x>0
   .rw [mA1 (by simpa using hc)]
    refine .mk ⟨⟨k-1,rfl,by omega,fun p h hp=>?_⟩,by omega⟩
    by_cases d:p=k-1
    .subst d
     exact tX (by have:=pQ l[k-1] x;omega)
    .exact h2 p h (by omega)
   .rw [lY1 (by simpa using hc)]
    exact .mk ⟨k,rfl,h1,h2,fun _ g=>by unfold leN;omega⟩
  .rw [lY1 (by simpa using h0)]
   simp only[mC1,mG1,nI1]
   exact .mk ⟨k,rfl,h1,h2,fun _ g=>by omega⟩
 .obtain ⟨k,rfl,h1,h2,c⟩:=hr
  have f:eY l 0 (k:Int)=some (l.take k):=by
   unfold eY
   rw[mA1 ⟨by omega,by omega,by omega⟩]
   simp
  have e2:eY l (k:Int) (l.length:Int)=some (l.drop k):=by
   unfold eY
   rw[mA1 ⟨by omega,by omega,by omega⟩]
   simp only[Int.toNat_natCast]
   rw[mV1 (by simp)]
  rw[f]
  simp only[mC1]
  rw[rM (by simp;omega)]
  simp only[mC1,List.nil_append]
  rw[rM (by simp;omega)]
  simp only[mC1]
  rw[e2]
  simp only[mC1]
  rw[rM (by simp;omega)]
  refine .mk ⟨?_,?_⟩
  .have:=List.perm_middle (a:=x) (l₁:=l.take k) (l₂:=l.drop k)
   rw[oH1]at this
   simpa using this
  .rw [List.append_assoc,List.pairwise_append]
   have b:=hs
   rw[<-oH1 k l,List.pairwise_append]at b
   have hd:∀y∈l.drop k,leN x y:=fun y hy=>by
    obtain⟨i,hi,rfl⟩:=List.mem_iff_getElem.1 hy
    rw[List.getElem_drop]
    exact h2 _ _ (by omega)
   have m:∀y∈l.take k,leN y x:=fun y hy=>by
    obtain⟨i,hi,rfl⟩:=List.mem_iff_getElem.1 hy
    rw[oC1]at hi
    rw[List.getElem_take]
    have c:=c (by omega) (by omega)
    by_cases he:i=k-1
    .subst he;exact c
    .exact cY (List.pairwise_iff_getElem.1 hs i (k-1) (by omega) (by omega) (by omega)) c
   refine⟨b.1,?_,fun y hy z e=>?_⟩
   .rw [List.singleton_append,List.pairwise_cons]
    exact⟨fun y hy=>hd y hy,b.2.1⟩
   .rcases mL1.1 e with rfl|e
    .exact m y hy
    .exact b.2.2 y hy z e
theorem F8_self {l:List aE} (hl:l.length<1000):F8 l l=some true:=by
 refine eqOk ?_
 unfold F8
 rw[lY1 (by simp)]
 refine Ob (P:=fun r=>match r with|.inl _=>False|.inr _=>True) (oA (l:=l) (fun q=>q) (fun _ _=>True) (by omega) rfl trivial (fun i e q c d hi a _ hg hw=>?_) (fun q hi _=>?_)) fun r hr=>?_
 .rw [hi]at hg a hw ⊢
  obtain⟨b,rfl⟩:=lX1.1 c
  rw[mA1 (by simpa using a),hg]
  simp only[mC1]
  rw[lY1 (by simp),hw]
  exact .mk ⟨rfl,trivial⟩
 .rw [hi,lY1 (by simp)]
  exact .mk trivial
 .rcases r with _|_
  .exact hr.elim
  .exact .mk rfl
theorem law3 {a:List aE} (h1:a.length<9223372036854775808):F3 a=some true:=by
 refine eqOk ?_
 unfold F3
 have c:eY a 0 (if 40<(a.length:Int)then 40 else(a.length:Int))=some (a.take 40):=by
  unfold eY
  by_cases hc:40<(a.length:Int)
  .rw [mA1 hc,mA1 ⟨by omega,by omega,by omega⟩];rfl
  .rw [lY1 hc,mA1 ⟨by omega,by omega,by omega⟩]
   simp only[Int.toNat_natCast,Int.toNat_zero,nJ1,Nat.sub_zero]
   rw[mV1 (lW1 _),mV1 (by omega)]
 rw[c]
 simp only[mC1]
 have hl:(a.take 40).length<=40:=by rw[oC1];omega
 generalize a.take 40=l at hl ⊢
 refine Ob (P:=fun r=>match r with|.inl _=>False|.inr w=>Sd w l) (oA (l:=l) (fun(q:List aE×Int)=>q.2) (fun(i:Nat) (q:List aE×Int)=>Sd q.1 (l.take i)) (by omega) rfl ⟨List.Perm.refl _,List.Pairwise.nil⟩ (fun i e q g j hi d b hg hw=>?_) (fun q hi b=>?_)) fun r hr=>?_
 .obtain ⟨o,k⟩:=q
  dsimp only at hi d b hg hw ⊢
  subst hi
  obtain⟨f,rfl⟩:=lX1.1 g
  rw[mA1 (by simpa using d),hg]
  simp only[mC1]
  have hlen:=b.1.length_eq
  rw[oC1]at hlen
  refine Ob (F4_ok (l:=o) (x:=l[i]) (by omega) b.2) fun r hr=>?_
  have h:lget l 0=some l[0]:=xJ (i:=0) (by omega)
  rw[h]
  simp only[mC1,F5_eq,F6_eq]
  rw[lY1 (by simp)]
  simp only[mC1]
  rw[lY1 (by simp),hw]
  refine .mk ⟨rfl,?_,hr.2⟩
  dsimp only
  rw[List.take_add_one,nL1 f]
  exact hr.1.trans ((List.Perm.cons _ b.1).trans (List.perm_append_singleton _ _).symm)
 .obtain ⟨o,k⟩:=q
  dsimp only at hi b ⊢
  subst hi
  rw[lY1 (by simp)]
  rw[pA1]at b
  exact .mk b
 .rcases r with _|w
  .exact hr.elim
  .simp only[mC1,mW1]
   refine Ob (Fn9_ok (l:=l) (by omega)) fun s hs=>?_
   rw[hs.uniq hr (.refl _),F8_self (by rw[hr.1.length_eq];omega)]
   exact .mk rfl
end Go.P
