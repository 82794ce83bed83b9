import Derived.Test.YtlmhifhgadmigaaGreatLaA
import Derived.ControlIn
import Derived.LoopNIn
import GoSem.ClaimChange
import Derived.Below
import Derived.DataReads
import Derived.ChangeSame
import Derived.ProofKit
import Derived.OpenShut
/- A text of the proof. -/
set_option linter.unusedVariables false
set_option linter.unusedSimpArgs false
namespace Go.Sim
structure fK (s s':Hp):Prop where
 wf:Wf s.h s.n->Wf s'.h s'.n
 n:s.n<=s'.n
theorem fK.refl (s:Hp):fK s s:=⟨id,jR2 _⟩
theorem fK.trans {a b c:Hp} (h:fK a b) (k:fK b c):fK a c:=⟨fun w=>k.wf (h.wf w),kP2 h.n k.n⟩
theorem Ef (out:Out) (s:Hp):fK s (out.apply s):=by
 constructor;intro hw
 have a:Wf (match out.up with|some (id,ob)=>upd s.h id ob|none=>s.h) s.n:=by
  split;exact hw.upd _ _;exact hw
 simp only[Out.apply];split;exact⟨by simp,a⟩;exact a;simp only[Out.apply];split;simp;exact jR2 _
theorem zA (s:Hp) (id:Nat) (o:AO):fK s {h:=upd s.h id o,n:=s.n}:=⟨fun h=>h.upd _ _,jR2 _⟩
section
variable {T:gA} {ex:Nat->Bool->IC->St->Option (Ex×St)}
def lP (ex:Nat->Bool->IC->St->aB (Ex×St)):Prop:=∀lim rd c σ e a,ex lim rd c σ=some (e,a)->fK σ.s a.s
theorem Hs (b:lP ex) {lim:Nat} {fn:IFn} {args:aA AV} {s s':Hp} {v:AV} (h:body ex lim fn args s=some (v,s')):fK s s':=by
 unfold body at h;split at h;cases h;rename_i e σ a he;simp only[jQ2,kF2]at h;obtain⟨v',_,_,rfl⟩:=h;exact b _ _ _ _ _ _ he;cases h
theorem mO (a:lP ex) {lim:Nat} {f:FuncId} {args:aA AV} {s s':Hp} {v:AV} (h:callF T ex lim f args s=some (v,s')):fK s s':=by
 unfold callF at h;split at h;cases h;split at h;split at h;simp only[jQ2,kF2]at h;obtain⟨_,_,_,rfl⟩:=h;exact .refl _;split at h;split at h;split at h;split at h;cases h;exact .refl _;cases h;cases h;cases h;split at h;simp only[jQ2,kF2]at h;obtain⟨_,_,_,rfl⟩:=h;exact .refl _;cases h;exact Hs a h
theorem mP {l:Nat} {s s':Hp} {st:LoopState} {pend:aB IC} (h:endRound l s st pend=some s'):fK s s':=by
 obtain⟨_,_,_,_,_,_,_,rfl⟩:=kM h;exact zA _ _ _
theorem Eg (d:lP ex) {lim l:Nat} {args:aA AV} {s s':Hp} {v:AV} (h:round ex lim l args s=some (v,s')):fK s s':=by
 unfold Sim.round at h;split at h;split at h;split at h;rename_i σ f;have h1:=d _ _ _ _ _ _ f;split at h
 have fin:∀{e:Ex} {τ:St} {id:Nat} {o:AO} {lim:Nat} {rd:Bool} {c:IC} {st:LoopState} {pend:aB IC} {b:AV},ex lim rd c {t:=σ.t,s:={h:=upd σ.s.h id o,n:=σ.s.n}}=some (e,τ)->
   (endRound l τ.s st pend).map (fun s=>(b,s))=some (v,s')->fK s s':=by
  intro e τ id o lim rd c st pend b hb a;simp only[jQ2,kF2]at a;obtain⟨g,a,_,rfl⟩:=a;exact((h1.trans (zA _ id o)).trans (d _ _ _ _ _ _ hb)).trans (mP a)
 split at h
 grind
 grind
 grind
 cases h;cases h;cases h;cases h;cases h
theorem jL (a:lP ex) {lim:Nat} {k:dQ} {xs:aA AV} {s s':Hp} {v:AV} (h:step T ex lim k xs s=some (v,s')):fK s s':=by
 unfold step at h;split at h;exact mO a h;split at h;unfold callV at h;split at h;exact mO a h;exact Eg a h;cases h;cases h;split at h;cases h;exact Ef _ _;cases h
theorem lQ (c:lP ex) {lim:Nat}:∀{os:aA Sim.Op1} {σ a:St},runOps T ex lim os σ=some a->fK σ.s a.s
 |[],σ,a,h=>by
  simp only[runOps,jT2]at h
  subst h
  exact .refl _
 |o::os,σ,a,h=>by
  simp only[runOps]at h
  split at h
  split at h
  split at h
  rename_i b
  exact(jL c b).trans (lQ c h)
  cases h
  cases h
  have:=lQ c h
  exact this
theorem tD {run:Hp->aB (AV×Hp)} (hr:∀s v s',run s=some (v,s')->fK s s') {a:aA Nat} {xs:aA AV} {s b:Hp} {v:AV} {W:aA Nat} (h:sU run a xs s=some (v,b,W)):fK s b:=by
 obtain⟨s',w,h1,h2,rfl,_⟩:=lN h;have hg:=hr _ _ _ h1;exact⟨fun hw=>Wf.new (hw.updAll w) (hg.wf (hw.hide a)) hg.n,hg.n⟩
theorem gC (c:lP ex) {lim:Nat} {before:aA Nat}:∀{os:aA Sim.Op1} {j:Nat} {fs:aA Foot} {σ d:St} {a:aA Foot},cQ T ex lim before os j fs σ=some (d,a)->fK σ.s d.s
 |[],j,fs,σ,d,a,h=>by
  simp only[cQ,jT2,kF2]at h
  obtain⟨rfl,_⟩:=h
  exact .refl _
 |o::os,j,fs,σ,d,a,h=>by
  simp only[cQ]at h
  split at h
  split at h
  split at h
  split at h
  have:=gC c h
  exact this
  cases h
  split at h
  split at h
  rename_i b
  exact(tD (fun _ _ _=>jL c) b).trans (gC c h)
  cases h
  split at h
  rename_i b
  exact(jL c b).trans (gC c h)
  cases h
  cases h
  have:=gC c h
  exact this
theorem zB {σ:Hp}:fK σ {h:=popMark σ.h,n:=σ.n}:=⟨fun h=>h.pop,jR2 _⟩
theorem vM {σ:Hp}:fK σ {h:=.mark::σ.h,n:=σ.n}:=⟨fun h=>h,jR2 _⟩
theorem vN (T:gA):∀d,lP (exec T d)
 |0,_,_,_,_,_,_,h=>by simp[exec]at h
 |d+1,lim,rd,c,σ,e,σ',h=>by
  have ih:=vN T d
  unfold exec at h
  split at h
  cases h;exact .refl _
  simp only[jQ2,kF2]at h
  obtain⟨τ,h,_,rfl⟩:=h
  exact lQ ih h
  split at h
  rename_i hf
  split at h
  cases h
  exact gC ih hf
  cases h
  cases h
  split at h
  rename_i a
  exact(ih _ _ _ _ _ _ a).trans (ih _ _ _ _ _ _ h)
  exact ih _ _ _ _ _ _ h
  split at h
  exact ih _ _ _ _ _ _ h
  cases h
  split at h
  rename_i a
  split at h
  cases h;exact ih _ _ _ _ _ _ a
  cases h;exact ih _ _ _ _ _ _ a
  exact ih _ _ _ _ _ _ h
  split at h
  rename_i a
  exact((vM.trans (ih _ _ _ _ _ _ a)).trans zB).trans (ih _ _ _ _ _ _ h)
  rename_i a
  cases h
  exact(vM.trans (ih _ _ _ _ _ _ a)).trans zB
  cases h
  split at h
  split at h
  rename_i hc
  have h1:=mO ih hc
  have h2:∀o:AO,fK σ.s {h:=.ob σ.s.n o::σ.s.h,n:=σ.s.n+1}:=fun o=>⟨fun h=>⟨by simp,h⟩,by simp⟩
  have f:=(h2 _).trans h1
  split at h
  split at h
  cases h
  split at h
  cases h
  rename_i b
  have g:=f.trans (mP b)
  split at h<;>cases h<;>exact g
  cases h
  cases h
  cases h
  cases h;exact .refl _
  cases h;exact .refl _
end
end Go.Sim
namespace Go.Sim
section
variable {P:Program} {F:Fence} {n:Nat} {b:Frame} {a:Act} {k:List Item} {cs:List Frame} {w:World} {Q:Exit->Act->World->Prop}
theorem gQ {c:Code}:Go.step P (lone (b.atR a (.code (.scope c)::k)) cs w)=.next (lone (b.atR a (.code c::.inScope c::k)) cs w):=
 step_lone_go (by simp[stepG,stepG.exec,Frame.atR])
theorem yA {c:Code}:Go.step P (lone (b.atR a (.inScope c::k)) cs w)=.next (lone (b.atR a k) cs w):=
 step_lone_go (by simp[stepG,stepG.exec,Frame.atR])
theorem Ht {c:Code} (hg:∀l a w,¬Q (.goto l) a w) (h:c.wpIn F n P Q a w):(Code.scope c).wpIn F n P Q a w:=by
 intro b k cs j hb hr;have h0:(lone (b.atR a (.code (.scope c)::k)) cs w).fenced P F:=fenced_calm hb hr rfl;obtain⟨e,g,w₁,f,d⟩:=h b (.inScope c::k) cs j hb hr;cases e with
 |normal=>exact⟨.normal,g,w₁,f,.head h0 gQ (StepsIn.trans d (.one (fenced_calm hb hr rfl) yA))⟩
 |exit id=>
  have m:exitTo id (.inScope c::k)=exitTo id k:=by simp[exitTo]
  exact⟨.exit id,g,w₁,f,fun k' hk=>.head h0 gQ (d.1 k' (by rw[m];exact hk)),
   fun i hk=>let⟨o,h1,h2⟩:=d.2 i (by rw[m];exact hk);⟨o,h1,.head h0 gQ h2⟩⟩
 |goto l=>exact(hg _ _ _ f).elim
 |ret=>exact⟨_,g,w₁,f,.of_steps (.one h0 gQ) d⟩
 |panic ch=>exact⟨_,g,w₁,f,.of_steps (.one h0 gQ) d⟩
 |outgrown=>exact⟨_,g,w₁,f,.of_steps (.one h0 gQ) d⟩
end
end Go.Sim
namespace Go.Sim
section
variable {T:gA} {L L':Nat->Option AO} {lim n n':Nat} {k:dQ} {xs:List AV} {out:Out}
theorem gV {esz:Nat} {x:AV} {r:aA (aA AV)} (h:rowsOf L esz x=some r) (a:∀id ao,id∈idOf x->L id=some ao->L' id=some ao):rowsOf L' esz x=some r:=by
 unfold rowsOf at h;split at h;simpa only[rowsOf]using h;simpa only[rowsOf]using h;simpa only[rowsOf]using h;simpa only[rowsOf]using h;split at h;rename_i hl;simp only[rowsOf,a _ _ (by simp[idOf]) hl];exact h;cases h;cases h
theorem Au {x:AV} {r:aA (AV×AV)} (h:entsOf L x=some r) (a:∀id ao,id∈idOf x->L id=some ao->L' id=some ao):entsOf L' x=some r:=by
 unfold entsOf at h;split at h;exact h;split at h;rename_i hl;simp only[entsOf,a _ _ (by simp[idOf]) hl];exact h;cases h;exact h;cases h
theorem vO {ty:TypeId} {esz:Nat} {s:AV} {new:aA (aA AV)} {o:Out} (h:appendTo L lim n ty esz s new=some o) (a:∀id ao,id∈idOf s->L id=some ao->L' id=some ao):appendTo L' lim n ty esz s new=some o:=by
 unfold appendTo at h;split at h;simpa only[appendTo]using h;simpa only[appendTo]using h;simpa only[appendTo]using h;split at h;rename_i hl;simp only[appendTo,a _ _ (by simp[idOf]) hl];exact h;cases h;cases h
theorem yB {esz:Nat} {lo hi mx:Bool} {x:AV} {g:aA AV} {v:AV} (h:sliceOp L esz lo hi mx (x::g)=some v) (k:∀id ao,id∈idOf x->L id=some ao->L' id=some ao):sliceOp L' esz lo hi mx (x::g)=some v:=by
 have key:∀(L:Nat->aB AO),(∀a b c d e f,x≠.sl a b c d e f)->sliceOp L esz lo hi mx (x::g)=sliceOp L' esz lo hi mx (x::g):=by
  intro L j;cases x<;>first|rfl|exact absurd rfl (j _ _ _ _ _ _)|(rename_i y;cases y<;>first|rfl|(rename_i a b c;cases a<;>cases b<;>cases c<;>rfl))
 by_cases j:∃a b c d e f,x=.sl a b c d e f;obtain⟨z,id,ver,off,len,cap,rfl⟩:=j;cases hl:L id with
 |none=>
  exfalso;simp only[sliceOp,hl]at h;split at h<;>cases h
 |some ao=>
  have i:=k id ao (by simp[idOf]) hl;simp only[sliceOp,hl]at h;simp only[sliceOp,i];exact h
 grind
theorem Mr {ty:TypeId} {esz b:Nat} {zero:aA Value} {zeros:Bool} {s x:AV} (h:doOp L lim n (.append ty esz b zero zeros) [s,x]=some out) (e:∀id ao,id∈idOf x->L id=some ao->L' id=some ao) (hs:∀id ao,id∈idOf s->L id=some ao->L' id=some ao):
  doOp L' lim n (.append ty esz b zero zeros) [s,x]=some out:=by
 simp only[doOp]at h ⊢;split at h;rename_i new a
 have c:appRows L' esz zeros zero x=some new:=by
  cases zeros;simp only[appRows,kB2,kU2]at a ⊢;exact gV a e;simp only[appRows,kR2]at a ⊢;exact a
 split at h;rename_i o d;simp only[c,vO d hs];exact h;cases h;cases h
theorem Hu (h:doOp L lim n k xs=some out) (b:∀id ao,id∈(foot T k xs).rd\/id∈(foot T k xs).wr->L id=some ao->L' id=some ao):doOp L' lim n k xs=some out:=by
 unfold doOp at h;split at h
 all_goals first|(simp only[doOp];exact h)|skip
 ·
  split at h
  .simpa only[doOp]using h
  .split at h
   .rename_i hl
    simp only[doOp,b _ _ (.inl (by simp[foot,idOf])) hl];exact h
   .cases h
  .cases h
 ·
  split at h
  .simpa only[doOp]using h
  .split at h
   .rename_i hl
    simp only[doOp,b _ _ (.inl (by simp[foot,idOf])) hl];exact h
   .cases h
  .cases h
 ·
  split at h
  .rename_i hc
   split at h
   .rename_i hl
    simp only[doOp,hc,b _ _ (.inr (by simp[foot,idOf])) hl];exact h
   .cases h
  .cases h
 ·
  split at h
  .rename_i hr
   simp only[doOp,gV hr (fun id ao a=>b id ao (.inl a))];exact h
  .cases h
 ·
  rename_i x;simp only[jQ2]at h;obtain⟨v,hv,rfl⟩:=h;cases xs with
  |nil=>simp[sliceOp]at hv
  |cons x bs=>simp only[doOp,yB hv (fun id ao a=>b id ao (.inl a)),kL2]
 ·
  split at h
  .rename_i c
   split at h
   .rename_i es he
    simp only[doOp,c,kR2,Au he (fun id ao a=>b id ao (.inl a))];exact h
   .cases h
  .cases h
 ·
  split at h
  .split at h
   .rename_i hl
    simp only[doOp,b _ _ (.inr (by simp[foot,idOf])) hl];exact h
   .cases h
  .cases h
 ·
  split at h
  all_goals first|(simp only[doOp];exact h)|skip
  .split at h
   .rename_i hl
    simp only[doOp,b _ _ (.inl (by simp[foot,idOf])) hl];exact h
   .cases h
 .exact Mr h (fun id ao a=>b id ao (.inl a)) (fun id ao a=>b id ao (.inr a))
 ·
  split at h
  .rename_i rows hr
   split at h
   .simp only[doOp,gV hr (fun id ao a=>b id ao (.inl a))]
    exact h
   .simp only[doOp,gV hr (fun id ao a=>b id ao (.inl a))]
    exact h
   .split at h
    .rename_i hl
     simp only[doOp,gV hr (fun id ao a=>b id ao (.inl a)),b _ _ (.inr (by simp[foot,idOf])) hl];exact h
    .cases h
   .cases h
  .cases h
 ·
  split at h
  .simpa only[doOp]using h
  .simpa only[doOp]using h
  .split at h
   .rename_i hl
    simp only[doOp,b _ _ (.inr (by simp[foot,idOf])) hl];exact h
   .cases h
  .cases h
theorem Eh {ty:TypeId} {esz:Nat} {s:AV} {new:aA (aA AV)} {o:Out} {id:Nat} {ao:AO} (h:appendTo L lim n ty esz s new=some o) (a:o.up=some (id,ao)):id∈idOf s/\(L id).isSome=true:=by
 unfold appendTo at h;split at h
 .grind
 .grind
 .grind
 .split at h
  .rename_i hl
   repeat' split at h
   all_goals cases h
   all_goals cases a
   all_goals exact⟨by simp[idOf],by rw[hl];rfl⟩
  .cases h
 .cases h
theorem Hv {ty:TypeId} {esz:Nat} {s:AV} {new:aA (aA AV)} {o:Out} (h:appendTo L lim n ty esz s new=some o) (a:o.new=none):appendTo L lim n' ty esz s new=some o:=by
 unfold appendTo at h;split at h;split at h;rename_i hc;cases h;simp only[appendTo,hc,kR2];cases h;cases a;split at h;rename_i hc;cases h;simp only[appendTo,hc,kR2];cases h;cases a;simpa only[appendTo]using h;split at h;rename_i hl;simp only[appendTo,hl];split at h
 grind
 cases h;cases h;cases h
theorem Ke {ty:TypeId} {esz b:Nat} {zero:aA Value} {zeros:Bool} {s x:AV} (h:doOp L lim n (.append ty esz b zero zeros) [s,x]=some out):
  ∃new,appRows L esz zeros zero x=some new/\appendTo L lim n ty esz s new=some out/\∀n',appendTo L lim n' ty esz s new=some out->doOp L lim n' (.append ty esz b zero zeros) [s,x]=some out:=by
 simp only[doOp]at h;split at h;rename_i new a;split at h;rename_i o c;have:o=out:=by grind
 subst this;refine⟨new,a,c,fun n' h'=>?_⟩;simp only[doOp,a,h'];exact h;cases h;cases h
theorem qC {id:Nat} {ao:AO} (h:doOp L lim n k xs=some out) (c:out.up=some (id,ao)):id∈(foot T k xs).wr/\(L id).isSome=true:=by
 have a:∀ty esz b zero zeros s x,k=.append ty esz b zero zeros->xs=[s,x]->id∈(foot T k xs).wr/\(L id).isSome=true:=by
  rintro ty esz b zero zeros s x rfl rfl;obtain⟨new,h1,h2,_⟩:=Ke h;exact Eh h2 c
 unfold doOp at h;split at h
 all_goals first|exact a _ _ _ _ _ _ _ rfl rfl|skip
 all_goals clear a
 all_goals (repeat' split at h)
 all_goals first
  |(cases h;done)
  |(simp only[jQ2]at h;obtain⟨_,_,rfl⟩:=h;cases c;done)
  |(cases h;cases c;done)
  |(have hl:= ‹L _=some _›;cases h;cases c;exact⟨by simp[foot,idOf],by rw[hl];rfl⟩)
theorem fJ1 (h:doOp L lim n k xs=some out) (c:out.new=none):doOp L lim n' k xs=some out:=by
 have a:∀ty esz b zero zeros s x,k=.append ty esz b zero zeros->xs=[s,x]->doOp L lim n' k xs=some out:=by
  rintro ty esz b zero zeros s x rfl rfl;obtain⟨new,h1,h2,d⟩:=Ke h;exact d n' (Hv h2 c)
 unfold doOp at h;split at h
 all_goals first|exact a _ _ _ _ _ _ _ rfl rfl|skip
 all_goals clear a
 all_goals first|(simp only[doOp];exact h)|skip
 all_goals (repeat' split at h)
 all_goals first
  |(cases h;done)
  |(simp only[jQ2]at h;obtain⟨_,_,rfl⟩:=h;cases c;done)
  |(cases h;cases c;done)
end
end Go.Sim
namespace Go.Sim
theorem oT {a:aA Nat} {i:Nat}:∀{es:aA Edge},(kI a es).testBit i=true->∃e∈es,Region.binds .any e=true/\(i=e.on\/(a.getD e.on 0).testBit i=true)
 |[],h=>by simp[kI]at h
 |e::es,h=>by
  simp only[kI]at h
  split at h
  rename_i hb
  simp only[Nat.testBit_or,kE2]at h
  rcases h with(h|h)|h
  grind
  grind
  obtain⟨e',h1,h2⟩:=oT h
  exact⟨e',by simp[h1],h2⟩
  obtain⟨e',h1,h2⟩:=oT h
  exact⟨e',by simp[h1],h2⟩
theorem mQ:∀(os:aA Oper) (a:aA Nat),∃tail,bR a os=a++tail/\tail.length=os.length/\
  ∀k o,os[k]? =some o->(bR a os).getD (a.length+k) 0=kI ((bR a os).take (a.length+k)) o.after.toList
 |[],a=>⟨[],by simp[bR],rfl,fun k o h=>by simp at h⟩
 |o::os,a=>by
  obtain⟨tail,h1,h2,b⟩:=mQ os (a++[kI a o.after.toList])
  refine⟨kI a o.after.toList::tail,by simp[bR,h1],by simp[h2],fun k o' hk=>?_⟩
  cases k with
  |zero=>
   simp only[mC2,jT2]at hk
   subst hk
   simp only[bR,h1,lY2]
   simp
  |succ k=>
   have:=b k o' (by simpa using hk)
   have e:(a++[kI a o.after.toList]).length+k=a.length+(k+1):=by simp;omega
   rw[e]at this
   exact this
theorem mR {ops:aA Oper} (a:∀j o,ops[j]? =some o->∀e∈o.after.toList,Region.binds .any e=true->e.on<j) {D:Nat->Prop}
  (q:∀i oi,D i->ops[i]? =some oi->∀e∈oi.after.toList,Region.binds .any e=true->D e.on):∀(j:Nat) (o:Oper),ops[j]? =some o->(∀e∈o.after.toList,Region.binds .any e=true->D e.on)->
   ∀i,((bR [] ops).getD j 0).testBit i=true->D i:=by
 intro j
 induction j using Nat.strongRecOn with
 |_ j ih=>
  intro o k he i hi;obtain⟨tail,h1,h2,m⟩:=mQ ops [];have l:=m j o k;simp only[kC2,lN2]at l;rw[l]at hi;obtain⟨e,f,g,c⟩:=oT hi;rcases c with rfl|c;exact he e f g;have h:=a j o k e f g;have r:j<ops.length:=(jP2.1 k).1;have n:((bR [] ops).take j).getD e.on 0=(bR [] ops).getD e.on 0:=by grind
  rw[n]at c;have b:ops[e.on]? =some ops[e.on]:=by simp
  exact ih e.on h _ b (fun e' p d=>q e.on _ (he e f g) b e' p d) i c
theorem tE {j:Nat} {o:Sim.Op1} {a:Nat}:∀{ps:aA Sim.Op1} {b:Nat},Ah j o a ps b=true->∀k p,ps[k]? =some p->b+k<j->
  a.testBit (b+k)=true\/((∀d,p.dst=some d->o.dst≠some d/\d∉o.reads)/\∀d,o.dst=some d->d∉p.reads)
 |[],b,h,k,p,hk,_=>by simp at hk
 |q::ps,b,h,k,p,hk,hlt=>by
  simp only[Ah,jO2,kE2,jY2]at h
  obtain⟨h1,h2⟩:=h
  cases k with
  |zero=>
   simp only[mC2,jT2]at hk
   subst hk
   rw[lY2]at hlt ⊢
   rcases h1 with(h1|h1)|h1
   omega
   exact .inl h1
   grind
  |succ k=>
   have:=tE h2 k p (by simpa using hk) (by omega)
   have e:b+1+k=b+(k+1):=by omega
   rwa [e]at this
def eW (ft:Nat->Foot):Nat->aA Foot
 |0=>[]
 |j+1=>ft j::eW ft j
theorem jM {ft ft':Nat->Foot}:∀{j:Nat},(∀i,i<j->ft i=ft' i)->eW ft j=eW ft' j
 |0,_=>rfl
 |j+1,h=>by rw[eW,eW,h j (by omega),jM (fun i hi=>h i (by omega))]
theorem revF_length (ft:Nat->Foot):∀j,(eW ft j).length=j
 |0=>rfl
 |j+1=>by simp[eW,revF_length ft j]
section
variable (T:gA) (ex:Nat->Bool->IC->St->Option (Ex×St))
def Po (lim a m j:Nat) (o:Sim.Op1) (ft:Nat->Foot) (st:Nat->St) (v:Nat->AV):Prop:=
  (st (j+1)).t=put (st j).t o.dst (v j)/\
  ((wanted (st j).t o.guard=false/\v j=.undef/\ft j={}/\(st (j+1)).s=(st j).s)\/
   (wanted (st j).t o.guard=true/\∃xs,evs (st j).t o.xs=some xs/\(foot T o.k xs).all=1/\ft j=foot T o.k xs/\(st (j+1)).s=(st j).s/\
     ∃b,step T ex lim o.k xs {h:=hide (unseen a j (eW ft j)) (st j).s.h,n:=(st j).s.n+Vo (m-j)}=some (v j,b))\/
   (wanted (st j).t o.guard=true/\∃xs,evs (st j).t o.xs=some xs/\((foot T o.k xs).all≠1/\(foot T o.k xs).all≠3)/\ft j={foot T o.k xs with al:=List.range' (st j).s.n ((st (j+1)).s.n-(st j).s.n)}/\
     step T ex lim o.k xs (st j).s=some (v j,(st (j+1)).s))\/
   (wanted (st j).t o.guard=true/\∃xs W,evs (st j).t o.xs=some xs/\(foot T o.k xs).all=3/\ft j={wr:=W,al:=List.range' (st j).s.n ((st (j+1)).s.n-(st j).s.n),all:=1}/\
     sU (step T ex lim o.k xs) (unseen a j (eW ft j)) xs (st j).s=some (v j,(st (j+1)).s,W)))
variable {T ex}
theorem Po.congr {lim a m j:Nat} {o:Sim.Op1} {ft ft':Nat->Foot} {st st':Nat->St} {v v':Nat->AV} (h:Po T ex lim a m j o ft st v) (hf:∀i,i<=j->ft' i=ft i) (h1:st' j=st j) (h2:st' (j+1)=st (j+1)) (b:v' j=v j):
  Po T ex lim a m j o ft' st' v':=by
 unfold Po at *;rw[h1,h2,b,hf j (jR2 _),jM (ft:=ft') (ft':=ft) (j:=j) (fun i hi=>hf i (by omega))];exact h
theorem Ei {lim:Nat} {before:aA Nat}:∀(os:aA Sim.Op1) (j:Nat) (σ:St) (a:Nat->Foot) (n:St) (b:aA Foot),cQ T ex lim before os j (eW a j) σ=some (n,b)->
  ∃(st:Nat->St) (ft:Nat->Foot) (v:Nat->AV),(∀i,i<j->ft i=a i)/\st j=σ/\st (j+os.length)=n/\b=eW ft (j+os.length)/\
   ∀k o,os[k]? =some o->Po T ex lim (before.getD (j+k) 0) (j+os.length) (j+k) o ft st v
 |[],j,σ,a,n,b,h=>by
  simp only[cQ,jT2,kF2]at h
  obtain⟨rfl,rfl⟩:=h
  exact⟨fun _=>σ,a,fun _=>.undef,fun _ _=>rfl,rfl,rfl,rfl,fun k o h=>by simp at h⟩
 |o::os,j,σ,a,n,b,h=>by
  have bV:∀(s:St) (f:Foot) (x:AV),cQ T ex lim before os (j+1) (f::eW a j) s=some (n,b)->
    (∀(st:Nat->St) (ft:Nat->Foot) (v:Nat->AV),st j=σ->st (j+1)=s->ft j=f->(∀i,i<j->ft i=a i)->v j=x->Po T ex lim (before.getD j 0) (j+(os.length+1)) j o ft st v)->
    ∃(st:Nat->St) (ft:Nat->Foot) (v:Nat->AV),(∀i,i<j->ft i=a i)/\st j=σ/\st (j+(o::os).length)=n/\b=eW ft (j+(o::os).length)/\
     ∀k o',(o::os)[k]? =some o'->Po T ex lim (before.getD (j+k) 0) (j+(o::os).length) (j+k) o' ft st v:=by
   intro s f x hr hs;let l:Nat->Foot:=fun i=>if i=j then f else a i
   have r:f::eW a j=eW l (j+1):=by
    have h1:l j=f:=jX2 rfl;rw[eW,h1,jM (ft:=l) (ft':=a) (fun i hi=>jU2 (by omega))]
   rw[r]at hr;obtain⟨st,ft,v,h1,h2,z,w,y⟩:=Ei os (j+1) s l n b hr;have p:∀i,i<j->ft i=a i:=fun i hi=>(h1 i (by omega)).trans (jU2 (by omega));have q:ft j=f:=(h1 j (by omega)).trans (jX2 rfl);have hlen:j+(o::os).length=j+1+os.length:=by simp;omega
   refine⟨fun i=>if i=j then σ else st i,ft,fun i=>if i=j then x else v i,p,jX2 rfl,?_,?_,?_⟩
   grind
   rw[hlen];exact w;intro k o' hk;cases k with
   |zero=>
    simp only[mC2,jT2]at hk;subst hk;exact hs _ ft _ (jX2 rfl) ((jU2 (by omega)).trans h2) q p (jX2 rfl)
   |succ k=>
    have u:=y k o' (by simpa using hk);have e:j+1+k=j+(k+1):=by omega
    rw[e,<-hlen]at u;exact u.congr (fun _ _=>rfl) (jU2 (by omega)) (jU2 (by omega)) (jU2 (by omega))
  simp only[cQ]at h;split at h;rename_i hw;split at h;rename_i xs m;split at h;rename_i d;split at h;rename_i v t g;refine bV _ _ v h (fun st ft v' a1 a2 a3 a4 a5=>?_);unfold Po;rw[a1,a2,a5,a3,jM a4];refine⟨rfl,.inr (.inl ⟨hw,xs,m,d,rfl,rfl,t,?_⟩)⟩;have e:j+(os.length+1)-j=os.length+1:=by omega
  rw[e];exact g;cases h;rename_i d;split at h;rename_i c;split at h;rename_i v t W g;refine bV _ _ v h (fun st ft v' a1 a2 a3 a4 a5=>?_);unfold Po;rw[a1,a2,a5,a3,jM a4];exact⟨rfl,.inr (.inr (.inr ⟨hw,xs,W,m,c,rfl,g⟩))⟩;cases h;rename_i c;split at h;rename_i v t g;refine bV _ _ v h (fun st ft v' a1 a2 a3 a4 a5=>?_);unfold Po;rw[a1,a2,a5,a3];exact⟨rfl,.inr (.inr (.inl ⟨hw,xs,m,⟨d,c⟩,rfl,g⟩))⟩;cases h;cases h;rename_i hw;refine bV _ _ .undef h (fun st ft v' a1 a2 a3 a4 a5=>?_);unfold Po;rw[a1,a2,a5,a3];exact⟨rfl,.inl ⟨by simpa using hw,rfl,rfl,rfl⟩⟩
theorem mS {a:Nat} {f:Foot} {ft:Nat->Foot}:∀{j:Nat},drawOK.okAgainst a f (eW ft j) j=true->∀i,i<j->a.testBit i=true\/compat (ft i) f=true
 |0,_,i,hi=>by omega
 |j+1,h,i,hi=>by
  simp only[eW,drawOK.okAgainst,mH2,jO2,kE2]at h
  by_cases e:i=j
  subst e;exact h.1
  exact mS h.2 i (by omega)
theorem tF {before:aA Nat} {ft:Nat->Foot}:∀{m:Nat},drawOK before (eW ft m) m=true->∀j,j<m->∀i,i<j->(before.getD j 0).testBit i=true\/compat (ft i) (ft j)=true
 |0,_,j,hj=>by omega
 |m+1,h,j,hj=>by
  simp only[eW,drawOK,mH2,jO2]at h
  intro i hi
  by_cases e:j=m
  subst e;exact mS h.1 i hi
  exact tF h.2 j (by omega) i hi
end
end Go.Sim
namespace Go.Sim
section
variable {P:Program} {T:gA} {lim n:Nat} {g:Gh} {w:World} {r:Option Nat}
def Hw (P:Program) (T:gA) (ex:Nat->Bool->IC->St->aB (Ex×St)):Prop:=
 ∀(lim:Nat) (ops:Array Oper) (ios:aA Sim.Op1) (σ b:St) (fs:aA Foot) (id:Nat),mapO (gT P ops.toList) ops.toList=some ios->Pv ops.toList ios (bR [] ops.toList)=true->
  cQ T ex lim (bR [] ops.toList) ios 0 [] σ=some (b,fs)->drawOK (bR [] ops.toList) fs fs.length=true->
  ∀(r:aB Nat) (g:Gh) (a:Act) (w:World) (n base:Nat),TR g σ.t a.tmps.toList->iT P g w σ.s->lim<=σ.s.n->base<=w.heap.size->eZ base g w a.defers->
   (Code.region id ops true).wpIn (FW r) n P (vH P base lim g w σ.s .normal b) a w
theorem sZ.trans {base:Nat} {s s' c:Hp} {t e:aA AV} {g' b:Gh} {a' a:Act} {w' d:World} (h:sZ P base lim g w s t s' g' a' w') (k:sZ P base lim g' w' s' e c b a d):
  sZ P base lim g w s e c b a d:=⟨k.t,k.inv,h.ext.trans k.ext,kP2 h.n k.n,k.marks⟩
theorem iT.pop {s:Hp} (h:iT P g w s):iT P g w {h:=popMark s.h,n:=s.n}:=
 ⟨fun id ao a=>h.H id ao (Ec h.wf a),h.W,h.dom,h.wf.pop⟩
theorem iT.mark {s:Hp} (h:iT P g w s):iT P g w {h:=.mark::s.h,n:=s.n}:=⟨h.H,h.W,h.dom,h.wf⟩
theorem zC {base:Nat} {s s':Hp} {t:aA AV} {g':Gh} {e:Ex} {d:St} {e':Exit} {a' a:Act} {w' b:World} (f:sZ P base lim g w s t s' g' a' w') (h:vH P base lim g' w' s' e d e' a b):vH P base lim g w s e d e' a b:=by
 obtain⟨h1,c,h2⟩:=h;exact⟨h1,c,f.trans h2⟩
theorem aJ {D:Nat} (c:∀d,d<D->kL P (exec T d)) {x:Code} {f:IC} (l:comp P x=some f) {rd:Bool} {r:aB Nat} (hr:rd=r.isSome) {e:Ex} {m:St}:
  ∀(d:Nat),d<=D->∀(σ:St) (g:Gh) (a:Act) (w:World) (n base:Nat) (Q:Exit->Act->World->Prop),exec T d lim rd (.loop f) σ=some (e,m)->kA r w->TR g σ.t a.tmps.toList->iT P g w σ.s->lim<=σ.s.n->base<=w.heap.size->eZ base g w a.defers->
   (∀e' a' w',vH P base lim g w σ.s e m e' a' w'->Q e' a' w')->Code.roundsIn (FW r) n P x Q d a w
 |0,_,σ,g,a,w,n,base,Q,h,_,_,_,_,_,_,_=>by simp[exec]at h
 |d+1,hd,σ,g,a,w,n,base,Q,h,hra,ht,hI,hl,hb,hm,hQ=>by
  simp only[exec]at h
  rw[roundsIn_succ]
  split at h
  rename_i τ j
  refine wpIn_mono (c d (by omega) lim rd f _ .normal τ j x l r hr g a w n base hra ht hI.mark hl hb hm) ?_
  rintro o a1 w1 ⟨rfl,i,b⟩
  refine aJ c l hr d (by omega) _ i a1 w1 n base Q h (hra.ext b.ext) b.t b.inv.pop (kP2 hl b.n) (kP2 hb b.ext.size) b.marks ?_
  intro e2 a2 w2 h2
  exact hQ _ _ _ (zC (s':={h:=popMark τ.s.h,n:=τ.s.n}) ⟨b.t,b.inv.pop,b.ext,b.n,b.marks⟩ h2)
  rename_i p τ k j
  cases h
  refine wpIn_mono (c d (by omega) lim rd f _ e τ j x l r hr g a w n base hra ht hI.mark hl hb hm) ?_
  rintro o a1 w1 ⟨rfl,i,b⟩
  cases e with
  |normal=>exact(k rfl).elim
  |ret=>exact hQ _ _ _ ⟨rfl,i,b.t,b.inv.pop,b.ext,b.n,b.marks⟩
  |exit id=>exact hQ _ _ _ ⟨rfl,i,b.t,b.inv.pop,b.ext,b.n,b.marks⟩
  cases h
theorem iT.other {s:Hp} (a:iT P g w s) (o:Obj):iT P g (w.alloc o) s/\mH lim g g w (w.alloc o):=by
 have c:∀b o',g.G b=some o'->b<w.heap.size:=fun b o' h=>(kI2.1 (a.W.still b o' h)).1
 refine⟨⟨fun id ao d=>(a.H id ao d).mono (.refl g) rfl (fun loc hl=>bZ w o (a.W.lt id loc hl)),⟨fun b o' h=>?_,fun id loc h=>?_,a.W.out,a.W.inj⟩,a.dom,a.wf⟩,
  ⟨.refl g,by simp,fun b hb _=>bZ w o hb,fun id loc h=>.inl ⟨loc,h,rfl⟩,fun _ _=>rfl,rfl,rfl,rfl,fun _ _ h=>.inl h,fun b R h=>⟨R,(bZ w o (kI2.1 h).1).trans h⟩⟩⟩
 rw[bZ w o (c b o' h)];exact a.W.still b o' h;have:=a.W.lt id loc h;simp;omega
theorem eZ.fresh {base:Nat}:∀{a:aA Deferred},eZ base g w a->∀d∈a,d.target≠.collected w.heap.size
 |[],_,d,hd=>by simp at hd
 |d0::a,⟨⟨r,h1,h2,h3,_,_,_⟩,h7⟩,d,hd=>by
  rcases kM2.1 hd with rfl|hd
  grind
  exact eZ.fresh h7 d hd
theorem Ej {b:Nat} {R:Loop} (hb:w.heap[b]? =some (.loop R)) (hr:R.state≠.busy):(Instr.endLoop b).run P w=.ok R.pending {w with heap:=w.heap.setIfInBounds b (.loop {R with state:=.exhausted})}:=by
 simp[Instr.endLoop,iI hb,mM hb,hr]
def fK1:aB IC->aB Ex
 |none=>some .normal
 |some .ret=>some .ret
 |some (.exit id)=>some (.exit id)
 |_=>none
theorem vP {ex:Nat->Bool->IC->St->aB (Ex×St)} (b8:kL P ex) (hT:fC P T) {f:Operand} {of:IX} {ps:Array Tmp} {x y:Code} {cx cy:IC} (hf:xV f=some of) (Z:comp P x=some cx) (hy:comp P y=some cy)
  {σ:St} {K:FuncId} {first cap:aA AV} (b7:of.ev σ.t=some (.fn (.func K) first cap)) {v:AV} {s:Hp}
  (c:callF T ex lim K (first++[.fn (.yield σ.s.n) [] []]++cap) {h:=.ob σ.s.n (.loop .ready none σ.t ps.toList cx cy)::σ.s.h,n:=σ.s.n+1}=some (v,s))
  {st:LoopState} {pend:aB IC} {tm:aA AV} {pm:aA Nat} {as bd:IC} (hL:look s.h σ.s.n=some (.loop st pend tm pm as bd)) (d3:st≠.busy) {s':Hp} (U:endRound σ.s.n s .exhausted pend=some s')
  {e:Ex} (he:fK1 pend=some e)
  {a:Act} {base:Nat} (ht:TR g σ.t a.tmps.toList) (hI:iT P g w σ.s) (hl:lim<=σ.s.n) {w1:World} {mark:aA Deferred} {D:Nat} (z:iT P g w1 σ.s) (u:mH lim g g w w1) (Y:eZ base g w1 (mark++a.defers))
  (m:∀d,(Instr.enterLoop d a.tmps ps x y (FW r).round).run P w=.ok (w1.heap.size,mark) (w1.alloc (.loop {state:=.ready,pending:=none,fn:=d,tmps:=a.tmps,params:=ps,assign:=x,body:=y,defers:=D}))):
  (Code.rangeFunc f ps x y).wpIn (FW r) n P (vH P base lim g w σ.s e {t:=σ.t,s:=s'}) a w:=by
 refine wpIn_rangeFunc (fun d _=>?_);have X:=As ht hf b7;generalize hV:a.eval f=V at X;cases X with
 |@fn _ _ _ _ F C l1 l2 v1 v2=>
  have k:∃ifn,T K=some ifn:=by
   unfold callF at c;split at c;cases c
   grind
  obtain⟨ifn,k⟩:=k;obtain⟨fn,b9,b6⟩:=hT.fns K ifn k;obtain⟨⟨cd,B⟩,J⟩:=tC b6;have o:¬fn.name= "runtime.NumGoroutine":=by simpa using J
  let R:Loop:={state:=.ready,pending:=none,fn:=d,tmps:=a.tmps,params:=ps,assign:=x,body:=y,defers:=D}
  let w2:=w1.alloc (.loop R)
  have hn:g.ι σ.s.n=none:=by
   cases h:g.ι σ.s.n with
   |none=>rfl
   |some l=>have:=hI.dom σ.s.n (by rw[h];simp);omega
  let loc:xW:={b:=w1.heap.size,esz:=1,ct:=1,ver:=0}
  obtain⟨j,b5⟩:=Jx (lim:=lim) z.W (.loop R) σ.s.n loc rfl hn hl;let g2:Gh:={G:=g.G,ι:=fun id=>if id=σ.s.n then some loc else g.ι id}
  have E:g2.ι σ.s.n=some loc:=jX2 rfl
  have b0:iT P g2 w2 {h:=.ob σ.s.n (.loop .ready none σ.t ps.toList cx cy)::σ.s.h,n:=σ.s.n+1}:=by
   refine⟨fun id ao ha=>?_,b5,fun id h=>?_,⟨by simp,hI.wf⟩⟩;simp only[look]at ha;split at ha;rename_i e;subst e;cases ha;refine⟨loc,R,E,rfl,?_,rfl,rfl,ht.mono (u.le.trans j.le),by simp[R],Z,hy⟩;show w2.heap[w1.heap.size]? =_
   exact heap_alloc_new w1 _;rename_i e;refine(z.H id ao ha).mono j.le ?_ (fun l hl=>bZ w1 _ (z.W.lt id l hl));show(if id=σ.s.n then some loc else g.ι id)=g.ι id
   rw[jU2 (fun h=>e h.symm)];show id<σ.s.n+1
   by_cases e:id=σ.s.n;omega
   have h:g.ι id≠none:=by
    have:g2.ι id=g.ι id:=jU2 e
    rwa [this]at h
   have:=hI.dom id h;omega
  have hF:TR g first F.toList:=⟨by simpa using l1,fun i x y Z hy=>v1 i x y Z (by simpa using hy)⟩
  have hC:TR g cap C.toList:=⟨by simpa using l2,fun i x y Z hy=>v2 i x y Z (by simpa using hy)⟩
  have q:g.le g2:=u.le.trans j.le
  have A:TR g2 (first++[.fn (.yield σ.s.n) [] []]++cap) (F++#[Value.func (.yield w1.heap.size) #[] #[]]++C).toList:=by
   have:=((hF.mono q).app (.cons (VR.yield (l:=σ.s.n) (b:=w1.heap.size) E (fun _=>rfl)) (.nil g2))).app (hC.mono q);simpa using this
  have d2:eZ base g2 w2 (mark++a.defers):=Y.ext j;refine⟨w1.heap.size,mark,w2,{target:=.fn (.func K) C,args:=F++#[Value.func (.yield w1.heap.size) #[] #[]]},w2,K,F++#[Value.func (.yield w1.heap.size) #[] #[]]++C,w2,m d,?_,fun _ _=>trivial,?_,fun h=>(by cases h),?_⟩;have S:a.eval (.const (.func (.yield w1.heap.size) #[] #[]))=.func (.yield w1.heap.size) #[] #[]:=rfl;simp[resolve,rangeCall,hV,Deferred.ofValue,S];simp[invoke,callFunc,b9,o,B];refine CallsIn.mono (vG (pW b8 hT c A b0 (by show lim<=σ.s.n+1;omega))) ?_;rintro e' w' ⟨V',M,rfl,k1,k2,k3,k4⟩;obtain⟨a0,R3,m1,m2,m3,m4,m5,m6,m7,m8,m9⟩:=mL k2 hL
  have d1:a0=loc:=by
   obtain⟨loc',q1,q2,q3⟩:=k3.le.ι σ.s.n loc E;rw[m1]at q1;cases q1;exact q3 m2.symm
  subst d1;obtain⟨_,_,_,_,_,_,O,rfl⟩:=kM U;rw[hL]at O;cases O;obtain⟨b4,N⟩:=vK (lim:=lim) (st':=.exhausted) (pend':=pend) (R':={R3 with state:=.exhausted}) k2 hL hl m1 m3 rfl m5 rfl rfl rfl rfl;refine⟨_,_,Ej m3 (by rw[m4];exact d3),?_⟩;have p:mH lim g M w {w' with heap:=w'.heap.setIfInBounds loc.b (.loop {R3 with state:=.exhausted})}:=((u.trans j).trans k3).trans N
  have L:sZ P base lim g w σ.s σ.t {h:=upd s.h σ.s.n (.loop .exhausted pend tm pm as bd),n:=s.n} M {a with defers:=mark++a.defers} {w' with heap:=w'.heap.setIfInBounds loc.b (.loop {R3 with state:=.exhausted})}:=
   ⟨ht.mono p.le,b4,p,by have:σ.s.n+1<=s.n:=k4;show σ.s.n<=s.n;omega,(d2.ext k3).ext N⟩
  unfold fK1 at he;split at he;cases he;have:R3.pending=none:=m5;rw[this]at L ⊢;exact⟨rfl,M,L⟩;cases he;have:R3.pending=some .ret:=m5;rw[this]at L ⊢;exact wpIn_ret ⟨rfl,M,L⟩;cases he;have:R3.pending=some (.exit _):=m5;rw[this]at L ⊢;exact wpIn_exit ⟨rfl,M,L⟩;cases he
theorem vQ {ex:Nat->Bool->IC->St->aB (Ex×St)} (m:kL P ex) (K:fC P T) {f:Operand} {of:IX} {ps:Array Tmp} {x y:Code} {E F:IC} (hf:xV f=some of) (M:comp P x=some E) (hy:comp P y=some F)
  {σ:St} {H:FuncId} {first cap:aA AV} (k:of.ev σ.t=some (.fn (.func H) first cap)) {v:AV} {s:Hp}
  (c:callF T ex lim H (first++[.fn (.yield σ.s.n) [] []]++cap) {h:=.ob σ.s.n (.loop .ready none σ.t ps.toList E F)::σ.s.h,n:=σ.s.n+1}=some (v,s))
  {st:LoopState} {pend:aB IC} {R:aA AV} {O:aA Nat} {as N:IC} (J:look s.h σ.s.n=some (.loop st pend R O as N)) (p:st≠.busy) {s':Hp} (d:endRound σ.s.n s .exhausted pend=some s')
  {e:Ex} (he:fK1 pend=some e)
  {a:Act} {base:Nat} (C:kA r w) (L:TR g σ.t a.tmps.toList) (i:iT P g w σ.s) (hl:lim<=σ.s.n) (hb:base<=w.heap.size) (A:eZ base g w a.defers):
  (Code.rangeFunc f ps x y).wpIn (FW r) n P (vH P base lim g w σ.s e {t:=σ.t,s:=s'}) a w:=by
 cases r with
 |none=>
  obtain⟨u,j⟩:=i.other (lim:=lim) (.deferred (some []))
  have B:eZ base g (w.alloc (.deferred (some []))) ([{target:=.collected w.heap.size,args:=#[]}]++a.defers):=by
   refine⟨⟨w.heap.size,rfl,hb,heap_alloc_new w _,fun id l h=>?_,?_,A.fresh⟩,A.ext j⟩;have:=i.W.lt id l h;omega;cases hG:g.G w.heap.size with
   |none=>rfl
   |some o=>
    have:=(kI2.1 (i.W.still _ o hG)).1;omega
  refine vP (D:=w.heap.size) m K hf M hy k c J p d he L i hl u j B (fun q=>?_);simp only[FW,Instr.enterLoop];simp[newObj,Sem.run]
 |some b=>
  obtain⟨R0,z⟩:=C b rfl;refine vP (w1:=w) (mark:=[]) (D:=R0.defers) m K hf M hy k c J p d he L i hl i (.refl lim g w) A (fun q=>?_);simp only[FW,Instr.enterLoop];simp[iI z,newObj];simp[Sem.run]
theorem Ek (K:fC P T) (Y:∀d,kL P (exec T d)->Hw P T (exec T d)):∀D d,d<D->kL P (exec T d)
 |0,d,h=>by omega
 |D+1,d,hdD=>by
  have z:=Ek K Y D
  by_cases W:d<D
  exact z d W
  have V:d=D:=by omega
  subst V
  cases d with
  |zero=>exact fun lim rd c σ e F h=>by simp[exec]at h
  |succ d=>
  have ih:=z d (by omega)
  intro lim rd c σ e F h code hc r hr g a w n base b j m hl hb o
  cases code with
  |skip=>
   simp only[comp,jT2]at hc
   subst hc
   simp only[exec,jT2,kF2]at h
   obtain⟨rfl,rfl⟩:=h
   exact wpIn_skip ⟨rfl,g,j,m,.refl lim g w,jR2 _,o⟩
  |region id ops dr=>
   simp only[comp]at hc
   split at hc
   cases hc
   rename_i ios G
   split at hc
   rename_i A
   split at hc
   rename_i O
   cases hc
   subst A
   simp only[exec]at h
   split at h
   rename_i τ fs hf
   split at h
   rename_i M
   cases h
   exact Y d ih lim ops ios σ F fs id G O hf M r g a w n base j m hl hb o
   cases h
   cases h
   cases hc
   rename_i A
   cases hc
   have A:dr=false:=by simpa using A
   subst A
   simp only[exec,jQ2,kF2]at h
   obtain⟨τ,h,rfl,rfl⟩:=h
   refine wpIn_region ?_
   rw[List.range_eq_range',<-mV2]
   exact rS ih K ops.toList ios 0 σ τ g w a G (by simp) h j m hl o (fun g' a' w' k=>⟨rfl,g',k⟩)
  |seq x y=>
   simp only[comp]at hc
   split at hc
   rename_i u R p hy
   cases hc
   simp only[exec]at h
   refine wpIn_seq ?_
   split at h
   rename_i τ L
   refine wpIn_mono (ih lim rd u σ .normal τ L x p r hr g a w n base b j m hl hb o) ?_
   rintro S a1 w1 ⟨rfl,E,k⟩
   refine wpIn_mono (ih lim rd R τ e F h y hy r hr E a1 w1 n base (b.ext k.ext) k.t k.inv (kP2 hl k.n) (kP2 hb k.ext.size) k.marks) ?_
   intro e2 a2 w2 h2
   exact zC k h2
   rename_i H
   refine wpIn_mono (ih lim rd u σ e F h x p r hr g a w n base b j m hl hb o) ?_
   rintro S a1 w1 ⟨rfl,E,k⟩
   cases e with
   |normal=>exact absurd h (H _)
   |ret=>exact⟨rfl,E,k⟩
   |exit id=>exact⟨rfl,E,k⟩
   cases hc
  |cond c x y=>
   simp only[comp]at hc
   split at hc
   rename_i oc u R N p hy
   cases hc
   simp only[exec]at h
   split at h
   rename_i t C
   have hv:=(As j N C).bool
   refine wpIn_cond hv ?_
   cases t
   exact ih lim rd R σ e F h y hy r hr g a w n base b j m hl hb o
   exact ih lim rd u σ e F h x p r hr g a w n base b j m hl hb o
   cases h
   cases hc
  |block id x=>
   simp only[comp,jQ2]at hc
   obtain⟨u,p,rfl⟩:=hc
   simp only[exec]at h
   refine wpIn_block ?_
   split at h
   rename_i i τ L
   refine wpIn_mono (ih lim rd u σ (.exit i) τ L x p r hr g a w n base b j m hl hb o) ?_
   rintro S a1 w1 ⟨rfl,E,k⟩
   simp only[Ex.toExit,Exit.inBlock]
   split at h
   rename_i hi
   cases h
   rw[jX2 hi]
   exact⟨rfl,E,k⟩
   rename_i hi
   cases h
   rw[jU2 hi]
   exact⟨rfl,E,k⟩
   rename_i H
   refine wpIn_mono (ih lim rd u σ e F h x p r hr g a w n base b j m hl hb o) ?_
   rintro S a1 w1 ⟨rfl,E,k⟩
   cases e with
   |normal=>exact⟨rfl,E,k⟩
   |ret=>exact⟨rfl,E,k⟩
   |exit id=>exact absurd h (H _ _)
  |loop x=>
   simp only[comp,jQ2]at hc
   obtain⟨u,p,rfl⟩:=hc
   exact wpIn_loop_rounds (d+1) (aJ (D:=d+1) z p hr (d+1) (jR2 _) σ g a w n base _ h b j m hl hb o (fun _ _ _ h=>h))
  |rangeFunc f ps x y=>
   simp only[comp]at hc
   split at hc
   rename_i of u R N p hy
   cases hc
   simp only[exec]at h
   split at h
   rename_i gf first cap C
   split at h
   rename_i v s q
   split at h
   rename_i st pend tm pm as Z U
   split at h
   cases h
   rename_i J
   split at h
   cases h
   rename_i s' B
   split at h
   cases h
   exact vQ ih K N p hy C q U J B rfl b j m hl hb o
   cases h
   exact vQ ih K N p hy C q U J B rfl b j m hl hb o
   cases h
   exact vQ ih K N p hy C q U J B rfl b j m hl hb o
   cases h
   cases h
   cases h
   cases h
   cases hc
  |exit id=>
   simp only[comp,jT2]at hc
   subst hc
   simp only[exec,jT2,kF2]at h
   obtain⟨rfl,rfl⟩:=h
   exact wpIn_exit ⟨rfl,g,j,m,.refl lim g w,jR2 _,o⟩
  |ret=>
   simp only[comp,jT2]at hc
   subst hc
   simp only[exec,jT2,kF2]at h
   obtain⟨rfl,rfl⟩:=h
   exact wpIn_ret ⟨rfl,g,j,m,.refl lim g w,jR2 _,o⟩
  |scope x=>
   simp only[comp,jQ2]at hc
   obtain⟨u,p,rfl⟩:=hc
   simp only[exec]at h
   refine Ht (fun l a w X=>by obtain⟨X,_⟩:=X;cases e<;>cases X) ?_
   split at h
   rename_i τ L
   have:e=.normal/\F=τ:=by
    cases d with
    |zero=>simp[exec]at h
    |succ d=>simp only[exec,jT2,kF2]at h;exact⟨h.1.symm,h.2.symm⟩
   obtain⟨rfl,rfl⟩:=this;exact ih lim rd u σ .normal _ L x p r hr g a w n base b j m hl hb o;exact ih lim rd u σ e F h x p r hr g a w n base b j m hl hb o
  |label l=>
   simp only[comp,jT2]at hc;subst hc;simp only[exec,jT2,kF2]at h;obtain⟨rfl,rfl⟩:=h;exact wpIn_label ⟨rfl,g,j,m,.refl lim g w,jR2 _,o⟩
  |_=>simp[comp]at hc
theorem Wd (b:fC P T) (a:∀d,kL P (exec T d)->Hw P T (exec T d)) (d:Nat):kL P (exec T d):=Ek b a (d+1) d (by omega)
end
end Go.Sim
namespace Go.Sim
theorem Kf (T:gA) (k:dQ) (xs:aA AV):(foot T k xs).al=[]:=by
 unfold foot;split<;>rfl
theorem qD (T:gA) (k:dQ) (xs:aA AV):(foot T k xs).all<=3/\((foot T k xs).all≠0->(foot T k xs).rd=[]/\(foot T k xs).wr=[]):=by
 unfold foot
 split<;>first
  |exact⟨by simp,fun h=>absurd rfl h⟩
  |(refine⟨?_,fun _=>⟨rfl,rfl⟩⟩;(repeat' split)<;>simp_all)
theorem nO {T:gA} {k:dQ} {xs:aA AV} (h:(foot T k xs).all=0):(∀f,k≠.callF f)/\k≠.callV:=by
 constructor;rintro f rfl;simp only[foot]at h;split at h
 grind
 cases h;rintro rfl;cases xs with
 |nil=>simp[foot]at h
 |cons x xs=>
  simp only[foot]at h;split at h
  grind
  cases h
theorem oU {T:gA} {ex:Nat->Bool->IC->St->aB (Ex×St)} {lim:Nat} {k:dQ} {xs:aA AV} {s s':Hp} {v:AV} (h:step T ex lim k xs s=some (v,s')) (h0:(foot T k xs).all=0):
  ∃out,doOp (look s.h) lim s.n k xs=some out/\v=out.v/\s'=out.apply s:=by
 obtain⟨h1,h2⟩:=nO h0;unfold step at h;split at h
 grind
 exact absurd rfl h2
 grind
theorem vR {out:Out} {s:Hp} (a:∀i ob,out.up=some (i,ob)->(look s.h i).isSome=true) (id:Nat):look (out.apply s).h id=out.after (look s.h) s.n id:=by
 have hb:look (match out.up with|some (i,ob)=>upd s.h i ob|none=>s.h) id=out.base (look s.h) id:=by
  unfold Out.base;cases hu:out.up with
  |none=>rfl
  |some p=>
   obtain⟨i,ob⟩:=p;simp only[look_upd];have:=a i ob hu;by_cases e:id=i;subst e;simp[this];simp[e]
 unfold Out.apply Out.after;cases hn:out.new with
 |none=>exact hb
 |some ob=>
  simp only[look];by_cases e:s.n=id
  grind
  grind
theorem nP (out:Out) (s:Hp):(out.apply s).n=if out.new.isSome then s.n+1 else s.n:=by
 unfold Out.apply;cases out.new<;>rfl
theorem gD {f:Foot} (h:f.isE=true):f.rd=[]/\f.wr=[]/\f.al=[]/\f.all=0:=by
 simp only[Foot.isE,jO2,List.isEmpty_iff]at h;exact⟨h.1.1.1,h.1.1.2,h.1.2,kG2 h.2⟩
theorem Av {f:Foot} {id:Nat} (h:id∈f.rd\/id∈f.wr):f.isE=false:=by
 cases hE:f.isE with
 |false=>rfl
 |true=>obtain⟨a,b,_⟩:=gD hE;rw[a,b]at h;simp at h
theorem uD {f:Foot} {id:Nat} (h:id∈f.al):f.isE=false:=by
 cases hE:f.isE with
 |false=>rfl
 |true=>obtain⟨_,_,c,_⟩:=gD hE;rw[c]at h;simp at h
theorem mT {f:Foot} (h:f.all≠0):f.isE=false:=by
 cases hE:f.isE with
 |false=>rfl
 |true=>exact absurd (gD hE).2.2.2 h
theorem We {i j:Foot} (h:i.all+j.all<=1\/i.isE=true\/j.isE=true) (a:j.isE=false):i.all<=1:=by
 rcases h with h|h|h;omega;have:=(gD h).2.2.2;omega
 grind
theorem zD {i j:Foot} (h:i.all+j.all<=1\/i.isE=true\/j.isE=true) (hi:i.isE=false):j.all<=1:=by
 rcases h with h|h|h;omega
 grind
 have:=(gD h).2.2.2;omega
theorem fL {i j:Foot} (h:compat0 i j=true):compat i j=true:=by simp[compat,h]
theorem cS {i j:Foot} (h:compat i j=true):(i.all+j.all<=1\/i.isE=true\/j.isE=true)/\(∀x∈i.wr,x∉j.rd/\x∉j.wr)/\(∀x∈j.wr,x∉i.rd)/\(∀x∈i.al,x∉j.rd/\x∉j.wr)/\(i.all=0\/j.wr=[])/\(j.all=0\/i.wr=[]):=by
 simp only[compat,kE2]at h;rcases h with(h|h)|h;obtain⟨a,b,c,d⟩:=gD h;rw[a,b,c,d];exact⟨.inr (.inl h),fun x e=>by simp at e,fun x _ e=>by simp at e,fun x e=>by simp at e,.inl rfl,.inr rfl⟩;obtain⟨a,b,c,d⟩:=gD h;rw[a,b,d];exact⟨.inr (.inr h),fun x _=>⟨fun e=>by simp at e,fun e=>by simp at e⟩,fun x e=>by simp at e,fun x _=>⟨fun e=>by simp at e,fun e=>by simp at e⟩,.inr rfl,.inl rfl⟩;simp only[compat0,jO2,jY2,jV2,kH2,kE2,lR2,List.isEmpty_iff,kT2,lB2]at h;obtain⟨⟨⟨⟨⟨h1,h2⟩,f⟩,g⟩,k⟩,l⟩:=h;exact⟨.inl h1,h2,f,g,k,l⟩
theorem lR {a:Nat} {ft:Nat->Foot} {id:Nat}:∀{j:Nat},∀i,i<j->a.testBit i=false->id∈(ft i).al->id∈unseen a j (eW ft j)
 |0,i,hi,_,_=>by omega
 |j+1,i,hi,hm,hid=>by
  simp only[eW,unseen,mH2,lA2]
  by_cases e:i=j
  grind
  exact .inr (lR i (by omega) hm hid)
theorem zE {l l':aA AV}:∀{xs:aA IX},(∀t,.t t∈xs->l[t]? =l'[t]?)->evs l xs=evs l' xs
 |[],_=>rfl
 |x::xs,h=>by
  have h1:x.ev l=x.ev l':=by
   cases x with
   |t i=>exact h i (by simp)
   |c v=>rfl
  simp only[evs,h1,zE (xs:=xs) (fun t a=>h t (by simp[a]))]
theorem Aw {l l':aA AV} {a:aB (Nat×Bool)} (h:∀i b,a=some (i,b)->l[i]? =l'[i]?):wanted l a=wanted l' a:=by
 cases a with
 |none=>rfl
 |some p=>
  obtain⟨i,b⟩:=p;simp only[Sim.wanted,h i b rfl]
theorem vS (l:aA AV) (d:aB Nat) (v:AV):(put l d v).length=l.length:=by
 cases d<;>simp[put]
theorem oV {l:aA AV} {d:aB Nat} {v:AV} {t:Nat} (h:d≠some t):(put l d v)[t]? =l[t]? :=by
 cases d with
 |none=>rfl
 |some i=>simp only[put,kN2];rw[jU2 (fun e=>h (by rw[e]))]
theorem Rb {l:aA AV} {d a:aB Nat} {v v':AV} (h:∀t,d=some t->a≠some t):put (put l d v) a v'=put (put l a v') d v:=by
 cases d with
 |none=>rfl
 |some i=>
  cases a with
  |none=>rfl
  |some j=>exact List.set_comm _ _ (fun e=>h i rfl (by rw[e]))
structure pN (P:Program) (T:gA) (ex:Nat->Bool->IC->St->Option (Ex×St)) (lim:Nat) (ops:Array Oper) (ios:List Sim.Op1) (st:Nat->St) (ft:Nat->Foot) (v:Nat->AV):Prop where
 comp:mapO (gT P ops.toList) ops.toList=some ios
 back:∀j o,ops.toList[j]? =some o->∀e∈o.after.toList,Region.binds .any e=true->e.on<j
 tmps:∀j o,ios[j]? =some o->∀i p,i<j->ios[i]? =some p->((bR [] ops.toList).getD j 0).testBit i=true\/((∀d,p.dst=some d->o.dst≠some d/\d∉o.reads)/\∀d,o.dst=some d->d∉p.reads)
 step:∀j o,ios[j]? =some o->Po T ex lim ((bR [] ops.toList).getD j 0) ios.length j o ft st v
 com:∀j,j<ios.length->∀i,i<j->((bR [] ops.toList).getD j 0).testBit i=true\/compat (ft i) (ft j)=true
 gr:lP ex
 wf0:Wf (st 0).s.h (st 0).s.n
def rK (ft:Nat->Foot) (j id:Nat):Bool:=(ft j).all==2||(ft j).wr.contains id||(ft j).al.contains id
theorem fL1 {ft:Nat->Foot} {j id:Nat} (h:(ft j).isE=true):rK ft j id=false:=by
 obtain⟨_,b,c,d⟩:=gD h;simp[rK,b,c,d]
def eY (st:Nat->St) (ft:Nat->Foot) (S:Nat->Bool):Nat->Nat->aB AO
 |0,id=>look (st 0).s.h id
 |j+1,id=>if S j&&rK ft j id then look (st (j+1)).s.h id else eY st ft S j id
def kW (ios:aA Sim.Op1) (j:Nat):aB Nat:=(ios[j]?).bind (·.dst)
def tl (ios:aA Sim.Op1) (st:Nat->St) (v:Nat->AV) (S:Nat->Bool):Nat->aA AV
 |0=>(st 0).t
 |j+1=>if S j then put (tl ios st v S j) (kW ios j) (v j)else tl ios st v S j
section
variable {P:Program} {T:gA} {ex:Nat->Bool->IC->St->Option (Ex×St)} {lim:Nat} {ops:Array Oper} {ios:List Sim.Op1} {st:Nat->St} {ft:Nat->Foot} {v:Nat->AV}
theorem pN.get (R:pN P T ex lim ops ios st ft v) {j:Nat} (h:j<ios.length):∃io o,ios[j]? =some io/\ops.toList[j]? =some o/\gT P ops.toList o=some io:=by
 obtain⟨h1,h2⟩:=cH R.comp;obtain⟨o,a,b⟩:=h2 j ios[j] (by simp[h]);exact⟨ios[j],o,by simp[h],a,b⟩
theorem pN.size (R:pN P T ex lim ops ios st ft v):ios.length=ops.size:=by
 obtain⟨h1,h2⟩:=cH R.comp;simpa using h1
theorem pN.grows (R:pN P T ex lim ops ios st ft v) {j:Nat} (h:j<ios.length):fK (st j).s (st (j+1)).s:=by
 obtain⟨io,o,h1,_,_⟩:=R.get h;obtain⟨_,h2⟩:=R.step j io h1;rcases h2 with⟨_,_,_,a⟩|⟨_,xs,_,_,_,a,_⟩|⟨_,xs,_,_,_,a⟩|⟨_,xs,W,_,_,_,a⟩
 rw[a];exact .refl _;rw[a];exact .refl _;exact jL R.gr a;exact tD (fun _ _ _=>jL R.gr) a
theorem pN.mono (R:pN P T ex lim ops ios st ft v) {i:Nat}:∀{j:Nat},i<=j->j<=ios.length->(st i).s.n<=(st j).s.n
  | 0, h, _ => by have:i=0:=by omega
                  subst this;exact jR2 _
  |j+1,h,hm=>by
    by_cases e:i=j+1
    grind
    exact kP2 (R.mono (i:=i) (j:=j) (by omega) (by omega)) (R.grows (by omega)).n
theorem pN.wf (R:pN P T ex lim ops ios st ft v):∀{j:Nat},j<=ios.length->Wf (st j).s.h (st j).s.n
 |0,_=>R.wf0
 |j+1,h=>(R.grows (by omega)).wf (R.wf (by omega))
theorem pN.al (R:pN P T ex lim ops ios st ft v) {j id:Nat} (h:j<ios.length):id∈(ft j).al↔(st j).s.n<=id/\id<(st (j+1)).s.n:=by
 obtain⟨io,o,h1,_,_⟩:=R.get h;obtain⟨_,h2⟩:=R.step j io h1;rcases h2 with⟨_,_,b,a⟩|⟨_,xs,_,_,b,a,_⟩|⟨_,xs,_,h5,b,a⟩|⟨_,xs,W,_,h5,b,a⟩
 rw[b,a];simp;rw[b,a,Kf];simp
 grind
 grind
theorem pN.all (R:pN P T ex lim ops ios st ft v) {j:Nat} (h:j<ios.length):(ft j).all<=2:=by
 obtain⟨io,o,h1,_,_⟩:=R.get h;obtain⟨_,h2⟩:=R.step j io h1;rcases h2 with⟨_,_,a,b⟩|⟨_,xs,_,h5,a,b,_⟩|⟨_,xs,_,h5,a,b⟩|⟨_,xs,W,_,h5,a,b⟩
 rw[a];simp;rw[a];omega;rw[a];have:=(qD T io.k xs).1;have:=h5.2;simp only;omega;rw[a];simp
theorem pN.keep (R:pN P T ex lim ops ios st ft v) {j id:Nat} (h:j<ios.length) (c:rK ft j id=false):look (st (j+1)).s.h id=look (st j).s.h id:=by
 obtain⟨io,o,h1,_,_⟩:=R.get h;obtain⟨_,h2⟩:=R.step j io h1;rcases h2 with⟨_,_,d,b⟩|⟨_,xs,_,_,d,b,_⟩|⟨_,xs,_,h5,d,b⟩|⟨_,xs,W,_,h5,d,b⟩
 rw[b];rw[b];have z:=(qD T io.k xs).1;simp only[rK,mA2,mD2,ne_eq,kT2,lB2]at c;have f:=c.2;rw[R.al h]at f;rw[d]at c;have h0:(foot T io.k xs).all=0:=by grind
 obtain⟨out,r,_,hs⟩:=oU b h0;rw[hs,vR (fun i ob g=>(qC (T:=T) r g).2)];have l:=nP out (st j).s;rw[<-hs]at l;unfold Out.after Out.base;cases hnew:out.new with
 |none=>
  simp only;cases g:out.up with
  |none=>rfl
  |some p=>
   obtain⟨i,ob⟩:=p;have:=(qC (T:=T) r g).1;simp only;rw[jU2 (fun e=>c.1.2 (by rw[e];exact this))]
 |some ob'=>
  rw[hnew]at l;simp only[mG2,kR2]at l;simp only;rw[jU2 (by omega)];cases g:out.up with
  |none=>rfl
  |some p=>
   obtain⟨i,ob⟩:=p;have:=(qC (T:=T) r g).1;simp only;rw[jU2 (fun e=>c.1.2 (by rw[e];exact this))]
 simp only[rK,d,mA2,mD2,ne_eq,kT2,lB2,List.mem_range'_1]at c;obtain⟨⟨_,hw⟩,f⟩:=c;obtain⟨s',w,A,B,x,y,_⟩:=lN b;have l:=(R.grows h).n;have t:=R.wf (j:=j+1) (by omega);by_cases q:id<(st j).s.n;rw[x];simp only;rw[tB q,mK];rw[<-y];exact hw;have m:(st (j+1)).s.n<=id:=by omega
 have a:∀{h:aA eO} {n:Nat},Wf h n->n<=id->look h id=none:=fun hw u=>by
  cases hl:look _ id with
  |none=>rfl
  |some o=>have:=hw.lt hl;omega
 rw[a t m,a (R.wf (j:=j) (by omega)) (by omega)]
theorem vT (R:pN P T ex lim ops ios st ft v) {S:Nat->Bool} {id:Nat}:∀{j:Nat},j<=ios.length->(∀i,i<j->rK ft i id=true->S i=true)->eY st ft S j id=look (st j).s.h id
 |0,_,_=>rfl
 |j+1,hm,h=>by
  simp only[eY]
  cases ht:rK ft j id with
  |true=>simp[h j (by omega) ht]
  |false=>
   simp only[Bool.and_false,kB2,kU2]
   rw[vT R (by omega) (fun i hi=>h i (by omega)),R.keep (by omega) ht]
theorem tG {S:Nat->Bool} {id j:Nat}:∀{m:Nat},j<=m->(∀i,j<=i->i<m->S i=true->rK ft i id=false)->eY st ft S m id=eY st ft S j id
  | 0, hj, _ => by have:j=0:=by omega
                   subst this;rfl
  |m+1,hj,h=>by
    by_cases e:j=m+1
    subst e;rfl
    simp only[eY]
    have h1:¬((S m&&rK ft m id)=true):=by grind
    rw[jU2 h1]
    exact tG (by omega) (fun i hi a=>h i hi (by omega))
theorem dG1 {S S':Nat->Bool} {id j:Nat} {ao:AO} (a:∀i,j<i->S' i=S i) (h0:eY st ft S' (j+1) id=some ao->eY st ft S (j+1) id=some ao):∀{m:Nat},j<m->eY st ft S' m id=some ao->eY st ft S m id=some ao
 |0,hj,_=>by omega
 |m+1,hj,h=>by
  by_cases e:j=m
  subst e;exact h0 h
  simp only[eY]at h ⊢
  rw[a m (by omega)]at h
  split at h
  grind
  rename_i hc;rw[jU2 hc];exact dG1 a h0 (by omega) h
theorem vU {S S':Nat->Bool} {id:Nat}:∀{j:Nat},(∀i,i<j->S' i=S i)->eY st ft S' j id=eY st ft S j id
 |0,_=>rfl
 |j+1,h=>by simp only[eY,h j (by omega),vU (j:=j) (fun i hi=>h i (by omega))]
theorem rT (R:pN P T ex lim ops ios st ft v) {S:Nat->Bool}:∀{j:Nat},j<=ios.length->(tl ios st v S j).length=(st j).t.length
 |0,_=>rfl
 |j+1,h=>by
  obtain⟨io,o,h1,_,_⟩:=R.get (j:=j) (by omega)
  rw[(R.step j io h1).1,vS]
  simp only[tl]
  split
  rw[vS];exact rT R (by omega)
  exact rT R (by omega)
theorem tlA (R:pN P T ex lim ops ios st ft v) {S:Nat->Bool} {t:Nat}:∀{j:Nat},j<=ios.length->(∀i,i<j->kW ios i=some t->S i=true)->(tl ios st v S j)[t]? =(st j).t[t]?
 |0,_,_=>rfl
 |j+1,hm,h=>by
  obtain⟨io,o,h1,_,_⟩:=R.get (j:=j) (by omega)
  have a:=(R.step j io h1).1
  have hd:kW ios j=io.dst:=by simp[kW,h1]
  have ih:=tlA R (S:=S) (t:=t) (j:=j) (by omega) (fun i hi=>h i (by omega))
  have hl:=rT R (S:=S) (j:=j) (by omega)
  simp only[tl,a]
  by_cases e:io.dst=some t
  rw[h j (by omega) (hd.trans e)]
  simp only[kR2,hd,e,put,kN2,hl]
  rw[oV e]
  split
  rw[hd,oV e];exact ih
  exact ih
theorem tlB {S:Nat->Bool} {t j:Nat}:∀{m:Nat},j<=m->(∀i,j<=i->i<m->S i=true->kW ios i≠some t)->(tl ios st v S m)[t]? =(tl ios st v S j)[t]?
  | 0, hj, _ => by have:j=0:=by omega
                   subst this;rfl
  |m+1,hj,h=>by
    by_cases e:j=m+1
    subst e;rfl
    simp only[tl]
    split
    rename_i hs
    rw[oV (h m (by omega) (by omega) hs)]
    exact tlB (by omega) (fun i hi a=>h i hi (by omega))
    exact tlB (by omega) (fun i hi a=>h i hi (by omega))
theorem El {S S':Nat->Bool}:∀{j:Nat},(∀i,i<j->S' i=S i)->tl ios st v S' j=tl ios st v S j
 |0,_=>rfl
 |j+1,h=>by simp only[tl,h j (by omega),El (j:=j) (fun i hi=>h i (by omega))]
theorem tlC {S S':Nat->Bool} {j:Nat} (b:∀i,i<j->S' i=S i) (a:∀i,j<i->S' i=S i) (h1:S j=false) (h2:S' j=true):∀{m:Nat},j<m->(∀i,j<i->i<m->S i=true->∀t,kW ios j=some t->kW ios i≠some t)->
  tl ios st v S' m=put (tl ios st v S m) (kW ios j) (v j)
 |0,hj,_=>by omega
 |m+1,hj,h=>by
  by_cases e:j=m
  subst e
  simp only[tl,h1,h2,kR2,kB2,kU2,El b]
  have ih:=tlC b a h1 h2 (m:=m) (by omega) (fun i hi c=>h i hi (by omega))
  simp only[tl,a m (by omega),ih]
  split
  rename_i hs
  exact Rb (h m (by omega) (by omega) hs)
  rfl
end
end Go.Sim
namespace Go.Sim
section
variable {P:Program} {T:gA} {ex:Nat->Bool->IC->St->Option (Ex×St)} {lim:Nat} {ops:Array Oper} {ios:List Sim.Op1} {st:Nat->St} {ft:Nat->Foot} {v:Nat->AV} {S S':Nat->Bool}
structure Wg (P:Program) (ops:Array Oper) (ios:List Sim.Op1) (st:Nat->St) (ft:Nat->Foot) (v:Nat->AV) (lim base:Nat) (g0:Gh) (w0:World) (S:Nat->Bool) (g:Gh) (a:Act) (w:World):Prop where
 ext:mH lim g0 g w0 w
 W:WG g w
 H:HR P g (eY st ft S ios.length) w
 dom:∀id,g.ι id≠none->id<(st 0).s.n\/∃i,i<ios.length/\S i=true/\id∈(ft i).al
 t:TR g (tl ios st v S ios.length) a.tmps.toList
 marks:eZ base g w a.defers
 closed:∀i oi,S i=true->ops.toList[i]? =some oi->∀e∈oi.after.toList,Region.binds .any e=true->S e.on=true
structure Wh (ops:Array Oper) (ios:List Sim.Op1) (S:Nat->Bool) (j:Nat) (o:Oper) (io:Sim.Op1):Prop where
 hop:ops.toList[j]? =some o
 hio:ios[j]? =some io
 c:j<ios.length
 no:S j=false
 edges:∀e∈o.after.toList,Region.binds .any e=true->S e.on=true
theorem vV (R:pN P T ex lim ops ios st ft v) {j:Nat} {o:Oper} {io:Sim.Op1} (hr:Wh ops ios S j o io)
  (a:∀i oi,S i=true->ops.toList[i]? =some oi->∀e∈oi.after.toList,Region.binds .any e=true->S e.on=true) {i:Nat} (hi:i<j):
  S i=true\/(((bR [] ops.toList).getD j 0).testBit i=false/\compat (ft i) (ft j)=true/\∀p,ios[i]? =some p->(∀d,p.dst=some d->io.dst≠some d/\d∉io.reads)/\∀d,io.dst=some d->d∉p.reads):=by
 cases hb:((bR [] ops.toList).getD j 0).testBit i with
 |true=>exact .inl (mR R.back (D:=fun i=>S i=true) a j o hr.hop hr.edges i hb)
 |false=>
  refine .inr ⟨rfl,(R.com j hr.c i hi).resolve_left (by rw[hb];simp),fun p hp=>?_⟩;exact(R.tmps j io hr.hio i p hi hp).resolve_left (by rw[hb];simp)
theorem Ax (R:pN P T ex lim ops ios st ft v) {j:Nat} {o:Oper} {io:Sim.Op1} (hr:Wh ops ios S j o io)
  (a:∀i oi,S i=true->ops.toList[i]? =some oi->∀e∈oi.after.toList,Region.binds .any e=true->S e.on=true) {i:Nat} (hi:j<i) (b:i<ios.length) (f:S i=true):
  compat (ft j) (ft i)=true/\∀p,ios[i]? =some p->(∀d,io.dst=some d->p.dst≠some d/\d∉p.reads)/\∀d,p.dst=some d->d∉io.reads:=by
 obtain⟨g,oi,h1,h2,h⟩:=R.get b
 have hb:((bR [] ops.toList).getD i 0).testBit j=false:=by
  cases hb:((bR [] ops.toList).getD i 0).testBit j with
  |false=>rfl
  |true=>
   have:=mR R.back (D:=fun i=>S i=true) a i oi h2 (fun e he c=>a i oi f h2 e he c) j hb;simp only[hr.no]at this;cases this
 refine⟨(R.com i b j hi).resolve_left (by rw[hb];simp),fun p hp=>?_⟩;exact(R.tmps i p hp j io hi hr.hio).resolve_left (by rw[hb];simp)
theorem Em (R:pN P T ex lim ops ios st ft v) {j:Nat} {o:Oper} {io:Sim.Op1} (hr:Wh ops ios S j o io)
  (d:∀i oi,S i=true->ops.toList[i]? =some oi->∀e∈oi.after.toList,Region.binds .any e=true->S e.on=true) {t:Nat} (k:t∈io.reads):(tl ios st v S ios.length)[t]? =(st j).t[t]? :=by
 rw[tlB (j:=j) (kX2 hr.c),tlA R (kX2 hr.c)];intro i hi hd;rcases vV R hr d hi with h|⟨_,_,h⟩
 exact h;obtain⟨a,oi,h1,_,_⟩:=R.get (j:=i) (by have:=hr.c;omega);have b:a.dst=some t:=by simpa[kW,h1]using hd
 exact absurd k ((h a h1).1 t b).2;intro i hi f g hd;by_cases e:i=j;subst e;rw[hr.no]at g;cases g;obtain⟨a,oi,h1,_,_⟩:=R.get f;have b:a.dst=some t:=by simpa[kW,h1]using hd
 exact absurd k (((Ax R hr d (by omega) f g).2 a h1).2 t b)
theorem fM1 (R:pN P T ex lim ops ios st ft v) {j:Nat} {o:Oper} {io:Sim.Op1} (hr:Wh ops ios S j o io)
  (f:∀i oi,S i=true->ops.toList[i]? =some oi->∀e∈oi.after.toList,Region.binds .any e=true->S e.on=true) (b:∀i,i≠j->S' i=S i) (l:S' j=true):
  tl ios st v S' ios.length=put (tl ios st v S ios.length) io.dst (v j):=by
 have hd:kW ios j=io.dst:=by simp[kW,hr.hio]
 rw[<-hd];refine tlC (fun i hi=>b i (by omega)) (fun i hi=>b i (by omega)) hr.no l hr.c (fun i hi a k t m h=>?_);obtain⟨d,oi,h1,_,_⟩:=R.get a;have g:d.dst=some t:=by simpa[kW,h1]using h
 exact(((Ax R hr f hi a k).2 d h1).1 t (hd.symm.trans m)).1 g
theorem Wi (R:pN P T ex lim ops ios st ft v) {j:Nat} {o:Oper} {io:Sim.Op1} (hr:Wh ops ios S j o io)
  (a:∀i oi,S i=true->ops.toList[i]? =some oi->∀e∈oi.after.toList,Region.binds .any e=true->S e.on=true) {id:Nat} {ao:AO} (b:id∈(ft j).rd\/id∈(ft j).wr) (hl:look (st j).s.h id=some ao):
  eY st ft S ios.length id=some ao:=by
 have k:=(R.wf (kX2 hr.c)).lt hl;rw[tG (j:=j) (kX2 hr.c),vT R (kX2 hr.c)];exact hl;intro i hi f;rcases vV R hr a hi with h|⟨_,h,_⟩
 exact h;obtain⟨c1,c2,c3,c4,c5,c6⟩:=cS h;simp only[rK,kE2,lR2,kT2,jY2]at f;rcases f with(f|f)|f;have:=We c1 (Av b);omega
 grind
 grind
 intro i hi d g;by_cases e:i=j;subst e;rw[hr.no]at g;cases g;obtain⟨c1,c2,c3,c4,c5,c6⟩:=cS (Ax R hr a (by omega) d g).1;simp only[rK,mA2,mD2,ne_eq,kT2,lB2];refine⟨⟨by have:=zD c1 (Av b);omega,fun h=>?_⟩,fun h=>?_⟩
 grind
 rw[R.al d]at h;have:=R.mono (i:=j) (j:=i) (by omega) (by omega);omega
theorem vW (R:pN P T ex lim ops ios st ft v) {j:Nat} {o:Oper} {io:Sim.Op1} (hr:Wh ops ios S j o io)
  (f:∀i oi,S i=true->ops.toList[i]? =some oi->∀e∈oi.after.toList,Region.binds .any e=true->S e.on=true) (l:∀i,i≠j->S' i=S i) (p:S' j=true) {id:Nat}
  (a:(id∈(ft j).wr/\id<(st j).s.n)\/id∈(ft j).al):eY st ft S' ios.length id=look (st (j+1)).s.h id:=by
 rw[tG (j:=j+1) hr.c]
 have:rK ft j id=true:=by
  simp only[rK,kE2,lR2,kT2,jY2];rcases a with⟨h,_⟩|h;exact .inl (.inr h);exact .inr h
 simp[eY,p,this];intro i hi b d;have m:S i=true:=by rw[<-l i (by omega)];exact d
 obtain⟨c1,c2,c3,c4,c5,c6⟩:=cS (Ax R hr f (by omega) b m).1;simp only[rK,mA2,mD2,ne_eq,kT2,lB2];have k:=R.mono (i:=j+1) (j:=i) (by omega) (by omega);have hg:=(R.grows hr.c).n
 have g:(ft j).isE=false:=by
  rcases a with⟨a,_⟩|a;exact Av (.inr a);exact uD a
 refine⟨⟨by have:=zD c1 g;omega,fun h=>?_⟩,fun h=>?_⟩
 grind
 rw[R.al b]at h;rcases a with⟨_,a⟩|a;omega;rw[R.al hr.c]at a;omega
theorem qE (R:pN P T ex lim ops ios st ft v) {j:Nat} {o:Oper} {io:Sim.Op1} (hr:Wh ops ios S j o io)
  (g:∀i oi,S i=true->ops.toList[i]? =some oi->∀e∈oi.after.toList,Region.binds .any e=true->S e.on=true) (b:∀i,i≠j->S' i=S i) (k:S' j=true) {id:Nat} {ao:AO}
  (hk:rK ft j id=true->id∈(ft j).wr/\look (st (j+1)).s.h id=look (st j).s.h id) (h:eY st ft S' ios.length id=some ao):eY st ft S ios.length id=some ao:=by
 refine dG1 (j:=j) (fun i hi=>b i (by omega)) (fun h0=>?_) hr.c h;have d:eY st ft S (j+1) id=eY st ft S j id:=by simp[eY,hr.no]
 have f:eY st ft S' j id=eY st ft S j id:=vU (fun i hi=>b i (by omega));rw[d];cases ht:rK ft j id with
 |false=>
  simp only[eY,ht,Bool.and_false,kB2,kU2,f]at h0;exact h0
 |true=>
  obtain⟨m,l⟩:=hk ht;simp only[eY,ht,k,nE2,kR2,l]at h0;rw[vT R (kX2 hr.c)];exact h0;intro i hi a;rcases vV R hr g hi with h|⟨_,h,_⟩
  exact h;obtain⟨c1,c2,c3,c4,c5,c6⟩:=cS h;simp only[rK,kE2,lR2,kT2,jY2]at a;rcases a with(a|a)|a
  grind
  grind
  grind
end
end Go.Sim
namespace Go.Sim
section
variable {P:Program} {T:gA} {ex:Nat->Bool->IC->St->Option (Ex×St)} {lim:Nat} {ops:Array Oper} {ios:List Sim.Op1} {st:Nat->St} {ft:Nat->Foot} {v:Nat->AV} {S S':Nat->Bool} {r:Option Nat} {n base:Nat} {g0 g:Gh} {w0 w:World}
theorem Kg {o:Oper} {k:dQ} {os:aA Operand} {L:Nat->aB AO} {m:Nat} {out:Out} {a:Act} (j:fF P o.op o.type=some (k,os)) (hg:cY P g lim w L m out (execOp a.eval o)) {next:Act->World->Prop} {Q:Exit->Act->World->Prop}
  (b:∀V g' w',VR g' out.v V->HR P g' (out.after L m) w'->WG g' w'->mH lim g g' w w'->(∀id,g'.ι id≠none->g.ι id≠none\/(id=m/\out.new.isSome))->next (a.put o.dst V) w'):
  o.wpIn (FW r) n P a w next Q:=by
 obtain⟨V,nx,g',w',d,e,hv,h,i,f,c⟩:=hg;refine⟨fun _ _=>trivial,?_⟩;rw[lO _ (qB j),d];rcases e with rfl|⟨rfl,rfl⟩
 .exact b V g' w' hv h i f c
 .exact b undef g' w' hv h i f c
theorem Hx {k:dQ} {xs:aA AV} (h1:∀f,k≠.callF f) (h2:k≠.callV):(foot T k xs).all=0:=by
 unfold foot
 split<;>first
  |rfl
  |exact absurd rfl (h1 _)
  |exact absurd rfl h2
theorem Ms (v:kL P ex) (B:fC P T) {o:Oper} {k:dQ} {os:aA Operand} {xs:aA AV} {x:AV} {s U:Hp} {a:Act} (D:(fF P o.op o.type).getD (.fail,[])=(k,os)) (h:step T ex lim k xs s=some (x,U)) (d:(foot T k xs).all=1)
  (E:TR g xs (os.map a.eval)) (A:iT P g w s) {next:Act->World->Prop} {Q:Exit->Act->World->Prop}
  (t:∀V g' w',VR g' x V->g'.ι=g.ι->WG g' w'->(∀b,b<w.heap.size->w'.heap[b]? =w.heap[b]?)->mH s.n g g' w w'->next (a.put o.dst V) w'):o.wpIn (FW r) n P a w next Q:=by
 have fin:∀e w',gP P s.n g w s x s e w'->∃V,e=.returned V/\next (a.put o.dst V) w':=by
  rintro e w' ⟨V,g',rfl,S,M,K,Y⟩;refine⟨V,rfl,t V g' w' S ?_ M.W ?_ K⟩
  .funext id
   by_cases q:id<s.n
   .exact K.old id q
   .have h1:g.ι id=none:=by
     cases h:g.ι id with
     |none=>rfl
     |some l=>exact absurd (A.dom id (by rw[h];simp)) q
    have h2:g'.ι id=none:=by
     cases h:g'.ι id with
     |none=>rfl
     |some l=>exact absurd (M.dom id (by rw[h];simp)) q
    rw[h1,h2]
  .intro b hb
   exact K.keep b hb (fun id loc q hi=>by
    have:=A.dom id (by rw[hi];simp);omega)
 cases hco:fF P o.op o.type with
 |none=>
  rw[hco]at D;cases D;simp only[step,rO]at h;cases h
 |some p=>
  rw[hco]at D;cases D;unfold step at h;split at h
  .rename_i f
   obtain⟨c,L,h1,h2,G⟩:=kD hco (.inr ⟨f,rfl⟩);rcases G with⟨f',u,N,H⟩|⟨u,_⟩
   .cases u
    subst N;simp only[foot]at d;split at d
    .rename_i ifn j
     split at d
     .rename_i hp
      have m:TR g xs (#[]++c.args.map a.eval++#[]).toList:=by rw[H]at E;simpa using E
      exact nN B h1 h2 rfl j (vI v B j hp h m A).2 fin
     .grind
    .cases d
   .cases u
  .obtain ⟨c,L,h1,h2,G⟩:=kD hco (.inl rfl)
   rcases G with⟨f',u,_⟩|⟨_,H⟩
   .cases u
   .subst H
    split at h
    .rename_i X args
     have z:=E.head;have m:=E.tail;unfold callV at h;simp only[foot]at d;split at h
     .rename_i f first cap
      generalize hV:a.eval L=V at z;cases z with
      |@fn _ _ _ _ F C l1 l2 v1 v2=>
       simp only at d;split at d
       .rename_i ifn j
        split at d
        .rename_i hp
         have R:TR g first F.toList:=⟨by simpa using l1,fun i x y J hy=>v1 i x y J (by simpa using hy)⟩
         have O:TR g cap C.toList:=⟨by simpa using l2,fun i x y J hy=>v2 i x y J (by simpa using hy)⟩
         have d:TR g (first++args++cap) (F++c.args.map a.eval++C).toList:=by
          have:=(R.app m).app O;simpa using this
         exact nN B h1 h2 hV j (vI v B j hp h d A).2 fin
        .grind
       .cases d
     .grind
     .cases h
    .cases h
  .rename_i h1 h2
   exfalso;have:=Hx (T:=T) (xs:=xs) (fun f e=>h1 f e) (fun e=>h2 e);omega
theorem cov (R:pN P T ex lim ops ios st ft v) {id:Nat}:∀{j:Nat},j<=ios.length->(st 0).s.n<=id->id<(st j).s.n->∃i,i<j/\id∈(ft i).al
 |0,_,h1,h2=>by omega
 |j+1,hj,h1,h2=>by
  by_cases h:id<(st j).s.n
  obtain⟨i,hi,a⟩:=cov R (j:=j) (by omega) h1 h
  exact⟨i,by omega,a⟩
  exact⟨j,by omega,(R.al (by omega)).2 ⟨by omega,h2⟩⟩
theorem Mt (R:pN P T ex lim ops ios st ft v) (f1:kL P ex) (hT:fC P T) (b7:lim<=(st 0).s.n) {j:Nat} {o:Oper} {io:Sim.Op1} {a:Act} (hr:Wh ops ios S j o io) (hco:gT P ops.toList o=some io)
  (u:Wg P ops ios st ft v lim base g0 w0 S g a w) (y:∀i,i≠j->S' i=S i) (hj:S' j=true) {K:Act->World->Prop} {Q:Exit->Act->World->Prop} (hK:∀g' a' w',Wg P ops ios st ft v lim base g0 w0 S' g' a' w'->K a' w'):
  wpOpIn (FW r) n P ops Q j K a w:=by
 have d:=u.closed;have g9:ops[j]? =some o:=by simpa using hr.hop
 unfold wpOpIn;rw[g9];simp only;obtain⟨os,c1,c2,c3,c4⟩:=kN hco
 have hw:Region.wanted o (yielded ops a.tmps)=Sim.wanted (st j).t io.guard:=by
  rw[yZ u.t hco];refine Aw (fun i b hg=>Em R hr d ?_);simp[Op1.reads,hg]
 have e9:evs (tl ios st v S ios.length) io.xs=evs (st j).t io.xs:=zE (fun t q=>Em R hr d (by
  simp only[Op1.reads,lA2,List.mem_filterMap];exact .inl ⟨.t t,q,rfl⟩))
 have Z:∀i oi,S' i=true->ops.toList[i]? =some oi->∀e∈oi.after.toList,Region.binds .any e=true->S' e.on=true:=by
  intro i oi hi f8 e he hb
  have up:∀i,S i=true->S' i=true:=fun i h=>by
   by_cases e:i=j;rw[e];exact hj;rw[y i e];exact h
  by_cases e1:i=j;subst e1;rw[hr.hop]at f8;cases f8;exact up _ (hr.edges e he hb);exact up _ (d i oi (by rw[<-y i e1];exact hi) f8 e he hb)
 have d3:∀{g':Gh} {w':World} {V:Value},mH lim g g' w w'->eZ base g' w' (a.put o.dst V).defers:=by
  intro g' w' V hE;have:(a.put o.dst V).defers=a.defers:=by cases o.dst<;>rfl
  rw[this];exact u.marks.ext hE
 have d4:∀{g':Gh} {w':World} {V:Value},mH lim g g' w w'->VR g' (v j) V->TR g' (tl ios st v S' ios.length) (a.put o.dst V).tmps.toList:=by
  intro g' w' V hE hV;rw[fM1 R hr d y hj,c3];exact Hr (u.t.mono hE.le) hV o.dst
 have L:∀id,(id<(st 0).s.n\/∃i,i<ios.length/\S i=true/\id∈(ft i).al)->id<(st 0).s.n\/∃i,i<ios.length/\S' i=true/\id∈(ft i).al:=by
  rintro id (h|⟨i,h1,h2,x⟩);exact .inl h;refine .inr ⟨i,h1,?_,x⟩;by_cases e:i=j;rw[e];exact hj;rw[y i e];exact h2
 have e7:=R.mono (i:=0) (j:=j) (by omega) (kX2 hr.c);obtain⟨s1,s2⟩:=R.step j io hr.hio;rw[hw];rcases s2 with⟨q1,q2,q3,q4⟩|⟨q1,xs,q2,q3,q4,q5,s2,q6⟩|⟨q1,xs,q2,q3,q4,q5⟩|⟨q1,xs,W,q2,q3,q4,q5⟩
 ·
  rw[q1];simp only[kB2,kU2];refine⟨fun _ _=>trivial,hK g _ w ⟨u.ext,u.W,fun id ao h=>?_,fun id h=>L id (u.dom id h),d4 (.refl lim g w) (by rw[q2];exact .undef g),d3 (.refl lim g w),Z⟩⟩;refine u.H id ao (qE R hr d y hj (fun q=>?_) h);rw[rK,q3]at q;simp at q
 ·
  rw[q1];simp only[kR2];have b4:=mN u.t c2 (e9.trans q2);have f2:=(qD T io.k xs).2 (by omega)
  have M:∀id ao,look (hide (unseen ((bR [] ops.toList).getD j 0) j (eW ft j)) (st j).s.h) id=some ao->eY st ft S ios.length id=some ao:=by
   intro id ao h;obtain⟨h1,h2⟩:=rP _ (R.wf (kX2 hr.c)) h;have A:=(R.wf (kX2 hr.c)).lt h1;rw[tG (j:=j) (kX2 hr.c),vT R (kX2 hr.c)];exact h1;intro i hi q;rcases vV R hr d hi with h|⟨hb,h,_⟩
   exact h;obtain⟨c1,c2,c3,c4,c5,c6⟩:=cS h;simp only[rK,kE2,lR2,kT2,jY2]at q;have b8:(ft j).all=1:=by rw[q4];exact q3
   rcases q with(q|q)|q;have:=We c1 (mT (by omega));omega;rw[c6.resolve_left (by omega)]at q;simp at q;exact absurd (lR i hi hb q) h2;intro i hi z F;by_cases e:i=j;subst e;rw[hr.no]at F;cases F;obtain⟨c1,c2,c3,c4,c5,c6⟩:=cS (Ax R hr d (by omega) z F).1;have b8:(ft j).all=1:=by rw[q4];exact q3
   simp only[rK,mA2,mD2,ne_eq,kT2,lB2];refine⟨⟨by have:=zD c1 (mT (by omega));omega,fun h=>?_⟩,fun h=>?_⟩;rw[c5.resolve_left (by omega)]at h;simp at h;rw[R.al z]at h;have:=R.mono (i:=j) (j:=i) (by omega) (by omega);omega
  have Y:iT P g w {h:=hide (unseen ((bR [] ops.toList).getD j 0) j (eW ft j)) (st j).s.h,n:=(st j).s.n+Vo (ios.length-j)}:=by
   refine⟨fun id ao h=>u.H id ao (M id ao h),u.W,fun id h=>?_,((R.wf (kX2 hr.c)).hide _).mono (by simp)⟩;simp only;rcases u.dom id h with h1|⟨i,h1,h2,x⟩
   have:=hr.c;omega;have f5:=uD x;have b8:(ft j).isE=false:=mT (by rw[show(ft j).all=1 by rw[q4];exact q3];decide);rw[R.al h1]at x;by_cases d1:i<j;have:=R.mono (i:=i+1) (j:=j) (by omega) (kX2 hr.c);omega
   have d2:j<i:=by
    rcases Nat.lt_or_ge j i with h|h;exact h;have:i=j:=by omega
    subst this;rw[hr.no]at h2;cases h2
   have g8:∀k,j<=k->k<=i->(st (k+1)).s.n<=(st j).s.n+Vo (k-j):=by
    intro k
    induction k with
    |zero=>
     intro hk _;have:j=0:=by omega
     subst this;rw[q5];omega
    |succ k ih=>
     intro hk j4;by_cases e:j=k+1;subst e;rw[q5];omega;have j7:=ih (by omega) (by omega);have g6:k+1<ios.length:=by omega
     have i4:(ft (k+1)).all<=1:=by
      by_cases e2:k+1=i;have:=zD (cS (Ax R hr d d2 h1 h2).1).1 b8;rw[e2];omega
      ·
       rcases Nat.lt_or_ge 1 (ft (k+1)).all with j1|hok;exfalso;obtain⟨j8,oi,i1,i2,i3⟩:=R.get h1
       have hb:((bR [] ops.toList).getD i 0).testBit (k+1)=true:=by
        rcases R.com i h1 (k+1) (by omega)with h|h;exact h;have:=We (cS h).1 f5;omega
       have h8:S (k+1)=true:=mR R.back (D:=fun i=>S i=true) d i oi i2 (fun e he i5=>d i oi h2 i2 e he i5) (k+1) hb;have:=zD (cS (Ax R hr d (by omega) g6 h8).1).1 b8;omega;exact hok
     obtain⟨g3,ok,k1,k2,k3⟩:=R.get g6;obtain⟨_,t2⟩:=R.step (k+1) g3 k1;have j5:Vo (k+1-j)=Vo (k-j)+1048576:=by rw[Nat.succ_sub (by omega),Qw]
     rcases t2 with⟨_,_,_,t3⟩|⟨_,xs',_,_,_,t3,_⟩|⟨_,xs',_,t3,t4,t5⟩|⟨_,xs',W',_,_,_,t3⟩
     rw[t3];omega;rw[t3];omega
     have d6:(foot T g3.k xs').all=0:=by
      have:(ft (k+1)).all=(foot T g3.k xs').all:=by rw[t4]
      have:=t3.1;omega
     obtain⟨out,_,_,hs⟩:=oU t5 d6;rw[hs,nP];split<;>omega;obtain⟨s',w,_,_,e3,_,_,_,_,_,_,e4⟩:=lN t3;rw[e3];simp only;omega
   have:=g8 i (by omega) (jR2 _);have:=fH1 (a:=i-j) (b:=ios.length-j) (by omega);omega
  refine Ms f1 hT c1 q6 q3 b4 Y (fun V g' w' k1 k2 k3 k4 k5=>hK g' _ w' ?_);have hE:mH lim g g' w w':=k5.mono (by simp only;have:=hr.c;omega);refine⟨u.ext.trans hE,k3,fun id ao h=>?_,fun id h=>L id (u.dom id (by rw[<-k2];exact h)),d4 hE k1,d3 hE,Z⟩
  have h1:=qE R hr d y hj (id:=id) (ao:=ao) (fun q=>by
   rw[rK,q4]at q;rw[q3,f2.2,Kf]at q;simp at q) h
  exact(u.H id ao h1).mono hE.le (by rw[k2]) (fun loc hl=>k4 _ (u.W.lt id loc hl))
 rw[q1];simp only[kR2];have b4:=mN u.t c2 (e9.trans q2);by_cases d6:(foot T io.k xs).all=0
 ·
  obtain⟨out,ho,hv,hs⟩:=oU q5 d6
  have i6:∀id ao,id∈(foot T io.k xs).rd\/id∈(foot T io.k xs).wr->look (st j).s.h id=some ao->eY st ft S ios.length id=some ao:=by
   intro id ao f hl;refine Wi R hr d ?_ hl;rw[q4];exact f
  have e0:doOp (eY st ft S ios.length) lim (st j).s.n io.k xs=some out:=Hu (T:=T) ho i6;have hn:=nP out (st j).s;rw[<-hs]at hn;have G:∀id,look (st (j+1)).s.h id=out.after (look (st j).s.h) (st j).s.n id:=fun id=>by rw[hs];exact vR (fun i ob hu=>(qC (T:=T) ho hu).2) id
  have C:∃g4,fF P o.op o.type=some (io.k,g4)/\g4=os:=by
   cases hc:fF P o.op o.type with
   |none=>
    rw[hc]at c1;simp only[Option.getD_none,kF2]at c1;rw[<-c1.1,rO]at ho;cases ho
   |some p=>rw[hc]at c1;exact⟨os,by rw[<-c1];rfl,rfl⟩
  obtain⟨g4,C,rfl⟩:=C
  have fin:∀(m:Nat) (V:Value) (g':Gh) (w':World),(out.new.isSome=true->m=(st j).s.n)->VR g' out.v V->HR P g' (out.after (eY st ft S ios.length) m) w'->WG g' w'->mH lim g g' w w'->
    (∀id,g'.ι id≠none->g.ι id≠none\/(id=m/\out.new.isSome))->K (a.put o.dst V) w':=by
   intro m V g' w' hm k1 k2 k3 k4 k5;refine hK g' _ w' ⟨u.ext.trans k4,k3,fun id ao h=>k2 id ao ?_,fun id h=>?_,d4 k4 (by rw[hv];exact k1),d3 k4,Z⟩
   ·
    have b9:id∈(ft j).al↔(st j).s.n<=id/\id<(st (j+1)).s.n:=R.al hr.c;have d8:(ft j).wr=(foot T io.k xs).wr:=by rw[q4]
    have j0:(ft j).all=0:=by rw[q4];exact d6
    have a0:(∀i ob,out.up=some (i,ob)->id≠i)->(out.new.isSome=true->id≠(st j).s.n)->eY st ft S ios.length id=some ao:=by
     intro h1 h2;refine qE R hr d y hj (fun q=>?_) h
     have g7:id∉(ft j).al:=by
      rw[b9,hn];cases hnew:out.new with
      |none=>simp
      |some ob=>
       have:=h2 (by rw[hnew];rfl);simp;omega
     refine⟨?_,?_⟩;simp only[rK,kE2,lR2,kT2,jY2]at q;rcases q with(q|q)|q;omega;exact q;exact absurd q g7;rw[G id];unfold Out.after Out.base;cases hnew:out.new with
     |none=>
      simp only;cases hu:out.up with
      |none=>rfl
      |some p=>
       obtain⟨i,ob⟩:=p;simp only;rw[jU2 (h1 i ob hu)]
     |some ob'=>
      simp only;rw[jU2 (h2 (by rw[hnew];rfl))];cases hu:out.up with
      |none=>rfl
      |some p=>
       obtain⟨i,ob⟩:=p;simp only;rw[jU2 (h1 i ob hu)]
    by_cases N:out.new.isSome=true/\id=(st j).s.n;obtain⟨h1,h2⟩:=N;have hl:=vW R hr d y hj (id:=id) (.inr (by rw[b9,hn,h1];simp;omega));rw[hl,G id]at h;rw[<-h,hm h1];unfold Out.after;cases hnew:out.new with
    |none=>rw[hnew]at h1;cases h1
    |some ob=>simp only;rw[jX2 h2,jX2 h2]
    by_cases U:∃ob,out.up=some (id,ob);obtain⟨ob,hu⟩:=U;obtain⟨u1,u2⟩:=qC (T:=T) ho hu;have g1:∃d5,look (st j).s.h id=some d5:=Option.isSome_iff_exists.1 u2;obtain⟨d5,g5⟩:=g1;have A:=(R.wf (kX2 hr.c)).lt g5;have hl:=vW R hr d y hj (id:=id) (.inl ⟨by rw[d8];exact u1,A⟩);rw[hl,G id]at h;rw[<-h];unfold Out.after Out.base;cases hnew:out.new with
    |none=>simp only[hu,kR2]
    |some ob'=>
     have:=hm (by rw[hnew];rfl);simp only[hu,kR2];rw[jU2 (by omega),jU2 (by omega)]
    have J:=a0 (fun i ob hu e=>U ⟨ob,by rw[e];exact hu⟩) (fun h1 e=>N ⟨h1,e⟩);unfold Out.after Out.base;cases hnew:out.new with
    |none=>
     simp only;cases hu:out.up with
     |none=>exact J
     |some p=>
      obtain⟨i,ob⟩:=p;simp only;rw[jU2 (fun e=>U ⟨ob,by rw[e];exact hu⟩)];exact J
    |some ob'=>
     simp only;rw[jU2 (fun e=>N ⟨by rw[hnew];rfl,by rw[e];exact hm (by rw[hnew];rfl)⟩)];cases hu:out.up with
     |none=>exact J
     |some p=>
      obtain⟨i,ob⟩:=p;simp only;rw[jU2 (fun e=>U ⟨ob,by rw[e];exact hu⟩)];exact J
   rcases k5 id h with h1|⟨h1,h2⟩
   exact L id (u.dom id h1);refine .inr ⟨j,hr.c,hj,?_⟩;rw[R.al hr.c,hn,h2,h1,hm h2];simp
  cases hnew:out.new with
  |none=>
   have f7:doOp (eY st ft S ios.length) lim (st ios.length).s.n io.k xs=some out:=fJ1 e0 hnew
   have f3:g.ι (st ios.length).s.n=none:=by
    cases h:g.ι (st ios.length).s.n with
    |none=>rfl
    |some l=>
     rcases u.dom _ (by rw[h];simp)with h1|⟨i,h1,h2,x⟩
     have:=R.mono (i:=0) (j:=ios.length) (by omega) (jR2 _);omega;rw[R.al h1]at x;have:=R.mono (i:=i+1) (j:=ios.length) (by omega) (jR2 _);omega
   have i7:lim<=(st ios.length).s.n:=kP2 b7 (R.mono (by omega) (jR2 _));exact Kg C (oP a.eval o C b4 f7 u.H u.W f3 i7) (fun V g' w'=>fin _ V g' w' (fun h=>by rw[hnew]at h;cases h))
  |some ob=>
   have f3:g.ι (st j).s.n=none:=by
    cases h:g.ι (st j).s.n with
    |none=>rfl
    |some l=>
     rcases u.dom _ (by rw[h];simp)with h1|⟨i,h1,h2,x⟩
     omega;rw[R.al h1]at x;rw[hnew]at hn;simp only[mG2,kR2]at hn;by_cases d1:i<j;have:=R.mono (i:=i+1) (j:=j) (by omega) (kX2 hr.c);omega;by_cases e:i=j;subst e;rw[hr.no]at h2;cases h2;have:=R.mono (i:=j+1) (j:=i) (by omega) (by omega);omega
   exact Kg C (oP a.eval o C b4 e0 u.H u.W f3 (kP2 b7 e7)) (fun V g' w'=>fin _ V g' w' (fun _=>rfl))
 ·
  have h2:(ft j).all=2:=by
   have:=(qD T io.k xs).1;rw[q4];have:=q3.1;have:=q3.2;show(foot T io.k xs).all=2
   omega
  have b5:∀i,i<j->S i=true\/(ft i).isE=true:=by
   intro i hi;rcases vV R hr d hi with h|⟨_,h,_⟩
   exact .inl h;rcases(cS h).1 with h|h|h;omega;exact .inr h;have:=(gD h).2.2.2;omega
  have b0:∀i,j<=i->i<ios.length->S i=false\/(ft i).isE=true:=by
   intro i hi z;cases F:S i with
   |false=>exact .inl rfl
   |true=>
    by_cases e:i=j;subst e;rw[hr.no]at F;cases F;rcases(cS (Ax R hr d (by omega) z F).1).1 with h|h|h;omega;have:=(gD h).2.2.2;omega;exact .inr h
  have e8:∀id,eY st ft S ios.length id=look (st j).s.h id:=by
   intro id
   rw[tG (j:=j) (kX2 hr.c) (fun i hi z F=>by
    rcases b0 i hi z with B|B;rw[B]at F;cases F;exact fL1 B),vT R (kX2 hr.c) (fun i hi q=>by
    rcases b5 i hi with B|B;exact B;rw[fL1 B]at q;cases q)]
  have Y:iT P g w (st j).s:=by
   refine⟨fun id ao h=>u.H id ao (by rw[e8];exact h),u.W,fun id h=>?_,R.wf (kX2 hr.c)⟩;rcases u.dom id h with h1|⟨i,h1,x,X⟩
   omega;have f5:=uD X;rw[R.al h1]at X;by_cases d1:i<j;have:=R.mono (i:=i+1) (j:=j) (by omega) (kX2 hr.c);omega;rcases b0 i (by omega) h1 with B|B;rw[B]at x;cases x;rw[f5]at B;cases B
  refine Ar f1 hT c1 q5 b4 Y (kP2 b7 e7) (fun V g' w' k1 k2 k3 k4=>hK g' _ w' ⟨u.ext.trans k3,k2.W,fun id ao h=>k2.H id ao ?_,fun id h=>?_,d4 k3 k1,d3 k3,Z⟩)
  rw[tG (j:=j+1) hr.c (fun i hi z F=>by
   rcases b0 i (by omega) z with B|B;rw[y i (by omega),B]at F;cases F;exact fL1 B)]at h
  have q:rK ft j id=true:=by simp[rK,h2]
  simp only[eY,hj,q,nE2,kR2]at h;exact h;have A:=k2.dom id h;by_cases f6:id<(st 0).s.n;exact .inl f6;obtain⟨i,hi,x⟩:=cov R (j:=j+1) hr.c (by omega) A;refine .inr ⟨i,by have:=hr.c;omega,?_,x⟩;by_cases e:i=j;rw[e];exact hj;rw[y i e];rcases b5 i (by omega)with B|B;exact B;rw[uD x]at B;cases B
 ·
  rw[q1];simp only[kR2];have b4:=mN u.t c2 (e9.trans q2);have b8:(ft j).all=1:=by rw[q4]
  have d8:(ft j).wr=W:=by rw[q4]
  obtain⟨s',wl,k1,k2,k3,k4,k5,k6,k7,k8,k9,_⟩:=lN q5;generalize hhid:unseen ((bR [] ops.toList).getD j 0) j (eW ft j)=f at k1 k2 k5 k6 k7 k8 k9;have E:=R.wf (kX2 hr.c)
  have b6:∀i,i<ios.length->S i=true->¬i<j->(ft i).wr=[]/\(∀id,id∈(ft i).al->(st (j+1)).s.n<=id)/\(ft i).all≠2:=by
   intro i z F d1
   have d2:j<i:=by
    rcases Nat.lt_or_ge j i with h|h;exact h;have:i=j:=by omega
    subst this;rw[hr.no]at F;cases F
   obtain⟨e1,e2,e3,e4,e5,e6⟩:=cS (Ax R hr d d2 z F).1;refine⟨e5.resolve_left (by omega),fun id h=>?_,by have:=zD e1 (mT (by omega));omega⟩;rw[R.al z]at h;have:=R.mono (i:=j+1) (j:=i) (by omega) (by omega);omega
  have j3:=(R.grows hr.c).n
  have f9:∀id,jK f (st j).s.n id=true->id<(st j).s.n/\id∉f:=by
   intro id h;simp only[jK,jO2,kH2,kT2,lB2]at h;exact⟨by simpa[lW2]using h.1,h.2⟩
  have d9:∀id,id∉f->id<(st j).s.n->eY st ft S ios.length id=look (st j).s.h id:=by
   intro id i9 A;rw[tG (j:=j) (kX2 hr.c),vT R (kX2 hr.c)];intro i hi q;rcases vV R hr d hi with h|⟨hb,h,_⟩
   exact h;obtain⟨e1,e2,e3,e4,e5,e6⟩:=cS h;simp only[rK,kE2,lR2,kT2,jY2]at q;rcases q with(q|q)|q;have:=We e1 (mT (by omega));omega;rw[e6.resolve_left (by omega)]at q;simp at q;exact absurd (hhid ▸ lR i hi hb q) i9;intro i hi z F;obtain⟨e1,e2,e3⟩:=b6 i z F (by omega);simp only[rK,mA2,mD2,ne_eq,kT2,lB2];refine⟨⟨e3,fun h=>?_⟩,fun h=>?_⟩;rw[e1]at h;simp at h;have:=e2 id h;omega
  have M:∀id ao,look (hide f (st j).s.h) id=some ao->eY st ft S ios.length id=some ao/\jK f (st j).s.n id=true:=by
   intro id ao h;obtain⟨h1,h2⟩:=rP _ E h;have A:=E.lt h1;refine⟨(d9 id h2 A).trans h1,?_⟩;simp only[jK,jO2,kH2,kT2,lB2];exact⟨by simpa[lW2]using A,h2⟩
  have hιp:∀id,jK f (st j).s.n id=true->(g.only (jK f (st j).s.n)).ι id=g.ι id:=fun id h=>Gh.only_pos h
  have Y:iT P (g.only (jK f (st j).s.n)) w {h:=hide f (st j).s.h,n:=(st j).s.n}:=by
   refine⟨fun id ao h=>?_,u.W.only,fun id h=>?_,E.hide _⟩;obtain⟨h1,h2⟩:=M id ao h;exact(u.H id ao h1).names (g:=g) (g2:=g.only _) rfl hιp (hιp id h2) (kC k5 id ao h);simp only[Gh.only]at h;split at h;rename_i hp;exact(f9 id hp).1;exact absurd rfl h
  refine Ar (s':=s') f1 hT c1 k1 (TR.names (g:=g) (g2:=g.only _) rfl hιp k6 b4) Y (kP2 b7 e7) (fun V g' w' m1 m2 m3 m4=>?_);obtain⟨hE,i0⟩:=Qx m3 u.W m2.W
  have hqι:∀id,pZ f (st j).s.n s'.n id=true->(g.back g' (jK f (st j).s.n) (st j).s.n).ι id=g'.ι id:=by
   intro id h;simp only[pZ,kE2,jO2]at h;rcases h with h|⟨h1,h2⟩
   exact qA h;have h1:=jZ2 h1;have h2:id<s'.n:=by simpa[lW2]using h2
   simp only[Gh.back];split;rename_i hc;exfalso;rcases u.dom id (hc.2.resolve_left (by omega))with x|⟨i,x,X,h5⟩
   omega;by_cases d1:i<j;rw[R.al x]at h5;have:=R.mono (i:=i+1) (j:=j) (by omega) (kX2 hr.c);omega;have h6:=(b6 i x X d1).2.1 id h5;rw[k3]at h6;simp only at h6;omega;rfl
  have j6:(st (j+1)).s.n=s'.n:=by rw[k3]
  refine hK (g.back g' (jK f (st j).s.n) (st j).s.n) _ w' ⟨u.ext.trans hE,i0,fun id ao h=>?_,fun id h=>?_,d4 hE (VR.names (g:=g') (g2:=g.back g' _ _) rfl hqι k7 m1),d3 hE,Z⟩;have b9:id∈(ft j).al↔(st j).s.n<=id/\id<(st (j+1)).s.n:=R.al hr.c;by_cases q:(id∈W/\id<(st j).s.n)\/id∈(ft j).al
  ·
   have h1:=vW R hr d y hj (id:=id) (by rw[d8];exact q);rw[h1,k3]at h;simp only at h
   have hq:pZ f (st j).s.n s'.n id=true:=by
    rcases q with⟨h2,x⟩|h2;obtain⟨e,he,rfl⟩:=List.mem_map.1 (k4 ▸ h2);have X:=kB (E.hide f) k2 e he;obtain⟨d5,h5⟩:=Option.isSome_iff_exists.1 X.2;have:=(M e.1 d5 h5).2;simp only[pZ,this,Bool.true_or];rw[b9]at h2;have a1:Nat.ble (st j).s.n id=true:=Nat.ble_eq_true_of_le h2.1;have a2:Nat.blt id s'.n=true:=by simp only[lW2];omega
    simp only[pZ,a1,a2,nE2,Bool.or_true]
   rcases dM h with⟨h2,x,X⟩|h2;exact(m2.H id ao x).names (g:=g') (g2:=g.back g' _ _) rfl hqι (hqι id hq) (oS k8 id ao X);rcases tA _ _ _ _ h2 with⟨x,X⟩|x;exfalso;rw[<-k4]at X;rcases q with⟨h5,_⟩|h5;exact X h5;rw[b9]at h5;have:=E.lt x;omega;exact(m2.H id ao ((iW k2).2 _ x)).names (g:=g') (g2:=g.back g' _ _) rfl hqι (hqι id hq) (by have:=jV2.1 k9 _ x;exact this)
  have h1:eY st ft S ios.length id=some ao:=qE R hr d y hj (fun O=>by
   exfalso;simp only[rK,b8,d8,kE2,kT2,jY2]at O;rcases O with(O|O)|O;cases O;obtain⟨e,he,rfl⟩:=List.mem_map.1 (k4 ▸ O);exact q (.inl ⟨O,(kB (E.hide f) k2 e he).1⟩);exact q (.inr O)) h
  cases hp:jK f (st j).s.n id with
  |true=>
   obtain⟨h2,x⟩:=f9 id hp;have X:look (hide f (st j).s.h) id=some ao:=by rw[pY f x,<-d9 id x h2];exact h1
   have h5:id∉wl.map (·.1):=fun h6=>q (.inl ⟨by rw[k4];exact h6,h2⟩);exact(m2.H id ao ((iW k2).1 id ao X h5)).names (g:=g') (g2:=g.back g' _ _) rfl hqι (qA hp) (Hq (fun i h=>by simp only[pZ,h,Bool.true_or]) (kC k5 id ao X))
  |false=>
   have h2:=u.H id ao h1;have x:g.ι id≠none:=h2.some;refine h2.mono hE.le (vJ hp x) (fun loc hl=>m3.keep _ (u.W.lt id loc hl) (fun id' loc' j2 d7 e=>?_));simp only[Gh.only]at d7;split at d7;rename_i h0;have:=u.W.inj id' id loc' loc d7 hl e;subst this;rw[hp]at h0;cases h0;cases d7
  by_cases hg:g.ι id=none
  have h2:g'.ι id≠none:=by
   simp only[Gh.back]at h;split at h;exact absurd hg h;exact h
  have x:id<s'.n:=m2.dom id h2;by_cases f6:id<(st 0).s.n;exact .inl f6;by_cases A:id<(st j).s.n;obtain⟨i,hi,X⟩:=cov R (kX2 hr.c) (by omega) A;rcases vV R hr d hi with h5|⟨hb,_,_⟩
  refine .inr ⟨i,by have:=hr.c;omega,?_,X⟩;rw[y i (by omega)];exact h5;have h6:id∈f:=hhid ▸ lR i hi hb X
  have h7:jK f (st j).s.n id=false:=by
   cases hp:jK f (st j).s.n id with
   |false=>rfl
   |true=>exact absurd h6 (f9 id hp).2
  exfalso;simp only[Gh.back]at h;rw[jX2 ⟨h7,.inl A⟩]at h;exact h hg;refine .inr ⟨j,hr.c,hj,?_⟩;rw[R.al hr.c];omega;exact L id (u.dom id hg)
end
end Go.Sim
namespace Go.Sim
section
variable {P:Program} {T:gA} {ex:Nat->Bool->IC->St->Option (Ex×St)} {lim:Nat} {ops:Array Oper} {ios:List Sim.Op1} {st:Nat->St} {ft:Nat->Foot} {v:Nat->AV} {r:Option Nat} {n base:Nat} {g0:Gh} {w0:World}
def dJ (a:Array Bool) (i:Nat):Bool:=a.getD i false
theorem vX (a:Array Bool) (i j:Nat) (h:j<a.size):dJ (a.setIfInBounds j true) i=if i=j then true else dJ a i:=by
 unfold dJ;by_cases e:i=j;subst e;simp[h];simp[e,Array.getElem?_setIfInBounds_ne (Ne.symm e)]
theorem Re (R:pN P T ex lim ops ios st ft v) (t:kL P ex) (D:fC P T) (m:lim<=(st 0).s.n) {Q:Exit->Act->World->Prop}
  (hQ:∀(S:Nat->Bool) g a w,(∀i,i<ios.length->S i=true)->Wg P ops ios st ft v lim base g0 w0 S g a w->Q .normal a w):
  ∀(d:Nat) (b:Array Bool) (g:Gh) (a:Act) (w:World),b.size=ops.size->b.toList.count false<=d->Wg P ops ios st ft v lim base g0 w0 (dJ b) g a w->wpAnyIn (FW r) n P .any ops Q d b a w:=by
 have F:=R.size
 have k:∀(b:Array Bool),b.size=ops.size->Region.ready .any ops b=[]->∀i,i<ios.length->dJ b i=true:=by
  intro b hl hr i
  induction i using Nat.strongRecOn with
  |_ i ih=>
   intro hi;cases h:dJ b i with
   |true=>rfl
   |false=>
    exfalso;obtain⟨io,o,h1,h2,A⟩:=R.get hi
    have B:i∈Region.ready .any ops b:=by
     rw[mem_ready];have c:i<b.size:=by omega
     refine⟨by simp only[dJ]at h;simp[c]at h ⊢;exact h,o,by simpa using h2,fun e he hb=>?_⟩;have y:=R.back i o h2 e (by simpa using he) hb;exact ih e.on y (by omega)
    rw[hr]at B;cases B
 intro d
 induction d with
 |zero=>
  intro b g a w hl hc p
  have f:∀i,i<ios.length->dJ b i=true:=by
   intro i hi;have c:i<b.size:=by omega
   have l:b.toList.count false=0:=by omega
   rw[List.count_eq_zero]at l;cases h:dJ b i with
   |true=>rfl
   |false=>
    exfalso;apply l;simp only[dJ]at h;simp[c]at h;rw[<-h];simp
  refine⟨?_,hQ _ g a w f p⟩;rw[List.eq_nil_iff_forall_not_mem];intro i hi;rw[mem_ready]at hi;obtain⟨h1,o,h2,_⟩:=hi;have u:i<ops.size:=(kI2.1 h2).1;have:=f i (by omega);have c:i<b.size:=by omega
  simp only[dJ]at this;simp[c]at h1 this;rw[h1]at this;cases this
 |succ d ih=>
  intro b g a w hl hc p;refine⟨fun hr=>hQ _ g a w (k b hl hr) p,fun i hi=>?_⟩;rw[mem_ready]at hi;obtain⟨h1,o,h2,A⟩:=hi;have u:i<ops.size:=(kI2.1 h2).1;have c:i<b.size:=by omega
  obtain⟨io,o',G,H,J⟩:=R.get (j:=i) (by omega);have:o'=o:=by grind
  subst this
  have z:dJ b i=false:=by
   simp only[dJ];simp[c]at h1 ⊢;exact h1
  have hr:Wh ops ios (dJ b) i o' io:=⟨H,G,by omega,z,fun e he hb=>A e (by simpa using he) hb⟩
  refine Mt (S':=dJ (b.setIfInBounds i true)) R t D m hr J p (fun j E=>by rw[vX _ _ _ c,jU2 E]) (by rw[vX _ _ _ c,jX2 rfl]) (fun g' a' w' q=>?_);refine ih _ g' a' w' (by simpa using hl) ?_ q;have C:(b.setIfInBounds i true).toList=b.toList.set i true:=by simp
  have x:b.toList[i]'(by simpa using c)=false:=by simp_all
  rw[C,List.count_set (by simpa using c),x,jX2 (by rfl),jU2 (by decide)];omega
theorem Wj (K:fC P T) (y:P.follows .mixedOrders=true) {ex:Nat->Bool->IC->St->aB (Ex×St)} (A:kL P ex) (B:lP ex):Hw P T ex:=by
 intro lim ops ios σ E fs id hc l z k r g a w n base O f hl hb M;obtain⟨st,ft,v,_,q,x,D,J⟩:=Ei ios 0 σ (fun _=>{}) E fs z;simp only[lN2]at x D J;have hlen:fs.length=ios.length:=by rw[D,revF_length]
 rw[D,revF_length]at k;simp only[Pv,jO2,jV2]at l;obtain⟨U,V⟩:=l
 have R:pN P T ex lim ops ios st ft v:=by
  refine⟨hc,fun j o C e he L=>?_,fun j o C i p hi hp=>?_,J,tF k,B,by rw[q];exact f.wf⟩;have:=U (o,j) (by rw[kJ2];exact⟨j,by simp[C]⟩);simp only[jV2,kE2,kH2,jY2]at this;rcases this e he with h|h
  grind
  exact h;have:=V (o,j) (by rw[kJ2];exact⟨j,by simp[C]⟩);have h:=tE this i p hp (by omega);rw[lN2]at h;exact h
 have N:=R.size;refine wpIn_region_any y ?_;have hw:iT P g {w with drawn:=w.drawn+1} σ.s:=⟨fun id ao h=>(f.H id ao h).mono (.refl g) rfl (fun _ _=>rfl),⟨f.W.still,f.W.lt,f.W.out,f.W.inj⟩,f.dom,f.wf⟩
 have F:mH lim g g w {w with drawn:=w.drawn+1}:=⟨.refl g,jR2 _,fun _ _ _=>rfl,fun id loc h=>.inl ⟨loc,h,rfl⟩,fun _ _=>rfl,rfl,rfl,rfl,fun _ _ h=>.inl h,fun _ R h=>⟨R,h⟩⟩
 refine Re (base:=base) (g0:=g) (w0:=w) R A K (by rw[q];exact hl) ?_ ops.size (Array.replicate ops.size false) g a _ (by simp) (by simp) ?_;intro S g' a' w' G u;refine⟨rfl,g',?_⟩
 have b:∀id,eY st ft S ios.length id=look E.s.h id:=fun id=>by
  rw[vT R (jR2 _) (fun i hi _=>G i hi),x]
 have m:tl ios st v S ios.length=E.t:=by
  rw[<-x];exact mY2 (fun t=>tlA R (jR2 _) (fun i hi _=>G i hi))
 have d:=R.mono (i:=0) (j:=ios.length) (by omega) (jR2 _);rw[q,x]at d;refine⟨by rw[<-m];exact u.t,⟨fun id ao h=>u.H id ao (by rw[b];exact h),u.W,fun id h=>?_,by have:=R.wf (jR2 ios.length);rw[x]at this;exact this⟩,u.ext,d,u.marks⟩;rcases u.dom id h with h1|⟨i,h1,h2,h3⟩
 rw[q]at h1;omega;rw[R.al h1]at h3;have:=R.mono (i:=i+1) (j:=ios.length) (by omega) (jR2 _);rw[x]at this;omega
 have c:∀i,dJ (Array.replicate ops.size false) i=false:=by
  intro i;simp only[dJ];by_cases h:i<ops.size;simp[h];simp[h]
 have b:∀id,eY st ft (dJ (Array.replicate ops.size false)) ios.length id=look σ.s.h id:=by
  intro id;rw[tG (j:=0) (by omega) (fun i _ _ h=>by rw[c i]at h;cases h),<-q];rfl
 have m:tl ios st v (dJ (Array.replicate ops.size false)) ios.length=σ.t:=by
  rw[<-q];have h2:∀t,(tl ios st v (dJ (Array.replicate ops.size false)) ios.length)[t]? =(tl ios st v (dJ (Array.replicate ops.size false)) 0)[t]? :=fun t=>tlB (by omega) (fun i _ _ h=>by rw[c i]at h;cases h);exact mY2 h2
 exact⟨F,hw.W,fun id ao h=>hw.H id ao (by rw[<-b];exact h),fun id h=>.inl (by rw[q];exact hw.dom id h),by rw[m];exact O,M.ext F,fun i oi h=>by rw[c i]at h;cases h⟩
theorem vY (b:fC P T) (a:P.follows .mixedOrders=true) (d:Nat):kL P (exec T d):=Wd b (fun d h=>Wj b a h (vN T d)) d
end
end Go.Sim
namespace Go.Sim
open Go.RowKit
def gW (w:World):Gh:={G:=fun b=>w.heap[b]?,ι:=fun _=>none}
theorem Mu (P:Program) (w:World):iT P (gW w) w {h:=[],n:=0}:=
 ⟨fun id ao h=>by simp[look]at h,⟨fun b o h=>h,fun id loc h=>by simp[gW]at h,fun id loc h=>by simp[gW]at h,fun id id' loc loc' h=>by simp[gW]at h⟩,fun id h=>by simp[gW]at h,trivial⟩
theorem Mv {P:Program} {T:gA} (g:fC P T) (a:P.follows .mixedOrders=true) {f:FuncId} {args:aA AV} {Args:Array Value} {d:Nat} {s':Hp} {w:World} {x:Value} (hg:Value.ground x=true)
  (h:callF T (exec T d) 0 f args {h:=[],n:=0}=some (.v x,s')) (i:TR (gW w) args Args.toList):Calls P f Args w fun e w'=>e=.returned x/\Below w.heap.size w w':=by
 have h1:=pW (n:=0) (vY g a d) g h i (Mu P w) (jR2 _);refine callsIn_wide.1 (CallsIn.mono (F:=Fence.wide) h1 ?_);rintro e w' ⟨V,g',rfl,j,k,c,l⟩;refine⟨by rw[j.ground],⟨c.os,c.tape,c.output,c.size,fun b hb=>c.keep b hb (fun id loc _ hi=>by simp[gW]at hi)⟩⟩
def Rf (P:Program):aA Field->Nat->Nat->Bool
 |[],off,m=>off==m
 |f::fs,off,m=>f.offset==off&&Rf P fs (off+P.cellsOf f.type) m
def eC (P:Program):Nat->TypeId->Bool
 |0,_=>false
 |d+1,t=>
  match P.underlying t with
  |some .bool|some (.int _)|some .string=>true
  |some (.slice e)=>P.cellsOf e !=0&&eC P d e
  |some (.struct fs)=>Rf P fs.toList 0 (P.cellsOf t)&&fs.toList.all fun f=>eC P d f.type
  |some (.array n e)=>P.cellsOf t==n*P.cellsOf e&&eC P d e
  |_=>false
def Wk (F:TypeId->aA AV->Prop) (P:Program):aA Field->aA AV->Prop
 |[],cs=>cs=[]
 |f::fs,cs=>∃c1 c2,cs=c1++c2/\c1.length=P.cellsOf f.type/\F f.type c1/\Wk F P fs c2
def iL (P:Program):Nat->TypeId->aA AV->Prop
 |0,_,_=>False
 |d+1,t,cs=>
  match P.underlying t with
  |some .bool=>∃b,cs=[.v (.bool b)]
  |some (.int k)=>∃n,cs=[.v (.int k n)]/\(Lit.int k n).wf=true
  |some .string=>∃s:ByteArray,cs=[.v (.string s)]/\s.size<=maxLen
  |some (.slice e)=>cs=[.v (.slice none 0 0)]\/∃els:aA (aA AV),cs=[.is (P.cellsOf e) els]/\els.length<=maxLen/\∀row∈els,row.length=P.cellsOf e/\iL P d e row
  |some (.struct fs)=>Wk (iL P d) P fs.toList cs
  |some (.array n e)=>∃rows:aA (aA AV),cs=rows.flatten/\rows.length=n/\∀row∈rows,row.length=P.cellsOf e/\iL P d e row
  |_=>False
theorem jN {α β:Type} {f:α->aB β}:∀{l:aA α} {r:aA β},l.mapM f=some r->r.length=l.length/\∀(i:Nat) (x:α),l[i]? =some x->∃y,f x=some y/\r[i]? =some y
 |[],r,h=>by grind
 |a::l,r,h=>by
  simp only[mT2,Option.bind_eq_bind,jN2,Option.pure_def,jT2]at h
  obtain⟨b,hb,g,c,rfl⟩:=h
  obtain⟨h1,h2⟩:=jN c
  refine⟨by simp[h1],fun i x hi=>?_⟩
  cases i with
  |zero=>simp at hi;subst hi;exact⟨b,hb,rfl⟩
  |succ i=>simp at hi;obtain⟨y,d,e⟩:=h2 i x hi;exact⟨y,d,by simpa using e⟩
theorem rU {w:World} {base:Nat} {a:Addr} {n:Nat} {cs:aA Value} (h:w.cells? base a n=some cs):cs.length=n/\∀i,i<n->w.cell? (a.add i)=cs[i]? :=by
 unfold World.cells? at h;split at h;obtain⟨h1,h2⟩:=jN h;refine⟨by simpa using h1,fun i hi=>?_⟩;obtain⟨y,b,c⟩:=h2 i i (by simp[hi]);rw[b,c];cases h
theorem Wl {w:World} {a:Addr} {j:Nat} {y:Value} (h:w.cell? (a.add j)=some y) (hs:a.spot=none):(gW w).cell a j=some y:=by
 have d:a.add j=⟨a.block,a.off+j,none⟩:=by
  obtain⟨b,o,s⟩:=a;simp only at hs;subst hs;exact fJ b o j
 rw[d]at h;unfold World.cell? at h;split at h;rename_i c e fr hb;simp only at hb;simp only[Gh.cell,gW,hb];simpa using h;cases h
theorem mU {α:Type} {Q:Nat->α->Prop}:∀{n:Nat},(∀i,i<n->∃x,Q i x)->∃l:aA α,l.length=n/\∀(i:Nat) (x:α),l[i]? =some x->Q i x
 |0,_=>⟨[],rfl,fun i x h=>by simp at h⟩
 |n+1,h=>by
  obtain⟨l,h1,h2⟩:=mU (n:=n) (fun i hi=>h i (by omega))
  obtain⟨x,a⟩:=h n (by omega)
  refine⟨l++[x],by simp[h1],fun i y hy=>?_⟩
  rw[lJ2]at hy
  split at hy
  exact h2 i y hy
  grind
theorem TR.of_parts {g:Gh} {c1 c2:aA AV} {C:aA Value} {k:Nat} (h1:TR g c1 (C.take k)) (h2:TR g c2 (C.drop k)):TR g (c1++c2) C:=by
 have:=h1.app h2
 rwa [List.take_append_drop]at this
section
variable {H:Type} {enc:TypeId×Value->H} {P:Program} {w:World} {held:Bool}
def Rd (P:Program) (w:World) (D:Nat) (t:TypeId) (Cs:aA Value):Prop:=∃cs,TR (gW w) cs Cs/\iL P D t cs/\∀y∈Cs,isCell y=true
theorem tH {D a:Nat} (IH:∀t Cs g ps,DataW.trod enc P w 0 (fun _=>true) held a t Cs=some (g,ps)->eC P D t=true->Rd P w D t Cs):∀(fs:aA Field) (off m:Nat) (Cs:aA Value) (xs:aA (DataW H×aA MemPlace)),
  fs.mapM (fun f=>DataW.trod enc P w 0 (fun _=>true) held a f.type ((Cs.drop f.offset).take (P.cellsOf f.type)))=some xs->Rf P fs off m=true->(fs.all fun f=>eC P D f.type)=true->Cs.length=m->
  ∃cs,TR (gW w) cs (Cs.drop off)/\Wk (iL P D) P fs cs/\(∀y∈Cs.drop off,isCell y=true)/\off<=m
 |[],off,m,Cs,xs,h,hs,hp,hl=>by
  simp only[Rf,lR2]at hs
  subst hs
  have:Cs.drop off=[]:=by rw[List.drop_eq_nil_iff];omega
  rw[this]
  exact⟨[],.nil _,rfl,fun y h=>by simp at h,jR2 _⟩
 |f::fs,off,m,Cs,xs,h,hs,hp,hl=>by
  simp only[mT2,Option.bind_eq_bind,jN2,Option.pure_def,jT2]at h
  obtain⟨b,hb,e,d,rfl⟩:=h
  simp only[Rf,jO2,lR2]at hs
  obtain⟨rfl,hs⟩:=hs
  simp only[lO2,jO2]at hp
  obtain⟨cs2,i,j,k,l⟩:=tH IH fs (f.offset+P.cellsOf f.type) m Cs e d hs hp.2 hl
  obtain⟨c,q1,q2,q3⟩:=IH f.type _ b.1 b.2 hb hp.1
  have hd:(Cs.drop f.offset).drop (P.cellsOf f.type)=Cs.drop (f.offset+P.cellsOf f.type):=by rw[mF2]
  refine⟨c++cs2,TR.of_parts q1 (by rw[hd];exact i),⟨c,cs2,rfl,?_,q2,j⟩,fun y hy=>?_,by omega⟩
  rw[q1.1,List.length_take,List.length_drop]
  omega
  rw[<-List.take_append_drop (P.cellsOf f.type) (Cs.drop f.offset),hd,lA2]at hy
  rcases hy with hy|hy
  exact q3 y hy
  exact k y hy
theorem Mw {a:Nat} {t:TypeId} {Cs:aA Value} {x:DataW H×aA MemPlace} (c:P.underlying t=some .bool) (h:DataW.trod enc P w 0 (fun _=>true) held (a+1) t Cs=some x):∃b,Cs=[.bool b]:=by
 unfold DataW.trod at h;rw[c]at h;split at h<;>simp_all
theorem Rg {a:Nat} {t:TypeId} {Cs:aA Value} {k:IntKind} {x:DataW H×aA MemPlace} (b:P.underlying t=some (.int k)) (h:DataW.trod enc P w 0 (fun _=>true) held (a+1) t Cs=some x):∃n,Cs=[.int k n]/\(Lit.int k n).wf=true:=by
 unfold DataW.trod at h;rw[b]at h;split at h<;>simp_all
theorem En {a:Nat} {t:TypeId} {Cs:aA Value} {x:DataW H×aA MemPlace} (b:P.underlying t=some .string) (h:DataW.trod enc P w 0 (fun _=>true) held (a+1) t Cs=some x):∃s:ByteArray,Cs=[.string s]/\s.size<=maxLen:=by
 unfold DataW.trod at h;rw[b]at h;split at h<;>simp_all
theorem Eo {a:Nat} {t:TypeId} {fs:Array Field} {Cs:aA Value} {x:DataW H×aA MemPlace} (b:P.underlying t=some (.struct fs)) (h:DataW.trod enc P w 0 (fun _=>true) held (a+1) t Cs=some x):
  Cs.length=P.cellsOf t/\∃xs,fs.toList.mapM (fun f=>DataW.trod enc P w 0 (fun _=>true) held a f.type ((Cs.drop f.offset).take (P.cellsOf f.type)))=some xs:=by
 unfold DataW.trod at h;rw[b]at h;split at h<;>simp_all;obtain⟨_,y,h,_⟩:=h;exact⟨y,h⟩
theorem Hy {a n:Nat} {t e:TypeId} {Cs:aA Value} {x:DataW H×aA MemPlace} (b:P.underlying t=some (.array n e)) (h:DataW.trod enc P w 0 (fun _=>true) held (a+1) t Cs=some x):
  Cs.length=P.cellsOf t/\∃xs,(List.range n).mapM (fun i=>DataW.trod enc P w 0 (fun _=>true) held a e ((Cs.drop (i*P.cellsOf e)).take (P.cellsOf e)))=some xs:=by
 unfold DataW.trod at h;rw[b]at h;split at h<;>simp_all;obtain⟨_,y,h,_⟩:=h;exact⟨y,h⟩
theorem Hz {c:Nat} {t e:TypeId} {Cs:aA Value} {x:DataW H×aA MemPlace} (k:P.underlying t=some (.slice e)) (h:DataW.trod enc P w 0 (fun _=>true) held (c+1) t Cs=some x):
  Cs=[.slice none 0 0]\/∃a len cap,Cs=[.slice (some a) len cap]/\len<=cap/\cap<=maxLen/\∀i,i<cap->∃row y,w.cells? 0 (a.add (i*P.cellsOf e)) (P.cellsOf e)=some row/\DataW.trod enc P w 0 (fun _=>true) held c e row=some y:=by
 unfold DataW.trod at h;rw[k]at h;split at h
 all_goals first|(simp_all;done)|skip
 rename_i e' a len cap he;cases he;right;simp only at h;split at h
 .rename_i hc
  obtain⟨_,c1,c2⟩:=hc;simp only[jN2,kR2,jQ2]at h;obtain⟨d,h1,bV,h2,_⟩:=h;refine⟨a,len,cap,rfl,c1,c2,fun i hi=>?_⟩;by_cases f:i<len
  .obtain ⟨y,b,_⟩:=(jN h1).2 i i (mN2 f)
   simp only[jN2]at b;obtain⟨row,b,g⟩:=b;exact⟨row,y,b,g⟩
  .obtain ⟨y,b,_⟩:=(jN h2).2 (i-len) (i-len) (mN2 (by omega))
   have j:len+(i-len)=i:=by omega
   rw[j]at b;simp only[jN2]at b;obtain⟨row,b,g⟩:=b;exact⟨row,y,b,g⟩
 .cases h
theorem Kh:∀(D f:Nat) (t:TypeId) (Cs:aA Value) (G:DataW H) (ps:aA MemPlace),DataW.trod enc P w 0 (fun _=>true) held f t Cs=some (G,ps)->eC P D t=true->Rd P w D t Cs
 |0,_,_,_,_,_,_,hp=>by simp[eC]at hp
 |D+1,0,_,_,_,_,h,_=>by simp[DataW.trod]at h
 |D+1,f+1,t,Cs,G,ps,h,hp=>by
  have IH:=fun t Cs G ps=>Kh D f t Cs G ps
  have one:∀{x:AV} {y:Value},VR (gW w) x y->isCell y=true->iL P (D+1) t [x]->Rd P w (D+1) t [y]:=fun h1 h2 r=>
   ⟨_,.cons h1 (.nil _),r,fun y hy=>by simp at hy;subst hy;exact h2⟩
  unfold eC at hp
  split at hp
  rename_i c
  obtain⟨b,rfl⟩:=Mw c h
  exact one (.v rfl) rfl (by simp[iL,c])
  rename_i k c
  obtain⟨n,rfl,Z⟩:=Rg c h
  exact one (.v rfl) rfl (by simp[iL,c];exact Z)
  rename_i c
  obtain⟨s,rfl,hs⟩:=En c h
  exact one (.v rfl) rfl (by simp[iL,c];exact hs)
  rename_i e c
  simp only[jO2,bne_iff_ne,ne_eq]at hp
  obtain⟨h0,hp⟩:=hp
  rcases Hz c h with rfl|⟨a,len,cap,rfl,c1,c2,aK⟩
  exact one (x:=.v (.slice none 0 0)) (.v rfl) rfl (by simp[iL,c])
  by_cases M:cap=0
  have O:len=0:=by omega
  subst M;subst O
  exact one (x:=.is (P.cellsOf e) []) .is0 rfl (by simp[iL,c])
  have d:∀i,i<cap->∃row:aA AV,row.length=P.cellsOf e/\iL P D e row/\a.spot=none/\∀(j:Nat) (x:AV),row[j]? =some x->∃y,(gW w).cell a (i*P.cellsOf e+j)=some y/\isCell y=true/\VR (gW w) x y:=by
   intro i hi;obtain⟨row,y,S,T⟩:=aK i hi;obtain⟨l1,W⟩:=rU S;obtain⟨cs,q1,q2,q3⟩:=IH e row y.1 y.2 T hp
   have hs:a.spot=none:=by
    have h1:=W 0 (by omega);have h2:row[0]? =some row[0]:=by simp
    rw[h2]at h1;have r:=World.cell?_spot h1;unfold Addr.add at r;split at r;split at r;exact r;rename_i a0;obtain⟨F,_,R,_⟩:=aK 0 (by omega);obtain⟨l3,U⟩:=rU R;have B:=U 0 (by omega);have K:F[0]? =some F[0]:=by simp
    rw[K]at B;have L:=World.cell?_spot B;simpa[Addr.add]using L;obtain⟨F,_,R,_⟩:=aK 0 (by omega);obtain⟨l3,U⟩:=rU R;have B:=U 0 (by omega);have K:F[0]? =some F[0]:=by simp
    rw[K]at B;have L:=World.cell?_spot B;simpa[Addr.add]using L
   refine⟨cs,by rw[q1.1,l1],q2,hs,fun j x u=>?_⟩;have hj:j<row.length:=by rw[<-q1.1];exact(jP2.1 u).1
   have hc:=W j (by omega);have C:row[j]? =some row[j]:=by simp
   rw[C]at hc
   have Y:(a.add (i*P.cellsOf e)).add j=a.add (i*P.cellsOf e+j):=by
    obtain⟨b,o,s⟩:=a;simp only at hs;subst hs;rw[fJ,fJ,fJ,lE2]
   rw[Y]at hc;exact⟨row[j],Wl hc hs,q3 _ (by simp),q1.2 j x _ u C⟩
  obtain⟨els,A,e2⟩:=mU (n:=len) (fun i hi=>d i (by omega));obtain⟨_,_,_,hs,_⟩:=d 0 (by omega)
  have hv:VR (gW w) (.is (P.cellsOf e) els) (.slice (some a) els.length cap):=
   .is hs (by omega) (fun i row hr=>(e2 i row hr).1) (fun i row j x hr u=>by
    obtain⟨y,z,X,_⟩:=(e2 i row hr).2.2.2 j x u;exact⟨y,z,X⟩) (fun i row j x y hr u hy=>by
    obtain⟨y',z,X,y3⟩:=(e2 i row hr).2.2.2 j x u;rw[hy]at z;cases z;exact y3)
  rw[A]at hv;refine one hv rfl ?_;simp only[iL,c];refine .inr ⟨els,rfl,by omega,fun row hr=>?_⟩;obtain⟨i,hi⟩:=kJ2.1 hr;exact⟨(e2 i row hi).1,(e2 i row hi).2.1⟩;rename_i fs c;simp only[jO2]at hp;obtain⟨hl,xs,q⟩:=Eo c h;obtain⟨cs,S,T,k3,_⟩:=tH IH fs.toList 0 (P.cellsOf t) Cs xs q hp.1 hp.2 hl;exact⟨cs,by simpa using S,by simpa only[iL,c]using T,by simpa using k3⟩;rename_i n e c;simp only[jO2,lR2]at hp;obtain⟨hl,xs,q⟩:=Hy c h;rw[hp.1]at hl
  have d:∀i,i<n->∃row:aA AV,TR (gW w) row ((Cs.drop (i*P.cellsOf e)).take (P.cellsOf e))/\iL P D e row/\∀y∈(Cs.drop (i*P.cellsOf e)).take (P.cellsOf e),isCell y=true:=by
   intro i hi;obtain⟨y,z,_⟩:=(jN q).2 i i (by simp[hi]);exact IH e _ y.1 y.2 z hp.2
  obtain⟨rows,V,J⟩:=mU d
  have hlen:∀row∈rows,row.length=P.cellsOf e:=by
   intro row hr;obtain⟨i,hi⟩:=kJ2.1 hr;have N:i<n:=by rw[<-V];exact(jP2.1 hi).1
   rw[(J i row hi).1.1,List.length_take,List.length_drop,hl];have:(i+1)*P.cellsOf e<=n*P.cellsOf e:=kO2 _ N;rw[lC2]at this;omega
  have key:∀(m:Nat) (l:aA (aA AV)),l.length=m->(∀(i:Nat) (row:aA AV),l[i]? =some row->TR (gW w) row ((Cs.drop ((n-m+i)*P.cellsOf e)).take (P.cellsOf e))/\∀y∈(Cs.drop ((n-m+i)*P.cellsOf e)).take (P.cellsOf e),isCell y=true)->m<=n->
    TR (gW w) l.flatten (Cs.drop ((n-m)*P.cellsOf e))/\∀y∈Cs.drop ((n-m)*P.cellsOf e),isCell y=true:=by
   intro m
   induction m with
   |zero=>
    intro l p _ _;have:l=[]:=by cases l;rfl;simp at p
    subst this;have:Cs.drop ((n-0)*P.cellsOf e)=[]:=by rw[List.drop_eq_nil_iff,hl];simp
    rw[this];exact⟨.nil _,fun y h=>by simp at h⟩
   |succ m ih=>
    intro l p hr hm;cases l with
    |nil=>simp at p
    |cons row l=>
     have h0:=hr 0 row rfl;rw[lY2]at h0
     have g:=ih l (by simpa using p) (fun i E hi=>by
      have:=hr (i+1) E (by simpa using hi);have A:n-(m+1)+(i+1)=n-m+i:=by omega
      rwa [A]at this) (by omega)
     have hd:(Cs.drop ((n-(m+1))*P.cellsOf e)).drop (P.cellsOf e)=Cs.drop ((n-m)*P.cellsOf e):=by
      rw[mF2];congr 1;have:n-m=n-(m+1)+1:=by omega
      rw[this,lC2]
     refine⟨by simpa using TR.of_parts h0.1 (by rw[hd];exact g.1),fun y hy=>?_⟩;rw[<-List.take_append_drop (P.cellsOf e) (Cs.drop ((n-(m+1))*P.cellsOf e)),hd,lA2]at hy;rcases hy with hy|hy;exact h0.2 y hy;exact g.2 y hy
  have hk:=key n rows V (fun i row hi=>by
   have A:n-n+i=i:=by omega
   rw[A];exact⟨(J i row hi).1,(J i row hi).2.2⟩) (jR2 _)
  simp only[Nat.sub_self,nA2,lI2]at hk;refine⟨rows.flatten,hk.1,?_,hk.2⟩;simp only[iL,c];refine⟨rows,rfl,V,fun row hr=>⟨hlen row hr,?_⟩⟩;obtain⟨i,hi⟩:=kJ2.1 hr;exact(J i row hi).2.1;cases hp
end
end Go.Sim
namespace Go.Sim
section
variable {T:gA} {ex ex':Nat->Bool->IC->St->Option (Ex×St)}
def qF (ex ex':Nat->Bool->IC->St->aB (Ex×St)):Prop:=∀lim rd c σ r,ex lim rd c σ=some r->ex' lim rd c σ=some r
theorem rV (b:qF ex ex') {lim:Nat} {fn:IFn} {args:aA AV} {s:Hp} {r:AV×Hp} (h:body ex lim fn args s=some r):body ex' lim fn args s=some r:=by
 unfold body at h ⊢;split at h;cases h;rename_i e σ a he;rw[b _ _ _ _ _ he];cases e with
 |exit id=>exact absurd rfl (a id)
 |normal=>exact h
 |ret=>exact h
 cases h
theorem mono_runP (a:qF ex ex') {f:FuncId} {fn:IFn} {args:aA AV} {r:AV} (h:runP T ex f fn args=some r):runP T ex' f fn args=some r:=by
 unfold runP at h ⊢;split at h;rename_i b;exact h;split at h;rename_i hb;rw[rV a hb];exact h;cases h
theorem oW (a:qF ex ex') {lim:Nat} {f:FuncId} {args:aA AV} {s:Hp} {r:AV×Hp} (h:callF T ex lim f args s=some r):callF T ex' lim f args s=some r:=by
 unfold callF at h ⊢;split at h;cases h;rename_i fn c
 (try simp only[c])
 split at h;rename_i hp;rw[jX2 hp];split at h;rename_i hc;rw[jX2 hc];simp only[jQ2]at h;obtain⟨v,hv,rfl⟩:=h;rw[mono_runP a hv];rfl;rename_i hc;rw[jU2 hc];split at h;rename_i d;rw[jX2 d];split at h;rename_i as b
 (try simp only[b])
 split at h;rename_i hb;rw[mono_runP a hb];exact h;cases h;cases h;rename_i d;rw[jU2 d];split at h;rename_i hb;rw[rV a hb];exact h;cases h;rename_i hp;rw[jU2 hp];exact rV a h
theorem Ia (a:qF ex ex') {lim l:Nat} {args:aA AV} {s:Hp} {r:AV×Hp} (h:round ex lim l args s=some r):round ex' lim l args s=some r:=by
 unfold Sim.round at h ⊢;split at h;rename_i c
 (try simp only[c])
 split at h;rename_i hc;rw[jX2 hc];split at h;rename_i σ d;rw[a _ _ _ _ _ d];simp only;split at h;rename_i b
 (try simp only[b])
 split at h;rename_i hb;rw[a _ _ _ _ _ hb];exact h;rename_i hb;rw[a _ _ _ _ _ hb];exact h;rename_i hb;rw[a _ _ _ _ _ hb];exact h;cases h;cases h;cases h;cases h;cases h
theorem nQ (a:qF ex ex') {lim:Nat} {k:dQ} {xs:aA AV} {s:Hp} {r:AV×Hp} (h:step T ex lim k xs s=some r):step T ex' lim k xs s=some r:=by
 unfold step at h ⊢;split at h;exact oW a h;split at h;unfold callV at h ⊢;split at h;exact oW a h;exact Ia a h;cases h;cases h;exact h
theorem mV (b:qF ex ex') {lim:Nat}:∀{os:aA Sim.Op1} {σ τ:St},runOps T ex lim os σ=some τ->runOps T ex' lim os σ=some τ
 |[],σ,τ,h=>h
 |o::os,σ,τ,h=>by
  simp only[runOps]at h ⊢
  split at h
  rename_i hw
  rw[jX2 hw]
  split at h
  rename_i c
  (try simp only[c])
  split at h
  rename_i a
  simp only[nQ b a]
  exact mV b h
  cases h
  cases h
  rename_i hw
  rw[jU2 hw]
  exact mV b h
theorem gX (c:qF ex ex') {lim:Nat} {before:aA Nat}:∀{os:aA Sim.Op1} {j:Nat} {fs:aA Foot} {σ:St} {r:St×aA Foot},cQ T ex lim before os j fs σ=some r->cQ T ex' lim before os j fs σ=some r
 |[],j,fs,σ,r,h=>h
 |o::os,j,fs,σ,r,h=>by
  simp only[cQ]at h ⊢
  split at h
  rename_i hw
  rw[jX2 hw]
  split at h
  rename_i e
  (try simp only[e])
  split at h
  rename_i d
  rw[jX2 d]
  split at h
  rename_i a
  simp only[nQ c a]
  exact gX c h
  cases h
  rename_i d
  rw[jU2 d]
  split at h
  rename_i b
  rw[jX2 b]
  split at h
  rename_i a
  simp only[Ho (fun _ _=>nQ c) a]
  exact gX c h
  cases h
  rename_i b
  rw[jU2 b]
  split at h
  rename_i a
  simp only[nQ c a]
  exact gX c h
  cases h
  cases h
  rename_i hw
  rw[jU2 hw]
  exact gX c h
theorem zF (T:gA):∀d,qF (exec T d) (exec T (d+1))
 |0,lim,rd,c,σ,r,h=>by simp[exec]at h
 |d+1,lim,rd,c,σ,r,h=>by
  have ih:=zF T d
  cases c with
  |skip=>simpa only[exec]using h
  |reg ops=>
   simp only[exec,jQ2]at h
   obtain⟨τ,h,rfl⟩:=h
   rw[exec,mV ih h]
   rfl
  |regD ops before=>
   rw[exec]at h ⊢
   split at h
   rename_i hf
   rw[gX ih hf]
   exact h
   cases h
  |seq a b=>
   rw[exec]at h ⊢
   split at h
   rename_i i
   rw[ih _ _ _ _ _ i]
   exact ih _ _ _ _ _ h
   rename_i g
   have h2:=ih _ _ _ _ _ h
   rw[h2]
   obtain⟨e,τ⟩:=r
   cases e with
   |normal=>exact absurd h (g τ)
   |ret=>rfl
   |exit id=>rfl
  |cond c a b=>
   rw[exec]at h ⊢
   split at h
   rename_i hc
   (try simp only[hc])
   exact ih _ _ _ _ _ h
   cases h
  |block id c=>
   rw[exec]at h ⊢
   split at h
   rename_i i
   rw[ih _ _ _ _ _ i]
   exact h
   rename_i g
   have h2:=ih _ _ _ _ _ h
   rw[h2]
   obtain⟨e,τ⟩:=r
   cases e with
   |normal=>rfl
   |ret=>rfl
   |exit id=>exact absurd h (g _ _)
  |loop c=>
   rw[exec]at h ⊢
   split at h
   rename_i i
   rw[ih _ _ _ _ _ i]
   exact ih _ _ _ _ _ h
   rename_i e τ g i
   rw[ih _ _ _ _ _ i]
   cases e with
   |normal=>exact(g rfl).elim
   |ret=>exact h
   |exit id=>exact h
   cases h
  |rangeF f ps a b=>
   rw[exec]at h ⊢
   split at h
   rename_i j
   (try simp only[j])
   split at h
   rename_i hc
   simp only[oW ih hc]
   exact h
   cases h
   cases h
  |exit id=>simpa only[exec]using h
  |ret=>simpa only[exec]using h
theorem mono_le (T:gA) {d a:Nat} (h:d<=a):qF (exec T d) (exec T a):=by
 induction h with
 |refl=>exact fun _ _ _ _ _ h=>h
 |step _ ih=>exact fun _ _ _ _ _ h=>zF T _ _ _ _ _ _ (ih _ _ _ _ _ h)
end
end Go.Sim
namespace Go.Sim
def gB (P:Program):Nat->aA (aB IFn)->Prop
 |_,[]=>True
 |i,none::r=>gB P (i+1) r
 |i,some ifn::r=>(∃fn,P.funcs[i]? =some fn/\iM P fn ifn.pure ifn.frz=some ifn)/\gB P (i+1) r
theorem gB.get {P:Program}:∀{l:aA (aB IFn)} {i j:Nat} {ifn:IFn},gB P i l->l[j]? =some (some ifn)->∃fn,P.funcs[i+j]? =some fn/\iM P fn ifn.pure ifn.frz=some ifn
 |[],i,j,ifn,_,h=>by simp at h
 |none::r,i,j,ifn,h,hj=>by
  cases j with
  |zero=>simp at hj
  |succ j=>
   have:=gB.get (l:=r) h (by simpa using hj)
   rwa [show i+1+j=i+(j+1)by omega]at this
 |some x::r,i,j,ifn,h,hj=>by
  cases j with
  |zero=>
   simp at hj
   subst hj
   exact h.1
  |succ j=>
   have:=gB.get (l:=r) h.2 (by simpa using hj)
   rwa [show i+1+j=i+(j+1)by omega]at this
def oL:aA (FuncId×aA AV×AV)->FuncId->aA AV->aB AV
 |[],_,_=>none
 |(f',as,v)::r,f,args=>if f=f'/\Di (pO 20) args as=true then some v else oL r f args
def mW (P:Program):aA (FuncId×aA AV×AV)->Prop
 |[]=>True
 |(f,as,v)::r=>iV P f as v/\mW P r
theorem Ep {P:Program}:∀{M:aA (FuncId×aA AV×AV)} {f:FuncId} {args:aA AV} {v:AV},mW P M->oL M f args=some v->iV P f args v
 |[],_,_,_,_,h=>by cases h
 |(f',as,v')::r,f,args,v,hM,h=>by
  simp only[oL]at h
  split at h
  rename_i hc
  cases h
  rw[hc.1,oQ (pX 20) hc.2]
  exact hM.1
  exact Ep hM.2 h
theorem lS {M:aA (FuncId×aA AV×AV)} {f:FuncId} (h:∀e∈M,e.1≠f) (args:aA AV):oL M f args=none:=by
 induction M with
 |nil=>rfl
 |cons e r ih=>
  obtain⟨f',as,v⟩:=e;simp only[oL];rw[jU2 (fun hc=>h (f',as,v) (by simp) hc.1.symm)];exact ih (fun e he=>h e (by simp[he]))
theorem gB.tab {P:Program} {l:aA (aB IFn)} {M:aA (FuncId×aA AV×AV)} (h:gB P 0 l) (a:mW P M):fC P ⟨fun f=>(l[f]?).join,oL M⟩:=by
 refine⟨fun f ifn hf=>?_,fun f args v b=>Ep a b⟩;have:l[f]? =some (some ifn):=by grind
 have h2:=gB.get h this
 rwa [lN2]at h2
def Rh (P:Program):aA Func->aA (aB IFn)->aA (aB IFn)
 |_,[]=>[]
 |[],_::_=>[]
 |_::fs,none::r=>none::Rh P fs r
 |fn::fs,some x::r=>iM P fn x.pure x.frz::Rh P fs r
theorem gB.of {P:Program}:∀{l:aA (aB IFn)} {fs:aA Func} {i:Nat},P.funcs.toList.drop i=fs->Rh P fs l=l->gB P i l
 |[],_,_,_,_=>trivial
 |o::r,[],i,_,h=>by cases o<;>cases h
 |none::r,f::fs,i,hd,h=>by
  have a:P.funcs.toList.drop (i+1)=fs:=by rw[<-mF2,hd];rfl
  exact gB.of (l:=r) a (List.cons.inj h).2
 |some x::r,f::fs,i,hd,h=>by
  have a:P.funcs.toList.drop (i+1)=fs:=by rw[<-mF2,hd];rfl
  have hi:P.funcs[i]? =some f:=by
   rw[<-lK2,<-List.head?_drop,hd];rfl
  exact⟨⟨f,hi,(List.cons.inj h).1⟩,gB.of (l:=r) a (List.cons.inj h).2⟩
theorem vZ {P:Program} {T:gA} (b:fC P T) (a:P.follows .mixedOrders=true) {f:FuncId} {fn:IFn} {args:aA AV} {v:AV} {d:Nat} (hf:T f=some fn) (hp:fn.pure=true) (hc:args.all (closed 4)=true)
  (h:runP T (exec T d) f fn args=some v):iV P f args v:=by
 intro g w s n Args e c;exact rR (vY b a d) b hf hc h e c
end Go.Sim
namespace Go.Sim
open Go.RowKit Go.ChangeShapes Go.WideShapes
section
variable {H:Type} {enc:TypeId×Value->H} {P:Program} {W W':World}
theorem Wm {a:Addr} {y:Value} (h:W.cell? a=some y):a.block<W.heap.size:=by
 unfold World.cell? at h;split at h
 grind
 cases h
theorem Ib (hb:Below W.heap.size W W') {a:Addr} {n:Nat} {cs:aA Value} (h:W.cells? 0 a n=some cs):W'.cells? 0 a n=some cs:=by
 unfold World.cells? at h ⊢;simp only[kS2,kR2]at h ⊢;exact mapM_mono (fun x y b=>by rw[hb.cell (Wm b)];exact b) h
theorem kX {α β:Type} {f g:α->aB β}:∀{l:aA α} {r:aA β},l.mapM f=some r->(∀x y,x∈l->y∈r->f x=some y->g x=some y)->l.mapM g=some r
 |[],r,h,_=>by simpa using h
 |a::l,r,h,hk=>by
  simp only[mT2,Option.bind_eq_bind,jN2,Option.pure_def,jT2]at h
  obtain⟨b,hb,e,c,rfl⟩:=h
  have h1:=kX c (fun x y d hy=>hk x y (by simp[d]) (by simp[hy]))
  have h2:=hk a b (by simp) (by simp) hb
  simp[mT2,h1,h2]
theorem zG (hb:Below W.heap.size W W') {held:Bool} {sp:Nat->Bool}:∀(b D:Nat) (t:TypeId) (cs:aA Value) (x:DataW H×aA MemPlace),eC P D t=true->
  DataW.trod enc P W 0 (fun _=>true) held b t cs=some x->(∀q∈x.2,sp q.block=true)->DataW.trod enc P W' 0 sp held b t cs=some x
 |0,_,_,_,_,_,h,_=>by simp[DataW.trod]at h
 |b+1,0,_,_,_,hp,_,_=>by simp[eC]at hp
 |b+1,D+1,t,cs,x,hp,h,hs=>by
  have IH:=zG hb (held:=held) (sp:=sp) b D
  unfold eC at hp
  split at hp
  .rename_i d
   unfold DataW.trod at h ⊢
   rw[d]at h ⊢
   split at h<;>simp_all
  .rename_i k d
   unfold DataW.trod at h ⊢
   rw[d]at h ⊢
   split at h<;>simp_all
  .rename_i d
   unfold DataW.trod at h ⊢
   rw[d]at h ⊢
   split at h<;>simp_all
  .rename_i e d
   simp only[jO2,bne_iff_ne,ne_eq]at hp
   obtain⟨h0,hp⟩:=hp
   unfold DataW.trod at h ⊢
   rw[d]at h ⊢
   split at h
   all_goals first|(simp_all;done)|skip
   rename_i e' a len cap he
   cases he
   simp only at h ⊢
   split at h
   .rename_i hc
    rw[jX2 hc]
    simp only[jN2,kR2,jQ2]at h
    obtain⟨c,h1,bV,h2,rfl⟩:=h
    simp only[lA2]at hs
    have el:∀(i:Nat) (y:DataW H×aA MemPlace),(y∈c\/y∈bV)->((W.cells? 0 (a.add (i*P.cellsOf e)) (P.cellsOf e)).bind (DataW.trod enc P W 0 (fun _=>true) held b e))=some y->
      ((W'.cells? 0 (a.add (i*P.cellsOf e)) (P.cellsOf e)).bind (DataW.trod enc P W' 0 sp held b e))=some y:=by
     intro i y hy h;simp only[jN2]at h ⊢;obtain⟨row,v,w⟩:=h;refine⟨row,Ib hb v,IH e row y hp w (fun q l=>hs q (Or.inr ?_))⟩;rw[List.mem_flatMap];exact⟨y,by simpa using hy,l⟩
    have m:=kX h1 (g:=fun i=>(W'.cells? 0 (a.add (i*P.cellsOf e)) (P.cellsOf e)).bind (DataW.trod enc P W' 0 sp held b e)) (fun i y _ hy h=>el i y (Or.inl hy) h);have o:=kX h2 (g:=fun j=>(W'.cells? 0 (a.add ((len+j)*P.cellsOf e)) (P.cellsOf e)).bind (DataW.trod enc P W' 0 sp held b e)) (fun i y _ hy h=>el (len+i) y (Or.inr hy) h);rw[m];simp only[jW2];by_cases r:cap=0
    .grind
    .have p:sp a.block=true:=by
      have hlen:c.length+bV.length=cap:=by
       have s:=(jN h1).1;have e2:=(jN h2).1;simp at s e2;omega
      refine hs (.cell a.block (a.off+0)) (Or.inl ?_);unfold MemPlace.row;rw[List.mem_map];refine⟨0,?_,rfl⟩;rw[List.mem_range,hlen];exact Nat.mul_pos (by omega) (by omega)
     rw[jX2 p,o];rfl
   .cases h
  .rename_i fs d
   simp only[jO2]at hp;unfold DataW.trod at h ⊢;rw[d]at h ⊢;split at h
   all_goals first|(simp_all;done)|skip
   rename_i u he;cases he;split at h
   .rename_i hc
    rw[jX2 hc];simp only[jQ2]at h ⊢;obtain⟨xs,h1,rfl⟩:=h;refine⟨xs,kX h1 (fun f y hf hy h=>IH f.type _ y ?_ h (fun q l=>hs q ?_)),rfl⟩
    .grind
    .grind
   .cases h
  .rename_i n e d
   simp only[jO2,lR2]at hp;unfold DataW.trod at h ⊢;rw[d]at h ⊢;split at h
   all_goals first|(simp_all;done)|skip
   rename_i n' e' he;cases he;split at h
   .rename_i hc
    rw[jX2 hc];simp only[jQ2]at h ⊢;obtain⟨xs,h1,rfl⟩:=h;refine⟨xs,kX h1 (fun i y hi hy h=>IH e _ y hp.2 h (fun q l=>hs q ?_)),rfl⟩;rw[List.mem_flatMap];exact⟨y,hy,l⟩
   .cases h
  .cases hp
theorem qG (hb:Below W.heap.size W W') {held:Bool} {sp:Nat->Bool} {D:Nat}:∀(c:aA TypeId) (vs:aA Value) (a:aA (DataW H)) (ps:aA MemPlace),(c.all fun t=>eC P D t)=true->
  DataW.TrodAll enc P W 0 (fun _=>true) held c vs a ps->(∀q∈ps,sp q.block=true)->DataW.TrodAll enc P W' 0 sp held c vs a ps
 |[],vs,a,ps,_,h,_=>by
  match vs,a,h with
  |[],[],h=>exact h
 |t::c,vs,a,ps,hp,h,hs=>by
  match vs,a,h with
  |v::vs,d::a,h=>
   obtain⟨p,q,⟨b,h1⟩,h2,rfl⟩:=h
   simp only[lO2,jO2]at hp
   exact⟨p,q,⟨b,zG hb b D t _ _ hp.1 h1 (fun x e=>hs x (by simp[e]))⟩,qG hb c vs a q hp.2 h2 (fun x e=>hs x (by simp[e])),rfl⟩
def fN1 (P:Program) (W:World) (D:Nat) (t:TypeId) (x:AV) (V:Value):Prop:=
 VR (gW W) x V/\∃cs,iL P D t cs/\x=(if bX P t then .agg cs else cs.headD .undef)
theorem fO1 {D a:Nat} {t:TypeId} {V:Value} {x:DataW H×aA MemPlace} (b:(∃cs,V=.agg cs)↔bX P t=true) (j:∀cs,V≠.tuple cs) (hp:eC P D t=true)
  (h:DataW.trod enc P W 0 (fun _=>true) true a t V.cells.toList=some x):∃y,fN1 P W D t y V:=by
 obtain⟨cs,h1,h2,f⟩:=Kh D a t _ x.1 x.2 h hp;by_cases d:bX P t=true;obtain⟨Cs,rfl⟩:=b.2 d;refine⟨.agg cs,.agg (by simpa[Value.cells]using h1.1) (fun i y hy=>f y ?_) (fun i x y k hy=>h1.2 i x y k (by simpa[Value.cells]using hy)),cs,h2,by rw[jX2 d]⟩;simp only[Value.cells];exact kA2 (by simpa using hy);have g:∀Cs,V≠.agg Cs:=fun Cs e=>d (b.1 ⟨Cs,e⟩);have hc:V.cells=#[V]:=by cases V<;>simp_all[Value.cells]
 rw[hc]at h1;have hl:=h1.1
 match cs,hl,h1,h2 with
 |[c],_,h1,h2=>exact⟨c,h1.head,[c],h2,by rw[jU2 d];rfl⟩
end
end Go.Sim
namespace Go.Sim
open Go.RowKit Go.ChangeShapes Go.WideShapes Go.ChangeAt
section
variable {H:Type} {enc:TypeId×Value->H} {P:Program} {W W':World}
theorem Ic {D:Nat} {t:TypeId} {base:Nat} {V:Value} (hp:eC P D t=true) (a:Value.okWide P W .any base t V):((∃cs,V=.agg cs)↔bX P t=true)/\∀cs,V≠.tuple cs:=by
 cases D with
 |zero=>simp[eC]at hp
 |succ D=>
 unfold eC at hp;unfold Value.okWide at a;unfold bX;split at hp;rename_i b;rw[b]at a ⊢;simp only[Cell.okWide,b]at a;cases V<;>simp_all[Cell.ok];rename_i b;rw[b]at a ⊢;simp only[Cell.okWide,b]at a;cases V<;>simp_all[Cell.ok];rename_i b;rw[b]at a ⊢;simp only[Cell.okWide,b]at a;cases V<;>simp_all[Cell.ok];rename_i b;rw[b]at a ⊢;simp only[Cell.okWide,b]at a;cases V<;>simp_all[Cell.ok]
 grind
 grind
 cases hp
def oM (P:Program) (W:World) (D:Nat):aA TypeId->aA AV->aA Value->Prop
 |[],[],[]=>True
 |t::ts,x::xs,V::Vs=>fN1 P W D t x V/\oM P W D ts xs Vs
 |_,_,_=>False
theorem Ki {D base:Nat}:∀{e:aA TypeId} {vs:aA Value} {c:aA (DataW H)} {ps:aA MemPlace},(e.all fun t=>eC P D t)=true->
  (∀(j:Nat) t v,e[j]? =some t->vs[j]? =some v->Value.okWide P W .any base t v)->
  DataW.TrodAll enc P W 0 (fun _=>true) true e vs c ps->∃xs,oM P W D e xs vs
 |[],vs,c,ps,_,_,h=>by
  match vs,c,h with
  |[],[],h=>exact⟨[],trivial⟩
 |t::e,vs,c,ps,hp,hok,h=>by
  match vs,c,h with
  |v::vs,d::c,h=>
   obtain⟨p,q,⟨g,h1⟩,h2,rfl⟩:=h
   simp only[lO2,jO2]at hp
   obtain⟨k,l⟩:=Ic hp.1 (hok 0 t v rfl rfl)
   obtain⟨x,i⟩:=fO1 k l hp.1 h1
   obtain⟨xs,f⟩:=Ki hp.2 (fun j t v a b=>hok (j+1) t v (by simpa using a) (by simpa using b)) h2
   exact⟨x::xs,i,f⟩
theorem oM.tr {D:Nat}:∀{a:aA TypeId} {xs:aA AV} {vs:aA Value},oM P W D a xs vs->TR (gW W) xs vs
 |[],[],[],_=>.nil _
 |_::_,_::_,_::_,h=>.cons h.1.1 (oM.tr h.2)
theorem tJ {sp:Nat->Bool} {base:Nat} {held:Bool}:∀{b:aA TypeId} {vs:aA Value} {a:aA (DataW H)} {ps:aA MemPlace},DataW.TrodAll enc P W base sp held b vs a ps->a.length=b.length/\vs.length=b.length
 |[],vs,a,ps,h=>by
  match vs,a,h with
  |[],[],h=>exact⟨rfl,rfl⟩
 |t::b,vs,a,ps,h=>by
  match vs,a,h with
  |v::vs,d::a,⟨p,q,h1,h2,_⟩=>
   obtain⟨c,e⟩:=tJ h2
   exact⟨by simp[c],by simp[e]⟩
end
theorem Ay {C:Checked} {f:FuncId} {fn:Func} {s:ChangeSpec} {d fresh g:Bool} {D:Nat} {tb:TypeId} {H:Type} {enc:TypeId×Value->H}
  (i:s.vars=[]) (m:∀k:aA (DataW H),k.length=fn.params.toList.length->s.fn H k={results:=[.lit (.bool true)],args:=k})
  (r:fn.resultTypes=#[tb]) (F:C.prog.underlying tb=some .bool) (c:(fn.params.toList.all fun t=>eC C.prog D t)=true)
  (w:∀(W:World) (xs:aA AV) (args:Array Value),oM C.prog W D fn.params.toList xs args.toList->Calls C.prog f args W fun e W'=>e=.returned (.bool true)/\Below W.heap.size W W')
  (W:World) (base:Nat) (args:Array Value) (k A:aA (DataW H)) (before:aA MemPlace)
  (u:∀(j:Nat) t v,fn.params[j]? =some t->args[j]? =some v->Value.okWide C.prog W .any base t v)
  (J:DataW.Whole enc C.prog fn.params.toList s.vars d W args.toList k A before):
  Calls C.prog f args W fun e W'=>∃v,e=.returned v/\s.post enc C.prog fn d fresh g false W args v W':=by
 have n:=J;obtain⟨p,q,B,y,rfl,K,L⟩:=J
 have E:A=[]/\q=[]:=by
  rw[i]at y
  match A,y with
  |[],y=>exact⟨rfl,y⟩
 obtain⟨rfl,rfl⟩:=E;obtain⟨xs,G⟩:=Ki c (fun j t v a b=>u j t v (by simpa using a) (by simpa using b)) B;refine(w W xs args G).mono fun e W' ⟨he,hb⟩=>?_;subst he;have l:=m k (tJ B).1
 have o:∀x∈p,(decide (x.block<W.heap.size))=true:=fun x z=>by
  have:=n.lt x (by simp[z]);simpa using this
 refine⟨_,rfl,k,[],p++[],[],p,[],n,?_,?_,?_,World.keptBut_mono (fun x z=>⟨z,by simpa using z⟩) (hb.frame (· ∈p++[])),fun h=>by cases h⟩;rw[mR2,l,r];exact trodAll_mk1 (shut_bool F _);rw[mR2,l];exact qG hb _ _ _ _ c B o;rw[mR2,l,i];rfl
end Go.Sim
