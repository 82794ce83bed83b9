import Derived.Test.YtlmhifhgadmigaaGreatLaA
import Derived.ControlIn
import Derived.LoopNIn
import GoSem.ClaimChange
import Derived.Below
import Derived.DataReads
import Derived.ChangeSame
import Derived.ProofKit
import Derived.OpenShut
/- A text of the proof. -/
set_option linter.unusedVariables false
set_option linter.unusedSimpArgs false
namespace Go.Sim
structure fU (s s':Hp):Prop where
 wf:Wf s.h s.n->Wf s'.h s'.n
 n:s.n<=s'.n
theorem fU.refl (s:Hp):fU s s:=⟨id,pQ2 _⟩
theorem fU.trans {a b c:Hp} (h:fU a b) (k:fU b c):fU a c:=⟨fun w=>k.wf (h.wf w),qT2 h.n k.n⟩
theorem Fy (out:Out) (s:Hp):fU s (out.apply s):=by
 constructor;intro hw
 have a:Wf (match out.up with|some (id,ob)=>upd s.h id ob|none=>s.h) s.n:=by
  split;exact hw.upd _ _;exact hw
 simp only[Out.apply];split;exact⟨by simp,a⟩;exact a;simp only[Out.apply];split;simp;exact pQ2 _
theorem Ak (s:Hp) (id:Nat) (o:AO):fU s {h:=upd s.h id o,n:=s.n}:=⟨fun h=>h.upd _ _,pQ2 _⟩
section
variable {T:gH} {ex:Nat->Bool->IC->St->Option (Ex×St)}
def mF (ex:Nat->Bool->IC->St->aB (Ex×St)):Prop:=∀lim rd c σ e a,ex lim rd c σ=some (e,a)->fU σ.s a.s
theorem Jo (b:mF ex) {lim:Nat} {fn:IFn} {args:aA AV} {s s':Hp} {v:AV} (h:body ex lim fn args s=some (v,s')):fU s s':=by
 unfold body at h;split at h;cases h;rename_i e σ a he;simp only[pP2,qE2]at h;obtain⟨v',_,_,rfl⟩:=h;exact b _ _ _ _ _ _ he;cases h
theorem nD (a:mF ex) {lim:Nat} {f:FuncId} {args:aA AV} {s s':Hp} {v:AV} (h:callF T ex lim f args s=some (v,s')):fU s s':=by
 unfold callF at h;split at h;cases h;split at h;split at h;simp only[pP2,qE2]at h;obtain⟨_,_,_,rfl⟩:=h;exact .refl _;split at h;split at h;split at h;split at h;cases h;exact .refl _;cases h;cases h;cases h;split at h;simp only[pP2,qE2]at h;obtain⟨_,_,_,rfl⟩:=h;exact .refl _;cases h;exact Jo a h
theorem nE {l:Nat} {s s':Hp} {st:LoopState} {pend:aB IC} (h:endRound l s st pend=some s'):fU s s':=by
 obtain⟨_,_,_,_,_,_,_,rfl⟩:=lC h;exact Ak _ _ _
theorem Fz (d:mF ex) {lim l:Nat} {args:aA AV} {s s':Hp} {v:AV} (h:round ex lim l args s=some (v,s')):fU s s':=by
 unfold Sim.round at h;split at h;split at h;split at h;rename_i σ f;have h1:=d _ _ _ _ _ _ f;split at h
 have fin:∀{e:Ex} {τ:St} {id:Nat} {o:AO} {lim:Nat} {rd:Bool} {c:IC} {st:LoopState} {pend:aB IC} {b:AV},ex lim rd c {t:=σ.t,s:={h:=upd σ.s.h id o,n:=σ.s.n}}=some (e,τ)->
   (endRound l τ.s st pend).map (fun s=>(b,s))=some (v,s')->fU s s':=by
  intro e τ id o lim rd c st pend b hb a;simp only[pP2,qE2]at a;obtain⟨g,a,_,rfl⟩:=a;exact((h1.trans (Ak _ id o)).trans (d _ _ _ _ _ _ hb)).trans (nE a)
 split at h
 grind
 grind
 grind
 cases h;cases h;cases h;cases h;cases h
theorem jY (a:mF ex) {lim:Nat} {k:dW} {xs:aA AV} {s s':Hp} {v:AV} (h:step T ex lim k xs s=some (v,s')):fU s s':=by
 unfold step at h;split at h;exact nD a h;split at h;unfold callV at h;split at h;exact nD a h;exact Fz a h;cases h;cases h;split at h;cases h;exact Fy _ _;cases h
theorem mG (c:mF ex) {lim:Nat}:∀{os:aA Sim.Op1} {σ a:St},runOps T ex lim os σ=some a->fU σ.s a.s
 |[],σ,a,h=>by
  simp only[runOps,pV2]at h
  subst h
  exact .refl _
 |o::os,σ,a,h=>by
  simp only[runOps]at h
  split at h
  split at h
  split at h
  rename_i b
  exact(jY c b).trans (mG c h)
  cases h
  cases h
  have:=mG c h
  exact this
theorem uE {run:Hp->aB (AV×Hp)} (hr:∀s v s',run s=some (v,s')->fU s s') {a:aA Nat} {xs:aA AV} {s b:Hp} {v:AV} {W:aA Nat} (h:tW run a xs s=some (v,b,W)):fU s b:=by
 obtain⟨s',w,h1,h2,rfl,_⟩:=mD h;have hg:=hr _ _ _ h1;exact⟨fun hw=>Wf.new (hw.updAll w) (hg.wf (hw.hide a)) hg.n,hg.n⟩
theorem gJ (c:mF ex) {lim:Nat} {before:aA Nat}:∀{os:aA Sim.Op1} {j:Nat} {fs:aA Foot} {σ d:St} {a:aA Foot},cX T ex lim before os j fs σ=some (d,a)->fU σ.s d.s
 |[],j,fs,σ,d,a,h=>by
  simp only[cX,pV2,qE2]at h
  obtain⟨rfl,_⟩:=h
  exact .refl _
 |o::os,j,fs,σ,d,a,h=>by
  simp only[cX]at h
  split at h
  split at h
  split at h
  split at h
  have:=gJ c h
  exact this
  cases h
  split at h
  split at h
  rename_i b
  exact(uE (fun _ _ _=>jY c) b).trans (gJ c h)
  cases h
  split at h
  rename_i b
  exact(jY c b).trans (gJ c h)
  cases h
  cases h
  have:=gJ c h
  exact this
theorem Al {σ:Hp}:fU σ {h:=popMark σ.h,n:=σ.n}:=⟨fun h=>h.pop,pQ2 _⟩
theorem wT {σ:Hp}:fU σ {h:=.mark::σ.h,n:=σ.n}:=⟨fun h=>h,pQ2 _⟩
theorem wU (T:gH):∀d,mF (exec T d)
 |0,_,_,_,_,_,_,h=>by simp[exec]at h
 |d+1,lim,rd,c,σ,e,σ',h=>by
  have ih:=wU T d
  unfold exec at h
  split at h
  cases h;exact .refl _
  simp only[pP2,qE2]at h
  obtain⟨τ,h,_,rfl⟩:=h
  exact mG ih h
  split at h
  rename_i hf
  split at h
  cases h
  exact gJ ih hf
  cases h
  cases h
  split at h
  rename_i a
  exact(ih _ _ _ _ _ _ a).trans (ih _ _ _ _ _ _ h)
  exact ih _ _ _ _ _ _ h
  split at h
  exact ih _ _ _ _ _ _ h
  cases h
  split at h
  rename_i a
  split at h
  cases h;exact ih _ _ _ _ _ _ a
  cases h;exact ih _ _ _ _ _ _ a
  exact ih _ _ _ _ _ _ h
  split at h
  rename_i a
  exact((wT.trans (ih _ _ _ _ _ _ a)).trans Al).trans (ih _ _ _ _ _ _ h)
  rename_i a
  cases h
  exact(wT.trans (ih _ _ _ _ _ _ a)).trans Al
  cases h
  split at h
  split at h
  rename_i hc
  have h1:=nD ih hc
  have h2:∀o:AO,fU σ.s {h:=.ob σ.s.n o::σ.s.h,n:=σ.s.n+1}:=fun o=>⟨fun h=>⟨by simp,h⟩,by simp⟩
  have f:=(h2 _).trans h1
  split at h
  split at h
  cases h
  split at h
  cases h
  rename_i b
  have g:=f.trans (nE b)
  split at h<;>cases h<;>exact g
  cases h
  cases h
  cases h
  cases h;exact .refl _
  cases h;exact .refl _
end
end Go.Sim
namespace Go.Sim
section
variable {P:Program} {F:Fence} {n:Nat} {b:Frame} {a:Act} {k:List Item} {cs:List Frame} {w:World} {Q:Exit->Act->World->Prop}
theorem gX {c:Code}:Go.step P (lone (b.atR a (.code (.scope c)::k)) cs w)=.next (lone (b.atR a (.code c::.inScope c::k)) cs w):=
 step_lone_go (by simp[stepG,stepG.exec,Frame.atR])
theorem zJ {c:Code}:Go.step P (lone (b.atR a (.inScope c::k)) cs w)=.next (lone (b.atR a k) cs w):=
 step_lone_go (by simp[stepG,stepG.exec,Frame.atR])
theorem Jp {c:Code} (hg:∀l a w,¬Q (.goto l) a w) (h:c.wpIn F n P Q a w):(Code.scope c).wpIn F n P Q a w:=by
 intro b k cs j hb hr;have h0:(lone (b.atR a (.code (.scope c)::k)) cs w).fenced P F:=fenced_calm hb hr rfl;obtain⟨e,g,w₁,f,d⟩:=h b (.inScope c::k) cs j hb hr;cases e with
 |normal=>exact⟨.normal,g,w₁,f,.head h0 gX (StepsIn.trans d (.one (fenced_calm hb hr rfl) zJ))⟩
 |exit id=>
  have m:exitTo id (.inScope c::k)=exitTo id k:=by simp[exitTo]
  exact⟨.exit id,g,w₁,f,fun k' hk=>.head h0 gX (d.1 k' (by rw[m];exact hk)),
   fun i hk=>let⟨o,h1,h2⟩:=d.2 i (by rw[m];exact hk);⟨o,h1,.head h0 gX h2⟩⟩
 |goto l=>exact(hg _ _ _ f).elim
 |ret=>exact⟨_,g,w₁,f,.of_steps (.one h0 gX) d⟩
 |panic ch=>exact⟨_,g,w₁,f,.of_steps (.one h0 gX) d⟩
 |outgrown=>exact⟨_,g,w₁,f,.of_steps (.one h0 gX) d⟩
end
end Go.Sim
namespace Go.Sim
section
variable {T:gH} {L L':Nat->Option AO} {lim n n':Nat} {k:dW} {xs:List AV} {out:Out}
theorem hY {esz:Nat} {x:AV} {r:aA (aA AV)} (h:rowsOf L esz x=some r) (a:∀id ao,id∈idOf x->L id=some ao->L' id=some ao):rowsOf L' esz x=some r:=by
 unfold rowsOf at h;split at h;simpa only[rowsOf]using h;simpa only[rowsOf]using h;simpa only[rowsOf]using h;simpa only[rowsOf]using h;split at h;rename_i hl;simp only[rowsOf,a _ _ (by simp[idOf]) hl];exact h;cases h;cases h
theorem Cl {x:AV} {r:aA (AV×AV)} (h:entsOf L x=some r) (a:∀id ao,id∈idOf x->L id=some ao->L' id=some ao):entsOf L' x=some r:=by
 unfold entsOf at h;split at h;exact h;split at h;rename_i hl;simp only[entsOf,a _ _ (by simp[idOf]) hl];exact h;cases h;exact h;cases h
theorem wV {ty:TypeId} {esz:Nat} {s:AV} {new:aA (aA AV)} {o:Out} (h:appendTo L lim n ty esz s new=some o) (a:∀id ao,id∈idOf s->L id=some ao->L' id=some ao):appendTo L' lim n ty esz s new=some o:=by
 unfold appendTo at h;split at h;simpa only[appendTo]using h;simpa only[appendTo]using h;simpa only[appendTo]using h;split at h;rename_i hl;simp only[appendTo,a _ _ (by simp[idOf]) hl];exact h;cases h;cases h
theorem zK {esz:Nat} {lo hi mx:Bool} {x:AV} {g:aA AV} {v:AV} (h:sliceOp L esz lo hi mx (x::g)=some v) (k:∀id ao,id∈idOf x->L id=some ao->L' id=some ao):sliceOp L' esz lo hi mx (x::g)=some v:=by
 have key:∀(L:Nat->aB AO),(∀a b c d e f,x≠.sl a b c d e f)->sliceOp L esz lo hi mx (x::g)=sliceOp L' esz lo hi mx (x::g):=by
  intro L j;cases x<;>first|rfl|exact absurd rfl (j _ _ _ _ _ _)|(rename_i y;cases y<;>first|rfl|(rename_i a b c;cases a<;>cases b<;>cases c<;>rfl))
 by_cases j:∃a b c d e f,x=.sl a b c d e f;obtain⟨z,id,ver,off,len,cap,rfl⟩:=j;cases hl:L id with
 |none=>
  exfalso;simp only[sliceOp,hl]at h;split at h<;>cases h
 |some ao=>
  have i:=k id ao (by simp[idOf]) hl;simp only[sliceOp,hl]at h;simp only[sliceOp,i];exact h
 grind
theorem Pk {ty:TypeId} {esz b:Nat} {zero:aA Value} {zeros:Bool} {s x:AV} (h:doOp L lim n (.append ty esz b zero zeros) [s,x]=some out) (e:∀id ao,id∈idOf x->L id=some ao->L' id=some ao) (hs:∀id ao,id∈idOf s->L id=some ao->L' id=some ao):
  doOp L' lim n (.append ty esz b zero zeros) [s,x]=some out:=by
 simp only[doOp]at h ⊢;split at h;rename_i new a
 have c:appRows L' esz zeros zero x=some new:=by
  cases zeros;simp only[appRows,qA2,qX2]at a ⊢;exact hY a e;simp only[appRows,qQ2]at a ⊢;exact a
 split at h;rename_i o d;simp only[c,wV d hs];exact h;cases h;cases h
theorem Jq (h:doOp L lim n k xs=some out) (b:∀id ao,id∈(foot T k xs).rd\/id∈(foot T k xs).wr->L id=some ao->L' id=some ao):doOp L' lim n k xs=some out:=by
 unfold doOp at h;split at h
 all_goals first|(simp only[doOp];exact h)|skip
 ·
  split at h
  .simpa only[doOp]using h
  .split at h
   .rename_i hl
    simp only[doOp,b _ _ (.inl (by simp[foot,idOf])) hl];exact h
   .cases h
  .cases h
 ·
  split at h
  .simpa only[doOp]using h
  .split at h
   .rename_i hl
    simp only[doOp,b _ _ (.inl (by simp[foot,idOf])) hl];exact h
   .cases h
  .cases h
 ·
  split at h
  .rename_i hc
   split at h
   .rename_i hl
    simp only[doOp,hc,b _ _ (.inr (by simp[foot,idOf])) hl];exact h
   .cases h
  .cases h
 ·
  split at h
  .rename_i hr
   simp only[doOp,hY hr (fun id ao a=>b id ao (.inl a))];exact h
  .cases h
 ·
  rename_i x;simp only[pP2]at h;obtain⟨v,hv,rfl⟩:=h;cases xs with
  |nil=>simp[sliceOp]at hv
  |cons x bs=>simp only[doOp,zK hv (fun id ao a=>b id ao (.inl a)),qR2]
 ·
  split at h
  .rename_i c
   split at h
   .rename_i es he
    simp only[doOp,c,qQ2,Cl he (fun id ao a=>b id ao (.inl a))];exact h
   .cases h
  .cases h
 ·
  split at h
  .split at h
   .rename_i hl
    simp only[doOp,b _ _ (.inr (by simp[foot,idOf])) hl];exact h
   .cases h
  .cases h
 ·
  split at h
  all_goals first|(simp only[doOp];exact h)|skip
  .split at h
   .rename_i hl
    simp only[doOp,b _ _ (.inl (by simp[foot,idOf])) hl];exact h
   .cases h
 .exact Pk h (fun id ao a=>b id ao (.inl a)) (fun id ao a=>b id ao (.inr a))
 ·
  split at h
  .rename_i rows hr
   split at h
   .simp only[doOp,hY hr (fun id ao a=>b id ao (.inl a))]
    exact h
   .simp only[doOp,hY hr (fun id ao a=>b id ao (.inl a))]
    exact h
   .split at h
    .rename_i hl
     simp only[doOp,hY hr (fun id ao a=>b id ao (.inl a)),b _ _ (.inr (by simp[foot,idOf])) hl];exact h
    .cases h
   .cases h
  .cases h
 ·
  split at h
  .simpa only[doOp]using h
  .simpa only[doOp]using h
  .split at h
   .rename_i hl
    simp only[doOp,b _ _ (.inr (by simp[foot,idOf])) hl];exact h
   .cases h
  .cases h
theorem Ga {ty:TypeId} {esz:Nat} {s:AV} {new:aA (aA AV)} {o:Out} {id:Nat} {ao:AO} (h:appendTo L lim n ty esz s new=some o) (a:o.up=some (id,ao)):id∈idOf s/\(L id).isSome=true:=by
 unfold appendTo at h;split at h
 .grind
 .grind
 .grind
 .split at h
  .rename_i hl
   repeat' split at h
   all_goals cases h
   all_goals cases a
   all_goals exact⟨by simp[idOf],by rw[hl];rfl⟩
  .cases h
 .cases h
theorem Jr {ty:TypeId} {esz:Nat} {s:AV} {new:aA (aA AV)} {o:Out} (h:appendTo L lim n ty esz s new=some o) (a:o.new=none):appendTo L lim n' ty esz s new=some o:=by
 unfold appendTo at h;split at h;split at h;rename_i hc;cases h;simp only[appendTo,hc,qQ2];cases h;cases a;split at h;rename_i hc;cases h;simp only[appendTo,hc,qQ2];cases h;cases a;simpa only[appendTo]using h;split at h;rename_i hl;simp only[appendTo,hl];split at h
 grind
 cases h;cases h;cases h
theorem Mj {ty:TypeId} {esz b:Nat} {zero:aA Value} {zeros:Bool} {s x:AV} (h:doOp L lim n (.append ty esz b zero zeros) [s,x]=some out):
  ∃new,appRows L esz zeros zero x=some new/\appendTo L lim n ty esz s new=some out/\∀n',appendTo L lim n' ty esz s new=some out->doOp L lim n' (.append ty esz b zero zeros) [s,x]=some out:=by
 simp only[doOp]at h;split at h;rename_i new a;split at h;rename_i o c;have:o=out:=by grind
 subst this;refine⟨new,a,c,fun n' h'=>?_⟩;simp only[doOp,a,h'];exact h;cases h;cases h
theorem rA {id:Nat} {ao:AO} (h:doOp L lim n k xs=some out) (c:out.up=some (id,ao)):id∈(foot T k xs).wr/\(L id).isSome=true:=by
 have a:∀ty esz b zero zeros s x,k=.append ty esz b zero zeros->xs=[s,x]->id∈(foot T k xs).wr/\(L id).isSome=true:=by
  rintro ty esz b zero zeros s x rfl rfl;obtain⟨new,h1,h2,_⟩:=Mj h;exact Ga h2 c
 unfold doOp at h;split at h
 all_goals first|exact a _ _ _ _ _ _ _ rfl rfl|skip
 all_goals clear a
 all_goals (repeat' split at h)
 all_goals first
  |(cases h;done)
  |(simp only[pP2]at h;obtain⟨_,_,rfl⟩:=h;cases c;done)
  |(cases h;cases c;done)
  |(have hl:= ‹L _=some _›;cases h;cases c;exact⟨by simp[foot,idOf],by rw[hl];rfl⟩)
theorem iY1 (h:doOp L lim n k xs=some out) (c:out.new=none):doOp L lim n' k xs=some out:=by
 have a:∀ty esz b zero zeros s x,k=.append ty esz b zero zeros->xs=[s,x]->doOp L lim n' k xs=some out:=by
  rintro ty esz b zero zeros s x rfl rfl;obtain⟨new,h1,h2,d⟩:=Mj h;exact d n' (Jr h2 c)
 unfold doOp at h;split at h
 all_goals first|exact a _ _ _ _ _ _ _ rfl rfl|skip
 all_goals clear a
 all_goals first|(simp only[doOp];exact h)|skip
 all_goals (repeat' split at h)
 all_goals first
  |(cases h;done)
  |(simp only[pP2]at h;obtain⟨_,_,rfl⟩:=h;cases c;done)
  |(cases h;cases c;done)
end
end Go.Sim
namespace Go.Sim
theorem pN {a:aA Nat} {i:Nat}:∀{es:aA Edge},(kY a es).testBit i=true->∃e∈es,Region.binds .any e=true/\(i=e.on\/(a.getD e.on 0).testBit i=true)
 |[],h=>by simp[kY]at h
 |e::es,h=>by
  simp only[kY]at h
  split at h
  rename_i hb
  simp only[Nat.testBit_or,qC2]at h
  rcases h with(h|h)|h
  grind
  grind
  obtain⟨e',h1,h2⟩:=pN h
  exact⟨e',by simp[h1],h2⟩
  obtain⟨e',h1,h2⟩:=pN h
  exact⟨e',by simp[h1],h2⟩
theorem nF:∀(os:aA Oper) (a:aA Nat),∃tail,bT a os=a++tail/\tail.length=os.length/\
  ∀k o,os[k]? =some o->(bT a os).getD (a.length+k) 0=kY ((bT a os).take (a.length+k)) o.after.toList
 |[],a=>⟨[],by simp[bT],rfl,fun k o h=>by simp at h⟩
 |o::os,a=>by
  obtain⟨tail,h1,h2,b⟩:=nF os (a++[kY a o.after.toList])
  refine⟨kY a o.after.toList::tail,by simp[bT,h1],by simp[h2],fun k o' hk=>?_⟩
  cases k with
  |zero=>
   simp only[sF2,pV2]at hk
   subst hk
   simp only[bT,h1,sB2]
   simp
  |succ k=>
   have:=b k o' (by simpa using hk)
   have e:(a++[kY a o.after.toList]).length+k=a.length+(k+1):=by simp;omega
   rw[e]at this
   exact this
theorem nG {ops:aA Oper} (a:∀j o,ops[j]? =some o->∀e∈o.after.toList,Region.binds .any e=true->e.on<j) {D:Nat->Prop}
  (q:∀i oi,D i->ops[i]? =some oi->∀e∈oi.after.toList,Region.binds .any e=true->D e.on):∀(j:Nat) (o:Oper),ops[j]? =some o->(∀e∈o.after.toList,Region.binds .any e=true->D e.on)->
   ∀i,((bT [] ops).getD j 0).testBit i=true->D i:=by
 intro j
 induction j using Nat.strongRecOn with
 |_ j ih=>
  intro o k he i hi;obtain⟨tail,h1,h2,m⟩:=nF ops [];have l:=m j o k;simp only[qB2,rP2]at l;rw[l]at hi;obtain⟨e,f,g,c⟩:=pN hi;rcases c with rfl|c;exact he e f g;have h:=a j o k e f g;have r:j<ops.length:=(pO2.1 k).1;have n:((bT [] ops).take j).getD e.on 0=(bT [] ops).getD e.on 0:=by grind
  rw[n]at c;have b:ops[e.on]? =some ops[e.on]:=by simp
  exact ih e.on h _ b (fun e' p d=>q e.on _ (he e f g) b e' p d) i c
theorem uF {j:Nat} {o:Sim.Op1} {a:Nat}:∀{ps:aA Sim.Op1} {b:Nat},Bz j o a ps b=true->∀k p,ps[k]? =some p->b+k<j->
  a.testBit (b+k)=true\/((∀d,p.dst=some d->o.dst≠some d/\d∉o.reads)/\∀d,o.dst=some d->d∉p.reads)
 |[],b,h,k,p,hk,_=>by simp at hk
 |q::ps,b,h,k,p,hk,hlt=>by
  simp only[Bz,pN2,qC2,pU2]at h
  obtain⟨h1,h2⟩:=h
  cases k with
  |zero=>
   simp only[sF2,pV2]at hk
   subst hk
   rw[sB2]at hlt ⊢
   rcases h1 with(h1|h1)|h1
   omega
   exact .inl h1
   grind
  |succ k=>
   have:=uF h2 k p (by simpa using hk) (by omega)
   have e:b+1+k=b+(k+1):=by omega
   rwa [e]at this
def fG (ft:Nat->Foot):Nat->aA Foot
 |0=>[]
 |j+1=>ft j::fG ft j
theorem jZ {ft ft':Nat->Foot}:∀{j:Nat},(∀i,i<j->ft i=ft' i)->fG ft j=fG ft' j
 |0,_=>rfl
 |j+1,h=>by rw[fG,fG,h j (by omega),jZ (fun i hi=>h i (by omega))]
theorem revF_length (ft:Nat->Foot):∀j,(fG ft j).length=j
 |0=>rfl
 |j+1=>by simp[fG,revF_length ft j]
section
variable (T:gH) (ex:Nat->Bool->IC->St->Option (Ex×St))
def Sh (lim a m j:Nat) (o:Sim.Op1) (ft:Nat->Foot) (st:Nat->St) (v:Nat->AV):Prop:=
  (st (j+1)).t=put (st j).t o.dst (v j)/\
  ((wanted (st j).t o.guard=false/\v j=.undef/\ft j={}/\(st (j+1)).s=(st j).s)\/
   (wanted (st j).t o.guard=true/\∃xs,evs (st j).t o.xs=some xs/\(foot T o.k xs).all=1/\ft j=foot T o.k xs/\(st (j+1)).s=(st j).s/\
     ∃b,step T ex lim o.k xs {h:=hide (unseen a j (fG ft j)) (st j).s.h,n:=(st j).s.n+Yr (m-j)}=some (v j,b))\/
   (wanted (st j).t o.guard=true/\∃xs,evs (st j).t o.xs=some xs/\((foot T o.k xs).all≠1/\(foot T o.k xs).all≠3)/\ft j={foot T o.k xs with al:=List.range' (st j).s.n ((st (j+1)).s.n-(st j).s.n)}/\
     step T ex lim o.k xs (st j).s=some (v j,(st (j+1)).s))\/
   (wanted (st j).t o.guard=true/\∃xs W,evs (st j).t o.xs=some xs/\(foot T o.k xs).all=3/\ft j={wr:=W,al:=List.range' (st j).s.n ((st (j+1)).s.n-(st j).s.n),all:=1}/\
     tW (step T ex lim o.k xs) (unseen a j (fG ft j)) xs (st j).s=some (v j,(st (j+1)).s,W)))
variable {T ex}
theorem Sh.congr {lim a m j:Nat} {o:Sim.Op1} {ft ft':Nat->Foot} {st st':Nat->St} {v v':Nat->AV} (h:Sh T ex lim a m j o ft st v) (hf:∀i,i<=j->ft' i=ft i) (h1:st' j=st j) (h2:st' (j+1)=st (j+1)) (b:v' j=v j):
  Sh T ex lim a m j o ft' st' v':=by
 unfold Sh at *;rw[h1,h2,b,hf j (pQ2 _),jZ (ft:=ft') (ft':=ft) (j:=j) (fun i hi=>hf i (by omega))];exact h
theorem Gb {lim:Nat} {before:aA Nat}:∀(os:aA Sim.Op1) (j:Nat) (σ:St) (a:Nat->Foot) (n:St) (b:aA Foot),cX T ex lim before os j (fG a j) σ=some (n,b)->
  ∃(st:Nat->St) (ft:Nat->Foot) (v:Nat->AV),(∀i,i<j->ft i=a i)/\st j=σ/\st (j+os.length)=n/\b=fG ft (j+os.length)/\
   ∀k o,os[k]? =some o->Sh T ex lim (before.getD (j+k) 0) (j+os.length) (j+k) o ft st v
 |[],j,σ,a,n,b,h=>by
  simp only[cX,pV2,qE2]at h
  obtain⟨rfl,rfl⟩:=h
  exact⟨fun _=>σ,a,fun _=>.undef,fun _ _=>rfl,rfl,rfl,rfl,fun k o h=>by simp at h⟩
 |o::os,j,σ,a,n,b,h=>by
  have bY:∀(s:St) (f:Foot) (x:AV),cX T ex lim before os (j+1) (f::fG a j) s=some (n,b)->
    (∀(st:Nat->St) (ft:Nat->Foot) (v:Nat->AV),st j=σ->st (j+1)=s->ft j=f->(∀i,i<j->ft i=a i)->v j=x->Sh T ex lim (before.getD j 0) (j+(os.length+1)) j o ft st v)->
    ∃(st:Nat->St) (ft:Nat->Foot) (v:Nat->AV),(∀i,i<j->ft i=a i)/\st j=σ/\st (j+(o::os).length)=n/\b=fG ft (j+(o::os).length)/\
     ∀k o',(o::os)[k]? =some o'->Sh T ex lim (before.getD (j+k) 0) (j+(o::os).length) (j+k) o' ft st v:=by
   intro s f x hr hs;let l:Nat->Foot:=fun i=>if i=j then f else a i
   have r:f::fG a j=fG l (j+1):=by
    have h1:l j=f:=pW2 rfl;rw[fG,h1,jZ (ft:=l) (ft':=a) (fun i hi=>pT2 (by omega))]
   rw[r]at hr;obtain⟨st,ft,v,h1,h2,z,w,y⟩:=Gb os (j+1) s l n b hr;have p:∀i,i<j->ft i=a i:=fun i hi=>(h1 i (by omega)).trans (pT2 (by omega));have q:ft j=f:=(h1 j (by omega)).trans (pW2 rfl);have hlen:j+(o::os).length=j+1+os.length:=by simp;omega
   refine⟨fun i=>if i=j then σ else st i,ft,fun i=>if i=j then x else v i,p,pW2 rfl,?_,?_,?_⟩
   grind
   rw[hlen];exact w;intro k o' hk;cases k with
   |zero=>
    simp only[sF2,pV2]at hk;subst hk;exact hs _ ft _ (pW2 rfl) ((pT2 (by omega)).trans h2) q p (pW2 rfl)
   |succ k=>
    have u:=y k o' (by simpa using hk);have e:j+1+k=j+(k+1):=by omega
    rw[e,<-hlen]at u;exact u.congr (fun _ _=>rfl) (pT2 (by omega)) (pT2 (by omega)) (pT2 (by omega))
  simp only[cX]at h;split at h;rename_i hw;split at h;rename_i xs m;split at h;rename_i d;split at h;rename_i v t g;refine bY _ _ v h (fun st ft v' a1 a2 a3 a4 a5=>?_);unfold Sh;rw[a1,a2,a5,a3,jZ a4];refine⟨rfl,.inr (.inl ⟨hw,xs,m,d,rfl,rfl,t,?_⟩)⟩;have e:j+(os.length+1)-j=os.length+1:=by omega
  rw[e];exact g;cases h;rename_i d;split at h;rename_i c;split at h;rename_i v t W g;refine bY _ _ v h (fun st ft v' a1 a2 a3 a4 a5=>?_);unfold Sh;rw[a1,a2,a5,a3,jZ a4];exact⟨rfl,.inr (.inr (.inr ⟨hw,xs,W,m,c,rfl,g⟩))⟩;cases h;rename_i c;split at h;rename_i v t g;refine bY _ _ v h (fun st ft v' a1 a2 a3 a4 a5=>?_);unfold Sh;rw[a1,a2,a5,a3];exact⟨rfl,.inr (.inr (.inl ⟨hw,xs,m,⟨d,c⟩,rfl,g⟩))⟩;cases h;cases h;rename_i hw;refine bY _ _ .undef h (fun st ft v' a1 a2 a3 a4 a5=>?_);unfold Sh;rw[a1,a2,a5,a3];exact⟨rfl,.inl ⟨by simpa using hw,rfl,rfl,rfl⟩⟩
theorem nH {a:Nat} {f:Foot} {ft:Nat->Foot}:∀{j:Nat},drawOK.okAgainst a f (fG ft j) j=true->∀i,i<j->a.testBit i=true\/compat (ft i) f=true
 |0,_,i,hi=>by omega
 |j+1,h,i,hi=>by
  simp only[fG,drawOK.okAgainst,sM2,pN2,qC2]at h
  by_cases e:i=j
  subst e;exact h.1
  exact nH h.2 i (by omega)
theorem uG {before:aA Nat} {ft:Nat->Foot}:∀{m:Nat},drawOK before (fG ft m) m=true->∀j,j<m->∀i,i<j->(before.getD j 0).testBit i=true\/compat (ft i) (ft j)=true
 |0,_,j,hj=>by omega
 |m+1,h,j,hj=>by
  simp only[fG,drawOK,sM2,pN2]at h
  intro i hi
  by_cases e:j=m
  subst e;exact nH h.1 i hi
  exact uG h.2 j (by omega) i hi
end
end Go.Sim
namespace Go.Sim
section
variable {P:Program} {T:gH} {lim n:Nat} {g:Gh} {w:World} {r:Option Nat}
def Js (P:Program) (T:gH) (ex:Nat->Bool->IC->St->aB (Ex×St)):Prop:=
 ∀(lim:Nat) (ops:Array Oper) (ios:aA Sim.Op1) (σ b:St) (fs:aA Foot) (id:Nat),mapO (hJ P ops.toList) ops.toList=some ios->Sq ops.toList ios (bT [] ops.toList)=true->
  cX T ex lim (bT [] ops.toList) ios 0 [] σ=some (b,fs)->drawOK (bT [] ops.toList) fs fs.length=true->
  ∀(r:aB Nat) (g:Gh) (a:Act) (w:World) (n base:Nat),TR g σ.t a.tmps.toList->jE P g w σ.s->lim<=σ.s.n->base<=w.heap.size->fI base g w a.defers->
   (Code.region id ops true).wpIn (FW r) n P (wO P base lim g w σ.s .normal b) a w
theorem uA.trans {base:Nat} {s s' c:Hp} {t e:aA AV} {g' b:Gh} {a' a:Act} {w' d:World} (h:uA P base lim g w s t s' g' a' w') (k:uA P base lim g' w' s' e c b a d):
  uA P base lim g w s e c b a d:=⟨k.t,k.inv,h.ext.trans k.ext,qT2 h.n k.n,k.marks⟩
theorem jE.pop {s:Hp} (h:jE P g w s):jE P g w {h:=popMark s.h,n:=s.n}:=
 ⟨fun id ao a=>h.H id ao (Fv h.wf a),h.W,h.dom,h.wf.pop⟩
theorem jE.mark {s:Hp} (h:jE P g w s):jE P g w {h:=.mark::s.h,n:=s.n}:=⟨h.H,h.W,h.dom,h.wf⟩
theorem Am {base:Nat} {s s':Hp} {t:aA AV} {g':Gh} {e:Ex} {d:St} {e':Exit} {a' a:Act} {w' b:World} (f:uA P base lim g w s t s' g' a' w') (h:wO P base lim g' w' s' e d e' a b):wO P base lim g w s e d e' a b:=by
 obtain⟨h1,c,h2⟩:=h;exact⟨h1,c,f.trans h2⟩
theorem aK {D:Nat} (c:∀d,d<D->lB P (exec T d)) {x:Code} {f:IC} (l:comp P x=some f) {rd:Bool} {r:aB Nat} (hr:rd=r.isSome) {e:Ex} {m:St}:
  ∀(d:Nat),d<=D->∀(σ:St) (g:Gh) (a:Act) (w:World) (n base:Nat) (Q:Exit->Act->World->Prop),exec T d lim rd (.loop f) σ=some (e,m)->kO r w->TR g σ.t a.tmps.toList->jE P g w σ.s->lim<=σ.s.n->base<=w.heap.size->fI base g w a.defers->
   (∀e' a' w',wO P base lim g w σ.s e m e' a' w'->Q e' a' w')->Code.roundsIn (FW r) n P x Q d a w
 |0,_,σ,g,a,w,n,base,Q,h,_,_,_,_,_,_,_=>by simp[exec]at h
 |d+1,hd,σ,g,a,w,n,base,Q,h,hra,ht,hI,hl,hb,hm,hQ=>by
  simp only[exec]at h
  rw[roundsIn_succ]
  split at h
  rename_i τ j
  refine wpIn_mono (c d (by omega) lim rd f _ .normal τ j x l r hr g a w n base hra ht hI.mark hl hb hm) ?_
  rintro o a1 w1 ⟨rfl,i,b⟩
  refine aK c l hr d (by omega) _ i a1 w1 n base Q h (hra.ext b.ext) b.t b.inv.pop (qT2 hl b.n) (qT2 hb b.ext.size) b.marks ?_
  intro e2 a2 w2 h2
  exact hQ _ _ _ (Am (s':={h:=popMark τ.s.h,n:=τ.s.n}) ⟨b.t,b.inv.pop,b.ext,b.n,b.marks⟩ h2)
  rename_i p τ k j
  cases h
  refine wpIn_mono (c d (by omega) lim rd f _ e τ j x l r hr g a w n base hra ht hI.mark hl hb hm) ?_
  rintro o a1 w1 ⟨rfl,i,b⟩
  cases e with
  |normal=>exact(k rfl).elim
  |ret=>exact hQ _ _ _ ⟨rfl,i,b.t,b.inv.pop,b.ext,b.n,b.marks⟩
  |exit id=>exact hQ _ _ _ ⟨rfl,i,b.t,b.inv.pop,b.ext,b.n,b.marks⟩
  cases h
theorem jE.other {s:Hp} (a:jE P g w s) (o:Obj):jE P g (w.alloc o) s/\mW lim g g w (w.alloc o):=by
 have c:∀b o',g.G b=some o'->b<w.heap.size:=fun b o' h=>(qL2.1 (a.W.still b o' h)).1
 refine⟨⟨fun id ao d=>(a.H id ao d).mono (.refl g) rfl (fun loc hl=>cF w o (a.W.lt id loc hl)),⟨fun b o' h=>?_,fun id loc h=>?_,a.W.out,a.W.inj⟩,a.dom,a.wf⟩,
  ⟨.refl g,by simp,fun b hb _=>cF w o hb,fun id loc h=>.inl ⟨loc,h,rfl⟩,fun _ _=>rfl,rfl,rfl,rfl,fun _ _ h=>.inl h,fun b R h=>⟨R,(cF w o (qL2.1 h).1).trans h⟩⟩⟩
 rw[cF w o (c b o' h)];exact a.W.still b o' h;have:=a.W.lt id loc h;simp;omega
theorem fI.fresh {base:Nat}:∀{a:aA Deferred},fI base g w a->∀d∈a,d.target≠.collected w.heap.size
 |[],_,d,hd=>by simp at hd
 |d0::a,⟨⟨r,h1,h2,h3,_,_,_⟩,h7⟩,d,hd=>by
  rcases qI2.1 hd with rfl|hd
  grind
  exact fI.fresh h7 d hd
theorem Gc {b:Nat} {R:Loop} (hb:w.heap[b]? =some (.loop R)) (hr:R.state≠.busy):(Instr.endLoop b).run P w=.ok R.pending {w with heap:=w.heap.setIfInBounds b (.loop {R with state:=.exhausted})}:=by
 simp[Instr.endLoop,iP hb,nB hb,hr]
def iZ1:aB IC->aB Ex
 |none=>some .normal
 |some .ret=>some .ret
 |some (.exit id)=>some (.exit id)
 |_=>none
theorem wW {ex:Nat->Bool->IC->St->aB (Ex×St)} (b8:lB P ex) (hT:fL P T) {f:Operand} {of:IX} {ps:Array Tmp} {x y:Code} {cx cy:IC} (hf:zE f=some of) (Z:comp P x=some cx) (hy:comp P y=some cy)
  {σ:St} {K:FuncId} {first cap:aA AV} (b7:of.ev σ.t=some (.fn (.func K) first cap)) {v:AV} {s:Hp}
  (c:callF T ex lim K (first++[.fn (.yield σ.s.n) [] []]++cap) {h:=.ob σ.s.n (.loop .ready none σ.t ps.toList cx cy)::σ.s.h,n:=σ.s.n+1}=some (v,s))
  {st:LoopState} {pend:aB IC} {tm:aA AV} {pm:aA Nat} {as bd:IC} (hL:look s.h σ.s.n=some (.loop st pend tm pm as bd)) (d3:st≠.busy) {s':Hp} (U:endRound σ.s.n s .exhausted pend=some s')
  {e:Ex} (he:iZ1 pend=some e)
  {a:Act} {base:Nat} (ht:TR g σ.t a.tmps.toList) (hI:jE P g w σ.s) (hl:lim<=σ.s.n) {w1:World} {mark:aA Deferred} {D:Nat} (z:jE P g w1 σ.s) (u:mW lim g g w w1) (Y:fI base g w1 (mark++a.defers))
  (m:∀d,(Instr.enterLoop d a.tmps ps x y (FW r).round).run P w=.ok (w1.heap.size,mark) (w1.alloc (.loop {state:=.ready,pending:=none,fn:=d,tmps:=a.tmps,params:=ps,assign:=x,body:=y,defers:=D}))):
  (Code.rangeFunc f ps x y).wpIn (FW r) n P (wO P base lim g w σ.s e {t:=σ.t,s:=s'}) a w:=by
 refine wpIn_rangeFunc (fun d _=>?_);have X:=Ck ht hf b7;generalize hV:a.eval f=V at X;cases X with
 |@fn _ _ _ _ F C l1 l2 v1 v2=>
  have k:∃ifn,T K=some ifn:=by
   unfold callF at c;split at c;cases c
   grind
  obtain⟨ifn,k⟩:=k;obtain⟨fn,b9,b6⟩:=hT.fns K ifn k;obtain⟨⟨cd,B⟩,J⟩:=uD b6;have o:¬fn.name= "runtime.NumGoroutine":=by simpa using J
  let R:Loop:={state:=.ready,pending:=none,fn:=d,tmps:=a.tmps,params:=ps,assign:=x,body:=y,defers:=D}
  let w2:=w1.alloc (.loop R)
  have hn:g.ι σ.s.n=none:=by
   cases h:g.ι σ.s.n with
   |none=>rfl
   |some l=>have:=hI.dom σ.s.n (by rw[h];simp);omega
  let loc:zF:={b:=w1.heap.size,esz:=1,ct:=1,ver:=0}
  obtain⟨j,b5⟩:=Mc (lim:=lim) z.W (.loop R) σ.s.n loc rfl hn hl;let g2:Gh:={G:=g.G,ι:=fun id=>if id=σ.s.n then some loc else g.ι id}
  have E:g2.ι σ.s.n=some loc:=pW2 rfl
  have b0:jE P g2 w2 {h:=.ob σ.s.n (.loop .ready none σ.t ps.toList cx cy)::σ.s.h,n:=σ.s.n+1}:=by
   refine⟨fun id ao ha=>?_,b5,fun id h=>?_,⟨by simp,hI.wf⟩⟩;simp only[look]at ha;split at ha;rename_i e;subst e;cases ha;refine⟨loc,R,E,rfl,?_,rfl,rfl,ht.mono (u.le.trans j.le),by simp[R],Z,hy⟩;show w2.heap[w1.heap.size]? =_
   exact heap_alloc_new w1 _;rename_i e;refine(z.H id ao ha).mono j.le ?_ (fun l hl=>cF w1 _ (z.W.lt id l hl));show(if id=σ.s.n then some loc else g.ι id)=g.ι id
   rw[pT2 (fun h=>e h.symm)];show id<σ.s.n+1
   by_cases e:id=σ.s.n;omega
   have h:g.ι id≠none:=by
    have:g2.ι id=g.ι id:=pT2 e
    rwa [this]at h
   have:=hI.dom id h;omega
  have hF:TR g first F.toList:=⟨by simpa using l1,fun i x y Z hy=>v1 i x y Z (by simpa using hy)⟩
  have hC:TR g cap C.toList:=⟨by simpa using l2,fun i x y Z hy=>v2 i x y Z (by simpa using hy)⟩
  have q:g.le g2:=u.le.trans j.le
  have A:TR g2 (first++[.fn (.yield σ.s.n) [] []]++cap) (F++#[Value.func (.yield w1.heap.size) #[] #[]]++C).toList:=by
   have:=((hF.mono q).app (.cons (VR.yield (l:=σ.s.n) (b:=w1.heap.size) E (fun _=>rfl)) (.nil g2))).app (hC.mono q);simpa using this
  have d2:fI base g2 w2 (mark++a.defers):=Y.ext j;refine⟨w1.heap.size,mark,w2,{target:=.fn (.func K) C,args:=F++#[Value.func (.yield w1.heap.size) #[] #[]]},w2,K,F++#[Value.func (.yield w1.heap.size) #[] #[]]++C,w2,m d,?_,fun _ _=>trivial,?_,fun h=>(by cases h),?_⟩;have S:a.eval (.const (.func (.yield w1.heap.size) #[] #[]))=.func (.yield w1.heap.size) #[] #[]:=rfl;simp[resolve,rangeCall,hV,Deferred.ofValue,S];simp[invoke,callFunc,b9,o,B];refine CallsIn.mono (wN (qU b8 hT c A b0 (by show lim<=σ.s.n+1;omega))) ?_;rintro e' w' ⟨V',M,rfl,k1,k2,k3,k4⟩;obtain⟨a0,R3,m1,m2,m3,m4,m5,m6,m7,m8,m9⟩:=nA k2 hL
  have d1:a0=loc:=by
   obtain⟨loc',q1,q2,q3⟩:=k3.le.ι σ.s.n loc E;rw[m1]at q1;cases q1;exact q3 m2.symm
  subst d1;obtain⟨_,_,_,_,_,_,O,rfl⟩:=lC U;rw[hL]at O;cases O;obtain⟨b4,N⟩:=wR (lim:=lim) (st':=.exhausted) (pend':=pend) (R':={R3 with state:=.exhausted}) k2 hL hl m1 m3 rfl m5 rfl rfl rfl rfl;refine⟨_,_,Gc m3 (by rw[m4];exact d3),?_⟩;have p:mW lim g M w {w' with heap:=w'.heap.setIfInBounds loc.b (.loop {R3 with state:=.exhausted})}:=((u.trans j).trans k3).trans N
  have L:uA P base lim g w σ.s σ.t {h:=upd s.h σ.s.n (.loop .exhausted pend tm pm as bd),n:=s.n} M {a with defers:=mark++a.defers} {w' with heap:=w'.heap.setIfInBounds loc.b (.loop {R3 with state:=.exhausted})}:=
   ⟨ht.mono p.le,b4,p,by have:σ.s.n+1<=s.n:=k4;show σ.s.n<=s.n;omega,(d2.ext k3).ext N⟩
  unfold iZ1 at he;split at he;cases he;have:R3.pending=none:=m5;rw[this]at L ⊢;exact⟨rfl,M,L⟩;cases he;have:R3.pending=some .ret:=m5;rw[this]at L ⊢;exact wpIn_ret ⟨rfl,M,L⟩;cases he;have:R3.pending=some (.exit _):=m5;rw[this]at L ⊢;exact wpIn_exit ⟨rfl,M,L⟩;cases he
theorem wX {ex:Nat->Bool->IC->St->aB (Ex×St)} (m:lB P ex) (K:fL P T) {f:Operand} {of:IX} {ps:Array Tmp} {x y:Code} {E F:IC} (hf:zE f=some of) (M:comp P x=some E) (hy:comp P y=some F)
  {σ:St} {H:FuncId} {first cap:aA AV} (k:of.ev σ.t=some (.fn (.func H) first cap)) {v:AV} {s:Hp}
  (c:callF T ex lim H (first++[.fn (.yield σ.s.n) [] []]++cap) {h:=.ob σ.s.n (.loop .ready none σ.t ps.toList E F)::σ.s.h,n:=σ.s.n+1}=some (v,s))
  {st:LoopState} {pend:aB IC} {R:aA AV} {O:aA Nat} {as N:IC} (J:look s.h σ.s.n=some (.loop st pend R O as N)) (p:st≠.busy) {s':Hp} (d:endRound σ.s.n s .exhausted pend=some s')
  {e:Ex} (he:iZ1 pend=some e)
  {a:Act} {base:Nat} (C:kO r w) (L:TR g σ.t a.tmps.toList) (i:jE P g w σ.s) (hl:lim<=σ.s.n) (hb:base<=w.heap.size) (A:fI base g w a.defers):
  (Code.rangeFunc f ps x y).wpIn (FW r) n P (wO P base lim g w σ.s e {t:=σ.t,s:=s'}) a w:=by
 cases r with
 |none=>
  obtain⟨u,j⟩:=i.other (lim:=lim) (.deferred (some []))
  have B:fI base g (w.alloc (.deferred (some []))) ([{target:=.collected w.heap.size,args:=#[]}]++a.defers):=by
   refine⟨⟨w.heap.size,rfl,hb,heap_alloc_new w _,fun id l h=>?_,?_,A.fresh⟩,A.ext j⟩;have:=i.W.lt id l h;omega;cases hG:g.G w.heap.size with
   |none=>rfl
   |some o=>
    have:=(qL2.1 (i.W.still _ o hG)).1;omega
  refine wW (D:=w.heap.size) m K hf M hy k c J p d he L i hl u j B (fun q=>?_);simp only[FW,Instr.enterLoop];simp[newObj,Sem.run]
 |some b=>
  obtain⟨R0,z⟩:=C b rfl;refine wW (w1:=w) (mark:=[]) (D:=R0.defers) m K hf M hy k c J p d he L i hl i (.refl lim g w) A (fun q=>?_);simp only[FW,Instr.enterLoop];simp[iP z,newObj];simp[Sem.run]
theorem Gd (K:fL P T) (Y:∀d,lB P (exec T d)->Js P T (exec T d)):∀D d,d<D->lB P (exec T d)
 |0,d,h=>by omega
 |D+1,d,hdD=>by
  have z:=Gd K Y D
  by_cases W:d<D
  exact z d W
  have V:d=D:=by omega
  subst V
  cases d with
  |zero=>exact fun lim rd c σ e F h=>by simp[exec]at h
  |succ d=>
  have ih:=z d (by omega)
  intro lim rd c σ e F h code hc r hr g a w n base b j m hl hb o
  cases code with
  |skip=>
   simp only[comp,pV2]at hc
   subst hc
   simp only[exec,pV2,qE2]at h
   obtain⟨rfl,rfl⟩:=h
   exact wpIn_skip ⟨rfl,g,j,m,.refl lim g w,pQ2 _,o⟩
  |region id ops dr=>
   simp only[comp]at hc
   split at hc
   cases hc
   rename_i ios G
   split at hc
   rename_i A
   split at hc
   rename_i O
   cases hc
   subst A
   simp only[exec]at h
   split at h
   rename_i τ fs hf
   split at h
   rename_i M
   cases h
   exact Y d ih lim ops ios σ F fs id G O hf M r g a w n base j m hl hb o
   cases h
   cases h
   cases hc
   rename_i A
   cases hc
   have A:dr=false:=by simpa using A
   subst A
   simp only[exec,pP2,qE2]at h
   obtain⟨τ,h,rfl,rfl⟩:=h
   refine wpIn_region ?_
   rw[List.range_eq_range',<-tD2]
   exact sS ih K ops.toList ios 0 σ τ g w a G (by simp) h j m hl o (fun g' a' w' k=>⟨rfl,g',k⟩)
  |seq x y=>
   simp only[comp]at hc
   split at hc
   rename_i u R p hy
   cases hc
   simp only[exec]at h
   refine wpIn_seq ?_
   split at h
   rename_i τ L
   refine wpIn_mono (ih lim rd u σ .normal τ L x p r hr g a w n base b j m hl hb o) ?_
   rintro S a1 w1 ⟨rfl,E,k⟩
   refine wpIn_mono (ih lim rd R τ e F h y hy r hr E a1 w1 n base (b.ext k.ext) k.t k.inv (qT2 hl k.n) (qT2 hb k.ext.size) k.marks) ?_
   intro e2 a2 w2 h2
   exact Am k h2
   rename_i H
   refine wpIn_mono (ih lim rd u σ e F h x p r hr g a w n base b j m hl hb o) ?_
   rintro S a1 w1 ⟨rfl,E,k⟩
   cases e with
   |normal=>exact absurd h (H _)
   |ret=>exact⟨rfl,E,k⟩
   |exit id=>exact⟨rfl,E,k⟩
   cases hc
  |cond c x y=>
   simp only[comp]at hc
   split at hc
   rename_i oc u R N p hy
   cases hc
   simp only[exec]at h
   split at h
   rename_i t C
   have hv:=(Ck j N C).bool
   refine wpIn_cond hv ?_
   cases t
   exact ih lim rd R σ e F h y hy r hr g a w n base b j m hl hb o
   exact ih lim rd u σ e F h x p r hr g a w n base b j m hl hb o
   cases h
   cases hc
  |block id x=>
   simp only[comp,pP2]at hc
   obtain⟨u,p,rfl⟩:=hc
   simp only[exec]at h
   refine wpIn_block ?_
   split at h
   rename_i i τ L
   refine wpIn_mono (ih lim rd u σ (.exit i) τ L x p r hr g a w n base b j m hl hb o) ?_
   rintro S a1 w1 ⟨rfl,E,k⟩
   simp only[Ex.toExit,Exit.inBlock]
   split at h
   rename_i hi
   cases h
   rw[pW2 hi]
   exact⟨rfl,E,k⟩
   rename_i hi
   cases h
   rw[pT2 hi]
   exact⟨rfl,E,k⟩
   rename_i H
   refine wpIn_mono (ih lim rd u σ e F h x p r hr g a w n base b j m hl hb o) ?_
   rintro S a1 w1 ⟨rfl,E,k⟩
   cases e with
   |normal=>exact⟨rfl,E,k⟩
   |ret=>exact⟨rfl,E,k⟩
   |exit id=>exact absurd h (H _ _)
  |loop x=>
   simp only[comp,pP2]at hc
   obtain⟨u,p,rfl⟩:=hc
   exact wpIn_loop_rounds (d+1) (aK (D:=d+1) z p hr (d+1) (pQ2 _) σ g a w n base _ h b j m hl hb o (fun _ _ _ h=>h))
  |rangeFunc f ps x y=>
   simp only[comp]at hc
   split at hc
   rename_i of u R N p hy
   cases hc
   simp only[exec]at h
   split at h
   rename_i gf first cap C
   split at h
   rename_i v s q
   split at h
   rename_i st pend tm pm as Z U
   split at h
   cases h
   rename_i J
   split at h
   cases h
   rename_i s' B
   split at h
   cases h
   exact wX ih K N p hy C q U J B rfl b j m hl hb o
   cases h
   exact wX ih K N p hy C q U J B rfl b j m hl hb o
   cases h
   exact wX ih K N p hy C q U J B rfl b j m hl hb o
   cases h
   cases h
   cases h
   cases h
   cases hc
  |exit id=>
   simp only[comp,pV2]at hc
   subst hc
   simp only[exec,pV2,qE2]at h
   obtain⟨rfl,rfl⟩:=h
   exact wpIn_exit ⟨rfl,g,j,m,.refl lim g w,pQ2 _,o⟩
  |ret=>
   simp only[comp,pV2]at hc
   subst hc
   simp only[exec,pV2,qE2]at h
   obtain⟨rfl,rfl⟩:=h
   exact wpIn_ret ⟨rfl,g,j,m,.refl lim g w,pQ2 _,o⟩
  |scope x=>
   simp only[comp,pP2]at hc
   obtain⟨u,p,rfl⟩:=hc
   simp only[exec]at h
   refine Jp (fun l a w X=>by obtain⟨X,_⟩:=X;cases e<;>cases X) ?_
   split at h
   rename_i τ L
   have:e=.normal/\F=τ:=by
    cases d with
    |zero=>simp[exec]at h
    |succ d=>simp only[exec,pV2,qE2]at h;exact⟨h.1.symm,h.2.symm⟩
   obtain⟨rfl,rfl⟩:=this;exact ih lim rd u σ .normal _ L x p r hr g a w n base b j m hl hb o;exact ih lim rd u σ e F h x p r hr g a w n base b j m hl hb o
  |label l=>
   simp only[comp,pV2]at hc;subst hc;simp only[exec,pV2,qE2]at h;obtain⟨rfl,rfl⟩:=h;exact wpIn_label ⟨rfl,g,j,m,.refl lim g w,pQ2 _,o⟩
  |_=>simp[comp]at hc
theorem Zg (b:fL P T) (a:∀d,lB P (exec T d)->Js P T (exec T d)) (d:Nat):lB P (exec T d):=Gd b a (d+1) d (by omega)
end
end Go.Sim
namespace Go.Sim
theorem Mk (T:gH) (k:dW) (xs:aA AV):(foot T k xs).al=[]:=by
 unfold foot;split<;>rfl
theorem rB (T:gH) (k:dW) (xs:aA AV):(foot T k xs).all<=3/\((foot T k xs).all≠0->(foot T k xs).rd=[]/\(foot T k xs).wr=[]):=by
 unfold foot
 split<;>first
  |exact⟨by simp,fun h=>absurd rfl h⟩
  |(refine⟨?_,fun _=>⟨rfl,rfl⟩⟩;(repeat' split)<;>simp_all)
theorem oG {T:gH} {k:dW} {xs:aA AV} (h:(foot T k xs).all=0):(∀f,k≠.callF f)/\k≠.callV:=by
 constructor;rintro f rfl;simp only[foot]at h;split at h
 grind
 cases h;rintro rfl;cases xs with
 |nil=>simp[foot]at h
 |cons x xs=>
  simp only[foot]at h;split at h
  grind
  cases h
theorem pO {T:gH} {ex:Nat->Bool->IC->St->aB (Ex×St)} {lim:Nat} {k:dW} {xs:aA AV} {s s':Hp} {v:AV} (h:step T ex lim k xs s=some (v,s')) (h0:(foot T k xs).all=0):
  ∃out,doOp (look s.h) lim s.n k xs=some out/\v=out.v/\s'=out.apply s:=by
 obtain⟨h1,h2⟩:=oG h0;unfold step at h;split at h
 grind
 exact absurd rfl h2
 grind
theorem wY {out:Out} {s:Hp} (a:∀i ob,out.up=some (i,ob)->(look s.h i).isSome=true) (id:Nat):look (out.apply s).h id=out.after (look s.h) s.n id:=by
 have hb:look (match out.up with|some (i,ob)=>upd s.h i ob|none=>s.h) id=out.base (look s.h) id:=by
  unfold Out.base;cases hu:out.up with
  |none=>rfl
  |some p=>
   obtain⟨i,ob⟩:=p;simp only[look_upd];have:=a i ob hu;by_cases e:id=i;subst e;simp[this];simp[e]
 unfold Out.apply Out.after;cases hn:out.new with
 |none=>exact hb
 |some ob=>
  simp only[look];by_cases e:s.n=id
  grind
  grind
theorem oH (out:Out) (s:Hp):(out.apply s).n=if out.new.isSome then s.n+1 else s.n:=by
 unfold Out.apply;cases out.new<;>rfl
theorem gK {f:Foot} (h:f.isE=true):f.rd=[]/\f.wr=[]/\f.al=[]/\f.all=0:=by
 simp only[Foot.isE,pN2,List.isEmpty_iff]at h;exact⟨h.1.1.1,h.1.1.2,h.1.2,qF2 h.2⟩
theorem Cm {f:Foot} {id:Nat} (h:id∈f.rd\/id∈f.wr):f.isE=false:=by
 cases hE:f.isE with
 |false=>rfl
 |true=>obtain⟨a,b,_⟩:=gK hE;rw[a,b]at h;simp at h
theorem vG {f:Foot} {id:Nat} (h:id∈f.al):f.isE=false:=by
 cases hE:f.isE with
 |false=>rfl
 |true=>obtain⟨_,_,c,_⟩:=gK hE;rw[c]at h;simp at h
theorem nI {f:Foot} (h:f.all≠0):f.isE=false:=by
 cases hE:f.isE with
 |false=>rfl
 |true=>exact absurd (gK hE).2.2.2 h
theorem Zh {i j:Foot} (h:i.all+j.all<=1\/i.isE=true\/j.isE=true) (a:j.isE=false):i.all<=1:=by
 rcases h with h|h|h;omega;have:=(gK h).2.2.2;omega
 grind
theorem An {i j:Foot} (h:i.all+j.all<=1\/i.isE=true\/j.isE=true) (hi:i.isE=false):j.all<=1:=by
 rcases h with h|h|h;omega
 grind
 have:=(gK h).2.2.2;omega
theorem fW {i j:Foot} (h:compat0 i j=true):compat i j=true:=by simp[compat,h]
theorem dA {i j:Foot} (h:compat i j=true):(i.all+j.all<=1\/i.isE=true\/j.isE=true)/\(∀x∈i.wr,x∉j.rd/\x∉j.wr)/\(∀x∈j.wr,x∉i.rd)/\(∀x∈i.al,x∉j.rd/\x∉j.wr)/\(i.all=0\/j.wr=[])/\(j.all=0\/i.wr=[]):=by
 simp only[compat,qC2]at h;rcases h with(h|h)|h;obtain⟨a,b,c,d⟩:=gK h;rw[a,b,c,d];exact⟨.inr (.inl h),fun x e=>by simp at e,fun x _ e=>by simp at e,fun x e=>by simp at e,.inl rfl,.inr rfl⟩;obtain⟨a,b,c,d⟩:=gK h;rw[a,b,d];exact⟨.inr (.inr h),fun x _=>⟨fun e=>by simp at e,fun e=>by simp at e⟩,fun x e=>by simp at e,fun x _=>⟨fun e=>by simp at e,fun e=>by simp at e⟩,.inr rfl,.inl rfl⟩;simp only[compat0,pN2,pU2,pX2,qH2,qC2,rM2,List.isEmpty_iff,qY2,rC2]at h;obtain⟨⟨⟨⟨⟨h1,h2⟩,f⟩,g⟩,k⟩,l⟩:=h;exact⟨.inl h1,h2,f,g,k,l⟩
theorem mH {a:Nat} {ft:Nat->Foot} {id:Nat}:∀{j:Nat},∀i,i<j->a.testBit i=false->id∈(ft i).al->id∈unseen a j (fG ft j)
 |0,i,hi,_,_=>by omega
 |j+1,i,hi,hm,hid=>by
  simp only[fG,unseen,sM2,rF2]
  by_cases e:i=j
  grind
  exact .inr (mH i (by omega) hm hid)
theorem Ao {l l':aA AV}:∀{xs:aA IX},(∀t,.t t∈xs->l[t]? =l'[t]?)->evs l xs=evs l' xs
 |[],_=>rfl
 |x::xs,h=>by
  have h1:x.ev l=x.ev l':=by
   cases x with
   |t i=>exact h i (by simp)
   |c v=>rfl
  simp only[evs,h1,Ao (xs:=xs) (fun t a=>h t (by simp[a]))]
theorem Cn {l l':aA AV} {a:aB (Nat×Bool)} (h:∀i b,a=some (i,b)->l[i]? =l'[i]?):wanted l a=wanted l' a:=by
 cases a with
 |none=>rfl
 |some p=>
  obtain⟨i,b⟩:=p;simp only[Sim.wanted,h i b rfl]
theorem wZ (l:aA AV) (d:aB Nat) (v:AV):(put l d v).length=l.length:=by
 cases d<;>simp[put]
theorem pP {l:aA AV} {d:aB Nat} {v:AV} {t:Nat} (h:d≠some t):(put l d v)[t]? =l[t]? :=by
 cases d with
 |none=>rfl
 |some i=>simp only[put,qK2];rw[pT2 (fun e=>h (by rw[e]))]
theorem Tz {l:aA AV} {d a:aB Nat} {v v':AV} (h:∀t,d=some t->a≠some t):put (put l d v) a v'=put (put l a v') d v:=by
 cases d with
 |none=>rfl
 |some i=>
  cases a with
  |none=>rfl
  |some j=>exact List.set_comm _ _ (fun e=>h i rfl (by rw[e]))
structure qK (P:Program) (T:gH) (ex:Nat->Bool->IC->St->Option (Ex×St)) (lim:Nat) (ops:Array Oper) (ios:List Sim.Op1) (st:Nat->St) (ft:Nat->Foot) (v:Nat->AV):Prop where
 comp:mapO (hJ P ops.toList) ops.toList=some ios
 back:∀j o,ops.toList[j]? =some o->∀e∈o.after.toList,Region.binds .any e=true->e.on<j
 tmps:∀j o,ios[j]? =some o->∀i p,i<j->ios[i]? =some p->((bT [] ops.toList).getD j 0).testBit i=true\/((∀d,p.dst=some d->o.dst≠some d/\d∉o.reads)/\∀d,o.dst=some d->d∉p.reads)
 step:∀j o,ios[j]? =some o->Sh T ex lim ((bT [] ops.toList).getD j 0) ios.length j o ft st v
 com:∀j,j<ios.length->∀i,i<j->((bT [] ops.toList).getD j 0).testBit i=true\/compat (ft i) (ft j)=true
 gr:mF ex
 wf0:Wf (st 0).s.h (st 0).s.n
def sK (ft:Nat->Foot) (j id:Nat):Bool:=(ft j).all==2||(ft j).wr.contains id||(ft j).al.contains id
theorem jA1 {ft:Nat->Foot} {j id:Nat} (h:(ft j).isE=true):sK ft j id=false:=by
 obtain⟨_,b,c,d⟩:=gK h;simp[sK,b,c,d]
def fH (st:Nat->St) (ft:Nat->Foot) (S:Nat->Bool):Nat->Nat->aB AO
 |0,id=>look (st 0).s.h id
 |j+1,id=>if S j&&sK ft j id then look (st (j+1)).s.h id else fH st ft S j id
def lK (ios:aA Sim.Op1) (j:Nat):aB Nat:=(ios[j]?).bind (·.dst)
def tl (ios:aA Sim.Op1) (st:Nat->St) (v:Nat->AV) (S:Nat->Bool):Nat->aA AV
 |0=>(st 0).t
 |j+1=>if S j then put (tl ios st v S j) (lK ios j) (v j)else tl ios st v S j
section
variable {P:Program} {T:gH} {ex:Nat->Bool->IC->St->Option (Ex×St)} {lim:Nat} {ops:Array Oper} {ios:List Sim.Op1} {st:Nat->St} {ft:Nat->Foot} {v:Nat->AV}
theorem qK.get (R:qK P T ex lim ops ios st ft v) {j:Nat} (h:j<ios.length):∃io o,ios[j]? =some io/\ops.toList[j]? =some o/\hJ P ops.toList o=some io:=by
 obtain⟨h1,h2⟩:=cP R.comp;obtain⟨o,a,b⟩:=h2 j ios[j] (by simp[h]);exact⟨ios[j],o,by simp[h],a,b⟩
theorem qK.size (R:qK P T ex lim ops ios st ft v):ios.length=ops.size:=by
 obtain⟨h1,h2⟩:=cP R.comp;simpa using h1
theorem qK.grows (R:qK P T ex lim ops ios st ft v) {j:Nat} (h:j<ios.length):fU (st j).s (st (j+1)).s:=by
 obtain⟨io,o,h1,_,_⟩:=R.get h;obtain⟨_,h2⟩:=R.step j io h1;rcases h2 with⟨_,_,_,a⟩|⟨_,xs,_,_,_,a,_⟩|⟨_,xs,_,_,_,a⟩|⟨_,xs,W,_,_,_,a⟩
 rw[a];exact .refl _;rw[a];exact .refl _;exact jY R.gr a;exact uE (fun _ _ _=>jY R.gr) a
theorem qK.mono (R:qK P T ex lim ops ios st ft v) {i:Nat}:∀{j:Nat},i<=j->j<=ios.length->(st i).s.n<=(st j).s.n
  | 0, h, _ => by have:i=0:=by omega
                  subst this;exact pQ2 _
  |j+1,h,hm=>by
    by_cases e:i=j+1
    grind
    exact qT2 (R.mono (i:=i) (j:=j) (by omega) (by omega)) (R.grows (by omega)).n
theorem qK.wf (R:qK P T ex lim ops ios st ft v):∀{j:Nat},j<=ios.length->Wf (st j).s.h (st j).s.n
 |0,_=>R.wf0
 |j+1,h=>(R.grows (by omega)).wf (R.wf (by omega))
theorem qK.al (R:qK P T ex lim ops ios st ft v) {j id:Nat} (h:j<ios.length):id∈(ft j).al↔(st j).s.n<=id/\id<(st (j+1)).s.n:=by
 obtain⟨io,o,h1,_,_⟩:=R.get h;obtain⟨_,h2⟩:=R.step j io h1;rcases h2 with⟨_,_,b,a⟩|⟨_,xs,_,_,b,a,_⟩|⟨_,xs,_,h5,b,a⟩|⟨_,xs,W,_,h5,b,a⟩
 rw[b,a];simp;rw[b,a,Mk];simp
 grind
 grind
theorem qK.all (R:qK P T ex lim ops ios st ft v) {j:Nat} (h:j<ios.length):(ft j).all<=2:=by
 obtain⟨io,o,h1,_,_⟩:=R.get h;obtain⟨_,h2⟩:=R.step j io h1;rcases h2 with⟨_,_,a,b⟩|⟨_,xs,_,h5,a,b,_⟩|⟨_,xs,_,h5,a,b⟩|⟨_,xs,W,_,h5,a,b⟩
 rw[a];simp;rw[a];omega;rw[a];have:=(rB T io.k xs).1;have:=h5.2;simp only;omega;rw[a];simp
theorem qK.keep (R:qK P T ex lim ops ios st ft v) {j id:Nat} (h:j<ios.length) (c:sK ft j id=false):look (st (j+1)).s.h id=look (st j).s.h id:=by
 obtain⟨io,o,h1,_,_⟩:=R.get h;obtain⟨_,h2⟩:=R.step j io h1;rcases h2 with⟨_,_,d,b⟩|⟨_,xs,_,_,d,b,_⟩|⟨_,xs,_,h5,d,b⟩|⟨_,xs,W,_,h5,d,b⟩
 rw[b];rw[b];have z:=(rB T io.k xs).1;simp only[sK,sE2,sH2,ne_eq,qY2,rC2]at c;have f:=c.2;rw[R.al h]at f;rw[d]at c;have h0:(foot T io.k xs).all=0:=by grind
 obtain⟨out,r,_,hs⟩:=pO b h0;rw[hs,wY (fun i ob g=>(rA (T:=T) r g).2)];have l:=oH out (st j).s;rw[<-hs]at l;unfold Out.after Out.base;cases hnew:out.new with
 |none=>
  simp only;cases g:out.up with
  |none=>rfl
  |some p=>
   obtain⟨i,ob⟩:=p;have:=(rA (T:=T) r g).1;simp only;rw[pT2 (fun e=>c.1.2 (by rw[e];exact this))]
 |some ob'=>
  rw[hnew]at l;simp only[sL2,qQ2]at l;simp only;rw[pT2 (by omega)];cases g:out.up with
  |none=>rfl
  |some p=>
   obtain⟨i,ob⟩:=p;have:=(rA (T:=T) r g).1;simp only;rw[pT2 (fun e=>c.1.2 (by rw[e];exact this))]
 simp only[sK,d,sE2,sH2,ne_eq,qY2,rC2,List.mem_range'_1]at c;obtain⟨⟨_,hw⟩,f⟩:=c;obtain⟨s',w,A,B,x,y,_⟩:=mD b;have l:=(R.grows h).n;have t:=R.wf (j:=j+1) (by omega);by_cases q:id<(st j).s.n;rw[x];simp only;rw[uC q,mZ];rw[<-y];exact hw;have m:(st (j+1)).s.n<=id:=by omega
 have a:∀{h:aA eY} {n:Nat},Wf h n->n<=id->look h id=none:=fun hw u=>by
  cases hl:look _ id with
  |none=>rfl
  |some o=>have:=hw.lt hl;omega
 rw[a t m,a (R.wf (j:=j) (by omega)) (by omega)]
theorem xA (R:qK P T ex lim ops ios st ft v) {S:Nat->Bool} {id:Nat}:∀{j:Nat},j<=ios.length->(∀i,i<j->sK ft i id=true->S i=true)->fH st ft S j id=look (st j).s.h id
 |0,_,_=>rfl
 |j+1,hm,h=>by
  simp only[fH]
  cases ht:sK ft j id with
  |true=>simp[h j (by omega) ht]
  |false=>
   simp only[Bool.and_false,qA2,qX2]
   rw[xA R (by omega) (fun i hi=>h i (by omega)),R.keep (by omega) ht]
theorem uH {S:Nat->Bool} {id j:Nat}:∀{m:Nat},j<=m->(∀i,j<=i->i<m->S i=true->sK ft i id=false)->fH st ft S m id=fH st ft S j id
  | 0, hj, _ => by have:j=0:=by omega
                   subst this;rfl
  |m+1,hj,h=>by
    by_cases e:j=m+1
    subst e;rfl
    simp only[fH]
    have h1:¬((S m&&sK ft m id)=true):=by grind
    rw[pT2 h1]
    exact uH (by omega) (fun i hi a=>h i hi (by omega))
theorem gO1 {S S':Nat->Bool} {id j:Nat} {ao:AO} (a:∀i,j<i->S' i=S i) (h0:fH st ft S' (j+1) id=some ao->fH st ft S (j+1) id=some ao):∀{m:Nat},j<m->fH st ft S' m id=some ao->fH st ft S m id=some ao
 |0,hj,_=>by omega
 |m+1,hj,h=>by
  by_cases e:j=m
  subst e;exact h0 h
  simp only[fH]at h ⊢
  rw[a m (by omega)]at h
  split at h
  grind
  rename_i hc;rw[pT2 hc];exact gO1 a h0 (by omega) h
theorem xB {S S':Nat->Bool} {id:Nat}:∀{j:Nat},(∀i,i<j->S' i=S i)->fH st ft S' j id=fH st ft S j id
 |0,_=>rfl
 |j+1,h=>by simp only[fH,h j (by omega),xB (j:=j) (fun i hi=>h i (by omega))]
theorem sT (R:qK P T ex lim ops ios st ft v) {S:Nat->Bool}:∀{j:Nat},j<=ios.length->(tl ios st v S j).length=(st j).t.length
 |0,_=>rfl
 |j+1,h=>by
  obtain⟨io,o,h1,_,_⟩:=R.get (j:=j) (by omega)
  rw[(R.step j io h1).1,wZ]
  simp only[tl]
  split
  rw[wZ];exact sT R (by omega)
  exact sT R (by omega)
theorem tlA (R:qK P T ex lim ops ios st ft v) {S:Nat->Bool} {t:Nat}:∀{j:Nat},j<=ios.length->(∀i,i<j->lK ios i=some t->S i=true)->(tl ios st v S j)[t]? =(st j).t[t]?
 |0,_,_=>rfl
 |j+1,hm,h=>by
  obtain⟨io,o,h1,_,_⟩:=R.get (j:=j) (by omega)
  have a:=(R.step j io h1).1
  have hd:lK ios j=io.dst:=by simp[lK,h1]
  have ih:=tlA R (S:=S) (t:=t) (j:=j) (by omega) (fun i hi=>h i (by omega))
  have hl:=sT R (S:=S) (j:=j) (by omega)
  simp only[tl,a]
  by_cases e:io.dst=some t
  rw[h j (by omega) (hd.trans e)]
  simp only[qQ2,hd,e,put,qK2,hl]
  rw[pP e]
  split
  rw[hd,pP e];exact ih
  exact ih
theorem tlB {S:Nat->Bool} {t j:Nat}:∀{m:Nat},j<=m->(∀i,j<=i->i<m->S i=true->lK ios i≠some t)->(tl ios st v S m)[t]? =(tl ios st v S j)[t]?
  | 0, hj, _ => by have:j=0:=by omega
                   subst this;rfl
  |m+1,hj,h=>by
    by_cases e:j=m+1
    subst e;rfl
    simp only[tl]
    split
    rename_i hs
    rw[pP (h m (by omega) (by omega) hs)]
    exact tlB (by omega) (fun i hi a=>h i hi (by omega))
    exact tlB (by omega) (fun i hi a=>h i hi (by omega))
theorem Ge {S S':Nat->Bool}:∀{j:Nat},(∀i,i<j->S' i=S i)->tl ios st v S' j=tl ios st v S j
 |0,_=>rfl
 |j+1,h=>by simp only[tl,h j (by omega),Ge (j:=j) (fun i hi=>h i (by omega))]
theorem tlC {S S':Nat->Bool} {j:Nat} (b:∀i,i<j->S' i=S i) (a:∀i,j<i->S' i=S i) (h1:S j=false) (h2:S' j=true):∀{m:Nat},j<m->(∀i,j<i->i<m->S i=true->∀t,lK ios j=some t->lK ios i≠some t)->
  tl ios st v S' m=put (tl ios st v S m) (lK ios j) (v j)
 |0,hj,_=>by omega
 |m+1,hj,h=>by
  by_cases e:j=m
  subst e
  simp only[tl,h1,h2,qQ2,qA2,qX2,Ge b]
  have ih:=tlC b a h1 h2 (m:=m) (by omega) (fun i hi c=>h i hi (by omega))
  simp only[tl,a m (by omega),ih]
  split
  rename_i hs
  exact Tz (h m (by omega) (by omega) hs)
  rfl
end
end Go.Sim
namespace Go.Sim
section
variable {P:Program} {T:gH} {ex:Nat->Bool->IC->St->Option (Ex×St)} {lim:Nat} {ops:Array Oper} {ios:List Sim.Op1} {st:Nat->St} {ft:Nat->Foot} {v:Nat->AV} {S S':Nat->Bool}
structure Zi (P:Program) (ops:Array Oper) (ios:List Sim.Op1) (st:Nat->St) (ft:Nat->Foot) (v:Nat->AV) (lim base:Nat) (g0:Gh) (w0:World) (S:Nat->Bool) (g:Gh) (a:Act) (w:World):Prop where
 ext:mW lim g0 g w0 w
 W:WG g w
 H:HR P g (fH st ft S ios.length) w
 dom:∀id,g.ι id≠none->id<(st 0).s.n\/∃i,i<ios.length/\S i=true/\id∈(ft i).al
 t:TR g (tl ios st v S ios.length) a.tmps.toList
 marks:fI base g w a.defers
 closed:∀i oi,S i=true->ops.toList[i]? =some oi->∀e∈oi.after.toList,Region.binds .any e=true->S e.on=true
structure Zj (ops:Array Oper) (ios:List Sim.Op1) (S:Nat->Bool) (j:Nat) (o:Oper) (io:Sim.Op1):Prop where
 hop:ops.toList[j]? =some o
 hio:ios[j]? =some io
 c:j<ios.length
 no:S j=false
 edges:∀e∈o.after.toList,Region.binds .any e=true->S e.on=true
theorem xC (R:qK P T ex lim ops ios st ft v) {j:Nat} {o:Oper} {io:Sim.Op1} (hr:Zj ops ios S j o io)
  (a:∀i oi,S i=true->ops.toList[i]? =some oi->∀e∈oi.after.toList,Region.binds .any e=true->S e.on=true) {i:Nat} (hi:i<j):
  S i=true\/(((bT [] ops.toList).getD j 0).testBit i=false/\compat (ft i) (ft j)=true/\∀p,ios[i]? =some p->(∀d,p.dst=some d->io.dst≠some d/\d∉io.reads)/\∀d,io.dst=some d->d∉p.reads):=by
 cases hb:((bT [] ops.toList).getD j 0).testBit i with
 |true=>exact .inl (nG R.back (D:=fun i=>S i=true) a j o hr.hop hr.edges i hb)
 |false=>
  refine .inr ⟨rfl,(R.com j hr.c i hi).resolve_left (by rw[hb];simp),fun p hp=>?_⟩;exact(R.tmps j io hr.hio i p hi hp).resolve_left (by rw[hb];simp)
theorem Co (R:qK P T ex lim ops ios st ft v) {j:Nat} {o:Oper} {io:Sim.Op1} (hr:Zj ops ios S j o io)
  (a:∀i oi,S i=true->ops.toList[i]? =some oi->∀e∈oi.after.toList,Region.binds .any e=true->S e.on=true) {i:Nat} (hi:j<i) (b:i<ios.length) (f:S i=true):
  compat (ft j) (ft i)=true/\∀p,ios[i]? =some p->(∀d,io.dst=some d->p.dst≠some d/\d∉p.reads)/\∀d,p.dst=some d->d∉io.reads:=by
 obtain⟨g,oi,h1,h2,h⟩:=R.get b
 have hb:((bT [] ops.toList).getD i 0).testBit j=false:=by
  cases hb:((bT [] ops.toList).getD i 0).testBit j with
  |false=>rfl
  |true=>
   have:=nG R.back (D:=fun i=>S i=true) a i oi h2 (fun e he c=>a i oi f h2 e he c) j hb;simp only[hr.no]at this;cases this
 refine⟨(R.com i b j hi).resolve_left (by rw[hb];simp),fun p hp=>?_⟩;exact(R.tmps i p hp j io hi hr.hio).resolve_left (by rw[hb];simp)
theorem Gf (R:qK P T ex lim ops ios st ft v) {j:Nat} {o:Oper} {io:Sim.Op1} (hr:Zj ops ios S j o io)
  (d:∀i oi,S i=true->ops.toList[i]? =some oi->∀e∈oi.after.toList,Region.binds .any e=true->S e.on=true) {t:Nat} (k:t∈io.reads):(tl ios st v S ios.length)[t]? =(st j).t[t]? :=by
 rw[tlB (j:=j) (qZ2 hr.c),tlA R (qZ2 hr.c)];intro i hi hd;rcases xC R hr d hi with h|⟨_,_,h⟩
 exact h;obtain⟨a,oi,h1,_,_⟩:=R.get (j:=i) (by have:=hr.c;omega);have b:a.dst=some t:=by simpa[lK,h1]using hd
 exact absurd k ((h a h1).1 t b).2;intro i hi f g hd;by_cases e:i=j;subst e;rw[hr.no]at g;cases g;obtain⟨a,oi,h1,_,_⟩:=R.get f;have b:a.dst=some t:=by simpa[lK,h1]using hd
 exact absurd k (((Co R hr d (by omega) f g).2 a h1).2 t b)
theorem jB1 (R:qK P T ex lim ops ios st ft v) {j:Nat} {o:Oper} {io:Sim.Op1} (hr:Zj ops ios S j o io)
  (f:∀i oi,S i=true->ops.toList[i]? =some oi->∀e∈oi.after.toList,Region.binds .any e=true->S e.on=true) (b:∀i,i≠j->S' i=S i) (l:S' j=true):
  tl ios st v S' ios.length=put (tl ios st v S ios.length) io.dst (v j):=by
 have hd:lK ios j=io.dst:=by simp[lK,hr.hio]
 rw[<-hd];refine tlC (fun i hi=>b i (by omega)) (fun i hi=>b i (by omega)) hr.no l hr.c (fun i hi a k t m h=>?_);obtain⟨d,oi,h1,_,_⟩:=R.get a;have g:d.dst=some t:=by simpa[lK,h1]using h
 exact(((Co R hr f hi a k).2 d h1).1 t (hd.symm.trans m)).1 g
theorem Zk (R:qK P T ex lim ops ios st ft v) {j:Nat} {o:Oper} {io:Sim.Op1} (hr:Zj ops ios S j o io)
  (a:∀i oi,S i=true->ops.toList[i]? =some oi->∀e∈oi.after.toList,Region.binds .any e=true->S e.on=true) {id:Nat} {ao:AO} (b:id∈(ft j).rd\/id∈(ft j).wr) (hl:look (st j).s.h id=some ao):
  fH st ft S ios.length id=some ao:=by
 have k:=(R.wf (qZ2 hr.c)).lt hl;rw[uH (j:=j) (qZ2 hr.c),xA R (qZ2 hr.c)];exact hl;intro i hi f;rcases xC R hr a hi with h|⟨_,h,_⟩
 exact h;obtain⟨c1,c2,c3,c4,c5,c6⟩:=dA h;simp only[sK,qC2,rM2,qY2,pU2]at f;rcases f with(f|f)|f;have:=Zh c1 (Cm b);omega
 grind
 grind
 intro i hi d g;by_cases e:i=j;subst e;rw[hr.no]at g;cases g;obtain⟨c1,c2,c3,c4,c5,c6⟩:=dA (Co R hr a (by omega) d g).1;simp only[sK,sE2,sH2,ne_eq,qY2,rC2];refine⟨⟨by have:=An c1 (Cm b);omega,fun h=>?_⟩,fun h=>?_⟩
 grind
 rw[R.al d]at h;have:=R.mono (i:=j) (j:=i) (by omega) (by omega);omega
theorem xD (R:qK P T ex lim ops ios st ft v) {j:Nat} {o:Oper} {io:Sim.Op1} (hr:Zj ops ios S j o io)
  (f:∀i oi,S i=true->ops.toList[i]? =some oi->∀e∈oi.after.toList,Region.binds .any e=true->S e.on=true) (l:∀i,i≠j->S' i=S i) (p:S' j=true) {id:Nat}
  (a:(id∈(ft j).wr/\id<(st j).s.n)\/id∈(ft j).al):fH st ft S' ios.length id=look (st (j+1)).s.h id:=by
 rw[uH (j:=j+1) hr.c]
 have:sK ft j id=true:=by
  simp only[sK,qC2,rM2,qY2,pU2];rcases a with⟨h,_⟩|h;exact .inl (.inr h);exact .inr h
 simp[fH,p,this];intro i hi b d;have m:S i=true:=by rw[<-l i (by omega)];exact d
 obtain⟨c1,c2,c3,c4,c5,c6⟩:=dA (Co R hr f (by omega) b m).1;simp only[sK,sE2,sH2,ne_eq,qY2,rC2];have k:=R.mono (i:=j+1) (j:=i) (by omega) (by omega);have hg:=(R.grows hr.c).n
 have g:(ft j).isE=false:=by
  rcases a with⟨a,_⟩|a;exact Cm (.inr a);exact vG a
 refine⟨⟨by have:=An c1 g;omega,fun h=>?_⟩,fun h=>?_⟩
 grind
 rw[R.al b]at h;rcases a with⟨_,a⟩|a;omega;rw[R.al hr.c]at a;omega
theorem rC (R:qK P T ex lim ops ios st ft v) {j:Nat} {o:Oper} {io:Sim.Op1} (hr:Zj ops ios S j o io)
  (g:∀i oi,S i=true->ops.toList[i]? =some oi->∀e∈oi.after.toList,Region.binds .any e=true->S e.on=true) (b:∀i,i≠j->S' i=S i) (k:S' j=true) {id:Nat} {ao:AO}
  (hk:sK ft j id=true->id∈(ft j).wr/\look (st (j+1)).s.h id=look (st j).s.h id) (h:fH st ft S' ios.length id=some ao):fH st ft S ios.length id=some ao:=by
 refine gO1 (j:=j) (fun i hi=>b i (by omega)) (fun h0=>?_) hr.c h;have d:fH st ft S (j+1) id=fH st ft S j id:=by simp[fH,hr.no]
 have f:fH st ft S' j id=fH st ft S j id:=xB (fun i hi=>b i (by omega));rw[d];cases ht:sK ft j id with
 |false=>
  simp only[fH,ht,Bool.and_false,qA2,qX2,f]at h0;exact h0
 |true=>
  obtain⟨m,l⟩:=hk ht;simp only[fH,ht,k,tM2,qQ2,l]at h0;rw[xA R (qZ2 hr.c)];exact h0;intro i hi a;rcases xC R hr g hi with h|⟨_,h,_⟩
  exact h;obtain⟨c1,c2,c3,c4,c5,c6⟩:=dA h;simp only[sK,qC2,rM2,qY2,pU2]at a;rcases a with(a|a)|a
  grind
  grind
  grind
end
end Go.Sim
namespace Go.Sim
section
variable {P:Program} {T:gH} {ex:Nat->Bool->IC->St->Option (Ex×St)} {lim:Nat} {ops:Array Oper} {ios:List Sim.Op1} {st:Nat->St} {ft:Nat->Foot} {v:Nat->AV} {S S':Nat->Bool} {r:Option Nat} {n base:Nat} {g0 g:Gh} {w0 w:World}
theorem Ml {o:Oper} {k:dW} {os:aA Operand} {L:Nat->aB AO} {m:Nat} {out:Out} {a:Act} (j:fO P o.op o.type=some (k,os)) (hg:cZ P g lim w L m out (execOp a.eval o)) {next:Act->World->Prop} {Q:Exit->Act->World->Prop}
  (b:∀V g' w',VR g' out.v V->HR P g' (out.after L m) w'->WG g' w'->mW lim g g' w w'->(∀id,g'.ι id≠none->g.ι id≠none\/(id=m/\out.new.isSome))->next (a.put o.dst V) w'):
  o.wpIn (FW r) n P a w next Q:=by
 obtain⟨V,nx,g',w',d,e,hv,h,i,f,c⟩:=hg;refine⟨fun _ _=>trivial,?_⟩;rw[mE _ (qZ j),d];rcases e with rfl|⟨rfl,rfl⟩
 .exact b V g' w' hv h i f c
 .exact b undef g' w' hv h i f c
theorem Jt {k:dW} {xs:aA AV} (h1:∀f,k≠.callF f) (h2:k≠.callV):(foot T k xs).all=0:=by
 unfold foot
 split<;>first
  |rfl
  |exact absurd rfl (h1 _)
  |exact absurd rfl h2
theorem Pm (v:lB P ex) (B:fL P T) {o:Oper} {k:dW} {os:aA Operand} {xs:aA AV} {x:AV} {s U:Hp} {a:Act} (D:(fO P o.op o.type).getD (.fail,[])=(k,os)) (h:step T ex lim k xs s=some (x,U)) (d:(foot T k xs).all=1)
  (E:TR g xs (os.map a.eval)) (A:jE P g w s) {next:Act->World->Prop} {Q:Exit->Act->World->Prop}
  (t:∀V g' w',VR g' x V->g'.ι=g.ι->WG g' w'->(∀b,b<w.heap.size->w'.heap[b]? =w.heap[b]?)->mW s.n g g' w w'->next (a.put o.dst V) w'):o.wpIn (FW r) n P a w next Q:=by
 have fin:∀e w',gV P s.n g w s x s e w'->∃V,e=.returned V/\next (a.put o.dst V) w':=by
  rintro e w' ⟨V,g',rfl,S,M,K,Y⟩;refine⟨V,rfl,t V g' w' S ?_ M.W ?_ K⟩
  .funext id
   by_cases q:id<s.n
   .exact K.old id q
   .have h1:g.ι id=none:=by
     cases h:g.ι id with
     |none=>rfl
     |some l=>exact absurd (A.dom id (by rw[h];simp)) q
    have h2:g'.ι id=none:=by
     cases h:g'.ι id with
     |none=>rfl
     |some l=>exact absurd (M.dom id (by rw[h];simp)) q
    rw[h1,h2]
  .intro b hb
   exact K.keep b hb (fun id loc q hi=>by
    have:=A.dom id (by rw[hi];simp);omega)
 cases hco:fO P o.op o.type with
 |none=>
  rw[hco]at D;cases D;simp only[step,sO]at h;cases h
 |some p=>
  rw[hco]at D;cases D;unfold step at h;split at h
  .rename_i f
   obtain⟨c,L,h1,h2,G⟩:=kR hco (.inr ⟨f,rfl⟩);rcases G with⟨f',u,N,H⟩|⟨u,_⟩
   .cases u
    subst N;simp only[foot]at d;split at d
    .rename_i ifn j
     split at d
     .rename_i hp
      have m:TR g xs (#[]++c.args.map a.eval++#[]).toList:=by rw[H]at E;simpa using E
      exact oF B h1 h2 rfl j (wP v B j hp h m A).2 fin
     .grind
    .cases d
   .cases u
  .obtain ⟨c,L,h1,h2,G⟩:=kR hco (.inl rfl)
   rcases G with⟨f',u,_⟩|⟨_,H⟩
   .cases u
   .subst H
    split at h
    .rename_i X args
     have z:=E.head;have m:=E.tail;unfold callV at h;simp only[foot]at d;split at h
     .rename_i f first cap
      generalize hV:a.eval L=V at z;cases z with
      |@fn _ _ _ _ F C l1 l2 v1 v2=>
       simp only at d;split at d
       .rename_i ifn j
        split at d
        .rename_i hp
         have R:TR g first F.toList:=⟨by simpa using l1,fun i x y J hy=>v1 i x y J (by simpa using hy)⟩
         have O:TR g cap C.toList:=⟨by simpa using l2,fun i x y J hy=>v2 i x y J (by simpa using hy)⟩
         have d:TR g (first++args++cap) (F++c.args.map a.eval++C).toList:=by
          have:=(R.app m).app O;simpa using this
         exact oF B h1 h2 hV j (wP v B j hp h d A).2 fin
        .grind
       .cases d
     .grind
     .cases h
    .cases h
  .rename_i h1 h2
   exfalso;have:=Jt (T:=T) (xs:=xs) (fun f e=>h1 f e) (fun e=>h2 e);omega
theorem cov (R:qK P T ex lim ops ios st ft v) {id:Nat}:∀{j:Nat},j<=ios.length->(st 0).s.n<=id->id<(st j).s.n->∃i,i<j/\id∈(ft i).al
 |0,_,h1,h2=>by omega
 |j+1,hj,h1,h2=>by
  by_cases h:id<(st j).s.n
  obtain⟨i,hi,a⟩:=cov R (j:=j) (by omega) h1 h
  exact⟨i,by omega,a⟩
  exact⟨j,by omega,(R.al (by omega)).2 ⟨by omega,h2⟩⟩
theorem Pn (R:qK P T ex lim ops ios st ft v) (f1:lB P ex) (hT:fL P T) (b7:lim<=(st 0).s.n) {j:Nat} {o:Oper} {io:Sim.Op1} {a:Act} (hr:Zj ops ios S j o io) (hco:hJ P ops.toList o=some io)
  (u:Zi P ops ios st ft v lim base g0 w0 S g a w) (y:∀i,i≠j->S' i=S i) (hj:S' j=true) {K:Act->World->Prop} {Q:Exit->Act->World->Prop} (hK:∀g' a' w',Zi P ops ios st ft v lim base g0 w0 S' g' a' w'->K a' w'):
  wpOpIn (FW r) n P ops Q j K a w:=by
 have d:=u.closed;have g9:ops[j]? =some o:=by simpa using hr.hop
 unfold wpOpIn;rw[g9];simp only;obtain⟨os,c1,c2,c3,c4⟩:=lD hco
 have hw:Region.wanted o (yielded ops a.tmps)=Sim.wanted (st j).t io.guard:=by
  rw[Aj u.t hco];refine Cn (fun i b hg=>Gf R hr d ?_);simp[Op1.reads,hg]
 have e9:evs (tl ios st v S ios.length) io.xs=evs (st j).t io.xs:=Ao (fun t q=>Gf R hr d (by
  simp only[Op1.reads,rF2,List.mem_filterMap];exact .inl ⟨.t t,q,rfl⟩))
 have Z:∀i oi,S' i=true->ops.toList[i]? =some oi->∀e∈oi.after.toList,Region.binds .any e=true->S' e.on=true:=by
  intro i oi hi f8 e he hb
  have up:∀i,S i=true->S' i=true:=fun i h=>by
   by_cases e:i=j;rw[e];exact hj;rw[y i e];exact h
  by_cases e1:i=j;subst e1;rw[hr.hop]at f8;cases f8;exact up _ (hr.edges e he hb);exact up _ (d i oi (by rw[<-y i e1];exact hi) f8 e he hb)
 have d3:∀{g':Gh} {w':World} {V:Value},mW lim g g' w w'->fI base g' w' (a.put o.dst V).defers:=by
  intro g' w' V hE;have:(a.put o.dst V).defers=a.defers:=by cases o.dst<;>rfl
  rw[this];exact u.marks.ext hE
 have d4:∀{g':Gh} {w':World} {V:Value},mW lim g g' w w'->VR g' (v j) V->TR g' (tl ios st v S' ios.length) (a.put o.dst V).tmps.toList:=by
  intro g' w' V hE hV;rw[jB1 R hr d y hj,c3];exact Jn (u.t.mono hE.le) hV o.dst
 have L:∀id,(id<(st 0).s.n\/∃i,i<ios.length/\S i=true/\id∈(ft i).al)->id<(st 0).s.n\/∃i,i<ios.length/\S' i=true/\id∈(ft i).al:=by
  rintro id (h|⟨i,h1,h2,x⟩);exact .inl h;refine .inr ⟨i,h1,?_,x⟩;by_cases e:i=j;rw[e];exact hj;rw[y i e];exact h2
 have e7:=R.mono (i:=0) (j:=j) (by omega) (qZ2 hr.c);obtain⟨s1,s2⟩:=R.step j io hr.hio;rw[hw];rcases s2 with⟨q1,q2,q3,q4⟩|⟨q1,xs,q2,q3,q4,q5,s2,q6⟩|⟨q1,xs,q2,q3,q4,q5⟩|⟨q1,xs,W,q2,q3,q4,q5⟩
 ·
  rw[q1];simp only[qA2,qX2];refine⟨fun _ _=>trivial,hK g _ w ⟨u.ext,u.W,fun id ao h=>?_,fun id h=>L id (u.dom id h),d4 (.refl lim g w) (by rw[q2];exact .undef g),d3 (.refl lim g w),Z⟩⟩;refine u.H id ao (rC R hr d y hj (fun q=>?_) h);rw[sK,q3]at q;simp at q
 ·
  rw[q1];simp only[qQ2];have b4:=nC u.t c2 (e9.trans q2);have f2:=(rB T io.k xs).2 (by omega)
  have M:∀id ao,look (hide (unseen ((bT [] ops.toList).getD j 0) j (fG ft j)) (st j).s.h) id=some ao->fH st ft S ios.length id=some ao:=by
   intro id ao h;obtain⟨h1,h2⟩:=sP _ (R.wf (qZ2 hr.c)) h;have A:=(R.wf (qZ2 hr.c)).lt h1;rw[uH (j:=j) (qZ2 hr.c),xA R (qZ2 hr.c)];exact h1;intro i hi q;rcases xC R hr d hi with h|⟨hb,h,_⟩
   exact h;obtain⟨c1,c2,c3,c4,c5,c6⟩:=dA h;simp only[sK,qC2,rM2,qY2,pU2]at q;have b8:(ft j).all=1:=by rw[q4];exact q3
   rcases q with(q|q)|q;have:=Zh c1 (nI (by omega));omega;rw[c6.resolve_left (by omega)]at q;simp at q;exact absurd (mH i hi hb q) h2;intro i hi z F;by_cases e:i=j;subst e;rw[hr.no]at F;cases F;obtain⟨c1,c2,c3,c4,c5,c6⟩:=dA (Co R hr d (by omega) z F).1;have b8:(ft j).all=1:=by rw[q4];exact q3
   simp only[sK,sE2,sH2,ne_eq,qY2,rC2];refine⟨⟨by have:=An c1 (nI (by omega));omega,fun h=>?_⟩,fun h=>?_⟩;rw[c5.resolve_left (by omega)]at h;simp at h;rw[R.al z]at h;have:=R.mono (i:=j) (j:=i) (by omega) (by omega);omega
  have Y:jE P g w {h:=hide (unseen ((bT [] ops.toList).getD j 0) j (fG ft j)) (st j).s.h,n:=(st j).s.n+Yr (ios.length-j)}:=by
   refine⟨fun id ao h=>u.H id ao (M id ao h),u.W,fun id h=>?_,((R.wf (qZ2 hr.c)).hide _).mono (by simp)⟩;simp only;rcases u.dom id h with h1|⟨i,h1,h2,x⟩
   have:=hr.c;omega;have f5:=vG x;have b8:(ft j).isE=false:=nI (by rw[show(ft j).all=1 by rw[q4];exact q3];decide);rw[R.al h1]at x;by_cases d1:i<j;have:=R.mono (i:=i+1) (j:=j) (by omega) (qZ2 hr.c);omega
   have d2:j<i:=by
    rcases Nat.lt_or_ge j i with h|h;exact h;have:i=j:=by omega
    subst this;rw[hr.no]at h2;cases h2
   have g8:∀k,j<=k->k<=i->(st (k+1)).s.n<=(st j).s.n+Yr (k-j):=by
    intro k
    induction k with
    |zero=>
     intro hk _;have:j=0:=by omega
     subst this;rw[q5];omega
    |succ k ih=>
     intro hk j4;by_cases e:j=k+1;subst e;rw[q5];omega;have j7:=ih (by omega) (by omega);have g6:k+1<ios.length:=by omega
     have i4:(ft (k+1)).all<=1:=by
      by_cases e2:k+1=i;have:=An (dA (Co R hr d d2 h1 h2).1).1 b8;rw[e2];omega
      ·
       rcases Nat.lt_or_ge 1 (ft (k+1)).all with j1|hok;exfalso;obtain⟨j8,oi,i1,i2,i3⟩:=R.get h1
       have hb:((bT [] ops.toList).getD i 0).testBit (k+1)=true:=by
        rcases R.com i h1 (k+1) (by omega)with h|h;exact h;have:=Zh (dA h).1 f5;omega
       have h8:S (k+1)=true:=nG R.back (D:=fun i=>S i=true) d i oi i2 (fun e he i5=>d i oi h2 i2 e he i5) (k+1) hb;have:=An (dA (Co R hr d (by omega) g6 h8).1).1 b8;omega;exact hok
     obtain⟨g3,ok,k1,k2,k3⟩:=R.get g6;obtain⟨_,t2⟩:=R.step (k+1) g3 k1;have j5:Yr (k+1-j)=Yr (k-j)+1048576:=by rw[Nat.succ_sub (by omega),Tu]
     rcases t2 with⟨_,_,_,t3⟩|⟨_,xs',_,_,_,t3,_⟩|⟨_,xs',_,t3,t4,t5⟩|⟨_,xs',W',_,_,_,t3⟩
     rw[t3];omega;rw[t3];omega
     have d6:(foot T g3.k xs').all=0:=by
      have:(ft (k+1)).all=(foot T g3.k xs').all:=by rw[t4]
      have:=t3.1;omega
     obtain⟨out,_,_,hs⟩:=pO t5 d6;rw[hs,oH];split<;>omega;obtain⟨s',w,_,_,e3,_,_,_,_,_,_,e4⟩:=mD t3;rw[e3];simp only;omega
   have:=g8 i (by omega) (pQ2 _);have:=iW1 (a:=i-j) (b:=ios.length-j) (by omega);omega
  refine Pm f1 hT c1 q6 q3 b4 Y (fun V g' w' k1 k2 k3 k4 k5=>hK g' _ w' ?_);have hE:mW lim g g' w w':=k5.mono (by simp only;have:=hr.c;omega);refine⟨u.ext.trans hE,k3,fun id ao h=>?_,fun id h=>L id (u.dom id (by rw[<-k2];exact h)),d4 hE k1,d3 hE,Z⟩
  have h1:=rC R hr d y hj (id:=id) (ao:=ao) (fun q=>by
   rw[sK,q4]at q;rw[q3,f2.2,Mk]at q;simp at q) h
  exact(u.H id ao h1).mono hE.le (by rw[k2]) (fun loc hl=>k4 _ (u.W.lt id loc hl))
 rw[q1];simp only[qQ2];have b4:=nC u.t c2 (e9.trans q2);by_cases d6:(foot T io.k xs).all=0
 ·
  obtain⟨out,ho,hv,hs⟩:=pO q5 d6
  have i6:∀id ao,id∈(foot T io.k xs).rd\/id∈(foot T io.k xs).wr->look (st j).s.h id=some ao->fH st ft S ios.length id=some ao:=by
   intro id ao f hl;refine Zk R hr d ?_ hl;rw[q4];exact f
  have e0:doOp (fH st ft S ios.length) lim (st j).s.n io.k xs=some out:=Jq (T:=T) ho i6;have hn:=oH out (st j).s;rw[<-hs]at hn;have G:∀id,look (st (j+1)).s.h id=out.after (look (st j).s.h) (st j).s.n id:=fun id=>by rw[hs];exact wY (fun i ob hu=>(rA (T:=T) ho hu).2) id
  have C:∃g4,fO P o.op o.type=some (io.k,g4)/\g4=os:=by
   cases hc:fO P o.op o.type with
   |none=>
    rw[hc]at c1;simp only[Option.getD_none,qE2]at c1;rw[<-c1.1,sO]at ho;cases ho
   |some p=>rw[hc]at c1;exact⟨os,by rw[<-c1];rfl,rfl⟩
  obtain⟨g4,C,rfl⟩:=C
  have fin:∀(m:Nat) (V:Value) (g':Gh) (w':World),(out.new.isSome=true->m=(st j).s.n)->VR g' out.v V->HR P g' (out.after (fH st ft S ios.length) m) w'->WG g' w'->mW lim g g' w w'->
    (∀id,g'.ι id≠none->g.ι id≠none\/(id=m/\out.new.isSome))->K (a.put o.dst V) w':=by
   intro m V g' w' hm k1 k2 k3 k4 k5;refine hK g' _ w' ⟨u.ext.trans k4,k3,fun id ao h=>k2 id ao ?_,fun id h=>?_,d4 k4 (by rw[hv];exact k1),d3 k4,Z⟩
   ·
    have b9:id∈(ft j).al↔(st j).s.n<=id/\id<(st (j+1)).s.n:=R.al hr.c;have d8:(ft j).wr=(foot T io.k xs).wr:=by rw[q4]
    have j0:(ft j).all=0:=by rw[q4];exact d6
    have a0:(∀i ob,out.up=some (i,ob)->id≠i)->(out.new.isSome=true->id≠(st j).s.n)->fH st ft S ios.length id=some ao:=by
     intro h1 h2;refine rC R hr d y hj (fun q=>?_) h
     have g7:id∉(ft j).al:=by
      rw[b9,hn];cases hnew:out.new with
      |none=>simp
      |some ob=>
       have:=h2 (by rw[hnew];rfl);simp;omega
     refine⟨?_,?_⟩;simp only[sK,qC2,rM2,qY2,pU2]at q;rcases q with(q|q)|q;omega;exact q;exact absurd q g7;rw[G id];unfold Out.after Out.base;cases hnew:out.new with
     |none=>
      simp only;cases hu:out.up with
      |none=>rfl
      |some p=>
       obtain⟨i,ob⟩:=p;simp only;rw[pT2 (h1 i ob hu)]
     |some ob'=>
      simp only;rw[pT2 (h2 (by rw[hnew];rfl))];cases hu:out.up with
      |none=>rfl
      |some p=>
       obtain⟨i,ob⟩:=p;simp only;rw[pT2 (h1 i ob hu)]
    by_cases N:out.new.isSome=true/\id=(st j).s.n;obtain⟨h1,h2⟩:=N;have hl:=xD R hr d y hj (id:=id) (.inr (by rw[b9,hn,h1];simp;omega));rw[hl,G id]at h;rw[<-h,hm h1];unfold Out.after;cases hnew:out.new with
    |none=>rw[hnew]at h1;cases h1
    |some ob=>simp only;rw[pW2 h2,pW2 h2]
    by_cases U:∃ob,out.up=some (id,ob);obtain⟨ob,hu⟩:=U;obtain⟨u1,u2⟩:=rA (T:=T) ho hu;have g1:∃d5,look (st j).s.h id=some d5:=Option.isSome_iff_exists.1 u2;obtain⟨d5,g5⟩:=g1;have A:=(R.wf (qZ2 hr.c)).lt g5;have hl:=xD R hr d y hj (id:=id) (.inl ⟨by rw[d8];exact u1,A⟩);rw[hl,G id]at h;rw[<-h];unfold Out.after Out.base;cases hnew:out.new with
    |none=>simp only[hu,qQ2]
    |some ob'=>
     have:=hm (by rw[hnew];rfl);simp only[hu,qQ2];rw[pT2 (by omega),pT2 (by omega)]
    have J:=a0 (fun i ob hu e=>U ⟨ob,by rw[e];exact hu⟩) (fun h1 e=>N ⟨h1,e⟩);unfold Out.after Out.base;cases hnew:out.new with
    |none=>
     simp only;cases hu:out.up with
     |none=>exact J
     |some p=>
      obtain⟨i,ob⟩:=p;simp only;rw[pT2 (fun e=>U ⟨ob,by rw[e];exact hu⟩)];exact J
    |some ob'=>
     simp only;rw[pT2 (fun e=>N ⟨by rw[hnew];rfl,by rw[e];exact hm (by rw[hnew];rfl)⟩)];cases hu:out.up with
     |none=>exact J
     |some p=>
      obtain⟨i,ob⟩:=p;simp only;rw[pT2 (fun e=>U ⟨ob,by rw[e];exact hu⟩)];exact J
   rcases k5 id h with h1|⟨h1,h2⟩
   exact L id (u.dom id h1);refine .inr ⟨j,hr.c,hj,?_⟩;rw[R.al hr.c,hn,h2,h1,hm h2];simp
  cases hnew:out.new with
  |none=>
   have f7:doOp (fH st ft S ios.length) lim (st ios.length).s.n io.k xs=some out:=iY1 e0 hnew
   have f4:g.ι (st ios.length).s.n=none:=by
    cases h:g.ι (st ios.length).s.n with
    |none=>rfl
    |some l=>
     rcases u.dom _ (by rw[h];simp)with h1|⟨i,h1,h2,x⟩
     have:=R.mono (i:=0) (j:=ios.length) (by omega) (pQ2 _);omega;rw[R.al h1]at x;have:=R.mono (i:=i+1) (j:=ios.length) (by omega) (pQ2 _);omega
   have i7:lim<=(st ios.length).s.n:=qT2 b7 (R.mono (by omega) (pQ2 _));exact Ml C (pJ a.eval o C b4 f7 u.H u.W f4 i7) (fun V g' w'=>fin _ V g' w' (fun h=>by rw[hnew]at h;cases h))
  |some ob=>
   have f4:g.ι (st j).s.n=none:=by
    cases h:g.ι (st j).s.n with
    |none=>rfl
    |some l=>
     rcases u.dom _ (by rw[h];simp)with h1|⟨i,h1,h2,x⟩
     omega;rw[R.al h1]at x;rw[hnew]at hn;simp only[sL2,qQ2]at hn;by_cases d1:i<j;have:=R.mono (i:=i+1) (j:=j) (by omega) (qZ2 hr.c);omega;by_cases e:i=j;subst e;rw[hr.no]at h2;cases h2;have:=R.mono (i:=j+1) (j:=i) (by omega) (by omega);omega
   exact Ml C (pJ a.eval o C b4 e0 u.H u.W f4 (qT2 b7 e7)) (fun V g' w'=>fin _ V g' w' (fun _=>rfl))
 ·
  have h2:(ft j).all=2:=by
   have:=(rB T io.k xs).1;rw[q4];have:=q3.1;have:=q3.2;show(foot T io.k xs).all=2
   omega
  have b5:∀i,i<j->S i=true\/(ft i).isE=true:=by
   intro i hi;rcases xC R hr d hi with h|⟨_,h,_⟩
   exact .inl h;rcases(dA h).1 with h|h|h;omega;exact .inr h;have:=(gK h).2.2.2;omega
  have b0:∀i,j<=i->i<ios.length->S i=false\/(ft i).isE=true:=by
   intro i hi z;cases F:S i with
   |false=>exact .inl rfl
   |true=>
    by_cases e:i=j;subst e;rw[hr.no]at F;cases F;rcases(dA (Co R hr d (by omega) z F).1).1 with h|h|h;omega;have:=(gK h).2.2.2;omega;exact .inr h
  have e8:∀id,fH st ft S ios.length id=look (st j).s.h id:=by
   intro id
   rw[uH (j:=j) (qZ2 hr.c) (fun i hi z F=>by
    rcases b0 i hi z with B|B;rw[B]at F;cases F;exact jA1 B),xA R (qZ2 hr.c) (fun i hi q=>by
    rcases b5 i hi with B|B;exact B;rw[jA1 B]at q;cases q)]
  have Y:jE P g w (st j).s:=by
   refine⟨fun id ao h=>u.H id ao (by rw[e8];exact h),u.W,fun id h=>?_,R.wf (qZ2 hr.c)⟩;rcases u.dom id h with h1|⟨i,h1,x,X⟩
   omega;have f5:=vG X;rw[R.al h1]at X;by_cases d1:i<j;have:=R.mono (i:=i+1) (j:=j) (by omega) (qZ2 hr.c);omega;rcases b0 i (by omega) h1 with B|B;rw[B]at x;cases x;rw[f5]at B;cases B
  refine Cj f1 hT c1 q5 b4 Y (qT2 b7 e7) (fun V g' w' k1 k2 k3 k4=>hK g' _ w' ⟨u.ext.trans k3,k2.W,fun id ao h=>k2.H id ao ?_,fun id h=>?_,d4 k3 k1,d3 k3,Z⟩)
  rw[uH (j:=j+1) hr.c (fun i hi z F=>by
   rcases b0 i (by omega) z with B|B;rw[y i (by omega),B]at F;cases F;exact jA1 B)]at h
  have q:sK ft j id=true:=by simp[sK,h2]
  simp only[fH,hj,q,tM2,qQ2]at h;exact h;have A:=k2.dom id h;by_cases f6:id<(st 0).s.n;exact .inl f6;obtain⟨i,hi,x⟩:=cov R (j:=j+1) hr.c (by omega) A;refine .inr ⟨i,by have:=hr.c;omega,?_,x⟩;by_cases e:i=j;rw[e];exact hj;rw[y i e];rcases b5 i (by omega)with B|B;exact B;rw[vG x]at B;cases B
 ·
  rw[q1];simp only[qQ2];have b4:=nC u.t c2 (e9.trans q2);have b8:(ft j).all=1:=by rw[q4]
  have d8:(ft j).wr=W:=by rw[q4]
  obtain⟨s',wl,k1,k2,k3,k4,k5,k6,k7,k8,k9,_⟩:=mD q5;generalize hhid:unseen ((bT [] ops.toList).getD j 0) j (fG ft j)=f at k1 k2 k5 k6 k7 k8 k9;have E:=R.wf (qZ2 hr.c)
  have b6:∀i,i<ios.length->S i=true->¬i<j->(ft i).wr=[]/\(∀id,id∈(ft i).al->(st (j+1)).s.n<=id)/\(ft i).all≠2:=by
   intro i z F d1
   have d2:j<i:=by
    rcases Nat.lt_or_ge j i with h|h;exact h;have:i=j:=by omega
    subst this;rw[hr.no]at F;cases F
   obtain⟨e1,e2,e3,e4,e5,e6⟩:=dA (Co R hr d d2 z F).1;refine⟨e5.resolve_left (by omega),fun id h=>?_,by have:=An e1 (nI (by omega));omega⟩;rw[R.al z]at h;have:=R.mono (i:=j+1) (j:=i) (by omega) (by omega);omega
  have j3:=(R.grows hr.c).n
  have f9:∀id,jX f (st j).s.n id=true->id<(st j).s.n/\id∉f:=by
   intro id h;simp only[jX,pN2,qH2,qY2,rC2]at h;exact⟨by simpa[rY2]using h.1,h.2⟩
  have d9:∀id,id∉f->id<(st j).s.n->fH st ft S ios.length id=look (st j).s.h id:=by
   intro id i9 A;rw[uH (j:=j) (qZ2 hr.c),xA R (qZ2 hr.c)];intro i hi q;rcases xC R hr d hi with h|⟨hb,h,_⟩
   exact h;obtain⟨e1,e2,e3,e4,e5,e6⟩:=dA h;simp only[sK,qC2,rM2,qY2,pU2]at q;rcases q with(q|q)|q;have:=Zh e1 (nI (by omega));omega;rw[e6.resolve_left (by omega)]at q;simp at q;exact absurd (hhid ▸ mH i hi hb q) i9;intro i hi z F;obtain⟨e1,e2,e3⟩:=b6 i z F (by omega);simp only[sK,sE2,sH2,ne_eq,qY2,rC2];refine⟨⟨e3,fun h=>?_⟩,fun h=>?_⟩;rw[e1]at h;simp at h;have:=e2 id h;omega
  have M:∀id ao,look (hide f (st j).s.h) id=some ao->fH st ft S ios.length id=some ao/\jX f (st j).s.n id=true:=by
   intro id ao h;obtain⟨h1,h2⟩:=sP _ E h;have A:=E.lt h1;refine⟨(d9 id h2 A).trans h1,?_⟩;simp only[jX,pN2,qH2,qY2,rC2];exact⟨by simpa[rY2]using A,h2⟩
  have hιp:∀id,jX f (st j).s.n id=true->(g.only (jX f (st j).s.n)).ι id=g.ι id:=fun id h=>Gh.only_pos h
  have Y:jE P (g.only (jX f (st j).s.n)) w {h:=hide f (st j).s.h,n:=(st j).s.n}:=by
   refine⟨fun id ao h=>?_,u.W.only,fun id h=>?_,E.hide _⟩;obtain⟨h1,h2⟩:=M id ao h;exact(u.H id ao h1).names (g:=g) (g2:=g.only _) rfl hιp (hιp id h2) (kQ k5 id ao h);simp only[Gh.only]at h;split at h;rename_i hp;exact(f9 id hp).1;exact absurd rfl h
  refine Cj (s':=s') f1 hT c1 k1 (TR.names (g:=g) (g2:=g.only _) rfl hιp k6 b4) Y (qT2 b7 e7) (fun V g' w' m1 m2 m3 m4=>?_);obtain⟨hE,i0⟩:=Tv m3 u.W m2.W
  have hqι:∀id,qX f (st j).s.n s'.n id=true->(g.back g' (jX f (st j).s.n) (st j).s.n).ι id=g'.ι id:=by
   intro id h;simp only[qX,qC2,pN2]at h;rcases h with h|⟨h1,h2⟩
   exact qY h;have h1:=pY2 h1;have h2:id<s'.n:=by simpa[rY2]using h2
   simp only[Gh.back];split;rename_i hc;exfalso;rcases u.dom id (hc.2.resolve_left (by omega))with x|⟨i,x,X,h5⟩
   omega;by_cases d1:i<j;rw[R.al x]at h5;have:=R.mono (i:=i+1) (j:=j) (by omega) (qZ2 hr.c);omega;have h6:=(b6 i x X d1).2.1 id h5;rw[k3]at h6;simp only at h6;omega;rfl
  have j6:(st (j+1)).s.n=s'.n:=by rw[k3]
  refine hK (g.back g' (jX f (st j).s.n) (st j).s.n) _ w' ⟨u.ext.trans hE,i0,fun id ao h=>?_,fun id h=>?_,d4 hE (VR.names (g:=g') (g2:=g.back g' _ _) rfl hqι k7 m1),d3 hE,Z⟩;have b9:id∈(ft j).al↔(st j).s.n<=id/\id<(st (j+1)).s.n:=R.al hr.c;by_cases q:(id∈W/\id<(st j).s.n)\/id∈(ft j).al
  ·
   have h1:=xD R hr d y hj (id:=id) (by rw[d8];exact q);rw[h1,k3]at h;simp only at h
   have hq:qX f (st j).s.n s'.n id=true:=by
    rcases q with⟨h2,x⟩|h2;obtain⟨e,he,rfl⟩:=List.mem_map.1 (k4 ▸ h2);have X:=kP (E.hide f) k2 e he;obtain⟨d5,h5⟩:=Option.isSome_iff_exists.1 X.2;have:=(M e.1 d5 h5).2;simp only[qX,this,Bool.true_or];rw[b9]at h2;have a1:Nat.ble (st j).s.n id=true:=Nat.ble_eq_true_of_le h2.1;have a2:Nat.blt id s'.n=true:=by simp only[rY2];omega
    simp only[qX,a1,a2,tM2,Bool.or_true]
   rcases dT h with⟨h2,x,X⟩|h2;exact(m2.H id ao x).names (g:=g') (g2:=g.back g' _ _) rfl hqι (hqι id hq) (pM k8 id ao X);rcases uB _ _ _ _ h2 with⟨x,X⟩|x;exfalso;rw[<-k4]at X;rcases q with⟨h5,_⟩|h5;exact X h5;rw[b9]at h5;have:=E.lt x;omega;exact(m2.H id ao ((jH k2).2 _ x)).names (g:=g') (g2:=g.back g' _ _) rfl hqι (hqι id hq) (by have:=pX2.1 k9 _ x;exact this)
  have h1:fH st ft S ios.length id=some ao:=rC R hr d y hj (fun O=>by
   exfalso;simp only[sK,b8,d8,qC2,qY2,pU2]at O;rcases O with(O|O)|O;cases O;obtain⟨e,he,rfl⟩:=List.mem_map.1 (k4 ▸ O);exact q (.inl ⟨O,(kP (E.hide f) k2 e he).1⟩);exact q (.inr O)) h
  cases hp:jX f (st j).s.n id with
  |true=>
   obtain⟨h2,x⟩:=f9 id hp;have X:look (hide f (st j).s.h) id=some ao:=by rw[qW f x,<-d9 id x h2];exact h1
   have h5:id∉wl.map (·.1):=fun h6=>q (.inl ⟨by rw[k4];exact h6,h2⟩);exact(m2.H id ao ((jH k2).1 id ao X h5)).names (g:=g') (g2:=g.back g' _ _) rfl hqι (qY hp) (Jm (fun i h=>by simp only[qX,h,Bool.true_or]) (kQ k5 id ao X))
  |false=>
   have h2:=u.H id ao h1;have x:g.ι id≠none:=h2.some;refine h2.mono hE.le (wQ hp x) (fun loc hl=>m3.keep _ (u.W.lt id loc hl) (fun id' loc' j2 d7 e=>?_));simp only[Gh.only]at d7;split at d7;rename_i h0;have:=u.W.inj id' id loc' loc d7 hl e;subst this;rw[hp]at h0;cases h0;cases d7
  by_cases hg:g.ι id=none
  have h2:g'.ι id≠none:=by
   simp only[Gh.back]at h;split at h;exact absurd hg h;exact h
  have x:id<s'.n:=m2.dom id h2;by_cases f6:id<(st 0).s.n;exact .inl f6;by_cases A:id<(st j).s.n;obtain⟨i,hi,X⟩:=cov R (qZ2 hr.c) (by omega) A;rcases xC R hr d hi with h5|⟨hb,_,_⟩
  refine .inr ⟨i,by have:=hr.c;omega,?_,X⟩;rw[y i (by omega)];exact h5;have h6:id∈f:=hhid ▸ mH i hi hb X
  have h7:jX f (st j).s.n id=false:=by
   cases hp:jX f (st j).s.n id with
   |false=>rfl
   |true=>exact absurd h6 (f9 id hp).2
  exfalso;simp only[Gh.back]at h;rw[pW2 ⟨h7,.inl A⟩]at h;exact h hg;refine .inr ⟨j,hr.c,hj,?_⟩;rw[R.al hr.c];omega;exact L id (u.dom id hg)
end
end Go.Sim
namespace Go.Sim
section
variable {P:Program} {T:gH} {ex:Nat->Bool->IC->St->Option (Ex×St)} {lim:Nat} {ops:Array Oper} {ios:List Sim.Op1} {st:Nat->St} {ft:Nat->Foot} {v:Nat->AV} {r:Option Nat} {n base:Nat} {g0:Gh} {w0:World}
def dP (a:Array Bool) (i:Nat):Bool:=a.getD i false
theorem xE (a:Array Bool) (i j:Nat) (h:j<a.size):dP (a.setIfInBounds j true) i=if i=j then true else dP a i:=by
 unfold dP;by_cases e:i=j;subst e;simp[h];simp[e,Array.getElem?_setIfInBounds_ne (Ne.symm e)]
theorem Ua (R:qK P T ex lim ops ios st ft v) (t:lB P ex) (D:fL P T) (m:lim<=(st 0).s.n) {Q:Exit->Act->World->Prop}
  (hQ:∀(S:Nat->Bool) g a w,(∀i,i<ios.length->S i=true)->Zi P ops ios st ft v lim base g0 w0 S g a w->Q .normal a w):
  ∀(d:Nat) (b:Array Bool) (g:Gh) (a:Act) (w:World),b.size=ops.size->b.toList.count false<=d->Zi P ops ios st ft v lim base g0 w0 (dP b) g a w->wpAnyIn (FW r) n P .any ops Q d b a w:=by
 have F:=R.size
 have k:∀(b:Array Bool),b.size=ops.size->Region.ready .any ops b=[]->∀i,i<ios.length->dP b i=true:=by
  intro b hl hr i
  induction i using Nat.strongRecOn with
  |_ i ih=>
   intro hi;cases h:dP b i with
   |true=>rfl
   |false=>
    exfalso;obtain⟨io,o,h1,h2,A⟩:=R.get hi
    have B:i∈Region.ready .any ops b:=by
     rw[mem_ready];have c:i<b.size:=by omega
     refine⟨by simp only[dP]at h;simp[c]at h ⊢;exact h,o,by simpa using h2,fun e he hb=>?_⟩;have y:=R.back i o h2 e (by simpa using he) hb;exact ih e.on y (by omega)
    rw[hr]at B;cases B
 intro d
 induction d with
 |zero=>
  intro b g a w hl hc p
  have f:∀i,i<ios.length->dP b i=true:=by
   intro i hi;have c:i<b.size:=by omega
   have l:b.toList.count false=0:=by omega
   rw[List.count_eq_zero]at l;cases h:dP b i with
   |true=>rfl
   |false=>
    exfalso;apply l;simp only[dP]at h;simp[c]at h;rw[<-h];simp
  refine⟨?_,hQ _ g a w f p⟩;rw[List.eq_nil_iff_forall_not_mem];intro i hi;rw[mem_ready]at hi;obtain⟨h1,o,h2,_⟩:=hi;have u:i<ops.size:=(qL2.1 h2).1;have:=f i (by omega);have c:i<b.size:=by omega
  simp only[dP]at this;simp[c]at h1 this;rw[h1]at this;cases this
 |succ d ih=>
  intro b g a w hl hc p;refine⟨fun hr=>hQ _ g a w (k b hl hr) p,fun i hi=>?_⟩;rw[mem_ready]at hi;obtain⟨h1,o,h2,A⟩:=hi;have u:i<ops.size:=(qL2.1 h2).1;have c:i<b.size:=by omega
  obtain⟨io,o',G,H,J⟩:=R.get (j:=i) (by omega);have:o'=o:=by grind
  subst this
  have z:dP b i=false:=by
   simp only[dP];simp[c]at h1 ⊢;exact h1
  have hr:Zj ops ios (dP b) i o' io:=⟨H,G,by omega,z,fun e he hb=>A e (by simpa using he) hb⟩
  refine Pn (S':=dP (b.setIfInBounds i true)) R t D m hr J p (fun j E=>by rw[xE _ _ _ c,pT2 E]) (by rw[xE _ _ _ c,pW2 rfl]) (fun g' a' w' q=>?_);refine ih _ g' a' w' (by simpa using hl) ?_ q;have C:(b.setIfInBounds i true).toList=b.toList.set i true:=by simp
  have x:b.toList[i]'(by simpa using c)=false:=by simp_all
  rw[C,List.count_set (by simpa using c),x,pW2 (by rfl),pT2 (by decide)];omega
theorem Zl (K:fL P T) (y:P.follows .mixedOrders=true) {ex:Nat->Bool->IC->St->aB (Ex×St)} (A:lB P ex) (B:mF ex):Js P T ex:=by
 intro lim ops ios σ E fs id hc l z k r g a w n base O f hl hb M;obtain⟨st,ft,v,_,q,x,D,J⟩:=Gb ios 0 σ (fun _=>{}) E fs z;simp only[rP2]at x D J;have hlen:fs.length=ios.length:=by rw[D,revF_length]
 rw[D,revF_length]at k;simp only[Sq,pN2,pX2]at l;obtain⟨U,V⟩:=l
 have R:qK P T ex lim ops ios st ft v:=by
  refine⟨hc,fun j o C e he L=>?_,fun j o C i p hi hp=>?_,J,uG k,B,by rw[q];exact f.wf⟩;have:=U (o,j) (by rw[qG2];exact⟨j,by simp[C]⟩);simp only[pX2,qC2,qH2,pU2]at this;rcases this e he with h|h
  grind
  exact h;have:=V (o,j) (by rw[qG2];exact⟨j,by simp[C]⟩);have h:=uF this i p hp (by omega);rw[rP2]at h;exact h
 have N:=R.size;refine wpIn_region_any y ?_;have hw:jE P g {w with drawn:=w.drawn+1} σ.s:=⟨fun id ao h=>(f.H id ao h).mono (.refl g) rfl (fun _ _=>rfl),⟨f.W.still,f.W.lt,f.W.out,f.W.inj⟩,f.dom,f.wf⟩
 have F:mW lim g g w {w with drawn:=w.drawn+1}:=⟨.refl g,pQ2 _,fun _ _ _=>rfl,fun id loc h=>.inl ⟨loc,h,rfl⟩,fun _ _=>rfl,rfl,rfl,rfl,fun _ _ h=>.inl h,fun _ R h=>⟨R,h⟩⟩
 refine Ua (base:=base) (g0:=g) (w0:=w) R A K (by rw[q];exact hl) ?_ ops.size (Array.replicate ops.size false) g a _ (by simp) (by simp) ?_;intro S g' a' w' G u;refine⟨rfl,g',?_⟩
 have b:∀id,fH st ft S ios.length id=look E.s.h id:=fun id=>by
  rw[xA R (pQ2 _) (fun i hi _=>G i hi),x]
 have m:tl ios st v S ios.length=E.t:=by
  rw[<-x];exact tG2 (fun t=>tlA R (pQ2 _) (fun i hi _=>G i hi))
 have d:=R.mono (i:=0) (j:=ios.length) (by omega) (pQ2 _);rw[q,x]at d;refine⟨by rw[<-m];exact u.t,⟨fun id ao h=>u.H id ao (by rw[b];exact h),u.W,fun id h=>?_,by have:=R.wf (pQ2 ios.length);rw[x]at this;exact this⟩,u.ext,d,u.marks⟩;rcases u.dom id h with h1|⟨i,h1,h2,h3⟩
 rw[q]at h1;omega;rw[R.al h1]at h3;have:=R.mono (i:=i+1) (j:=ios.length) (by omega) (pQ2 _);rw[x]at this;omega
 have c:∀i,dP (Array.replicate ops.size false) i=false:=by
  intro i;simp only[dP];by_cases h:i<ops.size;simp[h];simp[h]
 have b:∀id,fH st ft (dP (Array.replicate ops.size false)) ios.length id=look σ.s.h id:=by
  intro id;rw[uH (j:=0) (by omega) (fun i _ _ h=>by rw[c i]at h;cases h),<-q];rfl
 have m:tl ios st v (dP (Array.replicate ops.size false)) ios.length=σ.t:=by
  rw[<-q];have h2:∀t,(tl ios st v (dP (Array.replicate ops.size false)) ios.length)[t]? =(tl ios st v (dP (Array.replicate ops.size false)) 0)[t]? :=fun t=>tlB (by omega) (fun i _ _ h=>by rw[c i]at h;cases h);exact tG2 h2
 exact⟨F,hw.W,fun id ao h=>hw.H id ao (by rw[<-b];exact h),fun id h=>.inl (by rw[q];exact hw.dom id h),by rw[m];exact O,M.ext F,fun i oi h=>by rw[c i]at h;cases h⟩
theorem xF (b:fL P T) (a:P.follows .mixedOrders=true) (d:Nat):lB P (exec T d):=Zg b (fun d h=>Zl b a h (wU T d)) d
end
end Go.Sim
namespace Go.Sim
open Go.RowKit
def gW (w:World):Gh:={G:=fun b=>w.heap[b]?,ι:=fun _=>none}
theorem Po (P:Program) (w:World):jE P (gW w) w {h:=[],n:=0}:=
 ⟨fun id ao h=>by simp[look]at h,⟨fun b o h=>h,fun id loc h=>by simp[gW]at h,fun id loc h=>by simp[gW]at h,fun id id' loc loc' h=>by simp[gW]at h⟩,fun id h=>by simp[gW]at h,trivial⟩
theorem Pp {P:Program} {T:gH} (g:fL P T) (a:P.follows .mixedOrders=true) {f:FuncId} {args:aA AV} {Args:Array Value} {d:Nat} {s':Hp} {w:World} {x:Value} (hg:Value.ground x=true)
  (h:callF T (exec T d) 0 f args {h:=[],n:=0}=some (.v x,s')) (i:TR (gW w) args Args.toList):Calls P f Args w fun e w'=>e=.returned x/\Below w.heap.size w w':=by
 have h1:=qU (n:=0) (xF g a d) g h i (Po P w) (pQ2 _);refine callsIn_wide.1 (CallsIn.mono (F:=Fence.wide) h1 ?_);rintro e w' ⟨V,g',rfl,j,k,c,l⟩;refine⟨by rw[j.ground],⟨c.os,c.tape,c.output,c.size,fun b hb=>c.keep b hb (fun id loc _ hi=>by simp[gW]at hi)⟩⟩
def Ub (P:Program):aA Field->Nat->Nat->Bool
 |[],off,m=>off==m
 |f::fs,off,m=>f.offset==off&&Ub P fs (off+P.cellsOf f.type) m
def eK (P:Program):Nat->TypeId->Bool
 |0,_=>false
 |d+1,t=>
  match P.underlying t with
  |some .bool|some (.int _)|some .string=>true
  |some (.slice e)=>P.cellsOf e !=0&&eK P d e
  |some (.struct fs)=>Ub P fs.toList 0 (P.cellsOf t)&&fs.toList.all fun f=>eK P d f.type
  |some (.array n e)=>P.cellsOf t==n*P.cellsOf e&&eK P d e
  |_=>false
def Zm (F:TypeId->aA AV->Prop) (P:Program):aA Field->aA AV->Prop
 |[],cs=>cs=[]
 |f::fs,cs=>∃c1 c2,cs=c1++c2/\c1.length=P.cellsOf f.type/\F f.type c1/\Zm F P fs c2
def iS (P:Program):Nat->TypeId->aA AV->Prop
 |0,_,_=>False
 |d+1,t,cs=>
  match P.underlying t with
  |some .bool=>∃b,cs=[.v (.bool b)]
  |some (.int k)=>∃n,cs=[.v (.int k n)]/\(Lit.int k n).wf=true
  |some .string=>∃s:ByteArray,cs=[.v (.string s)]/\s.size<=maxLen
  |some (.slice e)=>cs=[.v (.slice none 0 0)]\/∃els:aA (aA AV),cs=[.is (P.cellsOf e) els]/\els.length<=maxLen/\∀row∈els,row.length=P.cellsOf e/\iS P d e row
  |some (.struct fs)=>Zm (iS P d) P fs.toList cs
  |some (.array n e)=>∃rows:aA (aA AV),cs=rows.flatten/\rows.length=n/\∀row∈rows,row.length=P.cellsOf e/\iS P d e row
  |_=>False
theorem kA {α β:Type} {f:α->aB β}:∀{l:aA α} {r:aA β},l.mapM f=some r->r.length=l.length/\∀(i:Nat) (x:α),l[i]? =some x->∃y,f x=some y/\r[i]? =some y
 |[],r,h=>by grind
 |a::l,r,h=>by
  simp only[sY2,Option.bind_eq_bind,pM2,Option.pure_def,pV2]at h
  obtain⟨b,hb,g,c,rfl⟩:=h
  obtain⟨h1,h2⟩:=kA c
  refine⟨by simp[h1],fun i x hi=>?_⟩
  cases i with
  |zero=>simp at hi;subst hi;exact⟨b,hb,rfl⟩
  |succ i=>simp at hi;obtain⟨y,d,e⟩:=h2 i x hi;exact⟨y,d,by simpa using e⟩
theorem sU {w:World} {base:Nat} {a:Addr} {n:Nat} {cs:aA Value} (h:w.cells? base a n=some cs):cs.length=n/\∀i,i<n->w.cell? (a.add i)=cs[i]? :=by
 unfold World.cells? at h;split at h;obtain⟨h1,h2⟩:=kA h;refine⟨by simpa using h1,fun i hi=>?_⟩;obtain⟨y,b,c⟩:=h2 i i (by simp[hi]);rw[b,c];cases h
theorem Zn {w:World} {a:Addr} {j:Nat} {y:Value} (h:w.cell? (a.add j)=some y) (hs:a.spot=none):(gW w).cell a j=some y:=by
 have d:a.add j=⟨a.block,a.off+j,none⟩:=by
  obtain⟨b,o,s⟩:=a;simp only at hs;subst hs;exact fS b o j
 rw[d]at h;unfold World.cell? at h;split at h;rename_i c e fr hb;simp only at hb;simp only[Gh.cell,gW,hb];simpa using h;cases h
theorem nJ {α:Type} {Q:Nat->α->Prop}:∀{n:Nat},(∀i,i<n->∃x,Q i x)->∃l:aA α,l.length=n/\∀(i:Nat) (x:α),l[i]? =some x->Q i x
 |0,_=>⟨[],rfl,fun i x h=>by simp at h⟩
 |n+1,h=>by
  obtain⟨l,h1,h2⟩:=nJ (n:=n) (fun i hi=>h i (by omega))
  obtain⟨x,a⟩:=h n (by omega)
  refine⟨l++[x],by simp[h1],fun i y hy=>?_⟩
  rw[rN2]at hy
  split at hy
  exact h2 i y hy
  grind
theorem TR.of_parts {g:Gh} {c1 c2:aA AV} {C:aA Value} {k:Nat} (h1:TR g c1 (C.take k)) (h2:TR g c2 (C.drop k)):TR g (c1++c2) C:=by
 have:=h1.app h2
 rwa [sX2]at this
section
variable {H:Type} {enc:TypeId×Value->H} {P:Program} {w:World} {held:Bool}
def Rd (P:Program) (w:World) (D:Nat) (t:TypeId) (Cs:aA Value):Prop:=∃cs,TR (gW w) cs Cs/\iS P D t cs/\∀y∈Cs,isCell y=true
theorem uI {D a:Nat} (IH:∀t Cs g ps,DataW.trod enc P w 0 (fun _=>true) held a t Cs=some (g,ps)->eK P D t=true->Rd P w D t Cs):∀(fs:aA Field) (off m:Nat) (Cs:aA Value) (xs:aA (DataW H×aA MemPlace)),
  fs.mapM (fun f=>DataW.trod enc P w 0 (fun _=>true) held a f.type ((Cs.drop f.offset).take (P.cellsOf f.type)))=some xs->Ub P fs off m=true->(fs.all fun f=>eK P D f.type)=true->Cs.length=m->
  ∃cs,TR (gW w) cs (Cs.drop off)/\Zm (iS P D) P fs cs/\(∀y∈Cs.drop off,isCell y=true)/\off<=m
 |[],off,m,Cs,xs,h,hs,hp,hl=>by
  simp only[Ub,rM2]at hs
  subst hs
  have:Cs.drop off=[]:=by rw[List.drop_eq_nil_iff];omega
  rw[this]
  exact⟨[],.nil _,rfl,fun y h=>by simp at h,pQ2 _⟩
 |f::fs,off,m,Cs,xs,h,hs,hp,hl=>by
  simp only[sY2,Option.bind_eq_bind,pM2,Option.pure_def,pV2]at h
  obtain⟨b,hb,e,d,rfl⟩:=h
  simp only[Ub,pN2,rM2]at hs
  obtain⟨rfl,hs⟩:=hs
  simp only[rR2,pN2]at hp
  obtain⟨cs2,i,j,k,l⟩:=uI IH fs (f.offset+P.cellsOf f.type) m Cs e d hs hp.2 hl
  obtain⟨c,q1,q2,q3⟩:=IH f.type _ b.1 b.2 hb hp.1
  have hd:(Cs.drop f.offset).drop (P.cellsOf f.type)=Cs.drop (f.offset+P.cellsOf f.type):=by rw[sJ2]
  refine⟨c++cs2,TR.of_parts q1 (by rw[hd];exact i),⟨c,cs2,rfl,?_,q2,j⟩,fun y hy=>?_,by omega⟩
  rw[q1.1,tC2,List.length_drop]
  omega
  rw[<-sX2 (P.cellsOf f.type) (Cs.drop f.offset),hd,rF2]at hy
  rcases hy with hy|hy
  exact q3 y hy
  exact k y hy
theorem Pq {a:Nat} {t:TypeId} {Cs:aA Value} {x:DataW H×aA MemPlace} (c:P.underlying t=some .bool) (h:DataW.trod enc P w 0 (fun _=>true) held (a+1) t Cs=some x):∃b,Cs=[.bool b]:=by
 unfold DataW.trod at h;rw[c]at h;split at h<;>simp_all
theorem Uc {a:Nat} {t:TypeId} {Cs:aA Value} {k:IntKind} {x:DataW H×aA MemPlace} (b:P.underlying t=some (.int k)) (h:DataW.trod enc P w 0 (fun _=>true) held (a+1) t Cs=some x):∃n,Cs=[.int k n]/\(Lit.int k n).wf=true:=by
 unfold DataW.trod at h;rw[b]at h;split at h<;>simp_all
theorem Gg {a:Nat} {t:TypeId} {Cs:aA Value} {x:DataW H×aA MemPlace} (b:P.underlying t=some .string) (h:DataW.trod enc P w 0 (fun _=>true) held (a+1) t Cs=some x):∃s:ByteArray,Cs=[.string s]/\s.size<=maxLen:=by
 unfold DataW.trod at h;rw[b]at h;split at h<;>simp_all
theorem Gi {a:Nat} {t:TypeId} {fs:Array Field} {Cs:aA Value} {x:DataW H×aA MemPlace} (b:P.underlying t=some (.struct fs)) (h:DataW.trod enc P w 0 (fun _=>true) held (a+1) t Cs=some x):
  Cs.length=P.cellsOf t/\∃xs,fs.toList.mapM (fun f=>DataW.trod enc P w 0 (fun _=>true) held a f.type ((Cs.drop f.offset).take (P.cellsOf f.type)))=some xs:=by
 unfold DataW.trod at h;rw[b]at h;split at h<;>simp_all;obtain⟨_,y,h,_⟩:=h;exact⟨y,h⟩
theorem Ju {a n:Nat} {t e:TypeId} {Cs:aA Value} {x:DataW H×aA MemPlace} (b:P.underlying t=some (.array n e)) (h:DataW.trod enc P w 0 (fun _=>true) held (a+1) t Cs=some x):
  Cs.length=P.cellsOf t/\∃xs,(List.range n).mapM (fun i=>DataW.trod enc P w 0 (fun _=>true) held a e ((Cs.drop (i*P.cellsOf e)).take (P.cellsOf e)))=some xs:=by
 unfold DataW.trod at h;rw[b]at h;split at h<;>simp_all;obtain⟨_,y,h,_⟩:=h;exact⟨y,h⟩
theorem Jv {c:Nat} {t e:TypeId} {Cs:aA Value} {x:DataW H×aA MemPlace} (k:P.underlying t=some (.slice e)) (h:DataW.trod enc P w 0 (fun _=>true) held (c+1) t Cs=some x):
  Cs=[.slice none 0 0]\/∃a len cap,Cs=[.slice (some a) len cap]/\len<=cap/\cap<=maxLen/\∀i,i<cap->∃row y,w.cells? 0 (a.add (i*P.cellsOf e)) (P.cellsOf e)=some row/\DataW.trod enc P w 0 (fun _=>true) held c e row=some y:=by
 unfold DataW.trod at h;rw[k]at h;split at h
 all_goals first|(simp_all;done)|skip
 rename_i e' a len cap he;cases he;right;simp only at h;split at h
 .rename_i hc
  obtain⟨_,c1,c2⟩:=hc;simp only[pM2,qQ2,pP2]at h;obtain⟨d,h1,bY,h2,_⟩:=h;refine⟨a,len,cap,rfl,c1,c2,fun i hi=>?_⟩;by_cases f:i<len
  .obtain ⟨y,b,_⟩:=(kA h1).2 i i (rW2 f)
   simp only[pM2]at b;obtain⟨row,b,g⟩:=b;exact⟨row,y,b,g⟩
  .obtain ⟨y,b,_⟩:=(kA h2).2 (i-len) (i-len) (rW2 (by omega))
   have j:len+(i-len)=i:=by omega
   rw[j]at b;simp only[pM2]at b;obtain⟨row,b,g⟩:=b;exact⟨row,y,b,g⟩
 .cases h
theorem Mn:∀(D f:Nat) (t:TypeId) (Cs:aA Value) (G:DataW H) (ps:aA MemPlace),DataW.trod enc P w 0 (fun _=>true) held f t Cs=some (G,ps)->eK P D t=true->Rd P w D t Cs
 |0,_,_,_,_,_,_,hp=>by simp[eK]at hp
 |D+1,0,_,_,_,_,h,_=>by simp[DataW.trod]at h
 |D+1,f+1,t,Cs,G,ps,h,hp=>by
  have IH:=fun t Cs G ps=>Mn D f t Cs G ps
  have one:∀{x:AV} {y:Value},VR (gW w) x y->isCell y=true->iS P (D+1) t [x]->Rd P w (D+1) t [y]:=fun h1 h2 r=>
   ⟨_,.cons h1 (.nil _),r,fun y hy=>by simp at hy;subst hy;exact h2⟩
  unfold eK at hp
  split at hp
  rename_i c
  obtain⟨b,rfl⟩:=Pq c h
  exact one (.v rfl) rfl (by simp[iS,c])
  rename_i k c
  obtain⟨n,rfl,Z⟩:=Uc c h
  exact one (.v rfl) rfl (by simp[iS,c];exact Z)
  rename_i c
  obtain⟨s,rfl,hs⟩:=Gg c h
  exact one (.v rfl) rfl (by simp[iS,c];exact hs)
  rename_i e c
  simp only[pN2,bne_iff_ne,ne_eq]at hp
  obtain⟨h0,hp⟩:=hp
  rcases Jv c h with rfl|⟨a,len,cap,rfl,c1,c2,aL⟩
  exact one (x:=.v (.slice none 0 0)) (.v rfl) rfl (by simp[iS,c])
  by_cases M:cap=0
  have O:len=0:=by omega
  subst M;subst O
  exact one (x:=.is (P.cellsOf e) []) .is0 rfl (by simp[iS,c])
  have d:∀i,i<cap->∃row:aA AV,row.length=P.cellsOf e/\iS P D e row/\a.spot=none/\∀(j:Nat) (x:AV),row[j]? =some x->∃y,(gW w).cell a (i*P.cellsOf e+j)=some y/\isCell y=true/\VR (gW w) x y:=by
   intro i hi;obtain⟨row,y,S,T⟩:=aL i hi;obtain⟨l1,W⟩:=sU S;obtain⟨cs,q1,q2,q3⟩:=IH e row y.1 y.2 T hp
   have hs:a.spot=none:=by
    have h1:=W 0 (by omega);have h2:row[0]? =some row[0]:=by simp
    rw[h2]at h1;have r:=World.cell?_spot h1;unfold Addr.add at r;split at r;split at r;exact r;rename_i a0;obtain⟨F,_,R,_⟩:=aL 0 (by omega);obtain⟨l3,U⟩:=sU R;have B:=U 0 (by omega);have K:F[0]? =some F[0]:=by simp
    rw[K]at B;have L:=World.cell?_spot B;simpa[Addr.add]using L;obtain⟨F,_,R,_⟩:=aL 0 (by omega);obtain⟨l3,U⟩:=sU R;have B:=U 0 (by omega);have K:F[0]? =some F[0]:=by simp
    rw[K]at B;have L:=World.cell?_spot B;simpa[Addr.add]using L
   refine⟨cs,by rw[q1.1,l1],q2,hs,fun j x u=>?_⟩;have hj:j<row.length:=by rw[<-q1.1];exact(pO2.1 u).1
   have hc:=W j (by omega);have C:row[j]? =some row[j]:=by simp
   rw[C]at hc
   have Y:(a.add (i*P.cellsOf e)).add j=a.add (i*P.cellsOf e+j):=by
    obtain⟨b,o,s⟩:=a;simp only at hs;subst hs;rw[fS,fS,fS,rE2]
   rw[Y]at hc;exact⟨row[j],Zn hc hs,q3 _ (by simp),q1.2 j x _ u C⟩
  obtain⟨els,A,e2⟩:=nJ (n:=len) (fun i hi=>d i (by omega));obtain⟨_,_,_,hs,_⟩:=d 0 (by omega)
  have hv:VR (gW w) (.is (P.cellsOf e) els) (.slice (some a) els.length cap):=
   .is hs (by omega) (fun i row hr=>(e2 i row hr).1) (fun i row j x hr u=>by
    obtain⟨y,z,X,_⟩:=(e2 i row hr).2.2.2 j x u;exact⟨y,z,X⟩) (fun i row j x y hr u hy=>by
    obtain⟨y',z,X,y3⟩:=(e2 i row hr).2.2.2 j x u;rw[hy]at z;cases z;exact y3)
  rw[A]at hv;refine one hv rfl ?_;simp only[iS,c];refine .inr ⟨els,rfl,by omega,fun row hr=>?_⟩;obtain⟨i,hi⟩:=qG2.1 hr;exact⟨(e2 i row hi).1,(e2 i row hi).2.1⟩;rename_i fs c;simp only[pN2]at hp;obtain⟨hl,xs,q⟩:=Gi c h;obtain⟨cs,S,T,k3,_⟩:=uI IH fs.toList 0 (P.cellsOf t) Cs xs q hp.1 hp.2 hl;exact⟨cs,by simpa using S,by simpa only[iS,c]using T,by simpa using k3⟩;rename_i n e c;simp only[pN2,rM2]at hp;obtain⟨hl,xs,q⟩:=Ju c h;rw[hp.1]at hl
  have d:∀i,i<n->∃row:aA AV,TR (gW w) row ((Cs.drop (i*P.cellsOf e)).take (P.cellsOf e))/\iS P D e row/\∀y∈(Cs.drop (i*P.cellsOf e)).take (P.cellsOf e),isCell y=true:=by
   intro i hi;obtain⟨y,z,_⟩:=(kA q).2 i i (by simp[hi]);exact IH e _ y.1 y.2 z hp.2
  obtain⟨rows,V,J⟩:=nJ d
  have hlen:∀row∈rows,row.length=P.cellsOf e:=by
   intro row hr;obtain⟨i,hi⟩:=qG2.1 hr;have N:i<n:=by rw[<-V];exact(pO2.1 hi).1
   rw[(J i row hi).1.1,tC2,List.length_drop,hl];have:(i+1)*P.cellsOf e<=n*P.cellsOf e:=qO2 _ N;rw[rD2]at this;omega
  have key:∀(m:Nat) (l:aA (aA AV)),l.length=m->(∀(i:Nat) (row:aA AV),l[i]? =some row->TR (gW w) row ((Cs.drop ((n-m+i)*P.cellsOf e)).take (P.cellsOf e))/\∀y∈(Cs.drop ((n-m+i)*P.cellsOf e)).take (P.cellsOf e),isCell y=true)->m<=n->
    TR (gW w) l.flatten (Cs.drop ((n-m)*P.cellsOf e))/\∀y∈Cs.drop ((n-m)*P.cellsOf e),isCell y=true:=by
   intro m
   induction m with
   |zero=>
    intro l p _ _;have:l=[]:=by cases l;rfl;simp at p
    subst this;have:Cs.drop ((n-0)*P.cellsOf e)=[]:=by rw[List.drop_eq_nil_iff,hl];simp
    rw[this];exact⟨.nil _,fun y h=>by simp at h⟩
   |succ m ih=>
    intro l p hr hm;cases l with
    |nil=>simp at p
    |cons row l=>
     have h0:=hr 0 row rfl;rw[sB2]at h0
     have g:=ih l (by simpa using p) (fun i E hi=>by
      have:=hr (i+1) E (by simpa using hi);have A:n-(m+1)+(i+1)=n-m+i:=by omega
      rwa [A]at this) (by omega)
     have hd:(Cs.drop ((n-(m+1))*P.cellsOf e)).drop (P.cellsOf e)=Cs.drop ((n-m)*P.cellsOf e):=by
      rw[sJ2];congr 1;have:n-m=n-(m+1)+1:=by omega
      rw[this,rD2]
     refine⟨by simpa using TR.of_parts h0.1 (by rw[hd];exact g.1),fun y hy=>?_⟩;rw[<-sX2 (P.cellsOf e) (Cs.drop ((n-(m+1))*P.cellsOf e)),hd,rF2]at hy;rcases hy with hy|hy;exact h0.2 y hy;exact g.2 y hy
  have hk:=key n rows V (fun i row hi=>by
   have A:n-n+i=i:=by omega
   rw[A];exact⟨(J i row hi).1,(J i row hi).2.2⟩) (pQ2 _)
  simp only[Nat.sub_self,tI2,rK2]at hk;refine⟨rows.flatten,hk.1,?_,hk.2⟩;simp only[iS,c];refine⟨rows,rfl,V,fun row hr=>⟨hlen row hr,?_⟩⟩;obtain⟨i,hi⟩:=qG2.1 hr;exact(J i row hi).2.1;cases hp
end
end Go.Sim
namespace Go.Sim
section
variable {T:gH} {ex ex':Nat->Bool->IC->St->Option (Ex×St)}
def rD (ex ex':Nat->Bool->IC->St->aB (Ex×St)):Prop:=∀lim rd c σ r,ex lim rd c σ=some r->ex' lim rd c σ=some r
theorem sW (b:rD ex ex') {lim:Nat} {fn:IFn} {args:aA AV} {s:Hp} {r:AV×Hp} (h:body ex lim fn args s=some r):body ex' lim fn args s=some r:=by
 unfold body at h ⊢;split at h;cases h;rename_i e σ a he;rw[b _ _ _ _ _ he];cases e with
 |exit id=>exact absurd rfl (a id)
 |normal=>exact h
 |ret=>exact h
 cases h
theorem mono_runP (a:rD ex ex') {f:FuncId} {fn:IFn} {args:aA AV} {r:AV} (h:runP T ex f fn args=some r):runP T ex' f fn args=some r:=by
 unfold runP at h ⊢;split at h;rename_i b;exact h;split at h;rename_i hb;rw[sW a hb];exact h;cases h
theorem pQ (a:rD ex ex') {lim:Nat} {f:FuncId} {args:aA AV} {s:Hp} {r:AV×Hp} (h:callF T ex lim f args s=some r):callF T ex' lim f args s=some r:=by
 unfold callF at h ⊢;split at h;cases h;rename_i fn c
 (try simp only[c])
 split at h;rename_i hp;rw[pW2 hp];split at h;rename_i hc;rw[pW2 hc];simp only[pP2]at h;obtain⟨v,hv,rfl⟩:=h;rw[mono_runP a hv];rfl;rename_i hc;rw[pT2 hc];split at h;rename_i d;rw[pW2 d];split at h;rename_i as b
 (try simp only[b])
 split at h;rename_i hb;rw[mono_runP a hb];exact h;cases h;cases h;rename_i d;rw[pT2 d];split at h;rename_i hb;rw[sW a hb];exact h;cases h;rename_i hp;rw[pT2 hp];exact sW a h
theorem Jw (a:rD ex ex') {lim l:Nat} {args:aA AV} {s:Hp} {r:AV×Hp} (h:round ex lim l args s=some r):round ex' lim l args s=some r:=by
 unfold Sim.round at h ⊢;split at h;rename_i c
 (try simp only[c])
 split at h;rename_i hc;rw[pW2 hc];split at h;rename_i σ d;rw[a _ _ _ _ _ d];simp only;split at h;rename_i b
 (try simp only[b])
 split at h;rename_i hb;rw[a _ _ _ _ _ hb];exact h;rename_i hb;rw[a _ _ _ _ _ hb];exact h;rename_i hb;rw[a _ _ _ _ _ hb];exact h;cases h;cases h;cases h;cases h;cases h
theorem oI (a:rD ex ex') {lim:Nat} {k:dW} {xs:aA AV} {s:Hp} {r:AV×Hp} (h:step T ex lim k xs s=some r):step T ex' lim k xs s=some r:=by
 unfold step at h ⊢;split at h;exact pQ a h;split at h;unfold callV at h ⊢;split at h;exact pQ a h;exact Jw a h;cases h;cases h;exact h
theorem nK (b:rD ex ex') {lim:Nat}:∀{os:aA Sim.Op1} {σ τ:St},runOps T ex lim os σ=some τ->runOps T ex' lim os σ=some τ
 |[],σ,τ,h=>h
 |o::os,σ,τ,h=>by
  simp only[runOps]at h ⊢
  split at h
  rename_i hw
  rw[pW2 hw]
  split at h
  rename_i c
  (try simp only[c])
  split at h
  rename_i a
  simp only[oI b a]
  exact nK b h
  cases h
  cases h
  rename_i hw
  rw[pT2 hw]
  exact nK b h
theorem hZ (c:rD ex ex') {lim:Nat} {before:aA Nat}:∀{os:aA Sim.Op1} {j:Nat} {fs:aA Foot} {σ:St} {r:St×aA Foot},cX T ex lim before os j fs σ=some r->cX T ex' lim before os j fs σ=some r
 |[],j,fs,σ,r,h=>h
 |o::os,j,fs,σ,r,h=>by
  simp only[cX]at h ⊢
  split at h
  rename_i hw
  rw[pW2 hw]
  split at h
  rename_i e
  (try simp only[e])
  split at h
  rename_i d
  rw[pW2 d]
  split at h
  rename_i a
  simp only[oI c a]
  exact hZ c h
  cases h
  rename_i d
  rw[pT2 d]
  split at h
  rename_i b
  rw[pW2 b]
  split at h
  rename_i a
  simp only[Jl (fun _ _=>oI c) a]
  exact hZ c h
  cases h
  rename_i b
  rw[pT2 b]
  split at h
  rename_i a
  simp only[oI c a]
  exact hZ c h
  cases h
  cases h
  rename_i hw
  rw[pT2 hw]
  exact hZ c h
theorem Ap (T:gH):∀d,rD (exec T d) (exec T (d+1))
 |0,lim,rd,c,σ,r,h=>by simp[exec]at h
 |d+1,lim,rd,c,σ,r,h=>by
  have ih:=Ap T d
  cases c with
  |skip=>simpa only[exec]using h
  |reg ops=>
   simp only[exec,pP2]at h
   obtain⟨τ,h,rfl⟩:=h
   rw[exec,nK ih h]
   rfl
  |regD ops before=>
   rw[exec]at h ⊢
   split at h
   rename_i hf
   rw[hZ ih hf]
   exact h
   cases h
  |seq a b=>
   rw[exec]at h ⊢
   split at h
   rename_i i
   rw[ih _ _ _ _ _ i]
   exact ih _ _ _ _ _ h
   rename_i g
   have h2:=ih _ _ _ _ _ h
   rw[h2]
   obtain⟨e,τ⟩:=r
   cases e with
   |normal=>exact absurd h (g τ)
   |ret=>rfl
   |exit id=>rfl
  |cond c a b=>
   rw[exec]at h ⊢
   split at h
   rename_i hc
   (try simp only[hc])
   exact ih _ _ _ _ _ h
   cases h
  |block id c=>
   rw[exec]at h ⊢
   split at h
   rename_i i
   rw[ih _ _ _ _ _ i]
   exact h
   rename_i g
   have h2:=ih _ _ _ _ _ h
   rw[h2]
   obtain⟨e,τ⟩:=r
   cases e with
   |normal=>rfl
   |ret=>rfl
   |exit id=>exact absurd h (g _ _)
  |loop c=>
   rw[exec]at h ⊢
   split at h
   rename_i i
   rw[ih _ _ _ _ _ i]
   exact ih _ _ _ _ _ h
   rename_i e τ g i
   rw[ih _ _ _ _ _ i]
   cases e with
   |normal=>exact(g rfl).elim
   |ret=>exact h
   |exit id=>exact h
   cases h
  |rangeF f ps a b=>
   rw[exec]at h ⊢
   split at h
   rename_i j
   (try simp only[j])
   split at h
   rename_i hc
   simp only[pQ ih hc]
   exact h
   cases h
   cases h
  |exit id=>simpa only[exec]using h
  |ret=>simpa only[exec]using h
theorem mono_le (T:gH) {d a:Nat} (h:d<=a):rD (exec T d) (exec T a):=by
 induction h with
 |refl=>exact fun _ _ _ _ _ h=>h
 |step _ ih=>exact fun _ _ _ _ _ h=>Ap T _ _ _ _ _ _ (ih _ _ _ _ _ h)
end
end Go.Sim
namespace Go.Sim
def gI (P:Program):Nat->aA (aB IFn)->Prop
 |_,[]=>True
 |i,none::r=>gI P (i+1) r
 |i,some ifn::r=>(∃fn,P.funcs[i]? =some fn/\iT P fn ifn.pure ifn.frz=some ifn)/\gI P (i+1) r
theorem gI.get {P:Program}:∀{l:aA (aB IFn)} {i j:Nat} {ifn:IFn},gI P i l->l[j]? =some (some ifn)->∃fn,P.funcs[i+j]? =some fn/\iT P fn ifn.pure ifn.frz=some ifn
 |[],i,j,ifn,_,h=>by simp at h
 |none::r,i,j,ifn,h,hj=>by
  cases j with
  |zero=>simp at hj
  |succ j=>
   have:=gI.get (l:=r) h (by simpa using hj)
   rwa [show i+1+j=i+(j+1)by omega]at this
 |some x::r,i,j,ifn,h,hj=>by
  cases j with
  |zero=>
   simp at hj
   subst hj
   exact h.1
  |succ j=>
   have:=gI.get (l:=r) h.2 (by simpa using hj)
   rwa [show i+1+j=i+(j+1)by omega]at this
def pF:aA (FuncId×aA AV×AV)->FuncId->aA AV->aB AV
 |[],_,_=>none
 |(f',as,v)::r,f,args=>if f=f'/\Fb (qM 20) args as=true then some v else pF r f args
def nL (P:Program):aA (FuncId×aA AV×AV)->Prop
 |[]=>True
 |(f,as,v)::r=>jG P f as v/\nL P r
theorem Gj {P:Program}:∀{M:aA (FuncId×aA AV×AV)} {f:FuncId} {args:aA AV} {v:AV},nL P M->pF M f args=some v->jG P f args v
 |[],_,_,_,_,h=>by cases h
 |(f',as,v')::r,f,args,v,hM,h=>by
  simp only[pF]at h
  split at h
  rename_i hc
  cases h
  rw[hc.1,pK (qV 20) hc.2]
  exact hM.1
  exact Gj hM.2 h
theorem mI {M:aA (FuncId×aA AV×AV)} {f:FuncId} (h:∀e∈M,e.1≠f) (args:aA AV):pF M f args=none:=by
 induction M with
 |nil=>rfl
 |cons e r ih=>
  obtain⟨f',as,v⟩:=e;simp only[pF];rw[pT2 (fun hc=>h (f',as,v) (by simp) hc.1.symm)];exact ih (fun e he=>h e (by simp[he]))
theorem gI.tab {P:Program} {l:aA (aB IFn)} {M:aA (FuncId×aA AV×AV)} (h:gI P 0 l) (a:nL P M):fL P ⟨fun f=>(l[f]?).join,pF M⟩:=by
 refine⟨fun f ifn hf=>?_,fun f args v b=>Gj a b⟩;have:l[f]? =some (some ifn):=by grind
 have h2:=gI.get h this
 rwa [rP2]at h2
def Ud (P:Program):aA Func->aA (aB IFn)->aA (aB IFn)
 |_,[]=>[]
 |[],_::_=>[]
 |_::fs,none::r=>none::Ud P fs r
 |fn::fs,some x::r=>iT P fn x.pure x.frz::Ud P fs r
theorem gI.of {P:Program}:∀{l:aA (aB IFn)} {fs:aA Func} {i:Nat},P.funcs.toList.drop i=fs->Ud P fs l=l->gI P i l
 |[],_,_,_,_=>trivial
 |o::r,[],i,_,h=>by cases o<;>cases h
 |none::r,f::fs,i,hd,h=>by
  have a:P.funcs.toList.drop (i+1)=fs:=by rw[<-sJ2,hd];rfl
  exact gI.of (l:=r) a (List.cons.inj h).2
 |some x::r,f::fs,i,hd,h=>by
  have a:P.funcs.toList.drop (i+1)=fs:=by rw[<-sJ2,hd];rfl
  have hi:P.funcs[i]? =some f:=by
   rw[<-rO2,<-List.head?_drop,hd];rfl
  exact⟨⟨f,hi,(List.cons.inj h).1⟩,gI.of (l:=r) a (List.cons.inj h).2⟩
theorem xG {P:Program} {T:gH} (b:fL P T) (a:P.follows .mixedOrders=true) {f:FuncId} {fn:IFn} {args:aA AV} {v:AV} {d:Nat} (hf:T f=some fn) (hp:fn.pure=true) (hc:args.all (closed 4)=true)
  (h:runP T (exec T d) f fn args=some v):jG P f args v:=by
 intro g w s n Args e c;exact sR (xF b a d) b hf hc h e c
end Go.Sim
namespace Go.Sim
open Go.RowKit Go.ChangeShapes Go.WideShapes
section
variable {H:Type} {enc:TypeId×Value->H} {P:Program} {W W':World}
theorem Zo {a:Addr} {y:Value} (h:W.cell? a=some y):a.block<W.heap.size:=by
 unfold World.cell? at h;split at h
 grind
 cases h
theorem Jx (hb:Below W.heap.size W W') {a:Addr} {n:Nat} {cs:aA Value} (h:W.cells? 0 a n=some cs):W'.cells? 0 a n=some cs:=by
 unfold World.cells? at h ⊢;simp only[qJ2,qQ2]at h ⊢;exact mapM_mono (fun x y b=>by rw[hb.cell (Zo b)];exact b) h
theorem lL {α β:Type} {f g:α->aB β}:∀{l:aA α} {r:aA β},l.mapM f=some r->(∀x y,x∈l->y∈r->f x=some y->g x=some y)->l.mapM g=some r
 |[],r,h,_=>by simpa using h
 |a::l,r,h,hk=>by
  simp only[sY2,Option.bind_eq_bind,pM2,Option.pure_def,pV2]at h
  obtain⟨b,hb,e,c,rfl⟩:=h
  have h1:=lL c (fun x y d hy=>hk x y (by simp[d]) (by simp[hy]))
  have h2:=hk a b (by simp) (by simp) hb
  simp[sY2,h1,h2]
theorem Aq (hb:Below W.heap.size W W') {held:Bool} {sp:Nat->Bool}:∀(b D:Nat) (t:TypeId) (cs:aA Value) (x:DataW H×aA MemPlace),eK P D t=true->
  DataW.trod enc P W 0 (fun _=>true) held b t cs=some x->(∀q∈x.2,sp q.block=true)->DataW.trod enc P W' 0 sp held b t cs=some x
 |0,_,_,_,_,_,h,_=>by simp[DataW.trod]at h
 |b+1,0,_,_,_,hp,_,_=>by simp[eK]at hp
 |b+1,D+1,t,cs,x,hp,h,hs=>by
  have IH:=Aq hb (held:=held) (sp:=sp) b D
  unfold eK at hp
  split at hp
  .rename_i d
   unfold DataW.trod at h ⊢
   rw[d]at h ⊢
   split at h<;>simp_all
  .rename_i k d
   unfold DataW.trod at h ⊢
   rw[d]at h ⊢
   split at h<;>simp_all
  .rename_i d
   unfold DataW.trod at h ⊢
   rw[d]at h ⊢
   split at h<;>simp_all
  .rename_i e d
   simp only[pN2,bne_iff_ne,ne_eq]at hp
   obtain⟨h0,hp⟩:=hp
   unfold DataW.trod at h ⊢
   rw[d]at h ⊢
   split at h
   all_goals first|(simp_all;done)|skip
   rename_i e' a len cap he
   cases he
   simp only at h ⊢
   split at h
   .rename_i hc
    rw[pW2 hc]
    simp only[pM2,qQ2,pP2]at h
    obtain⟨c,h1,bY,h2,rfl⟩:=h
    simp only[rF2]at hs
    have el:∀(i:Nat) (y:DataW H×aA MemPlace),(y∈c\/y∈bY)->((W.cells? 0 (a.add (i*P.cellsOf e)) (P.cellsOf e)).bind (DataW.trod enc P W 0 (fun _=>true) held b e))=some y->
      ((W'.cells? 0 (a.add (i*P.cellsOf e)) (P.cellsOf e)).bind (DataW.trod enc P W' 0 sp held b e))=some y:=by
     intro i y hy h;simp only[pM2]at h ⊢;obtain⟨row,v,w⟩:=h;refine⟨row,Jx hb v,IH e row y hp w (fun q l=>hs q (Or.inr ?_))⟩;rw[List.mem_flatMap];exact⟨y,by simpa using hy,l⟩
    have m:=lL h1 (g:=fun i=>(W'.cells? 0 (a.add (i*P.cellsOf e)) (P.cellsOf e)).bind (DataW.trod enc P W' 0 sp held b e)) (fun i y _ hy h=>el i y (Or.inl hy) h);have o:=lL h2 (g:=fun j=>(W'.cells? 0 (a.add ((len+j)*P.cellsOf e)) (P.cellsOf e)).bind (DataW.trod enc P W' 0 sp held b e)) (fun i y _ hy h=>el (len+i) y (Or.inr hy) h);rw[m];simp only[pS2];by_cases r:cap=0
    .grind
    .have p:sp a.block=true:=by
      have hlen:c.length+bY.length=cap:=by
       have s:=(kA h1).1;have e2:=(kA h2).1;simp at s e2;omega
      refine hs (.cell a.block (a.off+0)) (Or.inl ?_);unfold MemPlace.row;rw[List.mem_map];refine⟨0,?_,rfl⟩;rw[List.mem_range,hlen];exact Nat.mul_pos (by omega) (by omega)
     rw[pW2 p,o];rfl
   .cases h
  .rename_i fs d
   simp only[pN2]at hp;unfold DataW.trod at h ⊢;rw[d]at h ⊢;split at h
   all_goals first|(simp_all;done)|skip
   rename_i u he;cases he;split at h
   .rename_i hc
    rw[pW2 hc];simp only[pP2]at h ⊢;obtain⟨xs,h1,rfl⟩:=h;refine⟨xs,lL h1 (fun f y hf hy h=>IH f.type _ y ?_ h (fun q l=>hs q ?_)),rfl⟩
    .grind
    .grind
   .cases h
  .rename_i n e d
   simp only[pN2,rM2]at hp;unfold DataW.trod at h ⊢;rw[d]at h ⊢;split at h
   all_goals first|(simp_all;done)|skip
   rename_i n' e' he;cases he;split at h
   .rename_i hc
    rw[pW2 hc];simp only[pP2]at h ⊢;obtain⟨xs,h1,rfl⟩:=h;refine⟨xs,lL h1 (fun i y hi hy h=>IH e _ y hp.2 h (fun q l=>hs q ?_)),rfl⟩;rw[List.mem_flatMap];exact⟨y,hy,l⟩
   .cases h
  .cases hp
theorem rE (hb:Below W.heap.size W W') {held:Bool} {sp:Nat->Bool} {D:Nat}:∀(c:aA TypeId) (vs:aA Value) (a:aA (DataW H)) (ps:aA MemPlace),(c.all fun t=>eK P D t)=true->
  DataW.TrodAll enc P W 0 (fun _=>true) held c vs a ps->(∀q∈ps,sp q.block=true)->DataW.TrodAll enc P W' 0 sp held c vs a ps
 |[],vs,a,ps,_,h,_=>by
  match vs,a,h with
  |[],[],h=>exact h
 |t::c,vs,a,ps,hp,h,hs=>by
  match vs,a,h with
  |v::vs,d::a,h=>
   obtain⟨p,q,⟨b,h1⟩,h2,rfl⟩:=h
   simp only[rR2,pN2]at hp
   exact⟨p,q,⟨b,Aq hb b D t _ _ hp.1 h1 (fun x e=>hs x (by simp[e]))⟩,rE hb c vs a q hp.2 h2 (fun x e=>hs x (by simp[e])),rfl⟩
def jC1 (P:Program) (W:World) (D:Nat) (t:TypeId) (x:AV) (V:Value):Prop:=
 VR (gW W) x V/\∃cs,iS P D t cs/\x=(if cA P t then .agg cs else cs.headD .undef)
theorem jD1 {D a:Nat} {t:TypeId} {V:Value} {x:DataW H×aA MemPlace} (b:(∃cs,V=.agg cs)↔cA P t=true) (j:∀cs,V≠.tuple cs) (hp:eK P D t=true)
  (h:DataW.trod enc P W 0 (fun _=>true) true a t V.cells.toList=some x):∃y,jC1 P W D t y V:=by
 obtain⟨cs,h1,h2,f⟩:=Mn D a t _ x.1 x.2 h hp;by_cases d:cA P t=true;obtain⟨Cs,rfl⟩:=b.2 d;refine⟨.agg cs,.agg (by simpa[Value.cells]using h1.1) (fun i y hy=>f y ?_) (fun i x y k hy=>h1.2 i x y k (by simpa[Value.cells]using hy)),cs,h2,by rw[pW2 d]⟩;simp only[Value.cells];exact pZ2 (by simpa using hy);have g:∀Cs,V≠.agg Cs:=fun Cs e=>d (b.1 ⟨Cs,e⟩);have hc:V.cells=#[V]:=by cases V<;>simp_all[Value.cells]
 rw[hc]at h1;have hl:=h1.1
 match cs,hl,h1,h2 with
 |[c],_,h1,h2=>exact⟨c,h1.head,[c],h2,by rw[pT2 d];rfl⟩
end
end Go.Sim
namespace Go.Sim
open Go.RowKit Go.ChangeShapes Go.WideShapes Go.ChangeAt
section
variable {H:Type} {enc:TypeId×Value->H} {P:Program} {W W':World}
theorem Jy {D:Nat} {t:TypeId} {base:Nat} {V:Value} (hp:eK P D t=true) (a:Value.okWide P W .any base t V):((∃cs,V=.agg cs)↔cA P t=true)/\∀cs,V≠.tuple cs:=by
 cases D with
 |zero=>simp[eK]at hp
 |succ D=>
 unfold eK at hp;unfold Value.okWide at a;unfold cA;split at hp;rename_i b;rw[b]at a ⊢;simp only[Cell.okWide,b]at a;cases V<;>simp_all[Cell.ok];rename_i b;rw[b]at a ⊢;simp only[Cell.okWide,b]at a;cases V<;>simp_all[Cell.ok];rename_i b;rw[b]at a ⊢;simp only[Cell.okWide,b]at a;cases V<;>simp_all[Cell.ok];rename_i b;rw[b]at a ⊢;simp only[Cell.okWide,b]at a;cases V<;>simp_all[Cell.ok]
 grind
 grind
 cases hp
def pG (P:Program) (W:World) (D:Nat):aA TypeId->aA AV->aA Value->Prop
 |[],[],[]=>True
 |t::ts,x::xs,V::Vs=>jC1 P W D t x V/\pG P W D ts xs Vs
 |_,_,_=>False
theorem Mo {D base:Nat}:∀{e:aA TypeId} {vs:aA Value} {c:aA (DataW H)} {ps:aA MemPlace},(e.all fun t=>eK P D t)=true->
  (∀(j:Nat) t v,e[j]? =some t->vs[j]? =some v->Value.okWide P W .any base t v)->
  DataW.TrodAll enc P W 0 (fun _=>true) true e vs c ps->∃xs,pG P W D e xs vs
 |[],vs,c,ps,_,_,h=>by
  match vs,c,h with
  |[],[],h=>exact⟨[],trivial⟩
 |t::e,vs,c,ps,hp,hok,h=>by
  match vs,c,h with
  |v::vs,d::c,h=>
   obtain⟨p,q,⟨g,h1⟩,h2,rfl⟩:=h
   simp only[rR2,pN2]at hp
   obtain⟨k,l⟩:=Jy hp.1 (hok 0 t v rfl rfl)
   obtain⟨x,i⟩:=jD1 k l hp.1 h1
   obtain⟨xs,f⟩:=Mo hp.2 (fun j t v a b=>hok (j+1) t v (by simpa using a) (by simpa using b)) h2
   exact⟨x::xs,i,f⟩
theorem pG.tr {D:Nat}:∀{a:aA TypeId} {xs:aA AV} {vs:aA Value},pG P W D a xs vs->TR (gW W) xs vs
 |[],[],[],_=>.nil _
 |_::_,_::_,_::_,h=>.cons h.1.1 (pG.tr h.2)
theorem uJ {sp:Nat->Bool} {base:Nat} {held:Bool}:∀{b:aA TypeId} {vs:aA Value} {a:aA (DataW H)} {ps:aA MemPlace},DataW.TrodAll enc P W base sp held b vs a ps->a.length=b.length/\vs.length=b.length
 |[],vs,a,ps,h=>by
  match vs,a,h with
  |[],[],h=>exact⟨rfl,rfl⟩
 |t::b,vs,a,ps,h=>by
  match vs,a,h with
  |v::vs,d::a,⟨p,q,h1,h2,_⟩=>
   obtain⟨c,e⟩:=uJ h2
   exact⟨by simp[c],by simp[e]⟩
end
theorem Cp {C:Checked} {f:FuncId} {fn:Func} {s:ChangeSpec} {d fresh g:Bool} {D:Nat} {tb:TypeId} {H:Type} {enc:TypeId×Value->H}
  (i:s.vars=[]) (m:∀k:aA (DataW H),k.length=fn.params.toList.length->s.fn H k={results:=[.lit (.bool true)],args:=k})
  (r:fn.resultTypes=#[tb]) (F:C.prog.underlying tb=some .bool) (c:(fn.params.toList.all fun t=>eK C.prog D t)=true)
  (w:∀(W:World) (xs:aA AV) (args:Array Value),pG C.prog W D fn.params.toList xs args.toList->Calls C.prog f args W fun e W'=>e=.returned (.bool true)/\Below W.heap.size W W')
  (W:World) (base:Nat) (args:Array Value) (k A:aA (DataW H)) (before:aA MemPlace)
  (u:∀(j:Nat) t v,fn.params[j]? =some t->args[j]? =some v->Value.okWide C.prog W .any base t v)
  (J:DataW.Whole enc C.prog fn.params.toList s.vars d W args.toList k A before):
  Calls C.prog f args W fun e W'=>∃v,e=.returned v/\s.post enc C.prog fn d fresh g false W args v W':=by
 have n:=J;obtain⟨p,q,B,y,rfl,K,L⟩:=J
 have E:A=[]/\q=[]:=by
  rw[i]at y
  match A,y with
  |[],y=>exact⟨rfl,y⟩
 obtain⟨rfl,rfl⟩:=E;obtain⟨xs,G⟩:=Mo c (fun j t v a b=>u j t v (by simpa using a) (by simpa using b)) B;refine(w W xs args G).mono fun e W' ⟨he,hb⟩=>?_;subst he;have l:=m k (uJ B).1
 have o:∀x∈p,(decide (x.block<W.heap.size))=true:=fun x z=>by
  have:=n.lt x (by simp[z]);simpa using this
 refine⟨_,rfl,k,[],p++[],[],p,[],n,?_,?_,?_,World.keptBut_mono (fun x z=>⟨z,by simpa using z⟩) (hb.frame (· ∈p++[])),fun h=>by cases h⟩;rw[sP2,l,r];exact trodAll_mk1 (shut_bool F _);rw[sP2,l];exact rE hb _ _ _ _ c B o;rw[sP2,l,i];rfl
end Go.Sim
