import Derived.Test.YtcbmkpbljlaghaaGreatLaA
import Derived.ControlIn
import Derived.LoopNIn
import GoSem.ClaimChange
import Derived.Below
import Derived.DataReads
import Derived.ChangeSame
import Derived.ProofKit
import Derived.OpenShut
/- A text of the proof. -/
set_option linter.unusedVariables false
set_option linter.unusedSimpArgs false
namespace Go.Sim
structure iJ (s s':Hp):Prop where
 wf:Wf s.h s.n->Wf s'.h s'.n
 n:s.n<=s'.n
theorem iJ.refl (s:Hp):iJ s s:=⟨id,wK2 _⟩
theorem iJ.trans {a b c:Hp} (h:iJ a b) (k:iJ b c):iJ a c:=⟨fun w=>k.wf (h.wf w),xJ2 h.n k.n⟩
theorem Ky (out:Out) (s:Hp):iJ s (out.apply s):=by
 constructor;intro hw
 have a:Wf (match out.up with|some (id,ob)=>upd s.h id ob|none=>s.h) s.n:=by
  split;exact hw.upd _ _;exact hw
 simp only[Out.apply];split;exact⟨by simp,a⟩;exact a;simp only[Out.apply];split;simp;exact wK2 _
theorem Fm (s:Hp) (id:Nat) (o:AO):iJ s {h:=upd s.h id o,n:=s.n}:=⟨fun h=>h.upd _ _,wK2 _⟩
section
variable {T:jA} {ex:Nat->Bool->IC->St->Option (Ex×St)}
def oV (ex:Nat->Bool->IC->St->aB (Ex×St)):Prop:=∀lim rd c σ e a,ex lim rd c σ=some (e,a)->iJ σ.s a.s
theorem Pg (b:oV ex) {lim:Nat} {fn:IFn} {args:aA AV} {s s':Hp} {v:AV} (h:body ex lim fn args s=some (v,s')):iJ s s':=by
 unfold body at h;split at h;cases h;rename_i e σ a he;simp only[wM2,xC2]at h;obtain⟨v',_,_,rfl⟩:=h;exact b _ _ _ _ _ _ he;cases h
theorem qG (a:oV ex) {lim:Nat} {f:FuncId} {args:aA AV} {s s':Hp} {v:AV} (h:callF T ex lim f args s=some (v,s')):iJ s s':=by
 unfold callF at h;split at h;cases h;split at h;split at h;simp only[wM2,xC2]at h;obtain⟨_,_,_,rfl⟩:=h;exact .refl _;split at h;split at h;split at h;split at h;cases h;exact .refl _;cases h;cases h;cases h;split at h;simp only[wM2,xC2]at h;obtain⟨_,_,_,rfl⟩:=h;exact .refl _;cases h;exact Pg a h
theorem qH {l:Nat} {s s':Hp} {st:LoopState} {pend:aB IC} (h:endRound l s st pend=some s'):iJ s s':=by
 obtain⟨_,_,_,_,_,_,_,rfl⟩:=nP h;exact Fm _ _ _
theorem Kz (d:oV ex) {lim l:Nat} {args:aA AV} {s s':Hp} {v:AV} (h:round ex lim l args s=some (v,s')):iJ s s':=by
 unfold Sim.round at h;split at h;split at h;split at h;rename_i σ f;have h1:=d _ _ _ _ _ _ f;split at h
 have fin:∀{e:Ex} {τ:St} {id:Nat} {o:AO} {lim:Nat} {rd:Bool} {c:IC} {st:LoopState} {pend:aB IC} {b:AV},ex lim rd c {t:=σ.t,s:={h:=upd σ.s.h id o,n:=σ.s.n}}=some (e,τ)->
   (endRound l τ.s st pend).map (fun s=>(b,s))=some (v,s')->iJ s s':=by
  intro e τ id o lim rd c st pend b hb a;simp only[wM2,xC2]at a;obtain⟨g,a,_,rfl⟩:=a;exact((h1.trans (Fm _ id o)).trans (d _ _ _ _ _ _ hb)).trans (qH a)
 split at h
 grind
 grind
 grind
 cases h;cases h;cases h;cases h;cases h
theorem mN (a:oV ex) {lim:Nat} {k:fC} {xs:aA AV} {s s':Hp} {v:AV} (h:step T ex lim k xs s=some (v,s')):iJ s s':=by
 unfold step at h;split at h;exact qG a h;split at h;unfold callV at h;split at h;exact qG a h;exact Kz a h;cases h;cases h;split at h;cases h;exact Ky _ _;cases h
theorem oW (c:oV ex) {lim:Nat}:∀{os:aA Sim.Op1} {σ a:St},runOps T ex lim os σ=some a->iJ σ.s a.s
 |[],σ,a,h=>by
  simp only[runOps,wP2]at h
  subst h
  exact .refl _
 |o::os,σ,a,h=>by
  simp only[runOps]at h
  split at h
  split at h
  split at h
  rename_i b
  exact(mN c b).trans (oW c h)
  cases h
  cases h
  have:=oW c h
  exact this
theorem xZ {run:Hp->aB (AV×Hp)} (hr:∀s v s',run s=some (v,s')->iJ s s') {a:aA Nat} {xs:aA AV} {s b:Hp} {v:AV} {W:aA Nat} (h:xS run a xs s=some (v,b,W)):iJ s b:=by
 obtain⟨s',w,h1,h2,rfl,_⟩:=oT h;have hg:=hr _ _ _ h1;exact⟨fun hw=>Wf.new (hw.updAll w) (hg.wf (hw.hide a)) hg.n,hg.n⟩
theorem jD (c:oV ex) {lim:Nat} {before:aA Nat}:∀{os:aA Sim.Op1} {j:Nat} {fs:aA Foot} {σ d:St} {a:aA Foot},dX T ex lim before os j fs σ=some (d,a)->iJ σ.s d.s
 |[],j,fs,σ,d,a,h=>by
  simp only[dX,wP2,xC2]at h
  obtain⟨rfl,_⟩:=h
  exact .refl _
 |o::os,j,fs,σ,d,a,h=>by
  simp only[dX]at h
  split at h
  split at h
  split at h
  split at h
  have:=jD c h
  exact this
  cases h
  split at h
  split at h
  rename_i b
  exact(xZ (fun _ _ _=>mN c) b).trans (jD c h)
  cases h
  split at h
  rename_i b
  exact(mN c b).trans (jD c h)
  cases h
  cases h
  have:=jD c h
  exact this
theorem Fo {σ:Hp}:iJ σ {h:=popMark σ.h,n:=σ.n}:=⟨fun h=>h.pop,wK2 _⟩
theorem Au {σ:Hp}:iJ σ {h:=.mark::σ.h,n:=σ.n}:=⟨fun h=>h,wK2 _⟩
theorem Av (T:jA):∀d,oV (exec T d)
 |0,_,_,_,_,_,_,h=>by simp[exec]at h
 |d+1,lim,rd,c,σ,e,σ',h=>by
  have ih:=Av T d
  unfold exec at h
  split at h
  cases h;exact .refl _
  simp only[wM2,xC2]at h
  obtain⟨τ,h,_,rfl⟩:=h
  exact oW ih h
  split at h
  rename_i hf
  split at h
  cases h
  exact jD ih hf
  cases h
  cases h
  split at h
  rename_i a
  exact(ih _ _ _ _ _ _ a).trans (ih _ _ _ _ _ _ h)
  exact ih _ _ _ _ _ _ h
  split at h
  exact ih _ _ _ _ _ _ h
  cases h
  split at h
  rename_i a
  split at h
  cases h;exact ih _ _ _ _ _ _ a
  cases h;exact ih _ _ _ _ _ _ a
  exact ih _ _ _ _ _ _ h
  split at h
  rename_i a
  exact((Au.trans (ih _ _ _ _ _ _ a)).trans Fo).trans (ih _ _ _ _ _ _ h)
  rename_i a
  cases h
  exact(Au.trans (ih _ _ _ _ _ _ a)).trans Fo
  cases h
  split at h
  split at h
  rename_i hc
  have h1:=qG ih hc
  have h2:∀o:AO,iJ σ.s {h:=.ob σ.s.n o::σ.s.h,n:=σ.s.n+1}:=fun o=>⟨fun h=>⟨by simp,h⟩,by simp⟩
  have h3:=(h2 _).trans h1
  split at h
  split at h
  cases h
  split at h
  cases h
  rename_i b
  have h4:=h3.trans (qH b)
  split at h<;>cases h<;>exact h4
  cases h
  cases h
  cases h
  cases h;exact .refl _
  cases h;exact .refl _
end
end Go.Sim
namespace Go.Sim
section
variable {P:Program} {F:Fence} {n:Nat} {b:Frame} {a:Act} {k:List Item} {cs:List Frame} {w:World} {Q:Exit->Act->World->Prop}
theorem jW {c:Code}:Go.step P (lone (b.atR a (.code (.scope c)::k)) cs w)=.next (lone (b.atR a (.code c::.inScope c::k)) cs w):=
 step_lone_go (by simp[stepG,stepG.exec,Frame.atR])
theorem Ee {c:Code}:Go.step P (lone (b.atR a (.inScope c::k)) cs w)=.next (lone (b.atR a k) cs w):=
 step_lone_go (by simp[stepG,stepG.exec,Frame.atR])
theorem Ph {c:Code} (hg:∀l a w,¬Q (.goto l) a w) (h:c.wpIn F n P Q a w):(Code.scope c).wpIn F n P Q a w:=by
 intro b k cs j hb hr;have h0:(lone (b.atR a (.code (.scope c)::k)) cs w).fenced P F:=fenced_calm hb hr rfl;obtain⟨e,g,w₁,f,d⟩:=h b (.inScope c::k) cs j hb hr;cases e with
 |normal=>exact⟨.normal,g,w₁,f,.head h0 jW (StepsIn.trans d (.one (fenced_calm hb hr rfl) Ee))⟩
 |exit id=>
  have m:exitTo id (.inScope c::k)=exitTo id k:=by simp[exitTo]
  exact⟨.exit id,g,w₁,f,fun k' hk=>.head h0 jW (d.1 k' (by rw[m];exact hk)),
   fun i hk=>let⟨o,h1,h2⟩:=d.2 i (by rw[m];exact hk);⟨o,h1,.head h0 jW h2⟩⟩
 |goto l=>exact(hg _ _ _ f).elim
 |ret=>exact⟨_,g,w₁,f,.of_steps (.one h0 jW) d⟩
 |panic ch=>exact⟨_,g,w₁,f,.of_steps (.one h0 jW) d⟩
 |outgrown=>exact⟨_,g,w₁,f,.of_steps (.one h0 jW) d⟩
end
end Go.Sim
namespace Go.Sim
section
variable {T:jA} {L L':Nat->Option AO} {lim n n':Nat} {k:fC} {xs:List AV} {out:Out}
theorem kF {esz:Nat} {x:AV} {r:aA (aA AV)} (h:rowsOf L esz x=some r) (a:∀id ao,id∈idOf x->L id=some ao->L' id=some ao):rowsOf L' esz x=some r:=by
 unfold rowsOf at h;split at h;simpa only[rowsOf]using h;simpa only[rowsOf]using h;simpa only[rowsOf]using h;simpa only[rowsOf]using h;split at h;rename_i hl;simp only[rowsOf,a _ _ (by simp[idOf]) hl];exact h;cases h;cases h
theorem Hq {x:AV} {r:aA (AV×AV)} (h:entsOf L x=some r) (a:∀id ao,id∈idOf x->L id=some ao->L' id=some ao):entsOf L' x=some r:=by
 unfold entsOf at h;split at h;exact h;split at h;rename_i hl;simp only[entsOf,a _ _ (by simp[idOf]) hl];exact h;cases h;exact h;cases h
theorem Aw {ty:TypeId} {esz:Nat} {s:AV} {new:aA (aA AV)} {o:Out} (h:appendTo L lim n ty esz s new=some o) (a:∀id ao,id∈idOf s->L id=some ao->L' id=some ao):appendTo L' lim n ty esz s new=some o:=by
 unfold appendTo at h;split at h;simpa only[appendTo]using h;simpa only[appendTo]using h;simpa only[appendTo]using h;split at h;rename_i hl;simp only[appendTo,a _ _ (by simp[idOf]) hl];exact h;cases h;cases h
theorem Ef {esz:Nat} {lo hi mx:Bool} {x:AV} {g:aA AV} {v:AV} (h:sliceOp L esz lo hi mx (x::g)=some v) (k:∀id ao,id∈idOf x->L id=some ao->L' id=some ao):sliceOp L' esz lo hi mx (x::g)=some v:=by
 have key:∀(L:Nat->aB AO),(∀a b c d e f,x≠.sl a b c d e f)->sliceOp L esz lo hi mx (x::g)=sliceOp L' esz lo hi mx (x::g):=by
  intro L j;cases x<;>first|rfl|exact absurd rfl (j _ _ _ _ _ _)|(rename_i y;cases y<;>first|rfl|(rename_i a b c;cases a<;>cases b<;>cases c<;>rfl))
 by_cases j:∃a b c d e f,x=.sl a b c d e f;obtain⟨z,id,ver,off,len,cap,rfl⟩:=j;cases hl:L id with
 |none=>
  exfalso;simp only[sliceOp,hl]at h;split at h<;>cases h
 |some ao=>
  have i:=k id ao (by simp[idOf]) hl;simp only[sliceOp,hl]at h;simp only[sliceOp,i];exact h
 grind
theorem Vm {ty:TypeId} {esz b:Nat} {zero:aA Value} {zeros:Bool} {s x:AV} (h:doOp L lim n (.append ty esz b zero zeros) [s,x]=some out) (e:∀id ao,id∈idOf x->L id=some ao->L' id=some ao) (hs:∀id ao,id∈idOf s->L id=some ao->L' id=some ao):
  doOp L' lim n (.append ty esz b zero zeros) [s,x]=some out:=by
 simp only[doOp]at h ⊢;split at h;rename_i new a
 have c:appRows L' esz zeros zero x=some new:=by
  cases zeros;simp only[appRows,wU2,xQ2]at a ⊢;exact kF a e;simp only[appRows,xM2]at a ⊢;exact a
 split at h;rename_i o d;simp only[c,Aw d hs];exact h;cases h;cases h
theorem Pi (h:doOp L lim n k xs=some out) (b:∀id ao,id∈(foot T k xs).rd\/id∈(foot T k xs).wr->L id=some ao->L' id=some ao):doOp L' lim n k xs=some out:=by
 unfold doOp at h;split at h
 all_goals first|(simp only[doOp];exact h)|skip
 ·
  split at h
  .simpa only[doOp]using h
  .split at h
   .rename_i hl
    simp only[doOp,b _ _ (.inl (by simp[foot,idOf])) hl];exact h
   .cases h
  .cases h
 ·
  split at h
  .simpa only[doOp]using h
  .split at h
   .rename_i hl
    simp only[doOp,b _ _ (.inl (by simp[foot,idOf])) hl];exact h
   .cases h
  .cases h
 ·
  split at h
  .rename_i hc
   split at h
   .rename_i hl
    simp only[doOp,hc,b _ _ (.inr (by simp[foot,idOf])) hl];exact h
   .cases h
  .cases h
 ·
  split at h
  .rename_i hr
   simp only[doOp,kF hr (fun id ao a=>b id ao (.inl a))];exact h
  .cases h
 ·
  rename_i x;simp only[wM2]at h;obtain⟨v,hv,rfl⟩:=h;cases xs with
  |nil=>simp[sliceOp]at hv
  |cons x bs=>simp only[doOp,Ef hv (fun id ao a=>b id ao (.inl a)),xP2]
 ·
  split at h
  .rename_i c
   split at h
   .rename_i es he
    simp only[doOp,c,xM2,Hq he (fun id ao a=>b id ao (.inl a))];exact h
   .cases h
  .cases h
 ·
  split at h
  .split at h
   .rename_i hl
    simp only[doOp,b _ _ (.inr (by simp[foot,idOf])) hl];exact h
   .cases h
  .cases h
 ·
  split at h
  all_goals first|(simp only[doOp];exact h)|skip
  .split at h
   .rename_i hl
    simp only[doOp,b _ _ (.inl (by simp[foot,idOf])) hl];exact h
   .cases h
 .exact Vm h (fun id ao a=>b id ao (.inl a)) (fun id ao a=>b id ao (.inr a))
 ·
  split at h
  .rename_i rows hr
   split at h
   .simp only[doOp,kF hr (fun id ao a=>b id ao (.inl a))]
    exact h
   .simp only[doOp,kF hr (fun id ao a=>b id ao (.inl a))]
    exact h
   .split at h
    .rename_i hl
     simp only[doOp,kF hr (fun id ao a=>b id ao (.inl a)),b _ _ (.inr (by simp[foot,idOf])) hl];exact h
    .cases h
   .cases h
  .cases h
 ·
  split at h
  .simpa only[doOp]using h
  .simpa only[doOp]using h
  .split at h
   .rename_i hl
    simp only[doOp,b _ _ (.inr (by simp[foot,idOf])) hl];exact h
   .cases h
  .cases h
theorem La {ty:TypeId} {esz:Nat} {s:AV} {new:aA (aA AV)} {o:Out} {id:Nat} {ao:AO} (h:appendTo L lim n ty esz s new=some o) (a:o.up=some (id,ao)):id∈idOf s/\(L id).isSome=true:=by
 unfold appendTo at h;split at h
 .grind
 .grind
 .grind
 .split at h
  .rename_i hl
   repeat' split at h
   all_goals cases h
   all_goals cases a
   all_goals exact⟨by simp[idOf],by rw[hl];rfl⟩
  .cases h
 .cases h
theorem Pj {ty:TypeId} {esz:Nat} {s:AV} {new:aA (aA AV)} {o:Out} (h:appendTo L lim n ty esz s new=some o) (a:o.new=none):appendTo L lim n' ty esz s new=some o:=by
 unfold appendTo at h;split at h;split at h;rename_i hc;cases h;simp only[appendTo,hc,xM2];cases h;cases a;split at h;rename_i hc;cases h;simp only[appendTo,hc,xM2];cases h;cases a;simpa only[appendTo]using h;split at h;rename_i hl;simp only[appendTo,hl];split at h
 grind
 cases h;cases h;cases h
theorem Si {ty:TypeId} {esz b:Nat} {zero:aA Value} {zeros:Bool} {s x:AV} (h:doOp L lim n (.append ty esz b zero zeros) [s,x]=some out):
  ∃new,appRows L esz zeros zero x=some new/\appendTo L lim n ty esz s new=some out/\∀n',appendTo L lim n' ty esz s new=some out->doOp L lim n' (.append ty esz b zero zeros) [s,x]=some out:=by
 simp only[doOp]at h;split at h;rename_i new a;split at h;rename_i o c;have:o=out:=by grind
 subst this;refine⟨new,a,c,fun n' h'=>?_⟩;simp only[doOp,a,h'];exact h;cases h;cases h
theorem uL {id:Nat} {ao:AO} (h:doOp L lim n k xs=some out) (c:out.up=some (id,ao)):id∈(foot T k xs).wr/\(L id).isSome=true:=by
 have a:∀ty esz b zero zeros s x,k=.append ty esz b zero zeros->xs=[s,x]->id∈(foot T k xs).wr/\(L id).isSome=true:=by
  rintro ty esz b zero zeros s x rfl rfl;obtain⟨new,h1,h2,_⟩:=Si h;exact La h2 c
 unfold doOp at h;split at h
 all_goals first|exact a _ _ _ _ _ _ _ rfl rfl|skip
 all_goals clear a
 all_goals (repeat' split at h)
 all_goals first
  |(cases h;done)
  |(simp only[wM2]at h;obtain⟨_,_,rfl⟩:=h;cases c;done)
  |(cases h;cases c;done)
  |(have hl:= ‹L _=some _›;cases h;cases c;exact⟨by simp[foot,idOf],by rw[hl];rfl⟩)
theorem qW1 (h:doOp L lim n k xs=some out) (c:out.new=none):doOp L lim n' k xs=some out:=by
 have a:∀ty esz b zero zeros s x,k=.append ty esz b zero zeros->xs=[s,x]->doOp L lim n' k xs=some out:=by
  rintro ty esz b zero zeros s x rfl rfl;obtain⟨new,h1,h2,h3⟩:=Si h;exact h3 n' (Pj h2 c)
 unfold doOp at h;split at h
 all_goals first|exact a _ _ _ _ _ _ _ rfl rfl|skip
 all_goals clear a
 all_goals first|(simp only[doOp];exact h)|skip
 all_goals (repeat' split at h)
 all_goals first
  |(cases h;done)
  |(simp only[wM2]at h;obtain⟨_,_,rfl⟩:=h;cases c;done)
  |(cases h;cases c;done)
end
end Go.Sim
namespace Go.Sim
theorem sU {acc:aA Nat} {i:Nat}:∀{es:aA Edge},(nL acc es).testBit i=true->∃e∈es,Region.binds .any e=true/\(i=e.on\/(acc.getD e.on 0).testBit i=true)
 |[],h=>by simp[nL]at h
 |e::es,h=>by
  simp only[nL]at h
  split at h
  rename_i hb
  simp only[Nat.testBit_or,wY2]at h
  rcases h with(h|h)|h
  grind
  grind
  obtain⟨e',h1,h2⟩:=sU h
  exact⟨e',by simp[h1],h2⟩
  obtain⟨e',h1,h2⟩:=sU h
  exact⟨e',by simp[h1],h2⟩
theorem qI:∀(os:aA Oper) (acc:aA Nat),∃tail,cP acc os=acc++tail/\tail.length=os.length/\
  ∀k o,os[k]? =some o->(cP acc os).getD (acc.length+k) 0=nL ((cP acc os).take (acc.length+k)) o.after.toList
 |[],acc=>⟨[],by simp[cP],rfl,fun k o h=>by simp at h⟩
 |o::os,acc=>by
  obtain⟨tail,h1,h2,h3⟩:=qI os (acc++[nL acc o.after.toList])
  refine⟨nL acc o.after.toList::tail,by simp[cP,h1],by simp[h2],fun k o' hk=>?_⟩
  cases k with
  |zero=>
   simp only[yQ2,wP2]at hk
   subst hk
   simp only[cP,h1,zD2]
   simp
  |succ k=>
   have:=h3 k o' (by simpa using hk)
   have e:(acc++[nL acc o.after.toList]).length+k=acc.length+(k+1):=by simp;omega
   rw[e]at this
   exact this
theorem qJ {ops:aA Oper} (a:∀j o,ops[j]? =some o->∀e∈o.after.toList,Region.binds .any e=true->e.on<j) {D:Nat->Prop}
  (m:∀i oi,D i->ops[i]? =some oi->∀e∈oi.after.toList,Region.binds .any e=true->D e.on):∀(j:Nat) (o:Oper),ops[j]? =some o->(∀e∈o.after.toList,Region.binds .any e=true->D e.on)->
   ∀i,((cP [] ops).getD j 0).testBit i=true->D i:=by
 intro j
 induction j using Nat.strongRecOn with
 |_ j ih=>
  intro o h he i hi;obtain⟨tail,h1,h2,h3⟩:=qI ops [];have h4:=h3 j o h;simp only[wW2,yP2]at h4;rw[h4]at hi;obtain⟨e,h5,f,c⟩:=sU hi;rcases c with rfl|c;exact he e h5 f;have g:=a j o h e h5 f;have n:j<ops.length:=(wI2.1 h).1;have k:((cP [] ops).take j).getD e.on 0=(cP [] ops).getD e.on 0:=by grind
  rw[k]at c;have b:ops[e.on]? =some ops[e.on]:=by simp
  exact ih e.on g _ b (fun e' l d=>m e.on _ (he e h5 f) b e' l d) i c
theorem yA {j:Nat} {o:Sim.Op1} {a:Nat}:∀{ps:aA Sim.Op1} {b:Nat},Hc j o a ps b=true->∀k p,ps[k]? =some p->b+k<j->
  a.testBit (b+k)=true\/((∀d,p.dst=some d->o.dst≠some d/\d∉o.reads)/\∀d,o.dst=some d->d∉p.reads)
 |[],b,h,k,p,hk,_=>by simp at hk
 |q::ps,b,h,k,p,hk,hlt=>by
  simp only[Hc,wL2,wY2,wS2]at h
  obtain⟨h1,h2⟩:=h
  cases k with
  |zero=>
   simp only[yQ2,wP2]at hk
   subst hk
   rw[zD2]at hlt ⊢
   rcases h1 with(h1|h1)|h1
   omega
   exact .inl h1
   grind
  |succ k=>
   have:=yA h2 k p (by simpa using hk) (by omega)
   have e:b+1+k=b+(k+1):=by omega
   rwa [e]at this
def gX (ft:Nat->Foot):Nat->aA Foot
 |0=>[]
 |j+1=>ft j::gX ft j
theorem mO {ft ft':Nat->Foot}:∀{j:Nat},(∀i,i<j->ft i=ft' i)->gX ft j=gX ft' j
 |0,_=>rfl
 |j+1,h=>by rw[gX,gX,h j (by omega),mO (fun i hi=>h i (by omega))]
theorem revF_length (ft:Nat->Foot):∀j,(gX ft j).length=j
 |0=>rfl
 |j+1=>by simp[gX,revF_length ft j]
section
variable (T:jA) (ex:Nat->Bool->IC->St->Option (Ex×St))
def Pk (lim a m j:Nat) (o:Sim.Op1) (ft:Nat->Foot) (st:Nat->St) (v:Nat->AV):Prop:=
  (st (j+1)).t=put (st j).t o.dst (v j)/\
  ((wanted (st j).t o.guard=false/\v j=.undef/\ft j={}/\(st (j+1)).s=(st j).s)\/
   (wanted (st j).t o.guard=true/\∃xs,evs (st j).t o.xs=some xs/\(foot T o.k xs).all=1/\ft j=foot T o.k xs/\(st (j+1)).s=(st j).s/\
     ∃b,step T ex lim o.k xs {h:=hide (unseen a j (gX ft j)) (st j).s.h,n:=(st j).s.n+rsv (m-j)}=some (v j,b))\/
   (wanted (st j).t o.guard=true/\∃xs,evs (st j).t o.xs=some xs/\((foot T o.k xs).all≠1/\(foot T o.k xs).all≠3)/\ft j={foot T o.k xs with al:=List.range' (st j).s.n ((st (j+1)).s.n-(st j).s.n)}/\
     step T ex lim o.k xs (st j).s=some (v j,(st (j+1)).s))\/
   (wanted (st j).t o.guard=true/\∃xs W,evs (st j).t o.xs=some xs/\(foot T o.k xs).all=3/\ft j={wr:=W,al:=List.range' (st j).s.n ((st (j+1)).s.n-(st j).s.n),all:=1}/\
     xS (step T ex lim o.k xs) (unseen a j (gX ft j)) xs (st j).s=some (v j,(st (j+1)).s,W)))
variable {T ex}
theorem Pk.congr {lim a m j:Nat} {o:Sim.Op1} {ft ft':Nat->Foot} {st st':Nat->St} {v v':Nat->AV} (h:Pk T ex lim a m j o ft st v) (hf:∀i,i<=j->ft' i=ft i) (h1:st' j=st j) (h2:st' (j+1)=st (j+1)) (h3:v' j=v j):
  Pk T ex lim a m j o ft' st' v':=by
 unfold Pk at *;rw[h1,h2,h3,hf j (wK2 _),mO (ft:=ft') (ft':=ft) (j:=j) (fun i hi=>hf i (by omega))];exact h
theorem Lb {lim:Nat} {before:aA Nat}:∀(os:aA Sim.Op1) (j:Nat) (σ:St) (a:Nat->Foot) (n:St) (b:aA Foot),dX T ex lim before os j (gX a j) σ=some (n,b)->
  ∃(st:Nat->St) (ft:Nat->Foot) (v:Nat->AV),(∀i,i<j->ft i=a i)/\st j=σ/\st (j+os.length)=n/\b=gX ft (j+os.length)/\
   ∀k o,os[k]? =some o->Pk T ex lim (before.getD (j+k) 0) (j+os.length) (j+k) o ft st v
 |[],j,σ,a,n,b,h=>by
  simp only[dX,wP2,xC2]at h
  obtain⟨rfl,rfl⟩:=h
  exact⟨fun _=>σ,a,fun _=>.undef,fun _ _=>rfl,rfl,rfl,rfl,fun k o h=>by simp at h⟩
 |o::os,j,σ,a,n,b,h=>by
  have cU:∀(s:St) (f:Foot) (x:AV),dX T ex lim before os (j+1) (f::gX a j) s=some (n,b)->
    (∀(st:Nat->St) (ft:Nat->Foot) (v:Nat->AV),st j=σ->st (j+1)=s->ft j=f->(∀i,i<j->ft i=a i)->v j=x->Pk T ex lim (before.getD j 0) (j+(os.length+1)) j o ft st v)->
    ∃(st:Nat->St) (ft:Nat->Foot) (v:Nat->AV),(∀i,i<j->ft i=a i)/\st j=σ/\st (j+(o::os).length)=n/\b=gX ft (j+(o::os).length)/\
     ∀k o',(o::os)[k]? =some o'->Pk T ex lim (before.getD (j+k) 0) (j+(o::os).length) (j+k) o' ft st v:=by
   intro s f x hr hs;let l:Nat->Foot:=fun i=>if i=j then f else a i
   have r:f::gX a j=gX l (j+1):=by
    have h1:l j=f:=wO2 rfl;rw[gX,h1,mO (ft:=l) (ft':=a) (fun i hi=>wN2 (by omega))]
   rw[r]at hr;obtain⟨st,ft,v,h1,h2,h3,h4,h5⟩:=Lb os (j+1) s l n b hr;have p:∀i,i<j->ft i=a i:=fun i hi=>(h1 i (by omega)).trans (wN2 (by omega));have q:ft j=f:=(h1 j (by omega)).trans (wO2 rfl);have hlen:j+(o::os).length=j+1+os.length:=by simp;omega
   refine⟨fun i=>if i=j then σ else st i,ft,fun i=>if i=j then x else v i,p,wO2 rfl,?_,?_,?_⟩
   grind
   rw[hlen];exact h4;intro k o' hk;cases k with
   |zero=>
    simp only[yQ2,wP2]at hk;subst hk;exact hs _ ft _ (wO2 rfl) ((wN2 (by omega)).trans h2) q p (wO2 rfl)
   |succ k=>
    have u:=h5 k o' (by simpa using hk);have e:j+1+k=j+(k+1):=by omega
    rw[e,<-hlen]at u;exact u.congr (fun _ _=>rfl) (wN2 (by omega)) (wN2 (by omega)) (wN2 (by omega))
  simp only[dX]at h;split at h;rename_i hw;split at h;rename_i xs m;split at h;rename_i d;split at h;rename_i v t g;refine cU _ _ v h (fun st ft v' a1 a2 a3 a4 a5=>?_);unfold Pk;rw[a1,a2,a5,a3,mO a4];refine⟨rfl,.inr (.inl ⟨hw,xs,m,d,rfl,rfl,t,?_⟩)⟩;have e:j+(os.length+1)-j=os.length+1:=by omega
  rw[e];exact g;cases h;rename_i d;split at h;rename_i c;split at h;rename_i v t W g;refine cU _ _ v h (fun st ft v' a1 a2 a3 a4 a5=>?_);unfold Pk;rw[a1,a2,a5,a3,mO a4];exact⟨rfl,.inr (.inr (.inr ⟨hw,xs,W,m,c,rfl,g⟩))⟩;cases h;rename_i c;split at h;rename_i v t g;refine cU _ _ v h (fun st ft v' a1 a2 a3 a4 a5=>?_);unfold Pk;rw[a1,a2,a5,a3];exact⟨rfl,.inr (.inr (.inl ⟨hw,xs,m,⟨d,c⟩,rfl,g⟩))⟩;cases h;cases h;rename_i hw;refine cU _ _ .undef h (fun st ft v' a1 a2 a3 a4 a5=>?_);unfold Pk;rw[a1,a2,a5,a3];exact⟨rfl,.inl ⟨by simpa using hw,rfl,rfl,rfl⟩⟩
theorem qK {a:Nat} {f:Foot} {ft:Nat->Foot}:∀{j:Nat},drawOK.okAgainst a f (gX ft j) j=true->∀i,i<j->a.testBit i=true\/compat (ft i) f=true
 |0,_,i,hi=>by omega
 |j+1,h,i,hi=>by
  simp only[gX,drawOK.okAgainst,zN2,wL2,wY2]at h
  by_cases e:i=j
  subst e;exact h.1
  exact qK h.2 i (by omega)
theorem yB {before:aA Nat} {ft:Nat->Foot}:∀{m:Nat},drawOK before (gX ft m) m=true->∀j,j<m->∀i,i<j->(before.getD j 0).testBit i=true\/compat (ft i) (ft j)=true
 |0,_,j,hj=>by omega
 |m+1,h,j,hj=>by
  simp only[gX,drawOK,zN2,wL2]at h
  intro i hi
  by_cases e:j=m
  subst e;exact qK h.1 i hi
  exact yB h.2 j (by omega) i hi
end
end Go.Sim
namespace Go.Sim
section
variable {P:Program} {T:jA} {lim n:Nat} {g:Gh} {w:World} {r:Option Nat}
def Pm (P:Program) (T:jA) (ex:Nat->Bool->IC->St->aB (Ex×St)):Prop:=
 ∀(lim:Nat) (ops:Array Oper) (ios:aA Sim.Op1) (σ b:St) (fs:aA Foot) (id:Nat),mapO (kC P ops.toList) ops.toList=some ios->Yx ops.toList ios (cP [] ops.toList)=true->
  dX T ex lim (cP [] ops.toList) ios 0 [] σ=some (b,fs)->drawOK (cP [] ops.toList) fs fs.length=true->
  ∀(r:aB Nat) (g:Gh) (a:Act) (w:World) (n base:Nat),TR g σ.t a.tmps.toList->jZ P g w σ.s->lim<=σ.s.n->base<=w.heap.size->hY base g w a.defers->
   (Code.region id ops true).wpIn (FW r) n P (Ao P base lim g w σ.s .normal b) a w
theorem xV.trans {base:Nat} {s s' c:Hp} {t e:aA AV} {g' b:Gh} {a' a:Act} {w' d:World} (h:xV P base lim g w s t s' g' a' w') (k:xV P base lim g' w' s' e c b a d):
  xV P base lim g w s e c b a d:=⟨k.t,k.inv,h.ext.trans k.ext,xJ2 h.n k.n,k.marks⟩
theorem jZ.pop {s:Hp} (h:jZ P g w s):jZ P g w {h:=popMark s.h,n:=s.n}:=
 ⟨fun id ao a=>h.H id ao (Kv h.wf a),h.W,h.dom,h.wf.pop⟩
theorem jZ.mark {s:Hp} (h:jZ P g w s):jZ P g w {h:=.mark::s.h,n:=s.n}:=⟨h.H,h.W,h.dom,h.wf⟩
theorem Fp {base:Nat} {s s':Hp} {t:aA AV} {g':Gh} {e:Ex} {d:St} {e':Exit} {a' a:Act} {w' b:World} (f:xV P base lim g w s t s' g' a' w') (h:Ao P base lim g' w' s' e d e' a b):Ao P base lim g w s e d e' a b:=by
 obtain⟨h1,c,h2⟩:=h;exact⟨h1,c,f.trans h2⟩
theorem aL {D:Nat} (c:∀d,d<D->nO P (exec T d)) {x:Code} {f:IC} (l:comp P x=some f) {rd:Bool} {r:aB Nat} (hr:rd=r.isSome) {e:Ex} {m:St}:
  ∀(d:Nat),d<=D->∀(σ:St) (g:Gh) (a:Act) (w:World) (n base:Nat) (Q:Exit->Act->World->Prop),exec T d lim rd (.loop f) σ=some (e,m)->nC r w->TR g σ.t a.tmps.toList->jZ P g w σ.s->lim<=σ.s.n->base<=w.heap.size->hY base g w a.defers->
   (∀e' a' w',Ao P base lim g w σ.s e m e' a' w'->Q e' a' w')->Code.roundsIn (FW r) n P x Q d a w
 |0,_,σ,g,a,w,n,base,Q,h,_,_,_,_,_,_,_=>by simp[exec]at h
 |d+1,hd,σ,g,a,w,n,base,Q,h,hra,ht,hI,hl,hb,hm,hQ=>by
  simp only[exec]at h
  rw[roundsIn_succ]
  split at h
  rename_i τ j
  refine wpIn_mono (c d (by omega) lim rd f _ .normal τ j x l r hr g a w n base hra ht hI.mark hl hb hm) ?_
  rintro o a1 w1 ⟨rfl,i,b⟩
  refine aL c l hr d (by omega) _ i a1 w1 n base Q h (hra.ext b.ext) b.t b.inv.pop (xJ2 hl b.n) (xJ2 hb b.ext.size) b.marks ?_
  intro e2 a2 w2 h2
  exact hQ _ _ _ (Fp (s':={h:=popMark τ.s.h,n:=τ.s.n}) ⟨b.t,b.inv.pop,b.ext,b.n,b.marks⟩ h2)
  rename_i p τ k j
  cases h
  refine wpIn_mono (c d (by omega) lim rd f _ e τ j x l r hr g a w n base hra ht hI.mark hl hb hm) ?_
  rintro o a1 w1 ⟨rfl,i,b⟩
  cases e with
  |normal=>exact(k rfl).elim
  |ret=>exact hQ _ _ _ ⟨rfl,i,b.t,b.inv.pop,b.ext,b.n,b.marks⟩
  |exit id=>exact hQ _ _ _ ⟨rfl,i,b.t,b.inv.pop,b.ext,b.n,b.marks⟩
  cases h
theorem jZ.other {s:Hp} (a:jZ P g w s) (o:Obj):jZ P g (w.alloc o) s/\pZ lim g g w (w.alloc o):=by
 have c:∀b o',g.G b=some o'->b<w.heap.size:=fun b o' h=>(xI2.1 (a.W.still b o' h)).1
 refine⟨⟨fun id ao d=>(a.H id ao d).mono (.refl g) rfl (fun loc hl=>cX w o (a.W.lt id loc hl)),⟨fun b o' h=>?_,fun id loc h=>?_,a.W.out,a.W.inj⟩,a.dom,a.wf⟩,
  ⟨.refl g,by simp,fun b hb _=>cX w o hb,fun id loc h=>.inl ⟨loc,h,rfl⟩,fun _ _=>rfl,rfl,rfl,rfl,fun _ _ h=>.inl h,fun b R h=>⟨R,(cX w o (xI2.1 h).1).trans h⟩⟩⟩
 rw[cX w o (c b o' h)];exact a.W.still b o' h;have:=a.W.lt id loc h;simp;omega
theorem hY.fresh {base:Nat}:∀{a:aA Deferred},hY base g w a->∀d∈a,d.target≠.collected w.heap.size
 |[],_,d,hd=>by simp at hd
 |d0::a,⟨⟨r,h1,h2,h3,_,_,_⟩,h7⟩,d,hd=>by
  rcases xF2.1 hd with rfl|hd
  grind
  exact hY.fresh h7 d hd
theorem Lc {b:Nat} {R:Loop} (hb:w.heap[b]? =some (.loop R)) (hr:R.state≠.busy):(Instr.endLoop b).run P w=.ok R.pending {w with heap:=w.heap.setIfInBounds b (.loop {R with state:=.exhausted})}:=by
 simp[Instr.endLoop,lE hb,qE hb,hr]
def qX1:aB IC->aB Ex
 |none=>some .normal
 |some .ret=>some .ret
 |some (.exit id)=>some (.exit id)
 |_=>none
theorem Ax {ex:Nat->Bool->IC->St->aB (Ex×St)} (b8:nO P ex) (hT:iB P T) {f:Operand} {of:IX} {ps:Array Tmp} {x y:Code} {cx cy:IC} (hf:Dz f=some of) (Z:comp P x=some cx) (hy:comp P y=some cy)
  {σ:St} {K:FuncId} {first cap:aA AV} (b7:of.ev σ.t=some (.fn (.func K) first cap)) {v:AV} {s:Hp}
  (c:callF T ex lim K (first++[.fn (.yield σ.s.n) [] []]++cap) {h:=.ob σ.s.n (.loop .ready none σ.t ps.toList cx cy)::σ.s.h,n:=σ.s.n+1}=some (v,s))
  {st:LoopState} {pend:aB IC} {tm:aA AV} {pm:aA Nat} {as bd:IC} (hL:look s.h σ.s.n=some (.loop st pend tm pm as bd)) (d3:st≠.busy) {s':Hp} (U:endRound σ.s.n s .exhausted pend=some s')
  {e:Ex} (he:qX1 pend=some e)
  {a:Act} {base:Nat} (ht:TR g σ.t a.tmps.toList) (hI:jZ P g w σ.s) (hl:lim<=σ.s.n) {w1:World} {mark:aA Deferred} {D:Nat} (z:jZ P g w1 σ.s) (u:pZ lim g g w w1) (Y:hY base g w1 (mark++a.defers))
  (m:∀d,(Instr.enterLoop d a.tmps ps x y (FW r).round).run P w=.ok (w1.heap.size,mark) (w1.alloc (.loop {state:=.ready,pending:=none,fn:=d,tmps:=a.tmps,params:=ps,assign:=x,body:=y,defers:=D}))):
  (Code.rangeFunc f ps x y).wpIn (FW r) n P (Ao P base lim g w σ.s e {t:=σ.t,s:=s'}) a w:=by
 refine wpIn_rangeFunc (fun d _=>?_);have X:=Ho ht hf b7;generalize hV:a.eval f=V at X;cases X with
 |@fn _ _ _ _ F C l1 l2 v1 v2=>
  have k:∃ifn,T K=some ifn:=by
   unfold callF at c;split at c;cases c
   grind
  obtain⟨ifn,k⟩:=k;obtain⟨fn,b9,b6⟩:=hT.fns K ifn k;obtain⟨⟨cd,B⟩,J⟩:=xY b6;have o:¬fn.name= "runtime.NumGoroutine":=by simpa using J
  let R:Loop:={state:=.ready,pending:=none,fn:=d,tmps:=a.tmps,params:=ps,assign:=x,body:=y,defers:=D}
  let w2:=w1.alloc (.loop R)
  have hn:g.ι σ.s.n=none:=by
   cases h:g.ι σ.s.n with
   |none=>rfl
   |some l=>have:=hI.dom σ.s.n (by rw[h];simp);omega
  let loc:Ea:={b:=w1.heap.size,esz:=1,ct:=1,ver:=0}
  obtain⟨j,b5⟩:=Ry (lim:=lim) z.W (.loop R) σ.s.n loc rfl hn hl;let g2:Gh:={G:=g.G,ι:=fun id=>if id=σ.s.n then some loc else g.ι id}
  have E:g2.ι σ.s.n=some loc:=wO2 rfl
  have b0:jZ P g2 w2 {h:=.ob σ.s.n (.loop .ready none σ.t ps.toList cx cy)::σ.s.h,n:=σ.s.n+1}:=by
   refine⟨fun id ao ha=>?_,b5,fun id h=>?_,⟨by simp,hI.wf⟩⟩;simp only[look]at ha;split at ha;rename_i e;subst e;cases ha;refine⟨loc,R,E,rfl,?_,rfl,rfl,ht.mono (u.le.trans j.le),by simp[R],Z,hy⟩;show w2.heap[w1.heap.size]? =_
   exact heap_alloc_new w1 _;rename_i e;refine(z.H id ao ha).mono j.le ?_ (fun l hl=>cX w1 _ (z.W.lt id l hl));show(if id=σ.s.n then some loc else g.ι id)=g.ι id
   rw[wN2 (fun h=>e h.symm)];show id<σ.s.n+1
   by_cases e:id=σ.s.n;omega
   have h:g.ι id≠none:=by
    have:g2.ι id=g.ι id:=wN2 e
    rwa [this]at h
   have:=hI.dom id h;omega
  have hF:TR g first F.toList:=⟨by simpa using l1,fun i x y Z hy=>v1 i x y Z (by simpa using hy)⟩
  have hC:TR g cap C.toList:=⟨by simpa using l2,fun i x y Z hy=>v2 i x y Z (by simpa using hy)⟩
  have q:g.le g2:=u.le.trans j.le
  have A:TR g2 (first++[.fn (.yield σ.s.n) [] []]++cap) (F++#[Value.func (.yield w1.heap.size) #[] #[]]++C).toList:=by
   have:=((hF.mono q).app (.cons (VR.yield (l:=σ.s.n) (b:=w1.heap.size) E (fun _=>rfl)) (.nil g2))).app (hC.mono q);simpa using this
  have d2:hY base g2 w2 (mark++a.defers):=Y.ext j;refine⟨w1.heap.size,mark,w2,{target:=.fn (.func K) C,args:=F++#[Value.func (.yield w1.heap.size) #[] #[]]},w2,K,F++#[Value.func (.yield w1.heap.size) #[] #[]]++C,w2,m d,?_,fun _ _=>trivial,?_,fun h=>(by cases h),?_⟩;have S:a.eval (.const (.func (.yield w1.heap.size) #[] #[]))=.func (.yield w1.heap.size) #[] #[]:=rfl;simp[resolve,rangeCall,hV,Deferred.ofValue,S];simp[invoke,callFunc,b9,o,B];refine CallsIn.mono (An (uF b8 hT c A b0 (by show lim<=σ.s.n+1;omega))) ?_;rintro e' w' ⟨V',M,rfl,k1,k2,k3,k4⟩;obtain⟨a0,R3,m1,m2,m3,m4,m5,m6,m7,m8,m9⟩:=qD k2 hL
  have d1:a0=loc:=by
   obtain⟨loc',q1,q2,q3⟩:=k3.le.ι σ.s.n loc E;rw[m1]at q1;cases q1;exact q3 m2.symm
  subst d1;obtain⟨_,_,_,_,_,_,O,rfl⟩:=nP U;rw[hL]at O;cases O;obtain⟨b4,N⟩:=Ar (lim:=lim) (st':=.exhausted) (pend':=pend) (R':={R3 with state:=.exhausted}) k2 hL hl m1 m3 rfl m5 rfl rfl rfl rfl;refine⟨_,_,Lc m3 (by rw[m4];exact d3),?_⟩;have p:pZ lim g M w {w' with heap:=w'.heap.setIfInBounds loc.b (.loop {R3 with state:=.exhausted})}:=((u.trans j).trans k3).trans N
  have L:xV P base lim g w σ.s σ.t {h:=upd s.h σ.s.n (.loop .exhausted pend tm pm as bd),n:=s.n} M {a with defers:=mark++a.defers} {w' with heap:=w'.heap.setIfInBounds loc.b (.loop {R3 with state:=.exhausted})}:=
   ⟨ht.mono p.le,b4,p,by have:σ.s.n+1<=s.n:=k4;show σ.s.n<=s.n;omega,(d2.ext k3).ext N⟩
  unfold qX1 at he;split at he;cases he;have:R3.pending=none:=m5;rw[this]at L ⊢;exact⟨rfl,M,L⟩;cases he;have:R3.pending=some .ret:=m5;rw[this]at L ⊢;exact wpIn_ret ⟨rfl,M,L⟩;cases he;have:R3.pending=some (.exit _):=m5;rw[this]at L ⊢;exact wpIn_exit ⟨rfl,M,L⟩;cases he
theorem Ay {ex:Nat->Bool->IC->St->aB (Ex×St)} (m:nO P ex) (K:iB P T) {f:Operand} {of:IX} {ps:Array Tmp} {x y:Code} {E F:IC} (hf:Dz f=some of) (M:comp P x=some E) (hy:comp P y=some F)
  {σ:St} {H:FuncId} {first cap:aA AV} (k:of.ev σ.t=some (.fn (.func H) first cap)) {v:AV} {s:Hp}
  (c:callF T ex lim H (first++[.fn (.yield σ.s.n) [] []]++cap) {h:=.ob σ.s.n (.loop .ready none σ.t ps.toList E F)::σ.s.h,n:=σ.s.n+1}=some (v,s))
  {st:LoopState} {pend:aB IC} {R:aA AV} {O:aA Nat} {as N:IC} (J:look s.h σ.s.n=some (.loop st pend R O as N)) (p:st≠.busy) {s':Hp} (d:endRound σ.s.n s .exhausted pend=some s')
  {e:Ex} (he:qX1 pend=some e)
  {a:Act} {base:Nat} (C:nC r w) (L:TR g σ.t a.tmps.toList) (i:jZ P g w σ.s) (hl:lim<=σ.s.n) (hb:base<=w.heap.size) (A:hY base g w a.defers):
  (Code.rangeFunc f ps x y).wpIn (FW r) n P (Ao P base lim g w σ.s e {t:=σ.t,s:=s'}) a w:=by
 cases r with
 |none=>
  obtain⟨u,j⟩:=i.other (lim:=lim) (.deferred (some []))
  have B:hY base g (w.alloc (.deferred (some []))) ([{target:=.collected w.heap.size,args:=#[]}]++a.defers):=by
   refine⟨⟨w.heap.size,rfl,hb,heap_alloc_new w _,fun id l h=>?_,?_,A.fresh⟩,A.ext j⟩;have:=i.W.lt id l h;omega;cases hG:g.G w.heap.size with
   |none=>rfl
   |some o=>
    have:=(xI2.1 (i.W.still _ o hG)).1;omega
  refine Ax (D:=w.heap.size) m K hf M hy k c J p d he L i hl u j B (fun q=>?_);simp only[FW,Instr.enterLoop];simp[newObj,Sem.run]
 |some b=>
  obtain⟨R0,z⟩:=C b rfl;refine Ax (w1:=w) (mark:=[]) (D:=R0.defers) m K hf M hy k c J p d he L i hl i (.refl lim g w) A (fun q=>?_);simp only[FW,Instr.enterLoop];simp[lE z,newObj];simp[Sem.run]
theorem Ld (K:iB P T) (Y:∀d,nO P (exec T d)->Pm P T (exec T d)):∀D d,d<D->nO P (exec T d)
 |0,d,h=>by omega
 |D+1,d,hdD=>by
  have z:=Ld K Y D
  by_cases W:d<D
  exact z d W
  have V:d=D:=by omega
  subst V
  cases d with
  |zero=>exact fun lim rd c σ e F h=>by simp[exec]at h
  |succ d=>
  have ih:=z d (by omega)
  intro lim rd c σ e F h code hc r hr g a w n base b j m hl hb o
  cases code with
  |skip=>
   simp only[comp,wP2]at hc
   subst hc
   simp only[exec,wP2,xC2]at h
   obtain⟨rfl,rfl⟩:=h
   exact wpIn_skip ⟨rfl,g,j,m,.refl lim g w,wK2 _,o⟩
  |region id ops dr=>
   simp only[comp]at hc
   split at hc
   cases hc
   rename_i ios G
   split at hc
   rename_i A
   split at hc
   rename_i O
   cases hc
   subst A
   simp only[exec]at h
   split at h
   rename_i τ fs hf
   split at h
   rename_i M
   cases h
   exact Y d ih lim ops ios σ F fs id G O hf M r g a w n base j m hl hb o
   cases h
   cases h
   cases hc
   rename_i A
   cases hc
   have A:dr=false:=by simpa using A
   subst A
   simp only[exec,wM2,xC2]at h
   obtain⟨τ,h,rfl,rfl⟩:=h
   refine wpIn_region ?_
   rw[List.range_eq_range',<-aA3]
   exact wL ih K ops.toList ios 0 σ τ g w a G (by simp) h j m hl o (fun g' a' w' k=>⟨rfl,g',k⟩)
  |seq x y=>
   simp only[comp]at hc
   split at hc
   rename_i u R p hy
   cases hc
   simp only[exec]at h
   refine wpIn_seq ?_
   split at h
   rename_i τ L
   refine wpIn_mono (ih lim rd u σ .normal τ L x p r hr g a w n base b j m hl hb o) ?_
   rintro S a1 w1 ⟨rfl,E,k⟩
   refine wpIn_mono (ih lim rd R τ e F h y hy r hr E a1 w1 n base (b.ext k.ext) k.t k.inv (xJ2 hl k.n) (xJ2 hb k.ext.size) k.marks) ?_
   intro e2 a2 w2 h2
   exact Fp k h2
   rename_i H
   refine wpIn_mono (ih lim rd u σ e F h x p r hr g a w n base b j m hl hb o) ?_
   rintro S a1 w1 ⟨rfl,E,k⟩
   cases e with
   |normal=>exact absurd h (H _)
   |ret=>exact⟨rfl,E,k⟩
   |exit id=>exact⟨rfl,E,k⟩
   cases hc
  |cond c x y=>
   simp only[comp]at hc
   split at hc
   rename_i oc u R N p hy
   cases hc
   simp only[exec]at h
   split at h
   rename_i t C
   have hv:=(Ho j N C).bool
   refine wpIn_cond hv ?_
   cases t
   exact ih lim rd R σ e F h y hy r hr g a w n base b j m hl hb o
   exact ih lim rd u σ e F h x p r hr g a w n base b j m hl hb o
   cases h
   cases hc
  |block id x=>
   simp only[comp,wM2]at hc
   obtain⟨u,p,rfl⟩:=hc
   simp only[exec]at h
   refine wpIn_block ?_
   split at h
   rename_i i τ L
   refine wpIn_mono (ih lim rd u σ (.exit i) τ L x p r hr g a w n base b j m hl hb o) ?_
   rintro S a1 w1 ⟨rfl,E,k⟩
   simp only[Ex.toExit,Exit.inBlock]
   split at h
   rename_i hi
   cases h
   rw[wO2 hi]
   exact⟨rfl,E,k⟩
   rename_i hi
   cases h
   rw[wN2 hi]
   exact⟨rfl,E,k⟩
   rename_i H
   refine wpIn_mono (ih lim rd u σ e F h x p r hr g a w n base b j m hl hb o) ?_
   rintro S a1 w1 ⟨rfl,E,k⟩
   cases e with
   |normal=>exact⟨rfl,E,k⟩
   |ret=>exact⟨rfl,E,k⟩
   |exit id=>exact absurd h (H _ _)
  |loop x=>
   simp only[comp,wM2]at hc
   obtain⟨u,p,rfl⟩:=hc
   exact wpIn_loop_rounds (d+1) (aL (D:=d+1) z p hr (d+1) (wK2 _) σ g a w n base _ h b j m hl hb o (fun _ _ _ h=>h))
  |rangeFunc f ps x y=>
   simp only[comp]at hc
   split at hc
   rename_i of u R N p hy
   cases hc
   simp only[exec]at h
   split at h
   rename_i gf first cap C
   split at h
   rename_i v s q
   split at h
   rename_i st pend tm pm as Z U
   split at h
   cases h
   rename_i J
   split at h
   cases h
   rename_i s' B
   split at h
   cases h
   exact Ay ih K N p hy C q U J B rfl b j m hl hb o
   cases h
   exact Ay ih K N p hy C q U J B rfl b j m hl hb o
   cases h
   exact Ay ih K N p hy C q U J B rfl b j m hl hb o
   cases h
   cases h
   cases h
   cases h
   cases hc
  |exit id=>
   simp only[comp,wP2]at hc
   subst hc
   simp only[exec,wP2,xC2]at h
   obtain⟨rfl,rfl⟩:=h
   exact wpIn_exit ⟨rfl,g,j,m,.refl lim g w,wK2 _,o⟩
  |ret=>
   simp only[comp,wP2]at hc
   subst hc
   simp only[exec,wP2,xC2]at h
   obtain⟨rfl,rfl⟩:=h
   exact wpIn_ret ⟨rfl,g,j,m,.refl lim g w,wK2 _,o⟩
  |scope x=>
   simp only[comp,wM2]at hc
   obtain⟨u,p,rfl⟩:=hc
   simp only[exec]at h
   refine Ph (fun l a w X=>by obtain⟨X,_⟩:=X;cases e<;>cases X) ?_
   split at h
   rename_i τ L
   have:e=.normal/\F=τ:=by
    cases d with
    |zero=>simp[exec]at h
    |succ d=>simp only[exec,wP2,xC2]at h;exact⟨h.1.symm,h.2.symm⟩
   obtain⟨rfl,rfl⟩:=this;exact ih lim rd u σ .normal _ L x p r hr g a w n base b j m hl hb o;exact ih lim rd u σ e F h x p r hr g a w n base b j m hl hb o
  |label l=>
   simp only[comp,wP2]at hc;subst hc;simp only[exec,wP2,xC2]at h;obtain⟨rfl,rfl⟩:=h;exact wpIn_label ⟨rfl,g,j,m,.refl lim g w,wK2 _,o⟩
  |_=>simp[comp]at hc
theorem hA1 (b:iB P T) (a:∀d,nO P (exec T d)->Pm P T (exec T d)) (d:Nat):nO P (exec T d):=Ld b a (d+1) d (by omega)
end
end Go.Sim
namespace Go.Sim
theorem Sj (T:jA) (k:fC) (xs:aA AV):(foot T k xs).al=[]:=by
 unfold foot;split<;>rfl
theorem uM (T:jA) (k:fC) (xs:aA AV):(foot T k xs).all<=3/\((foot T k xs).all≠0->(foot T k xs).rd=[]/\(foot T k xs).wr=[]):=by
 unfold foot
 split<;>first
  |exact⟨by simp,fun h=>absurd rfl h⟩
  |(refine⟨?_,fun _=>⟨rfl,rfl⟩⟩;(repeat' split)<;>simp_all)
theorem rN {T:jA} {k:fC} {xs:aA AV} (h:(foot T k xs).all=0):(∀f,k≠.callF f)/\k≠.callV:=by
 constructor;rintro f rfl;simp only[foot]at h;split at h
 grind
 cases h;rintro rfl;cases xs with
 |nil=>simp[foot]at h
 |cons x xs=>
  simp only[foot]at h;split at h
  grind
  cases h
theorem sW {T:jA} {ex:Nat->Bool->IC->St->aB (Ex×St)} {lim:Nat} {k:fC} {xs:aA AV} {s s':Hp} {v:AV} (h:step T ex lim k xs s=some (v,s')) (h0:(foot T k xs).all=0):
  ∃out,doOp (look s.h) lim s.n k xs=some out/\v=out.v/\s'=out.apply s:=by
 obtain⟨h1,h2⟩:=rN h0;unfold step at h;split at h
 grind
 exact absurd rfl h2
 grind
theorem Az {out:Out} {s:Hp} (a:∀i ob,out.up=some (i,ob)->(look s.h i).isSome=true) (id:Nat):look (out.apply s).h id=out.after (look s.h) s.n id:=by
 have hb:look (match out.up with|some (i,ob)=>upd s.h i ob|none=>s.h) id=out.base (look s.h) id:=by
  unfold Out.base;cases hu:out.up with
  |none=>rfl
  |some p=>
   obtain⟨i,ob⟩:=p;simp only[look_upd];have:=a i ob hu;by_cases e:id=i;subst e;simp[this];simp[e]
 unfold Out.apply Out.after;cases hn:out.new with
 |none=>exact hb
 |some ob=>
  simp only[look];by_cases e:s.n=id
  grind
  grind
theorem rO (out:Out) (s:Hp):(out.apply s).n=if out.new.isSome then s.n+1 else s.n:=by
 unfold Out.apply;cases out.new<;>rfl
theorem jE {f:Foot} (h:f.isE=true):f.rd=[]/\f.wr=[]/\f.al=[]/\f.all=0:=by
 simp only[Foot.isE,wL2,List.isEmpty_iff]at h;exact⟨h.1.1.1,h.1.1.2,h.1.2,xB2 h.2⟩
theorem Hr {f:Foot} {id:Nat} (h:id∈f.rd\/id∈f.wr):f.isE=false:=by
 cases hE:f.isE with
 |false=>rfl
 |true=>obtain⟨a,b,_⟩:=jE hE;rw[a,b]at h;simp at h
theorem yZ {f:Foot} {id:Nat} (h:id∈f.al):f.isE=false:=by
 cases hE:f.isE with
 |false=>rfl
 |true=>obtain⟨_,_,c,_⟩:=jE hE;rw[c]at h;simp at h
theorem qL {f:Foot} (h:f.all≠0):f.isE=false:=by
 cases hE:f.isE with
 |false=>rfl
 |true=>exact absurd (jE hE).2.2.2 h
theorem hB1 {i j:Foot} (h:i.all+j.all<=1\/i.isE=true\/j.isE=true) (a:j.isE=false):i.all<=1:=by
 rcases h with h|h|h;omega;have:=(jE h).2.2.2;omega
 grind
theorem Fq {i j:Foot} (h:i.all+j.all<=1\/i.isE=true\/j.isE=true) (hi:i.isE=false):j.all<=1:=by
 rcases h with h|h|h;omega
 grind
 have:=(jE h).2.2.2;omega
theorem iK {i j:Foot} (h:compat0 i j=true):compat i j=true:=by simp[compat,h]
theorem eB {i j:Foot} (h:compat i j=true):(i.all+j.all<=1\/i.isE=true\/j.isE=true)/\(∀x∈i.wr,x∉j.rd/\x∉j.wr)/\(∀x∈j.wr,x∉i.rd)/\(∀x∈i.al,x∉j.rd/\x∉j.wr)/\(i.all=0\/j.wr=[])/\(j.all=0\/i.wr=[]):=by
 simp only[compat,wY2]at h;rcases h with(h|h)|h;obtain⟨a,b,c,d⟩:=jE h;rw[a,b,c,d];exact⟨.inr (.inl h),fun x e=>by simp at e,fun x _ e=>by simp at e,fun x e=>by simp at e,.inl rfl,.inr rfl⟩;obtain⟨a,b,c,d⟩:=jE h;rw[a,b,d];exact⟨.inr (.inr h),fun x _=>⟨fun e=>by simp at e,fun e=>by simp at e⟩,fun x e=>by simp at e,fun x _=>⟨fun e=>by simp at e,fun e=>by simp at e⟩,.inr rfl,.inl rfl⟩;simp only[compat0,wL2,wS2,wR2,xG2,wY2,yI2,List.isEmpty_iff,xU2,xT2]at h;obtain⟨⟨⟨⟨⟨h1,h2⟩,h3⟩,h4⟩,h5⟩,f⟩:=h;exact⟨.inl h1,h2,h3,h4,h5,f⟩
theorem oX {a:Nat} {ft:Nat->Foot} {id:Nat}:∀{j:Nat},∀i,i<j->a.testBit i=false->id∈(ft i).al->id∈unseen a j (gX ft j)
 |0,i,hi,_,_=>by omega
 |j+1,i,hi,hm,hid=>by
  simp only[gX,unseen,zN2,xV2]
  by_cases e:i=j
  grind
  exact .inr (oX i (by omega) hm hid)
theorem Fs {l l':aA AV}:∀{xs:aA IX},(∀t,.t t∈xs->l[t]? =l'[t]?)->evs l xs=evs l' xs
 |[],_=>rfl
 |x::xs,h=>by
  have h1:x.ev l=x.ev l':=by
   cases x with
   |t i=>exact h i (by simp)
   |c v=>rfl
  simp only[evs,h1,Fs (xs:=xs) (fun t a=>h t (by simp[a]))]
theorem Ht {l l':aA AV} {a:aB (Nat×Bool)} (h:∀i b,a=some (i,b)->l[i]? =l'[i]?):wanted l a=wanted l' a:=by
 cases a with
 |none=>rfl
 |some p=>
  obtain⟨i,b⟩:=p;simp only[Sim.wanted,h i b rfl]
theorem Ba (l:aA AV) (d:aB Nat) (v:AV):(put l d v).length=l.length:=by
 cases d<;>simp[put]
theorem sX {l:aA AV} {d:aB Nat} {v:AV} {t:Nat} (h:d≠some t):(put l d v)[t]? =l[t]? :=by
 cases d with
 |none=>rfl
 |some i=>simp only[put,xH2];rw[wN2 (fun e=>h (by rw[e]))]
theorem aD1 {l:aA AV} {d a:aB Nat} {v v':AV} (h:∀t,d=some t->a≠some t):put (put l d v) a v'=put (put l a v') d v:=by
 cases d with
 |none=>rfl
 |some i=>
  cases a with
  |none=>rfl
  |some j=>exact List.set_comm _ _ (fun e=>h i rfl (by rw[e]))
structure tV (P:Program) (T:jA) (ex:Nat->Bool->IC->St->Option (Ex×St)) (lim:Nat) (ops:Array Oper) (ios:List Sim.Op1) (st:Nat->St) (ft:Nat->Foot) (v:Nat->AV):Prop where
 comp:mapO (kC P ops.toList) ops.toList=some ios
 back:∀j o,ops.toList[j]? =some o->∀e∈o.after.toList,Region.binds .any e=true->e.on<j
 tmps:∀j o,ios[j]? =some o->∀i p,i<j->ios[i]? =some p->((cP [] ops.toList).getD j 0).testBit i=true\/((∀d,p.dst=some d->o.dst≠some d/\d∉o.reads)/\∀d,o.dst=some d->d∉p.reads)
 step:∀j o,ios[j]? =some o->Pk T ex lim ((cP [] ops.toList).getD j 0) ios.length j o ft st v
 com:∀j,j<ios.length->∀i,i<j->((cP [] ops.toList).getD j 0).testBit i=true\/compat (ft i) (ft j)=true
 gr:oV ex
 wf0:Wf (st 0).s.h (st 0).s.n
def wD (ft:Nat->Foot) (j id:Nat):Bool:=(ft j).all==2||(ft j).wr.contains id||(ft j).al.contains id
theorem qY1 {ft:Nat->Foot} {j id:Nat} (h:(ft j).isE=true):wD ft j id=false:=by
 obtain⟨_,b,c,d⟩:=jE h;simp[wD,b,c,d]
def gY (st:Nat->St) (ft:Nat->Foot) (S:Nat->Bool):Nat->Nat->aB AO
 |0,id=>look (st 0).s.h id
 |j+1,id=>if S j&&wD ft j id then look (st (j+1)).s.h id else gY st ft S j id
def oB (ios:aA Sim.Op1) (j:Nat):aB Nat:=(ios[j]?).bind (·.dst)
def tl (ios:aA Sim.Op1) (st:Nat->St) (v:Nat->AV) (S:Nat->Bool):Nat->aA AV
 |0=>(st 0).t
 |j+1=>if S j then put (tl ios st v S j) (oB ios j) (v j)else tl ios st v S j
section
variable {P:Program} {T:jA} {ex:Nat->Bool->IC->St->Option (Ex×St)} {lim:Nat} {ops:Array Oper} {ios:List Sim.Op1} {st:Nat->St} {ft:Nat->Foot} {v:Nat->AV}
theorem tV.get (R:tV P T ex lim ops ios st ft v) {j:Nat} (h:j<ios.length):∃io o,ios[j]? =some io/\ops.toList[j]? =some o/\kC P ops.toList o=some io:=by
 obtain⟨h1,h2⟩:=dK R.comp;obtain⟨o,h3,h4⟩:=h2 j ios[j] (by simp[h]);exact⟨ios[j],o,by simp[h],h3,h4⟩
theorem tV.size (R:tV P T ex lim ops ios st ft v):ios.length=ops.size:=by
 obtain⟨h1,h2⟩:=dK R.comp;simpa using h1
theorem tV.grows (R:tV P T ex lim ops ios st ft v) {j:Nat} (h:j<ios.length):iJ (st j).s (st (j+1)).s:=by
 obtain⟨io,o,h1,_,_⟩:=R.get h;obtain⟨_,h2⟩:=R.step j io h1;rcases h2 with⟨_,_,_,h3⟩|⟨_,xs,_,_,_,h3,_⟩|⟨_,xs,_,_,_,h3⟩|⟨_,xs,W,_,_,_,h3⟩
 rw[h3];exact .refl _;rw[h3];exact .refl _;exact mN R.gr h3;exact xZ (fun _ _ _=>mN R.gr) h3
theorem tV.mono (R:tV P T ex lim ops ios st ft v) {i:Nat}:∀{j:Nat},i<=j->j<=ios.length->(st i).s.n<=(st j).s.n
  | 0, h, _ => by have:i=0:=by omega
                  subst this;exact wK2 _
  |j+1,h,hm=>by
    by_cases e:i=j+1
    grind
    exact xJ2 (R.mono (i:=i) (j:=j) (by omega) (by omega)) (R.grows (by omega)).n
theorem tV.wf (R:tV P T ex lim ops ios st ft v):∀{j:Nat},j<=ios.length->Wf (st j).s.h (st j).s.n
 |0,_=>R.wf0
 |j+1,h=>(R.grows (by omega)).wf (R.wf (by omega))
theorem tV.al (R:tV P T ex lim ops ios st ft v) {j id:Nat} (h:j<ios.length):id∈(ft j).al↔(st j).s.n<=id/\id<(st (j+1)).s.n:=by
 obtain⟨io,o,h1,_,_⟩:=R.get h;obtain⟨_,h2⟩:=R.step j io h1;rcases h2 with⟨_,_,h4,h3⟩|⟨_,xs,_,_,h4,h3,_⟩|⟨_,xs,_,h5,h4,h3⟩|⟨_,xs,W,_,h5,h4,h3⟩
 rw[h4,h3];simp;rw[h4,h3,Sj];simp
 grind
 grind
theorem tV.all (R:tV P T ex lim ops ios st ft v) {j:Nat} (h:j<ios.length):(ft j).all<=2:=by
 obtain⟨io,o,h1,_,_⟩:=R.get h;obtain⟨_,h2⟩:=R.step j io h1;rcases h2 with⟨_,_,h4,h3⟩|⟨_,xs,_,h5,h4,h3,_⟩|⟨_,xs,_,h5,h4,h3⟩|⟨_,xs,W,_,h5,h4,h3⟩
 rw[h4];simp;rw[h4];omega;rw[h4];have:=(uM T io.k xs).1;have:=h5.2;simp only;omega;rw[h4];simp
theorem tV.keep (R:tV P T ex lim ops ios st ft v) {j id:Nat} (h:j<ios.length) (b:wD ft j id=false):look (st (j+1)).s.h id=look (st j).s.h id:=by
 obtain⟨io,o,h1,_,_⟩:=R.get h;obtain⟨_,h2⟩:=R.step j io h1;rcases h2 with⟨_,_,h4,h3⟩|⟨_,xs,_,_,h4,h3,_⟩|⟨_,xs,_,h5,h4,h3⟩|⟨_,xs,W,_,h5,h4,h3⟩
 rw[h3];rw[h3];have x:=(uM T io.k xs).1;simp only[wD,yV2,zH2,ne_eq,xU2,xT2]at b;have c:=b.2;rw[R.al h]at c;rw[h4]at b;have h0:(foot T io.k xs).all=0:=by grind
 obtain⟨out,m,_,hs⟩:=sW h3 h0;rw[hs,Az (fun i ob d=>(uL (T:=T) m d).2)];have f:=rO out (st j).s;rw[<-hs]at f;unfold Out.after Out.base;cases hnew:out.new with
 |none=>
  simp only;cases d:out.up with
  |none=>rfl
  |some p=>
   obtain⟨i,ob⟩:=p;have:=(uL (T:=T) m d).1;simp only;rw[wN2 (fun e=>b.1.2 (by rw[e];exact this))]
 |some ob'=>
  rw[hnew]at f;simp only[zM2,xM2]at f;simp only;rw[wN2 (by omega)];cases d:out.up with
  |none=>rfl
  |some p=>
   obtain⟨i,ob⟩:=p;have:=(uL (T:=T) m d).1;simp only;rw[wN2 (fun e=>b.1.2 (by rw[e];exact this))]
 simp only[wD,h4,yV2,zH2,ne_eq,xU2,xT2,List.mem_range'_1]at b;obtain⟨⟨_,hw⟩,c⟩:=b;obtain⟨s',w,y,z,t,u,_⟩:=oT h3;have f:=(R.grows h).n;have q:=R.wf (j:=j+1) (by omega);by_cases l:id<(st j).s.n;rw[t];simp only;rw[xX l,qC];rw[<-u];exact hw;have g:(st (j+1)).s.n<=id:=by omega
 have a:∀{h:aA gP} {n:Nat},Wf h n->n<=id->look h id=none:=fun hw r=>by
  cases hl:look _ id with
  |none=>rfl
  |some o=>have:=hw.lt hl;omega
 rw[a q g,a (R.wf (j:=j) (by omega)) (by omega)]
theorem Bb (R:tV P T ex lim ops ios st ft v) {S:Nat->Bool} {id:Nat}:∀{j:Nat},j<=ios.length->(∀i,i<j->wD ft i id=true->S i=true)->gY st ft S j id=look (st j).s.h id
 |0,_,_=>rfl
 |j+1,hm,h=>by
  simp only[gY]
  cases ht:wD ft j id with
  |true=>simp[h j (by omega) ht]
  |false=>
   simp only[Bool.and_false,wU2,xQ2]
   rw[Bb R (by omega) (fun i hi=>h i (by omega)),R.keep (by omega) ht]
theorem yC {S:Nat->Bool} {id j:Nat}:∀{m:Nat},j<=m->(∀i,j<=i->i<m->S i=true->wD ft i id=false)->gY st ft S m id=gY st ft S j id
  | 0, hj, _ => by have:j=0:=by omega
                   subst this;rfl
  |m+1,hj,h=>by
    by_cases e:j=m+1
    subst e;rfl
    simp only[gY]
    have h1:¬((S m&&wD ft m id)=true):=by grind
    rw[wN2 h1]
    exact yC (by omega) (fun i hi a=>h i hi (by omega))
theorem oH1 {S S':Nat->Bool} {id j:Nat} {ao:AO} (a:∀i,j<i->S' i=S i) (h0:gY st ft S' (j+1) id=some ao->gY st ft S (j+1) id=some ao):∀{m:Nat},j<m->gY st ft S' m id=some ao->gY st ft S m id=some ao
 |0,hj,_=>by omega
 |m+1,hj,h=>by
  by_cases e:j=m
  subst e;exact h0 h
  simp only[gY]at h ⊢
  rw[a m (by omega)]at h
  split at h
  grind
  rename_i hc;rw[wN2 hc];exact oH1 a h0 (by omega) h
theorem Bc {S S':Nat->Bool} {id:Nat}:∀{j:Nat},(∀i,i<j->S' i=S i)->gY st ft S' j id=gY st ft S j id
 |0,_=>rfl
 |j+1,h=>by simp only[gY,h j (by omega),Bc (j:=j) (fun i hi=>h i (by omega))]
theorem wM (R:tV P T ex lim ops ios st ft v) {S:Nat->Bool}:∀{j:Nat},j<=ios.length->(tl ios st v S j).length=(st j).t.length
 |0,_=>rfl
 |j+1,h=>by
  obtain⟨io,o,h1,_,_⟩:=R.get (j:=j) (by omega)
  rw[(R.step j io h1).1,Ba]
  simp only[tl]
  split
  rw[Ba];exact wM R (by omega)
  exact wM R (by omega)
theorem tlA (R:tV P T ex lim ops ios st ft v) {S:Nat->Bool} {t:Nat}:∀{j:Nat},j<=ios.length->(∀i,i<j->oB ios i=some t->S i=true)->(tl ios st v S j)[t]? =(st j).t[t]?
 |0,_,_=>rfl
 |j+1,hm,h=>by
  obtain⟨io,o,h1,_,_⟩:=R.get (j:=j) (by omega)
  have a:=(R.step j io h1).1
  have hd:oB ios j=io.dst:=by simp[oB,h1]
  have ih:=tlA R (S:=S) (t:=t) (j:=j) (by omega) (fun i hi=>h i (by omega))
  have hl:=wM R (S:=S) (j:=j) (by omega)
  simp only[tl,a]
  by_cases e:io.dst=some t
  rw[h j (by omega) (hd.trans e)]
  simp only[xM2,hd,e,put,xH2,hl]
  rw[sX e]
  split
  rw[hd,sX e];exact ih
  exact ih
theorem tlB {S:Nat->Bool} {t j:Nat}:∀{m:Nat},j<=m->(∀i,j<=i->i<m->S i=true->oB ios i≠some t)->(tl ios st v S m)[t]? =(tl ios st v S j)[t]?
  | 0, hj, _ => by have:j=0:=by omega
                   subst this;rfl
  |m+1,hj,h=>by
    by_cases e:j=m+1
    subst e;rfl
    simp only[tl]
    split
    rename_i hs
    rw[sX (h m (by omega) (by omega) hs)]
    exact tlB (by omega) (fun i hi a=>h i hi (by omega))
    exact tlB (by omega) (fun i hi a=>h i hi (by omega))
theorem Le {S S':Nat->Bool}:∀{j:Nat},(∀i,i<j->S' i=S i)->tl ios st v S' j=tl ios st v S j
 |0,_=>rfl
 |j+1,h=>by simp only[tl,h j (by omega),Le (j:=j) (fun i hi=>h i (by omega))]
theorem tlC {S S':Nat->Bool} {j:Nat} (b:∀i,i<j->S' i=S i) (a:∀i,j<i->S' i=S i) (h1:S j=false) (h2:S' j=true):∀{m:Nat},j<m->(∀i,j<i->i<m->S i=true->∀t,oB ios j=some t->oB ios i≠some t)->
  tl ios st v S' m=put (tl ios st v S m) (oB ios j) (v j)
 |0,hj,_=>by omega
 |m+1,hj,h=>by
  by_cases e:j=m
  subst e
  simp only[tl,h1,h2,xM2,wU2,xQ2,Le b]
  have ih:=tlC b a h1 h2 (m:=m) (by omega) (fun i hi c=>h i hi (by omega))
  simp only[tl,a m (by omega),ih]
  split
  rename_i hs
  exact aD1 (h m (by omega) (by omega) hs)
  rfl
end
end Go.Sim
namespace Go.Sim
section
variable {P:Program} {T:jA} {ex:Nat->Bool->IC->St->Option (Ex×St)} {lim:Nat} {ops:Array Oper} {ios:List Sim.Op1} {st:Nat->St} {ft:Nat->Foot} {v:Nat->AV} {S S':Nat->Bool}
structure hD1 (P:Program) (ops:Array Oper) (ios:List Sim.Op1) (st:Nat->St) (ft:Nat->Foot) (v:Nat->AV) (lim base:Nat) (g0:Gh) (w0:World) (S:Nat->Bool) (g:Gh) (a:Act) (w:World):Prop where
 ext:pZ lim g0 g w0 w
 W:WG g w
 H:HR P g (gY st ft S ios.length) w
 dom:∀id,g.ι id≠none->id<(st 0).s.n\/∃i,i<ios.length/\S i=true/\id∈(ft i).al
 t:TR g (tl ios st v S ios.length) a.tmps.toList
 marks:hY base g w a.defers
 closed:∀i oi,S i=true->ops.toList[i]? =some oi->∀e∈oi.after.toList,Region.binds .any e=true->S e.on=true
structure Rdy (ops:Array Oper) (ios:List Sim.Op1) (S:Nat->Bool) (j:Nat) (o:Oper) (io:Sim.Op1):Prop where
 hop:ops.toList[j]? =some o
 hio:ios[j]? =some io
 c:j<ios.length
 no:S j=false
 edges:∀e∈o.after.toList,Region.binds .any e=true->S e.on=true
theorem Bd (R:tV P T ex lim ops ios st ft v) {j:Nat} {o:Oper} {io:Sim.Op1} (hr:Rdy ops ios S j o io)
  (a:∀i oi,S i=true->ops.toList[i]? =some oi->∀e∈oi.after.toList,Region.binds .any e=true->S e.on=true) {i:Nat} (hi:i<j):
  S i=true\/(((cP [] ops.toList).getD j 0).testBit i=false/\compat (ft i) (ft j)=true/\∀p,ios[i]? =some p->(∀d,p.dst=some d->io.dst≠some d/\d∉io.reads)/\∀d,io.dst=some d->d∉p.reads):=by
 cases hb:((cP [] ops.toList).getD j 0).testBit i with
 |true=>exact .inl (qJ R.back (D:=fun i=>S i=true) a j o hr.hop hr.edges i hb)
 |false=>
  refine .inr ⟨rfl,(R.com j hr.c i hi).resolve_left (by rw[hb];simp),fun p hp=>?_⟩;exact(R.tmps j io hr.hio i p hi hp).resolve_left (by rw[hb];simp)
theorem Hu (R:tV P T ex lim ops ios st ft v) {j:Nat} {o:Oper} {io:Sim.Op1} (hr:Rdy ops ios S j o io)
  (a:∀i oi,S i=true->ops.toList[i]? =some oi->∀e∈oi.after.toList,Region.binds .any e=true->S e.on=true) {i:Nat} (hi:j<i) (b:i<ios.length) (f:S i=true):
  compat (ft j) (ft i)=true/\∀p,ios[i]? =some p->(∀d,io.dst=some d->p.dst≠some d/\d∉p.reads)/\∀d,p.dst=some d->d∉io.reads:=by
 obtain⟨g,oi,h1,h2,h3⟩:=R.get b
 have hb:((cP [] ops.toList).getD i 0).testBit j=false:=by
  cases hb:((cP [] ops.toList).getD i 0).testBit j with
  |false=>rfl
  |true=>
   have:=qJ R.back (D:=fun i=>S i=true) a i oi h2 (fun e he c=>a i oi f h2 e he c) j hb;simp only[hr.no]at this;cases this
 refine⟨(R.com i b j hi).resolve_left (by rw[hb];simp),fun p hp=>?_⟩;exact(R.tmps i p hp j io hi hr.hio).resolve_left (by rw[hb];simp)
theorem Lf (R:tV P T ex lim ops ios st ft v) {j:Nat} {o:Oper} {io:Sim.Op1} (hr:Rdy ops ios S j o io)
  (d:∀i oi,S i=true->ops.toList[i]? =some oi->∀e∈oi.after.toList,Region.binds .any e=true->S e.on=true) {t:Nat} (k:t∈io.reads):(tl ios st v S ios.length)[t]? =(st j).t[t]? :=by
 rw[tlB (j:=j) (xY2 hr.c),tlA R (xY2 hr.c)];intro i hi hd;rcases Bd R hr d hi with h|⟨_,_,h⟩
 exact h;obtain⟨a,oi,h1,_,_⟩:=R.get (j:=i) (by have:=hr.c;omega);have b:a.dst=some t:=by simpa[oB,h1]using hd
 exact absurd k ((h a h1).1 t b).2;intro i hi f g hd;by_cases e:i=j;subst e;rw[hr.no]at g;cases g;obtain⟨a,oi,h1,_,_⟩:=R.get f;have b:a.dst=some t:=by simpa[oB,h1]using hd
 exact absurd k (((Hu R hr d (by omega) f g).2 a h1).2 t b)
theorem qZ1 (R:tV P T ex lim ops ios st ft v) {j:Nat} {o:Oper} {io:Sim.Op1} (hr:Rdy ops ios S j o io)
  (f:∀i oi,S i=true->ops.toList[i]? =some oi->∀e∈oi.after.toList,Region.binds .any e=true->S e.on=true) (b:∀i,i≠j->S' i=S i) (l:S' j=true):
  tl ios st v S' ios.length=put (tl ios st v S ios.length) io.dst (v j):=by
 have hd:oB ios j=io.dst:=by simp[oB,hr.hio]
 rw[<-hd];refine tlC (fun i hi=>b i (by omega)) (fun i hi=>b i (by omega)) hr.no l hr.c (fun i hi a k t m h=>?_);obtain⟨d,oi,h1,_,_⟩:=R.get a;have g:d.dst=some t:=by simpa[oB,h1]using h
 exact(((Hu R hr f hi a k).2 d h1).1 t (hd.symm.trans m)).1 g
theorem hG1 (R:tV P T ex lim ops ios st ft v) {j:Nat} {o:Oper} {io:Sim.Op1} (hr:Rdy ops ios S j o io)
  (a:∀i oi,S i=true->ops.toList[i]? =some oi->∀e∈oi.after.toList,Region.binds .any e=true->S e.on=true) {id:Nat} {ao:AO} (b:id∈(ft j).rd\/id∈(ft j).wr) (hl:look (st j).s.h id=some ao):
  gY st ft S ios.length id=some ao:=by
 have k:=(R.wf (xY2 hr.c)).lt hl;rw[yC (j:=j) (xY2 hr.c),Bb R (xY2 hr.c)];exact hl;intro i hi f;rcases Bd R hr a hi with h|⟨_,h,_⟩
 exact h;obtain⟨c1,c2,c3,c4,c5,c6⟩:=eB h;simp only[wD,wY2,yI2,xU2,wS2]at f;rcases f with(f|f)|f;have:=hB1 c1 (Hr b);omega
 grind
 grind
 intro i hi d g;by_cases e:i=j;subst e;rw[hr.no]at g;cases g;obtain⟨c1,c2,c3,c4,c5,c6⟩:=eB (Hu R hr a (by omega) d g).1;simp only[wD,yV2,zH2,ne_eq,xU2,xT2];refine⟨⟨by have:=Fq c1 (Hr b);omega,fun h=>?_⟩,fun h=>?_⟩
 grind
 rw[R.al d]at h;have:=R.mono (i:=j) (j:=i) (by omega) (by omega);omega
theorem Be (R:tV P T ex lim ops ios st ft v) {j:Nat} {o:Oper} {io:Sim.Op1} (hr:Rdy ops ios S j o io)
  (f:∀i oi,S i=true->ops.toList[i]? =some oi->∀e∈oi.after.toList,Region.binds .any e=true->S e.on=true) (l:∀i,i≠j->S' i=S i) (p:S' j=true) {id:Nat}
  (a:(id∈(ft j).wr/\id<(st j).s.n)\/id∈(ft j).al):gY st ft S' ios.length id=look (st (j+1)).s.h id:=by
 rw[yC (j:=j+1) hr.c]
 have:wD ft j id=true:=by
  simp only[wD,wY2,yI2,xU2,wS2];rcases a with⟨h,_⟩|h;exact .inl (.inr h);exact .inr h
 simp[gY,p,this];intro i hi b d;have m:S i=true:=by rw[<-l i (by omega)];exact d
 obtain⟨c1,c2,c3,c4,c5,c6⟩:=eB (Hu R hr f (by omega) b m).1;simp only[wD,yV2,zH2,ne_eq,xU2,xT2];have k:=R.mono (i:=j+1) (j:=i) (by omega) (by omega);have hg:=(R.grows hr.c).n
 have g:(ft j).isE=false:=by
  rcases a with⟨a,_⟩|a;exact Hr (.inr a);exact yZ a
 refine⟨⟨by have:=Fq c1 g;omega,fun h=>?_⟩,fun h=>?_⟩
 grind
 rw[R.al b]at h;rcases a with⟨_,a⟩|a;omega;rw[R.al hr.c]at a;omega
theorem uN (R:tV P T ex lim ops ios st ft v) {j:Nat} {o:Oper} {io:Sim.Op1} (hr:Rdy ops ios S j o io)
  (g:∀i oi,S i=true->ops.toList[i]? =some oi->∀e∈oi.after.toList,Region.binds .any e=true->S e.on=true) (b:∀i,i≠j->S' i=S i) (k:S' j=true) {id:Nat} {ao:AO}
  (hk:wD ft j id=true->id∈(ft j).wr/\look (st (j+1)).s.h id=look (st j).s.h id) (h:gY st ft S' ios.length id=some ao):gY st ft S ios.length id=some ao:=by
 refine oH1 (j:=j) (fun i hi=>b i (by omega)) (fun h0=>?_) hr.c h;have d:gY st ft S (j+1) id=gY st ft S j id:=by simp[gY,hr.no]
 have f:gY st ft S' j id=gY st ft S j id:=Bc (fun i hi=>b i (by omega));rw[d];cases ht:wD ft j id with
 |false=>
  simp only[gY,ht,Bool.and_false,wU2,xQ2,f]at h0;exact h0
 |true=>
  obtain⟨m,l⟩:=hk ht;simp only[gY,ht,k,aL3,xM2,l]at h0;rw[Bb R (xY2 hr.c)];exact h0;intro i hi a;rcases Bd R hr g hi with h|⟨_,h,_⟩
  exact h;obtain⟨c1,c2,c3,c4,c5,c6⟩:=eB h;simp only[wD,wY2,yI2,xU2,wS2]at a;rcases a with(a|a)|a
  grind
  grind
  grind
end
end Go.Sim
namespace Go.Sim
section
variable {P:Program} {T:jA} {ex:Nat->Bool->IC->St->Option (Ex×St)} {lim:Nat} {ops:Array Oper} {ios:List Sim.Op1} {st:Nat->St} {ft:Nat->Foot} {v:Nat->AV} {S S':Nat->Bool} {r:Option Nat} {n base:Nat} {g0 g:Gh} {w0 w:World}
theorem Sl {o:Oper} {k:fC} {os:aA Operand} {L:Nat->aB AO} {m:Nat} {out:Out} {a:Act} (j:iE P o.op o.type=some (k,os)) (hg:dO P g lim w L m out (execOp a.eval o)) {next:Act->World->Prop} {Q:Exit->Act->World->Prop}
  (b:∀V g' w',VR g' out.v V->HR P g' (out.after L m) w'->WG g' w'->pZ lim g g' w w'->(∀id,g'.ι id≠none->g.ι id≠none\/(id=m/\out.new.isSome))->next (a.put o.dst V) w'):
  o.wpIn (FW r) n P a w next Q:=by
 obtain⟨V,nx,g',w',d,e,hv,h,i,f,c⟩:=hg;refine⟨fun _ _=>trivial,?_⟩;rw[oU _ (uK j),d];rcases e with rfl|⟨rfl,rfl⟩
 .exact b V g' w' hv h i f c
 .exact b undef g' w' hv h i f c
theorem Pn {k:fC} {xs:aA AV} (h1:∀f,k≠.callF f) (h2:k≠.callV):(foot T k xs).all=0:=by
 unfold foot
 split<;>first
  |rfl
  |exact absurd rfl (h1 _)
  |exact absurd rfl h2
theorem Vn (u:nO P ex) (A:iB P T) {o:Oper} {k:fC} {os:aA Operand} {xs:aA AV} {x:AV} {s R:Hp} {a:Act} (B:(iE P o.op o.type).getD (.fail,[])=(k,os)) (h:step T ex lim k xs s=some (x,R)) (d:(foot T k xs).all=1)
  (D:TR g xs (os.map a.eval)) (z:jZ P g w s) {next:Act->World->Prop} {Q:Exit->Act->World->Prop}
  (t:∀V g' w',VR g' x V->g'.ι=g.ι->WG g' w'->(∀b,b<w.heap.size->w'.heap[b]? =w.heap[b]?)->pZ s.n g g' w w'->next (a.put o.dst V) w'):o.wpIn (FW r) n P a w next Q:=by
 have fin:∀e w',jV P s.n g w s x s e w'->∃V,e=.returned V/\next (a.put o.dst V) w':=by
  rintro e w' ⟨V,g',rfl,O,K,H,U⟩;refine⟨V,rfl,t V g' w' O ?_ K.W ?_ H⟩
  .funext id
   by_cases q:id<s.n
   .exact H.old id q
   .have h1:g.ι id=none:=by
     cases h:g.ι id with
     |none=>rfl
     |some l=>exact absurd (z.dom id (by rw[h];simp)) q
    have h2:g'.ι id=none:=by
     cases h:g'.ι id with
     |none=>rfl
     |some l=>exact absurd (K.dom id (by rw[h];simp)) q
    rw[h1,h2]
  .intro b hb
   exact H.keep b hb (fun id loc q hi=>by
    have:=z.dom id (by rw[hi];simp);omega)
 cases hco:iE P o.op o.type with
 |none=>
  rw[hco]at B;cases B;simp only[step,wH]at h;cases h
 |some p=>
  rw[hco]at B;cases B;unfold step at h;split at h
  .rename_i f
   obtain⟨c,J,h1,h2,h3⟩:=nF hco (.inr ⟨f,rfl⟩);rcases h3 with⟨L,h4,h5,E⟩|⟨h4,_⟩
   .cases h4
    subst h5;simp only[foot]at d;split at d
    .rename_i ifn j
     split at d
     .rename_i hp
      have m:TR g xs (#[]++c.args.map a.eval++#[]).toList:=by rw[E]at D;simpa using D
      exact rM A h1 h2 rfl j (Ap u A j hp h m z).2 fin
     .grind
    .cases d
   .cases h4
  .obtain ⟨c,J,h1,h2,h3⟩:=nF hco (.inl rfl)
   rcases h3 with⟨L,h4,_⟩|⟨_,E⟩
   .cases h4
   .subst E
    split at h
    .rename_i S args
     have v:=D.head;have m:=D.tail;unfold callV at h;simp only[foot]at d;split at h
     .rename_i f first cap
      generalize hV:a.eval J=V at v;cases v with
      |@fn _ _ _ _ F C l1 l2 v1 v2=>
       simp only at d;split at d
       .rename_i ifn j
        split at d
        .rename_i hp
         have N:TR g first F.toList:=⟨by simpa using l1,fun i x y G hy=>v1 i x y G (by simpa using hy)⟩
         have M:TR g cap C.toList:=⟨by simpa using l2,fun i x y G hy=>v2 i x y G (by simpa using hy)⟩
         have d:TR g (first++args++cap) (F++c.args.map a.eval++C).toList:=by
          have:=(N.app m).app M;simpa using this
         exact rM A h1 h2 hV j (Ap u A j hp h d z).2 fin
        .grind
       .cases d
     .grind
     .cases h
    .cases h
  .rename_i h1 h2
   exfalso;have:=Pn (T:=T) (xs:=xs) (fun f e=>h1 f e) (fun e=>h2 e);omega
theorem cov (R:tV P T ex lim ops ios st ft v) {id:Nat}:∀{j:Nat},j<=ios.length->(st 0).s.n<=id->id<(st j).s.n->∃i,i<j/\id∈(ft i).al
 |0,_,h1,h2=>by omega
 |j+1,hj,h1,h2=>by
  by_cases h:id<(st j).s.n
  obtain⟨i,hi,h3⟩:=cov R (j:=j) (by omega) h1 h
  exact⟨i,by omega,h3⟩
  exact⟨j,by omega,(R.al (by omega)).2 ⟨by omega,h2⟩⟩
theorem Vo (R:tV P T ex lim ops ios st ft v) (e8:nO P ex) (hT:iB P T) (b5:lim<=(st 0).s.n) {j:Nat} {o:Oper} {io:Sim.Op1} {a:Act} (hr:Rdy ops ios S j o io) (hco:kC P ops.toList o=some io)
  (u:hD1 P ops ios st ft v lim base g0 w0 S g a w) (x:∀i,i≠j->S' i=S i) (hj:S' j=true) {K:Act->World->Prop} {Q:Exit->Act->World->Prop} (hK:∀g' a' w',hD1 P ops ios st ft v lim base g0 w0 S' g' a' w'->K a' w'):
  wpOpIn (FW r) n P ops Q j K a w:=by
 have d:=u.closed;have g7:ops[j]? =some o:=by simpa using hr.hop
 unfold wpOpIn;rw[g7];simp only;obtain⟨os,c1,c2,c3,c4⟩:=nQ hco
 have hw:Region.wanted o (yielded ops a.tmps)=Sim.wanted (st j).t io.guard:=by
  rw[Fl u.t hco];refine Ht (fun i b hg=>Lf R hr d ?_);simp[Op1.reads,hg]
 have e7:evs (tl ios st v S ios.length) io.xs=evs (st j).t io.xs:=Fs (fun t q=>Lf R hr d (by
  simp only[Op1.reads,xV2,List.mem_filterMap];exact .inl ⟨.t t,q,rfl⟩))
 have X:∀i oi,S' i=true->ops.toList[i]? =some oi->∀e∈oi.after.toList,Region.binds .any e=true->S' e.on=true:=by
  intro i oi hi f6 e he hb
  have up:∀i,S i=true->S' i=true:=fun i h=>by
   by_cases e:i=j;rw[e];exact hj;rw[x i e];exact h
  by_cases e1:i=j;subst e1;rw[hr.hop]at f6;cases f6;exact up _ (hr.edges e he hb);exact up _ (d i oi (by rw[<-x i e1];exact hi) f6 e he hb)
 have d1:∀{g':Gh} {w':World} {V:Value},pZ lim g g' w w'->hY base g' w' (a.put o.dst V).defers:=by
  intro g' w' V hE;have:(a.put o.dst V).defers=a.defers:=by cases o.dst<;>rfl
  rw[this];exact u.marks.ext hE
 have d2:∀{g':Gh} {w':World} {V:Value},pZ lim g g' w w'->VR g' (v j) V->TR g' (tl ios st v S' ios.length) (a.put o.dst V).tmps.toList:=by
  intro g' w' V hE hV;rw[qZ1 R hr d x hj,c3];exact Pf (u.t.mono hE.le) hV o.dst
 have J:∀id,(id<(st 0).s.n\/∃i,i<ios.length/\S i=true/\id∈(ft i).al)->id<(st 0).s.n\/∃i,i<ios.length/\S' i=true/\id∈(ft i).al:=by
  rintro id (h|⟨i,h1,h2,h3⟩);exact .inl h;refine .inr ⟨i,h1,?_,h3⟩;by_cases e:i=j;rw[e];exact hj;rw[x i e];exact h2
 have d9:=R.mono (i:=0) (j:=j) (by omega) (xY2 hr.c);obtain⟨s1,s2⟩:=R.step j io hr.hio;rw[hw];rcases s2 with⟨q1,q2,q3,q4⟩|⟨q1,xs,q2,q3,q4,q5,s2,q6⟩|⟨q1,xs,q2,q3,q4,q5⟩|⟨q1,xs,W,q2,q3,q4,q5⟩
 ·
  rw[q1];simp only[wU2,xQ2];refine⟨fun _ _=>trivial,hK g _ w ⟨u.ext,u.W,fun id ao h=>?_,fun id h=>J id (u.dom id h),d2 (.refl lim g w) (by rw[q2];exact .undef g),d1 (.refl lim g w),X⟩⟩;refine u.H id ao (uN R hr d x hj (fun q=>?_) h);rw[wD,q3]at q;simp at q
 ·
  rw[q1];simp only[xM2];have a0:=qF u.t c2 (e7.trans q2);have e9:=(uM T io.k xs).2 (by omega)
  have L:∀id ao,look (hide (unseen ((cP [] ops.toList).getD j 0) j (gX ft j)) (st j).s.h) id=some ao->gY st ft S ios.length id=some ao:=by
   intro id ao h;obtain⟨h1,h2⟩:=wI _ (R.wf (xY2 hr.c)) h;have z:=(R.wf (xY2 hr.c)).lt h1;rw[yC (j:=j) (xY2 hr.c),Bb R (xY2 hr.c)];exact h1;intro i hi q;rcases Bd R hr d hi with h|⟨hb,h,_⟩
   exact h;obtain⟨c1,c2,c3,c4,c5,c6⟩:=eB h;simp only[wD,wY2,yI2,xU2,wS2]at q;have b6:(ft j).all=1:=by rw[q4];exact q3
   rcases q with(q|q)|q;have:=hB1 c1 (qL (by omega));omega;rw[c6.resolve_left (by omega)]at q;simp at q;exact absurd (oX i hi hb q) h2;intro i hi y E;by_cases e:i=j;subst e;rw[hr.no]at E;cases E;obtain⟨c1,c2,c3,c4,c5,c6⟩:=eB (Hu R hr d (by omega) y E).1;have b6:(ft j).all=1:=by rw[q4];exact q3
   simp only[wD,yV2,zH2,ne_eq,xU2,xT2];refine⟨⟨by have:=Fq c1 (qL (by omega));omega,fun h=>?_⟩,fun h=>?_⟩;rw[c5.resolve_left (by omega)]at h;simp at h;rw[R.al y]at h;have:=R.mono (i:=j) (j:=i) (by omega) (by omega);omega
  have U:jZ P g w {h:=hide (unseen ((cP [] ops.toList).getD j 0) j (gX ft j)) (st j).s.h,n:=(st j).s.n+rsv (ios.length-j)}:=by
   refine⟨fun id ao h=>u.H id ao (L id ao h),u.W,fun id h=>?_,((R.wf (xY2 hr.c)).hide _).mono (by simp)⟩;simp only;rcases u.dom id h with h1|⟨i,h1,h2,h3⟩
   have:=hr.c;omega;have f2:=yZ h3;have b6:(ft j).isE=false:=qL (by rw[show(ft j).all=1 by rw[q4];exact q3];decide);rw[R.al h1]at h3;by_cases b8:i<j;have:=R.mono (i:=i+1) (j:=j) (by omega) (xY2 hr.c);omega
   have b9:j<i:=by
    rcases zW2 j i with h|h;exact h;have:i=j:=by omega
    subst this;rw[hr.no]at h2;cases h2
   have g6:∀k,j<=k->k<=i->(st (k+1)).s.n<=(st j).s.n+rsv (k-j):=by
    intro k
    induction k with
    |zero=>
     intro hk _;have:j=0:=by omega
     subst this;rw[q5];omega
    |succ k ih=>
     intro hk j2;by_cases e:j=k+1;subst e;rw[q5];omega;have j5:=ih (by omega) (by omega);have g4:k+1<ios.length:=by omega
     have h8:(ft (k+1)).all<=1:=by
      by_cases e2:k+1=i;have:=Fq (eB (Hu R hr d b9 h1 h2).1).1 b6;rw[e2];omega
      ·
       rcases zW2 1 (ft (k+1)).all with i9|hok;exfalso;obtain⟨j6,oi,i1,i2,i3⟩:=R.get h1
       have hb:((cP [] ops.toList).getD i 0).testBit (k+1)=true:=by
        rcases R.com i h1 (k+1) (by omega)with h|h;exact h;have:=hB1 (eB h).1 f2;omega
       have g9:S (k+1)=true:=qJ R.back (D:=fun i=>S i=true) d i oi i2 (fun e he i0=>d i oi h2 i2 e he i0) (k+1) hb;have:=Fq (eB (Hu R hr d (by omega) g4 g9).1).1 b6;omega;exact hok
     obtain⟨f9,ok,k1,k2,k3⟩:=R.get g4;obtain⟨_,t2⟩:=R.step (k+1) f9 k1;have j3:rsv (k+1-j)=rsv (k-j)+1048576:=by rw[Nat.succ_sub (by omega),Zy]
     rcases t2 with⟨_,_,_,t3⟩|⟨_,xs',_,_,_,t3,_⟩|⟨_,xs',_,t3,t4,t5⟩|⟨_,xs',W',_,_,_,t3⟩
     rw[t3];omega;rw[t3];omega
     have d4:(foot T f9.k xs').all=0:=by
      have:(ft (k+1)).all=(foot T f9.k xs').all:=by rw[t4]
      have:=t3.1;omega
     obtain⟨out,_,_,hs⟩:=sW t5 d4;rw[hs,rO];split<;>omega;obtain⟨s',w,_,_,e3,_,_,_,_,_,_,e4⟩:=oT t3;rw[e3];simp only;omega
   have:=g6 i (by omega) (wK2 _);have:=qU1 (a:=i-j) (b:=ios.length-j) (by omega);omega
  refine Vn e8 hT c1 q6 q3 a0 U (fun V g' w' k1 k2 k3 k4 k5=>hK g' _ w' ?_);have hE:pZ lim g g' w w':=k5.mono (by simp only;have:=hr.c;omega);refine⟨u.ext.trans hE,k3,fun id ao h=>?_,fun id h=>J id (u.dom id (by rw[<-k2];exact h)),d2 hE k1,d1 hE,X⟩
  have h1:=uN R hr d x hj (id:=id) (ao:=ao) (fun q=>by
   rw[wD,q4]at q;rw[q3,e9.2,Sj]at q;simp at q) h
  exact(u.H id ao h1).mono hE.le (by rw[k2]) (fun loc hl=>k4 _ (u.W.lt id loc hl))
 rw[q1];simp only[xM2];have a0:=qF u.t c2 (e7.trans q2);by_cases d4:(foot T io.k xs).all=0
 ·
  obtain⟨out,ho,hv,hs⟩:=sW q5 d4
  have i4:∀id ao,id∈(foot T io.k xs).rd\/id∈(foot T io.k xs).wr->look (st j).s.h id=some ao->gY st ft S ios.length id=some ao:=by
   intro id ao f hl;refine hG1 R hr d ?_ hl;rw[q4];exact f
  have d8:doOp (gY st ft S ios.length) lim (st j).s.n io.k xs=some out:=Pi (T:=T) ho i4;have hn:=rO out (st j).s;rw[<-hs]at hn;have F:∀id,look (st (j+1)).s.h id=out.after (look (st j).s.h) (st j).s.n id:=fun id=>by rw[hs];exact Az (fun i ob hu=>(uL (T:=T) ho hu).2) id
  have B:∃g1,iE P o.op o.type=some (io.k,g1)/\g1=os:=by
   cases hc:iE P o.op o.type with
   |none=>
    rw[hc]at c1;simp only[Option.getD_none,xC2]at c1;rw[<-c1.1,wH]at ho;cases ho
   |some p=>rw[hc]at c1;exact⟨os,by rw[<-c1];rfl,rfl⟩
  obtain⟨g1,B,rfl⟩:=B
  have fin:∀(m:Nat) (V:Value) (g':Gh) (w':World),(out.new.isSome=true->m=(st j).s.n)->VR g' out.v V->HR P g' (out.after (gY st ft S ios.length) m) w'->WG g' w'->pZ lim g g' w w'->
    (∀id,g'.ι id≠none->g.ι id≠none\/(id=m/\out.new.isSome))->K (a.put o.dst V) w':=by
   intro m V g' w' hm k1 k2 k3 k4 k5;refine hK g' _ w' ⟨u.ext.trans k4,k3,fun id ao h=>k2 id ao ?_,fun id h=>?_,d2 k4 (by rw[hv];exact k1),d1 k4,X⟩
   ·
    have b7:id∈(ft j).al↔(st j).s.n<=id/\id<(st (j+1)).s.n:=R.al hr.c;have d6:(ft j).wr=(foot T io.k xs).wr:=by rw[q4]
    have i7:(ft j).all=0:=by rw[q4];exact d4
    have Y:(∀i ob,out.up=some (i,ob)->id≠i)->(out.new.isSome=true->id≠(st j).s.n)->gY st ft S ios.length id=some ao:=by
     intro h1 h2;refine uN R hr d x hj (fun q=>?_) h
     have g5:id∉(ft j).al:=by
      rw[b7,hn];cases hnew:out.new with
      |none=>simp
      |some ob=>
       have:=h2 (by rw[hnew];rfl);simp;omega
     refine⟨?_,?_⟩;simp only[wD,wY2,yI2,xU2,wS2]at q;rcases q with(q|q)|q;omega;exact q;exact absurd q g5;rw[F id];unfold Out.after Out.base;cases hnew:out.new with
     |none=>
      simp only;cases hu:out.up with
      |none=>rfl
      |some p=>
       obtain⟨i,ob⟩:=p;simp only;rw[wN2 (h1 i ob hu)]
     |some ob'=>
      simp only;rw[wN2 (h2 (by rw[hnew];rfl))];cases hu:out.up with
      |none=>rfl
      |some p=>
       obtain⟨i,ob⟩:=p;simp only;rw[wN2 (h1 i ob hu)]
    by_cases M:out.new.isSome=true/\id=(st j).s.n;obtain⟨h1,h2⟩:=M;have hl:=Be R hr d x hj (id:=id) (.inr (by rw[b7,hn,h1];simp;omega));rw[hl,F id]at h;rw[<-h,hm h1];unfold Out.after;cases hnew:out.new with
    |none=>rw[hnew]at h1;cases h1
    |some ob=>simp only;rw[wO2 h2,wO2 h2]
    by_cases O:∃ob,out.up=some (id,ob);obtain⟨ob,hu⟩:=O;obtain⟨u1,u2⟩:=uL (T:=T) ho hu;have f8:∃d3,look (st j).s.h id=some d3:=Option.isSome_iff_exists.1 u2;obtain⟨d3,g3⟩:=f8;have z:=(R.wf (xY2 hr.c)).lt g3;have hl:=Be R hr d x hj (id:=id) (.inl ⟨by rw[d6];exact u1,z⟩);rw[hl,F id]at h;rw[<-h];unfold Out.after Out.base;cases hnew:out.new with
    |none=>simp only[hu,xM2]
    |some ob'=>
     have:=hm (by rw[hnew];rfl);simp only[hu,xM2];rw[wN2 (by omega),wN2 (by omega)]
    have G:=Y (fun i ob hu e=>O ⟨ob,by rw[e];exact hu⟩) (fun h1 e=>M ⟨h1,e⟩);unfold Out.after Out.base;cases hnew:out.new with
    |none=>
     simp only;cases hu:out.up with
     |none=>exact G
     |some p=>
      obtain⟨i,ob⟩:=p;simp only;rw[wN2 (fun e=>O ⟨ob,by rw[e];exact hu⟩)];exact G
    |some ob'=>
     simp only;rw[wN2 (fun e=>M ⟨by rw[hnew];rfl,by rw[e];exact hm (by rw[hnew];rfl)⟩)];cases hu:out.up with
     |none=>exact G
     |some p=>
      obtain⟨i,ob⟩:=p;simp only;rw[wN2 (fun e=>O ⟨ob,by rw[e];exact hu⟩)];exact G
   rcases k5 id h with h1|⟨h1,h2⟩
   exact J id (u.dom id h1);refine .inr ⟨j,hr.c,hj,?_⟩;rw[R.al hr.c,hn,h2,h1,hm h2];simp
  cases hnew:out.new with
  |none=>
   have f5:doOp (gY st ft S ios.length) lim (st ios.length).s.n io.k xs=some out:=qW1 d8 hnew
   have f1:g.ι (st ios.length).s.n=none:=by
    cases h:g.ι (st ios.length).s.n with
    |none=>rfl
    |some l=>
     rcases u.dom _ (by rw[h];simp)with h1|⟨i,h1,h2,h3⟩
     have:=R.mono (i:=0) (j:=ios.length) (by omega) (wK2 _);omega;rw[R.al h1]at h3;have:=R.mono (i:=i+1) (j:=ios.length) (by omega) (wK2 _);omega
   have i5:lim<=(st ios.length).s.n:=xJ2 b5 (R.mono (by omega) (wK2 _));exact Sl B (sQ a.eval o B a0 f5 u.H u.W f1 i5) (fun V g' w'=>fin _ V g' w' (fun h=>by rw[hnew]at h;cases h))
  |some ob=>
   have f1:g.ι (st j).s.n=none:=by
    cases h:g.ι (st j).s.n with
    |none=>rfl
    |some l=>
     rcases u.dom _ (by rw[h];simp)with h1|⟨i,h1,h2,h3⟩
     omega;rw[R.al h1]at h3;rw[hnew]at hn;simp only[zM2,xM2]at hn;by_cases b8:i<j;have:=R.mono (i:=i+1) (j:=j) (by omega) (xY2 hr.c);omega;by_cases e:i=j;subst e;rw[hr.no]at h2;cases h2;have:=R.mono (i:=j+1) (j:=i) (by omega) (by omega);omega
   exact Sl B (sQ a.eval o B a0 d8 u.H u.W f1 (xJ2 b5 d9)) (fun V g' w'=>fin _ V g' w' (fun _=>rfl))
 ·
  have h2:(ft j).all=2:=by
   have:=(uM T io.k xs).1;rw[q4];have:=q3.1;have:=q3.2;show(foot T io.k xs).all=2
   omega
  have b0:∀i,i<j->S i=true\/(ft i).isE=true:=by
   intro i hi;rcases Bd R hr d hi with h|⟨_,h,_⟩
   exact .inl h;rcases(eB h).1 with h|h|h;omega;exact .inr h;have:=(jE h).2.2.2;omega
  have Z:∀i,j<=i->i<ios.length->S i=false\/(ft i).isE=true:=by
   intro i hi y;cases E:S i with
   |false=>exact .inl rfl
   |true=>
    by_cases e:i=j;subst e;rw[hr.no]at E;cases E;rcases(eB (Hu R hr d (by omega) y E).1).1 with h|h|h;omega;have:=(jE h).2.2.2;omega;exact .inr h
  have e0:∀id,gY st ft S ios.length id=look (st j).s.h id:=by
   intro id
   rw[yC (j:=j) (xY2 hr.c) (fun i hi y E=>by
    rcases Z i hi y with A|A;rw[A]at E;cases E;exact qY1 A),Bb R (xY2 hr.c) (fun i hi q=>by
    rcases b0 i hi with A|A;exact A;rw[qY1 A]at q;cases q)]
  have U:jZ P g w (st j).s:=by
   refine⟨fun id ao h=>u.H id ao (by rw[e0];exact h),u.W,fun id h=>?_,R.wf (xY2 hr.c)⟩;rcases u.dom id h with h1|⟨i,h1,h3,h4⟩
   omega;have f2:=yZ h4;rw[R.al h1]at h4;by_cases b8:i<j;have:=R.mono (i:=i+1) (j:=j) (by omega) (xY2 hr.c);omega;rcases Z i (by omega) h1 with A|A;rw[A]at h3;cases h3;rw[f2]at A;cases A
  refine Hn e8 hT c1 q5 a0 U (xJ2 b5 d9) (fun V g' w' k1 k2 k3 k4=>hK g' _ w' ⟨u.ext.trans k3,k2.W,fun id ao h=>k2.H id ao ?_,fun id h=>?_,d2 k3 k1,d1 k3,X⟩)
  rw[yC (j:=j+1) hr.c (fun i hi y E=>by
   rcases Z i (by omega) y with A|A;rw[x i (by omega),A]at E;cases E;exact qY1 A)]at h
  have q:wD ft j id=true:=by simp[wD,h2]
  simp only[gY,hj,q,aL3,xM2]at h;exact h;have z:=k2.dom id h;by_cases f3:id<(st 0).s.n;exact .inl f3;obtain⟨i,hi,h3⟩:=cov R (j:=j+1) hr.c (by omega) z;refine .inr ⟨i,by have:=hr.c;omega,?_,h3⟩;by_cases e:i=j;rw[e];exact hj;rw[x i e];rcases b0 i (by omega)with A|A;exact A;rw[yZ h3]at A;cases A
 ·
  rw[q1];simp only[xM2];have a0:=qF u.t c2 (e7.trans q2);have b6:(ft j).all=1:=by rw[q4]
  have d6:(ft j).wr=W:=by rw[q4]
  obtain⟨s',wl,k1,k2,k3,k4,k5,k6,k7,k8,k9,_⟩:=oT q5;generalize hhid:unseen ((cP [] ops.toList).getD j 0) j (gX ft j)=f at k1 k2 k5 k6 k7 k8 k9;have C:=R.wf (xY2 hr.c)
  have b4:∀i,i<ios.length->S i=true->¬i<j->(ft i).wr=[]/\(∀id,id∈(ft i).al->(st (j+1)).s.n<=id)/\(ft i).all≠2:=by
   intro i y E b8
   have b9:j<i:=by
    rcases zW2 j i with h|h;exact h;have:i=j:=by omega
    subst this;rw[hr.no]at E;cases E
   obtain⟨e1,e2,e3,e4,e5,e6⟩:=eB (Hu R hr d b9 y E).1;refine⟨e5.resolve_left (by omega),fun id h=>?_,by have:=Fq e1 (qL (by omega));omega⟩;rw[R.al y]at h;have:=R.mono (i:=j+1) (j:=i) (by omega) (by omega);omega
  have j1:=(R.grows hr.c).n
  have f7:∀id,mM f (st j).s.n id=true->id<(st j).s.n/\id∉f:=by
   intro id h;simp only[mM,wL2,xG2,xU2,xT2]at h;exact⟨by simpa[zB2]using h.1,h.2⟩
  have d7:∀id,id∉f->id<(st j).s.n->gY st ft S ios.length id=look (st j).s.h id:=by
   intro id i6 z;rw[yC (j:=j) (xY2 hr.c),Bb R (xY2 hr.c)];intro i hi q;rcases Bd R hr d hi with h|⟨hb,h,_⟩
   exact h;obtain⟨e1,e2,e3,e4,e5,e6⟩:=eB h;simp only[wD,wY2,yI2,xU2,wS2]at q;rcases q with(q|q)|q;have:=hB1 e1 (qL (by omega));omega;rw[e6.resolve_left (by omega)]at q;simp at q;exact absurd (hhid ▸ oX i hi hb q) i6;intro i hi y E;obtain⟨e1,e2,e3⟩:=b4 i y E (by omega);simp only[wD,yV2,zH2,ne_eq,xU2,xT2];refine⟨⟨e3,fun h=>?_⟩,fun h=>?_⟩;rw[e1]at h;simp at h;have:=e2 id h;omega
  have L:∀id ao,look (hide f (st j).s.h) id=some ao->gY st ft S ios.length id=some ao/\mM f (st j).s.n id=true:=by
   intro id ao h;obtain⟨h1,h2⟩:=wI _ C h;have z:=C.lt h1;refine⟨(d7 id h2 z).trans h1,?_⟩;simp only[mM,wL2,xG2,xU2,xT2];exact⟨by simpa[zB2]using z,h2⟩
  have hιp:∀id,mM f (st j).s.n id=true->(g.only (mM f (st j).s.n)).ι id=g.ι id:=fun id h=>Gh.only_pos h
  have U:jZ P (g.only (mM f (st j).s.n)) w {h:=hide f (st j).s.h,n:=(st j).s.n}:=by
   refine⟨fun id ao h=>?_,u.W.only,fun id h=>?_,C.hide _⟩;obtain⟨h1,h2⟩:=L id ao h;exact(u.H id ao h1).names (g:=g) (g2:=g.only _) rfl hιp (hιp id h2) (nE k5 id ao h);simp only[Gh.only]at h;split at h;rename_i hp;exact(f7 id hp).1;exact absurd rfl h
  refine Hn (s':=s') e8 hT c1 k1 (TR.names (g:=g) (g2:=g.only _) rfl hιp k6 a0) U (xJ2 b5 d9) (fun V g' w' m1 m2 m3 m4=>?_);obtain⟨hE,h0⟩:=Zz m3 u.W m2.W
  have hqι:∀id,uI f (st j).s.n s'.n id=true->(g.back g' (mM f (st j).s.n) (st j).s.n).ι id=g'.ι id:=by
   intro id h;simp only[uI,wY2,wL2]at h;rcases h with h|⟨h1,h2⟩
   exact uJ h;have h1:=wV2 h1;have h2:id<s'.n:=by simpa[zB2]using h2
   simp only[Gh.back];split;rename_i hc;exfalso;rcases u.dom id (hc.2.resolve_left (by omega))with h3|⟨i,h3,h4,h5⟩
   omega;by_cases b8:i<j;rw[R.al h3]at h5;have:=R.mono (i:=i+1) (j:=j) (by omega) (xY2 hr.c);omega;have h6:=(b4 i h3 h4 b8).2.1 id h5;rw[k3]at h6;simp only at h6;omega;rfl
  have j4:(st (j+1)).s.n=s'.n:=by rw[k3]
  refine hK (g.back g' (mM f (st j).s.n) (st j).s.n) _ w' ⟨u.ext.trans hE,h0,fun id ao h=>?_,fun id h=>?_,d2 hE (VR.names (g:=g') (g2:=g.back g' _ _) rfl hqι k7 m1),d1 hE,X⟩;have b7:id∈(ft j).al↔(st j).s.n<=id/\id<(st (j+1)).s.n:=R.al hr.c;by_cases q:(id∈W/\id<(st j).s.n)\/id∈(ft j).al
  ·
   have h1:=Be R hr d x hj (id:=id) (by rw[d6];exact q);rw[h1,k3]at h;simp only at h
   have hq:uI f (st j).s.n s'.n id=true:=by
    rcases q with⟨h2,h3⟩|h2;obtain⟨e,he,rfl⟩:=zR2.1 (k4 ▸ h2);have h4:=nD (C.hide f) k2 e he;obtain⟨d3,h5⟩:=Option.isSome_iff_exists.1 h4.2;have:=(L e.1 d3 h5).2;simp only[uI,this,Bool.true_or];rw[b7]at h2;have a1:Nat.ble (st j).s.n id=true:=Nat.ble_eq_true_of_le h2.1;have a2:Nat.blt id s'.n=true:=by simp only[zB2];omega
    simp only[uI,a1,a2,aL3,Bool.or_true]
   rcases eZ h with⟨h2,h3,h4⟩|h2;exact(m2.H id ao h3).names (g:=g') (g2:=g.back g' _ _) rfl hqι (hqι id hq) (sT k8 id ao h4);rcases xW _ _ _ _ h2 with⟨h3,h4⟩|h3;exfalso;rw[<-k4]at h4;rcases q with⟨h5,_⟩|h5;exact h4 h5;rw[b7]at h5;have:=C.lt h3;omega;exact(m2.H id ao ((lW k2).2 _ h3)).names (g:=g') (g2:=g.back g' _ _) rfl hqι (hqι id hq) (by have:=wR2.1 k9 _ h3;exact this)
  have h1:gY st ft S ios.length id=some ao:=uN R hr d x hj (fun N=>by
   exfalso;simp only[wD,b6,d6,wY2,xU2,wS2]at N;rcases N with(N|N)|N;cases N;obtain⟨e,he,rfl⟩:=zR2.1 (k4 ▸ N);exact q (.inl ⟨N,(nD (C.hide f) k2 e he).1⟩);exact q (.inr N)) h
  cases hp:mM f (st j).s.n id with
  |true=>
   obtain⟨h2,h3⟩:=f7 id hp;have h4:look (hide f (st j).s.h) id=some ao:=by rw[uH f h3,<-d7 id h3 h2];exact h1
   have h5:id∉wl.map (·.1):=fun h6=>q (.inl ⟨by rw[k4];exact h6,h2⟩);exact(m2.H id ao ((lW k2).1 id ao h4 h5)).names (g:=g') (g2:=g.back g' _ _) rfl hqι (uJ hp) (Pe (fun i h=>by simp only[uI,h,Bool.true_or]) (nE k5 id ao h4))
  |false=>
   have h2:=u.H id ao h1;have h3:g.ι id≠none:=h2.some;refine h2.mono hE.le (Aq hp h3) (fun loc hl=>m3.keep _ (u.W.lt id loc hl) (fun id' loc' j0 d5 e=>?_));simp only[Gh.only]at d5;split at d5;rename_i g8;have:=u.W.inj id' id loc' loc d5 hl e;subst this;rw[hp]at g8;cases g8;cases d5
  by_cases hg:g.ι id=none
  have h2:g'.ι id≠none:=by
   simp only[Gh.back]at h;split at h;exact absurd hg h;exact h
  have h3:id<s'.n:=m2.dom id h2;by_cases f3:id<(st 0).s.n;exact .inl f3;by_cases z:id<(st j).s.n;obtain⟨i,hi,h4⟩:=cov R (xY2 hr.c) (by omega) z;rcases Bd R hr d hi with h5|⟨hb,_,_⟩
  refine .inr ⟨i,by have:=hr.c;omega,?_,h4⟩;rw[x i (by omega)];exact h5;have h6:id∈f:=hhid ▸ oX i hi hb h4
  have h7:mM f (st j).s.n id=false:=by
   cases hp:mM f (st j).s.n id with
   |false=>rfl
   |true=>exact absurd h6 (f7 id hp).2
  exfalso;simp only[Gh.back]at h;rw[wO2 ⟨h7,.inl z⟩]at h;exact h hg;refine .inr ⟨j,hr.c,hj,?_⟩;rw[R.al hr.c];omega;exact J id (u.dom id hg)
end
end Go.Sim
namespace Go.Sim
section
variable {P:Program} {T:jA} {ex:Nat->Bool->IC->St->Option (Ex×St)} {lim:Nat} {ops:Array Oper} {ios:List Sim.Op1} {st:Nat->St} {ft:Nat->Foot} {v:Nat->AV} {r:Option Nat} {n base:Nat} {g0:Gh} {w0:World}
def eU (a:Array Bool) (i:Nat):Bool:=a.getD i false
theorem Bf (a:Array Bool) (i j:Nat) (h:j<a.size):eU (a.setIfInBounds j true) i=if i=j then true else eU a i:=by
 unfold eU;by_cases e:i=j;subst e;simp[h];simp[e,Array.getElem?_setIfInBounds_ne (Ne.symm e)]
theorem aE1 (R:tV P T ex lim ops ios st ft v) (t:nO P ex) (C:iB P T) (m:lim<=(st 0).s.n) {Q:Exit->Act->World->Prop}
  (hQ:∀(S:Nat->Bool) g a w,(∀i,i<ios.length->S i=true)->hD1 P ops ios st ft v lim base g0 w0 S g a w->Q .normal a w):
  ∀(d:Nat) (b:Array Bool) (g:Gh) (a:Act) (w:World),b.size=ops.size->b.toList.count false<=d->hD1 P ops ios st ft v lim base g0 w0 (eU b) g a w->wpAnyIn (FW r) n P .any ops Q d b a w:=by
 have E:=R.size
 have k:∀(b:Array Bool),b.size=ops.size->Region.ready .any ops b=[]->∀i,i<ios.length->eU b i=true:=by
  intro b hl hr i
  induction i using Nat.strongRecOn with
  |_ i ih=>
   intro hi;cases h:eU b i with
   |true=>rfl
   |false=>
    exfalso;obtain⟨io,o,h1,h2,h3⟩:=R.get hi
    have A:i∈Region.ready .any ops b:=by
     rw[mem_ready];have c:i<b.size:=by omega
     refine⟨by simp only[eU]at h;simp[c]at h ⊢;exact h,o,by simpa using h2,fun e he hb=>?_⟩;have y:=R.back i o h2 e (by simpa using he) hb;exact ih e.on y (by omega)
    rw[hr]at A;cases A
 intro d
 induction d with
 |zero=>
  intro b g a w hl hc p
  have f:∀i,i<ios.length->eU b i=true:=by
   intro i hi;have c:i<b.size:=by omega
   have l:b.toList.count false=0:=by omega
   rw[List.count_eq_zero]at l;cases h:eU b i with
   |true=>rfl
   |false=>
    exfalso;apply l;simp only[eU]at h;simp[c]at h;rw[<-h];simp
  refine⟨?_,hQ _ g a w f p⟩;rw[List.eq_nil_iff_forall_not_mem];intro i hi;rw[mem_ready]at hi;obtain⟨h1,o,h2,_⟩:=hi;have u:i<ops.size:=(xI2.1 h2).1;have:=f i (by omega);have c:i<b.size:=by omega
  simp only[eU]at this;simp[c]at h1 this;rw[h1]at this;cases this
 |succ d ih=>
  intro b g a w hl hc p;refine⟨fun hr=>hQ _ g a w (k b hl hr) p,fun i hi=>?_⟩;rw[mem_ready]at hi;obtain⟨h1,o,h2,h3⟩:=hi;have u:i<ops.size:=(xI2.1 h2).1;have c:i<b.size:=by omega
  obtain⟨io,o',F,G,H⟩:=R.get (j:=i) (by omega);have:o'=o:=by grind
  subst this
  have z:eU b i=false:=by
   simp only[eU];simp[c]at h1 ⊢;exact h1
  have hr:Rdy ops ios (eU b) i o' io:=⟨G,F,by omega,z,fun e he hb=>h3 e (by simpa using he) hb⟩
  refine Vo (S':=eU (b.setIfInBounds i true)) R t C m hr H p (fun j D=>by rw[Bf _ _ _ c,wN2 D]) (by rw[Bf _ _ _ c,wO2 rfl]) (fun g' a' w' q=>?_);refine ih _ g' a' w' (by simpa using hl) ?_ q;have B:(b.setIfInBounds i true).toList=b.toList.set i true:=by simp
  have x:b.toList[i]'(by simpa using c)=false:=by simp_all
  rw[B,List.count_set (by simpa using c),x,wO2 (by rfl),wN2 (by decide)];omega
theorem hH1 (K:iB P T) (y:P.follows .mixedOrders=true) {ex:Nat->Bool->IC->St->aB (Ex×St)} (A:nO P ex) (B:oV ex):Pm P T ex:=by
 intro lim ops ios σ E fs id hc l z k r g a w n base O f hl hb M;obtain⟨st,ft,v,_,q,x,D,J⟩:=Lb ios 0 σ (fun _=>{}) E fs z;simp only[yP2]at x D J;have hlen:fs.length=ios.length:=by rw[D,revF_length]
 rw[D,revF_length]at k;simp only[Yx,wL2,wR2]at l;obtain⟨r1,r2⟩:=l
 have R:tV P T ex lim ops ios st ft v:=by
  refine⟨hc,fun j o C e he L=>?_,fun j o C i p hi hp=>?_,J,yB k,B,by rw[q];exact f.wf⟩;have:=r1 (o,j) (by rw[xE2];exact⟨j,by simp[C]⟩);simp only[wR2,wY2,xG2,wS2]at this;rcases this e he with h|h
  grind
  exact h;have:=r2 (o,j) (by rw[xE2];exact⟨j,by simp[C]⟩);have h:=yA this i p hp (by omega);rw[yP2]at h;exact h
 have N:=R.size;refine wpIn_region_any y ?_;have hw:jZ P g {w with drawn:=w.drawn+1} σ.s:=⟨fun id ao h=>(f.H id ao h).mono (.refl g) rfl (fun _ _=>rfl),⟨f.W.still,f.W.lt,f.W.out,f.W.inj⟩,f.dom,f.wf⟩
 have F:pZ lim g g w {w with drawn:=w.drawn+1}:=⟨.refl g,wK2 _,fun _ _ _=>rfl,fun id loc h=>.inl ⟨loc,h,rfl⟩,fun _ _=>rfl,rfl,rfl,rfl,fun _ _ h=>.inl h,fun _ R h=>⟨R,h⟩⟩
 refine aE1 (base:=base) (g0:=g) (w0:=w) R A K (by rw[q];exact hl) ?_ ops.size (Array.replicate ops.size false) g a _ (by simp) (by simp) ?_;intro S g' a' w' G u;refine⟨rfl,g',?_⟩
 have b:∀id,gY st ft S ios.length id=look E.s.h id:=fun id=>by
  rw[Bb R (wK2 _) (fun i hi _=>G i hi),x]
 have m:tl ios st v S ios.length=E.t:=by
  rw[<-x];exact aD3 (fun t=>tlA R (wK2 _) (fun i hi _=>G i hi))
 have d:=R.mono (i:=0) (j:=ios.length) (by omega) (wK2 _);rw[q,x]at d;refine⟨by rw[<-m];exact u.t,⟨fun id ao h=>u.H id ao (by rw[b];exact h),u.W,fun id h=>?_,by have:=R.wf (wK2 ios.length);rw[x]at this;exact this⟩,u.ext,d,u.marks⟩;rcases u.dom id h with h1|⟨i,h1,h2,h3⟩
 rw[q]at h1;omega;rw[R.al h1]at h3;have:=R.mono (i:=i+1) (j:=ios.length) (by omega) (wK2 _);rw[x]at this;omega
 have c:∀i,eU (Array.replicate ops.size false) i=false:=by
  intro i;simp only[eU];by_cases h:i<ops.size;simp[h];simp[h]
 have b:∀id,gY st ft (eU (Array.replicate ops.size false)) ios.length id=look σ.s.h id:=by
  intro id;rw[yC (j:=0) (by omega) (fun i _ _ h=>by rw[c i]at h;cases h),<-q];rfl
 have m:tl ios st v (eU (Array.replicate ops.size false)) ios.length=σ.t:=by
  rw[<-q];have h2:∀t,(tl ios st v (eU (Array.replicate ops.size false)) ios.length)[t]? =(tl ios st v (eU (Array.replicate ops.size false)) 0)[t]? :=fun t=>tlB (by omega) (fun i _ _ h=>by rw[c i]at h;cases h);exact aD3 h2
 exact⟨F,hw.W,fun id ao h=>hw.H id ao (by rw[<-b];exact h),fun id h=>.inl (by rw[q];exact hw.dom id h),by rw[m];exact O,M.ext F,fun i oi h=>by rw[c i]at h;cases h⟩
theorem Bg (b:iB P T) (a:P.follows .mixedOrders=true) (d:Nat):nO P (exec T d):=hA1 b (fun d h=>hH1 b a h (Av T d)) d
end
end Go.Sim
namespace Go.Sim
open Go.RowKit
def gW (w:World):Gh:={G:=fun b=>w.heap[b]?,ι:=fun _=>none}
theorem Vp (P:Program) (w:World):jZ P (gW w) w {h:=[],n:=0}:=
 ⟨fun id ao h=>by simp[look]at h,⟨fun b o h=>h,fun id loc h=>by simp[gW]at h,fun id loc h=>by simp[gW]at h,fun id id' loc loc' h=>by simp[gW]at h⟩,fun id h=>by simp[gW]at h,trivial⟩
theorem Vq {P:Program} {T:jA} (g:iB P T) (a:P.follows .mixedOrders=true) {f:FuncId} {args:aA AV} {Args:Array Value} {d:Nat} {s':Hp} {w:World} {x:Value} (hg:Value.ground x=true)
  (h:callF T (exec T d) 0 f args {h:=[],n:=0}=some (.v x,s')) (i:TR (gW w) args Args.toList):Calls P f Args w fun e w'=>e=.returned x/\Below w.heap.size w w':=by
 have h1:=uF (n:=0) (Bg g a d) g h i (Vp P w) (wK2 _);refine callsIn_wide.1 (CallsIn.mono (F:=Fence.wide) h1 ?_);rintro e w' ⟨V,g',rfl,j,k,c,l⟩;refine⟨by rw[j.ground],⟨c.os,c.tape,c.output,c.size,fun b hb=>c.keep b hb (fun id loc _ hi=>by simp[gW]at hi)⟩⟩
def aF1 (P:Program):aA Field->Nat->Nat->Bool
 |[],off,m=>off==m
 |f::fs,off,m=>f.offset==off&&aF1 P fs (off+P.cellsOf f.type) m
def fZ (P:Program):Nat->TypeId->Bool
 |0,_=>false
 |d+1,t=>
  match P.underlying t with
  |some .bool|some (.int _)|some .string=>true
  |some (.slice e)=>P.cellsOf e !=0&&fZ P d e
  |some (.struct fs)=>aF1 P fs.toList 0 (P.cellsOf t)&&fs.toList.all fun f=>fZ P d f.type
  |some (.array n e)=>P.cellsOf t==n*P.cellsOf e&&fZ P d e
  |_=>false
def hJ1 (F:TypeId->aA AV->Prop) (P:Program):aA Field->aA AV->Prop
 |[],cs=>cs=[]
 |f::fs,cs=>∃c1 c2,cs=c1++c2/\c1.length=P.cellsOf f.type/\F f.type c1/\hJ1 F P fs c2
def lI (P:Program):Nat->TypeId->aA AV->Prop
 |0,_,_=>False
 |d+1,t,cs=>
  match P.underlying t with
  |some .bool=>∃b,cs=[.v (.bool b)]
  |some (.int k)=>∃n,cs=[.v (.int k n)]/\(Lit.int k n).wf=true
  |some .string=>∃s:ByteArray,cs=[.v (.string s)]/\s.size<=maxLen
  |some (.slice e)=>cs=[.v (.slice none 0 0)]\/∃els:aA (aA AV),cs=[.is (P.cellsOf e) els]/\els.length<=maxLen/\∀row∈els,row.length=P.cellsOf e/\lI P d e row
  |some (.struct fs)=>hJ1 (lI P d) P fs.toList cs
  |some (.array n e)=>∃rows:aA (aA AV),cs=rows.flatten/\rows.length=n/\∀row∈rows,row.length=P.cellsOf e/\lI P d e row
  |_=>False
theorem mP {α β:Type} {f:α->aB β}:∀{l:aA α} {r:aA β},l.mapM f=some r->r.length=l.length/\∀(i:Nat) (x:α),l[i]? =some x->∃y,f x=some y/\r[i]? =some y
 |[],r,h=>by grind
 |a::l,r,h=>by
  simp only[zY2,Option.bind_eq_bind,wH2,Option.pure_def,wP2]at h
  obtain⟨b,hb,g,c,rfl⟩:=h
  obtain⟨h1,h2⟩:=mP c
  refine⟨by simp[h1],fun i x hi=>?_⟩
  cases i with
  |zero=>simp at hi;subst hi;exact⟨b,hb,rfl⟩
  |succ i=>simp at hi;obtain⟨y,d,e⟩:=h2 i x hi;exact⟨y,d,by simpa using e⟩
theorem wN {w:World} {base:Nat} {a:Addr} {n:Nat} {cs:aA Value} (h:w.cells? base a n=some cs):cs.length=n/\∀i,i<n->w.cell? (a.add i)=cs[i]? :=by
 unfold World.cells? at h;split at h;obtain⟨h1,h2⟩:=mP h;refine⟨by simpa using h1,fun i hi=>?_⟩;obtain⟨y,b,c⟩:=h2 i i (by simp[hi]);rw[b,c];cases h
theorem hK1 {w:World} {a:Addr} {j:Nat} {y:Value} (h:w.cell? (a.add j)=some y) (hs:a.spot=none):(gW w).cell a j=some y:=by
 have d:a.add j=⟨a.block,a.off+j,none⟩:=by
  obtain⟨b,o,s⟩:=a;simp only at hs;subst hs;exact iI b o j
 rw[d]at h;unfold World.cell? at h;split at h;rename_i c e fr hb;simp only at hb;simp only[Gh.cell,gW,hb];simpa using h;cases h
theorem qM {α:Type} {Q:Nat->α->Prop}:∀{n:Nat},(∀i,i<n->∃x,Q i x)->∃l:aA α,l.length=n/\∀(i:Nat) (x:α),l[i]? =some x->Q i x
 |0,_=>⟨[],rfl,fun i x h=>by simp at h⟩
 |n+1,h=>by
  obtain⟨l,h1,h2⟩:=qM (n:=n) (fun i hi=>h i (by omega))
  obtain⟨x,a⟩:=h n (by omega)
  refine⟨l++[x],by simp[h1],fun i y hy=>?_⟩
  rw[yL2]at hy
  split at hy
  exact h2 i y hy
  grind
theorem TR.of_parts {g:Gh} {c1 c2:aA AV} {C:aA Value} {k:Nat} (h1:TR g c1 (C.take k)) (h2:TR g c2 (C.drop k)):TR g (c1++c2) C:=by
 have:=h1.app h2
 rwa [zX2]at this
section
variable {H:Type} {enc:TypeId×Value->H} {P:Program} {w:World} {held:Bool}
def Rd (P:Program) (w:World) (D:Nat) (t:TypeId) (Cs:aA Value):Prop:=∃cs,TR (gW w) cs Cs/\lI P D t cs/\∀y∈Cs,isCell y=true
theorem yD {D a:Nat} (IH:∀t Cs g ps,DataW.trod enc P w 0 (fun _=>true) held a t Cs=some (g,ps)->fZ P D t=true->Rd P w D t Cs):∀(fs:aA Field) (off m:Nat) (Cs:aA Value) (xs:aA (DataW H×aA MemPlace)),
  fs.mapM (fun f=>DataW.trod enc P w 0 (fun _=>true) held a f.type ((Cs.drop f.offset).take (P.cellsOf f.type)))=some xs->aF1 P fs off m=true->(fs.all fun f=>fZ P D f.type)=true->Cs.length=m->
  ∃cs,TR (gW w) cs (Cs.drop off)/\hJ1 (lI P D) P fs cs/\(∀y∈Cs.drop off,isCell y=true)/\off<=m
 |[],off,m,Cs,xs,h,hs,hp,hl=>by
  simp only[aF1,yI2]at hs
  subst hs
  have:Cs.drop off=[]:=by rw[List.drop_eq_nil_iff];omega
  rw[this]
  exact⟨[],.nil _,rfl,fun y h=>by simp at h,wK2 _⟩
 |f::fs,off,m,Cs,xs,h,hs,hp,hl=>by
  simp only[zY2,Option.bind_eq_bind,wH2,Option.pure_def,wP2]at h
  obtain⟨b,hb,e,d,rfl⟩:=h
  simp only[aF1,wL2,yI2]at hs
  obtain⟨rfl,hs⟩:=hs
  simp only[yS2,wL2]at hp
  obtain⟨cs2,i,j,k,l⟩:=yD IH fs (f.offset+P.cellsOf f.type) m Cs e d hs hp.2 hl
  obtain⟨c,q1,q2,q3⟩:=IH f.type _ b.1 b.2 hb hp.1
  have hd:(Cs.drop f.offset).drop (P.cellsOf f.type)=Cs.drop (f.offset+P.cellsOf f.type):=by rw[zL2]
  refine⟨c++cs2,TR.of_parts q1 (by rw[hd];exact i),⟨c,cs2,rfl,?_,q2,j⟩,fun y hy=>?_,by omega⟩
  rw[q1.1,zJ2,List.length_drop]
  omega
  rw[<-zX2 (P.cellsOf f.type) (Cs.drop f.offset),hd,xV2]at hy
  rcases hy with hy|hy
  exact q3 y hy
  exact k y hy
theorem Vr {a:Nat} {t:TypeId} {Cs:aA Value} {x:DataW H×aA MemPlace} (c:P.underlying t=some .bool) (h:DataW.trod enc P w 0 (fun _=>true) held (a+1) t Cs=some x):∃b,Cs=[.bool b]:=by
 unfold DataW.trod at h;rw[c]at h;split at h<;>simp_all
theorem aG1 {a:Nat} {t:TypeId} {Cs:aA Value} {k:IntKind} {x:DataW H×aA MemPlace} (b:P.underlying t=some (.int k)) (h:DataW.trod enc P w 0 (fun _=>true) held (a+1) t Cs=some x):∃n,Cs=[.int k n]/\(Lit.int k n).wf=true:=by
 unfold DataW.trod at h;rw[b]at h;split at h<;>simp_all
theorem Lg {a:Nat} {t:TypeId} {Cs:aA Value} {x:DataW H×aA MemPlace} (b:P.underlying t=some .string) (h:DataW.trod enc P w 0 (fun _=>true) held (a+1) t Cs=some x):∃s:ByteArray,Cs=[.string s]/\s.size<=maxLen:=by
 unfold DataW.trod at h;rw[b]at h;split at h<;>simp_all
theorem Lh {a:Nat} {t:TypeId} {fs:Array Field} {Cs:aA Value} {x:DataW H×aA MemPlace} (b:P.underlying t=some (.struct fs)) (h:DataW.trod enc P w 0 (fun _=>true) held (a+1) t Cs=some x):
  Cs.length=P.cellsOf t/\∃xs,fs.toList.mapM (fun f=>DataW.trod enc P w 0 (fun _=>true) held a f.type ((Cs.drop f.offset).take (P.cellsOf f.type)))=some xs:=by
 unfold DataW.trod at h;rw[b]at h;split at h<;>simp_all;obtain⟨_,y,h,_⟩:=h;exact⟨y,h⟩
theorem Po {a n:Nat} {t e:TypeId} {Cs:aA Value} {x:DataW H×aA MemPlace} (b:P.underlying t=some (.array n e)) (h:DataW.trod enc P w 0 (fun _=>true) held (a+1) t Cs=some x):
  Cs.length=P.cellsOf t/\∃xs,(List.range n).mapM (fun i=>DataW.trod enc P w 0 (fun _=>true) held a e ((Cs.drop (i*P.cellsOf e)).take (P.cellsOf e)))=some xs:=by
 unfold DataW.trod at h;rw[b]at h;split at h<;>simp_all;obtain⟨_,y,h,_⟩:=h;exact⟨y,h⟩
theorem Pp {c:Nat} {t e:TypeId} {Cs:aA Value} {x:DataW H×aA MemPlace} (k:P.underlying t=some (.slice e)) (h:DataW.trod enc P w 0 (fun _=>true) held (c+1) t Cs=some x):
  Cs=[.slice none 0 0]\/∃a len cap,Cs=[.slice (some a) len cap]/\len<=cap/\cap<=maxLen/\∀i,i<cap->∃row y,w.cells? 0 (a.add (i*P.cellsOf e)) (P.cellsOf e)=some row/\DataW.trod enc P w 0 (fun _=>true) held c e row=some y:=by
 unfold DataW.trod at h;rw[k]at h;split at h
 all_goals first|(simp_all;done)|skip
 rename_i e' a len cap he;cases he;right;simp only at h;split at h
 .rename_i hc
  obtain⟨_,c1,c2⟩:=hc;simp only[wH2,xM2,wM2]at h;obtain⟨d,h1,cU,h2,_⟩:=h;refine⟨a,len,cap,rfl,c1,c2,fun i hi=>?_⟩;by_cases f:i<len
  .obtain ⟨y,b,_⟩:=(mP h1).2 i i (yF2 f)
   simp only[wH2]at b;obtain⟨row,b,g⟩:=b;exact⟨row,y,b,g⟩
  .obtain ⟨y,b,_⟩:=(mP h2).2 (i-len) (i-len) (yF2 (by omega))
   have j:len+(i-len)=i:=by omega
   rw[j]at b;simp only[wH2]at b;obtain⟨row,b,g⟩:=b;exact⟨row,y,b,g⟩
 .cases h
theorem Sm:∀(D f:Nat) (t:TypeId) (Cs:aA Value) (E:DataW H) (ps:aA MemPlace),DataW.trod enc P w 0 (fun _=>true) held f t Cs=some (E,ps)->fZ P D t=true->Rd P w D t Cs
 |0,_,_,_,_,_,_,hp=>by simp[fZ]at hp
 |D+1,0,_,_,_,_,h,_=>by simp[DataW.trod]at h
 |D+1,f+1,t,Cs,E,ps,h,hp=>by
  have IH:=fun t Cs E ps=>Sm D f t Cs E ps
  have one:∀{x:AV} {y:Value},VR (gW w) x y->isCell y=true->lI P (D+1) t [x]->Rd P w (D+1) t [y]:=fun h1 h2 h3=>
   ⟨_,.cons h1 (.nil _),h3,fun y hy=>by simp at hy;subst hy;exact h2⟩
  unfold fZ at hp
  split at hp
  rename_i c
  obtain⟨b,rfl⟩:=Vr c h
  exact one (.v rfl) rfl (by simp[lI,c])
  rename_i k c
  obtain⟨n,rfl,V⟩:=aG1 c h
  exact one (.v rfl) rfl (by simp[lI,c];exact V)
  rename_i c
  obtain⟨s,rfl,hs⟩:=Lg c h
  exact one (.v rfl) rfl (by simp[lI,c];exact hs)
  rename_i e c
  simp only[wL2,bne_iff_ne,ne_eq]at hp
  obtain⟨h0,hp⟩:=hp
  rcases Pp c h with rfl|⟨a,len,cap,rfl,c1,c2,aO⟩
  exact one (x:=.v (.slice none 0 0)) (.v rfl) rfl (by simp[lI,c])
  by_cases J:cap=0
  have L:len=0:=by omega
  subst J;subst L
  exact one (x:=.is (P.cellsOf e) []) .is0 rfl (by simp[lI,c])
  have d:∀i,i<cap->∃row:aA AV,row.length=P.cellsOf e/\lI P D e row/\a.spot=none/\∀(j:Nat) (x:AV),row[j]? =some x->∃y,(gW w).cell a (i*P.cellsOf e+j)=some y/\isCell y=true/\VR (gW w) x y:=by
   intro i hi;obtain⟨row,y,N,O⟩:=aO i hi;obtain⟨Y,S⟩:=wN N;obtain⟨cs,q1,q2,q3⟩:=IH e row y.1 y.2 O hp
   have hs:a.spot=none:=by
    have h1:=S 0 (by omega);have h2:row[0]? =some row[0]:=by simp
    rw[h2]at h1;have h3:=World.cell?_spot h1;unfold Addr.add at h3;split at h3;split at h3;exact h3;rename_i W;obtain⟨C,_,M,_⟩:=aO 0 (by omega);obtain⟨Z,R⟩:=wN M;have h5:=R 0 (by omega);have F:C[0]? =some C[0]:=by simp
    rw[F]at h5;have G:=World.cell?_spot h5;simpa[Addr.add]using G;obtain⟨C,_,M,_⟩:=aO 0 (by omega);obtain⟨Z,R⟩:=wN M;have h5:=R 0 (by omega);have F:C[0]? =some C[0]:=by simp
    rw[F]at h5;have G:=World.cell?_spot h5;simpa[Addr.add]using G
   refine⟨cs,by rw[q1.1,Y],q2,hs,fun j x r=>?_⟩;have hj:j<row.length:=by rw[<-q1.1];exact(wI2.1 r).1
   have hc:=S j (by omega);have A:row[j]? =some row[j]:=by simp
   rw[A]at hc
   have U:(a.add (i*P.cellsOf e)).add j=a.add (i*P.cellsOf e+j):=by
    obtain⟨b,o,s⟩:=a;simp only at hs;subst hs;rw[iI,iI,iI,yB2]
   rw[U]at hc;exact⟨row[j],hK1 hc hs,q3 _ (by simp),q1.2 j x _ r A⟩
  obtain⟨els,z,e2⟩:=qM (n:=len) (fun i hi=>d i (by omega));obtain⟨_,_,_,hs,_⟩:=d 0 (by omega)
  have hv:VR (gW w) (.is (P.cellsOf e) els) (.slice (some a) els.length cap):=
   .is hs (by omega) (fun i row hr=>(e2 i row hr).1) (fun i row j x hr r=>by
    obtain⟨y,u,T,_⟩:=(e2 i row hr).2.2.2 j x r;exact⟨y,u,T⟩) (fun i row j x y hr r hy=>by
    obtain⟨y',u,T,y3⟩:=(e2 i row hr).2.2.2 j x r;rw[hy]at u;cases u;exact y3)
  rw[z]at hv;refine one hv rfl ?_;simp only[lI,c];refine .inr ⟨els,rfl,by omega,fun row hr=>?_⟩;obtain⟨i,hi⟩:=xE2.1 hr;exact⟨(e2 i row hi).1,(e2 i row hi).2.1⟩;rename_i fs c;simp only[wL2]at hp;obtain⟨hl,xs,q⟩:=Lh c h;obtain⟨cs,N,O,X,_⟩:=yD IH fs.toList 0 (P.cellsOf t) Cs xs q hp.1 hp.2 hl;exact⟨cs,by simpa using N,by simpa only[lI,c]using O,by simpa using X⟩;rename_i n e c;simp only[wL2,yI2]at hp;obtain⟨hl,xs,q⟩:=Po c h;rw[hp.1]at hl
  have d:∀i,i<n->∃row:aA AV,TR (gW w) row ((Cs.drop (i*P.cellsOf e)).take (P.cellsOf e))/\lI P D e row/\∀y∈(Cs.drop (i*P.cellsOf e)).take (P.cellsOf e),isCell y=true:=by
   intro i hi;obtain⟨y,u,_⟩:=(mP q).2 i i (by simp[hi]);exact IH e _ y.1 y.2 u hp.2
  obtain⟨rows,r1,r2⟩:=qM d
  have hlen:∀row∈rows,row.length=P.cellsOf e:=by
   intro row hr;obtain⟨i,hi⟩:=xE2.1 hr;have K:i<n:=by rw[<-r1];exact(wI2.1 hi).1
   rw[(r2 i row hi).1.1,zJ2,List.length_drop,hl];have:(i+1)*P.cellsOf e<=n*P.cellsOf e:=xK2 _ K;rw[xZ2]at this;omega
  have key:∀(m:Nat) (l:aA (aA AV)),l.length=m->(∀(i:Nat) (row:aA AV),l[i]? =some row->TR (gW w) row ((Cs.drop ((n-m+i)*P.cellsOf e)).take (P.cellsOf e))/\∀y∈(Cs.drop ((n-m+i)*P.cellsOf e)).take (P.cellsOf e),isCell y=true)->m<=n->
    TR (gW w) l.flatten (Cs.drop ((n-m)*P.cellsOf e))/\∀y∈Cs.drop ((n-m)*P.cellsOf e),isCell y=true:=by
   intro m
   induction m with
   |zero=>
    intro l p _ _;have:l=[]:=by cases l;rfl;simp at p
    subst this;have:Cs.drop ((n-0)*P.cellsOf e)=[]:=by rw[List.drop_eq_nil_iff,hl];simp
    rw[this];exact⟨.nil _,fun y h=>by simp at h⟩
   |succ m ih=>
    intro l p hr hm;cases l with
    |nil=>simp at p
    |cons row l=>
     have h0:=hr 0 row rfl;rw[zD2]at h0
     have g:=ih l (by simpa using p) (fun i B hi=>by
      have:=hr (i+1) B (by simpa using hi);have z:n-(m+1)+(i+1)=n-m+i:=by omega
      rwa [z]at this) (by omega)
     have hd:(Cs.drop ((n-(m+1))*P.cellsOf e)).drop (P.cellsOf e)=Cs.drop ((n-m)*P.cellsOf e):=by
      rw[zL2];congr 1;have:n-m=n-(m+1)+1:=by omega
      rw[this,xZ2]
     refine⟨by simpa using TR.of_parts h0.1 (by rw[hd];exact g.1),fun y hy=>?_⟩;rw[<-zX2 (P.cellsOf e) (Cs.drop ((n-(m+1))*P.cellsOf e)),hd,xV2]at hy;rcases hy with hy|hy;exact h0.2 y hy;exact g.2 y hy
  have hk:=key n rows r1 (fun i row hi=>by
   have z:n-n+i=i:=by omega
   rw[z];exact⟨(r2 i row hi).1,(r2 i row hi).2.2⟩) (wK2 _)
  simp only[Nat.sub_self,aG3,yH2]at hk;refine⟨rows.flatten,hk.1,?_,hk.2⟩;simp only[lI,c];refine⟨rows,rfl,r1,fun row hr=>⟨hlen row hr,?_⟩⟩;obtain⟨i,hi⟩:=xE2.1 hr;exact(r2 i row hi).2.1;cases hp
end
end Go.Sim
namespace Go.Sim
section
variable {T:jA} {ex ex':Nat->Bool->IC->St->Option (Ex×St)}
def uO (ex ex':Nat->Bool->IC->St->aB (Ex×St)):Prop:=∀lim rd c σ r,ex lim rd c σ=some r->ex' lim rd c σ=some r
theorem wO (b:uO ex ex') {lim:Nat} {fn:IFn} {args:aA AV} {s:Hp} {r:AV×Hp} (h:body ex lim fn args s=some r):body ex' lim fn args s=some r:=by
 unfold body at h ⊢;split at h;cases h;rename_i e σ a he;rw[b _ _ _ _ _ he];cases e with
 |exit id=>exact absurd rfl (a id)
 |normal=>exact h
 |ret=>exact h
 cases h
theorem mono_runP (a:uO ex ex') {f:FuncId} {fn:IFn} {args:aA AV} {r:AV} (h:runP T ex f fn args=some r):runP T ex' f fn args=some r:=by
 unfold runP at h ⊢;split at h;rename_i b;exact h;split at h;rename_i hb;rw[wO a hb];exact h;cases h
theorem sY (a:uO ex ex') {lim:Nat} {f:FuncId} {args:aA AV} {s:Hp} {r:AV×Hp} (h:callF T ex lim f args s=some r):callF T ex' lim f args s=some r:=by
 unfold callF at h ⊢;split at h;cases h;rename_i fn c
 (try simp only[c])
 split at h;rename_i hp;rw[wO2 hp];split at h;rename_i hc;rw[wO2 hc];simp only[wM2]at h;obtain⟨v,hv,rfl⟩:=h;rw[mono_runP a hv];rfl;rename_i hc;rw[wN2 hc];split at h;rename_i d;rw[wO2 d];split at h;rename_i as b
 (try simp only[b])
 split at h;rename_i hb;rw[mono_runP a hb];exact h;cases h;cases h;rename_i d;rw[wN2 d];split at h;rename_i hb;rw[wO a hb];exact h;cases h;rename_i hp;rw[wN2 hp];exact wO a h
theorem Pq (a:uO ex ex') {lim l:Nat} {args:aA AV} {s:Hp} {r:AV×Hp} (h:round ex lim l args s=some r):round ex' lim l args s=some r:=by
 unfold Sim.round at h ⊢;split at h;rename_i c
 (try simp only[c])
 split at h;rename_i hc;rw[wO2 hc];split at h;rename_i σ d;rw[a _ _ _ _ _ d];simp only;split at h;rename_i b
 (try simp only[b])
 split at h;rename_i hb;rw[a _ _ _ _ _ hb];exact h;rename_i hb;rw[a _ _ _ _ _ hb];exact h;rename_i hb;rw[a _ _ _ _ _ hb];exact h;cases h;cases h;cases h;cases h;cases h
theorem rP (a:uO ex ex') {lim:Nat} {k:fC} {xs:aA AV} {s:Hp} {r:AV×Hp} (h:step T ex lim k xs s=some r):step T ex' lim k xs s=some r:=by
 unfold step at h ⊢;split at h;exact sY a h;split at h;unfold callV at h ⊢;split at h;exact sY a h;exact Pq a h;cases h;cases h;exact h
theorem qN (b:uO ex ex') {lim:Nat}:∀{os:aA Sim.Op1} {σ τ:St},runOps T ex lim os σ=some τ->runOps T ex' lim os σ=some τ
 |[],σ,τ,h=>h
 |o::os,σ,τ,h=>by
  simp only[runOps]at h ⊢
  split at h
  rename_i hw
  rw[wO2 hw]
  split at h
  rename_i c
  (try simp only[c])
  split at h
  rename_i a
  simp only[rP b a]
  exact qN b h
  cases h
  cases h
  rename_i hw
  rw[wN2 hw]
  exact qN b h
theorem kG (c:uO ex ex') {lim:Nat} {before:aA Nat}:∀{os:aA Sim.Op1} {j:Nat} {fs:aA Foot} {σ:St} {r:St×aA Foot},dX T ex lim before os j fs σ=some r->dX T ex' lim before os j fs σ=some r
 |[],j,fs,σ,r,h=>h
 |o::os,j,fs,σ,r,h=>by
  simp only[dX]at h ⊢
  split at h
  rename_i hw
  rw[wO2 hw]
  split at h
  rename_i e
  (try simp only[e])
  split at h
  rename_i d
  rw[wO2 d]
  split at h
  rename_i a
  simp only[rP c a]
  exact kG c h
  cases h
  rename_i d
  rw[wN2 d]
  split at h
  rename_i b
  rw[wO2 b]
  split at h
  rename_i a
  simp only[Pd (fun _ _=>rP c) a]
  exact kG c h
  cases h
  rename_i b
  rw[wN2 b]
  split at h
  rename_i a
  simp only[rP c a]
  exact kG c h
  cases h
  cases h
  rename_i hw
  rw[wN2 hw]
  exact kG c h
theorem Ft (T:jA):∀d,uO (exec T d) (exec T (d+1))
 |0,lim,rd,c,σ,r,h=>by simp[exec]at h
 |d+1,lim,rd,c,σ,r,h=>by
  have ih:=Ft T d
  cases c with
  |skip=>simpa only[exec]using h
  |reg ops=>
   simp only[exec,wM2]at h
   obtain⟨τ,h,rfl⟩:=h
   rw[exec,qN ih h]
   rfl
  |regD ops before=>
   rw[exec]at h ⊢
   split at h
   rename_i hf
   rw[kG ih hf]
   exact h
   cases h
  |seq a b=>
   rw[exec]at h ⊢
   split at h
   rename_i i
   rw[ih _ _ _ _ _ i]
   exact ih _ _ _ _ _ h
   rename_i g
   have h2:=ih _ _ _ _ _ h
   rw[h2]
   obtain⟨e,τ⟩:=r
   cases e with
   |normal=>exact absurd h (g τ)
   |ret=>rfl
   |exit id=>rfl
  |cond c a b=>
   rw[exec]at h ⊢
   split at h
   rename_i hc
   (try simp only[hc])
   exact ih _ _ _ _ _ h
   cases h
  |block id c=>
   rw[exec]at h ⊢
   split at h
   rename_i i
   rw[ih _ _ _ _ _ i]
   exact h
   rename_i g
   have h2:=ih _ _ _ _ _ h
   rw[h2]
   obtain⟨e,τ⟩:=r
   cases e with
   |normal=>rfl
   |ret=>rfl
   |exit id=>exact absurd h (g _ _)
  |loop c=>
   rw[exec]at h ⊢
   split at h
   rename_i i
   rw[ih _ _ _ _ _ i]
   exact ih _ _ _ _ _ h
   rename_i e τ g i
   rw[ih _ _ _ _ _ i]
   cases e with
   |normal=>exact(g rfl).elim
   |ret=>exact h
   |exit id=>exact h
   cases h
  |rangeF f ps a b=>
   rw[exec]at h ⊢
   split at h
   rename_i j
   (try simp only[j])
   split at h
   rename_i hc
   simp only[sY ih hc]
   exact h
   cases h
   cases h
  |exit id=>simpa only[exec]using h
  |ret=>simpa only[exec]using h
theorem mono_le (T:jA) {d a:Nat} (h:d<=a):uO (exec T d) (exec T a):=by
 induction h with
 |refl=>exact fun _ _ _ _ _ h=>h
 |step _ ih=>exact fun _ _ _ _ _ h=>Ft T _ _ _ _ _ _ (ih _ _ _ _ _ h)
end
end Go.Sim
namespace Go.Sim
def jB (P:Program):Nat->aA (aB IFn)->Prop
 |_,[]=>True
 |i,none::r=>jB P (i+1) r
 |i,some ifn::r=>(∃fn,P.funcs[i]? =some fn/\lJ P fn ifn.pure ifn.frz=some ifn)/\jB P (i+1) r
theorem jB.get {P:Program}:∀{l:aA (aB IFn)} {i j:Nat} {ifn:IFn},jB P i l->l[j]? =some (some ifn)->∃fn,P.funcs[i+j]? =some fn/\lJ P fn ifn.pure ifn.frz=some ifn
 |[],i,j,ifn,_,h=>by simp at h
 |none::r,i,j,ifn,h,hj=>by
  cases j with
  |zero=>simp at hj
  |succ j=>
   have:=jB.get (l:=r) h (by simpa using hj)
   rwa [show i+1+j=i+(j+1)by omega]at this
 |some x::r,i,j,ifn,h,hj=>by
  cases j with
  |zero=>
   simp at hj
   subst hj
   exact h.1
  |succ j=>
   have:=jB.get (l:=r) h.2 (by simpa using hj)
   rwa [show i+1+j=i+(j+1)by omega]at this
def sL:aA (FuncId×aA AV×AV)->FuncId->aA AV->aB AV
 |[],_,_=>none
 |(f',as,v)::r,f,args=>if f=f'/\Kc (tX 20) args as=true then some v else sL r f args
def qO (P:Program):aA (FuncId×aA AV×AV)->Prop
 |[]=>True
 |(f,as,v)::r=>lV P f as v/\qO P r
theorem Li {P:Program}:∀{M:aA (FuncId×aA AV×AV)} {f:FuncId} {args:aA AV} {v:AV},qO P M->sL M f args=some v->lV P f args v
 |[],_,_,_,_,h=>by cases h
 |(f',as,v')::r,f,args,v,hM,h=>by
  simp only[sL]at h
  split at h
  rename_i hc
  cases h
  rw[hc.1,sR (uG 20) hc.2]
  exact hM.1
  exact Li hM.2 h
theorem oY {M:aA (FuncId×aA AV×AV)} {f:FuncId} (h:∀e∈M,e.1≠f) (args:aA AV):sL M f args=none:=by
 induction M with
 |nil=>rfl
 |cons e r ih=>
  obtain⟨a,as,v⟩:=e;simp only[sL];rw[wN2 (fun hc=>h (a,as,v) (by simp) hc.1.symm)];exact ih (fun e he=>h e (by simp[he]))
theorem jB.tab {P:Program} {l:aA (aB IFn)} {M:aA (FuncId×aA AV×AV)} (h:jB P 0 l) (a:qO P M):iB P ⟨fun f=>(l[f]?).join,sL M⟩:=by
 refine⟨fun f ifn hf=>?_,fun f args v b=>Li a b⟩;have:l[f]? =some (some ifn):=by grind
 have h2:=jB.get h this
 rwa [yP2]at h2
def aH1 (P:Program):aA Func->aA (aB IFn)->aA (aB IFn)
 |_,[]=>[]
 |[],_::_=>[]
 |_::fs,none::r=>none::aH1 P fs r
 |fn::fs,some x::r=>lJ P fn x.pure x.frz::aH1 P fs r
theorem jB.of {P:Program}:∀{l:aA (aB IFn)} {fs:aA Func} {i:Nat},P.funcs.toList.drop i=fs->aH1 P fs l=l->jB P i l
 |[],_,_,_,_=>trivial
 |o::r,[],i,_,h=>by cases o<;>cases h
 |none::r,f::fs,i,hd,h=>by
  have a:P.funcs.toList.drop (i+1)=fs:=by rw[<-zL2,hd];rfl
  exact jB.of (l:=r) a (List.cons.inj h).2
 |some x::r,f::fs,i,hd,h=>by
  have a:P.funcs.toList.drop (i+1)=fs:=by rw[<-zL2,hd];rfl
  have hi:P.funcs[i]? =some f:=by
   rw[<-yN2,<-List.head?_drop,hd];rfl
  exact⟨⟨f,hi,(List.cons.inj h).1⟩,jB.of (l:=r) a (List.cons.inj h).2⟩
theorem Bh {P:Program} {T:jA} (b:iB P T) (a:P.follows .mixedOrders=true) {f:FuncId} {fn:IFn} {args:aA AV} {v:AV} {d:Nat} (hf:T f=some fn) (hp:fn.pure=true) (hc:args.all (closed 4)=true)
  (h:runP T (exec T d) f fn args=some v):lV P f args v:=by
 intro g w s n Args e c;exact wK (Bg b a d) b hf hc h e c
end Go.Sim
namespace Go.Sim
open Go.RowKit Go.ChangeShapes Go.WideShapes
section
variable {H:Type} {enc:TypeId×Value->H} {P:Program} {W W':World}
theorem hL1 {a:Addr} {y:Value} (h:W.cell? a=some y):a.block<W.heap.size:=by
 unfold World.cell? at h;split at h
 grind
 cases h
theorem Pr (hb:Below W.heap.size W W') {a:Addr} {n:Nat} {cs:aA Value} (h:W.cells? 0 a n=some cs):W'.cells? 0 a n=some cs:=by
 unfold World.cells? at h ⊢;simp only[xA2,xM2]at h ⊢;exact mapM_mono (fun x y b=>by rw[hb.cell (hL1 b)];exact b) h
theorem oC {α β:Type} {f g:α->aB β}:∀{l:aA α} {r:aA β},l.mapM f=some r->(∀x y,x∈l->y∈r->f x=some y->g x=some y)->l.mapM g=some r
 |[],r,h,_=>by simpa using h
 |a::l,r,h,hk=>by
  simp only[zY2,Option.bind_eq_bind,wH2,Option.pure_def,wP2]at h
  obtain⟨b,hb,e,c,rfl⟩:=h
  have h1:=oC c (fun x y d hy=>hk x y (by simp[d]) (by simp[hy]))
  have h2:=hk a b (by simp) (by simp) hb
  simp[zY2,h1,h2]
theorem Fu (hb:Below W.heap.size W W') {held:Bool} {sp:Nat->Bool}:∀(b D:Nat) (t:TypeId) (cs:aA Value) (x:DataW H×aA MemPlace),fZ P D t=true->
  DataW.trod enc P W 0 (fun _=>true) held b t cs=some x->(∀q∈x.2,sp q.block=true)->DataW.trod enc P W' 0 sp held b t cs=some x
 |0,_,_,_,_,_,h,_=>by simp[DataW.trod]at h
 |b+1,0,_,_,_,hp,_,_=>by simp[fZ]at hp
 |b+1,D+1,t,cs,x,hp,h,hs=>by
  have IH:=Fu hb (held:=held) (sp:=sp) b D
  unfold fZ at hp
  split at hp
  .rename_i d
   unfold DataW.trod at h ⊢
   rw[d]at h ⊢
   split at h<;>simp_all
  .rename_i k d
   unfold DataW.trod at h ⊢
   rw[d]at h ⊢
   split at h<;>simp_all
  .rename_i d
   unfold DataW.trod at h ⊢
   rw[d]at h ⊢
   split at h<;>simp_all
  .rename_i e d
   simp only[wL2,bne_iff_ne,ne_eq]at hp
   obtain⟨h0,hp⟩:=hp
   unfold DataW.trod at h ⊢
   rw[d]at h ⊢
   split at h
   all_goals first|(simp_all;done)|skip
   rename_i e' a len cap he
   cases he
   simp only at h ⊢
   split at h
   .rename_i hc
    rw[wO2 hc]
    simp only[wH2,xM2,wM2]at h
    obtain⟨c,h1,cU,h2,rfl⟩:=h
    simp only[xV2]at hs
    have el:∀(i:Nat) (y:DataW H×aA MemPlace),(y∈c\/y∈cU)->((W.cells? 0 (a.add (i*P.cellsOf e)) (P.cellsOf e)).bind (DataW.trod enc P W 0 (fun _=>true) held b e))=some y->
      ((W'.cells? 0 (a.add (i*P.cellsOf e)) (P.cellsOf e)).bind (DataW.trod enc P W' 0 sp held b e))=some y:=by
     intro i y hy h;simp only[wH2]at h ⊢;obtain⟨row,v,w⟩:=h;refine⟨row,Pr hb v,IH e row y hp w (fun q l=>hs q (Or.inr ?_))⟩;rw[List.mem_flatMap];exact⟨y,by simpa using hy,l⟩
    have m:=oC h1 (g:=fun i=>(W'.cells? 0 (a.add (i*P.cellsOf e)) (P.cellsOf e)).bind (DataW.trod enc P W' 0 sp held b e)) (fun i y _ hy h=>el i y (Or.inl hy) h);have o:=oC h2 (g:=fun j=>(W'.cells? 0 (a.add ((len+j)*P.cellsOf e)) (P.cellsOf e)).bind (DataW.trod enc P W' 0 sp held b e)) (fun i y _ hy h=>el (len+i) y (Or.inr hy) h);rw[m];simp only[wJ2];by_cases r:cap=0
    .grind
    .have p:sp a.block=true:=by
      have hlen:c.length+cU.length=cap:=by
       have s:=(mP h1).1;have e2:=(mP h2).1;simp at s e2;omega
      refine hs (.cell a.block (a.off+0)) (Or.inl ?_);unfold MemPlace.row;rw[zR2];refine⟨0,?_,rfl⟩;rw[aI3,hlen];exact Nat.mul_pos (by omega) (by omega)
     rw[wO2 p,o];rfl
   .cases h
  .rename_i fs d
   simp only[wL2]at hp;unfold DataW.trod at h ⊢;rw[d]at h ⊢;split at h
   all_goals first|(simp_all;done)|skip
   rename_i u he;cases he;split at h
   .rename_i hc
    rw[wO2 hc];simp only[wM2]at h ⊢;obtain⟨xs,h1,rfl⟩:=h;refine⟨xs,oC h1 (fun f y hf hy h=>IH f.type _ y ?_ h (fun q l=>hs q ?_)),rfl⟩
    .grind
    .grind
   .cases h
  .rename_i n e d
   simp only[wL2,yI2]at hp;unfold DataW.trod at h ⊢;rw[d]at h ⊢;split at h
   all_goals first|(simp_all;done)|skip
   rename_i n' e' he;cases he;split at h
   .rename_i hc
    rw[wO2 hc];simp only[wM2]at h ⊢;obtain⟨xs,h1,rfl⟩:=h;refine⟨xs,oC h1 (fun i y hi hy h=>IH e _ y hp.2 h (fun q l=>hs q ?_)),rfl⟩;rw[List.mem_flatMap];exact⟨y,hy,l⟩
   .cases h
  .cases hp
theorem uP (hb:Below W.heap.size W W') {held:Bool} {sp:Nat->Bool} {D:Nat}:∀(c:aA TypeId) (vs:aA Value) (a:aA (DataW H)) (ps:aA MemPlace),(c.all fun t=>fZ P D t)=true->
  DataW.TrodAll enc P W 0 (fun _=>true) held c vs a ps->(∀q∈ps,sp q.block=true)->DataW.TrodAll enc P W' 0 sp held c vs a ps
 |[],vs,a,ps,_,h,_=>by
  match vs,a,h with
  |[],[],h=>exact h
 |t::c,vs,a,ps,hp,h,hs=>by
  match vs,a,h with
  |v::vs,d::a,h=>
   obtain⟨p,q,⟨b,h1⟩,h2,rfl⟩:=h
   simp only[yS2,wL2]at hp
   exact⟨p,q,⟨b,Fu hb b D t _ _ hp.1 h1 (fun x e=>hs x (by simp[e]))⟩,uP hb c vs a q hp.2 h2 (fun x e=>hs x (by simp[e])),rfl⟩
def rA1 (P:Program) (W:World) (D:Nat) (t:TypeId) (x:AV) (V:Value):Prop:=
 VR (gW W) x V/\∃cs,lI P D t cs/\x=(if dB P t then .agg cs else cs.headD .undef)
theorem rB1 {D a:Nat} {t:TypeId} {V:Value} {x:DataW H×aA MemPlace} (b:(∃cs,V=.agg cs)↔dB P t=true) (g:∀cs,V≠.tuple cs) (hp:fZ P D t=true)
  (h:DataW.trod enc P W 0 (fun _=>true) true a t V.cells.toList=some x):∃y,rA1 P W D t y V:=by
 obtain⟨cs,h1,h2,h3⟩:=Sm D a t _ x.1 x.2 h hp;by_cases d:dB P t=true;obtain⟨Cs,rfl⟩:=b.2 d;refine⟨.agg cs,.agg (by simpa[Value.cells]using h1.1) (fun i y hy=>h3 y ?_) (fun i x y j hy=>h1.2 i x y j (by simpa[Value.cells]using hy)),cs,h2,by rw[wO2 d]⟩;simp only[Value.cells];exact wT2 (by simpa using hy);have f:∀Cs,V≠.agg Cs:=fun Cs e=>d (b.1 ⟨Cs,e⟩);have hc:V.cells=#[V]:=by cases V<;>simp_all[Value.cells]
 rw[hc]at h1;have hl:=h1.1
 match cs,hl,h1,h2 with
 |[c],_,h1,h2=>exact⟨c,h1.head,[c],h2,by rw[wN2 d];rfl⟩
end
end Go.Sim
namespace Go.Sim
open Go.RowKit Go.ChangeShapes Go.WideShapes Go.ChangeAt
section
variable {H:Type} {enc:TypeId×Value->H} {P:Program} {W W':World}
theorem Ps {D:Nat} {t:TypeId} {base:Nat} {V:Value} (hp:fZ P D t=true) (a:Value.okWide P W .any base t V):((∃cs,V=.agg cs)↔dB P t=true)/\∀cs,V≠.tuple cs:=by
 cases D with
 |zero=>simp[fZ]at hp
 |succ D=>
 unfold fZ at hp;unfold Value.okWide at a;unfold dB;split at hp;rename_i b;rw[b]at a ⊢;simp only[Cell.okWide,b]at a;cases V<;>simp_all[Cell.ok];rename_i b;rw[b]at a ⊢;simp only[Cell.okWide,b]at a;cases V<;>simp_all[Cell.ok];rename_i b;rw[b]at a ⊢;simp only[Cell.okWide,b]at a;cases V<;>simp_all[Cell.ok];rename_i b;rw[b]at a ⊢;simp only[Cell.okWide,b]at a;cases V<;>simp_all[Cell.ok]
 grind
 grind
 cases hp
def sM (P:Program) (W:World) (D:Nat):aA TypeId->aA AV->aA Value->Prop
 |[],[],[]=>True
 |t::ts,x::xs,V::Vs=>rA1 P W D t x V/\sM P W D ts xs Vs
 |_,_,_=>False
theorem Sn {D base:Nat}:∀{e:aA TypeId} {vs:aA Value} {c:aA (DataW H)} {ps:aA MemPlace},(e.all fun t=>fZ P D t)=true->
  (∀(j:Nat) t v,e[j]? =some t->vs[j]? =some v->Value.okWide P W .any base t v)->
  DataW.TrodAll enc P W 0 (fun _=>true) true e vs c ps->∃xs,sM P W D e xs vs
 |[],vs,c,ps,_,_,h=>by
  match vs,c,h with
  |[],[],h=>exact⟨[],trivial⟩
 |t::e,vs,c,ps,hp,hok,h=>by
  match vs,c,h with
  |v::vs,d::c,h=>
   obtain⟨p,q,⟨g,h1⟩,h2,rfl⟩:=h
   simp only[yS2,wL2]at hp
   obtain⟨k,l⟩:=Ps hp.1 (hok 0 t v rfl rfl)
   obtain⟨x,i⟩:=rB1 k l hp.1 h1
   obtain⟨xs,f⟩:=Sn hp.2 (fun j t v a b=>hok (j+1) t v (by simpa using a) (by simpa using b)) h2
   exact⟨x::xs,i,f⟩
theorem sM.tr {D:Nat}:∀{a:aA TypeId} {xs:aA AV} {vs:aA Value},sM P W D a xs vs->TR (gW W) xs vs
 |[],[],[],_=>.nil _
 |_::_,_::_,_::_,h=>.cons h.1.1 (sM.tr h.2)
theorem yE {sp:Nat->Bool} {base:Nat} {held:Bool}:∀{b:aA TypeId} {vs:aA Value} {a:aA (DataW H)} {ps:aA MemPlace},DataW.TrodAll enc P W base sp held b vs a ps->a.length=b.length/\vs.length=b.length
 |[],vs,a,ps,h=>by
  match vs,a,h with
  |[],[],h=>exact⟨rfl,rfl⟩
 |t::b,vs,a,ps,h=>by
  match vs,a,h with
  |v::vs,d::a,⟨p,q,h1,h2,_⟩=>
   obtain⟨c,e⟩:=yE h2
   exact⟨by simp[c],by simp[e]⟩
end
theorem Hv {C:Checked} {f:FuncId} {fn:Func} {s:ChangeSpec} {d fresh g:Bool} {D:Nat} {tb:TypeId} {H:Type} {enc:TypeId×Value->H}
  (i:s.vars=[]) (m:∀k:aA (DataW H),k.length=fn.params.toList.length->s.fn H k={results:=[.lit (.bool true)],args:=k})
  (r:fn.resultTypes=#[tb]) (F:C.prog.underlying tb=some .bool) (c:(fn.params.toList.all fun t=>fZ C.prog D t)=true)
  (w:∀(W:World) (xs:aA AV) (args:Array Value),sM C.prog W D fn.params.toList xs args.toList->Calls C.prog f args W fun e W'=>e=.returned (.bool true)/\Below W.heap.size W W')
  (W:World) (base:Nat) (args:Array Value) (k A:aA (DataW H)) (before:aA MemPlace)
  (u:∀(j:Nat) t v,fn.params[j]? =some t->args[j]? =some v->Value.okWide C.prog W .any base t v)
  (J:DataW.Whole enc C.prog fn.params.toList s.vars d W args.toList k A before):
  Calls C.prog f args W fun e W'=>∃v,e=.returned v/\s.post enc C.prog fn d fresh g false W args v W':=by
 have n:=J;obtain⟨p,q,B,y,rfl,K,L⟩:=J
 have E:A=[]/\q=[]:=by
  rw[i]at y
  match A,y with
  |[],y=>exact⟨rfl,y⟩
 obtain⟨rfl,rfl⟩:=E;obtain⟨xs,G⟩:=Sn c (fun j t v a b=>u j t v (by simpa using a) (by simpa using b)) B;refine(w W xs args G).mono fun e W' ⟨he,hb⟩=>?_;subst he;have l:=m k (yE B).1
 have o:∀x∈p,(decide (x.block<W.heap.size))=true:=fun x z=>by
  have:=n.lt x (by simp[z]);simpa using this
 refine⟨_,rfl,k,[],p++[],[],p,[],n,?_,?_,?_,World.keptBut_mono (fun x z=>⟨z,by simpa using z⟩) (hb.frame (· ∈p++[])),fun h=>by cases h⟩;rw[zP2,l,r];exact trodAll_mk1 (shut_bool F _);rw[zP2,l];exact uP hb _ _ _ _ c B o;rw[zP2,l,i];rfl
end Go.Sim
