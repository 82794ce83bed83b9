import Derived.Test.YtfdbgfhnlgbonaaGreatLaA
import Derived.ControlIn
import Derived.LoopNIn
import GoSem.ClaimChange
import Derived.Below
import Derived.DataReads
import Derived.ChangeSame
import Derived.ProofKit
import Derived.OpenShut
/- A text of the proof. -/
set_option linter.all false
namespace Go.Sim
structure kB (s s':Hp):Prop where
 wf:Wf s.h s.n->Wf s'.h s'.n
 n:s.n<=s'.n
def kB.refl (s:Hp):kB s s:=⟨id,aC3 _⟩
def kB.trans {a b c:Hp} (h:kB a b) (k:kB b c):kB a c:=⟨fun w=>k.wf (h.wf w),bB3 h.n k.n⟩
def Nt (out:Out) (s:Hp):kB s (out.apply s):=by
 constructor;intro hw
 have a:Wf (match out.up with|some (id,ob)=>upd s.h id ob|none=>s.h) s.n:=by
  split;exact hw.upd _ _;exact hw
 simp only[Out.apply];split;exact⟨by simp,a⟩;exact a;simp only[Out.apply];split;simp;exact aC3 _
def Ih (s:Hp) (id:Nat) (o:AO):kB s {h:=upd s.h id o,n:=s.n}:=⟨fun h=>h.upd _ _,aC3 _⟩
section
variable {T:kG} {ex:Nat->Bool->IC->St->Option (Ex×St)}
def rE (ex:Nat->Bool->IC->St->aB (Ex×St)):Prop:=∀lim rd c σ e a,ex lim rd c σ=some (e,a)->kB σ.s a.s
def Se (b:rE ex) {lim:Nat} {fn:IFn} {args:aA AV} {s s':Hp} {v:AV} (h:body ex lim fn args s=some (v,s')):kB s s':=by
 unfold body at h;split at h;cases h;rename_i e σ a he;simp only[aB3,aW3]at h;obtain⟨v',_,_,rfl⟩:=h;exact b _ _ _ _ _ _ he;cases h
def sT (a:rE ex) {lim:Nat} {f:FuncId} {args:aA AV} {s s':Hp} {v:AV} (h:callF T ex lim f args s=some (v,s')):kB s s':=by
 unfold callF at h;split at h;cases h;split at h;split at h;simp only[aB3,aW3]at h;obtain⟨_,_,_,rfl⟩:=h;exact .refl _;split at h;split at h;split at h;split at h;cases h;exact .refl _;cases h;cases h;cases h;split at h;simp only[aB3,aW3]at h;obtain⟨_,_,_,rfl⟩:=h;exact .refl _;cases h;exact Se a h
def sU {l:Nat} {s s':Hp} {st:LoopState} {pend:aB IC} (h:endRound l s st pend=some s'):kB s s':=by
 obtain⟨_,_,_,_,_,_,_,rfl⟩:=pV h;exact Ih _ _ _
def Nu (d:rE ex) {lim l:Nat} {args:aA AV} {s s':Hp} {v:AV} (h:round ex lim l args s=some (v,s')):kB s s':=by
 unfold Sim.round at h;split at h;split at h;split at h;rename_i σ f;have h1:=d _ _ _ _ _ _ f;split at h
 have fin:∀{e:Ex} {τ:St} {id:Nat} {o:AO} {lim:Nat} {rd:Bool} {c:IC} {st:LoopState} {pend:aB IC} {b:AV},ex lim rd c {t:=σ.t,s:={h:=upd σ.s.h id o,n:=σ.s.n}}=some (e,τ)->
   (endRound l τ.s st pend).map (fun s=>(b,s))=some (v,s')->kB s s':=by
  intro e τ id o lim rd c st pend b hb a;simp only[aB3,aW3]at a;obtain⟨g,a,_,rfl⟩:=a;exact((h1.trans (Ih _ id o)).trans (d _ _ _ _ _ _ hb)).trans (sU a)
 split at h
 grind
 grind
 grind
 cases h;cases h;cases h;cases h;cases h
def oK (a:rE ex) {lim:Nat} {k:gC} {xs:aA AV} {s s':Hp} {v:AV} (h:step T ex lim k xs s=some (v,s')):kB s s':=by
 unfold step at h;split at h;exact sT a h;split at h;unfold callV at h;split at h;exact sT a h;exact Nu a h;cases h;cases h;split at h;cases h;exact Nt _ _;cases h
def rF (c:rE ex) {lim:Nat}:∀{os:aA Sim.Op1} {σ a:St},runOps T ex lim os σ=some a->kB σ.s a.s
 |[],σ,a,h=>by
  simp only[runOps,aF3]at h
  subst h
  exact .refl _
 |o::os,σ,a,h=>by
  simp only[runOps]at h
  split at h
  split at h
  split at h
  rename_i b
  exact(oK c b).trans (rF c h)
  cases h
  cases h
  have:=rF c h
  exact this
def Ao {c:Bool} {run:Hp->aB (AV×Hp)} (hr:∀s v s',run s=some (v,s')->kB s s') {hid:aA Nat} {xs:aA AV} {s b:Hp} {v:AV} {W:aA Nat} (h:callX c run hid xs s=some (v,b,W)):kB s b:=by
 obtain⟨a,s',w,_,h1,h2,rfl,_⟩:=rC h;have hg:=hr _ _ _ h1;exact⟨fun hw=>Wf.newOK (hw.updAll w) (hg.wf (hw.hide a)) hg.n,hg.n⟩
def kV (c:rE ex) {lim:Nat} {before:aA Nat}:∀{os:aA Sim.Op1} {j:Nat} {fs:aA Foot} {σ d:St} {a:aA Foot},eU T ex lim before os j fs σ=some (d,a)->kB σ.s d.s
 |[],j,fs,σ,d,a,h=>by
  simp only[eU,aF3,aW3]at h
  obtain⟨rfl,_⟩:=h
  exact .refl _
 |o::os,j,fs,σ,d,a,h=>by
  simp only[eU]at h
  split at h
  split at h
  split at h
  split at h
  have:=kV c h
  exact this
  cases h
  split at h
  split at h
  rename_i b
  exact(Ao (fun _ _ _=>oK c) b).trans (kV c h)
  cases h
  split at h
  rename_i b
  exact(oK c b).trans (kV c h)
  cases h
  cases h
  have:=kV c h
  exact this
def Ii {σ:Hp}:kB σ {h:=popMark σ.h,n:=σ.n}:=⟨fun h=>h.pop,aC3 _⟩
def Dz {σ:Hp}:kB σ {h:=.mark::σ.h,n:=σ.n}:=⟨fun h=>h,aC3 _⟩
def Ea (T:kG):∀d,rE (exec T d)
 |0,_,_,_,_,_,_,h=>by simp[exec]at h
 |d+1,lim,rd,c,σ,e,σ',h=>by
  have ih:=Ea T d
  unfold exec at h
  split at h
  cases h;exact .refl _
  simp only[aB3,aW3]at h
  obtain⟨τ,h,_,rfl⟩:=h
  exact rF ih h
  split at h
  rename_i hf
  split at h
  cases h
  exact kV ih hf
  cases h
  cases h
  split at h
  rename_i a
  exact(ih _ _ _ _ _ _ a).trans (ih _ _ _ _ _ _ h)
  exact ih _ _ _ _ _ _ h
  split at h
  exact ih _ _ _ _ _ _ h
  cases h
  split at h
  rename_i a
  split at h
  cases h;exact ih _ _ _ _ _ _ a
  cases h;exact ih _ _ _ _ _ _ a
  exact ih _ _ _ _ _ _ h
  split at h
  rename_i a
  exact((Dz.trans (ih _ _ _ _ _ _ a)).trans Ii).trans (ih _ _ _ _ _ _ h)
  rename_i a
  cases h
  exact(Dz.trans (ih _ _ _ _ _ _ a)).trans Ii
  cases h
  split at h
  split at h
  rename_i hc
  have h1:=sT ih hc
  have h2:∀o:AO,kB σ.s {h:=.ob σ.s.n o::σ.s.h,n:=σ.s.n+1}:=fun o=>⟨fun h=>⟨by simp,h⟩,by simp⟩
  have f:=(h2 _).trans h1
  split at h
  split at h
  cases h
  split at h
  cases h
  rename_i b
  have g:=f.trans (sU b)
  split at h<;>cases h<;>exact g
  cases h
  cases h
  cases h
  cases h;exact .refl _
  cases h;exact .refl _
end
end Go.Sim
namespace Go.Sim
section
variable {P:Program} {F:Fence} {n:Nat} {b:Frame} {a:Act} {k:List Item} {cs:List Frame} {w:World} {Q:Exit->Act->World->Prop}
def lJ {c:Code}:Go.step P (lone (b.atR a (.code (.scope c)::k)) cs w)=.next (lone (b.atR a (.code c::.inScope c::k)) cs w):=
 step_lone_go (by simp[stepG,stepG.exec,Frame.atR])
def He {c:Code}:Go.step P (lone (b.atR a (.inScope c::k)) cs w)=.next (lone (b.atR a k) cs w):=
 step_lone_go (by simp[stepG,stepG.exec,Frame.atR])
def Sf {c:Code} (hg:∀l a w,¬Q (.goto l) a w) (h:c.wpIn F n P Q a w):(Code.scope c).wpIn F n P Q a w:=by
 intro b k cs j hb hr;have h0:(lone (b.atR a (.code (.scope c)::k)) cs w).fenced P F:=fenced_calm hb hr rfl;obtain⟨e,g,w₁,f,d⟩:=h b (.inScope c::k) cs j hb hr;cases e with
 |normal=>exact⟨.normal,g,w₁,f,.head h0 lJ (StepsIn.trans d (.one (fenced_calm hb hr rfl) He))⟩
 |exit id=>
  have m:exitTo id (.inScope c::k)=exitTo id k:=by simp[exitTo]
  exact⟨.exit id,g,w₁,f,fun k' hk=>.head h0 lJ (d.1 k' (by rw[m];exact hk)),
   fun i hk=>let⟨o,h1,h2⟩:=d.2 i (by rw[m];exact hk);⟨o,h1,.head h0 lJ h2⟩⟩
 |goto l=>exact(hg _ _ _ f).elim
 |ret=>exact⟨_,g,w₁,f,.of_steps (.one h0 lJ) d⟩
 |panic ch=>exact⟨_,g,w₁,f,.of_steps (.one h0 lJ) d⟩
 |outgrown=>exact⟨_,g,w₁,f,.of_steps (.one h0 lJ) d⟩
end
end Go.Sim
namespace Go.Sim
section
variable {T:kG} {L L':Nat->Option AO} {lim n n':Nat} {k:gC} {xs:List AV} {out:Out}
def lR {esz:Nat} {x:AV} {r:aA (aA AV)} (h:rowsOf L esz x=some r) (a:∀id ao,id∈idOf x->L id=some ao->L' id=some ao):rowsOf L' esz x=some r:=by
 unfold rowsOf at h;split at h;simpa only[rowsOf]using h;simpa only[rowsOf]using h;simpa only[rowsOf]using h;simpa only[rowsOf]using h;split at h;rename_i hl;simp only[rowsOf,a _ _ (by simp[idOf]) hl];exact h;cases h;cases h
def Kk {x:AV} {r:aA (AV×AV)} (h:entsOf L x=some r) (a:∀id ao,id∈idOf x->L id=some ao->L' id=some ao):entsOf L' x=some r:=by
 unfold entsOf at h;split at h;exact h;split at h;rename_i hl;simp only[entsOf,a _ _ (by simp[idOf]) hl];exact h;cases h;exact h;cases h
def Eb {ty:TypeId} {esz:Nat} {s:AV} {new:aA (aA AV)} {o:Out} (h:appendTo L lim n ty esz s new=some o) (a:∀id ao,id∈idOf s->L id=some ao->L' id=some ao):appendTo L' lim n ty esz s new=some o:=by
 unfold appendTo at h;split at h;simpa only[appendTo]using h;simpa only[appendTo]using h;simpa only[appendTo]using h;split at h;rename_i hl;simp only[appendTo,a _ _ (by simp[idOf]) hl];exact h;cases h;cases h
def Hf {esz:Nat} {lo hi mx:Bool} {x:AV} {g:aA AV} {v:AV} (h:sliceOp L esz lo hi mx (x::g)=some v) (k:∀id ao,id∈idOf x->L id=some ao->L' id=some ao):sliceOp L' esz lo hi mx (x::g)=some v:=by
 have key:∀(L:Nat->aB AO),(∀a b c d e f,x≠.sl a b c d e f)->sliceOp L esz lo hi mx (x::g)=sliceOp L' esz lo hi mx (x::g):=by
  intro L j;cases x<;>first|rfl|exact absurd rfl (j _ _ _ _ _ _)|(rename_i y;cases y<;>first|rfl|(rename_i a b c;cases a<;>cases b<;>cases c<;>rfl))
 by_cases j:∃a b c d e f,x=.sl a b c d e f;obtain⟨z,id,ver,off,len,cap,rfl⟩:=j;cases hl:L id with
 |none=>
  exfalso;simp only[sliceOp,hl]at h;split at h<;>cases h
 |some ao=>
  have i:=k id ao (by simp[idOf]) hl;simp only[sliceOp,hl]at h;simp only[sliceOp,i];exact h
 grind
def Yq {ty:TypeId} {esz b:Nat} {zero:aA Value} {zeros:Bool} {s x:AV} (h:doOp L lim n (.append ty esz b zero zeros) [s,x]=some out) (e:∀id ao,id∈idOf x->L id=some ao->L' id=some ao) (hs:∀id ao,id∈idOf s->L id=some ao->L' id=some ao):
  doOp L' lim n (.append ty esz b zero zeros) [s,x]=some out:=by
 simp only[doOp]at h ⊢;split at h;rename_i new a
 have c:appRows L' esz zeros zero x=some new:=by
  cases zeros;simp only[appRows,aK3,bI3]at a ⊢;exact lR a e;simp only[appRows,aZ3]at a ⊢;exact a
 split at h;rename_i o d;simp only[c,Eb d hs];exact h;cases h;cases h
def Sg (h:doOp L lim n k xs=some out) (a:∀id ao,id∈(foot T k xs).rd\/id∈(foot T k xs).wr->L id=some ao->L' id=some ao):doOp L' lim n k xs=some out:=by
 unfold doOp at h;split at h
 all_goals first|(simp only[doOp];exact h)|skip
 ·
  split at h
  .simpa only[doOp]using h
  .split at h
   .rename_i hl
    simp only[doOp,a _ _ (.inl (by simp[foot,idOf])) hl];exact h
   .cases h
  .cases h
 ·
  split at h
  .simpa only[doOp]using h
  .split at h
   .rename_i hl
    simp only[doOp,a _ _ (.inl (by simp[foot,idOf])) hl];exact h
   .cases h
  .cases h
 ·
  split at h
  .rename_i hc
   split at h
   .rename_i hl
    simp only[doOp,hc,a _ _ (.inr (by simp[foot,idOf])) hl];exact h
   .cases h
  .cases h
 ·
  split at h
  .rename_i hr
   simp only[doOp,lR hr (fun id ao hid=>a id ao (.inl hid))];exact h
  .cases h
 ·
  rename_i x;simp only[aB3]at h;obtain⟨v,hv,rfl⟩:=h;cases xs with
  |nil=>simp[sliceOp]at hv
  |cons x bs=>simp only[doOp,Hf hv (fun id ao hid=>a id ao (.inl hid)),aU3]
 ·
  split at h
  .rename_i b
   split at h
   .rename_i es he
    simp only[doOp,b,aZ3,Kk he (fun id ao hid=>a id ao (.inl hid))];exact h
   .cases h
  .cases h
 ·
  split at h
  .split at h
   .rename_i hl
    simp only[doOp,a _ _ (.inr (by simp[foot,idOf])) hl];exact h
   .cases h
  .cases h
 ·
  split at h
  all_goals first|(simp only[doOp];exact h)|skip
  .split at h
   .rename_i hl
    simp only[doOp,a _ _ (.inl (by simp[foot,idOf])) hl];exact h
   .cases h
 .exact Yq h (fun id ao hid=>a id ao (.inl hid)) (fun id ao hid=>a id ao (.inr hid))
 ·
  split at h
  .rename_i rows hr
   split at h
   .simp only[doOp,lR hr (fun id ao hid=>a id ao (.inl hid))]
    exact h
   .simp only[doOp,lR hr (fun id ao hid=>a id ao (.inl hid))]
    exact h
   .split at h
    .rename_i hl
     simp only[doOp,lR hr (fun id ao hid=>a id ao (.inl hid)),a _ _ (.inr (by simp[foot,idOf])) hl];exact h
    .cases h
   .cases h
  .cases h
 ·
  split at h
  .simpa only[doOp]using h
  .simpa only[doOp]using h
  .split at h
   .rename_i hl
    simp only[doOp,a _ _ (.inr (by simp[foot,idOf])) hl];exact h
   .cases h
  .cases h
def Nv {ty:TypeId} {esz:Nat} {s:AV} {new:aA (aA AV)} {o:Out} {id:Nat} {ao:AO} (h:appendTo L lim n ty esz s new=some o) (a:o.up=some (id,ao)):id∈idOf s/\(L id).isSome=true:=by
 unfold appendTo at h;split at h
 .grind
 .grind
 .grind
 .split at h
  .rename_i hl
   repeat' split at h
   all_goals cases h
   all_goals cases a
   all_goals exact⟨by simp[idOf],by rw[hl];rfl⟩
  .cases h
 .cases h
def Sh {ty:TypeId} {esz:Nat} {s:AV} {new:aA (aA AV)} {o:Out} (h:appendTo L lim n ty esz s new=some o) (a:o.new=none):appendTo L lim n' ty esz s new=some o:=by
 unfold appendTo at h;split at h;split at h;rename_i hc;cases h;simp only[appendTo,hc,aZ3];cases h;cases a;split at h;rename_i hc;cases h;simp only[appendTo,hc,aZ3];cases h;cases a;simpa only[appendTo]using h;split at h;rename_i hl;simp only[appendTo,hl];split at h
 grind
 cases h;cases h;cases h
def Vi {ty:TypeId} {esz b:Nat} {zero:aA Value} {zeros:Bool} {s x:AV} (h:doOp L lim n (.append ty esz b zero zeros) [s,x]=some out):
  ∃new,appRows L esz zeros zero x=some new/\appendTo L lim n ty esz s new=some out/\∀n',appendTo L lim n' ty esz s new=some out->doOp L lim n' (.append ty esz b zero zeros) [s,x]=some out:=by
 simp only[doOp]at h;split at h;rename_i new a;split at h;rename_i o c;have:o=out:=by grind
 subst this;refine⟨new,a,c,fun n' h'=>?_⟩;simp only[doOp,a,h'];exact h;cases h;cases h
def xA {id:Nat} {ao:AO} (h:doOp L lim n k xs=some out) (c:out.up=some (id,ao)):id∈(foot T k xs).wr/\(L id).isSome=true:=by
 have a:∀ty esz b zero zeros s x,k=.append ty esz b zero zeros->xs=[s,x]->id∈(foot T k xs).wr/\(L id).isSome=true:=by
  rintro ty esz b zero zeros s x rfl rfl;obtain⟨new,h1,h2,_⟩:=Vi h;exact Nv h2 c
 unfold doOp at h;split at h
 all_goals first|exact a _ _ _ _ _ _ _ rfl rfl|skip
 all_goals clear a
 all_goals (repeat' split at h)
 all_goals first
  |(cases h;done)
  |(simp only[aB3]at h;obtain⟨_,_,rfl⟩:=h;cases c;done)
  |(cases h;cases c;done)
  |(have hl:= ‹L _=some _›;cases h;cases c;exact⟨by simp[foot,idOf],by rw[hl];rfl⟩)
def vO1 (h:doOp L lim n k xs=some out) (c:out.new=none):doOp L lim n' k xs=some out:=by
 have a:∀ty esz b zero zeros s x,k=.append ty esz b zero zeros->xs=[s,x]->doOp L lim n' k xs=some out:=by
  rintro ty esz b zero zeros s x rfl rfl;obtain⟨new,h1,h2,d⟩:=Vi h;exact d n' (Sh h2 c)
 unfold doOp at h;split at h
 all_goals first|exact a _ _ _ _ _ _ _ rfl rfl|skip
 all_goals clear a
 all_goals first|(simp only[doOp];exact h)|skip
 all_goals (repeat' split at h)
 all_goals first
  |(cases h;done)
  |(simp only[aB3]at h;obtain⟨_,_,rfl⟩:=h;cases c;done)
  |(cases h;cases c;done)
end
end Go.Sim
namespace Go.Sim
def vS {vM:aA Nat} {i:Nat}:∀{es:aA Edge},(pR vM es).testBit i=true->∃e∈es,Region.binds .any e=true/\(i=e.on\/(vM.getD e.on 0).testBit i=true)
 |[],h=>by simp[pR]at h
 |e::es,h=>by
  simp only[pR]at h
  split at h
  rename_i hb
  simp only[Nat.testBit_or,aQ3]at h
  rcases h with(h|h)|h
  grind
  grind
  obtain⟨e',h1,h2⟩:=vS h
  exact⟨e',by simp[h1],h2⟩
  obtain⟨e',h1,h2⟩:=vS h
  exact⟨e',by simp[h1],h2⟩
def sW:∀(os:aA Oper) (vM:aA Nat),∃tail,dR vM os=vM++tail/\tail.length=os.length/\
  ∀k o,os[k]? =some o->(dR vM os).getD (vM.length+k) 0=pR ((dR vM os).take (vM.length+k)) o.after.toList
 |[],vM=>⟨[],by simp[dR],rfl,fun k o h=>by simp at h⟩
 |o::os,vM=>by
  obtain⟨tail,h1,h2,a⟩:=sW os (vM++[pR vM o.after.toList])
  refine⟨pR vM o.after.toList::tail,by simp[dR,h1],by simp[h2],fun k o' hk=>?_⟩
  cases k with
  |zero=>
   simp only[cB3,aF3]at hk
   subst hk
   simp only[dR,h1,cQ3]
   simp
  |succ k=>
   have:=a k o' (by simpa using hk)
   have e:(vM++[pR vM o.after.toList]).length+k=vM.length+(k+1):=by simp;omega
   rw[e]at this
   exact this
def sX {ops:aA Oper} (a:∀j o,ops[j]? =some o->∀e∈o.after.toList,Region.binds .any e=true->e.on<j) {D:Nat->Prop}
  (q:∀i oi,D i->ops[i]? =some oi->∀e∈oi.after.toList,Region.binds .any e=true->D e.on):∀(j:Nat) (o:Oper),ops[j]? =some o->(∀e∈o.after.toList,Region.binds .any e=true->D e.on)->
   ∀i,((dR [] ops).getD j 0).testBit i=true->D i:=by
 intro j
 induction j using Nat.strongRecOn with
 |_ j ih=>
  intro o k he i hi;obtain⟨tail,h1,h2,m⟩:=sW ops [];have l:=m j o k;simp only[aN3,bX3]at l;rw[l]at hi;obtain⟨e,f,g,c⟩:=vS hi;rcases c with rfl|c;exact he e f g;have h:=a j o k e f g;have r:j<ops.length:=(zZ2.1 k).1;have n:((dR [] ops).take j).getD e.on 0=(dR [] ops).getD e.on 0:=by grind
  rw[n]at c;have b:ops[e.on]? =some ops[e.on]:=by simp
  exact ih e.on h _ b (fun e' p d=>q e.on _ (he e f g) b e' p d) i c
def Ap {j:Nat} {o:Sim.Op1} {a:Nat}:∀{ps:aA Sim.Op1} {b:Nat},Jy j o a ps b=true->∀k p,ps[k]? =some p->b+k<j->
  a.testBit (b+k)=true\/((∀d,p.dst=some d->o.dst≠some d/\d∉o.reads)/\∀d,o.dst=some d->d∉p.reads)
 |[],b,h,k,p,hk,_=>by simp at hk
 |q::ps,b,h,k,p,hk,hlt=>by
  simp only[Jy,aA3,aQ3,aH3]at h
  obtain⟨h1,h2⟩:=h
  cases k with
  |zero=>
   simp only[cB3,aF3]at hk
   subst hk
   rw[cQ3]at hlt ⊢
   rcases h1 with(h1|h1)|h1
   omega
   exact .inl h1
   grind
  |succ k=>
   have:=Ap h2 k p (by simpa using hk) (by omega)
   have e:b+1+k=b+(k+1):=by omega
   rwa [e]at this
def iC (ft:Nat->Foot):Nat->aA Foot
 |0=>[]
 |j+1=>ft j::iC ft j
def oL {ft ft':Nat->Foot}:∀{j:Nat},(∀i,i<j->ft i=ft' i)->iC ft j=iC ft' j
 |0,_=>rfl
 |j+1,h=>by rw[iC,iC,h j (by omega),oL (fun i hi=>h i (by omega))]
def Nw {ft:Nat->Foot} {i:Nat}:∀{j:Nat},i<j->ft i∈iC ft j
 |0,h=>by omega
 |j+1,h=>by
  rw[iC]
  by_cases e:i=j
  subst e;simp
  exact bJ3 _ (Nw (by omega))
def revF_length (ft:Nat->Foot):∀j,(iC ft j).length=j
 |0=>rfl
 |j+1=>by simp[iC,revF_length ft j]
section
variable (T:kG) (ex:Nat->Bool->IC->St->Option (Ex×St))
def Stp (lim a m j:Nat) (o:Sim.Op1) (ft:Nat->Foot) (st:Nat->St) (v:Nat->AV):Prop:=
  (st (j+1)).t=put (st j).t o.dst (v j)/\
  ((wanted (st j).t o.guard=false/\v j=.undef/\ft j={}/\(st (j+1)).s=(st j).s)\/
   (wanted (st j).t o.guard=true/\∃xs,evs (st j).t o.xs=some xs/\(foot T o.k xs).all=1/\ft j=foot T o.k xs/\(st (j+1)).s=(st j).s/\
     ∃b,step T ex lim o.k xs {h:=hide (unseen a j (iC ft j)) (st j).s.h,n:=(st j).s.n+rsv (m-j)}=some (v j,b))\/
   (wanted (st j).t o.guard=true/\∃xs,evs (st j).t o.xs=some xs/\((foot T o.k xs).all≠1/\(foot T o.k xs).all≠3)/\ft j={foot T o.k xs with al:=List.range' (st j).s.n ((st (j+1)).s.n-(st j).s.n)}/\
     step T ex lim o.k xs (st j).s=some (v j,(st (j+1)).s))\/
   (wanted (st j).t o.guard=true/\∃xs W,evs (st j).t o.xs=some xs/\(foot T o.k xs).all=3/\ft j={wr:=W,al:=List.range' (st j).s.n ((st (j+1)).s.n-(st j).s.n),all:=1,x:=true}/\
     callX (nbF (iC ft j)) (step T ex lim o.k xs) (unseen a j (iC ft j)) xs (st j).s=some (v j,(st (j+1)).s,W)))
variable {T ex}
def Stp.congr {lim a m j:Nat} {o:Sim.Op1} {ft ft':Nat->Foot} {st st':Nat->St} {v v':Nat->AV} (h:Stp T ex lim a m j o ft st v) (hf:∀i,i<=j->ft' i=ft i) (h1:st' j=st j) (h2:st' (j+1)=st (j+1)) (b:v' j=v j):
  Stp T ex lim a m j o ft' st' v':=by
 unfold Stp at *;rw[h1,h2,b,hf j (aC3 _),oL (ft:=ft') (ft':=ft) (j:=j) (fun i hi=>hf i (by omega))];exact h
def Nx {lim:Nat} {before:aA Nat}:∀(os:aA Sim.Op1) (j:Nat) (σ:St) (a:Nat->Foot) (n:St) (b:aA Foot),eU T ex lim before os j (iC a j) σ=some (n,b)->
  ∃(st:Nat->St) (ft:Nat->Foot) (v:Nat->AV),(∀i,i<j->ft i=a i)/\st j=σ/\st (j+os.length)=n/\b=iC ft (j+os.length)/\
   ∀k o,os[k]? =some o->Stp T ex lim (before.getD (j+k) 0) (j+os.length) (j+k) o ft st v
 |[],j,σ,a,n,b,h=>by
  simp only[eU,aF3,aW3]at h
  obtain⟨rfl,rfl⟩:=h
  exact⟨fun _=>σ,a,fun _=>.undef,fun _ _=>rfl,rfl,rfl,rfl,fun k o h=>by simp at h⟩
 |o::os,j,σ,a,n,b,h=>by
  have dL:∀(s:St) (f:Foot) (x:AV),eU T ex lim before os (j+1) (f::iC a j) s=some (n,b)->
    (∀(st:Nat->St) (ft:Nat->Foot) (v:Nat->AV),st j=σ->st (j+1)=s->ft j=f->(∀i,i<j->ft i=a i)->v j=x->Stp T ex lim (before.getD j 0) (j+(os.length+1)) j o ft st v)->
    ∃(st:Nat->St) (ft:Nat->Foot) (v:Nat->AV),(∀i,i<j->ft i=a i)/\st j=σ/\st (j+(o::os).length)=n/\b=iC ft (j+(o::os).length)/\
     ∀k o',(o::os)[k]? =some o'->Stp T ex lim (before.getD (j+k) 0) (j+(o::os).length) (j+k) o' ft st v:=by
   intro s f x hr hs;let l:Nat->Foot:=fun i=>if i=j then f else a i
   have r:f::iC a j=iC l (j+1):=by
    have h1:l j=f:=aE3 rfl;rw[iC,h1,oL (ft:=l) (ft':=a) (fun i hi=>aG3 (by omega))]
   rw[r]at hr;obtain⟨st,ft,v,h1,h2,z,w,y⟩:=Nx os (j+1) s l n b hr;have p:∀i,i<j->ft i=a i:=fun i hi=>(h1 i (by omega)).trans (aG3 (by omega));have q:ft j=f:=(h1 j (by omega)).trans (aE3 rfl);have hlen:j+(o::os).length=j+1+os.length:=by simp;omega
   refine⟨fun i=>if i=j then σ else st i,ft,fun i=>if i=j then x else v i,p,aE3 rfl,?_,?_,?_⟩
   grind
   rw[hlen];exact w;intro k o' hk;cases k with
   |zero=>
    simp only[cB3,aF3]at hk;subst hk;exact hs _ ft _ (aE3 rfl) ((aG3 (by omega)).trans h2) q p (aE3 rfl)
   |succ k=>
    have u:=y k o' (by simpa using hk);have e:j+1+k=j+(k+1):=by omega
    rw[e,<-hlen]at u;exact u.congr (fun _ _=>rfl) (aG3 (by omega)) (aG3 (by omega)) (aG3 (by omega))
  simp only[eU]at h;split at h;rename_i hw;split at h;rename_i xs m;split at h;rename_i d;split at h;rename_i v t g;refine dL _ _ v h (fun st ft v' a1 a2 a3 a4 a5=>?_);unfold Stp;rw[a1,a2,a5,a3,oL a4];refine⟨rfl,.inr (.inl ⟨hw,xs,m,d,rfl,rfl,t,?_⟩)⟩;have e:j+(os.length+1)-j=os.length+1:=by omega
  rw[e];exact g;cases h;rename_i d;split at h;rename_i c;split at h;rename_i v t W g;refine dL _ _ v h (fun st ft v' a1 a2 a3 a4 a5=>?_);unfold Stp;rw[a1,a2,a5,a3,oL a4];exact⟨rfl,.inr (.inr (.inr ⟨hw,xs,W,m,c,rfl,g⟩))⟩;cases h;rename_i c;split at h;rename_i v t g;refine dL _ _ v h (fun st ft v' a1 a2 a3 a4 a5=>?_);unfold Stp;rw[a1,a2,a5,a3];exact⟨rfl,.inr (.inr (.inl ⟨hw,xs,m,⟨d,c⟩,rfl,g⟩))⟩;cases h;cases h;rename_i hw;refine dL _ _ .undef h (fun st ft v' a1 a2 a3 a4 a5=>?_);unfold Stp;rw[a1,a2,a5,a3];exact⟨rfl,.inl ⟨by simpa using hw,rfl,rfl,rfl⟩⟩
def sY {a:Nat} {f:Foot} {ft:Nat->Foot}:∀{j:Nat},drawOK.okAgainst a f (iC ft j) j=true->∀i,i<j->a.testBit i=true\/compat (ft i) f=true
 |0,_,i,hi=>by omega
 |j+1,h,i,hi=>by
  simp only[iC,drawOK.okAgainst,dH3,aA3,aQ3]at h
  by_cases e:i=j
  subst e;exact h.1
  exact sY h.2 i (by omega)
def Aq {before:aA Nat} {ft:Nat->Foot}:∀{m:Nat},drawOK before (iC ft m) m=true->∀j,j<m->∀i,i<j->(before.getD j 0).testBit i=true\/compat (ft i) (ft j)=true
 |0,_,j,hj=>by omega
 |m+1,h,j,hj=>by
  simp only[iC,drawOK,dH3,aA3]at h
  intro i hi
  by_cases e:j=m
  subst e;exact sY h.1 i hi
  exact Aq h.2 j (by omega) i hi
end
end Go.Sim
namespace Go.Sim
section
variable {P:Program} {T:kG} {lim n:Nat} {g:Gh} {w:World} {r:Option Nat}
def Si (P:Program) (T:kG) (ex:Nat->Bool->IC->St->aB (Ex×St)):Prop:=
 ∀(lim:Nat) (ops:Array Oper) (ios:aA Sim.Op1) (σ b:St) (fs:aA Foot) (id:Nat),mapO (lP P ops.toList) ops.toList=some ios->cA1 ops.toList ios (dR [] ops.toList)=true->
  eU T ex lim (dR [] ops.toList) ios 0 [] σ=some (b,fs)->drawOK (dR [] ops.toList) fs fs.length=true->
  ∀(r:aB Nat) (g:Gh) (a:Act) (w:World) (n base:Nat),TR g σ.t a.tmps.toList->nK P g w σ.s->lim<=σ.s.n->base<=w.heap.size->jE base g w a.defers->
   (Code.region id ops true).wpIn (FW r) n P (Dq P base lim g w σ.s .normal b) a w
def Al.trans {base:Nat} {s s' c:Hp} {t e:aA AV} {g' b:Gh} {a' a:Act} {w' d:World} (h:Al P base lim g w s t s' g' a' w') (k:Al P base lim g' w' s' e c b a d):
  Al P base lim g w s e c b a d:=⟨k.t,k.inv,h.ext.trans k.ext,bB3 h.n k.n,k.marks⟩
def nK.pop {s:Hp} (h:nK P g w s):nK P g w {h:=popMark s.h,n:=s.n}:=
 ⟨fun id ao a=>h.H id ao (Nq h.wf a),h.W,h.dom,h.wf.pop⟩
def nK.mark {s:Hp} (h:nK P g w s):nK P g w {h:=.mark::s.h,n:=s.n}:=⟨h.H,h.W,h.dom,h.wf⟩
def Ij {base:Nat} {s s':Hp} {t:aA AV} {g':Gh} {e:Ex} {d:St} {e':Exit} {a' a:Act} {w' b:World} (f:Al P base lim g w s t s' g' a' w') (h:Dq P base lim g' w' s' e d e' a b):Dq P base lim g w s e d e' a b:=by
 obtain⟨h1,c,h2⟩:=h;exact⟨h1,c,f.trans h2⟩
def aN {D:Nat} (c:∀d,d<D->pU P (exec T d)) {x:Code} {f:IC} (l:comp P x=some f) {rd:Bool} {r:aB Nat} (hr:rd=r.isSome) {e:Ex} {m:St}:
  ∀(d:Nat),d<=D->∀(σ:St) (g:Gh) (a:Act) (w:World) (n base:Nat) (Q:Exit->Act->World->Prop),exec T d lim rd (.loop f) σ=some (e,m)->pI r w->TR g σ.t a.tmps.toList->nK P g w σ.s->lim<=σ.s.n->base<=w.heap.size->jE base g w a.defers->
   (∀e' a' w',Dq P base lim g w σ.s e m e' a' w'->Q e' a' w')->Code.roundsIn (FW r) n P x Q d a w
 |0,_,σ,g,a,w,n,base,Q,h,_,_,_,_,_,_,_=>by simp[exec]at h
 |d+1,hd,σ,g,a,w,n,base,Q,h,hra,ht,hI,hl,hb,hm,hQ=>by
  simp only[exec]at h
  rw[roundsIn_succ]
  split at h
  rename_i τ j
  refine wpIn_mono (c d (by omega) lim rd f _ .normal τ j x l r hr g a w n base hra ht hI.mark hl hb hm) ?_
  rintro o a1 w1 ⟨rfl,i,b⟩
  refine aN c l hr d (by omega) _ i a1 w1 n base Q h (hra.ext b.ext) b.t b.inv.pop (bB3 hl b.n) (bB3 hb b.ext.size) b.marks ?_
  intro e2 a2 w2 h2
  exact hQ _ _ _ (Ij (s':={h:=popMark τ.s.h,n:=τ.s.n}) ⟨b.t,b.inv.pop,b.ext,b.n,b.marks⟩ h2)
  rename_i p τ k j
  cases h
  refine wpIn_mono (c d (by omega) lim rd f _ e τ j x l r hr g a w n base hra ht hI.mark hl hb hm) ?_
  rintro o a1 w1 ⟨rfl,i,b⟩
  cases e with
  |normal=>exact(k rfl).elim
  |ret=>exact hQ _ _ _ ⟨rfl,i,b.t,b.inv.pop,b.ext,b.n,b.marks⟩
  |exit id=>exact hQ _ _ _ ⟨rfl,i,b.t,b.inv.pop,b.ext,b.n,b.marks⟩
  cases h
def nK.other {s:Hp} (a:nK P g w s) (o:Obj):nK P g (w.alloc o) s/\sM lim g g w (w.alloc o):=by
 have c:∀b o',g.G b=some o'->b<w.heap.size:=fun b o' h=>(bA3.1 (a.W.still b o' h)).1
 refine⟨⟨fun id ao d=>(a.H id ao d).mono (.refl g) rfl (fun loc hl=>eC w o (a.W.lt id loc hl)),⟨fun b o' h=>?_,fun id loc h=>?_,a.W.out,a.W.inj⟩,a.dom,a.wf⟩,
  ⟨.refl g,by simp,fun b hb _=>eC w o hb,fun id loc h=>.inl ⟨loc,h,rfl⟩,fun _ _=>rfl,rfl,rfl,rfl,fun _ _ h=>.inl h,fun b R h=>⟨R,(eC w o (bA3.1 h).1).trans h⟩⟩⟩
 rw[eC w o (c b o' h)];exact a.W.still b o' h;have:=a.W.lt id loc h;simp;omega
def jE.fresh {base:Nat}:∀{a:aA Deferred},jE base g w a->∀d∈a,d.target≠.collected w.heap.size
 |[],_,d,hd=>by simp at hd
 |d0::a,⟨⟨r,h1,h2,h3,_,_,_⟩,h7⟩,d,hd=>by
  rcases aM3.1 hd with rfl|hd
  grind
  exact jE.fresh h7 d hd
def Ny {b:Nat} {R:Loop} (hb:w.heap[b]? =some (.loop R)) (hr:R.state≠.busy):(Instr.endLoop b).run P w=.ok R.pending {w with heap:=w.heap.setIfInBounds b (.loop {R with state:=.exhausted})}:=by
 simp[Instr.endLoop,mX hb,sR hb,hr]
def vP1:aB IC->aB Ex
 |none=>some .normal
 |some .ret=>some .ret
 |some (.exit id)=>some (.exit id)
 |_=>none
def Ec {ex:Nat->Bool->IC->St->aB (Ex×St)} (b8:pU P ex) (hT:jN P T) {f:Operand} {of:IX} {ps:Array Tmp} {x y:Code} {cx cy:IC} (hf:Gz f=some of) (Z:comp P x=some cx) (hy:comp P y=some cy)
  {σ:St} {K:FuncId} {first cap:aA AV} (b7:of.ev σ.t=some (.fn (.func K) first cap)) {v:AV} {s:Hp}
  (c:callF T ex lim K (first++[.fn (.yield σ.s.n) [] []]++cap) {h:=.ob σ.s.n (.loop .ready none σ.t ps.toList cx cy)::σ.s.h,n:=σ.s.n+1}=some (v,s))
  {st:LoopState} {pend:aB IC} {tm:aA AV} {pm:aA Nat} {as bd:IC} (hL:look s.h σ.s.n=some (.loop st pend tm pm as bd)) (d3:st≠.busy) {s':Hp} (U:endRound σ.s.n s .exhausted pend=some s')
  {e:Ex} (he:vP1 pend=some e)
  {a:Act} {base:Nat} (ht:TR g σ.t a.tmps.toList) (hI:nK P g w σ.s) (hl:lim<=σ.s.n) {w1:World} {mark:aA Deferred} {D:Nat} (z:nK P g w1 σ.s) (u:sM lim g g w w1) (Y:jE base g w1 (mark++a.defers))
  (m:∀d,(Instr.enterLoop d a.tmps ps x y (FW r).round).run P w=.ok (w1.heap.size,mark) (w1.alloc (.loop {state:=.ready,pending:=none,fn:=d,tmps:=a.tmps,params:=ps,assign:=x,body:=y,defers:=D}))):
  (Code.rangeFunc f ps x y).wpIn (FW r) n P (Dq P base lim g w σ.s e {t:=σ.t,s:=s'}) a w:=by
 refine wpIn_rangeFunc (fun d _=>?_);have X:=Kj ht hf b7;generalize hV:a.eval f=V at X;cases X with
 |@fn _ _ _ _ F C l1 l2 v1 v2=>
  have k:∃ifn,T K=some ifn:=by
   unfold callF at c;split at c;cases c
   grind
  obtain⟨ifn,k⟩:=k;obtain⟨fn,b9,b6⟩:=hT.fns K ifn k;obtain⟨⟨cd,B⟩,J⟩:=An b6;have o:¬fn.name= "runtime.NumGoroutine":=by simpa using J
  let R:Loop:={state:=.ready,pending:=none,fn:=d,tmps:=a.tmps,params:=ps,assign:=x,body:=y,defers:=D}
  let w2:=w1.alloc (.loop R)
  have hn:g.ι σ.s.n=none:=by
   cases h:g.ι σ.s.n with
   |none=>rfl
   |some l=>have:=hI.dom σ.s.n (by rw[h];simp);omega
  let loc:Ha:={b:=w1.heap.size,esz:=1,ct:=1,ver:=0}
  obtain⟨j,b5⟩:=Va (lim:=lim) z.W (.loop R) σ.s.n loc rfl hn hl;let g2:Gh:={G:=g.G,ι:=fun id=>if id=σ.s.n then some loc else g.ι id}
  have E:g2.ι σ.s.n=some loc:=aE3 rfl
  have b0:nK P g2 w2 {h:=.ob σ.s.n (.loop .ready none σ.t ps.toList cx cy)::σ.s.h,n:=σ.s.n+1}:=by
   refine⟨fun id ao ha=>?_,b5,fun id h=>?_,⟨by simp,hI.wf⟩⟩;simp only[look]at ha;split at ha;rename_i e;subst e;cases ha;refine⟨loc,R,E,rfl,?_,rfl,rfl,ht.mono (u.le.trans j.le),by simp[R],Z,hy⟩;show w2.heap[w1.heap.size]? =_
   exact heap_alloc_new w1 _;rename_i e;refine(z.H id ao ha).mono j.le ?_ (fun l hl=>eC w1 _ (z.W.lt id l hl));show(if id=σ.s.n then some loc else g.ι id)=g.ι id
   rw[aG3 (fun h=>e h.symm)];show id<σ.s.n+1
   by_cases e:id=σ.s.n;omega
   have h:g.ι id≠none:=by
    have:g2.ι id=g.ι id:=aG3 e
    rwa [this]at h
   have:=hI.dom id h;omega
  have hF:TR g first F.toList:=⟨by simpa using l1,fun i x y Z hy=>v1 i x y Z (by simpa using hy)⟩
  have hC:TR g cap C.toList:=⟨by simpa using l2,fun i x y Z hy=>v2 i x y Z (by simpa using hy)⟩
  have q:g.le g2:=u.le.trans j.le
  have A:TR g2 (first++[.fn (.yield σ.s.n) [] []]++cap) (F++#[Value.func (.yield w1.heap.size) #[] #[]]++C).toList:=by
   have:=((hF.mono q).app (.cons (VR.yield (l:=σ.s.n) (b:=w1.heap.size) E (fun _=>rfl)) (.nil g2))).app (hC.mono q);simpa using this
  have d2:jE base g2 w2 (mark++a.defers):=Y.ext j;refine⟨w1.heap.size,mark,w2,{target:=.fn (.func K) C,args:=F++#[Value.func (.yield w1.heap.size) #[] #[]]},w2,K,F++#[Value.func (.yield w1.heap.size) #[] #[]]++C,w2,m d,?_,fun _ _=>trivial,?_,fun h=>(by cases h),?_⟩;have S:a.eval (.const (.func (.yield w1.heap.size) #[] #[]))=.func (.yield w1.heap.size) #[] #[]:=rfl;simp[resolve,rangeCall,hV,Deferred.ofValue,S];simp[invoke,callFunc,b9,o,B];refine CallsIn.mono (Dp (wU b8 hT c A b0 (by show lim<=σ.s.n+1;omega))) ?_;rintro e' w' ⟨V',M,rfl,k1,k2,k3,k4⟩;obtain⟨a0,R3,m1,m2,m3,m4,m5,m6,m7,m8,m9⟩:=sQ k2 hL
  have d0:a0=loc:=by
   obtain⟨loc',q1,q2,q3⟩:=k3.le.ι σ.s.n loc E;rw[m1]at q1;cases q1;exact q3 m2.symm
  subst d0;obtain⟨_,_,_,_,_,_,O,rfl⟩:=pV U;rw[hL]at O;cases O;obtain⟨b4,N⟩:=Dx (lim:=lim) (st':=.exhausted) (pend':=pend) (R':={R3 with state:=.exhausted}) k2 hL hl m1 m3 rfl m5 rfl rfl rfl rfl;refine⟨_,_,Ny m3 (by rw[m4];exact d3),?_⟩;have p:sM lim g M w {w' with heap:=w'.heap.setIfInBounds loc.b (.loop {R3 with state:=.exhausted})}:=((u.trans j).trans k3).trans N
  have L:Al P base lim g w σ.s σ.t {h:=upd s.h σ.s.n (.loop .exhausted pend tm pm as bd),n:=s.n} M {a with defers:=mark++a.defers} {w' with heap:=w'.heap.setIfInBounds loc.b (.loop {R3 with state:=.exhausted})}:=
   ⟨ht.mono p.le,b4,p,by have:σ.s.n+1<=s.n:=k4;show σ.s.n<=s.n;omega,(d2.ext k3).ext N⟩
  unfold vP1 at he;split at he;cases he;have:R3.pending=none:=m5;rw[this]at L ⊢;exact⟨rfl,M,L⟩;cases he;have:R3.pending=some .ret:=m5;rw[this]at L ⊢;exact wpIn_ret ⟨rfl,M,L⟩;cases he;have:R3.pending=some (.exit _):=m5;rw[this]at L ⊢;exact wpIn_exit ⟨rfl,M,L⟩;cases he
def Ed {ex:Nat->Bool->IC->St->aB (Ex×St)} (m:pU P ex) (K:jN P T) {f:Operand} {of:IX} {ps:Array Tmp} {x y:Code} {E F:IC} (hf:Gz f=some of) (M:comp P x=some E) (hy:comp P y=some F)
  {σ:St} {H:FuncId} {first cap:aA AV} (k:of.ev σ.t=some (.fn (.func H) first cap)) {v:AV} {s:Hp}
  (c:callF T ex lim H (first++[.fn (.yield σ.s.n) [] []]++cap) {h:=.ob σ.s.n (.loop .ready none σ.t ps.toList E F)::σ.s.h,n:=σ.s.n+1}=some (v,s))
  {st:LoopState} {pend:aB IC} {R:aA AV} {O:aA Nat} {as N:IC} (J:look s.h σ.s.n=some (.loop st pend R O as N)) (p:st≠.busy) {s':Hp} (d:endRound σ.s.n s .exhausted pend=some s')
  {e:Ex} (he:vP1 pend=some e)
  {a:Act} {base:Nat} (C:pI r w) (L:TR g σ.t a.tmps.toList) (i:nK P g w σ.s) (hl:lim<=σ.s.n) (hb:base<=w.heap.size) (A:jE base g w a.defers):
  (Code.rangeFunc f ps x y).wpIn (FW r) n P (Dq P base lim g w σ.s e {t:=σ.t,s:=s'}) a w:=by
 cases r with
 |none=>
  obtain⟨u,j⟩:=i.other (lim:=lim) (.deferred (some []))
  have B:jE base g (w.alloc (.deferred (some []))) ([{target:=.collected w.heap.size,args:=#[]}]++a.defers):=by
   refine⟨⟨w.heap.size,rfl,hb,heap_alloc_new w _,fun id l h=>?_,?_,A.fresh⟩,A.ext j⟩;have:=i.W.lt id l h;omega;cases hG:g.G w.heap.size with
   |none=>rfl
   |some o=>
    have:=(bA3.1 (i.W.still _ o hG)).1;omega
  refine Ec (D:=w.heap.size) m K hf M hy k c J p d he L i hl u j B (fun q=>?_);simp only[FW,Instr.enterLoop];simp[newObj,Sem.run]
 |some b=>
  obtain⟨R0,z⟩:=C b rfl;refine Ec (w1:=w) (mark:=[]) (D:=R0.defers) m K hf M hy k c J p d he L i hl i (.refl lim g w) A (fun q=>?_);simp only[FW,Instr.enterLoop];simp[mX z,newObj];simp[Sem.run]
def Nz (K:jN P T) (Y:∀d,pU P (exec T d)->Si P T (exec T d)):∀D d,d<D->pU P (exec T d)
 |0,d,h=>by omega
 |D+1,d,hdD=>by
  have z:=Nz K Y D
  by_cases W:d<D
  exact z d W
  have V:d=D:=by omega
  subst V
  cases d with
  |zero=>exact fun lim rd c σ e F h=>by simp[exec]at h
  |succ d=>
  have ih:=z d (by omega)
  intro lim rd c σ e F h code hc r hr g a w n base b j m hl hb o
  cases code with
  |skip=>
   simp only[comp,aF3]at hc
   subst hc
   simp only[exec,aF3,aW3]at h
   obtain⟨rfl,rfl⟩:=h
   exact wpIn_skip ⟨rfl,g,j,m,.refl lim g w,aC3 _,o⟩
  |region id ops dr=>
   simp only[comp]at hc
   split at hc
   cases hc
   rename_i ios G
   split at hc
   rename_i A
   split at hc
   rename_i O
   cases hc
   subst A
   simp only[exec]at h
   split at h
   rename_i τ fs hf
   split at h
   rename_i M
   cases h
   exact Y d ih lim ops ios σ F fs id G O hf M r g a w n base j m hl hb o
   cases h
   cases h
   cases hc
   rename_i A
   cases hc
   have A:dr=false:=by simpa using A
   subst A
   simp only[exec,aB3,aW3]at h
   obtain⟨τ,h,rfl,rfl⟩:=h
   refine wpIn_region ?_
   rw[List.range_eq_range',<-dV3]
   exact zE ih K ops.toList ios 0 σ τ g w a G (by simp) h j m hl o (fun g' a' w' k=>⟨rfl,g',k⟩)
  |seq x y=>
   simp only[comp]at hc
   split at hc
   rename_i u R p hy
   cases hc
   simp only[exec]at h
   refine wpIn_seq ?_
   split at h
   rename_i τ L
   refine wpIn_mono (ih lim rd u σ .normal τ L x p r hr g a w n base b j m hl hb o) ?_
   rintro S a1 w1 ⟨rfl,E,k⟩
   refine wpIn_mono (ih lim rd R τ e F h y hy r hr E a1 w1 n base (b.ext k.ext) k.t k.inv (bB3 hl k.n) (bB3 hb k.ext.size) k.marks) ?_
   intro e2 a2 w2 h2
   exact Ij k h2
   rename_i H
   refine wpIn_mono (ih lim rd u σ e F h x p r hr g a w n base b j m hl hb o) ?_
   rintro S a1 w1 ⟨rfl,E,k⟩
   cases e with
   |normal=>exact absurd h (H _)
   |ret=>exact⟨rfl,E,k⟩
   |exit id=>exact⟨rfl,E,k⟩
   cases hc
  |cond c x y=>
   simp only[comp]at hc
   split at hc
   rename_i oc u R N p hy
   cases hc
   simp only[exec]at h
   split at h
   rename_i t C
   have hv:=(Kj j N C).bool
   refine wpIn_cond hv ?_
   cases t
   exact ih lim rd R σ e F h y hy r hr g a w n base b j m hl hb o
   exact ih lim rd u σ e F h x p r hr g a w n base b j m hl hb o
   cases h
   cases hc
  |block id x=>
   simp only[comp,aB3]at hc
   obtain⟨u,p,rfl⟩:=hc
   simp only[exec]at h
   refine wpIn_block ?_
   split at h
   rename_i i τ L
   refine wpIn_mono (ih lim rd u σ (.exit i) τ L x p r hr g a w n base b j m hl hb o) ?_
   rintro S a1 w1 ⟨rfl,E,k⟩
   simp only[Ex.toExit,Exit.inBlock]
   split at h
   rename_i hi
   cases h
   rw[aE3 hi]
   exact⟨rfl,E,k⟩
   rename_i hi
   cases h
   rw[aG3 hi]
   exact⟨rfl,E,k⟩
   rename_i H
   refine wpIn_mono (ih lim rd u σ e F h x p r hr g a w n base b j m hl hb o) ?_
   rintro S a1 w1 ⟨rfl,E,k⟩
   cases e with
   |normal=>exact⟨rfl,E,k⟩
   |ret=>exact⟨rfl,E,k⟩
   |exit id=>exact absurd h (H _ _)
  |loop x=>
   simp only[comp,aB3]at hc
   obtain⟨u,p,rfl⟩:=hc
   exact wpIn_loop_rounds (d+1) (aN (D:=d+1) z p hr (d+1) (aC3 _) σ g a w n base _ h b j m hl hb o (fun _ _ _ h=>h))
  |rangeFunc f ps x y=>
   simp only[comp]at hc
   split at hc
   rename_i of u R N p hy
   cases hc
   simp only[exec]at h
   split at h
   rename_i gf first cap C
   split at h
   rename_i v s q
   split at h
   rename_i st pend tm pm as Z U
   split at h
   cases h
   rename_i J
   split at h
   cases h
   rename_i s' B
   split at h
   cases h
   exact Ed ih K N p hy C q U J B rfl b j m hl hb o
   cases h
   exact Ed ih K N p hy C q U J B rfl b j m hl hb o
   cases h
   exact Ed ih K N p hy C q U J B rfl b j m hl hb o
   cases h
   cases h
   cases h
   cases h
   cases hc
  |exit id=>
   simp only[comp,aF3]at hc
   subst hc
   simp only[exec,aF3,aW3]at h
   obtain⟨rfl,rfl⟩:=h
   exact wpIn_exit ⟨rfl,g,j,m,.refl lim g w,aC3 _,o⟩
  |ret=>
   simp only[comp,aF3]at hc
   subst hc
   simp only[exec,aF3,aW3]at h
   obtain⟨rfl,rfl⟩:=h
   exact wpIn_ret ⟨rfl,g,j,m,.refl lim g w,aC3 _,o⟩
  |scope x=>
   simp only[comp,aB3]at hc
   obtain⟨u,p,rfl⟩:=hc
   simp only[exec]at h
   refine Sf (fun l a w X=>by obtain⟨X,_⟩:=X;cases e<;>cases X) ?_
   split at h
   rename_i τ L
   have:e=.normal/\F=τ:=by
    cases d with
    |zero=>simp[exec]at h
    |succ d=>simp only[exec,aF3,aW3]at h;exact⟨h.1.symm,h.2.symm⟩
   obtain⟨rfl,rfl⟩:=this;exact ih lim rd u σ .normal _ L x p r hr g a w n base b j m hl hb o;exact ih lim rd u σ e F h x p r hr g a w n base b j m hl hb o
  |label l=>
   simp only[comp,aF3]at hc;subst hc;simp only[exec,aF3,aW3]at h;obtain⟨rfl,rfl⟩:=h;exact wpIn_label ⟨rfl,g,j,m,.refl lim g w,aC3 _,o⟩
  |_=>simp[comp]at hc
def lD1 (b:jN P T) (a:∀d,pU P (exec T d)->Si P T (exec T d)) (d:Nat):pU P (exec T d):=Nz b a (d+1) d (by omega)
end
end Go.Sim
namespace Go.Sim
def Vj (T:kG) (k:gC) (xs:aA AV):(foot T k xs).al=[]:=by
 unfold foot;split<;>rfl
def Yr {T:kG} {ex:Nat->Bool->IC->St->aB (Ex×St)} {lim:Nat} {f:FuncId} {fn:IFn} {xs:aA AV} {H:aA gN} {N:Nat} {v:AV} {a:Hp} (hf:T f=some fn) (hp:fn.pure=true) (c:(fn.frz||xs.all (closed 4))=true)
  (h:callF T ex lim f xs {h:=H,n:=N}=some (v,a)) (N':Nat):∃b,callF T ex lim f xs {h:=H,n:=N'}=some (v,b):=by
 unfold callF at h ⊢;simp only[hf,hp,aZ3]at h ⊢;split at h;rename_i hc;rw[aE3 hc];obtain⟨w,h1,h2⟩:=aB3.1 h;cases h2;exact⟨_,by rw[h1];rfl⟩
 grind
def dG1 {T:kG} {ex:Nat->Bool->IC->St->aB (Ex×St)} {lim:Nat} {k:gC} {xs:aA AV} {H:aA gN} {N:Nat} {v:AV} {j:Hp} (h:step T ex lim k xs {h:=H,n:=N}=some (v,j)) (e:(foot T k xs).all=1) (d:(foot T k xs).x=true) (N':Nat):
  ∃i,step T ex lim k xs {h:=H,n:=N'}=some (v,i):=by
 have one:∀{f:FuncId} {zs:aA AV},(match T f with|some fn=>fn.pure&&(fn.frz||zs.all (closed 4))|none=>false)=true->callF T ex lim f zs {h:=H,n:=N}=some (v,j)->∃i,callF T ex lim f zs {h:=H,n:=N'}=some (v,i):=fun{f zs} d h=>by
  split at d;rename_i fn hf;simp only[aA3]at d;exact Yr hf d.1 d.2 h N';cases d
 cases k with
 |callF f=>exact one d h
 |callV=>
  cases xs with
  |nil=>simp[foot]at d
  |cons f args=>
   cases f with
   |fn g first cap=>
    cases g with
    |func g=>exact one (zs:=first++args++cap) d h
    |_=>simp[foot]at d
   |_=>simp[foot]at d
 |_=>exfalso;rcases xs with _|⟨a,_|⟨b,_|⟨c,t⟩⟩⟩<;>simp[foot]at e
def xB (T:kG) (k:gC) (xs:aA AV):(foot T k xs).all<=3/\((foot T k xs).all≠0->(foot T k xs).rd=[]/\(foot T k xs).wr=[]):=by
 unfold foot
 split<;>first
  |exact⟨by simp,fun h=>absurd rfl h⟩
  |(refine⟨?_,fun _=>⟨rfl,rfl⟩⟩;(repeat' split)<;>simp_all)
def uA {T:kG} {k:gC} {xs:aA AV} (h:(foot T k xs).all=0):(∀f,k≠.callF f)/\k≠.callV:=by
 constructor;rintro f rfl;simp only[foot]at h;split at h
 grind
 cases h;rintro rfl;cases xs with
 |nil=>simp[foot]at h
 |cons x xs=>
  simp only[foot]at h;split at h
  grind
  cases h
def vT {T:kG} {ex:Nat->Bool->IC->St->aB (Ex×St)} {lim:Nat} {k:gC} {xs:aA AV} {s s':Hp} {v:AV} (h:step T ex lim k xs s=some (v,s')) (h0:(foot T k xs).all=0):
  ∃out,doOp (look s.h) lim s.n k xs=some out/\v=out.v/\s'=out.apply s:=by
 obtain⟨h1,h2⟩:=uA h0;unfold step at h;split at h
 grind
 exact absurd rfl h2
 grind
def Ee {out:Out} {s:Hp} (a:∀i ob,out.up=some (i,ob)->(look s.h i).isSome=true) (id:Nat):look (out.apply s).h id=out.after (look s.h) s.n id:=by
 have hb:look (match out.up with|some (i,ob)=>upd s.h i ob|none=>s.h) id=out.base (look s.h) id:=by
  unfold Out.base;cases hu:out.up with
  |none=>rfl
  |some p=>
   obtain⟨i,ob⟩:=p;simp only[look_upd];have:=a i ob hu;by_cases e:id=i;subst e;simp[this];simp[e]
 unfold Out.apply Out.after;cases hn:out.new with
 |none=>exact hb
 |some ob=>
  simp only[look];by_cases e:s.n=id
  grind
  grind
def uB (out:Out) (s:Hp):(out.apply s).n=if out.new.isSome then s.n+1 else s.n:=by
 unfold Out.apply;cases out.new<;>rfl
def kW {f:Foot} (h:f.isE=true):f.rd=[]/\f.wr=[]/\f.al=[]/\f.all=0:=by
 simp only[Foot.isE,aA3,List.isEmpty_iff]at h;exact⟨h.1.1.1,h.1.1.2,h.1.2,aR3 h.2⟩
def Kl {f:Foot} {id:Nat} (h:id∈f.rd\/id∈f.wr):f.isE=false:=by
 cases hE:f.isE with
 |false=>rfl
 |true=>obtain⟨a,b,_⟩:=kW hE;rw[a,b]at h;simp at h
def Bv {f:Foot} {id:Nat} (h:id∈f.al):f.isE=false:=by
 cases hE:f.isE with
 |false=>rfl
 |true=>obtain⟨_,_,c,_⟩:=kW hE;rw[c]at h;simp at h
def sZ {f:Foot} (h:f.all≠0):f.isE=false:=by
 cases hE:f.isE with
 |false=>rfl
 |true=>exact absurd (kW hE).2.2.2 h
def lE1 {i j:Foot} (h:i.all+j.all<=1\/i.isE=true\/j.isE=true) (a:j.isE=false):i.all<=1:=by
 rcases h with h|h|h;omega;have:=(kW h).2.2.2;omega
 grind
def Ik {i j:Foot} (h:i.all+j.all<=1\/i.isE=true\/j.isE=true) (hi:i.isE=false):j.all<=1:=by
 rcases h with h|h|h;omega
 grind
 have:=(kW h).2.2.2;omega
def jF {i j:Foot} (h:compat0 i j=true):compat i j=true:=by simp[compat,h]
def fF {i j:Foot} (h:compat i j=true):(i.all+j.all<=1\/i.isE=true\/j.isE=true)/\(∀x∈i.wr,x∉j.rd/\x∉j.wr)/\(∀x∈j.wr,x∉i.rd)/\(∀x∈i.al,x∉j.rd/\x∉j.wr)/\(i.all=0\/j.wr=[])/\(j.all=0\/i.wr=[]):=by
 simp only[compat,aQ3]at h;rcases h with(h|h)|h;obtain⟨a,b,c,d⟩:=kW h;rw[a,b,c,d];exact⟨.inr (.inl h),fun x e=>by simp at e,fun x _ e=>by simp at e,fun x e=>by simp at e,.inl rfl,.inr rfl⟩;obtain⟨a,b,c,d⟩:=kW h;rw[a,b,d];exact⟨.inr (.inr h),fun x _=>⟨fun e=>by simp at e,fun e=>by simp at e⟩,fun x e=>by simp at e,fun x _=>⟨fun e=>by simp at e,fun e=>by simp at e⟩,.inr rfl,.inl rfl⟩;simp only[compat0,aA3,aH3,aD3,aT3,aQ3,cK3,List.isEmpty_iff,bN3,bD3]at h;obtain⟨⟨⟨⟨⟨h1,h2⟩,f⟩,g⟩,k⟩,l⟩:=h;exact⟨.inl h1,h2,f,g,k,l⟩
def rG {a:Nat} {ft:Nat->Foot} {id:Nat}:∀{j:Nat},∀i,i<j->a.testBit i=false->id∈(ft i).al->id∈unseen a j (iC ft j)
 |0,i,hi,_,_=>by omega
 |j+1,i,hi,hm,hid=>by
  simp only[iC,unseen,dH3,cD3]
  by_cases e:i=j
  grind
  exact .inr (rG i (by omega) hm hid)
def Il {l l':aA AV}:∀{xs:aA IX},(∀t,.t t∈xs->l[t]? =l'[t]?)->evs l xs=evs l' xs
 |[],_=>rfl
 |x::xs,h=>by
  have h1:x.ev l=x.ev l':=by
   cases x with
   |t i=>exact h i (by simp)
   |c v=>rfl
  simp only[evs,h1,Il (xs:=xs) (fun t a=>h t (by simp[a]))]
def Km {l l':aA AV} {a:aB (Nat×Bool)} (h:∀i b,a=some (i,b)->l[i]? =l'[i]?):wanted l a=wanted l' a:=by
 cases a with
 |none=>rfl
 |some p=>
  obtain⟨i,b⟩:=p;simp only[Sim.wanted,h i b rfl]
def Ef (l:aA AV) (d:aB Nat) (v:AV):(put l d v).length=l.length:=by
 cases d<;>simp[put]
def vU {l:aA AV} {d:aB Nat} {v:AV} {t:Nat} (h:d≠some t):(put l d v)[t]? =l[t]? :=by
 cases d with
 |none=>rfl
 |some i=>simp only[put,aX3];rw[aG3 (fun e=>h (by rw[e]))]
def dH1 {l:aA AV} {d a:aB Nat} {v v':AV} (h:∀t,d=some t->a≠some t):put (put l d v) a v'=put (put l a v') d v:=by
 cases d with
 |none=>rfl
 |some i=>
  cases a with
  |none=>rfl
  |some j=>exact List.set_comm _ _ (fun e=>h i rfl (by rw[e]))
structure wK (P:Program) (T:kG) (ex:Nat->Bool->IC->St->Option (Ex×St)) (lim:Nat) (ops:Array Oper) (ios:List Sim.Op1) (st:Nat->St) (ft:Nat->Foot) (v:Nat->AV):Prop where
 comp:mapO (lP P ops.toList) ops.toList=some ios
 back:∀j o,ops.toList[j]? =some o->∀e∈o.after.toList,Region.binds .any e=true->e.on<j
 tmps:∀j o,ios[j]? =some o->∀i p,i<j->ios[i]? =some p->((dR [] ops.toList).getD j 0).testBit i=true\/((∀d,p.dst=some d->o.dst≠some d/\d∉o.reads)/\∀d,o.dst=some d->d∉p.reads)
 step:∀j o,ios[j]? =some o->Stp T ex lim ((dR [] ops.toList).getD j 0) ios.length j o ft st v
 com:∀j,j<ios.length->∀i,i<j->((dR [] ops.toList).getD j 0).testBit i=true\/compat (ft i) (ft j)=true
 gr:rE ex
 wf0:Wf (st 0).s.h (st 0).s.n
def yS (ft:Nat->Foot) (j id:Nat):Bool:=(ft j).all==2||(ft j).wr.contains id||(ft j).al.contains id
def vQ1 {ft:Nat->Foot} {j id:Nat} (h:(ft j).isE=true):yS ft j id=false:=by
 obtain⟨_,b,c,d⟩:=kW h;simp[yS,b,c,d]
def jD (st:Nat->St) (ft:Nat->Foot) (S:Nat->Bool):Nat->Nat->aB AO
 |0,id=>look (st 0).s.h id
 |j+1,id=>if S j&&yS ft j id then look (st (j+1)).s.h id else jD st ft S j id
def qD (ios:aA Sim.Op1) (j:Nat):aB Nat:=(ios[j]?).bind (·.dst)
def tl (ios:aA Sim.Op1) (st:Nat->St) (v:Nat->AV) (S:Nat->Bool):Nat->aA AV
 |0=>(st 0).t
 |j+1=>if S j then put (tl ios st v S j) (qD ios j) (v j)else tl ios st v S j
section
variable {P:Program} {T:kG} {ex:Nat->Bool->IC->St->Option (Ex×St)} {lim:Nat} {ops:Array Oper} {ios:List Sim.Op1} {st:Nat->St} {ft:Nat->Foot} {v:Nat->AV}
def wK.get (R:wK P T ex lim ops ios st ft v) {j:Nat} (h:j<ios.length):∃io o,ios[j]? =some io/\ops.toList[j]? =some o/\lP P ops.toList o=some io:=by
 obtain⟨h1,h2⟩:=eR R.comp;obtain⟨o,a,b⟩:=h2 j ios[j] (by simp[h]);exact⟨ios[j],o,by simp[h],a,b⟩
def wK.size (R:wK P T ex lim ops ios st ft v):ios.length=ops.size:=by
 obtain⟨h1,h2⟩:=eR R.comp;simpa using h1
def wK.grows (R:wK P T ex lim ops ios st ft v) {j:Nat} (h:j<ios.length):kB (st j).s (st (j+1)).s:=by
 obtain⟨io,o,h1,_,_⟩:=R.get h;obtain⟨_,h2⟩:=R.step j io h1;rcases h2 with⟨_,_,_,a⟩|⟨_,xs,_,_,_,a,_⟩|⟨_,xs,_,_,_,a⟩|⟨_,xs,W,_,_,_,a⟩
 rw[a];exact .refl _;rw[a];exact .refl _;exact oK R.gr a;exact Ao (fun _ _ _=>oK R.gr) a
def wK.mono (R:wK P T ex lim ops ios st ft v) {i:Nat}:∀{j:Nat},i<=j->j<=ios.length->(st i).s.n<=(st j).s.n
  | 0, h, _ => by have:i=0:=by omega
                  subst this;exact aC3 _
  |j+1,h,hm=>by
    by_cases e:i=j+1
    grind
    exact bB3 (R.mono (i:=i) (j:=j) (by omega) (by omega)) (R.grows (by omega)).n
def wK.wf (R:wK P T ex lim ops ios st ft v):∀{j:Nat},j<=ios.length->Wf (st j).s.h (st j).s.n
 |0,_=>R.wf0
 |j+1,h=>(R.grows (by omega)).wf (R.wf (by omega))
def wK.al (R:wK P T ex lim ops ios st ft v) {j id:Nat} (h:j<ios.length):id∈(ft j).al↔(st j).s.n<=id/\id<(st (j+1)).s.n:=by
 obtain⟨io,o,h1,_,_⟩:=R.get h;obtain⟨_,h2⟩:=R.step j io h1;rcases h2 with⟨_,_,b,a⟩|⟨_,xs,_,_,b,a,_⟩|⟨_,xs,_,h5,b,a⟩|⟨_,xs,W,_,h5,b,a⟩
 rw[b,a];simp;rw[b,a,Vj];simp
 grind
 grind
def wK.all (R:wK P T ex lim ops ios st ft v) {j:Nat} (h:j<ios.length):(ft j).all<=2:=by
 obtain⟨io,o,h1,_,_⟩:=R.get h;obtain⟨_,h2⟩:=R.step j io h1;rcases h2 with⟨_,_,a,b⟩|⟨_,xs,_,h5,a,b,_⟩|⟨_,xs,_,h5,a,b⟩|⟨_,xs,W,_,h5,a,b⟩
 rw[a];simp;rw[a];omega;rw[a];have:=(xB T io.k xs).1;have:=h5.2;simp only;omega;rw[a];simp
def wK.keep (R:wK P T ex lim ops ios st ft v) {j id:Nat} (h:j<ios.length) (c:yS ft j id=false):look (st (j+1)).s.h id=look (st j).s.h id:=by
 obtain⟨io,o,h1,_,_⟩:=R.get h;obtain⟨_,h2⟩:=R.step j io h1;rcases h2 with⟨_,_,d,b⟩|⟨_,xs,_,_,d,b,_⟩|⟨_,xs,_,h5,d,b⟩|⟨_,xs,W,_,h5,d,b⟩
 rw[b];rw[b];have y:=(xB T io.k xs).1;simp only[yS,cW3,cY3,ne_eq,bN3,bD3]at c;have f:=c.2;rw[R.al h]at f;rw[d]at c;have h0:(foot T io.k xs).all=0:=by grind
 obtain⟨out,m,_,hs⟩:=vT b h0;rw[hs,Ee (fun i ob g=>(xA (T:=T) m g).2)];have hn:=uB out (st j).s;rw[<-hs]at hn;unfold Out.after Out.base;cases hnew:out.new with
 |none=>
  simp only;cases g:out.up with
  |none=>rfl
  |some p=>
   obtain⟨i,ob⟩:=p;have:=(xA (T:=T) m g).1;simp only;rw[aG3 (fun e=>c.1.2 (by rw[e];exact this))]
 |some ob'=>
  rw[hnew]at hn;simp only[dG3,aZ3]at hn;simp only;rw[aG3 (by omega)];cases g:out.up with
  |none=>rfl
  |some p=>
   obtain⟨i,ob⟩:=p;have:=(xA (T:=T) m g).1;simp only;rw[aG3 (fun e=>c.1.2 (by rw[e];exact this))]
 simp only[yS,d,cW3,cY3,ne_eq,bN3,bD3,List.mem_range'_1]at c;obtain⟨⟨_,hw⟩,f⟩:=c;obtain⟨r,s',w,_,z,A,u,x,_⟩:=rC b;have hn:=(R.grows h).n;have q:=R.wf (j:=j+1) (by omega);by_cases hid:id<(st j).s.n;rw[u];simp only;rw[look_newOK_lt hid,sP];rw[<-x];exact hw;have l:(st (j+1)).s.n<=id:=by omega
 have a:∀{h:aA gN} {n:Nat},Wf h n->n<=id->look h id=none:=fun hw t=>by
  cases hl:look _ id with
  |none=>rfl
  |some o=>have:=hw.lt hl;omega
 rw[a q l,a (R.wf (j:=j) (by omega)) (by omega)]
def Eg (R:wK P T ex lim ops ios st ft v) {S:Nat->Bool} {id:Nat}:∀{j:Nat},j<=ios.length->(∀i,i<j->yS ft i id=true->S i=true)->jD st ft S j id=look (st j).s.h id
 |0,_,_=>rfl
 |j+1,hm,h=>by
  simp only[jD]
  cases ht:yS ft j id with
  |true=>simp[h j (by omega) ht]
  |false=>
   simp only[Bool.and_false,aK3,bI3]
   rw[Eg R (by omega) (fun i hi=>h i (by omega)),R.keep (by omega) ht]
def Ar {S:Nat->Bool} {id j:Nat}:∀{m:Nat},j<=m->(∀i,j<=i->i<m->S i=true->yS ft i id=false)->jD st ft S m id=jD st ft S j id
  | 0, hj, _ => by have:j=0:=by omega
                   subst this;rfl
  |m+1,hj,h=>by
    by_cases e:j=m+1
    subst e;rfl
    simp only[jD]
    have h1:¬((S m&&yS ft m id)=true):=by grind
    rw[aG3 h1]
    exact Ar (by omega) (fun i hi a=>h i hi (by omega))
def tD1 {S S':Nat->Bool} {id j:Nat} {ao:AO} (a:∀i,j<i->S' i=S i) (h0:jD st ft S' (j+1) id=some ao->jD st ft S (j+1) id=some ao):∀{m:Nat},j<m->jD st ft S' m id=some ao->jD st ft S m id=some ao
 |0,hj,_=>by omega
 |m+1,hj,h=>by
  by_cases e:j=m
  subst e;exact h0 h
  simp only[jD]at h ⊢
  rw[a m (by omega)]at h
  split at h
  grind
  rename_i hc;rw[aG3 hc];exact tD1 a h0 (by omega) h
def Eh {S S':Nat->Bool} {id:Nat}:∀{j:Nat},(∀i,i<j->S' i=S i)->jD st ft S' j id=jD st ft S j id
 |0,_=>rfl
 |j+1,h=>by simp only[jD,h j (by omega),Eh (j:=j) (fun i hi=>h i (by omega))]
def zF (R:wK P T ex lim ops ios st ft v) {S:Nat->Bool}:∀{j:Nat},j<=ios.length->(tl ios st v S j).length=(st j).t.length
 |0,_=>rfl
 |j+1,h=>by
  obtain⟨io,o,h1,_,_⟩:=R.get (j:=j) (by omega)
  rw[(R.step j io h1).1,Ef]
  simp only[tl]
  split
  rw[Ef];exact zF R (by omega)
  exact zF R (by omega)
def tlA (R:wK P T ex lim ops ios st ft v) {S:Nat->Bool} {t:Nat}:∀{j:Nat},j<=ios.length->(∀i,i<j->qD ios i=some t->S i=true)->(tl ios st v S j)[t]? =(st j).t[t]?
 |0,_,_=>rfl
 |j+1,hm,h=>by
  obtain⟨io,o,h1,_,_⟩:=R.get (j:=j) (by omega)
  have a:=(R.step j io h1).1
  have hd:qD ios j=io.dst:=by simp[qD,h1]
  have ih:=tlA R (S:=S) (t:=t) (j:=j) (by omega) (fun i hi=>h i (by omega))
  have hl:=zF R (S:=S) (j:=j) (by omega)
  simp only[tl,a]
  by_cases e:io.dst=some t
  rw[h j (by omega) (hd.trans e)]
  simp only[aZ3,hd,e,put,aX3,hl]
  rw[vU e]
  split
  rw[hd,vU e];exact ih
  exact ih
def tlB {S:Nat->Bool} {t j:Nat}:∀{m:Nat},j<=m->(∀i,j<=i->i<m->S i=true->qD ios i≠some t)->(tl ios st v S m)[t]? =(tl ios st v S j)[t]?
  | 0, hj, _ => by have:j=0:=by omega
                   subst this;rfl
  |m+1,hj,h=>by
    by_cases e:j=m+1
    subst e;rfl
    simp only[tl]
    split
    rename_i hs
    rw[vU (h m (by omega) (by omega) hs)]
    exact tlB (by omega) (fun i hi a=>h i hi (by omega))
    exact tlB (by omega) (fun i hi a=>h i hi (by omega))
def Oa {S S':Nat->Bool}:∀{j:Nat},(∀i,i<j->S' i=S i)->tl ios st v S' j=tl ios st v S j
 |0,_=>rfl
 |j+1,h=>by simp only[tl,h j (by omega),Oa (j:=j) (fun i hi=>h i (by omega))]
def tlC {S S':Nat->Bool} {j:Nat} (b:∀i,i<j->S' i=S i) (a:∀i,j<i->S' i=S i) (h1:S j=false) (h2:S' j=true):∀{m:Nat},j<m->(∀i,j<i->i<m->S i=true->∀t,qD ios j=some t->qD ios i≠some t)->
  tl ios st v S' m=put (tl ios st v S m) (qD ios j) (v j)
 |0,hj,_=>by omega
 |m+1,hj,h=>by
  by_cases e:j=m
  subst e
  simp only[tl,h1,h2,aZ3,aK3,bI3,Oa b]
  have ih:=tlC b a h1 h2 (m:=m) (by omega) (fun i hi c=>h i hi (by omega))
  simp only[tl,a m (by omega),ih]
  split
  rename_i hs
  exact dH1 (h m (by omega) (by omega) hs)
  rfl
end
end Go.Sim
namespace Go.Sim
section
variable {P:Program} {T:kG} {ex:Nat->Bool->IC->St->Option (Ex×St)} {lim:Nat} {ops:Array Oper} {ios:List Sim.Op1} {st:Nat->St} {ft:Nat->Foot} {v:Nat->AV} {S S':Nat->Bool}
structure lF1 (P:Program) (ops:Array Oper) (ios:List Sim.Op1) (st:Nat->St) (ft:Nat->Foot) (v:Nat->AV) (lim base:Nat) (g0:Gh) (w0:World) (S:Nat->Bool) (g:Gh) (a:Act) (w:World):Prop where
 ext:sM lim g0 g w0 w
 W:WG g w
 H:HR P g (jD st ft S ios.length) w
 dom:∀id,g.ι id≠none->id<(st 0).s.n\/∃i,i<ios.length/\S i=true/\id∈(ft i).al
 t:TR g (tl ios st v S ios.length) a.tmps.toList
 marks:jE base g w a.defers
 closed:∀i oi,S i=true->ops.toList[i]? =some oi->∀e∈oi.after.toList,Region.binds .any e=true->S e.on=true
structure Rdy (ops:Array Oper) (ios:List Sim.Op1) (S:Nat->Bool) (j:Nat) (o:Oper) (io:Sim.Op1):Prop where
 hop:ops.toList[j]? =some o
 hio:ios[j]? =some io
 c:j<ios.length
 no:S j=false
 edges:∀e∈o.after.toList,Region.binds .any e=true->S e.on=true
def Ei (R:wK P T ex lim ops ios st ft v) {j:Nat} {o:Oper} {io:Sim.Op1} (hr:Rdy ops ios S j o io)
  (a:∀i oi,S i=true->ops.toList[i]? =some oi->∀e∈oi.after.toList,Region.binds .any e=true->S e.on=true) {i:Nat} (hi:i<j):
  S i=true\/(((dR [] ops.toList).getD j 0).testBit i=false/\compat (ft i) (ft j)=true/\∀p,ios[i]? =some p->(∀d,p.dst=some d->io.dst≠some d/\d∉io.reads)/\∀d,io.dst=some d->d∉p.reads):=by
 cases hb:((dR [] ops.toList).getD j 0).testBit i with
 |true=>exact .inl (sX R.back (D:=fun i=>S i=true) a j o hr.hop hr.edges i hb)
 |false=>
  refine .inr ⟨rfl,(R.com j hr.c i hi).resolve_left (by rw[hb];simp),fun p hp=>?_⟩;exact(R.tmps j io hr.hio i p hi hp).resolve_left (by rw[hb];simp)
def Kn (R:wK P T ex lim ops ios st ft v) {j:Nat} {o:Oper} {io:Sim.Op1} (hr:Rdy ops ios S j o io)
  (a:∀i oi,S i=true->ops.toList[i]? =some oi->∀e∈oi.after.toList,Region.binds .any e=true->S e.on=true) {i:Nat} (hi:j<i) (b:i<ios.length) (f:S i=true):
  compat (ft j) (ft i)=true/\∀p,ios[i]? =some p->(∀d,io.dst=some d->p.dst≠some d/\d∉p.reads)/\∀d,p.dst=some d->d∉io.reads:=by
 obtain⟨g,oi,h1,h2,h⟩:=R.get b
 have hb:((dR [] ops.toList).getD i 0).testBit j=false:=by
  cases hb:((dR [] ops.toList).getD i 0).testBit j with
  |false=>rfl
  |true=>
   have:=sX R.back (D:=fun i=>S i=true) a i oi h2 (fun e he c=>a i oi f h2 e he c) j hb;simp only[hr.no]at this;cases this
 refine⟨(R.com i b j hi).resolve_left (by rw[hb];simp),fun p hp=>?_⟩;exact(R.tmps i p hp j io hi hr.hio).resolve_left (by rw[hb];simp)
def Oc (R:wK P T ex lim ops ios st ft v) {j:Nat} {o:Oper} {io:Sim.Op1} (hr:Rdy ops ios S j o io)
  (d:∀i oi,S i=true->ops.toList[i]? =some oi->∀e∈oi.after.toList,Region.binds .any e=true->S e.on=true) {t:Nat} (k:t∈io.reads):(tl ios st v S ios.length)[t]? =(st j).t[t]? :=by
 rw[tlB (j:=j) (bO3 hr.c),tlA R (bO3 hr.c)];intro i hi hd;rcases Ei R hr d hi with h|⟨_,_,h⟩
 exact h;obtain⟨a,oi,h1,_,_⟩:=R.get (j:=i) (by have:=hr.c;omega);have b:a.dst=some t:=by simpa[qD,h1]using hd
 exact absurd k ((h a h1).1 t b).2;intro i hi f g hd;by_cases e:i=j;subst e;rw[hr.no]at g;cases g;obtain⟨a,oi,h1,_,_⟩:=R.get f;have b:a.dst=some t:=by simpa[qD,h1]using hd
 exact absurd k (((Kn R hr d (by omega) f g).2 a h1).2 t b)
def vR1 (R:wK P T ex lim ops ios st ft v) {j:Nat} {o:Oper} {io:Sim.Op1} (hr:Rdy ops ios S j o io)
  (f:∀i oi,S i=true->ops.toList[i]? =some oi->∀e∈oi.after.toList,Region.binds .any e=true->S e.on=true) (b:∀i,i≠j->S' i=S i) (l:S' j=true):
  tl ios st v S' ios.length=put (tl ios st v S ios.length) io.dst (v j):=by
 have hd:qD ios j=io.dst:=by simp[qD,hr.hio]
 rw[<-hd];refine tlC (fun i hi=>b i (by omega)) (fun i hi=>b i (by omega)) hr.no l hr.c (fun i hi a k t m h=>?_);obtain⟨d,oi,h1,_,_⟩:=R.get a;have g:d.dst=some t:=by simpa[qD,h1]using h
 exact(((Kn R hr f hi a k).2 d h1).1 t (hd.symm.trans m)).1 g
def lH1 (R:wK P T ex lim ops ios st ft v) {j:Nat} {o:Oper} {io:Sim.Op1} (hr:Rdy ops ios S j o io)
  (a:∀i oi,S i=true->ops.toList[i]? =some oi->∀e∈oi.after.toList,Region.binds .any e=true->S e.on=true) {id:Nat} {ao:AO} (hid:id∈(ft j).rd\/id∈(ft j).wr) (hl:look (st j).s.h id=some ao):
  jD st ft S ios.length id=some ao:=by
 have g:=(R.wf (bO3 hr.c)).lt hl;rw[Ar (j:=j) (bO3 hr.c),Eg R (bO3 hr.c)];exact hl;intro i hi d;rcases Ei R hr a hi with h|⟨_,h,_⟩
 exact h;obtain⟨c1,c2,c3,c4,c5,c6⟩:=fF h;simp only[yS,aQ3,cK3,bN3,aH3]at d;rcases d with(d|d)|d;have:=lE1 c1 (Kl hid);omega
 grind
 grind
 intro i hi b f;by_cases e:i=j;subst e;rw[hr.no]at f;cases f;obtain⟨c1,c2,c3,c4,c5,c6⟩:=fF (Kn R hr a (by omega) b f).1;simp only[yS,cW3,cY3,ne_eq,bN3,bD3];refine⟨⟨by have:=Ik c1 (Kl hid);omega,fun h=>?_⟩,fun h=>?_⟩
 grind
 rw[R.al b]at h;have:=R.mono (i:=j) (j:=i) (by omega) (by omega);omega
def Ej (R:wK P T ex lim ops ios st ft v) {j:Nat} {o:Oper} {io:Sim.Op1} (hr:Rdy ops ios S j o io)
  (d:∀i oi,S i=true->ops.toList[i]? =some oi->∀e∈oi.after.toList,Region.binds .any e=true->S e.on=true) (k:∀i,i≠j->S' i=S i) (m:S' j=true) {id:Nat}
  (hid:(id∈(ft j).wr/\id<(st j).s.n)\/id∈(ft j).al):jD st ft S' ios.length id=look (st (j+1)).s.h id:=by
 rw[Ar (j:=j+1) hr.c]
 have:yS ft j id=true:=by
  simp only[yS,aQ3,cK3,bN3,aH3];rcases hid with⟨h,_⟩|h;exact .inl (.inr h);exact .inr h
 simp[jD,m,this];intro i hi a b;have l:S i=true:=by rw[<-k i (by omega)];exact b
 obtain⟨c1,c2,c3,c4,c5,c6⟩:=fF (Kn R hr d (by omega) a l).1;simp only[yS,cW3,cY3,ne_eq,bN3,bD3];have g:=R.mono (i:=j+1) (j:=i) (by omega) (by omega);have hg:=(R.grows hr.c).n
 have f:(ft j).isE=false:=by
  rcases hid with⟨hid,_⟩|hid;exact Kl (.inr hid);exact Bv hid
 refine⟨⟨by have:=Ik c1 f;omega,fun h=>?_⟩,fun h=>?_⟩
 grind
 rw[R.al a]at h;rcases hid with⟨_,hid⟩|hid;omega;rw[R.al hr.c]at hid;omega
def xC (R:wK P T ex lim ops ios st ft v) {j:Nat} {o:Oper} {io:Sim.Op1} (hr:Rdy ops ios S j o io)
  (g:∀i oi,S i=true->ops.toList[i]? =some oi->∀e∈oi.after.toList,Region.binds .any e=true->S e.on=true) (b:∀i,i≠j->S' i=S i) (k:S' j=true) {id:Nat} {ao:AO}
  (hk:yS ft j id=true->id∈(ft j).wr/\look (st (j+1)).s.h id=look (st j).s.h id) (h:jD st ft S' ios.length id=some ao):jD st ft S ios.length id=some ao:=by
 refine tD1 (j:=j) (fun i hi=>b i (by omega)) (fun h0=>?_) hr.c h;have d:jD st ft S (j+1) id=jD st ft S j id:=by simp[jD,hr.no]
 have f:jD st ft S' j id=jD st ft S j id:=Eh (fun i hi=>b i (by omega));rw[d];cases ht:yS ft j id with
 |false=>
  simp only[jD,ht,Bool.and_false,aK3,bI3,f]at h0;exact h0
 |true=>
  obtain⟨m,l⟩:=hk ht;simp only[jD,ht,k,dE3,aZ3,l]at h0;rw[Eg R (bO3 hr.c)];exact h0;intro i hi a;rcases Ei R hr g hi with h|⟨_,h,_⟩
  exact h;obtain⟨c1,c2,c3,c4,c5,c6⟩:=fF h;simp only[yS,aQ3,cK3,bN3,aH3]at a;rcases a with(a|a)|a
  grind
  grind
  grind
end
end Go.Sim
namespace Go.Sim
section
variable {P:Program} {T:kG} {ex:Nat->Bool->IC->St->Option (Ex×St)} {lim:Nat} {ops:Array Oper} {ios:List Sim.Op1} {st:Nat->St} {ft:Nat->Foot} {v:Nat->AV} {S S':Nat->Bool} {r:Option Nat} {n base:Nat} {g0 g:Gh} {w0 w:World}
def Vk {o:Oper} {k:gC} {os:aA Operand} {L:Nat->aB AO} {m:Nat} {out:Out} {a:Act} (j:jR P o.op o.type=some (k,os)) (hg:iA P g lim w L m out (execOp a.eval o)) {next:Act->World->Prop} {Q:Exit->Act->World->Prop}
  (b:∀V g' w',VR g' out.v V->HR P g' (out.after L m) w'->WG g' w'->sM lim g g' w w'->(∀id,g'.ι id≠none->g.ι id≠none\/(id=m/\out.new.isSome))->next (a.put o.dst V) w'):
  o.wpIn (FW r) n P a w next Q:=by
 obtain⟨V,nx,g',w',d,e,hv,h,i,f,c⟩:=hg;refine⟨fun _ _=>trivial,?_⟩;rw[rD _ (wZ j),d];rcases e with rfl|⟨rfl,rfl⟩
 .exact b V g' w' hv h i f c
 .exact b undef g' w' hv h i f c
def Sj {k:gC} {xs:aA AV} (h1:∀f,k≠.callF f) (h2:k≠.callV):(foot T k xs).all=0:=by
 unfold foot
 split<;>first
  |rfl
  |exact absurd rfl (h1 _)
  |exact absurd rfl h2
def Yt (u:pU P ex) (A:jN P T) {o:Oper} {k:gC} {os:aA Operand} {xs:aA AV} {x:AV} {s S:Hp} {a:Act} (B:(jR P o.op o.type).getD (.fail,[])=(k,os)) (h:step T ex lim k xs s=some (x,S)) (d:(foot T k xs).all=1)
  (D:TR g xs (os.map a.eval)) (z:nK P g w s) {next:Act->World->Prop} {Q:Exit->Act->World->Prop}
  (q:∀V g' w',VR g' x V->g'.ι=g.ι->WG g' w'->(∀b,b<w.heap.size->w'.heap[b]? =w.heap[b]?)->sM s.n g g' w w'->next (a.put o.dst V) w'):o.wpIn (FW r) n P a w next Q:=by
 have fin:∀e w',lI P s.n g w s x s e w'->∃V,e=.returned V/\next (a.put o.dst V) w':=by
  rintro e w' ⟨V,g',rfl,R,L,J,X⟩;refine⟨V,rfl,q V g' w' R ?_ L.W ?_ J⟩
  .funext id
   by_cases hid:id<s.n
   .exact J.old id hid
   .have h1:g.ι id=none:=by
     cases h:g.ι id with
     |none=>rfl
     |some l=>exact absurd (z.dom id (by rw[h];simp)) hid
    have h2:g'.ι id=none:=by
     cases h:g'.ι id with
     |none=>rfl
     |some l=>exact absurd (L.dom id (by rw[h];simp)) hid
    rw[h1,h2]
  .intro b hb
   exact J.keep b hb (fun id loc hid hi=>by
    have:=z.dom id (by rw[hi];simp);omega)
 cases hco:jR P o.op o.type with
 |none=>
  rw[hco]at B;cases B;simp only[step,zA]at h;cases h
 |some p=>
  rw[hco]at B;cases B;unfold step at h;split at h
  .rename_i f
   obtain⟨c,K,h1,h2,E⟩:=pL hco (.inr ⟨f,rfl⟩);rcases E with⟨f',t,M,G⟩|⟨t,_⟩
   .cases t
    subst M;simp only[foot]at d;split at d
    .rename_i ifn j
     split at d
     .rename_i hp
      have m:TR g xs (#[]++c.args.map a.eval++#[]).toList:=by rw[G]at D;simpa using D
      exact tZ A h1 h2 rfl j (Dr u A j hp h m z).2 fin
     .grind
    .cases d
   .cases t
  .obtain ⟨c,K,h1,h2,E⟩:=pL hco (.inl rfl)
   rcases E with⟨f',t,_⟩|⟨_,G⟩
   .cases t
   .subst G
    split at h
    .rename_i U args
     have v:=D.head;have m:=D.tail;unfold callV at h;simp only[foot]at d;split at h
     .rename_i f first cap
      generalize hV:a.eval K=V at v;cases v with
      |@fn _ _ _ _ F C l1 l2 v1 v2=>
       simp only at d;split at d
       .rename_i ifn j
        split at d
        .rename_i hp
         have O:TR g first F.toList:=⟨by simpa using l1,fun i x y H hy=>v1 i x y H (by simpa using hy)⟩
         have N:TR g cap C.toList:=⟨by simpa using l2,fun i x y H hy=>v2 i x y H (by simpa using hy)⟩
         have d:TR g (first++args++cap) (F++c.args.map a.eval++C).toList:=by
          have:=(O.app m).app N;simpa using this
         exact tZ A h1 h2 hV j (Dr u A j hp h d z).2 fin
        .grind
       .cases d
     .grind
     .cases h
    .cases h
  .rename_i h1 h2
   exfalso;have:=Sj (T:=T) (xs:=xs) (fun f e=>h1 f e) (fun e=>h2 e);omega
def cov (R:wK P T ex lim ops ios st ft v) {id:Nat}:∀{j:Nat},j<=ios.length->(st 0).s.n<=id->id<(st j).s.n->∃i,i<j/\id∈(ft i).al
 |0,_,h1,h2=>by omega
 |j+1,hj,h1,h2=>by
  by_cases h:id<(st j).s.n
  obtain⟨i,hi,a⟩:=cov R (j:=j) (by omega) h1 h
  exact⟨i,by omega,a⟩
  exact⟨j,by omega,(R.al (by omega)).2 ⟨by omega,h2⟩⟩
def Yu (R:wK P T ex lim ops ios st ft v) (f2:pU P ex) (hT:jN P T) (b8:lim<=(st 0).s.n) {j:Nat} {o:Oper} {io:Sim.Op1} {a:Act} (hr:Rdy ops ios S j o io) (hco:lP P ops.toList o=some io)
    (q:lF1 P ops ios st ft v lim base g0 w0 S g a w) (y:∀i,i≠j->S' i=S i) (hj:S' j=true) {K:Act->World->Prop} {Q:Exit->Act->World->Prop} (hK:∀g' a' w',lF1 P ops ios st ft v lim base g0 w0 S' g' a' w'->K a' w'):
    wpOpIn (FW r) n P ops Q j K a w:=by
  have d:=q.closed;have h0:ops[j]? =some o:=by simpa using hr.hop
  unfold wpOpIn;rw[h0];simp only;obtain⟨os,c1,c2,c3,c4⟩:=pW hco
  have hw:Region.wanted o (yielded ops a.tmps)=Sim.wanted (st j).t io.guard:=by
    rw[Ig q.t hco];refine Km (fun i b hg=>Oc R hr d ?_);simp[Op1.reads,hg]
  have f1:evs (tl ios st v S ios.length) io.xs=evs (st j).t io.xs:=Il (fun t f=>Oc R hr d (by
    simp only[Op1.reads,cD3,List.mem_filterMap];exact .inl ⟨.t t,f,rfl⟩))
  have a0:∀i oi,S' i=true->ops.toList[i]? =some oi->∀e∈oi.after.toList,Region.binds .any e=true->S' e.on=true:=by
    intro i oi hi f9 e he hb
    have up:∀i,S i=true->S' i=true:=fun i h=>by
      by_cases e:i=j;rw[e];exact hj;rw[y i e];exact h
    by_cases e1:i=j;subst e1;rw[hr.hop]at f9;cases f9;exact up _ (hr.edges e he hb);exact up _ (d i oi (by rw[<-y i e1];exact hi) f9 e he hb)
  have d4:∀{g':Gh} {w':World} {V:Value},sM lim g g' w w'->jE base g' w' (a.put o.dst V).defers:=by
    intro g' w' V hE;have:(a.put o.dst V).defers=a.defers:=by cases o.dst<;>rfl
    rw[this];exact q.marks.ext hE
  have d6:∀{g':Gh} {w':World} {V:Value},sM lim g g' w w'->VR g' (v j) V->TR g' (tl ios st v S' ios.length) (a.put o.dst V).tmps.toList:=by
    intro g' w' V hE hV;rw[vR1 R hr d y hj,c3];exact Sd (q.t.mono hE.le) hV o.dst
  have L:∀id,(id<(st 0).s.n\/∃i,i<ios.length/\S i=true/\id∈(ft i).al)->id<(st 0).s.n\/∃i,i<ios.length/\S' i=true/\id∈(ft i).al:=by
    rintro id (h|⟨i,h1,h2,u⟩);exact .inl h;refine .inr ⟨i,h1,?_,u⟩;by_cases e:i=j;rw[e];exact hj;rw[y i e];exact h2
  have e9:=R.mono (i:=0) (j:=j) (by omega) (bO3 hr.c);obtain⟨s1,s2⟩:=R.step j io hr.hio;rw[hw];rcases s2 with⟨q1,q2,q3,q4⟩|⟨q1,xs,q2,q3,q4,q5,s2,q6⟩|⟨q1,xs,q2,q3,q4,q5⟩|⟨q1,xs,W,q2,q3,q4,q5⟩
  ·
    rw[q1];simp only[aK3,bI3];refine⟨fun _ _=>trivial,hK g _ w ⟨q.ext,q.W,fun id ao h=>?_,fun id h=>L id (q.dom id h),d6 (.refl lim g w) (by rw[q2];exact .undef g),d4 (.refl lim g w),a0⟩⟩;refine q.H id ao (xC R hr d y hj (fun f=>?_) h);rw[yS,q3]at f;simp at f
  ·
    rw[q1];simp only[aZ3];have b5:=sS q.t c2 (f1.trans q2);have f4:=(xB T io.k xs).2 (by omega)
    have M:∀id ao,look (hide (unseen ((dR [] ops.toList).getD j 0) j (iC ft j)) (st j).s.h) id=some ao->jD st ft S ios.length id=some ao:=by
      intro id ao h;obtain⟨h1,h2⟩:=zB _ (R.wf (bO3 hr.c)) h;have A:=(R.wf (bO3 hr.c)).lt h1;rw[Ar (j:=j) (bO3 hr.c),Eg R (bO3 hr.c)];exact h1;intro i hi f;rcases Ei R hr d hi with h|⟨hb,h,_⟩
      exact h;obtain⟨c1,c2,c3,c4,c5,c6⟩:=fF h;simp only[yS,aQ3,cK3,bN3,aH3]at f;have b9:(ft j).all=1:=by rw[q4];exact q3
      rcases f with(f|f)|f;have:=lE1 c1 (sZ (by omega));omega;rw[c6.resolve_left (by omega)]at f;simp at f;exact absurd (rG i hi hb f) h2;intro i hi z F;by_cases e:i=j;subst e;rw[hr.no]at F;cases F;obtain⟨c1,c2,c3,c4,c5,c6⟩:=fF (Kn R hr d (by omega) z F).1;have b9:(ft j).all=1:=by rw[q4];exact q3
      simp only[yS,cW3,cY3,ne_eq,bN3,bD3];refine⟨⟨by have:=Ik c1 (sZ (by omega));omega,fun h=>?_⟩,fun h=>?_⟩;rw[c5.resolve_left (by omega)]at h;simp at h;rw[R.al z]at h;have:=R.mono (i:=j) (j:=i) (by omega) (by omega);omega
    obtain⟨N,s2,i0,i4,q6⟩:∃N s2,(st j).s.n<=N/\(∀id,g.ι id≠none->id<N)/\step T ex lim io.k xs {h:=hide (unseen ((dR [] ops.toList).getD j 0) j (iC ft j)) (st j).s.h,n:=N}=some (v j,s2):=by
     cases hxf:(foot T io.k xs).x with
     |true=>
      obtain⟨s3,j4⟩:=dG1 q6 q3 hxf (st ios.length).s.n;refine⟨(st ios.length).s.n,s3,R.mono (bO3 hr.c) (aC3 _),fun id h=>?_,j4⟩;rcases q.dom id h with h1|⟨i,h1,h2,u⟩
      exact bK3 h1 (R.mono (bL3 _) (aC3 _));rw[R.al h1]at u;exact bK3 u.2 (R.mono h1 (aC3 _))
     |false=>
      refine⟨(st j).s.n+rsv (ios.length-j),s2,by omega,fun id h=>?_,q6⟩;rcases q.dom id h with h1|⟨i,h1,h2,u⟩
      have:=hr.c;omega;have f6:=Bv u;have b9:(ft j).isE=false:=sZ (by rw[show(ft j).all=1 by rw[q4];exact q3];decide);rw[R.al h1]at u;by_cases d2:i<j;have:=R.mono (i:=i+1) (j:=j) (by omega) (bO3 hr.c);omega
      have d3:j<i:=by
        rcases dK3 j i with h|h;exact h;have:i=j:=by omega
        subst this;rw[hr.no]at h2;cases h2
      have g9:∀k,j<=k->k<=i->(st (k+1)).s.n<=(st j).s.n+rsv (k-j):=by
        intro k
        induction k with
        |zero=>
          intro hk _;have:j=0:=by omega
          subst this;rw[q5];omega
        |succ k ih=>
          intro hk j9;by_cases e:j=k+1;subst e;rw[q5];omega;have l0:=ih (by omega) (by omega);have g7:k+1<ios.length:=by omega
          have i7:(ft (k+1)).all<=1:=by
            by_cases e2:k+1=i;have:=Ik (fF (Kn R hr d d3 h1 h2).1).1 b9;rw[e2];omega
            ·
              rcases dK3 1 (ft (k+1)).all with j6|hok;exfalso;obtain⟨l1,oi,i1,i2,i3⟩:=R.get h1
              have hb:((dR [] ops.toList).getD i 0).testBit (k+1)=true:=by
                rcases R.com i h1 (k+1) (by omega)with h|h;exact h;have:=lE1 (fF h).1 f6;omega
              have i5:S (k+1)=true:=sX R.back (D:=fun i=>S i=true) d i oi i2 (fun e he i9=>d i oi h2 i2 e he i9) (k+1) hb;have:=Ik (fF (Kn R hr d (by omega) g7 i5).1).1 b9;omega;exact hok
          obtain⟨g4,ok,k1,k2,k3⟩:=R.get g7;obtain⟨_,t2⟩:=R.step (k+1) g4 k1;have k0:rsv (k+1-j)=rsv (k-j)+1048576:=by rw[Nat.succ_sub (by omega),dB1]
          rcases t2 with⟨_,_,_,t3⟩|⟨_,xs',_,_,_,t3,_⟩|⟨_,xs',_,t3,t4,t5⟩|⟨_,xs',W',_,_,_,t3⟩
          rw[t3];omega;rw[t3];omega
          have d8:(foot T g4.k xs').all=0:=by
            have:(ft (k+1)).all=(foot T g4.k xs').all:=by rw[t4]
            have:=t3.1;omega
          obtain⟨out,_,_,hs⟩:=vT t5 d8;rw[hs,uB];split<;>omega;obtain⟨_,s',w,_,_,_,e3,_,_,_,_,_,e4⟩:=rC t3
          have e4:=e4 (by
            unfold nbF;rw[List.all_eq_false];refine⟨ft j,Nw (by omega),?_⟩;have:(ft j).x=false:=by rw[q4];exact hxf
            rw[this,show(ft j).all=1 by rw[q4];exact q3];decide)
          rw[e3];simp only;omega
      have:=g9 i (by omega) (aC3 _);have:=vM1 (a:=i-j) (b:=ios.length-j) (by omega);omega
    have Z:nK P g w {h:=hide (unseen ((dR [] ops.toList).getD j 0) j (iC ft j)) (st j).s.h,n:=N}:=
      ⟨fun id ao h=>q.H id ao (M id ao h),q.W,i4,((R.wf (bO3 hr.c)).hide _).mono i0⟩
    refine Yt f2 hT c1 q6 q3 b5 Z (fun V g' w' k1 k2 k3 k4 k5=>hK g' _ w' ?_);have hE:sM lim g g' w w':=k5.mono (by simp only;have:=hr.c;omega);refine⟨q.ext.trans hE,k3,fun id ao h=>?_,fun id h=>L id (q.dom id (by rw[<-k2];exact h)),d6 hE k1,d4 hE,a0⟩
    have h1:=xC R hr d y hj (id:=id) (ao:=ao) (fun f=>by
      rw[yS,q4]at f;rw[q3,f4.2,Vj]at f;simp at f) h
    exact(q.H id ao h1).mono hE.le (by rw[k2]) (fun loc hl=>k4 _ (q.W.lt id loc hl))
  rw[q1];simp only[aZ3];have b5:=sS q.t c2 (f1.trans q2);by_cases d8:(foot T io.k xs).all=0
  ·
    obtain⟨out,ho,hv,hs⟩:=vT q5 d8
    have j0:∀id ao,id∈(foot T io.k xs).rd\/id∈(foot T io.k xs).wr->look (st j).s.h id=some ao->jD st ft S ios.length id=some ao:=by
      intro id ao hid hl;refine lH1 R hr d ?_ hl;rw[q4];exact hid
    have e8:doOp (jD st ft S ios.length) lim (st j).s.n io.k xs=some out:=Sg (T:=T) ho j0;have hn:=uB out (st j).s;rw[<-hs]at hn;have G:∀id,look (st (j+1)).s.h id=out.after (look (st j).s.h) (st j).s.n id:=fun id=>by rw[hs];exact Ee (fun i ob hu=>(xA (T:=T) ho hu).2) id
    have C:∃g5,jR P o.op o.type=some (io.k,g5)/\g5=os:=by
      cases hc:jR P o.op o.type with
      |none=>
        rw[hc]at c1;simp only[Option.getD_none,aW3]at c1;rw[<-c1.1,zA]at ho;cases ho
      |some p=>rw[hc]at c1;exact⟨os,by rw[<-c1];rfl,rfl⟩
    obtain⟨g5,C,rfl⟩:=C
    have fin:∀(m:Nat) (V:Value) (g':Gh) (w':World),(out.new.isSome=true->m=(st j).s.n)->VR g' out.v V->HR P g' (out.after (jD st ft S ios.length) m) w'->WG g' w'->sM lim g g' w w'->
        (∀id,g'.ι id≠none->g.ι id≠none\/(id=m/\out.new.isSome))->K (a.put o.dst V) w':=by
      intro m V g' w' hm k1 k2 k3 k4 k5;refine hK g' _ w' ⟨q.ext.trans k4,k3,fun id ao h=>k2 id ao ?_,fun id h=>?_,d6 k4 (by rw[hv];exact k1),d4 k4,a0⟩
      ·
        have d0:id∈(ft j).al↔(st j).s.n<=id/\id<(st (j+1)).s.n:=R.al hr.c;have e0:(ft j).wr=(foot T io.k xs).wr:=by rw[q4]
        have j5:(ft j).all=0:=by rw[q4];exact d8
        have b0:(∀i ob,out.up=some (i,ob)->id≠i)->(out.new.isSome=true->id≠(st j).s.n)->jD st ft S ios.length id=some ao:=by
          intro h1 h2;refine xC R hr d y hj (fun f=>?_) h
          have g8:id∉(ft j).al:=by
            rw[d0,hn];cases hnew:out.new with
            |none=>simp
            |some ob=>
              have:=h2 (by rw[hnew];rfl);simp;omega
          refine⟨?_,?_⟩;simp only[yS,aQ3,cK3,bN3,aH3]at f;rcases f with(f|f)|f;omega;exact f;exact absurd f g8;rw[G id];unfold Out.after Out.base;cases hnew:out.new with
          |none=>
            simp only;cases hu:out.up with
            |none=>rfl
            |some p=>
              obtain⟨i,ob⟩:=p;simp only;rw[aG3 (h1 i ob hu)]
          |some ob'=>
            simp only;rw[aG3 (h2 (by rw[hnew];rfl))];cases hu:out.up with
            |none=>rfl
            |some p=>
              obtain⟨i,ob⟩:=p;simp only;rw[aG3 (h1 i ob hu)]
        by_cases O:out.new.isSome=true/\id=(st j).s.n;obtain⟨h1,h2⟩:=O;have hl:=Ej R hr d y hj (id:=id) (.inr (by rw[d0,hn,h1];simp;omega));rw[hl,G id]at h;rw[<-h,hm h1];unfold Out.after;cases hnew:out.new with
        |none=>rw[hnew]at h1;cases h1
        |some ob=>simp only;rw[aE3 h2,aE3 h2]
        by_cases X:∃ob,out.up=some (id,ob);obtain⟨ob,hu⟩:=X;obtain⟨u1,u2⟩:=xA (T:=T) ho hu;have g3:∃d7,look (st j).s.h id=some d7:=Option.isSome_iff_exists.1 u2;obtain⟨d7,g6⟩:=g3;have A:=(R.wf (bO3 hr.c)).lt g6;have hl:=Ej R hr d y hj (id:=id) (.inl ⟨by rw[e0];exact u1,A⟩);rw[hl,G id]at h;rw[<-h];unfold Out.after Out.base;cases hnew:out.new with
        |none=>simp only[hu,aZ3]
        |some ob'=>
          have:=hm (by rw[hnew];rfl);simp only[hu,aZ3];rw[aG3 (by omega),aG3 (by omega)]
        have J:=b0 (fun i ob hu e=>X ⟨ob,by rw[e];exact hu⟩) (fun h1 e=>O ⟨h1,e⟩);unfold Out.after Out.base;cases hnew:out.new with
        |none=>
          simp only;cases hu:out.up with
          |none=>exact J
          |some p=>
            obtain⟨i,ob⟩:=p;simp only;rw[aG3 (fun e=>X ⟨ob,by rw[e];exact hu⟩)];exact J
        |some ob'=>
          simp only;rw[aG3 (fun e=>O ⟨by rw[hnew];rfl,by rw[e];exact hm (by rw[hnew];rfl)⟩)];cases hu:out.up with
          |none=>exact J
          |some p=>
            obtain⟨i,ob⟩:=p;simp only;rw[aG3 (fun e=>X ⟨ob,by rw[e];exact hu⟩)];exact J
      rcases k5 id h with h1|⟨h1,h2⟩
      exact L id (q.dom id h1);refine .inr ⟨j,hr.c,hj,?_⟩;rw[R.al hr.c,hn,h2,h1,hm h2];simp
    cases hnew:out.new with
    |none=>
      have f8:doOp (jD st ft S ios.length) lim (st ios.length).s.n io.k xs=some out:=vO1 e8 hnew
      have f5:g.ι (st ios.length).s.n=none:=by
        cases h:g.ι (st ios.length).s.n with
        |none=>rfl
        |some l=>
          rcases q.dom _ (by rw[h];simp)with h1|⟨i,h1,h2,u⟩
          have:=R.mono (i:=0) (j:=ios.length) (by omega) (aC3 _);omega;rw[R.al h1]at u;have:=R.mono (i:=i+1) (j:=ios.length) (by omega) (aC3 _);omega
      have j2:lim<=(st ios.length).s.n:=bB3 b8 (R.mono (by omega) (aC3 _));exact Vk C (vO a.eval o C b5 f8 q.H q.W f5 j2) (fun V g' w'=>fin _ V g' w' (fun h=>by rw[hnew]at h;cases h))
    |some ob=>
      have f5:g.ι (st j).s.n=none:=by
        cases h:g.ι (st j).s.n with
        |none=>rfl
        |some l=>
          rcases q.dom _ (by rw[h];simp)with h1|⟨i,h1,h2,u⟩
          omega;rw[R.al h1]at u;rw[hnew]at hn;simp only[dG3,aZ3]at hn;by_cases d2:i<j;have:=R.mono (i:=i+1) (j:=j) (by omega) (bO3 hr.c);omega;by_cases e:i=j;subst e;rw[hr.no]at h2;cases h2;have:=R.mono (i:=j+1) (j:=i) (by omega) (by omega);omega
      exact Vk C (vO a.eval o C b5 e8 q.H q.W f5 (bB3 b8 e9)) (fun V g' w'=>fin _ V g' w' (fun _=>rfl))
  ·
    have h2:(ft j).all=2:=by
      have:=(xB T io.k xs).1;rw[q4];have:=q3.1;have:=q3.2;show(foot T io.k xs).all=2
      omega
    have b6:∀i,i<j->S i=true\/(ft i).isE=true:=by
      intro i hi;rcases Ei R hr d hi with h|⟨_,h,_⟩
      exact .inl h;rcases(fF h).1 with h|h|h;omega;exact .inr h;have:=(kW h).2.2.2;omega
    have b4:∀i,j<=i->i<ios.length->S i=false\/(ft i).isE=true:=by
      intro i hi z;cases F:S i with
      |false=>exact .inl rfl
      |true=>
        by_cases e:i=j;subst e;rw[hr.no]at F;cases F;rcases(fF (Kn R hr d (by omega) z F).1).1 with h|h|h;omega;have:=(kW h).2.2.2;omega;exact .inr h
    have f0:∀id,jD st ft S ios.length id=look (st j).s.h id:=by
      intro id
      rw[Ar (j:=j) (bO3 hr.c) (fun i hi z F=>by
        rcases b4 i hi z with B|B;rw[B]at F;cases F;exact vQ1 B),Eg R (bO3 hr.c) (fun i hi f=>by
        rcases b6 i hi with B|B;exact B;rw[vQ1 B]at f;cases f)]
    have Z:nK P g w (st j).s:=by
      refine⟨fun id ao h=>q.H id ao (by rw[f0];exact h),q.W,fun id h=>?_,R.wf (bO3 hr.c)⟩;rcases q.dom id h with h1|⟨i,h1,u,Y⟩
      omega;have f6:=Bv Y;rw[R.al h1]at Y;by_cases d2:i<j;have:=R.mono (i:=i+1) (j:=j) (by omega) (bO3 hr.c);omega;rcases b4 i (by omega) h1 with B|B;rw[B]at u;cases u;rw[f6]at B;cases B
    refine Ki f2 hT c1 q5 b5 Z (bB3 b8 e9) (fun V g' w' k1 k2 k3 k4=>hK g' _ w' ⟨q.ext.trans k3,k2.W,fun id ao h=>k2.H id ao ?_,fun id h=>?_,d6 k3 k1,d4 k3,a0⟩)
    rw[Ar (j:=j+1) hr.c (fun i hi z F=>by
      rcases b4 i (by omega) z with B|B;rw[y i (by omega),B]at F;cases F;exact vQ1 B)]at h
    have f:yS ft j id=true:=by simp[yS,h2]
    simp only[jD,hj,f,dE3,aZ3]at h;exact h;have A:=k2.dom id h;by_cases f7:id<(st 0).s.n;exact .inl f7;obtain⟨i,hi,u⟩:=cov R (j:=j+1) hr.c (by omega) A;refine .inr ⟨i,by have:=hr.c;omega,?_,u⟩;by_cases e:i=j;rw[e];exact hj;rw[y i e];rcases b6 i (by omega)with B|B;exact B;rw[Bv u]at B;cases B
  ·
    rw[q1];simp only[aZ3];have b5:=sS q.t c2 (f1.trans q2);have b9:(ft j).all=1:=by rw[q4]
    have e0:(ft j).wr=W:=by rw[q4]
    obtain⟨hid,s',wl,d5,k1,k2,k3,k4,k5,k6,k7,k9,_⟩:=rC q5;have E:=R.wf (bO3 hr.c)
    have b7:∀i,i<ios.length->S i=true->¬i<j->(ft i).wr=[]/\(∀id,id∈(ft i).al->(st (j+1)).s.n<=id)/\(ft i).all≠2:=by
      intro i z F d2
      have d3:j<i:=by
        rcases dK3 j i with h|h;exact h;have:i=j:=by omega
        subst this;rw[hr.no]at F;cases F
      obtain⟨e1,e2,e3,e4,e5,e6⟩:=fF (Kn R hr d d3 z F).1;refine⟨e5.resolve_left (by omega),fun id h=>?_,by have:=Ik e1 (sZ (by omega));omega⟩;rw[R.al z]at h;have:=R.mono (i:=j+1) (j:=i) (by omega) (by omega);omega
    have j8:=(R.grows hr.c).n
    have g1:∀id,mG hid (st j).s.n id=true->id<(st j).s.n/\id∉hid:=by
      intro id h;simp only[mG,aA3,aT3,bN3,bD3]at h;exact⟨by simpa[cP3]using h.1,h.2⟩
    have e7:∀id,id∉hid->id<(st j).s.n->jD st ft S ios.length id=look (st j).s.h id:=by
      intro id j3 A;rw[Ar (j:=j) (bO3 hr.c),Eg R (bO3 hr.c)];intro i hi f;rcases Ei R hr d hi with h|⟨hb,h,_⟩
      exact h;obtain⟨e1,e2,e3,e4,e5,e6⟩:=fF h;simp only[yS,aQ3,cK3,bN3,aH3]at f;rcases f with(f|f)|f;have:=lE1 e1 (sZ (by omega));omega;rw[e6.resolve_left (by omega)]at f;simp at f;exact absurd (d5 _ (rG i hi hb f)) j3;intro i hi z F;obtain⟨e1,e2,e3⟩:=b7 i z F (by omega);simp only[yS,cW3,cY3,ne_eq,bN3,bD3];refine⟨⟨e3,fun h=>?_⟩,fun h=>?_⟩;rw[e1]at h;simp at h;have:=e2 id h;omega
    have M:∀id ao,look (hide hid (st j).s.h) id=some ao->jD st ft S ios.length id=some ao/\mG hid (st j).s.n id=true:=by
      intro id ao h;obtain⟨h1,h2⟩:=zB _ E h;have A:=E.lt h1;refine⟨(e7 id h2 A).trans h1,?_⟩;simp only[mG,aA3,aT3,bN3,bD3];exact⟨by simpa[cP3]using A,h2⟩
    have hιp:∀id,mG hid (st j).s.n id=true->(g.only (mG hid (st j).s.n)).ι id=g.ι id:=fun id h=>Gh.only_pos h
    have Z:nK P (g.only (mG hid (st j).s.n)) w {h:=hide hid (st j).s.h,n:=(st j).s.n}:=by
      refine⟨fun id ao h=>?_,q.W.only,fun id h=>?_,E.hide _⟩;obtain⟨h1,h2⟩:=M id ao h;exact(q.H id ao h1).names (g:=g) (g2:=g.only _) rfl hιp (hιp id h2) (pK k5 id ao h);simp only[Gh.only]at h;split at h;rename_i hp;exact(g1 id hp).1;exact absurd rfl h
    refine Ki (s':=s') f2 hT c1 k1 (TR.names (g:=g) (g2:=g.only _) rfl hιp k6 b5) Z (bB3 b8 e9) (fun V g' w' m1 m2 m3 m4=>?_);obtain⟨hE,i6⟩:=dC1 m3 q.W m2.W
    have hqι:∀id,wX hid (st j).s.n s'.n id=true->(g.back g' (mG hid (st j).s.n) (st j).s.n).ι id=g'.ι id:=by
      intro id h;simp only[wX,aQ3,aA3]at h;rcases h with h|⟨h1,h2⟩
      exact wY h;have h1:=aI3 h1;have h2:id<s'.n:=by simpa[cP3]using h2
      simp only[Gh.back];split;rename_i hc;exfalso;rcases q.dom id (hc.2.resolve_left (by omega))with u|⟨i,u,Y,h5⟩
      omega;by_cases d2:i<j;rw[R.al u]at h5;have:=R.mono (i:=i+1) (j:=j) (by omega) (bO3 hr.c);omega;have h6:=(b7 i u Y d2).2.1 id h5;rw[k3]at h6;simp only at h6;omega;rfl
    have k8:(st (j+1)).s.n=s'.n:=by rw[k3]
    refine hK (g.back g' (mG hid (st j).s.n) (st j).s.n) _ w' ⟨q.ext.trans hE,i6,fun id ao h=>?_,fun id h=>?_,d6 hE (VR.names (g:=g') (g2:=g.back g' _ _) rfl hqι k7 m1),d4 hE,a0⟩;have d0:id∈(ft j).al↔(st j).s.n<=id/\id<(st (j+1)).s.n:=R.al hr.c;by_cases f:(id∈W/\id<(st j).s.n)\/id∈(ft j).al
    ·
      have h1:=Ej R hr d y hj (id:=id) (by rw[e0];exact f);rw[h1,k3]at h;simp only at h
      have hq:wX hid (st j).s.n s'.n id=true:=by
        rcases f with⟨h2,u⟩|h2;obtain⟨e,he,rfl⟩:=dB3.1 (k4 ▸ h2);have Y:=pJ (E.hide hid) k2 e he;obtain⟨d7,h5⟩:=Option.isSome_iff_exists.1 Y.2;have:=(M e.1 d7 h5).2;simp only[wX,this,Bool.true_or];rw[d0]at h2;have a1:Nat.ble (st j).s.n id=true:=Nat.ble_eq_true_of_le h2.1;have a2:Nat.blt id s'.n=true:=by simp only[cP3];omega
        simp only[wX,a1,a2,dE3,Bool.or_true]
      rcases Dt (m2.wf) h with⟨h2,u,Y⟩|h2;exact(m2.H id ao u).names (g:=g') (g2:=g.back g' _ _) rfl hqι (hqι id hq) Y;rcases Am _ _ _ _ h2 with⟨u,Y⟩|u;exfalso;rw[<-k4]at Y;rcases f with⟨h5,_⟩|h5;exact Y h5;rw[d0]at h5;have:=E.lt u;omega;exact(m2.H id ao ((nQ k2).2 _ u)).names (g:=g') (g2:=g.back g' _ _) rfl hqι (hqι id hq) (by have:=aD3.1 k9 _ u;exact this)
    have h1:jD st ft S ios.length id=some ao:=xC R hr d y hj (fun U=>by
      exfalso;simp only[yS,b9,e0,aQ3,bN3,aH3]at U;rcases U with(U|U)|U;cases U;obtain⟨e,he,rfl⟩:=dB3.1 (k4 ▸ U);exact f (.inl ⟨U,(pJ (E.hide hid) k2 e he).1⟩);exact f (.inr U)) h
    cases hp:mG hid (st j).s.n id with
    |true=>
      obtain⟨h2,u⟩:=g1 id hp;have Y:look (hide hid (st j).s.h) id=some ao:=by rw[wW hid u,<-e7 id u h2];exact h1
      have h5:id∉wl.map (·.1):=fun h6=>f (.inl ⟨by rw[k4];exact h6,h2⟩);exact(m2.H id ao ((nQ k2).1 id ao Y h5)).names (g:=g') (g2:=g.back g' _ _) rfl hqι (wY hp) (Sc (fun i h=>by simp only[wX,h,Bool.true_or]) (pK k5 id ao Y))
    |false=>
      have h2:=q.H id ao h1;have u:g.ι id≠none:=h2.some;refine h2.mono hE.le (Dw hp u) (fun loc hl=>m3.keep _ (q.W.lt id loc hl) (fun id' loc' j7 d9 e=>?_));simp only[Gh.only]at d9;split at d9;rename_i h8;have:=q.W.inj id' id loc' loc d9 hl e;subst this;rw[hp]at h8;cases h8;cases d9
    by_cases hg:g.ι id=none
    have h2:g'.ι id≠none:=by
      simp only[Gh.back]at h;split at h;exact absurd hg h;exact h
    have u:id<s'.n:=m2.dom id h2;by_cases f7:id<(st 0).s.n;exact .inl f7;by_cases A:id<(st j).s.n;obtain⟨i,hi,Y⟩:=cov R (bO3 hr.c) (by omega) A;rcases Ei R hr d hi with h5|⟨hb,_,_⟩
    refine .inr ⟨i,by have:=hr.c;omega,?_,Y⟩;rw[y i (by omega)];exact h5;have h6:id∈hid:=d5 _ (rG i hi hb Y)
    have h7:mG hid (st j).s.n id=false:=by
      cases hp:mG hid (st j).s.n id with
      |false=>rfl
      |true=>exact absurd h6 (g1 id hp).2
    exfalso;simp only[Gh.back]at h;rw[aE3 ⟨h7,.inl A⟩]at h;exact h hg;refine .inr ⟨j,hr.c,hj,?_⟩;rw[R.al hr.c];omega;exact L id (q.dom id hg)
end
end Go.Sim
namespace Go.Sim
section
variable {P:Program} {T:kG} {ex:Nat->Bool->IC->St->Option (Ex×St)} {lim:Nat} {ops:Array Oper} {ios:List Sim.Op1} {st:Nat->St} {ft:Nat->Foot} {v:Nat->AV} {r:Option Nat} {n base:Nat} {g0:Gh} {w0:World}
def gJ (a:Array Bool) (i:Nat):Bool:=a.getD i false
def Ek (a:Array Bool) (i j:Nat) (h:j<a.size):gJ (a.setIfInBounds j true) i=if i=j then true else gJ a i:=by
 unfold gJ;by_cases e:i=j;subst e;simp[h];simp[e,Array.getElem?_setIfInBounds_ne (Ne.symm e)]
def dI1 (R:wK P T ex lim ops ios st ft v) (t:pU P ex) (D:jN P T) (m:lim<=(st 0).s.n) {Q:Exit->Act->World->Prop}
  (hQ:∀(S:Nat->Bool) g a w,(∀i,i<ios.length->S i=true)->lF1 P ops ios st ft v lim base g0 w0 S g a w->Q .normal a w):
  ∀(d:Nat) (b:Array Bool) (g:Gh) (a:Act) (w:World),b.size=ops.size->b.toList.count false<=d->lF1 P ops ios st ft v lim base g0 w0 (gJ b) g a w->wpAnyIn (FW r) n P .any ops Q d b a w:=by
 have F:=R.size
 have k:∀(b:Array Bool),b.size=ops.size->Region.ready .any ops b=[]->∀i,i<ios.length->gJ b i=true:=by
  intro b hl hr i
  induction i using Nat.strongRecOn with
  |_ i ih=>
   intro hi;cases h:gJ b i with
   |true=>rfl
   |false=>
    exfalso;obtain⟨io,o,h1,h2,A⟩:=R.get hi
    have B:i∈Region.ready .any ops b:=by
     rw[mem_ready];have c:i<b.size:=by omega
     refine⟨by simp only[gJ]at h;simp[c]at h ⊢;exact h,o,by simpa using h2,fun e he hb=>?_⟩;have y:=R.back i o h2 e (by simpa using he) hb;exact ih e.on y (by omega)
    rw[hr]at B;cases B
 intro d
 induction d with
 |zero=>
  intro b g a w hl hc p
  have f:∀i,i<ios.length->gJ b i=true:=by
   intro i hi;have c:i<b.size:=by omega
   have l:b.toList.count false=0:=by omega
   rw[List.count_eq_zero]at l;cases h:gJ b i with
   |true=>rfl
   |false=>
    exfalso;apply l;simp only[gJ]at h;simp[c]at h;rw[<-h];simp
  refine⟨?_,hQ _ g a w f p⟩;rw[List.eq_nil_iff_forall_not_mem];intro i hi;rw[mem_ready]at hi;obtain⟨h1,o,h2,_⟩:=hi;have u:i<ops.size:=(bA3.1 h2).1;have:=f i (by omega);have c:i<b.size:=by omega
  simp only[gJ]at this;simp[c]at h1 this;rw[h1]at this;cases this
 |succ d ih=>
  intro b g a w hl hc p;refine⟨fun hr=>hQ _ g a w (k b hl hr) p,fun i hi=>?_⟩;rw[mem_ready]at hi;obtain⟨h1,o,h2,A⟩:=hi;have u:i<ops.size:=(bA3.1 h2).1;have c:i<b.size:=by omega
  obtain⟨io,o',G,H,J⟩:=R.get (j:=i) (by omega);have:o'=o:=by grind
  subst this
  have z:gJ b i=false:=by
   simp only[gJ];simp[c]at h1 ⊢;exact h1
  have hr:Rdy ops ios (gJ b) i o' io:=⟨H,G,by omega,z,fun e he hb=>A e (by simpa using he) hb⟩
  refine Yu (S':=gJ (b.setIfInBounds i true)) R t D m hr J p (fun j E=>by rw[Ek _ _ _ c,aG3 E]) (by rw[Ek _ _ _ c,aE3 rfl]) (fun g' a' w' q=>?_);refine ih _ g' a' w' (by simpa using hl) ?_ q;have C:(b.setIfInBounds i true).toList=b.toList.set i true:=by simp
  have x:b.toList[i]'(by simpa using c)=false:=by simp_all
  rw[C,List.count_set (by simpa using c),x,aE3 (by rfl),aG3 (by decide)];omega
def lI1 (K:jN P T) (y:P.follows .mixedOrders=true) {ex:Nat->Bool->IC->St->aB (Ex×St)} (A:pU P ex) (B:rE ex):Si P T ex:=by
 intro lim ops ios σ E fs id hc l z k r g a w n base O f hl hb M;obtain⟨st,ft,v,_,q,x,D,J⟩:=Nx ios 0 σ (fun _=>{}) E fs z;simp only[bX3]at x D J;have hlen:fs.length=ios.length:=by rw[D,revF_length]
 rw[D,revF_length]at k;simp only[cA1,aA3,aD3]at l;obtain⟨r1,r2⟩:=l
 have R:wK P T ex lim ops ios st ft v:=by
  refine⟨hc,fun j o C e he L=>?_,fun j o C i p hi hp=>?_,J,Aq k,B,by rw[q];exact f.wf⟩;have:=r1 (o,j) (by rw[aS3];exact⟨j,by simp[C]⟩);simp only[aD3,aQ3,aT3,aH3]at this;rcases this e he with h|h
  grind
  exact h;have:=r2 (o,j) (by rw[aS3];exact⟨j,by simp[C]⟩);have h:=Ap this i p hp (by omega);rw[bX3]at h;exact h
 have N:=R.size;refine wpIn_region_any y ?_;have hw:nK P g {w with drawn:=w.drawn+1} σ.s:=⟨fun id ao h=>(f.H id ao h).mono (.refl g) rfl (fun _ _=>rfl),⟨f.W.still,f.W.lt,f.W.out,f.W.inj⟩,f.dom,f.wf⟩
 have F:sM lim g g w {w with drawn:=w.drawn+1}:=⟨.refl g,aC3 _,fun _ _ _=>rfl,fun id loc h=>.inl ⟨loc,h,rfl⟩,fun _ _=>rfl,rfl,rfl,rfl,fun _ _ h=>.inl h,fun _ R h=>⟨R,h⟩⟩
 refine dI1 (base:=base) (g0:=g) (w0:=w) R A K (by rw[q];exact hl) ?_ ops.size (Array.replicate ops.size false) g a _ (by simp) (by simp) ?_;intro S g' a' w' G u;refine⟨rfl,g',?_⟩
 have b:∀id,jD st ft S ios.length id=look E.s.h id:=fun id=>by
  rw[Eg R (aC3 _) (fun i hi _=>G i hi),x]
 have m:tl ios st v S ios.length=E.t:=by
  rw[<-x];exact dY3 (fun t=>tlA R (aC3 _) (fun i hi _=>G i hi))
 have d:=R.mono (i:=0) (j:=ios.length) (by omega) (aC3 _);rw[q,x]at d;refine⟨by rw[<-m];exact u.t,⟨fun id ao h=>u.H id ao (by rw[b];exact h),u.W,fun id h=>?_,by have:=R.wf (aC3 ios.length);rw[x]at this;exact this⟩,u.ext,d,u.marks⟩;rcases u.dom id h with h1|⟨i,h1,h2,h3⟩
 rw[q]at h1;omega;rw[R.al h1]at h3;have:=R.mono (i:=i+1) (j:=ios.length) (by omega) (aC3 _);rw[x]at this;omega
 have c:∀i,gJ (Array.replicate ops.size false) i=false:=by
  intro i;simp only[gJ];by_cases h:i<ops.size;simp[h];simp[h]
 have b:∀id,jD st ft (gJ (Array.replicate ops.size false)) ios.length id=look σ.s.h id:=by
  intro id;rw[Ar (j:=0) (by omega) (fun i _ _ h=>by rw[c i]at h;cases h),<-q];rfl
 have m:tl ios st v (gJ (Array.replicate ops.size false)) ios.length=σ.t:=by
  rw[<-q];have h2:∀t,(tl ios st v (gJ (Array.replicate ops.size false)) ios.length)[t]? =(tl ios st v (gJ (Array.replicate ops.size false)) 0)[t]? :=fun t=>tlB (by omega) (fun i _ _ h=>by rw[c i]at h;cases h);exact dY3 h2
 exact⟨F,hw.W,fun id ao h=>hw.H id ao (by rw[<-b];exact h),fun id h=>.inl (by rw[q];exact hw.dom id h),by rw[m];exact O,M.ext F,fun i oi h=>by rw[c i]at h;cases h⟩
def El (b:jN P T) (a:P.follows .mixedOrders=true) (d:Nat):pU P (exec T d):=lD1 b (fun d h=>lI1 b a h (Ea T d)) d
end
end Go.Sim
namespace Go.Sim
open Go.RowKit
def gW (w:World):Gh:={G:=fun b=>w.heap[b]?,ι:=fun _=>none}
def Yv (P:Program) (w:World):nK P (gW w) w {h:=[],n:=0}:=
 ⟨fun id ao h=>by simp[look]at h,⟨fun b o h=>h,fun id loc h=>by simp[gW]at h,fun id loc h=>by simp[gW]at h,fun id id' loc loc' h=>by simp[gW]at h⟩,fun id h=>by simp[gW]at h,trivial⟩
def Yw {P:Program} {T:kG} (g:jN P T) (a:P.follows .mixedOrders=true) {f:FuncId} {args:aA AV} {Args:Array Value} {d:Nat} {s':Hp} {w:World} {x:Value} (hg:Value.ground x=true)
  (h:callF T (exec T d) 0 f args {h:=[],n:=0}=some (.v x,s')) (i:TR (gW w) args Args.toList):Calls P f Args w fun e w'=>e=.returned x/\Below w.heap.size w w':=by
 have h1:=wU (n:=0) (El g a d) g h i (Yv P w) (aC3 _);refine callsIn_wide.1 (CallsIn.mono (F:=Fence.wide) h1 ?_);rintro e w' ⟨V,g',rfl,j,k,c,l⟩;refine⟨by rw[j.ground],⟨c.os,c.tape,c.output,c.size,fun b hb=>c.keep b hb (fun id loc _ hi=>by simp[gW]at hi)⟩⟩
def dJ1 (P:Program):aA Field->Nat->Nat->Bool
 |[],off,m=>off==m
 |f::fs,off,m=>f.offset==off&&dJ1 P fs (off+P.cellsOf f.type) m
def iI (P:Program):Nat->TypeId->Bool
 |0,_=>false
 |d+1,t=>
  match P.underlying t with
  |some .bool|some (.int _)|some .string=>true
  |some (.slice e)=>P.cellsOf e !=0&&iI P d e
  |some (.struct fs)=>dJ1 P fs.toList 0 (P.cellsOf t)&&fs.toList.all fun f=>iI P d f.type
  |some (.array n e)=>P.cellsOf t==n*P.cellsOf e&&iI P d e
  |_=>false
def lJ1 (F:TypeId->aA AV->Prop) (P:Program):aA Field->aA AV->Prop
 |[],cs=>cs=[]
 |f::fs,cs=>∃c1 c2,cs=c1++c2/\c1.length=P.cellsOf f.type/\F f.type c1/\lJ1 F P fs c2
def mU (P:Program):Nat->TypeId->aA AV->Prop
 |0,_,_=>False
 |d+1,t,cs=>
  match P.underlying t with
  |some .bool=>∃b,cs=[.v (.bool b)]
  |some (.int k)=>∃n,cs=[.v (.int k n)]/\(Lit.int k n).wf=true
  |some .string=>∃s:ByteArray,cs=[.v (.string s)]/\s.size<=maxLen
  |some (.slice e)=>cs=[.v (.slice none 0 0)]\/∃els:aA (aA AV),cs=[.is (P.cellsOf e) els]/\els.length<=maxLen/\∀row∈els,row.length=P.cellsOf e/\mU P d e row
  |some (.struct fs)=>lJ1 (mU P d) P fs.toList cs
  |some (.array n e)=>∃rows:aA (aA AV),cs=rows.flatten/\rows.length=n/\∀row∈rows,row.length=P.cellsOf e/\mU P d e row
  |_=>False
def oO {α β:Type} {f:α->aB β}:∀{l:aA α} {r:aA β},l.mapM f=some r->r.length=l.length/\∀(i:Nat) (x:α),l[i]? =some x->∃y,f x=some y/\r[i]? =some y
 |[],r,h=>by grind
 |a::l,r,h=>by
  simp only[dP3,Option.bind_eq_bind,zY2,Option.pure_def,aF3]at h
  obtain⟨b,hb,g,c,rfl⟩:=h
  obtain⟨h1,h2⟩:=oO c
  refine⟨by simp[h1],fun i x hi=>?_⟩
  cases i with
  |zero=>simp at hi;subst hi;exact⟨b,hb,rfl⟩
  |succ i=>simp at hi;obtain⟨y,d,e⟩:=h2 i x hi;exact⟨y,d,by simpa using e⟩
def zG {w:World} {base:Nat} {a:Addr} {n:Nat} {cs:aA Value} (h:w.cells? base a n=some cs):cs.length=n/\∀i,i<n->w.cell? (a.add i)=cs[i]? :=by
 unfold World.cells? at h;split at h;obtain⟨h1,h2⟩:=oO h;refine⟨by simpa using h1,fun i hi=>?_⟩;obtain⟨y,b,c⟩:=h2 i i (by simp[hi]);rw[b,c];cases h
def lK1 {w:World} {a:Addr} {j:Nat} {y:Value} (h:w.cell? (a.add j)=some y) (hs:a.spot=none):(gW w).cell a j=some y:=by
 have d:a.add j=⟨a.block,a.off+j,none⟩:=by
  obtain⟨b,o,s⟩:=a;simp only at hs;subst hs;exact kA b o j
 rw[d]at h;unfold World.cell? at h;split at h;rename_i c e fr hb;simp only at hb;simp only[Gh.cell,gW,hb];simpa using h;cases h
def tA {α:Type} {Q:Nat->α->Prop}:∀{n:Nat},(∀i,i<n->∃x,Q i x)->∃l:aA α,l.length=n/\∀(i:Nat) (x:α),l[i]? =some x->Q i x
 |0,_=>⟨[],rfl,fun i x h=>by simp at h⟩
 |n+1,h=>by
  obtain⟨l,h1,h2⟩:=tA (n:=n) (fun i hi=>h i (by omega))
  obtain⟨x,a⟩:=h n (by omega)
  refine⟨l++[x],by simp[h1],fun i y hy=>?_⟩
  rw[cG3]at hy
  split at hy
  exact h2 i y hy
  grind
def TR.of_parts {g:Gh} {c1 c2:aA AV} {C:aA Value} {k:Nat} (h1:TR g c1 (C.take k)) (h2:TR g c2 (C.drop k)):TR g (c1++c2) C:=by
 have:=h1.app h2
 rwa [dJ3]at this
section
variable {H:Type} {enc:TypeId×Value->H} {P:Program} {w:World} {held:Bool}
def Rd (P:Program) (w:World) (D:Nat) (t:TypeId) (Cs:aA Value):Prop:=∃cs,TR (gW w) cs Cs/\mU P D t cs/\∀y∈Cs,isCell y=true
def As {D a:Nat} (IH:∀t Cs g ps,DataW.trod enc P w 0 (fun _=>true) held a t Cs=some (g,ps)->iI P D t=true->Rd P w D t Cs):∀(fs:aA Field) (off m:Nat) (Cs:aA Value) (xs:aA (DataW H×aA MemPlace)),
  fs.mapM (fun f=>DataW.trod enc P w 0 (fun _=>true) held a f.type ((Cs.drop f.offset).take (P.cellsOf f.type)))=some xs->dJ1 P fs off m=true->(fs.all fun f=>iI P D f.type)=true->Cs.length=m->
  ∃cs,TR (gW w) cs (Cs.drop off)/\lJ1 (mU P D) P fs cs/\(∀y∈Cs.drop off,isCell y=true)/\off<=m
 |[],off,m,Cs,xs,h,hs,hp,hl=>by
  simp only[dJ1,cK3]at hs
  subst hs
  have:Cs.drop off=[]:=by rw[List.drop_eq_nil_iff];omega
  rw[this]
  exact⟨[],.nil _,rfl,fun y h=>by simp at h,aC3 _⟩
 |f::fs,off,m,Cs,xs,h,hs,hp,hl=>by
  simp only[dP3,Option.bind_eq_bind,zY2,Option.pure_def,aF3]at h
  obtain⟨b,hb,e,d,rfl⟩:=h
  simp only[dJ1,aA3,cK3]at hs
  obtain⟨rfl,hs⟩:=hs
  simp only[bY3,aA3]at hp
  obtain⟨cs2,i,j,k,l⟩:=As IH fs (f.offset+P.cellsOf f.type) m Cs e d hs hp.2 hl
  obtain⟨c,q1,q2,q3⟩:=IH f.type _ b.1 b.2 hb hp.1
  have hd:(Cs.drop f.offset).drop (P.cellsOf f.type)=Cs.drop (f.offset+P.cellsOf f.type):=by rw[dF3]
  refine⟨c++cs2,TR.of_parts q1 (by rw[hd];exact i),⟨c,cs2,rfl,?_,q2,j⟩,fun y hy=>?_,by omega⟩
  rw[q1.1,cC3,List.length_drop]
  omega
  rw[<-dJ3 (P.cellsOf f.type) (Cs.drop f.offset),hd,cD3]at hy
  rcases hy with hy|hy
  exact q3 y hy
  exact k y hy
def Yx {a:Nat} {t:TypeId} {Cs:aA Value} {x:DataW H×aA MemPlace} (c:P.underlying t=some .bool) (h:DataW.trod enc P w 0 (fun _=>true) held (a+1) t Cs=some x):∃b,Cs=[.bool b]:=by
 unfold DataW.trod at h;rw[c]at h;split at h<;>simp_all
def dK1 {a:Nat} {t:TypeId} {Cs:aA Value} {k:IntKind} {x:DataW H×aA MemPlace} (b:P.underlying t=some (.int k)) (h:DataW.trod enc P w 0 (fun _=>true) held (a+1) t Cs=some x):∃n,Cs=[.int k n]/\(Lit.int k n).wf=true:=by
 unfold DataW.trod at h;rw[b]at h;split at h<;>simp_all
def Oe {a:Nat} {t:TypeId} {Cs:aA Value} {x:DataW H×aA MemPlace} (b:P.underlying t=some .string) (h:DataW.trod enc P w 0 (fun _=>true) held (a+1) t Cs=some x):∃s:ByteArray,Cs=[.string s]/\s.size<=maxLen:=by
 unfold DataW.trod at h;rw[b]at h;split at h<;>simp_all
def Of {a:Nat} {t:TypeId} {fs:Array Field} {Cs:aA Value} {x:DataW H×aA MemPlace} (b:P.underlying t=some (.struct fs)) (h:DataW.trod enc P w 0 (fun _=>true) held (a+1) t Cs=some x):
  Cs.length=P.cellsOf t/\∃xs,fs.toList.mapM (fun f=>DataW.trod enc P w 0 (fun _=>true) held a f.type ((Cs.drop f.offset).take (P.cellsOf f.type)))=some xs:=by
 unfold DataW.trod at h;rw[b]at h;split at h<;>simp_all;obtain⟨_,y,h,_⟩:=h;exact⟨y,h⟩
def Sl {a n:Nat} {t e:TypeId} {Cs:aA Value} {x:DataW H×aA MemPlace} (b:P.underlying t=some (.array n e)) (h:DataW.trod enc P w 0 (fun _=>true) held (a+1) t Cs=some x):
  Cs.length=P.cellsOf t/\∃xs,(List.range n).mapM (fun i=>DataW.trod enc P w 0 (fun _=>true) held a e ((Cs.drop (i*P.cellsOf e)).take (P.cellsOf e)))=some xs:=by
 unfold DataW.trod at h;rw[b]at h;split at h<;>simp_all;obtain⟨_,y,h,_⟩:=h;exact⟨y,h⟩
def Sm {c:Nat} {t e:TypeId} {Cs:aA Value} {x:DataW H×aA MemPlace} (k:P.underlying t=some (.slice e)) (h:DataW.trod enc P w 0 (fun _=>true) held (c+1) t Cs=some x):
  Cs=[.slice none 0 0]\/∃a len cap,Cs=[.slice (some a) len cap]/\len<=cap/\cap<=maxLen/\∀i,i<cap->∃row y,w.cells? 0 (a.add (i*P.cellsOf e)) (P.cellsOf e)=some row/\DataW.trod enc P w 0 (fun _=>true) held c e row=some y:=by
 unfold DataW.trod at h;rw[k]at h;split at h
 all_goals first|(simp_all;done)|skip
 rename_i e' a len cap he;cases he;right;simp only at h;split at h
 .rename_i hc
  obtain⟨_,c1,c2⟩:=hc;simp only[zY2,aZ3,aB3]at h;obtain⟨d,h1,dL,h2,_⟩:=h;refine⟨a,len,cap,rfl,c1,c2,fun i hi=>?_⟩;by_cases f:i<len
  .obtain ⟨y,b,_⟩:=(oO h1).2 i i (dC3 f)
   simp only[zY2]at b;obtain⟨row,b,g⟩:=b;exact⟨row,y,b,g⟩
  .obtain ⟨y,b,_⟩:=(oO h2).2 (i-len) (i-len) (dC3 (by omega))
   have j:len+(i-len)=i:=by omega
   rw[j]at b;simp only[zY2]at b;obtain⟨row,b,g⟩:=b;exact⟨row,y,b,g⟩
 .cases h
def Vl:∀(D f:Nat) (t:TypeId) (Cs:aA Value) (G:DataW H) (ps:aA MemPlace),DataW.trod enc P w 0 (fun _=>true) held f t Cs=some (G,ps)->iI P D t=true->Rd P w D t Cs
 |0,_,_,_,_,_,_,hp=>by simp[iI]at hp
 |D+1,0,_,_,_,_,h,_=>by simp[DataW.trod]at h
 |D+1,f+1,t,Cs,G,ps,h,hp=>by
  have IH:=fun t Cs G ps=>Vl D f t Cs G ps
  have one:∀{x:AV} {y:Value},VR (gW w) x y->isCell y=true->mU P (D+1) t [x]->Rd P w (D+1) t [y]:=fun h1 h2 r=>
   ⟨_,.cons h1 (.nil _),r,fun y hy=>by simp at hy;subst hy;exact h2⟩
  unfold iI at hp
  split at hp
  rename_i c
  obtain⟨b,rfl⟩:=Yx c h
  exact one (.v rfl) rfl (by simp[mU,c])
  rename_i k c
  obtain⟨n,rfl,hn⟩:=dK1 c h
  exact one (.v rfl) rfl (by simp[mU,c];exact hn)
  rename_i c
  obtain⟨s,rfl,hs⟩:=Oe c h
  exact one (.v rfl) rfl (by simp[mU,c];exact hs)
  rename_i e c
  simp only[aA3,dQ3,ne_eq]at hp
  obtain⟨h0,hp⟩:=hp
  rcases Sm c h with rfl|⟨a,len,cap,rfl,c1,c2,aJ⟩
  exact one (x:=.v (.slice none 0 0)) (.v rfl) rfl (by simp[mU,c])
  by_cases L:cap=0
  have N:len=0:=by omega
  subst L;subst N
  exact one (x:=.is (P.cellsOf e) []) .is0 rfl (by simp[mU,c])
  have d:∀i,i<cap->∃row:aA AV,row.length=P.cellsOf e/\mU P D e row/\a.spot=none/\∀(j:Nat) (x:AV),row[j]? =some x->∃y,(gW w).cell a (i*P.cellsOf e+j)=some y/\isCell y=true/\VR (gW w) x y:=by
   intro i hi;obtain⟨row,y,R,S⟩:=aJ i hi;obtain⟨Z,U⟩:=zG R;obtain⟨cs,q1,q2,q3⟩:=IH e row y.1 y.2 S hp
   have hs:a.spot=none:=by
    have h1:=U 0 (by omega);have h2:row[0]? =some row[0]:=by simp
    rw[h2]at h1;have r:=World.cell?_spot h1;unfold Addr.add at r;split at r;split at r;exact r;rename_i X;obtain⟨F,_,O,_⟩:=aJ 0 (by omega);obtain⟨l3,T⟩:=zG O;have B:=T 0 (by omega);have J:F[0]? =some F[0]:=by simp
    rw[J]at B;have K:=World.cell?_spot B;simpa[Addr.add]using K;obtain⟨F,_,O,_⟩:=aJ 0 (by omega);obtain⟨l3,T⟩:=zG O;have B:=T 0 (by omega);have J:F[0]? =some F[0]:=by simp
    rw[J]at B;have K:=World.cell?_spot B;simpa[Addr.add]using K
   refine⟨cs,by rw[q1.1,Z],q2,hs,fun j x u=>?_⟩;have hj:j<row.length:=by rw[<-q1.1];exact(zZ2.1 u).1
   have hc:=U j (by omega);have C:row[j]? =some row[j]:=by simp
   rw[C]at hc
   have W:(a.add (i*P.cellsOf e)).add j=a.add (i*P.cellsOf e+j):=by
    obtain⟨b,o,s⟩:=a;simp only at hs;subst hs;rw[kA,kA,kA,bS3]
   rw[W]at hc;exact⟨row[j],lK1 hc hs,q3 _ (by simp),q1.2 j x _ u C⟩
  obtain⟨els,A,e2⟩:=tA (n:=len) (fun i hi=>d i (by omega));obtain⟨_,_,_,hs,_⟩:=d 0 (by omega)
  have hv:VR (gW w) (.is (P.cellsOf e) els) (.slice (some a) els.length cap):=
   .is hs (by omega) (fun i row hr=>(e2 i row hr).1) (fun i row j x hr u=>by
    obtain⟨y,z,V,_⟩:=(e2 i row hr).2.2.2 j x u;exact⟨y,z,V⟩) (fun i row j x y hr u hy=>by
    obtain⟨y',z,V,y3⟩:=(e2 i row hr).2.2.2 j x u;rw[hy]at z;cases z;exact y3)
  rw[A]at hv;refine one hv rfl ?_;simp only[mU,c];refine .inr ⟨els,rfl,by omega,fun row hr=>?_⟩;obtain⟨i,hi⟩:=aS3.1 hr;exact⟨(e2 i row hi).1,(e2 i row hi).2.1⟩;rename_i fs c;simp only[aA3]at hp;obtain⟨hl,xs,q⟩:=Of c h;obtain⟨cs,R,S,Y,_⟩:=As IH fs.toList 0 (P.cellsOf t) Cs xs q hp.1 hp.2 hl;exact⟨cs,by simpa using R,by simpa only[mU,c]using S,by simpa using Y⟩;rename_i n e c;simp only[aA3,cK3]at hp;obtain⟨hl,xs,q⟩:=Sl c h;rw[hp.1]at hl
  have d:∀i,i<n->∃row:aA AV,TR (gW w) row ((Cs.drop (i*P.cellsOf e)).take (P.cellsOf e))/\mU P D e row/\∀y∈(Cs.drop (i*P.cellsOf e)).take (P.cellsOf e),isCell y=true:=by
   intro i hi;obtain⟨y,z,_⟩:=(oO q).2 i i (by simp[hi]);exact IH e _ y.1 y.2 z hp.2
  obtain⟨rows,r1,r2⟩:=tA d
  have hlen:∀row∈rows,row.length=P.cellsOf e:=by
   intro row hr;obtain⟨i,hi⟩:=aS3.1 hr;have M:i<n:=by rw[<-r1];exact(zZ2.1 hi).1
   rw[(r2 i row hi).1.1,cC3,List.length_drop,hl];have:(i+1)*P.cellsOf e<=n*P.cellsOf e:=bM3 _ M;rw[cN3]at this;omega
  have key:∀(m:Nat) (l:aA (aA AV)),l.length=m->(∀(i:Nat) (row:aA AV),l[i]? =some row->TR (gW w) row ((Cs.drop ((n-m+i)*P.cellsOf e)).take (P.cellsOf e))/\∀y∈(Cs.drop ((n-m+i)*P.cellsOf e)).take (P.cellsOf e),isCell y=true)->m<=n->
    TR (gW w) l.flatten (Cs.drop ((n-m)*P.cellsOf e))/\∀y∈Cs.drop ((n-m)*P.cellsOf e),isCell y=true:=by
   intro m
   induction m with
   |zero=>
    intro l p _ _;have:l=[]:=by cases l;rfl;simp at p
    subst this;have:Cs.drop ((n-0)*P.cellsOf e)=[]:=by rw[List.drop_eq_nil_iff,hl];simp
    rw[this];exact⟨.nil _,fun y h=>by simp at h⟩
   |succ m ih=>
    intro l p hr hm;cases l with
    |nil=>simp at p
    |cons row l=>
     have h0:=hr 0 row rfl;rw[cQ3]at h0
     have g:=ih l (by simpa using p) (fun i E hi=>by
      have:=hr (i+1) E (by simpa using hi);have A:n-(m+1)+(i+1)=n-m+i:=by omega
      rwa [A]at this) (by omega)
     have hd:(Cs.drop ((n-(m+1))*P.cellsOf e)).drop (P.cellsOf e)=Cs.drop ((n-m)*P.cellsOf e):=by
      rw[dF3];congr 1;have:n-m=n-(m+1)+1:=by omega
      rw[this,cN3]
     refine⟨by simpa using TR.of_parts h0.1 (by rw[hd];exact g.1),fun y hy=>?_⟩;rw[<-dJ3 (P.cellsOf e) (Cs.drop ((n-(m+1))*P.cellsOf e)),hd,cD3]at hy;rcases hy with hy|hy;exact h0.2 y hy;exact g.2 y hy
  have hk:=key n rows r1 (fun i row hi=>by
   have A:n-n+i=i:=by omega
   rw[A];exact⟨(r2 i row hi).1,(r2 i row hi).2.2⟩) (aC3 _)
  simp only[Nat.sub_self,eA3,bZ3]at hk;refine⟨rows.flatten,hk.1,?_,hk.2⟩;simp only[mU,c];refine⟨rows,rfl,r1,fun row hr=>⟨hlen row hr,?_⟩⟩;obtain⟨i,hi⟩:=aS3.1 hr;exact(r2 i row hi).2.1;cases hp
end
end Go.Sim
namespace Go.Sim
section
variable {T:kG} {ex ex':Nat->Bool->IC->St->Option (Ex×St)}
def xD (ex ex':Nat->Bool->IC->St->aB (Ex×St)):Prop:=∀lim rd c σ r,ex lim rd c σ=some r->ex' lim rd c σ=some r
def zH (b:xD ex ex') {lim:Nat} {fn:IFn} {args:aA AV} {s:Hp} {r:AV×Hp} (h:body ex lim fn args s=some r):body ex' lim fn args s=some r:=by
 unfold body at h ⊢;split at h;cases h;rename_i e σ a he;rw[b _ _ _ _ _ he];cases e with
 |exit id=>exact absurd rfl (a id)
 |normal=>exact h
 |ret=>exact h
 cases h
def mono_runP (a:xD ex ex') {f:FuncId} {fn:IFn} {args:aA AV} {r:AV} (h:runP T ex f fn args=some r):runP T ex' f fn args=some r:=by
 unfold runP at h ⊢;split at h;rename_i b;exact h;split at h;rename_i hb;rw[zH a hb];exact h;cases h
def vV (a:xD ex ex') {lim:Nat} {f:FuncId} {args:aA AV} {s:Hp} {r:AV×Hp} (h:callF T ex lim f args s=some r):callF T ex' lim f args s=some r:=by
 unfold callF at h ⊢;split at h;cases h;rename_i fn c
 (try simp only[c])
 split at h;rename_i hp;rw[aE3 hp];split at h;rename_i hc;rw[aE3 hc];simp only[aB3]at h;obtain⟨v,hv,rfl⟩:=h;rw[mono_runP a hv];rfl;rename_i hc;rw[aG3 hc];split at h;rename_i d;rw[aE3 d];split at h;rename_i as b
 (try simp only[b])
 split at h;rename_i hb;rw[mono_runP a hb];exact h;cases h;cases h;rename_i d;rw[aG3 d];split at h;rename_i hb;rw[zH a hb];exact h;cases h;rename_i hp;rw[aG3 hp];exact zH a h
def Sn (a:xD ex ex') {lim l:Nat} {args:aA AV} {s:Hp} {r:AV×Hp} (h:round ex lim l args s=some r):round ex' lim l args s=some r:=by
 unfold Sim.round at h ⊢;split at h;rename_i c
 (try simp only[c])
 split at h;rename_i hc;rw[aE3 hc];split at h;rename_i σ d;rw[a _ _ _ _ _ d];simp only;split at h;rename_i b
 (try simp only[b])
 split at h;rename_i hb;rw[a _ _ _ _ _ hb];exact h;rename_i hb;rw[a _ _ _ _ _ hb];exact h;rename_i hb;rw[a _ _ _ _ _ hb];exact h;cases h;cases h;cases h;cases h;cases h
def uC (a:xD ex ex') {lim:Nat} {k:gC} {xs:aA AV} {s:Hp} {r:AV×Hp} (h:step T ex lim k xs s=some r):step T ex' lim k xs s=some r:=by
 unfold step at h ⊢;split at h;exact vV a h;split at h;unfold callV at h ⊢;split at h;exact vV a h;exact Sn a h;cases h;cases h;exact h
def tB (b:xD ex ex') {lim:Nat}:∀{os:aA Sim.Op1} {σ τ:St},runOps T ex lim os σ=some τ->runOps T ex' lim os σ=some τ
 |[],σ,τ,h=>h
 |o::os,σ,τ,h=>by
  simp only[runOps]at h ⊢
  split at h
  rename_i hw
  rw[aE3 hw]
  split at h
  rename_i c
  (try simp only[c])
  split at h
  rename_i a
  simp only[uC b a]
  exact tB b h
  cases h
  cases h
  rename_i hw
  rw[aG3 hw]
  exact tB b h
def lS (c:xD ex ex') {lim:Nat} {before:aA Nat}:∀{os:aA Sim.Op1} {j:Nat} {fs:aA Foot} {σ:St} {r:St×aA Foot},eU T ex lim before os j fs σ=some r->eU T ex' lim before os j fs σ=some r
 |[],j,fs,σ,r,h=>h
 |o::os,j,fs,σ,r,h=>by
  simp only[eU]at h ⊢
  split at h
  rename_i hw
  rw[aE3 hw]
  split at h
  rename_i e
  (try simp only[e])
  split at h
  rename_i d
  rw[aE3 d]
  split at h
  rename_i a
  simp only[uC c a]
  exact lS c h
  cases h
  rename_i d
  rw[aG3 d]
  split at h
  rename_i b
  rw[aE3 b]
  split at h
  rename_i a
  simp only[Sb (fun _ _=>uC c) a]
  exact lS c h
  cases h
  rename_i b
  rw[aG3 b]
  split at h
  rename_i a
  simp only[uC c a]
  exact lS c h
  cases h
  cases h
  rename_i hw
  rw[aG3 hw]
  exact lS c h
def Im (T:kG):∀d,xD (exec T d) (exec T (d+1))
 |0,lim,rd,c,σ,r,h=>by simp[exec]at h
 |d+1,lim,rd,c,σ,r,h=>by
  have ih:=Im T d
  cases c with
  |skip=>simpa only[exec]using h
  |reg ops=>
   simp only[exec,aB3]at h
   obtain⟨τ,h,rfl⟩:=h
   rw[exec,tB ih h]
   rfl
  |regD ops before=>
   rw[exec]at h ⊢
   split at h
   rename_i hf
   rw[lS ih hf]
   exact h
   cases h
  |seq a b=>
   rw[exec]at h ⊢
   split at h
   rename_i i
   rw[ih _ _ _ _ _ i]
   exact ih _ _ _ _ _ h
   rename_i g
   have h2:=ih _ _ _ _ _ h
   rw[h2]
   obtain⟨e,τ⟩:=r
   cases e with
   |normal=>exact absurd h (g τ)
   |ret=>rfl
   |exit id=>rfl
  |cond c a b=>
   rw[exec]at h ⊢
   split at h
   rename_i hc
   (try simp only[hc])
   exact ih _ _ _ _ _ h
   cases h
  |block id c=>
   rw[exec]at h ⊢
   split at h
   rename_i i
   rw[ih _ _ _ _ _ i]
   exact h
   rename_i g
   have h2:=ih _ _ _ _ _ h
   rw[h2]
   obtain⟨e,τ⟩:=r
   cases e with
   |normal=>rfl
   |ret=>rfl
   |exit id=>exact absurd h (g _ _)
  |loop c=>
   rw[exec]at h ⊢
   split at h
   rename_i i
   rw[ih _ _ _ _ _ i]
   exact ih _ _ _ _ _ h
   rename_i e τ g i
   rw[ih _ _ _ _ _ i]
   cases e with
   |normal=>exact(g rfl).elim
   |ret=>exact h
   |exit id=>exact h
   cases h
  |rangeF f ps a b=>
   rw[exec]at h ⊢
   split at h
   rename_i j
   (try simp only[j])
   split at h
   rename_i hc
   simp only[vV ih hc]
   exact h
   cases h
   cases h
  |exit id=>simpa only[exec]using h
  |ret=>simpa only[exec]using h
def mono_le (T:kG) {d a:Nat} (h:d<=a):xD (exec T d) (exec T a):=by
 induction h with
 |refl=>exact fun _ _ _ _ _ h=>h
 |step _ ih=>exact fun _ _ _ _ _ h=>Im T _ _ _ _ _ _ (ih _ _ _ _ _ h)
end
end Go.Sim
namespace Go.Sim
def kQ (P:Program):Nat->aA (aB IFn)->Prop
 |_,[]=>True
 |i,none::r=>kQ P (i+1) r
 |i,some ifn::r=>(∃fn,P.funcs[i]? =some fn/\nD P fn ifn.pure ifn.frz=some ifn)/\kQ P (i+1) r
def kQ.get {P:Program}:∀{l:aA (aB IFn)} {i j:Nat} {ifn:IFn},kQ P i l->l[j]? =some (some ifn)->∃fn,P.funcs[i+j]? =some fn/\nD P fn ifn.pure ifn.frz=some ifn
 |[],i,j,ifn,_,h=>by simp at h
 |none::r,i,j,ifn,h,hj=>by
  cases j with
  |zero=>simp at hj
  |succ j=>
   have:=kQ.get (l:=r) h (by simpa using hj)
   rwa [show i+1+j=i+(j+1)by omega]at this
 |some x::r,i,j,ifn,h,hj=>by
  cases j with
  |zero=>
   simp at hj
   subst hj
   exact h.1
  |succ j=>
   have:=kQ.get (l:=r) h.2 (by simpa using hj)
   rwa [show i+1+j=i+(j+1)by omega]at this
def vH:aA (FuncId×aA AV×AV)->FuncId->aA AV->aB AV
 |[],_,_=>none
 |(f',as,v)::r,f,args=>if f=f'/\Mu (wM 20) args as=true then some v else vH r f args
def tC (P:Program):aA (FuncId×aA AV×AV)->Prop
 |[]=>True
 |(f,as,v)::r=>nP P f as v/\tC P r
def Og {P:Program}:∀{M:aA (FuncId×aA AV×AV)} {f:FuncId} {args:aA AV} {v:AV},tC P M->vH M f args=some v->nP P f args v
 |[],_,_,_,_,h=>by cases h
 |(f',as,v')::r,f,args,v,hM,h=>by
  simp only[vH]at h
  split at h
  rename_i hc
  cases h
  rw[hc.1,vP (wV 20) hc.2]
  exact hM.1
  exact Og hM.2 h
def rH {M:aA (FuncId×aA AV×AV)} {f:FuncId} (h:∀e∈M,e.1≠f) (args:aA AV):vH M f args=none:=by
 induction M with
 |nil=>rfl
 |cons e r ih=>
  obtain⟨f',as,v⟩:=e;simp only[vH];rw[aG3 (fun hc=>h (f',as,v) (by simp) hc.1.symm)];exact ih (fun e he=>h e (by simp[he]))
def kQ.tab {P:Program} {l:aA (aB IFn)} {M:aA (FuncId×aA AV×AV)} (h:kQ P 0 l) (a:tC P M):jN P ⟨fun f=>(l[f]?).join,vH M⟩:=by
 refine⟨fun f ifn hf=>?_,fun f args v b=>Og a b⟩;have:l[f]? =some (some ifn):=by grind
 have h2:=kQ.get h this
 rwa [bX3]at h2
def dL1 (P:Program):aA Func->aA (aB IFn)->aA (aB IFn)
 |_,[]=>[]
 |[],_::_=>[]
 |_::fs,none::r=>none::dL1 P fs r
 |fn::fs,some x::r=>nD P fn x.pure x.frz::dL1 P fs r
def kQ.of {P:Program}:∀{l:aA (aB IFn)} {fs:aA Func} {i:Nat},P.funcs.toList.drop i=fs->dL1 P fs l=l->kQ P i l
 |[],_,_,_,_=>trivial
 |o::r,[],i,_,h=>by cases o<;>cases h
 |none::r,f::fs,i,hd,h=>by
  have hn:P.funcs.toList.drop (i+1)=fs:=by rw[<-dF3,hd];rfl
  exact kQ.of (l:=r) hn (List.cons.inj h).2
 |some x::r,f::fs,i,hd,h=>by
  have hn:P.funcs.toList.drop (i+1)=fs:=by rw[<-dF3,hd];rfl
  have hi:P.funcs[i]? =some f:=by
   rw[<-cH3,<-List.head?_drop,hd];rfl
  exact⟨⟨f,hi,(List.cons.inj h).1⟩,kQ.of (l:=r) hn (List.cons.inj h).2⟩
def Em {P:Program} {T:kG} (b:jN P T) (a:P.follows .mixedOrders=true) {f:FuncId} {fn:IFn} {args:aA AV} {v:AV} {d:Nat} (hf:T f=some fn) (hp:fn.pure=true) (hc:args.all (closed 4)=true)
  (h:runP T (exec T d) f fn args=some v):nP P f args v:=by
 intro g w s n Args e c;exact zD (El b a d) b hf hc h e c
end Go.Sim
namespace Go.Sim
open Go.RowKit Go.ChangeShapes Go.WideShapes
section
variable {H:Type} {enc:TypeId×Value->H} {P:Program} {W W':World}
def lL1 {a:Addr} {y:Value} (h:W.cell? a=some y):a.block<W.heap.size:=by
 unfold World.cell? at h;split at h
 grind
 cases h
def So (hb:Below W.heap.size W W') {a:Addr} {n:Nat} {cs:aA Value} (h:W.cells? 0 a n=some cs):W'.cells? 0 a n=some cs:=by
 unfold World.cells? at h ⊢;simp only[bL3,aZ3]at h ⊢;exact mapM_mono (fun x y hxy=>by rw[hb.cell (lL1 hxy)];exact hxy) h
def qE {α β:Type} {f g:α->aB β}:∀{l:aA α} {r:aA β},l.mapM f=some r->(∀x y,x∈l->y∈r->f x=some y->g x=some y)->l.mapM g=some r
 |[],r,h,_=>by simpa using h
 |a::l,r,h,hk=>by
  simp only[dP3,Option.bind_eq_bind,zY2,Option.pure_def,aF3]at h
  obtain⟨b,hb,e,c,rfl⟩:=h
  have h1:=qE c (fun x y d hy=>hk x y (by simp[d]) (by simp[hy]))
  have h2:=hk a b (by simp) (by simp) hb
  simp[dP3,h1,h2]
def Io (hb:Below W.heap.size W W') {held:Bool} {sp:Nat->Bool}:∀(b D:Nat) (t:TypeId) (cs:aA Value) (x:DataW H×aA MemPlace),iI P D t=true->
  DataW.trod enc P W 0 (fun _=>true) held b t cs=some x->(∀q∈x.2,sp q.block=true)->DataW.trod enc P W' 0 sp held b t cs=some x
 |0,_,_,_,_,_,h,_=>by simp[DataW.trod]at h
 |b+1,0,_,_,_,hp,_,_=>by simp[iI]at hp
 |b+1,D+1,t,cs,x,hp,h,hs=>by
  have IH:=Io hb (held:=held) (sp:=sp) b D
  unfold iI at hp
  split at hp
  .rename_i d
   unfold DataW.trod at h ⊢
   rw[d]at h ⊢
   split at h<;>simp_all
  .rename_i k d
   unfold DataW.trod at h ⊢
   rw[d]at h ⊢
   split at h<;>simp_all
  .rename_i d
   unfold DataW.trod at h ⊢
   rw[d]at h ⊢
   split at h<;>simp_all
  .rename_i e d
   simp only[aA3,dQ3,ne_eq]at hp
   obtain⟨h0,hp⟩:=hp
   unfold DataW.trod at h ⊢
   rw[d]at h ⊢
   split at h
   all_goals first|(simp_all;done)|skip
   rename_i e' a len cap he
   cases he
   simp only at h ⊢
   split at h
   .rename_i hc
    rw[aE3 hc]
    simp only[zY2,aZ3,aB3]at h
    obtain⟨c,h1,dL,h2,rfl⟩:=h
    simp only[cD3]at hs
    have el:∀(i:Nat) (y:DataW H×aA MemPlace),(y∈c\/y∈dL)->((W.cells? 0 (a.add (i*P.cellsOf e)) (P.cellsOf e)).bind (DataW.trod enc P W 0 (fun _=>true) held b e))=some y->
      ((W'.cells? 0 (a.add (i*P.cellsOf e)) (P.cellsOf e)).bind (DataW.trod enc P W' 0 sp held b e))=some y:=by
     intro i y hy h;simp only[zY2]at h ⊢;obtain⟨row,v,w⟩:=h;refine⟨row,So hb v,IH e row y hp w (fun q l=>hs q (Or.inr ?_))⟩;rw[List.mem_flatMap];exact⟨y,by simpa using hy,l⟩
    have m:=qE h1 (g:=fun i=>(W'.cells? 0 (a.add (i*P.cellsOf e)) (P.cellsOf e)).bind (DataW.trod enc P W' 0 sp held b e)) (fun i y _ hy h=>el i y (Or.inl hy) h);have o:=qE h2 (g:=fun j=>(W'.cells? 0 (a.add ((len+j)*P.cellsOf e)) (P.cellsOf e)).bind (DataW.trod enc P W' 0 sp held b e)) (fun i y _ hy h=>el (len+i) y (Or.inr hy) h);rw[m];simp only[zX2];by_cases r:cap=0
    .grind
    .have p:sp a.block=true:=by
      have hlen:c.length+dL.length=cap:=by
       have s:=(oO h1).1;have e2:=(oO h2).1;simp at s e2;omega
      refine hs (.cell a.block (a.off+0)) (Or.inl ?_);unfold MemPlace.row;rw[dB3];refine⟨0,?_,rfl⟩;rw[dR3,hlen];exact Nat.mul_pos (by omega) (by omega)
     rw[aE3 p,o];rfl
   .cases h
  .rename_i fs d
   simp only[aA3]at hp;unfold DataW.trod at h ⊢;rw[d]at h ⊢;split at h
   all_goals first|(simp_all;done)|skip
   rename_i u he;cases he;split at h
   .rename_i hc
    rw[aE3 hc];simp only[aB3]at h ⊢;obtain⟨xs,h1,rfl⟩:=h;refine⟨xs,qE h1 (fun f y hf hy h=>IH f.type _ y ?_ h (fun q l=>hs q ?_)),rfl⟩
    .grind
    .grind
   .cases h
  .rename_i n e d
   simp only[aA3,cK3]at hp;unfold DataW.trod at h ⊢;rw[d]at h ⊢;split at h
   all_goals first|(simp_all;done)|skip
   rename_i n' e' he;cases he;split at h
   .rename_i hc
    rw[aE3 hc];simp only[aB3]at h ⊢;obtain⟨xs,h1,rfl⟩:=h;refine⟨xs,qE h1 (fun i y hi hy h=>IH e _ y hp.2 h (fun q l=>hs q ?_)),rfl⟩;rw[List.mem_flatMap];exact⟨y,hy,l⟩
   .cases h
  .cases hp
def xE (hb:Below W.heap.size W W') {held:Bool} {sp:Nat->Bool} {D:Nat}:∀(c:aA TypeId) (vs:aA Value) (a:aA (DataW H)) (ps:aA MemPlace),(c.all fun t=>iI P D t)=true->
  DataW.TrodAll enc P W 0 (fun _=>true) held c vs a ps->(∀q∈ps,sp q.block=true)->DataW.TrodAll enc P W' 0 sp held c vs a ps
 |[],vs,a,ps,_,h,_=>by
  match vs,a,h with
  |[],[],h=>exact h
 |t::c,vs,a,ps,hp,h,hs=>by
  match vs,a,h with
  |v::vs,d::a,h=>
   obtain⟨p,q,⟨b,h1⟩,h2,rfl⟩:=h
   simp only[bY3,aA3]at hp
   exact⟨p,q,⟨b,Io hb b D t _ _ hp.1 h1 (fun x e=>hs x (by simp[e]))⟩,xE hb c vs a q hp.2 h2 (fun x e=>hs x (by simp[e])),rfl⟩
def dM1 (P:Program) (W:World) (D:Nat) (t:TypeId) (x:AV) (V:Value):Prop:=
 VR (gW W) x V/\∃cs,mU P D t cs/\x=(if eD P t then .agg cs else cs.headD .undef)
def vS1 {D a:Nat} {t:TypeId} {V:Value} {x:DataW H×aA MemPlace} (b:(∃cs,V=.agg cs)↔eD P t=true) (j:∀cs,V≠.tuple cs) (hp:iI P D t=true)
  (h:DataW.trod enc P W 0 (fun _=>true) true a t V.cells.toList=some x):∃y,dM1 P W D t y V:=by
 obtain⟨cs,h1,h2,f⟩:=Vl D a t _ x.1 x.2 h hp;by_cases d:eD P t=true;obtain⟨Cs,rfl⟩:=b.2 d;refine⟨.agg cs,.agg (by simpa[Value.cells]using h1.1) (fun i y hy=>f y ?_) (fun i x y k hy=>h1.2 i x y k (by simpa[Value.cells]using hy)),cs,h2,by rw[aE3 d]⟩;simp only[Value.cells];exact aJ3 (by simpa using hy);have g:∀Cs,V≠.agg Cs:=fun Cs e=>d (b.1 ⟨Cs,e⟩);have hc:V.cells=#[V]:=by cases V<;>simp_all[Value.cells]
 rw[hc]at h1;have hl:=h1.1
 match cs,hl,h1,h2 with
 |[c],_,h1,h2=>exact⟨c,h1.head,[c],h2,by rw[aG3 d];rfl⟩
end
end Go.Sim
namespace Go.Sim
open Go.RowKit Go.ChangeShapes Go.WideShapes Go.ChangeAt
section
variable {H:Type} {enc:TypeId×Value->H} {P:Program} {W W':World}
def Sp {D:Nat} {t:TypeId} {base:Nat} {V:Value} (hp:iI P D t=true) (a:Value.okWide P W .any base t V):((∃cs,V=.agg cs)↔eD P t=true)/\∀cs,V≠.tuple cs:=by
 cases D with
 |zero=>simp[iI]at hp
 |succ D=>
 unfold iI at hp;unfold Value.okWide at a;unfold eD;split at hp;rename_i b;rw[b]at a ⊢;simp only[Cell.okWide,b]at a;cases V<;>simp_all[Cell.ok];rename_i b;rw[b]at a ⊢;simp only[Cell.okWide,b]at a;cases V<;>simp_all[Cell.ok];rename_i b;rw[b]at a ⊢;simp only[Cell.okWide,b]at a;cases V<;>simp_all[Cell.ok];rename_i b;rw[b]at a ⊢;simp only[Cell.okWide,b]at a;cases V<;>simp_all[Cell.ok]
 grind
 grind
 cases hp
def vI (P:Program) (W:World) (D:Nat):aA TypeId->aA AV->aA Value->Prop
 |[],[],[]=>True
 |t::ts,x::xs,V::Vs=>dM1 P W D t x V/\vI P W D ts xs Vs
 |_,_,_=>False
def Vm {D base:Nat}:∀{e:aA TypeId} {vs:aA Value} {c:aA (DataW H)} {ps:aA MemPlace},(e.all fun t=>iI P D t)=true->
  (∀(j:Nat) t v,e[j]? =some t->vs[j]? =some v->Value.okWide P W .any base t v)->
  DataW.TrodAll enc P W 0 (fun _=>true) true e vs c ps->∃xs,vI P W D e xs vs
 |[],vs,c,ps,_,_,h=>by
  match vs,c,h with
  |[],[],h=>exact⟨[],trivial⟩
 |t::e,vs,c,ps,hp,hok,h=>by
  match vs,c,h with
  |v::vs,d::c,h=>
   obtain⟨p,q,⟨g,h1⟩,h2,rfl⟩:=h
   simp only[bY3,aA3]at hp
   obtain⟨k,l⟩:=Sp hp.1 (hok 0 t v rfl rfl)
   obtain⟨x,i⟩:=vS1 k l hp.1 h1
   obtain⟨xs,f⟩:=Vm hp.2 (fun j t v a b=>hok (j+1) t v (by simpa using a) (by simpa using b)) h2
   exact⟨x::xs,i,f⟩
def vI.tr {D:Nat}:∀{a:aA TypeId} {xs:aA AV} {vs:aA Value},vI P W D a xs vs->TR (gW W) xs vs
 |[],[],[],_=>.nil _
 |_::_,_::_,_::_,h=>.cons h.1.1 (vI.tr h.2)
def Au {sp:Nat->Bool} {base:Nat} {held:Bool}:∀{b:aA TypeId} {vs:aA Value} {a:aA (DataW H)} {ps:aA MemPlace},DataW.TrodAll enc P W base sp held b vs a ps->a.length=b.length/\vs.length=b.length
 |[],vs,a,ps,h=>by
  match vs,a,h with
  |[],[],h=>exact⟨rfl,rfl⟩
 |t::b,vs,a,ps,h=>by
  match vs,a,h with
  |v::vs,d::a,⟨p,q,h1,h2,_⟩=>
   obtain⟨c,e⟩:=Au h2
   exact⟨by simp[c],by simp[e]⟩
end
def Ko {C:Checked} {f:FuncId} {fn:Func} {s:ChangeSpec} {d fresh g:Bool} {D:Nat} {tb:TypeId} {H:Type} {enc:TypeId×Value->H}
  (i:s.vars=[]) (m:∀k:aA (DataW H),k.length=fn.params.toList.length->s.fn H k={results:=[.lit (.bool true)],args:=k})
  (r:fn.resultTypes=#[tb]) (F:C.prog.underlying tb=some .bool) (c:(fn.params.toList.all fun t=>iI C.prog D t)=true)
  (w:∀(W:World) (xs:aA AV) (args:Array Value),vI C.prog W D fn.params.toList xs args.toList->Calls C.prog f args W fun e W'=>e=.returned (.bool true)/\Below W.heap.size W W')
  (W:World) (base:Nat) (args:Array Value) (k A:aA (DataW H)) (before:aA MemPlace)
  (u:∀(j:Nat) t v,fn.params[j]? =some t->args[j]? =some v->Value.okWide C.prog W .any base t v)
  (J:DataW.Whole enc C.prog fn.params.toList s.vars d W args.toList k A before):
  Calls C.prog f args W fun e W'=>∃v,e=.returned v/\s.post enc C.prog fn d fresh g false W args v W':=by
 have n:=J;obtain⟨p,q,B,y,rfl,K,L⟩:=J
 have E:A=[]/\q=[]:=by
  rw[i]at y
  match A,y with
  |[],y=>exact⟨rfl,y⟩
 obtain⟨rfl,rfl⟩:=E;obtain⟨xs,G⟩:=Vm c (fun j t v a b=>u j t v (by simpa using a) (by simpa using b)) B;refine(w W xs args G).mono fun e W' ⟨he,hb⟩=>?_;subst he;have l:=m k (Au B).1
 have o:∀x∈p,(decide (x.block<W.heap.size))=true:=fun x z=>by
  have:=n.lt x (by simp[z]);simpa using this
 refine⟨_,rfl,k,[],p++[],[],p,[],n,?_,?_,?_,World.keptBut_mono (fun x z=>⟨z,by simpa using z⟩) (hb.frame (· ∈p++[])),fun h=>by cases h⟩;rw[cR3,l,r];exact trodAll_mk1 (shut_bool F _);rw[cR3,l];exact xE hb _ _ _ _ c B o;rw[cR3,l,i];rfl
end Go.Sim
