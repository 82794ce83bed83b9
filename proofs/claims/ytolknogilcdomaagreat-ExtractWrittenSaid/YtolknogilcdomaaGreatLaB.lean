import Derived.Test.YtolknogilcdomaaGreatLaA
import Derived.ControlIn
import Derived.LoopNIn
import GoSem.ClaimChange
import Derived.Below
import Derived.DataReads
import Derived.ChangeSame
import Derived.ProofKit
import Derived.OpenShut
/- A text of the proof. -/
set_option linter.all false
namespace Go.Sim
structure lA (s s':Hp):Prop where
 wf:Wf s.h s.n->Wf s'.h s'.n
 n:s.n<=s'.n
def lA.refl (s:Hp):lA s s:=⟨id,fI3 _⟩
def lA.trans {a b c} (h:lA a b) (k:lA b c):lA a c:=⟨fun w=>k.wf (h.wf w),gH3 h.n k.n⟩
def Ox (out:Out) (s:Hp):lA s (out.apply s):=by
 constructor;intro hw
 have a:Wf (match out.up with|some (id,ob)=>upd s.h id ob|none=>s.h) s.n:=by
  split;exact hw.upd _ _;exact hw
 simp only[Out.apply];split;exact⟨by simp,a⟩;exact a;simp only[Out.apply];split;simp;exact fI3 _
def It (s:Hp) (id:Nat) (o:AO):lA s {h:=upd s.h id o,n:=s.n}:=⟨fun h=>h.upd _ _,fI3 _⟩
section
variable {T:mO} {ex:Nat->Bool->IC->St->Option (Ex×St)}
def rR (ex:Nat->Bool->IC->St->aB (Ex×St)):Prop:=∀lim rd c σ e a,ex lim rd c σ=some (e,a)->lA σ.s a.s
def Tu (b:rR ex) {lim} {fn} {args} {s s'} {v} (h:body ex lim fn args s=some (v,s')):lA s s':=by
 unfold body at h;split at h;cases h;rename_i e σ a he;simp only[fG3,gD3]at h;obtain⟨v',_,_,rfl⟩:=h;exact b _ _ _ _ _ _ he;cases h
def tB (a:rR ex) {lim} {f} {args} {s s'} {v} (h:callF T ex lim f args s=some (v,s')):lA s s':=by
 unfold callF at h;split at h;cases h;split at h;split at h;simp only[fG3,gD3]at h;obtain⟨_,_,_,rfl⟩:=h;exact .refl _;split at h;split at h;split at h;split at h;cases h;exact .refl _;cases h;cases h;cases h;split at h;simp only[fG3,gD3]at h;obtain⟨_,_,_,rfl⟩:=h;exact .refl _;cases h;exact Tu a h
def tC {l} {s s'} {st} {pend} (h:endRound l s st pend=some s'):lA s s':=by
 obtain⟨_,_,_,_,_,_,_,rfl⟩:=qJ h;exact It _ _ _
def Oy (d:rR ex) {lim l} {args} {s s'} {v} (h:round ex lim l args s=some (v,s')):lA s s':=by
 unfold Sim.round at h;split at h;split at h;split at h;rename_i σ f;have h1:=d _ _ _ _ _ _ f;split at h
 have fin:∀{e} {τ} {id} {o} {lim} {rd} {c} {st} {pend} {b},ex lim rd c {t:=σ.t,s:={h:=upd σ.s.h id o,n:=σ.s.n}}=some (e,τ)->
   (endRound l τ.s st pend).map (fun s=>(b,s))=some (v,s')->lA s s':=by
  intro e τ id o lim rd c st pend b hb a;simp only[fG3,gD3]at a;obtain⟨g,a,_,rfl⟩:=a;exact((h1.trans (It _ id o)).trans (d _ _ _ _ _ _ hb)).trans (tC a)
 split at h
 grind
 grind
 grind
 cases h;cases h;cases h;cases h;cases h
def pA (a:rR ex) {lim} {k} {xs} {s s'} {v} (h:step T ex lim k xs s=some (v,s')):lA s s':=by
 unfold step at h;split at h;exact tB a h;split at h;unfold callV at h;split at h;exact tB a h;exact Oy a h;cases h;cases h;split at h;cases h;exact Ox _ _;cases h
def rS (c:rR ex) {lim}:∀{os} {σ a},runOps T ex lim os σ=some a->lA σ.s a.s
 |[],σ,a,h=>by
  simp only[runOps,fN3]at h
  subst h
  exact .refl _
 |o::os,σ,a,h=>by
  simp only[runOps]at h
  split at h
  split at h
  split at h
  rename_i b
  exact(pA c b).trans (rS c h)
  cases h
  cases h
  have:=rS c h
  exact this
def Bl {nb} {run} (hr:∀s v s',run s=some (v,s')->lA s s') {hid} {xs} {s s1} {v} {W} (h:callX nb run hid xs s=some (v,s1,W)):lA s s1:=by
 obtain⟨a,s',w,_,h1,h2,rfl,_⟩:=rP h;have hg:=hr _ _ _ h1;exact⟨fun hw=>Wf.newOK (hw.updAll w) (hg.wf (hw.hide a)) hg.n,hg.n⟩
def lX (c:rR ex) {lim} {before}:∀{os} {j} {fs} {σ d} {a},fO T ex lim before os j fs σ=some (d,a)->lA σ.s d.s
 |[],j,fs,σ,d,a,h=>by
  simp only[fO,fN3,gD3]at h
  obtain⟨rfl,_⟩:=h
  exact .refl _
 |o::os,j,fs,σ,d,a,h=>by
  simp only[fO]at h
  split at h
  split at h
  split at h
  split at h
  have:=lX c h
  exact this
  cases h
  split at h
  split at h
  rename_i b
  exact(Bl (fun _ _ _=>pA c) b).trans (lX c h)
  cases h
  split at h
  rename_i b
  exact(pA c b).trans (lX c h)
  cases h
  cases h
  have:=lX c h
  exact this
def Iu {σ}:lA σ {h:=popMark σ.h,n:=σ.n}:=⟨fun h=>h.pop,fI3 _⟩
def Ej {σ}:lA σ {h:=.mark::σ.h,n:=σ.n}:=⟨fun h=>h,fI3 _⟩
def Ek (T:mO):∀d,rR (exec T d)
 |0,_,_,_,_,_,_,h=>by simp[exec]at h
 |d+1,lim,rd,c,σ,e,σ',h=>by
  have ih:=Ek T d
  unfold exec at h
  split at h
  cases h;exact .refl _
  simp only[fG3,gD3]at h
  obtain⟨τ,h,_,rfl⟩:=h
  exact rS ih h
  split at h
  rename_i hf
  split at h
  cases h
  exact lX ih hf
  cases h
  cases h
  split at h
  rename_i a
  exact(ih _ _ _ _ _ _ a).trans (ih _ _ _ _ _ _ h)
  exact ih _ _ _ _ _ _ h
  split at h
  exact ih _ _ _ _ _ _ h
  cases h
  split at h
  rename_i a
  split at h
  cases h;exact ih _ _ _ _ _ _ a
  cases h;exact ih _ _ _ _ _ _ a
  exact ih _ _ _ _ _ _ h
  split at h
  rename_i a
  exact((Ej.trans (ih _ _ _ _ _ _ a)).trans Iu).trans (ih _ _ _ _ _ _ h)
  rename_i a
  cases h
  exact(Ej.trans (ih _ _ _ _ _ _ a)).trans Iu
  cases h
  split at h
  split at h
  rename_i hc
  have h1:=tB ih hc
  have h2:∀o:AO,lA σ.s {h:=.ob σ.s.n o::σ.s.h,n:=σ.s.n+1}:=fun o=>⟨fun h=>⟨by simp,h⟩,by simp⟩
  have f:=(h2 _).trans h1
  split at h
  split at h
  cases h
  split at h
  cases h
  rename_i b
  have g:=f.trans (tC b)
  split at h<;>cases h<;>exact g
  cases h
  cases h
  cases h
  cases h;exact .refl _
  cases h;exact .refl _
end
end Go.Sim
namespace Go.Sim
section
variable {P:Program} {F:Fence} {n:Nat} {b:Frame} {a:Act} {k:List Item} {cs:List Frame} {w:World} {Q:Exit->Act->World->Prop}
def mK {c}:Go.step P (lone (b.atR a (.code (.scope c)::k)) cs w)=.next (lone (b.atR a (.code c::.inScope c::k)) cs w):=
 step_lone_go (by simp[stepG,stepG.exec,Frame.atR])
def Hr {c}:Go.step P (lone (b.atR a (.inScope c::k)) cs w)=.next (lone (b.atR a k) cs w):=
 step_lone_go (by simp[stepG,stepG.exec,Frame.atR])
def Tv {c} (hg:∀l a w,¬Q (.goto l) a w) (h:c.wpIn F n P Q a w):(Code.scope c).wpIn F n P Q a w:=by
 intro b k cs j hb hr;have h0:(lone (b.atR a (.code (.scope c)::k)) cs w).fenced P F:=fenced_calm hb hr rfl;obtain⟨e,g,w₁,f,d⟩:=h b (.inScope c::k) cs j hb hr;cases e with
 |normal=>exact⟨.normal,g,w₁,f,.head h0 mK (StepsIn.trans d (.one (fenced_calm hb hr rfl) Hr))⟩
 |exit id=>
  have m:exitTo id (.inScope c::k)=exitTo id k:=by simp[exitTo]
  exact⟨.exit id,g,w₁,f,fun k' hk=>.head h0 mK (d.1 k' (by rw[m];exact hk)),
   fun i hk=>let⟨o,h1,h2⟩:=d.2 i (by rw[m];exact hk);⟨o,h1,.head h0 mK h2⟩⟩
 |goto l=>exact(hg _ _ _ f).elim
 |ret=>exact⟨_,g,w₁,f,.of_steps (.one h0 mK) d⟩
 |panic ch=>exact⟨_,g,w₁,f,.of_steps (.one h0 mK) d⟩
 |outgrown=>exact⟨_,g,w₁,f,.of_steps (.one h0 mK) d⟩
end
end Go.Sim
namespace Go.Sim
section
variable {T:mO} {L L':Nat->Option AO} {lim n n':Nat} {k:iV} {xs:List AV} {out:Out}
def mT {esz} {x} {r} (h:rowsOf L esz x=some r) (a:∀id ao,id∈idOf x->L id=some ao->L' id=some ao):rowsOf L' esz x=some r:=by
 unfold rowsOf at h;split at h;simpa only[rowsOf]using h;simpa only[rowsOf]using h;simpa only[rowsOf]using h;simpa only[rowsOf]using h;split at h;rename_i hl;simp only[rowsOf,a _ _ (by simp[idOf]) hl];exact h;cases h;cases h
def Ku {x} {r} (h:entsOf L x=some r) (a:∀id ao,id∈idOf x->L id=some ao->L' id=some ao):entsOf L' x=some r:=by
 unfold entsOf at h;split at h;exact h;split at h;rename_i hl;simp only[entsOf,a _ _ (by simp[idOf]) hl];exact h;cases h;exact h;cases h
def El {ty} {esz} {s} {new} {o} (h:appendTo L lim n ty esz s new=some o) (a:∀id ao,id∈idOf s->L id=some ao->L' id=some ao):appendTo L' lim n ty esz s new=some o:=by
 unfold appendTo at h;split at h;simpa only[appendTo]using h;simpa only[appendTo]using h;simpa only[appendTo]using h;split at h;rename_i hl;simp only[appendTo,a _ _ (by simp[idOf]) hl];exact h;cases h;cases h
def Hs {esz} {lo hi mx} {x} {bs} {v} (h:sliceOp L esz lo hi mx (x::bs)=some v) (j:∀id ao,id∈idOf x->L id=some ao->L' id=some ao):sliceOp L' esz lo hi mx (x::bs)=some v:=by
 have key:∀L,(∀a b c d e f,x≠.sl a b c d e f)->sliceOp L esz lo hi mx (x::bs)=sliceOp L' esz lo hi mx (x::bs):=by
  intro L i;cases x<;>first|rfl|exact absurd rfl (i _ _ _ _ _ _)|(rename_i y;cases y<;>first|rfl|(rename_i a b c;cases a<;>cases b<;>cases c<;>rfl))
 by_cases i:∃a b c d e f,x=.sl a b c d e f;obtain⟨z,id,ver,off,len,cap,rfl⟩:=i;cases hl:L id with
 |none=>
  exfalso;simp only[sliceOp,hl]at h;split at h<;>cases h
 |some ao=>
  have g:=j id ao (by simp[idOf]) hl;simp only[sliceOp,hl]at h;simp only[sliceOp,g];exact h
 grind
def Zy {ty} {esz b} {zero} {zeros} {s x} (h:doOp L lim n (.append ty esz b zero zeros) [s,x]=some out) (e:∀id ao,id∈idOf x->L id=some ao->L' id=some ao) (hs:∀id ao,id∈idOf s->L id=some ao->L' id=some ao):
  doOp L' lim n (.append ty esz b zero zeros) [s,x]=some out:=by
 simp only[doOp]at h ⊢;split at h;rename_i new a
 have c:appRows L' esz zeros zero x=some new:=by
  cases zeros;simp only[appRows,fR3,gT3]at a ⊢;exact mT a e;simp only[appRows,gF3]at a ⊢;exact a
 split at h;rename_i o d;simp only[c,El d hs];exact h;cases h;cases h
def Tw (h:doOp L lim n k xs=some out) (b:∀id ao,id∈(foot T k xs).rd\/id∈(foot T k xs).wr->L id=some ao->L' id=some ao):doOp L' lim n k xs=some out:=by
 unfold doOp at h;split at h
 all_goals first|(simp only[doOp];exact h)|skip
 ·
  split at h
  .simpa only[doOp]using h
  .split at h
   .rename_i hl
    simp only[doOp,b _ _ (.inl (by simp[foot,idOf])) hl];exact h
   .cases h
  .cases h
 ·
  split at h
  .simpa only[doOp]using h
  .split at h
   .rename_i hl
    simp only[doOp,b _ _ (.inl (by simp[foot,idOf])) hl];exact h
   .cases h
  .cases h
 ·
  split at h
  .rename_i hc
   split at h
   .rename_i hl
    simp only[doOp,hc,b _ _ (.inr (by simp[foot,idOf])) hl];exact h
   .cases h
  .cases h
 ·
  split at h
  .rename_i hr
   simp only[doOp,mT hr (fun id ao a=>b id ao (.inl a))];exact h
  .cases h
 ·
  rename_i x;simp only[fG3]at h;obtain⟨v,hv,rfl⟩:=h;cases xs with
  |nil=>simp[sliceOp]at hv
  |cons x bs=>simp only[doOp,Hs hv (fun id ao a=>b id ao (.inl a)),gB3]
 ·
  split at h
  .rename_i c
   split at h
   .rename_i es he
    simp only[doOp,c,gF3,Ku he (fun id ao a=>b id ao (.inl a))];exact h
   .cases h
  .cases h
 ·
  split at h
  .split at h
   .rename_i hl
    simp only[doOp,b _ _ (.inr (by simp[foot,idOf])) hl];exact h
   .cases h
  .cases h
 ·
  split at h
  all_goals first|(simp only[doOp];exact h)|skip
  .split at h
   .rename_i hl
    simp only[doOp,b _ _ (.inl (by simp[foot,idOf])) hl];exact h
   .cases h
 .exact Zy h (fun id ao a=>b id ao (.inl a)) (fun id ao a=>b id ao (.inr a))
 ·
  split at h
  .rename_i rows hr
   split at h
   .simp only[doOp,mT hr (fun id ao a=>b id ao (.inl a))]
    exact h
   .simp only[doOp,mT hr (fun id ao a=>b id ao (.inl a))]
    exact h
   .split at h
    .rename_i hl
     simp only[doOp,mT hr (fun id ao a=>b id ao (.inl a)),b _ _ (.inr (by simp[foot,idOf])) hl];exact h
    .cases h
   .cases h
  .cases h
 ·
  split at h
  .simpa only[doOp]using h
  .simpa only[doOp]using h
  .split at h
   .rename_i hl
    simp only[doOp,b _ _ (.inr (by simp[foot,idOf])) hl];exact h
   .cases h
  .cases h
def Oz {ty} {esz} {s} {new} {o} {id} {ao} (h:appendTo L lim n ty esz s new=some o) (a:o.up=some (id,ao)):id∈idOf s/\(L id).isSome=true:=by
 unfold appendTo at h;split at h
 .grind
 .grind
 .grind
 .split at h
  .rename_i hl
   repeat' split at h
   all_goals cases h
   all_goals cases a
   all_goals exact⟨by simp[idOf],by rw[hl];rfl⟩
  .cases h
 .cases h
def Tx {ty} {esz} {s} {new} {o} (h:appendTo L lim n ty esz s new=some o) (a:o.new=none):appendTo L lim n' ty esz s new=some o:=by
 unfold appendTo at h;split at h;split at h;rename_i hc;cases h;simp only[appendTo,hc,gF3];cases h;cases a;split at h;rename_i hc;cases h;simp only[appendTo,hc,gF3];cases h;cases a;simpa only[appendTo]using h;split at h;rename_i hl;simp only[appendTo,hl];split at h
 grind
 cases h;cases h;cases h
def Wk {ty} {esz b} {zero} {zeros} {s x} (h:doOp L lim n (.append ty esz b zero zeros) [s,x]=some out):
  ∃new,appRows L esz zeros zero x=some new/\appendTo L lim n ty esz s new=some out/\∀n',appendTo L lim n' ty esz s new=some out->doOp L lim n' (.append ty esz b zero zeros) [s,x]=some out:=by
 simp only[doOp]at h;split at h;rename_i new a;split at h;rename_i o c;have:o=out:=by grind
 subst this;refine⟨new,a,c,fun n' h'=>?_⟩;simp only[doOp,a,h'];exact h;cases h;cases h
def xI {id} {ao} (h:doOp L lim n k xs=some out) (c:out.up=some (id,ao)):id∈(foot T k xs).wr/\(L id).isSome=true:=by
 have a:∀ty esz b zero zeros s x,k=.append ty esz b zero zeros->xs=[s,x]->id∈(foot T k xs).wr/\(L id).isSome=true:=by
  rintro ty esz b zero zeros s x rfl rfl;obtain⟨new,h1,h2,_⟩:=Wk h;exact Oz h2 c
 unfold doOp at h;split at h
 all_goals first|exact a _ _ _ _ _ _ _ rfl rfl|skip
 all_goals clear a
 all_goals (repeat' split at h)
 all_goals first
  |(cases h;done)
  |(simp only[fG3]at h;obtain⟨_,_,rfl⟩:=h;cases c;done)
  |(cases h;cases c;done)
  |(have hl:= ‹L _=some _›;cases h;cases c;exact⟨by simp[foot,idOf],by rw[hl];rfl⟩)
def wL1 (h:doOp L lim n k xs=some out) (c:out.new=none):doOp L lim n' k xs=some out:=by
 have a:∀ty esz b zero zeros s x,k=.append ty esz b zero zeros->xs=[s,x]->doOp L lim n' k xs=some out:=by
  rintro ty esz b zero zeros s x rfl rfl;obtain⟨new,h1,h2,d⟩:=Wk h;exact d n' (Tx h2 c)
 unfold doOp at h;split at h
 all_goals first|exact a _ _ _ _ _ _ _ rfl rfl|skip
 all_goals clear a
 all_goals first|(simp only[doOp];exact h)|skip
 all_goals (repeat' split at h)
 all_goals first
  |(cases h;done)
  |(simp only[fG3]at h;obtain⟨_,_,rfl⟩:=h;cases c;done)
  |(cases h;cases c;done)
end
end Go.Sim
namespace Go.Sim
def vU {a} {i}:∀{es},(qF a es).testBit i=true->∃e∈es,Region.binds .any e=true/\(i=e.on\/(a.getD e.on 0).testBit i=true)
 |[],h=>by simp[qF]at h
 |e::es,h=>by
  simp only[qF]at h
  split at h
  rename_i hb
  simp only[Nat.testBit_or,fW3]at h
  rcases h with(h|h)|h
  grind
  grind
  obtain⟨e',h1,h2⟩:=vU h
  exact⟨e',by simp[h1],h2⟩
  obtain⟨e',h1,h2⟩:=vU h
  exact⟨e',by simp[h1],h2⟩
def tD:∀os a,∃tail,dU a os=a++tail/\tail.length=os.length/\
  ∀k o,os[k]? =some o->(dU a os).getD (a.length+k) 0=qF ((dU a os).take (a.length+k)) o.after.toList
 |[],a=>⟨[],by simp[dU],rfl,fun k o h=>by simp at h⟩
 |o::os,a=>by
  obtain⟨tail,h1,h2,b⟩:=tD os (a++[qF a o.after.toList])
  refine⟨qF a o.after.toList::tail,by simp[dU,h1],by simp[h2],fun k o' hk=>?_⟩
  cases k with
  |zero=>
   simp only[hF3,fN3]at hk
   subst hk
   simp only[dU,h1,hP3]
   simp
  |succ k=>
   have:=b k o' (by simpa using hk)
   have e:(a++[qF a o.after.toList]).length+k=a.length+(k+1):=by simp;omega
   rw[e]at this
   exact this
def tE {ops:aA Oper} (a:∀j o,ops[j]? =some o->∀e∈o.after.toList,Region.binds .any e=true->e.on<j) {D:Nat->Prop}
  (q:∀i oi,D i->ops[i]? =some oi->∀e∈oi.after.toList,Region.binds .any e=true->D e.on):∀j o,ops[j]? =some o->(∀e∈o.after.toList,Region.binds .any e=true->D e.on)->
   ∀i,((dU [] ops).getD j 0).testBit i=true->D i:=by
 intro j
 induction j using Nat.strongRecOn with
 |_ j ih=>
  intro o k he i hi;obtain⟨tail,h1,h2,m⟩:=tD ops [];have l:=m j o k;simp only[fV3,hD3]at l;rw[l]at hi;obtain⟨e,f,g,c⟩:=vU hi;rcases c with rfl|c;exact he e f g;have h:=a j o k e f g;have r:j<ops.length:=(fE3.1 k).1;have n:((dU [] ops).take j).getD e.on 0=(dU [] ops).getD e.on 0:=by grind
  rw[n]at c;have b:ops[e.on]? =some ops[e.on]:=by simp
  exact ih e.on h _ b (fun e' p d=>q e.on _ (he e f g) b e' p d) i c
def Bm {j} {o} {a}:∀{ps} {b},Kj j o a ps b=true->∀k p,ps[k]? =some p->b+k<j->
  a.testBit (b+k)=true\/((∀d,p.dst=some d->o.dst≠some d/\d∉o.reads)/\∀d,o.dst=some d->d∉p.reads)
 |[],b,h,k,p,hk,_=>by simp at hk
 |q::ps,b,h,k,p,hk,hlt=>by
  simp only[Kj,fF3,fW3,fO3]at h
  obtain⟨h1,h2⟩:=h
  cases k with
  |zero=>
   simp only[hF3,fN3]at hk
   subst hk
   rw[hP3]at hlt ⊢
   rcases h1 with(h1|h1)|h1
   omega
   exact .inl h1
   grind
  |succ k=>
   have:=Bm h2 k p (by simpa using hk) (by omega)
   have e:b+1+k=b+(k+1):=by omega
   rwa [e]at this
def iT (ft:Nat->Foot):Nat->aA Foot
 |0=>[]
 |j+1=>ft j::iT ft j
def pB {ft ft'}:∀{j},(∀i,i<j->ft i=ft' i)->iT ft j=iT ft' j
 |0,_=>rfl
 |j+1,h=>by rw[iT,iT,h j (by omega),pB (fun i hi=>h i (by omega))]
def Pa {ft} {i}:∀{j},i<j->ft i∈iT ft j
 |0,h=>by omega
 |j+1,h=>by
  rw[iT]
  by_cases e:i=j
  subst e;simp
  exact gZ3 _ (Pa (by omega))
def revF_length (ft:Nat->Foot):∀j,(iT ft j).length=j
 |0=>rfl
 |j+1=>by simp[iT,revF_length ft j]
section
variable (T:mO) (ex:Nat->Bool->IC->St->Option (Ex×St))
def Stp (lim a m j:Nat) (o:Sim.Op1) (ft:Nat->Foot) (st:Nat->St) (v:Nat->AV):Prop:=
  (st (j+1)).t=put (st j).t o.dst (v j)/\
  ((wanted (st j).t o.guard=false/\v j=.undef/\ft j={}/\(st (j+1)).s=(st j).s)\/
   (wanted (st j).t o.guard=true/\∃xs,evs (st j).t o.xs=some xs/\(foot T o.k xs).all=1/\ft j=foot T o.k xs/\(st (j+1)).s=(st j).s/\
     ∃b,step T ex lim o.k xs {h:=hide (unseen a j (iT ft j)) (st j).s.h,n:=(st j).s.n+rsv (m-j)}=some (v j,b))\/
   (wanted (st j).t o.guard=true/\∃xs,evs (st j).t o.xs=some xs/\((foot T o.k xs).all≠1/\(foot T o.k xs).all≠3)/\ft j={foot T o.k xs with al:=List.range' (st j).s.n ((st (j+1)).s.n-(st j).s.n)}/\
     step T ex lim o.k xs (st j).s=some (v j,(st (j+1)).s))\/
   (wanted (st j).t o.guard=true/\∃xs W,evs (st j).t o.xs=some xs/\(foot T o.k xs).all=3/\ft j={wr:=W,al:=List.range' (st j).s.n ((st (j+1)).s.n-(st j).s.n),all:=1,x:=true}/\
     callX (nbF (iT ft j)) (step T ex lim o.k xs) (unseen a j (iT ft j)) xs (st j).s=some (v j,(st (j+1)).s,W)))
variable {T ex}
def Stp.congr {lim mask m j} {o} {ft ft'} {st st'} {v v'} (h:Stp T ex lim mask m j o ft st v) (hf:∀i,i<=j->ft' i=ft i) (h1:st' j=st j) (h2:st' (j+1)=st (j+1)) (a:v' j=v j):
  Stp T ex lim mask m j o ft' st' v':=by
 unfold Stp at *;rw[h1,h2,a,hf j (fI3 _),pB (ft:=ft') (ft':=ft) (j:=j) (fun i hi=>hf i (by omega))];exact h
def Pb {lim} {before}:∀os j σ a n b,fO T ex lim before os j (iT a j) σ=some (n,b)->
  ∃st ft v,(∀i,i<j->ft i=a i)/\st j=σ/\st (j+os.length)=n/\b=iT ft (j+os.length)/\
   ∀k o,os[k]? =some o->Stp T ex lim (before.getD (j+k) 0) (j+os.length) (j+k) o ft st v
 |[],j,σ,a,n,b,h=>by
  simp only[fO,fN3,gD3]at h
  obtain⟨rfl,rfl⟩:=h
  exact⟨fun _=>σ,a,fun _=>.undef,fun _ _=>rfl,rfl,rfl,rfl,fun k o h=>by simp at h⟩
 |o::os,j,σ,a,n,b,h=>by
  have dS:∀s f x,fO T ex lim before os (j+1) (f::iT a j) s=some (n,b)->
    (∀st ft v,st j=σ->st (j+1)=s->ft j=f->(∀i,i<j->ft i=a i)->v j=x->Stp T ex lim (before.getD j 0) (j+(os.length+1)) j o ft st v)->
    ∃st ft v,(∀i,i<j->ft i=a i)/\st j=σ/\st (j+(o::os).length)=n/\b=iT ft (j+(o::os).length)/\
     ∀k o',(o::os)[k]? =some o'->Stp T ex lim (before.getD (j+k) 0) (j+(o::os).length) (j+k) o' ft st v:=by
   intro s f x hr hs;let l:Nat->Foot:=fun i=>if i=j then f else a i
   have r:f::iT a j=iT l (j+1):=by
    have h1:l j=f:=fJ3 rfl;rw[iT,h1,pB (ft:=l) (ft':=a) (fun i hi=>fM3 (by omega))]
   rw[r]at hr;obtain⟨st,ft,v,h1,h2,z,w,y⟩:=Pb os (j+1) s l n b hr;have p:∀i,i<j->ft i=a i:=fun i hi=>(h1 i (by omega)).trans (fM3 (by omega));have q:ft j=f:=(h1 j (by omega)).trans (fJ3 rfl);have hlen:j+(o::os).length=j+1+os.length:=by simp;omega
   refine⟨fun i=>if i=j then σ else st i,ft,fun i=>if i=j then x else v i,p,fJ3 rfl,?_,?_,?_⟩
   grind
   rw[hlen];exact w;intro k o' hk;cases k with
   |zero=>
    simp only[hF3,fN3]at hk;subst hk;exact hs _ ft _ (fJ3 rfl) ((fM3 (by omega)).trans h2) q p (fJ3 rfl)
   |succ k=>
    have u:=y k o' (by simpa using hk);have e:j+1+k=j+(k+1):=by omega
    rw[e,<-hlen]at u;exact u.congr (fun _ _=>rfl) (fM3 (by omega)) (fM3 (by omega)) (fM3 (by omega))
  simp only[fO]at h;split at h;rename_i hw;split at h;rename_i xs m;split at h;rename_i d;split at h;rename_i v t g;refine dS _ _ v h (fun st ft v' a1 a2 a3 a4 a5=>?_);unfold Stp;rw[a1,a2,a5,a3,pB a4];refine⟨rfl,.inr (.inl ⟨hw,xs,m,d,rfl,rfl,t,?_⟩)⟩;have e:j+(os.length+1)-j=os.length+1:=by omega
  rw[e];exact g;cases h;rename_i d;split at h;rename_i c;split at h;rename_i v t W g;refine dS _ _ v h (fun st ft v' a1 a2 a3 a4 a5=>?_);unfold Stp;rw[a1,a2,a5,a3,pB a4];exact⟨rfl,.inr (.inr (.inr ⟨hw,xs,W,m,c,rfl,g⟩))⟩;cases h;rename_i c;split at h;rename_i v t g;refine dS _ _ v h (fun st ft v' a1 a2 a3 a4 a5=>?_);unfold Stp;rw[a1,a2,a5,a3];exact⟨rfl,.inr (.inr (.inl ⟨hw,xs,m,⟨d,c⟩,rfl,g⟩))⟩;cases h;cases h;rename_i hw;refine dS _ _ .undef h (fun st ft v' a1 a2 a3 a4 a5=>?_);unfold Stp;rw[a1,a2,a5,a3];exact⟨rfl,.inl ⟨by simpa using hw,rfl,rfl,rfl⟩⟩
def tF {a} {f} {ft}:∀{j},drawOK.okAgainst a f (iT ft j) j=true->∀i,i<j->a.testBit i=true\/compat (ft i) f=true
 |0,_,i,hi=>by omega
 |j+1,h,i,hi=>by
  simp only[iT,drawOK.okAgainst,iK3,fF3,fW3]at h
  by_cases e:i=j
  subst e;exact h.1
  exact tF h.2 i (by omega)
def Bn {before} {ft}:∀{m},drawOK before (iT ft m) m=true->∀j,j<m->∀i,i<j->(before.getD j 0).testBit i=true\/compat (ft i) (ft j)=true
 |0,_,j,hj=>by omega
 |m+1,h,j,hj=>by
  simp only[iT,drawOK,iK3,fF3]at h
  intro i hi
  by_cases e:j=m
  subst e;exact tF h.1 i hi
  exact Bn h.2 j (by omega) i hi
end
end Go.Sim
namespace Go.Sim
variable {ex:Nat->Bool->IC->St->aB (Ex×St)} {of:IX} {ps:Array Tmp} {y:Code}
section
variable {P:Program} {T:mO} {lim n:Nat} {g:Gh} {w:World} {r:Option Nat}
def Ty (P:Program) (T:mO) (ex:Nat->Bool->IC->St->aB (Ex×St)):Prop:=
 ∀(lim:Nat) (ops:Array Oper) (ios:aA Sim.Op1) (σ b:St) (fs:aA Foot) (id:Nat),mapO (mR P ops.toList) ops.toList=some ios->dL1 ops.toList ios (dU [] ops.toList)=true->
  fO T ex lim (dU [] ops.toList) ios 0 [] σ=some (b,fs)->drawOK (dU [] ops.toList) fs fs.length=true->
  ∀(r:aB Nat) (g:Gh) (a:Act) (w:World) (n base:Nat),TR g σ.t a.tmps.toList->oC P g w σ.s->lim<=σ.s.n->base<=w.heap.size->kA base g w a.defers->
   (Code.region id ops true).wpIn (FW r) n P (Ec P base lim g w σ.s .normal b) a w
def Bj.trans {base} {s s' s''} {t t'} {g' g''} {a' a''} {w' w''} (h:Bj P base lim g w s t s' g' a' w') (k:Bj P base lim g' w' s' t' s'' g'' a'' w''):
  Bj P base lim g w s t' s'' g'' a'' w'':=⟨k.t,k.inv,h.ext.trans k.ext,gH3 h.n k.n,k.marks⟩
def oC.pop {s} (h:oC P g w s):oC P g w {h:=popMark s.h,n:=s.n}:=
 ⟨fun id ao a=>h.H id ao (Ou h.wf a),h.W,h.dom,h.wf.pop⟩
def oC.mark {s} (h:oC P g w s):oC P g w {h:=.mark::s.h,n:=s.n}:=⟨h.H,h.W,h.dom,h.wf⟩
def Iv {base} {s s'} {t} {g'} {e} {σ'} {e'} {a' a''} {w' w''} (b:Bj P base lim g w s t s' g' a' w') (h:Ec P base lim g' w' s' e σ' e' a'' w''):Ec P base lim g w s e σ' e' a'' w'':=by
 obtain⟨h1,a,h2⟩:=h;exact⟨h1,a,b.trans h2⟩
def aL {D} (c:∀d,d<D->qI P (exec T d)) {x} {f} (l:comp P x=some f) {rd} {r} (hr:rd=r.isSome) {e} {m}:
  ∀d,d<=D->∀σ g a w n base Q,exec T d lim rd (.loop f) σ=some (e,m)->pY r w->TR g σ.t a.tmps.toList->oC P g w σ.s->lim<=σ.s.n->base<=w.heap.size->kA base g w a.defers->
   (∀e' a' w',Ec P base lim g w σ.s e m e' a' w'->Q e' a' w')->Code.roundsIn (FW r) n P x Q d a w
 |0,_,σ,g,a,w,n,base,Q,h,_,_,_,_,_,_,_=>by simp[exec]at h
 |d+1,hd,σ,g,a,w,n,base,Q,h,hra,ht,hI,hl,hb,hm,hQ=>by
  simp only[exec]at h
  rw[roundsIn_succ]
  split at h
  rename_i τ j
  refine wpIn_mono (c d (by omega) lim rd f _ .normal τ j x l r hr g a w n base hra ht hI.mark hl hb hm) ?_
  rintro o a1 w1 ⟨rfl,i,b⟩
  refine aL c l hr d (by omega) _ i a1 w1 n base Q h (hra.ext b.ext) b.t b.inv.pop (gH3 hl b.n) (gH3 hb b.ext.size) b.marks ?_
  intro e2 a2 w2 h2
  exact hQ _ _ _ (Iv (s':={h:=popMark τ.s.h,n:=τ.s.n}) ⟨b.t,b.inv.pop,b.ext,b.n,b.marks⟩ h2)
  rename_i p τ k j
  cases h
  refine wpIn_mono (c d (by omega) lim rd f _ e τ j x l r hr g a w n base hra ht hI.mark hl hb hm) ?_
  rintro o a1 w1 ⟨rfl,i,b⟩
  cases e with
  |normal=>exact(k rfl).elim
  |ret=>exact hQ _ _ _ ⟨rfl,i,b.t,b.inv.pop,b.ext,b.n,b.marks⟩
  |exit id=>exact hQ _ _ _ ⟨rfl,i,b.t,b.inv.pop,b.ext,b.n,b.marks⟩
  cases h
def oC.other {s} (a:oC P g w s) (o:Obj):oC P g (w.alloc o) s/\sU lim g g w (w.alloc o):=by
 have c:∀b o',g.G b=some o'->b<w.heap.size:=fun b o' h=>(gI3.1 (a.W.still b o' h)).1
 refine⟨⟨fun id ao d=>(a.H id ao d).mono (.refl g) rfl (fun loc hl=>eK w o (a.W.lt id loc hl)),⟨fun b o' h=>?_,fun id loc h=>?_,a.W.out,a.W.inj⟩,a.dom,a.wf⟩,
  ⟨.refl g,by simp,fun b hb _=>eK w o hb,fun id loc h=>.inl ⟨loc,h,rfl⟩,fun _ _=>rfl,rfl,rfl,rfl,fun _ _ h=>.inl h,fun b R h=>⟨R,(eK w o (gI3.1 h).1).trans h⟩⟩⟩
 rw[eK w o (c b o' h)];exact a.W.still b o' h;have:=a.W.lt id loc h;simp;omega
def kA.fresh {base}:∀{a},kA base g w a->∀d∈a,d.target≠.collected w.heap.size
 |[],_,d,hd=>by simp at hd
 |d0::a,⟨⟨r,h1,h2,h3,_,_,_⟩,h7⟩,d,hd=>by
  rcases fT3.1 hd with rfl|hd
  grind
  exact kA.fresh h7 d hd
def Pc {b} {R} (hb:w.heap[b]? =some (.loop R)) (hr:R.state≠.busy):(Instr.endLoop b).run P w=.ok R.pending {w with heap:=w.heap.setIfInBounds b (.loop {R with state:=.exhausted})}:=by
 simp[Instr.endLoop,nV hb,sZ hb,hr]
def wM1:aB IC->aB Ex
 |none=>some .normal
 |some .ret=>some .ret
 |some (.exit id)=>some (.exit id)
 |_=>none
def Em (b9:qI P ex) (hT:kJ P T) {f:Operand} {x:Code} {cx cy:IC} (hf:Hm f=some of) (Z:comp P x=some cx) (hy:comp P y=some cy)
  {σ:St} {K:FuncId} {first cap:aA AV} (b8:of.ev σ.t=some (.fn (.func K) first cap)) {v:AV} {s:Hp}
  (c:callF T ex lim K (first++[.fn (.yield σ.s.n) [] []]++cap) {h:=.ob σ.s.n (.loop .ready none σ.t ps.toList cx cy)::σ.s.h,n:=σ.s.n+1}=some (v,s))
  {st:LoopState} {pend:aB IC} {tm:aA AV} {pm:aA Nat} {as bd:IC} (hL:look s.h σ.s.n=some (.loop st pend tm pm as bd)) (d4:st≠.busy) {s':Hp} (U:endRound σ.s.n s .exhausted pend=some s')
  {e:Ex} (he:wM1 pend=some e)
  {a:Act} {base:Nat} (ht:TR g σ.t a.tmps.toList) (hI:oC P g w σ.s) (hl:lim<=σ.s.n) {w1:World} {mark:aA Deferred} {D:Nat} (z:oC P g w1 σ.s) (u:sU lim g g w w1) (Y:kA base g w1 (mark++a.defers))
  (m:∀d,(Instr.enterLoop d a.tmps ps x y (FW r).round).run P w=.ok (w1.heap.size,mark) (w1.alloc (.loop {state:=.ready,pending:=none,fn:=d,tmps:=a.tmps,params:=ps,assign:=x,body:=y,defers:=D}))):
  (Code.rangeFunc f ps x y).wpIn (FW r) n P (Ec P base lim g w σ.s e {t:=σ.t,s:=s'}) a w:=by
 refine wpIn_rangeFunc (fun d _=>?_);have X:=Kt ht hf b8;generalize hV:a.eval f=V at X;cases X with
 |@fn _ _ _ _ F C l1 l2 v1 v2=>
  have k:∃ifn,T K=some ifn:=by
   unfold callF at c;split at c;cases c
   grind
  obtain⟨ifn,k⟩:=k;obtain⟨fn,d0,b7⟩:=hT.fns K ifn k;obtain⟨⟨cd,B⟩,J⟩:=Bk b7;have o:¬fn.name= "runtime.NumGoroutine":=by simpa using J
  let R:Loop:={state:=.ready,pending:=none,fn:=d,tmps:=a.tmps,params:=ps,assign:=x,body:=y,defers:=D}
  let w2:=w1.alloc (.loop R)
  have hn:g.ι σ.s.n=none:=by
   cases h:g.ι σ.s.n with
   |none=>rfl
   |some l=>have:=hI.dom σ.s.n (by rw[h];simp);omega
  let loc:Zk:={b:=w1.heap.size,esz:=1,ct:=1,ver:=0}
  obtain⟨j,b6⟩:=Wb (lim:=lim) z.W (.loop R) σ.s.n loc rfl hn hl;let g2:Gh:={G:=g.G,ι:=fun id=>if id=σ.s.n then some loc else g.ι id}
  have E:g2.ι σ.s.n=some loc:=fJ3 rfl
  have b4:oC P g2 w2 {h:=.ob σ.s.n (.loop .ready none σ.t ps.toList cx cy)::σ.s.h,n:=σ.s.n+1}:=by
   refine⟨fun id ao ha=>?_,b6,fun id h=>?_,⟨by simp,hI.wf⟩⟩;simp only[look]at ha;split at ha;rename_i e;subst e;cases ha;refine⟨loc,R,E,rfl,?_,rfl,rfl,ht.mono (u.le.trans j.le),by simp[R],Z,hy⟩;show w2.heap[w1.heap.size]? =_
   exact heap_alloc_new w1 _;rename_i e;refine(z.H id ao ha).mono j.le ?_ (fun l hl=>eK w1 _ (z.W.lt id l hl));show(if id=σ.s.n then some loc else g.ι id)=g.ι id
   rw[fM3 (fun h=>e h.symm)];show id<σ.s.n+1
   by_cases e:id=σ.s.n;omega
   have h:g.ι id≠none:=by
    have:g2.ι id=g.ι id:=fM3 e
    rwa [this]at h
   have:=hI.dom id h;omega
  have hF:TR g first F.toList:=⟨by simpa using l1,fun i x y Z hy=>v1 i x y Z (by simpa using hy)⟩
  have hC:TR g cap C.toList:=⟨by simpa using l2,fun i x y Z hy=>v2 i x y Z (by simpa using hy)⟩
  have q:g.le g2:=u.le.trans j.le
  have A:TR g2 (first++[.fn (.yield σ.s.n) [] []]++cap) (F++#[Value.func (.yield w1.heap.size) #[] #[]]++C).toList:=by
   have:=((hF.mono q).app (.cons (VR.yield (l:=σ.s.n) (b:=w1.heap.size) E (fun _=>rfl)) (.nil g2))).app (hC.mono q);simpa using this
  have d3:kA base g2 w2 (mark++a.defers):=Y.ext j;refine⟨w1.heap.size,mark,w2,{target:=.fn (.func K) C,args:=F++#[Value.func (.yield w1.heap.size) #[] #[]]},w2,K,F++#[Value.func (.yield w1.heap.size) #[] #[]]++C,w2,m d,?_,fun _ _=>trivial,?_,fun h=>(by cases h),?_⟩;have S:a.eval (.const (.func (.yield w1.heap.size) #[] #[]))=.func (.yield w1.heap.size) #[] #[]:=rfl;simp[resolve,rangeCall,hV,Deferred.ofValue,S];simp[invoke,callFunc,d0,o,B];refine CallsIn.mono (Eb (xC b9 hT c A b4 (by show lim<=σ.s.n+1;omega))) ?_;rintro e' w' ⟨V',M,rfl,k1,k2,k3,k4⟩;obtain⟨b0,R3,m1,m2,m3,m4,m5,m6,m7,m8,m9⟩:=sY k2 hL
  have d2:b0=loc:=by
   obtain⟨loc',q1,q2,q3⟩:=k3.le.ι σ.s.n loc E;rw[m1]at q1;cases q1;exact q3 m2.symm
  subst d2;obtain⟨_,_,_,_,_,_,O,rfl⟩:=qJ U;rw[hL]at O;cases O;obtain⟨b5,N⟩:=Eh (lim:=lim) (st':=.exhausted) (pend':=pend) (R':={R3 with state:=.exhausted}) k2 hL hl m1 m3 rfl m5 rfl rfl rfl rfl;refine⟨_,_,Pc m3 (by rw[m4];exact d4),?_⟩;have p:sU lim g M w {w' with heap:=w'.heap.setIfInBounds loc.b (.loop {R3 with state:=.exhausted})}:=((u.trans j).trans k3).trans N
  have L:Bj P base lim g w σ.s σ.t {h:=upd s.h σ.s.n (.loop .exhausted pend tm pm as bd),n:=s.n} M {a with defers:=mark++a.defers} {w' with heap:=w'.heap.setIfInBounds loc.b (.loop {R3 with state:=.exhausted})}:=
   ⟨ht.mono p.le,b5,p,by have:σ.s.n+1<=s.n:=k4;show σ.s.n<=s.n;omega,(d3.ext k3).ext N⟩
  unfold wM1 at he;split at he;cases he;have:R3.pending=none:=m5;rw[this]at L ⊢;exact⟨rfl,M,L⟩;cases he;have:R3.pending=some .ret:=m5;rw[this]at L ⊢;exact wpIn_ret ⟨rfl,M,L⟩;cases he;have:R3.pending=some (.exit _):=m5;rw[this]at L ⊢;exact wpIn_exit ⟨rfl,M,L⟩;cases he
def En (m:qI P ex) (K:kJ P T) {f:Operand} {x:Code} {E F:IC} (hf:Hm f=some of) (M:comp P x=some E) (hy:comp P y=some F)
  {σ:St} {H:FuncId} {first cap:aA AV} (k:of.ev σ.t=some (.fn (.func H) first cap)) {v:AV} {s:Hp}
  (c:callF T ex lim H (first++[.fn (.yield σ.s.n) [] []]++cap) {h:=.ob σ.s.n (.loop .ready none σ.t ps.toList E F)::σ.s.h,n:=σ.s.n+1}=some (v,s))
  {st:LoopState} {pend:aB IC} {O:aA AV} {N:aA Nat} {as bd:IC} (J:look s.h σ.s.n=some (.loop st pend O N as bd)) (p:st≠.busy) {s':Hp} (d:endRound σ.s.n s .exhausted pend=some s')
  {e:Ex} (he:wM1 pend=some e)
  {a:Act} {base:Nat} (C:pY r w) (L:TR g σ.t a.tmps.toList) (i:oC P g w σ.s) (hl:lim<=σ.s.n) (hb:base<=w.heap.size) (A:kA base g w a.defers):
  (Code.rangeFunc f ps x y).wpIn (FW r) n P (Ec P base lim g w σ.s e {t:=σ.t,s:=s'}) a w:=by
 cases r with
 |none=>
  obtain⟨u,j⟩:=i.other (lim:=lim) (.deferred (some []))
  have B:kA base g (w.alloc (.deferred (some []))) ([{target:=.collected w.heap.size,args:=#[]}]++a.defers):=by
   refine⟨⟨w.heap.size,rfl,hb,heap_alloc_new w _,fun id l h=>?_,?_,A.fresh⟩,A.ext j⟩;have:=i.W.lt id l h;omega;cases hG:g.G w.heap.size with
   |none=>rfl
   |some o=>
    have:=(gI3.1 (i.W.still _ o hG)).1;omega
  refine Em (D:=w.heap.size) m K hf M hy k c J p d he L i hl u j B (fun q=>?_);simp only[FW,Instr.enterLoop];simp[newObj,Sem.run]
 |some b=>
  obtain⟨R0,z⟩:=C b rfl;refine Em (w1:=w) (mark:=[]) (D:=R0.defers) m K hf M hy k c J p d he L i hl i (.refl lim g w) A (fun q=>?_);simp only[FW,Instr.enterLoop];simp[nV z,newObj];simp[Sem.run]
def Pd (K:kJ P T) (Y:∀d,qI P (exec T d)->Ty P T (exec T d)):∀D d,d<D->qI P (exec T d)
 |0,d,h=>by omega
 |D+1,d,hdD=>by
  have z:=Pd K Y D
  by_cases W:d<D
  exact z d W
  have V:d=D:=by omega
  subst V
  cases d with
  |zero=>exact fun lim rd c σ e F h=>by simp[exec]at h
  |succ d=>
  have ih:=z d (by omega)
  intro lim rd c σ e F h code hc r hr g a w n base b j m hl hb o
  cases code with
  |skip=>
   simp only[comp,fN3]at hc
   subst hc
   simp only[exec,fN3,gD3]at h
   obtain⟨rfl,rfl⟩:=h
   exact wpIn_skip ⟨rfl,g,j,m,.refl lim g w,fI3 _,o⟩
  |region id ops dr=>
   simp only[comp]at hc
   split at hc
   cases hc
   rename_i ios G
   split at hc
   rename_i A
   split at hc
   rename_i O
   cases hc
   subst A
   simp only[exec]at h
   split at h
   rename_i τ fs hf
   split at h
   rename_i M
   cases h
   exact Y d ih lim ops ios σ F fs id G O hf M r g a w n base j m hl hb o
   cases h
   cases h
   cases hc
   rename_i A
   cases hc
   have A:dr=false:=by simpa using A
   subst A
   simp only[exec,fG3,gD3]at h
   obtain⟨τ,h,rfl,rfl⟩:=h
   refine wpIn_region ?_
   rw[List.range_eq_range',<-iZ3]
   exact zT ih K ops.toList ios 0 σ τ g w a G (by simp) h j m hl o (fun g' a' w' k=>⟨rfl,g',k⟩)
  |seq x y=>
   simp only[comp]at hc
   split at hc
   rename_i u R p hy
   cases hc
   simp only[exec]at h
   refine wpIn_seq ?_
   split at h
   rename_i τ L
   refine wpIn_mono (ih lim rd u σ .normal τ L x p r hr g a w n base b j m hl hb o) ?_
   rintro S a1 w1 ⟨rfl,E,k⟩
   refine wpIn_mono (ih lim rd R τ e F h y hy r hr E a1 w1 n base (b.ext k.ext) k.t k.inv (gH3 hl k.n) (gH3 hb k.ext.size) k.marks) ?_
   intro e2 a2 w2 h2
   exact Iv k h2
   rename_i H
   refine wpIn_mono (ih lim rd u σ e F h x p r hr g a w n base b j m hl hb o) ?_
   rintro S a1 w1 ⟨rfl,E,k⟩
   cases e with
   |normal=>exact absurd h (H _)
   |ret=>exact⟨rfl,E,k⟩
   |exit id=>exact⟨rfl,E,k⟩
   cases hc
  |cond c x y=>
   simp only[comp]at hc
   split at hc
   rename_i oc u R N p hy
   cases hc
   simp only[exec]at h
   split at h
   rename_i t C
   have hv:=(Kt j N C).bool
   refine wpIn_cond hv ?_
   cases t
   exact ih lim rd R σ e F h y hy r hr g a w n base b j m hl hb o
   exact ih lim rd u σ e F h x p r hr g a w n base b j m hl hb o
   cases h
   cases hc
  |block id x=>
   simp only[comp,fG3]at hc
   obtain⟨u,p,rfl⟩:=hc
   simp only[exec]at h
   refine wpIn_block ?_
   split at h
   rename_i i τ L
   refine wpIn_mono (ih lim rd u σ (.exit i) τ L x p r hr g a w n base b j m hl hb o) ?_
   rintro S a1 w1 ⟨rfl,E,k⟩
   simp only[Ex.toExit,Exit.inBlock]
   split at h
   rename_i hi
   cases h
   rw[fJ3 hi]
   exact⟨rfl,E,k⟩
   rename_i hi
   cases h
   rw[fM3 hi]
   exact⟨rfl,E,k⟩
   rename_i H
   refine wpIn_mono (ih lim rd u σ e F h x p r hr g a w n base b j m hl hb o) ?_
   rintro S a1 w1 ⟨rfl,E,k⟩
   cases e with
   |normal=>exact⟨rfl,E,k⟩
   |ret=>exact⟨rfl,E,k⟩
   |exit id=>exact absurd h (H _ _)
  |loop x=>
   simp only[comp,fG3]at hc
   obtain⟨u,p,rfl⟩:=hc
   exact wpIn_loop_rounds (d+1) (aL (D:=d+1) z p hr (d+1) (fI3 _) σ g a w n base _ h b j m hl hb o (fun _ _ _ h=>h))
  |rangeFunc f ps x y=>
   simp only[comp]at hc
   split at hc
   rename_i of u R N p hy
   cases hc
   simp only[exec]at h
   split at h
   rename_i Z first cap C
   split at h
   rename_i v s q
   split at h
   rename_i st pend tm pm as bd U
   split at h
   cases h
   rename_i J
   split at h
   cases h
   rename_i s' B
   split at h
   cases h
   exact En ih K N p hy C q U J B rfl b j m hl hb o
   cases h
   exact En ih K N p hy C q U J B rfl b j m hl hb o
   cases h
   exact En ih K N p hy C q U J B rfl b j m hl hb o
   cases h
   cases h
   cases h
   cases h
   cases hc
  |exit id=>
   simp only[comp,fN3]at hc
   subst hc
   simp only[exec,fN3,gD3]at h
   obtain⟨rfl,rfl⟩:=h
   exact wpIn_exit ⟨rfl,g,j,m,.refl lim g w,fI3 _,o⟩
  |ret=>
   simp only[comp,fN3]at hc
   subst hc
   simp only[exec,fN3,gD3]at h
   obtain⟨rfl,rfl⟩:=h
   exact wpIn_ret ⟨rfl,g,j,m,.refl lim g w,fI3 _,o⟩
  |scope x=>
   simp only[comp,fG3]at hc
   obtain⟨u,p,rfl⟩:=hc
   simp only[exec]at h
   refine Tv (fun l a w X=>by obtain⟨X,_⟩:=X;cases e<;>cases X) ?_
   split at h
   rename_i τ L
   have:e=.normal/\F=τ:=by
    cases d with
    |zero=>simp[exec]at h
    |succ d=>simp only[exec,fN3,gD3]at h;exact⟨h.1.symm,h.2.symm⟩
   obtain⟨rfl,rfl⟩:=this;exact ih lim rd u σ .normal _ L x p r hr g a w n base b j m hl hb o;exact ih lim rd u σ e F h x p r hr g a w n base b j m hl hb o
  |label l=>
   simp only[comp,fN3]at hc;subst hc;simp only[exec,fN3,gD3]at h;obtain⟨rfl,rfl⟩:=h;exact wpIn_label ⟨rfl,g,j,m,.refl lim g w,fI3 _,o⟩
  |_=>simp[comp]at hc
def lZ1 (b:kJ P T) (a:∀d,qI P (exec T d)->Ty P T (exec T d)) (d:Nat):qI P (exec T d):=Pd b a (d+1) d (by omega)
end
end Go.Sim
namespace Go.Sim
variable {f:Foot} {ft:Nat->Foot} {id j:Nat}
def Wl (T:mO) (k:iV) (xs:aA AV):(foot T k xs).al=[]:=by
 unfold foot;split<;>rfl
def Zz {T} {ex} {lim} {f} {fn} {xs} {H} {N} {v} {s2} (hf:T f=some fn) (hp:fn.pure=true) (b:(fn.frz||xs.all (closed 4))=true)
  (h:callF T ex lim f xs {h:=H,n:=N}=some (v,s2)) (N':Nat):∃a,callF T ex lim f xs {h:=H,n:=N'}=some (v,a):=by
 unfold callF at h ⊢;simp only[hf,hp,gF3]at h ⊢;split at h;rename_i hc;rw[fJ3 hc];obtain⟨w,h1,h2⟩:=fG3.1 h;cases h2;exact⟨_,by rw[h1];rfl⟩
 grind
def eR1 {T} {ex} {lim} {k} {xs} {H} {N} {v} {s2} (h:step T ex lim k xs {h:=H,n:=N}=some (v,s2)) (e:(foot T k xs).all=1) (d:(foot T k xs).x=true) (N':Nat):
  ∃i,step T ex lim k xs {h:=H,n:=N'}=some (v,i):=by
 have one:∀{f} {zs},(match T f with|some fn=>fn.pure&&(fn.frz||zs.all (closed 4))|none=>false)=true->callF T ex lim f zs {h:=H,n:=N}=some (v,s2)->∃i,callF T ex lim f zs {h:=H,n:=N'}=some (v,i):=fun{f zs} d h=>by
  split at d;rename_i fn hf;simp only[fF3]at d;exact Zz hf d.1 d.2 h N';cases d
 cases k with
 |callF f=>exact one d h
 |callV=>
  cases xs with
  |nil=>simp[foot]at d
  |cons f args=>
   cases f with
   |fn g first cap=>
    cases g with
    |func g=>exact one (zs:=first++args++cap) d h
    |_=>simp[foot]at d
   |_=>simp[foot]at d
 |_=>exfalso;rcases xs with _|⟨a,_|⟨b,_|⟨c,t⟩⟩⟩<;>simp[foot]at e
def xJ (T:mO) (k:iV) (xs:aA AV):(foot T k xs).all<=3/\((foot T k xs).all≠0->(foot T k xs).rd=[]/\(foot T k xs).wr=[]):=by
 unfold foot
 split<;>first
  |exact⟨by simp,fun h=>absurd rfl h⟩
  |(refine⟨?_,fun _=>⟨rfl,rfl⟩⟩;(repeat' split)<;>simp_all)
def uO {T} {k} {xs} (h:(foot T k xs).all=0):(∀f,k≠.callF f)/\k≠.callV:=by
 constructor;rintro f rfl;simp only[foot]at h;split at h
 grind
 cases h;rintro rfl;cases xs with
 |nil=>simp[foot]at h
 |cons x xs=>
  simp only[foot]at h;split at h
  grind
  cases h
def vV {T} {ex} {lim} {k} {xs} {s s'} {v} (h:step T ex lim k xs s=some (v,s')) (h0:(foot T k xs).all=0):
  ∃out,doOp (look s.h) lim s.n k xs=some out/\v=out.v/\s'=out.apply s:=by
 obtain⟨h1,h2⟩:=uO h0;unfold step at h;split at h
 grind
 exact absurd rfl h2
 grind
def Eo {out:Out} {s:Hp} (a:∀i ob,out.up=some (i,ob)->(look s.h i).isSome=true) (id:Nat):look (out.apply s).h id=out.after (look s.h) s.n id:=by
 have hb:look (match out.up with|some (i,ob)=>upd s.h i ob|none=>s.h) id=out.base (look s.h) id:=by
  unfold Out.base;cases hu:out.up with
  |none=>rfl
  |some p=>
   obtain⟨i,ob⟩:=p;simp only[look_upd];have:=a i ob hu;by_cases e:id=i;subst e;simp[this];simp[e]
 unfold Out.apply Out.after;cases hn:out.new with
 |none=>exact hb
 |some ob=>
  simp only[look];by_cases e:s.n=id
  grind
  grind
def uP (out:Out) (s:Hp):(out.apply s).n=if out.new.isSome then s.n+1 else s.n:=by
 unfold Out.apply;cases out.new<;>rfl
def lY (h:f.isE=true):f.rd=[]/\f.wr=[]/\f.al=[]/\f.all=0:=by
 simp only[Foot.isE,fF3,List.isEmpty_iff]at h;exact⟨h.1.1.1,h.1.1.2,h.1.2,fY3 h.2⟩
def Kv (h:id∈f.rd\/id∈f.wr):f.isE=false:=by
 cases hE:f.isE with
 |false=>rfl
 |true=>obtain⟨a,b,_⟩:=lY hE;rw[a,b]at h;simp at h
def Cr (h:id∈f.al):f.isE=false:=by
 cases hE:f.isE with
 |false=>rfl
 |true=>obtain⟨_,_,c,_⟩:=lY hE;rw[c]at h;simp at h
def tG (h:f.all≠0):f.isE=false:=by
 cases hE:f.isE with
 |false=>rfl
 |true=>exact absurd (lY hE).2.2.2 h
def mA1 {i j:Foot} (h:i.all+j.all<=1\/i.isE=true\/j.isE=true) (a:j.isE=false):i.all<=1:=by
 rcases h with h|h|h;omega;have:=(lY h).2.2.2;omega
 grind
def Iw {i j:Foot} (h:i.all+j.all<=1\/i.isE=true\/j.isE=true) (hi:i.isE=false):j.all<=1:=by
 rcases h with h|h|h;omega
 grind
 have:=(lY h).2.2.2;omega
def kD {i j} (h:compat0 i j=true):compat i j=true:=by simp[compat,h]
def gD {i j:Foot} (h:compat i j=true):(i.all+j.all<=1\/i.isE=true\/j.isE=true)/\(∀x∈i.wr,x∉j.rd/\x∉j.wr)/\(∀x∈j.wr,x∉i.rd)/\(∀x∈i.al,x∉j.rd/\x∉j.wr)/\(i.all=0\/j.wr=[])/\(j.all=0\/i.wr=[]):=by
 simp only[compat,fW3]at h;rcases h with(h|h)|h;obtain⟨a,b,c,d⟩:=lY h;rw[a,b,c,d];exact⟨.inr (.inl h),fun x e=>by simp at e,fun x _ e=>by simp at e,fun x e=>by simp at e,.inl rfl,.inr rfl⟩;obtain⟨a,b,c,d⟩:=lY h;rw[a,b,d];exact⟨.inr (.inr h),fun x _=>⟨fun e=>by simp at e,fun e=>by simp at e⟩,fun x e=>by simp at e,fun x _=>⟨fun e=>by simp at e,fun e=>by simp at e⟩,.inr rfl,.inl rfl⟩;simp only[compat0,fF3,fO3,fH3,fX3,fW3,hX3,List.isEmpty_iff,gL3,gO3]at h;obtain⟨⟨⟨⟨⟨h1,h2⟩,f⟩,g⟩,k⟩,l⟩:=h;exact⟨.inl h1,h2,f,g,k,l⟩
def rT {mask} {ft} {id}:∀{j},∀i,i<j->mask.testBit i=false->id∈(ft i).al->id∈unseen mask j (iT ft j)
 |0,i,hi,_,_=>by omega
 |j+1,i,hi,hm,hid=>by
  simp only[iT,unseen,iK3,gK3]
  by_cases e:i=j
  grind
  exact .inr (rT i (by omega) hm hid)
def Ix {l l'}:∀{xs},(∀t,.t t∈xs->l[t]? =l'[t]?)->evs l xs=evs l' xs
 |[],_=>rfl
 |x::xs,h=>by
  have h1:x.ev l=x.ev l':=by
   cases x with
   |t i=>exact h i (by simp)
   |c v=>rfl
  simp only[evs,h1,Ix (xs:=xs) (fun t a=>h t (by simp[a]))]
def Kw {l l'} {a} (h:∀i b,a=some (i,b)->l[i]? =l'[i]?):wanted l a=wanted l' a:=by
 cases a with
 |none=>rfl
 |some p=>
  obtain⟨i,b⟩:=p;simp only[Sim.wanted,h i b rfl]
def Ep (l:aA AV) (d:aB Nat) (v:AV):(put l d v).length=l.length:=by
 cases d<;>simp[put]
def vW {l} {d} {v} {t} (h:d≠some t):(put l d v)[t]? =l[t]? :=by
 cases d with
 |none=>rfl
 |some i=>simp only[put,gE3];rw[fM3 (fun e=>h (by rw[e]))]
def eS1 {l} {d d'} {v v'} (h:∀t,d=some t->d'≠some t):put (put l d v) d' v'=put (put l d' v') d v:=by
 cases d with
 |none=>rfl
 |some i=>
  cases d' with
  |none=>rfl
  |some j=>exact List.set_comm _ _ (fun e=>h i rfl (by rw[e]))
structure wR (P:Program) (T:mO) (ex:Nat->Bool->IC->St->Option (Ex×St)) (lim:Nat) (ops:Array Oper) (ios:List Sim.Op1) (st:Nat->St) (ft:Nat->Foot) (v:Nat->AV):Prop where
 comp:mapO (mR P ops.toList) ops.toList=some ios
 back:∀j o,ops.toList[j]? =some o->∀e∈o.after.toList,Region.binds .any e=true->e.on<j
 tmps:∀j o,ios[j]? =some o->∀i p,i<j->ios[i]? =some p->((dU [] ops.toList).getD j 0).testBit i=true\/((∀d,p.dst=some d->o.dst≠some d/\d∉o.reads)/\∀d,o.dst=some d->d∉p.reads)
 step:∀j o,ios[j]? =some o->Stp T ex lim ((dU [] ops.toList).getD j 0) ios.length j o ft st v
 com:∀j,j<ios.length->∀i,i<j->((dU [] ops.toList).getD j 0).testBit i=true\/compat (ft i) (ft j)=true
 gr:rR ex
 wf0:Wf (st 0).s.h (st 0).s.n
def zH (ft:Nat->Foot) (j id:Nat):Bool:=(ft j).all==2||(ft j).wr.contains id||(ft j).al.contains id
def wN1 (h:(ft j).isE=true):zH ft j id=false:=by
 obtain⟨_,b,c,d⟩:=lY h;simp[zH,b,c,d]
def jZ (st:Nat->St) (ft:Nat->Foot) (S:Nat->Bool):Nat->Nat->aB AO
 |0,id=>look (st 0).s.h id
 |j+1,id=>if S j&&zH ft j id then look (st (j+1)).s.h id else jZ st ft S j id
def qU (ios:aA Sim.Op1) (j:Nat):aB Nat:=(ios[j]?).bind (·.dst)
def tl (ios:aA Sim.Op1) (st:Nat->St) (v:Nat->AV) (S:Nat->Bool):Nat->aA AV
 |0=>(st 0).t
 |j+1=>if S j then put (tl ios st v S j) (qU ios j) (v j)else tl ios st v S j
section
variable {P:Program} {T:mO} {ex:Nat->Bool->IC->St->Option (Ex×St)} {lim:Nat} {ops:Array Oper} {ios:List Sim.Op1} {st:Nat->St} {v:Nat->AV}
def wR.get (R:wR P T ex lim ops ios st ft v) {j} (h:j<ios.length):∃io o,ios[j]? =some io/\ops.toList[j]? =some o/\mR P ops.toList o=some io:=by
 obtain⟨h1,h2⟩:=fB R.comp;obtain⟨o,a,b⟩:=h2 j ios[j] (by simp[h]);exact⟨ios[j],o,by simp[h],a,b⟩
def wR.size (R:wR P T ex lim ops ios st ft v):ios.length=ops.size:=by
 obtain⟨h1,h2⟩:=fB R.comp;simpa using h1
def wR.grows (R:wR P T ex lim ops ios st ft v) {j} (h:j<ios.length):lA (st j).s (st (j+1)).s:=by
 obtain⟨io,o,h1,_,_⟩:=R.get h;obtain⟨_,h2⟩:=R.step j io h1;rcases h2 with⟨_,_,_,a⟩|⟨_,xs,_,_,_,a,_⟩|⟨_,xs,_,_,_,a⟩|⟨_,xs,W,_,_,_,a⟩
 rw[a];exact .refl _;rw[a];exact .refl _;exact pA R.gr a;exact Bl (fun _ _ _=>pA R.gr) a
def wR.mono (R:wR P T ex lim ops ios st ft v) {i}:∀{j},i<=j->j<=ios.length->(st i).s.n<=(st j).s.n
  | 0, h, _ => by have:i=0:=by omega
                  subst this;exact fI3 _
  |j+1,h,hm=>by
    by_cases e:i=j+1
    grind
    exact gH3 (R.mono (i:=i) (j:=j) (by omega) (by omega)) (R.grows (by omega)).n
def wR.wf (R:wR P T ex lim ops ios st ft v):∀{j},j<=ios.length->Wf (st j).s.h (st j).s.n
 |0,_=>R.wf0
 |j+1,h=>(R.grows (by omega)).wf (R.wf (by omega))
def wR.al (R:wR P T ex lim ops ios st ft v) {j id} (h:j<ios.length):id∈(ft j).al↔(st j).s.n<=id/\id<(st (j+1)).s.n:=by
 obtain⟨io,o,h1,_,_⟩:=R.get h;obtain⟨_,h2⟩:=R.step j io h1;rcases h2 with⟨_,_,b,a⟩|⟨_,xs,_,_,b,a,_⟩|⟨_,xs,_,h5,b,a⟩|⟨_,xs,W,_,h5,b,a⟩
 rw[b,a];simp;rw[b,a,Wl];simp
 grind
 grind
def wR.all (R:wR P T ex lim ops ios st ft v) {j} (h:j<ios.length):(ft j).all<=2:=by
 obtain⟨io,o,h1,_,_⟩:=R.get h;obtain⟨_,h2⟩:=R.step j io h1;rcases h2 with⟨_,_,a,b⟩|⟨_,xs,_,h5,a,b,_⟩|⟨_,xs,_,h5,a,b⟩|⟨_,xs,W,_,h5,a,b⟩
 rw[a];simp;rw[a];omega;rw[a];have:=(xJ T io.k xs).1;have:=h5.2;simp only;omega;rw[a];simp
def wR.keep (R:wR P T ex lim ops ios st ft v) (h:j<ios.length) (c:zH ft j id=false):look (st (j+1)).s.h id=look (st j).s.h id:=by
 obtain⟨io,o,h1,_,_⟩:=R.get h;obtain⟨_,h2⟩:=R.step j io h1;rcases h2 with⟨_,_,d,b⟩|⟨_,xs,_,_,d,b,_⟩|⟨_,xs,_,h5,d,b⟩|⟨_,xs,W,_,h5,d,b⟩
 rw[b];rw[b];have z:=(xJ T io.k xs).1;simp only[zH,hN3,iI3,ne_eq,gL3,gO3]at c;have f:=c.2;rw[R.al h]at f;rw[d]at c;have h0:(foot T io.k xs).all=0:=by grind
 obtain⟨out,q,_,hs⟩:=vV b h0;rw[hs,Eo (fun i ob g=>(xI (T:=T) q g).2)];have hn:=uP out (st j).s;rw[<-hs]at hn;unfold Out.after Out.base;cases hnew:out.new with
 |none=>
  simp only;cases g:out.up with
  |none=>rfl
  |some p=>
   obtain⟨i,ob⟩:=p;have:=(xI (T:=T) q g).1;simp only;rw[fM3 (fun e=>c.1.2 (by rw[e];exact this))]
 |some ob'=>
  rw[hnew]at hn;simp only[iJ3,gF3]at hn;simp only;rw[fM3 (by omega)];cases g:out.up with
  |none=>rfl
  |some p=>
   obtain⟨i,ob⟩:=p;have:=(xI (T:=T) q g).1;simp only;rw[fM3 (fun e=>c.1.2 (by rw[e];exact this))]
 simp only[zH,d,hN3,iI3,ne_eq,gL3,gO3,List.mem_range'_1]at c;obtain⟨⟨_,hw⟩,f⟩:=c;obtain⟨t,s',w,_,A,B,x,y,_⟩:=rP b;have hn:=(R.grows h).n;have r:=R.wf (j:=j+1) (by omega);by_cases m:id<(st j).s.n;rw[x];simp only;rw[look_newOK_lt m,look_updAll_ne];rw[<-y];exact hw;have l:(st (j+1)).s.n<=id:=by omega
 have a:∀{h} {n},Wf h n->n<=id->look h id=none:=fun hw u=>by
  cases hl:look _ id with
  |none=>rfl
  |some o=>have:=hw.lt hl;omega
 rw[a r l,a (R.wf (j:=j) (by omega)) (by omega)]
def Er (R:wR P T ex lim ops ios st ft v) {S} {id}:∀{j},j<=ios.length->(∀i,i<j->zH ft i id=true->S i=true)->jZ st ft S j id=look (st j).s.h id
 |0,_,_=>rfl
 |j+1,hm,h=>by
  simp only[jZ]
  cases ht:zH ft j id with
  |true=>simp[h j (by omega) ht]
  |false=>
   simp only[Bool.and_false,fR3,gT3]
   rw[Er R (by omega) (fun i hi=>h i (by omega)),R.keep (by omega) ht]
def Bo {S} {id j}:∀{m},j<=m->(∀i,j<=i->i<m->S i=true->zH ft i id=false)->jZ st ft S m id=jZ st ft S j id
  | 0, hj, _ => by have:j=0:=by omega
                   subst this;rfl
  |m+1,hj,h=>by
    by_cases e:j=m+1
    subst e;rfl
    simp only[jZ]
    have h1:¬((S m&&zH ft m id)=true):=by grind
    rw[fM3 h1]
    exact Bo (by omega) (fun i hi a=>h i hi (by omega))
def uB1 {S S'} {id j} {ao} (a:∀i,j<i->S' i=S i) (h0:jZ st ft S' (j+1) id=some ao->jZ st ft S (j+1) id=some ao):∀{m},j<m->jZ st ft S' m id=some ao->jZ st ft S m id=some ao
 |0,hj,_=>by omega
 |m+1,hj,h=>by
  by_cases e:j=m
  subst e;exact h0 h
  simp only[jZ]at h ⊢
  rw[a m (by omega)]at h
  split at h
  grind
  rename_i hc;rw[fM3 hc];exact uB1 a h0 (by omega) h
def Es {S S'} {id}:∀{j},(∀i,i<j->S' i=S i)->jZ st ft S' j id=jZ st ft S j id
 |0,_=>rfl
 |j+1,h=>by simp only[jZ,h j (by omega),Es (j:=j) (fun i hi=>h i (by omega))]
def zU (R:wR P T ex lim ops ios st ft v) {S}:∀{j},j<=ios.length->(tl ios st v S j).length=(st j).t.length
 |0,_=>rfl
 |j+1,h=>by
  obtain⟨io,o,h1,_,_⟩:=R.get (j:=j) (by omega)
  rw[(R.step j io h1).1,Ep]
  simp only[tl]
  split
  rw[Ep];exact zU R (by omega)
  exact zU R (by omega)
def tlA (R:wR P T ex lim ops ios st ft v) {S} {t}:∀{j},j<=ios.length->(∀i,i<j->qU ios i=some t->S i=true)->(tl ios st v S j)[t]? =(st j).t[t]?
 |0,_,_=>rfl
 |j+1,hm,h=>by
  obtain⟨io,o,h1,_,_⟩:=R.get (j:=j) (by omega)
  have a:=(R.step j io h1).1
  have hd:qU ios j=io.dst:=by simp[qU,h1]
  have ih:=tlA R (S:=S) (t:=t) (j:=j) (by omega) (fun i hi=>h i (by omega))
  have hl:=zU R (S:=S) (j:=j) (by omega)
  simp only[tl,a]
  by_cases e:io.dst=some t
  rw[h j (by omega) (hd.trans e)]
  simp only[gF3,hd,e,put,gE3,hl]
  rw[vW e]
  split
  rw[hd,vW e];exact ih
  exact ih
def tlB {S} {t j}:∀{m},j<=m->(∀i,j<=i->i<m->S i=true->qU ios i≠some t)->(tl ios st v S m)[t]? =(tl ios st v S j)[t]?
  | 0, hj, _ => by have:j=0:=by omega
                   subst this;rfl
  |m+1,hj,h=>by
    by_cases e:j=m+1
    subst e;rfl
    simp only[tl]
    split
    rename_i hs
    rw[vW (h m (by omega) (by omega) hs)]
    exact tlB (by omega) (fun i hi a=>h i hi (by omega))
    exact tlB (by omega) (fun i hi a=>h i hi (by omega))
def Pe {S S'}:∀{j},(∀i,i<j->S' i=S i)->tl ios st v S' j=tl ios st v S j
 |0,_=>rfl
 |j+1,h=>by simp only[tl,h j (by omega),Pe (j:=j) (fun i hi=>h i (by omega))]
def tlC {S S'} {j} (b:∀i,i<j->S' i=S i) (a:∀i,j<i->S' i=S i) (h1:S j=false) (h2:S' j=true):∀{m},j<m->(∀i,j<i->i<m->S i=true->∀t,qU ios j=some t->qU ios i≠some t)->
  tl ios st v S' m=put (tl ios st v S m) (qU ios j) (v j)
 |0,hj,_=>by omega
 |m+1,hj,h=>by
  by_cases e:j=m
  subst e
  simp only[tl,h1,h2,gF3,fR3,gT3,Pe b]
  have ih:=tlC b a h1 h2 (m:=m) (by omega) (fun i hi c=>h i hi (by omega))
  simp only[tl,a m (by omega),ih]
  split
  rename_i hs
  exact eS1 (h m (by omega) (by omega) hs)
  rfl
end
end Go.Sim
namespace Go.Sim
section
variable {P:Program} {T:mO} {ex:Nat->Bool->IC->St->Option (Ex×St)} {lim:Nat} {ops:Array Oper} {ios:List Sim.Op1} {st:Nat->St} {ft:Nat->Foot} {v:Nat->AV} {S S':Nat->Bool}
structure mB1 (P:Program) (ops:Array Oper) (ios:List Sim.Op1) (st:Nat->St) (ft:Nat->Foot) (v:Nat->AV) (lim base:Nat) (g0:Gh) (w0:World) (S:Nat->Bool) (g:Gh) (a:Act) (w:World):Prop where
 ext:sU lim g0 g w0 w
 W:WG g w
 H:HR P g (jZ st ft S ios.length) w
 dom:∀id,g.ι id≠none->id<(st 0).s.n\/∃i,i<ios.length/\S i=true/\id∈(ft i).al
 t:TR g (tl ios st v S ios.length) a.tmps.toList
 marks:kA base g w a.defers
 closed:∀i oi,S i=true->ops.toList[i]? =some oi->∀e∈oi.after.toList,Region.binds .any e=true->S e.on=true
structure Rdy (ops:Array Oper) (ios:List Sim.Op1) (S:Nat->Bool) (j:Nat) (o:Oper) (io:Sim.Op1):Prop where
 hop:ops.toList[j]? =some o
 hio:ios[j]? =some io
 c:j<ios.length
 no:S j=false
 edges:∀e∈o.after.toList,Region.binds .any e=true->S e.on=true
def Et (R:wR P T ex lim ops ios st ft v) {j} {o} {io} (hr:Rdy ops ios S j o io)
  (a:∀i oi,S i=true->ops.toList[i]? =some oi->∀e∈oi.after.toList,Region.binds .any e=true->S e.on=true) {i} (hi:i<j):
  S i=true\/(((dU [] ops.toList).getD j 0).testBit i=false/\compat (ft i) (ft j)=true/\∀p,ios[i]? =some p->(∀d,p.dst=some d->io.dst≠some d/\d∉io.reads)/\∀d,io.dst=some d->d∉p.reads):=by
 cases hb:((dU [] ops.toList).getD j 0).testBit i with
 |true=>exact .inl (tE R.back (D:=fun i=>S i=true) a j o hr.hop hr.edges i hb)
 |false=>
  refine .inr ⟨rfl,(R.com j hr.c i hi).resolve_left (by rw[hb];simp),fun p hp=>?_⟩;exact(R.tmps j io hr.hio i p hi hp).resolve_left (by rw[hb];simp)
def Kx (R:wR P T ex lim ops ios st ft v) {j} {o} {io} (hr:Rdy ops ios S j o io)
  (a:∀i oi,S i=true->ops.toList[i]? =some oi->∀e∈oi.after.toList,Region.binds .any e=true->S e.on=true) {i} (hi:j<i) (b:i<ios.length) (f:S i=true):
  compat (ft j) (ft i)=true/\∀p,ios[i]? =some p->(∀d,io.dst=some d->p.dst≠some d/\d∉p.reads)/\∀d,p.dst=some d->d∉io.reads:=by
 obtain⟨g,oi,h1,h2,h⟩:=R.get b
 have hb:((dU [] ops.toList).getD i 0).testBit j=false:=by
  cases hb:((dU [] ops.toList).getD i 0).testBit j with
  |false=>rfl
  |true=>
   have:=tE R.back (D:=fun i=>S i=true) a i oi h2 (fun e he c=>a i oi f h2 e he c) j hb;simp only[hr.no]at this;cases this
 refine⟨(R.com i b j hi).resolve_left (by rw[hb];simp),fun p hp=>?_⟩;exact(R.tmps i p hp j io hi hr.hio).resolve_left (by rw[hb];simp)
def Pf (R:wR P T ex lim ops ios st ft v) {j} {o} {io} (hr:Rdy ops ios S j o io)
  (d:∀i oi,S i=true->ops.toList[i]? =some oi->∀e∈oi.after.toList,Region.binds .any e=true->S e.on=true) {t} (k:t∈io.reads):(tl ios st v S ios.length)[t]? =(st j).t[t]? :=by
 rw[tlB (j:=j) (gQ3 hr.c),tlA R (gQ3 hr.c)];intro i hi hd;rcases Et R hr d hi with h|⟨_,_,h⟩
 exact h;obtain⟨a,oi,h1,_,_⟩:=R.get (j:=i) (by have:=hr.c;omega);have b:a.dst=some t:=by simpa[qU,h1]using hd
 exact absurd k ((h a h1).1 t b).2;intro i hi f g hd;by_cases e:i=j;subst e;rw[hr.no]at g;cases g;obtain⟨a,oi,h1,_,_⟩:=R.get f;have b:a.dst=some t:=by simpa[qU,h1]using hd
 exact absurd k (((Kx R hr d (by omega) f g).2 a h1).2 t b)
def wO1 (R:wR P T ex lim ops ios st ft v) {j} {o} {io} (hr:Rdy ops ios S j o io)
  (f:∀i oi,S i=true->ops.toList[i]? =some oi->∀e∈oi.after.toList,Region.binds .any e=true->S e.on=true) (b:∀i,i≠j->S' i=S i) (l:S' j=true):
  tl ios st v S' ios.length=put (tl ios st v S ios.length) io.dst (v j):=by
 have hd:qU ios j=io.dst:=by simp[qU,hr.hio]
 rw[<-hd];refine tlC (fun i hi=>b i (by omega)) (fun i hi=>b i (by omega)) hr.no l hr.c (fun i hi a k t m h=>?_);obtain⟨d,oi,h1,_,_⟩:=R.get a;have g:d.dst=some t:=by simpa[qU,h1]using h
 exact(((Kx R hr f hi a k).2 d h1).1 t (hd.symm.trans m)).1 g
def mD1 (R:wR P T ex lim ops ios st ft v) {j} {o} {io} (hr:Rdy ops ios S j o io)
  (a:∀i oi,S i=true->ops.toList[i]? =some oi->∀e∈oi.after.toList,Region.binds .any e=true->S e.on=true) {id} {ao} (b:id∈(ft j).rd\/id∈(ft j).wr) (hl:look (st j).s.h id=some ao):
  jZ st ft S ios.length id=some ao:=by
 have k:=(R.wf (gQ3 hr.c)).lt hl;rw[Bo (j:=j) (gQ3 hr.c),Er R (gQ3 hr.c)];exact hl;intro i hi f;rcases Et R hr a hi with h|⟨_,h,_⟩
 exact h;obtain⟨c1,c2,c3,c4,c5,c6⟩:=gD h;simp only[zH,fW3,hX3,gL3,fO3]at f;rcases f with(f|f)|f;have:=mA1 c1 (Kv b);omega
 grind
 grind
 intro i hi d g;by_cases e:i=j;subst e;rw[hr.no]at g;cases g;obtain⟨c1,c2,c3,c4,c5,c6⟩:=gD (Kx R hr a (by omega) d g).1;simp only[zH,hN3,iI3,ne_eq,gL3,gO3];refine⟨⟨by have:=Iw c1 (Kv b);omega,fun h=>?_⟩,fun h=>?_⟩
 grind
 rw[R.al d]at h;have:=R.mono (i:=j) (j:=i) (by omega) (by omega);omega
def Eu (R:wR P T ex lim ops ios st ft v) {j} {o} {io} (hr:Rdy ops ios S j o io)
  (f:∀i oi,S i=true->ops.toList[i]? =some oi->∀e∈oi.after.toList,Region.binds .any e=true->S e.on=true) (l:∀i,i≠j->S' i=S i) (p:S' j=true) {id}
  (a:(id∈(ft j).wr/\id<(st j).s.n)\/id∈(ft j).al):jZ st ft S' ios.length id=look (st (j+1)).s.h id:=by
 rw[Bo (j:=j+1) hr.c]
 have:zH ft j id=true:=by
  simp only[zH,fW3,hX3,gL3,fO3];rcases a with⟨h,_⟩|h;exact .inl (.inr h);exact .inr h
 simp[jZ,p,this];intro i hi b d;have m:S i=true:=by rw[<-l i (by omega)];exact d
 obtain⟨c1,c2,c3,c4,c5,c6⟩:=gD (Kx R hr f (by omega) b m).1;simp only[zH,hN3,iI3,ne_eq,gL3,gO3];have k:=R.mono (i:=j+1) (j:=i) (by omega) (by omega);have hg:=(R.grows hr.c).n
 have g:(ft j).isE=false:=by
  rcases a with⟨a,_⟩|a;exact Kv (.inr a);exact Cr a
 refine⟨⟨by have:=Iw c1 g;omega,fun h=>?_⟩,fun h=>?_⟩
 grind
 rw[R.al b]at h;rcases a with⟨_,a⟩|a;omega;rw[R.al hr.c]at a;omega
def xK (R:wR P T ex lim ops ios st ft v) {j} {o} {io} (hr:Rdy ops ios S j o io)
  (g:∀i oi,S i=true->ops.toList[i]? =some oi->∀e∈oi.after.toList,Region.binds .any e=true->S e.on=true) (b:∀i,i≠j->S' i=S i) (k:S' j=true) {id} {ao}
  (hk:zH ft j id=true->id∈(ft j).wr/\look (st (j+1)).s.h id=look (st j).s.h id) (h:jZ st ft S' ios.length id=some ao):jZ st ft S ios.length id=some ao:=by
 refine uB1 (j:=j) (fun i hi=>b i (by omega)) (fun h0=>?_) hr.c h;have d:jZ st ft S (j+1) id=jZ st ft S j id:=by simp[jZ,hr.no]
 have f:jZ st ft S' j id=jZ st ft S j id:=Es (fun i hi=>b i (by omega));rw[d];cases ht:zH ft j id with
 |false=>
  simp only[jZ,ht,Bool.and_false,fR3,gT3,f]at h0;exact h0
 |true=>
  obtain⟨m,l⟩:=hk ht;simp only[jZ,ht,k,iE3,gF3,l]at h0;rw[Er R (gQ3 hr.c)];exact h0;intro i hi a;rcases Et R hr g hi with h|⟨_,h,_⟩
  exact h;obtain⟨c1,c2,c3,c4,c5,c6⟩:=gD h;simp only[zH,fW3,hX3,gL3,fO3]at a;rcases a with(a|a)|a
  grind
  grind
  grind
end
end Go.Sim
namespace Go.Sim
variable {a:Act} {base j n:Nat} {o:Oper}
section
variable {P:Program} {T:mO} {ex:Nat->Bool->IC->St->Option (Ex×St)} {lim:Nat} {ops:Array Oper} {ios:List Sim.Op1} {st:Nat->St} {ft:Nat->Foot} {v:Nat->AV} {S S':Nat->Bool} {r:Option Nat} {g0 g:Gh} {w0 w:World}
def Wm {o} {k} {os} {L} {m} {out} {a} (j:kR P o.op o.type=some (k,os)) (hg:iL P g lim w L m out (execOp a.eval o)) {next} {Q}
  (b:∀V g' w',VR g' out.v V->HR P g' (out.after L m) w'->WG g' w'->sU lim g g' w w'->(∀id,g'.ι id≠none->g.ι id≠none\/(id=m/\out.new.isSome))->next (a.put o.dst V) w'):
  o.wpIn (FW r) n P a w next Q:=by
 obtain⟨V,nx,g',w',d,e,hv,h,i,f,c⟩:=hg;refine⟨fun _ _=>trivial,?_⟩;rw[rQ _ (xH j),d];rcases e with rfl|⟨rfl,rfl⟩
 .exact b V g' w' hv h i f c
 .exact b undef g' w' hv h i f c
def Tz {k} {xs} (h1:∀f,k≠.callF f) (h2:k≠.callV):(foot T k xs).all=0:=by
 unfold foot
 split<;>first
  |rfl
  |exact absurd rfl (h1 _)
  |exact absurd rfl h2
def aA1 (v:qI P ex) (B:kJ P T) {k:iV} {os:aA Operand} {xs:aA AV} {x:AV} {s U:Hp} (D:(kR P o.op o.type).getD (.fail,[])=(k,os)) (h:step T ex lim k xs s=some (x,U)) (d:(foot T k xs).all=1)
  (E:TR g xs (os.map a.eval)) (A:oC P g w s) {next:Act->World->Prop} {Q:Exit->Act->World->Prop}
  (t:∀V g' w',VR g' x V->g'.ι=g.ι->WG g' w'->(∀b,b<w.heap.size->w'.heap[b]? =w.heap[b]?)->sU s.n g g' w w'->next (a.put o.dst V) w'):o.wpIn (FW r) n P a w next Q:=by
 have fin:∀e w',mJ P s.n g w s x s e w'->∃V,e=.returned V/\next (a.put o.dst V) w':=by
  rintro e w' ⟨V,g',rfl,S,M,K,Y⟩;refine⟨V,rfl,t V g' w' S ?_ M.W ?_ K⟩
  .funext id
   by_cases q:id<s.n
   .exact K.old id q
   .have h1:g.ι id=none:=by
     cases h:g.ι id with
     |none=>rfl
     |some l=>exact absurd (A.dom id (by rw[h];simp)) q
    have h2:g'.ι id=none:=by
     cases h:g'.ι id with
     |none=>rfl
     |some l=>exact absurd (M.dom id (by rw[h];simp)) q
    rw[h1,h2]
  .intro b hb
   exact K.keep b hb (fun id loc q hi=>by
    have:=A.dom id (by rw[hi];simp);omega)
 cases hco:kR P o.op o.type with
 |none=>
  rw[hco]at D;cases D;simp only[step,zO]at h;cases h
 |some p=>
  rw[hco]at D;cases D;unfold step at h;split at h
  .rename_i f
   obtain⟨c,L,h1,h2,G⟩:=qA hco (.inr ⟨f,rfl⟩);rcases G with⟨f',u,N,H⟩|⟨u,_⟩
   .cases u
    subst N;simp only[foot]at d;split at d
    .rename_i ifn j
     split at d
     .rename_i hp
      have m:TR g xs (#[]++c.args.map a.eval++#[]).toList:=by rw[H]at E;simpa using E
      exact uN B h1 h2 rfl j (Ed v B j hp h m A).2 fin
     .grind
    .cases d
   .cases u
  .obtain ⟨c,L,h1,h2,G⟩:=qA hco (.inl rfl)
   rcases G with⟨f',u,_⟩|⟨_,H⟩
   .cases u
   .subst H
    split at h
    .rename_i X args
     have z:=E.head;have m:=E.tail;unfold callV at h;simp only[foot]at d;split at h
     .rename_i f first cap
      generalize hV:a.eval L=V at z;cases z with
      |@fn _ _ _ _ F C l1 l2 v1 v2=>
       simp only at d;split at d
       .rename_i ifn j
        split at d
        .rename_i hp
         have R:TR g first F.toList:=⟨by simpa using l1,fun i x y J hy=>v1 i x y J (by simpa using hy)⟩
         have O:TR g cap C.toList:=⟨by simpa using l2,fun i x y J hy=>v2 i x y J (by simpa using hy)⟩
         have d:TR g (first++args++cap) (F++c.args.map a.eval++C).toList:=by
          have:=(R.app m).app O;simpa using this
         exact uN B h1 h2 hV j (Ed v B j hp h d A).2 fin
        .grind
       .cases d
     .grind
     .cases h
    .cases h
  .rename_i h1 h2
   exfalso;have:=Tz (T:=T) (xs:=xs) (fun f e=>h1 f e) (fun e=>h2 e);omega
def cov (R:wR P T ex lim ops ios st ft v) {id}:∀{j},j<=ios.length->(st 0).s.n<=id->id<(st j).s.n->∃i,i<j/\id∈(ft i).al
 |0,_,h1,h2=>by omega
 |j+1,hj,h1,h2=>by
  by_cases h:id<(st j).s.n
  obtain⟨i,hi,a⟩:=cov R (j:=j) (by omega) h1 h
  exact⟨i,by omega,a⟩
  exact⟨j,by omega,(R.al (by omega)).2 ⟨by omega,h2⟩⟩
def aB1 (R:wR P T ex lim ops ios st ft v) (f5:qI P ex) (hT:kJ P T) (d0:lim<=(st 0).s.n) {io:Sim.Op1} (hr:Rdy ops ios S j o io) (hco:mR P ops.toList o=some io)
    (u:mB1 P ops ios st ft v lim base g0 w0 S g a w) (z:∀i,i≠j->S' i=S i) (hj:S' j=true) {K:Act->World->Prop} {Q:Exit->Act->World->Prop} (hK:∀g' a' w',mB1 P ops ios st ft v lim base g0 w0 S' g' a' w'->K a' w'):
    wpOpIn (FW r) n P ops Q j K a w:=by
  have d:=u.closed;have i0:ops[j]? =some o:=by simpa using hr.hop
  unfold wpOpIn;rw[i0];simp only;obtain⟨os,c1,c2,c3,c4⟩:=qK hco
  have hw:Region.wanted o (yielded ops a.tmps)=Sim.wanted (st j).t io.guard:=by
    rw[Is u.t hco];refine Kw (fun i b hg=>Pf R hr d ?_);simp[Op1.reads,hg]
  have f4:evs (tl ios st v S ios.length) io.xs=evs (st j).t io.xs:=Ix (fun t q=>Pf R hr d (by
    simp only[Op1.reads,gK3,List.mem_filterMap];exact .inl ⟨.t t,q,rfl⟩))
  have b4:∀i oi,S' i=true->ops.toList[i]? =some oi->∀e∈oi.after.toList,Region.binds .any e=true->S' e.on=true:=by
    intro i oi hi g3 e he hb
    have up:∀i,S i=true->S' i=true:=fun i h=>by
      by_cases e:i=j;rw[e];exact hj;rw[z i e];exact h
    by_cases e1:i=j;subst e1;rw[hr.hop]at g3;cases g3;exact up _ (hr.edges e he hb);exact up _ (d i oi (by rw[<-z i e1];exact hi) g3 e he hb)
  have d6:∀{g'} {w'} {V},sU lim g g' w w'->kA base g' w' (a.put o.dst V).defers:=by
    intro g' w' V hE;have:(a.put o.dst V).defers=a.defers:=by cases o.dst<;>rfl
    rw[this];exact u.marks.ext hE
  have d8:∀{g'} {w'} {V},sU lim g g' w w'->VR g' (v j) V->TR g' (tl ios st v S' ios.length) (a.put o.dst V).tmps.toList:=by
    intro g' w' V hE hV;rw[wO1 R hr d z hj,c3];exact Tt (u.t.mono hE.le) hV o.dst
  have M:∀id,(id<(st 0).s.n\/∃i,i<ios.length/\S i=true/\id∈(ft i).al)->id<(st 0).s.n\/∃i,i<ios.length/\S' i=true/\id∈(ft i).al:=by
    rintro id (h|⟨i,h1,h2,y⟩);exact .inl h;refine .inr ⟨i,h1,?_,y⟩;by_cases e:i=j;rw[e];exact hj;rw[z i e];exact h2
  have f1:=R.mono (i:=0) (j:=j) (by omega) (gQ3 hr.c);obtain⟨s1,s2⟩:=R.step j io hr.hio;rw[hw];rcases s2 with⟨q1,q2,q3,q4⟩|⟨q1,xs,q2,q3,q4,q5,s2,q6⟩|⟨q1,xs,q2,q3,q4,q5⟩|⟨q1,xs,W,q2,q3,q4,q5⟩
  ·
    rw[q1];simp only[fR3,gT3];refine⟨fun _ _=>trivial,hK g _ w ⟨u.ext,u.W,fun id ao h=>?_,fun id h=>M id (u.dom id h),d8 (.refl lim g w) (by rw[q2];exact .undef g),d6 (.refl lim g w),b4⟩⟩;refine u.H id ao (xK R hr d z hj (fun q=>?_) h);rw[zH,q3]at q;simp at q
  ·
    rw[q1];simp only[gF3];have b7:=tA u.t c2 (f4.trans q2);have f6:=(xJ T io.k xs).2 (by omega)
    have O:∀id ao,look (hide (unseen ((dU [] ops.toList).getD j 0) j (iT ft j)) (st j).s.h) id=some ao->jZ st ft S ios.length id=some ao:=by
      intro id ao h;obtain⟨h1,h2⟩:=zQ _ (R.wf (gQ3 hr.c)) h;have B:=(R.wf (gQ3 hr.c)).lt h1;rw[Bo (j:=j) (gQ3 hr.c),Er R (gQ3 hr.c)];exact h1;intro i hi q;rcases Et R hr d hi with h|⟨hb,h,_⟩
      exact h;obtain⟨c1,c2,c3,c4,c5,c6⟩:=gD h;simp only[zH,fW3,hX3,gL3,fO3]at q;have d2:(ft j).all=1:=by rw[q4];exact q3
      rcases q with(q|q)|q;have:=mA1 c1 (tG (by omega));omega;rw[c6.resolve_left (by omega)]at q;simp at q;exact absurd (rT i hi hb q) h2;intro i hi A G;by_cases e:i=j;subst e;rw[hr.no]at G;cases G;obtain⟨c1,c2,c3,c4,c5,c6⟩:=gD (Kx R hr d (by omega) A G).1;have d2:(ft j).all=1:=by rw[q4];exact q3
      simp only[zH,hN3,iI3,ne_eq,gL3,gO3];refine⟨⟨by have:=Iw c1 (tG (by omega));omega,fun h=>?_⟩,fun h=>?_⟩;rw[c5.resolve_left (by omega)]at h;simp at h;rw[R.al A]at h;have:=R.mono (i:=j) (j:=i) (by omega) (by omega);omega
    obtain⟨N,s2,i5,i6,q6⟩:∃N s2,(st j).s.n<=N/\(∀id,g.ι id≠none->id<N)/\step T ex lim io.k xs {h:=hide (unseen ((dU [] ops.toList).getD j 0) j (iT ft j)) (st j).s.h,n:=N}=some (v j,s2):=by
     cases hxf:(foot T io.k xs).x with
     |true=>
      obtain⟨s3,j6⟩:=eR1 q6 q3 hxf (st ios.length).s.n;refine⟨(st ios.length).s.n,s3,R.mono (gQ3 hr.c) (fI3 _),fun id h=>?_,j6⟩;rcases u.dom id h with h1|⟨i,h1,h2,y⟩
      exact gN3 h1 (R.mono (gU3 _) (fI3 _));rw[R.al h1]at y;exact gN3 y.2 (R.mono h1 (fI3 _))
     |false=>
      refine⟨(st j).s.n+rsv (ios.length-j),s2,by omega,fun id h=>?_,q6⟩;rcases u.dom id h with h1|⟨i,h1,h2,y⟩
      have:=hr.c;omega;have f8:=Cr y;have d2:(ft j).isE=false:=tG (by rw[show(ft j).all=1 by rw[q4];exact q3];decide);rw[R.al h1]at y;by_cases d4:i<j;have:=R.mono (i:=i+1) (j:=j) (by omega) (gQ3 hr.c);omega
      have d5:j<i:=by
        rcases iC3 j i with h|h;exact h;have:i=j:=by omega
        subst this;rw[hr.no]at h2;cases h2
      have h8:∀k,j<=k->k<=i->(st (k+1)).s.n<=(st j).s.n+rsv (k-j):=by
        intro k
        induction k with
        |zero=>
          intro hk _;have:j=0:=by omega
          subst this;rw[q5];omega
        |succ k ih=>
          intro hk k8;by_cases e:j=k+1;subst e;rw[q5];omega;have l2:=ih (by omega) (by omega);have g9:k+1<ios.length:=by omega
          have j0:(ft (k+1)).all<=1:=by
            by_cases e2:k+1=i;have:=Iw (gD (Kx R hr d d5 h1 h2).1).1 d2;rw[e2];omega
            ·
              rcases iC3 1 (ft (k+1)).all with j8|hok;exfalso;obtain⟨l3,oi,i1,i2,i3⟩:=R.get h1
              have hb:((dU [] ops.toList).getD i 0).testBit (k+1)=true:=by
                rcases R.com i h1 (k+1) (by omega)with h|h;exact h;have:=mA1 (gD h).1 f8;omega
              have i7:S (k+1)=true:=tE R.back (D:=fun i=>S i=true) d i oi i2 (fun e he j2=>d i oi h2 i2 e he j2) (k+1) hb;have:=Iw (gD (Kx R hr d (by omega) g9 i7).1).1 d2;omega;exact hok
          obtain⟨g6,ok,k1,k2,k3⟩:=R.get g9;obtain⟨_,t2⟩:=R.step (k+1) g6 k1;have l0:rsv (k+1-j)=rsv (k-j)+1048576:=by rw[Nat.succ_sub (by omega),eM1]
          rcases t2 with⟨_,_,_,t3⟩|⟨_,xs',_,_,_,t3,_⟩|⟨_,xs',_,t3,t4,t5⟩|⟨_,xs',W',_,_,_,t3⟩
          rw[t3];omega;rw[t3];omega
          have e0:(foot T g6.k xs').all=0:=by
            have:(ft (k+1)).all=(foot T g6.k xs').all:=by rw[t4]
            have:=t3.1;omega
          obtain⟨out,_,_,hs⟩:=vV t5 e0;rw[hs,uP];split<;>omega;obtain⟨_,s',w,_,_,_,e3,_,_,_,_,_,e4⟩:=rP t3
          have e4:=e4 (by
            unfold nbF;rw[List.all_eq_false];refine⟨ft j,Pa (by omega),?_⟩;have:(ft j).x=false:=by rw[q4];exact hxf
            rw[this,show(ft j).all=1 by rw[q4];exact q3];decide)
          rw[e3];simp only;omega
      have:=h8 i (by omega) (fI3 _);have:=wJ1 (a:=i-j) (b:=ios.length-j) (by omega);omega
    have b0:oC P g w {h:=hide (unseen ((dU [] ops.toList).getD j 0) j (iT ft j)) (st j).s.h,n:=N}:=
      ⟨fun id ao h=>u.H id ao (O id ao h),u.W,i6,((R.wf (gQ3 hr.c)).hide _).mono i5⟩
    refine aA1 f5 hT c1 q6 q3 b7 b0 (fun V g' w' k1 k2 k3 k4 k5=>hK g' _ w' ?_);have hE:sU lim g g' w w':=k5.mono (by simp only;have:=hr.c;omega);refine⟨u.ext.trans hE,k3,fun id ao h=>?_,fun id h=>M id (u.dom id (by rw[<-k2];exact h)),d8 hE k1,d6 hE,b4⟩
    have h1:=xK R hr d z hj (id:=id) (ao:=ao) (fun q=>by
      rw[zH,q4]at q;rw[q3,f6.2,Wl]at q;simp at q) h
    exact(u.H id ao h1).mono hE.le (by rw[k2]) (fun loc hl=>k4 _ (u.W.lt id loc hl))
  rw[q1];simp only[gF3];have b7:=tA u.t c2 (f4.trans q2);by_cases e0:(foot T io.k xs).all=0
  ·
    obtain⟨out,ho,hv,hs⟩:=vV q5 e0
    have j3:∀id ao,id∈(foot T io.k xs).rd\/id∈(foot T io.k xs).wr->look (st j).s.h id=some ao->jZ st ft S ios.length id=some ao:=by
      intro id ao f hl;refine mD1 R hr d ?_ hl;rw[q4];exact f
    have f0:doOp (jZ st ft S ios.length) lim (st j).s.n io.k xs=some out:=Tw (T:=T) ho j3;have hn:=uP out (st j).s;rw[<-hs]at hn;have J:∀id,look (st (j+1)).s.h id=out.after (look (st j).s.h) (st j).s.n id:=fun id=>by rw[hs];exact Eo (fun i ob hu=>(xI (T:=T) ho hu).2) id
    have E:∃g7,kR P o.op o.type=some (io.k,g7)/\g7=os:=by
      cases hc:kR P o.op o.type with
      |none=>
        rw[hc]at c1;simp only[Option.getD_none,gD3]at c1;rw[<-c1.1,zO]at ho;cases ho
      |some p=>rw[hc]at c1;exact⟨os,by rw[<-c1];rfl,rfl⟩
    obtain⟨g7,E,rfl⟩:=E
    have fin:∀m V g' w',(out.new.isSome=true->m=(st j).s.n)->VR g' out.v V->HR P g' (out.after (jZ st ft S ios.length) m) w'->WG g' w'->sU lim g g' w w'->
        (∀id,g'.ι id≠none->g.ι id≠none\/(id=m/\out.new.isSome))->K (a.put o.dst V) w':=by
      intro m V g' w' hm k1 k2 k3 k4 k5;refine hK g' _ w' ⟨u.ext.trans k4,k3,fun id ao h=>k2 id ao ?_,fun id h=>?_,d8 k4 (by rw[hv];exact k1),d6 k4,b4⟩
      ·
        have d3:id∈(ft j).al↔(st j).s.n<=id/\id<(st (j+1)).s.n:=R.al hr.c;have e8:(ft j).wr=(foot T io.k xs).wr:=by rw[q4]
        have j7:(ft j).all=0:=by rw[q4];exact e0
        have b5:(∀i ob,out.up=some (i,ob)->id≠i)->(out.new.isSome=true->id≠(st j).s.n)->jZ st ft S ios.length id=some ao:=by
          intro h1 h2;refine xK R hr d z hj (fun q=>?_) h
          have h0:id∉(ft j).al:=by
            rw[d3,hn];cases hnew:out.new with
            |none=>simp
            |some ob=>
              have:=h2 (by rw[hnew];rfl);simp;omega
          refine⟨?_,?_⟩;simp only[zH,fW3,hX3,gL3,fO3]at q;rcases q with(q|q)|q;omega;exact q;exact absurd q h0;rw[J id];unfold Out.after Out.base;cases hnew:out.new with
          |none=>
            simp only;cases hu:out.up with
            |none=>rfl
            |some p=>
              obtain⟨i,ob⟩:=p;simp only;rw[fM3 (h1 i ob hu)]
          |some ob'=>
            simp only;rw[fM3 (h2 (by rw[hnew];rfl))];cases hu:out.up with
            |none=>rfl
            |some p=>
              obtain⟨i,ob⟩:=p;simp only;rw[fM3 (h1 i ob hu)]
        by_cases U:out.new.isSome=true/\id=(st j).s.n;obtain⟨h1,h2⟩:=U;have hl:=Eu R hr d z hj (id:=id) (.inr (by rw[d3,hn,h1];simp;omega));rw[hl,J id]at h;rw[<-h,hm h1];unfold Out.after;cases hnew:out.new with
        |none=>rw[hnew]at h1;cases h1
        |some ob=>simp only;rw[fJ3 h2,fJ3 h2]
        by_cases Y:∃ob,out.up=some (id,ob);obtain⟨ob,hu⟩:=Y;obtain⟨u1,u2⟩:=xI (T:=T) ho hu;have g5:∃d9,look (st j).s.h id=some d9:=Option.isSome_iff_exists.1 u2;obtain⟨d9,g8⟩:=g5;have B:=(R.wf (gQ3 hr.c)).lt g8;have hl:=Eu R hr d z hj (id:=id) (.inl ⟨by rw[e8];exact u1,B⟩);rw[hl,J id]at h;rw[<-h];unfold Out.after Out.base;cases hnew:out.new with
        |none=>simp only[hu,gF3]
        |some ob'=>
          have:=hm (by rw[hnew];rfl);simp only[hu,gF3];rw[fM3 (by omega),fM3 (by omega)]
        have L:=b5 (fun i ob hu e=>Y ⟨ob,by rw[e];exact hu⟩) (fun h1 e=>U ⟨h1,e⟩);unfold Out.after Out.base;cases hnew:out.new with
        |none=>
          simp only;cases hu:out.up with
          |none=>exact L
          |some p=>
            obtain⟨i,ob⟩:=p;simp only;rw[fM3 (fun e=>Y ⟨ob,by rw[e];exact hu⟩)];exact L
        |some ob'=>
          simp only;rw[fM3 (fun e=>U ⟨by rw[hnew];rfl,by rw[e];exact hm (by rw[hnew];rfl)⟩)];cases hu:out.up with
          |none=>exact L
          |some p=>
            obtain⟨i,ob⟩:=p;simp only;rw[fM3 (fun e=>Y ⟨ob,by rw[e];exact hu⟩)];exact L
      rcases k5 id h with h1|⟨h1,h2⟩
      exact M id (u.dom id h1);refine .inr ⟨j,hr.c,hj,?_⟩;rw[R.al hr.c,hn,h2,h1,hm h2];simp
    cases hnew:out.new with
    |none=>
      have g1:doOp (jZ st ft S ios.length) lim (st ios.length).s.n io.k xs=some out:=wL1 f0 hnew
      have f7:g.ι (st ios.length).s.n=none:=by
        cases h:g.ι (st ios.length).s.n with
        |none=>rfl
        |some l=>
          rcases u.dom _ (by rw[h];simp)with h1|⟨i,h1,h2,y⟩
          have:=R.mono (i:=0) (j:=ios.length) (by omega) (fI3 _);omega;rw[R.al h1]at y;have:=R.mono (i:=i+1) (j:=ios.length) (by omega) (fI3 _);omega
      have j4:lim<=(st ios.length).s.n:=gH3 d0 (R.mono (by omega) (fI3 _));exact Wm E (vQ a.eval o E b7 g1 u.H u.W f7 j4) (fun V g' w'=>fin _ V g' w' (fun h=>by rw[hnew]at h;cases h))
    |some ob=>
      have f7:g.ι (st j).s.n=none:=by
        cases h:g.ι (st j).s.n with
        |none=>rfl
        |some l=>
          rcases u.dom _ (by rw[h];simp)with h1|⟨i,h1,h2,y⟩
          omega;rw[R.al h1]at y;rw[hnew]at hn;simp only[iJ3,gF3]at hn;by_cases d4:i<j;have:=R.mono (i:=i+1) (j:=j) (by omega) (gQ3 hr.c);omega;by_cases e:i=j;subst e;rw[hr.no]at h2;cases h2;have:=R.mono (i:=j+1) (j:=i) (by omega) (by omega);omega
      exact Wm E (vQ a.eval o E b7 f0 u.H u.W f7 (gH3 d0 f1)) (fun V g' w'=>fin _ V g' w' (fun _=>rfl))
  ·
    have h2:(ft j).all=2:=by
      have:=(xJ T io.k xs).1;rw[q4];have:=q3.1;have:=q3.2;show(foot T io.k xs).all=2
      omega
    have b8:∀i,i<j->S i=true\/(ft i).isE=true:=by
      intro i hi;rcases Et R hr d hi with h|⟨_,h,_⟩
      exact .inl h;rcases(gD h).1 with h|h|h;omega;exact .inr h;have:=(lY h).2.2.2;omega
    have b6:∀i,j<=i->i<ios.length->S i=false\/(ft i).isE=true:=by
      intro i hi A;cases G:S i with
      |false=>exact .inl rfl
      |true=>
        by_cases e:i=j;subst e;rw[hr.no]at G;cases G;rcases(gD (Kx R hr d (by omega) A G).1).1 with h|h|h;omega;have:=(lY h).2.2.2;omega;exact .inr h
    have f2:∀id,jZ st ft S ios.length id=look (st j).s.h id:=by
      intro id
      rw[Bo (j:=j) (gQ3 hr.c) (fun i hi A G=>by
        rcases b6 i hi A with C|C;rw[C]at G;cases G;exact wN1 C),Er R (gQ3 hr.c) (fun i hi q=>by
        rcases b8 i hi with C|C;exact C;rw[wN1 C]at q;cases q)]
    have b0:oC P g w (st j).s:=by
      refine⟨fun id ao h=>u.H id ao (by rw[f2];exact h),u.W,fun id h=>?_,R.wf (gQ3 hr.c)⟩;rcases u.dom id h with h1|⟨i,h1,y,Z⟩
      omega;have f8:=Cr Z;rw[R.al h1]at Z;by_cases d4:i<j;have:=R.mono (i:=i+1) (j:=j) (by omega) (gQ3 hr.c);omega;rcases b6 i (by omega) h1 with C|C;rw[C]at y;cases y;rw[f8]at C;cases C
    refine Ks f5 hT c1 q5 b7 b0 (gH3 d0 f1) (fun V g' w' k1 k2 k3 k4=>hK g' _ w' ⟨u.ext.trans k3,k2.W,fun id ao h=>k2.H id ao ?_,fun id h=>?_,d8 k3 k1,d6 k3,b4⟩)
    rw[Bo (j:=j+1) hr.c (fun i hi A G=>by
      rcases b6 i (by omega) A with C|C;rw[z i (by omega),C]at G;cases G;exact wN1 C)]at h
    have q:zH ft j id=true:=by simp[zH,h2]
    simp only[jZ,hj,q,iE3,gF3]at h;exact h;have B:=k2.dom id h;by_cases f9:id<(st 0).s.n;exact .inl f9;obtain⟨i,hi,y⟩:=cov R (j:=j+1) hr.c (by omega) B;refine .inr ⟨i,by have:=hr.c;omega,?_,y⟩;by_cases e:i=j;rw[e];exact hj;rw[z i e];rcases b8 i (by omega)with C|C;exact C;rw[Cr y]at C;cases C
  ·
    rw[q1];simp only[gF3];have b7:=tA u.t c2 (f4.trans q2);have d2:(ft j).all=1:=by rw[q4]
    have e8:(ft j).wr=W:=by rw[q4]
    obtain⟨f,s',wl,d7,k1,k2,k3,k4,k5,k6,k7,k9,_⟩:=rP q5;have F:=R.wf (gQ3 hr.c)
    have b9:∀i,i<ios.length->S i=true->¬i<j->(ft i).wr=[]/\(∀id,id∈(ft i).al->(st (j+1)).s.n<=id)/\(ft i).all≠2:=by
      intro i A G d4
      have d5:j<i:=by
        rcases iC3 j i with h|h;exact h;have:i=j:=by omega
        subst this;rw[hr.no]at G;cases G
      obtain⟨e1,e2,e3,e4,e5,e6⟩:=gD (Kx R hr d d5 A G).1;refine⟨e5.resolve_left (by omega),fun id h=>?_,by have:=Iw e1 (tG (by omega));omega⟩;rw[R.al A]at h;have:=R.mono (i:=j+1) (j:=i) (by omega) (by omega);omega
    have k0:=(R.grows hr.c).n
    have g4:∀id,nT f (st j).s.n id=true->id<(st j).s.n/\id∉f:=by
      intro id h;simp only[nT,fF3,fX3,gL3,gO3]at h;exact⟨by simpa[hR3]using h.1,h.2⟩
    have e9:∀id,id∉f->id<(st j).s.n->jZ st ft S ios.length id=look (st j).s.h id:=by
      intro id j5 B;rw[Bo (j:=j) (gQ3 hr.c),Er R (gQ3 hr.c)];intro i hi q;rcases Et R hr d hi with h|⟨hb,h,_⟩
      exact h;obtain⟨e1,e2,e3,e4,e5,e6⟩:=gD h;simp only[zH,fW3,hX3,gL3,fO3]at q;rcases q with(q|q)|q;have:=mA1 e1 (tG (by omega));omega;rw[e6.resolve_left (by omega)]at q;simp at q;exact absurd (d7 _ (rT i hi hb q)) j5;intro i hi A G;obtain⟨e1,e2,e3⟩:=b9 i A G (by omega);simp only[zH,hN3,iI3,ne_eq,gL3,gO3];refine⟨⟨e3,fun h=>?_⟩,fun h=>?_⟩;rw[e1]at h;simp at h;have:=e2 id h;omega
    have O:∀id ao,look (hide f (st j).s.h) id=some ao->jZ st ft S ios.length id=some ao/\nT f (st j).s.n id=true:=by
      intro id ao h;obtain⟨h1,h2⟩:=zQ _ F h;have B:=F.lt h1;refine⟨(e9 id h2 B).trans h1,?_⟩;simp only[nT,fF3,fX3,gL3,gO3];exact⟨by simpa[hR3]using B,h2⟩
    have hιp:∀id,nT f (st j).s.n id=true->(g.only (nT f (st j).s.n)).ι id=g.ι id:=fun id h=>Gh.only_pos h
    have b0:oC P (g.only (nT f (st j).s.n)) w {h:=hide f (st j).s.h,n:=(st j).s.n}:=by
      refine⟨fun id ao h=>?_,u.W.only,fun id h=>?_,F.hide _⟩;obtain⟨h1,h2⟩:=O id ao h;exact(u.H id ao h1).names (g:=g) (g2:=g.only _) rfl hιp (hιp id h2) (pZ k5 id ao h);simp only[Gh.only]at h;split at h;rename_i hp;exact(g4 id hp).1;exact absurd rfl h
    refine Ks (s':=s') f5 hT c1 k1 (TR.names (g:=g) (g2:=g.only _) rfl hιp k6 b7) b0 (gH3 d0 f1) (fun V g' w' m1 m2 m3 m4=>?_);obtain⟨hE,i9⟩:=eN1 m3 u.W m2.W
    have hqι:∀id,xF f (st j).s.n s'.n id=true->(g.back g' (nT f (st j).s.n) (st j).s.n).ι id=g'.ι id:=by
      intro id h;simp only[xF,fW3,fF3]at h;rcases h with h|⟨h1,h2⟩
      exact xG h;have h1:=fK3 h1;have h2:id<s'.n:=by simpa[hR3]using h2
      simp only[Gh.back];split;rename_i hc;exfalso;rcases u.dom id (hc.2.resolve_left (by omega))with y|⟨i,y,Z,h5⟩
      omega;by_cases d4:i<j;rw[R.al y]at h5;have:=R.mono (i:=i+1) (j:=j) (by omega) (gQ3 hr.c);omega;have h6:=(b9 i y Z d4).2.1 id h5;rw[k3]at h6;simp only at h6;omega;rfl
    have l1:(st (j+1)).s.n=s'.n:=by rw[k3]
    refine hK (g.back g' (nT f (st j).s.n) (st j).s.n) _ w' ⟨u.ext.trans hE,i9,fun id ao h=>?_,fun id h=>?_,d8 hE (VR.names (g:=g') (g2:=g.back g' _ _) rfl hqι k7 m1),d6 hE,b4⟩;have d3:id∈(ft j).al↔(st j).s.n<=id/\id<(st (j+1)).s.n:=R.al hr.c;by_cases q:(id∈W/\id<(st j).s.n)\/id∈(ft j).al
    ·
      have h1:=Eu R hr d z hj (id:=id) (by rw[e8];exact q);rw[h1,k3]at h;simp only at h
      have hq:xF f (st j).s.n s'.n id=true:=by
        rcases q with⟨h2,y⟩|h2;obtain⟨e,he,rfl⟩:=iS3.1 (k4 ▸ h2);have Z:=changed_mem (F.hide f) k2 e he;obtain⟨d9,h5⟩:=Option.isSome_iff_exists.1 Z.2;have:=(O e.1 d9 h5).2;simp only[xF,this,jI3];rw[d3]at h2;have a1:Nat.ble (st j).s.n id=true:=Nat.ble_eq_true_of_le h2.1;have a2:Nat.blt id s'.n=true:=by simp only[hR3];omega
        simp only[xF,a1,a2,iE3,Bool.or_true]
      rcases Ee (m2.wf) h with⟨h2,y,Z⟩|h2;exact(m2.H id ao y).names (g:=g') (g2:=g.back g' _ _) rfl hqι (hqι id hq) Z;rcases look_updAll _ _ _ _ h2 with⟨y,Z⟩|y;exfalso;rw[<-k4]at Z;rcases q with⟨h5,_⟩|h5;exact Z h5;rw[d3]at h5;have:=F.lt y;omega;exact(m2.H id ao ((changed_spec k2).2 _ y)).names (g:=g') (g2:=g.back g' _ _) rfl hqι (hqι id hq) (by have:=fH3.1 k9 _ y;exact this)
    have h1:jZ st ft S ios.length id=some ao:=xK R hr d z hj (fun X=>by
      exfalso;simp only[zH,d2,e8,fW3,gL3,fO3]at X;rcases X with(X|X)|X;cases X;obtain⟨e,he,rfl⟩:=iS3.1 (k4 ▸ X);exact q (.inl ⟨X,(changed_mem (F.hide f) k2 e he).1⟩);exact q (.inr X)) h
    cases hp:nT f (st j).s.n id with
    |true=>
      obtain⟨h2,y⟩:=g4 id hp;have Z:look (hide f (st j).s.h) id=some ao:=by rw[xE f y,<-e9 id y h2];exact h1
      have h5:id∉wl.map (·.1):=fun h6=>q (.inl ⟨by rw[k4];exact h6,h2⟩);exact(m2.H id ao ((changed_spec k2).1 id ao Z h5)).names (g:=g') (g2:=g.back g' _ _) rfl hqι (xG hp) (Ts (fun i h=>by simp only[xF,h,jI3]) (pZ k5 id ao Z))
    |false=>
      have h2:=u.H id ao h1;have y:g.ι id≠none:=h2.some;refine h2.mono hE.le (Eg hp y) (fun loc hl=>m3.keep _ (u.W.lt id loc hl) (fun id' loc' j9 e7 e=>?_));simp only[Gh.only]at e7;split at e7;rename_i i4;have:=u.W.inj id' id loc' loc e7 hl e;subst this;rw[hp]at i4;cases i4;cases e7
    by_cases hg:g.ι id=none
    have h2:g'.ι id≠none:=by
      simp only[Gh.back]at h;split at h;exact absurd hg h;exact h
    have y:id<s'.n:=m2.dom id h2;by_cases f9:id<(st 0).s.n;exact .inl f9;by_cases B:id<(st j).s.n;obtain⟨i,hi,Z⟩:=cov R (gQ3 hr.c) (by omega) B;rcases Et R hr d hi with h5|⟨hb,_,_⟩
    refine .inr ⟨i,by have:=hr.c;omega,?_,Z⟩;rw[z i (by omega)];exact h5;have h6:id∈f:=d7 _ (rT i hi hb Z)
    have h7:nT f (st j).s.n id=false:=by
      cases hp:nT f (st j).s.n id with
      |false=>rfl
      |true=>exact absurd h6 (g4 id hp).2
    exfalso;simp only[Gh.back]at h;rw[fJ3 ⟨h7,.inl B⟩]at h;exact h hg;refine .inr ⟨j,hr.c,hj,?_⟩;rw[R.al hr.c];omega;exact M id (u.dom id hg)
end
end Go.Sim
namespace Go.Sim
variable {base n:Nat}
section
variable {P:Program} {T:mO} {ex:Nat->Bool->IC->St->Option (Ex×St)} {lim:Nat} {ops:Array Oper} {ios:List Sim.Op1} {st:Nat->St} {ft:Nat->Foot} {v:Nat->AV} {r:Option Nat} {g0:Gh} {w0:World}
def gY (a:Array Bool) (i:Nat):Bool:=a.getD i false
def Ev (a:Array Bool) (i j:Nat) (h:j<a.size):gY (a.setIfInBounds j true) i=if i=j then true else gY a i:=by
 unfold gY;by_cases e:i=j;subst e;simp[h];simp[e,Array.getElem?_setIfInBounds_ne (Ne.symm e)]
def eT1 (R:wR P T ex lim ops ios st ft v) (q:qI P ex) (C:kJ P T) (l:lim<=(st 0).s.n) {Q}
  (hQ:∀(S:Nat->Bool) g a w,(∀i,i<ios.length->S i=true)->mB1 P ops ios st ft v lim base g0 w0 S g a w->Q .normal a w):
  ∀fuel b g a w,b.size=ops.size->b.toList.count false<=fuel->mB1 P ops ios st ft v lim base g0 w0 (gY b) g a w->wpAnyIn (FW r) n P .any ops Q fuel b a w:=by
 have E:=R.size
 have f:∀b,b.size=ops.size->Region.ready .any ops b=[]->∀i,i<ios.length->gY b i=true:=by
  intro b hl hr i
  induction i using Nat.strongRecOn with
  |_ i ih=>
   intro hi;cases h:gY b i with
   |true=>rfl
   |false=>
    exfalso;obtain⟨io,o,h1,h2,z⟩:=R.get hi
    have A:i∈Region.ready .any ops b:=by
     rw[mem_ready];have c:i<b.size:=by omega
     refine⟨by simp only[gY]at h;simp[c]at h ⊢;exact h,o,by simpa using h2,fun e he hb=>?_⟩;have x:=R.back i o h2 e (by simpa using he) hb;exact ih e.on x (by omega)
    rw[hr]at A;cases A
 intro fuel
 induction fuel with
 |zero=>
  intro b g a w hl hc m
  have d:∀i,i<ios.length->gY b i=true:=by
   intro i hi;have c:i<b.size:=by omega
   have k:b.toList.count false=0:=by omega
   rw[List.count_eq_zero]at k;cases h:gY b i with
   |true=>rfl
   |false=>
    exfalso;apply k;simp only[gY]at h;simp[c]at h;rw[<-h];simp
  refine⟨?_,hQ _ g a w d m⟩;rw[List.eq_nil_iff_forall_not_mem];intro i hi;rw[mem_ready]at hi;obtain⟨h1,o,h2,_⟩:=hi;have t:i<ops.size:=(gI3.1 h2).1;have:=d i (by omega);have c:i<b.size:=by omega
  simp only[gY]at this;simp[c]at h1 this;rw[h1]at this;cases this
 |succ fuel ih=>
  intro b g a w hl hc m;refine⟨fun hr=>hQ _ g a w (f b hl hr) m,fun i hi=>?_⟩;rw[mem_ready]at hi;obtain⟨h1,o,h2,z⟩:=hi;have t:i<ops.size:=(gI3.1 h2).1;have c:i<b.size:=by omega
  obtain⟨io,o',F,G,H⟩:=R.get (j:=i) (by omega);have:o'=o:=by grind
  subst this
  have y:gY b i=false:=by
   simp only[gY];simp[c]at h1 ⊢;exact h1
  have hr:Rdy ops ios (gY b) i o' io:=⟨G,F,by omega,y,fun e he hb=>z e (by simpa using he) hb⟩
  refine aB1 (S':=gY (b.setIfInBounds i true)) R q C l hr H m (fun j D=>by rw[Ev _ _ _ c,fM3 D]) (by rw[Ev _ _ _ c,fJ3 rfl]) (fun g' a' w' p=>?_);refine ih _ g' a' w' (by simpa using hl) ?_ p;have B:(b.setIfInBounds i true).toList=b.toList.set i true:=by simp
  have u:b.toList[i]'(by simpa using c)=false:=by simp_all
  rw[B,List.count_set (by simpa using c),u,fJ3 (by rfl),fM3 (by decide)];omega
def mE1 (K:kJ P T) (y:P.follows .mixedOrders=true) {ex} (A:qI P ex) (B:rR ex):Ty P T ex:=by
 intro lim ops ios σ E fs id hc l z k r g a w n base O f hl hb M;obtain⟨st,ft,v,_,q,x,D,J⟩:=Pb ios 0 σ (fun _=>{}) E fs z;simp only[hD3]at x D J;have hlen:fs.length=ios.length:=by rw[D,revF_length]
 rw[D,revF_length]at k;simp only[dL1,fF3,fH3]at l;obtain⟨r1,r2⟩:=l
 have R:wR P T ex lim ops ios st ft v:=by
  refine⟨hc,fun j o C e he L=>?_,fun j o C i p hi hp=>?_,J,Bn k,B,by rw[q];exact f.wf⟩;have:=r1 (o,j) (by rw[fQ3];exact⟨j,by simp[C]⟩);simp only[fH3,fW3,fX3,fO3]at this;rcases this e he with h|h
  grind
  exact h;have:=r2 (o,j) (by rw[fQ3];exact⟨j,by simp[C]⟩);have h:=Bm this i p hp (by omega);rw[hD3]at h;exact h
 have N:=R.size;refine wpIn_region_any y ?_;have hw:oC P g {w with drawn:=w.drawn+1} σ.s:=⟨fun id ao h=>(f.H id ao h).mono (.refl g) rfl (fun _ _=>rfl),⟨f.W.still,f.W.lt,f.W.out,f.W.inj⟩,f.dom,f.wf⟩
 have F:sU lim g g w {w with drawn:=w.drawn+1}:=⟨.refl g,fI3 _,fun _ _ _=>rfl,fun id loc h=>.inl ⟨loc,h,rfl⟩,fun _ _=>rfl,rfl,rfl,rfl,fun _ _ h=>.inl h,fun _ R h=>⟨R,h⟩⟩
 refine eT1 (base:=base) (g0:=g) (w0:=w) R A K (by rw[q];exact hl) ?_ ops.size (Array.replicate ops.size false) g a _ (by simp) (by simp) ?_;intro S g' a' w' G u;refine⟨rfl,g',?_⟩
 have b:∀id,jZ st ft S ios.length id=look E.s.h id:=fun id=>by
  rw[Er R (fI3 _) (fun i hi _=>G i hi),x]
 have m:tl ios st v S ios.length=E.t:=by
  rw[<-x];exact jD3 (fun t=>tlA R (fI3 _) (fun i hi _=>G i hi))
 have d:=R.mono (i:=0) (j:=ios.length) (by omega) (fI3 _);rw[q,x]at d;refine⟨by rw[<-m];exact u.t,⟨fun id ao h=>u.H id ao (by rw[b];exact h),u.W,fun id h=>?_,by have:=R.wf (fI3 ios.length);rw[x]at this;exact this⟩,u.ext,d,u.marks⟩;rcases u.dom id h with h1|⟨i,h1,h2,h3⟩
 rw[q]at h1;omega;rw[R.al h1]at h3;have:=R.mono (i:=i+1) (j:=ios.length) (by omega) (fI3 _);rw[x]at this;omega
 have c:∀i,gY (Array.replicate ops.size false) i=false:=by
  intro i;simp only[gY];by_cases h:i<ops.size;simp[h];simp[h]
 have b:∀id,jZ st ft (gY (Array.replicate ops.size false)) ios.length id=look σ.s.h id:=by
  intro id;rw[Bo (j:=0) (by omega) (fun i _ _ h=>by rw[c i]at h;cases h),<-q];rfl
 have m:tl ios st v (gY (Array.replicate ops.size false)) ios.length=σ.t:=by
  rw[<-q];have h2:∀t,(tl ios st v (gY (Array.replicate ops.size false)) ios.length)[t]? =(tl ios st v (gY (Array.replicate ops.size false)) 0)[t]? :=fun t=>tlB (by omega) (fun i _ _ h=>by rw[c i]at h;cases h);exact jD3 h2
 exact⟨F,hw.W,fun id ao h=>hw.H id ao (by rw[<-b];exact h),fun id h=>.inl (by rw[q];exact hw.dom id h),by rw[m];exact O,M.ext F,fun i oi h=>by rw[c i]at h;cases h⟩
def Ew (b:kJ P T) (a:P.follows .mixedOrders=true) (d:Nat):qI P (exec T d):=lZ1 b (fun d h=>mE1 b a h (Ek T d)) d
end
end Go.Sim
namespace Go.Sim
open Go.RowKit
variable {base n:Nat} {w:World}
def gW (w:World):Gh:={G:=fun b=>w.heap[b]?,ι:=fun _=>none}
def aC1 (P:Program) (w:World):oC P (gW w) w {h:=[],n:=0}:=
 ⟨fun id ao h=>by simp[look]at h,⟨fun b o h=>h,fun id loc h=>by simp[gW]at h,fun id loc h=>by simp[gW]at h,fun id id' loc loc' h=>by simp[gW]at h⟩,fun id h=>by simp[gW]at h,trivial⟩
def aD1 {P} {T} (g:kJ P T) (a:P.follows .mixedOrders=true) {f} {args} {Args} {d} {s'} {w} {x} (hg:Value.ground x=true)
  (h:callF T (exec T d) 0 f args {h:=[],n:=0}=some (.v x,s')) (i:TR (gW w) args Args.toList):Calls P f Args w fun e w'=>e=.returned x/\Below w.heap.size w w':=by
 have h1:=xC (n:=0) (Ew g a d) g h i (aC1 P w) (fI3 _);refine callsIn_wide.1 (CallsIn.mono (F:=Fence.wide) h1 ?_);rintro e w' ⟨V,g',rfl,j,k,c,l⟩;refine⟨by rw[j.ground],⟨c.os,c.tape,c.output,c.size,fun b hb=>c.keep b hb (fun id loc _ hi=>by simp[gW]at hi)⟩⟩
def eU1 (P:Program):aA Field->Nat->Nat->Bool
 |[],off,m=>off==m
 |f::fs,off,m=>f.offset==off&&eU1 P fs (off+P.cellsOf f.type) m
def jA (P:Program):Nat->TypeId->Bool
 |0,_=>false
 |d+1,t=>
  match P.underlying t with
  |some .bool|some (.int _)|some .string=>true
  |some (.slice e)=>P.cellsOf e !=0&&jA P d e
  |some (.struct fs)=>eU1 P fs.toList 0 (P.cellsOf t)&&fs.toList.all fun f=>jA P d f.type
  |some (.array n e)=>P.cellsOf t==n*P.cellsOf e&&jA P d e
  |_=>false
def mF1 (F:TypeId->aA AV->Prop) (P:Program):aA Field->aA AV->Prop
 |[],cs=>cs=[]
 |f::fs,cs=>∃c1 c2,cs=c1++c2/\c1.length=P.cellsOf f.type/\F f.type c1/\mF1 F P fs c2
def nX (P:Program):Nat->TypeId->aA AV->Prop
 |0,_,_=>False
 |d+1,t,cs=>
  match P.underlying t with
  |some .bool=>∃b,cs=[.v (.bool b)]
  |some (.int k)=>∃n,cs=[.v (.int k n)]/\(Lit.int k n).wf=true
  |some .string=>∃s:ByteArray,cs=[.v (.string s)]/\s.size<=maxLen
  |some (.slice e)=>cs=[.v (.slice none 0 0)]\/∃els:aA (aA AV),cs=[.is (P.cellsOf e) els]/\els.length<=maxLen/\∀row∈els,row.length=P.cellsOf e/\nX P d e row
  |some (.struct fs)=>mF1 (nX P d) P fs.toList cs
  |some (.array n e)=>∃rows:aA (aA AV),cs=rows.flatten/\rows.length=n/\∀row∈rows,row.length=P.cellsOf e/\nX P d e row
  |_=>False
def pC {α β} {f}:∀{l:aA α} {r:aA β},l.mapM f=some r->r.length=l.length/\∀(i:Nat) (x:α),l[i]? =some x->∃y,f x=some y/\r[i]? =some y
 |[],r,h=>by grind
 |a::l,r,h=>by
  simp only[iU3,Option.bind_eq_bind,fC3,Option.pure_def,fN3]at h
  obtain⟨b,hb,bs,c,rfl⟩:=h
  obtain⟨h1,h2⟩:=pC c
  refine⟨by simp[h1],fun i x hi=>?_⟩
  cases i with
  |zero=>simp at hi;subst hi;exact⟨b,hb,rfl⟩
  |succ i=>simp at hi;obtain⟨y,d,e⟩:=h2 i x hi;exact⟨y,d,by simpa using e⟩
def zW {a:Addr} {cs:aA Value} (h:w.cells? base a n=some cs):cs.length=n/\∀i,i<n->w.cell? (a.add i)=cs[i]? :=by
 unfold World.cells? at h;split at h;obtain⟨h1,h2⟩:=pC h;refine⟨by simpa using h1,fun i hi=>?_⟩;obtain⟨y,b,c⟩:=h2 i i (by simp[hi]);rw[b,c];cases h
def mG1 {w} {a} {j} {y} (h:w.cell? (a.add j)=some y) (hs:a.spot=none):(gW w).cell a j=some y:=by
 have d:a.add j=⟨a.block,a.off+j,none⟩:=by
  obtain⟨b,o,s⟩:=a;simp only at hs;subst hs;exact kZ b o j
 rw[d]at h;unfold World.cell? at h;split at h;rename_i c e fr hb;simp only at hb;simp only[Gh.cell,gW,hb];simpa using h;cases h
def tH {α:Type} {Q:Nat->α->Prop}:∀{n},(∀i,i<n->∃x,Q i x)->∃l:aA α,l.length=n/\∀i x,l[i]? =some x->Q i x
 |0,_=>⟨[],rfl,fun i x h=>by simp at h⟩
 |n+1,h=>by
  obtain⟨l,h1,h2⟩:=tH (n:=n) (fun i hi=>h i (by omega))
  obtain⟨x,a⟩:=h n (by omega)
  refine⟨l++[x],by simp[h1],fun i y hy=>?_⟩
  rw[hG3]at hy
  split at hy
  exact h2 i y hy
  grind
def TR.of_parts {g} {c1 c2} {C} {k} (h1:TR g c1 (C.take k)) (h2:TR g c2 (C.drop k)):TR g (c1++c2) C:=by
 have:=h1.app h2
 rwa [iN3]at this
section
variable {H:Type} {enc:TypeId×Value->H} {P:Program} {held:Bool}
def Rd (P:Program) (w:World) (D:Nat) (t:TypeId) (Cs:aA Value):Prop:=∃cs,TR (gW w) cs Cs/\nX P D t cs/\∀y∈Cs,isCell y=true
def Bp {D fuel} (IH:∀t Cs d ps,DataW.trod enc P w 0 (fun _=>true) held fuel t Cs=some (d,ps)->jA P D t=true->Rd P w D t Cs):∀(fs:aA Field) (off m:Nat) (Cs:aA Value) (xs:aA (DataW H×aA MemPlace)),
  fs.mapM (fun f=>DataW.trod enc P w 0 (fun _=>true) held fuel f.type ((Cs.drop f.offset).take (P.cellsOf f.type)))=some xs->eU1 P fs off m=true->(fs.all fun f=>jA P D f.type)=true->Cs.length=m->
  ∃cs,TR (gW w) cs (Cs.drop off)/\mF1 (nX P D) P fs cs/\(∀y∈Cs.drop off,isCell y=true)/\off<=m
 |[],off,m,Cs,xs,h,hs,hp,hl=>by
  simp only[eU1,hX3]at hs
  subst hs
  have:Cs.drop off=[]:=by rw[List.drop_eq_nil_iff];omega
  rw[this]
  exact⟨[],.nil _,rfl,fun y h=>by simp at h,fI3 _⟩
 |f::fs,off,m,Cs,xs,h,hs,hp,hl=>by
  simp only[iU3,Option.bind_eq_bind,fC3,Option.pure_def,fN3]at h
  obtain⟨b,hb,bs,c,rfl⟩:=h
  simp only[eU1,fF3,hX3]at hs
  obtain⟨rfl,hs⟩:=hs
  simp only[hA3,fF3]at hp
  obtain⟨cs2,e,g,i,j⟩:=Bp IH fs (f.offset+P.cellsOf f.type) m Cs bs c hs hp.2 hl
  obtain⟨a,q1,q2,q3⟩:=IH f.type _ b.1 b.2 hb hp.1
  have hd:(Cs.drop f.offset).drop (P.cellsOf f.type)=Cs.drop (f.offset+P.cellsOf f.type):=by rw[iB3]
  refine⟨a++cs2,TR.of_parts q1 (by rw[hd];exact e),⟨a,cs2,rfl,?_,q2,g⟩,fun y hy=>?_,by omega⟩
  rw[q1.1,hW3,List.length_drop]
  omega
  rw[<-iN3 (P.cellsOf f.type) (Cs.drop f.offset),hd,gK3]at hy
  rcases hy with hy|hy
  exact q3 y hy
  exact i y hy
def aE1 {fuel} {t} {Cs} {x} (a:P.underlying t=some .bool) (h:DataW.trod enc P w 0 (fun _=>true) held (fuel+1) t Cs=some x):∃b,Cs=[.bool b]:=by
 unfold DataW.trod at h;rw[a]at h;split at h<;>simp_all
def eV1 {fuel} {t} {Cs} {k} {x} (a:P.underlying t=some (.int k)) (h:DataW.trod enc P w 0 (fun _=>true) held (fuel+1) t Cs=some x):∃n,Cs=[.int k n]/\(Lit.int k n).wf=true:=by
 unfold DataW.trod at h;rw[a]at h;split at h<;>simp_all
def Pg {fuel} {t} {Cs} {x} (a:P.underlying t=some .string) (h:DataW.trod enc P w 0 (fun _=>true) held (fuel+1) t Cs=some x):∃s:ByteArray,Cs=[.string s]/\s.size<=maxLen:=by
 unfold DataW.trod at h;rw[a]at h;split at h<;>simp_all
def Ph {fuel} {t} {fs} {Cs} {x} (a:P.underlying t=some (.struct fs)) (h:DataW.trod enc P w 0 (fun _=>true) held (fuel+1) t Cs=some x):
  Cs.length=P.cellsOf t/\∃xs,fs.toList.mapM (fun f=>DataW.trod enc P w 0 (fun _=>true) held fuel f.type ((Cs.drop f.offset).take (P.cellsOf f.type)))=some xs:=by
 unfold DataW.trod at h;rw[a]at h;split at h<;>simp_all;obtain⟨_,y,h,_⟩:=h;exact⟨y,h⟩
def Ua {fuel n} {t e} {Cs} {x} (a:P.underlying t=some (.array n e)) (h:DataW.trod enc P w 0 (fun _=>true) held (fuel+1) t Cs=some x):
  Cs.length=P.cellsOf t/\∃xs,(List.range n).mapM (fun i=>DataW.trod enc P w 0 (fun _=>true) held fuel e ((Cs.drop (i*P.cellsOf e)).take (P.cellsOf e)))=some xs:=by
 unfold DataW.trod at h;rw[a]at h;split at h<;>simp_all;obtain⟨_,y,h,_⟩:=h;exact⟨y,h⟩
def Ub {fuel} {t e} {Cs} {x} (j:P.underlying t=some (.slice e)) (h:DataW.trod enc P w 0 (fun _=>true) held (fuel+1) t Cs=some x):
  Cs=[.slice none 0 0]\/∃a len cap,Cs=[.slice (some a) len cap]/\len<=cap/\cap<=maxLen/\∀i,i<cap->∃row y,w.cells? 0 (a.add (i*P.cellsOf e)) (P.cellsOf e)=some row/\DataW.trod enc P w 0 (fun _=>true) held fuel e row=some y:=by
 unfold DataW.trod at h;rw[j]at h;split at h
 all_goals first|(simp_all;done)|skip
 rename_i e' a len cap he;cases he;right;simp only at h;split at h
 .rename_i hc
  obtain⟨_,c1,c2⟩:=hc;simp only[fC3,gF3,fG3]at h;obtain⟨c,h1,dS,h2,_⟩:=h;refine⟨a,len,cap,rfl,c1,c2,fun i hi=>?_⟩;by_cases d:i<len
  .obtain ⟨y,b,_⟩:=(pC h1).2 i i (iP3 d)
   simp only[fC3]at b;obtain⟨row,b,f⟩:=b;exact⟨row,y,b,f⟩
  .obtain ⟨y,b,_⟩:=(pC h2).2 (i-len) (i-len) (iP3 (by omega))
   have g:len+(i-len)=i:=by omega
   rw[g]at b;simp only[fC3]at b;obtain⟨row,b,f⟩:=b;exact⟨row,y,b,f⟩
 .cases h
def Wn:∀(D fuel:Nat) (t:TypeId) (Cs:aA Value) (F:DataW H) (ps:aA MemPlace),DataW.trod enc P w 0 (fun _=>true) held fuel t Cs=some (F,ps)->jA P D t=true->Rd P w D t Cs
 |0,_,_,_,_,_,_,hp=>by simp[jA]at hp
 |D+1,0,_,_,_,_,h,_=>by simp[DataW.trod]at h
 |D+1,fuel+1,t,Cs,F,ps,h,hp=>by
  have IH:=fun t Cs F ps=>Wn D fuel t Cs F ps
  have one:∀{x:AV} {y:Value},VR (gW w) x y->isCell y=true->nX P (D+1) t [x]->Rd P w (D+1) t [y]:=fun h1 h2 q=>
   ⟨_,.cons h1 (.nil _),q,fun y hy=>by simp at hy;subst hy;exact h2⟩
  unfold jA at hp
  split at hp
  rename_i c
  obtain⟨b,rfl⟩:=aE1 c h
  exact one (.v rfl) rfl (by simp[nX,c])
  rename_i k c
  obtain⟨n,rfl,hn⟩:=eV1 c h
  exact one (.v rfl) rfl (by simp[nX,c];exact hn)
  rename_i c
  obtain⟨s,rfl,hs⟩:=Pg c h
  exact one (.v rfl) rfl (by simp[nX,c];exact hs)
  rename_i e c
  simp only[fF3,bne_iff_ne,ne_eq]at hp
  obtain⟨h0,hp⟩:=hp
  rcases Ub c h with rfl|⟨a,len,cap,rfl,c1,c2,aK⟩
  exact one (x:=.v (.slice none 0 0)) (.v rfl) rfl (by simp[nX,c])
  by_cases K:cap=0
  have M:len=0:=by omega
  subst K;subst M
  exact one (x:=.is (P.cellsOf e) []) .is0 rfl (by simp[nX,c])
  have d:∀i,i<cap->∃row:aA AV,row.length=P.cellsOf e/\nX P D e row/\a.spot=none/\∀(j:Nat) (x:AV),row[j]? =some x->∃y,(gW w).cell a (i*P.cellsOf e+j)=some y/\isCell y=true/\VR (gW w) x y:=by
   intro i hi;obtain⟨row,y,O,R⟩:=aK i hi;obtain⟨Y,T⟩:=zW O;obtain⟨cs,q1,q2,q3⟩:=IH e row y.1 y.2 R hp
   have hs:a.spot=none:=by
    have h1:=T 0 (by omega);have h2:row[0]? =some row[0]:=by simp
    rw[h2]at h1;have q:=World.cell?_spot h1;unfold Addr.add at q;split at q;split at q;exact q;rename_i W;obtain⟨E,_,N,_⟩:=aK 0 (by omega);obtain⟨Z,S⟩:=zW N;have A:=S 0 (by omega);have G:E[0]? =some E[0]:=by simp
    rw[G]at A;have J:=World.cell?_spot A;simpa[Addr.add]using J;obtain⟨E,_,N,_⟩:=aK 0 (by omega);obtain⟨Z,S⟩:=zW N;have A:=S 0 (by omega);have G:E[0]? =some E[0]:=by simp
    rw[G]at A;have J:=World.cell?_spot A;simpa[Addr.add]using J
   refine⟨cs,by rw[q1.1,Y],q2,hs,fun j x r=>?_⟩;have hj:j<row.length:=by rw[<-q1.1];exact(fE3.1 r).1
   have hc:=T j (by omega);have B:row[j]? =some row[j]:=by simp
   rw[B]at hc
   have V:(a.add (i*P.cellsOf e)).add j=a.add (i*P.cellsOf e+j):=by
    obtain⟨b,o,s⟩:=a;simp only at hs;subst hs;rw[kZ,kZ,kZ,gY3]
   rw[V]at hc;exact⟨row[j],mG1 hc hs,q3 _ (by simp),q1.2 j x _ r B⟩
  obtain⟨els,z,e2⟩:=tH (n:=len) (fun i hi=>d i (by omega));obtain⟨_,_,_,hs,_⟩:=d 0 (by omega)
  have hv:VR (gW w) (.is (P.cellsOf e) els) (.slice (some a) els.length cap):=
   .is hs (by omega) (fun i row hr=>(e2 i row hr).1) (fun i row j x hr r=>by
    obtain⟨y,u,U,_⟩:=(e2 i row hr).2.2.2 j x r;exact⟨y,u,U⟩) (fun i row j x y hr r hy=>by
    obtain⟨y',u,U,y3⟩:=(e2 i row hr).2.2.2 j x r;rw[hy]at u;cases u;exact y3)
  rw[z]at hv;refine one hv rfl ?_;simp only[nX,c];refine .inr ⟨els,rfl,by omega,fun row hr=>?_⟩;obtain⟨i,hi⟩:=fQ3.1 hr;exact⟨(e2 i row hi).1,(e2 i row hi).2.1⟩;rename_i fs c;simp only[fF3]at hp;obtain⟨hl,xs,p⟩:=Ph c h;obtain⟨cs,O,R,X,_⟩:=Bp IH fs.toList 0 (P.cellsOf t) Cs xs p hp.1 hp.2 hl;exact⟨cs,by simpa using O,by simpa only[nX,c]using R,by simpa using X⟩;rename_i n e c;simp only[fF3,hX3]at hp;obtain⟨hl,xs,p⟩:=Ua c h;rw[hp.1]at hl
  have d:∀i,i<n->∃row:aA AV,TR (gW w) row ((Cs.drop (i*P.cellsOf e)).take (P.cellsOf e))/\nX P D e row/\∀y∈(Cs.drop (i*P.cellsOf e)).take (P.cellsOf e),isCell y=true:=by
   intro i hi;obtain⟨y,u,_⟩:=(pC p).2 i i (by simp[hi]);exact IH e _ y.1 y.2 u hp.2
  obtain⟨rows,r1,r2⟩:=tH d
  have hlen:∀row∈rows,row.length=P.cellsOf e:=by
   intro row hr;obtain⟨i,hi⟩:=fQ3.1 hr;have L:i<n:=by rw[<-r1];exact(fE3.1 hi).1
   rw[(r2 i row hi).1.1,hW3,List.length_drop,hl];have:(i+1)*P.cellsOf e<=n*P.cellsOf e:=gS3 _ L;rw[hQ3]at this;omega
  have key:∀(m:Nat) (g:aA (aA AV)),g.length=m->(∀(i:Nat) (row:aA AV),g[i]? =some row->TR (gW w) row ((Cs.drop ((n-m+i)*P.cellsOf e)).take (P.cellsOf e))/\∀y∈(Cs.drop ((n-m+i)*P.cellsOf e)).take (P.cellsOf e),isCell y=true)->m<=n->
    TR (gW w) g.flatten (Cs.drop ((n-m)*P.cellsOf e))/\∀y∈Cs.drop ((n-m)*P.cellsOf e),isCell y=true:=by
   intro m
   induction m with
   |zero=>
    intro g l _ _;have:g=[]:=by cases g;rfl;simp at l
    subst this;have:Cs.drop ((n-0)*P.cellsOf e)=[]:=by rw[List.drop_eq_nil_iff,hl];simp
    rw[this];exact⟨.nil _,fun y h=>by simp at h⟩
   |succ m ih=>
    intro g l hr hm;cases g with
    |nil=>simp at l
    |cons row g=>
     have h0:=hr 0 row rfl;rw[hP3]at h0
     have f:=ih g (by simpa using l) (fun i C hi=>by
      have:=hr (i+1) C (by simpa using hi);have z:n-(m+1)+(i+1)=n-m+i:=by omega
      rwa [z]at this) (by omega)
     have hd:(Cs.drop ((n-(m+1))*P.cellsOf e)).drop (P.cellsOf e)=Cs.drop ((n-m)*P.cellsOf e):=by
      rw[iB3];congr 1;have:n-m=n-(m+1)+1:=by omega
      rw[this,hQ3]
     refine⟨by simpa using TR.of_parts h0.1 (by rw[hd];exact f.1),fun y hy=>?_⟩;rw[<-iN3 (P.cellsOf e) (Cs.drop ((n-(m+1))*P.cellsOf e)),hd,gK3]at hy;rcases hy with hy|hy;exact h0.2 y hy;exact f.2 y hy
  have hk:=key n rows r1 (fun i row hi=>by
   have z:n-n+i=i:=by omega
   rw[z];exact⟨(r2 i row hi).1,(r2 i row hi).2.2⟩) (fI3 _)
  simp only[Nat.sub_self,jF3,hE3]at hk;refine⟨rows.flatten,hk.1,?_,hk.2⟩;simp only[nX,c];refine⟨rows,rfl,r1,fun row hr=>⟨hlen row hr,?_⟩⟩;obtain⟨i,hi⟩:=fQ3.1 hr;exact(r2 i row hi).2.1;cases hp
end
end Go.Sim
namespace Go.Sim
section
variable {T:mO} {ex ex':Nat->Bool->IC->St->Option (Ex×St)}
def xL (ex ex':Nat->Bool->IC->St->aB (Ex×St)):Prop:=∀lim rd c σ r,ex lim rd c σ=some r->ex' lim rd c σ=some r
def zX (b:xL ex ex') {lim} {fn} {args} {s} {r} (h:body ex lim fn args s=some r):body ex' lim fn args s=some r:=by
 unfold body at h ⊢;split at h;cases h;rename_i e σ a he;rw[b _ _ _ _ _ he];cases e with
 |exit id=>exact absurd rfl (a id)
 |normal=>exact h
 |ret=>exact h
 cases h
def mono_runP (a:xL ex ex') {f} {fn} {args} {r} (h:runP T ex f fn args=some r):runP T ex' f fn args=some r:=by
 unfold runP at h ⊢;split at h;rename_i b;exact h;split at h;rename_i hb;rw[zX a hb];exact h;cases h
def vX (a:xL ex ex') {lim} {f} {args} {s} {r} (h:callF T ex lim f args s=some r):callF T ex' lim f args s=some r:=by
 unfold callF at h ⊢;split at h;cases h;rename_i fn c
 (try simp only[c])
 split at h;rename_i hp;rw[fJ3 hp];split at h;rename_i hc;rw[fJ3 hc];simp only[fG3]at h;obtain⟨v,hv,rfl⟩:=h;rw[mono_runP a hv];rfl;rename_i hc;rw[fM3 hc];split at h;rename_i d;rw[fJ3 d];split at h;rename_i as b
 (try simp only[b])
 split at h;rename_i hb;rw[mono_runP a hb];exact h;cases h;cases h;rename_i d;rw[fM3 d];split at h;rename_i hb;rw[zX a hb];exact h;cases h;rename_i hp;rw[fM3 hp];exact zX a h
def Uc (a:xL ex ex') {lim l} {args} {s} {r} (h:round ex lim l args s=some r):round ex' lim l args s=some r:=by
 unfold Sim.round at h ⊢;split at h;rename_i c
 (try simp only[c])
 split at h;rename_i hc;rw[fJ3 hc];split at h;rename_i σ d;rw[a _ _ _ _ _ d];simp only;split at h;rename_i b
 (try simp only[b])
 split at h;rename_i hb;rw[a _ _ _ _ _ hb];exact h;rename_i hb;rw[a _ _ _ _ _ hb];exact h;rename_i hb;rw[a _ _ _ _ _ hb];exact h;cases h;cases h;cases h;cases h;cases h
def uQ (a:xL ex ex') {lim} {k} {xs} {s} {r} (h:step T ex lim k xs s=some r):step T ex' lim k xs s=some r:=by
 unfold step at h ⊢;split at h;exact vX a h;split at h;unfold callV at h ⊢;split at h;exact vX a h;exact Uc a h;cases h;cases h;exact h
def tJ (b:xL ex ex') {lim}:∀{os} {σ τ},runOps T ex lim os σ=some τ->runOps T ex' lim os σ=some τ
 |[],σ,τ,h=>h
 |o::os,σ,τ,h=>by
  simp only[runOps]at h ⊢
  split at h
  rename_i hw
  rw[fJ3 hw]
  split at h
  rename_i c
  (try simp only[c])
  split at h
  rename_i a
  simp only[uQ b a]
  exact tJ b h
  cases h
  cases h
  rename_i hw
  rw[fM3 hw]
  exact tJ b h
def mU (c:xL ex ex') {lim} {before}:∀{os} {j} {fs} {σ} {r},fO T ex lim before os j fs σ=some r->fO T ex' lim before os j fs σ=some r
 |[],j,fs,σ,r,h=>h
 |o::os,j,fs,σ,r,h=>by
  simp only[fO]at h ⊢
  split at h
  rename_i hw
  rw[fJ3 hw]
  split at h
  rename_i e
  (try simp only[e])
  split at h
  rename_i d
  rw[fJ3 d]
  split at h
  rename_i a
  simp only[uQ c a]
  exact mU c h
  cases h
  rename_i d
  rw[fM3 d]
  split at h
  rename_i b
  rw[fJ3 b]
  split at h
  rename_i a
  simp only[Tq (fun _ _=>uQ c) a]
  exact mU c h
  cases h
  rename_i b
  rw[fM3 b]
  split at h
  rename_i a
  simp only[uQ c a]
  exact mU c h
  cases h
  cases h
  rename_i hw
  rw[fM3 hw]
  exact mU c h
def Iy (T:mO):∀d,xL (exec T d) (exec T (d+1))
 |0,lim,rd,c,σ,r,h=>by simp[exec]at h
 |d+1,lim,rd,c,σ,r,h=>by
  have ih:=Iy T d
  cases c with
  |skip=>simpa only[exec]using h
  |reg ops=>
   simp only[exec,fG3]at h
   obtain⟨τ,h,rfl⟩:=h
   rw[exec,tJ ih h]
   rfl
  |regD ops before=>
   rw[exec]at h ⊢
   split at h
   rename_i hf
   rw[mU ih hf]
   exact h
   cases h
  |seq a b=>
   rw[exec]at h ⊢
   split at h
   rename_i i
   rw[ih _ _ _ _ _ i]
   exact ih _ _ _ _ _ h
   rename_i g
   have h2:=ih _ _ _ _ _ h
   rw[h2]
   obtain⟨e,τ⟩:=r
   cases e with
   |normal=>exact absurd h (g τ)
   |ret=>rfl
   |exit id=>rfl
  |cond c a b=>
   rw[exec]at h ⊢
   split at h
   rename_i hc
   (try simp only[hc])
   exact ih _ _ _ _ _ h
   cases h
  |block id c=>
   rw[exec]at h ⊢
   split at h
   rename_i i
   rw[ih _ _ _ _ _ i]
   exact h
   rename_i g
   have h2:=ih _ _ _ _ _ h
   rw[h2]
   obtain⟨e,τ⟩:=r
   cases e with
   |normal=>rfl
   |ret=>rfl
   |exit id=>exact absurd h (g _ _)
  |loop c=>
   rw[exec]at h ⊢
   split at h
   rename_i i
   rw[ih _ _ _ _ _ i]
   exact ih _ _ _ _ _ h
   rename_i e τ g i
   rw[ih _ _ _ _ _ i]
   cases e with
   |normal=>exact(g rfl).elim
   |ret=>exact h
   |exit id=>exact h
   cases h
  |rangeF f ps a b=>
   rw[exec]at h ⊢
   split at h
   rename_i j
   (try simp only[j])
   split at h
   rename_i hc
   simp only[vX ih hc]
   exact h
   cases h
   cases h
  |exit id=>simpa only[exec]using h
  |ret=>simpa only[exec]using h
def mono_le (T:mO) {d d'} (h:d<=d'):xL (exec T d) (exec T d'):=by
 induction h with
 |refl=>exact fun _ _ _ _ _ h=>h
 |step _ ih=>exact fun _ _ _ _ _ h=>Iy T _ _ _ _ _ _ (ih _ _ _ _ _ h)
end
end Go.Sim
namespace Go.Sim
def lP (P:Program):Nat->aA (aB IFn)->Prop
 |_,[]=>True
 |i,none::r=>lP P (i+1) r
 |i,some ifn::r=>(∃fn,P.funcs[i]? =some fn/\nY P fn ifn.pure ifn.frz=some ifn)/\lP P (i+1) r
def lP.get {P}:∀{l} {i j} {ifn},lP P i l->l[j]? =some (some ifn)->∃fn,P.funcs[i+j]? =some fn/\nY P fn ifn.pure ifn.frz=some ifn
 |[],i,j,ifn,_,h=>by simp at h
 |none::r,i,j,ifn,h,hj=>by
  cases j with
  |zero=>simp at hj
  |succ j=>
   have:=lP.get (l:=r) h (by simpa using hj)
   rwa [show i+1+j=i+(j+1)by omega]at this
 |some x::r,i,j,ifn,h,hj=>by
  cases j with
  |zero=>
   simp at hj
   subst hj
   exact h.1
  |succ j=>
   have:=lP.get (l:=r) h.2 (by simpa using hj)
   rwa [show i+1+j=i+(j+1)by omega]at this
def vJ:aA (FuncId×aA AV×AV)->FuncId->aA AV->aB AV
 |[],_,_=>none
 |(f',as,v)::r,f,args=>if f=f'/\Ia (wT 20) args as=true then some v else vJ r f args
def tK (P:Program):aA (FuncId×aA AV×AV)->Prop
 |[]=>True
 |(f,as,v)::r=>nM P f as v/\tK P r
def Pi {P}:∀{M} {f} {args} {v},tK P M->vJ M f args=some v->nM P f args v
 |[],_,_,_,_,h=>by cases h
 |(f',as,v')::r,f,args,v,hM,h=>by
  simp only[vJ]at h
  split at h
  rename_i hc
  cases h
  rw[hc.1,vR (xD 20) hc.2]
  exact hM.1
  exact Pi hM.2 h
def rU {M} {f} (h:∀e∈M,e.1≠f) (args:aA AV):vJ M f args=none:=by
 induction M with
 |nil=>rfl
 |cons e r ih=>
  obtain⟨f',as,v⟩:=e;simp only[vJ];rw[fM3 (fun hc=>h (f',as,v) (by simp) hc.1.symm)];exact ih (fun e he=>h e (by simp[he]))
def lP.tab {P} {l} {M} (h:lP P 0 l) (a:tK P M):kJ P ⟨fun f=>(l[f]?).join,vJ M⟩:=by
 refine⟨fun f ifn hf=>?_,fun f args v b=>Pi a b⟩;have:l[f]? =some (some ifn):=by grind
 have h2:=lP.get h this
 rwa [hD3]at h2
def eW1 (P:Program):aA Func->aA (aB IFn)->aA (aB IFn)
 |_,[]=>[]
 |[],_::_=>[]
 |_::fs,none::r=>none::eW1 P fs r
 |fn::fs,some x::r=>nY P fn x.pure x.frz::eW1 P fs r
def lP.of {P}:∀{l} {fs} {i},P.funcs.toList.drop i=fs->eW1 P fs l=l->lP P i l
 |[],_,_,_,_=>trivial
 |o::r,[],i,_,h=>by cases o<;>cases h
 |none::r,f::fs,i,hd,h=>by
  have hn:P.funcs.toList.drop (i+1)=fs:=by rw[<-iB3,hd];rfl
  exact lP.of (l:=r) hn (List.cons.inj h).2
 |some x::r,f::fs,i,hd,h=>by
  have hn:P.funcs.toList.drop (i+1)=fs:=by rw[<-iB3,hd];rfl
  have hi:P.funcs[i]? =some f:=by
   rw[<-hJ3,<-List.head?_drop,hd];rfl
  exact⟨⟨f,hi,(List.cons.inj h).1⟩,lP.of (l:=r) hn (List.cons.inj h).2⟩
def Ey {P} {T} (b:kJ P T) (a:P.follows .mixedOrders=true) {f} {fn} {args} {v} {d} (hf:T f=some fn) (hp:fn.pure=true) (hc:args.all (closed 4)=true)
  (h:runP T (exec T d) f fn args=some v):nM P f args v:=by
 intro g w s n Args e c;exact zS (Ew b a d) b hf hc h e c
end Go.Sim
namespace Go.Sim
open Go.RowKit Go.ChangeShapes Go.WideShapes
section
variable {H:Type} {enc:TypeId×Value->H} {P:Program} {W W':World}
def mH1 {a} {y} (h:W.cell? a=some y):a.block<W.heap.size:=by
 unfold World.cell? at h;split at h
 grind
 cases h
def Ud (hb:Below W.heap.size W W') {a} {n} {cs} (h:W.cells? 0 a n=some cs):W'.cells? 0 a n=some cs:=by
 unfold World.cells? at h ⊢;simp only[gU3,gF3]at h ⊢;exact mapM_mono (fun x y b=>by rw[hb.cell (mH1 b)];exact b) h
def qV {α β} {f g}:∀{l:aA α} {r:aA β},l.mapM f=some r->(∀x y,x∈l->y∈r->f x=some y->g x=some y)->l.mapM g=some r
 |[],r,h,_=>by simpa using h
 |a::l,r,h,hk=>by
  simp only[iU3,Option.bind_eq_bind,fC3,Option.pure_def,fN3]at h
  obtain⟨b,hb,bs,c,rfl⟩:=h
  have h1:=qV c (fun x y d hy=>hk x y (by simp[d]) (by simp[hy]))
  have h2:=hk a b (by simp) (by simp) hb
  simp[iU3,h1,h2]
def Iz (hb:Below W.heap.size W W') {held} {sp}:∀(fuel D:Nat) (t:TypeId) (cs:aA Value) (x:DataW H×aA MemPlace),jA P D t=true->
  DataW.trod enc P W 0 (fun _=>true) held fuel t cs=some x->(∀q∈x.2,sp q.block=true)->DataW.trod enc P W' 0 sp held fuel t cs=some x
 |0,_,_,_,_,_,h,_=>by simp[DataW.trod]at h
 |fuel+1,0,_,_,_,hp,_,_=>by simp[jA]at hp
 |fuel+1,D+1,t,cs,x,hp,h,hs=>by
  have IH:=Iz hb (held:=held) (sp:=sp) fuel D
  unfold jA at hp
  split at hp
  .rename_i c
   unfold DataW.trod at h ⊢
   rw[c]at h ⊢
   split at h<;>simp_all
  .rename_i k c
   unfold DataW.trod at h ⊢
   rw[c]at h ⊢
   split at h<;>simp_all
  .rename_i c
   unfold DataW.trod at h ⊢
   rw[c]at h ⊢
   split at h<;>simp_all
  .rename_i e c
   simp only[fF3,bne_iff_ne,ne_eq]at hp
   obtain⟨h0,hp⟩:=hp
   unfold DataW.trod at h ⊢
   rw[c]at h ⊢
   split at h
   all_goals first|(simp_all;done)|skip
   rename_i e' a len cap he
   cases he
   simp only at h ⊢
   split at h
   .rename_i hc
    rw[fJ3 hc]
    simp only[fC3,gF3,fG3]at h
    obtain⟨b,h1,dS,h2,rfl⟩:=h
    simp only[gK3]at hs
    have el:∀(i:Nat) (y:DataW H×aA MemPlace),(y∈b\/y∈dS)->((W.cells? 0 (a.add (i*P.cellsOf e)) (P.cellsOf e)).bind (DataW.trod enc P W 0 (fun _=>true) held fuel e))=some y->
      ((W'.cells? 0 (a.add (i*P.cellsOf e)) (P.cellsOf e)).bind (DataW.trod enc P W' 0 sp held fuel e))=some y:=by
     intro i y hy h;simp only[fC3]at h ⊢;obtain⟨row,u,v⟩:=h;refine⟨row,Ud hb u,IH e row y hp v (fun q d=>hs q (Or.inr ?_))⟩;rw[hM3];exact⟨y,by simpa using hy,d⟩
    have l:=qV h1 (g:=fun i=>(W'.cells? 0 (a.add (i*P.cellsOf e)) (P.cellsOf e)).bind (DataW.trod enc P W' 0 sp held fuel e)) (fun i y _ hy h=>el i y (Or.inl hy) h);have m:=qV h2 (g:=fun j=>(W'.cells? 0 (a.add ((len+j)*P.cellsOf e)) (P.cellsOf e)).bind (DataW.trod enc P W' 0 sp held fuel e)) (fun i y _ hy h=>el (len+i) y (Or.inr hy) h);rw[l];simp only[fD3];by_cases p:cap=0
    .grind
    .have o:sp a.block=true:=by
      have hlen:b.length+dS.length=cap:=by
       have r:=(pC h1).1;have e2:=(pC h2).1;simp at r e2;omega
      refine hs (.cell a.block (a.off+0)) (Or.inl ?_);unfold MemPlace.row;rw[iS3];refine⟨0,?_,rfl⟩;rw[List.mem_range,hlen];exact Nat.mul_pos (by omega) (by omega)
     rw[fJ3 o,m];rfl
   .cases h
  .rename_i fs c
   simp only[fF3]at hp;unfold DataW.trod at h ⊢;rw[c]at h ⊢;split at h
   all_goals first|(simp_all;done)|skip
   rename_i s he;cases he;split at h
   .rename_i hc
    rw[fJ3 hc];simp only[fG3]at h ⊢;obtain⟨xs,h1,rfl⟩:=h;refine⟨xs,qV h1 (fun f y hf hy h=>IH f.type _ y ?_ h (fun q d=>hs q ?_)),rfl⟩
    .grind
    .grind
   .cases h
  .rename_i n e c
   simp only[fF3,hX3]at hp;unfold DataW.trod at h ⊢;rw[c]at h ⊢;split at h
   all_goals first|(simp_all;done)|skip
   rename_i n' e' he;cases he;split at h
   .rename_i hc
    rw[fJ3 hc];simp only[fG3]at h ⊢;obtain⟨xs,h1,rfl⟩:=h;refine⟨xs,qV h1 (fun i y hi hy h=>IH e _ y hp.2 h (fun q d=>hs q ?_)),rfl⟩;rw[hM3];exact⟨y,hy,d⟩
   .cases h
  .cases hp
def xM (hb:Below W.heap.size W W') {held} {sp} {D}:∀b vs a ps,(b.all fun t=>jA P D t)=true->
  DataW.TrodAll enc P W 0 (fun _=>true) held b vs a ps->(∀q∈ps,sp q.block=true)->DataW.TrodAll enc P W' 0 sp held b vs a ps
 |[],vs,a,ps,_,h,_=>by
  match vs,a,h with
  |[],[],h=>exact h
 |t::b,vs,a,ps,hp,h,hs=>by
  match vs,a,h with
  |v::vs,d::a,h=>
   obtain⟨p,q,⟨fuel,h1⟩,h2,rfl⟩:=h
   simp only[hA3,fF3]at hp
   exact⟨p,q,⟨fuel,Iz hb fuel D t _ _ hp.1 h1 (fun x c=>hs x (by simp[c]))⟩,xM hb b vs a q hp.2 h2 (fun x c=>hs x (by simp[c])),rfl⟩
def wP1 (P:Program) (W:World) (D:Nat) (t:TypeId) (x:AV) (V:Value):Prop:=
 VR (gW W) x V/\∃cs,nX P D t cs/\x=(if eN P t then .agg cs else cs.headD .undef)
def wQ1 {D fuel} {t} {V} {x} (a:(∃cs,V=.agg cs)↔eN P t=true) (g:∀cs,V≠.tuple cs) (hp:jA P D t=true)
  (h:DataW.trod enc P W 0 (fun _=>true) true fuel t V.cells.toList=some x):∃y,wP1 P W D t y V:=by
 obtain⟨cs,h1,h2,d⟩:=Wn D fuel t _ x.1 x.2 h hp;by_cases b:eN P t=true;obtain⟨Cs,rfl⟩:=a.2 b;refine⟨.agg cs,.agg (by simpa[Value.cells]using h1.1) (fun i y hy=>d y ?_) (fun i x y j hy=>h1.2 i x y j (by simpa[Value.cells]using hy)),cs,h2,by rw[fJ3 b]⟩;simp only[Value.cells];exact fL3 (by simpa using hy);have f:∀Cs,V≠.agg Cs:=fun Cs e=>b (a.1 ⟨Cs,e⟩);have hc:V.cells=#[V]:=by cases V<;>simp_all[Value.cells]
 rw[hc]at h1;have hl:=h1.1
 match cs,hl,h1,h2 with
 |[c],_,h1,h2=>exact⟨c,h1.head,[c],h2,by rw[fM3 b];rfl⟩
end
end Go.Sim
namespace Go.Sim
open Go.RowKit Go.ChangeShapes Go.WideShapes Go.ChangeAt
variable {H:Type}
section
variable {enc:TypeId×Value->H} {P:Program} {W W':World}
def Ue {D} {t} {base} {V} (hp:jA P D t=true) (a:Value.okWide P W .any base t V):((∃cs,V=.agg cs)↔eN P t=true)/\∀cs,V≠.tuple cs:=by
 cases D with
 |zero=>simp[jA]at hp
 |succ D=>
 unfold jA at hp;unfold Value.okWide at a;unfold eN;split at hp;rename_i b;rw[b]at a ⊢;simp only[Cell.okWide,b]at a;cases V<;>simp_all[Cell.ok];rename_i b;rw[b]at a ⊢;simp only[Cell.okWide,b]at a;cases V<;>simp_all[Cell.ok];rename_i b;rw[b]at a ⊢;simp only[Cell.okWide,b]at a;cases V<;>simp_all[Cell.ok];rename_i b;rw[b]at a ⊢;simp only[Cell.okWide,b]at a;cases V<;>simp_all[Cell.ok]
 grind
 grind
 cases hp
def vK (P:Program) (W:World) (D:Nat):aA TypeId->aA AV->aA Value->Prop
 |[],[],[]=>True
 |t::ts,x::xs,V::Vs=>wP1 P W D t x V/\vK P W D ts xs Vs
 |_,_,_=>False
def Wo {D base}:∀{e} {vs} {c} {ps},(e.all fun t=>jA P D t)=true->
  (∀(j:Nat) t v,e[j]? =some t->vs[j]? =some v->Value.okWide P W .any base t v)->
  DataW.TrodAll enc P W 0 (fun _=>true) true e vs c ps->∃xs,vK P W D e xs vs
 |[],vs,c,ps,_,_,h=>by
  match vs,c,h with
  |[],[],h=>exact⟨[],trivial⟩
 |t::e,vs,c,ps,hp,hok,h=>by
  match vs,c,h with
  |v::vs,d::c,h=>
   obtain⟨p,q,⟨fuel,h1⟩,h2,rfl⟩:=h
   simp only[hA3,fF3]at hp
   obtain⟨i,k⟩:=Ue hp.1 (hok 0 t v rfl rfl)
   obtain⟨x,g⟩:=wQ1 i k hp.1 h1
   obtain⟨xs,f⟩:=Wo hp.2 (fun j t v a b=>hok (j+1) t v (by simpa using a) (by simpa using b)) h2
   exact⟨x::xs,g,f⟩
def vK.tr {D}:∀{a} {xs} {vs},vK P W D a xs vs->TR (gW W) xs vs
 |[],[],[],_=>.nil _
 |_::_,_::_,_::_,h=>.cons h.1.1 (vK.tr h.2)
def Bq {sp} {base} {held}:∀{b} {vs} {a} {ps},DataW.TrodAll enc P W base sp held b vs a ps->a.length=b.length/\vs.length=b.length
 |[],vs,a,ps,h=>by
  match vs,a,h with
  |[],[],h=>exact⟨rfl,rfl⟩
 |t::b,vs,a,ps,h=>by
  match vs,a,h with
  |v::vs,d::a,⟨p,q,h1,h2,_⟩=>
   obtain⟨c,e⟩:=Bq h2
   exact⟨by simp[c],by simp[e]⟩
end
def Ky {C:Checked} {f:FuncId} {fn:Func} {s:ChangeSpec} {d fresh g:Bool} {D:Nat} {tb:TypeId} {enc:TypeId×Value->H}
  (i:s.vars=[]) (m:∀k:aA (DataW H),k.length=fn.params.toList.length->s.fn H k={results:=[.lit (.bool true)],args:=k})
  (r:fn.resultTypes=#[tb]) (F:C.prog.underlying tb=some .bool) (c:(fn.params.toList.all fun t=>jA C.prog D t)=true)
  (w:∀W xs args,vK C.prog W D fn.params.toList xs args.toList->Calls C.prog f args W fun e W'=>e=.returned (.bool true)/\Below W.heap.size W W')
  (W:World) (base:Nat) (args:Array Value) (k A:aA (DataW H)) (before:aA MemPlace)
  (u:∀(j:Nat) t v,fn.params[j]? =some t->args[j]? =some v->Value.okWide C.prog W .any base t v)
  (J:DataW.Whole enc C.prog fn.params.toList s.vars d W args.toList k A before):
  Calls C.prog f args W fun e W'=>∃v,e=.returned v/\s.post enc C.prog fn d fresh g false W args v W':=by
 have n:=J;obtain⟨p,q,B,y,rfl,K,L⟩:=J
 have E:A=[]/\q=[]:=by
  rw[i]at y
  match A,y with
  |[],y=>exact⟨rfl,y⟩
 obtain⟨rfl,rfl⟩:=E;obtain⟨xs,G⟩:=Wo c (fun j t v a b=>u j t v (by simpa using a) (by simpa using b)) B;refine(w W xs args G).mono fun e W' ⟨he,hb⟩=>?_;subst he;have l:=m k (Bq B).1
 have o:∀x∈p,(decide (x.block<W.heap.size))=true:=fun x z=>by
  have:=n.lt x (by simp[z]);simpa using this
 refine⟨_,rfl,k,[],p++[],[],p,[],n,?_,?_,?_,World.keptBut_mono (fun x z=>⟨z,by simpa using z⟩) (hb.frame (· ∈p++[])),fun h=>by cases h⟩;rw[hS3,l,r];exact trodAll_mk1 (shut_bool F _);rw[hS3,l];exact xM hb _ _ _ _ c B o;rw[hS3,l,i];rfl
end Go.Sim
