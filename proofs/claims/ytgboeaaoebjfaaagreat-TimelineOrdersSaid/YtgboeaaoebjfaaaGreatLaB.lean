import Derived.Test.YtgboeaaoebjfaaaGreatLaA
import Derived.ControlIn
import Derived.LoopNIn
import GoSem.ClaimChange
import Derived.Below
import Derived.DataReads
import Derived.ChangeSame
import Derived.ProofKit
import Derived.OpenShut
/- A text of the proof. -/
set_option linter.unusedVariables false
set_option linter.unusedSimpArgs false
namespace Go.Sim
section
variable {P:Program} {T:Tab} {ex:Nat->Bool->IC->St->Option (Ex×St)} {lim n:Nat} {g:Gh} {w:World}
theorem jL {l:Nat} {s:Hp} {st:LoopState} {pend:Option IC} {tmps:List AV} {params:List Nat} {assign a:IC} (c:Inv P g w s) (d:look s.h l=some (.loop st pend tmps params assign a)):
  ∃(loc:Loc) (R:Loop),g.ι l=some loc/\loc.ver=0/\w.heap[loc.b]? =some (.loop R)/\R.state=st/\
   cT1 pend R.pending/\TR g tmps R.tmps.toList/\R.params=params.toArray/\comp P R.assign=some assign/\comp P R.body=some a:=c.H l _ d
theorem qC {l:Nat} {s:Hp} {st st':LoopState} {pend pend':Option IC} {tmps:List AV} {params:List Nat} {assign p:IC} (c:Inv P g w s) (q:look s.h l=some (.loop st pend tmps params assign p)) (f:lim<=l)
  {loc:Loc} {R R':Loop} (hi:g.ι l=some loc) (hb:w.heap[loc.b]? =some (.loop R)) (h1:R'.state=st')
  (h2:cT1 pend' R'.pending) (u:R'.tmps=R.tmps) (v:R'.params=R.params) (x:R'.assign=R.assign) (y:R'.body=R.body):
  Inv P g {w with heap:=w.heap.setIfInBounds loc.b (.loop R')} {h:=upd s.h l (.loop st' pend' tmps params assign p),n:=s.n}/\Ext lim g g w {w with heap:=w.heap.setIfInBounds loc.b (.loop R')}:=by
 obtain⟨loc',R0,r,B,t,G,J,C,D,E,F⟩:=jL c q
 rw[hi]at r
 cases r
 rw[hb]at t
 cases t
 have i:=c.W.lt l loc hi
 have a:∀b,b≠loc.b->(w.heap.setIfInBounds loc.b (.loop R'))[b]? =w.heap[b]? :=fun b hb=>by simp[Ne.symm hb]
 refine⟨⟨?_,⟨?_,?_,c.W.out,c.W.inj⟩,c.dom,c.wf.upd _ _⟩,⟨.refl g,by simp,?_,fun id loc h=>.inl ⟨loc,h,rfl⟩,fun _ _=>rfl,rfl,rfl,rfl,fun _ _ h=>.inl h,fun b R1 h=>by
  by_cases e:b=loc.b
  .exact ⟨R',by rw[e];simp[i]⟩
  .exact ⟨R1,(a b e).trans h⟩⟩⟩
 .intro id ao j
  simp only[look_upd]at j
  split at j
  .rename_i hc
   obtain⟨rfl,_⟩:=hc
   cases j
   exact⟨loc,R',hi,B,by simp[i],h1,h2,by rw[u];exact C,by rw[v];exact D,by rw[x];exact E,by rw[y];exact F⟩
  .rename_i hc
   have m:id≠l:=fun e=>hc ⟨e,by rw[q];rfl⟩
   exact(c.H id ao j).mono (.refl g) rfl (fun d k=>a _ (fun e=>m (c.W.inj id l d loc k hi e)))
 .intro b o h
  rw[a b (fun e=>by subst e;rw[c.W.out l loc hi]at h;cases h)]
  exact c.W.still b o h
 .intro id d h
  simpa using c.W.lt id d h
 .intro b z A
  exact a b (fun e=>A l loc f hi e.symm)
theorem eK {b:Nat} {R:Loop} (hb:w.heap[b]? =some (.loop R)):(Instr.getLoop b).run P w=.ok R w:=by
 simp[Instr.getLoop,getObj,Sem.run,hb]
theorem iY {b:Nat} {R:Loop} (hb:w.heap[b]? =some (.loop R)) (o:Obj):(setObj b o).run P w=.ok () {w with heap:=w.heap.setIfInBounds b o}:=by
 simp[setObj,Sem.run,hb]
theorem oC {b:Nat} {R:Loop} (hb:w.heap[b]? =some (.loop R)) (hr:R.state=.ready):(Instr.beginRound b).run P w=.ok () {w with heap:=w.heap.setIfInBounds b (.loop {R with state:=.busy})}:=by
 simp[Instr.beginRound,eK hb,iY hb,hr]
theorem sB {b:Nat} {R:Loop} (hb:w.heap[b]? =some (.loop R)) (a:Option Code):
  (Instr.endRound b a).run P w=.ok (.bool a.isNone) {w with heap:=w.heap.setIfInBounds b (.loop {R with state:=if a.isNone then .ready else .done,pending:=a})}:=by
 simp[Instr.endRound,eK hb,iY hb]
theorem sC:∀(ps:List Nat) (t args:List AV) (tmps:Array Value) (Args:List Value),TR g t tmps.toList->TR g args Args->
  TR g (putAll t ps args) ((ps.zip Args).foldl (fun tmps (p:Nat×Value)=>tmps.setIfInBounds p.1 p.2) tmps).toList
 |[],t,args,tmps,Args,ht,ha=>by
  simpa[putAll]using ht
 |p::ps,t,[],tmps,[],ht,ha=>by simpa[putAll]using ht
 |p::ps,t,[],tmps,_::_,ht,ha=>by have:=ha.1;simp at this
 |p::ps,t,_::_,tmps,[],ht,ha=>by have:=ha.1;simp at this
 |p::ps,t,x::args,tmps,y::Args,ht,ha=>by
  simp only[putAll,List.zip_cons_cons,List.foldl_cons]
  refine sC ps _ args _ Args ?_ ha.tail
  simpa using ht.set ha.head p
theorem gC {l:Nat} {s s':Hp} {st:LoopState} {pend:Option IC} (h:endRound l s st pend=some s'):
  ∃b a tmps params assign c,look s.h l=some (.loop b a tmps params assign c)/\s'={h:=upd s.h l (.loop st pend tmps params assign c),n:=s.n}:=by
 unfold Sim.endRound at h
 split at h
 .rename_i d
  cases h
  exact⟨_,_,_,_,_,_,d,rfl⟩
 .cases h
theorem dM1 (D:ExOK P ex) {l:Nat} {args:List AV} {Args:Array Value} {s s':Hp} {v:AV} (h:round ex lim l args s=some (v,s')) (ht:TR g args Args.toList) (hI:Inv P g w s) (hl:lim<=s.n):
  ∃(loc:Loc) (R:Loop),g.ι l=some loc/\loc.ver=0/\w.heap[loc.b]? =some (.loop R)/\R.params.size=Args.size/\
   ∀(r:Option Nat) (n:Nat),RoundIn (FW r) n P loc.b R.fn ((R.params.zip Args).foldl (fun tmps (p:Tmp×Value)=>tmps.setIfInBounds p.1 p.2) R.tmps) R.assign R.body w (fK P lim g w s v s'):=by
 unfold Sim.round at h
 split at h
 .rename_i b4 X tmps params assign bd hL
  split at h
  .rename_i hc
   obtain⟨q,b0⟩:=hc
   obtain⟨loc,R,k1,k2,k3,k4,k5,k6,k7,k8,k9⟩:=jL hI hL
   have S:R.params.size=Args.size:=by rw[k7];have:=ht.1;simp at this ⊢;omega
   refine⟨loc,R,k1,k2,k3,S,fun r n=>?_⟩
   split at h
   .rename_i σ j
    split at h
    .rename_i m y k i H B
     have U:TR g (putAll tmps params args) ((R.params.zip Args).foldl (fun tmps (p:Tmp×Value)=>tmps.setIfInBounds p.1 p.2) R.tmps).toList:=by
      have:=sC params tmps args R.tmps Args.toList k6 ht
      rw[k7]
      have e:(params.toArray.zip Args).foldl (fun tmps (p:Tmp×Value)=>tmps.setIfInBounds p.1 p.2) R.tmps=(params.zip Args.toList).foldl (fun tmps (p:Nat×Value)=>tmps.setIfInBounds p.1 p.2) R.tmps:=by
       rw[<-Array.foldl_toList]
       simp
      rw[e]
      exact this
     refine roundIn_of_wpIn trivial ?_
     refine wpIn_mono (D lim true assign _ .normal σ j R.assign k8 (some loc.b) rfl g {tmps:=_,defers:=[]} w n w.heap.size (fun b hb=>by cases hb;exact⟨R,k3⟩) U hI hl (lW1 _) trivial) ?_
     rintro e1 a1 w1 ⟨rfl,g1,o⟩
     simp only[Ex.toExit,Exit.then]
     obtain⟨a,R1,V,m2,W,m4,m5,m6,m7,m8,m9⟩:=jL o.inv B
     have N:a=loc:=by
      obtain⟨loc',q1,q2,q3⟩:=o.ext.le.ι l loc k1
      rw[V]at q1
      cases q1
      exact q3 (by omega)
     subst N
     obtain⟨K,u⟩:=qC (lim:=lim) (st':=.busy) (pend':=m) (R':={R1 with state:=.busy}) o.inv B q V W rfl m5 rfl rfl rfl rfl
     refine⟨_,oC W m4,?_⟩
     have f:∀(e:Ex) (τ:St),ex lim true bd {t:=σ.t,s:={h:=upd σ.s.h l (.loop .busy m y k i H),n:=σ.s.n}}=some (e,τ)->∀(st:LoopState) (pend:Option IC) (c:Option Code) (b:Bool),
       endRound l τ.s st pend=some s'->v=.bool b->b=c.isNone->st=(if c.isNone then .ready else .done)->
       cT1 pend c->
       (∀(a':Act) (w':World),(∃v' G,(Instr.endRound a.b c).run P w'=.ok v' G/\fK P lim g w s v s' (.returned v') G)->roundPost P a.b (fK P lim g w s v s') e.toExit a' w')->
       R.body.wpIn (FW (some a.b)) n P (roundPost P a.b (fK P lim g w s v s')) a1 {w1 with heap:=w1.heap.setIfInBounds a.b (.loop {R1 with state:=.busy})}:=by
      intro e τ hb st pend c b d hv M T O x
      refine wpIn_mono (D lim true bd _ e τ hb R.body k9 (some a.b) rfl g1 a1 _ n w.heap.size (fun b hb=>by cases hb;exact u.loops _ _ W) o.t K (nC1 hl o.n) (by have:=o.ext.size;simpa using this) (o.marks.ext u)) ?_
      rintro e2 a2 w2 ⟨rfl,g2,A⟩
      refine x a2 w2 ?_
      obtain⟨b5,Y,Z,params3,z,a0,C,rfl⟩:=gC d
      obtain⟨F,R3,q1,q2,q3,q4,q5,q6,q7,q8,q9⟩:=jL A.inv C
      have E:F=a:=by
       obtain⟨loc',p1,p2,p3⟩:=A.ext.le.ι l a V
       rw[q1]at p1
       cases p1
       exact p3 (by omega)
      subst E
      obtain⟨L,J⟩:=qC (lim:=lim) (st':=st) (pend':=pend) (R':={R3 with state:=if c.isNone then .ready else .done,pending:=c}) A.inv C q q1 q3 T.symm
       O rfl rfl rfl rfl
      refine⟨_,_,sB q3 c,_,g2,rfl,?_,L,((o.ext.trans u).trans A.ext).trans J,?_⟩
      .rw [hv,M]
       exact .v rfl
      .have h1:s.n<=σ.s.n:=o.n
       have h2:σ.s.n<=τ.s.n:=A.n
       simp only at h2 ⊢
       omega
     split at h
     .rename_i τ hb
      simp only[lV1,mJ1]at h
      obtain⟨s2,d,rfl,rfl⟩:=h
      exact f .normal τ hb .ready none none true d rfl rfl rfl rfl (fun a' w' h=>h)
     .rename_i τ hb
      simp only[lV1,mJ1]at h
      obtain⟨s2,d,rfl,rfl⟩:=h
      exact f .ret τ hb .done (some .ret) (some .ret) false d rfl rfl rfl rfl (fun a' w' h=>h)
     .rename_i id τ hb
      simp only[lV1,mJ1]at h
      obtain⟨s2,d,rfl,rfl⟩:=h
      exact f (.exit id) τ hb .done (some (.exit id)) (some (.exit id)) false d rfl rfl rfl rfl (fun a' w' h=>h)
     .cases h
    .cases h
   .cases h
  .cases h
 .cases h
end
end Go.Sim
namespace Go.Sim
section
variable {P:Program} {T:Tab} {ex:Nat->Bool->IC->St->Option (Ex×St)} {lim n:Nat} {g:Gh} {w:World} {r:Option Nat}
theorem mP {fn:Func} {pure frz:Bool} {ifn:IFn} (h:gN P fn pure frz=some ifn):(∃c,fn.body=some c)/\(fn.name== "runtime.NumGoroutine")=false:=by
 unfold gN at h
 split at h
 .cases h
 .rename_i c hb
  split at h
  .split at h
   .rename_i a
    exact⟨⟨c,hb⟩,by simpa using a⟩
   .cases h
  .cases h
theorem zT {ρ:Operand->Value} {o:Oper} {e:Operand} {args:Array Operand} {d:Array TypeId} {f:FuncId} {F C:Array Value} {fn:Func} {c:Code} (h:o.op=.call {callee:=.value e,args:=args,argTypes:=d}) (g:ρ e=.func (.func f) F C)
  (hf:P.funcs[f]? =some fn) (hb:fn.body=some c) (b:(fn.name== "runtime.NumGoroutine")=false):(execOp ρ o).run P w=.ok (.enter f (F++args.map ρ++C)) w:=by
 have a:¬fn.name= "runtime.NumGoroutine":=by simpa using b
 simp[execOp,h,resolve,g,Deferred.ofValue,invoke,callFunc,hf,a,hb]
theorem zU {ρ:Operand->Value} {o:Oper} {d:Operand} {args:Array Operand} {a:Array TypeId} {b:Nat} {R:Loop} (f:o.op=.call {callee:=.value d,args:=args,argTypes:=a}) (e:ρ d=.func (.yield b) #[] #[])
  (hb:w.heap[b]? =some (.loop R)) (c:R.params.size=args.size):(execOp ρ o).run P w=.ok (.round b R.fn ((R.params.zip (args.map ρ)).foldl (fun tmps (p:Tmp×Value)=>tmps.setIfInBounds p.1 p.2) R.tmps) R.assign R.body) w:=by
 simp[execOp,f,resolve,e,Deferred.ofValue,invoke,Instr.yield,eK hb,c]
theorem iB {o:Oper} {ρ:Operand->Value} (r:Option Nat) (h:∀c,o.op≠.defer c):Oper.semAt r ρ o=execOp ρ o:=by
 cases r with
 |none=>exact Oper.semAt_none ..
 |some l=>
  unfold Oper.semAt
  cases ho:o.op<;>first|rfl|exact absurd ho (h _)
theorem lD {o:Op} {ty:TypeId} {k:OpK} {os:List Operand} (h:dN P o ty=some (k,os)):∀c,o≠.defer c:=by
 rintro c rfl
 simp[dN]at h
theorem dN1 {o:Oper} {k:OpK} {os:List Operand} {xs:List AV} {out:Out} {s:Hp} {a:Act} (y:dN P o.op o.type=some (k,os)) (hd:doOp (look s.h) lim s.n k xs=some out) (D:TR g xs (os.map a.eval)) (d:Inv P g w s)
  (hl:lim<=s.n) {next:Act->World->Prop} {Q:Exit->Act->World->Prop} (b:∀V g' w',VR g' out.v V->Inv P g' w' (out.apply s)->Ext lim g g' w w'->s.n<=(out.apply s).n->next (a.put o.dst V) w'):
  o.wpIn (FW r) n P a w next Q:=by
 have C:g.ι s.n=none:=by
  cases h:g.ι s.n with
  |none=>rfl
  |some l=>have:=d.dom s.n (by rw[h];simp);omega
 obtain⟨V,nx,g',w',q,u,hv,A,B,x,j⟩:=kG a.eval o y D hd d.H d.W C hl
 have f:Inv P g' w' (out.apply s):=by
  have t:∀id ao,look (out.apply s).h id=some ao->out.after (look s.h) s.n id=some ao:=by
   intro id ao h
   cases c:out.up with
   |none=>
    cases hw:out.new with
    |none=>simpa[Out.apply,Out.after,Out.base,c,hw]using h
    |some ob=>
     simp only[Out.apply,c,hw,look]at h
     simp only[Out.after,Out.base,c,hw]
     split at h
     .rename_i e;subst e;simpa using h
     .rename_i e;rw[lY1 (fun e2=>e e2.symm)];exact h
   |some p=>
    obtain⟨i,ob'⟩:=p
    have h2:∀id ao,look (upd s.h i ob') id=some ao->(if id=i then some ob' else look s.h id)=some ao:=by
     intro id ao h
     rw[look_upd]at h
     split at h
     .rename_i hc;rw[mA1 hc.1];exact h
     .rename_i hc
      split
      .rename_i e
       subst e
       exfalso
       apply hc
       exact⟨rfl,by rw[h];rfl⟩
      .exact h
    cases hw:out.new with
    |none=>
     simp only[Out.apply,c,hw]at h
     simpa only[Out.after,Out.base,c,hw]using h2 id ao h
    |some ob=>
     simp only[Out.apply,c,hw,look]at h
     simp only[Out.after,Out.base,c,hw]
     split at h
     .rename_i e;subst e;simpa using h
     .rename_i e;rw[lY1 (fun e2=>e e2.symm)];exact h2 id ao h
  refine⟨fun id ao h=>A id ao (t id ao h),B,fun id h=>?_,?_⟩
  .rcases j id h with h1|⟨rfl,h2⟩
   .have:=d.dom id h1
    simp only[Out.apply]
    split
    .simp only;omega
    .exact this
   .simp only[Out.apply]
    split
    .simp
    .rename_i z;rw[z]at h2;cases h2
  .have c:Wf (match out.up with|some (id,ob)=>upd s.h id ob|none=>s.h) s.n:=by
    split
    .exact d.wf.upd _ _
    .exact d.wf
   simp only[Out.apply]
   split
   .exact ⟨by simp,c⟩
   .exact c
 have m:s.n<=(out.apply s).n:=by
  simp only[Out.apply]
  split
  .simp
  .exact lW1 _
 refine⟨fun _ _=>trivial,?_⟩
 rw[iB _ (lD y),q]
 rcases u with rfl|⟨rfl,rfl⟩
 .exact b V g' w' hv f x m
 .exact b undef g' w' hv f x m
theorem gD {o:Op} {ty:TypeId} {os:List Operand} {k:OpK} (h:dN P o ty=some (k,os)) (hk:k=.callV\/∃f,k=.callF f):
  ∃c e,o=.call c/\c.callee=.value e/\((∃f,k=.callF f/\e=.func f/\os=c.args.toList)\/(k=.callV/\os=e::c.args.toList)):=by
 have d:∀b a ty,cZ P b a ty≠some .callV/\∀f,cZ P b a ty≠some (.callF f):=by
  intro b a ty
  constructor
  .intro h
   unfold cZ at h
   split at h<;>(repeat' split at h)<;>cases h
  .intro f h
   unfold cZ at h
   split at h<;>(repeat' split at h)<;>cases h
 cases o
 case call c=>
  simp only[dN]at h
  split at h
  .rename_i f hc
   cases h
   exact⟨c,_,rfl,hc,.inl ⟨f,rfl,rfl,rfl⟩⟩
  .rename_i e _ hc
   cases h
   exact⟨c,_,rfl,hc,.inr ⟨rfl,rfl⟩⟩
  .rename_i b hc
   simp only[lV1,mJ1]at h
   obtain⟨k',h1,rfl,rfl⟩:=h
   rcases hk with rfl|⟨f,rfl⟩
   .exact absurd h1 (d b _ _).1
   .exact absurd h1 ((d b _ _).2 f)
  .cases h
 all_goals (rcases hk with rfl|⟨f,rfl⟩<;>exfalso<;>simp only[dN]at h<;>(repeat' split at h)<;>simp_all)
theorem jM (p:dZ P T) {o:Oper} {c:Call} {j:Operand} {f:FuncId} {first cap:Array Value} {a:Act} {ifn:IFn} (k:o.op=.call c) (hc:c.callee=.value j) (q:a.eval j=.func (.func f) first cap) (g:T f=some ifn)
  {R:Ending->World->Prop} (b:CallsIn (FW none) (n-1) P f (first++c.args.map a.eval++cap) w R) {next:Act->World->Prop} {Q:Exit->Act->World->Prop} (m:∀e w',R e w'->∃V,e=.returned V/\next (a.put o.dst V) w'):
  o.wpIn (FW r) n P a w next Q:=by
 obtain⟨fn,hf,i⟩:=p.fns f ifn g
 obtain⟨⟨s,hb⟩,d⟩:=mP i
 obtain⟨callee,args,l⟩:=c
 simp only at hc
 subst hc
 refine⟨fun _ _=>trivial,?_⟩
 rw[iB _ (fun c h=>by rw[k]at h;cases h),zT k q hf hb d]
 refine⟨fun h=>(by cases h),CallsIn.mono (oP b) ?_⟩
 intro e w' he
 obtain⟨V,rfl,h⟩:=m e w' he
 exact h
theorem uO (u:ExOK P ex) (K:dZ P T) {o:Oper} {k:OpK} {os:List Operand} {xs:List AV} {v:AV} {s s':Hp} {a:Act} (L:(dN P o.op o.type).getD (.fail,[])=(k,os)) (h:step T ex lim k xs s=some (v,s'))
  (E:TR g xs (os.map a.eval)) (J:Inv P g w s) (hl:lim<=s.n) {next:Act->World->Prop} {Q:Exit->Act->World->Prop}
  (m:∀V g' w',VR g' v V->Inv P g' w' s'->Ext lim g g' w w'->s.n<=s'.n->next (a.put o.dst V) w'):o.wpIn (FW r) n P a w next Q:=by
 cases hco:dN P o.op o.type with
 |none=>
  rw[hco]at L
  cases L
  simp only[step,mH]at h
  cases h
 |some p=>
  rw[hco]at L
  cases L
  have plain:∀out,doOp (look s.h) lim s.n k xs=some out->(out.v,out.apply s)=(v,s')->o.wpIn (FW r) n P a w next Q:=by
   intro out hd he
   cases he
   exact dN1 hco hd E J hl m
  unfold step at h
  split at h
  .rename_i f
   obtain⟨c,N,h1,h2,O⟩:=gD hco (.inr ⟨f,rfl⟩)
   rcases O with⟨f',B,Z,S⟩|⟨B,_⟩
   .cases B
    subst Z
    have d:∃ifn,T f=some ifn:=by
     unfold callF at h
     split at h
     .cases h
     .rename_i ifn hi;exact⟨ifn,hi⟩
    obtain⟨ifn,d⟩:=d
    have j:TR g xs (#[]++c.args.map a.eval++#[]).toList:=by rw[S]at E;simpa using E
    exact jM K h1 h2 rfl d (lS u K h j J hl) (fun e w' he=>by
     obtain⟨V,g',rfl,z,G,H,A⟩:=he
     exact⟨V,rfl,m V g' w' z G H A⟩)
   .cases B
  .obtain ⟨c,N,h1,h2,O⟩:=gD hco (.inl rfl)
   rcases O with⟨f',B,_⟩|⟨_,S⟩
   .cases B
   .subst S
    split at h
    .rename_i fa args
     have t:=E.head
     have j:=E.tail
     unfold callV at h
     split at h
     .rename_i f first cap
      generalize hV:a.eval N=V at t
      cases t with
      |@fn _ _ _ _ F C l1 l2 v1 v2=>
       have d:∃ifn,T f=some ifn:=by
        unfold callF at h
        split at h
        .cases h
        .rename_i ifn hi;exact⟨ifn,hi⟩
       obtain⟨ifn,d⟩:=d
       have hF:TR g first F.toList:=⟨by simpa using l1,fun i x y W hy=>v1 i x y W (by simpa using hy)⟩
       have hC:TR g cap C.toList:=⟨by simpa using l2,fun i x y W hy=>v2 i x y W (by simpa using hy)⟩
       have D:TR g (first++args++cap) (F++c.args.map a.eval++C).toList:=by
        have:=(hF.app j).app hC
        simpa using this
       exact jM K h1 h2 hV d (lS u K h D J hl) (fun e w' he=>by
        obtain⟨V,g',rfl,z,G,H,A⟩:=he
        exact⟨V,rfl,m V g' w' z G H A⟩)
     .rename_i l
      generalize hV:a.eval N=V at t
      cases t with
      |@yield _ _ b loc hi hp=>
       have q:TR g args (c.args.map a.eval).toList:=by simpa using j
       obtain⟨loc',R,z,G,H,A,X⟩:=dM1 u h q J hl
       rw[hi]at z
       cases z
       have U:=hp G
       subst U
       obtain⟨callee,M,Y⟩:=c
       simp only at h2 A X
       subst h2
       refine⟨fun _ _=>trivial,?_⟩
       rw[iB _ (fun c h=>by rw[h1]at h;cases h),zU h1 hV H (by simpa using A)]
       refine⟨fun h=>(by cases h),RoundIn.mono (X r (n-1)) ?_⟩
       rintro e w' ⟨V,g',rfl,q1,q2,q3,q4⟩
       exact m V g' w' q1 q2 q3 q4
     .cases h
    .cases h
  .split at h
   .rename_i out hd
    cases h
    exact plain out hd rfl
   .cases h
theorem jL1 {a:Act} {t:List AV} {i:Nat} {v:AV} (b:TR g t a.tmps.toList) (hv:t[i]? =some v):i<a.tmps.size:=by
 have h1:t.length=a.tmps.size:=by simpa using b.1
 have h2:=(lX1.1 hv).1
 omega
theorem uP {a:Act} {t:List AV} {x:Operand} {j:IX} {v:AV} (e:TR g t a.tmps.toList) (b:opnd x=some j) (hv:j.ev t=some v):VR g v (a.eval x):=by
 cases x with
 |tmp i=>
  simp only[opnd,lZ1]at b
  subst b
  simp only[IX.ev]at hv
  have d:i<a.tmps.size:=jL1 e hv
  have:a.eval (.tmp i)=a.tmps[i]:=by simp[Act.eval,d]
  rw[this]
  exact e.2 i v _ hv (by simp[d])
 |const c=>
  simp only[opnd,lV1]at b
  obtain⟨k,h1,rfl⟩:=b
  simp only[IX.ev,lZ1]at hv
  subst hv
  show VR g k c
  unfold AV.ofValue at h1
  split at h1
  .rename_i cs
   split at h1
   .rename_i hc
    cases h1
    refine .agg (by simp) (fun i y hy=>eF (mB1.1 hc y (by
     rw[<-nP1]at hy
     exact nA1.2 ⟨i,hy⟩))) (fun i x y b hy=>?_)
    rw[<-nP1]at hy
    simp only[mZ1,hy,mQ1,lZ1]at b
    subst b
    exact .v (mB1.1 hc y (nA1.2 ⟨i,hy⟩))
   .cases h1
  .rename_i cs
   split at h1
   .rename_i hc
    cases h1
    have:cs=#[]:=by
     rw[List.isEmpty_iff]at hc
     cases cs
     simp_all
    subst this
    exact .tup (by simp) (fun i x y b=>by simp at b)
   .cases h1
  .split at h1
   .rename_i hc
    cases h1
    exact .v hc
   .cases h1
 |global g=>simp[opnd]at b
 |func f=>
  simp only[opnd,lZ1]at b
  subst b
  simp only[IX.ev,lZ1]at hv
  subst hv
  exact .fn (by simp) (by simp) (fun i x y h=>by simp at h) (fun i x y h=>by simp at h)
theorem jN {a:Act} {t:List AV} (c:TR g t a.tmps.toList):∀{os:List Operand} {b:List IX} {xs:List AV},yW os=some b->evs t b=some xs->TR g xs (os.map a.eval)
 |[],b,xs,h,hx=>by
  simp only[yW,mapO,lZ1]at h
  subst h
  simp only[evs,lZ1]at hx
  subst hx
  exact .nil g
 |o::os,b,xs,h,hx=>by
  simp only[yW,mapO]at h
  split at h
  .rename_i f rest h1 h2
   cases h
   simp only[evs]at hx
   split at hx
   .rename_i v vs d e
    cases hx
    exact .cons (uP c h1 d) (jN c h2 e)
   .cases hx
  .cases h
theorem zV {a:Act} {t:List AV} (b:TR g t a.tmps.toList) {v:AV} {V:Value} (hv:VR g v V) (d:Option Nat):TR g (put t d v) (a.put d V).tmps.toList:=by
 cases d with
 |none=>exact b
 |some i=>simpa[put,Act.put]using b.set hv i
theorem gE {ops:List Oper} {o:Oper} {io:Sim.Op1} (h:eE P ops o=some io):
    ∃os,(dN P o.op o.type).getD (.fail,[])=(io.k,os)/\yW os=some io.xs/\io.dst=o.dst/\
      (match o.guard with
       |none=>io.guard=none
       |some (j,b)=>∃c d,ops[j]? =some c/\c.dst=some d/\io.guard=some (d,b)):=by
  unfold eE at h
  generalize hc:(dN P o.op o.type).getD (.fail,[])=kx at h
  obtain⟨k,xs⟩:=kx
  simp only at h
  split at h
  .cases h
  . rename_i f a
    split at h
    . rename_i hg
      cases h
      exact⟨xs,rfl,a,rfl,by rw[hg]⟩
    . rename_i j b hg
      split at h
      . rename_i c e
        split at h
        . rename_i d hd
          cases h
          refine⟨xs,rfl,a,rfl,?_⟩
          rw[hg]
          exact⟨c,d,e,hd,rfl⟩
        .cases h
      .cases h
def dO1:Value->Option Bool
 |.bool b=>some b
 |_=>none
def gW1:AV->Option Bool
 |.v x=>dO1 x
 |_=>none
theorem VR.boolCell {x:AV} {X:Value} (h:VR g x X):dO1 X=gW1 x:=by
 cases h<;>rfl
theorem sD {a:Act} {t:List AV} (f:TR g t a.tmps.toList) {ops:Array Oper} {o:Oper} {io:Sim.Op1} (h:eE P ops.toList o=some io):Region.wanted o (yielded ops a.tmps)=Sim.wanted t io.guard:=by
 obtain⟨os,h1,h2,q,c⟩:=gE h
 unfold Region.wanted
 cases hg:o.guard with
 |none=>rw[hg]at c;simp only at c;rw[c];rfl
 |some p=>
  obtain⟨j,b⟩:=p
  rw[hg]at c
  obtain⟨n,d,k,l,m⟩:=c
  rw[m]
  simp only[Sim.wanted,yielded]
  have:ops[j]? =some n:=by simpa using k
  rw[this]
  simp only[mC1,l]
  cases hx:t[d]? with
  |none=>
   have:a.tmps[d]? =none:=by
    have h1:t.length=a.tmps.size:=by simpa using f.1
    rw[List.getElem?_eq_none_iff]at hx
    simp
    omega
   rw[this]
   rfl
  |some x=>
   have e:d<a.tmps.size:=jL1 f hx
   have i:a.tmps[d]? =some a.tmps[d]:=by simp[e]
   have hv:=f.2 d x a.tmps[d] hx (by simp[e])
   rw[i]
   have hb:=hv.boolCell
   generalize a.tmps[d]=X at hb
   revert hb
   cases x with
   |v y=>cases X<;>cases y<;>simp[gW1,dO1]<;>(intro h;subst h;rfl)
   |_=>cases X<;>simp[gW1,dO1]
theorem mQ (f:ExOK P ex) (u:dZ P T) {ops:Array Oper} {base:Nat} {Q:Exit->Act->World->Prop}:
  ∀(rest:List Oper) (ios:List Sim.Op1) (k:Nat) (σ l:St) (g:Gh) (w:World) (a:Act),mapO (eE P ops.toList) rest=some ios->(∀j,rest[j]? =ops[k+j]?)->runOps T ex lim ios σ=some l->
   TR g σ.t a.tmps.toList->Inv P g w σ.s->lim<=σ.s.n->dS base g w a.defers->
   (∀g' a' w',rX P base lim g w σ.s l.t l.s g' a' w'->Q .normal a' w')->wpOpsIn (FW r) n P ops Q (List.range' k rest.length) a w
 |[],ios,k,σ,l,g,w,a,hc,hops,h,ht,hI,hl,hm,hQ=>by
  simp only[mapO,lZ1]at hc
  subst hc
  simp only[runOps,lZ1]at h
  subst h
  exact hQ g a w ⟨ht,hI,.refl lim g w,lW1 _,hm⟩
 |o::rest,ios,k,σ,l,g,w,a,hc,hops,h,ht,hI,hl,hm,hQ=>by
  simp only[mapO]at hc
  split at hc
  .rename_i io e hio d
   cases hc
   have h0:ops[k]? =some o:=by simpa using(hops 0).symm
   have c:∀j,rest[j]? =ops[(k+1)+j]? :=fun j=>by have:=hops (j+1);simpa[nE1,nW1 1 j]using this
   simp only[nH1,List.range'_succ,wpOpsIn,h0]
   rw[sD ht hio]
   obtain⟨os,c1,c2,c3,c4⟩:=gE hio
   simp only[runOps]at h
   split at h
   .rename_i hw
    rw[mA1 hw]
    split at h
    .rename_i xs y
     split at h
     .rename_i v s x
      refine uO f u c1 x (jN ht c2 y) hI hl (fun V g' w' C D z B=>?_)
      have b:=zV (ht.mono z.le) C io.dst
      rw[c3]at b
      have i:dS base g' w' (a.put o.dst V).defers:=by
       have:(a.put o.dst V).defers=a.defers:=by cases o.dst<;>rfl
       rw[this]
       exact hm.ext z
      refine mQ f u rest e (k+1) _ l g' w' (a.put o.dst V) d c h (by rw[c3];exact b) D (nC1 hl B) i (fun q p A m=>?_)
      exact hQ q p A ⟨m.t,m.inv,z.trans m.ext,nC1 B m.n,m.marks⟩
     .cases h
    .cases h
   .rename_i hw
    rw[lY1 hw]
    refine⟨fun _ _=>trivial,?_⟩
    have b:=zV ht (.undef g) io.dst
    rw[c3]at b
    have i:dS base g w (a.put o.dst undef).defers:=by
     have:(a.put o.dst undef).defers=a.defers:=by cases o.dst<;>rfl
     rw[this]
     exact hm
    exact mQ f u rest e (k+1) _ l g w (a.put o.dst undef) d c h (by rw[c3];exact b) hI hl i hQ
  .cases hc
end
end Go.Sim
namespace Go.Sim
structure eL (s s':Hp):Prop where
 wf:Wf s.h s.n->Wf s'.h s'.n
 n:s.n<=s'.n
theorem eL.refl (s:Hp):eL s s:=⟨id,lW1 _⟩
theorem eL.trans {a b c:Hp} (h:eL a b) (k:eL b c):eL a c:=⟨fun w=>k.wf (h.wf w),nC1 h.n k.n⟩
theorem uQ (out:Out) (s:Hp):eL s (out.apply s):=by
 constructor
 .intro hw
  have a:Wf (match out.up with|some (id,ob)=>upd s.h id ob|none=>s.h) s.n:=by
   split
   .exact hw.upd _ _
   .exact hw
  simp only[Out.apply]
  split
  .exact ⟨by simp,a⟩
  .exact a
 .simp only[Out.apply]
  split
  .simp
  .exact lW1 _
theorem sE (s:Hp) (id:Nat) (o:AO):eL s {h:=upd s.h id o,n:=s.n}:=⟨fun h=>h.upd _ _,lW1 _⟩
section
variable {T:Tab} {ex:Nat->Bool->IC->St->Option (Ex×St)}
def jO (ex:Nat->Bool->IC->St->Option (Ex×St)):Prop:=∀lim rd c σ e a,ex lim rd c σ=some (e,a)->eL σ.s a.s
theorem xY (b:jO ex) {lim:Nat} {fn:IFn} {args:List AV} {s s':Hp} {v:AV} (h:body ex lim fn args s=some (v,s')):eL s s':=by
 unfold body at h
 split at h
 .cases h
 .rename_i e σ a he
  simp only[lV1,mJ1]at h
  obtain⟨v',_,_,rfl⟩:=h
  exact b _ _ _ _ _ _ he
 .cases h
theorem iZ (a:jO ex) {lim:Nat} {f:FuncId} {args:List AV} {s s':Hp} {v:AV} (h:callF T ex lim f args s=some (v,s')):eL s s':=by
 unfold callF at h
 split at h
 .cases h
 .split at h
  .split at h
   .simp only[lV1,mJ1]at h
    obtain⟨_,_,_,rfl⟩:=h
    exact .refl _
   .split at h
    .split at h
     .split at h
      .split at h
       .cases h
        exact .refl _
       .cases h
      .cases h
     .cases h
    .split at h
     .simp only[lV1,mJ1]at h
      obtain⟨_,_,_,rfl⟩:=h
      exact .refl _
     .cases h
  .exact xY a h
theorem iO {l:Nat} {s s':Hp} {st:LoopState} {pend:Option IC} (h:endRound l s st pend=some s'):eL s s':=by
 obtain⟨_,_,_,_,_,_,_,rfl⟩:=gC h
 exact sE _ _ _
theorem uR (d:jO ex) {lim l:Nat} {args:List AV} {s s':Hp} {v:AV} (h:round ex lim l args s=some (v,s')):eL s s':=by
 unfold Sim.round at h
 split at h
 .split at h
  .split at h
   .rename_i σ f
    have h1:=d _ _ _ _ _ _ f
    split at h
    .have fin:∀{e:Ex} {τ:St} {id:Nat} {o:AO} {lim:Nat} {rd:Bool} {c:IC} {st:LoopState} {pend:Option IC} {b:AV},ex lim rd c {t:=σ.t,s:={h:=upd σ.s.h id o,n:=σ.s.n}}=some (e,τ)->
       (endRound l τ.s st pend).map (fun s=>(b,s))=some (v,s')->eL s s':=by
      intro e τ id o lim rd c st pend b hb a
      simp only[lV1,mJ1]at a
      obtain⟨g,a,_,rfl⟩:=a
      exact((h1.trans (sE _ id o)).trans (d _ _ _ _ _ _ hb)).trans (iO a)
     split at h
     .rename_i τ hb;exact fin hb h
     .rename_i τ hb;exact fin hb h
     .rename_i id τ hb;exact fin hb h
     .cases h
    .cases h
   .cases h
  .cases h
 .cases h
theorem fL (a:jO ex) {lim:Nat} {k:OpK} {xs:List AV} {s s':Hp} {v:AV} (h:step T ex lim k xs s=some (v,s')):eL s s':=by
 unfold step at h
 split at h
 .exact iZ a h
 .split at h
  .unfold callV at h
   split at h
   .exact iZ a h
   .exact uR a h
   .cases h
  .cases h
 .split at h
  .cases h
   exact uQ _ _
  .cases h
theorem gR (c:jO ex) {lim:Nat}:∀{os:List Sim.Op1} {σ a:St},runOps T ex lim os σ=some a->eL σ.s a.s
 |[],σ,a,h=>by
  simp only[runOps,lZ1]at h
  subst h
  exact .refl _
 |o::os,σ,a,h=>by
  simp only[runOps]at h
  split at h
  .split at h
   .split at h
    .rename_i b
     exact(fL c b).trans (gR c h)
    .cases h
   .cases h
  .have:=gR c h
   exact this
theorem mR {run:Hp->Option (AV×Hp)} (hr:∀s v s',run s=some (v,s')->eL s s') {a:List Nat} {xs:List AV} {s b:Hp} {v:AV} {W:List Nat} (h:rN run a xs s=some (v,b,W)):eL s b:=by
 obtain⟨s',w,h1,h2,rfl,_⟩:=iA h
 have hg:=hr _ _ _ h1
 exact⟨fun hw=>Wf.new (hw.updAll w) (hg.wf (hw.hide a)) hg.n,hg.n⟩
theorem dJ (c:jO ex) {lim:Nat} {before:List Nat}:∀{os:List Sim.Op1} {j:Nat} {fs:List Foot} {σ d:St} {a:List Foot},bN T ex lim before os j fs σ=some (d,a)->eL σ.s d.s
 |[],j,fs,σ,d,a,h=>by
  simp only[bN,lZ1,mJ1]at h
  obtain⟨rfl,_⟩:=h
  exact .refl _
 |o::os,j,fs,σ,d,a,h=>by
  simp only[bN]at h
  split at h
  .split at h
   .split at h
    .split at h
     .have:=dJ c h
      exact this
     .cases h
    .split at h
     .split at h
      .rename_i b
       exact(mR (fun _ _ _=>fL c) b).trans (dJ c h)
      .cases h
     .split at h
      .rename_i b
       exact(fL c b).trans (dJ c h)
      .cases h
   .cases h
  .have:=dJ c h
   exact this
theorem sF {σ:Hp}:eL σ {h:=popMark σ.h,n:=σ.n}:=⟨fun h=>h.pop,lW1 _⟩
theorem oR {σ:Hp}:eL σ {h:=.mark::σ.h,n:=σ.n}:=⟨fun h=>h,lW1 _⟩
theorem oS (T:Tab):∀d,jO (exec T d)
 |0,_,_,_,_,_,_,h=>by simp[exec]at h
 |d+1,lim,rd,c,σ,e,σ',h=>by
  have ih:=oS T d
  unfold exec at h
  split at h
  .cases h;exact .refl _
  .simp only[lV1,mJ1]at h
   obtain⟨τ,h,_,rfl⟩:=h
   exact gR ih h
  .split at h
   .rename_i hf
    split at h
    .cases h
     exact dJ ih hf
    .cases h
   .cases h
  .split at h
   .rename_i a
    exact(ih _ _ _ _ _ _ a).trans (ih _ _ _ _ _ _ h)
   .exact ih _ _ _ _ _ _ h
  .split at h
   .exact ih _ _ _ _ _ _ h
   .cases h
  .split at h
   .rename_i a
    split at h
    .cases h;exact ih _ _ _ _ _ _ a
    .cases h;exact ih _ _ _ _ _ _ a
   .exact ih _ _ _ _ _ _ h
  .split at h
   .rename_i a
    exact((oR.trans (ih _ _ _ _ _ _ a)).trans sF).trans (ih _ _ _ _ _ _ h)
   .rename_i a
    cases h
    exact(oR.trans (ih _ _ _ _ _ _ a)).trans sF
   .cases h
  .split at h
   .split at h
    .rename_i hc
     have h1:=iZ ih hc
     have h2:∀o:AO,eL σ.s {h:=.ob σ.s.n o::σ.s.h,n:=σ.s.n+1}:=fun o=>⟨fun h=>⟨by simp,h⟩,by simp⟩
     have f:=(h2 _).trans h1
     split at h
     .split at h
      .cases h
      .split at h
       .cases h
       .rename_i b
        have g:=f.trans (iO b)
        split at h<;>cases h<;>exact g
     .cases h
    .cases h
   .cases h
  .cases h;exact .refl _
  .cases h;exact .refl _
end
end Go.Sim
namespace Go.Sim
section
variable {P:Program} {F:Fence} {n:Nat} {b:Frame} {a:Act} {k:List Item} {cs:List Frame} {w:World} {Q:Exit->Act->World->Prop}
theorem dP {c:Code}:Go.step P (lone (b.atR a (.code (.scope c)::k)) cs w)=.next (lone (b.atR a (.code c::.inScope c::k)) cs w):=
 step_lone_go (by simp[stepG,stepG.exec,Frame.atR])
theorem qD {c:Code}:Go.step P (lone (b.atR a (.inScope c::k)) cs w)=.next (lone (b.atR a k) cs w):=
 step_lone_go (by simp[stepG,stepG.exec,Frame.atR])
theorem xZ {c:Code} (hg:∀l a w,¬Q (.goto l) a w) (h:c.wpIn F n P Q a w):(Code.scope c).wpIn F n P Q a w:=by
 intro b k cs j hb hr
 have h0:(lone (b.atR a (.code (.scope c)::k)) cs w).fenced P F:=fenced_calm hb hr rfl
 obtain⟨e,g,w₁,f,d⟩:=h b (.inScope c::k) cs j hb hr
 cases e with
 |normal=>exact⟨.normal,g,w₁,f,.head h0 dP (StepsIn.trans d (.one (fenced_calm hb hr rfl) qD))⟩
 |exit id=>
  have m:exitTo id (.inScope c::k)=exitTo id k:=by simp[exitTo]
  exact⟨.exit id,g,w₁,f,fun k' hk=>.head h0 dP (d.1 k' (by rw[m];exact hk)),
   fun i hk=>let⟨o,h1,h2⟩:=d.2 i (by rw[m];exact hk);⟨o,h1,.head h0 dP h2⟩⟩
 |goto l=>exact(hg _ _ _ f).elim
 |ret=>exact⟨_,g,w₁,f,.of_steps (.one h0 dP) d⟩
 |panic ch=>exact⟨_,g,w₁,f,.of_steps (.one h0 dP) d⟩
 |outgrown=>exact⟨_,g,w₁,f,.of_steps (.one h0 dP) d⟩
end
end Go.Sim
namespace Go.Sim
section
variable {T:Tab} {L L':Nat->Option AO} {lim n n':Nat} {k:OpK} {xs:List AV} {out:Out}
theorem dU {esz:Nat} {x:AV} {r:List (List AV)} (h:rowsOf L esz x=some r) (a:∀id ao,id∈idOf x->L id=some ao->L' id=some ao):rowsOf L' esz x=some r:=by
 unfold rowsOf at h
 split at h
 .simpa only[rowsOf]using h
 .simpa only[rowsOf]using h
 .simpa only[rowsOf]using h
 .simpa only[rowsOf]using h
 .split at h
  .rename_i hl
   simp only[rowsOf,a _ _ (by simp[idOf]) hl]
   exact h
  .cases h
 .cases h
theorem sG {x:AV} {r:List (AV×AV)} (h:entsOf L x=some r) (a:∀id ao,id∈idOf x->L id=some ao->L' id=some ao):entsOf L' x=some r:=by
 unfold entsOf at h
 split at h
 .exact h
 .split at h
  .rename_i hl
   simp only[entsOf,a _ _ (by simp[idOf]) hl]
   exact h
  .cases h
 .exact h
 .cases h
theorem oD {ty:TypeId} {esz:Nat} {s:AV} {new:List (List AV)} {o:Out} (h:appendTo L lim n ty esz s new=some o) (a:∀id ao,id∈idOf s->L id=some ao->L' id=some ao):appendTo L' lim n ty esz s new=some o:=by
 unfold appendTo at h
 split at h
 .simpa only[appendTo]using h
 .simpa only[appendTo]using h
 .simpa only[appendTo]using h
 .split at h
  .rename_i hl
   simp only[appendTo,a _ _ (by simp[idOf]) hl]
   exact h
  .cases h
 .cases h
theorem qE {esz:Nat} {lo hi mx:Bool} {x:AV} {g:List AV} {v:AV} (h:sliceOp L esz lo hi mx (x::g)=some v) (k:∀id ao,id∈idOf x->L id=some ao->L' id=some ao):sliceOp L' esz lo hi mx (x::g)=some v:=by
 have key:∀(L:Nat->Option AO),(∀a b c d e f,x≠.sl a b c d e f)->sliceOp L esz lo hi mx (x::g)=sliceOp L' esz lo hi mx (x::g):=by
  intro L i
  cases x<;>first|rfl|exact absurd rfl (i _ _ _ _ _ _)|(rename_i y;cases y<;>first|rfl|(rename_i a b c;cases a<;>cases b<;>cases c<;>rfl))
 by_cases i:∃a b c d e f,x=.sl a b c d e f
 .obtain ⟨z,id,ver,off,len,cap,rfl⟩:=i
  cases hl:L id with
  |none=>
   exfalso
   simp only[sliceOp,hl]at h
   split at h<;>cases h
  |some ao=>
   have j:=k id ao (by simp[idOf]) hl
   simp only[sliceOp,hl]at h
   simp only[sliceOp,j]
   exact h
 .rw [<-key L (fun a b c d e f e'=>i ⟨a,b,c,d,e,f,e'⟩)]
  exact h
theorem zW {ty:TypeId} {esz b:Nat} {zero:List Value} {zeros:Bool} {s x:AV} (h:doOp L lim n (.append ty esz b zero zeros) [s,x]=some out) (e:∀id ao,id∈idOf x->L id=some ao->L' id=some ao) (hs:∀id ao,id∈idOf s->L id=some ao->L' id=some ao):
  doOp L' lim n (.append ty esz b zero zeros) [s,x]=some out:=by
 simp only[doOp]at h ⊢
 split at h
 .rename_i new a
  have c:appRows L' esz zeros zero x=some new:=by
   cases zeros
   .simp only[appRows,mG1,nI1]at a ⊢
    exact dU a e
   .simp only[appRows,mW1]at a ⊢
    exact a
  split at h
  .rename_i o d
   simp only[c,oD d hs]
   exact h
  .cases h
 .cases h
theorem yA (h:doOp L lim n k xs=some out) (b:∀id ao,id∈(foot T k xs).rd\/id∈(foot T k xs).wr->L id=some ao->L' id=some ao):doOp L' lim n k xs=some out:=by
 unfold doOp at h
 split at h
 all_goals first|(simp only[doOp];exact h)|skip
 ·
  split at h
  .simpa only[doOp]using h
  .split at h
   .rename_i hl
    simp only[doOp,b _ _ (.inl (by simp[foot,idOf])) hl]
    exact h
   .cases h
  .cases h
 ·
  split at h
  .simpa only[doOp]using h
  .split at h
   .rename_i hl
    simp only[doOp,b _ _ (.inl (by simp[foot,idOf])) hl]
    exact h
   .cases h
  .cases h
 ·
  split at h
  .rename_i hc
   split at h
   .rename_i hl
    simp only[doOp,hc,b _ _ (.inr (by simp[foot,idOf])) hl]
    exact h
   .cases h
  .cases h
 ·
  split at h
  .rename_i hr
   simp only[doOp,dU hr (fun id ao a=>b id ao (.inl a))]
   exact h
  .cases h
 ·
  rename_i x
  simp only[lV1]at h
  obtain⟨v,hv,rfl⟩:=h
  cases xs with
  |nil=>simp[sliceOp]at hv
  |cons x bs=>simp only[doOp,qE hv (fun id ao a=>b id ao (.inl a)),mQ1]
 ·
  split at h
  .rename_i c
   split at h
   .rename_i es he
    simp only[doOp,c,mW1,sG he (fun id ao a=>b id ao (.inl a))]
    exact h
   .cases h
  .cases h
 ·
  split at h
  .split at h
   .rename_i hl
    simp only[doOp,b _ _ (.inr (by simp[foot,idOf])) hl]
    exact h
   .cases h
  .cases h
 ·
  split at h
  all_goals first|(simp only[doOp];exact h)|skip
  .split at h
   .rename_i hl
    simp only[doOp,b _ _ (.inl (by simp[foot,idOf])) hl]
    exact h
   .cases h
 .exact zW h (fun id ao a=>b id ao (.inl a)) (fun id ao a=>b id ao (.inr a))
 ·
  split at h
  .rename_i rows hr
   split at h
   .simp only[doOp,dU hr (fun id ao a=>b id ao (.inl a))]
    exact h
   .simp only[doOp,dU hr (fun id ao a=>b id ao (.inl a))]
    exact h
   .split at h
    .rename_i hl
     simp only[doOp,dU hr (fun id ao a=>b id ao (.inl a)),b _ _ (.inr (by simp[foot,idOf])) hl]
     exact h
    .cases h
   .cases h
  .cases h
 ·
  split at h
  .simpa only[doOp]using h
  .simpa only[doOp]using h
  .split at h
   .rename_i hl
    simp only[doOp,b _ _ (.inr (by simp[foot,idOf])) hl]
    exact h
   .cases h
  .cases h
theorem uS {ty:TypeId} {esz:Nat} {s:AV} {new:List (List AV)} {o:Out} {id:Nat} {ao:AO} (h:appendTo L lim n ty esz s new=some o) (a:o.up=some (id,ao)):id∈idOf s/\(L id).isSome=true:=by
 unfold appendTo at h
 split at h
 .split at h<;>cases h<;>cases a
 .split at h<;>cases h<;>cases a
 .split at h<;>cases h
  cases a
 .split at h
  .rename_i hl
   repeat' split at h
   all_goals cases h
   all_goals cases a
   all_goals exact⟨by simp[idOf],by rw[hl];rfl⟩
  .cases h
 .cases h
theorem yB {ty:TypeId} {esz:Nat} {s:AV} {new:List (List AV)} {o:Out} (h:appendTo L lim n ty esz s new=some o) (a:o.new=none):appendTo L lim n' ty esz s new=some o:=by
 unfold appendTo at h
 split at h
 .split at h
  .rename_i hc;cases h;simp only[appendTo,hc,mW1]
  .cases h;cases a
 .split at h
  .rename_i hc;cases h;simp only[appendTo,hc,mW1]
  .cases h;cases a
 .simpa only[appendTo]using h
 .split at h
  .rename_i hl
   simp only[appendTo,hl]
   split at h
   .rename_i hc
    rw[mA1 hc]
    split at h
    .rename_i h1;rw[mA1 h1];exact h
    .rename_i h1
     rw[lY1 h1]
     split at h
     .exact h
     .cases h
   .cases h
  .cases h
 .cases h
theorem zX {ty:TypeId} {esz b:Nat} {zero:List Value} {zeros:Bool} {s x:AV} (h:doOp L lim n (.append ty esz b zero zeros) [s,x]=some out):
  ∃new,appRows L esz zeros zero x=some new/\appendTo L lim n ty esz s new=some out/\∀n',appendTo L lim n' ty esz s new=some out->doOp L lim n' (.append ty esz b zero zeros) [s,x]=some out:=by
 simp only[doOp]at h
 split at h
 .rename_i new a
  split at h
  .rename_i o c
   have:o=out:=by
    split at h
    .split at h
     .cases h;rfl
     .cases h
    .cases h;rfl
   subst this
   refine⟨new,a,c,fun n' h'=>?_⟩
   simp only[doOp,a,h']
   exact h
  .cases h
 .cases h
theorem mS {id:Nat} {ao:AO} (h:doOp L lim n k xs=some out) (c:out.up=some (id,ao)):id∈(foot T k xs).wr/\(L id).isSome=true:=by
 have a:∀ty esz b zero zeros s x,k=.append ty esz b zero zeros->xs=[s,x]->id∈(foot T k xs).wr/\(L id).isSome=true:=by
  rintro ty esz b zero zeros s x rfl rfl
  obtain⟨new,h1,h2,_⟩:=zX h
  exact uS h2 c
 unfold doOp at h
 split at h
 all_goals first|exact a _ _ _ _ _ _ _ rfl rfl|skip
 all_goals clear a
 all_goals (repeat' split at h)
 all_goals first
  |(cases h;done)
  |(simp only[lV1]at h;obtain⟨_,_,rfl⟩:=h;cases c;done)
  |(cases h;cases c;done)
  |(have hl:= ‹L _=some _›;cases h;cases c;exact⟨by simp[foot,idOf],by rw[hl];rfl⟩)
theorem jM1 (h:doOp L lim n k xs=some out) (c:out.new=none):doOp L lim n' k xs=some out:=by
 have a:∀ty esz b zero zeros s x,k=.append ty esz b zero zeros->xs=[s,x]->doOp L lim n' k xs=some out:=by
  rintro ty esz b zero zeros s x rfl rfl
  obtain⟨new,h1,h2,d⟩:=zX h
  exact d n' (yB h2 c)
 unfold doOp at h
 split at h
 all_goals first|exact a _ _ _ _ _ _ _ rfl rfl|skip
 all_goals clear a
 all_goals first|(simp only[doOp];exact h)|skip
 all_goals (repeat' split at h)
 all_goals first
  |(cases h;done)
  |(simp only[lV1]at h;obtain⟨_,_,rfl⟩:=h;cases c;done)
  |(cases h;cases c;done)
end
end Go.Sim
namespace Go.Sim
theorem kJ {a:List Nat} {i:Nat}:∀{es:List Edge},(iL a es).testBit i=true->∃e∈es,Region.binds .any e=true/\(i=e.on\/(a.getD e.on 0).testBit i=true)
 |[],h=>by simp[iL]at h
 |e::es,h=>by
  simp only[iL]at h
  split at h
  .rename_i hb
   simp only[Nat.testBit_or,mP1]at h
   rcases h with(h|h)|h
   .rw [Nat.testBit_two_pow]at h
    exact⟨e,by simp,hb,.inl (by simp at h;exact h.symm)⟩
   .exact ⟨e,by simp,hb,.inr h⟩
   .obtain ⟨e',h1,h2⟩:=kJ h
    exact⟨e',by simp[h1],h2⟩
  .obtain ⟨e',h1,h2⟩:=kJ h
   exact⟨e',by simp[h1],h2⟩
theorem iP:∀(os:List Oper) (a:List Nat),∃tail,aW a os=a++tail/\tail.length=os.length/\
  ∀k o,os[k]? =some o->(aW a os).getD (a.length+k) 0=iL ((aW a os).take (a.length+k)) o.after.toList
 |[],a=>⟨[],by simp[aW],rfl,fun k o h=>by simp at h⟩
 |o::os,a=>by
  obtain⟨tail,h1,h2,b⟩:=iP os (a++[iL a o.after.toList])
  refine⟨iL a o.after.toList::tail,by simp[aW,h1],by simp[h2],fun k o' hk=>?_⟩
  cases k with
  |zero=>
   simp only[oA1,lZ1]at hk
   subst hk
   simp only[aW,h1,nY1]
   simp
  |succ k=>
   have:=b k o' (by simpa using hk)
   have e:(a++[iL a o.after.toList]).length+k=a.length+(k+1):=by simp;omega
   rw[e]at this
   exact this
theorem jA {ops:List Oper} (a:∀j o,ops[j]? =some o->∀e∈o.after.toList,Region.binds .any e=true->e.on<j) {D:Nat->Prop}
  (q:∀i oi,D i->ops[i]? =some oi->∀e∈oi.after.toList,Region.binds .any e=true->D e.on):∀(j:Nat) (o:Oper),ops[j]? =some o->(∀e∈o.after.toList,Region.binds .any e=true->D e.on)->
   ∀i,((aW [] ops).getD j 0).testBit i=true->D i:=by
 intro j
 induction j using Nat.strongRecOn with
 |_ j ih=>
  intro o k he i hi
  obtain⟨tail,h1,h2,m⟩:=iP ops []
  have l:=m j o k
  simp only[oK1,nO1]at l
  rw[l]at hi
  obtain⟨e,g,h,d⟩:=kJ hi
  rcases d with rfl|d
  .exact he e g h
  .have b:=a j o k e g h
   have r:j<ops.length:=(lX1.1 k).1
   have n:((aW [] ops).take j).getD e.on 0=(aW [] ops).getD e.on 0:=by
    simp only[List.getD_eq_getElem?_getD,mS1,b,mW1]
   rw[n]at d
   have c:ops[e.on]? =some ops[e.on]:=by simp
   exact ih e.on b _ c (fun e' p f=>q e.on _ (he e g h) c e' p f) i d
theorem mT {j:Nat} {o:Sim.Op1} {a:Nat}:∀{ps:List Sim.Op1} {b:Nat},vT j o a ps b=true->∀k p,ps[k]? =some p->b+k<j->
  a.testBit (b+k)=true\/((∀d,p.dst=some d->o.dst≠some d/\d∉o.reads)/\∀d,o.dst=some d->d∉p.reads)
 |[],b,h,k,p,hk,_=>by simp at hk
 |q::ps,b,h,k,p,hk,hlt=>by
  simp only[vT,lU1,mP1,mU1]at h
  obtain⟨h1,h2⟩:=h
  cases k with
  |zero=>
   simp only[oA1,lZ1]at hk
   subst hk
   rw[nY1]at hlt ⊢
   rcases h1 with(h1|h1)|h1
   .omega
   .exact .inl h1
   .refine .inr ⟨fun d hd=>?_,fun d hd=>?_⟩
    .have:=h1.1
     rw[hd]at this
     simpa using this
    .have:=h1.2
     rw[hd]at this
     simpa using this
  |succ k=>
   have:=mT h2 k p (by simpa using hk) (by omega)
   have e:b+1+k=b+(k+1):=by omega
   rwa [e]at this
def revF (ft:Nat->Foot):Nat->List Foot
 |0=>[]
 |j+1=>ft j::revF ft j
theorem fM {ft ft':Nat->Foot}:∀{j:Nat},(∀i,i<j->ft i=ft' i)->revF ft j=revF ft' j
 |0,_=>rfl
 |j+1,h=>by rw[revF,revF,h j (by omega),fM (fun i hi=>h i (by omega))]
theorem revF_length (ft:Nat->Foot):∀j,(revF ft j).length=j
 |0=>rfl
 |j+1=>by simp[revF,revF_length ft j]
section
variable (T:Tab) (ex:Nat->Bool->IC->St->Option (Ex×St))
def Stp (lim a m j:Nat) (o:Sim.Op1) (ft:Nat->Foot) (st:Nat->St) (v:Nat->AV):Prop:=
  (st (j+1)).t=put (st j).t o.dst (v j)/\
  ((wanted (st j).t o.guard=false/\v j=.undef/\ft j={}/\(st (j+1)).s=(st j).s)\/
   (wanted (st j).t o.guard=true/\∃xs,evs (st j).t o.xs=some xs/\(foot T o.k xs).all=1/\ft j=foot T o.k xs/\(st (j+1)).s=(st j).s/\
     ∃b,step T ex lim o.k xs {h:=hide (unseen a j (revF ft j)) (st j).s.h,n:=(st j).s.n+rsv (m-j)}=some (v j,b))\/
   (wanted (st j).t o.guard=true/\∃xs,evs (st j).t o.xs=some xs/\((foot T o.k xs).all≠1/\(foot T o.k xs).all≠3)/\ft j={foot T o.k xs with al:=List.range' (st j).s.n ((st (j+1)).s.n-(st j).s.n)}/\
     step T ex lim o.k xs (st j).s=some (v j,(st (j+1)).s))\/
   (wanted (st j).t o.guard=true/\∃xs W,evs (st j).t o.xs=some xs/\(foot T o.k xs).all=3/\ft j={wr:=W,al:=List.range' (st j).s.n ((st (j+1)).s.n-(st j).s.n),all:=1}/\
     rN (step T ex lim o.k xs) (unseen a j (revF ft j)) xs (st j).s=some (v j,(st (j+1)).s,W)))
variable {T ex}
theorem Stp.congr {lim a m j:Nat} {o:Sim.Op1} {ft ft':Nat->Foot} {st st':Nat->St} {v v':Nat->AV} (h:Stp T ex lim a m j o ft st v) (hf:∀i,i<=j->ft' i=ft i) (h1:st' j=st j) (h2:st' (j+1)=st (j+1)) (b:v' j=v j):
  Stp T ex lim a m j o ft' st' v':=by
 unfold Stp at *
 rw[h1,h2,b,hf j (lW1 _),fM (ft:=ft') (ft':=ft) (j:=j) (fun i hi=>hf i (by omega))]
 exact h
theorem wH {lim:Nat} {before:List Nat}:∀(os:List Sim.Op1) (j:Nat) (σ:St) (a:Nat->Foot) (n:St) (b:List Foot),bN T ex lim before os j (revF a j) σ=some (n,b)->
  ∃(st:Nat->St) (ft:Nat->Foot) (v:Nat->AV),(∀i,i<j->ft i=a i)/\st j=σ/\st (j+os.length)=n/\b=revF ft (j+os.length)/\
   ∀k o,os[k]? =some o->Stp T ex lim (before.getD (j+k) 0) (j+os.length) (j+k) o ft st v
 |[],j,σ,a,n,b,h=>by
  simp only[bN,lZ1,mJ1]at h
  obtain⟨rfl,rfl⟩:=h
  exact⟨fun _=>σ,a,fun _=>.undef,fun _ _=>rfl,rfl,rfl,rfl,fun k o h=>by simp at h⟩
 |o::os,j,σ,a,n,b,h=>by
  have rest:∀(s:St) (f:Foot) (x:AV),bN T ex lim before os (j+1) (f::revF a j) s=some (n,b)->
    (∀(st:Nat->St) (ft:Nat->Foot) (v:Nat->AV),st j=σ->st (j+1)=s->ft j=f->(∀i,i<j->ft i=a i)->v j=x->Stp T ex lim (before.getD j 0) (j+(os.length+1)) j o ft st v)->
    ∃(st:Nat->St) (ft:Nat->Foot) (v:Nat->AV),(∀i,i<j->ft i=a i)/\st j=σ/\st (j+(o::os).length)=n/\b=revF ft (j+(o::os).length)/\
     ∀k o',(o::os)[k]? =some o'->Stp T ex lim (before.getD (j+k) 0) (j+(o::os).length) (j+k) o' ft st v:=by
   intro s f x hr hs
   let l:Nat->Foot:=fun i=>if i=j then f else a i
   have r:f::revF a j=revF l (j+1):=by
    have h1:l j=f:=mA1 rfl
    rw[revF,h1,fM (ft:=l) (ft':=a) (fun i hi=>lY1 (by omega))]
   rw[r]at hr
   obtain⟨st,ft,v,h1,h2,w,y,z⟩:=wH os (j+1) s l n b hr
   have p:∀i,i<j->ft i=a i:=fun i hi=>(h1 i (by omega)).trans (lY1 (by omega))
   have q:ft j=f:=(h1 j (by omega)).trans (mA1 rfl)
   have hlen:j+(o::os).length=j+1+os.length:=by simp;omega
   refine⟨fun i=>if i=j then σ else st i,ft,fun i=>if i=j then x else v i,p,mA1 rfl,?_,?_,?_⟩
   .rw [hlen];exact(lY1 (by omega)).trans w
   .rw [hlen];exact y
   .intro k o' hk
    cases k with
    |zero=>
     simp only[oA1,lZ1]at hk
     subst hk
     exact hs _ ft _ (mA1 rfl) ((lY1 (by omega)).trans h2) q p (mA1 rfl)
    |succ k=>
     have u:=z k o' (by simpa using hk)
     have e:j+1+k=j+(k+1):=by omega
     rw[e,<-hlen]at u
     exact u.congr (fun _ _=>rfl) (lY1 (by omega)) (lY1 (by omega)) (lY1 (by omega))
  simp only[bN]at h
  split at h
  .rename_i hw
   split at h
   .rename_i xs m
    split at h
    .rename_i d
     split at h
     .rename_i v t g
      refine rest _ _ v h (fun st ft v' a1 a2 a3 a4 a5=>?_)
      unfold Stp
      rw[a1,a2,a5,a3,fM a4]
      refine⟨rfl,.inr (.inl ⟨hw,xs,m,d,rfl,rfl,t,?_⟩)⟩
      have e:j+(os.length+1)-j=os.length+1:=by omega
      rw[e]
      exact g
     .cases h
    .rename_i d
     split at h
     .rename_i c
      split at h
      .rename_i v t W g
       refine rest _ _ v h (fun st ft v' a1 a2 a3 a4 a5=>?_)
       unfold Stp
       rw[a1,a2,a5,a3,fM a4]
       exact⟨rfl,.inr (.inr (.inr ⟨hw,xs,W,m,c,rfl,g⟩))⟩
      .cases h
     .rename_i c
      split at h
      .rename_i v t g
       refine rest _ _ v h (fun st ft v' a1 a2 a3 a4 a5=>?_)
       unfold Stp
       rw[a1,a2,a5,a3]
       exact⟨rfl,.inr (.inr (.inl ⟨hw,xs,m,⟨d,c⟩,rfl,g⟩))⟩
      .cases h
   .cases h
  .rename_i hw
   refine rest _ _ .undef h (fun st ft v' a1 a2 a3 a4 a5=>?_)
   unfold Stp
   rw[a1,a2,a5,a3]
   exact⟨rfl,.inl ⟨by simpa using hw,rfl,rfl,rfl⟩⟩
theorem iQ {a:Nat} {f:Foot} {ft:Nat->Foot}:∀{j:Nat},drawOK.okAgainst a f (revF ft j) j=true->∀i,i<j->a.testBit i=true\/compat (ft i) f=true
 |0,_,i,hi=>by omega
 |j+1,h,i,hi=>by
  simp only[revF,drawOK.okAgainst,oF1,lU1,mP1]at h
  by_cases e:i=j
  .subst e;exact h.1
  .exact iQ h.2 i (by omega)
theorem mU {before:List Nat} {ft:Nat->Foot}:∀{m:Nat},drawOK before (revF ft m) m=true->∀j,j<m->∀i,i<j->(before.getD j 0).testBit i=true\/compat (ft i) (ft j)=true
 |0,_,j,hj=>by omega
 |m+1,h,j,hj=>by
  simp only[revF,drawOK,oF1,lU1]at h
  intro i hi
  by_cases e:j=m
  .subst e;exact iQ h.1 i hi
  .exact mU h.2 j (by omega) i hi
end
end Go.Sim
namespace Go.Sim
section
variable {P:Program} {T:Tab} {lim n:Nat} {g:Gh} {w:World} {r:Option Nat}
def zY (P:Program) (T:Tab) (ex:Nat->Bool->IC->St->Option (Ex×St)):Prop:=
 ∀(lim:Nat) (ops:Array Oper) (ios:List Sim.Op1) (σ b:St) (fs:List Foot) (id:Nat),mapO (eE P ops.toList) ops.toList=some ios->gK1 ops.toList ios (aW [] ops.toList)=true->
  bN T ex lim (aW [] ops.toList) ios 0 [] σ=some (b,fs)->drawOK (aW [] ops.toList) fs fs.length=true->
  ∀(r:Option Nat) (g:Gh) (a:Act) (w:World) (n base:Nat),TR g σ.t a.tmps.toList->Inv P g w σ.s->lim<=σ.s.n->base<=w.heap.size->dS base g w a.defers->
   (Code.region id ops true).wpIn (FW r) n P (uN P base lim g w σ.s .normal b) a w
theorem rX.trans {base:Nat} {s s' c:Hp} {t e:List AV} {g' b:Gh} {a' a:Act} {w' d:World} (h:rX P base lim g w s t s' g' a' w') (k:rX P base lim g' w' s' e c b a d):
  rX P base lim g w s e c b a d:=⟨k.t,k.inv,h.ext.trans k.ext,nC1 h.n k.n,k.marks⟩
theorem Inv.pop {s:Hp} (h:Inv P g w s):Inv P g w {h:=popMark s.h,n:=s.n}:=
 ⟨fun id ao a=>h.H id ao (wD h.wf a),h.W,h.dom,h.wf.pop⟩
theorem Inv.mark {s:Hp} (h:Inv P g w s):Inv P g w {h:=.mark::s.h,n:=s.n}:=⟨h.H,h.W,h.dom,h.wf⟩
theorem sH {base:Nat} {s s':Hp} {t:List AV} {g':Gh} {e:Ex} {d:St} {e':Exit} {a' a:Act} {w' b:World} (f:rX P base lim g w s t s' g' a' w') (h:uN P base lim g' w' s' e d e' a b):uN P base lim g w s e d e' a b:=by
 obtain⟨h1,c,h2⟩:=h
 exact⟨h1,c,f.trans h2⟩
theorem aG {D:Nat} (c:∀d,d<D->ExOK P (exec T d)) {x:Code} {f:IC} (l:comp P x=some f) {rd:Bool} {r:Option Nat} (hr:rd=r.isSome) {e:Ex} {m:St}:
  ∀(d:Nat),d<=D->∀(σ:St) (g:Gh) (a:Act) (w:World) (n base:Nat) (Q:Exit->Act->World->Prop),exec T d lim rd (.loop f) σ=some (e,m)->gQ r w->TR g σ.t a.tmps.toList->Inv P g w σ.s->lim<=σ.s.n->base<=w.heap.size->dS base g w a.defers->
   (∀e' a' w',uN P base lim g w σ.s e m e' a' w'->Q e' a' w')->Code.roundsIn (FW r) n P x Q d a w
 |0,_,σ,g,a,w,n,base,Q,h,_,_,_,_,_,_,_=>by simp[exec]at h
 |d+1,hd,σ,g,a,w,n,base,Q,h,hra,ht,hI,hl,hb,hm,hQ=>by
  simp only[exec]at h
  rw[roundsIn_succ]
  split at h
  .rename_i τ j
   refine wpIn_mono (c d (by omega) lim rd f _ .normal τ j x l r hr g a w n base hra ht hI.mark hl hb hm) ?_
   rintro o a1 w1 ⟨rfl,i,b⟩
   refine aG c l hr d (by omega) _ i a1 w1 n base Q h (hra.ext b.ext) b.t b.inv.pop (nC1 hl b.n) (nC1 hb b.ext.size) b.marks ?_
   intro e2 a2 w2 h2
   exact hQ _ _ _ (sH (s':={h:=popMark τ.s.h,n:=τ.s.n}) ⟨b.t,b.inv.pop,b.ext,b.n,b.marks⟩ h2)
  .rename_i p τ k j
   cases h
   refine wpIn_mono (c d (by omega) lim rd f _ e τ j x l r hr g a w n base hra ht hI.mark hl hb hm) ?_
   rintro o a1 w1 ⟨rfl,i,b⟩
   cases e with
   |normal=>exact(k rfl).elim
   |ret=>exact hQ _ _ _ ⟨rfl,i,b.t,b.inv.pop,b.ext,b.n,b.marks⟩
   |exit id=>exact hQ _ _ _ ⟨rfl,i,b.t,b.inv.pop,b.ext,b.n,b.marks⟩
  .cases h
theorem Inv.other {s:Hp} (a:Inv P g w s) (o:Obj):Inv P g (w.alloc o) s/\Ext lim g g w (w.alloc o):=by
 have c:∀b o',g.G b=some o'->b<w.heap.size:=fun b o' h=>(mH1.1 (a.W.still b o' h)).1
 refine⟨⟨fun id ao d=>(a.H id ao d).mono (.refl g) rfl (fun loc hl=>aZ w o (a.W.lt id loc hl)),⟨fun b o' h=>?_,fun id loc h=>?_,a.W.out,a.W.inj⟩,a.dom,a.wf⟩,
  ⟨.refl g,by simp,fun b hb _=>aZ w o hb,fun id loc h=>.inl ⟨loc,h,rfl⟩,fun _ _=>rfl,rfl,rfl,rfl,fun _ _ h=>.inl h,fun b R h=>⟨R,(aZ w o (mH1.1 h).1).trans h⟩⟩⟩
 .rw [aZ w o (c b o' h)]
  exact a.W.still b o' h
 .have:=a.W.lt id loc h
  simp
  omega
theorem dS.fresh {base:Nat}:∀{a:List Deferred},dS base g w a->∀d∈a,d.target≠.collected w.heap.size
 |[],_,d,hd=>by simp at hd
 |d0::a,⟨⟨r,h1,h2,h3,_,_,_⟩,h7⟩,d,hd=>by
  rcases mL1.1 hd with rfl|hd
  .intro e
   rw[h1]at e
   cases e
   have:=(mH1.1 h3).1
   omega
  .exact dS.fresh h7 d hd
theorem uT {b:Nat} {R:Loop} (hb:w.heap[b]? =some (.loop R)) (hr:R.state≠.busy):(Instr.endLoop b).run P w=.ok R.pending {w with heap:=w.heap.setIfInBounds b (.loop {R with state:=.exhausted})}:=by
 simp[Instr.endLoop,eK hb,iY hb,hr]
def exOf:Option IC->Option Ex
 |none=>some .normal
 |some .ret=>some .ret
 |some (.exit id)=>some (.exit id)
 |_=>none
theorem oT {ex:Nat->Bool->IC->St->Option (Ex×St)} (b8:ExOK P ex) (hT:dZ P T) {f:Operand} {of:IX} {ps:Array Tmp} {x y:Code} {cx cy:IC} (hf:opnd f=some of) (Z:comp P x=some cx) (hy:comp P y=some cy)
  {σ:St} {K:FuncId} {first cap:List AV} (b7:of.ev σ.t=some (.fn (.func K) first cap)) {v:AV} {s:Hp}
  (c:callF T ex lim K (first++[.fn (.yield σ.s.n) [] []]++cap) {h:=.ob σ.s.n (.loop .ready none σ.t ps.toList cx cy)::σ.s.h,n:=σ.s.n+1}=some (v,s))
  {st:LoopState} {pend:Option IC} {tm:List AV} {pm:List Nat} {as bd:IC} (hL:look s.h σ.s.n=some (.loop st pend tm pm as bd)) (d3:st≠.busy) {s':Hp} (U:endRound σ.s.n s .exhausted pend=some s')
  {e:Ex} (he:exOf pend=some e)
  {a:Act} {base:Nat} (ht:TR g σ.t a.tmps.toList) (hI:Inv P g w σ.s) (hl:lim<=σ.s.n) {w1:World} {mark:List Deferred} {D:Nat} (z:Inv P g w1 σ.s) (u:Ext lim g g w w1) (Y:dS base g w1 (mark++a.defers))
  (m:∀d,(Instr.enterLoop d a.tmps ps x y (FW r).round).run P w=.ok (w1.heap.size,mark) (w1.alloc (.loop {state:=.ready,pending:=none,fn:=d,tmps:=a.tmps,params:=ps,assign:=x,body:=y,defers:=D}))):
  (Code.rangeFunc f ps x y).wpIn (FW r) n P (uN P base lim g w σ.s e {t:=σ.t,s:=s'}) a w:=by
 refine wpIn_rangeFunc (fun d _=>?_)
 have X:=uP ht hf b7
 generalize hV:a.eval f=V at X
 cases X with
 |@fn _ _ _ _ F C l1 l2 v1 v2=>
  have k:∃ifn,T K=some ifn:=by
   unfold callF at c
   split at c
   .cases c
   .rename_i ifn hi;exact⟨ifn,hi⟩
  obtain⟨ifn,k⟩:=k
  obtain⟨fn,b9,b6⟩:=hT.fns K ifn k
  obtain⟨⟨cd,B⟩,J⟩:=mP b6
  have o:¬fn.name= "runtime.NumGoroutine":=by simpa using J
  let R:Loop:={state:=.ready,pending:=none,fn:=d,tmps:=a.tmps,params:=ps,assign:=x,body:=y,defers:=D}
  let w2:=w1.alloc (.loop R)
  have hn:g.ι σ.s.n=none:=by
   cases h:g.ι σ.s.n with
   |none=>rfl
   |some l=>have:=hI.dom σ.s.n (by rw[h];simp);omega
  let loc:Loc:={b:=w1.heap.size,esz:=1,ct:=1,ver:=0}
  obtain⟨j,b5⟩:=yX (lim:=lim) z.W (.loop R) σ.s.n loc rfl hn hl
  let g2:Gh:={G:=g.G,ι:=fun id=>if id=σ.s.n then some loc else g.ι id}
  have E:g2.ι σ.s.n=some loc:=mA1 rfl
  have b0:Inv P g2 w2 {h:=.ob σ.s.n (.loop .ready none σ.t ps.toList cx cy)::σ.s.h,n:=σ.s.n+1}:=by
   refine⟨fun id ao ha=>?_,b5,fun id h=>?_,⟨by simp,hI.wf⟩⟩
   .simp only[look]at ha
    split at ha
    .rename_i e
     subst e
     cases ha
     refine⟨loc,R,E,rfl,?_,rfl,rfl,ht.mono (u.le.trans j.le),by simp[R],Z,hy⟩
     show w2.heap[w1.heap.size]? =_
     exact heap_alloc_new w1 _
    .rename_i e
     refine(z.H id ao ha).mono j.le ?_ (fun l hl=>aZ w1 _ (z.W.lt id l hl))
     show(if id=σ.s.n then some loc else g.ι id)=g.ι id
     rw[lY1 (fun h=>e h.symm)]
   .show id<σ.s.n+1
    by_cases e:id=σ.s.n
    .omega
    .have h:g.ι id≠none:=by
      have:g2.ι id=g.ι id:=lY1 e
      rwa [this]at h
     have:=hI.dom id h
     omega
  have hF:TR g first F.toList:=⟨by simpa using l1,fun i x y Z hy=>v1 i x y Z (by simpa using hy)⟩
  have hC:TR g cap C.toList:=⟨by simpa using l2,fun i x y Z hy=>v2 i x y Z (by simpa using hy)⟩
  have q:g.le g2:=u.le.trans j.le
  have A:TR g2 (first++[.fn (.yield σ.s.n) [] []]++cap) (F++#[Value.func (.yield w1.heap.size) #[] #[]]++C).toList:=by
   have:=((hF.mono q).app (.cons (VR.yield (l:=σ.s.n) (b:=w1.heap.size) E (fun _=>rfl)) (.nil g2))).app (hC.mono q)
   simpa using this
  have d2:dS base g2 w2 (mark++a.defers):=Y.ext j
  refine⟨w1.heap.size,mark,w2,{target:=.fn (.func K) C,args:=F++#[Value.func (.yield w1.heap.size) #[] #[]]},w2,K,F++#[Value.func (.yield w1.heap.size) #[] #[]]++C,w2,m d,?_,fun _ _=>trivial,?_,fun h=>(by cases h),?_⟩
  .have S:a.eval (.const (.func (.yield w1.heap.size) #[] #[]))=.func (.yield w1.heap.size) #[] #[]:=rfl
   simp[resolve,rangeCall,hV,Deferred.ofValue,S]
  .simp [invoke,callFunc,b9,o,B]
  .refine CallsIn.mono (oP (lS b8 hT c A b0 (by show lim<=σ.s.n+1;omega))) ?_
   rintro e' w' ⟨V',M,rfl,k1,k2,k3,k4⟩
   obtain⟨a0,R3,m1,m2,m3,m4,m5,m6,m7,m8,m9⟩:=jL k2 hL
   have d1:a0=loc:=by
    obtain⟨loc',q1,q2,q3⟩:=k3.le.ι σ.s.n loc E
    rw[m1]at q1
    cases q1
    exact q3 m2.symm
   subst d1
   obtain⟨_,_,_,_,_,_,O,rfl⟩:=gC U
   rw[hL]at O
   cases O
   obtain⟨b4,N⟩:=qC (lim:=lim) (st':=.exhausted) (pend':=pend) (R':={R3 with state:=.exhausted}) k2 hL hl m1 m3 rfl m5 rfl rfl rfl rfl
   refine⟨_,_,uT m3 (by rw[m4];exact d3),?_⟩
   have p:Ext lim g M w {w' with heap:=w'.heap.setIfInBounds loc.b (.loop {R3 with state:=.exhausted})}:=((u.trans j).trans k3).trans N
   have L:rX P base lim g w σ.s σ.t {h:=upd s.h σ.s.n (.loop .exhausted pend tm pm as bd),n:=s.n} M {a with defers:=mark++a.defers} {w' with heap:=w'.heap.setIfInBounds loc.b (.loop {R3 with state:=.exhausted})}:=
    ⟨ht.mono p.le,b4,p,by have:σ.s.n+1<=s.n:=k4;show σ.s.n<=s.n;omega,(d2.ext k3).ext N⟩
   unfold exOf at he
   split at he
   .cases he
    have:R3.pending=none:=m5
    rw[this]at L ⊢
    exact⟨rfl,M,L⟩
   .cases he
    have:R3.pending=some .ret:=m5
    rw[this]at L ⊢
    exact wpIn_ret ⟨rfl,M,L⟩
   .cases he
    have:R3.pending=some (.exit _):=m5
    rw[this]at L ⊢
    exact wpIn_exit ⟨rfl,M,L⟩
   .cases he
theorem qF {ex:Nat->Bool->IC->St->Option (Ex×St)} (m:ExOK P ex) (K:dZ P T) {f:Operand} {of:IX} {ps:Array Tmp} {x y:Code} {E F:IC} (hf:opnd f=some of) (M:comp P x=some E) (hy:comp P y=some F)
  {σ:St} {H:FuncId} {first cap:List AV} (k:of.ev σ.t=some (.fn (.func H) first cap)) {v:AV} {s:Hp}
  (c:callF T ex lim H (first++[.fn (.yield σ.s.n) [] []]++cap) {h:=.ob σ.s.n (.loop .ready none σ.t ps.toList E F)::σ.s.h,n:=σ.s.n+1}=some (v,s))
  {st:LoopState} {pend:Option IC} {R:List AV} {O:List Nat} {as N:IC} (J:look s.h σ.s.n=some (.loop st pend R O as N)) (p:st≠.busy) {s':Hp} (d:endRound σ.s.n s .exhausted pend=some s')
  {e:Ex} (he:exOf pend=some e)
  {a:Act} {base:Nat} (C:gQ r w) (L:TR g σ.t a.tmps.toList) (i:Inv P g w σ.s) (hl:lim<=σ.s.n) (hb:base<=w.heap.size) (A:dS base g w a.defers):
  (Code.rangeFunc f ps x y).wpIn (FW r) n P (uN P base lim g w σ.s e {t:=σ.t,s:=s'}) a w:=by
 cases r with
 |none=>
  obtain⟨u,j⟩:=i.other (lim:=lim) (.deferred (some []))
  have B:dS base g (w.alloc (.deferred (some []))) ([{target:=.collected w.heap.size,args:=#[]}]++a.defers):=by
   refine⟨⟨w.heap.size,rfl,hb,heap_alloc_new w _,fun id l h=>?_,?_,A.fresh⟩,A.ext j⟩
   .have:=i.W.lt id l h
    omega
   .cases hG:g.G w.heap.size with
    |none=>rfl
    |some o=>
     have:=(mH1.1 (i.W.still _ o hG)).1
     omega
  refine oT (D:=w.heap.size) m K hf M hy k c J p d he L i hl u j B (fun q=>?_)
  simp only[FW,Instr.enterLoop]
  simp[newObj,Sem.run]
 |some b=>
  obtain⟨R0,z⟩:=C b rfl
  refine oT (w1:=w) (mark:=[]) (D:=R0.defers) m K hf M hy k c J p d he L i hl i (.refl lim g w) A (fun q=>?_)
  simp only[FW,Instr.enterLoop]
  simp[eK z,newObj]
  simp[Sem.run]
theorem wI (K:dZ P T) (Y:∀d,ExOK P (exec T d)->zY P T (exec T d)):∀D d,d<D->ExOK P (exec T d)
 |0,d,h=>by omega
 |D+1,d,hdD=>by
  have z:=wI K Y D
  by_cases W:d<D
  .exact z d W
  have V:d=D:=by omega
  subst V
  cases d with
  |zero=>exact fun lim rd c σ e F h=>by simp[exec]at h
  |succ d=>
  have ih:=z d (by omega)
  intro lim rd c σ e F h code hc r hr g a w n base b j m hl hb o
  cases code with
  |skip=>
   simp only[comp,lZ1]at hc
   subst hc
   simp only[exec,lZ1,mJ1]at h
   obtain⟨rfl,rfl⟩:=h
   exact wpIn_skip ⟨rfl,g,j,m,.refl lim g w,lW1 _,o⟩
  |region id ops dr=>
   simp only[comp]at hc
   split at hc
   .cases hc
   .rename_i ios G
    split at hc
    .rename_i A
     split at hc
     .rename_i O
      cases hc
      subst A
      simp only[exec]at h
      split at h
      .rename_i τ fs hf
       split at h
       .rename_i M
        cases h
        exact Y d ih lim ops ios σ F fs id G O hf M r g a w n base j m hl hb o
       .cases h
      .cases h
     .cases hc
    .rename_i A
     cases hc
     have A:dr=false:=by simpa using A
     subst A
     simp only[exec,lV1,mJ1]at h
     obtain⟨τ,h,rfl,rfl⟩:=h
     refine wpIn_region ?_
     rw[List.range_eq_range',<-Array.length_toList]
     exact mQ ih K ops.toList ios 0 σ τ g w a G (by simp) h j m hl o (fun g' a' w' k=>⟨rfl,g',k⟩)
  |seq x y=>
   simp only[comp]at hc
   split at hc
   .rename_i u R p hy
    cases hc
    simp only[exec]at h
    refine wpIn_seq ?_
    split at h
    .rename_i τ L
     refine wpIn_mono (ih lim rd u σ .normal τ L x p r hr g a w n base b j m hl hb o) ?_
     rintro S a1 w1 ⟨rfl,E,k⟩
     refine wpIn_mono (ih lim rd R τ e F h y hy r hr E a1 w1 n base (b.ext k.ext) k.t k.inv (nC1 hl k.n) (nC1 hb k.ext.size) k.marks) ?_
     intro e2 a2 w2 h2
     exact sH k h2
    .rename_i H
     refine wpIn_mono (ih lim rd u σ e F h x p r hr g a w n base b j m hl hb o) ?_
     rintro S a1 w1 ⟨rfl,E,k⟩
     cases e with
     |normal=>exact absurd h (H _)
     |ret=>exact⟨rfl,E,k⟩
     |exit id=>exact⟨rfl,E,k⟩
   .cases hc
  |cond c x y=>
   simp only[comp]at hc
   split at hc
   .rename_i oc u R N p hy
    cases hc
    simp only[exec]at h
    split at h
    .rename_i t C
     have hv:=(uP j N C).bool
     refine wpIn_cond hv ?_
     cases t
     .exact ih lim rd R σ e F h y hy r hr g a w n base b j m hl hb o
     .exact ih lim rd u σ e F h x p r hr g a w n base b j m hl hb o
    .cases h
   .cases hc
  |block id x=>
   simp only[comp,lV1]at hc
   obtain⟨u,p,rfl⟩:=hc
   simp only[exec]at h
   refine wpIn_block ?_
   split at h
   .rename_i i τ L
    refine wpIn_mono (ih lim rd u σ (.exit i) τ L x p r hr g a w n base b j m hl hb o) ?_
    rintro S a1 w1 ⟨rfl,E,k⟩
    simp only[Ex.toExit,Exit.inBlock]
    split at h
    .rename_i hi
     cases h
     rw[mA1 hi]
     exact⟨rfl,E,k⟩
    .rename_i hi
     cases h
     rw[lY1 hi]
     exact⟨rfl,E,k⟩
   .rename_i H
    refine wpIn_mono (ih lim rd u σ e F h x p r hr g a w n base b j m hl hb o) ?_
    rintro S a1 w1 ⟨rfl,E,k⟩
    cases e with
    |normal=>exact⟨rfl,E,k⟩
    |ret=>exact⟨rfl,E,k⟩
    |exit id=>exact absurd h (H _ _)
  |loop x=>
   simp only[comp,lV1]at hc
   obtain⟨u,p,rfl⟩:=hc
   exact wpIn_loop_rounds (d+1) (aG (D:=d+1) z p hr (d+1) (lW1 _) σ g a w n base _ h b j m hl hb o (fun _ _ _ h=>h))
  |rangeFunc f ps x y=>
   simp only[comp]at hc
   split at hc
   .rename_i of u R N p hy
    cases hc
    simp only[exec]at h
    split at h
    .rename_i gf first cap C
     split at h
     .rename_i v s q
      split at h
      .rename_i st pend tm pm as Z U
       split at h
       .cases h
       .rename_i J
        split at h
        .cases h
        .rename_i s' B
         split at h
         .cases h
          exact qF ih K N p hy C q U J B rfl b j m hl hb o
         .cases h
          exact qF ih K N p hy C q U J B rfl b j m hl hb o
         .cases h
          exact qF ih K N p hy C q U J B rfl b j m hl hb o
         .cases h
      .cases h
     .cases h
    .cases h
   .cases hc
  |exit id=>
   simp only[comp,lZ1]at hc
   subst hc
   simp only[exec,lZ1,mJ1]at h
   obtain⟨rfl,rfl⟩:=h
   exact wpIn_exit ⟨rfl,g,j,m,.refl lim g w,lW1 _,o⟩
  |ret=>
   simp only[comp,lZ1]at hc
   subst hc
   simp only[exec,lZ1,mJ1]at h
   obtain⟨rfl,rfl⟩:=h
   exact wpIn_ret ⟨rfl,g,j,m,.refl lim g w,lW1 _,o⟩
  |scope x=>
   simp only[comp,lV1]at hc
   obtain⟨u,p,rfl⟩:=hc
   simp only[exec]at h
   refine xZ (fun l a w X=>by obtain⟨X,_⟩:=X;cases e<;>cases X) ?_
   split at h
   .rename_i τ L
    have:e=.normal/\F=τ:=by
     cases d with
     |zero=>simp[exec]at h
     |succ d=>simp only[exec,lZ1,mJ1]at h;exact⟨h.1.symm,h.2.symm⟩
    obtain⟨rfl,rfl⟩:=this
    exact ih lim rd u σ .normal _ L x p r hr g a w n base b j m hl hb o
   .exact ih lim rd u σ e F h x p r hr g a w n base b j m hl hb o
  |label l=>
   simp only[comp,lZ1]at hc
   subst hc
   simp only[exec,lZ1,mJ1]at h
   obtain⟨rfl,rfl⟩:=h
   exact wpIn_label ⟨rfl,g,j,m,.refl lim g w,lW1 _,o⟩
  |_=>simp[comp]at hc
theorem gX1 (b:dZ P T) (a:∀d,ExOK P (exec T d)->zY P T (exec T d)) (d:Nat):ExOK P (exec T d):=wI b a (d+1) d (by omega)
end
end Go.Sim
namespace Go.Sim
theorem zZ (T:Tab) (k:OpK) (xs:List AV):(foot T k xs).al=[]:=by
 unfold foot
 split<;>rfl
theorem lU (T:Tab) (k:OpK) (xs:List AV):(foot T k xs).all<=3/\((foot T k xs).all≠0->(foot T k xs).rd=[]/\(foot T k xs).wr=[]):=by
 unfold foot
 split<;>first
  |exact⟨by simp,fun h=>absurd rfl h⟩
  |(refine⟨?_,fun _=>⟨rfl,rfl⟩⟩;(repeat' split)<;>simp_all)
theorem jP {T:Tab} {k:OpK} {xs:List AV} (h:(foot T k xs).all=0):(∀f,k≠.callF f)/\k≠.callV:=by
 constructor
 .rintro f rfl
  simp only[foot]at h
  split at h
  .split at h
   .cases h
   .split at h<;>cases h
  .cases h
 .rintro rfl
  cases xs with
  |nil=>simp[foot]at h
  |cons x xs=>
   simp only[foot]at h
   split at h
   .split at h
    .split at h
     .cases h
     .split at h<;>cases h
    .cases h
   .cases h
theorem kK {T:Tab} {ex:Nat->Bool->IC->St->Option (Ex×St)} {lim:Nat} {k:OpK} {xs:List AV} {s s':Hp} {v:AV} (h:step T ex lim k xs s=some (v,s')) (h0:(foot T k xs).all=0):
  ∃out,doOp (look s.h) lim s.n k xs=some out/\v=out.v/\s'=out.apply s:=by
 obtain⟨h1,h2⟩:=jP h0
 unfold step at h
 split at h
 .exact absurd rfl (h1 _)
 .exact absurd rfl h2
 .split at h
  .rename_i o a
   cases h
   exact⟨o,a,rfl,rfl⟩
  .cases h
theorem oU {out:Out} {s:Hp} (a:∀i ob,out.up=some (i,ob)->(look s.h i).isSome=true) (id:Nat):look (out.apply s).h id=out.after (look s.h) s.n id:=by
 have hb:look (match out.up with|some (i,ob)=>upd s.h i ob|none=>s.h) id=out.base (look s.h) id:=by
  unfold Out.base
  cases hu:out.up with
  |none=>rfl
  |some p=>
   obtain⟨i,ob⟩:=p
   simp only[look_upd]
   have:=a i ob hu
   by_cases e:id=i
   .subst e;simp[this]
   .simp [e]
 unfold Out.apply Out.after
 cases hn:out.new with
 |none=>exact hb
 |some ob=>
  simp only[look]
  by_cases e:s.n=id
  .rw [mA1 e,mA1 e.symm]
  .rw [lY1 e,lY1 (fun h=>e h.symm)];exact hb
theorem kL (out:Out) (s:Hp):(out.apply s).n=if out.new.isSome then s.n+1 else s.n:=by
 unfold Out.apply
 cases out.new<;>rfl
theorem dR {f:Foot} (h:f.isE=true):f.rd=[]/\f.wr=[]/\f.al=[]/\f.all=0:=by
 simp only[Foot.isE,lU1,List.isEmpty_iff]at h
 exact⟨h.1.1.1,h.1.1.2,h.1.2,mI1 h.2⟩
theorem qG {f:Foot} {id:Nat} (h:id∈f.rd\/id∈f.wr):f.isE=false:=by
 cases hE:f.isE with
 |false=>rfl
 |true=>obtain⟨a,b,_⟩:=dR hE;rw[a,b]at h;simp at h
theorem qH {f:Foot} {id:Nat} (h:id∈f.al):f.isE=false:=by
 cases hE:f.isE with
 |false=>rfl
 |true=>obtain⟨_,_,c,_⟩:=dR hE;rw[c]at h;simp at h
theorem jQ {f:Foot} (h:f.all≠0):f.isE=false:=by
 cases hE:f.isE with
 |false=>rfl
 |true=>exact absurd (dR hE).2.2.2 h
theorem cone {i j:Foot} (h:i.all+j.all<=1\/i.isE=true\/j.isE=true) (a:j.isE=false):i.all<=1:=by
 rcases h with h|h|h
 .omega
 .have:=(dR h).2.2.2;omega
 .rw [a]at h;cases h
theorem yC {i j:Foot} (h:i.all+j.all<=1\/i.isE=true\/j.isE=true) (hi:i.isE=false):j.all<=1:=by
 rcases h with h|h|h
 .omega
 .rw [hi]at h;cases h
 .have:=(dR h).2.2.2;omega
theorem dE {i j:Foot} (h:compat0 i j=true):compat i j=true:=by simp[compat,h]
theorem bJ {i j:Foot} (h:compat i j=true):(i.all+j.all<=1\/i.isE=true\/j.isE=true)/\(∀x∈i.wr,x∉j.rd/\x∉j.wr)/\(∀x∈j.wr,x∉i.rd)/\(∀x∈i.al,x∉j.rd/\x∉j.wr)/\(i.all=0\/j.wr=[])/\(j.all=0\/i.wr=[]):=by
 simp only[compat,mP1]at h
 rcases h with(h|h)|h
 .obtain ⟨a,b,c,d⟩:=dR h
  rw[a,b,c,d]
  exact⟨.inr (.inl h),fun x e=>by simp at e,fun x _ e=>by simp at e,fun x e=>by simp at e,.inl rfl,.inr rfl⟩
 .obtain ⟨a,b,c,d⟩:=dR h
  rw[a,b,d]
  exact⟨.inr (.inr h),fun x _=>⟨fun e=>by simp at e,fun e=>by simp at e⟩,fun x e=>by simp at e,fun x _=>⟨fun e=>by simp at e,fun e=>by simp at e⟩,.inr rfl,.inl rfl⟩
 .simp only[compat0,lU1,mU1,mB1,mO1,mP1,nT1,List.isEmpty_iff,mX1,nF1]at h
  obtain⟨⟨⟨⟨⟨h1,h2⟩,f⟩,g⟩,k⟩,l⟩:=h
  exact⟨.inl h1,h2,f,g,k,l⟩
theorem iC {a:Nat} {ft:Nat->Foot} {id:Nat}:∀{j:Nat},∀i,i<j->a.testBit i=false->id∈(ft i).al->id∈unseen a j (revF ft j)
 |0,i,hi,_,_=>by omega
 |j+1,i,hi,hm,hid=>by
  simp only[revF,unseen,oF1,oJ1]
  by_cases e:i=j
  .subst e
   left
   rw[hm]
   simpa using hid
  .exact .inr (iC i (by omega) hm hid)
theorem sI {l l':List AV}:∀{xs:List IX},(∀t,.t t∈xs->l[t]? =l'[t]?)->evs l xs=evs l' xs
 |[],_=>rfl
 |x::xs,h=>by
  have h1:x.ev l=x.ev l':=by
   cases x with
   |t i=>exact h i (by simp)
   |c v=>rfl
  simp only[evs,h1,sI (xs:=xs) (fun t a=>h t (by simp[a]))]
theorem sJ {l l':List AV} {a:Option (Nat×Bool)} (h:∀i b,a=some (i,b)->l[i]? =l'[i]?):wanted l a=wanted l' a:=by
 cases a with
 |none=>rfl
 |some p=>
  obtain⟨i,b⟩:=p
  simp only[Sim.wanted,h i b rfl]
theorem oV (l:List AV) (d:Option Nat) (v:AV):(put l d v).length=l.length:=by
 cases d<;>simp[put]
theorem kM {l:List AV} {d:Option Nat} {v:AV} {t:Nat} (h:d≠some t):(put l d v)[t]? =l[t]? :=by
 cases d with
 |none=>rfl
 |some i=>simp only[put,mN1];rw[lY1 (fun e=>h (by rw[e]))]
theorem dP1 {l:List AV} {d a:Option Nat} {v v':AV} (h:∀t,d=some t->a≠some t):put (put l d v) a v'=put (put l a v') d v:=by
 cases d with
 |none=>rfl
 |some i=>
  cases a with
  |none=>rfl
  |some j=>exact List.set_comm _ _ (fun e=>h i rfl (by rw[e]))
structure Reg (P:Program) (T:Tab) (ex:Nat->Bool->IC->St->Option (Ex×St)) (lim:Nat) (ops:Array Oper) (ios:List Sim.Op1) (st:Nat->St) (ft:Nat->Foot) (v:Nat->AV):Prop where
 comp:mapO (eE P ops.toList) ops.toList=some ios
 back:∀j o,ops.toList[j]? =some o->∀e∈o.after.toList,Region.binds .any e=true->e.on<j
 tmps:∀j o,ios[j]? =some o->∀i p,i<j->ios[i]? =some p->((aW [] ops.toList).getD j 0).testBit i=true\/((∀d,p.dst=some d->o.dst≠some d/\d∉o.reads)/\∀d,o.dst=some d->d∉p.reads)
 step:∀j o,ios[j]? =some o->Stp T ex lim ((aW [] ops.toList).getD j 0) ios.length j o ft st v
 com:∀j,j<ios.length->∀i,i<j->((aW [] ops.toList).getD j 0).testBit i=true\/compat (ft i) (ft j)=true
 gr:jO ex
 wf0:Wf (st 0).s.h (st 0).s.n
def tch (ft:Nat->Foot) (j id:Nat):Bool:=(ft j).all==2||(ft j).wr.contains id||(ft j).al.contains id
theorem tchE {ft:Nat->Foot} {j id:Nat} (h:(ft j).isE=true):tch ft j id=false:=by
 obtain⟨_,b,c,d⟩:=dR h
 simp[tch,b,c,d]
def cont (st:Nat->St) (ft:Nat->Foot) (S:Nat->Bool):Nat->Nat->Option AO
 |0,id=>look (st 0).s.h id
 |j+1,id=>if S j&&tch ft j id then look (st (j+1)).s.h id else cont st ft S j id
def kN (ios:List Sim.Op1) (j:Nat):Option Nat:=(ios[j]?).bind (·.dst)
def tl (ios:List Sim.Op1) (st:Nat->St) (v:Nat->AV) (S:Nat->Bool):Nat->List AV
 |0=>(st 0).t
 |j+1=>if S j then put (tl ios st v S j) (kN ios j) (v j)else tl ios st v S j
section
variable {P:Program} {T:Tab} {ex:Nat->Bool->IC->St->Option (Ex×St)} {lim:Nat} {ops:Array Oper} {ios:List Sim.Op1} {st:Nat->St} {ft:Nat->Foot} {v:Nat->AV}
theorem Reg.get (R:Reg P T ex lim ops ios st ft v) {j:Nat} (h:j<ios.length):∃io o,ios[j]? =some io/\ops.toList[j]? =some o/\eE P ops.toList o=some io:=by
 obtain⟨h1,h2⟩:=bH R.comp
 obtain⟨o,a,b⟩:=h2 j ios[j] (by simp[h])
 exact⟨ios[j],o,by simp[h],a,b⟩
theorem Reg.size (R:Reg P T ex lim ops ios st ft v):ios.length=ops.size:=by
 obtain⟨h1,h2⟩:=bH R.comp
 simpa using h1
theorem Reg.grows (R:Reg P T ex lim ops ios st ft v) {j:Nat} (h:j<ios.length):eL (st j).s (st (j+1)).s:=by
 obtain⟨io,o,h1,_,_⟩:=R.get h
 obtain⟨_,h2⟩:=R.step j io h1
 rcases h2 with⟨_,_,_,a⟩|⟨_,xs,_,_,_,a,_⟩|⟨_,xs,_,_,_,a⟩|⟨_,xs,W,_,_,_,a⟩
 .rw [a];exact .refl _
 .rw [a];exact .refl _
 .exact fL R.gr a
 .exact mR (fun _ _ _=>fL R.gr) a
theorem Reg.mono (R:Reg P T ex lim ops ios st ft v) {i:Nat}:∀{j:Nat},i<=j->j<=ios.length->(st i).s.n<=(st j).s.n
  | 0, h, _ => by have:i=0:=by omega
                  subst this;exact lW1 _
  |j+1,h,hm=>by
    by_cases e:i=j+1
    .subst e;exact lW1 _
    .exact nC1 (R.mono (i:=i) (j:=j) (by omega) (by omega)) (R.grows (by omega)).n
theorem Reg.wf (R:Reg P T ex lim ops ios st ft v):∀{j:Nat},j<=ios.length->Wf (st j).s.h (st j).s.n
 |0,_=>R.wf0
 |j+1,h=>(R.grows (by omega)).wf (R.wf (by omega))
theorem Reg.al (R:Reg P T ex lim ops ios st ft v) {j id:Nat} (h:j<ios.length):id∈(ft j).al↔(st j).s.n<=id/\id<(st (j+1)).s.n:=by
 obtain⟨io,o,h1,_,_⟩:=R.get h
 obtain⟨_,h2⟩:=R.step j io h1
 rcases h2 with⟨_,_,a,b⟩|⟨_,xs,_,_,a,b,_⟩|⟨_,xs,_,h5,a,b⟩|⟨_,xs,W,_,h5,a,b⟩
 .rw [a,b];simp
 .rw [a,b,zZ];simp
 .rw [a]
  simp only[List.mem_range'_1]
  have:=(R.grows h).n
  omega
 .rw [a]
  simp only[List.mem_range'_1]
  have:=(R.grows h).n
  omega
theorem Reg.all (R:Reg P T ex lim ops ios st ft v) {j:Nat} (h:j<ios.length):(ft j).all<=2:=by
 obtain⟨io,o,h1,_,_⟩:=R.get h
 obtain⟨_,h2⟩:=R.step j io h1
 rcases h2 with⟨_,_,a,b⟩|⟨_,xs,_,h5,a,b,_⟩|⟨_,xs,_,h5,a,b⟩|⟨_,xs,W,_,h5,a,b⟩
 .rw [a];simp
 .rw [a];omega
 .rw [a]
  have:=(lU T io.k xs).1
  have:=h5.2
  simp only
  omega
 .rw [a];simp
theorem Reg.keep (R:Reg P T ex lim ops ios st ft v) {j id:Nat} (h:j<ios.length) (b:tch ft j id=false):look (st (j+1)).s.h id=look (st j).s.h id:=by
 obtain⟨io,o,h1,_,_⟩:=R.get h
 obtain⟨_,h2⟩:=R.step j io h1
 rcases h2 with⟨_,_,d,c⟩|⟨_,xs,_,_,d,c,_⟩|⟨_,xs,_,h5,d,c⟩|⟨_,xs,W,_,h5,d,c⟩
 .rw [c]
 .rw [c]
 .have z:=(lU T io.k xs).1
  simp only[tch,nZ1,oB1,ne_eq,mX1,nF1]at b
  have f:=b.2
  rw[R.al h]at f
  rw[d]at b
  have h0:(foot T io.k xs).all=0:=by
   have a1:¬(foot T io.k xs).all=2:=b.1.1
   have:=h5.1
   have:=h5.2
   omega
  obtain⟨out,r,_,hs⟩:=kK c h0
  rw[hs,oU (fun i ob g=>(mS (T:=T) r g).2)]
  have l:=kL out (st j).s
  rw[<-hs]at l
  unfold Out.after Out.base
  cases hnew:out.new with
  |none=>
   simp only
   cases g:out.up with
   |none=>rfl
   |some p=>
    obtain⟨i,ob⟩:=p
    have:=(mS (T:=T) r g).1
    simp only
    rw[lY1 (fun e=>b.1.2 (by rw[e];exact this))]
  |some ob'=>
   rw[hnew]at l
   simp only[oE1,mW1]at l
   simp only
   rw[lY1 (by omega)]
   cases g:out.up with
   |none=>rfl
   |some p=>
    obtain⟨i,ob⟩:=p
    have:=(mS (T:=T) r g).1
    simp only
    rw[lY1 (fun e=>b.1.2 (by rw[e];exact this))]
 .simp only[tch,d,nZ1,oB1,ne_eq,mX1,nF1,List.mem_range'_1]at b
  obtain⟨⟨_,hw⟩,f⟩:=b
  obtain⟨s',w,A,B,x,y,_⟩:=iA c
  have l:=(R.grows h).n
  have t:=R.wf (j:=j+1) (by omega)
  by_cases q:id<(st j).s.n
  .rw [x]
   simp only
   rw[mO q,iN]
   rw[<-y]
   exact hw
  .have m:(st (j+1)).s.n<=id:=by omega
   have a:∀{h:List Ent} {n:Nat},Wf h n->n<=id->look h id=none:=fun hw u=>by
    cases hl:look _ id with
    |none=>rfl
    |some o=>have:=hw.lt hl;omega
   rw[a t m,a (R.wf (j:=j) (by omega)) (by omega)]
theorem uU (R:Reg P T ex lim ops ios st ft v) {S:Nat->Bool} {id:Nat}:∀{j:Nat},j<=ios.length->(∀i,i<j->tch ft i id=true->S i=true)->cont st ft S j id=look (st j).s.h id
 |0,_,_=>rfl
 |j+1,hm,h=>by
  simp only[cont]
  cases ht:tch ft j id with
  |true=>simp[h j (by omega) ht]
  |false=>
   simp only[Bool.and_false,mG1,nI1]
   rw[uU R (by omega) (fun i hi=>h i (by omega)),R.keep (by omega) ht]
theorem sK {S:Nat->Bool} {id j:Nat}:∀{m:Nat},j<=m->(∀i,j<=i->i<m->S i=true->tch ft i id=false)->cont st ft S m id=cont st ft S j id
  | 0, hj, _ => by have:j=0:=by omega
                   subst this;rfl
  |m+1,hj,h=>by
    by_cases e:j=m+1
    .subst e;rfl
    . simp only[cont]
      have h1:¬((S m&&tch ft m id)=true):=by
        intro h2
        simp only[lU1]at h2
        rw[h m (by omega) (by omega) h2.1]at h2
        cases h2.2
      rw[lY1 h1]
      exact sK (by omega) (fun i hi a=>h i hi (by omega))
theorem jN1 {S S':Nat->Bool} {id j:Nat} {ao:AO} (a:∀i,j<i->S' i=S i) (h0:cont st ft S' (j+1) id=some ao->cont st ft S (j+1) id=some ao):∀{m:Nat},j<m->cont st ft S' m id=some ao->cont st ft S m id=some ao
 |0,hj,_=>by omega
 |m+1,hj,h=>by
  by_cases e:j=m
  .subst e;exact h0 h
  .simp only[cont]at h ⊢
   rw[a m (by omega)]at h
   split at h
   .rename_i hc;rw[mA1 hc];exact h
   .rename_i hc;rw[lY1 hc];exact jN1 a h0 (by omega) h
theorem oW {S S':Nat->Bool} {id:Nat}:∀{j:Nat},(∀i,i<j->S' i=S i)->cont st ft S' j id=cont st ft S j id
 |0,_=>rfl
 |j+1,h=>by simp only[cont,h j (by omega),oW (j:=j) (fun i hi=>h i (by omega))]
theorem mV (R:Reg P T ex lim ops ios st ft v) {S:Nat->Bool}:∀{j:Nat},j<=ios.length->(tl ios st v S j).length=(st j).t.length
 |0,_=>rfl
 |j+1,h=>by
  obtain⟨io,o,h1,_,_⟩:=R.get (j:=j) (by omega)
  rw[(R.step j io h1).1,oV]
  simp only[tl]
  split
  .rw [oV];exact mV R (by omega)
  .exact mV R (by omega)
theorem tlA (R:Reg P T ex lim ops ios st ft v) {S:Nat->Bool} {t:Nat}:∀{j:Nat},j<=ios.length->(∀i,i<j->kN ios i=some t->S i=true)->(tl ios st v S j)[t]? =(st j).t[t]?
 |0,_,_=>rfl
 |j+1,hm,h=>by
  obtain⟨io,o,h1,_,_⟩:=R.get (j:=j) (by omega)
  have a:=(R.step j io h1).1
  have hd:kN ios j=io.dst:=by simp[kN,h1]
  have ih:=tlA R (S:=S) (t:=t) (j:=j) (by omega) (fun i hi=>h i (by omega))
  have hl:=mV R (S:=S) (j:=j) (by omega)
  simp only[tl,a]
  by_cases e:io.dst=some t
  .rw [h j (by omega) (hd.trans e)]
   simp only[mW1,hd,e,put,mN1,hl]
  .rw [kM e]
   split
   .rw [hd,kM e];exact ih
   .exact ih
theorem tlB {S:Nat->Bool} {t j:Nat}:∀{m:Nat},j<=m->(∀i,j<=i->i<m->S i=true->kN ios i≠some t)->(tl ios st v S m)[t]? =(tl ios st v S j)[t]?
  | 0, hj, _ => by have:j=0:=by omega
                   subst this;rfl
  |m+1,hj,h=>by
    by_cases e:j=m+1
    .subst e;rfl
    . simp only[tl]
      split
      . rename_i hs
        rw[kM (h m (by omega) (by omega) hs)]
        exact tlB (by omega) (fun i hi a=>h i hi (by omega))
      .exact tlB (by omega) (fun i hi a=>h i hi (by omega))
theorem wJ {S S':Nat->Bool}:∀{j:Nat},(∀i,i<j->S' i=S i)->tl ios st v S' j=tl ios st v S j
 |0,_=>rfl
 |j+1,h=>by simp only[tl,h j (by omega),wJ (j:=j) (fun i hi=>h i (by omega))]
theorem tlC {S S':Nat->Bool} {j:Nat} (b:∀i,i<j->S' i=S i) (a:∀i,j<i->S' i=S i) (h1:S j=false) (h2:S' j=true):∀{m:Nat},j<m->(∀i,j<i->i<m->S i=true->∀t,kN ios j=some t->kN ios i≠some t)->
  tl ios st v S' m=put (tl ios st v S m) (kN ios j) (v j)
 |0,hj,_=>by omega
 |m+1,hj,h=>by
  by_cases e:j=m
  .subst e
   simp only[tl,h1,h2,mW1,mG1,nI1,wJ b]
  .have ih:=tlC b a h1 h2 (m:=m) (by omega) (fun i hi c=>h i hi (by omega))
   simp only[tl,a m (by omega),ih]
   split
   .rename_i hs
    exact dP1 (h m (by omega) (by omega) hs)
   .rfl
end
end Go.Sim
namespace Go.Sim
section
variable {P:Program} {T:Tab} {ex:Nat->Bool->IC->St->Option (Ex×St)} {lim:Nat} {ops:Array Oper} {ios:List Sim.Op1} {st:Nat->St} {ft:Nat->Foot} {v:Nat->AV} {S S':Nat->Bool}
structure InvS (P:Program) (ops:Array Oper) (ios:List Sim.Op1) (st:Nat->St) (ft:Nat->Foot) (v:Nat->AV) (lim base:Nat) (g0:Gh) (w0:World) (S:Nat->Bool) (g:Gh) (a:Act) (w:World):Prop where
 ext:Ext lim g0 g w0 w
 W:WG g w
 H:HR P g (cont st ft S ios.length) w
 dom:∀id,g.ι id≠none->id<(st 0).s.n\/∃i,i<ios.length/\S i=true/\id∈(ft i).al
 t:TR g (tl ios st v S ios.length) a.tmps.toList
 marks:dS base g w a.defers
 closed:∀i oi,S i=true->ops.toList[i]? =some oi->∀e∈oi.after.toList,Region.binds .any e=true->S e.on=true
structure Rdy (ops:Array Oper) (ios:List Sim.Op1) (S:Nat->Bool) (j:Nat) (o:Oper) (io:Sim.Op1):Prop where
 hop:ops.toList[j]? =some o
 hio:ios[j]? =some io
 c:j<ios.length
 no:S j=false
 edges:∀e∈o.after.toList,Region.binds .any e=true->S e.on=true
theorem uV (R:Reg P T ex lim ops ios st ft v) {j:Nat} {o:Oper} {io:Sim.Op1} (hr:Rdy ops ios S j o io)
  (a:∀i oi,S i=true->ops.toList[i]? =some oi->∀e∈oi.after.toList,Region.binds .any e=true->S e.on=true) {i:Nat} (hi:i<j):
  S i=true\/(((aW [] ops.toList).getD j 0).testBit i=false/\compat (ft i) (ft j)=true/\∀p,ios[i]? =some p->(∀d,p.dst=some d->io.dst≠some d/\d∉io.reads)/\∀d,io.dst=some d->d∉p.reads):=by
 cases hb:((aW [] ops.toList).getD j 0).testBit i with
 |true=>exact .inl (jA R.back (D:=fun i=>S i=true) a j o hr.hop hr.edges i hb)
 |false=>
  refine .inr ⟨rfl,(R.com j hr.c i hi).resolve_left (by rw[hb];simp),fun p hp=>?_⟩
  exact(R.tmps j io hr.hio i p hi hp).resolve_left (by rw[hb];simp)
theorem late (R:Reg P T ex lim ops ios st ft v) {j:Nat} {o:Oper} {io:Sim.Op1} (hr:Rdy ops ios S j o io)
  (a:∀i oi,S i=true->ops.toList[i]? =some oi->∀e∈oi.after.toList,Region.binds .any e=true->S e.on=true) {i:Nat} (hi:j<i) (b:i<ios.length) (f:S i=true):
  compat (ft j) (ft i)=true/\∀p,ios[i]? =some p->(∀d,io.dst=some d->p.dst≠some d/\d∉p.reads)/\∀d,p.dst=some d->d∉io.reads:=by
 obtain⟨g,oi,h1,h2,h⟩:=R.get b
 have hb:((aW [] ops.toList).getD i 0).testBit j=false:=by
  cases hb:((aW [] ops.toList).getD i 0).testBit j with
  |false=>rfl
  |true=>
   have:=jA R.back (D:=fun i=>S i=true) a i oi h2 (fun e he c=>a i oi f h2 e he c) j hb
   simp only[hr.no]at this
   cases this
 refine⟨(R.com i b j hi).resolve_left (by rw[hb];simp),fun p hp=>?_⟩
 exact(R.tmps i p hp j io hi hr.hio).resolve_left (by rw[hb];simp)
theorem wK (R:Reg P T ex lim ops ios st ft v) {j:Nat} {o:Oper} {io:Sim.Op1} (hr:Rdy ops ios S j o io)
  (d:∀i oi,S i=true->ops.toList[i]? =some oi->∀e∈oi.after.toList,Region.binds .any e=true->S e.on=true) {t:Nat} (k:t∈io.reads):(tl ios st v S ios.length)[t]? =(st j).t[t]? :=by
 rw[tlB (j:=j) (nB1 hr.c),tlA R (nB1 hr.c)]
 .intro i hi hd
  rcases uV R hr d hi with h|⟨_,_,h⟩
  .exact h
  .obtain ⟨a,oi,h1,_,_⟩:=R.get (j:=i) (by have:=hr.c;omega)
   have b:a.dst=some t:=by simpa[kN,h1]using hd
   exact absurd k ((h a h1).1 t b).2
 .intro i hi f g hd
  by_cases e:i=j
  .subst e;rw[hr.no]at g;cases g
  .obtain ⟨a,oi,h1,_,_⟩:=R.get f
   have b:a.dst=some t:=by simpa[kN,h1]using hd
   exact absurd k (((late R hr d (by omega) f g).2 a h1).2 t b)
theorem jO1 (R:Reg P T ex lim ops ios st ft v) {j:Nat} {o:Oper} {io:Sim.Op1} (hr:Rdy ops ios S j o io)
  (f:∀i oi,S i=true->ops.toList[i]? =some oi->∀e∈oi.after.toList,Region.binds .any e=true->S e.on=true) (b:∀i,i≠j->S' i=S i) (l:S' j=true):
  tl ios st v S' ios.length=put (tl ios st v S ios.length) io.dst (v j):=by
 have hd:kN ios j=io.dst:=by simp[kN,hr.hio]
 rw[<-hd]
 refine tlC (fun i hi=>b i (by omega)) (fun i hi=>b i (by omega)) hr.no l hr.c (fun i hi a k t m h=>?_)
 obtain⟨d,oi,h1,_,_⟩:=R.get a
 have g:d.dst=some t:=by simpa[kN,h1]using h
 exact(((late R hr f hi a k).2 d h1).1 t (hd.symm.trans m)).1 g
theorem gY1 (R:Reg P T ex lim ops ios st ft v) {j:Nat} {o:Oper} {io:Sim.Op1} (hr:Rdy ops ios S j o io)
  (d:∀i oi,S i=true->ops.toList[i]? =some oi->∀e∈oi.after.toList,Region.binds .any e=true->S e.on=true) {id:Nat} {ao:AO} (a:id∈(ft j).rd\/id∈(ft j).wr) (hl:look (st j).s.h id=some ao):
  cont st ft S ios.length id=some ao:=by
 have k:=(R.wf (nB1 hr.c)).lt hl
 rw[sK (j:=j) (nB1 hr.c),uU R (nB1 hr.c)]
 .exact hl
 .intro i hi b
  rcases uV R hr d hi with h|⟨_,h,_⟩
  .exact h
  .obtain ⟨c1,c2,c3,c4,c5,c6⟩:=bJ h
   simp only[tch,mP1,nT1,mX1,mU1]at b
   rcases b with(b|b)|b
   .have:=cone c1 (qG a);omega
   .rcases a with a|a
    .exact absurd a (c2 id b).1
    .exact absurd a (c2 id b).2
   .rcases a with a|a
    .exact absurd a (c4 id b).1
    .exact absurd a (c4 id b).2
 .intro i hi f g
  by_cases e:i=j
  .subst e;rw[hr.no]at g;cases g
  .obtain ⟨c1,c2,c3,c4,c5,c6⟩:=bJ (late R hr d (by omega) f g).1
   simp only[tch,nZ1,oB1,ne_eq,mX1,nF1]
   refine⟨⟨by have:=yC c1 (qG a);omega,fun h=>?_⟩,fun h=>?_⟩
   .rcases a with a|a
    .exact c3 id h a
    .exact (c2 id a).2 h
   .rw [R.al f]at h
    have:=R.mono (i:=j) (j:=i) (by omega) (by omega)
    omega
theorem qI (R:Reg P T ex lim ops ios st ft v) {j:Nat} {o:Oper} {io:Sim.Op1} (hr:Rdy ops ios S j o io)
  (f:∀i oi,S i=true->ops.toList[i]? =some oi->∀e∈oi.after.toList,Region.binds .any e=true->S e.on=true) (l:∀i,i≠j->S' i=S i) (p:S' j=true) {id:Nat}
  (a:(id∈(ft j).wr/\id<(st j).s.n)\/id∈(ft j).al):cont st ft S' ios.length id=look (st (j+1)).s.h id:=by
 rw[sK (j:=j+1) hr.c]
 .have:tch ft j id=true:=by
   simp only[tch,mP1,nT1,mX1,mU1]
   rcases a with⟨h,_⟩|h
   .exact .inl (.inr h)
   .exact .inr h
  simp[cont,p,this]
 .intro i hi b d
  have m:S i=true:=by rw[<-l i (by omega)];exact d
  obtain⟨c1,c2,c3,c4,c5,c6⟩:=bJ (late R hr f (by omega) b m).1
  simp only[tch,nZ1,oB1,ne_eq,mX1,nF1]
  have k:=R.mono (i:=j+1) (j:=i) (by omega) (by omega)
  have hg:=(R.grows hr.c).n
  have g:(ft j).isE=false:=by
   rcases a with⟨a,_⟩|a
   .exact qG (.inr a)
   .exact qH a
  refine⟨⟨by have:=yC c1 g;omega,fun h=>?_⟩,fun h=>?_⟩
  .rcases a with⟨a,_⟩|a
   .exact (c2 id a).2 h
   .exact (c4 id a).2 h
  .rw [R.al b]at h
   rcases a with⟨_,a⟩|a
   .omega
   .rw [R.al hr.c]at a
    omega
theorem lV (R:Reg P T ex lim ops ios st ft v) {j:Nat} {o:Oper} {io:Sim.Op1} (hr:Rdy ops ios S j o io)
  (g:∀i oi,S i=true->ops.toList[i]? =some oi->∀e∈oi.after.toList,Region.binds .any e=true->S e.on=true) (b:∀i,i≠j->S' i=S i) (l:S' j=true) {id:Nat} {ao:AO}
  (hk:tch ft j id=true->id∈(ft j).wr/\look (st (j+1)).s.h id=look (st j).s.h id) (h:cont st ft S' ios.length id=some ao):cont st ft S ios.length id=some ao:=by
 refine jN1 (j:=j) (fun i hi=>b i (by omega)) (fun h0=>?_) hr.c h
 have d:cont st ft S (j+1) id=cont st ft S j id:=by simp[cont,hr.no]
 have f:cont st ft S' j id=cont st ft S j id:=oW (fun i hi=>b i (by omega))
 rw[d]
 cases ht:tch ft j id with
 |false=>
  simp only[cont,ht,Bool.and_false,mG1,nI1,f]at h0
  exact h0
 |true=>
  obtain⟨k,m⟩:=hk ht
  simp only[cont,ht,l,pI1,mW1,m]at h0
  rw[uU R (nB1 hr.c)]
  .exact h0
  .intro i hi a
   rcases uV R hr g hi with h|⟨_,h,_⟩
   .exact h
   .obtain ⟨c1,c2,c3,c4,c5,c6⟩:=bJ h
    simp only[tch,mP1,nT1,mX1,mU1]at a
    rcases a with(a|a)|a
    .have:=cone c1 (qG (.inr k));omega
    .exact absurd k (c2 id a).2
    .exact absurd k (c4 id a).2
end
end Go.Sim
namespace Go.Sim
section
variable {P:Program} {T:Tab} {ex:Nat->Bool->IC->St->Option (Ex×St)} {lim:Nat} {ops:Array Oper} {ios:List Sim.Op1} {st:Nat->St} {ft:Nat->Foot} {v:Nat->AV} {S S':Nat->Bool} {r:Option Nat} {n base:Nat} {g0 g:Gh} {w0 w:World}
theorem aA1 {o:Oper} {k:OpK} {os:List Operand} {L:Nat->Option AO} {m:Nat} {out:Out} {a:Act} (j:dN P o.op o.type=some (k,os)) (hg:Good P g lim w L m out (execOp a.eval o)) {next:Act->World->Prop} {Q:Exit->Act->World->Prop}
  (b:∀V g' w',VR g' out.v V->HR P g' (out.after L m) w'->WG g' w'->Ext lim g g' w w'->(∀id,g'.ι id≠none->g.ι id≠none\/(id=m/\out.new.isSome))->next (a.put o.dst V) w'):
  o.wpIn (FW r) n P a w next Q:=by
 obtain⟨V,nx,g',w',d,e,hv,h,i,f,c⟩:=hg
 refine⟨fun _ _=>trivial,?_⟩
 rw[iB _ (lD j),d]
 rcases e with rfl|⟨rfl,rfl⟩
 .exact b V g' w' hv h i f c
 .exact b undef g' w' hv h i f c
theorem yD {k:OpK} {xs:List AV} (h1:∀f,k≠.callF f) (h2:k≠.callV):(foot T k xs).all=0:=by
 unfold foot
 split<;>first
  |rfl
  |exact absurd rfl (h1 _)
  |exact absurd rfl h2
theorem aB1 (v:ExOK P ex) (B:dZ P T) {o:Oper} {k:OpK} {os:List Operand} {xs:List AV} {x:AV} {s U:Hp} {a:Act} (D:(dN P o.op o.type).getD (.fail,[])=(k,os)) (h:step T ex lim k xs s=some (x,U)) (d:(foot T k xs).all=1)
  (E:TR g xs (os.map a.eval)) (A:Inv P g w s) {next:Act->World->Prop} {Q:Exit->Act->World->Prop}
  (t:∀V g' w',VR g' x V->g'.ι=g.ι->WG g' w'->(∀b,b<w.heap.size->w'.heap[b]? =w.heap[b]?)->Ext s.n g g' w w'->next (a.put o.dst V) w'):o.wpIn (FW r) n P a w next Q:=by
 have fin:∀e w',fK P s.n g w s x s e w'->∃V,e=.returned V/\next (a.put o.dst V) w':=by
  rintro e w' ⟨V,g',rfl,S,M,K,Y⟩
  refine⟨V,rfl,t V g' w' S ?_ M.W ?_ K⟩
  .funext id
   by_cases q:id<s.n
   .exact K.old id q
   .have h1:g.ι id=none:=by
     cases h:g.ι id with
     |none=>rfl
     |some l=>exact absurd (A.dom id (by rw[h];simp)) q
    have h2:g'.ι id=none:=by
     cases h:g'.ι id with
     |none=>rfl
     |some l=>exact absurd (M.dom id (by rw[h];simp)) q
    rw[h1,h2]
  .intro b hb
   exact K.keep b hb (fun id loc q hi=>by
    have:=A.dom id (by rw[hi];simp)
    omega)
 cases hco:dN P o.op o.type with
 |none=>
  rw[hco]at D
  cases D
  simp only[step,mH]at h
  cases h
 |some p=>
  rw[hco]at D
  cases D
  unfold step at h
  split at h
  .rename_i f
   obtain⟨c,L,h1,h2,G⟩:=gD hco (.inr ⟨f,rfl⟩)
   rcases G with⟨f',u,N,H⟩|⟨u,_⟩
   .cases u
    subst N
    simp only[foot]at d
    split at d
    .rename_i ifn j
     split at d
     .rename_i hp
      have m:TR g xs (#[]++c.args.map a.eval++#[]).toList:=by rw[H]at E;simpa using E
      exact jM B h1 h2 rfl j (oQ v B j hp h m A).2 fin
     .split at d<;>cases d
    .cases d
   .cases u
  .obtain ⟨c,L,h1,h2,G⟩:=gD hco (.inl rfl)
   rcases G with⟨f',u,_⟩|⟨_,H⟩
   .cases u
   .subst H
    split at h
    .rename_i X args
     have z:=E.head
     have m:=E.tail
     unfold callV at h
     simp only[foot]at d
     split at h
     .rename_i f first cap
      generalize hV:a.eval L=V at z
      cases z with
      |@fn _ _ _ _ F C l1 l2 v1 v2=>
       simp only at d
       split at d
       .rename_i ifn j
        split at d
        .rename_i hp
         have R:TR g first F.toList:=⟨by simpa using l1,fun i x y J hy=>v1 i x y J (by simpa using hy)⟩
         have O:TR g cap C.toList:=⟨by simpa using l2,fun i x y J hy=>v2 i x y J (by simpa using hy)⟩
         have d:TR g (first++args++cap) (F++c.args.map a.eval++C).toList:=by
          have:=(R.app m).app O
          simpa using this
         exact jM B h1 h2 hV j (oQ v B j hp h d A).2 fin
        .split at d<;>cases d
       .cases d
     .simp only at d
      cases d
     .cases h
    .cases h
  .rename_i h1 h2
   exfalso
   have:=yD (T:=T) (xs:=xs) (fun f e=>h1 f e) (fun e=>h2 e)
   omega
theorem cov (R:Reg P T ex lim ops ios st ft v) {id:Nat}:∀{j:Nat},j<=ios.length->(st 0).s.n<=id->id<(st j).s.n->∃i,i<j/\id∈(ft i).al
 |0,_,h1,h2=>by omega
 |j+1,hj,h1,h2=>by
  by_cases h:id<(st j).s.n
  .obtain ⟨i,hi,a⟩:=cov R (j:=j) (by omega) h1 h
   exact⟨i,by omega,a⟩
  .exact ⟨j,by omega,(R.al (by omega)).2 ⟨by omega,h2⟩⟩
theorem aC1 (R:Reg P T ex lim ops ios st ft v) (f1:ExOK P ex) (hT:dZ P T) (b7:lim<=(st 0).s.n) {j:Nat} {o:Oper} {io:Sim.Op1} {a:Act} (hr:Rdy ops ios S j o io) (hco:eE P ops.toList o=some io)
  (u:InvS P ops ios st ft v lim base g0 w0 S g a w) (y:∀i,i≠j->S' i=S i) (hj:S' j=true) {K:Act->World->Prop} {Q:Exit->Act->World->Prop} (hK:∀g' a' w',InvS P ops ios st ft v lim base g0 w0 S' g' a' w'->K a' w'):
  wpOpIn (FW r) n P ops Q j K a w:=by
 have d:=u.closed
 have g9:ops[j]? =some o:=by simpa using hr.hop
 unfold wpOpIn
 rw[g9]
 simp only
 obtain⟨os,c1,c2,c3,c4⟩:=gE hco
 have hw:Region.wanted o (yielded ops a.tmps)=Sim.wanted (st j).t io.guard:=by
  rw[sD u.t hco]
  refine sJ (fun i b hg=>wK R hr d ?_)
  simp[Op1.reads,hg]
 have e9:evs (tl ios st v S ios.length) io.xs=evs (st j).t io.xs:=sI (fun t q=>wK R hr d (by
  simp only[Op1.reads,oJ1,List.mem_filterMap]
  exact .inl ⟨.t t,q,rfl⟩))
 have Z:∀i oi,S' i=true->ops.toList[i]? =some oi->∀e∈oi.after.toList,Region.binds .any e=true->S' e.on=true:=by
  intro i oi hi f8 e he hb
  have up:∀i,S i=true->S' i=true:=fun i h=>by
   by_cases e:i=j
   .rw [e];exact hj
   .rw [y i e];exact h
  by_cases e1:i=j
  .subst e1
   rw[hr.hop]at f8
   cases f8
   exact up _ (hr.edges e he hb)
  .exact up _ (d i oi (by rw[<-y i e1];exact hi) f8 e he hb)
 have d3:∀{g':Gh} {w':World} {V:Value},Ext lim g g' w w'->dS base g' w' (a.put o.dst V).defers:=by
  intro g' w' V hE
  have:(a.put o.dst V).defers=a.defers:=by cases o.dst<;>rfl
  rw[this]
  exact u.marks.ext hE
 have d4:∀{g':Gh} {w':World} {V:Value},Ext lim g g' w w'->VR g' (v j) V->TR g' (tl ios st v S' ios.length) (a.put o.dst V).tmps.toList:=by
  intro g' w' V hE hV
  rw[jO1 R hr d y hj,c3]
  exact zV (u.t.mono hE.le) hV o.dst
 have L:∀id,(id<(st 0).s.n\/∃i,i<ios.length/\S i=true/\id∈(ft i).al)->id<(st 0).s.n\/∃i,i<ios.length/\S' i=true/\id∈(ft i).al:=by
  rintro id (h|⟨i,h1,h2,x⟩)
  .exact .inl h
  .refine .inr ⟨i,h1,?_,x⟩
   by_cases e:i=j
   .rw [e];exact hj
   .rw [y i e];exact h2
 have e7:=R.mono (i:=0) (j:=j) (by omega) (nB1 hr.c)
 obtain⟨s1,s2⟩:=R.step j io hr.hio
 rw[hw]
 rcases s2 with⟨q1,q2,q3,q4⟩|⟨q1,xs,q2,q3,q4,q5,s2,q6⟩|⟨q1,xs,q2,q3,q4,q5⟩|⟨q1,xs,W,q2,q3,q4,q5⟩
 ·
  rw[q1]
  simp only[mG1,nI1]
  refine⟨fun _ _=>trivial,hK g _ w ⟨u.ext,u.W,fun id ao h=>?_,fun id h=>L id (u.dom id h),d4 (.refl lim g w) (by rw[q2];exact .undef g),d3 (.refl lim g w),Z⟩⟩
  refine u.H id ao (lV R hr d y hj (fun q=>?_) h)
  rw[tch,q3]at q
  simp at q
 ·
  rw[q1]
  simp only[mW1]
  have b4:=jN u.t c2 (e9.trans q2)
  have f2:=(lU T io.k xs).2 (by omega)
  have M:∀id ao,look (hide (unseen ((aW [] ops.toList).getD j 0) j (revF ft j)) (st j).s.h) id=some ao->cont st ft S ios.length id=some ao:=by
   intro id ao h
   obtain⟨h1,h2⟩:=mI _ (R.wf (nB1 hr.c)) h
   have A:=(R.wf (nB1 hr.c)).lt h1
   rw[sK (j:=j) (nB1 hr.c),uU R (nB1 hr.c)]
   .exact h1
   .intro i hi q
    rcases uV R hr d hi with h|⟨hb,h,_⟩
    .exact h
    .obtain ⟨c1,c2,c3,c4,c5,c6⟩:=bJ h
     simp only[tch,mP1,nT1,mX1,mU1]at q
     have b8:(ft j).all=1:=by rw[q4];exact q3
     rcases q with(q|q)|q
     .have:=cone c1 (jQ (by omega));omega
     .rw [c6.resolve_left (by omega)]at q
      simp at q
     .exact absurd (iC i hi hb q) h2
   .intro i hi z F
    by_cases e:i=j
    .subst e;rw[hr.no]at F;cases F
    .obtain ⟨c1,c2,c3,c4,c5,c6⟩:=bJ (late R hr d (by omega) z F).1
     have b8:(ft j).all=1:=by rw[q4];exact q3
     simp only[tch,nZ1,oB1,ne_eq,mX1,nF1]
     refine⟨⟨by have:=yC c1 (jQ (by omega));omega,fun h=>?_⟩,fun h=>?_⟩
     .rw [c5.resolve_left (by omega)]at h
      simp at h
     .rw [R.al z]at h
      have:=R.mono (i:=j) (j:=i) (by omega) (by omega)
      omega
  have Y:Inv P g w {h:=hide (unseen ((aW [] ops.toList).getD j 0) j (revF ft j)) (st j).s.h,n:=(st j).s.n+rsv (ios.length-j)}:=by
   refine⟨fun id ao h=>u.H id ao (M id ao h),u.W,fun id h=>?_,((R.wf (nB1 hr.c)).hide _).mono (by simp)⟩
   simp only
   rcases u.dom id h with h1|⟨i,h1,h2,x⟩
   .have:=hr.c
    omega
   .have f5:=qH x
    have b8:(ft j).isE=false:=jQ (by rw[show(ft j).all=1 by rw[q4];exact q3];decide)
    rw[R.al h1]at x
    by_cases d1:i<j
    .have:=R.mono (i:=i+1) (j:=j) (by omega) (nB1 hr.c)
     omega
    .have d2:j<i:=by
      rcases Nat.lt_or_ge j i with h|h
      .exact h
      .have:i=j:=by omega
       subst this
       rw[hr.no]at h2
       cases h2
     have g8:∀k,j<=k->k<=i->(st (k+1)).s.n<=(st j).s.n+rsv (k-j):=by
      intro k
      induction k with
      |zero=>
       intro hk _
       have:j=0:=by omega
       subst this
       rw[q5];omega
      |succ k ih=>
       intro hk j4
       by_cases e:j=k+1
       .subst e
        rw[q5];omega
       .have j7:=ih (by omega) (by omega)
        have g6:k+1<ios.length:=by omega
        have i4:(ft (k+1)).all<=1:=by
         by_cases e2:k+1=i
         .have:=yC (bJ (late R hr d d2 h1 h2).1).1 b8
          rw[e2];omega
         ·
          rcases Nat.lt_or_ge 1 (ft (k+1)).all with j1|hok
          .exfalso
           obtain⟨j8,oi,i1,i2,i3⟩:=R.get h1
           have hb:((aW [] ops.toList).getD i 0).testBit (k+1)=true:=by
            rcases R.com i h1 (k+1) (by omega)with h|h
            .exact h
            .have:=cone (bJ h).1 f5;omega
           have h8:S (k+1)=true:=jA R.back (D:=fun i=>S i=true) d i oi i2 (fun e he i5=>d i oi h2 i2 e he i5) (k+1) hb
           have:=yC (bJ (late R hr d (by omega) g6 h8).1).1 b8
           omega
          .exact hok
        obtain⟨g3,ok,k1,k2,k3⟩:=R.get g6
        obtain⟨_,t2⟩:=R.step (k+1) g3 k1
        have j5:rsv (k+1-j)=rsv (k-j)+1048576:=by rw[Nat.succ_sub (by omega),dK1]
        rcases t2 with⟨_,_,_,t3⟩|⟨_,xs',_,_,_,t3,_⟩|⟨_,xs',_,t3,t4,t5⟩|⟨_,xs',W',_,_,_,t3⟩
        .rw [t3];omega
        .rw [t3];omega
        .have d6:(foot T g3.k xs').all=0:=by
          have:(ft (k+1)).all=(foot T g3.k xs').all:=by rw[t4]
          have:=t3.1
          omega
         obtain⟨out,_,_,hs⟩:=kK t5 d6
         rw[hs,kL]
         split<;>omega
        .obtain ⟨s',w,_,_,e3,_,_,_,_,_,_,e4⟩:=iA t3
         rw[e3]
         simp only
         omega
     have:=g8 i (by omega) (lW1 _)
     have:=jJ1 (a:=i-j) (b:=ios.length-j) (by omega)
     omega
  refine aB1 f1 hT c1 q6 q3 b4 Y (fun V g' w' k1 k2 k3 k4 k5=>hK g' _ w' ?_)
  have hE:Ext lim g g' w w':=k5.mono (by simp only;have:=hr.c;omega)
  refine⟨u.ext.trans hE,k3,fun id ao h=>?_,fun id h=>L id (u.dom id (by rw[<-k2];exact h)),d4 hE k1,d3 hE,Z⟩
  have h1:=lV R hr d y hj (id:=id) (ao:=ao) (fun q=>by
   rw[tch,q4]at q
   rw[q3,f2.2,zZ]at q
   simp at q) h
  exact(u.H id ao h1).mono hE.le (by rw[k2]) (fun loc hl=>k4 _ (u.W.lt id loc hl))
 .rw [q1]
  simp only[mW1]
  have b4:=jN u.t c2 (e9.trans q2)
  by_cases d6:(foot T io.k xs).all=0
  ·
   obtain⟨out,ho,hv,hs⟩:=kK q5 d6
   have i6:∀id ao,id∈(foot T io.k xs).rd\/id∈(foot T io.k xs).wr->look (st j).s.h id=some ao->cont st ft S ios.length id=some ao:=by
    intro id ao f hl
    refine gY1 R hr d ?_ hl
    rw[q4]
    exact f
   have e0:doOp (cont st ft S ios.length) lim (st j).s.n io.k xs=some out:=yA (T:=T) ho i6
   have hn:=kL out (st j).s
   rw[<-hs]at hn
   have G:∀id,look (st (j+1)).s.h id=out.after (look (st j).s.h) (st j).s.n id:=fun id=>by rw[hs];exact oU (fun i ob hu=>(mS (T:=T) ho hu).2) id
   have C:∃g4,dN P o.op o.type=some (io.k,g4)/\g4=os:=by
    cases hc:dN P o.op o.type with
    |none=>
     rw[hc]at c1
     simp only[Option.getD_none,mJ1]at c1
     rw[<-c1.1,mH]at ho
     cases ho
    |some p=>rw[hc]at c1;exact⟨os,by rw[<-c1];rfl,rfl⟩
   obtain⟨g4,C,rfl⟩:=C
   have fin:∀(m:Nat) (V:Value) (g':Gh) (w':World),(out.new.isSome=true->m=(st j).s.n)->VR g' out.v V->HR P g' (out.after (cont st ft S ios.length) m) w'->WG g' w'->Ext lim g g' w w'->
     (∀id,g'.ι id≠none->g.ι id≠none\/(id=m/\out.new.isSome))->K (a.put o.dst V) w':=by
    intro m V g' w' hm k1 k2 k3 k4 k5
    refine hK g' _ w' ⟨u.ext.trans k4,k3,fun id ao h=>k2 id ao ?_,fun id h=>?_,d4 k4 (by rw[hv];exact k1),d3 k4,Z⟩
    ·
     have b9:id∈(ft j).al↔(st j).s.n<=id/\id<(st (j+1)).s.n:=R.al hr.c
     have d8:(ft j).wr=(foot T io.k xs).wr:=by rw[q4]
     have j0:(ft j).all=0:=by rw[q4];exact d6
     have a0:(∀i ob,out.up=some (i,ob)->id≠i)->(out.new.isSome=true->id≠(st j).s.n)->cont st ft S ios.length id=some ao:=by
      intro h1 h2
      refine lV R hr d y hj (fun q=>?_) h
      have g7:id∉(ft j).al:=by
       rw[b9,hn]
       cases hnew:out.new with
       |none=>simp
       |some ob=>
        have:=h2 (by rw[hnew];rfl)
        simp;omega
      refine⟨?_,?_⟩
      .simp only[tch,mP1,nT1,mX1,mU1]at q
       rcases q with(q|q)|q
       .omega
       .exact q
       .exact absurd q g7
      .rw [G id]
       unfold Out.after Out.base
       cases hnew:out.new with
       |none=>
        simp only
        cases hu:out.up with
        |none=>rfl
        |some p=>
         obtain⟨i,ob⟩:=p
         simp only
         rw[lY1 (h1 i ob hu)]
       |some ob'=>
        simp only
        rw[lY1 (h2 (by rw[hnew];rfl))]
        cases hu:out.up with
        |none=>rfl
        |some p=>
         obtain⟨i,ob⟩:=p
         simp only
         rw[lY1 (h1 i ob hu)]
     by_cases N:out.new.isSome=true/\id=(st j).s.n
     .obtain ⟨h1,h2⟩:=N
      have hl:=qI R hr d y hj (id:=id) (.inr (by rw[b9,hn,h1];simp;omega))
      rw[hl,G id]at h
      rw[<-h,hm h1]
      unfold Out.after
      cases hnew:out.new with
      |none=>rw[hnew]at h1;cases h1
      |some ob=>simp only;rw[mA1 h2,mA1 h2]
     .by_cases U:∃ob,out.up=some (id,ob)
      .obtain ⟨ob,hu⟩:=U
       obtain⟨u1,u2⟩:=mS (T:=T) ho hu
       have g1:∃d5,look (st j).s.h id=some d5:=Option.isSome_iff_exists.1 u2
       obtain⟨d5,g5⟩:=g1
       have A:=(R.wf (nB1 hr.c)).lt g5
       have hl:=qI R hr d y hj (id:=id) (.inl ⟨by rw[d8];exact u1,A⟩)
       rw[hl,G id]at h
       rw[<-h]
       unfold Out.after Out.base
       cases hnew:out.new with
       |none=>simp only[hu,mW1]
       |some ob'=>
        have:=hm (by rw[hnew];rfl)
        simp only[hu,mW1]
        rw[lY1 (by omega),lY1 (by omega)]
      .have J:=a0 (fun i ob hu e=>U ⟨ob,by rw[e];exact hu⟩) (fun h1 e=>N ⟨h1,e⟩)
       unfold Out.after Out.base
       cases hnew:out.new with
       |none=>
        simp only
        cases hu:out.up with
        |none=>exact J
        |some p=>
         obtain⟨i,ob⟩:=p
         simp only
         rw[lY1 (fun e=>U ⟨ob,by rw[e];exact hu⟩)]
         exact J
       |some ob'=>
        simp only
        rw[lY1 (fun e=>N ⟨by rw[hnew];rfl,by rw[e];exact hm (by rw[hnew];rfl)⟩)]
        cases hu:out.up with
        |none=>exact J
        |some p=>
         obtain⟨i,ob⟩:=p
         simp only
         rw[lY1 (fun e=>U ⟨ob,by rw[e];exact hu⟩)]
         exact J
    .rcases k5 id h with h1|⟨h1,h2⟩
     .exact L id (u.dom id h1)
     .refine .inr ⟨j,hr.c,hj,?_⟩
      rw[R.al hr.c,hn,h2,h1,hm h2]
      simp
   cases hnew:out.new with
   |none=>
    have f7:doOp (cont st ft S ios.length) lim (st ios.length).s.n io.k xs=some out:=jM1 e0 hnew
    have f4:g.ι (st ios.length).s.n=none:=by
     cases h:g.ι (st ios.length).s.n with
     |none=>rfl
     |some l=>
      rcases u.dom _ (by rw[h];simp)with h1|⟨i,h1,h2,x⟩
      .have:=R.mono (i:=0) (j:=ios.length) (by omega) (lW1 _)
       omega
      .rw [R.al h1]at x
       have:=R.mono (i:=i+1) (j:=ios.length) (by omega) (lW1 _)
       omega
    have i7:lim<=(st ios.length).s.n:=nC1 b7 (R.mono (by omega) (lW1 _))
    exact aA1 C (kG a.eval o C b4 f7 u.H u.W f4 i7) (fun V g' w'=>fin _ V g' w' (fun h=>by rw[hnew]at h;cases h))
   |some ob=>
    have f4:g.ι (st j).s.n=none:=by
     cases h:g.ι (st j).s.n with
     |none=>rfl
     |some l=>
      rcases u.dom _ (by rw[h];simp)with h1|⟨i,h1,h2,x⟩
      .omega
      .rw [R.al h1]at x
       rw[hnew]at hn
       simp only[oE1,mW1]at hn
       by_cases d1:i<j
       .have:=R.mono (i:=i+1) (j:=j) (by omega) (nB1 hr.c)
        omega
       .by_cases e:i=j
        .subst e;rw[hr.no]at h2;cases h2
        .have:=R.mono (i:=j+1) (j:=i) (by omega) (by omega)
         omega
    exact aA1 C (kG a.eval o C b4 e0 u.H u.W f4 (nC1 b7 e7)) (fun V g' w'=>fin _ V g' w' (fun _=>rfl))
  ·
   have h2:(ft j).all=2:=by
    have:=(lU T io.k xs).1
    rw[q4]
    have:=q3.1
    have:=q3.2
    show(foot T io.k xs).all=2
    omega
   have b5:∀i,i<j->S i=true\/(ft i).isE=true:=by
    intro i hi
    rcases uV R hr d hi with h|⟨_,h,_⟩
    .exact .inl h
    .rcases (bJ h).1 with h|h|h
     .omega
     .exact .inr h
     .have:=(dR h).2.2.2;omega
   have b0:∀i,j<=i->i<ios.length->S i=false\/(ft i).isE=true:=by
    intro i hi z
    cases F:S i with
    |false=>exact .inl rfl
    |true=>
     by_cases e:i=j
     .subst e;rw[hr.no]at F;cases F
     .rcases (bJ (late R hr d (by omega) z F).1).1 with h|h|h
      .omega
      .have:=(dR h).2.2.2;omega
      .exact .inr h
   have e8:∀id,cont st ft S ios.length id=look (st j).s.h id:=by
    intro id
    rw[sK (j:=j) (nB1 hr.c) (fun i hi z F=>by
     rcases b0 i hi z with B|B
     .rw [B]at F;cases F
     .exact tchE B),uU R (nB1 hr.c) (fun i hi q=>by
     rcases b5 i hi with B|B
     .exact B
     .rw [tchE B]at q;cases q)]
   have Y:Inv P g w (st j).s:=by
    refine⟨fun id ao h=>u.H id ao (by rw[e8];exact h),u.W,fun id h=>?_,R.wf (nB1 hr.c)⟩
    rcases u.dom id h with h1|⟨i,h1,x,X⟩
    .omega
    .have f5:=qH X
     rw[R.al h1]at X
     by_cases d1:i<j
     .have:=R.mono (i:=i+1) (j:=j) (by omega) (nB1 hr.c)
      omega
     .rcases b0 i (by omega) h1 with B|B
      .rw [B]at x;cases x
      .rw [f5]at B;cases B
   refine uO f1 hT c1 q5 b4 Y (nC1 b7 e7) (fun V g' w' k1 k2 k3 k4=>hK g' _ w' ⟨u.ext.trans k3,k2.W,fun id ao h=>k2.H id ao ?_,fun id h=>?_,d4 k3 k1,d3 k3,Z⟩)
   .rw [sK (j:=j+1) hr.c (fun i hi z F=>by
     rcases b0 i (by omega) z with B|B
     .rw [y i (by omega),B]at F;cases F
     .exact tchE B)]at h
    have q:tch ft j id=true:=by simp[tch,h2]
    simp only[cont,hj,q,pI1,mW1]at h
    exact h
   .have A:=k2.dom id h
    by_cases f6:id<(st 0).s.n
    .exact .inl f6
    .obtain ⟨i,hi,x⟩:=cov R (j:=j+1) hr.c (by omega) A
     refine .inr ⟨i,by have:=hr.c;omega,?_,x⟩
     by_cases e:i=j
     .rw [e];exact hj
     .rw [y i e]
      rcases b5 i (by omega)with B|B
      .exact B
      .rw [qH x]at B;cases B
 ·
  rw[q1]
  simp only[mW1]
  have b4:=jN u.t c2 (e9.trans q2)
  have b8:(ft j).all=1:=by rw[q4]
  have d8:(ft j).wr=W:=by rw[q4]
  obtain⟨s',wl,k1,k2,k3,k4,k5,k6,k7,k8,k9,_⟩:=iA q5
  generalize hhid:unseen ((aW [] ops.toList).getD j 0) j (revF ft j)=f at k1 k2 k5 k6 k7 k8 k9
  have E:=R.wf (nB1 hr.c)
  have b6:∀i,i<ios.length->S i=true->¬i<j->(ft i).wr=[]/\(∀id,id∈(ft i).al->(st (j+1)).s.n<=id)/\(ft i).all≠2:=by
   intro i z F d1
   have d2:j<i:=by
    rcases Nat.lt_or_ge j i with h|h
    .exact h
    .have:i=j:=by omega
     subst this
     rw[hr.no]at F
     cases F
   obtain⟨e1,e2,e3,e4,e5,e6⟩:=bJ (late R hr d d2 z F).1
   refine⟨e5.resolve_left (by omega),fun id h=>?_,by have:=yC e1 (jQ (by omega));omega⟩
   rw[R.al z]at h
   have:=R.mono (i:=j+1) (j:=i) (by omega) (by omega)
   omega
  have j3:=(R.grows hr.c).n
  have f9:∀id,iX f (st j).s.n id=true->id<(st j).s.n/\id∉f:=by
   intro id h
   simp only[iX,lU1,mO1,mX1,nF1]at h
   exact⟨by simpa[nU1]using h.1,h.2⟩
  have d9:∀id,id∉f->id<(st j).s.n->cont st ft S ios.length id=look (st j).s.h id:=by
   intro id i9 A
   rw[sK (j:=j) (nB1 hr.c),uU R (nB1 hr.c)]
   .intro i hi q
    rcases uV R hr d hi with h|⟨hb,h,_⟩
    .exact h
    .obtain ⟨e1,e2,e3,e4,e5,e6⟩:=bJ h
     simp only[tch,mP1,nT1,mX1,mU1]at q
     rcases q with(q|q)|q
     .have:=cone e1 (jQ (by omega));omega
     .rw [e6.resolve_left (by omega)]at q
      simp at q
     .exact absurd (hhid ▸ iC i hi hb q) i9
   .intro i hi z F
    obtain⟨e1,e2,e3⟩:=b6 i z F (by omega)
    simp only[tch,nZ1,oB1,ne_eq,mX1,nF1]
    refine⟨⟨e3,fun h=>?_⟩,fun h=>?_⟩
    .rw [e1]at h;simp at h
    .have:=e2 id h;omega
  have M:∀id ao,look (hide f (st j).s.h) id=some ao->cont st ft S ios.length id=some ao/\iX f (st j).s.n id=true:=by
   intro id ao h
   obtain⟨h1,h2⟩:=mI _ E h
   have A:=E.lt h1
   refine⟨(d9 id h2 A).trans h1,?_⟩
   simp only[iX,lU1,mO1,mX1,nF1]
   exact⟨by simpa[nU1]using A,h2⟩
  have hιp:∀id,iX f (st j).s.n id=true->(g.only (iX f (st j).s.n)).ι id=g.ι id:=fun id h=>Gh.only_pos h
  have Y:Inv P (g.only (iX f (st j).s.n)) w {h:=hide f (st j).s.h,n:=(st j).s.n}:=by
   refine⟨fun id ao h=>?_,u.W.only,fun id h=>?_,E.hide _⟩
   .obtain ⟨h1,h2⟩:=M id ao h
    exact(u.H id ao h1).names (g:=g) (g2:=g.only _) rfl hιp (hιp id h2) (gB k5 id ao h)
   .simp only[Gh.only]at h
    split at h
    .rename_i hp;exact(f9 id hp).1
    .exact absurd rfl h
  refine uO (s':=s') f1 hT c1 k1 (TR.names (g:=g) (g2:=g.only _) rfl hιp k6 b4) Y (nC1 b7 e7) (fun V g' w' m1 m2 m3 m4=>?_)
  obtain⟨hE,i0⟩:=dL1 m3 u.W m2.W
  have hqι:∀id,qA f (st j).s.n s'.n id=true->(g.back g' (iX f (st j).s.n) (st j).s.n).ι id=g'.ι id:=by
   intro id h
   simp only[qA,mP1,lU1]at h
   rcases h with h|⟨h1,h2⟩
   .exact lT h
   .have h1:=mD1 h1
    have h2:id<s'.n:=by simpa[nU1]using h2
    simp only[Gh.back]
    split
    .rename_i hc
     exfalso
     rcases u.dom id (hc.2.resolve_left (by omega))with x|⟨i,x,X,h5⟩
     .omega
     .by_cases d1:i<j
      .rw [R.al x]at h5
       have:=R.mono (i:=i+1) (j:=j) (by omega) (nB1 hr.c)
       omega
      .have h6:=(b6 i x X d1).2.1 id h5
       rw[k3]at h6
       simp only at h6
       omega
    .rfl
  have j6:(st (j+1)).s.n=s'.n:=by rw[k3]
  refine hK (g.back g' (iX f (st j).s.n) (st j).s.n) _ w' ⟨u.ext.trans hE,i0,fun id ao h=>?_,fun id h=>?_,d4 hE (VR.names (g:=g') (g2:=g.back g' _ _) rfl hqι k7 m1),d3 hE,Z⟩
  .have b9:id∈(ft j).al↔(st j).s.n<=id/\id<(st (j+1)).s.n:=R.al hr.c
   by_cases q:(id∈W/\id<(st j).s.n)\/id∈(ft j).al
   ·
    have h1:=qI R hr d y hj (id:=id) (by rw[d8];exact q)
    rw[h1,k3]at h
    simp only at h
    have hq:qA f (st j).s.n s'.n id=true:=by
     rcases q with⟨h2,x⟩|h2
     .obtain ⟨e,he,rfl⟩:=List.mem_map.1 (k4 ▸ h2)
      have X:=gA (E.hide f) k2 e he
      obtain⟨d5,h5⟩:=Option.isSome_iff_exists.1 X.2
      have:=(M e.1 d5 h5).2
      simp only[qA,this,Bool.true_or]
     .rw [b9]at h2
      have a1:Nat.ble (st j).s.n id=true:=Nat.ble_eq_true_of_le h2.1
      have a2:Nat.blt id s'.n=true:=by simp only[nU1];omega
      simp only[qA,a1,a2,pI1,Bool.or_true]
    rcases bX h with⟨h2,x,X⟩|h2
    .exact (m2.H id ao x).names (g:=g') (g2:=g.back g' _ _) rfl hqι (hqι id hq) (kI k8 id ao X)
    .rcases mN _ _ _ _ h2 with⟨x,X⟩|x
     .exfalso
      rw[<-k4]at X
      rcases q with⟨h5,_⟩|h5
      .exact X h5
      .rw [b9]at h5
       have:=E.lt x
       omega
     .exact (m2.H id ao ((eT k2).2 _ x)).names (g:=g') (g2:=g.back g' _ _) rfl hqι (hqι id hq) (by have:=mB1.1 k9 _ x;exact this)
   .have h1:cont st ft S ios.length id=some ao:=lV R hr d y hj (fun O=>by
     exfalso
     simp only[tch,b8,d8,mP1,mX1,mU1]at O
     rcases O with(O|O)|O
     .cases O
     .obtain ⟨e,he,rfl⟩:=List.mem_map.1 (k4 ▸ O)
      exact q (.inl ⟨O,(gA (E.hide f) k2 e he).1⟩)
     .exact q (.inr O)) h
    cases hp:iX f (st j).s.n id with
    |true=>
     obtain⟨h2,x⟩:=f9 id hp
     have X:look (hide f (st j).s.h) id=some ao:=by rw[lC f x,<-d9 id x h2];exact h1
     have h5:id∉wl.map (·.1):=fun h6=>q (.inl ⟨by rw[k4];exact h6,h2⟩)
     exact(m2.H id ao ((eT k2).1 id ao X h5)).names (g:=g') (g2:=g.back g' _ _) rfl hqι (lT hp) (xX (fun i h=>by simp only[qA,h,Bool.true_or]) (gB k5 id ao X))
    |false=>
     have h2:=u.H id ao h1
     have x:g.ι id≠none:=h2.some
     refine h2.mono hE.le (qB hp x) (fun loc hl=>m3.keep _ (u.W.lt id loc hl) (fun id' loc' j2 d7 e=>?_))
     simp only[Gh.only]at d7
     split at d7
     .rename_i h0
      have:=u.W.inj id' id loc' loc d7 hl e
      subst this
      rw[hp]at h0
      cases h0
     .cases d7
  .by_cases hg:g.ι id=none
   .have h2:g'.ι id≠none:=by
     simp only[Gh.back]at h
     split at h
     .exact absurd hg h
     .exact h
    have x:id<s'.n:=m2.dom id h2
    by_cases f6:id<(st 0).s.n
    .exact .inl f6
    .by_cases A:id<(st j).s.n
     .obtain ⟨i,hi,X⟩:=cov R (nB1 hr.c) (by omega) A
      rcases uV R hr d hi with h5|⟨hb,_,_⟩
      .refine .inr ⟨i,by have:=hr.c;omega,?_,X⟩
       rw[y i (by omega)]
       exact h5
      .have h6:id∈f:=hhid ▸ iC i hi hb X
       have h7:iX f (st j).s.n id=false:=by
        cases hp:iX f (st j).s.n id with
        |false=>rfl
        |true=>exact absurd h6 (f9 id hp).2
       exfalso
       simp only[Gh.back]at h
       rw[mA1 ⟨h7,.inl A⟩]at h
       exact h hg
     .refine .inr ⟨j,hr.c,hj,?_⟩
      rw[R.al hr.c]
      omega
   .exact L id (u.dom id hg)
end
end Go.Sim
namespace Go.Sim
section
variable {P:Program} {T:Tab} {ex:Nat->Bool->IC->St->Option (Ex×St)} {lim:Nat} {ops:Array Oper} {ios:List Sim.Op1} {st:Nat->St} {ft:Nat->Foot} {v:Nat->AV} {r:Option Nat} {n base:Nat} {g0:Gh} {w0:World}
def bV (a:Array Bool) (i:Nat):Bool:=a.getD i false
theorem oX (a:Array Bool) (i j:Nat) (h:j<a.size):bV (a.setIfInBounds j true) i=if i=j then true else bV a i:=by
 unfold bV
 by_cases e:i=j
 .subst e;simp[h]
 .simp [e,Array.getElem?_setIfInBounds_ne (Ne.symm e)]
theorem dQ1 (R:Reg P T ex lim ops ios st ft v) (x:ExOK P ex) (F:dZ P T) (p:lim<=(st 0).s.n) {Q:Exit->Act->World->Prop}
  (hQ:∀(S:Nat->Bool) g a w,(∀i,i<ios.length->S i=true)->InvS P ops ios st ft v lim base g0 w0 S g a w->Q .normal a w):
  ∀(d:Nat) (b:Array Bool) (g:Gh) (a:Act) (w:World),b.size=ops.size->b.toList.count false<=d->InvS P ops ios st ft v lim base g0 w0 (bV b) g a w->wpAnyIn (FW r) n P .any ops Q d b a w:=by
 have H:=R.size
 have l:∀(b:Array Bool),b.size=ops.size->Region.ready .any ops b=[]->∀i,i<ios.length->bV b i=true:=by
  intro b hl hr i
  induction i using Nat.strongRecOn with
  |_ i ih=>
   intro hi
   cases h:bV b i with
   |true=>rfl
   |false=>
    exfalso
    obtain⟨io,o,h1,h2,C⟩:=R.get hi
    have D:i∈Region.ready .any ops b:=by
     rw[mem_ready]
     have c:i<b.size:=by omega
     refine⟨by simp only[bV]at h;simp[c]at h ⊢;exact h,o,by simpa using h2,fun e he hb=>?_⟩
     have A:=R.back i o h2 e (by simpa using he) hb
     exact ih e.on A (by omega)
    rw[hr]at D
    cases D
 intro d
 induction d with
 |zero=>
  intro b g a w hl hc q
  have f:∀i,i<ios.length->bV b i=true:=by
   intro i hi
   have c:i<b.size:=by omega
   have m:b.toList.count false=0:=by omega
   rw[List.count_eq_zero]at m
   cases h:bV b i with
   |true=>rfl
   |false=>
    exfalso
    apply m
    simp only[bV]at h
    simp[c]at h
    rw[<-h]
    simp
  refine⟨?_,hQ _ g a w f q⟩
  rw[List.eq_nil_iff_forall_not_mem]
  intro i hi
  rw[mem_ready]at hi
  obtain⟨h1,o,h2,_⟩:=hi
  have y:i<ops.size:=(mH1.1 h2).1
  have:=f i (by omega)
  have c:i<b.size:=by omega
  simp only[bV]at this
  simp[c]at h1 this
  rw[h1]at this
  cases this
 |succ d ih=>
  intro b g a w hl hc q
  refine⟨fun hr=>hQ _ g a w (l b hl hr) q,fun i hi=>?_⟩
  rw[mem_ready]at hi
  obtain⟨h1,o,h2,C⟩:=hi
  have y:i<ops.size:=(mH1.1 h2).1
  have c:i<b.size:=by omega
  obtain⟨io,o',J,B,K⟩:=R.get (j:=i) (by omega)
  have:o'=o:=by
   have t:ops.toList[i]? =some o:=by simpa using h2
   rw[t]at B
   cases B
   rfl
  subst this
  have k:bV b i=false:=by
   simp only[bV]
   simp[c]at h1 ⊢
   exact h1
  have hr:Rdy ops ios (bV b) i o' io:=⟨B,J,by omega,k,fun e he hb=>C e (by simpa using he) hb⟩
  refine aC1 (S':=bV (b.setIfInBounds i true)) R x F p hr K q (fun j G=>by rw[oX _ _ _ c,lY1 G]) (by rw[oX _ _ _ c,mA1 rfl]) (fun g' a' w' u=>?_)
  refine ih _ g' a' w' (by simpa using hl) ?_ u
  have E:(b.setIfInBounds i true).toList=b.toList.set i true:=by simp
  have z:b.toList[i]'(by simpa using c)=false:=by
   simp only[bV]at k
   simp[c]at k
   simpa using k
  rw[E,List.count_set (by simpa using c),z,mA1 (by rfl),lY1 (by decide)]
  omega
theorem gZ1 (L:dZ P T) (y:P.follows .mixedOrders=true) {ex:Nat->Bool->IC->St->Option (Ex×St)} (B:ExOK P ex) (C:jO ex):zY P T ex:=by
 intro lim ops ios σ F fs id hc l z k r g a w n base O f hl hb M
 obtain⟨st,ft,v,_,q,x,E,K⟩:=wH ios 0 σ (fun _=>{}) F fs z
 simp only[nO1]at x E K
 have hlen:fs.length=ios.length:=by rw[E,revF_length]
 rw[E,revF_length]at k
 simp only[gK1,lU1,mB1]at l
 obtain⟨U,V⟩:=l
 have R:Reg P T ex lim ops ios st ft v:=by
  refine⟨hc,fun j o D e he A=>?_,fun j o D i p hi hp=>?_,K,mU k,C,by rw[q];exact f.wf⟩
  .have:=U (o,j) (by rw[nA1];exact⟨j,by simp[D]⟩)
   simp only[mB1,mP1,mO1,mU1]at this
   rcases this e he with h|h
   .rw [A]at h;cases h
   .exact h
  .have:=V (o,j) (by rw[nA1];exact⟨j,by simp[D]⟩)
   have h:=mT this i p hp (by omega)
   rw[nO1]at h
   exact h
 have N:=R.size
 refine wpIn_region_any y ?_
 have hw:Inv P g {w with drawn:=w.drawn+1} σ.s:=⟨fun id ao h=>(f.H id ao h).mono (.refl g) rfl (fun _ _=>rfl),⟨f.W.still,f.W.lt,f.W.out,f.W.inj⟩,f.dom,f.wf⟩
 have G:Ext lim g g w {w with drawn:=w.drawn+1}:=⟨.refl g,lW1 _,fun _ _ _=>rfl,fun id loc h=>.inl ⟨loc,h,rfl⟩,fun _ _=>rfl,rfl,rfl,rfl,fun _ _ h=>.inl h,fun _ R h=>⟨R,h⟩⟩
 refine dQ1 (base:=base) (g0:=g) (w0:=w) R B L (by rw[q];exact hl) ?_ ops.size (Array.replicate ops.size false) g a _ (by simp) (by simp) ?_
 .intro S g' a' w' J u
  refine⟨rfl,g',?_⟩
  have b:∀id,cont st ft S ios.length id=look F.s.h id:=fun id=>by
   rw[uU R (lW1 _) (fun i hi _=>J i hi),x]
  have m:tl ios st v S ios.length=F.t:=by
   rw[<-x]
   exact pC1 (fun t=>tlA R (lW1 _) (fun i hi _=>J i hi))
  have d:=R.mono (i:=0) (j:=ios.length) (by omega) (lW1 _)
  rw[q,x]at d
  refine⟨by rw[<-m];exact u.t,⟨fun id ao h=>u.H id ao (by rw[b];exact h),u.W,fun id h=>?_,by have:=R.wf (lW1 ios.length);rw[x]at this;exact this⟩,u.ext,d,u.marks⟩
  rcases u.dom id h with h1|⟨i,h1,h2,h3⟩
  .rw [q]at h1;omega
  .rw [R.al h1]at h3
   have:=R.mono (i:=i+1) (j:=ios.length) (by omega) (lW1 _)
   rw[x]at this
   omega
 .have c:∀i,bV (Array.replicate ops.size false) i=false:=by
   intro i
   simp only[bV]
   by_cases h:i<ops.size
   .simp [h]
   .simp [h]
  have b:∀id,cont st ft (bV (Array.replicate ops.size false)) ios.length id=look σ.s.h id:=by
   intro id
   rw[sK (j:=0) (by omega) (fun i _ _ h=>by rw[c i]at h;cases h),<-q]
   rfl
  have m:tl ios st v (bV (Array.replicate ops.size false)) ios.length=σ.t:=by
   rw[<-q]
   have h2:∀t,(tl ios st v (bV (Array.replicate ops.size false)) ios.length)[t]? =(tl ios st v (bV (Array.replicate ops.size false)) 0)[t]? :=fun t=>tlB (by omega) (fun i _ _ h=>by rw[c i]at h;cases h)
   exact pC1 h2
  exact⟨G,hw.W,fun id ao h=>hw.H id ao (by rw[<-b];exact h),fun id h=>.inl (by rw[q];exact hw.dom id h),by rw[m];exact O,M.ext G,fun i oi h=>by rw[c i]at h;cases h⟩
theorem oY (b:dZ P T) (a:P.follows .mixedOrders=true) (d:Nat):ExOK P (exec T d):=gX1 b (fun d h=>gZ1 b a h (oS T d)) d
end
end Go.Sim
namespace Go.Sim
open Go.RowKit
def gW (w:World):Gh:={G:=fun b=>w.heap[b]?,ι:=fun _=>none}
theorem aD1 (P:Program) (w:World):Inv P (gW w) w {h:=[],n:=0}:=
 ⟨fun id ao h=>by simp[look]at h,⟨fun b o h=>h,fun id loc h=>by simp[gW]at h,fun id loc h=>by simp[gW]at h,fun id id' loc loc' h=>by simp[gW]at h⟩,fun id h=>by simp[gW]at h,trivial⟩
theorem aE1 {P:Program} {T:Tab} (g:dZ P T) (a:P.follows .mixedOrders=true) {f:FuncId} {args:List AV} {Args:Array Value} {d:Nat} {s':Hp} {w:World} {x:Value} (hg:Value.ground x=true)
  (h:callF T (exec T d) 0 f args {h:=[],n:=0}=some (.v x,s')) (i:TR (gW w) args Args.toList):Calls P f Args w fun e w'=>e=.returned x/\Below w.heap.size w w':=by
 have h1:=lS (n:=0) (oY g a d) g h i (aD1 P w) (lW1 _)
 refine callsIn_wide.1 (CallsIn.mono (F:=Fence.wide) h1 ?_)
 rintro e w' ⟨V,g',rfl,j,k,c,l⟩
 refine⟨by rw[j.ground],⟨c.os,c.tape,c.output,c.size,fun b hb=>c.keep b hb (fun id loc _ hi=>by simp[gW]at hi)⟩⟩
def seqB (P:Program):List Field->Nat->Nat->Bool
 |[],off,m=>off==m
 |f::fs,off,m=>f.offset==off&&seqB P fs (off+P.cellsOf f.type) m
def cM (P:Program):Nat->TypeId->Bool
 |0,_=>false
 |d+1,t=>
  match P.underlying t with
  |some .bool|some (.int _)|some .string=>true
  |some (.slice e)=>P.cellsOf e !=0&&cM P d e
  |some (.struct fs)=>seqB P fs.toList 0 (P.cellsOf t)&&fs.toList.all fun f=>cM P d f.type
  |some (.array n e)=>P.cellsOf t==n*P.cellsOf e&&cM P d e
  |_=>false
def TyFs (F:TypeId->List AV->Prop) (P:Program):List Field->List AV->Prop
 |[],cs=>cs=[]
 |f::fs,cs=>∃c1 c2,cs=c1++c2/\c1.length=P.cellsOf f.type/\F f.type c1/\TyFs F P fs c2
def TyC (P:Program):Nat->TypeId->List AV->Prop
 |0,_,_=>False
 |d+1,t,cs=>
  match P.underlying t with
  |some .bool=>∃b,cs=[.v (.bool b)]
  |some (.int k)=>∃n,cs=[.v (.int k n)]/\(Lit.int k n).wf=true
  |some .string=>∃s:ByteArray,cs=[.v (.string s)]/\s.size<=maxLen
  |some (.slice e)=>cs=[.v (.slice none 0 0)]\/∃els:List (List AV),cs=[.is (P.cellsOf e) els]/\els.length<=maxLen/\∀row∈els,row.length=P.cellsOf e/\TyC P d e row
  |some (.struct fs)=>TyFs (TyC P d) P fs.toList cs
  |some (.array n e)=>∃rows:List (List AV),cs=rows.flatten/\rows.length=n/\∀row∈rows,row.length=P.cellsOf e/\TyC P d e row
  |_=>False
theorem gF {α β:Type} {f:α->Option β}:∀{l:List α} {r:List β},l.mapM f=some r->r.length=l.length/\∀(i:Nat) (x:α),l[i]? =some x->∃y,f x=some y/\r[i]? =some y
 |[],r,h=>by
  simp at h
  subst h
  exact⟨rfl,fun i x h=>by simp at h⟩
 |a::l,r,h=>by
  simp only[oY1,Option.bind_eq_bind,lT1,Option.pure_def,lZ1]at h
  obtain⟨b,hb,g,c,rfl⟩:=h
  obtain⟨h1,h2⟩:=gF c
  refine⟨by simp[h1],fun i x hi=>?_⟩
  cases i with
  |zero=>simp at hi;subst hi;exact⟨b,hb,rfl⟩
  |succ i=>simp at hi;obtain⟨y,d,e⟩:=h2 i x hi;exact⟨y,d,by simpa using e⟩
theorem mW {w:World} {base:Nat} {a:Addr} {n:Nat} {cs:List Value} (h:w.cells? base a n=some cs):cs.length=n/\∀i,i<n->w.cell? (a.add i)=cs[i]? :=by
 unfold World.cells? at h
 split at h
 .obtain ⟨h1,h2⟩:=gF h
  refine⟨by simpa using h1,fun i hi=>?_⟩
  obtain⟨y,b,c⟩:=h2 i i (by simp[hi])
  rw[b,c]
 .cases h
theorem hA1 {w:World} {a:Addr} {j:Nat} {y:Value} (h:w.cell? (a.add j)=some y) (hs:a.spot=none):(gW w).cell a j=some y:=by
 have d:a.add j=⟨a.block,a.off+j,none⟩:=by
  obtain⟨b,o,s⟩:=a
  simp only at hs
  subst hs
  exact dI b o j
 rw[d]at h
 unfold World.cell? at h
 split at h
 .rename_i c e fr hb
  simp only at hb
  simp only[Gh.cell,gW,hb]
  simpa using h
 .cases h
theorem jB {α:Type} {Q:Nat->α->Prop}:∀{n:Nat},(∀i,i<n->∃x,Q i x)->∃l:List α,l.length=n/\∀(i:Nat) (x:α),l[i]? =some x->Q i x
 |0,_=>⟨[],rfl,fun i x h=>by simp at h⟩
 |n+1,h=>by
  obtain⟨l,h1,h2⟩:=jB (n:=n) (fun i hi=>h i (by omega))
  obtain⟨x,b⟩:=h n (by omega)
  refine⟨l++[x],by simp[h1],fun i y hy=>?_⟩
  rw[nK1]at hy
  split at hy
  .exact h2 i y hy
  .rename_i hi
   have a:i=n:=by
    have:=(lX1.1 hy).1
    simp at this
    omega
   subst a
   simp[h1]at hy
   subst hy
   exact b
theorem TR.of_parts {g:Gh} {c1 c2:List AV} {C:List Value} {k:Nat} (h1:TR g c1 (C.take k)) (h2:TR g c2 (C.drop k)):TR g (c1++c2) C:=by
 have:=h1.app h2
 rwa [oH1]at this
section
variable {H:Type} {enc:TypeId×Value->H} {P:Program} {w:World} {held:Bool}
def Rd (P:Program) (w:World) (D:Nat) (t:TypeId) (Cs:List Value):Prop:=∃cs,TR (gW w) cs Cs/\TyC P D t cs/\∀y∈Cs,isCell y=true
theorem mX {D a:Nat} (IH:∀t Cs g ps,DataW.trod enc P w 0 (fun _=>true) held a t Cs=some (g,ps)->cM P D t=true->Rd P w D t Cs):∀(fs:List Field) (off m:Nat) (Cs:List Value) (xs:List (DataW H×List MemPlace)),
  fs.mapM (fun f=>DataW.trod enc P w 0 (fun _=>true) held a f.type ((Cs.drop f.offset).take (P.cellsOf f.type)))=some xs->seqB P fs off m=true->(fs.all fun f=>cM P D f.type)=true->Cs.length=m->
  ∃cs,TR (gW w) cs (Cs.drop off)/\TyFs (TyC P D) P fs cs/\(∀y∈Cs.drop off,isCell y=true)/\off<=m
 |[],off,m,Cs,xs,h,hs,hp,hl=>by
  simp only[seqB,nT1]at hs
  subst hs
  have:Cs.drop off=[]:=by rw[List.drop_eq_nil_iff];omega
  rw[this]
  exact⟨[],.nil _,rfl,fun y h=>by simp at h,lW1 _⟩
 |f::fs,off,m,Cs,xs,h,hs,hp,hl=>by
  simp only[oY1,Option.bind_eq_bind,lT1,Option.pure_def,lZ1]at h
  obtain⟨b,hb,e,d,rfl⟩:=h
  simp only[seqB,lU1,nT1]at hs
  obtain⟨rfl,hs⟩:=hs
  simp only[nQ1,lU1]at hp
  obtain⟨cs2,i,j,k,l⟩:=mX IH fs (f.offset+P.cellsOf f.type) m Cs e d hs hp.2 hl
  obtain⟨c,q1,q2,q3⟩:=IH f.type _ b.1 b.2 hb hp.1
  have hd:(Cs.drop f.offset).drop (P.cellsOf f.type)=Cs.drop (f.offset+P.cellsOf f.type):=by rw[oD1]
  refine⟨c++cs2,TR.of_parts q1 (by rw[hd];exact i),⟨c,cs2,rfl,?_,q2,j⟩,fun y hy=>?_,by omega⟩
  .rw [q1.1,oC1,List.length_drop]
   omega
  .rw [<-oH1 (P.cellsOf f.type) (Cs.drop f.offset),hd,oJ1]at hy
   rcases hy with hy|hy
   .exact q3 y hy
   .exact k y hy
theorem aF1 {a:Nat} {t:TypeId} {Cs:List Value} {x:DataW H×List MemPlace} (c:P.underlying t=some .bool) (h:DataW.trod enc P w 0 (fun _=>true) held (a+1) t Cs=some x):∃b,Cs=[.bool b]:=by
 unfold DataW.trod at h
 rw[c]at h
 split at h<;>simp_all
theorem dR1 {a:Nat} {t:TypeId} {Cs:List Value} {k:IntKind} {x:DataW H×List MemPlace} (b:P.underlying t=some (.int k)) (h:DataW.trod enc P w 0 (fun _=>true) held (a+1) t Cs=some x):∃n,Cs=[.int k n]/\(Lit.int k n).wf=true:=by
 unfold DataW.trod at h
 rw[b]at h
 split at h<;>simp_all
theorem uW {a:Nat} {t:TypeId} {Cs:List Value} {x:DataW H×List MemPlace} (b:P.underlying t=some .string) (h:DataW.trod enc P w 0 (fun _=>true) held (a+1) t Cs=some x):∃s:ByteArray,Cs=[.string s]/\s.size<=maxLen:=by
 unfold DataW.trod at h
 rw[b]at h
 split at h<;>simp_all
theorem uX {a:Nat} {t:TypeId} {fs:Array Field} {Cs:List Value} {x:DataW H×List MemPlace} (b:P.underlying t=some (.struct fs)) (h:DataW.trod enc P w 0 (fun _=>true) held (a+1) t Cs=some x):
  Cs.length=P.cellsOf t/\∃xs,fs.toList.mapM (fun f=>DataW.trod enc P w 0 (fun _=>true) held a f.type ((Cs.drop f.offset).take (P.cellsOf f.type)))=some xs:=by
 unfold DataW.trod at h
 rw[b]at h
 split at h<;>simp_all
 obtain⟨_,y,h,_⟩:=h
 exact⟨y,h⟩
theorem yE {a n:Nat} {t e:TypeId} {Cs:List Value} {x:DataW H×List MemPlace} (b:P.underlying t=some (.array n e)) (h:DataW.trod enc P w 0 (fun _=>true) held (a+1) t Cs=some x):
  Cs.length=P.cellsOf t/\∃xs,(List.range n).mapM (fun i=>DataW.trod enc P w 0 (fun _=>true) held a e ((Cs.drop (i*P.cellsOf e)).take (P.cellsOf e)))=some xs:=by
 unfold DataW.trod at h
 rw[b]at h
 split at h<;>simp_all
 obtain⟨_,y,h,_⟩:=h
 exact⟨y,h⟩
theorem yF {c:Nat} {t e:TypeId} {Cs:List Value} {x:DataW H×List MemPlace} (k:P.underlying t=some (.slice e)) (h:DataW.trod enc P w 0 (fun _=>true) held (c+1) t Cs=some x):
  Cs=[.slice none 0 0]\/∃a len cap,Cs=[.slice (some a) len cap]/\len<=cap/\cap<=maxLen/\∀i,i<cap->∃row y,w.cells? 0 (a.add (i*P.cellsOf e)) (P.cellsOf e)=some row/\DataW.trod enc P w 0 (fun _=>true) held c e row=some y:=by
 unfold DataW.trod at h
 rw[k]at h
 split at h
 all_goals first|(simp_all;done)|skip
 rename_i e' a len cap he
 cases he
 right
 simp only at h
 split at h
 .rename_i hc
  obtain⟨_,c1,c2⟩:=hc
  simp only[lT1,mW1,lV1]at h
  obtain⟨d,h1,rest,h2,_⟩:=h
  refine⟨a,len,cap,rfl,c1,c2,fun i hi=>?_⟩
  by_cases f:i<len
  .obtain ⟨y,b,_⟩:=(gF h1).2 i i (oO1 f)
   simp only[lT1]at b
   obtain⟨row,b,g⟩:=b
   exact⟨row,y,b,g⟩
  .obtain ⟨y,b,_⟩:=(gF h2).2 (i-len) (i-len) (oO1 (by omega))
   have j:len+(i-len)=i:=by omega
   rw[j]at b
   simp only[lT1]at b
   obtain⟨row,b,g⟩:=b
   exact⟨row,y,b,g⟩
 .cases h
theorem aG1:∀(D f:Nat) (t:TypeId) (Cs:List Value) (G:DataW H) (ps:List MemPlace),DataW.trod enc P w 0 (fun _=>true) held f t Cs=some (G,ps)->cM P D t=true->Rd P w D t Cs
 |0,_,_,_,_,_,_,hp=>by simp[cM]at hp
 |D+1,0,_,_,_,_,h,_=>by simp[DataW.trod]at h
 |D+1,f+1,t,Cs,G,ps,h,hp=>by
  have IH:=fun t Cs G ps=>aG1 D f t Cs G ps
  have one:∀{x:AV} {y:Value},VR (gW w) x y->isCell y=true->TyC P (D+1) t [x]->Rd P w (D+1) t [y]:=fun h1 h2 r=>
   ⟨_,.cons h1 (.nil _),r,fun y hy=>by simp at hy;subst hy;exact h2⟩
  unfold cM at hp
  split at hp
  .rename_i c
   obtain⟨b,rfl⟩:=aF1 c h
   exact one (.v rfl) rfl (by simp[TyC,c])
  .rename_i k c
   obtain⟨n,rfl,Z⟩:=dR1 c h
   exact one (.v rfl) rfl (by simp[TyC,c];exact Z)
  .rename_i c
   obtain⟨s,rfl,hs⟩:=uW c h
   exact one (.v rfl) rfl (by simp[TyC,c];exact hs)
  .rename_i e c
   simp only[lU1,bne_iff_ne,ne_eq]at hp
   obtain⟨h0,hp⟩:=hp
   rcases yF c h with rfl|⟨a,len,cap,rfl,c1,c2,hget⟩
   .exact one (x:=.v (.slice none 0 0)) (.v rfl) rfl (by simp[TyC,c])
   .by_cases M:cap=0
    .have O:len=0:=by omega
     subst M;subst O
     exact one (x:=.is (P.cellsOf e) []) .is0 rfl (by simp[TyC,c])
    .have d:∀i,i<cap->∃row:List AV,row.length=P.cellsOf e/\TyC P D e row/\a.spot=none/\∀(j:Nat) (x:AV),row[j]? =some x->∃y,(gW w).cell a (i*P.cellsOf e+j)=some y/\isCell y=true/\VR (gW w) x y:=by
      intro i hi
      obtain⟨row,y,S,T⟩:=hget i hi
      obtain⟨l1,W⟩:=mW S
      obtain⟨cs,q1,q2,q3⟩:=IH e row y.1 y.2 T hp
      have hs:a.spot=none:=by
       have h1:=W 0 (by omega)
       have h2:row[0]? =some row[0]:=by simp
       rw[h2]at h1
       have r:=World.cell?_spot h1
       unfold Addr.add at r
       split at r
       .split at r
        .exact r
        .rename_i a0
         obtain⟨F,_,R,_⟩:=hget 0 (by omega)
         obtain⟨l3,U⟩:=mW R
         have B:=U 0 (by omega)
         have K:F[0]? =some F[0]:=by simp
         rw[K]at B
         have L:=World.cell?_spot B
         simpa[Addr.add]using L
       .obtain ⟨F,_,R,_⟩:=hget 0 (by omega)
        obtain⟨l3,U⟩:=mW R
        have B:=U 0 (by omega)
        have K:F[0]? =some F[0]:=by simp
        rw[K]at B
        have L:=World.cell?_spot B
        simpa[Addr.add]using L
      refine⟨cs,by rw[q1.1,l1],q2,hs,fun j x u=>?_⟩
      have hj:j<row.length:=by rw[<-q1.1];exact(lX1.1 u).1
      have hc:=W j (by omega)
      have C:row[j]? =some row[j]:=by simp
      rw[C]at hc
      have Y:(a.add (i*P.cellsOf e)).add j=a.add (i*P.cellsOf e+j):=by
       obtain⟨b,o,s⟩:=a
       simp only at hs
       subst hs
       rw[dI,dI,dI,nE1]
      rw[Y]at hc
      exact⟨row[j],hA1 hc hs,q3 _ (by simp),q1.2 j x _ u C⟩
     obtain⟨els,A,e2⟩:=jB (n:=len) (fun i hi=>d i (by omega))
     obtain⟨_,_,_,hs,_⟩:=d 0 (by omega)
     have hv:VR (gW w) (.is (P.cellsOf e) els) (.slice (some a) els.length cap):=
      .is hs (by omega) (fun i row hr=>(e2 i row hr).1) (fun i row j x hr u=>by
       obtain⟨y,z,X,_⟩:=(e2 i row hr).2.2.2 j x u
       exact⟨y,z,X⟩) (fun i row j x y hr u hy=>by
       obtain⟨y',z,X,y3⟩:=(e2 i row hr).2.2.2 j x u
       rw[hy]at z
       cases z
       exact y3)
     rw[A]at hv
     refine one hv rfl ?_
     simp only[TyC,c]
     refine .inr ⟨els,rfl,by omega,fun row hr=>?_⟩
     obtain⟨i,hi⟩:=nA1.1 hr
     exact⟨(e2 i row hi).1,(e2 i row hi).2.1⟩
  .rename_i fs c
   simp only[lU1]at hp
   obtain⟨hl,xs,q⟩:=uX c h
   obtain⟨cs,S,T,k3,_⟩:=mX IH fs.toList 0 (P.cellsOf t) Cs xs q hp.1 hp.2 hl
   exact⟨cs,by simpa using S,by simpa only[TyC,c]using T,by simpa using k3⟩
  .rename_i n e c
   simp only[lU1,nT1]at hp
   obtain⟨hl,xs,q⟩:=yE c h
   rw[hp.1]at hl
   have d:∀i,i<n->∃row:List AV,TR (gW w) row ((Cs.drop (i*P.cellsOf e)).take (P.cellsOf e))/\TyC P D e row/\∀y∈(Cs.drop (i*P.cellsOf e)).take (P.cellsOf e),isCell y=true:=by
    intro i hi
    obtain⟨y,z,_⟩:=(gF q).2 i i (by simp[hi])
    exact IH e _ y.1 y.2 z hp.2
   obtain⟨rows,V,J⟩:=jB d
   have hlen:∀row∈rows,row.length=P.cellsOf e:=by
    intro row hr
    obtain⟨i,hi⟩:=nA1.1 hr
    have N:i<n:=by rw[<-V];exact(lX1.1 hi).1
    rw[(J i row hi).1.1,oC1,List.length_drop,hl]
    have:(i+1)*P.cellsOf e<=n*P.cellsOf e:=mR1 _ N
    rw[nG1]at this
    omega
   have key:∀(m:Nat) (l:List (List AV)),l.length=m->(∀(i:Nat) (row:List AV),l[i]? =some row->TR (gW w) row ((Cs.drop ((n-m+i)*P.cellsOf e)).take (P.cellsOf e))/\∀y∈(Cs.drop ((n-m+i)*P.cellsOf e)).take (P.cellsOf e),isCell y=true)->m<=n->
     TR (gW w) l.flatten (Cs.drop ((n-m)*P.cellsOf e))/\∀y∈Cs.drop ((n-m)*P.cellsOf e),isCell y=true:=by
    intro m
    induction m with
    |zero=>
     intro l p _ _
     have:l=[]:=by cases l;rfl;simp at p
     subst this
     have:Cs.drop ((n-0)*P.cellsOf e)=[]:=by rw[List.drop_eq_nil_iff,hl];simp
     rw[this]
     exact⟨.nil _,fun y h=>by simp at h⟩
    |succ m ih=>
     intro l p hr hm
     cases l with
     |nil=>simp at p
     |cons row l=>
      have h0:=hr 0 row rfl
      rw[nY1]at h0
      have g:=ih l (by simpa using p) (fun i E hi=>by
       have:=hr (i+1) E (by simpa using hi)
       have A:n-(m+1)+(i+1)=n-m+i:=by omega
       rwa [A]at this) (by omega)
      have hd:(Cs.drop ((n-(m+1))*P.cellsOf e)).drop (P.cellsOf e)=Cs.drop ((n-m)*P.cellsOf e):=by
       rw[oD1]
       congr 1
       have:n-m=n-(m+1)+1:=by omega
       rw[this,nG1]
      refine⟨by simpa using TR.of_parts h0.1 (by rw[hd];exact g.1),fun y hy=>?_⟩
      rw[<-oH1 (P.cellsOf e) (Cs.drop ((n-(m+1))*P.cellsOf e)),hd,oJ1]at hy
      rcases hy with hy|hy
      .exact h0.2 y hy
      .exact g.2 y hy
   have hk:=key n rows V (fun i row hi=>by
    have A:n-n+i=i:=by omega
    rw[A]
    exact⟨(J i row hi).1,(J i row hi).2.2⟩) (lW1 _)
   simp only[Nat.sub_self,pE1,nJ1]at hk
   refine⟨rows.flatten,hk.1,?_,hk.2⟩
   simp only[TyC,c]
   refine⟨rows,rfl,V,fun row hr=>⟨hlen row hr,?_⟩⟩
   obtain⟨i,hi⟩:=nA1.1 hr
   exact(J i row hi).2.1
  .cases hp
end
end Go.Sim
namespace Go.Sim
section
variable {T:Tab} {ex ex':Nat->Bool->IC->St->Option (Ex×St)}
def qJ (ex ex':Nat->Bool->IC->St->Option (Ex×St)):Prop:=∀lim rd c σ r,ex lim rd c σ=some r->ex' lim rd c σ=some r
theorem mY (b:qJ ex ex') {lim:Nat} {fn:IFn} {args:List AV} {s:Hp} {r:AV×Hp} (h:body ex lim fn args s=some r):body ex' lim fn args s=some r:=by
 unfold body at h ⊢
 split at h
 .cases h
 .rename_i e σ a he
  rw[b _ _ _ _ _ he]
  cases e with
  |exit id=>exact absurd rfl (a id)
  |normal=>exact h
  |ret=>exact h
 .cases h
theorem mono_runP (a:qJ ex ex') {f:FuncId} {fn:IFn} {args:List AV} {r:AV} (h:runP T ex f fn args=some r):runP T ex' f fn args=some r:=by
 unfold runP at h ⊢
 split at h
 .rename_i b
  exact h
 .split at h
  .rename_i hb;rw[mY a hb];exact h
  .cases h
theorem kO (a:qJ ex ex') {lim:Nat} {f:FuncId} {args:List AV} {s:Hp} {r:AV×Hp} (h:callF T ex lim f args s=some r):callF T ex' lim f args s=some r:=by
 unfold callF at h ⊢
 split at h
 .cases h
 .rename_i fn c
  (try simp only[c])
  split at h
  .rename_i hp
   rw[mA1 hp]
   split at h
   .rename_i hc
    rw[mA1 hc]
    simp only[lV1]at h
    obtain⟨v,hv,rfl⟩:=h
    rw[mono_runP a hv];rfl
   .rename_i hc
    rw[lY1 hc]
    split at h
    .rename_i d
     rw[mA1 d]
     split at h
     .rename_i as b
      (try simp only[b])
      split at h
      .rename_i hb;rw[mono_runP a hb];exact h
      .cases h
     .cases h
    .rename_i d
     rw[lY1 d]
     split at h
     .rename_i hb;rw[mY a hb];exact h
     .cases h
  .rename_i hp
   rw[lY1 hp]
   exact mY a h
theorem yG (a:qJ ex ex') {lim l:Nat} {args:List AV} {s:Hp} {r:AV×Hp} (h:round ex lim l args s=some r):round ex' lim l args s=some r:=by
 unfold Sim.round at h ⊢
 split at h
 .rename_i c
  (try simp only[c])
  split at h
  .rename_i hc
   rw[mA1 hc]
   split at h
   .rename_i σ d
    rw[a _ _ _ _ _ d]
    simp only
    split at h
    .rename_i b
     (try simp only[b])
     split at h
     .rename_i hb;rw[a _ _ _ _ _ hb];exact h
     .rename_i hb;rw[a _ _ _ _ _ hb];exact h
     .rename_i hb;rw[a _ _ _ _ _ hb];exact h
     .cases h
    .cases h
   .cases h
  .cases h
 .cases h
theorem jR (a:qJ ex ex') {lim:Nat} {k:OpK} {xs:List AV} {s:Hp} {r:AV×Hp} (h:step T ex lim k xs s=some r):step T ex' lim k xs s=some r:=by
 unfold step at h ⊢
 split at h
 .exact kO a h
 .split at h
  .unfold callV at h ⊢
   split at h
   .exact kO a h
   .exact yG a h
   .cases h
  .cases h
 .exact h
theorem jC (b:qJ ex ex') {lim:Nat}:∀{os:List Sim.Op1} {σ τ:St},runOps T ex lim os σ=some τ->runOps T ex' lim os σ=some τ
 |[],σ,τ,h=>h
 |o::os,σ,τ,h=>by
  simp only[runOps]at h ⊢
  split at h
  .rename_i hw
   rw[mA1 hw]
   split at h
   .rename_i c
    (try simp only[c])
    split at h
    .rename_i a
     simp only[jR b a]
     exact jC b h
    .cases h
   .cases h
  .rename_i hw
   rw[lY1 hw]
   exact jC b h
theorem dV (c:qJ ex ex') {lim:Nat} {before:List Nat}:∀{os:List Sim.Op1} {j:Nat} {fs:List Foot} {σ:St} {r:St×List Foot},bN T ex lim before os j fs σ=some r->bN T ex' lim before os j fs σ=some r
 |[],j,fs,σ,r,h=>h
 |o::os,j,fs,σ,r,h=>by
  simp only[bN]at h ⊢
  split at h
  .rename_i hw
   rw[mA1 hw]
   split at h
   .rename_i e
    (try simp only[e])
    split at h
    .rename_i d
     rw[mA1 d]
     split at h
     .rename_i a
      simp only[jR c a]
      exact dV c h
     .cases h
    .rename_i d
     rw[lY1 d]
     split at h
     .rename_i b
      rw[mA1 b]
      split at h
      .rename_i a
       simp only[xW (fun _ _=>jR c) a]
       exact dV c h
      .cases h
     .rename_i b
      rw[lY1 b]
      split at h
      .rename_i a
       simp only[jR c a]
       exact dV c h
      .cases h
   .cases h
  .rename_i hw
   rw[lY1 hw]
   exact dV c h
theorem sL (T:Tab):∀d,qJ (exec T d) (exec T (d+1))
 |0,lim,rd,c,σ,r,h=>by simp[exec]at h
 |d+1,lim,rd,c,σ,r,h=>by
  have ih:=sL T d
  cases c with
  |skip=>simpa only[exec]using h
  |reg ops=>
   simp only[exec,lV1]at h
   obtain⟨τ,h,rfl⟩:=h
   rw[exec,jC ih h]
   rfl
  |regD ops before=>
   rw[exec]at h ⊢
   split at h
   .rename_i hf
    rw[dV ih hf]
    exact h
   .cases h
  |seq a b=>
   rw[exec]at h ⊢
   split at h
   .rename_i i
    rw[ih _ _ _ _ _ i]
    exact ih _ _ _ _ _ h
   .rename_i g
    have h2:=ih _ _ _ _ _ h
    rw[h2]
    obtain⟨e,τ⟩:=r
    cases e with
    |normal=>exact absurd h (g τ)
    |ret=>rfl
    |exit id=>rfl
  |cond c a b=>
   rw[exec]at h ⊢
   split at h
   .rename_i hc
    (try simp only[hc])
    exact ih _ _ _ _ _ h
   .cases h
  |block id c=>
   rw[exec]at h ⊢
   split at h
   .rename_i i
    rw[ih _ _ _ _ _ i]
    exact h
   .rename_i g
    have h2:=ih _ _ _ _ _ h
    rw[h2]
    obtain⟨e,τ⟩:=r
    cases e with
    |normal=>rfl
    |ret=>rfl
    |exit id=>exact absurd h (g _ _)
  |loop c=>
   rw[exec]at h ⊢
   split at h
   .rename_i i
    rw[ih _ _ _ _ _ i]
    exact ih _ _ _ _ _ h
   .rename_i e τ g i
    rw[ih _ _ _ _ _ i]
    cases e with
    |normal=>exact(g rfl).elim
    |ret=>exact h
    |exit id=>exact h
   .cases h
  |rangeF f ps a b=>
   rw[exec]at h ⊢
   split at h
   .rename_i j
    (try simp only[j])
    split at h
    .rename_i hc
     simp only[kO ih hc]
     exact h
    .cases h
   .cases h
  |exit id=>simpa only[exec]using h
  |ret=>simpa only[exec]using h
theorem mono_le (T:Tab) {d a:Nat} (h:d<=a):qJ (exec T d) (exec T a):=by
 induction h with
 |refl=>exact fun _ _ _ _ _ h=>h
 |step _ ih=>exact fun _ _ _ _ _ h=>sL T _ _ _ _ _ _ (ih _ _ _ _ _ h)
end
end Go.Sim
namespace Go.Sim
def eR (P:Program):Nat->List (Option IFn)->Prop
 |_,[]=>True
 |i,none::r=>eR P (i+1) r
 |i,some ifn::r=>(∃fn,P.funcs[i]? =some fn/\gN P fn ifn.pure ifn.frz=some ifn)/\eR P (i+1) r
theorem eR.get {P:Program}:∀{l:List (Option IFn)} {i j:Nat} {ifn:IFn},eR P i l->l[j]? =some (some ifn)->∃fn,P.funcs[i+j]? =some fn/\gN P fn ifn.pure ifn.frz=some ifn
 |[],i,j,ifn,_,h=>by simp at h
 |none::r,i,j,ifn,h,hj=>by
  cases j with
  |zero=>simp at hj
  |succ j=>
   have:=eR.get (l:=r) h (by simpa using hj)
   rwa [show i+1+j=i+(j+1)by omega]at this
 |some x::r,i,j,ifn,h,hj=>by
  cases j with
  |zero=>
   simp at hj
   subst hj
   exact h.1
  |succ j=>
   have:=eR.get (l:=r) h.2 (by simpa using hj)
   rwa [show i+1+j=i+(j+1)by omega]at this
def oE:List (FuncId×List AV×AV)->FuncId->List AV->Option AV
 |[],_,_=>none
 |(f',as,v)::r,f,args=>if f=f'/\eqL (eqAV 20) args as=true then some v else oE r f args
def jS (P:Program):List (FuncId×List AV×AV)->Prop
 |[]=>True
 |(f,as,v)::r=>fZ P f as v/\jS P r
theorem wL {P:Program}:∀{M:List (FuncId×List AV×AV)} {f:FuncId} {args:List AV} {v:AV},jS P M->oE M f args=some v->fZ P f args v
 |[],_,_,_,_,h=>by cases h
 |(f',as,v')::r,f,args,v,hM,h=>by
  simp only[oE]at h
  split at h
  .rename_i hc
   cases h
   rw[hc.1,mL (mM 20) hc.2]
   exact hM.1
  .exact wL hM.2 h
theorem iD {M:List (FuncId×List AV×AV)} {f:FuncId} (h:∀e∈M,e.1≠f) (args:List AV):oE M f args=none:=by
 induction M with
 |nil=>rfl
 |cons e r ih=>
  obtain⟨f',as,v⟩:=e
  simp only[oE]
  rw[lY1 (fun hc=>h (f',as,v) (by simp) hc.1.symm)]
  exact ih (fun e he=>h e (by simp[he]))
theorem eR.tab {P:Program} {l:List (Option IFn)} {M:List (FuncId×List AV×AV)} (h:eR P 0 l) (a:jS P M):dZ P ⟨fun f=>(l[f]?).join,oE M⟩:=by
 refine⟨fun f ifn hf=>?_,fun f args v b=>wL a b⟩
 have:l[f]? =some (some ifn):=by
  cases hl:l[f]? with
  |none=>simp[hl]at hf
  |some x=>simp[hl]at hf;rw[hf]
 have h2:=eR.get h this
 rwa [nO1]at h2
def hB1 (P:Program):List Func->List (Option IFn)->List (Option IFn)
 |_,[]=>[]
 |[],_::_=>[]
 |_::fs,none::r=>none::hB1 P fs r
 |fn::fs,some x::r=>gN P fn x.pure x.frz::hB1 P fs r
theorem eR.of {P:Program}:∀{l:List (Option IFn)} {fs:List Func} {i:Nat},P.funcs.toList.drop i=fs->hB1 P fs l=l->eR P i l
 |[],_,_,_,_=>trivial
 |o::r,[],i,_,h=>by cases o<;>cases h
 |none::r,f::fs,i,hd,h=>by
  have a:P.funcs.toList.drop (i+1)=fs:=by rw[<-oD1,hd];rfl
  exact eR.of (l:=r) a (List.cons.inj h).2
 |some x::r,f::fs,i,hd,h=>by
  have a:P.funcs.toList.drop (i+1)=fs:=by rw[<-oD1,hd];rfl
  have hi:P.funcs[i]? =some f:=by
   rw[<-nP1,<-List.head?_drop,hd];rfl
  exact⟨⟨f,hi,(List.cons.inj h).1⟩,eR.of (l:=r) a (List.cons.inj h).2⟩
theorem qK {P:Program} {T:Tab} (b:dZ P T) (a:P.follows .mixedOrders=true) {f:FuncId} {fn:IFn} {args:List AV} {v:AV} {d:Nat} (hf:T f=some fn) (hp:fn.pure=true) (hc:args.all (closed 4)=true)
  (h:runP T (exec T d) f fn args=some v):fZ P f args v:=by
 intro g w s n Args e c
 exact mK (oY b a d) b hf hc h e c
end Go.Sim
namespace Go.Sim
open Go.RowKit Go.ChangeShapes Go.WideShapes
section
variable {H:Type} {enc:TypeId×Value->H} {P:Program} {W W':World}
theorem hD1 {a:Addr} {y:Value} (h:W.cell? a=some y):a.block<W.heap.size:=by
 unfold World.cell? at h
 split at h
 .rename_i hb
  exact(mH1.1 hb).1
 .cases h
theorem yH (hb:Below W.heap.size W W') {a:Addr} {n:Nat} {cs:List Value} (h:W.cells? 0 a n=some cs):W'.cells? 0 a n=some cs:=by
 unfold World.cells? at h ⊢
 simp only[nR1,mW1]at h ⊢
 exact mapM_mono (fun x y b=>by rw[hb.cell (hD1 b)];exact b) h
theorem gS {α β:Type} {f g:α->Option β}:∀{l:List α} {r:List β},l.mapM f=some r->(∀x y,x∈l->y∈r->f x=some y->g x=some y)->l.mapM g=some r
 |[],r,h,_=>by simpa using h
 |a::l,r,h,hk=>by
  simp only[oY1,Option.bind_eq_bind,lT1,Option.pure_def,lZ1]at h
  obtain⟨b,hb,e,c,rfl⟩:=h
  have h1:=gS c (fun x y d hy=>hk x y (by simp[d]) (by simp[hy]))
  have h2:=hk a b (by simp) (by simp) hb
  simp[oY1,h1,h2]
theorem sM (hb:Below W.heap.size W W') {held:Bool} {sp:Nat->Bool}:∀(b D:Nat) (t:TypeId) (cs:List Value) (x:DataW H×List MemPlace),cM P D t=true->
  DataW.trod enc P W 0 (fun _=>true) held b t cs=some x->(∀q∈x.2,sp q.block=true)->DataW.trod enc P W' 0 sp held b t cs=some x
 |0,_,_,_,_,_,h,_=>by simp[DataW.trod]at h
 |b+1,0,_,_,_,hp,_,_=>by simp[cM]at hp
 |b+1,D+1,t,cs,x,hp,h,hs=>by
  have IH:=sM hb (held:=held) (sp:=sp) b D
  unfold cM at hp
  split at hp
  .rename_i d
   unfold DataW.trod at h ⊢
   rw[d]at h ⊢
   split at h<;>simp_all
  .rename_i k d
   unfold DataW.trod at h ⊢
   rw[d]at h ⊢
   split at h<;>simp_all
  .rename_i d
   unfold DataW.trod at h ⊢
   rw[d]at h ⊢
   split at h<;>simp_all
  .rename_i e d
   simp only[lU1,bne_iff_ne,ne_eq]at hp
   obtain⟨h0,hp⟩:=hp
   unfold DataW.trod at h ⊢
   rw[d]at h ⊢
   split at h
   all_goals first|(simp_all;done)|skip
   rename_i e' a len cap he
   cases he
   simp only at h ⊢
   split at h
   .rename_i hc
    rw[mA1 hc]
    simp only[lT1,mW1,lV1]at h
    obtain⟨c,h1,rest,h2,rfl⟩:=h
    simp only[oJ1]at hs
    have el:∀(i:Nat) (y:DataW H×List MemPlace),(y∈c\/y∈rest)->((W.cells? 0 (a.add (i*P.cellsOf e)) (P.cellsOf e)).bind (DataW.trod enc P W 0 (fun _=>true) held b e))=some y->
      ((W'.cells? 0 (a.add (i*P.cellsOf e)) (P.cellsOf e)).bind (DataW.trod enc P W' 0 sp held b e))=some y:=by
     intro i y hy h
     simp only[lT1]at h ⊢
     obtain⟨row,v,w⟩:=h
     refine⟨row,yH hb v,IH e row y hp w (fun q m=>hs q (Or.inr ?_))⟩
     rw[List.mem_flatMap]
     exact⟨y,by simpa using hy,m⟩
    have o:=gS h1 (g:=fun i=>(W'.cells? 0 (a.add (i*P.cellsOf e)) (P.cellsOf e)).bind (DataW.trod enc P W' 0 sp held b e)) (fun i y _ hy h=>el i y (Or.inl hy) h)
    have l:=gS h2 (g:=fun j=>(W'.cells? 0 (a.add ((len+j)*P.cellsOf e)) (P.cellsOf e)).bind (DataW.trod enc P W' 0 sp held b e)) (fun i y _ hy h=>el (len+i) y (Or.inr hy) h)
    rw[o]
    simp only[mC1]
    by_cases r:cap=0
    .have:cap-len=0:=by omega
     rw[this]at h2 l ⊢
     have:rest=[]:=by simpa using h2.symm
     subst this
     split<;>simp
    .have p:sp a.block=true:=by
      have hlen:c.length+rest.length=cap:=by
       have s:=(gF h1).1
       have e2:=(gF h2).1
       simp at s e2
       omega
      refine hs (.cell a.block (a.off+0)) (Or.inl ?_)
      unfold MemPlace.row
      rw[List.mem_map]
      refine⟨0,?_,rfl⟩
      rw[List.mem_range,hlen]
      exact Nat.mul_pos (by omega) (by omega)
     rw[mA1 p,l]
     rfl
   .cases h
  .rename_i fs d
   simp only[lU1]at hp
   unfold DataW.trod at h ⊢
   rw[d]at h ⊢
   split at h
   all_goals first|(simp_all;done)|skip
   rename_i u he
   cases he
   split at h
   .rename_i hc
    rw[mA1 hc]
    simp only[lV1]at h ⊢
    obtain⟨xs,h1,rfl⟩:=h
    refine⟨xs,gS h1 (fun f y hf hy h=>IH f.type _ y ?_ h (fun q m=>hs q ?_)),rfl⟩
    .exact mB1.1 hp.2 f hf
    .rw [List.mem_flatMap]
     exact⟨y,hy,m⟩
   .cases h
  .rename_i n e d
   simp only[lU1,nT1]at hp
   unfold DataW.trod at h ⊢
   rw[d]at h ⊢
   split at h
   all_goals first|(simp_all;done)|skip
   rename_i n' e' he
   cases he
   split at h
   .rename_i hc
    rw[mA1 hc]
    simp only[lV1]at h ⊢
    obtain⟨xs,h1,rfl⟩:=h
    refine⟨xs,gS h1 (fun i y hi hy h=>IH e _ y hp.2 h (fun q m=>hs q ?_)),rfl⟩
    rw[List.mem_flatMap]
    exact⟨y,hy,m⟩
   .cases h
  .cases hp
theorem lE (hb:Below W.heap.size W W') {held:Bool} {sp:Nat->Bool} {D:Nat}:∀(c:List TypeId) (vs:List Value) (a:List (DataW H)) (ps:List MemPlace),(c.all fun t=>cM P D t)=true->
  DataW.TrodAll enc P W 0 (fun _=>true) held c vs a ps->(∀q∈ps,sp q.block=true)->DataW.TrodAll enc P W' 0 sp held c vs a ps
 |[],vs,a,ps,_,h,_=>by
  match vs,a,h with
  |[],[],h=>exact h
 |t::c,vs,a,ps,hp,h,hs=>by
  match vs,a,h with
  |v::vs,d::a,h=>
   obtain⟨p,q,⟨b,h1⟩,h2,rfl⟩:=h
   simp only[nQ1,lU1]at hp
   exact⟨p,q,⟨b,sM hb b D t _ _ hp.1 h1 (fun x e=>hs x (by simp[e]))⟩,lE hb c vs a q hp.2 h2 (fun x e=>hs x (by simp[e])),rfl⟩
def ArgR (P:Program) (W:World) (D:Nat) (t:TypeId) (x:AV) (V:Value):Prop:=
 VR (gW W) x V/\∃cs,TyC P D t cs/\x=(if bE P t then .agg cs else cs.headD .undef)
theorem jP1 {D a:Nat} {t:TypeId} {V:Value} {x:DataW H×List MemPlace} (b:(∃cs,V=.agg cs)↔bE P t=true) (j:∀cs,V≠.tuple cs) (hp:cM P D t=true)
  (h:DataW.trod enc P W 0 (fun _=>true) true a t V.cells.toList=some x):∃y,ArgR P W D t y V:=by
 obtain⟨cs,h1,h2,f⟩:=aG1 D a t _ x.1 x.2 h hp
 by_cases d:bE P t=true
 .obtain ⟨Cs,rfl⟩:=b.2 d
  refine⟨.agg cs,.agg (by simpa[Value.cells]using h1.1) (fun i y hy=>f y ?_) (fun i x y k hy=>h1.2 i x y k (by simpa[Value.cells]using hy)),cs,h2,by rw[mA1 d]⟩
  simp only[Value.cells]
  exact mE1 (by simpa using hy)
 .have g:∀Cs,V≠.agg Cs:=fun Cs e=>d (b.1 ⟨Cs,e⟩)
  have hc:V.cells=#[V]:=by cases V<;>simp_all[Value.cells]
  rw[hc]at h1
  have hl:=h1.1
  match cs,hl,h1,h2 with
  |[c],_,h1,h2=>exact⟨c,h1.head,[c],h2,by rw[lY1 d];rfl⟩
end
end Go.Sim
namespace Go.Sim
open Go.RowKit Go.ChangeShapes Go.WideShapes Go.ChangeAt
section
variable {H:Type} {enc:TypeId×Value->H} {P:Program} {W W':World}
theorem yI {D:Nat} {t:TypeId} {base:Nat} {V:Value} (hp:cM P D t=true) (a:Value.okWide P W .any base t V):((∃cs,V=.agg cs)↔bE P t=true)/\∀cs,V≠.tuple cs:=by
 cases D with
 |zero=>simp[cM]at hp
 |succ D=>
 unfold cM at hp
 unfold Value.okWide at a
 unfold bE
 split at hp
 .rename_i b
  rw[b]at a ⊢
  simp only[Cell.okWide,b]at a
  cases V<;>simp_all[Cell.ok]
 .rename_i b
  rw[b]at a ⊢
  simp only[Cell.okWide,b]at a
  cases V<;>simp_all[Cell.ok]
 .rename_i b
  rw[b]at a ⊢
  simp only[Cell.okWide,b]at a
  cases V<;>simp_all[Cell.ok]
 .rename_i b
  rw[b]at a ⊢
  simp only[Cell.okWide,b]at a
  cases V<;>simp_all[Cell.ok]
 .rename_i b
  rw[b]at a ⊢
  obtain⟨cs,rfl,_⟩:=a
  exact⟨⟨fun _=>rfl,fun _=>⟨cs,rfl⟩⟩,fun cs h=>by cases h⟩
 .rename_i b
  rw[b]at a ⊢
  obtain⟨cs,rfl,_⟩:=a
  exact⟨⟨fun _=>rfl,fun _=>⟨cs,rfl⟩⟩,fun cs h=>by cases h⟩
 .cases hp
def oF (P:Program) (W:World) (D:Nat):List TypeId->List AV->List Value->Prop
 |[],[],[]=>True
 |t::ts,x::xs,V::Vs=>ArgR P W D t x V/\oF P W D ts xs Vs
 |_,_,_=>False
theorem aH1 {D base:Nat}:∀{e:List TypeId} {vs:List Value} {c:List (DataW H)} {ps:List MemPlace},(e.all fun t=>cM P D t)=true->
  (∀(j:Nat) t v,e[j]? =some t->vs[j]? =some v->Value.okWide P W .any base t v)->
  DataW.TrodAll enc P W 0 (fun _=>true) true e vs c ps->∃xs,oF P W D e xs vs
 |[],vs,c,ps,_,_,h=>by
  match vs,c,h with
  |[],[],h=>exact⟨[],trivial⟩
 |t::e,vs,c,ps,hp,hok,h=>by
  match vs,c,h with
  |v::vs,d::c,h=>
   obtain⟨p,q,⟨g,h1⟩,h2,rfl⟩:=h
   simp only[nQ1,lU1]at hp
   obtain⟨k,l⟩:=yI hp.1 (hok 0 t v rfl rfl)
   obtain⟨x,i⟩:=jP1 k l hp.1 h1
   obtain⟨xs,f⟩:=aH1 hp.2 (fun j t v a b=>hok (j+1) t v (by simpa using a) (by simpa using b)) h2
   exact⟨x::xs,i,f⟩
theorem oF.tr {D:Nat}:∀{a:List TypeId} {xs:List AV} {vs:List Value},oF P W D a xs vs->TR (gW W) xs vs
 |[],[],[],_=>.nil _
 |_::_,_::_,_::_,h=>.cons h.1.1 (oF.tr h.2)
theorem mZ {sp:Nat->Bool} {base:Nat} {held:Bool}:∀{b:List TypeId} {vs:List Value} {a:List (DataW H)} {ps:List MemPlace},DataW.TrodAll enc P W base sp held b vs a ps->a.length=b.length/\vs.length=b.length
 |[],vs,a,ps,h=>by
  match vs,a,h with
  |[],[],h=>exact⟨rfl,rfl⟩
 |t::b,vs,a,ps,h=>by
  match vs,a,h with
  |v::vs,d::a,⟨p,q,h1,h2,_⟩=>
   obtain⟨c,e⟩:=mZ h2
   exact⟨by simp[c],by simp[e]⟩
end
theorem sN {C:Checked} {f:FuncId} {fn:Func} {s:ChangeSpec} {d fresh g:Bool} {D:Nat} {tb:TypeId} {H:Type} {enc:TypeId×Value->H}
  (i:s.vars=[]) (m:∀k:List (DataW H),k.length=fn.params.toList.length->s.fn H k={results:=[.lit (.bool true)],args:=k})
  (r:fn.resultTypes=#[tb]) (F:C.prog.underlying tb=some .bool) (c:(fn.params.toList.all fun t=>cM C.prog D t)=true)
  (w:∀(W:World) (xs:List AV) (args:Array Value),oF C.prog W D fn.params.toList xs args.toList->Calls C.prog f args W fun e W'=>e=.returned (.bool true)/\Below W.heap.size W W')
  (W:World) (base:Nat) (args:Array Value) (k A:List (DataW H)) (before:List MemPlace)
  (u:∀(j:Nat) t v,fn.params[j]? =some t->args[j]? =some v->Value.okWide C.prog W .any base t v)
  (J:DataW.Whole enc C.prog fn.params.toList s.vars d W args.toList k A before):
  Calls C.prog f args W fun e W'=>∃v,e=.returned v/\s.post enc C.prog fn d fresh g false W args v W':=by
 have n:=J
 obtain⟨p,q,B,y,rfl,K,L⟩:=J
 have E:A=[]/\q=[]:=by
  rw[i]at y
  match A,y with
  |[],y=>exact⟨rfl,y⟩
 obtain⟨rfl,rfl⟩:=E
 obtain⟨xs,G⟩:=aH1 c (fun j t v a b=>u j t v (by simpa using a) (by simpa using b)) B
 refine(w W xs args G).mono fun e W' ⟨he,hb⟩=>?_
 subst he
 have l:=m k (mZ B).1
 have o:∀x∈p,(decide (x.block<W.heap.size))=true:=fun x z=>by
  have:=n.lt x (by simp[z])
  simpa using this
 refine⟨_,rfl,k,[],p++[],[],p,[],n,?_,?_,?_,World.keptBut_mono (fun x z=>⟨z,by simpa using z⟩) (hb.frame (· ∈p++[])),fun h=>by cases h⟩
 .rw [oW1,l,r]
  exact trodAll_mk1 (shut_bool F _)
 .rw [oW1,l]
  exact lE hb _ _ _ _ c B o
 .rw [oW1,l,i]
  rfl
end Go.Sim
