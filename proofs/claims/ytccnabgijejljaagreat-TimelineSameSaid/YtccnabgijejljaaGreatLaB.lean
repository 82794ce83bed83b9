import Derived.Test.YtccnabgijejljaaGreatLaA
import Derived.ControlIn
import Derived.LoopNIn
import GoSem.ClaimChange
import Derived.Below
import Derived.DataReads
import Derived.ChangeSame
import Derived.ProofKit
import Derived.OpenShut
/- A text of the proof. -/
set_option linter.unusedVariables false
set_option linter.unusedSimpArgs false
namespace Go.Sim
section
variable {P:Program} {T:Tab} {ex:Nat->Bool->IC->St->Option (Ex×St)} {lim n:Nat} {g:Gh} {w:World} {r:Option Nat}
theorem lA {fn:Func} {pure frz:Bool} {ifn:IFn} (h:eH P fn pure frz=some ifn):(∃c,fn.body=some c)/\(fn.name== "runtime.NumGoroutine")=false:=by
 unfold eH at h
 split at h
 .cases h
 .rename_i c hb
  split at h
  .split at h
   .rename_i a
    exact⟨⟨c,hb⟩,by simpa using a⟩
   .cases h
  .cases h
theorem xG {ρ:Operand->Value} {o:Oper} {e:Operand} {args:Array Operand} {d:Array TypeId} {f:FuncId} {F C:Array Value} {fn:Func} {c:Code} (h:o.op=.call {callee:=.value e,args:=args,argTypes:=d}) (g:ρ e=.func (.func f) F C)
  (hf:P.funcs[f]? =some fn) (hb:fn.body=some c) (b:(fn.name== "runtime.NumGoroutine")=false):(execOp ρ o).run P w=.ok (.enter f (F++args.map ρ++C)) w:=by
 have a:¬fn.name= "runtime.NumGoroutine":=by simpa using b
 simp[execOp,h,resolve,g,Deferred.ofValue,invoke,callFunc,hf,a,hb]
theorem xH {ρ:Operand->Value} {o:Oper} {d:Operand} {args:Array Operand} {a:Array TypeId} {b:Nat} {R:Loop} (f:o.op=.call {callee:=.value d,args:=args,argTypes:=a}) (e:ρ d=.func (.yield b) #[] #[])
  (hb:w.heap[b]? =some (.loop R)) (c:R.params.size=args.size):(execOp ρ o).run P w=.ok (.round b R.fn ((R.params.zip (args.map ρ)).foldl (fun tmps (p:Tmp×Value)=>tmps.setIfInBounds p.1 p.2) R.tmps) R.assign R.body) w:=by
 simp[execOp,f,resolve,e,Deferred.ofValue,invoke,Instr.yield,eT hb,c]
theorem gE {o:Oper} {ρ:Operand->Value} (r:Option Nat) (h:∀c,o.op≠.defer c):Oper.semAt r ρ o=execOp ρ o:=by
 cases r with
 |none=>exact Oper.semAt_none ..
 |some l=>
  unfold Oper.semAt
  cases ho:o.op<;>first|rfl|exact absurd ho (h _)
theorem jX {o:Op} {ty:TypeId} {k:OpK} {os:List Operand} (h:cX P o ty=some (k,os)):∀c,o≠.defer c:=by
 rintro c rfl
 simp[cX]at h
theorem aM1 {o:Oper} {k:OpK} {os:List Operand} {xs:List AV} {out:Out} {s:Hp} {a:Act} (z:cX P o.op o.type=some (k,os)) (hd:doOp (look s.h) lim s.n k xs=some out) (E:TR g xs (os.map a.eval)) (d:Inv P g w s)
  (hl:lim<=s.n) {next:Act->World->Prop} {Q:Exit->Act->World->Prop} (b:∀V g' w',VR g' out.v V->Inv P g' w' (out.apply s)->Ext lim g g' w w'->s.n<=(out.apply s).n->next (a.put o.dst V) w'):
  o.wpIn (FW r) n P a w next Q:=by
 have D:g.ι s.n=none:=by
  cases h:g.ι s.n with
  |none=>rfl
  |some l=>have:=d.dom s.n (by rw[h];simp);omega
 obtain⟨V,nx,g',w',q,x,hv,B,C,y,j⟩:=jC a.eval o z E hd d.H d.W D hl
 have f:Inv P g' w' (out.apply s):=by
  have u:∀id ao,look (out.apply s).h id=some ao->out.after (look s.h) s.n id=some ao:=by
   intro id ao h
   cases c:out.up with
   |none=>
    cases hw:out.new with
    |none=>simpa[Out.apply,Out.after,Out.base,c,hw]using h
    |some ob=>
     simp only[Out.apply,c,hw,look]at h
     simp only[Out.after,Out.base,c,hw]
     split at h
     .rename_i e;subst e;simpa using h
     .rename_i e;rw[if_neg (fun t=>e t.symm)];exact h
   |some p=>
    obtain⟨i,ob'⟩:=p
    have h2:∀id ao,look (upd s.h i ob') id=some ao->(if id=i then some ob' else look s.h id)=some ao:=by
     intro id ao h
     rw[look_upd]at h
     split at h
     .rename_i hc;rw[if_pos hc.1];exact h
     .rename_i hc
      split
      .rename_i e
       subst e
       exfalso
       apply hc
       exact⟨rfl,by rw[h];rfl⟩
      .exact h
    cases hw:out.new with
    |none=>
     simp only[Out.apply,c,hw]at h
     simpa only[Out.after,Out.base,c,hw]using h2 id ao h
    |some ob=>
     simp only[Out.apply,c,hw,look]at h
     simp only[Out.after,Out.base,c,hw]
     split at h
     .rename_i e;subst e;simpa using h
     .rename_i e;rw[if_neg (fun t=>e t.symm)];exact h2 id ao h
  refine⟨fun id ao h=>B id ao (u id ao h),C,fun id h=>?_,?_⟩
  .rcases j id h with h1|⟨rfl,h2⟩
   .have:=d.dom id h1
    simp only[Out.apply]
    split
    .simp only;omega
    .exact this
   .simp only[Out.apply]
    split
    .simp
    .rename_i A;rw[A]at h2;cases h2
  .have c:Wf (match out.up with|some (id,ob)=>upd s.h id ob|none=>s.h) s.n:=by
    split
    .exact d.wf.upd _ _
    .exact d.wf
   simp only[Out.apply]
   split
   .exact ⟨by simp,c⟩
   .exact c
 have m:s.n<=(out.apply s).n:=by
  simp only[Out.apply]
  split
  .simp
  .exact Nat.le_refl _
 refine⟨fun _ _=>trivial,?_⟩
 rw[gE _ (jX z),q]
 rcases x with rfl|⟨rfl,rfl⟩
 .exact b V g' w' hv f y m
 .exact b undef g' w' hv f y m
theorem eW {o:Op} {ty:TypeId} {os:List Operand} {k:OpK} (h:cX P o ty=some (k,os)) (hk:k=.callV\/∃f,k=.callF f):
  ∃c e,o=.call c/\c.callee=.value e/\((∃f,k=.callF f/\e=.func f/\os=c.args.toList)\/(k=.callV/\os=e::c.args.toList)):=by
 have d:∀b a ty,cN P b a ty≠some .callV/\∀f,cN P b a ty≠some (.callF f):=by
  intro b a ty
  constructor
  .intro h
   unfold cN at h
   split at h<;>(repeat' split at h)<;>cases h
  .intro f h
   unfold cN at h
   split at h<;>(repeat' split at h)<;>cases h
 cases o
 case call c=>
  simp only[cX]at h
  split at h
  .rename_i f hc
   cases h
   exact⟨c,_,rfl,hc,.inl ⟨f,rfl,rfl,rfl⟩⟩
  .rename_i e _ hc
   cases h
   exact⟨c,_,rfl,hc,.inr ⟨rfl,rfl⟩⟩
  .rename_i b hc
   simp only[Option.map_eq_some_iff,Prod.mk.injEq]at h
   obtain⟨k',h1,rfl,rfl⟩:=h
   rcases hk with rfl|⟨f,rfl⟩
   .exact absurd h1 (d b _ _).1
   .exact absurd h1 ((d b _ _).2 f)
  .cases h
 all_goals (rcases hk with rfl|⟨f,rfl⟩<;>exfalso<;>simp only[cX]at h<;>(repeat' split at h)<;>simp_all)
theorem iH (p:fI P T) {o:Oper} {c:Call} {j:Operand} {f:FuncId} {first cap:Array Value} {a:Act} {ifn:IFn} (k:o.op=.call c) (hc:c.callee=.value j) (q:a.eval j=.func (.func f) first cap) (g:T f=some ifn)
  {R:Ending->World->Prop} (b:CallsIn (FW none) (n-1) P f (first++c.args.map a.eval++cap) w R) {next:Act->World->Prop} {Q:Exit->Act->World->Prop} (m:∀e w',R e w'->∃V,e=.returned V/\next (a.put o.dst V) w'):
  o.wpIn (FW r) n P a w next Q:=by
 obtain⟨fn,hf,i⟩:=p f ifn g
 obtain⟨⟨s,hb⟩,d⟩:=lA i
 obtain⟨callee,args,l⟩:=c
 simp only at hc
 subst hc
 refine⟨fun _ _=>trivial,?_⟩
 rw[gE _ (fun c h=>by rw[k]at h;cases h),xG k q hf hb d]
 refine⟨fun h=>(by cases h),CallsIn.mono (vN b) ?_⟩
 intro e w' he
 obtain⟨V,rfl,h⟩:=m e w' he
 exact h
theorem xI (u:ExOK P ex) (K:fI P T) {o:Oper} {k:OpK} {os:List Operand} {xs:List AV} {v:AV} {s s':Hp} {a:Act} (L:(cX P o.op o.type).getD (.fail,[])=(k,os)) (h:step T ex lim k xs s=some (v,s'))
  (E:TR g xs (os.map a.eval)) (J:Inv P g w s) (hl:lim<=s.n) {next:Act->World->Prop} {Q:Exit->Act->World->Prop}
  (m:∀V g' w',VR g' v V->Inv P g' w' s'->Ext lim g g' w w'->s.n<=s'.n->next (a.put o.dst V) w'):o.wpIn (FW r) n P a w next Q:=by
 cases hco:cX P o.op o.type with
 |none=>
  rw[hco]at L
  cases L
  simp only[step,kY]at h
  cases h
 |some p=>
  rw[hco]at L
  cases L
  have plain:∀out,doOp (look s.h) lim s.n k xs=some out->(out.v,out.apply s)=(v,s')->o.wpIn (FW r) n P a w next Q:=by
   intro out hd he
   cases he
   exact aM1 hco hd E J hl m
  unfold step at h
  split at h
  .rename_i f
   obtain⟨c,N,h1,h2,O⟩:=eW hco (.inr ⟨f,rfl⟩)
   rcases O with⟨Z,B,h5,S⟩|⟨B,_⟩
   .cases B
    subst h5
    have d:∃ifn,T f=some ifn:=by
     unfold callF at h
     split at h
     .cases h
     .rename_i ifn hi;exact⟨ifn,hi⟩
    obtain⟨ifn,d⟩:=d
    have j:TR g xs (#[]++c.args.map a.eval++#[]).toList:=by rw[S]at E;simpa using E
    exact iH K h1 h2 rfl d (kN u K h j J hl) (fun e w' he=>by
     obtain⟨V,g',rfl,z,G,H,A⟩:=he
     exact⟨V,rfl,m V g' w' z G H A⟩)
   .cases B
  .obtain ⟨c,N,h1,h2,O⟩:=eW hco (.inl rfl)
   rcases O with⟨Z,B,_⟩|⟨_,S⟩
   .cases B
   .subst S
    split at h
    .rename_i fa args
     have t:=E.head
     have j:=E.tail
     unfold callV at h
     split at h
     .rename_i f first cap
      generalize hV:a.eval N=V at t
      cases t with
      |@fn _ _ _ _ F C l1 l2 v1 v2=>
       have d:∃ifn,T f=some ifn:=by
        unfold callF at h
        split at h
        .cases h
        .rename_i ifn hi;exact⟨ifn,hi⟩
       obtain⟨ifn,d⟩:=d
       have hF:TR g first F.toList:=⟨by simpa using l1,fun i x y W hy=>v1 i x y W (by simpa using hy)⟩
       have hC:TR g cap C.toList:=⟨by simpa using l2,fun i x y W hy=>v2 i x y W (by simpa using hy)⟩
       have D:TR g (first++args++cap) (F++c.args.map a.eval++C).toList:=by
        have:=(hF.app j).app hC
        simpa using this
       exact iH K h1 h2 hV d (kN u K h D J hl) (fun e w' he=>by
        obtain⟨V,g',rfl,z,G,H,A⟩:=he
        exact⟨V,rfl,m V g' w' z G H A⟩)
     .rename_i l
      generalize hV:a.eval N=V at t
      cases t with
      |@yield _ _ b loc hi hp=>
       have q:TR g args (c.args.map a.eval).toList:=by simpa using j
       obtain⟨loc',R,z,G,H,A,X⟩:=aL1 u h q J hl
       rw[hi]at z
       cases z
       have U:=hp G
       subst U
       obtain⟨callee,M,Y⟩:=c
       simp only at h2 A X
       subst h2
       refine⟨fun _ _=>trivial,?_⟩
       rw[gE _ (fun c h=>by rw[h1]at h;cases h),xH h1 hV H (by simpa using A)]
       refine⟨fun h=>(by cases h),RoundIn.mono (X r (n-1)) ?_⟩
       rintro e w' ⟨V,g',rfl,q1,q2,q3,q4⟩
       exact m V g' w' q1 q2 q3 q4
     .cases h
    .cases h
  .split at h
   .rename_i out hd
    cases h
    exact plain out hd rfl
   .cases h
theorem fO1 {a:Act} {t:List AV} {i:Nat} {v:AV} (b:TR g t a.tmps.toList) (hv:t[i]? =some v):i<a.tmps.size:=by
 have h1:t.length=a.tmps.size:=by simpa using b.1
 have h2:=(List.getElem?_eq_some_iff.1 hv).1
 omega
theorem sG {a:Act} {t:List AV} {x:Operand} {j:IX} {v:AV} (e:TR g t a.tmps.toList) (b:opnd x=some j) (hv:j.ev t=some v):VR g v (a.eval x):=by
 cases x with
 |tmp i=>
  simp only[opnd,Option.some.injEq]at b
  subst b
  simp only[IX.ev]at hv
  have d:i<a.tmps.size:=fO1 e hv
  have:a.eval (.tmp i)=a.tmps[i]:=by simp[Act.eval,d]
  rw[this]
  exact e.2 i v _ hv (by simp[d])
 |const c=>
  simp only[opnd,Option.map_eq_some_iff]at b
  obtain⟨k,h1,rfl⟩:=b
  simp only[IX.ev,Option.some.injEq]at hv
  subst hv
  show VR g k c
  unfold AV.ofValue at h1
  split at h1
  .rename_i cs
   split at h1
   .rename_i hc
    cases h1
    refine .agg (by simp) (fun i y hy=>dP (List.all_eq_true.1 hc y (by
     rw[<-Array.getElem?_toList]at hy
     exact List.mem_iff_getElem?.2 ⟨i,hy⟩))) (fun i x y b hy=>?_)
    rw[<-Array.getElem?_toList]at hy
    simp only[List.getElem?_map,hy,Option.map_some,Option.some.injEq]at b
    subst b
    exact .v (List.all_eq_true.1 hc y (List.mem_iff_getElem?.2 ⟨i,hy⟩))
   .cases h1
  .rename_i cs
   split at h1
   .rename_i hc
    cases h1
    have:cs=#[]:=by
     rw[List.isEmpty_iff]at hc
     cases cs
     simp_all
    subst this
    exact .tup (by simp) (fun i x y b=>by simp at b)
   .cases h1
  .split at h1
   .rename_i hc
    cases h1
    exact .v hc
   .cases h1
 |global g=>simp[opnd]at b
 |func f=>
  simp only[opnd,Option.some.injEq]at b
  subst b
  simp only[IX.ev,Option.some.injEq]at hv
  subst hv
  exact .fn (by simp) (by simp) (fun i x y h=>by simp at h) (fun i x y h=>by simp at h)
theorem kO {a:Act} {t:List AV} (c:TR g t a.tmps.toList):∀{os:List Operand} {b:List IX} {xs:List AV},wI os=some b->evs t b=some xs->TR g xs (os.map a.eval)
 |[],b,xs,h,hx=>by
  simp only[wI,mapO,Option.some.injEq]at h
  subst h
  simp only[evs,Option.some.injEq]at hx
  subst hx
  exact .nil g
 |o::os,b,xs,h,hx=>by
  simp only[wI,mapO]at h
  split at h
  .rename_i f rest h1 h2
   cases h
   simp only[evs]at hx
   split at hx
   .rename_i v vs d e
    cases hx
    exact .cons (sG c h1 d) (kO c h2 e)
   .cases hx
  .cases h
theorem xJ {a:Act} {t:List AV} (b:TR g t a.tmps.toList) {v:AV} {V:Value} (hv:VR g v V) (d:Option Nat):TR g (put t d v) (a.put d V).tmps.toList:=by
 cases d with
 |none=>exact b
 |some i=>simpa[put,Act.put]using b.set hv i
theorem eY {ops:List Oper} {o:Oper} {io:Sim.Op1} (h:dO P ops o=some io):
    ∃os,(cX P o.op o.type).getD (.fail,[])=(io.k,os)/\wI os=some io.xs/\io.dst=o.dst/\
      (match o.guard with
       |none=>io.guard=none
       |some (j,b)=>∃c d,ops[j]? =some c/\c.dst=some d/\io.guard=some (d,b)):=by
  unfold dO at h
  generalize hc:(cX P o.op o.type).getD (.fail,[])=kx at h
  obtain⟨k,xs⟩:=kx
  simp only at h
  split at h
  .cases h
  . rename_i f a
    split at h
    . rename_i hg
      cases h
      exact⟨xs,rfl,a,rfl,by rw[hg]⟩
    . rename_i j b hg
      split at h
      . rename_i c e
        split at h
        . rename_i d hd
          cases h
          refine⟨xs,rfl,a,rfl,?_⟩
          rw[hg]
          exact⟨c,d,e,hd,rfl⟩
        .cases h
      .cases h
def aN1:Value->Option Bool
 |.bool b=>some b
 |_=>none
def dI1:AV->Option Bool
 |.v x=>aN1 x
 |_=>none
theorem VR.boolCell {x:AV} {X:Value} (h:VR g x X):aN1 X=dI1 x:=by
 cases h<;>rfl
theorem qC {a:Act} {t:List AV} (f:TR g t a.tmps.toList) {ops:Array Oper} {o:Oper} {io:Sim.Op1} (h:dO P ops.toList o=some io):Region.wanted o (yielded ops a.tmps)=Sim.wanted t io.guard:=by
 obtain⟨os,h1,h2,q,c⟩:=eY h
 unfold Region.wanted
 cases hg:o.guard with
 |none=>rw[hg]at c;simp only at c;rw[c];rfl
 |some p=>
  obtain⟨j,b⟩:=p
  rw[hg]at c
  obtain⟨n,d,k,l,m⟩:=c
  rw[m]
  simp only[Sim.wanted,yielded]
  have:ops[j]? =some n:=by simpa using k
  rw[this]
  simp only[Option.bind_some,l]
  cases hx:t[d]? with
  |none=>
   have:a.tmps[d]? =none:=by
    have h1:t.length=a.tmps.size:=by simpa using f.1
    rw[List.getElem?_eq_none_iff]at hx
    simp
    omega
   rw[this]
   rfl
  |some x=>
   have e:d<a.tmps.size:=fO1 f hx
   have i:a.tmps[d]? =some a.tmps[d]:=by simp[e]
   have hv:=f.2 d x a.tmps[d] hx (by simp[e])
   rw[i]
   have hb:=hv.boolCell
   generalize a.tmps[d]=X at hb
   revert hb
   cases x with
   |v y=>cases X<;>cases y<;>simp[dI1,aN1]<;>(intro h;subst h;rfl)
   |_=>cases X<;>simp[dI1,aN1]
theorem lB (f:ExOK P ex) (u:fI P T) {ops:Array Oper} {base:Nat} {Q:Exit->Act->World->Prop}:
  ∀(rest:List Oper) (ios:List Sim.Op1) (k:Nat) (σ l:St) (g:Gh) (w:World) (a:Act),mapO (dO P ops.toList) rest=some ios->(∀j,rest[j]? =ops[k+j]?)->runOps T ex lim ios σ=some l->
   TR g σ.t a.tmps.toList->Inv P g w σ.s->lim<=σ.s.n->dQ base g w a.defers->
   (∀g' a' w',pV P base lim g w σ.s l.t l.s g' a' w'->Q .normal a' w')->wpOpsIn (FW r) n P ops Q (List.range' k rest.length) a w
 |[],ios,k,σ,l,g,w,a,hc,hops,h,ht,hI,hl,hm,hQ=>by
  simp only[mapO,Option.some.injEq]at hc
  subst hc
  simp only[runOps,Option.some.injEq]at h
  subst h
  exact hQ g a w ⟨ht,hI,.refl lim g w,Nat.le_refl _,hm⟩
 |o::rest,ios,k,σ,l,g,w,a,hc,hops,h,ht,hI,hl,hm,hQ=>by
  simp only[mapO]at hc
  split at hc
  .rename_i io e hio d
   cases hc
   have h0:ops[k]? =some o:=by simpa using(hops 0).symm
   have c:∀j,rest[j]? =ops[(k+1)+j]? :=fun j=>by have:=hops (j+1);simpa[Nat.add_assoc,Nat.add_comm 1 j]using this
   simp only[List.length_cons,List.range'_succ,wpOpsIn,h0]
   rw[qC ht hio]
   obtain⟨os,c1,c2,c3,c4⟩:=eY hio
   simp only[runOps]at h
   split at h
   .rename_i hw
    rw[if_pos hw]
    split at h
    .rename_i xs y
     split at h
     .rename_i v s x
      refine xI f u c1 x (kO ht c2 y) hI hl (fun V g' w' C D z B=>?_)
      have b:=xJ (ht.mono z.le) C io.dst
      rw[c3]at b
      have i:dQ base g' w' (a.put o.dst V).defers:=by
       have:(a.put o.dst V).defers=a.defers:=by cases o.dst<;>rfl
       rw[this]
       exact hm.ext z
      refine lB f u rest e (k+1) _ l g' w' (a.put o.dst V) d c h (by rw[c3];exact b) D (Nat.le_trans hl B) i (fun q p A m=>?_)
      exact hQ q p A ⟨m.t,m.inv,z.trans m.ext,Nat.le_trans B m.n,m.marks⟩
     .cases h
    .cases h
   .rename_i hw
    rw[if_neg hw]
    refine⟨fun _ _=>trivial,?_⟩
    have b:=xJ ht (.undef g) io.dst
    rw[c3]at b
    have i:dQ base g w (a.put o.dst undef).defers:=by
     have:(a.put o.dst undef).defers=a.defers:=by cases o.dst<;>rfl
     rw[this]
     exact hm
    exact lB f u rest e (k+1) _ l g w (a.put o.dst undef) d c h (by rw[c3];exact b) hI hl i hQ
  .cases hc
end
end Go.Sim
namespace Go.Sim
structure eE (s s':Hp):Prop where
 wf:Wf s.h s.n->Wf s'.h s'.n
 n:s.n<=s'.n
theorem eE.refl (s:Hp):eE s s:=⟨id,Nat.le_refl _⟩
theorem eE.trans {a b c:Hp} (h:eE a b) (k:eE b c):eE a c:=⟨fun w=>k.wf (h.wf w),Nat.le_trans h.n k.n⟩
theorem sH (out:Out) (s:Hp):eE s (out.apply s):=by
 constructor
 .intro hw
  have a:Wf (match out.up with|some (id,ob)=>upd s.h id ob|none=>s.h) s.n:=by
   split
   .exact hw.upd _ _
   .exact hw
  simp only[Out.apply]
  split
  .exact ⟨by simp,a⟩
  .exact a
 .simp only[Out.apply]
  split
  .simp
  .exact Nat.le_refl _
theorem qD (s:Hp) (id:Nat) (o:AO):eE s {h:=upd s.h id o,n:=s.n}:=⟨fun h=>h.upd _ _,Nat.le_refl _⟩
section
variable {T:Tab} {ex:Nat->Bool->IC->St->Option (Ex×St)}
def iI (ex:Nat->Bool->IC->St->Option (Ex×St)):Prop:=∀lim rd c σ e a,ex lim rd c σ=some (e,a)->eE σ.s a.s
theorem vP (b:iI ex) {lim:Nat} {fn:IFn} {args:List AV} {s s':Hp} {v:AV} (h:body ex lim fn args s=some (v,s')):eE s s':=by
 unfold body at h
 split at h
 .cases h
 .rename_i e σ a he
  simp only[Option.map_eq_some_iff,Prod.mk.injEq]at h
  obtain⟨v',_,_,rfl⟩:=h
  exact b _ _ _ _ _ _ he
 .cases h
theorem gZ (a:iI ex) {lim:Nat} {f:FuncId} {args:List AV} {s s':Hp} {v:AV} (h:callF T ex lim f args s=some (v,s')):eE s s':=by
 unfold callF at h
 split at h
 .cases h
 .split at h
  .split at h
   .split at h
    .simp only[Option.map_eq_some_iff,Prod.mk.injEq]at h
     obtain⟨_,_,_,rfl⟩:=h
     exact .refl _
    .cases h
   .split at h
    .split at h
     .split at h
      .split at h
       .cases h
        exact .refl _
       .cases h
      .cases h
     .cases h
    .split at h
     .simp only[Option.map_eq_some_iff,Prod.mk.injEq]at h
      obtain⟨_,_,_,rfl⟩:=h
      exact .refl _
     .cases h
  .exact vP a h
theorem gP {l:Nat} {s s':Hp} {st:LoopState} {pend:Option IC} (h:endRound l s st pend=some s'):eE s s':=by
 obtain⟨_,_,_,_,_,_,_,rfl⟩:=eU h
 exact qD _ _ _
theorem sI (d:iI ex) {lim l:Nat} {args:List AV} {s s':Hp} {v:AV} (h:round ex lim l args s=some (v,s')):eE s s':=by
 unfold Sim.round at h
 split at h
 .split at h
  .split at h
   .rename_i σ f
    have h1:=d _ _ _ _ _ _ f
    split at h
    .have fin:∀{e:Ex} {τ:St} {id:Nat} {o:AO} {lim:Nat} {rd:Bool} {c:IC} {st:LoopState} {pend:Option IC} {b:AV},ex lim rd c {t:=σ.t,s:={h:=upd σ.s.h id o,n:=σ.s.n}}=some (e,τ)->
       (endRound l τ.s st pend).map (fun s=>(b,s))=some (v,s')->eE s s':=by
      intro e τ id o lim rd c st pend b hb a
      simp only[Option.map_eq_some_iff,Prod.mk.injEq]at a
      obtain⟨g,a,_,rfl⟩:=a
      exact((h1.trans (qD _ id o)).trans (d _ _ _ _ _ _ hb)).trans (gP a)
     split at h
     .rename_i τ hb;exact fin hb h
     .rename_i τ hb;exact fin hb h
     .rename_i id τ hb;exact fin hb h
     .cases h
    .cases h
   .cases h
  .cases h
 .cases h
theorem jD (a:iI ex) {lim:Nat} {k:OpK} {xs:List AV} {s s':Hp} {v:AV} (h:step T ex lim k xs s=some (v,s')):eE s s':=by
 unfold step at h
 split at h
 .exact gZ a h
 .split at h
  .unfold callV at h
   split at h
   .exact gZ a h
   .exact sI a h
   .cases h
  .cases h
 .split at h
  .cases h
   exact sH _ _
  .cases h
theorem fN (c:iI ex) {lim:Nat}:∀{os:List Sim.Op1} {σ a:St},runOps T ex lim os σ=some a->eE σ.s a.s
 |[],σ,a,h=>by
  simp only[runOps,Option.some.injEq]at h
  subst h
  exact .refl _
 |o::os,σ,a,h=>by
  simp only[runOps]at h
  split at h
  .split at h
   .split at h
    .rename_i b
     exact(jD c b).trans (fN c h)
    .cases h
   .cases h
  .have:=fN c h
   exact this
theorem dR (b:iI ex) {lim:Nat} {before:List Nat}:∀{os:List Sim.Op1} {j:Nat} {fs:List Foot} {σ c:St} {a:List Foot},bH T ex lim before os j fs σ=some (c,a)->eE σ.s c.s
 |[],j,fs,σ,c,a,h=>by
  simp only[bH,Option.some.injEq,Prod.mk.injEq]at h
  obtain⟨rfl,_⟩:=h
  exact .refl _
 |o::os,j,fs,σ,c,a,h=>by
  simp only[bH]at h
  split at h
  .split at h
   .split at h
    .split at h
     .have:=dR b h
      exact this
     .cases h
    .split at h
     .rename_i d
      exact(jD b d).trans (dR b h)
     .cases h
   .cases h
  .have:=dR b h
   exact this
theorem qE {σ:Hp}:eE σ {h:=popMark σ.h,n:=σ.n}:=⟨fun h=>h.pop,Nat.le_refl _⟩
theorem mV {σ:Hp}:eE σ {h:=.mark::σ.h,n:=σ.n}:=⟨fun h=>h,Nat.le_refl _⟩
theorem mW (T:Tab):∀d,iI (exec T d)
 |0,_,_,_,_,_,_,h=>by simp[exec]at h
 |d+1,lim,rd,c,σ,e,σ',h=>by
  have ih:=mW T d
  unfold exec at h
  split at h
  .cases h;exact .refl _
  .simp only[Option.map_eq_some_iff,Prod.mk.injEq]at h
   obtain⟨τ,h,_,rfl⟩:=h
   exact fN ih h
  .split at h
   .rename_i hf
    split at h
    .cases h
     exact dR ih hf
    .cases h
   .cases h
  .split at h
   .rename_i a
    exact(ih _ _ _ _ _ _ a).trans (ih _ _ _ _ _ _ h)
   .exact ih _ _ _ _ _ _ h
  .split at h
   .exact ih _ _ _ _ _ _ h
   .cases h
  .split at h
   .rename_i a
    split at h
    .cases h;exact ih _ _ _ _ _ _ a
    .cases h;exact ih _ _ _ _ _ _ a
   .exact ih _ _ _ _ _ _ h
  .split at h
   .rename_i a
    exact((mV.trans (ih _ _ _ _ _ _ a)).trans qE).trans (ih _ _ _ _ _ _ h)
   .rename_i a
    cases h
    exact(mV.trans (ih _ _ _ _ _ _ a)).trans qE
   .cases h
  .split at h
   .cases h
   .split at h
    .split at h
     .rename_i hc
      have h1:=gZ ih hc
      have h2:∀o:AO,eE σ.s {h:=.ob σ.s.n o::σ.s.h,n:=σ.s.n+1}:=fun o=>⟨fun h=>⟨by simp,h⟩,by simp⟩
      have f:=(h2 _).trans h1
      split at h
      .split at h
       .cases h
       .split at h
        .cases h
        .rename_i b
         have g:=f.trans (gP b)
         split at h<;>cases h<;>exact g
      .cases h
     .cases h
    .cases h
  .cases h;exact .refl _
  .cases h;exact .refl _
end
end Go.Sim
namespace Go.Sim
section
variable {P:Program} {F:Fence} {n:Nat} {b:Frame} {a:Act} {k:List Item} {cs:List Frame} {w:World} {Q:Exit->Act->World->Prop}
theorem cZ {c:Code}:Go.step P (lone (b.atR a (.code (.scope c)::k)) cs w)=.next (lone (b.atR a (.code c::.inScope c::k)) cs w):=
 step_lone_go (by simp[stepG,stepG.exec,Frame.atR])
theorem oG {c:Code}:Go.step P (lone (b.atR a (.inScope c::k)) cs w)=.next (lone (b.atR a k) cs w):=
 step_lone_go (by simp[stepG,stepG.exec,Frame.atR])
theorem vQ {c:Code} (hg:∀l a w,¬Q (.goto l) a w) (h:c.wpIn F n P Q a w):(Code.scope c).wpIn F n P Q a w:=by
 intro b k cs j hb hr
 have h0:(lone (b.atR a (.code (.scope c)::k)) cs w).fenced P F:=fenced_calm hb hr rfl
 obtain⟨e,g,w₁,f,d⟩:=h b (.inScope c::k) cs j hb hr
 cases e with
 |normal=>exact⟨.normal,g,w₁,f,.head h0 cZ (StepsIn.trans d (.one (fenced_calm hb hr rfl) oG))⟩
 |exit id=>
  have m:exitTo id (.inScope c::k)=exitTo id k:=by simp[exitTo]
  exact⟨.exit id,g,w₁,f,fun k' hk=>.head h0 cZ (d.1 k' (by rw[m];exact hk)),
   fun i hk=>let⟨o,h1,h2⟩:=d.2 i (by rw[m];exact hk);⟨o,h1,.head h0 cZ h2⟩⟩
 |goto l=>exact(hg _ _ _ f).elim
 |ret=>exact⟨_,g,w₁,f,.of_steps (.one h0 cZ) d⟩
 |panic ch=>exact⟨_,g,w₁,f,.of_steps (.one h0 cZ) d⟩
 |outgrown=>exact⟨_,g,w₁,f,.of_steps (.one h0 cZ) d⟩
end
end Go.Sim
namespace Go.Sim
section
variable {T:Tab} {L L':Nat->Option AO} {lim n n':Nat} {k:OpK} {xs:List AV} {out:Out}
theorem dE {esz:Nat} {x:AV} {r:List (List AV)} (h:rowsOf L esz x=some r) (a:∀id ao,id∈idOf x->L id=some ao->L' id=some ao):rowsOf L' esz x=some r:=by
 unfold rowsOf at h
 split at h
 .simpa only[rowsOf]using h
 .simpa only[rowsOf]using h
 .simpa only[rowsOf]using h
 .simpa only[rowsOf]using h
 .split at h
  .rename_i hl
   simp only[rowsOf,a _ _ (by simp[idOf]) hl]
   exact h
  .cases h
 .cases h
theorem qF {x:AV} {r:List (AV×AV)} (h:entsOf L x=some r) (a:∀id ao,id∈idOf x->L id=some ao->L' id=some ao):entsOf L' x=some r:=by
 unfold entsOf at h
 split at h
 .exact h
 .split at h
  .rename_i hl
   simp only[entsOf,a _ _ (by simp[idOf]) hl]
   exact h
  .cases h
 .exact h
 .cases h
theorem mK {ty:TypeId} {esz:Nat} {s:AV} {new:List (List AV)} {o:Out} (h:appendTo L lim n ty esz s new=some o) (a:∀id ao,id∈idOf s->L id=some ao->L' id=some ao):appendTo L' lim n ty esz s new=some o:=by
 unfold appendTo at h
 split at h
 .simpa only[appendTo]using h
 .simpa only[appendTo]using h
 .simpa only[appendTo]using h
 .split at h
  .rename_i hl
   simp only[appendTo,a _ _ (by simp[idOf]) hl]
   exact h
  .cases h
 .cases h
theorem oH {esz:Nat} {lo hi mx:Bool} {x:AV} {g:List AV} {v:AV} (h:sliceOp L esz lo hi mx (x::g)=some v) (k:∀id ao,id∈idOf x->L id=some ao->L' id=some ao):sliceOp L' esz lo hi mx (x::g)=some v:=by
 have key:∀(L:Nat->Option AO),(∀a b c d e f,x≠.sl a b c d e f)->sliceOp L esz lo hi mx (x::g)=sliceOp L' esz lo hi mx (x::g):=by
  intro L i
  cases x<;>first|rfl|exact absurd rfl (i _ _ _ _ _ _)|(rename_i y;cases y<;>first|rfl|(rename_i a b c;cases a<;>cases b<;>cases c<;>rfl))
 by_cases i:∃a b c d e f,x=.sl a b c d e f
 .obtain ⟨z,id,ver,off,len,cap,rfl⟩:=i
  cases hl:L id with
  |none=>
   exfalso
   simp only[sliceOp,hl]at h
   split at h<;>cases h
  |some ao=>
   have j:=k id ao (by simp[idOf]) hl
   simp only[sliceOp,hl]at h
   simp only[sliceOp,j]
   exact h
 .rw [<-key L (fun a b c d e f e'=>i ⟨a,b,c,d,e,f,e'⟩)]
  exact h
theorem xK {ty:TypeId} {esz b:Nat} {zero:List Value} {zeros:Bool} {s x:AV} (h:doOp L lim n (.append ty esz b zero zeros) [s,x]=some out) (e:∀id ao,id∈idOf x->L id=some ao->L' id=some ao) (hs:∀id ao,id∈idOf s->L id=some ao->L' id=some ao):
  doOp L' lim n (.append ty esz b zero zeros) [s,x]=some out:=by
 simp only[doOp]at h ⊢
 split at h
 .rename_i new a
  have c:appRows L' esz zeros zero x=some new:=by
   cases zeros
   .simp only[appRows,Bool.false_eq_true,if_false]at a ⊢
    exact dE a e
   .simp only[appRows,if_true]at a ⊢
    exact a
  split at h
  .rename_i o d
   simp only[c,mK d hs]
   exact h
  .cases h
 .cases h
theorem vR (h:doOp L lim n k xs=some out) (b:∀id ao,id∈(foot T k xs).rd\/id∈(foot T k xs).wr->L id=some ao->L' id=some ao):doOp L' lim n k xs=some out:=by
 unfold doOp at h
 split at h
 all_goals first|(simp only[doOp];exact h)|skip
 ·
  split at h
  .simpa only[doOp]using h
  .split at h
   .rename_i hl
    simp only[doOp,b _ _ (.inl (by simp[foot,idOf])) hl]
    exact h
   .cases h
  .cases h
 ·
  split at h
  .simpa only[doOp]using h
  .split at h
   .rename_i hl
    simp only[doOp,b _ _ (.inl (by simp[foot,idOf])) hl]
    exact h
   .cases h
  .cases h
 ·
  split at h
  .rename_i hc
   split at h
   .rename_i hl
    simp only[doOp,hc,b _ _ (.inr (by simp[foot,idOf])) hl]
    exact h
   .cases h
  .cases h
 ·
  split at h
  .rename_i hr
   simp only[doOp,dE hr (fun id ao a=>b id ao (.inl a))]
   exact h
  .cases h
 ·
  rename_i x
  simp only[Option.map_eq_some_iff]at h
  obtain⟨v,hv,rfl⟩:=h
  cases xs with
  |nil=>simp[sliceOp]at hv
  |cons x bs=>simp only[doOp,oH hv (fun id ao a=>b id ao (.inl a)),Option.map_some]
 ·
  split at h
  .rename_i c
   split at h
   .rename_i es he
    simp only[doOp,c,if_true,qF he (fun id ao a=>b id ao (.inl a))]
    exact h
   .cases h
  .cases h
 ·
  split at h
  .split at h
   .rename_i hl
    simp only[doOp,b _ _ (.inr (by simp[foot,idOf])) hl]
    exact h
   .cases h
  .cases h
 ·
  split at h
  all_goals first|(simp only[doOp];exact h)|skip
  .split at h
   .rename_i hl
    simp only[doOp,b _ _ (.inl (by simp[foot,idOf])) hl]
    exact h
   .cases h
 .exact xK h (fun id ao a=>b id ao (.inl a)) (fun id ao a=>b id ao (.inr a))
 ·
  split at h
  .rename_i rows hr
   split at h
   .simp only[doOp,dE hr (fun id ao a=>b id ao (.inl a))]
    exact h
   .simp only[doOp,dE hr (fun id ao a=>b id ao (.inl a))]
    exact h
   .split at h
    .rename_i hl
     simp only[doOp,dE hr (fun id ao a=>b id ao (.inl a)),b _ _ (.inr (by simp[foot,idOf])) hl]
     exact h
    .cases h
   .cases h
  .cases h
 ·
  split at h
  .simpa only[doOp]using h
  .simpa only[doOp]using h
  .split at h
   .rename_i hl
    simp only[doOp,b _ _ (.inr (by simp[foot,idOf])) hl]
    exact h
   .cases h
  .cases h
theorem sJ {ty:TypeId} {esz:Nat} {s:AV} {new:List (List AV)} {o:Out} {id:Nat} {ao:AO} (h:appendTo L lim n ty esz s new=some o) (a:o.up=some (id,ao)):id∈idOf s/\(L id).isSome=true:=by
 unfold appendTo at h
 split at h
 .split at h<;>cases h<;>cases a
 .split at h<;>cases h<;>cases a
 .split at h<;>cases h
  cases a
 .split at h
  .rename_i hl
   repeat' split at h
   all_goals cases h
   all_goals cases a
   all_goals exact⟨by simp[idOf],by rw[hl];rfl⟩
  .cases h
 .cases h
theorem vS {ty:TypeId} {esz:Nat} {s:AV} {new:List (List AV)} {o:Out} (h:appendTo L lim n ty esz s new=some o) (a:o.new=none):appendTo L lim n' ty esz s new=some o:=by
 unfold appendTo at h
 split at h
 .split at h
  .rename_i hc;cases h;simp only[appendTo,hc,if_true]
  .cases h;cases a
 .split at h
  .rename_i hc;cases h;simp only[appendTo,hc,if_true]
  .cases h;cases a
 .simpa only[appendTo]using h
 .split at h
  .rename_i hl
   simp only[appendTo,hl]
   split at h
   .rename_i hc
    rw[if_pos hc]
    split at h
    .rename_i h1;rw[if_pos h1];exact h
    .rename_i h1
     rw[if_neg h1]
     split at h
     .exact h
     .cases h
   .cases h
  .cases h
 .cases h
theorem xL {ty:TypeId} {esz b:Nat} {zero:List Value} {zeros:Bool} {s x:AV} (h:doOp L lim n (.append ty esz b zero zeros) [s,x]=some out):
  ∃new,appRows L esz zeros zero x=some new/\appendTo L lim n ty esz s new=some out/\∀n',appendTo L lim n' ty esz s new=some out->doOp L lim n' (.append ty esz b zero zeros) [s,x]=some out:=by
 simp only[doOp]at h
 split at h
 .rename_i new a
  split at h
  .rename_i o c
   have:o=out:=by
    split at h
    .split at h
     .cases h;rfl
     .cases h
    .cases h;rfl
   subst this
   refine⟨new,a,c,fun n' h'=>?_⟩
   simp only[doOp,a,h']
   exact h
  .cases h
 .cases h
theorem lC {id:Nat} {ao:AO} (h:doOp L lim n k xs=some out) (c:out.up=some (id,ao)):id∈(foot T k xs).wr/\(L id).isSome=true:=by
 have a:∀ty esz b zero zeros s x,k=.append ty esz b zero zeros->xs=[s,x]->id∈(foot T k xs).wr/\(L id).isSome=true:=by
  rintro ty esz b zero zeros s x rfl rfl
  obtain⟨new,h1,h2,_⟩:=xL h
  exact sJ h2 c
 unfold doOp at h
 split at h
 all_goals first|exact a _ _ _ _ _ _ _ rfl rfl|skip
 all_goals clear a
 all_goals (repeat' split at h)
 all_goals first
  |(cases h;done)
  |(simp only[Option.map_eq_some_iff]at h;obtain⟨_,_,rfl⟩:=h;cases c;done)
  |(cases h;cases c;done)
  |(have hl:= ‹L _=some _›;cases h;cases c;exact⟨by simp[foot,idOf],by rw[hl];rfl⟩)
theorem fP1 (h:doOp L lim n k xs=some out) (c:out.new=none):doOp L lim n' k xs=some out:=by
 have a:∀ty esz b zero zeros s x,k=.append ty esz b zero zeros->xs=[s,x]->doOp L lim n' k xs=some out:=by
  rintro ty esz b zero zeros s x rfl rfl
  obtain⟨new,h1,h2,d⟩:=xL h
  exact d n' (vS h2 c)
 unfold doOp at h
 split at h
 all_goals first|exact a _ _ _ _ _ _ _ rfl rfl|skip
 all_goals clear a
 all_goals first|(simp only[doOp];exact h)|skip
 all_goals (repeat' split at h)
 all_goals first
  |(cases h;done)
  |(simp only[Option.map_eq_some_iff]at h;obtain⟨_,_,rfl⟩:=h;cases c;done)
  |(cases h;cases c;done)
end
end Go.Sim
namespace Go.Sim
theorem jE {a:List Nat} {i:Nat}:∀{es:List Edge},(gN a es).testBit i=true->∃e∈es,Region.binds .any e=true/\(i=e.on\/(a.getD e.on 0).testBit i=true)
 |[],h=>by simp[gN]at h
 |e::es,h=>by
  simp only[gN]at h
  split at h
  .rename_i hb
   simp only[Nat.testBit_or,Bool.or_eq_true]at h
   rcases h with(h|h)|h
   .rw [Nat.testBit_two_pow]at h
    exact⟨e,by simp,hb,.inl (by simp at h;exact h.symm)⟩
   .exact ⟨e,by simp,hb,.inr h⟩
   .obtain ⟨e',h1,h2⟩:=jE h
    exact⟨e',by simp[h1],h2⟩
  .obtain ⟨e',h1,h2⟩:=jE h
   exact⟨e',by simp[h1],h2⟩
theorem gQ:∀(os:List Oper) (a:List Nat),∃tail,aW a os=a++tail/\tail.length=os.length/\
  ∀k o,os[k]? =some o->(aW a os).getD (a.length+k) 0=gN ((aW a os).take (a.length+k)) o.after.toList
 |[],a=>⟨[],by simp[aW],rfl,fun k o h=>by simp at h⟩
 |o::os,a=>by
  obtain⟨tail,h1,h2,b⟩:=gQ os (a++[gN a o.after.toList])
  refine⟨gN a o.after.toList::tail,by simp[aW,h1],by simp[h2],fun k o' hk=>?_⟩
  cases k with
  |zero=>
   simp only[List.getElem?_cons_zero,Option.some.injEq]at hk
   subst hk
   simp only[aW,h1,Nat.add_zero]
   simp
  |succ k=>
   have:=b k o' (by simpa using hk)
   have e:(a++[gN a o.after.toList]).length+k=a.length+(k+1):=by simp;omega
   rw[e]at this
   exact this
theorem hJ {ops:List Oper} (a:∀j o,ops[j]? =some o->∀e∈o.after.toList,Region.binds .any e=true->e.on<j) {D:Nat->Prop}
  (q:∀i oi,D i->ops[i]? =some oi->∀e∈oi.after.toList,Region.binds .any e=true->D e.on):∀(j:Nat) (o:Oper),ops[j]? =some o->(∀e∈o.after.toList,Region.binds .any e=true->D e.on)->
   ∀i,((aW [] ops).getD j 0).testBit i=true->D i:=by
 intro j
 induction j using Nat.strongRecOn with
 |_ j ih=>
  intro o k he i hi
  obtain⟨tail,h1,h2,m⟩:=gQ ops []
  have l:=m j o k
  simp only[List.length_nil,Nat.zero_add]at l
  rw[l]at hi
  obtain⟨e,g,h,d⟩:=jE hi
  rcases d with rfl|d
  .exact he e g h
  .have b:=a j o k e g h
   have r:j<ops.length:=(List.getElem?_eq_some_iff.1 k).1
   have n:((aW [] ops).take j).getD e.on 0=(aW [] ops).getD e.on 0:=by
    simp only[List.getD_eq_getElem?_getD,List.getElem?_take,b,if_true]
   rw[n]at d
   have c:ops[e.on]? =some ops[e.on]:=by simp
   exact ih e.on b _ c (fun e' p f=>q e.on _ (he e g h) c e' p f) i d
theorem lD {j:Nat} {o:Sim.Op1} {a:Nat}:∀{ps:List Sim.Op1} {b:Nat},tL j o a ps b=true->∀k p,ps[k]? =some p->b+k<j->
  a.testBit (b+k)=true\/((∀d,p.dst=some d->o.dst≠some d/\d∉o.reads)/\∀d,o.dst=some d->d∉p.reads)
 |[],b,h,k,p,hk,_=>by simp at hk
 |q::ps,b,h,k,p,hk,hlt=>by
  simp only[tL,Bool.and_eq_true,Bool.or_eq_true,decide_eq_true_eq]at h
  obtain⟨h1,h2⟩:=h
  cases k with
  |zero=>
   simp only[List.getElem?_cons_zero,Option.some.injEq]at hk
   subst hk
   rw[Nat.add_zero]at hlt ⊢
   rcases h1 with(h1|h1)|h1
   .omega
   .exact .inl h1
   .refine .inr ⟨fun d hd=>?_,fun d hd=>?_⟩
    .have:=h1.1
     rw[hd]at this
     simpa using this
    .have:=h1.2
     rw[hd]at this
     simpa using this
  |succ k=>
   have:=lD h2 k p (by simpa using hk) (by omega)
   have e:b+1+k=b+(k+1):=by omega
   rwa [e]at this
def revF (ft:Nat->Foot):Nat->List Foot
 |0=>[]
 |j+1=>ft j::revF ft j
theorem gF {ft ft':Nat->Foot}:∀{j:Nat},(∀i,i<j->ft i=ft' i)->revF ft j=revF ft' j
 |0,_=>rfl
 |j+1,h=>by rw[revF,revF,h j (by omega),gF (fun i hi=>h i (by omega))]
theorem revF_length (ft:Nat->Foot):∀j,(revF ft j).length=j
 |0=>rfl
 |j+1=>by simp[revF,revF_length ft j]
section
variable (T:Tab) (ex:Nat->Bool->IC->St->Option (Ex×St))
def Stp (lim a m j:Nat) (o:Sim.Op1) (ft:Nat->Foot) (st:Nat->St) (v:Nat->AV):Prop:=
  (st (j+1)).t=put (st j).t o.dst (v j)/\
  ((wanted (st j).t o.guard=false/\v j=.undef/\ft j={}/\(st (j+1)).s=(st j).s)\/
   (wanted (st j).t o.guard=true/\∃xs,evs (st j).t o.xs=some xs/\(foot T o.k xs).all=1/\ft j=foot T o.k xs/\(st (j+1)).s=(st j).s/\
     ∃b,step T ex lim o.k xs {h:=hide (unseen a j (revF ft j)) (st j).s.h,n:=(st j).s.n+(m-j)}=some (v j,b))\/
   (wanted (st j).t o.guard=true/\∃xs,evs (st j).t o.xs=some xs/\(foot T o.k xs).all≠1/\ft j={foot T o.k xs with al:=List.range' (st j).s.n ((st (j+1)).s.n-(st j).s.n)}/\
     step T ex lim o.k xs (st j).s=some (v j,(st (j+1)).s)))
variable {T ex}
theorem Stp.congr {lim a m j:Nat} {o:Sim.Op1} {ft ft':Nat->Foot} {st st':Nat->St} {v v':Nat->AV} (h:Stp T ex lim a m j o ft st v) (hf:∀i,i<=j->ft' i=ft i) (h1:st' j=st j) (h2:st' (j+1)=st (j+1)) (b:v' j=v j):
  Stp T ex lim a m j o ft' st' v':=by
 unfold Stp at *
 rw[h1,h2,b,hf j (Nat.le_refl _),gF (ft:=ft') (ft':=ft) (j:=j) (fun i hi=>hf i (by omega))]
 exact h
theorem tY {lim:Nat} {before:List Nat}:∀(os:List Sim.Op1) (j:Nat) (σ:St) (a:Nat->Foot) (l:St) (b:List Foot),bH T ex lim before os j (revF a j) σ=some (l,b)->
  ∃(st:Nat->St) (ft:Nat->Foot) (v:Nat->AV),(∀i,i<j->ft i=a i)/\st j=σ/\st (j+os.length)=l/\b=revF ft (j+os.length)/\
   ∀k o,os[k]? =some o->Stp T ex lim (before.getD (j+k) 0) (j+os.length) (j+k) o ft st v
 |[],j,σ,a,l,b,h=>by
  simp only[bH,Option.some.injEq,Prod.mk.injEq]at h
  obtain⟨rfl,rfl⟩:=h
  exact⟨fun _=>σ,a,fun _=>.undef,fun _ _=>rfl,rfl,rfl,rfl,fun k o h=>by simp at h⟩
 |o::os,j,σ,a,l,b,h=>by
  have rest:∀(r:St) (f:Foot) (x:AV),bH T ex lim before os (j+1) (f::revF a j) r=some (l,b)->
    (∀(st:Nat->St) (ft:Nat->Foot) (v:Nat->AV),st j=σ->st (j+1)=r->ft j=f->(∀i,i<j->ft i=a i)->v j=x->Stp T ex lim (before.getD j 0) (j+(os.length+1)) j o ft st v)->
    ∃(st:Nat->St) (ft:Nat->Foot) (v:Nat->AV),(∀i,i<j->ft i=a i)/\st j=σ/\st (j+(o::os).length)=l/\b=revF ft (j+(o::os).length)/\
     ∀k o',(o::os)[k]? =some o'->Stp T ex lim (before.getD (j+k) 0) (j+(o::os).length) (j+k) o' ft st v:=by
   intro r f x hr hs
   let d:Nat->Foot:=fun i=>if i=j then f else a i
   have p:f::revF a j=revF d (j+1):=by
    have h1:d j=f:=if_pos rfl
    rw[revF,h1,gF (ft:=d) (ft':=a) (fun i hi=>if_neg (by omega))]
   rw[p]at hr
   obtain⟨st,ft,v,h1,h2,u,w,y⟩:=tY os (j+1) r d l b hr
   have m:∀i,i<j->ft i=a i:=fun i hi=>(h1 i (by omega)).trans (if_neg (by omega))
   have n:ft j=f:=(h1 j (by omega)).trans (if_pos rfl)
   have hlen:j+(o::os).length=j+1+os.length:=by simp;omega
   refine⟨fun i=>if i=j then σ else st i,ft,fun i=>if i=j then x else v i,m,if_pos rfl,?_,?_,?_⟩
   .rw [hlen];exact(if_neg (by omega)).trans u
   .rw [hlen];exact w
   .intro k o' hk
    cases k with
    |zero=>
     simp only[List.getElem?_cons_zero,Option.some.injEq]at hk
     subst hk
     exact hs _ ft _ (if_pos rfl) ((if_neg (by omega)).trans h2) n m (if_pos rfl)
    |succ k=>
     have s:=y k o' (by simpa using hk)
     have e:j+1+k=j+(k+1):=by omega
     rw[e,<-hlen]at s
     exact s.congr (fun _ _=>rfl) (if_neg (by omega)) (if_neg (by omega)) (if_neg (by omega))
  simp only[bH]at h
  split at h
  .rename_i hw
   split at h
   .rename_i xs q
    split at h
    .rename_i c
     split at h
     .rename_i v t g
      refine rest _ _ v h (fun st ft v' a1 a2 a3 a4 a5=>?_)
      unfold Stp
      rw[a1,a2,a5,a3,gF a4]
      refine⟨rfl,.inr (.inl ⟨hw,xs,q,c,rfl,rfl,t,?_⟩)⟩
      have e:j+(os.length+1)-j=os.length+1:=by omega
      rw[e]
      exact g
     .cases h
    .rename_i c
     split at h
     .rename_i v t g
      refine rest _ _ v h (fun st ft v' a1 a2 a3 a4 a5=>?_)
      unfold Stp
      rw[a1,a2,a5,a3]
      exact⟨rfl,.inr (.inr ⟨hw,xs,q,c,rfl,g⟩)⟩
     .cases h
   .cases h
  .rename_i hw
   refine rest _ _ .undef h (fun st ft v' a1 a2 a3 a4 a5=>?_)
   unfold Stp
   rw[a1,a2,a5,a3]
   exact⟨rfl,.inl ⟨by simpa using hw,rfl,rfl,rfl⟩⟩
theorem gR {a:Nat} {f:Foot} {ft:Nat->Foot}:∀{j:Nat},drawOK.okAgainst a f (revF ft j) j=true->∀i,i<j->a.testBit i=true\/compat (ft i) f=true
 |0,_,i,hi=>by omega
 |j+1,h,i,hi=>by
  simp only[revF,drawOK.okAgainst,Nat.add_sub_cancel,Bool.and_eq_true,Bool.or_eq_true]at h
  by_cases e:i=j
  .subst e;exact h.1
  .exact gR h.2 i (by omega)
theorem lE {before:List Nat} {ft:Nat->Foot}:∀{m:Nat},drawOK before (revF ft m) m=true->∀j,j<m->∀i,i<j->(before.getD j 0).testBit i=true\/compat (ft i) (ft j)=true
 |0,_,j,hj=>by omega
 |m+1,h,j,hj=>by
  simp only[revF,drawOK,Nat.add_sub_cancel,Bool.and_eq_true]at h
  intro i hi
  by_cases e:j=m
  .subst e;exact gR h.1 i hi
  .exact lE h.2 j (by omega) i hi
end
end Go.Sim
namespace Go.Sim
section
variable {P:Program} {T:Tab} {lim n:Nat} {g:Gh} {w:World} {r:Option Nat}
def xM (P:Program) (T:Tab) (ex:Nat->Bool->IC->St->Option (Ex×St)):Prop:=
 ∀(lim:Nat) (ops:Array Oper) (ios:List Sim.Op1) (σ b:St) (fs:List Foot) (id:Nat),mapO (dO P ops.toList) ops.toList=some ios->cY1 ops.toList ios (aW [] ops.toList)=true->
  bH T ex lim (aW [] ops.toList) ios 0 [] σ=some (b,fs)->drawOK (aW [] ops.toList) fs fs.length=true->
  ∀(r:Option Nat) (g:Gh) (a:Act) (w:World) (n base:Nat),TR g σ.t a.tmps.toList->Inv P g w σ.s->lim<=σ.s.n->base<=w.heap.size->dQ base g w a.defers->
   (Code.region id ops true).wpIn (FW r) n P (vO P base lim g w σ.s .normal b) a w
theorem pV.trans {base:Nat} {s s' c:Hp} {t e:List AV} {g' b:Gh} {a' a:Act} {w' d:World} (h:pV P base lim g w s t s' g' a' w') (k:pV P base lim g' w' s' e c b a d):
  pV P base lim g w s e c b a d:=⟨k.t,k.inv,h.ext.trans k.ext,Nat.le_trans h.n k.n,k.marks⟩
theorem Inv.pop {s:Hp} (h:Inv P g w s):Inv P g w {h:=popMark s.h,n:=s.n}:=
 ⟨fun id ao a=>h.H id ao (tV h.wf a),h.W,h.dom,h.wf.pop⟩
theorem Inv.mark {s:Hp} (h:Inv P g w s):Inv P g w {h:=.mark::s.h,n:=s.n}:=⟨h.H,h.W,h.dom,h.wf⟩
theorem qG {base:Nat} {s s':Hp} {t:List AV} {g':Gh} {e:Ex} {d:St} {e':Exit} {a' a:Act} {w' b:World} (f:pV P base lim g w s t s' g' a' w') (h:vO P base lim g' w' s' e d e' a b):vO P base lim g w s e d e' a b:=by
 obtain⟨h1,c,h2⟩:=h
 exact⟨h1,c,f.trans h2⟩
theorem aH {D:Nat} (c:∀d,d<D->ExOK P (exec T d)) {x:Code} {f:IC} (l:comp P x=some f) {rd:Bool} {r:Option Nat} (hr:rd=r.isSome) {e:Ex} {o:St}:
  ∀(d:Nat),d<=D->∀(σ:St) (g:Gh) (a:Act) (w:World) (n base:Nat) (Q:Exit->Act->World->Prop),exec T d lim rd (.loop f) σ=some (e,o)->TR g σ.t a.tmps.toList->Inv P g w σ.s->lim<=σ.s.n->base<=w.heap.size->dQ base g w a.defers->
   (∀e' a' w',vO P base lim g w σ.s e o e' a' w'->Q e' a' w')->Code.roundsIn (FW r) n P x Q d a w
 |0,_,σ,g,a,w,n,base,Q,h,_,_,_,_,_,_=>by simp[exec]at h
 |d+1,hd,σ,g,a,w,n,base,Q,h,ht,hI,hl,hb,hm,hQ=>by
  simp only[exec]at h
  rw[roundsIn_succ]
  split at h
  .rename_i τ j
   refine wpIn_mono (c d (by omega) lim rd f _ .normal τ j x l r hr g a w n base ht hI.mark hl hb hm) ?_
   rintro p a1 m ⟨rfl,i,b⟩
   refine aH c l hr d (by omega) _ i a1 m n base Q h b.t b.inv.pop (Nat.le_trans hl b.n) (Nat.le_trans hb b.ext.size) b.marks ?_
   intro u a2 v h2
   exact hQ _ _ _ (qG (s':={h:=popMark τ.s.h,n:=τ.s.n}) ⟨b.t,b.inv.pop,b.ext,b.n,b.marks⟩ h2)
  .rename_i q τ k j
   cases h
   refine wpIn_mono (c d (by omega) lim rd f _ e τ j x l r hr g a w n base ht hI.mark hl hb hm) ?_
   rintro p a1 m ⟨rfl,i,b⟩
   cases e with
   |normal=>exact(k rfl).elim
   |ret=>exact hQ _ _ _ ⟨rfl,i,b.t,b.inv.pop,b.ext,b.n,b.marks⟩
   |exit id=>exact hQ _ _ _ ⟨rfl,i,b.t,b.inv.pop,b.ext,b.n,b.marks⟩
  .cases h
theorem Inv.other {s:Hp} (a:Inv P g w s) (o:Obj):Inv P g (w.alloc o) s/\Ext lim g g w (w.alloc o):=by
 have c:∀b o',g.G b=some o'->b<w.heap.size:=fun b o' h=>(Array.getElem?_eq_some_iff.1 (a.W.still b o' h)).1
 refine⟨⟨fun id ao d=>(a.H id ao d).mono (.refl g) rfl (fun loc hl=>bA w o (a.W.lt id loc hl)),⟨fun b o' h=>?_,fun id loc h=>?_,a.W.out,a.W.inj⟩,a.dom,a.wf⟩,
  ⟨.refl g,by simp,fun b hb _=>bA w o hb,fun id loc h=>.inl ⟨loc,h,rfl⟩,fun _ _=>rfl,rfl,rfl,rfl,fun _ _ h=>.inl h⟩⟩
 .rw [bA w o (c b o' h)]
  exact a.W.still b o' h
 .have:=a.W.lt id loc h
  simp
  omega
theorem dQ.fresh {base:Nat}:∀{a:List Deferred},dQ base g w a->∀d∈a,d.target≠.collected w.heap.size
 |[],_,d,hd=>by simp at hd
 |d0::a,⟨⟨r,h1,h2,h3,_,_,_⟩,h7⟩,d,hd=>by
  rcases List.mem_cons.1 hd with rfl|hd
  .intro e
   rw[h1]at e
   cases e
   have:=(Array.getElem?_eq_some_iff.1 h3).1
   omega
  .exact dQ.fresh h7 d hd
theorem sK {b:Nat} {R:Loop} (hb:w.heap[b]? =some (.loop R)) (hr:R.state≠.busy):(Instr.endLoop b).run P w=.ok R.pending {w with heap:=w.heap.setIfInBounds b (.loop {R with state:=.exhausted})}:=by
 simp[Instr.endLoop,eT hb,gY hb,hr]
def exOf:Option IC->Option Ex
 |none=>some .normal
 |some .ret=>some .ret
 |some (.exit id)=>some (.exit id)
 |_=>none
theorem oI {ex:Nat->Bool->IC->St->Option (Ex×St)} (b9:ExOK P ex) (hT:fI P T) {f:Operand} {of:IX} {ps:Array Tmp} {x y:Code} {cx cy:IC} (hf:opnd f=some of) (Z:comp P x=some cx) (hy:comp P y=some cy)
  {σ:St} {J:FuncId} {first cap:List AV} (b8:of.ev σ.t=some (.fn (.func J) first cap)) {v:AV} {s:Hp}
  (c:callF T ex lim J (first++[.fn (.yield σ.s.n) [] []]++cap) {h:=.ob σ.s.n (.loop .ready none σ.t ps.toList cx cy)::σ.s.h,n:=σ.s.n+1}=some (v,s))
  {st:LoopState} {pend:Option IC} {tm:List AV} {pm:List Nat} {as bd:IC} (hL:look s.h σ.s.n=some (.loop st pend tm pm as bd)) (d3:st≠.busy) {s':Hp} (U:endRound σ.s.n s .exhausted pend=some s')
  {e:Ex} (he:exOf pend=some e)
  {a:Act} {base:Nat} (ht:TR g σ.t a.tmps.toList) (L:Inv P g w σ.s) (hl:lim<=σ.s.n) (hb:base<=w.heap.size) (hm:dQ base g w a.defers):
  (Code.rangeFunc f ps x y).wpIn (FW none) n P (vO P base lim g w σ.s e {t:=σ.t,s:=s'}) a w:=by
 refine wpIn_rangeFunc (fun b0 _=>?_)
 have X:=sG ht hf b8
 generalize hV:a.eval f=V at X
 cases X with
 |@fn _ _ _ _ F C l1 l2 v1 v2=>
  have j:∃ifn,T J=some ifn:=by
   unfold callF at c
   split at c
   .cases c
   .rename_i ifn hi;exact⟨ifn,hi⟩
  obtain⟨ifn,j⟩:=j
  obtain⟨fn,d0,b7⟩:=hT J ifn j
  obtain⟨⟨cd,A⟩,D⟩:=lA b7
  have m:¬fn.name= "runtime.NumGoroutine":=by simpa using D
  let r:=w.alloc (.deferred (some []))
  let R:Loop:={state:=.ready,pending:=none,fn:=b0,tmps:=a.tmps,params:=ps,assign:=x,body:=y,defers:=w.heap.size}
  let E:=r.alloc (.loop R)
  have Y:r.heap.size=w.heap.size+1:=by simp[r]
  obtain⟨u,k⟩:=L.other (lim:=lim) (.deferred (some []))
  have hn:g.ι σ.s.n=none:=by
   cases h:g.ι σ.s.n with
   |none=>rfl
   |some l=>have:=L.dom σ.s.n (by rw[h];simp);omega
  let loc:Loc:={b:=w.heap.size+1,esz:=1,ct:=1,ver:=0}
  obtain⟨d,b6⟩:=wJ (lim:=lim) u.W (.loop R) σ.s.n loc Y.symm hn hl
  let g2:Gh:={G:=g.G,ι:=fun id=>if id=σ.s.n then some loc else g.ι id}
  have B:g2.ι σ.s.n=some loc:=if_pos rfl
  have b4:Inv P g2 E {h:=.ob σ.s.n (.loop .ready none σ.t ps.toList cx cy)::σ.s.h,n:=σ.s.n+1}:=by
   refine⟨fun id ao ha=>?_,b6,fun id h=>?_,⟨by simp,L.wf⟩⟩
   .simp only[look]at ha
    split at ha
    .rename_i e
     subst e
     cases ha
     refine⟨loc,R,B,rfl,?_,rfl,rfl,ht.mono (k.le.trans d.le),by simp[R],Z,hy⟩
     show E.heap[w.heap.size+1]? =_
     rw[<-Y]
     exact heap_alloc_new r _
    .rename_i e
     refine(u.H id ao ha).mono d.le ?_ (fun l hl=>bA r _ (u.W.lt id l hl))
     show(if id=σ.s.n then some loc else g.ι id)=g.ι id
     rw[if_neg (fun h=>e h.symm)]
   .show id<σ.s.n+1
    by_cases e:id=σ.s.n
    .omega
    .have h:g.ι id≠none:=by
      have:g2.ι id=g.ι id:=if_neg e
      rwa [this]at h
     have:=L.dom id h
     omega
  have hF:TR g first F.toList:=⟨by simpa using l1,fun i x y Z hy=>v1 i x y Z (by simpa using hy)⟩
  have hC:TR g cap C.toList:=⟨by simpa using l2,fun i x y Z hy=>v2 i x y Z (by simpa using hy)⟩
  have q:g.le g2:=k.le.trans d.le
  have z:TR g2 (first++[.fn (.yield σ.s.n) [] []]++cap) (F++#[Value.func (.yield (w.heap.size+1)) #[] #[]]++C).toList:=by
   have:=((hF.mono q).app (.cons (VR.yield (l:=σ.s.n) (b:=w.heap.size+1) B (fun _=>rfl)) (.nil g2))).app (hC.mono q)
   simpa using this
  have d2:dQ base g2 E ({target:=.collected w.heap.size,args:=#[]}::a.defers):=by
   refine⟨⟨w.heap.size,rfl,hb,?_,fun id l h=>?_,?_,hm.fresh⟩,(hm.ext k).ext d⟩
   .have h1:r.heap[w.heap.size]? =some (.deferred (some [])):=heap_alloc_new w _
    exact(bA r _ (by omega)).trans h1
   .by_cases e:id=σ.s.n
    .have h:(if id=σ.s.n then some loc else g.ι id)=some l:=h
     rw[if_pos e]at h
     cases h
     show w.heap.size+1≠w.heap.size
     omega
    .have h:(if id=σ.s.n then some loc else g.ι id)=some l:=h
     rw[if_neg e]at h
     have:=L.W.lt id l h
     omega
   .show g.G w.heap.size=none
    cases hG:g.G w.heap.size with
    |none=>rfl
    |some o=>
     have:=(Array.getElem?_eq_some_iff.1 (L.W.still _ o hG)).1
     omega
  refine⟨w.heap.size+1,[{target:=.collected w.heap.size,args:=#[]}],E,{target:=.fn (.func J) C,args:=F++#[Value.func (.yield (w.heap.size+1)) #[] #[]]},E,J,F++#[Value.func (.yield (w.heap.size+1)) #[] #[]]++C,E,?_,?_,fun _ _=>trivial,?_,fun h=>(by cases h),?_⟩
  .simp only[FW,Instr.enterLoop]
   simp[newObj,Sem.run,E,r,R]
  .have S:a.eval (.const (.func (.yield (w.heap.size+1)) #[] #[]))=.func (.yield (w.heap.size+1)) #[] #[]:=rfl
   simp[resolve,rangeCall,hV,Deferred.ofValue,S]
  .simp [invoke,callFunc,d0,m,A]
  .refine CallsIn.mono (kN b9 hT c z b4 (by show lim<=σ.s.n+1;omega)) ?_
   rintro e' w' ⟨V',M,rfl,k1,k2,k3,k4⟩
   obtain⟨a0,R3,m1,m2,m3,m4,m5,m6,m7,m8,m9⟩:=iG k2 hL
   have d1:a0=loc:=by
    obtain⟨loc',q1,q2,q3⟩:=k3.le.ι σ.s.n loc B
    rw[m1]at q1
    cases q1
    exact q3 m2.symm
   subst d1
   obtain⟨_,_,_,_,_,_,O,rfl⟩:=eU U
   rw[hL]at O
   cases O
   obtain⟨b5,N⟩:=oF (lim:=lim) (st':=.exhausted) (pend':=pend) (R':={R3 with state:=.exhausted}) k2 hL hl m1 m3 rfl m5 rfl rfl rfl rfl
   refine⟨_,_,sK m3 (by rw[m4];exact d3),?_⟩
   have p:Ext lim g M w {w' with heap:=w'.heap.setIfInBounds loc.b (.loop {R3 with state:=.exhausted})}:=((k.trans d).trans k3).trans N
   have K:pV P base lim g w σ.s σ.t {h:=upd s.h σ.s.n (.loop .exhausted pend tm pm as bd),n:=s.n} M {a with defers:=[{target:=.collected w.heap.size,args:=#[]}]++a.defers} {w' with heap:=w'.heap.setIfInBounds loc.b (.loop {R3 with state:=.exhausted})}:=
    ⟨ht.mono p.le,b5,p,by have:σ.s.n+1<=s.n:=k4;show σ.s.n<=s.n;omega,(d2.ext k3).ext N⟩
   unfold exOf at he
   split at he
   .cases he
    have:R3.pending=none:=m5
    rw[this]at K ⊢
    exact⟨rfl,M,K⟩
   .cases he
    have:R3.pending=some .ret:=m5
    rw[this]at K ⊢
    exact wpIn_ret ⟨rfl,M,K⟩
   .cases he
    have:R3.pending=some (.exit _):=m5
    rw[this]at K ⊢
    exact wpIn_exit ⟨rfl,M,K⟩
   .cases he
theorem tZ (J:fI P T) (hD:∀d,ExOK P (exec T d)->xM P T (exec T d)):∀D d,d<D->ExOK P (exec T d)
 |0,d,h=>by omega
 |D+1,d,hdD=>by
  have u:=tZ J hD D
  by_cases W:d<D
  .exact u d W
  have V:d=D:=by omega
  subst V
  cases d with
  |zero=>exact fun lim rd c σ e E h=>by simp[exec]at h
  |succ d=>
  have ih:=u d (by omega)
  intro lim rd c σ e E h code hc r hr g a w n base b j hl hb k
  cases code with
  |skip=>
   simp only[comp,Option.some.injEq]at hc
   subst hc
   simp only[exec,Option.some.injEq,Prod.mk.injEq]at h
   obtain⟨rfl,rfl⟩:=h
   exact wpIn_skip ⟨rfl,g,b,j,.refl lim g w,Nat.le_refl _,k⟩
  |region id ops dr=>
   simp only[comp]at hc
   split at hc
   .cases hc
   .rename_i ios F
    split at hc
    .rename_i z
     split at hc
     .rename_i N
      cases hc
      subst z
      simp only[exec]at h
      split at h
      .rename_i τ fs hf
       split at h
       .rename_i L
        cases h
        exact hD d ih lim ops ios σ E fs id F N hf L r g a w n base b j hl hb k
       .cases h
      .cases h
     .cases hc
    .rename_i z
     cases hc
     have z:dr=false:=by simpa using z
     subst z
     simp only[exec,Option.map_eq_some_iff,Prod.mk.injEq]at h
     obtain⟨τ,h,rfl,rfl⟩:=h
     refine wpIn_region ?_
     rw[List.range_eq_range',<-Array.length_toList]
     exact lB ih J ops.toList ios 0 σ τ g w a F (by simp) h b j hl k (fun g' a' w' m=>⟨rfl,g',m⟩)
  |seq x y=>
   simp only[comp]at hc
   split at hc
   .rename_i q O o hy
    cases hc
    simp only[exec]at h
    refine wpIn_seq ?_
    split at h
    .rename_i τ K
     refine wpIn_mono (ih lim rd q σ .normal τ K x o r hr g a w n base b j hl hb k) ?_
     rintro S a1 R ⟨rfl,C,m⟩
     refine wpIn_mono (ih lim rd O τ e E h y hy r hr C a1 R n base m.t m.inv (Nat.le_trans hl m.n) (Nat.le_trans hb m.ext.size) m.marks) ?_
     intro e2 a2 w2 h2
     exact qG m h2
    .rename_i G
     refine wpIn_mono (ih lim rd q σ e E h x o r hr g a w n base b j hl hb k) ?_
     rintro S a1 R ⟨rfl,C,m⟩
     cases e with
     |normal=>exact absurd h (G _)
     |ret=>exact⟨rfl,C,m⟩
     |exit id=>exact⟨rfl,C,m⟩
   .cases hc
  |cond c x y=>
   simp only[comp]at hc
   split at hc
   .rename_i oc q O M o hy
    cases hc
    simp only[exec]at h
    split at h
    .rename_i t B
     have hv:=(sG b M B).bool
     refine wpIn_cond hv ?_
     cases t
     .exact ih lim rd O σ e E h y hy r hr g a w n base b j hl hb k
     .exact ih lim rd q σ e E h x o r hr g a w n base b j hl hb k
    .cases h
   .cases hc
  |block id x=>
   simp only[comp,Option.map_eq_some_iff]at hc
   obtain⟨q,o,rfl⟩:=hc
   simp only[exec]at h
   refine wpIn_block ?_
   split at h
   .rename_i i τ K
    refine wpIn_mono (ih lim rd q σ (.exit i) τ K x o r hr g a w n base b j hl hb k) ?_
    rintro S a1 R ⟨rfl,C,m⟩
    simp only[Ex.toExit,Exit.inBlock]
    split at h
    .rename_i hi
     cases h
     rw[if_pos hi]
     exact⟨rfl,C,m⟩
    .rename_i hi
     cases h
     rw[if_neg hi]
     exact⟨rfl,C,m⟩
   .rename_i G
    refine wpIn_mono (ih lim rd q σ e E h x o r hr g a w n base b j hl hb k) ?_
    rintro S a1 R ⟨rfl,C,m⟩
    cases e with
    |normal=>exact⟨rfl,C,m⟩
    |ret=>exact⟨rfl,C,m⟩
    |exit id=>exact absurd h (G _ _)
  |loop x=>
   simp only[comp,Option.map_eq_some_iff]at hc
   obtain⟨q,o,rfl⟩:=hc
   exact wpIn_loop_rounds (d+1) (aH (D:=d+1) u o hr (d+1) (Nat.le_refl _) σ g a w n base _ h b j hl hb k (fun _ _ _ h=>h))
  |rangeFunc f ps x y=>
   simp only[comp]at hc
   split at hc
   .rename_i of q O M o hy
    cases hc
    simp only[exec]at h
    split at h
    .cases h
    .rename_i Y
     have Z:r=none:=by cases r with
      |none=>rfl
      |some l=>simp at hr;exact absurd hr Y
     subst Z
     split at h
     .rename_i gf first cap B
      split at h
      .rename_i v s p
       split at h
       .rename_i st pend tm pm as bd U
        split at h
        .cases h
        .rename_i H
         split at h
         .cases h
         .rename_i s' A
          split at h
          .cases h
           exact oI ih J M o hy B p U H A rfl b j hl hb k
          .cases h
           exact oI ih J M o hy B p U H A rfl b j hl hb k
          .cases h
           exact oI ih J M o hy B p U H A rfl b j hl hb k
          .cases h
       .cases h
      .cases h
     .cases h
   .cases hc
  |exit id=>
   simp only[comp,Option.some.injEq]at hc
   subst hc
   simp only[exec,Option.some.injEq,Prod.mk.injEq]at h
   obtain⟨rfl,rfl⟩:=h
   exact wpIn_exit ⟨rfl,g,b,j,.refl lim g w,Nat.le_refl _,k⟩
  |ret=>
   simp only[comp,Option.some.injEq]at hc
   subst hc
   simp only[exec,Option.some.injEq,Prod.mk.injEq]at h
   obtain⟨rfl,rfl⟩:=h
   exact wpIn_ret ⟨rfl,g,b,j,.refl lim g w,Nat.le_refl _,k⟩
  |scope x=>
   simp only[comp,Option.map_eq_some_iff]at hc
   obtain⟨q,o,rfl⟩:=hc
   simp only[exec]at h
   refine vQ (fun l a w X=>by obtain⟨X,_⟩:=X;cases e<;>cases X) ?_
   split at h
   .rename_i τ K
    have:e=.normal/\E=τ:=by
     cases d with
     |zero=>simp[exec]at h
     |succ d=>simp only[exec,Option.some.injEq,Prod.mk.injEq]at h;exact⟨h.1.symm,h.2.symm⟩
    obtain⟨rfl,rfl⟩:=this
    exact ih lim rd q σ .normal _ K x o r hr g a w n base b j hl hb k
   .exact ih lim rd q σ e E h x o r hr g a w n base b j hl hb k
  |label l=>
   simp only[comp,Option.some.injEq]at hc
   subst hc
   simp only[exec,Option.some.injEq,Prod.mk.injEq]at h
   obtain⟨rfl,rfl⟩:=h
   exact wpIn_label ⟨rfl,g,b,j,.refl lim g w,Nat.le_refl _,k⟩
  |_=>simp[comp]at hc
theorem dJ1 (b:fI P T) (a:∀d,ExOK P (exec T d)->xM P T (exec T d)) (d:Nat):ExOK P (exec T d):=tZ b a (d+1) d (by omega)
end
end Go.Sim
namespace Go.Sim
theorem xN (T:Tab) (k:OpK) (xs:List AV):(foot T k xs).al=[]:=by
 unfold foot
 split<;>rfl
theorem iJ (T:Tab) (k:OpK) (xs:List AV):(foot T k xs).all<=2/\((foot T k xs).all≠0->(foot T k xs).rd=[]/\(foot T k xs).wr=[]):=by
 unfold foot
 split<;>first
  |exact⟨by simp,fun h=>absurd rfl h⟩
  |(refine⟨?_,fun _=>⟨rfl,rfl⟩⟩;(repeat' split)<;>simp_all)
theorem iK {T:Tab} {k:OpK} {xs:List AV} (h:(foot T k xs).all=0):(∀f,k≠.callF f)/\k≠.callV:=by
 constructor
 .rintro f rfl
  simp only[foot]at h
  split at h
  .split at h<;>cases h
  .cases h
 .rintro rfl
  cases xs with
  |nil=>simp[foot]at h
  |cons x xs=>
   simp only[foot]at h
   split at h
   .split at h
    .split at h<;>cases h
    .cases h
   .cases h
theorem jF {T:Tab} {ex:Nat->Bool->IC->St->Option (Ex×St)} {lim:Nat} {k:OpK} {xs:List AV} {s s':Hp} {v:AV} (h:step T ex lim k xs s=some (v,s')) (h0:(foot T k xs).all=0):
  ∃out,doOp (look s.h) lim s.n k xs=some out/\v=out.v/\s'=out.apply s:=by
 obtain⟨h1,h2⟩:=iK h0
 unfold step at h
 split at h
 .exact absurd rfl (h1 _)
 .exact absurd rfl h2
 .split at h
  .rename_i o a
   cases h
   exact⟨o,a,rfl,rfl⟩
  .cases h
theorem mX {out:Out} {s:Hp} (a:∀i ob,out.up=some (i,ob)->(look s.h i).isSome=true) (id:Nat):look (out.apply s).h id=out.after (look s.h) s.n id:=by
 have hb:look (match out.up with|some (i,ob)=>upd s.h i ob|none=>s.h) id=out.base (look s.h) id:=by
  unfold Out.base
  cases hu:out.up with
  |none=>rfl
  |some p=>
   obtain⟨i,ob⟩:=p
   simp only[look_upd]
   have:=a i ob hu
   by_cases e:id=i
   .subst e;simp[this]
   .simp [e]
 unfold Out.apply Out.after
 cases hn:out.new with
 |none=>exact hb
 |some ob=>
  simp only[look]
  by_cases e:s.n=id
  .rw [if_pos e,if_pos e.symm]
  .rw [if_neg e,if_neg (fun h=>e h.symm)];exact hb
theorem jG (out:Out) (s:Hp):(out.apply s).n=if out.new.isSome then s.n+1 else s.n:=by
 unfold Out.apply
 cases out.new<;>rfl
theorem bQ {i j:Foot} (h:compat i j=true):i.all+j.all<=1/\(∀x∈i.wr,x∉j.rd/\x∉j.wr)/\(∀x∈j.wr,x∉i.rd)/\(∀x∈i.al,x∉j.rd/\x∉j.wr)/\(i.all=0\/j.wr=[])/\(j.all=0\/i.wr=[]):=by
 simp only[compat,Bool.and_eq_true,decide_eq_true_eq,List.all_eq_true,Bool.not_eq_true',Bool.or_eq_true,beq_iff_eq,List.isEmpty_iff,List.contains_eq_mem,decide_eq_false_iff_not]at h
 obtain⟨⟨⟨⟨⟨h1,h2⟩,a⟩,b⟩,c⟩,d⟩:=h
 exact⟨h1,h2,a,b,c,d⟩
theorem mY {a:Nat} {ft:Nat->Foot} {id:Nat}:∀{j:Nat},∀i,i<j->a.testBit i=false->id∈(ft i).al->id∈unseen a j (revF ft j)
 |0,i,hi,_,_=>by omega
 |j+1,i,hi,hm,hid=>by
  simp only[revF,unseen,Nat.add_sub_cancel,List.mem_append]
  by_cases e:i=j
  .subst e
   left
   rw[hm]
   simpa using hid
  .exact .inr (mY i (by omega) hm hid)
theorem qH {l l':List AV}:∀{xs:List IX},(∀t,.t t∈xs->l[t]? =l'[t]?)->evs l xs=evs l' xs
 |[],_=>rfl
 |x::xs,h=>by
  have h1:x.ev l=x.ev l':=by
   cases x with
   |t i=>exact h i (by simp)
   |c v=>rfl
  simp only[evs,h1,qH (xs:=xs) (fun t a=>h t (by simp[a]))]
theorem qI {l l':List AV} {a:Option (Nat×Bool)} (h:∀i b,a=some (i,b)->l[i]? =l'[i]?):wanted l a=wanted l' a:=by
 cases a with
 |none=>rfl
 |some p=>
  obtain⟨i,b⟩:=p
  simp only[Sim.wanted,h i b rfl]
theorem mZ (l:List AV) (d:Option Nat) (v:AV):(put l d v).length=l.length:=by
 cases d<;>simp[put]
theorem jH {l:List AV} {d:Option Nat} {v:AV} {t:Nat} (h:d≠some t):(put l d v)[t]? =l[t]? :=by
 cases d with
 |none=>rfl
 |some i=>simp only[put,List.getElem?_set];rw[if_neg (fun e=>h (by rw[e]))]
theorem aO1 {l:List AV} {d a:Option Nat} {v v':AV} (h:∀t,d=some t->a≠some t):put (put l d v) a v'=put (put l a v') d v:=by
 cases d with
 |none=>rfl
 |some i=>
  cases a with
  |none=>rfl
  |some j=>exact List.set_comm _ _ (fun e=>h i rfl (by rw[e]))
structure Reg (P:Program) (T:Tab) (ex:Nat->Bool->IC->St->Option (Ex×St)) (lim:Nat) (ops:Array Oper) (ios:List Sim.Op1) (st:Nat->St) (ft:Nat->Foot) (v:Nat->AV):Prop where
 comp:mapO (dO P ops.toList) ops.toList=some ios
 back:∀j o,ops.toList[j]? =some o->∀e∈o.after.toList,Region.binds .any e=true->e.on<j
 tmps:∀j o,ios[j]? =some o->∀i p,i<j->ios[i]? =some p->((aW [] ops.toList).getD j 0).testBit i=true\/((∀d,p.dst=some d->o.dst≠some d/\d∉o.reads)/\∀d,o.dst=some d->d∉p.reads)
 step:∀j o,ios[j]? =some o->Stp T ex lim ((aW [] ops.toList).getD j 0) ios.length j o ft st v
 com:∀j,j<ios.length->∀i,i<j->((aW [] ops.toList).getD j 0).testBit i=true\/compat (ft i) (ft j)=true
 gr:iI ex
 wf0:Wf (st 0).s.h (st 0).s.n
def tch (ft:Nat->Foot) (j id:Nat):Bool:=(ft j).all==2||(ft j).wr.contains id||(ft j).al.contains id
def cont (st:Nat->St) (ft:Nat->Foot) (S:Nat->Bool):Nat->Nat->Option AO
 |0,id=>look (st 0).s.h id
 |j+1,id=>if S j&&tch ft j id then look (st (j+1)).s.h id else cont st ft S j id
def jI (ios:List Sim.Op1) (j:Nat):Option Nat:=(ios[j]?).bind (·.dst)
def tl (ios:List Sim.Op1) (st:Nat->St) (v:Nat->AV) (S:Nat->Bool):Nat->List AV
 |0=>(st 0).t
 |j+1=>if S j then put (tl ios st v S j) (jI ios j) (v j)else tl ios st v S j
section
variable {P:Program} {T:Tab} {ex:Nat->Bool->IC->St->Option (Ex×St)} {lim:Nat} {ops:Array Oper} {ios:List Sim.Op1} {st:Nat->St} {ft:Nat->Foot} {v:Nat->AV}
theorem Reg.get (R:Reg P T ex lim ops ios st ft v) {j:Nat} (h:j<ios.length):∃io o,ios[j]? =some io/\ops.toList[j]? =some o/\dO P ops.toList o=some io:=by
 obtain⟨h1,h2⟩:=bF R.comp
 obtain⟨o,a,b⟩:=h2 j ios[j] (by simp[h])
 exact⟨ios[j],o,by simp[h],a,b⟩
theorem Reg.size (R:Reg P T ex lim ops ios st ft v):ios.length=ops.size:=by
 obtain⟨h1,h2⟩:=bF R.comp
 simpa using h1
theorem Reg.grows (R:Reg P T ex lim ops ios st ft v) {j:Nat} (h:j<ios.length):eE (st j).s (st (j+1)).s:=by
 obtain⟨io,o,h1,_,_⟩:=R.get h
 obtain⟨_,h2⟩:=R.step j io h1
 rcases h2 with⟨_,_,_,a⟩|⟨_,xs,_,_,_,a,_⟩|⟨_,xs,_,_,_,a⟩
 .rw [a];exact .refl _
 .rw [a];exact .refl _
 .exact jD R.gr a
theorem Reg.mono (R:Reg P T ex lim ops ios st ft v) {i:Nat}:∀{j:Nat},i<=j->j<=ios.length->(st i).s.n<=(st j).s.n
  | 0, h, _ => by have:i=0:=by omega
                  subst this;exact Nat.le_refl _
  |j+1,h,hm=>by
    by_cases e:i=j+1
    .subst e;exact Nat.le_refl _
    .exact Nat.le_trans (R.mono (i:=i) (j:=j) (by omega) (by omega)) (R.grows (by omega)).n
theorem Reg.wf (R:Reg P T ex lim ops ios st ft v):∀{j:Nat},j<=ios.length->Wf (st j).s.h (st j).s.n
 |0,_=>R.wf0
 |j+1,h=>(R.grows (by omega)).wf (R.wf (by omega))
theorem Reg.al (R:Reg P T ex lim ops ios st ft v) {j id:Nat} (h:j<ios.length):id∈(ft j).al↔(st j).s.n<=id/\id<(st (j+1)).s.n:=by
 obtain⟨io,o,h1,_,_⟩:=R.get h
 obtain⟨_,h2⟩:=R.step j io h1
 rcases h2 with⟨_,_,a,b⟩|⟨_,xs,_,_,a,b,_⟩|⟨_,xs,_,_,a,b⟩
 .rw [a,b];simp
 .rw [a,b,xN];simp
 .rw [a]
  simp only[List.mem_range'_1]
  have:=(R.grows h).n
  omega
theorem Reg.all (R:Reg P T ex lim ops ios st ft v) {j:Nat} (h:j<ios.length):(ft j).all<=2:=by
 obtain⟨io,o,h1,_,_⟩:=R.get h
 obtain⟨_,h2⟩:=R.step j io h1
 rcases h2 with⟨_,_,a,b⟩|⟨_,xs,_,_,a,b,_⟩|⟨_,xs,_,_,a,b⟩
 .rw [a];simp
 .rw [a];exact(iJ T _ _).1
 .rw [a];exact(iJ T _ _).1
theorem Reg.keep (R:Reg P T ex lim ops ios st ft v) {j id:Nat} (h:j<ios.length) (a:tch ft j id=false):look (st (j+1)).s.h id=look (st j).s.h id:=by
 obtain⟨io,o,h1,_,_⟩:=R.get h
 obtain⟨_,h2⟩:=R.step j io h1
 rcases h2 with⟨_,_,d,b⟩|⟨_,xs,_,_,d,b,_⟩|⟨_,xs,_,h5,d,b⟩
 .rw [b]
 .rw [b]
 .have m:=(iJ T io.k xs).1
  simp only[tch,Bool.or_eq_false_iff,beq_eq_false_iff_ne,ne_eq,List.contains_eq_mem,decide_eq_false_iff_not]at a
  have f:=a.2
  rw[R.al h]at f
  rw[d]at a
  have h0:(foot T io.k xs).all=0:=by
   have:=a.1.1
   simp only at this
   omega
  obtain⟨out,l,_,hs⟩:=jF b h0
  rw[hs,mX (fun i ob c=>(lC (T:=T) l c).2)]
  have g:=jG out (st j).s
  rw[<-hs]at g
  unfold Out.after Out.base
  cases hnew:out.new with
  |none=>
   simp only
   cases c:out.up with
   |none=>rfl
   |some p=>
    obtain⟨i,ob⟩:=p
    have:=(lC (T:=T) l c).1
    simp only
    rw[if_neg (fun e=>a.1.2 (by rw[e];exact this))]
  |some ob'=>
   rw[hnew]at g
   simp only[Option.isSome_some,if_true]at g
   simp only
   rw[if_neg (by omega)]
   cases c:out.up with
   |none=>rfl
   |some p=>
    obtain⟨i,ob⟩:=p
    have:=(lC (T:=T) l c).1
    simp only
    rw[if_neg (fun e=>a.1.2 (by rw[e];exact this))]
theorem vT (R:Reg P T ex lim ops ios st ft v) {S:Nat->Bool} {id:Nat}:∀{j:Nat},j<=ios.length->(∀i,i<j->tch ft i id=true->S i=true)->cont st ft S j id=look (st j).s.h id
 |0,_,_=>rfl
 |j+1,hm,h=>by
  simp only[cont]
  cases ht:tch ft j id with
  |true=>simp[h j (by omega) ht]
  |false=>
   simp only[Bool.and_false,Bool.false_eq_true,if_false]
   rw[vT R (by omega) (fun i hi=>h i (by omega)),R.keep (by omega) ht]
theorem sL {S:Nat->Bool} {id j:Nat}:∀{m:Nat},j<=m->(∀i,j<=i->i<m->S i=true->tch ft i id=false)->cont st ft S m id=cont st ft S j id
  | 0, hj, _ => by have:j=0:=by omega
                   subst this;rfl
  |m+1,hj,h=>by
    by_cases e:j=m+1
    .subst e;rfl
    . simp only[cont]
      have h1:¬((S m&&tch ft m id)=true):=by
        intro h2
        simp only[Bool.and_eq_true]at h2
        rw[h m (by omega) (by omega) h2.1]at h2
        cases h2.2
      rw[if_neg h1]
      exact sL (by omega) (fun i hi a=>h i hi (by omega))
theorem fQ1 {S S':Nat->Bool} {id j:Nat} {ao:AO} (a:∀i,j<i->S' i=S i) (h0:cont st ft S' (j+1) id=some ao->cont st ft S (j+1) id=some ao):∀{m:Nat},j<m->cont st ft S' m id=some ao->cont st ft S m id=some ao
 |0,hj,_=>by omega
 |m+1,hj,h=>by
  by_cases e:j=m
  .subst e;exact h0 h
  .simp only[cont]at h ⊢
   rw[a m (by omega)]at h
   split at h
   .rename_i hc;rw[if_pos hc];exact h
   .rename_i hc;rw[if_neg hc];exact fQ1 a h0 (by omega) h
theorem nA {S S':Nat->Bool} {id:Nat}:∀{j:Nat},(∀i,i<j->S' i=S i)->cont st ft S' j id=cont st ft S j id
 |0,_=>rfl
 |j+1,h=>by simp only[cont,h j (by omega),nA (j:=j) (fun i hi=>h i (by omega))]
theorem lF (R:Reg P T ex lim ops ios st ft v) {S:Nat->Bool}:∀{j:Nat},j<=ios.length->(tl ios st v S j).length=(st j).t.length
 |0,_=>rfl
 |j+1,h=>by
  obtain⟨io,o,h1,_,_⟩:=R.get (j:=j) (by omega)
  rw[(R.step j io h1).1,mZ]
  simp only[tl]
  split
  .rw [mZ];exact lF R (by omega)
  .exact lF R (by omega)
theorem tlA (R:Reg P T ex lim ops ios st ft v) {S:Nat->Bool} {t:Nat}:∀{j:Nat},j<=ios.length->(∀i,i<j->jI ios i=some t->S i=true)->(tl ios st v S j)[t]? =(st j).t[t]?
 |0,_,_=>rfl
 |j+1,hm,h=>by
  obtain⟨io,o,h1,_,_⟩:=R.get (j:=j) (by omega)
  have a:=(R.step j io h1).1
  have hd:jI ios j=io.dst:=by simp[jI,h1]
  have ih:=tlA R (S:=S) (t:=t) (j:=j) (by omega) (fun i hi=>h i (by omega))
  have hl:=lF R (S:=S) (j:=j) (by omega)
  simp only[tl,a]
  by_cases e:io.dst=some t
  .rw [h j (by omega) (hd.trans e)]
   simp only[if_true,hd,e,put,List.getElem?_set,hl]
  .rw [jH e]
   split
   .rw [hd,jH e];exact ih
   .exact ih
theorem tlB {S:Nat->Bool} {t j:Nat}:∀{m:Nat},j<=m->(∀i,j<=i->i<m->S i=true->jI ios i≠some t)->(tl ios st v S m)[t]? =(tl ios st v S j)[t]?
  | 0, hj, _ => by have:j=0:=by omega
                   subst this;rfl
  |m+1,hj,h=>by
    by_cases e:j=m+1
    .subst e;rfl
    . simp only[tl]
      split
      . rename_i hs
        rw[jH (h m (by omega) (by omega) hs)]
        exact tlB (by omega) (fun i hi a=>h i hi (by omega))
      .exact tlB (by omega) (fun i hi a=>h i hi (by omega))
theorem uA {S S':Nat->Bool}:∀{j:Nat},(∀i,i<j->S' i=S i)->tl ios st v S' j=tl ios st v S j
 |0,_=>rfl
 |j+1,h=>by simp only[tl,h j (by omega),uA (j:=j) (fun i hi=>h i (by omega))]
theorem tlC {S S':Nat->Bool} {j:Nat} (b:∀i,i<j->S' i=S i) (a:∀i,j<i->S' i=S i) (h1:S j=false) (h2:S' j=true):∀{m:Nat},j<m->(∀i,j<i->i<m->S i=true->∀t,jI ios j=some t->jI ios i≠some t)->
  tl ios st v S' m=put (tl ios st v S m) (jI ios j) (v j)
 |0,hj,_=>by omega
 |m+1,hj,h=>by
  by_cases e:j=m
  .subst e
   simp only[tl,h1,h2,if_true,Bool.false_eq_true,if_false,uA b]
  .have ih:=tlC b a h1 h2 (m:=m) (by omega) (fun i hi c=>h i hi (by omega))
   simp only[tl,a m (by omega),ih]
   split
   .rename_i hs
    exact aO1 (h m (by omega) (by omega) hs)
   .rfl
end
end Go.Sim
namespace Go.Sim
section
variable {P:Program} {T:Tab} {ex:Nat->Bool->IC->St->Option (Ex×St)} {lim:Nat} {ops:Array Oper} {ios:List Sim.Op1} {st:Nat->St} {ft:Nat->Foot} {v:Nat->AV} {S S':Nat->Bool}
structure InvS (P:Program) (ops:Array Oper) (ios:List Sim.Op1) (st:Nat->St) (ft:Nat->Foot) (v:Nat->AV) (lim base:Nat) (g0:Gh) (w0:World) (S:Nat->Bool) (g:Gh) (a:Act) (w:World):Prop where
 ext:Ext lim g0 g w0 w
 W:WG g w
 H:HR P g (cont st ft S ios.length) w
 dom:∀id,g.ι id≠none->id<(st 0).s.n\/∃i,i<ios.length/\S i=true/\id∈(ft i).al
 t:TR g (tl ios st v S ios.length) a.tmps.toList
 marks:dQ base g w a.defers
 closed:∀i oi,S i=true->ops.toList[i]? =some oi->∀e∈oi.after.toList,Region.binds .any e=true->S e.on=true
structure Rdy (ops:Array Oper) (ios:List Sim.Op1) (S:Nat->Bool) (j:Nat) (o:Oper) (io:Sim.Op1):Prop where
 hop:ops.toList[j]? =some o
 hio:ios[j]? =some io
 c:j<ios.length
 no:S j=false
 edges:∀e∈o.after.toList,Region.binds .any e=true->S e.on=true
theorem xO (R:Reg P T ex lim ops ios st ft v) {j:Nat} {o:Oper} {io:Sim.Op1} (hr:Rdy ops ios S j o io)
  (a:∀i oi,S i=true->ops.toList[i]? =some oi->∀e∈oi.after.toList,Region.binds .any e=true->S e.on=true) {i:Nat} (hi:i<j):
  S i=true\/(((aW [] ops.toList).getD j 0).testBit i=false/\compat (ft i) (ft j)=true/\∀p,ios[i]? =some p->(∀d,p.dst=some d->io.dst≠some d/\d∉io.reads)/\∀d,io.dst=some d->d∉p.reads):=by
 cases hb:((aW [] ops.toList).getD j 0).testBit i with
 |true=>exact .inl (hJ R.back (D:=fun i=>S i=true) a j o hr.hop hr.edges i hb)
 |false=>
  refine .inr ⟨rfl,(R.com j hr.c i hi).resolve_left (by rw[hb];simp),fun p hp=>?_⟩
  exact(R.tmps j io hr.hio i p hi hp).resolve_left (by rw[hb];simp)
theorem late (R:Reg P T ex lim ops ios st ft v) {j:Nat} {o:Oper} {io:Sim.Op1} (hr:Rdy ops ios S j o io)
  (a:∀i oi,S i=true->ops.toList[i]? =some oi->∀e∈oi.after.toList,Region.binds .any e=true->S e.on=true) {i:Nat} (hi:j<i) (b:i<ios.length) (f:S i=true):
  compat (ft j) (ft i)=true/\∀p,ios[i]? =some p->(∀d,io.dst=some d->p.dst≠some d/\d∉p.reads)/\∀d,p.dst=some d->d∉io.reads:=by
 obtain⟨g,oi,h1,h2,h⟩:=R.get b
 have hb:((aW [] ops.toList).getD i 0).testBit j=false:=by
  cases hb:((aW [] ops.toList).getD i 0).testBit j with
  |false=>rfl
  |true=>
   have:=hJ R.back (D:=fun i=>S i=true) a i oi h2 (fun e he c=>a i oi f h2 e he c) j hb
   simp only[hr.no]at this
   cases this
 refine⟨(R.com i b j hi).resolve_left (by rw[hb];simp),fun p hp=>?_⟩
 exact(R.tmps i p hp j io hi hr.hio).resolve_left (by rw[hb];simp)
theorem uB (R:Reg P T ex lim ops ios st ft v) {j:Nat} {o:Oper} {io:Sim.Op1} (hr:Rdy ops ios S j o io)
  (d:∀i oi,S i=true->ops.toList[i]? =some oi->∀e∈oi.after.toList,Region.binds .any e=true->S e.on=true) {t:Nat} (k:t∈io.reads):(tl ios st v S ios.length)[t]? =(st j).t[t]? :=by
 rw[tlB (j:=j) (Nat.le_of_lt hr.c),tlA R (Nat.le_of_lt hr.c)]
 .intro i hi hd
  rcases xO R hr d hi with h|⟨_,_,h⟩
  .exact h
  .obtain ⟨a,oi,h1,_,_⟩:=R.get (j:=i) (by have:=hr.c;omega)
   have b:a.dst=some t:=by simpa[jI,h1]using hd
   exact absurd k ((h a h1).1 t b).2
 .intro i hi f g hd
  by_cases e:i=j
  .subst e;rw[hr.no]at g;cases g
  .obtain ⟨a,oi,h1,_,_⟩:=R.get f
   have b:a.dst=some t:=by simpa[jI,h1]using hd
   exact absurd k (((late R hr d (by omega) f g).2 a h1).2 t b)
theorem fR1 (R:Reg P T ex lim ops ios st ft v) {j:Nat} {o:Oper} {io:Sim.Op1} (hr:Rdy ops ios S j o io)
  (f:∀i oi,S i=true->ops.toList[i]? =some oi->∀e∈oi.after.toList,Region.binds .any e=true->S e.on=true) (b:∀i,i≠j->S' i=S i) (l:S' j=true):
  tl ios st v S' ios.length=put (tl ios st v S ios.length) io.dst (v j):=by
 have hd:jI ios j=io.dst:=by simp[jI,hr.hio]
 rw[<-hd]
 refine tlC (fun i hi=>b i (by omega)) (fun i hi=>b i (by omega)) hr.no l hr.c (fun i hi a k t m h=>?_)
 obtain⟨d,oi,h1,_,_⟩:=R.get a
 have g:d.dst=some t:=by simpa[jI,h1]using h
 exact(((late R hr f hi a k).2 d h1).1 t (hd.symm.trans m)).1 g
theorem dK1 (R:Reg P T ex lim ops ios st ft v) {j:Nat} {o:Oper} {io:Sim.Op1} (hr:Rdy ops ios S j o io)
  (d:∀i oi,S i=true->ops.toList[i]? =some oi->∀e∈oi.after.toList,Region.binds .any e=true->S e.on=true) {id:Nat} {ao:AO} (a:id∈(ft j).rd\/id∈(ft j).wr) (hl:look (st j).s.h id=some ao):
  cont st ft S ios.length id=some ao:=by
 have k:=(R.wf (Nat.le_of_lt hr.c)).lt hl
 rw[sL (j:=j) (Nat.le_of_lt hr.c),vT R (Nat.le_of_lt hr.c)]
 .exact hl
 .intro i hi b
  rcases xO R hr d hi with h|⟨_,h,_⟩
  .exact h
  .obtain ⟨c1,c2,c3,c4,c5,c6⟩:=bQ h
   simp only[tch,Bool.or_eq_true,beq_iff_eq,List.contains_eq_mem,decide_eq_true_eq]at b
   rcases b with(b|b)|b
   .omega
   .rcases a with a|a
    .exact absurd a (c2 id b).1
    .exact absurd a (c2 id b).2
   .rcases a with a|a
    .exact absurd a (c4 id b).1
    .exact absurd a (c4 id b).2
 .intro i hi f g
  by_cases e:i=j
  .subst e;rw[hr.no]at g;cases g
  .obtain ⟨c1,c2,c3,c4,c5,c6⟩:=bQ (late R hr d (by omega) f g).1
   simp only[tch,Bool.or_eq_false_iff,beq_eq_false_iff_ne,ne_eq,List.contains_eq_mem,decide_eq_false_iff_not]
   refine⟨⟨by omega,fun h=>?_⟩,fun h=>?_⟩
   .rcases a with a|a
    .exact c3 id h a
    .exact (c2 id a).2 h
   .rw [R.al f]at h
    have:=R.mono (i:=j) (j:=i) (by omega) (by omega)
    omega
theorem uC (R:Reg P T ex lim ops ios st ft v) {j:Nat} {o:Oper} {io:Sim.Op1} (hr:Rdy ops ios S j o io)
  (f:∀i oi,S i=true->ops.toList[i]? =some oi->∀e∈oi.after.toList,Region.binds .any e=true->S e.on=true) (k:∀i,i≠j->S' i=S i) (m:S' j=true) {id:Nat}
  (a:(id∈(ft j).wr/\id<(st j).s.n)\/id∈(ft j).al):cont st ft S' ios.length id=look (st (j+1)).s.h id:=by
 rw[sL (j:=j+1) hr.c]
 .have:tch ft j id=true:=by
   simp only[tch,Bool.or_eq_true,beq_iff_eq,List.contains_eq_mem,decide_eq_true_eq]
   rcases a with⟨h,_⟩|h
   .exact .inl (.inr h)
   .exact .inr h
  simp[cont,m,this]
 .intro i hi b d
  have l:S i=true:=by rw[<-k i (by omega)];exact d
  obtain⟨c1,c2,c3,c4,c5,c6⟩:=bQ (late R hr f (by omega) b l).1
  simp only[tch,Bool.or_eq_false_iff,beq_eq_false_iff_ne,ne_eq,List.contains_eq_mem,decide_eq_false_iff_not]
  have g:=R.mono (i:=j+1) (j:=i) (by omega) (by omega)
  have hg:=(R.grows hr.c).n
  refine⟨⟨by omega,fun h=>?_⟩,fun h=>?_⟩
  .rcases a with⟨a,_⟩|a
   .exact (c2 id a).2 h
   .exact (c4 id a).2 h
  .rw [R.al b]at h
   rcases a with⟨_,a⟩|a
   .omega
   .rw [R.al hr.c]at a
    omega
theorem oJ (R:Reg P T ex lim ops ios st ft v) {j:Nat} {o:Oper} {io:Sim.Op1} (hr:Rdy ops ios S j o io)
  (g:∀i oi,S i=true->ops.toList[i]? =some oi->∀e∈oi.after.toList,Region.binds .any e=true->S e.on=true) (b:∀i,i≠j->S' i=S i) (l:S' j=true) {id:Nat} {ao:AO}
  (hk:tch ft j id=true->id∈(ft j).wr/\look (st (j+1)).s.h id=look (st j).s.h id) (h:cont st ft S' ios.length id=some ao):cont st ft S ios.length id=some ao:=by
 refine fQ1 (j:=j) (fun i hi=>b i (by omega)) (fun h0=>?_) hr.c h
 have d:cont st ft S (j+1) id=cont st ft S j id:=by simp[cont,hr.no]
 have f:cont st ft S' j id=cont st ft S j id:=nA (fun i hi=>b i (by omega))
 rw[d]
 cases ht:tch ft j id with
 |false=>
  simp only[cont,ht,Bool.and_false,Bool.false_eq_true,if_false,f]at h0
  exact h0
 |true=>
  obtain⟨k,m⟩:=hk ht
  simp only[cont,ht,l,Bool.and_self,if_true,m]at h0
  rw[vT R (Nat.le_of_lt hr.c)]
  .exact h0
  .intro i hi a
   rcases xO R hr g hi with h|⟨_,h,_⟩
   .exact h
   .obtain ⟨c1,c2,c3,c4,c5,c6⟩:=bQ h
    simp only[tch,Bool.or_eq_true,beq_iff_eq,List.contains_eq_mem,decide_eq_true_eq]at a
    rcases a with(a|a)|a
    .omega
    .exact absurd k (c2 id a).2
    .exact absurd k (c4 id a).2
end
end Go.Sim
namespace Go.Sim
section
variable {P:Program} {T:Tab} {ex:Nat->Bool->IC->St->Option (Ex×St)} {lim:Nat} {ops:Array Oper} {ios:List Sim.Op1} {st:Nat->St} {ft:Nat->Foot} {v:Nat->AV} {S S':Nat->Bool} {r:Option Nat} {n base:Nat} {g0 g:Gh} {w0 w:World}
theorem xP {o:Oper} {k:OpK} {os:List Operand} {L:Nat->Option AO} {m:Nat} {out:Out} {a:Act} (j:cX P o.op o.type=some (k,os)) (hg:Good P g lim w L m out (execOp a.eval o)) {next:Act->World->Prop} {Q:Exit->Act->World->Prop}
  (b:∀V g' w',VR g' out.v V->HR P g' (out.after L m) w'->WG g' w'->Ext lim g g' w w'->(∀id,g'.ι id≠none->g.ι id≠none\/(id=m/\out.new.isSome))->next (a.put o.dst V) w'):
  o.wpIn (FW r) n P a w next Q:=by
 obtain⟨V,nx,g',w',d,e,hv,h,i,f,c⟩:=hg
 refine⟨fun _ _=>trivial,?_⟩
 rw[gE _ (jX j),d]
 rcases e with rfl|⟨rfl,rfl⟩
 .exact b V g' w' hv h i f c
 .exact b undef g' w' hv h i f c
theorem vU {k:OpK} {xs:List AV} (h1:∀f,k≠.callF f) (h2:k≠.callV):(foot T k xs).all=0:=by
 unfold foot
 split<;>first
  |rfl
  |exact absurd rfl (h1 _)
  |exact absurd rfl h2
theorem xQ (v:ExOK P ex) (B:fI P T) {o:Oper} {k:OpK} {os:List Operand} {xs:List AV} {x:AV} {s X:Hp} {a:Act} (D:(cX P o.op o.type).getD (.fail,[])=(k,os)) (h:step T ex lim k xs s=some (x,X)) (d:(foot T k xs).all=1)
  (E:TR g xs (os.map a.eval)) (A:Inv P g w s) {next:Act->World->Prop} {Q:Exit->Act->World->Prop}
  (t:∀V g' w',VR g' x V->g'.ι=g.ι->WG g' w'->(∀b,b<w.heap.size->w'.heap[b]? =w.heap[b]?)->Ext s.n g g' w w'->next (a.put o.dst V) w'):o.wpIn (FW r) n P a w next Q:=by
 have fin:∀e w',fM P s.n g w s x s e w'->∃V,e=.returned V/\next (a.put o.dst V) w':=by
  rintro e w' ⟨V,g',rfl,U,M,K,Z⟩
  refine⟨V,rfl,t V g' w' U ?_ M.W ?_ K⟩
  .funext id
   by_cases q:id<s.n
   .exact K.old id q
   .have h1:g.ι id=none:=by
     cases h:g.ι id with
     |none=>rfl
     |some l=>exact absurd (A.dom id (by rw[h];simp)) q
    have h2:g'.ι id=none:=by
     cases h:g'.ι id with
     |none=>rfl
     |some l=>exact absurd (M.dom id (by rw[h];simp)) q
    rw[h1,h2]
  .intro b hb
   exact K.keep b hb (fun id loc q hi=>by
    have:=A.dom id (by rw[hi];simp)
    omega)
 cases hco:cX P o.op o.type with
 |none=>
  rw[hco]at D
  cases D
  simp only[step,kY]at h
  cases h
 |some p=>
  rw[hco]at D
  cases D
  unfold step at h
  split at h
  .rename_i f
   obtain⟨c,L,h1,h2,G⟩:=eW hco (.inr ⟨f,rfl⟩)
   rcases G with⟨N,u,O,H⟩|⟨u,_⟩
   .cases u
    subst O
    simp only[foot]at d
    split at d
    .rename_i ifn j
     split at d
     .rename_i hp
      have m:TR g xs (#[]++c.args.map a.eval++#[]).toList:=by rw[H]at E;simpa using E
      exact iH B h1 h2 rfl j (mU v B j hp h m A).2 fin
     .cases d
    .cases d
   .cases u
  .obtain ⟨c,L,h1,h2,G⟩:=eW hco (.inl rfl)
   rcases G with⟨N,u,_⟩|⟨_,H⟩
   .cases u
   .subst H
    split at h
    .rename_i Y args
     have z:=E.head
     have m:=E.tail
     unfold callV at h
     simp only[foot]at d
     split at h
     .rename_i f first cap
      generalize hV:a.eval L=V at z
      cases z with
      |@fn _ _ _ _ F C l1 l2 v1 v2=>
       simp only at d
       split at d
       .rename_i ifn j
        split at d
        .rename_i hp
         have S:TR g first F.toList:=⟨by simpa using l1,fun i x y J hy=>v1 i x y J (by simpa using hy)⟩
         have R:TR g cap C.toList:=⟨by simpa using l2,fun i x y J hy=>v2 i x y J (by simpa using hy)⟩
         have d:TR g (first++args++cap) (F++c.args.map a.eval++C).toList:=by
          have:=(S.app m).app R
          simpa using this
         exact iH B h1 h2 hV j (mU v B j hp h d A).2 fin
        .cases d
       .cases d
     .simp only at d
      cases d
     .cases h
    .cases h
  .rename_i h1 h2
   exfalso
   have:=vU (T:=T) (xs:=xs) (fun f e=>h1 f e) (fun e=>h2 e)
   omega
theorem cov (R:Reg P T ex lim ops ios st ft v) {id:Nat}:∀{j:Nat},j<=ios.length->(st 0).s.n<=id->id<(st j).s.n->∃i,i<j/\id∈(ft i).al
 |0,_,h1,h2=>by omega
 |j+1,hj,h1,h2=>by
  by_cases h:id<(st j).s.n
  .obtain ⟨i,hi,a⟩:=cov R (j:=j) (by omega) h1 h
   exact⟨i,by omega,a⟩
  .exact ⟨j,by omega,(R.al (by omega)).2 ⟨by omega,h2⟩⟩
theorem xR (R:Reg P T ex lim ops ios st ft v) (e3:ExOK P ex) (hT:fI P T) (Y:lim<=(st 0).s.n) {j:Nat} {o:Oper} {io:Sim.Op1} {a:Act} (hr:Rdy ops ios S j o io) (hco:dO P ops.toList o=some io)
  (f:InvS P ops ios st ft v lim base g0 w0 S g a w) (u:∀i,i≠j->S' i=S i) (X:S' j=true) {K:Act->World->Prop} {Q:Exit->Act->World->Prop} (hK:∀g' a' w',InvS P ops ios st ft v lim base g0 w0 S' g' a' w'->K a' w'):
  wpOpIn (FW r) n P ops Q j K a w:=by
 have d:=f.closed
 have f1:ops[j]? =some o:=by simpa using hr.hop
 unfold wpOpIn
 rw[f1]
 simp only
 obtain⟨os,c1,c2,c3,c4⟩:=eY hco
 have hw:Region.wanted o (yielded ops a.tmps)=Sim.wanted (st j).t io.guard:=by
  rw[qC f.t hco]
  refine qI (fun i b hg=>uB R hr d ?_)
  simp[Op1.reads,hg]
 have e0:evs (tl ios st v S ios.length) io.xs=evs (st j).t io.xs:=qH (fun t q=>uB R hr d (by
  simp only[Op1.reads,List.mem_append,List.mem_filterMap]
  exact .inl ⟨.t t,q,rfl⟩))
 have L:∀i oi,S' i=true->ops.toList[i]? =some oi->∀e∈oi.after.toList,Region.binds .any e=true->S' e.on=true:=by
  intro i oi hi d2 e he hb
  have up:∀i,S i=true->S' i=true:=fun i h=>by
   by_cases e:i=j
   .rw [e];exact X
   .rw [u i e];exact h
  by_cases e1:i=j
  .subst e1
   rw[hr.hop]at d2
   cases d2
   exact up _ (hr.edges e he hb)
  .exact up _ (d i oi (by rw[<-u i e1];exact hi) d2 e he hb)
 have b4:∀{g':Gh} {w':World} {V:Value},Ext lim g g' w w'->dQ base g' w' (a.put o.dst V).defers:=by
  intro g' w' V hE
  have:(a.put o.dst V).defers=a.defers:=by cases o.dst<;>rfl
  rw[this]
  exact f.marks.ext hE
 have b5:∀{g':Gh} {w':World} {V:Value},Ext lim g g' w w'->VR g' (v j) V->TR g' (tl ios st v S' ios.length) (a.put o.dst V).tmps.toList:=by
  intro g' w' V hE hV
  rw[fR1 R hr d u X,c3]
  exact xJ (f.t.mono hE.le) hV o.dst
 have F:∀id,(id<(st 0).s.n\/∃i,i<ios.length/\S i=true/\id∈(ft i).al)->id<(st 0).s.n\/∃i,i<ios.length/\S' i=true/\id∈(ft i).al:=by
  rintro id (h|⟨i,h1,h2,O⟩)
  .exact .inl h
  .refine .inr ⟨i,h1,?_,O⟩
   by_cases e:i=j
   .rw [e];exact X
   .rw [u i e];exact h2
 have d7:=R.mono (i:=0) (j:=j) (by omega) (Nat.le_of_lt hr.c)
 obtain⟨s1,s2⟩:=R.step j io hr.hio
 rw[hw]
 rcases s2 with⟨q1,q2,q3,q4⟩|⟨q1,xs,q2,q3,q4,q5,s2,q6⟩|⟨q1,xs,q2,q3,q4,q5⟩
 ·
  rw[q1]
  simp only[Bool.false_eq_true,if_false]
  refine⟨fun _ _=>trivial,hK g _ w ⟨f.ext,f.W,fun id ao h=>?_,fun id h=>F id (f.dom id h),b5 (.refl lim g w) (by rw[q2];exact .undef g),b4 (.refl lim g w),L⟩⟩
  refine f.H id ao (oJ R hr d u X (fun q=>?_) h)
  rw[tch,q3]at q
  simp at q
 ·
  rw[q1]
  simp only[if_true]
  have Z:=kO f.t c2 (e0.trans q2)
  have b8:=(iJ T io.k xs).2 (by omega)
  have d1:∀id ao,look (hide (unseen ((aW [] ops.toList).getD j 0) j (revF ft j)) (st j).s.h) id=some ao->cont st ft S ios.length id=some ao:=by
   intro id ao h
   obtain⟨h1,h2⟩:=pU _ (R.wf (Nat.le_of_lt hr.c)) h
   have b0:=(R.wf (Nat.le_of_lt hr.c)).lt h1
   rw[sL (j:=j) (Nat.le_of_lt hr.c),vT R (Nat.le_of_lt hr.c)]
   .exact h1
   .intro i hi q
    rcases xO R hr d hi with h|⟨hb,h,_⟩
    .exact h
    .obtain ⟨c1,c2,c3,c4,c5,c6⟩:=bQ h
     simp only[tch,Bool.or_eq_true,beq_iff_eq,List.contains_eq_mem,decide_eq_true_eq]at q
     have f8:(ft j).all=1:=by rw[q4];exact q3
     rcases q with(q|q)|q
     .omega
     .rw [c6.resolve_left (by omega)]at q
      simp at q
     .exact absurd (mY i hi hb q) h2
   .intro i hi C N
    by_cases e:i=j
    .subst e;rw[hr.no]at N;cases N
    .obtain ⟨c1,c2,c3,c4,c5,c6⟩:=bQ (late R hr d (by omega) C N).1
     have f8:(ft j).all=1:=by rw[q4];exact q3
     simp only[tch,Bool.or_eq_false_iff,beq_eq_false_iff_ne,ne_eq,List.contains_eq_mem,decide_eq_false_iff_not]
     refine⟨⟨by omega,fun h=>?_⟩,fun h=>?_⟩
     .rw [c5.resolve_left (by omega)]at h
      simp at h
     .rw [R.al C]at h
      have:=R.mono (i:=j) (j:=i) (by omega) (by omega)
      omega
  have U:Inv P g w {h:=hide (unseen ((aW [] ops.toList).getD j 0) j (revF ft j)) (st j).s.h,n:=(st j).s.n+(ios.length-j)}:=by
   refine⟨fun id ao h=>f.H id ao (d1 id ao h),f.W,fun id h=>?_,((R.wf (Nat.le_of_lt hr.c)).hide _).mono (by simp)⟩
   simp only
   rcases f.dom id h with h1|⟨i,h1,h2,O⟩
   .have:=hr.c
    omega
   .rw [R.al h1]at O
    by_cases e4:i<j
    .have:=R.mono (i:=i+1) (j:=j) (by omega) (Nat.le_of_lt hr.c)
     omega
    .have e7:j<i:=by
      rcases Nat.lt_or_ge j i with h|h
      .exact h
      .have:i=j:=by omega
       subst this
       rw[hr.no]at h2
       cases h2
     have f0:∀k,j<=k->k<=i->(st (k+1)).s.n<=(st j).s.n+(k-j):=by
      intro k
      induction k with
      |zero=>
       intro hk _
       have:j=0:=by omega
       subst this
       rw[q5];omega
      |succ k ih=>
       intro hk g6
       by_cases e:j=k+1
       .subst e
        rw[q5];omega
       .have g7:=ih (by omega) (by omega)
        have e8:k+1<ios.length:=by omega
        have f4:(ft (k+1)).all<=1:=by
         by_cases e2:k+1=i
         .have:=(bQ (late R hr d e7 h1 h2).1).1
          rw[e2];omega
         ·
          rcases Nat.lt_or_ge 1 (ft (k+1)).all with g5|hok
          .exfalso
           obtain⟨g8,oi,i1,i2,i3⟩:=R.get h1
           have hb:((aW [] ops.toList).getD i 0).testBit (k+1)=true:=by
            rcases R.com i h1 (k+1) (by omega)with h|h
            .exact h
            .have:=(bQ h).1;omega
           have f2:S (k+1)=true:=hJ R.back (D:=fun i=>S i=true) d i oi i2 (fun e he f5=>d i oi h2 i2 e he f5) (k+1) hb
           have:=(bQ (late R hr d (by omega) e8 f2).1).1
           omega
          .exact hok
        obtain⟨d4,ok,k1,k2,k3⟩:=R.get e8
        obtain⟨_,t2⟩:=R.step (k+1) d4 k1
        rcases t2 with⟨_,_,_,t3⟩|⟨_,xs',_,_,_,t3,_⟩|⟨_,xs',_,t3,t4,t5⟩
        .rw [t3];omega
        .rw [t3];omega
        .have a0:(foot T d4.k xs').all=0:=by
          have:(ft (k+1)).all=(foot T d4.k xs').all:=by rw[t4]
          omega
         obtain⟨out,_,_,hs⟩:=jF t5 a0
         rw[hs,jG]
         split<;>omega
     have:=f0 i (by omega) (Nat.le_refl _)
     omega
  refine xQ e3 hT c1 q6 q3 Z U (fun V g' w' k1 k2 k3 k4 k5=>hK g' _ w' ?_)
  have hE:Ext lim g g' w w':=k5.mono (by simp only;have:=hr.c;omega)
  refine⟨f.ext.trans hE,k3,fun id ao h=>?_,fun id h=>F id (f.dom id (by rw[<-k2];exact h)),b5 hE k1,b4 hE,L⟩
  have h1:=oJ R hr d u X (id:=id) (ao:=ao) (fun q=>by
   rw[tch,q4]at q
   rw[q3,b8.2,xN]at q
   simp at q) h
  exact(f.H id ao h1).mono hE.le (by rw[k2]) (fun loc hl=>k4 _ (f.W.lt id loc hl))
 .rw [q1]
  simp only[if_true]
  have Z:=kO f.t c2 (e0.trans q2)
  by_cases a0:(foot T io.k xs).all=0
  ·
   obtain⟨out,ho,hv,hs⟩:=jF q5 a0
   have f6:∀id ao,id∈(foot T io.k xs).rd\/id∈(foot T io.k xs).wr->look (st j).s.h id=some ao->cont st ft S ios.length id=some ao:=by
    intro id ao f7 hl
    refine dK1 R hr d ?_ hl
    rw[q4]
    exact f7
   have b6:doOp (cont st ft S ios.length) lim (st j).s.n io.k xs=some out:=vR (T:=T) ho f6
   have hn:=jG out (st j).s
   rw[<-hs]at hn
   have y:∀id,look (st (j+1)).s.h id=out.after (look (st j).s.h) (st j).s.n id:=fun id=>by rw[hs];exact mX (fun i ob J=>(lC (T:=T) ho J).2) id
   have x:∃d5,cX P o.op o.type=some (io.k,d5)/\d5=os:=by
    cases hc:cX P o.op o.type with
    |none=>
     rw[hc]at c1
     simp only[Option.getD_none,Prod.mk.injEq]at c1
     rw[<-c1.1,kY]at ho
     cases ho
    |some p=>rw[hc]at c1;exact⟨os,by rw[<-c1];rfl,rfl⟩
   obtain⟨d5,x,rfl⟩:=x
   have fin:∀(m:Nat) (V:Value) (g':Gh) (w':World),(out.new.isSome=true->m=(st j).s.n)->VR g' out.v V->HR P g' (out.after (cont st ft S ios.length) m) w'->WG g' w'->Ext lim g g' w w'->
     (∀id,g'.ι id≠none->g.ι id≠none\/(id=m/\out.new.isSome))->K (a.put o.dst V) w':=by
    intro m V g' w' hm k1 k2 k3 k4 k5
    refine hK g' _ w' ⟨f.ext.trans k4,k3,fun id ao h=>k2 id ao ?_,fun id h=>?_,b5 k4 (by rw[hv];exact k1),b4 k4,L⟩
    ·
     have d8:id∈(ft j).al↔(st j).s.n<=id/\id<(st (j+1)).s.n:=R.al hr.c
     have g3:(ft j).wr=(foot T io.k xs).wr:=by rw[q4]
     have g4:(ft j).all=0:=by rw[q4];exact a0
     have E:(∀i ob,out.up=some (i,ob)->id≠i)->(out.new.isSome=true->id≠(st j).s.n)->cont st ft S ios.length id=some ao:=by
      intro h1 h2
      refine oJ R hr d u X (fun q=>?_) h
      have e9:id∉(ft j).al:=by
       rw[d8,hn]
       cases hnew:out.new with
       |none=>simp
       |some ob=>
        have:=h2 (by rw[hnew];rfl)
        simp;omega
      refine⟨?_,?_⟩
      .simp only[tch,Bool.or_eq_true,beq_iff_eq,List.contains_eq_mem,decide_eq_true_eq]at q
       rcases q with(q|q)|q
       .omega
       .exact q
       .exact absurd q e9
      .rw [y id]
       unfold Out.after Out.base
       cases hnew:out.new with
       |none=>
        simp only
        cases J:out.up with
        |none=>rfl
        |some p=>
         obtain⟨i,ob⟩:=p
         simp only
         rw[if_neg (h1 i ob J)]
       |some ob'=>
        simp only
        rw[if_neg (h2 (by rw[hnew];rfl))]
        cases J:out.up with
        |none=>rfl
        |some p=>
         obtain⟨i,ob⟩:=p
         simp only
         rw[if_neg (h1 i ob J)]
     by_cases A:out.new.isSome=true/\id=(st j).s.n
     .obtain ⟨h1,h2⟩:=A
      have hl:=uC R hr d u X (id:=id) (.inr (by rw[d8,hn,h1];simp;omega))
      rw[hl,y id]at h
      rw[<-h,hm h1]
      unfold Out.after
      cases hnew:out.new with
      |none=>rw[hnew]at h1;cases h1
      |some ob=>simp only;rw[if_pos h2,if_pos h2]
     .by_cases B:∃ob,out.up=some (id,ob)
      .obtain ⟨ob,J⟩:=B
       obtain⟨u1,u2⟩:=lC (T:=T) ho J
       have d3:∃d6,look (st j).s.h id=some d6:=Option.isSome_iff_exists.1 u2
       obtain⟨d6,d9⟩:=d3
       have b0:=(R.wf (Nat.le_of_lt hr.c)).lt d9
       have hl:=uC R hr d u X (id:=id) (.inl ⟨by rw[g3];exact u1,b0⟩)
       rw[hl,y id]at h
       rw[<-h]
       unfold Out.after Out.base
       cases hnew:out.new with
       |none=>simp only[J,if_true]
       |some ob'=>
        have:=hm (by rw[hnew];rfl)
        simp only[J,if_true]
        rw[if_neg (by omega),if_neg (by omega)]
      .have z:=E (fun i ob J e=>B ⟨ob,by rw[e];exact J⟩) (fun h1 e=>A ⟨h1,e⟩)
       unfold Out.after Out.base
       cases hnew:out.new with
       |none=>
        simp only
        cases J:out.up with
        |none=>exact z
        |some p=>
         obtain⟨i,ob⟩:=p
         simp only
         rw[if_neg (fun e=>B ⟨ob,by rw[e];exact J⟩)]
         exact z
       |some ob'=>
        simp only
        rw[if_neg (fun e=>A ⟨by rw[hnew];rfl,by rw[e];exact hm (by rw[hnew];rfl)⟩)]
        cases J:out.up with
        |none=>exact z
        |some p=>
         obtain⟨i,ob⟩:=p
         simp only
         rw[if_neg (fun e=>B ⟨ob,by rw[e];exact J⟩)]
         exact z
    .rcases k5 id h with h1|⟨h1,h2⟩
     .exact F id (f.dom id h1)
     .refine .inr ⟨j,hr.c,X,?_⟩
      rw[R.al hr.c,hn,h2,h1,hm h2]
      simp
   cases hnew:out.new with
   |none=>
    have d0:doOp (cont st ft S ios.length) lim (st ios.length).s.n io.k xs=some out:=fP1 b6 hnew
    have b9:g.ι (st ios.length).s.n=none:=by
     cases h:g.ι (st ios.length).s.n with
     |none=>rfl
     |some l=>
      rcases f.dom _ (by rw[h];simp)with h1|⟨i,h1,h2,O⟩
      .have:=R.mono (i:=0) (j:=ios.length) (by omega) (Nat.le_refl _)
       omega
      .rw [R.al h1]at O
       have:=R.mono (i:=i+1) (j:=ios.length) (by omega) (Nat.le_refl _)
       omega
    have f9:lim<=(st ios.length).s.n:=Nat.le_trans Y (R.mono (by omega) (Nat.le_refl _))
    exact xP x (jC a.eval o x Z d0 f.H f.W b9 f9) (fun V g' w'=>fin _ V g' w' (fun h=>by rw[hnew]at h;cases h))
   |some ob=>
    have b9:g.ι (st j).s.n=none:=by
     cases h:g.ι (st j).s.n with
     |none=>rfl
     |some l=>
      rcases f.dom _ (by rw[h];simp)with h1|⟨i,h1,h2,O⟩
      .omega
      .rw [R.al h1]at O
       rw[hnew]at hn
       simp only[Option.isSome_some,if_true]at hn
       by_cases e4:i<j
       .have:=R.mono (i:=i+1) (j:=j) (by omega) (Nat.le_of_lt hr.c)
        omega
       .by_cases e:i=j
        .subst e;rw[hr.no]at h2;cases h2
        .have:=R.mono (i:=j+1) (j:=i) (by omega) (by omega)
         omega
    exact xP x (jC a.eval o x Z b6 f.H f.W b9 (Nat.le_trans Y d7)) (fun V g' w'=>fin _ V g' w' (fun _=>rfl))
  ·
   have h2:(ft j).all=2:=by
    have:=(iJ T io.k xs).1
    rw[q4]
    simp only
    omega
   have M:∀i,i<j->S i=true:=by
    intro i hi
    rcases xO R hr d hi with h|⟨_,h,_⟩
    .exact h
    .have:=(bQ h).1;omega
   have G:∀i,j<=i->i<ios.length->S i=false:=by
    intro i hi C
    cases N:S i with
    |false=>rfl
    |true=>
     by_cases e:i=j
     .subst e;rw[hr.no]at N;cases N
     .have:=(bQ (late R hr d (by omega) C N).1).1
      omega
   have b7:∀id,cont st ft S ios.length id=look (st j).s.h id:=by
    intro id
    rw[sL (j:=j) (Nat.le_of_lt hr.c) (fun i hi C N=>by rw[G i hi C]at N;cases N),vT R (Nat.le_of_lt hr.c) (fun i hi _=>M i hi)]
   have U:Inv P g w (st j).s:=by
    refine⟨fun id ao h=>f.H id ao (by rw[b7];exact h),f.W,fun id h=>?_,R.wf (Nat.le_of_lt hr.c)⟩
    rcases f.dom id h with h1|⟨i,h1,O,h4⟩
    .omega
    .rw [R.al h1]at h4
     by_cases e4:i<j
     .have:=R.mono (i:=i+1) (j:=j) (by omega) (Nat.le_of_lt hr.c)
      omega
     .rw [G i (by omega) h1]at O;cases O
   refine xI e3 hT c1 q5 Z U (Nat.le_trans Y d7) (fun V g' w' k1 k2 k3 k4=>hK g' _ w' ⟨f.ext.trans k3,k2.W,fun id ao h=>k2.H id ao ?_,fun id h=>?_,b5 k3 k1,b4 k3,L⟩)
   .rw [sL (j:=j+1) hr.c (fun i hi C N=>by rw[u i (by omega),G i (by omega) C]at N;cases N)]at h
    have q:tch ft j id=true:=by simp[tch,h2]
    simp only[cont,X,q,Bool.and_self,if_true]at h
    exact h
   .have b0:=k2.dom id h
    by_cases g1:id<(st 0).s.n
    .exact .inl g1
    .obtain ⟨i,hi,O⟩:=cov R (j:=j+1) hr.c (by omega) b0
     refine .inr ⟨i,by have:=hr.c;omega,?_,O⟩
     by_cases e:i=j
     .rw [e];exact X
     .rw [u i e];exact M i (by omega)
end
end Go.Sim
namespace Go.Sim
section
variable {P:Program} {T:Tab} {ex:Nat->Bool->IC->St->Option (Ex×St)} {lim:Nat} {ops:Array Oper} {ios:List Sim.Op1} {st:Nat->St} {ft:Nat->Foot} {v:Nat->AV} {r:Option Nat} {n base:Nat} {g0:Gh} {w0:World}
def bS (a:Array Bool) (i:Nat):Bool:=a.getD i false
theorem nB (a:Array Bool) (i j:Nat) (h:j<a.size):bS (a.setIfInBounds j true) i=if i=j then true else bS a i:=by
 unfold bS
 by_cases e:i=j
 .subst e;simp[h]
 .simp [e,Array.getElem?_setIfInBounds_ne (Ne.symm e)]
theorem aP1 (R:Reg P T ex lim ops ios st ft v) (x:ExOK P ex) (F:fI P T) (p:lim<=(st 0).s.n) {Q:Exit->Act->World->Prop}
  (hQ:∀(S:Nat->Bool) g a w,(∀i,i<ios.length->S i=true)->InvS P ops ios st ft v lim base g0 w0 S g a w->Q .normal a w):
  ∀(d:Nat) (b:Array Bool) (g:Gh) (a:Act) (w:World),b.size=ops.size->b.toList.count false<=d->InvS P ops ios st ft v lim base g0 w0 (bS b) g a w->wpAnyIn (FW r) n P .any ops Q d b a w:=by
 have H:=R.size
 have l:∀(b:Array Bool),b.size=ops.size->Region.ready .any ops b=[]->∀i,i<ios.length->bS b i=true:=by
  intro b hl hr i
  induction i using Nat.strongRecOn with
  |_ i ih=>
   intro hi
   cases h:bS b i with
   |true=>rfl
   |false=>
    exfalso
    obtain⟨io,o,h1,h2,C⟩:=R.get hi
    have D:i∈Region.ready .any ops b:=by
     rw[mem_ready]
     have c:i<b.size:=by omega
     refine⟨by simp only[bS]at h;simp[c]at h ⊢;exact h,o,by simpa using h2,fun e he hb=>?_⟩
     have A:=R.back i o h2 e (by simpa using he) hb
     exact ih e.on A (by omega)
    rw[hr]at D
    cases D
 intro d
 induction d with
 |zero=>
  intro b g a w hl hc q
  have f:∀i,i<ios.length->bS b i=true:=by
   intro i hi
   have c:i<b.size:=by omega
   have m:b.toList.count false=0:=by omega
   rw[List.count_eq_zero]at m
   cases h:bS b i with
   |true=>rfl
   |false=>
    exfalso
    apply m
    simp only[bS]at h
    simp[c]at h
    rw[<-h]
    simp
  refine⟨?_,hQ _ g a w f q⟩
  rw[List.eq_nil_iff_forall_not_mem]
  intro i hi
  rw[mem_ready]at hi
  obtain⟨h1,o,h2,_⟩:=hi
  have y:i<ops.size:=(Array.getElem?_eq_some_iff.1 h2).1
  have:=f i (by omega)
  have c:i<b.size:=by omega
  simp only[bS]at this
  simp[c]at h1 this
  rw[h1]at this
  cases this
 |succ d ih=>
  intro b g a w hl hc q
  refine⟨fun hr=>hQ _ g a w (l b hl hr) q,fun i hi=>?_⟩
  rw[mem_ready]at hi
  obtain⟨h1,o,h2,C⟩:=hi
  have y:i<ops.size:=(Array.getElem?_eq_some_iff.1 h2).1
  have c:i<b.size:=by omega
  obtain⟨io,o',J,B,K⟩:=R.get (j:=i) (by omega)
  have:o'=o:=by
   have t:ops.toList[i]? =some o:=by simpa using h2
   rw[t]at B
   cases B
   rfl
  subst this
  have k:bS b i=false:=by
   simp only[bS]
   simp[c]at h1 ⊢
   exact h1
  have hr:Rdy ops ios (bS b) i o' io:=⟨B,J,by omega,k,fun e he hb=>C e (by simpa using he) hb⟩
  refine xR (S':=bS (b.setIfInBounds i true)) R x F p hr K q (fun j G=>by rw[nB _ _ _ c,if_neg G]) (by rw[nB _ _ _ c,if_pos rfl]) (fun g' a' w' u=>?_)
  refine ih _ g' a' w' (by simpa using hl) ?_ u
  have E:(b.setIfInBounds i true).toList=b.toList.set i true:=by simp
  have z:b.toList[i]'(by simpa using c)=false:=by
   simp only[bS]at k
   simp[c]at k
   simpa using k
  rw[E,List.count_set (by simpa using c),z,if_pos (by rfl),if_neg (by decide)]
  omega
theorem dL1 (L:fI P T) (y:P.follows .mixedOrders=true) {ex:Nat->Bool->IC->St->Option (Ex×St)} (B:ExOK P ex) (C:iI ex):xM P T ex:=by
 intro lim ops ios σ F fs id hc l z k r g a w n base O f hl hb M
 obtain⟨st,ft,v,_,q,x,E,K⟩:=tY ios 0 σ (fun _=>{}) F fs z
 simp only[Nat.zero_add]at x E K
 have hlen:fs.length=ios.length:=by rw[E,revF_length]
 rw[E,revF_length]at k
 simp only[cY1,Bool.and_eq_true,List.all_eq_true]at l
 obtain⟨U,V⟩:=l
 have R:Reg P T ex lim ops ios st ft v:=by
  refine⟨hc,fun j o D e he A=>?_,fun j o D i p hi hp=>?_,K,lE k,C,by rw[q];exact f.wf⟩
  .have:=U (o,j) (by rw[List.mem_iff_getElem?];exact⟨j,by simp[D]⟩)
   simp only[List.all_eq_true,Bool.or_eq_true,Bool.not_eq_true',decide_eq_true_eq]at this
   rcases this e he with h|h
   .rw [A]at h;cases h
   .exact h
  .have:=V (o,j) (by rw[List.mem_iff_getElem?];exact⟨j,by simp[D]⟩)
   have h:=lD this i p hp (by omega)
   rw[Nat.zero_add]at h
   exact h
 have N:=R.size
 refine wpIn_region_any y ?_
 have hw:Inv P g {w with drawn:=w.drawn+1} σ.s:=⟨fun id ao h=>(f.H id ao h).mono (.refl g) rfl (fun _ _=>rfl),⟨f.W.still,f.W.lt,f.W.out,f.W.inj⟩,f.dom,f.wf⟩
 have G:Ext lim g g w {w with drawn:=w.drawn+1}:=⟨.refl g,Nat.le_refl _,fun _ _ _=>rfl,fun id loc h=>.inl ⟨loc,h,rfl⟩,fun _ _=>rfl,rfl,rfl,rfl,fun _ _ h=>.inl h⟩
 refine aP1 (base:=base) (g0:=g) (w0:=w) R B L (by rw[q];exact hl) ?_ ops.size (Array.replicate ops.size false) g a _ (by simp) (by simp) ?_
 .intro S g' a' w' J u
  refine⟨rfl,g',?_⟩
  have b:∀id,cont st ft S ios.length id=look F.s.h id:=fun id=>by
   rw[vT R (Nat.le_refl _) (fun i hi _=>J i hi),x]
  have m:tl ios st v S ios.length=F.t:=by
   rw[<-x]
   exact List.ext_getElem? (fun t=>tlA R (Nat.le_refl _) (fun i hi _=>J i hi))
  have d:=R.mono (i:=0) (j:=ios.length) (by omega) (Nat.le_refl _)
  rw[q,x]at d
  refine⟨by rw[<-m];exact u.t,⟨fun id ao h=>u.H id ao (by rw[b];exact h),u.W,fun id h=>?_,by have:=R.wf (Nat.le_refl ios.length);rw[x]at this;exact this⟩,u.ext,d,u.marks⟩
  rcases u.dom id h with h1|⟨i,h1,h2,h3⟩
  .rw [q]at h1;omega
  .rw [R.al h1]at h3
   have:=R.mono (i:=i+1) (j:=ios.length) (by omega) (Nat.le_refl _)
   rw[x]at this
   omega
 .have c:∀i,bS (Array.replicate ops.size false) i=false:=by
   intro i
   simp only[bS]
   by_cases h:i<ops.size
   .simp [h]
   .simp [h]
  have b:∀id,cont st ft (bS (Array.replicate ops.size false)) ios.length id=look σ.s.h id:=by
   intro id
   rw[sL (j:=0) (by omega) (fun i _ _ h=>by rw[c i]at h;cases h),<-q]
   rfl
  have m:tl ios st v (bS (Array.replicate ops.size false)) ios.length=σ.t:=by
   rw[<-q]
   have h2:∀t,(tl ios st v (bS (Array.replicate ops.size false)) ios.length)[t]? =(tl ios st v (bS (Array.replicate ops.size false)) 0)[t]? :=fun t=>tlB (by omega) (fun i _ _ h=>by rw[c i]at h;cases h)
   exact List.ext_getElem? h2
  exact⟨G,hw.W,fun id ao h=>hw.H id ao (by rw[<-b];exact h),fun id h=>.inl (by rw[q];exact hw.dom id h),by rw[m];exact O,M.ext G,fun i oi h=>by rw[c i]at h;cases h⟩
theorem vV (b:fI P T) (a:P.follows .mixedOrders=true) (d:Nat):ExOK P (exec T d):=dJ1 b (fun d h=>dL1 b a h (mW T d)) d
end
end Go.Sim
namespace Go.Sim
open Go.RowKit
def gW (w:World):Gh:={G:=fun b=>w.heap[b]?,ι:=fun _=>none}
theorem xS (P:Program) (w:World):Inv P (gW w) w {h:=[],n:=0}:=
 ⟨fun id ao h=>by simp[look]at h,⟨fun b o h=>h,fun id loc h=>by simp[gW]at h,fun id loc h=>by simp[gW]at h,fun id id' loc loc' h=>by simp[gW]at h⟩,fun id h=>by simp[gW]at h,trivial⟩
theorem xT {P:Program} {T:Tab} (g:fI P T) (a:P.follows .mixedOrders=true) {f:FuncId} {args:List AV} {Args:Array Value} {d:Nat} {s':Hp} {w:World} {x:Value} (hg:Value.ground x=true)
  (h:callF T (exec T d) 0 f args {h:=[],n:=0}=some (.v x,s')) (i:TR (gW w) args Args.toList):Calls P f Args w fun e w'=>e=.returned x/\Below w.heap.size w w':=by
 have h1:=kN (n:=0) (vV g a d) g h i (xS P w) (Nat.le_refl _)
 refine callsIn_wide.1 (CallsIn.mono (F:=Fence.wide) h1 ?_)
 rintro e w' ⟨V,g',rfl,j,k,c,l⟩
 refine⟨by rw[j.ground],⟨c.os,c.tape,c.output,c.size,fun b hb=>c.keep b hb (fun id loc _ hi=>by simp[gW]at hi)⟩⟩
def seqB (P:Program):List Field->Nat->Nat->Bool
 |[],off,m=>off==m
 |f::fs,off,m=>f.offset==off&&seqB P fs (off+P.cellsOf f.type) m
def cA (P:Program):Nat->TypeId->Bool
 |0,_=>false
 |d+1,t=>
  match P.underlying t with
  |some .bool|some (.int _)|some .string=>true
  |some (.slice e)=>P.cellsOf e !=0&&cA P d e
  |some (.struct fs)=>seqB P fs.toList 0 (P.cellsOf t)&&fs.toList.all fun f=>cA P d f.type
  |some (.array n e)=>P.cellsOf t==n*P.cellsOf e&&cA P d e
  |_=>false
def TyFs (F:TypeId->List AV->Prop) (P:Program):List Field->List AV->Prop
 |[],cs=>cs=[]
 |f::fs,cs=>∃c1 c2,cs=c1++c2/\c1.length=P.cellsOf f.type/\F f.type c1/\TyFs F P fs c2
def TyC (P:Program):Nat->TypeId->List AV->Prop
 |0,_,_=>False
 |d+1,t,cs=>
  match P.underlying t with
  |some .bool=>∃b,cs=[.v (.bool b)]
  |some (.int k)=>∃n,cs=[.v (.int k n)]/\(Lit.int k n).wf=true
  |some .string=>∃s:ByteArray,cs=[.v (.string s)]/\s.size<=maxLen
  |some (.slice e)=>cs=[.v (.slice none 0 0)]\/∃els:List (List AV),cs=[.is (P.cellsOf e) els]/\els.length<=maxLen/\∀row∈els,row.length=P.cellsOf e/\TyC P d e row
  |some (.struct fs)=>TyFs (TyC P d) P fs.toList cs
  |some (.array n e)=>∃rows:List (List AV),cs=rows.flatten/\rows.length=n/\∀row∈rows,row.length=P.cellsOf e/\TyC P d e row
  |_=>False
theorem eZ {α β:Type} {f:α->Option β}:∀{l:List α} {r:List β},l.mapM f=some r->r.length=l.length/\∀(i:Nat) (x:α),l[i]? =some x->∃y,f x=some y/\r[i]? =some y
 |[],r,h=>by
  simp at h
  subst h
  exact⟨rfl,fun i x h=>by simp at h⟩
 |a::l,r,h=>by
  simp only[List.mapM_cons,Option.bind_eq_bind,Option.bind_eq_some_iff,Option.pure_def,Option.some.injEq]at h
  obtain⟨b,hb,g,c,rfl⟩:=h
  obtain⟨h1,h2⟩:=eZ c
  refine⟨by simp[h1],fun i x hi=>?_⟩
  cases i with
  |zero=>simp at hi;subst hi;exact⟨b,hb,rfl⟩
  |succ i=>simp at hi;obtain⟨y,d,e⟩:=h2 i x hi;exact⟨y,d,by simpa using e⟩
theorem lG {w:World} {base:Nat} {a:Addr} {n:Nat} {cs:List Value} (h:w.cells? base a n=some cs):cs.length=n/\∀i,i<n->w.cell? (a.add i)=cs[i]? :=by
 unfold World.cells? at h
 split at h
 .obtain ⟨h1,h2⟩:=eZ h
  refine⟨by simpa using h1,fun i hi=>?_⟩
  obtain⟨y,b,c⟩:=h2 i i (by simp[hi])
  rw[b,c]
 .cases h
theorem dM1 {w:World} {a:Addr} {j:Nat} {y:Value} (h:w.cell? (a.add j)=some y) (hs:a.spot=none):(gW w).cell a j=some y:=by
 have d:a.add j=⟨a.block,a.off+j,none⟩:=by
  obtain⟨b,o,s⟩:=a
  simp only at hs
  subst hs
  exact cR b o j
 rw[d]at h
 unfold World.cell? at h
 split at h
 .rename_i c e fr hb
  simp only at hb
  simp only[Gh.cell,gW,hb]
  simpa using h
 .cases h
theorem hU {α:Type} {Q:Nat->α->Prop}:∀{n:Nat},(∀i,i<n->∃x,Q i x)->∃l:List α,l.length=n/\∀(i:Nat) (x:α),l[i]? =some x->Q i x
 |0,_=>⟨[],rfl,fun i x h=>by simp at h⟩
 |n+1,h=>by
  obtain⟨l,h1,h2⟩:=hU (n:=n) (fun i hi=>h i (by omega))
  obtain⟨x,b⟩:=h n (by omega)
  refine⟨l++[x],by simp[h1],fun i y hy=>?_⟩
  rw[List.getElem?_append]at hy
  split at hy
  .exact h2 i y hy
  .rename_i hi
   have a:i=n:=by
    have:=(List.getElem?_eq_some_iff.1 hy).1
    simp at this
    omega
   subst a
   simp[h1]at hy
   subst hy
   exact b
theorem TR.of_parts {g:Gh} {c1 c2:List AV} {C:List Value} {k:Nat} (h1:TR g c1 (C.take k)) (h2:TR g c2 (C.drop k)):TR g (c1++c2) C:=by
 have:=h1.app h2
 rwa [List.take_append_drop]at this
section
variable {H:Type} {enc:TypeId×Value->H} {P:Program} {w:World} {held:Bool}
def Rd (P:Program) (w:World) (D:Nat) (t:TypeId) (Cs:List Value):Prop:=∃cs,TR (gW w) cs Cs/\TyC P D t cs/\∀y∈Cs,isCell y=true
theorem lH {D a:Nat} (IH:∀t Cs g ps,DataW.trod enc P w 0 (fun _=>true) held a t Cs=some (g,ps)->cA P D t=true->Rd P w D t Cs):∀(fs:List Field) (off m:Nat) (Cs:List Value) (xs:List (DataW H×List MemPlace)),
  fs.mapM (fun f=>DataW.trod enc P w 0 (fun _=>true) held a f.type ((Cs.drop f.offset).take (P.cellsOf f.type)))=some xs->seqB P fs off m=true->(fs.all fun f=>cA P D f.type)=true->Cs.length=m->
  ∃cs,TR (gW w) cs (Cs.drop off)/\TyFs (TyC P D) P fs cs/\(∀y∈Cs.drop off,isCell y=true)/\off<=m
 |[],off,m,Cs,xs,h,hs,hp,hl=>by
  simp only[seqB,beq_iff_eq]at hs
  subst hs
  have:Cs.drop off=[]:=by rw[List.drop_eq_nil_iff];omega
  rw[this]
  exact⟨[],.nil _,rfl,fun y h=>by simp at h,Nat.le_refl _⟩
 |f::fs,off,m,Cs,xs,h,hs,hp,hl=>by
  simp only[List.mapM_cons,Option.bind_eq_bind,Option.bind_eq_some_iff,Option.pure_def,Option.some.injEq]at h
  obtain⟨b,hb,e,d,rfl⟩:=h
  simp only[seqB,Bool.and_eq_true,beq_iff_eq]at hs
  obtain⟨rfl,hs⟩:=hs
  simp only[List.all_cons,Bool.and_eq_true]at hp
  obtain⟨cs2,i,j,k,l⟩:=lH IH fs (f.offset+P.cellsOf f.type) m Cs e d hs hp.2 hl
  obtain⟨c,q1,q2,q3⟩:=IH f.type _ b.1 b.2 hb hp.1
  have hd:(Cs.drop f.offset).drop (P.cellsOf f.type)=Cs.drop (f.offset+P.cellsOf f.type):=by rw[List.drop_drop]
  refine⟨c++cs2,TR.of_parts q1 (by rw[hd];exact i),⟨c,cs2,rfl,?_,q2,j⟩,fun y hy=>?_,by omega⟩
  .rw [q1.1,List.length_take,List.length_drop]
   omega
  .rw [<-List.take_append_drop (P.cellsOf f.type) (Cs.drop f.offset),hd,List.mem_append]at hy
   rcases hy with hy|hy
   .exact q3 y hy
   .exact k y hy
theorem xU {a:Nat} {t:TypeId} {Cs:List Value} {x:DataW H×List MemPlace} (c:P.underlying t=some .bool) (h:DataW.trod enc P w 0 (fun _=>true) held (a+1) t Cs=some x):∃b,Cs=[.bool b]:=by
 unfold DataW.trod at h
 rw[c]at h
 split at h<;>simp_all
theorem aQ1 {a:Nat} {t:TypeId} {Cs:List Value} {k:IntKind} {x:DataW H×List MemPlace} (b:P.underlying t=some (.int k)) (h:DataW.trod enc P w 0 (fun _=>true) held (a+1) t Cs=some x):∃n,Cs=[.int k n]/\(Lit.int k n).wf=true:=by
 unfold DataW.trod at h
 rw[b]at h
 split at h<;>simp_all
theorem sM {a:Nat} {t:TypeId} {Cs:List Value} {x:DataW H×List MemPlace} (b:P.underlying t=some .string) (h:DataW.trod enc P w 0 (fun _=>true) held (a+1) t Cs=some x):∃s:ByteArray,Cs=[.string s]/\s.size<=maxLen:=by
 unfold DataW.trod at h
 rw[b]at h
 split at h<;>simp_all
theorem sN {a:Nat} {t:TypeId} {fs:Array Field} {Cs:List Value} {x:DataW H×List MemPlace} (b:P.underlying t=some (.struct fs)) (h:DataW.trod enc P w 0 (fun _=>true) held (a+1) t Cs=some x):
  Cs.length=P.cellsOf t/\∃xs,fs.toList.mapM (fun f=>DataW.trod enc P w 0 (fun _=>true) held a f.type ((Cs.drop f.offset).take (P.cellsOf f.type)))=some xs:=by
 unfold DataW.trod at h
 rw[b]at h
 split at h<;>simp_all
 obtain⟨_,y,h,_⟩:=h
 exact⟨y,h⟩
theorem vW {a n:Nat} {t e:TypeId} {Cs:List Value} {x:DataW H×List MemPlace} (b:P.underlying t=some (.array n e)) (h:DataW.trod enc P w 0 (fun _=>true) held (a+1) t Cs=some x):
  Cs.length=P.cellsOf t/\∃xs,(List.range n).mapM (fun i=>DataW.trod enc P w 0 (fun _=>true) held a e ((Cs.drop (i*P.cellsOf e)).take (P.cellsOf e)))=some xs:=by
 unfold DataW.trod at h
 rw[b]at h
 split at h<;>simp_all
 obtain⟨_,y,h,_⟩:=h
 exact⟨y,h⟩
theorem vX {c:Nat} {t e:TypeId} {Cs:List Value} {x:DataW H×List MemPlace} (k:P.underlying t=some (.slice e)) (h:DataW.trod enc P w 0 (fun _=>true) held (c+1) t Cs=some x):
  Cs=[.slice none 0 0]\/∃a len cap,Cs=[.slice (some a) len cap]/\len<=cap/\cap<=maxLen/\∀i,i<cap->∃row y,w.cells? 0 (a.add (i*P.cellsOf e)) (P.cellsOf e)=some row/\DataW.trod enc P w 0 (fun _=>true) held c e row=some y:=by
 unfold DataW.trod at h
 rw[k]at h
 split at h
 all_goals first|(simp_all;done)|skip
 rename_i e' a len cap he
 cases he
 right
 simp only at h
 split at h
 .rename_i hc
  obtain⟨_,c1,c2⟩:=hc
  simp only[Option.bind_eq_some_iff,if_true,Option.map_eq_some_iff]at h
  obtain⟨d,h1,rest,h2,_⟩:=h
  refine⟨a,len,cap,rfl,c1,c2,fun i hi=>?_⟩
  by_cases f:i<len
  .obtain ⟨y,b,_⟩:=(eZ h1).2 i i (List.getElem?_range f)
   simp only[Option.bind_eq_some_iff]at b
   obtain⟨row,b,g⟩:=b
   exact⟨row,y,b,g⟩
  .obtain ⟨y,b,_⟩:=(eZ h2).2 (i-len) (i-len) (List.getElem?_range (by omega))
   have j:len+(i-len)=i:=by omega
   rw[j]at b
   simp only[Option.bind_eq_some_iff]at b
   obtain⟨row,b,g⟩:=b
   exact⟨row,y,b,g⟩
 .cases h
theorem xV:∀(D f:Nat) (t:TypeId) (Cs:List Value) (J:DataW H) (ps:List MemPlace),DataW.trod enc P w 0 (fun _=>true) held f t Cs=some (J,ps)->cA P D t=true->Rd P w D t Cs
 |0,_,_,_,_,_,_,hp=>by simp[cA]at hp
 |D+1,0,_,_,_,_,h,_=>by simp[DataW.trod]at h
 |D+1,f+1,t,Cs,J,ps,h,hp=>by
  have IH:=fun t Cs J ps=>xV D f t Cs J ps
  have one:∀{x:AV} {y:Value},VR (gW w) x y->isCell y=true->TyC P (D+1) t [x]->Rd P w (D+1) t [y]:=fun h1 h2 r=>
   ⟨_,.cons h1 (.nil _),r,fun y hy=>by simp at hy;subst hy;exact h2⟩
  unfold cA at hp
  split at hp
  .rename_i c
   obtain⟨b,rfl⟩:=xU c h
   exact one (.v rfl) rfl (by simp[TyC,c])
  .rename_i k c
   obtain⟨n,rfl,hn⟩:=aQ1 c h
   exact one (.v rfl) rfl (by simp[TyC,c];exact hn)
  .rename_i c
   obtain⟨s,rfl,hs⟩:=sM c h
   exact one (.v rfl) rfl (by simp[TyC,c];exact hs)
  .rename_i e c
   simp only[Bool.and_eq_true,bne_iff_ne,ne_eq]at hp
   obtain⟨h0,hp⟩:=hp
   rcases vX c h with rfl|⟨a,len,cap,rfl,c1,c2,hget⟩
   .exact one (x:=.v (.slice none 0 0)) (.v rfl) rfl (by simp[TyC,c])
   .by_cases N:cap=0
    .have R:len=0:=by omega
     subst N;subst R
     exact one (x:=.is (P.cellsOf e) []) .is0 rfl (by simp[TyC,c])
    .have d:∀i,i<cap->∃row:List AV,row.length=P.cellsOf e/\TyC P D e row/\a.spot=none/\∀(j:Nat) (x:AV),row[j]? =some x->∃y,(gW w).cell a (i*P.cellsOf e+j)=some y/\isCell y=true/\VR (gW w) x y:=by
      intro i hi
      obtain⟨row,y,T,U⟩:=hget i hi
      obtain⟨l1,X⟩:=lG T
      obtain⟨cs,q1,q2,q3⟩:=IH e row y.1 y.2 U hp
      have hs:a.spot=none:=by
       have h1:=X 0 (by omega)
       have h2:row[0]? =some row[0]:=by simp
       rw[h2]at h1
       have r:=World.cell?_spot h1
       unfold Addr.add at r
       split at r
       .split at r
        .exact r
        .rename_i a0
         obtain⟨G,_,S,_⟩:=hget 0 (by omega)
         obtain⟨l3,V⟩:=lG S
         have C:=V 0 (by omega)
         have L:G[0]? =some G[0]:=by simp
         rw[L]at C
         have M:=World.cell?_spot C
         simpa[Addr.add]using M
       .obtain ⟨G,_,S,_⟩:=hget 0 (by omega)
        obtain⟨l3,V⟩:=lG S
        have C:=V 0 (by omega)
        have L:G[0]? =some G[0]:=by simp
        rw[L]at C
        have M:=World.cell?_spot C
        simpa[Addr.add]using M
      refine⟨cs,by rw[q1.1,l1],q2,hs,fun j x u=>?_⟩
      have hj:j<row.length:=by rw[<-q1.1];exact(List.getElem?_eq_some_iff.1 u).1
      have hc:=X j (by omega)
      have E:row[j]? =some row[j]:=by simp
      rw[E]at hc
      have Z:(a.add (i*P.cellsOf e)).add j=a.add (i*P.cellsOf e+j):=by
       obtain⟨b,o,s⟩:=a
       simp only at hs
       subst hs
       rw[cR,cR,cR,Nat.add_assoc]
      rw[Z]at hc
      exact⟨row[j],dM1 hc hs,q3 _ (by simp),q1.2 j x _ u E⟩
     obtain⟨els,A,B⟩:=hU (n:=len) (fun i hi=>d i (by omega))
     obtain⟨_,_,_,hs,_⟩:=d 0 (by omega)
     have hv:VR (gW w) (.is (P.cellsOf e) els) (.slice (some a) els.length cap):=
      .is hs (by omega) (fun i row hr=>(B i row hr).1) (fun i row j x hr u=>by
       obtain⟨y,z,Y,_⟩:=(B i row hr).2.2.2 j x u
       exact⟨y,z,Y⟩) (fun i row j x y hr u hy=>by
       obtain⟨y',z,Y,y3⟩:=(B i row hr).2.2.2 j x u
       rw[hy]at z
       cases z
       exact y3)
     rw[A]at hv
     refine one hv rfl ?_
     simp only[TyC,c]
     refine .inr ⟨els,rfl,by omega,fun row hr=>?_⟩
     obtain⟨i,hi⟩:=List.mem_iff_getElem?.1 hr
     exact⟨(B i row hi).1,(B i row hi).2.1⟩
  .rename_i fs c
   simp only[Bool.and_eq_true]at hp
   obtain⟨hl,xs,q⟩:=sN c h
   obtain⟨cs,T,U,k3,_⟩:=lH IH fs.toList 0 (P.cellsOf t) Cs xs q hp.1 hp.2 hl
   exact⟨cs,by simpa using T,by simpa only[TyC,c]using U,by simpa using k3⟩
  .rename_i n e c
   simp only[Bool.and_eq_true,beq_iff_eq]at hp
   obtain⟨hl,xs,q⟩:=vW c h
   rw[hp.1]at hl
   have d:∀i,i<n->∃row:List AV,TR (gW w) row ((Cs.drop (i*P.cellsOf e)).take (P.cellsOf e))/\TyC P D e row/\∀y∈(Cs.drop (i*P.cellsOf e)).take (P.cellsOf e),isCell y=true:=by
    intro i hi
    obtain⟨y,z,_⟩:=(eZ q).2 i i (by simp[hi])
    exact IH e _ y.1 y.2 z hp.2
   obtain⟨rows,W,K⟩:=hU d
   have hlen:∀row∈rows,row.length=P.cellsOf e:=by
    intro row hr
    obtain⟨i,hi⟩:=List.mem_iff_getElem?.1 hr
    have O:i<n:=by rw[<-W];exact(List.getElem?_eq_some_iff.1 hi).1
    rw[(K i row hi).1.1,List.length_take,List.length_drop,hl]
    have:(i+1)*P.cellsOf e<=n*P.cellsOf e:=Nat.mul_le_mul_right _ O
    rw[Nat.succ_mul]at this
    omega
   have key:∀(m:Nat) (l:List (List AV)),l.length=m->(∀(i:Nat) (row:List AV),l[i]? =some row->TR (gW w) row ((Cs.drop ((n-m+i)*P.cellsOf e)).take (P.cellsOf e))/\∀y∈(Cs.drop ((n-m+i)*P.cellsOf e)).take (P.cellsOf e),isCell y=true)->m<=n->
     TR (gW w) l.flatten (Cs.drop ((n-m)*P.cellsOf e))/\∀y∈Cs.drop ((n-m)*P.cellsOf e),isCell y=true:=by
    intro m
    induction m with
    |zero=>
     intro l p _ _
     have:l=[]:=by cases l;rfl;simp at p
     subst this
     have:Cs.drop ((n-0)*P.cellsOf e)=[]:=by rw[List.drop_eq_nil_iff,hl];simp
     rw[this]
     exact⟨.nil _,fun y h=>by simp at h⟩
    |succ m ih=>
     intro l p hr hm
     cases l with
     |nil=>simp at p
     |cons row l=>
      have h0:=hr 0 row rfl
      rw[Nat.add_zero]at h0
      have g:=ih l (by simpa using p) (fun i F hi=>by
       have:=hr (i+1) F (by simpa using hi)
       have A:n-(m+1)+(i+1)=n-m+i:=by omega
       rwa [A]at this) (by omega)
      have hd:(Cs.drop ((n-(m+1))*P.cellsOf e)).drop (P.cellsOf e)=Cs.drop ((n-m)*P.cellsOf e):=by
       rw[List.drop_drop]
       congr 1
       have:n-m=n-(m+1)+1:=by omega
       rw[this,Nat.succ_mul]
      refine⟨by simpa using TR.of_parts h0.1 (by rw[hd];exact g.1),fun y hy=>?_⟩
      rw[<-List.take_append_drop (P.cellsOf e) (Cs.drop ((n-(m+1))*P.cellsOf e)),hd,List.mem_append]at hy
      rcases hy with hy|hy
      .exact h0.2 y hy
      .exact g.2 y hy
   have hk:=key n rows W (fun i row hi=>by
    have A:n-n+i=i:=by omega
    rw[A]
    exact⟨(K i row hi).1,(K i row hi).2.2⟩) (Nat.le_refl _)
   simp only[Nat.sub_self,Nat.zero_mul,List.drop_zero]at hk
   refine⟨rows.flatten,hk.1,?_,hk.2⟩
   simp only[TyC,c]
   refine⟨rows,rfl,W,fun row hr=>⟨hlen row hr,?_⟩⟩
   obtain⟨i,hi⟩:=List.mem_iff_getElem?.1 hr
   exact(K i row hi).2.1
  .cases hp
end
end Go.Sim
namespace Go.Sim
section
variable {T:Tab} {ex ex':Nat->Bool->IC->St->Option (Ex×St)}
def jJ (ex ex':Nat->Bool->IC->St->Option (Ex×St)):Prop:=∀lim rd c σ r,ex lim rd c σ=some r->ex' lim rd c σ=some r
theorem mono_body (b:jJ ex ex') {lim:Nat} {fn:IFn} {args:List AV} {s:Hp} {r:AV×Hp} (h:body ex lim fn args s=some r):body ex' lim fn args s=some r:=by
 unfold body at h ⊢
 split at h
 .cases h
 .rename_i e σ a he
  rw[b _ _ _ _ _ he]
  cases e with
  |exit id=>exact absurd rfl (a id)
  |normal=>exact h
  |ret=>exact h
 .cases h
theorem jK (a:jJ ex ex') {lim:Nat} {f:FuncId} {args:List AV} {s:Hp} {r:AV×Hp} (h:callF T ex lim f args s=some r):callF T ex' lim f args s=some r:=by
 unfold callF at h ⊢
 split at h
 .cases h
 .rename_i fn c
  (try simp only[c])
  split at h
  .rename_i hp
   rw[if_pos hp]
   split at h
   .rename_i hc
    rw[if_pos hc]
    split at h
    .rename_i hb;rw[mono_body a hb];exact h
    .cases h
   .rename_i hc
    rw[if_neg hc]
    split at h
    .rename_i d
     rw[if_pos d]
     split at h
     .rename_i as b
      (try simp only[b])
      split at h
      .rename_i hb;rw[mono_body a hb];exact h
      .cases h
     .cases h
    .rename_i d
     rw[if_neg d]
     split at h
     .rename_i hb;rw[mono_body a hb];exact h
     .cases h
  .rename_i hp
   rw[if_neg hp]
   exact mono_body a h
theorem nC (a:jJ ex ex') {lim l:Nat} {args:List AV} {s:Hp} {r:AV×Hp} (h:round ex lim l args s=some r):round ex' lim l args s=some r:=by
 unfold Sim.round at h ⊢
 split at h
 .rename_i c
  (try simp only[c])
  split at h
  .rename_i hc
   rw[if_pos hc]
   split at h
   .rename_i σ d
    rw[a _ _ _ _ _ d]
    simp only
    split at h
    .rename_i b
     (try simp only[b])
     split at h
     .rename_i hb;rw[a _ _ _ _ _ hb];exact h
     .rename_i hb;rw[a _ _ _ _ _ hb];exact h
     .rename_i hb;rw[a _ _ _ _ _ hb];exact h
     .cases h
    .cases h
   .cases h
  .cases h
 .cases h
theorem lI (a:jJ ex ex') {lim:Nat} {k:OpK} {xs:List AV} {s:Hp} {r:AV×Hp} (h:step T ex lim k xs s=some r):step T ex' lim k xs s=some r:=by
 unfold step at h ⊢
 split at h
 .exact jK a h
 .split at h
  .unfold callV at h ⊢
   split at h
   .exact jK a h
   .exact nC a h
   .cases h
  .cases h
 .exact h
theorem hY (b:jJ ex ex') {lim:Nat}:∀{os:List Sim.Op1} {σ τ:St},runOps T ex lim os σ=some τ->runOps T ex' lim os σ=some τ
 |[],σ,τ,h=>h
 |o::os,σ,τ,h=>by
  simp only[runOps]at h ⊢
  split at h
  .rename_i hw
   rw[if_pos hw]
   split at h
   .rename_i c
    (try simp only[c])
    split at h
    .rename_i a
     simp only[lI b a]
     exact hY b h
    .cases h
   .cases h
  .rename_i hw
   rw[if_neg hw]
   exact hY b h
theorem dW (b:jJ ex ex') {lim:Nat} {before:List Nat}:∀{os:List Sim.Op1} {j:Nat} {fs:List Foot} {σ:St} {r:St×List Foot},bH T ex lim before os j fs σ=some r->bH T ex' lim before os j fs σ=some r
 |[],j,fs,σ,r,h=>h
 |o::os,j,fs,σ,r,h=>by
  simp only[bH]at h ⊢
  split at h
  .rename_i hw
   rw[if_pos hw]
   split at h
   .rename_i d
    (try simp only[d])
    split at h
    .rename_i c
     rw[if_pos c]
     split at h
     .rename_i a
      simp only[lI b a]
      exact dW b h
     .cases h
    .rename_i c
     rw[if_neg c]
     split at h
     .rename_i a
      simp only[lI b a]
      exact dW b h
     .cases h
   .cases h
  .rename_i hw
   rw[if_neg hw]
   exact dW b h
theorem qJ (T:Tab):∀d,jJ (exec T d) (exec T (d+1))
 |0,lim,rd,c,σ,r,h=>by simp[exec]at h
 |d+1,lim,rd,c,σ,r,h=>by
  have ih:=qJ T d
  cases c with
  |skip=>simpa only[exec]using h
  |reg ops=>
   simp only[exec,Option.map_eq_some_iff]at h
   obtain⟨τ,h,rfl⟩:=h
   rw[exec,hY ih h]
   rfl
  |regD ops before=>
   rw[exec]at h ⊢
   split at h
   .rename_i hf
    rw[dW ih hf]
    exact h
   .cases h
  |seq a b=>
   rw[exec]at h ⊢
   split at h
   .rename_i i
    rw[ih _ _ _ _ _ i]
    exact ih _ _ _ _ _ h
   .rename_i g
    have h2:=ih _ _ _ _ _ h
    rw[h2]
    obtain⟨e,τ⟩:=r
    cases e with
    |normal=>exact absurd h (g τ)
    |ret=>rfl
    |exit id=>rfl
  |cond c a b=>
   rw[exec]at h ⊢
   split at h
   .rename_i hc
    (try simp only[hc])
    exact ih _ _ _ _ _ h
   .cases h
  |block id c=>
   rw[exec]at h ⊢
   split at h
   .rename_i i
    rw[ih _ _ _ _ _ i]
    exact h
   .rename_i g
    have h2:=ih _ _ _ _ _ h
    rw[h2]
    obtain⟨e,τ⟩:=r
    cases e with
    |normal=>rfl
    |ret=>rfl
    |exit id=>exact absurd h (g _ _)
  |loop c=>
   rw[exec]at h ⊢
   split at h
   .rename_i i
    rw[ih _ _ _ _ _ i]
    exact ih _ _ _ _ _ h
   .rename_i e τ g i
    rw[ih _ _ _ _ _ i]
    cases e with
    |normal=>exact(g rfl).elim
    |ret=>exact h
    |exit id=>exact h
   .cases h
  |rangeF f ps a b=>
   rw[exec]at h ⊢
   split at h
   .cases h
   .rename_i k
    rw[if_neg k]
    split at h
    .rename_i j
     (try simp only[j])
     split at h
     .rename_i hc
      simp only[jK ih hc]
      exact h
     .cases h
    .cases h
  |exit id=>simpa only[exec]using h
  |ret=>simpa only[exec]using h
theorem mono_le (T:Tab) {d a:Nat} (h:d<=a):jJ (exec T d) (exec T a):=by
 induction h with
 |refl=>exact fun _ _ _ _ _ h=>h
 |step _ ih=>exact fun _ _ _ _ _ h=>qJ T _ _ _ _ _ _ (ih _ _ _ _ _ h)
end
end Go.Sim
namespace Go.Sim
def fO (P:Program):Nat->List (Option IFn)->Prop
 |_,[]=>True
 |i,none::r=>fO P (i+1) r
 |i,some ifn::r=>(∃fn,P.funcs[i]? =some fn/\eH P fn ifn.pure ifn.frz=some ifn)/\fO P (i+1) r
theorem fO.get {P:Program}:∀{l:List (Option IFn)} {i j:Nat} {ifn:IFn},fO P i l->l[j]? =some (some ifn)->∃fn,P.funcs[i+j]? =some fn/\eH P fn ifn.pure ifn.frz=some ifn
 |[],i,j,ifn,_,h=>by simp at h
 |none::r,i,j,ifn,h,hj=>by
  cases j with
  |zero=>simp at hj
  |succ j=>
   have:=fO.get (l:=r) h (by simpa using hj)
   rwa [show i+1+j=i+(j+1)by omega]at this
 |some x::r,i,j,ifn,h,hj=>by
  cases j with
  |zero=>
   simp at hj
   subst hj
   exact h.1
  |succ j=>
   have:=fO.get (l:=r) h.2 (by simpa using hj)
   rwa [show i+1+j=i+(j+1)by omega]at this
theorem fO.tab {P:Program} {l:List (Option IFn)} (h:fO P 0 l):fI P (fun f=>(l[f]?).join):=by
 intro f ifn hf
 have:l[f]? =some (some ifn):=by
  cases hl:l[f]? with
  |none=>simp[hl]at hf
  |some x=>simp[hl]at hf;rw[hf]
 have h2:=fO.get h this
 rwa [Nat.zero_add]at h2
def dN1 (P:Program):List Func->List (Option IFn)->List (Option IFn)
 |_,[]=>[]
 |[],_::_=>[]
 |_::fs,none::r=>none::dN1 P fs r
 |fn::fs,some x::r=>eH P fn x.pure x.frz::dN1 P fs r
theorem fO.of {P:Program}:∀{l:List (Option IFn)} {fs:List Func} {i:Nat},P.funcs.toList.drop i=fs->dN1 P fs l=l->fO P i l
 |[],_,_,_,_=>trivial
 |o::r,[],i,_,h=>by cases o<;>cases h
 |none::r,f::fs,i,hd,h=>by
  have a:P.funcs.toList.drop (i+1)=fs:=by rw[<-List.drop_drop,hd];rfl
  exact fO.of (l:=r) a (List.cons.inj h).2
 |some x::r,f::fs,i,hd,h=>by
  have a:P.funcs.toList.drop (i+1)=fs:=by rw[<-List.drop_drop,hd];rfl
  have hi:P.funcs[i]? =some f:=by
   rw[<-Array.getElem?_toList,<-List.head?_drop,hd];rfl
  exact⟨⟨f,hi,(List.cons.inj h).1⟩,fO.of (l:=r) a (List.cons.inj h).2⟩
end Go.Sim
namespace Go.Sim
open Go.RowKit Go.ChangeShapes Go.WideShapes
section
variable {H:Type} {enc:TypeId×Value->H} {P:Program} {W W':World}
theorem dO1 {a:Addr} {y:Value} (h:W.cell? a=some y):a.block<W.heap.size:=by
 unfold World.cell? at h
 split at h
 .rename_i hb
  exact(Array.getElem?_eq_some_iff.1 hb).1
 .cases h
theorem vY (hb:Below W.heap.size W W') {a:Addr} {n:Nat} {cs:List Value} (h:W.cells? 0 a n=some cs):W'.cells? 0 a n=some cs:=by
 unfold World.cells? at h ⊢
 simp only[Nat.zero_le,if_true]at h ⊢
 exact mapM_mono (fun x y hxy=>by rw[hb.cell (dO1 hxy)];exact hxy) h
theorem fP {α β:Type} {f g:α->Option β}:∀{l:List α} {r:List β},l.mapM f=some r->(∀x y,x∈l->y∈r->f x=some y->g x=some y)->l.mapM g=some r
 |[],r,h,_=>by simpa using h
 |a::l,r,h,hk=>by
  simp only[List.mapM_cons,Option.bind_eq_bind,Option.bind_eq_some_iff,Option.pure_def,Option.some.injEq]at h
  obtain⟨b,hb,e,c,rfl⟩:=h
  have h1:=fP c (fun x y d hy=>hk x y (by simp[d]) (by simp[hy]))
  have h2:=hk a b (by simp) (by simp) hb
  simp[List.mapM_cons,h1,h2]
theorem qK (hb:Below W.heap.size W W') {held:Bool} {sp:Nat->Bool}:∀(b D:Nat) (t:TypeId) (cs:List Value) (x:DataW H×List MemPlace),cA P D t=true->
  DataW.trod enc P W 0 (fun _=>true) held b t cs=some x->(∀q∈x.2,sp q.block=true)->DataW.trod enc P W' 0 sp held b t cs=some x
 |0,_,_,_,_,_,h,_=>by simp[DataW.trod]at h
 |b+1,0,_,_,_,hp,_,_=>by simp[cA]at hp
 |b+1,D+1,t,cs,x,hp,h,hs=>by
  have IH:=qK hb (held:=held) (sp:=sp) b D
  unfold cA at hp
  split at hp
  .rename_i d
   unfold DataW.trod at h ⊢
   rw[d]at h ⊢
   split at h<;>simp_all
  .rename_i k d
   unfold DataW.trod at h ⊢
   rw[d]at h ⊢
   split at h<;>simp_all
  .rename_i d
   unfold DataW.trod at h ⊢
   rw[d]at h ⊢
   split at h<;>simp_all
  .rename_i e d
   simp only[Bool.and_eq_true,bne_iff_ne,ne_eq]at hp
   obtain⟨h0,hp⟩:=hp
   unfold DataW.trod at h ⊢
   rw[d]at h ⊢
   split at h
   all_goals first|(simp_all;done)|skip
   rename_i e' a len cap he
   cases he
   simp only at h ⊢
   split at h
   .rename_i hc
    rw[if_pos hc]
    simp only[Option.bind_eq_some_iff,if_true,Option.map_eq_some_iff]at h
    obtain⟨c,h1,rest,h2,rfl⟩:=h
    simp only[List.mem_append]at hs
    have el:∀(i:Nat) (y:DataW H×List MemPlace),(y∈c\/y∈rest)->((W.cells? 0 (a.add (i*P.cellsOf e)) (P.cellsOf e)).bind (DataW.trod enc P W 0 (fun _=>true) held b e))=some y->
      ((W'.cells? 0 (a.add (i*P.cellsOf e)) (P.cellsOf e)).bind (DataW.trod enc P W' 0 sp held b e))=some y:=by
     intro i y hy h
     simp only[Option.bind_eq_some_iff]at h ⊢
     obtain⟨row,w,z⟩:=h
     refine⟨row,vY hb w,IH e row y hp z (fun q m=>hs q (Or.inr ?_))⟩
     rw[List.mem_flatMap]
     exact⟨y,by simpa using hy,m⟩
    have o:=fP h1 (g:=fun i=>(W'.cells? 0 (a.add (i*P.cellsOf e)) (P.cellsOf e)).bind (DataW.trod enc P W' 0 sp held b e)) (fun i y _ hy h=>el i y (Or.inl hy) h)
    have l:=fP h2 (g:=fun j=>(W'.cells? 0 (a.add ((len+j)*P.cellsOf e)) (P.cellsOf e)).bind (DataW.trod enc P W' 0 sp held b e)) (fun i y _ hy h=>el (len+i) y (Or.inr hy) h)
    rw[o]
    simp only[Option.bind_some]
    by_cases r:cap=0
    .have:cap-len=0:=by omega
     rw[this]at h2 l ⊢
     have:rest=[]:=by simpa using h2.symm
     subst this
     split<;>simp
    .have p:sp a.block=true:=by
      have hlen:c.length+rest.length=cap:=by
       have s:=(eZ h1).1
       have u:=(eZ h2).1
       simp at s u
       omega
      refine hs (.cell a.block (a.off+0)) (Or.inl ?_)
      unfold MemPlace.row
      rw[List.mem_map]
      refine⟨0,?_,rfl⟩
      rw[List.mem_range,hlen]
      exact Nat.mul_pos (by omega) (by omega)
     rw[if_pos p,l]
     rfl
   .cases h
  .rename_i fs d
   simp only[Bool.and_eq_true]at hp
   unfold DataW.trod at h ⊢
   rw[d]at h ⊢
   split at h
   all_goals first|(simp_all;done)|skip
   rename_i v he
   cases he
   split at h
   .rename_i hc
    rw[if_pos hc]
    simp only[Option.map_eq_some_iff]at h ⊢
    obtain⟨xs,h1,rfl⟩:=h
    refine⟨xs,fP h1 (fun f y hf hy h=>IH f.type _ y ?_ h (fun q m=>hs q ?_)),rfl⟩
    .exact List.all_eq_true.1 hp.2 f hf
    .rw [List.mem_flatMap]
     exact⟨y,hy,m⟩
   .cases h
  .rename_i n e d
   simp only[Bool.and_eq_true,beq_iff_eq]at hp
   unfold DataW.trod at h ⊢
   rw[d]at h ⊢
   split at h
   all_goals first|(simp_all;done)|skip
   rename_i n' e' he
   cases he
   split at h
   .rename_i hc
    rw[if_pos hc]
    simp only[Option.map_eq_some_iff]at h ⊢
    obtain⟨xs,h1,rfl⟩:=h
    refine⟨xs,fP h1 (fun i y hi hy h=>IH e _ y hp.2 h (fun q m=>hs q ?_)),rfl⟩
    rw[List.mem_flatMap]
    exact⟨y,hy,m⟩
   .cases h
  .cases hp
theorem jY (hb:Below W.heap.size W W') {held:Bool} {sp:Nat->Bool} {D:Nat}:∀(c:List TypeId) (vs:List Value) (a:List (DataW H)) (ps:List MemPlace),(c.all fun t=>cA P D t)=true->
  DataW.TrodAll enc P W 0 (fun _=>true) held c vs a ps->(∀q∈ps,sp q.block=true)->DataW.TrodAll enc P W' 0 sp held c vs a ps
 |[],vs,a,ps,_,h,_=>by
  match vs,a,h with
  |[],[],h=>exact h
 |t::c,vs,a,ps,hp,h,hs=>by
  match vs,a,h with
  |v::vs,d::a,h=>
   obtain⟨p,q,⟨b,h1⟩,h2,rfl⟩:=h
   simp only[List.all_cons,Bool.and_eq_true]at hp
   exact⟨p,q,⟨b,qK hb b D t _ _ hp.1 h1 (fun x e=>hs x (by simp[e]))⟩,jY hb c vs a q hp.2 h2 (fun x e=>hs x (by simp[e])),rfl⟩
def ArgR (P:Program) (W:World) (D:Nat) (t:TypeId) (x:AV) (V:Value):Prop:=
 VR (gW W) x V/\∃cs,TyC P D t cs/\x=(if bC P t then .agg cs else cs.headD .undef)
theorem fS1 {D a:Nat} {t:TypeId} {V:Value} {x:DataW H×List MemPlace} (b:(∃cs,V=.agg cs)↔bC P t=true) (j:∀cs,V≠.tuple cs) (hp:cA P D t=true)
  (h:DataW.trod enc P W 0 (fun _=>true) true a t V.cells.toList=some x):∃y,ArgR P W D t y V:=by
 obtain⟨cs,h1,h2,f⟩:=xV D a t _ x.1 x.2 h hp
 by_cases d:bC P t=true
 .obtain ⟨Cs,rfl⟩:=b.2 d
  refine⟨.agg cs,.agg (by simpa[Value.cells]using h1.1) (fun i y hy=>f y ?_) (fun i x y k hy=>h1.2 i x y k (by simpa[Value.cells]using hy)),cs,h2,by rw[if_pos d]⟩
  simp only[Value.cells]
  exact List.mem_of_getElem? (by simpa using hy)
 .have g:∀Cs,V≠.agg Cs:=fun Cs e=>d (b.1 ⟨Cs,e⟩)
  have hc:V.cells=#[V]:=by cases V<;>simp_all[Value.cells]
  rw[hc]at h1
  have hl:=h1.1
  match cs,hl,h1,h2 with
  |[c],_,h1,h2=>exact⟨c,h1.head,[c],h2,by rw[if_neg d];rfl⟩
end
end Go.Sim
namespace Go.Sim
open Go.RowKit Go.ChangeShapes Go.WideShapes Go.ChangeAt
section
variable {H:Type} {enc:TypeId×Value->H} {P:Program} {W W':World}
theorem vZ {D:Nat} {t:TypeId} {base:Nat} {V:Value} (hp:cA P D t=true) (a:Value.okWide P W .any base t V):((∃cs,V=.agg cs)↔bC P t=true)/\∀cs,V≠.tuple cs:=by
 cases D with
 |zero=>simp[cA]at hp
 |succ D=>
 unfold cA at hp
 unfold Value.okWide at a
 unfold bC
 split at hp
 .rename_i b
  rw[b]at a ⊢
  simp only[Cell.okWide,b]at a
  cases V<;>simp_all[Cell.ok]
 .rename_i b
  rw[b]at a ⊢
  simp only[Cell.okWide,b]at a
  cases V<;>simp_all[Cell.ok]
 .rename_i b
  rw[b]at a ⊢
  simp only[Cell.okWide,b]at a
  cases V<;>simp_all[Cell.ok]
 .rename_i b
  rw[b]at a ⊢
  simp only[Cell.okWide,b]at a
  cases V<;>simp_all[Cell.ok]
 .rename_i b
  rw[b]at a ⊢
  obtain⟨cs,rfl,_⟩:=a
  exact⟨⟨fun _=>rfl,fun _=>⟨cs,rfl⟩⟩,fun cs h=>by cases h⟩
 .rename_i b
  rw[b]at a ⊢
  obtain⟨cs,rfl,_⟩:=a
  exact⟨⟨fun _=>rfl,fun _=>⟨cs,rfl⟩⟩,fun cs h=>by cases h⟩
 .cases hp
def mL (P:Program) (W:World) (D:Nat):List TypeId->List AV->List Value->Prop
 |[],[],[]=>True
 |t::ts,x::xs,V::Vs=>ArgR P W D t x V/\mL P W D ts xs Vs
 |_,_,_=>False
theorem xW {D base:Nat}:∀{e:List TypeId} {vs:List Value} {c:List (DataW H)} {ps:List MemPlace},(e.all fun t=>cA P D t)=true->
  (∀(j:Nat) t v,e[j]? =some t->vs[j]? =some v->Value.okWide P W .any base t v)->
  DataW.TrodAll enc P W 0 (fun _=>true) true e vs c ps->∃xs,mL P W D e xs vs
 |[],vs,c,ps,_,_,h=>by
  match vs,c,h with
  |[],[],h=>exact⟨[],trivial⟩
 |t::e,vs,c,ps,hp,hok,h=>by
  match vs,c,h with
  |v::vs,d::c,h=>
   obtain⟨p,q,⟨g,h1⟩,h2,rfl⟩:=h
   simp only[List.all_cons,Bool.and_eq_true]at hp
   obtain⟨k,l⟩:=vZ hp.1 (hok 0 t v rfl rfl)
   obtain⟨x,i⟩:=fS1 k l hp.1 h1
   obtain⟨xs,f⟩:=xW hp.2 (fun j t v a b=>hok (j+1) t v (by simpa using a) (by simpa using b)) h2
   exact⟨x::xs,i,f⟩
theorem mL.tr {D:Nat}:∀{a:List TypeId} {xs:List AV} {vs:List Value},mL P W D a xs vs->TR (gW W) xs vs
 |[],[],[],_=>.nil _
 |_::_,_::_,_::_,h=>.cons h.1.1 (mL.tr h.2)
theorem lJ {sp:Nat->Bool} {base:Nat} {held:Bool}:∀{b:List TypeId} {vs:List Value} {a:List (DataW H)} {ps:List MemPlace},DataW.TrodAll enc P W base sp held b vs a ps->a.length=b.length/\vs.length=b.length
 |[],vs,a,ps,h=>by
  match vs,a,h with
  |[],[],h=>exact⟨rfl,rfl⟩
 |t::b,vs,a,ps,h=>by
  match vs,a,h with
  |v::vs,d::a,⟨p,q,h1,h2,_⟩=>
   obtain⟨c,e⟩:=lJ h2
   exact⟨by simp[c],by simp[e]⟩
end
theorem qL {C:Checked} {f:FuncId} {fn:Func} {s:ChangeSpec} {d fresh g:Bool} {D:Nat} {tb:TypeId} {H:Type} {enc:TypeId×Value->H}
  (i:s.vars=[]) (m:∀k:List (DataW H),k.length=fn.params.toList.length->s.fn H k={results:=[.lit (.bool true)],args:=k})
  (r:fn.resultTypes=#[tb]) (F:C.prog.underlying tb=some .bool) (c:(fn.params.toList.all fun t=>cA C.prog D t)=true)
  (w:∀(W:World) (xs:List AV) (args:Array Value),mL C.prog W D fn.params.toList xs args.toList->Calls C.prog f args W fun e W'=>e=.returned (.bool true)/\Below W.heap.size W W')
  (W:World) (base:Nat) (args:Array Value) (k A:List (DataW H)) (before:List MemPlace)
  (u:∀(j:Nat) t v,fn.params[j]? =some t->args[j]? =some v->Value.okWide C.prog W .any base t v)
  (J:DataW.Whole enc C.prog fn.params.toList s.vars d W args.toList k A before):
  Calls C.prog f args W fun e W'=>∃v,e=.returned v/\s.post enc C.prog fn d fresh g false W args v W':=by
 have n:=J
 obtain⟨p,q,B,y,rfl,K,L⟩:=J
 have E:A=[]/\q=[]:=by
  rw[i]at y
  match A,y with
  |[],y=>exact⟨rfl,y⟩
 obtain⟨rfl,rfl⟩:=E
 obtain⟨xs,G⟩:=xW c (fun j t v a b=>u j t v (by simpa using a) (by simpa using b)) B
 refine(w W xs args G).mono fun e W' ⟨he,hb⟩=>?_
 subst he
 have l:=m k (lJ B).1
 have o:∀x∈p,(decide (x.block<W.heap.size))=true:=fun x z=>by
  have:=n.lt x (by simp[z])
  simpa using this
 refine⟨_,rfl,k,[],p++[],[],p,[],n,?_,?_,?_,World.keptBut_mono (fun x z=>⟨z,by simpa using z⟩) (hb.frame (· ∈p++[])),fun h=>by cases h⟩
 .rw [List.append_nil,l,r]
  exact trodAll_mk1 (shut_bool F _)
 .rw [List.append_nil,l]
  exact jY hb _ _ _ _ c B o
 .rw [List.append_nil,l,i]
  rfl
end Go.Sim
namespace Go.Sim
abbrev Memo:=FuncId->List AV->Option (Bool×AV)
section
variable (T:Tab) (M:Memo) (ex:Nat->Bool->IC->St->Option (Ex×St))
def qM (lim:Nat) (f:FuncId) (args:List AV) (s:Hp):Option (AV×Hp):=
 match T f with
 |none=>none
 |some fn=>
  if fn.pure then
   if args.all (closed 4)then
    match M f args with
    |some p=>some (p.2,s)
    |none=>match body ex 0 fn args {h:=[],n:=0}with
     |some (v,s')=>(fz (look s'.h) 0 v).map fun v=>(v,s)
     |none=>none
   else if fn.frz then
    match mapO (fzA (look s.h) 6) args with
    |some as=>match M f as with
     |some p=>if p.1 then some (p.2,s)else none
     |none=>match body ex 0 fn as {h:=[],n:=0}with
      |some (v,_)=>if gnd 4 v then some (v,s)else none
      |none=>none
    |none=>none
   else
    match body ex s.n fn args s with
    |some (v,s')=>(fz (look s'.h) s.n v).map fun v=>(v,s)
    |none=>none
  else body ex lim fn args s
def cL1 (lim:Nat) (f:AV) (args:List AV) (s:Hp):Option (AV×Hp):=
 match f with
 |.fn (.func g) first cap=>qM T M ex lim g (first++args++cap) s
 |.fn (.yield l) [] []=>Sim.round ex lim l args s
 |_=>none
def xX (lim:Nat) (k:OpK) (xs:List AV) (s:Hp):Option (AV×Hp):=
 match k with
 |.callF f=>qM T M ex lim f xs s
 |.callV=>match xs with
  |f::args=>cL1 T M ex lim f args s
  |[]=>none
 |k=>match doOp (look s.h) lim s.n k xs with
  |some o=>some (o.v,o.apply s)
  |none=>none
def lK (lim:Nat):List Sim.Op1->St->Option St
 |[],σ=>some σ
 |o::os,σ=>
  if wanted σ.t o.guard then
   match evs σ.t o.xs with
   |some xs=>match xX T M ex lim o.k xs σ.s with
    |some (v,s)=>lK lim os {t:=put σ.t o.dst v,s:=s}
    |none=>none
   |none=>none
  else lK lim os {t:=put σ.t o.dst .undef,s:=σ.s}
def gG (lim:Nat) (before:List Nat):List Sim.Op1->Nat->List Foot->St->Option (St×List Foot)
 |[],_,fs,σ=>some (σ,fs)
 |o::os,j,fs,σ=>
  if wanted σ.t o.guard then
   match evs σ.t o.xs with
   |some xs=>
    let ft:=foot T o.k xs
    if ft.all=1 then
     match xX T M ex lim o.k xs {h:=hide (unseen (before.getD j 0) j fs) σ.s.h,n:=σ.s.n+(os.length+1)}with
     |some (v,_)=>gG lim before os (j+1) (ft::fs) {t:=put σ.t o.dst v,s:=σ.s}
     |none=>none
    else
     match xX T M ex lim o.k xs σ.s with
     |some (v,s)=>gG lim before os (j+1) ({ft with al:=List.range' σ.s.n (s.n-σ.s.n)}::fs) {t:=put σ.t o.dst v,s:=s}
     |none=>none
   |none=>none
  else gG lim before os (j+1) ({}::fs) {t:=put σ.t o.dst .undef,s:=σ.s}
end
def dU (T:Tab) (M:Memo):Nat->Nat->Bool->IC->St->Option (Ex×St)
 |0,_,_,_,_=>none
 |d+1,lim,rd,c,σ=>
  match c with
  |.skip=>some (.normal,σ)
  |.reg ops=>(lK T M (dU T M d) lim ops σ).map fun σ=>(.normal,σ)
  |.regD ops before=>match gG T M (dU T M d) lim before ops 0 [] σ with
   |some (τ,fs)=>if drawOK before fs fs.length then some (.normal,τ)else none
   |none=>none
  |.seq a b=>match dU T M d lim rd a σ with
   |some (.normal,σ)=>dU T M d lim rd b σ
   |r=>r
  |.cond c a b=>match c.ev σ.t with
   |some (.v (.bool t))=>dU T M d lim rd (if t then a else b) σ
   |_=>none
  |.block id c=>match dU T M d lim rd c σ with
   |some (.exit i,σ)=>if i=id then some (.normal,σ)else some (.exit i,σ)
   |r=>r
  |.loop c=>match dU T M d lim rd c {t:=σ.t,s:={h:=.mark::σ.s.h,n:=σ.s.n}}with
   |some (.normal,σ)=>dU T M d lim rd (.loop c) {t:=σ.t,s:={h:=popMark σ.s.h,n:=σ.s.n}}
   |some (e,σ)=>some (e,{t:=σ.t,s:={h:=popMark σ.s.h,n:=σ.s.n}})
   |none=>none
  |.rangeF f params assign bd=>
   if rd then none else
   match f.ev σ.t with
   |some (.fn (.func g) first cap)=>
    match qM T M (dU T M d) lim g (first++[.fn (.yield σ.s.n) [] []]++cap) {h:=.ob σ.s.n (.loop .ready none σ.t params assign bd)::σ.s.h,n:=σ.s.n+1}with
    |some (_,s)=>match look s.h σ.s.n with
     |some (.loop st pend _ _ _ _)=>if st=.busy then none else
      match endRound σ.s.n s .exhausted pend with
      |none=>none
      |some s=>match pend with
       |none=>some (.normal,{t:=σ.t,s:=s})
       |some .ret=>some (.ret,{t:=σ.t,s:=s})
       |some (.exit id)=>some (.exit id,{t:=σ.t,s:=s})
       |_=>none
     |_=>none
    |none=>none
   |_=>none
  |.exit id=>some (.exit id,σ)
  |.ret=>some (.ret,σ)
section
variable {T:Tab} {M:Memo} {ex ex':Nat->Bool->IC->St->Option (Ex×St)}
def nD (T:Tab) (M:Memo) (ex:Nat->Bool->IC->St->Option (Ex×St)):Prop:=∀f args g v,M f args=some (g,v)->∃fn w s',T f=some fn/\fn.pure=true/\body ex 0 fn args {h:=[],n:=0}=some (w,s')/\fz (look s'.h) 0 w=some v/\(g=true->w=v/\gnd 4 w=true)
theorem jL (c:jJ ex ex') (j:nD T M ex') {lim:Nat} {f:FuncId} {args:List AV} {s:Hp} {r:AV×Hp} (h:qM T M ex lim f args s=some r):callF T ex' lim f args s=some r:=by
 unfold qM at h;unfold callF
 split at h
 .cases h
 .rename_i fn a
  (try simp only[a])
  split at h
  .rename_i hp
   rw[if_pos hp]
   split at h
   .rename_i hc
    rw[if_pos hc]
    split at h
    .rename_i p b
     obtain⟨g,v⟩:=p
     obtain⟨d,w,s',q1,q2,q3,q4,q5⟩:=j _ _ _ _ b
     rw[a]at q1
     cases q1
     simp only[q3,q4,Option.map_some]
     exact h
    .split at h
     .rename_i hb;rw[mono_body c hb];exact h
     .cases h
   .rename_i hc
    rw[if_neg hc]
    split at h
    .rename_i i
     rw[if_pos i]
     split at h
     .rename_i as e
      (try simp only[e])
      split at h
      .rename_i p b
       obtain⟨g,v⟩:=p
       obtain⟨d,w,s',q1,q2,q3,q4,q5⟩:=j _ _ _ _ b
       rw[a]at q1
       cases q1
       cases g with
       |false=>simp at h
       |true=>
        obtain⟨rfl,q6⟩:=q5 rfl
        simp only[q3,q6,if_true]
        simpa using h
      .split at h
       .rename_i hb;rw[mono_body c hb];exact h
       .cases h
     .cases h
    .rename_i i
     rw[if_neg i]
     split at h
     .rename_i hb;rw[mono_body c hb];exact h
     .cases h
  .rename_i hp
   rw[if_neg hp]
   exact mono_body c h
theorem lL (a:jJ ex ex') (b:nD T M ex') {lim:Nat} {k:OpK} {xs:List AV} {s:Hp} {r:AV×Hp} (h:xX T M ex lim k xs s=some r):step T ex' lim k xs s=some r:=by
 unfold xX at h;unfold step
 split at h
 .exact jL a b h
 .split at h
  .unfold cL1 at h;unfold callV
   split at h
   .exact jL a b h
   .exact nC a h
   .cases h
  .cases h
 .rename_i c d
  split
  .exact (c _ rfl).elim
  .exact (d rfl).elim
  .exact h
theorem hZ (c:jJ ex ex') (a:nD T M ex') {lim:Nat}:∀{os:List Sim.Op1} {σ τ:St},lK T M ex lim os σ=some τ->runOps T ex' lim os σ=some τ
 |[],σ,τ,h=>h
 |o::os,σ,τ,h=>by
  simp only[lK]at h;simp only[runOps]
  split at h
  .rename_i hw
   rw[if_pos hw]
   split at h
   .rename_i d
    (try simp only[d])
    split at h
    .rename_i b
     simp only[lL c a b]
     exact hZ c a h
    .cases h
   .cases h
  .rename_i hw
   rw[if_neg hw]
   exact hZ c a h
theorem dX (c:jJ ex ex') (b:nD T M ex') {lim:Nat} {before:List Nat}:∀{os:List Sim.Op1} {j:Nat} {fs:List Foot} {σ:St} {r:St×List Foot},gG T M ex lim before os j fs σ=some r->bH T ex' lim before os j fs σ=some r
 |[],j,fs,σ,r,h=>h
 |o::os,j,fs,σ,r,h=>by
  simp only[gG]at h;simp only[bH]
  split at h
  .rename_i hw
   rw[if_pos hw]
   split at h
   .rename_i e
    (try simp only[e])
    split at h
    .rename_i d
     rw[if_pos d]
     split at h
     .rename_i a
      simp only[lL c b a]
      exact dX c b h
     .cases h
    .rename_i d
     rw[if_neg d]
     split at h
     .rename_i a
      simp only[lL c b a]
      exact dX c b h
     .cases h
   .cases h
  .rename_i hw
   rw[if_neg hw]
   exact dX c b h
theorem qN (T:Tab) (M:Memo) {D:Nat} (m:∀d,D<=d->nD T M (exec T d)):∀d,jJ (dU T M d) (exec T (D+d))
 |0,lim,rd,c,σ,r,h=>by simp[dU]at h
 |d+1,lim,rd,c,σ,r,h=>by
  have ih:=qN T M m d
  have k:=m (D+d) (Nat.le_add_right _ _)
  rw[show D+(d+1)=(D+d)+1 from rfl]
  cases c with
  |skip=>simpa only[dU,exec]using h
  |reg ops=>
   simp only[dU,Option.map_eq_some_iff]at h
   obtain⟨τ,h,rfl⟩:=h
   rw[exec,hZ ih k h]
   rfl
  |regD ops before=>
   rw[dU]at h;rw[exec]
   split at h
   .rename_i hf
    rw[dX ih k hf]
    exact h
   .cases h
  |seq a b=>
   rw[dU]at h;rw[exec]
   split at h
   .rename_i i
    rw[ih _ _ _ _ _ i]
    exact ih _ _ _ _ _ h
   .rename_i g
    have h2:=ih _ _ _ _ _ h
    rw[h2]
    obtain⟨e,τ⟩:=r
    cases e with
    |normal=>exact absurd h (g τ)
    |ret=>rfl
    |exit id=>rfl
  |cond c a b=>
   rw[dU]at h;rw[exec]
   split at h
   .rename_i hc
    (try simp only[hc])
    exact ih _ _ _ _ _ h
   .cases h
  |block id c=>
   rw[dU]at h;rw[exec]
   split at h
   .rename_i i
    rw[ih _ _ _ _ _ i]
    exact h
   .rename_i g
    have h2:=ih _ _ _ _ _ h
    rw[h2]
    obtain⟨e,τ⟩:=r
    cases e with
    |normal=>rfl
    |ret=>rfl
    |exit id=>exact absurd h (g _ _)
  |loop c=>
   rw[dU]at h;rw[exec]
   split at h
   .rename_i i
    rw[ih _ _ _ _ _ i]
    exact ih _ _ _ _ _ h
   .rename_i e τ g i
    rw[ih _ _ _ _ _ i]
    cases e with
    |normal=>exact(g rfl).elim
    |ret=>exact h
    |exit id=>exact h
   .cases h
  |rangeF f ps a b=>
   rw[dU]at h;rw[exec]
   split at h
   .cases h
   .rename_i l
    rw[if_neg l]
    split at h
    .rename_i j
     (try simp only[j])
     split at h
     .rename_i hc
      simp only[jL ih k hc]
      exact h
     .cases h
    .cases h
  |exit id=>simpa only[dU,exec]using h
  |ret=>simpa only[dU,exec]using h
end
end Go.Sim
namespace Go.Sim
def dP1:Value->Value->Bool
 |.int k a,.int k' b=>decide (k=k')&&decide (a=b)
 |.bool a,.bool b=>a==b
 |.string a,.string b=>a.data.toList==b.data.toList
 |.pointer none,.pointer none=>true
 |.slice none 0 0,.slice none 0 0=>true
 |.map none,.map none=>true
 |.nilFunc,.nilFunc=>true
 |.nilIface,.nilIface=>true
 |_,_=>false
def lEq {A:Type} (f:A->A->Bool):List A->List A->Bool
 |[],[]=>true
 |a::as,b::bs=>f a b&&lEq f as bs
 |_,_=>false
def avEq:Nat->AV->AV->Bool
 |0,_,_=>false
 |d+1,x,y=>match x,y with
  |.v a,.v b=>dP1 a b
  |.es,.es=>true
  |.ip a,.ip b=>lEq (avEq d) a b
  |.agg a,.agg b=>lEq (avEq d) a b
  |.tup a,.tup b=>lEq (avEq d) a b
  |.is e a,.is e' b=>decide (e=e')&&lEq (lEq (avEq d)) a b
  |.im a,.im b=>lEq (fun p q=>avEq d p.1 q.1&&avEq d p.2 q.2) a b
  |.fn (.func f) a b,.fn (.func f') a' b'=>decide (f=f')&&lEq (avEq d) a a'&&lEq (avEq d) b b'
  |_,_=>false
theorem aR1 {x y:Value} (h:dP1 x y=true):x=y:=by
 unfold dP1 at h
 split at h
 .simp only[Bool.and_eq_true,decide_eq_true_eq]at h
  obtain⟨rfl,rfl⟩:=h;rfl
 .rw [eq_of_beq h]
 .rename_i a b
  have:=eq_of_beq h
  congr 1
  cases a;cases b
  simp only at this
  congr 1
  exact Array.toList_inj.1 this
 .rfl
 .rfl
 .rfl
 .rfl
 .rfl
 .cases h
theorem gS {A:Type} {f:A->A->Bool} (hf:∀a b,f a b=true->a=b):∀{l m:List A},lEq f l m=true->l=m
 |[],[],_=>rfl
 |a::as,b::bs,h=>by
  simp only[lEq,Bool.and_eq_true]at h
  rw[hf a b h.1,gS hf h.2]
 |[],_::_,h=>by cases h
 |_::_,[],h=>by cases h
theorem oK:∀(d:Nat) {x y:AV},avEq d x y=true->x=y
 |0,x,y,h=>by simp[avEq]at h
 |d+1,x,y,h=>by
  have ih:=fun x y h=>oK d (x:=x) (y:=y) h
  unfold avEq at h
  split at h
  .rw [aR1 h]
  .rfl
  .rw [gS ih h]
  .rw [gS ih h]
  .rw [gS ih h]
  .simp only[Bool.and_eq_true,decide_eq_true_eq]at h
   rw[h.1,gS (fun a b h=>gS ih h) h.2]
  . rw [gS (fun a b h=>by
    simp only[Bool.and_eq_true]at h
    exact Prod.ext (ih _ _ h.1) (ih _ _ h.2)) h]
  .simp only[Bool.and_eq_true,decide_eq_true_eq]at h
   rw[h.1.1,gS ih h.1.2,gS ih h.2]
  .cases h
structure Fact where
 f:FuncId
 args:List AV
 g:Bool
 v:AV
def memo:List Fact->Memo
 |[],_,_=>none
 |x::r,f,args=>if x.f=f then(if lEq (avEq 14) x.args args then some (x.g,x.v)else memo r f args)else memo r f args
def xY (T:Tab) (ex:Nat->Bool->IC->St->Option (Ex×St)) (x:Fact):Prop:=
 ∃fn w s',T x.f=some fn/\fn.pure=true/\body ex 0 fn x.args {h:=[],n:=0}=some (w,s')/\fz (look s'.h) 0 w=some x.v/\(x.g=true->w=x.v/\gnd 4 w=true)
def aS1 (T:Tab) (x:Fact):Prop:=∃D,∀d,D<=d->xY T (exec T d) x
def nE (T:Tab) (l:List Fact):Prop:=∃D,∀d,D<=d->∀x∈l,xY T (exec T d) x
theorem nE.nil {T:Tab}:nE T []:=⟨0,fun d hd x a=>by simp at a⟩
theorem nE.cons {T:Tab} {x:Fact} {l:List Fact} (h:aS1 T x) (k:nE T l):nE T (x::l):=by
 obtain⟨D,b⟩:=h
 obtain⟨D',a⟩:=k
 refine⟨D+D',fun d hd y hy=>?_⟩
 rcases List.mem_cons.1 hy with rfl|hy
 .exact b d (by omega)
 .exact a d (by omega) y hy
theorem sO {T:Tab} {ex:Nat->Bool->IC->St->Option (Ex×St)}:∀{l:List Fact},(∀x∈l,xY T ex x)->nD T (memo l) ex
 |[],_,f,args,g,v,h=>by simp[memo]at h
 |x::r,hl,f,args,g,v,h=>by
  simp only[memo]at h
  split at h
  .rename_i hf
   split at h
   .rename_i c
    cases h
    have:=gS (fun a b h=>oK 14 h) c
    subst this hf
    exact hl x (by simp)
   .exact sO (fun y hy=>hl y (by simp[hy])) f args g v h
  .exact sO (fun y hy=>hl y (by simp[hy])) f args g v h
def cM1 (T:Tab) (l:List Fact) (d:Nat) (x:Fact):Bool:=
 match T x.f with
 |some fn=>fn.pure&&match body (dU T (memo l) d) 0 fn x.args {h:=[],n:=0}with
  |some (w,s')=>(match fz (look s'.h) 0 w with
   |some v=>avEq 14 v x.v
   |none=>false)&&(!x.g||(avEq 14 w x.v&&gnd 4 w))
  |none=>false
 |none=>false
theorem good_of {T:Tab} {l:List Fact} {d:Nat} {x:Fact} (h:cM1 T l d x=true) (hl:nE T l):aS1 T x:=by
 obtain⟨D,b⟩:=hl
 have c:=qN T (memo l) (D:=D) (fun d hd=>sO (b d hd)) d
 unfold cM1 at h
 split at h
 .rename_i fn a
  simp only[Bool.and_eq_true]at h
  obtain⟨hp,h⟩:=h
  split at h
  .rename_i w s' hb
   simp only[Bool.and_eq_true,Bool.or_eq_true,Bool.not_eq_true']at h
   obtain⟨h1,h2⟩:=h
   split at h1
   .rename_i v hv
    have:=oK 14 h1
    subst this
    refine⟨D+d,fun e hd=>⟨fn,w,s',a,hp,mono_body (mono_le T hd) (mono_body c hb),hv,fun hg=>?_⟩⟩
    rcases h2 with h2|h2
    .rw [h2]at hg;cases hg
    .exact ⟨oK 14 h2.1,h2.2⟩
   .cases h1
  .cases h
 .cases h
end Go.Sim
