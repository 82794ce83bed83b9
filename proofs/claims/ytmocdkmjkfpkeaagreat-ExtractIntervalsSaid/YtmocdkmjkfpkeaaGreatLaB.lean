import Derived.Test.YtmocdkmjkfpkeaaGreatLaA
import Derived.ControlIn
import Derived.LoopNIn
import GoSem.ClaimChange
import Derived.Below
import Derived.DataReads
import Derived.ChangeSame
import Derived.ProofKit
import Derived.OpenShut
/- A text of the proof. -/
set_option linter.unusedVariables false
set_option linter.unusedSimpArgs false
namespace Go.Sim
section
variable {P:Program} {T:iG} {ex:Nat->Bool->IC->St->Option (Ex×St)} {lim n:Nat} {g:Gh} {w:World} {r:Option Nat}
theorem wI {fn:Func} {pure frz:Bool} {ifn:IFn} (h:kR P fn pure frz=some ifn):(∃c,fn.body=some c)/\(fn.name== "runtime.NumGoroutine")=false:=by
 unfold kR at h;split at h;cases h;rename_i c hb;split at h;split at h;rename_i hn;exact⟨⟨c,hb⟩,by simpa using hn⟩;cases h;cases h
theorem Qw {ρ:Operand->Value} {o:Oper} {e:Operand} {args:Array Operand} {d:Array TypeId} {f:FuncId} {F C:Array Value} {fn:Func} {c:Code} (h:o.op=.call {callee:=.value e,args:=args,argTypes:=d}) (g:ρ e=.func (.func f) F C)
  (hf:P.funcs[f]? =some fn) (hb:fn.body=some c) (b:(fn.name== "runtime.NumGoroutine")=false):(execOp ρ o).run P w=.ok (.enter f (F++args.map ρ++C)) w:=by
 have a:¬fn.name= "runtime.NumGoroutine":=by simpa using b
 simp[execOp,h,resolve,g,Deferred.ofValue,invoke,callFunc,hf,a,hb]
theorem Qx {ρ:Operand->Value} {o:Oper} {d:Operand} {args:Array Operand} {a:Array TypeId} {b:Nat} {R:Loop} (f:o.op=.call {callee:=.value d,args:=args,argTypes:=a}) (e:ρ d=.func (.yield b) #[] #[])
  (hb:w.heap[b]? =some (.loop R)) (c:R.params.size=args.size):(execOp ρ o).run P w=.ok (.round b R.fn ((R.params.zip (args.map ρ)).foldl (fun tmps (p:Tmp×Value)=>tmps.setIfInBounds p.1 p.2) R.tmps) R.assign R.body) w:=by
 simp[execOp,f,resolve,e,Deferred.ofValue,invoke,Instr.yield,kL hb,c]
theorem nN {o:Oper} {ρ:Operand->Value} (r:aB Nat) (h:∀c,o.op≠.defer c):Oper.semAt r ρ o=execOp ρ o:=by
 cases r with
 |none=>exact Oper.semAt_none ..
 |some l=>
  unfold Oper.semAt;cases ho:o.op<;>first|rfl|exact absurd ho (h _)
theorem sS {o:Op} {ty:TypeId} {k:eE} {os:aA Operand} (h:gV P o ty=some (k,os)):∀c,o≠.defer c:=by
 rintro c rfl;simp[gV]at h
theorem Ut {o:Oper} {k:eE} {os:aA Operand} {xs:aA AV} {out:Out} {s:Hp} {a:Act} (y:gV P o.op o.type=some (k,os)) (hd:doOp (look s.h) lim s.n k xs=some out) (C:TR g xs (os.map a.eval)) (d:kV P g w s)
  (hl:lim<=s.n) {next:Act->World->Prop} {Q:Exit->Act->World->Prop} (b:∀V g' w',VR g' out.v V->kV P g' w' (out.apply s)->oR lim g g' w w'->s.n<=(out.apply s).n->next (a.put o.dst V) w'):
  o.wpIn (FW r) n P a w next Q:=by
 have hn:g.ι s.n=none:=by
  cases h:g.ι s.n with
  |none=>rfl
  |some l=>have:=d.dom s.n (by rw[h];simp);omega
 obtain⟨V,nx,g',w',q,u,hv,A,B,x,j⟩:=rD a.eval o y C hd d.H d.W hn hl
 have f:kV P g' w' (out.apply s):=by
  have t:∀id ao,look (out.apply s).h id=some ao->out.after (look s.h) s.n id=some ao:=by
   intro id ao h;cases c:out.up with
   |none=>
    cases hw:out.new with
    |none=>simpa[Out.apply,Out.after,Out.base,c,hw]using h
    |some ob=>
     simp only[Out.apply,c,hw,look]at h;simp only[Out.after,Out.base,c,hw];split at h
     .rename_i e;subst e;simpa using h
     .rename_i e;rw[nS2 (fun e2=>e e2.symm)];exact h
   |some p=>
    obtain⟨i,ob'⟩:=p
    have h2:∀id ao,look (upd s.h i ob') id=some ao->(if id=i then some ob' else look s.h id)=some ao:=by
     intro id ao h;rw[look_upd]at h;split at h
     .rename_i hc;rw[nQ2 hc.1];exact h
     .rename_i hc
      split
      .rename_i e
       subst e;exfalso;apply hc;exact⟨rfl,by rw[h];rfl⟩
      .exact h
    cases hw:out.new with
    |none=>
     simp only[Out.apply,c,hw]at h;simpa only[Out.after,Out.base,c,hw]using h2 id ao h
    |some ob=>
     simp only[Out.apply,c,hw,look]at h;simp only[Out.after,Out.base,c,hw];split at h
     .rename_i e;subst e;simpa using h
     .rename_i e;rw[nS2 (fun e2=>e e2.symm)];exact h2 id ao h
  refine⟨fun id ao h=>A id ao (t id ao h),B,fun id h=>?_,?_⟩
  .rcases j id h with h1|⟨rfl,h2⟩
   .have:=d.dom id h1
    simp only[Out.apply];split
    .simp only;omega
    .exact this
   .simp only[Out.apply]
    split
    .simp
    .rename_i z;rw[z]at h2;cases h2
  .have c:Wf (match out.up with|some (id,ob)=>upd s.h id ob|none=>s.h) s.n:=by
    split
    .exact d.wf.upd _ _
    .exact d.wf
   simp only[Out.apply];split
   .exact ⟨by simp,c⟩
   .exact c
 have m:s.n<=(out.apply s).n:=by
  simp only[Out.apply];split
  .simp
  .exact nM2 _
 refine⟨fun _ _=>trivial,?_⟩;rw[nN _ (sS y),q];rcases u with rfl|⟨rfl,rfl⟩
 .exact b V g' w' hv f x m
 .exact b undef g' w' hv f x m
theorem mE {o:Op} {ty:TypeId} {os:aA Operand} {k:eE} (h:gV P o ty=some (k,os)) (hk:k=.callV\/∃f,k=.callF f):
  ∃c e,o=.call c/\c.callee=.value e/\((∃f,k=.callF f/\e=.func f/\os=c.args.toList)\/(k=.callV/\os=e::c.args.toList)):=by
 have d:∀b a ty,hY P b a ty≠some .callV/\∀f,hY P b a ty≠some (.callF f):=by
  intro b a ty;constructor
  .intro h
   unfold hY at h;split at h<;>(repeat' split at h)<;>cases h
  .intro f h
   unfold hY at h;split at h<;>(repeat' split at h)<;>cases h
 cases o
 case call c=>
  simp only[gV]at h;split at h
  .rename_i f hc
   cases h;exact⟨c,_,rfl,hc,.inl ⟨f,rfl,rfl,rfl⟩⟩
  .rename_i e _ hc
   cases h;exact⟨c,_,rfl,hc,.inr ⟨rfl,rfl⟩⟩
  .rename_i b hc
   simp only[nL2,oJ2]at h;obtain⟨k',h1,rfl,rfl⟩:=h;rcases hk with rfl|⟨f,rfl⟩
   .exact absurd h1 (d b _ _).1
   .exact absurd h1 ((d b _ _).2 f)
  .cases h
 all_goals (rcases hk with rfl|⟨f,rfl⟩<;>exfalso<;>simp only[gV]at h<;>(repeat' split at h)<;>simp_all)
theorem qE (p:gP P T) {o:Oper} {c:Call} {j:Operand} {f:FuncId} {first cap:Array Value} {a:Act} {ifn:IFn} (k:o.op=.call c) (hc:c.callee=.value j) (q:a.eval j=.func (.func f) first cap) (g:T f=some ifn)
  {R:Ending->World->Prop} (b:CallsIn (FW none) (n-1) P f (first++c.args.map a.eval++cap) w R) {next:Act->World->Prop} {Q:Exit->Act->World->Prop} (m:∀e w',R e w'->∃V,e=.returned V/\next (a.put o.dst V) w'):
  o.wpIn (FW r) n P a w next Q:=by
 obtain⟨fn,hf,i⟩:=p.fns f ifn g;obtain⟨⟨s,hb⟩,d⟩:=wI i;obtain⟨callee,args,l⟩:=c;simp only at hc;subst hc;refine⟨fun _ _=>trivial,?_⟩;rw[nN _ (fun c h=>by rw[k]at h;cases h),Qw k q hf hb d];refine⟨fun h=>(by cases h),CallsIn.mono (yP b) ?_⟩;intro e w' he;obtain⟨V,rfl,h⟩:=m e w' he;exact h
theorem Ec (u:mK P ex) (K:gP P T) {o:Oper} {k:eE} {os:aA Operand} {xs:aA AV} {v:AV} {s s':Hp} {a:Act} (L:(gV P o.op o.type).getD (.fail,[])=(k,os)) (h:step T ex lim k xs s=some (v,s'))
  (E:TR g xs (os.map a.eval)) (J:kV P g w s) (hl:lim<=s.n) {next:Act->World->Prop} {Q:Exit->Act->World->Prop}
  (m:∀V g' w',VR g' v V->kV P g' w' s'->oR lim g g' w w'->s.n<=s'.n->next (a.put o.dst V) w'):o.wpIn (FW r) n P a w next Q:=by
 cases hco:gV P o.op o.type with
 |none=>
  rw[hco]at L;cases L;simp only[step,uQ]at h;cases h
 |some p=>
  rw[hco]at L;cases L
  have plain:∀out,doOp (look s.h) lim s.n k xs=some out->(out.v,out.apply s)=(v,s')->o.wpIn (FW r) n P a w next Q:=by
   intro out hd he;cases he;exact Ut hco hd E J hl m
  unfold step at h;split at h
  .rename_i f
   obtain⟨c,N,h1,h2,O⟩:=mE hco (.inr ⟨f,rfl⟩);rcases O with⟨f',B,Z,S⟩|⟨B,_⟩
   .cases B
    subst Z
    have d:∃ifn,T f=some ifn:=by
     unfold callF at h;split at h
     .cases h
     .rename_i ifn hi;exact⟨ifn,hi⟩
    obtain⟨ifn,d⟩:=d;have j:TR g xs (#[]++c.args.map a.eval++#[]).toList:=by rw[S]at E;simpa using E
    exact qE K h1 h2 rfl d (sN u K h j J hl) (fun e w' he=>by
     obtain⟨V,g',rfl,z,G,H,A⟩:=he;exact⟨V,rfl,m V g' w' z G H A⟩)
   .cases B
  .obtain ⟨c,N,h1,h2,O⟩:=mE hco (.inl rfl)
   rcases O with⟨f',B,_⟩|⟨_,S⟩
   .cases B
   .subst S
    split at h
    .rename_i fa args
     have t:=E.head;have j:=E.tail;unfold callV at h;split at h
     .rename_i f first cap
      generalize hV:a.eval N=V at t;cases t with
      |@fn _ _ _ _ F C l1 l2 v1 v2=>
       have d:∃ifn,T f=some ifn:=by
        unfold callF at h;split at h
        .cases h
        .rename_i ifn hi;exact⟨ifn,hi⟩
       obtain⟨ifn,d⟩:=d;have hF:TR g first F.toList:=⟨by simpa using l1,fun i x y W hy=>v1 i x y W (by simpa using hy)⟩
       have hC:TR g cap C.toList:=⟨by simpa using l2,fun i x y W hy=>v2 i x y W (by simpa using hy)⟩
       have D:TR g (first++args++cap) (F++c.args.map a.eval++C).toList:=by
        have:=(hF.app j).app hC;simpa using this
       exact qE K h1 h2 hV d (sN u K h D J hl) (fun e w' he=>by
        obtain⟨V,g',rfl,z,G,H,A⟩:=he;exact⟨V,rfl,m V g' w' z G H A⟩)
     .rename_i l
      generalize hV:a.eval N=V at t;cases t with
      |@yield _ _ b loc hi hp=>
       have q:TR g args (c.args.map a.eval).toList:=by simpa using j
       obtain⟨loc',R,z,G,H,A,X⟩:=Us u h q J hl;rw[hi]at z;cases z;have U:=hp G;subst U;obtain⟨callee,M,Y⟩:=c;simp only at h2 A X;subst h2;refine⟨fun _ _=>trivial,?_⟩;rw[nN _ (fun c h=>by rw[h1]at h;cases h),Qx h1 hV H (by simpa using A)];refine⟨fun h=>(by cases h),RoundIn.mono (X r (n-1)) ?_⟩;rintro e w' ⟨V,g',rfl,q1,q2,q3,q4⟩;exact m V g' w' q1 q2 q3 q4
     .cases h
    .cases h
  .split at h
   .rename_i out hd
    cases h;exact plain out hd rfl
   .cases h
theorem hQ1 {a:Act} {t:aA AV} {i:Nat} {v:AV} (b:TR g t a.tmps.toList) (hv:t[i]? =some v):i<a.tmps.size:=by
 have h1:t.length=a.tmps.size:=by simpa using b.1
 have h2:=(nK2.1 hv).1;omega
theorem Ed {a:Act} {t:aA AV} {x:Operand} {j:IX} {v:AV} (e:TR g t a.tmps.toList) (b:Bf x=some j) (hv:j.ev t=some v):VR g v (a.eval x):=by
 cases x with
 |tmp i=>
  simp only[Bf,nP2]at b;subst b;simp only[IX.ev]at hv;have d:i<a.tmps.size:=hQ1 e hv;have:a.eval (.tmp i)=a.tmps[i]:=by simp[Act.eval,d]
  rw[this];exact e.2 i v _ hv (by simp[d])
 |const c=>
  simp only[Bf,nL2]at b;obtain⟨k,h1,rfl⟩:=b;simp only[IX.ev,nP2]at hv;subst hv;show VR g k c
  unfold AV.ofValue at h1;split at h1;rename_i cs;split at h1;rename_i hc;cases h1
  refine .agg (by simp) (fun i y hy=>kD (nN2.1 hc y (by
   rw[<-pM2]at hy;exact oF2.2 ⟨i,hy⟩))) (fun i x y b hy=>?_)
  rw[<-pM2]at hy;simp only[oW2,hy,oM2,nP2]at b;subst b;exact .v (nN2.1 hc y (oF2.2 ⟨i,hy⟩));cases h1;rename_i cs;split at h1;rename_i hc;cases h1
  have:cs=#[]:=by
   rw[List.isEmpty_iff]at hc;cases cs;simp_all
  subst this;exact .tup (by simp) (fun i x y b=>by simp at b);cases h1;split at h1;rename_i hc;cases h1;exact .v hc;cases h1
 |global g=>simp[Bf]at b
 |func f=>
  simp only[Bf,nP2]at b;subst b;simp only[IX.ev,nP2]at hv;subst hv;exact .fn (by simp) (by simp) (fun i x y h=>by simp at h) (fun i x y h=>by simp at h)
theorem oW {a:Act} {t:aA AV} (c:TR g t a.tmps.toList):∀{os:aA Operand} {b:aA IX} {xs:aA AV},Gn os=some b->evs t b=some xs->TR g xs (os.map a.eval)
 |[],b,xs,h,hx=>by
  simp only[Gn,mapO,nP2]at h
  subst h
  simp only[evs,nP2]at hx
  subst hx
  exact .nil g
 |o::os,b,xs,h,hx=>by
  simp only[Gn,mapO]at h
  split at h
  rename_i f bW h1 h2
  cases h
  simp only[evs]at hx
  split at hx
  rename_i v vs d e
  cases hx
  exact .cons (Ed c h1 d) (oW c h2 e)
  cases hx
  cases h
theorem Li {a:Act} {t:aA AV} (b:TR g t a.tmps.toList) {v:AV} {V:Value} (hv:VR g v V) (d:aB Nat):TR g (put t d v) (a.put d V).tmps.toList:=by
 cases d with
 |none=>exact b
 |some i=>simpa[put,Act.put]using b.set hv i
theorem mM {ops:aA Oper} {o:Oper} {io:Sim.Op1} (h:jF P ops o=some io):
    ∃os,(gV P o.op o.type).getD (.fail,[])=(io.k,os)/\Gn os=some io.xs/\io.dst=o.dst/\
      (match o.guard with
       |none=>io.guard=none
       |some (j,b)=>∃c d,ops[j]? =some c/\c.dst=some d/\io.guard=some (d,b)):=by
  unfold jF at h;generalize hc:(gV P o.op o.type).getD (.fail,[])=kx at h;obtain⟨k,xs⟩:=kx;simp only at h;split at h;cases h;rename_i f a;split at h;rename_i hg;cases h;exact⟨xs,rfl,a,rfl,by rw[hg]⟩;rename_i j b hg;split at h;rename_i c e;split at h;rename_i d hd;cases h;refine⟨xs,rfl,a,rfl,?_⟩;rw[hg];exact⟨c,d,e,hd,rfl⟩;cases h;cases h
def Ny:Value->aB Bool
 |.bool b=>some b
 |_=>none
def Uu:AV->aB Bool
 |.v x=>Ny x
 |_=>none
theorem VR.boolCell {x:AV} {X:Value} (h:VR g x X):Ny X=Uu x:=by
 cases h<;>rfl
theorem Ch {a:Act} {t:aA AV} (f:TR g t a.tmps.toList) {ops:Array Oper} {o:Oper} {io:Sim.Op1} (h:jF P ops.toList o=some io):Region.wanted o (yielded ops a.tmps)=Sim.wanted t io.guard:=by
 obtain⟨os,h1,h2,q,c⟩:=mM h;unfold Region.wanted;cases hg:o.guard with
 |none=>rw[hg]at c;simp only at c;rw[c];rfl
 |some p=>
  obtain⟨j,b⟩:=p;rw[hg]at c;obtain⟨n,d,k,l,m⟩:=c;rw[m];simp only[Sim.wanted,yielded];have:ops[j]? =some n:=by simpa using k
  rw[this];simp only[nT2,l];cases hx:t[d]? with
  |none=>
   have:a.tmps[d]? =none:=by
    have h1:t.length=a.tmps.size:=by simpa using f.1
    rw[List.getElem?_eq_none_iff]at hx;simp;omega
   rw[this];rfl
  |some x=>
   have e:d<a.tmps.size:=hQ1 f hx;have i:a.tmps[d]? =some a.tmps[d]:=by simp[e]
   have hv:=f.2 d x a.tmps[d] hx (by simp[e]);rw[i];have hb:=hv.boolCell;generalize a.tmps[d]=X at hb;revert hb;cases x with
   |v y=>cases X<;>cases y<;>simp[Uu,Ny]<;>(intro h;subst h;rfl)
   |_=>cases X<;>simp[Uu,Ny]
theorem uW (f:mK P ex) (u:gP P T) {ops:Array Oper} {base:Nat} {Q:Exit->Act->World->Prop}:
  ∀(bW:aA Oper) (ios:aA Sim.Op1) (k:Nat) (σ l:St) (g:Gh) (w:World) (a:Act),mapO (jF P ops.toList) bW=some ios->(∀j,bW[j]? =ops[k+j]?)->runOps T ex lim ios σ=some l->
   TR g σ.t a.tmps.toList->kV P g w σ.s->lim<=σ.s.n->gG base g w a.defers->
   (∀g' a' w',wG P base lim g w σ.s l.t l.s g' a' w'->Q .normal a' w')->wpOpsIn (FW r) n P ops Q (List.range' k bW.length) a w
 |[],ios,k,σ,l,g,w,a,hc,hops,h,ht,hI,hl,hm,hQ=>by
  simp only[mapO,nP2]at hc
  subst hc
  simp only[runOps,nP2]at h
  subst h
  exact hQ g a w ⟨ht,hI,.refl lim g w,nM2 _,hm⟩
 |o::bW,ios,k,σ,l,g,w,a,hc,hops,h,ht,hI,hl,hm,hQ=>by
  simp only[mapO]at hc
  split at hc
  rename_i io e hio d
  cases hc
  have h0:ops[k]? =some o:=by simpa using(hops 0).symm
  have c:∀j,bW[j]? =ops[(k+1)+j]? :=fun j=>by have:=hops (j+1);simpa[pC2,pV2 1 j]using this
  simp only[oS2,List.range'_succ,wpOpsIn,h0]
  rw[Ch ht hio]
  obtain⟨os,c1,c2,c3,c4⟩:=mM hio
  simp only[runOps]at h
  split at h
  rename_i hw
  rw[nQ2 hw]
  split at h
  rename_i xs y
  split at h
  rename_i v s x
  refine Ec f u c1 x (oW ht c2 y) hI hl (fun V g' w' C D z B=>?_)
  have b:=Li (ht.mono z.le) C io.dst
  rw[c3]at b
  have i:gG base g' w' (a.put o.dst V).defers:=by
   have:(a.put o.dst V).defers=a.defers:=by cases o.dst<;>rfl
   rw[this];exact hm.ext z
  refine uW f u bW e (k+1) _ l g' w' (a.put o.dst V) d c h (by rw[c3];exact b) D (oL2 hl B) i (fun q p A m=>?_);exact hQ q p A ⟨m.t,m.inv,z.trans m.ext,oL2 B m.n,m.marks⟩;cases h;cases h;rename_i hw;rw[nS2 hw];refine⟨fun _ _=>trivial,?_⟩;have b:=Li ht (.undef g) io.dst;rw[c3]at b
  have i:gG base g w (a.put o.dst undef).defers:=by
   have:(a.put o.dst undef).defers=a.defers:=by cases o.dst<;>rfl
   rw[this];exact hm
  exact uW f u bW e (k+1) _ l g w (a.put o.dst undef) d c h (by rw[c3];exact b) hI hl i hQ;cases hc
end
end Go.Sim
namespace Go.Sim
structure iA (s s':Hp):Prop where
 wf:Wf s.h s.n->Wf s'.h s'.n
 n:s.n<=s'.n
theorem iA.refl (s:Hp):iA s s:=⟨id,nM2 _⟩
theorem iA.trans {a b c:Hp} (h:iA a b) (k:iA b c):iA a c:=⟨fun w=>k.wf (h.wf w),oL2 h.n k.n⟩
theorem Hl (out:Out) (s:Hp):iA s (out.apply s):=by
 constructor;intro hw
 have a:Wf (match out.up with|some (id,ob)=>upd s.h id ob|none=>s.h) s.n:=by
  split;exact hw.upd _ _;exact hw
 simp only[Out.apply];split;exact⟨by simp,a⟩;exact a;simp only[Out.apply];split;simp;exact nM2 _
theorem Ci (s:Hp) (id:Nat) (o:AO):iA s {h:=upd s.h id o,n:=s.n}:=⟨fun h=>h.upd _ _,nM2 _⟩
section
variable {T:iG} {ex:Nat->Bool->IC->St->Option (Ex×St)}
def nO (ex:Nat->Bool->IC->St->aB (Ex×St)):Prop:=∀lim rd c σ e a,ex lim rd c σ=some (e,a)->iA σ.s a.s
theorem Lj (b:nO ex) {lim:Nat} {fn:IFn} {args:aA AV} {s s':Hp} {v:AV} (h:body ex lim fn args s=some (v,s')):iA s s':=by
 unfold body at h;split at h;cases h;rename_i e σ a he;simp only[nL2,oJ2]at h;obtain⟨v',_,_,rfl⟩:=h;exact b _ _ _ _ _ _ he;cases h
theorem oX (a:nO ex) {lim:Nat} {f:FuncId} {args:aA AV} {s s':Hp} {v:AV} (h:callF T ex lim f args s=some (v,s')):iA s s':=by
 unfold callF at h;split at h;cases h;split at h;split at h;simp only[nL2,oJ2]at h;obtain⟨_,_,_,rfl⟩:=h;exact .refl _;split at h;split at h;split at h;split at h;cases h;exact .refl _;cases h;cases h;cases h;split at h;simp only[nL2,oJ2]at h;obtain⟨_,_,_,rfl⟩:=h;exact .refl _;cases h;exact Lj a h
theorem oY {l:Nat} {s s':Hp} {st:LoopState} {pend:aB IC} (h:endRound l s st pend=some s'):iA s s':=by
 obtain⟨_,_,_,_,_,_,_,rfl⟩:=mL h;exact Ci _ _ _
theorem Hm (d:nO ex) {lim l:Nat} {args:aA AV} {s s':Hp} {v:AV} (h:round ex lim l args s=some (v,s')):iA s s':=by
 unfold Sim.round at h;split at h;split at h;split at h;rename_i σ f;have h1:=d _ _ _ _ _ _ f;split at h
 have fin:∀{e:Ex} {τ:St} {id:Nat} {o:AO} {lim:Nat} {rd:Bool} {c:IC} {st:LoopState} {pend:aB IC} {b:AV},ex lim rd c {t:=σ.t,s:={h:=upd σ.s.h id o,n:=σ.s.n}}=some (e,τ)->
   (endRound l τ.s st pend).map (fun s=>(b,s))=some (v,s')->iA s s':=by
  intro e τ id o lim rd c st pend b hb a;simp only[nL2,oJ2]at a;obtain⟨g,a,_,rfl⟩:=a;exact((h1.trans (Ci _ id o)).trans (d _ _ _ _ _ _ hb)).trans (oY a)
 split at h;rename_i τ hb;exact fin hb h;rename_i τ hb;exact fin hb h;rename_i id τ hb;exact fin hb h;cases h;cases h;cases h;cases h;cases h
theorem lL (a:nO ex) {lim:Nat} {k:eE} {xs:aA AV} {s s':Hp} {v:AV} (h:step T ex lim k xs s=some (v,s')):iA s s':=by
 unfold step at h;split at h;exact oX a h;split at h;unfold callV at h;split at h;exact oX a h;exact Hm a h;cases h;cases h;split at h;cases h;exact Hl _ _;cases h
theorem nP (c:nO ex) {lim:Nat}:∀{os:aA Sim.Op1} {σ a:St},runOps T ex lim os σ=some a->iA σ.s a.s
 |[],σ,a,h=>by
  simp only[runOps,nP2]at h
  subst h
  exact .refl _
 |o::os,σ,a,h=>by
  simp only[runOps]at h
  split at h
  split at h
  split at h
  rename_i b
  exact(lL c b).trans (nP c h)
  cases h
  cases h
  have:=nP c h
  exact this
theorem wJ {c:Bool} {run:Hp->aB (AV×Hp)} (hr:∀s v s',run s=some (v,s')->iA s s') {hid:aA Nat} {xs:aA AV} {s b:Hp} {v:AV} {W:aA Nat} (h:callX c run hid xs s=some (v,b,W)):iA s b:=by
 obtain⟨a,s',w,_,h1,h2,rfl,_⟩:=nM h;have hg:=hr _ _ _ h1;exact⟨fun hw=>Wf.newOK (hw.updAll w) (hg.wf (hw.hide a)) hg.n,hg.n⟩
theorem iS (c:nO ex) {lim:Nat} {before:aA Nat}:∀{os:aA Sim.Op1} {j:Nat} {fs:aA Foot} {σ d:St} {a:aA Foot},dB T ex lim before os j fs σ=some (d,a)->iA σ.s d.s
 |[],j,fs,σ,d,a,h=>by
  simp only[dB,nP2,oJ2]at h
  obtain⟨rfl,_⟩:=h
  exact .refl _
 |o::os,j,fs,σ,d,a,h=>by
  simp only[dB]at h
  split at h
  split at h
  split at h
  split at h
  have:=iS c h
  exact this
  cases h
  split at h
  split at h
  rename_i b
  exact(wJ (fun _ _ _=>lL c) b).trans (iS c h)
  cases h
  split at h
  rename_i b
  exact(lL c b).trans (iS c h)
  cases h
  cases h
  have:=iS c h
  exact this
theorem Cj {σ:Hp}:iA σ {h:=popMark σ.h,n:=σ.n}:=⟨fun h=>h.pop,nM2 _⟩
theorem yY {σ:Hp}:iA σ {h:=.mark::σ.h,n:=σ.n}:=⟨fun h=>h,nM2 _⟩
theorem yZ (T:iG):∀d,nO (exec T d)
 |0,_,_,_,_,_,_,h=>by simp[exec]at h
 |d+1,lim,rd,c,σ,e,σ',h=>by
  have ih:=yZ T d
  unfold exec at h
  split at h
  cases h;exact .refl _
  simp only[nL2,oJ2]at h
  obtain⟨τ,h,_,rfl⟩:=h
  exact nP ih h
  split at h
  rename_i hf
  split at h
  cases h
  exact iS ih hf
  cases h
  cases h
  split at h
  rename_i a
  exact(ih _ _ _ _ _ _ a).trans (ih _ _ _ _ _ _ h)
  exact ih _ _ _ _ _ _ h
  split at h
  exact ih _ _ _ _ _ _ h
  cases h
  split at h
  rename_i a
  split at h
  cases h;exact ih _ _ _ _ _ _ a
  cases h;exact ih _ _ _ _ _ _ a
  exact ih _ _ _ _ _ _ h
  split at h
  rename_i a
  exact((yY.trans (ih _ _ _ _ _ _ a)).trans Cj).trans (ih _ _ _ _ _ _ h)
  rename_i a
  cases h
  exact(yY.trans (ih _ _ _ _ _ _ a)).trans Cj
  cases h
  split at h
  split at h
  rename_i hc
  have h1:=oX ih hc
  have h2:∀o:AO,iA σ.s {h:=.ob σ.s.n o::σ.s.h,n:=σ.s.n+1}:=fun o=>⟨fun h=>⟨by simp,h⟩,by simp⟩
  have f:=(h2 _).trans h1
  split at h
  split at h
  cases h
  split at h
  cases h
  rename_i b
  have g:=f.trans (oY b)
  split at h<;>cases h<;>exact g
  cases h
  cases h
  cases h
  cases h;exact .refl _
  cases h;exact .refl _
end
end Go.Sim
namespace Go.Sim
section
variable {P:Program} {F:Fence} {n:Nat} {b:Frame} {a:Act} {k:List Item} {cs:List Frame} {w:World} {Q:Exit->Act->World->Prop}
theorem jC {c:Code}:Go.step P (lone (b.atR a (.code (.scope c)::k)) cs w)=.next (lone (b.atR a (.code c::.inScope c::k)) cs w):=
 step_lone_go (by simp[stepG,stepG.exec,Frame.atR])
theorem Bk {c:Code}:Go.step P (lone (b.atR a (.inScope c::k)) cs w)=.next (lone (b.atR a k) cs w):=
 step_lone_go (by simp[stepG,stepG.exec,Frame.atR])
theorem Lk {c:Code} (hg:∀l a w,¬Q (.goto l) a w) (h:c.wpIn F n P Q a w):(Code.scope c).wpIn F n P Q a w:=by
 intro b k cs j hb hr;have h0:(lone (b.atR a (.code (.scope c)::k)) cs w).fenced P F:=fenced_calm hb hr rfl;obtain⟨e,g,w₁,f,d⟩:=h b (.inScope c::k) cs j hb hr;cases e with
 |normal=>exact⟨.normal,g,w₁,f,.head h0 jC (StepsIn.trans d (.one (fenced_calm hb hr rfl) Bk))⟩
 |exit id=>
  have m:exitTo id (.inScope c::k)=exitTo id k:=by simp[exitTo]
  exact⟨.exit id,g,w₁,f,fun k' hk=>.head h0 jC (d.1 k' (by rw[m];exact hk)),
   fun i hk=>let⟨o,h1,h2⟩:=d.2 i (by rw[m];exact hk);⟨o,h1,.head h0 jC h2⟩⟩
 |goto l=>exact(hg _ _ _ f).elim
 |ret=>exact⟨_,g,w₁,f,.of_steps (.one h0 jC) d⟩
 |panic ch=>exact⟨_,g,w₁,f,.of_steps (.one h0 jC) d⟩
 |outgrown=>exact⟨_,g,w₁,f,.of_steps (.one h0 jC) d⟩
end
end Go.Sim
namespace Go.Sim
section
variable {T:iG} {L L':Nat->Option AO} {lim n n':Nat} {k:eE} {xs:List AV} {out:Out}
theorem jH {esz:Nat} {x:AV} {r:aA (aA AV)} (h:rowsOf L esz x=some r) (a:∀id ao,id∈idOf x->L id=some ao->L' id=some ao):rowsOf L' esz x=some r:=by
 unfold rowsOf at h;split at h;simpa only[rowsOf]using h;simpa only[rowsOf]using h;simpa only[rowsOf]using h;simpa only[rowsOf]using h;split at h;rename_i hl;simp only[rowsOf,a _ _ (by simp[idOf]) hl];exact h;cases h;cases h
theorem Ee {x:AV} {r:aA (AV×AV)} (h:entsOf L x=some r) (a:∀id ao,id∈idOf x->L id=some ao->L' id=some ao):entsOf L' x=some r:=by
 unfold entsOf at h;split at h;exact h;split at h;rename_i hl;simp only[entsOf,a _ _ (by simp[idOf]) hl];exact h;cases h;exact h;cases h
theorem zA {ty:TypeId} {esz:Nat} {s:AV} {new:aA (aA AV)} {o:Out} (h:appendTo L lim n ty esz s new=some o) (a:∀id ao,id∈idOf s->L id=some ao->L' id=some ao):appendTo L' lim n ty esz s new=some o:=by
 unfold appendTo at h;split at h;simpa only[appendTo]using h;simpa only[appendTo]using h;simpa only[appendTo]using h;split at h;rename_i hl;simp only[appendTo,a _ _ (by simp[idOf]) hl];exact h;cases h;cases h
theorem Bl {esz:Nat} {lo hi mx:Bool} {x:AV} {g:aA AV} {v:AV} (h:sliceOp L esz lo hi mx (x::g)=some v) (k:∀id ao,id∈idOf x->L id=some ao->L' id=some ao):sliceOp L' esz lo hi mx (x::g)=some v:=by
 have key:∀(L:Nat->aB AO),(∀a b c d e f,x≠.sl a b c d e f)->sliceOp L esz lo hi mx (x::g)=sliceOp L' esz lo hi mx (x::g):=by
  intro L i;cases x<;>first|rfl|exact absurd rfl (i _ _ _ _ _ _)|(rename_i y;cases y<;>first|rfl|(rename_i a b c;cases a<;>cases b<;>cases c<;>rfl))
 by_cases i:∃a b c d e f,x=.sl a b c d e f;obtain⟨z,id,ver,off,len,cap,rfl⟩:=i;cases hl:L id with
 |none=>
  exfalso;simp only[sliceOp,hl]at h;split at h<;>cases h
 |some ao=>
  have j:=k id ao (by simp[idOf]) hl;simp only[sliceOp,hl]at h;simp only[sliceOp,j];exact h
 rw[<-key L (fun a b c d e f e'=>i ⟨a,b,c,d,e,f,e'⟩)];exact h
theorem Qy {ty:TypeId} {esz b:Nat} {zero:aA Value} {zeros:Bool} {s x:AV} (h:doOp L lim n (.append ty esz b zero zeros) [s,x]=some out) (e:∀id ao,id∈idOf x->L id=some ao->L' id=some ao) (hs:∀id ao,id∈idOf s->L id=some ao->L' id=some ao):
  doOp L' lim n (.append ty esz b zero zeros) [s,x]=some out:=by
 simp only[doOp]at h ⊢;split at h;rename_i new a
 have c:appRows L' esz zeros zero x=some new:=by
  cases zeros;simp only[appRows,nV2,oQ2]at a ⊢;exact jH a e;simp only[appRows,oK2]at a ⊢;exact a
 split at h;rename_i o d;simp only[c,zA d hs];exact h;cases h;cases h
theorem Ll (h:doOp L lim n k xs=some out) (a:∀id ao,id∈(foot T k xs).rd\/id∈(foot T k xs).wr->L id=some ao->L' id=some ao):doOp L' lim n k xs=some out:=by
 unfold doOp at h;split at h
 all_goals first|(simp only[doOp];exact h)|skip
 ·
  split at h
  .simpa only[doOp]using h
  .split at h
   .rename_i hl
    simp only[doOp,a _ _ (.inl (by simp[foot,idOf])) hl];exact h
   .cases h
  .cases h
 ·
  split at h
  .simpa only[doOp]using h
  .split at h
   .rename_i hl
    simp only[doOp,a _ _ (.inl (by simp[foot,idOf])) hl];exact h
   .cases h
  .cases h
 ·
  split at h
  .rename_i hc
   split at h
   .rename_i hl
    simp only[doOp,hc,a _ _ (.inr (by simp[foot,idOf])) hl];exact h
   .cases h
  .cases h
 ·
  split at h
  .rename_i hr
   simp only[doOp,jH hr (fun id ao hid=>a id ao (.inl hid))];exact h
  .cases h
 ·
  rename_i x;simp only[nL2]at h;obtain⟨v,hv,rfl⟩:=h;cases xs with
  |nil=>simp[sliceOp]at hv
  |cons x bs=>simp only[doOp,Bl hv (fun id ao hid=>a id ao (.inl hid)),oM2]
 ·
  split at h
  .rename_i b
   split at h
   .rename_i es he
    simp only[doOp,b,oK2,Ee he (fun id ao hid=>a id ao (.inl hid))];exact h
   .cases h
  .cases h
 ·
  split at h
  .split at h
   .rename_i hl
    simp only[doOp,a _ _ (.inr (by simp[foot,idOf])) hl];exact h
   .cases h
  .cases h
 ·
  split at h
  all_goals first|(simp only[doOp];exact h)|skip
  .split at h
   .rename_i hl
    simp only[doOp,a _ _ (.inl (by simp[foot,idOf])) hl];exact h
   .cases h
 .exact Qy h (fun id ao hid=>a id ao (.inl hid)) (fun id ao hid=>a id ao (.inr hid))
 ·
  split at h
  .rename_i rows hr
   split at h
   .simp only[doOp,jH hr (fun id ao hid=>a id ao (.inl hid))]
    exact h
   .simp only[doOp,jH hr (fun id ao hid=>a id ao (.inl hid))]
    exact h
   .split at h
    .rename_i hl
     simp only[doOp,jH hr (fun id ao hid=>a id ao (.inl hid)),a _ _ (.inr (by simp[foot,idOf])) hl];exact h
    .cases h
   .cases h
  .cases h
 ·
  split at h
  .simpa only[doOp]using h
  .simpa only[doOp]using h
  .split at h
   .rename_i hl
    simp only[doOp,a _ _ (.inr (by simp[foot,idOf])) hl];exact h
   .cases h
  .cases h
theorem Hn {ty:TypeId} {esz:Nat} {s:AV} {new:aA (aA AV)} {o:Out} {id:Nat} {ao:AO} (h:appendTo L lim n ty esz s new=some o) (a:o.up=some (id,ao)):id∈idOf s/\(L id).isSome=true:=by
 unfold appendTo at h;split at h
 .split at h<;>cases h<;>cases a
 .split at h<;>cases h<;>cases a
 .split at h<;>cases h
  cases a
 .split at h
  .rename_i hl
   repeat' split at h
   all_goals cases h
   all_goals cases a
   all_goals exact⟨by simp[idOf],by rw[hl];rfl⟩
  .cases h
 .cases h
theorem Lm {ty:TypeId} {esz:Nat} {s:AV} {new:aA (aA AV)} {o:Out} (h:appendTo L lim n ty esz s new=some o) (a:o.new=none):appendTo L lim n' ty esz s new=some o:=by
 unfold appendTo at h;split at h;split at h;rename_i hc;cases h;simp only[appendTo,hc,oK2];cases h;cases a;split at h;rename_i hc;cases h;simp only[appendTo,hc,oK2];cases h;cases a;simpa only[appendTo]using h;split at h;rename_i hl;simp only[appendTo,hl];split at h;rename_i hc;rw[nQ2 hc];split at h;rename_i h1;rw[nQ2 h1];exact h;rename_i h1;rw[nS2 h1];split at h;exact h;cases h;cases h;cases h;cases h
theorem Nz {ty:TypeId} {esz b:Nat} {zero:aA Value} {zeros:Bool} {s x:AV} (h:doOp L lim n (.append ty esz b zero zeros) [s,x]=some out):
  ∃new,appRows L esz zeros zero x=some new/\appendTo L lim n ty esz s new=some out/\∀n',appendTo L lim n' ty esz s new=some out->doOp L lim n' (.append ty esz b zero zeros) [s,x]=some out:=by
 simp only[doOp]at h;split at h;rename_i new a;split at h;rename_i o c
 have:o=out:=by
  split at h;split at h;cases h;rfl;cases h;cases h;rfl
 subst this;refine⟨new,a,c,fun n' h'=>?_⟩;simp only[doOp,a,h'];exact h;cases h;cases h
theorem sT {id:Nat} {ao:AO} (h:doOp L lim n k xs=some out) (c:out.up=some (id,ao)):id∈(foot T k xs).wr/\(L id).isSome=true:=by
 have a:∀ty esz b zero zeros s x,k=.append ty esz b zero zeros->xs=[s,x]->id∈(foot T k xs).wr/\(L id).isSome=true:=by
  rintro ty esz b zero zeros s x rfl rfl;obtain⟨new,h1,h2,_⟩:=Nz h;exact Hn h2 c
 unfold doOp at h;split at h
 all_goals first|exact a _ _ _ _ _ _ _ rfl rfl|skip
 all_goals clear a
 all_goals (repeat' split at h)
 all_goals first
  |(cases h;done)
  |(simp only[nL2]at h;obtain⟨_,_,rfl⟩:=h;cases c;done)
  |(cases h;cases c;done)
  |(have hl:= ‹L _=some _›;cases h;cases c;exact⟨by simp[foot,idOf],by rw[hl];rfl⟩)
theorem jV1 (h:doOp L lim n k xs=some out) (c:out.new=none):doOp L lim n' k xs=some out:=by
 have a:∀ty esz b zero zeros s x,k=.append ty esz b zero zeros->xs=[s,x]->doOp L lim n' k xs=some out:=by
  rintro ty esz b zero zeros s x rfl rfl;obtain⟨new,h1,h2,d⟩:=Nz h;exact d n' (Lm h2 c)
 unfold doOp at h;split at h
 all_goals first|exact a _ _ _ _ _ _ _ rfl rfl|skip
 all_goals clear a
 all_goals first|(simp only[doOp];exact h)|skip
 all_goals (repeat' split at h)
 all_goals first
  |(cases h;done)
  |(simp only[nL2]at h;obtain⟨_,_,rfl⟩:=h;cases c;done)
  |(cases h;cases c;done)
end
end Go.Sim
namespace Go.Sim
theorem rH {a:aA Nat} {i:Nat}:∀{es:aA Edge},(mH a es).testBit i=true->∃e∈es,Region.binds .any e=true/\(i=e.on\/(a.getD e.on 0).testBit i=true)
 |[],h=>by simp[mH]at h
 |e::es,h=>by
  simp only[mH]at h
  split at h
  rename_i hb
  simp only[Nat.testBit_or,oE2]at h
  rcases h with(h|h)|h
  rw[Nat.testBit_two_pow]at h
  exact⟨e,by simp,hb,.inl (by simp at h;exact h.symm)⟩
  exact⟨e,by simp,hb,.inr h⟩
  obtain⟨e',h1,h2⟩:=rH h
  exact⟨e',by simp[h1],h2⟩
  obtain⟨e',h1,h2⟩:=rH h
  exact⟨e',by simp[h1],h2⟩
theorem oZ:∀(os:aA Oper) (a:aA Nat),∃tail,cC a os=a++tail/\tail.length=os.length/\
  ∀k o,os[k]? =some o->(cC a os).getD (a.length+k) 0=mH ((cC a os).take (a.length+k)) o.after.toList
 |[],a=>⟨[],by simp[cC],rfl,fun k o h=>by simp at h⟩
 |o::os,a=>by
  obtain⟨tail,h1,h2,b⟩:=oZ os (a++[mH a o.after.toList])
  refine⟨mH a o.after.toList::tail,by simp[cC,h1],by simp[h2],fun k o' hk=>?_⟩
  cases k with
  |zero=>
   simp only[pH2,nP2]at hk
   subst hk
   simp only[cC,h1,pO2]
   simp
  |succ k=>
   have:=b k o' (by simpa using hk)
   have e:(a++[mH a o.after.toList]).length+k=a.length+(k+1):=by simp;omega
   rw[e]at this
   exact this
theorem pA {ops:aA Oper} (a:∀j o,ops[j]? =some o->∀e∈o.after.toList,Region.binds .any e=true->e.on<j) {D:Nat->Prop}
  (q:∀i oi,D i->ops[i]? =some oi->∀e∈oi.after.toList,Region.binds .any e=true->D e.on):∀(j:Nat) (o:Oper),ops[j]? =some o->(∀e∈o.after.toList,Region.binds .any e=true->D e.on)->
   ∀i,((cC [] ops).getD j 0).testBit i=true->D i:=by
 intro j
 induction j using Nat.strongRecOn with
 |_ j ih=>
  intro o k he i hi;obtain⟨tail,h1,h2,m⟩:=oZ ops [];have l:=m j o k;simp only[nZ2,pE2]at l;rw[l]at hi;obtain⟨e,g,h,d⟩:=rH hi;rcases d with rfl|d;exact he e g h;have b:=a j o k e g h;have r:j<ops.length:=(nK2.1 k).1
  have n:((cC [] ops).take j).getD e.on 0=(cC [] ops).getD e.on 0:=by
   simp only[List.getD_eq_getElem?_getD,oD2,b,oK2]
  rw[n]at d;have c:ops[e.on]? =some ops[e.on]:=by simp
  exact ih e.on b _ c (fun e' p f=>q e.on _ (he e g h) c e' p f) i d
theorem wK {j:Nat} {o:Sim.Op1} {a:Nat}:∀{ps:aA Sim.Op1} {b:Nat},Dr j o a ps b=true->∀k p,ps[k]? =some p->b+k<j->
  a.testBit (b+k)=true\/((∀d,p.dst=some d->o.dst≠some d/\d∉o.reads)/\∀d,o.dst=some d->d∉p.reads)
 |[],b,h,k,p,hk,_=>by simp at hk
 |q::ps,b,h,k,p,hk,hlt=>by
  simp only[Dr,nJ2,oE2,nR2]at h
  obtain⟨h1,h2⟩:=h
  cases k with
  |zero=>
   simp only[pH2,nP2]at hk
   subst hk
   rw[pO2]at hlt ⊢
   rcases h1 with(h1|h1)|h1
   omega
   exact .inl h1
   refine .inr ⟨fun d hd=>?_,fun d hd=>?_⟩
   have:=h1.1
   rw[hd]at this
   simpa using this
   have:=h1.2
   rw[hd]at this
   simpa using this
  |succ k=>
   have:=wK h2 k p (by simpa using hk) (by omega)
   have e:b+1+k=b+(k+1):=by omega
   rwa [e]at this
def fC (ft:Nat->Foot):Nat->aA Foot
 |0=>[]
 |j+1=>ft j::fC ft j
theorem lM {ft ft':Nat->Foot}:∀{j:Nat},(∀i,i<j->ft i=ft' i)->fC ft j=fC ft' j
 |0,_=>rfl
 |j+1,h=>by rw[fC,fC,h j (by omega),lM (fun i hi=>h i (by omega))]
theorem Ho {ft:Nat->Foot} {i:Nat}:∀{j:Nat},i<j->ft i∈fC ft j
 |0,h=>by omega
 |j+1,h=>by
  rw[fC]
  by_cases e:i=j
  subst e;simp
  exact oR2 _ (Ho (by omega))
theorem revF_length (ft:Nat->Foot):∀j,(fC ft j).length=j
 |0=>rfl
 |j+1=>by simp[fC,revF_length ft j]
section
variable (T:iG) (ex:Nat->Bool->IC->St->Option (Ex×St))
def Th (lim a m j:Nat) (o:Sim.Op1) (ft:Nat->Foot) (st:Nat->St) (v:Nat->AV):Prop:=
  (st (j+1)).t=put (st j).t o.dst (v j)/\
  ((wanted (st j).t o.guard=false/\v j=.undef/\ft j={}/\(st (j+1)).s=(st j).s)\/
   (wanted (st j).t o.guard=true/\∃xs,evs (st j).t o.xs=some xs/\(foot T o.k xs).all=1/\ft j=foot T o.k xs/\(st (j+1)).s=(st j).s/\
     ∃b,step T ex lim o.k xs {h:=hide (unseen a j (fC ft j)) (st j).s.h,n:=(st j).s.n+rsv (m-j)}=some (v j,b))\/
   (wanted (st j).t o.guard=true/\∃xs,evs (st j).t o.xs=some xs/\((foot T o.k xs).all≠1/\(foot T o.k xs).all≠3)/\ft j={foot T o.k xs with al:=List.range' (st j).s.n ((st (j+1)).s.n-(st j).s.n)}/\
     step T ex lim o.k xs (st j).s=some (v j,(st (j+1)).s))\/
   (wanted (st j).t o.guard=true/\∃xs W,evs (st j).t o.xs=some xs/\(foot T o.k xs).all=3/\ft j={wr:=W,al:=List.range' (st j).s.n ((st (j+1)).s.n-(st j).s.n),all:=1,x:=true}/\
     callX (nbF (fC ft j)) (step T ex lim o.k xs) (unseen a j (fC ft j)) xs (st j).s=some (v j,(st (j+1)).s,W)))
variable {T ex}
theorem Th.congr {lim a m j:Nat} {o:Sim.Op1} {ft ft':Nat->Foot} {st st':Nat->St} {v v':Nat->AV} (h:Th T ex lim a m j o ft st v) (hf:∀i,i<=j->ft' i=ft i) (h1:st' j=st j) (h2:st' (j+1)=st (j+1)) (b:v' j=v j):
  Th T ex lim a m j o ft' st' v':=by
 unfold Th at *;rw[h1,h2,b,hf j (nM2 _),lM (ft:=ft') (ft':=ft) (j:=j) (fun i hi=>hf i (by omega))];exact h
theorem Hq {lim:Nat} {before:aA Nat}:∀(os:aA Sim.Op1) (j:Nat) (σ:St) (a:Nat->Foot) (n:St) (b:aA Foot),dB T ex lim before os j (fC a j) σ=some (n,b)->
  ∃(st:Nat->St) (ft:Nat->Foot) (v:Nat->AV),(∀i,i<j->ft i=a i)/\st j=σ/\st (j+os.length)=n/\b=fC ft (j+os.length)/\
   ∀k o,os[k]? =some o->Th T ex lim (before.getD (j+k) 0) (j+os.length) (j+k) o ft st v
 |[],j,σ,a,n,b,h=>by
  simp only[dB,nP2,oJ2]at h
  obtain⟨rfl,rfl⟩:=h
  exact⟨fun _=>σ,a,fun _=>.undef,fun _ _=>rfl,rfl,rfl,rfl,fun k o h=>by simp at h⟩
 |o::os,j,σ,a,n,b,h=>by
  have bW:∀(s:St) (f:Foot) (x:AV),dB T ex lim before os (j+1) (f::fC a j) s=some (n,b)->
    (∀(st:Nat->St) (ft:Nat->Foot) (v:Nat->AV),st j=σ->st (j+1)=s->ft j=f->(∀i,i<j->ft i=a i)->v j=x->Th T ex lim (before.getD j 0) (j+(os.length+1)) j o ft st v)->
    ∃(st:Nat->St) (ft:Nat->Foot) (v:Nat->AV),(∀i,i<j->ft i=a i)/\st j=σ/\st (j+(o::os).length)=n/\b=fC ft (j+(o::os).length)/\
     ∀k o',(o::os)[k]? =some o'->Th T ex lim (before.getD (j+k) 0) (j+(o::os).length) (j+k) o' ft st v:=by
   intro s f x hr hs;let l:Nat->Foot:=fun i=>if i=j then f else a i
   have r:f::fC a j=fC l (j+1):=by
    have h1:l j=f:=nQ2 rfl;rw[fC,h1,lM (ft:=l) (ft':=a) (fun i hi=>nS2 (by omega))]
   rw[r]at hr;obtain⟨st,ft,v,h1,h2,w,y,z⟩:=Hq os (j+1) s l n b hr;have p:∀i,i<j->ft i=a i:=fun i hi=>(h1 i (by omega)).trans (nS2 (by omega));have q:ft j=f:=(h1 j (by omega)).trans (nQ2 rfl);have hlen:j+(o::os).length=j+1+os.length:=by simp;omega
   refine⟨fun i=>if i=j then σ else st i,ft,fun i=>if i=j then x else v i,p,nQ2 rfl,?_,?_,?_⟩;rw[hlen];exact(nS2 (by omega)).trans w;rw[hlen];exact y;intro k o' hk;cases k with
   |zero=>
    simp only[pH2,nP2]at hk;subst hk;exact hs _ ft _ (nQ2 rfl) ((nS2 (by omega)).trans h2) q p (nQ2 rfl)
   |succ k=>
    have u:=z k o' (by simpa using hk);have e:j+1+k=j+(k+1):=by omega
    rw[e,<-hlen]at u;exact u.congr (fun _ _=>rfl) (nS2 (by omega)) (nS2 (by omega)) (nS2 (by omega))
  simp only[dB]at h;split at h;rename_i hw;split at h;rename_i xs m;split at h;rename_i d;split at h;rename_i v t g;refine bW _ _ v h (fun st ft v' a1 a2 a3 a4 a5=>?_);unfold Th;rw[a1,a2,a5,a3,lM a4];refine⟨rfl,.inr (.inl ⟨hw,xs,m,d,rfl,rfl,t,?_⟩)⟩;have e:j+(os.length+1)-j=os.length+1:=by omega
  rw[e];exact g;cases h;rename_i d;split at h;rename_i c;split at h;rename_i v t W g;refine bW _ _ v h (fun st ft v' a1 a2 a3 a4 a5=>?_);unfold Th;rw[a1,a2,a5,a3,lM a4];exact⟨rfl,.inr (.inr (.inr ⟨hw,xs,W,m,c,rfl,g⟩))⟩;cases h;rename_i c;split at h;rename_i v t g;refine bW _ _ v h (fun st ft v' a1 a2 a3 a4 a5=>?_);unfold Th;rw[a1,a2,a5,a3];exact⟨rfl,.inr (.inr (.inl ⟨hw,xs,m,⟨d,c⟩,rfl,g⟩))⟩;cases h;cases h;rename_i hw;refine bW _ _ .undef h (fun st ft v' a1 a2 a3 a4 a5=>?_);unfold Th;rw[a1,a2,a5,a3];exact⟨rfl,.inl ⟨by simpa using hw,rfl,rfl,rfl⟩⟩
theorem pB {a:Nat} {f:Foot} {ft:Nat->Foot}:∀{j:Nat},drawOK.okAgainst a f (fC ft j) j=true->∀i,i<j->a.testBit i=true\/compat (ft i) f=true
 |0,_,i,hi=>by omega
 |j+1,h,i,hi=>by
  simp only[fC,drawOK.okAgainst,qP2,nJ2,oE2]at h
  by_cases e:i=j
  subst e;exact h.1
  exact pB h.2 i (by omega)
theorem wL {before:aA Nat} {ft:Nat->Foot}:∀{m:Nat},drawOK before (fC ft m) m=true->∀j,j<m->∀i,i<j->(before.getD j 0).testBit i=true\/compat (ft i) (ft j)=true
 |0,_,j,hj=>by omega
 |m+1,h,j,hj=>by
  simp only[fC,drawOK,qP2,nJ2]at h
  intro i hi
  by_cases e:j=m
  subst e;exact pB h.1 i hi
  exact wL h.2 j (by omega) i hi
end
end Go.Sim
namespace Go.Sim
section
variable {P:Program} {T:iG} {lim n:Nat} {g:Gh} {w:World} {r:Option Nat}
def Ln (P:Program) (T:iG) (ex:Nat->Bool->IC->St->aB (Ex×St)):Prop:=
 ∀(lim:Nat) (ops:Array Oper) (ios:aA Sim.Op1) (σ b:St) (fs:aA Foot) (id:Nat),mapO (jF P ops.toList) ops.toList=some ios->Tn ops.toList ios (cC [] ops.toList)=true->
  dB T ex lim (cC [] ops.toList) ios 0 [] σ=some (b,fs)->drawOK (cC [] ops.toList) fs fs.length=true->
  ∀(r:aB Nat) (g:Gh) (a:Act) (w:World) (n base:Nat),TR g σ.t a.tmps.toList->kV P g w σ.s->lim<=σ.s.n->base<=w.heap.size->gG base g w a.defers->
   (Code.region id ops true).wpIn (FW r) n P (yQ P base lim g w σ.s .normal b) a w
theorem wG.trans {base:Nat} {s s' c:Hp} {t e:aA AV} {g' b:Gh} {a' a:Act} {w' d:World} (h:wG P base lim g w s t s' g' a' w') (k:wG P base lim g' w' s' e c b a d):
  wG P base lim g w s e c b a d:=⟨k.t,k.inv,h.ext.trans k.ext,oL2 h.n k.n,k.marks⟩
theorem kV.pop {s:Hp} (h:kV P g w s):kV P g w {h:=popMark s.h,n:=s.n}:=
 ⟨fun id ao a=>h.H id ao (Hi h.wf a),h.W,h.dom,h.wf.pop⟩
theorem kV.mark {s:Hp} (h:kV P g w s):kV P g w {h:=.mark::s.h,n:=s.n}:=⟨h.H,h.W,h.dom,h.wf⟩
theorem Ck {base:Nat} {s s':Hp} {t:aA AV} {g':Gh} {e:Ex} {d:St} {e':Exit} {a' a:Act} {w' b:World} (f:wG P base lim g w s t s' g' a' w') (h:yQ P base lim g' w' s' e d e' a b):yQ P base lim g w s e d e' a b:=by
 obtain⟨h1,c,h2⟩:=h;exact⟨h1,c,f.trans h2⟩
theorem aL {D:Nat} (c:∀d,d<D->mK P (exec T d)) {x:Code} {f:IC} (l:comp P x=some f) {rd:Bool} {r:aB Nat} (hr:rd=r.isSome) {e:Ex} {m:St}:
  ∀(d:Nat),d<=D->∀(σ:St) (g:Gh) (a:Act) (w:World) (n base:Nat) (Q:Exit->Act->World->Prop),exec T d lim rd (.loop f) σ=some (e,m)->mB r w->TR g σ.t a.tmps.toList->kV P g w σ.s->lim<=σ.s.n->base<=w.heap.size->gG base g w a.defers->
   (∀e' a' w',yQ P base lim g w σ.s e m e' a' w'->Q e' a' w')->Code.roundsIn (FW r) n P x Q d a w
 |0,_,σ,g,a,w,n,base,Q,h,_,_,_,_,_,_,_=>by simp[exec]at h
 |d+1,hd,σ,g,a,w,n,base,Q,h,hra,ht,hI,hl,hb,hm,hQ=>by
  simp only[exec]at h
  rw[roundsIn_succ]
  split at h
  rename_i τ j
  refine wpIn_mono (c d (by omega) lim rd f _ .normal τ j x l r hr g a w n base hra ht hI.mark hl hb hm) ?_
  rintro o a1 w1 ⟨rfl,i,b⟩
  refine aL c l hr d (by omega) _ i a1 w1 n base Q h (hra.ext b.ext) b.t b.inv.pop (oL2 hl b.n) (oL2 hb b.ext.size) b.marks ?_
  intro e2 a2 w2 h2
  exact hQ _ _ _ (Ck (s':={h:=popMark τ.s.h,n:=τ.s.n}) ⟨b.t,b.inv.pop,b.ext,b.n,b.marks⟩ h2)
  rename_i p τ k j
  cases h
  refine wpIn_mono (c d (by omega) lim rd f _ e τ j x l r hr g a w n base hra ht hI.mark hl hb hm) ?_
  rintro o a1 w1 ⟨rfl,i,b⟩
  cases e with
  |normal=>exact(k rfl).elim
  |ret=>exact hQ _ _ _ ⟨rfl,i,b.t,b.inv.pop,b.ext,b.n,b.marks⟩
  |exit id=>exact hQ _ _ _ ⟨rfl,i,b.t,b.inv.pop,b.ext,b.n,b.marks⟩
  cases h
theorem kV.other {s:Hp} (a:kV P g w s) (o:Obj):kV P g (w.alloc o) s/\oR lim g g w (w.alloc o):=by
 have c:∀b o',g.G b=some o'->b<w.heap.size:=fun b o' h=>(oH2.1 (a.W.still b o' h)).1
 refine⟨⟨fun id ao d=>(a.H id ao d).mono (.refl g) rfl (fun loc hl=>cO w o (a.W.lt id loc hl)),⟨fun b o' h=>?_,fun id loc h=>?_,a.W.out,a.W.inj⟩,a.dom,a.wf⟩,
  ⟨.refl g,by simp,fun b hb _=>cO w o hb,fun id loc h=>.inl ⟨loc,h,rfl⟩,fun _ _=>rfl,rfl,rfl,rfl,fun _ _ h=>.inl h,fun b R h=>⟨R,(cO w o (oH2.1 h).1).trans h⟩⟩⟩
 rw[cO w o (c b o' h)];exact a.W.still b o' h;have:=a.W.lt id loc h;simp;omega
theorem gG.fresh {base:Nat}:∀{a:aA Deferred},gG base g w a->∀d∈a,d.target≠.collected w.heap.size
 |[],_,d,hd=>by simp at hd
 |d0::a,⟨⟨r,h1,h2,h3,_,_,_⟩,h7⟩,d,hd=>by
  rcases nW2.1 hd with rfl|hd
  intro e
  rw[h1]at e
  cases e
  have:=(oH2.1 h3).1
  omega
  exact gG.fresh h7 d hd
theorem Hr {b:Nat} {R:Loop} (hb:w.heap[b]? =some (.loop R)) (hr:R.state≠.busy):(Instr.endLoop b).run P w=.ok R.pending {w with heap:=w.heap.setIfInBounds b (.loop {R with state:=.exhausted})}:=by
 simp[Instr.endLoop,kL hb,oV hb,hr]
def jW1:aB IC->aB Ex
 |none=>some .normal
 |some .ret=>some .ret
 |some (.exit id)=>some (.exit id)
 |_=>none
theorem zB {ex:Nat->Bool->IC->St->aB (Ex×St)} (b8:mK P ex) (hT:gP P T) {f:Operand} {of:IX} {ps:Array Tmp} {x y:Code} {cx cy:IC} (hf:Bf f=some of) (Z:comp P x=some cx) (hy:comp P y=some cy)
  {σ:St} {K:FuncId} {first cap:aA AV} (b7:of.ev σ.t=some (.fn (.func K) first cap)) {v:AV} {s:Hp}
  (c:callF T ex lim K (first++[.fn (.yield σ.s.n) [] []]++cap) {h:=.ob σ.s.n (.loop .ready none σ.t ps.toList cx cy)::σ.s.h,n:=σ.s.n+1}=some (v,s))
  {st:LoopState} {pend:aB IC} {tm:aA AV} {pm:aA Nat} {as bd:IC} (hL:look s.h σ.s.n=some (.loop st pend tm pm as bd)) (d3:st≠.busy) {s':Hp} (U:endRound σ.s.n s .exhausted pend=some s')
  {e:Ex} (he:jW1 pend=some e)
  {a:Act} {base:Nat} (ht:TR g σ.t a.tmps.toList) (hI:kV P g w σ.s) (hl:lim<=σ.s.n) {w1:World} {mark:aA Deferred} {D:Nat} (z:kV P g w1 σ.s) (u:oR lim g g w w1) (Y:gG base g w1 (mark++a.defers))
  (m:∀d,(Instr.enterLoop d a.tmps ps x y (FW r).round).run P w=.ok (w1.heap.size,mark) (w1.alloc (.loop {state:=.ready,pending:=none,fn:=d,tmps:=a.tmps,params:=ps,assign:=x,body:=y,defers:=D}))):
  (Code.rangeFunc f ps x y).wpIn (FW r) n P (yQ P base lim g w σ.s e {t:=σ.t,s:=s'}) a w:=by
 refine wpIn_rangeFunc (fun d _=>?_);have X:=Ed ht hf b7;generalize hV:a.eval f=V at X;cases X with
 |@fn _ _ _ _ F C l1 l2 v1 v2=>
  have k:∃ifn,T K=some ifn:=by
   unfold callF at c;split at c;cases c;rename_i ifn hi;exact⟨ifn,hi⟩
  obtain⟨ifn,k⟩:=k;obtain⟨fn,b9,b6⟩:=hT.fns K ifn k;obtain⟨⟨cd,B⟩,J⟩:=wI b6;have o:¬fn.name= "runtime.NumGoroutine":=by simpa using J
  let R:Loop:={state:=.ready,pending:=none,fn:=d,tmps:=a.tmps,params:=ps,assign:=x,body:=y,defers:=D}
  let w2:=w1.alloc (.loop R)
  have hn:g.ι σ.s.n=none:=by
   cases h:g.ι σ.s.n with
   |none=>rfl
   |some l=>have:=hI.dom σ.s.n (by rw[h];simp);omega
  let loc:Bg:={b:=w1.heap.size,esz:=1,ct:=1,ver:=0}
  obtain⟨j,b5⟩:=Ns (lim:=lim) z.W (.loop R) σ.s.n loc rfl hn hl;let g2:Gh:={G:=g.G,ι:=fun id=>if id=σ.s.n then some loc else g.ι id}
  have E:g2.ι σ.s.n=some loc:=nQ2 rfl
  have b0:kV P g2 w2 {h:=.ob σ.s.n (.loop .ready none σ.t ps.toList cx cy)::σ.s.h,n:=σ.s.n+1}:=by
   refine⟨fun id ao ha=>?_,b5,fun id h=>?_,⟨by simp,hI.wf⟩⟩;simp only[look]at ha;split at ha;rename_i e;subst e;cases ha;refine⟨loc,R,E,rfl,?_,rfl,rfl,ht.mono (u.le.trans j.le),by simp[R],Z,hy⟩;show w2.heap[w1.heap.size]? =_
   exact heap_alloc_new w1 _;rename_i e;refine(z.H id ao ha).mono j.le ?_ (fun l hl=>cO w1 _ (z.W.lt id l hl));show(if id=σ.s.n then some loc else g.ι id)=g.ι id
   rw[nS2 (fun h=>e h.symm)];show id<σ.s.n+1
   by_cases e:id=σ.s.n;omega
   have h:g.ι id≠none:=by
    have:g2.ι id=g.ι id:=nS2 e
    rwa [this]at h
   have:=hI.dom id h;omega
  have hF:TR g first F.toList:=⟨by simpa using l1,fun i x y Z hy=>v1 i x y Z (by simpa using hy)⟩
  have hC:TR g cap C.toList:=⟨by simpa using l2,fun i x y Z hy=>v2 i x y Z (by simpa using hy)⟩
  have q:g.le g2:=u.le.trans j.le
  have A:TR g2 (first++[.fn (.yield σ.s.n) [] []]++cap) (F++#[Value.func (.yield w1.heap.size) #[] #[]]++C).toList:=by
   have:=((hF.mono q).app (.cons (VR.yield (l:=σ.s.n) (b:=w1.heap.size) E (fun _=>rfl)) (.nil g2))).app (hC.mono q);simpa using this
  have d2:gG base g2 w2 (mark++a.defers):=Y.ext j;refine⟨w1.heap.size,mark,w2,{target:=.fn (.func K) C,args:=F++#[Value.func (.yield w1.heap.size) #[] #[]]},w2,K,F++#[Value.func (.yield w1.heap.size) #[] #[]]++C,w2,m d,?_,fun _ _=>trivial,?_,fun h=>(by cases h),?_⟩;have S:a.eval (.const (.func (.yield w1.heap.size) #[] #[]))=.func (.yield w1.heap.size) #[] #[]:=rfl;simp[resolve,rangeCall,hV,Deferred.ofValue,S];simp[invoke,callFunc,b9,o,B];refine CallsIn.mono (yP (sN b8 hT c A b0 (by show lim<=σ.s.n+1;omega))) ?_;rintro e' w' ⟨V',M,rfl,k1,k2,k3,k4⟩;obtain⟨a0,R3,m1,m2,m3,m4,m5,m6,m7,m8,m9⟩:=oU k2 hL
  have d0:a0=loc:=by
   obtain⟨loc',q1,q2,q3⟩:=k3.le.ι σ.s.n loc E;rw[m1]at q1;cases q1;exact q3 m2.symm
  subst d0;obtain⟨_,_,_,_,_,_,O,rfl⟩:=mL U;rw[hL]at O;cases O;obtain⟨b4,N⟩:=yW (lim:=lim) (st':=.exhausted) (pend':=pend) (R':={R3 with state:=.exhausted}) k2 hL hl m1 m3 rfl m5 rfl rfl rfl rfl;refine⟨_,_,Hr m3 (by rw[m4];exact d3),?_⟩;have p:oR lim g M w {w' with heap:=w'.heap.setIfInBounds loc.b (.loop {R3 with state:=.exhausted})}:=((u.trans j).trans k3).trans N
  have L:wG P base lim g w σ.s σ.t {h:=upd s.h σ.s.n (.loop .exhausted pend tm pm as bd),n:=s.n} M {a with defers:=mark++a.defers} {w' with heap:=w'.heap.setIfInBounds loc.b (.loop {R3 with state:=.exhausted})}:=
   ⟨ht.mono p.le,b4,p,by have:σ.s.n+1<=s.n:=k4;show σ.s.n<=s.n;omega,(d2.ext k3).ext N⟩
  unfold jW1 at he;split at he;cases he;have:R3.pending=none:=m5;rw[this]at L ⊢;exact⟨rfl,M,L⟩;cases he;have:R3.pending=some .ret:=m5;rw[this]at L ⊢;exact wpIn_ret ⟨rfl,M,L⟩;cases he;have:R3.pending=some (.exit _):=m5;rw[this]at L ⊢;exact wpIn_exit ⟨rfl,M,L⟩;cases he
theorem zC {ex:Nat->Bool->IC->St->aB (Ex×St)} (m:mK P ex) (K:gP P T) {f:Operand} {of:IX} {ps:Array Tmp} {x y:Code} {E F:IC} (hf:Bf f=some of) (M:comp P x=some E) (hy:comp P y=some F)
  {σ:St} {H:FuncId} {first cap:aA AV} (k:of.ev σ.t=some (.fn (.func H) first cap)) {v:AV} {s:Hp}
  (c:callF T ex lim H (first++[.fn (.yield σ.s.n) [] []]++cap) {h:=.ob σ.s.n (.loop .ready none σ.t ps.toList E F)::σ.s.h,n:=σ.s.n+1}=some (v,s))
  {st:LoopState} {pend:aB IC} {R:aA AV} {O:aA Nat} {as N:IC} (J:look s.h σ.s.n=some (.loop st pend R O as N)) (p:st≠.busy) {s':Hp} (d:endRound σ.s.n s .exhausted pend=some s')
  {e:Ex} (he:jW1 pend=some e)
  {a:Act} {base:Nat} (C:mB r w) (L:TR g σ.t a.tmps.toList) (i:kV P g w σ.s) (hl:lim<=σ.s.n) (hb:base<=w.heap.size) (A:gG base g w a.defers):
  (Code.rangeFunc f ps x y).wpIn (FW r) n P (yQ P base lim g w σ.s e {t:=σ.t,s:=s'}) a w:=by
 cases r with
 |none=>
  obtain⟨u,j⟩:=i.other (lim:=lim) (.deferred (some []))
  have B:gG base g (w.alloc (.deferred (some []))) ([{target:=.collected w.heap.size,args:=#[]}]++a.defers):=by
   refine⟨⟨w.heap.size,rfl,hb,heap_alloc_new w _,fun id l h=>?_,?_,A.fresh⟩,A.ext j⟩;have:=i.W.lt id l h;omega;cases hG:g.G w.heap.size with
   |none=>rfl
   |some o=>
    have:=(oH2.1 (i.W.still _ o hG)).1;omega
  refine zB (D:=w.heap.size) m K hf M hy k c J p d he L i hl u j B (fun q=>?_);simp only[FW,Instr.enterLoop];simp[newObj,Sem.run]
 |some b=>
  obtain⟨R0,z⟩:=C b rfl;refine zB (w1:=w) (mark:=[]) (D:=R0.defers) m K hf M hy k c J p d he L i hl i (.refl lim g w) A (fun q=>?_);simp only[FW,Instr.enterLoop];simp[kL z,newObj];simp[Sem.run]
theorem Hs (K:gP P T) (Y:∀d,mK P (exec T d)->Ln P T (exec T d)):∀D d,d<D->mK P (exec T d)
 |0,d,h=>by omega
 |D+1,d,hdD=>by
  have z:=Hs K Y D
  by_cases W:d<D
  exact z d W
  have V:d=D:=by omega
  subst V
  cases d with
  |zero=>exact fun lim rd c σ e F h=>by simp[exec]at h
  |succ d=>
  have ih:=z d (by omega)
  intro lim rd c σ e F h code hc r hr g a w n base b j m hl hb o
  cases code with
  |skip=>
   simp only[comp,nP2]at hc
   subst hc
   simp only[exec,nP2,oJ2]at h
   obtain⟨rfl,rfl⟩:=h
   exact wpIn_skip ⟨rfl,g,j,m,.refl lim g w,nM2 _,o⟩
  |region id ops dr=>
   simp only[comp]at hc
   split at hc
   cases hc
   rename_i ios G
   split at hc
   rename_i A
   split at hc
   rename_i O
   cases hc
   subst A
   simp only[exec]at h
   split at h
   rename_i τ fs hf
   split at h
   rename_i M
   cases h
   exact Y d ih lim ops ios σ F fs id G O hf M r g a w n base j m hl hb o
   cases h
   cases h
   cases hc
   rename_i A
   cases hc
   have A:dr=false:=by simpa using A
   subst A
   simp only[exec,nL2,oJ2]at h
   obtain⟨τ,h,rfl,rfl⟩:=h
   refine wpIn_region ?_
   rw[List.range_eq_range',<-rE2]
   exact uW ih K ops.toList ios 0 σ τ g w a G (by simp) h j m hl o (fun g' a' w' k=>⟨rfl,g',k⟩)
  |seq x y=>
   simp only[comp]at hc
   split at hc
   rename_i u R p hy
   cases hc
   simp only[exec]at h
   refine wpIn_seq ?_
   split at h
   rename_i τ L
   refine wpIn_mono (ih lim rd u σ .normal τ L x p r hr g a w n base b j m hl hb o) ?_
   rintro S a1 w1 ⟨rfl,E,k⟩
   refine wpIn_mono (ih lim rd R τ e F h y hy r hr E a1 w1 n base (b.ext k.ext) k.t k.inv (oL2 hl k.n) (oL2 hb k.ext.size) k.marks) ?_
   intro e2 a2 w2 h2
   exact Ck k h2
   rename_i H
   refine wpIn_mono (ih lim rd u σ e F h x p r hr g a w n base b j m hl hb o) ?_
   rintro S a1 w1 ⟨rfl,E,k⟩
   cases e with
   |normal=>exact absurd h (H _)
   |ret=>exact⟨rfl,E,k⟩
   |exit id=>exact⟨rfl,E,k⟩
   cases hc
  |cond c x y=>
   simp only[comp]at hc
   split at hc
   rename_i oc u R N p hy
   cases hc
   simp only[exec]at h
   split at h
   rename_i t C
   have hv:=(Ed j N C).bool
   refine wpIn_cond hv ?_
   cases t
   exact ih lim rd R σ e F h y hy r hr g a w n base b j m hl hb o
   exact ih lim rd u σ e F h x p r hr g a w n base b j m hl hb o
   cases h
   cases hc
  |block id x=>
   simp only[comp,nL2]at hc
   obtain⟨u,p,rfl⟩:=hc
   simp only[exec]at h
   refine wpIn_block ?_
   split at h
   rename_i i τ L
   refine wpIn_mono (ih lim rd u σ (.exit i) τ L x p r hr g a w n base b j m hl hb o) ?_
   rintro S a1 w1 ⟨rfl,E,k⟩
   simp only[Ex.toExit,Exit.inBlock]
   split at h
   rename_i hi
   cases h
   rw[nQ2 hi]
   exact⟨rfl,E,k⟩
   rename_i hi
   cases h
   rw[nS2 hi]
   exact⟨rfl,E,k⟩
   rename_i H
   refine wpIn_mono (ih lim rd u σ e F h x p r hr g a w n base b j m hl hb o) ?_
   rintro S a1 w1 ⟨rfl,E,k⟩
   cases e with
   |normal=>exact⟨rfl,E,k⟩
   |ret=>exact⟨rfl,E,k⟩
   |exit id=>exact absurd h (H _ _)
  |loop x=>
   simp only[comp,nL2]at hc
   obtain⟨u,p,rfl⟩:=hc
   exact wpIn_loop_rounds (d+1) (aL (D:=d+1) z p hr (d+1) (nM2 _) σ g a w n base _ h b j m hl hb o (fun _ _ _ h=>h))
  |rangeFunc f ps x y=>
   simp only[comp]at hc
   split at hc
   rename_i of u R N p hy
   cases hc
   simp only[exec]at h
   split at h
   rename_i gf first cap C
   split at h
   rename_i v s q
   split at h
   rename_i st pend tm pm as Z U
   split at h
   cases h
   rename_i J
   split at h
   cases h
   rename_i s' B
   split at h
   cases h
   exact zC ih K N p hy C q U J B rfl b j m hl hb o
   cases h
   exact zC ih K N p hy C q U J B rfl b j m hl hb o
   cases h
   exact zC ih K N p hy C q U J B rfl b j m hl hb o
   cases h
   cases h
   cases h
   cases h
   cases hc
  |exit id=>
   simp only[comp,nP2]at hc
   subst hc
   simp only[exec,nP2,oJ2]at h
   obtain⟨rfl,rfl⟩:=h
   exact wpIn_exit ⟨rfl,g,j,m,.refl lim g w,nM2 _,o⟩
  |ret=>
   simp only[comp,nP2]at hc
   subst hc
   simp only[exec,nP2,oJ2]at h
   obtain⟨rfl,rfl⟩:=h
   exact wpIn_ret ⟨rfl,g,j,m,.refl lim g w,nM2 _,o⟩
  |scope x=>
   simp only[comp,nL2]at hc
   obtain⟨u,p,rfl⟩:=hc
   simp only[exec]at h
   refine Lk (fun l a w X=>by obtain⟨X,_⟩:=X;cases e<;>cases X) ?_
   split at h
   rename_i τ L
   have:e=.normal/\F=τ:=by
    cases d with
    |zero=>simp[exec]at h
    |succ d=>simp only[exec,nP2,oJ2]at h;exact⟨h.1.symm,h.2.symm⟩
   obtain⟨rfl,rfl⟩:=this;exact ih lim rd u σ .normal _ L x p r hr g a w n base b j m hl hb o;exact ih lim rd u σ e F h x p r hr g a w n base b j m hl hb o
  |label l=>
   simp only[comp,nP2]at hc;subst hc;simp only[exec,nP2,oJ2]at h;obtain⟨rfl,rfl⟩:=h;exact wpIn_label ⟨rfl,g,j,m,.refl lim g w,nM2 _,o⟩
  |_=>simp[comp]at hc
theorem bC1 (b:gP P T) (a:∀d,mK P (exec T d)->Ln P T (exec T d)) (d:Nat):mK P (exec T d):=Hs b a (d+1) d (by omega)
end
end Go.Sim
namespace Go.Sim
theorem Oa (T:iG) (k:eE) (xs:aA AV):(foot T k xs).al=[]:=by
 unfold foot;split<;>rfl
theorem Qz {T:iG} {ex:Nat->Bool->IC->St->aB (Ex×St)} {lim:Nat} {f:FuncId} {fn:IFn} {xs:aA AV} {H:aA eJ} {N:Nat} {v:AV} {d:Hp} (hf:T f=some fn) (hp:fn.pure=true) (a:(fn.frz||xs.all (closed 4))=true)
  (h:callF T ex lim f xs {h:=H,n:=N}=some (v,d)) (N':Nat):∃e,callF T ex lim f xs {h:=H,n:=N'}=some (v,e):=by
 unfold callF at h ⊢;simp only[hf,hp,oK2]at h ⊢;split at h;rename_i hc;rw[nQ2 hc];obtain⟨w,h1,h2⟩:=nL2.1 h;cases h2;exact⟨_,by rw[h1];rfl⟩;rename_i hc;rw[nS2 hc]
 have c:fn.frz=true:=by
  simp only[oE2]at a;rcases a with a|a;exact a;exact absurd a hc
 rw[nQ2 c]at h ⊢;split at h;rename_i as b;split at h;rename_i w hw;split at h;rename_i hg;cases h;refine⟨{h:=H,n:=N'},?_⟩;simp only[hw,hg,oK2];cases h;cases h;cases h
theorem Uv {T:iG} {ex:Nat->Bool->IC->St->aB (Ex×St)} {lim:Nat} {k:eE} {xs:aA AV} {H:aA eJ} {N:Nat} {v:AV} {j:Hp} (h:step T ex lim k xs {h:=H,n:=N}=some (v,j)) (e:(foot T k xs).all=1) (d:(foot T k xs).x=true) (N':Nat):
  ∃i,step T ex lim k xs {h:=H,n:=N'}=some (v,i):=by
 have one:∀{f:FuncId} {zs:aA AV},(match T f with|some fn=>fn.pure&&(fn.frz||zs.all (closed 4))|none=>false)=true->callF T ex lim f zs {h:=H,n:=N}=some (v,j)->∃i,callF T ex lim f zs {h:=H,n:=N'}=some (v,i):=fun{f zs} d h=>by
  split at d;rename_i fn hf;simp only[nJ2]at d;exact Qz hf d.1 d.2 h N';cases d
 cases k with
 |callF f=>exact one d h
 |callV=>
  cases xs with
  |nil=>simp[foot]at d
  |cons f args=>
   cases f with
   |fn g first cap=>
    cases g with
    |func g=>exact one (zs:=first++args++cap) d h
    |_=>simp[foot]at d
   |_=>simp[foot]at d
 |_=>exfalso;rcases xs with _|⟨a,_|⟨b,_|⟨c,t⟩⟩⟩<;>simp[foot]at e
theorem sU (T:iG) (k:eE) (xs:aA AV):(foot T k xs).all<=3/\((foot T k xs).all≠0->(foot T k xs).rd=[]/\(foot T k xs).wr=[]):=by
 unfold foot
 split<;>first
  |exact⟨by simp,fun h=>absurd rfl h⟩
  |(refine⟨?_,fun _=>⟨rfl,rfl⟩⟩;(repeat' split)<;>simp_all)
theorem qF {T:iG} {k:eE} {xs:aA AV} (h:(foot T k xs).all=0):(∀f,k≠.callF f)/\k≠.callV:=by
 constructor;rintro f rfl;simp only[foot]at h;split at h;split at h;cases h;split at h<;>cases h;cases h;rintro rfl;cases xs with
 |nil=>simp[foot]at h
 |cons x xs=>
  simp only[foot]at h;split at h;split at h;split at h;cases h;split at h<;>cases h;cases h;cases h
theorem rI {T:iG} {ex:Nat->Bool->IC->St->aB (Ex×St)} {lim:Nat} {k:eE} {xs:aA AV} {s s':Hp} {v:AV} (h:step T ex lim k xs s=some (v,s')) (h0:(foot T k xs).all=0):
  ∃out,doOp (look s.h) lim s.n k xs=some out/\v=out.v/\s'=out.apply s:=by
 obtain⟨h1,h2⟩:=qF h0;unfold step at h;split at h;exact absurd rfl (h1 _);exact absurd rfl h2;split at h;rename_i o a;cases h;exact⟨o,a,rfl,rfl⟩;cases h
theorem zD {out:Out} {s:Hp} (a:∀i ob,out.up=some (i,ob)->(look s.h i).isSome=true) (id:Nat):look (out.apply s).h id=out.after (look s.h) s.n id:=by
 have hb:look (match out.up with|some (i,ob)=>upd s.h i ob|none=>s.h) id=out.base (look s.h) id:=by
  unfold Out.base;cases hu:out.up with
  |none=>rfl
  |some p=>
   obtain⟨i,ob⟩:=p;simp only[look_upd];have:=a i ob hu;by_cases e:id=i;subst e;simp[this];simp[e]
 unfold Out.apply Out.after;cases hn:out.new with
 |none=>exact hb
 |some ob=>
  simp only[look];by_cases e:s.n=id;rw[nQ2 e,nQ2 e.symm];rw[nS2 e,nS2 (fun h=>e h.symm)];exact hb
theorem qG (out:Out) (s:Hp):(out.apply s).n=if out.new.isSome then s.n+1 else s.n:=by
 unfold Out.apply;cases out.new<;>rfl
theorem iT {f:Foot} (h:f.isE=true):f.rd=[]/\f.wr=[]/\f.al=[]/\f.all=0:=by
 simp only[Foot.isE,nJ2,List.isEmpty_iff]at h;exact⟨h.1.1.1,h.1.1.2,h.1.2,oA2 h.2⟩
theorem xL {f:Foot} {id:Nat} (h:id∈f.rd\/id∈f.wr):f.isE=false:=by
 cases hE:f.isE with
 |false=>rfl
 |true=>obtain⟨a,b,_⟩:=iT hE;rw[a,b]at h;simp at h
theorem xM {f:Foot} {id:Nat} (h:id∈f.al):f.isE=false:=by
 cases hE:f.isE with
 |false=>rfl
 |true=>obtain⟨_,_,c,_⟩:=iT hE;rw[c]at h;simp at h
theorem pC {f:Foot} (h:f.all≠0):f.isE=false:=by
 cases hE:f.isE with
 |false=>rfl
 |true=>exact absurd (iT hE).2.2.2 h
theorem Uw {i j:Foot} (h:i.all+j.all<=1\/i.isE=true\/j.isE=true) (a:j.isE=false):i.all<=1:=by
 rcases h with h|h|h;omega;have:=(iT h).2.2.2;omega;rw[a]at h;cases h
theorem Cl {i j:Foot} (h:i.all+j.all<=1\/i.isE=true\/j.isE=true) (hi:i.isE=false):j.all<=1:=by
 rcases h with h|h|h;omega;rw[hi]at h;cases h;have:=(iT h).2.2.2;omega
theorem gI {i j:Foot} (h:compat0 i j=true):compat i j=true:=by simp[compat,h]
theorem dK {i j:Foot} (h:compat i j=true):(i.all+j.all<=1\/i.isE=true\/j.isE=true)/\(∀x∈i.wr,x∉j.rd/\x∉j.wr)/\(∀x∈j.wr,x∉i.rd)/\(∀x∈i.al,x∉j.rd/\x∉j.wr)/\(i.all=0\/j.wr=[])/\(j.all=0\/i.wr=[]):=by
 simp only[compat,oE2]at h;rcases h with(h|h)|h;obtain⟨a,b,c,d⟩:=iT h;rw[a,b,c,d];exact⟨.inr (.inl h),fun x e=>by simp at e,fun x _ e=>by simp at e,fun x e=>by simp at e,.inl rfl,.inr rfl⟩;obtain⟨a,b,c,d⟩:=iT h;rw[a,b,d];exact⟨.inr (.inr h),fun x _=>⟨fun e=>by simp at e,fun e=>by simp at e⟩,fun x e=>by simp at e,fun x _=>⟨fun e=>by simp at e,fun e=>by simp at e⟩,.inr rfl,.inl rfl⟩;simp only[compat0,nJ2,nR2,nN2,oB2,oE2,pU2,List.isEmpty_iff,oY2,pB2]at h;obtain⟨⟨⟨⟨⟨h1,h2⟩,f⟩,g⟩,k⟩,l⟩:=h;exact⟨.inl h1,h2,f,g,k,l⟩
theorem nQ {a:Nat} {ft:Nat->Foot} {id:Nat}:∀{j:Nat},∀i,i<j->a.testBit i=false->id∈(ft i).al->id∈unseen a j (fC ft j)
 |0,i,hi,_,_=>by omega
 |j+1,i,hi,hm,hid=>by
  simp only[fC,unseen,qP2,pI2]
  by_cases e:i=j
  subst e
  left
  rw[hm]
  simpa using hid
  exact .inr (nQ i (by omega) hm hid)
theorem Cm {l l':aA AV}:∀{xs:aA IX},(∀t,.t t∈xs->l[t]? =l'[t]?)->evs l xs=evs l' xs
 |[],_=>rfl
 |x::xs,h=>by
  have h1:x.ev l=x.ev l':=by
   cases x with
   |t i=>exact h i (by simp)
   |c v=>rfl
  simp only[evs,h1,Cm (xs:=xs) (fun t a=>h t (by simp[a]))]
theorem Ef {l l':aA AV} {a:aB (Nat×Bool)} (h:∀i b,a=some (i,b)->l[i]? =l'[i]?):wanted l a=wanted l' a:=by
 cases a with
 |none=>rfl
 |some p=>
  obtain⟨i,b⟩:=p;simp only[Sim.wanted,h i b rfl]
theorem zE (l:aA AV) (d:aB Nat) (v:AV):(put l d v).length=l.length:=by
 cases d<;>simp[put]
theorem rJ {l:aA AV} {d:aB Nat} {v:AV} {t:Nat} (h:d≠some t):(put l d v)[t]? =l[t]? :=by
 cases d with
 |none=>rfl
 |some i=>simp only[put,oG2];rw[nS2 (fun e=>h (by rw[e]))]
theorem Ux {l:aA AV} {d a:aB Nat} {v v':AV} (h:∀t,d=some t->a≠some t):put (put l d v) a v'=put (put l a v') d v:=by
 cases d with
 |none=>rfl
 |some i=>
  cases a with
  |none=>rfl
  |some j=>exact List.set_comm _ _ (fun e=>h i rfl (by rw[e]))
structure sB (P:Program) (T:iG) (ex:Nat->Bool->IC->St->Option (Ex×St)) (lim:Nat) (ops:Array Oper) (ios:List Sim.Op1) (st:Nat->St) (ft:Nat->Foot) (v:Nat->AV):Prop where
 comp:mapO (jF P ops.toList) ops.toList=some ios
 back:∀j o,ops.toList[j]? =some o->∀e∈o.after.toList,Region.binds .any e=true->e.on<j
 tmps:∀j o,ios[j]? =some o->∀i p,i<j->ios[i]? =some p->((cC [] ops.toList).getD j 0).testBit i=true\/((∀d,p.dst=some d->o.dst≠some d/\d∉o.reads)/\∀d,o.dst=some d->d∉p.reads)
 step:∀j o,ios[j]? =some o->Th T ex lim ((cC [] ops.toList).getD j 0) ios.length j o ft st v
 com:∀j,j<ios.length->∀i,i<j->((cC [] ops.toList).getD j 0).testBit i=true\/compat (ft i) (ft j)=true
 gr:nO ex
 wf0:Wf (st 0).s.h (st 0).s.n
def uK (ft:Nat->Foot) (j id:Nat):Bool:=(ft j).all==2||(ft j).wr.contains id||(ft j).al.contains id
theorem jX1 {ft:Nat->Foot} {j id:Nat} (h:(ft j).isE=true):uK ft j id=false:=by
 obtain⟨_,b,c,d⟩:=iT h;simp[uK,b,c,d]
def gD (st:Nat->St) (ft:Nat->Foot) (S:Nat->Bool):Nat->Nat->aB AO
 |0,id=>look (st 0).s.h id
 |j+1,id=>if S j&&uK ft j id then look (st (j+1)).s.h id else gD st ft S j id
def mT (ios:aA Sim.Op1) (j:Nat):aB Nat:=(ios[j]?).bind (·.dst)
def tl (ios:aA Sim.Op1) (st:Nat->St) (v:Nat->AV) (S:Nat->Bool):Nat->aA AV
 |0=>(st 0).t
 |j+1=>if S j then put (tl ios st v S j) (mT ios j) (v j)else tl ios st v S j
section
variable {P:Program} {T:iG} {ex:Nat->Bool->IC->St->Option (Ex×St)} {lim:Nat} {ops:Array Oper} {ios:List Sim.Op1} {st:Nat->St} {ft:Nat->Foot} {v:Nat->AV}
theorem sB.get (R:sB P T ex lim ops ios st ft v) {j:Nat} (h:j<ios.length):∃io o,ios[j]? =some io/\ops.toList[j]? =some o/\jF P ops.toList o=some io:=by
 obtain⟨h1,h2⟩:=cX R.comp;obtain⟨o,a,b⟩:=h2 j ios[j] (by simp[h]);exact⟨ios[j],o,by simp[h],a,b⟩
theorem sB.size (R:sB P T ex lim ops ios st ft v):ios.length=ops.size:=by
 obtain⟨h1,h2⟩:=cX R.comp;simpa using h1
theorem sB.grows (R:sB P T ex lim ops ios st ft v) {j:Nat} (h:j<ios.length):iA (st j).s (st (j+1)).s:=by
 obtain⟨io,o,h1,_,_⟩:=R.get h;obtain⟨_,h2⟩:=R.step j io h1;rcases h2 with⟨_,_,_,a⟩|⟨_,xs,_,_,_,a,_⟩|⟨_,xs,_,_,_,a⟩|⟨_,xs,W,_,_,_,a⟩
 rw[a];exact .refl _;rw[a];exact .refl _;exact lL R.gr a;exact wJ (fun _ _ _=>lL R.gr) a
theorem sB.mono (R:sB P T ex lim ops ios st ft v) {i:Nat}:∀{j:Nat},i<=j->j<=ios.length->(st i).s.n<=(st j).s.n
  | 0, h, _ => by have:i=0:=by omega
                  subst this;exact nM2 _
  |j+1,h,hm=>by
    by_cases e:i=j+1
    subst e;exact nM2 _
    exact oL2 (R.mono (i:=i) (j:=j) (by omega) (by omega)) (R.grows (by omega)).n
theorem sB.wf (R:sB P T ex lim ops ios st ft v):∀{j:Nat},j<=ios.length->Wf (st j).s.h (st j).s.n
 |0,_=>R.wf0
 |j+1,h=>(R.grows (by omega)).wf (R.wf (by omega))
theorem sB.al (R:sB P T ex lim ops ios st ft v) {j id:Nat} (h:j<ios.length):id∈(ft j).al↔(st j).s.n<=id/\id<(st (j+1)).s.n:=by
 obtain⟨io,o,h1,_,_⟩:=R.get h;obtain⟨_,h2⟩:=R.step j io h1;rcases h2 with⟨_,_,a,b⟩|⟨_,xs,_,_,a,b,_⟩|⟨_,xs,_,h5,a,b⟩|⟨_,xs,W,_,h5,a,b⟩
 rw[a,b];simp;rw[a,b,Oa];simp;rw[a];simp only[qV2];have:=(R.grows h).n;omega;rw[a];simp only[qV2];have:=(R.grows h).n;omega
theorem sB.all (R:sB P T ex lim ops ios st ft v) {j:Nat} (h:j<ios.length):(ft j).all<=2:=by
 obtain⟨io,o,h1,_,_⟩:=R.get h;obtain⟨_,h2⟩:=R.step j io h1;rcases h2 with⟨_,_,a,b⟩|⟨_,xs,_,h5,a,b,_⟩|⟨_,xs,_,h5,a,b⟩|⟨_,xs,W,_,h5,a,b⟩
 rw[a];simp;rw[a];omega;rw[a];have:=(sU T io.k xs).1;have:=h5.2;simp only;omega;rw[a];simp
theorem sB.keep (R:sB P T ex lim ops ios st ft v) {j id:Nat} (h:j<ios.length) (b:uK ft j id=false):look (st (j+1)).s.h id=look (st j).s.h id:=by
 obtain⟨io,o,h1,_,_⟩:=R.get h;obtain⟨_,h2⟩:=R.step j io h1;rcases h2 with⟨_,_,d,c⟩|⟨_,xs,_,_,d,c,_⟩|⟨_,xs,_,h5,d,c⟩|⟨_,xs,W,_,h5,d,c⟩
 rw[c];rw[c];have y:=(sU T io.k xs).1;simp only[uK,qE2,qL2,ne_eq,oY2,pB2]at b;have f:=b.2;rw[R.al h]at f;rw[d]at b
 have h0:(foot T io.k xs).all=0:=by
  have a1:¬(foot T io.k xs).all=2:=b.1.1;have:=h5.1;have:=h5.2;omega
 obtain⟨out,m,_,hs⟩:=rI c h0;rw[hs,zD (fun i ob g=>(sT (T:=T) m g).2)];have hn:=qG out (st j).s;rw[<-hs]at hn;unfold Out.after Out.base;cases hnew:out.new with
 |none=>
  simp only;cases g:out.up with
  |none=>rfl
  |some p=>
   obtain⟨i,ob⟩:=p;have:=(sT (T:=T) m g).1;simp only;rw[nS2 (fun e=>b.1.2 (by rw[e];exact this))]
 |some ob'=>
  rw[hnew]at hn;simp only[qO2,oK2]at hn;simp only;rw[nS2 (by omega)];cases g:out.up with
  |none=>rfl
  |some p=>
   obtain⟨i,ob⟩:=p;have:=(sT (T:=T) m g).1;simp only;rw[nS2 (fun e=>b.1.2 (by rw[e];exact this))]
 simp only[uK,d,qE2,qL2,ne_eq,oY2,pB2,qV2]at b;obtain⟨⟨_,hw⟩,f⟩:=b;obtain⟨r,s',w,_,z,A,u,x,_⟩:=nM c;have hn:=(R.grows h).n;have q:=R.wf (j:=j+1) (by omega);by_cases hid:id<(st j).s.n;rw[u];simp only;rw[look_newOK_lt hid,oT];rw[<-x];exact hw;have l:(st (j+1)).s.n<=id:=by omega
 have a:∀{h:aA eJ} {n:Nat},Wf h n->n<=id->look h id=none:=fun hw t=>by
  cases hl:look _ id with
  |none=>rfl
  |some o=>have:=hw.lt hl;omega
 rw[a q l,a (R.wf (j:=j) (by omega)) (by omega)]
theorem zF (R:sB P T ex lim ops ios st ft v) {S:Nat->Bool} {id:Nat}:∀{j:Nat},j<=ios.length->(∀i,i<j->uK ft i id=true->S i=true)->gD st ft S j id=look (st j).s.h id
 |0,_,_=>rfl
 |j+1,hm,h=>by
  simp only[gD]
  cases ht:uK ft j id with
  |true=>simp[h j (by omega) ht]
  |false=>
   simp only[Bool.and_false,nV2,oQ2]
   rw[zF R (by omega) (fun i hi=>h i (by omega)),R.keep (by omega) ht]
theorem wM {S:Nat->Bool} {id j:Nat}:∀{m:Nat},j<=m->(∀i,j<=i->i<m->S i=true->uK ft i id=false)->gD st ft S m id=gD st ft S j id
  | 0, hj, _ => by have:j=0:=by omega
                   subst this;rfl
  |m+1,hj,h=>by
    by_cases e:j=m+1
    subst e;rfl
    simp only[gD]
    have h1:¬((S m&&uK ft m id)=true):=by
      intro h2;simp only[nJ2]at h2;rw[h m (by omega) (by omega) h2.1]at h2;cases h2.2
    rw[nS2 h1];exact wM (by omega) (fun i hi a=>h i hi (by omega))
theorem hR1 {S S':Nat->Bool} {id j:Nat} {ao:AO} (a:∀i,j<i->S' i=S i) (h0:gD st ft S' (j+1) id=some ao->gD st ft S (j+1) id=some ao):∀{m:Nat},j<m->gD st ft S' m id=some ao->gD st ft S m id=some ao
 |0,hj,_=>by omega
 |m+1,hj,h=>by
  by_cases e:j=m
  subst e;exact h0 h
  simp only[gD]at h ⊢
  rw[a m (by omega)]at h
  split at h
  rename_i hc;rw[nQ2 hc];exact h
  rename_i hc;rw[nS2 hc];exact hR1 a h0 (by omega) h
theorem zG {S S':Nat->Bool} {id:Nat}:∀{j:Nat},(∀i,i<j->S' i=S i)->gD st ft S' j id=gD st ft S j id
 |0,_=>rfl
 |j+1,h=>by simp only[gD,h j (by omega),zG (j:=j) (fun i hi=>h i (by omega))]
theorem uY (R:sB P T ex lim ops ios st ft v) {S:Nat->Bool}:∀{j:Nat},j<=ios.length->(tl ios st v S j).length=(st j).t.length
 |0,_=>rfl
 |j+1,h=>by
  obtain⟨io,o,h1,_,_⟩:=R.get (j:=j) (by omega)
  rw[(R.step j io h1).1,zE]
  simp only[tl]
  split
  rw[zE];exact uY R (by omega)
  exact uY R (by omega)
theorem tlA (R:sB P T ex lim ops ios st ft v) {S:Nat->Bool} {t:Nat}:∀{j:Nat},j<=ios.length->(∀i,i<j->mT ios i=some t->S i=true)->(tl ios st v S j)[t]? =(st j).t[t]?
 |0,_,_=>rfl
 |j+1,hm,h=>by
  obtain⟨io,o,h1,_,_⟩:=R.get (j:=j) (by omega)
  have a:=(R.step j io h1).1
  have hd:mT ios j=io.dst:=by simp[mT,h1]
  have ih:=tlA R (S:=S) (t:=t) (j:=j) (by omega) (fun i hi=>h i (by omega))
  have hl:=uY R (S:=S) (j:=j) (by omega)
  simp only[tl,a]
  by_cases e:io.dst=some t
  rw[h j (by omega) (hd.trans e)]
  simp only[oK2,hd,e,put,oG2,hl]
  rw[rJ e]
  split
  rw[hd,rJ e];exact ih
  exact ih
theorem tlB {S:Nat->Bool} {t j:Nat}:∀{m:Nat},j<=m->(∀i,j<=i->i<m->S i=true->mT ios i≠some t)->(tl ios st v S m)[t]? =(tl ios st v S j)[t]?
  | 0, hj, _ => by have:j=0:=by omega
                   subst this;rfl
  |m+1,hj,h=>by
    by_cases e:j=m+1
    subst e;rfl
    simp only[tl]
    split
    rename_i hs
    rw[rJ (h m (by omega) (by omega) hs)]
    exact tlB (by omega) (fun i hi a=>h i hi (by omega))
    exact tlB (by omega) (fun i hi a=>h i hi (by omega))
theorem Ht {S S':Nat->Bool}:∀{j:Nat},(∀i,i<j->S' i=S i)->tl ios st v S' j=tl ios st v S j
 |0,_=>rfl
 |j+1,h=>by simp only[tl,h j (by omega),Ht (j:=j) (fun i hi=>h i (by omega))]
theorem tlC {S S':Nat->Bool} {j:Nat} (b:∀i,i<j->S' i=S i) (a:∀i,j<i->S' i=S i) (h1:S j=false) (h2:S' j=true):∀{m:Nat},j<m->(∀i,j<i->i<m->S i=true->∀t,mT ios j=some t->mT ios i≠some t)->
  tl ios st v S' m=put (tl ios st v S m) (mT ios j) (v j)
 |0,hj,_=>by omega
 |m+1,hj,h=>by
  by_cases e:j=m
  subst e
  simp only[tl,h1,h2,oK2,nV2,oQ2,Ht b]
  have ih:=tlC b a h1 h2 (m:=m) (by omega) (fun i hi c=>h i hi (by omega))
  simp only[tl,a m (by omega),ih]
  split
  rename_i hs
  exact Ux (h m (by omega) (by omega) hs)
  rfl
end
end Go.Sim
namespace Go.Sim
section
variable {P:Program} {T:iG} {ex:Nat->Bool->IC->St->Option (Ex×St)} {lim:Nat} {ops:Array Oper} {ios:List Sim.Op1} {st:Nat->St} {ft:Nat->Foot} {v:Nat->AV} {S S':Nat->Bool}
structure bD1 (P:Program) (ops:Array Oper) (ios:List Sim.Op1) (st:Nat->St) (ft:Nat->Foot) (v:Nat->AV) (lim base:Nat) (g0:Gh) (w0:World) (S:Nat->Bool) (g:Gh) (a:Act) (w:World):Prop where
 ext:oR lim g0 g w0 w
 W:WG g w
 H:HR P g (gD st ft S ios.length) w
 dom:∀id,g.ι id≠none->id<(st 0).s.n\/∃i,i<ios.length/\S i=true/\id∈(ft i).al
 t:TR g (tl ios st v S ios.length) a.tmps.toList
 marks:gG base g w a.defers
 closed:∀i oi,S i=true->ops.toList[i]? =some oi->∀e∈oi.after.toList,Region.binds .any e=true->S e.on=true
structure Rdy (ops:Array Oper) (ios:List Sim.Op1) (S:Nat->Bool) (j:Nat) (o:Oper) (io:Sim.Op1):Prop where
 hop:ops.toList[j]? =some o
 hio:ios[j]? =some io
 c:j<ios.length
 no:S j=false
 edges:∀e∈o.after.toList,Region.binds .any e=true->S e.on=true
theorem zH (R:sB P T ex lim ops ios st ft v) {j:Nat} {o:Oper} {io:Sim.Op1} (hr:Rdy ops ios S j o io)
  (a:∀i oi,S i=true->ops.toList[i]? =some oi->∀e∈oi.after.toList,Region.binds .any e=true->S e.on=true) {i:Nat} (hi:i<j):
  S i=true\/(((cC [] ops.toList).getD j 0).testBit i=false/\compat (ft i) (ft j)=true/\∀p,ios[i]? =some p->(∀d,p.dst=some d->io.dst≠some d/\d∉io.reads)/\∀d,io.dst=some d->d∉p.reads):=by
 cases hb:((cC [] ops.toList).getD j 0).testBit i with
 |true=>exact .inl (pA R.back (D:=fun i=>S i=true) a j o hr.hop hr.edges i hb)
 |false=>
  refine .inr ⟨rfl,(R.com j hr.c i hi).resolve_left (by rw[hb];simp),fun p hp=>?_⟩;exact(R.tmps j io hr.hio i p hi hp).resolve_left (by rw[hb];simp)
theorem Eg (R:sB P T ex lim ops ios st ft v) {j:Nat} {o:Oper} {io:Sim.Op1} (hr:Rdy ops ios S j o io)
  (a:∀i oi,S i=true->ops.toList[i]? =some oi->∀e∈oi.after.toList,Region.binds .any e=true->S e.on=true) {i:Nat} (hi:j<i) (b:i<ios.length) (f:S i=true):
  compat (ft j) (ft i)=true/\∀p,ios[i]? =some p->(∀d,io.dst=some d->p.dst≠some d/\d∉p.reads)/\∀d,p.dst=some d->d∉io.reads:=by
 obtain⟨g,oi,h1,h2,h⟩:=R.get b
 have hb:((cC [] ops.toList).getD i 0).testBit j=false:=by
  cases hb:((cC [] ops.toList).getD i 0).testBit j with
  |false=>rfl
  |true=>
   have:=pA R.back (D:=fun i=>S i=true) a i oi h2 (fun e he c=>a i oi f h2 e he c) j hb;simp only[hr.no]at this;cases this
 refine⟨(R.com i b j hi).resolve_left (by rw[hb];simp),fun p hp=>?_⟩;exact(R.tmps i p hp j io hi hr.hio).resolve_left (by rw[hb];simp)
theorem Hu (R:sB P T ex lim ops ios st ft v) {j:Nat} {o:Oper} {io:Sim.Op1} (hr:Rdy ops ios S j o io)
  (d:∀i oi,S i=true->ops.toList[i]? =some oi->∀e∈oi.after.toList,Region.binds .any e=true->S e.on=true) {t:Nat} (k:t∈io.reads):(tl ios st v S ios.length)[t]? =(st j).t[t]? :=by
 rw[tlB (j:=j) (pA2 hr.c),tlA R (pA2 hr.c)];intro i hi hd;rcases zH R hr d hi with h|⟨_,_,h⟩
 exact h;obtain⟨a,oi,h1,_,_⟩:=R.get (j:=i) (by have:=hr.c;omega);have b:a.dst=some t:=by simpa[mT,h1]using hd
 exact absurd k ((h a h1).1 t b).2;intro i hi f g hd;by_cases e:i=j;subst e;rw[hr.no]at g;cases g;obtain⟨a,oi,h1,_,_⟩:=R.get f;have b:a.dst=some t:=by simpa[mT,h1]using hd
 exact absurd k (((Eg R hr d (by omega) f g).2 a h1).2 t b)
theorem jY1 (R:sB P T ex lim ops ios st ft v) {j:Nat} {o:Oper} {io:Sim.Op1} (hr:Rdy ops ios S j o io)
  (f:∀i oi,S i=true->ops.toList[i]? =some oi->∀e∈oi.after.toList,Region.binds .any e=true->S e.on=true) (b:∀i,i≠j->S' i=S i) (l:S' j=true):
  tl ios st v S' ios.length=put (tl ios st v S ios.length) io.dst (v j):=by
 have hd:mT ios j=io.dst:=by simp[mT,hr.hio]
 rw[<-hd];refine tlC (fun i hi=>b i (by omega)) (fun i hi=>b i (by omega)) hr.no l hr.c (fun i hi a k t m h=>?_);obtain⟨d,oi,h1,_,_⟩:=R.get a;have g:d.dst=some t:=by simpa[mT,h1]using h
 exact(((Eg R hr f hi a k).2 d h1).1 t (hd.symm.trans m)).1 g
theorem bF1 (R:sB P T ex lim ops ios st ft v) {j:Nat} {o:Oper} {io:Sim.Op1} (hr:Rdy ops ios S j o io)
  (b:∀i oi,S i=true->ops.toList[i]? =some oi->∀e∈oi.after.toList,Region.binds .any e=true->S e.on=true) {id:Nat} {ao:AO} (hid:id∈(ft j).rd\/id∈(ft j).wr) (hl:look (st j).s.h id=some ao):
  gD st ft S ios.length id=some ao:=by
 have g:=(R.wf (pA2 hr.c)).lt hl;rw[wM (j:=j) (pA2 hr.c),zF R (pA2 hr.c)];exact hl;intro i hi a;rcases zH R hr b hi with h|⟨_,h,_⟩
 exact h;obtain⟨c1,c2,c3,c4,c5,c6⟩:=dK h;simp only[uK,oE2,pU2,oY2,nR2]at a;rcases a with(a|a)|a;have:=Uw c1 (xL hid);omega;rcases hid with hid|hid;exact absurd hid (c2 id a).1;exact absurd hid (c2 id a).2;rcases hid with hid|hid;exact absurd hid (c4 id a).1;exact absurd hid (c4 id a).2;intro i hi d f;by_cases e:i=j;subst e;rw[hr.no]at f;cases f;obtain⟨c1,c2,c3,c4,c5,c6⟩:=dK (Eg R hr b (by omega) d f).1;simp only[uK,qE2,qL2,ne_eq,oY2,pB2];refine⟨⟨by have:=Cl c1 (xL hid);omega,fun h=>?_⟩,fun h=>?_⟩;rcases hid with hid|hid;exact c3 id h hid;exact(c2 id hid).2 h;rw[R.al d]at h;have:=R.mono (i:=j) (j:=i) (by omega) (by omega);omega
theorem zI (R:sB P T ex lim ops ios st ft v) {j:Nat} {o:Oper} {io:Sim.Op1} (hr:Rdy ops ios S j o io)
  (d:∀i oi,S i=true->ops.toList[i]? =some oi->∀e∈oi.after.toList,Region.binds .any e=true->S e.on=true) (k:∀i,i≠j->S' i=S i) (m:S' j=true) {id:Nat}
  (hid:(id∈(ft j).wr/\id<(st j).s.n)\/id∈(ft j).al):gD st ft S' ios.length id=look (st (j+1)).s.h id:=by
 rw[wM (j:=j+1) hr.c]
 have:uK ft j id=true:=by
  simp only[uK,oE2,pU2,oY2,nR2];rcases hid with⟨h,_⟩|h;exact .inl (.inr h);exact .inr h
 simp[gD,m,this];intro i hi a b;have l:S i=true:=by rw[<-k i (by omega)];exact b
 obtain⟨c1,c2,c3,c4,c5,c6⟩:=dK (Eg R hr d (by omega) a l).1;simp only[uK,qE2,qL2,ne_eq,oY2,pB2];have g:=R.mono (i:=j+1) (j:=i) (by omega) (by omega);have hg:=(R.grows hr.c).n
 have f:(ft j).isE=false:=by
  rcases hid with⟨hid,_⟩|hid;exact xL (.inr hid);exact xM hid
 refine⟨⟨by have:=Cl c1 f;omega,fun h=>?_⟩,fun h=>?_⟩;rcases hid with⟨hid,_⟩|hid;exact(c2 id hid).2 h;exact(c4 id hid).2 h;rw[R.al a]at h;rcases hid with⟨_,hid⟩|hid;omega;rw[R.al hr.c]at hid;omega
theorem sW (R:sB P T ex lim ops ios st ft v) {j:Nat} {o:Oper} {io:Sim.Op1} (hr:Rdy ops ios S j o io)
  (g:∀i oi,S i=true->ops.toList[i]? =some oi->∀e∈oi.after.toList,Region.binds .any e=true->S e.on=true) (b:∀i,i≠j->S' i=S i) (l:S' j=true) {id:Nat} {ao:AO}
  (hk:uK ft j id=true->id∈(ft j).wr/\look (st (j+1)).s.h id=look (st j).s.h id) (h:gD st ft S' ios.length id=some ao):gD st ft S ios.length id=some ao:=by
 refine hR1 (j:=j) (fun i hi=>b i (by omega)) (fun h0=>?_) hr.c h;have d:gD st ft S (j+1) id=gD st ft S j id:=by simp[gD,hr.no]
 have f:gD st ft S' j id=gD st ft S j id:=zG (fun i hi=>b i (by omega));rw[d];cases ht:uK ft j id with
 |false=>
  simp only[gD,ht,Bool.and_false,nV2,oQ2,f]at h0;exact h0
 |true=>
  obtain⟨k,m⟩:=hk ht;simp only[gD,ht,l,qM2,oK2,m]at h0;rw[zF R (pA2 hr.c)];exact h0;intro i hi a;rcases zH R hr g hi with h|⟨_,h,_⟩
  exact h;obtain⟨c1,c2,c3,c4,c5,c6⟩:=dK h;simp only[uK,oE2,pU2,oY2,nR2]at a;rcases a with(a|a)|a;have:=Uw c1 (xL (.inr k));omega;exact absurd k (c2 id a).2;exact absurd k (c4 id a).2
end
end Go.Sim
namespace Go.Sim
section
variable {P:Program} {T:iG} {ex:Nat->Bool->IC->St->Option (Ex×St)} {lim:Nat} {ops:Array Oper} {ios:List Sim.Op1} {st:Nat->St} {ft:Nat->Foot} {v:Nat->AV} {S S':Nat->Bool} {r:Option Nat} {n base:Nat} {g0 g:Gh} {w0 w:World}
theorem Oc {o:Oper} {k:eE} {os:aA Operand} {L:Nat->aB AO} {m:Nat} {out:Out} {a:Act} (j:gV P o.op o.type=some (k,os)) (hg:eT P g lim w L m out (execOp a.eval o)) {next:Act->World->Prop} {Q:Exit->Act->World->Prop}
  (b:∀V g' w',VR g' out.v V->HR P g' (out.after L m) w'->WG g' w'->oR lim g g' w w'->(∀id,g'.ι id≠none->g.ι id≠none\/(id=m/\out.new.isSome))->next (a.put o.dst V) w'):
  o.wpIn (FW r) n P a w next Q:=by
 obtain⟨V,nx,g',w',d,e,hv,h,i,f,c⟩:=hg;refine⟨fun _ _=>trivial,?_⟩;rw[nN _ (sS j),d];rcases e with rfl|⟨rfl,rfl⟩
 .exact b V g' w' hv h i f c
 .exact b undef g' w' hv h i f c
theorem Lo {k:eE} {xs:aA AV} (h1:∀f,k≠.callF f) (h2:k≠.callV):(foot T k xs).all=0:=by
 unfold foot
 split<;>first
  |rfl
  |exact absurd rfl (h1 _)
  |exact absurd rfl h2
theorem Ra (u:mK P ex) (A:gP P T) {o:Oper} {k:eE} {os:aA Operand} {xs:aA AV} {x:AV} {s S:Hp} {a:Act} (B:(gV P o.op o.type).getD (.fail,[])=(k,os)) (h:step T ex lim k xs s=some (x,S)) (d:(foot T k xs).all=1)
  (D:TR g xs (os.map a.eval)) (z:kV P g w s) {next:Act->World->Prop} {Q:Exit->Act->World->Prop}
  (q:∀V g' w',VR g' x V->g'.ι=g.ι->WG g' w'->(∀b,b<w.heap.size->w'.heap[b]? =w.heap[b]?)->oR s.n g g' w w'->next (a.put o.dst V) w'):o.wpIn (FW r) n P a w next Q:=by
 have fin:∀e w',jB P s.n g w s x s e w'->∃V,e=.returned V/\next (a.put o.dst V) w':=by
  rintro e w' ⟨V,g',rfl,R,L,J,X⟩;refine⟨V,rfl,q V g' w' R ?_ L.W ?_ J⟩
  .funext id
   by_cases hid:id<s.n
   .exact J.old id hid
   .have h1:g.ι id=none:=by
     cases h:g.ι id with
     |none=>rfl
     |some l=>exact absurd (z.dom id (by rw[h];simp)) hid
    have h2:g'.ι id=none:=by
     cases h:g'.ι id with
     |none=>rfl
     |some l=>exact absurd (L.dom id (by rw[h];simp)) hid
    rw[h1,h2]
  .intro b hb
   exact J.keep b hb (fun id loc hid hi=>by
    have:=z.dom id (by rw[hi];simp);omega)
 cases hco:gV P o.op o.type with
 |none=>
  rw[hco]at B;cases B;simp only[step,uQ]at h;cases h
 |some p=>
  rw[hco]at B;cases B;unfold step at h;split at h
  .rename_i f
   obtain⟨c,K,h1,h2,E⟩:=mE hco (.inr ⟨f,rfl⟩);rcases E with⟨f',t,M,G⟩|⟨t,_⟩
   .cases t
    subst M;simp only[foot]at d;split at d
    .rename_i ifn j
     split at d
     .rename_i hp
      have m:TR g xs (#[]++c.args.map a.eval++#[]).toList:=by rw[G]at D;simpa using D
      exact qE A h1 h2 rfl j (yR u A j hp h m z).2 fin
     .split at d<;>cases d
    .cases d
   .cases t
  .obtain ⟨c,K,h1,h2,E⟩:=mE hco (.inl rfl)
   rcases E with⟨f',t,_⟩|⟨_,G⟩
   .cases t
   .subst G
    split at h
    .rename_i U args
     have v:=D.head;have m:=D.tail;unfold callV at h;simp only[foot]at d;split at h
     .rename_i f first cap
      generalize hV:a.eval K=V at v;cases v with
      |@fn _ _ _ _ F C l1 l2 v1 v2=>
       simp only at d;split at d
       .rename_i ifn j
        split at d
        .rename_i hp
         have O:TR g first F.toList:=⟨by simpa using l1,fun i x y H hy=>v1 i x y H (by simpa using hy)⟩
         have N:TR g cap C.toList:=⟨by simpa using l2,fun i x y H hy=>v2 i x y H (by simpa using hy)⟩
         have d:TR g (first++args++cap) (F++c.args.map a.eval++C).toList:=by
          have:=(O.app m).app N;simpa using this
         exact qE A h1 h2 hV j (yR u A j hp h d z).2 fin
        .split at d<;>cases d
       .cases d
     .simp only at d
      cases d
     .cases h
    .cases h
  .rename_i h1 h2
   exfalso;have:=Lo (T:=T) (xs:=xs) (fun f e=>h1 f e) (fun e=>h2 e);omega
theorem cov (R:sB P T ex lim ops ios st ft v) {id:Nat}:∀{j:Nat},j<=ios.length->(st 0).s.n<=id->id<(st j).s.n->∃i,i<j/\id∈(ft i).al
 |0,_,h1,h2=>by omega
 |j+1,hj,h1,h2=>by
  by_cases h:id<(st j).s.n
  obtain⟨i,hi,a⟩:=cov R (j:=j) (by omega) h1 h
  exact⟨i,by omega,a⟩
  exact⟨j,by omega,(R.al (by omega)).2 ⟨by omega,h2⟩⟩
theorem Rb (R:sB P T ex lim ops ios st ft v) (f2:mK P ex) (hT:gP P T) (b8:lim<=(st 0).s.n) {j:Nat} {o:Oper} {io:Sim.Op1} {a:Act} (hr:Rdy ops ios S j o io) (hco:jF P ops.toList o=some io)
    (q:bD1 P ops ios st ft v lim base g0 w0 S g a w) (y:∀i,i≠j->S' i=S i) (hj:S' j=true) {K:Act->World->Prop} {Q:Exit->Act->World->Prop} (hK:∀g' a' w',bD1 P ops ios st ft v lim base g0 w0 S' g' a' w'->K a' w'):
    wpOpIn (FW r) n P ops Q j K a w:=by
  have d:=q.closed;have h0:ops[j]? =some o:=by simpa using hr.hop
  unfold wpOpIn;rw[h0];simp only;obtain⟨os,c1,c2,c3,c4⟩:=mM hco
  have hw:Region.wanted o (yielded ops a.tmps)=Sim.wanted (st j).t io.guard:=by
    rw[Ch q.t hco];refine Ef (fun i b hg=>Hu R hr d ?_);simp[Op1.reads,hg]
  have f1:evs (tl ios st v S ios.length) io.xs=evs (st j).t io.xs:=Cm (fun t f=>Hu R hr d (by
    simp only[Op1.reads,pI2,List.mem_filterMap];exact .inl ⟨.t t,f,rfl⟩))
  have a0:∀i oi,S' i=true->ops.toList[i]? =some oi->∀e∈oi.after.toList,Region.binds .any e=true->S' e.on=true:=by
    intro i oi hi f9 e he hb
    have up:∀i,S i=true->S' i=true:=fun i h=>by
      by_cases e:i=j;rw[e];exact hj;rw[y i e];exact h
    by_cases e1:i=j;subst e1;rw[hr.hop]at f9;cases f9;exact up _ (hr.edges e he hb);exact up _ (d i oi (by rw[<-y i e1];exact hi) f9 e he hb)
  have d4:∀{g':Gh} {w':World} {V:Value},oR lim g g' w w'->gG base g' w' (a.put o.dst V).defers:=by
    intro g' w' V hE;have:(a.put o.dst V).defers=a.defers:=by cases o.dst<;>rfl
    rw[this];exact q.marks.ext hE
  have d6:∀{g':Gh} {w':World} {V:Value},oR lim g g' w w'->VR g' (v j) V->TR g' (tl ios st v S' ios.length) (a.put o.dst V).tmps.toList:=by
    intro g' w' V hE hV;rw[jY1 R hr d y hj,c3];exact Li (q.t.mono hE.le) hV o.dst
  have L:∀id,(id<(st 0).s.n\/∃i,i<ios.length/\S i=true/\id∈(ft i).al)->id<(st 0).s.n\/∃i,i<ios.length/\S' i=true/\id∈(ft i).al:=by
    rintro id (h|⟨i,h1,h2,u⟩);exact .inl h;refine .inr ⟨i,h1,?_,u⟩;by_cases e:i=j;rw[e];exact hj;rw[y i e];exact h2
  have e9:=R.mono (i:=0) (j:=j) (by omega) (pA2 hr.c);obtain⟨s1,s2⟩:=R.step j io hr.hio;rw[hw];rcases s2 with⟨q1,q2,q3,q4⟩|⟨q1,xs,q2,q3,q4,q5,s2,q6⟩|⟨q1,xs,q2,q3,q4,q5⟩|⟨q1,xs,W,q2,q3,q4,q5⟩
  ·
    rw[q1];simp only[nV2,oQ2];refine⟨fun _ _=>trivial,hK g _ w ⟨q.ext,q.W,fun id ao h=>?_,fun id h=>L id (q.dom id h),d6 (.refl lim g w) (by rw[q2];exact .undef g),d4 (.refl lim g w),a0⟩⟩;refine q.H id ao (sW R hr d y hj (fun f=>?_) h);rw[uK,q3]at f;simp at f
  ·
    rw[q1];simp only[oK2];have b5:=oW q.t c2 (f1.trans q2);have f4:=(sU T io.k xs).2 (by omega)
    have M:∀id ao,look (hide (unseen ((cC [] ops.toList).getD j 0) j (fC ft j)) (st j).s.h) id=some ao->gD st ft S ios.length id=some ao:=by
      intro id ao h;obtain⟨h1,h2⟩:=uS _ (R.wf (pA2 hr.c)) h;have A:=(R.wf (pA2 hr.c)).lt h1;rw[wM (j:=j) (pA2 hr.c),zF R (pA2 hr.c)];exact h1;intro i hi f;rcases zH R hr d hi with h|⟨hb,h,_⟩
      exact h;obtain⟨c1,c2,c3,c4,c5,c6⟩:=dK h;simp only[uK,oE2,pU2,oY2,nR2]at f;have b9:(ft j).all=1:=by rw[q4];exact q3
      rcases f with(f|f)|f;have:=Uw c1 (pC (by omega));omega;rw[c6.resolve_left (by omega)]at f;simp at f;exact absurd (nQ i hi hb f) h2;intro i hi z F;by_cases e:i=j;subst e;rw[hr.no]at F;cases F;obtain⟨c1,c2,c3,c4,c5,c6⟩:=dK (Eg R hr d (by omega) z F).1;have b9:(ft j).all=1:=by rw[q4];exact q3
      simp only[uK,qE2,qL2,ne_eq,oY2,pB2];refine⟨⟨by have:=Cl c1 (pC (by omega));omega,fun h=>?_⟩,fun h=>?_⟩;rw[c5.resolve_left (by omega)]at h;simp at h;rw[R.al z]at h;have:=R.mono (i:=j) (j:=i) (by omega) (by omega);omega
    obtain⟨N,s2,i0,i4,q6⟩:∃N s2,(st j).s.n<=N/\(∀id,g.ι id≠none->id<N)/\step T ex lim io.k xs {h:=hide (unseen ((cC [] ops.toList).getD j 0) j (fC ft j)) (st j).s.h,n:=N}=some (v j,s2):=by
     cases hxf:(foot T io.k xs).x with
     |true=>
      obtain⟨s3,j4⟩:=Uv q6 q3 hxf (st ios.length).s.n;refine⟨(st ios.length).s.n,s3,R.mono (pA2 hr.c) (nM2 _),fun id h=>?_,j4⟩;rcases q.dom id h with h1|⟨i,h1,h2,u⟩
      exact oV2 h1 (R.mono (oX2 _) (nM2 _));rw[R.al h1]at u;exact oV2 u.2 (R.mono h1 (nM2 _))
     |false=>
      refine⟨(st j).s.n+rsv (ios.length-j),s2,by omega,fun id h=>?_,q6⟩;rcases q.dom id h with h1|⟨i,h1,h2,u⟩
      have:=hr.c;omega;have f6:=xM u;have b9:(ft j).isE=false:=pC (by rw[show(ft j).all=1 by rw[q4];exact q3];decide);rw[R.al h1]at u;by_cases d2:i<j;have:=R.mono (i:=i+1) (j:=j) (by omega) (pA2 hr.c);omega
      have d3:j<i:=by
        rcases qU2 j i with h|h;exact h;have:i=j:=by omega
        subst this;rw[hr.no]at h2;cases h2
      have g9:∀k,j<=k->k<=i->(st (k+1)).s.n<=(st j).s.n+rsv (k-j):=by
        intro k
        induction k with
        |zero=>
          intro hk _;have:j=0:=by omega
          subst this;rw[q5];omega
        |succ k ih=>
          intro hk j9;by_cases e:j=k+1;subst e;rw[q5];omega;have l0:=ih (by omega) (by omega);have g7:k+1<ios.length:=by omega
          have i7:(ft (k+1)).all<=1:=by
            by_cases e2:k+1=i;have:=Cl (dK (Eg R hr d d3 h1 h2).1).1 b9;rw[e2];omega
            ·
              rcases qU2 1 (ft (k+1)).all with j6|hok;exfalso;obtain⟨l1,oi,i1,i2,i3⟩:=R.get h1
              have hb:((cC [] ops.toList).getD i 0).testBit (k+1)=true:=by
                rcases R.com i h1 (k+1) (by omega)with h|h;exact h;have:=Uw (dK h).1 f6;omega
              have i5:S (k+1)=true:=pA R.back (D:=fun i=>S i=true) d i oi i2 (fun e he i9=>d i oi h2 i2 e he i9) (k+1) hb;have:=Cl (dK (Eg R hr d (by omega) g7 i5).1).1 b9;omega;exact hok
          obtain⟨g4,ok,k1,k2,k3⟩:=R.get g7;obtain⟨_,t2⟩:=R.step (k+1) g4 k1;have k0:rsv (k+1-j)=rsv (k-j)+1048576:=by rw[Nat.succ_sub (by omega),Uq]
          rcases t2 with⟨_,_,_,t3⟩|⟨_,xs',_,_,_,t3,_⟩|⟨_,xs',_,t3,t4,t5⟩|⟨_,xs',W',_,_,_,t3⟩
          rw[t3];omega;rw[t3];omega
          have d8:(foot T g4.k xs').all=0:=by
            have:(ft (k+1)).all=(foot T g4.k xs').all:=by rw[t4]
            have:=t3.1;omega
          obtain⟨out,_,_,hs⟩:=rI t5 d8;rw[hs,qG];split<;>omega;obtain⟨_,s',w,_,_,_,e3,_,_,_,_,_,e4⟩:=nM t3
          have e4:=e4 (by
            unfold nbF;rw[List.all_eq_false];refine⟨ft j,Ho (by omega),?_⟩;have:(ft j).x=false:=by rw[q4];exact hxf
            rw[this,show(ft j).all=1 by rw[q4];exact q3];decide)
          rw[e3];simp only;omega
      have:=g9 i (by omega) (nM2 _);have:=jT1 (a:=i-j) (b:=ios.length-j) (by omega);omega
    have Z:kV P g w {h:=hide (unseen ((cC [] ops.toList).getD j 0) j (fC ft j)) (st j).s.h,n:=N}:=
      ⟨fun id ao h=>q.H id ao (M id ao h),q.W,i4,((R.wf (pA2 hr.c)).hide _).mono i0⟩
    refine Ra f2 hT c1 q6 q3 b5 Z (fun V g' w' k1 k2 k3 k4 k5=>hK g' _ w' ?_);have hE:oR lim g g' w w':=k5.mono (by simp only;have:=hr.c;omega);refine⟨q.ext.trans hE,k3,fun id ao h=>?_,fun id h=>L id (q.dom id (by rw[<-k2];exact h)),d6 hE k1,d4 hE,a0⟩
    have h1:=sW R hr d y hj (id:=id) (ao:=ao) (fun f=>by
      rw[uK,q4]at f;rw[q3,f4.2,Oa]at f;simp at f) h
    exact(q.H id ao h1).mono hE.le (by rw[k2]) (fun loc hl=>k4 _ (q.W.lt id loc hl))
  rw[q1];simp only[oK2];have b5:=oW q.t c2 (f1.trans q2);by_cases d8:(foot T io.k xs).all=0
  ·
    obtain⟨out,ho,hv,hs⟩:=rI q5 d8
    have j0:∀id ao,id∈(foot T io.k xs).rd\/id∈(foot T io.k xs).wr->look (st j).s.h id=some ao->gD st ft S ios.length id=some ao:=by
      intro id ao hid hl;refine bF1 R hr d ?_ hl;rw[q4];exact hid
    have e8:doOp (gD st ft S ios.length) lim (st j).s.n io.k xs=some out:=Ll (T:=T) ho j0;have hn:=qG out (st j).s;rw[<-hs]at hn;have G:∀id,look (st (j+1)).s.h id=out.after (look (st j).s.h) (st j).s.n id:=fun id=>by rw[hs];exact zD (fun i ob hu=>(sT (T:=T) ho hu).2) id
    have C:∃g5,gV P o.op o.type=some (io.k,g5)/\g5=os:=by
      cases hc:gV P o.op o.type with
      |none=>
        rw[hc]at c1;simp only[Option.getD_none,oJ2]at c1;rw[<-c1.1,uQ]at ho;cases ho
      |some p=>rw[hc]at c1;exact⟨os,by rw[<-c1];rfl,rfl⟩
    obtain⟨g5,C,rfl⟩:=C
    have fin:∀(m:Nat) (V:Value) (g':Gh) (w':World),(out.new.isSome=true->m=(st j).s.n)->VR g' out.v V->HR P g' (out.after (gD st ft S ios.length) m) w'->WG g' w'->oR lim g g' w w'->
        (∀id,g'.ι id≠none->g.ι id≠none\/(id=m/\out.new.isSome))->K (a.put o.dst V) w':=by
      intro m V g' w' hm k1 k2 k3 k4 k5;refine hK g' _ w' ⟨q.ext.trans k4,k3,fun id ao h=>k2 id ao ?_,fun id h=>?_,d6 k4 (by rw[hv];exact k1),d4 k4,a0⟩
      ·
        have d0:id∈(ft j).al↔(st j).s.n<=id/\id<(st (j+1)).s.n:=R.al hr.c;have e0:(ft j).wr=(foot T io.k xs).wr:=by rw[q4]
        have j5:(ft j).all=0:=by rw[q4];exact d8
        have b0:(∀i ob,out.up=some (i,ob)->id≠i)->(out.new.isSome=true->id≠(st j).s.n)->gD st ft S ios.length id=some ao:=by
          intro h1 h2;refine sW R hr d y hj (fun f=>?_) h
          have g8:id∉(ft j).al:=by
            rw[d0,hn];cases hnew:out.new with
            |none=>simp
            |some ob=>
              have:=h2 (by rw[hnew];rfl);simp;omega
          refine⟨?_,?_⟩;simp only[uK,oE2,pU2,oY2,nR2]at f;rcases f with(f|f)|f;omega;exact f;exact absurd f g8;rw[G id];unfold Out.after Out.base;cases hnew:out.new with
          |none=>
            simp only;cases hu:out.up with
            |none=>rfl
            |some p=>
              obtain⟨i,ob⟩:=p;simp only;rw[nS2 (h1 i ob hu)]
          |some ob'=>
            simp only;rw[nS2 (h2 (by rw[hnew];rfl))];cases hu:out.up with
            |none=>rfl
            |some p=>
              obtain⟨i,ob⟩:=p;simp only;rw[nS2 (h1 i ob hu)]
        by_cases O:out.new.isSome=true/\id=(st j).s.n;obtain⟨h1,h2⟩:=O;have hl:=zI R hr d y hj (id:=id) (.inr (by rw[d0,hn,h1];simp;omega));rw[hl,G id]at h;rw[<-h,hm h1];unfold Out.after;cases hnew:out.new with
        |none=>rw[hnew]at h1;cases h1
        |some ob=>simp only;rw[nQ2 h2,nQ2 h2]
        by_cases X:∃ob,out.up=some (id,ob);obtain⟨ob,hu⟩:=X;obtain⟨u1,u2⟩:=sT (T:=T) ho hu;have g3:∃d7,look (st j).s.h id=some d7:=Option.isSome_iff_exists.1 u2;obtain⟨d7,g6⟩:=g3;have A:=(R.wf (pA2 hr.c)).lt g6;have hl:=zI R hr d y hj (id:=id) (.inl ⟨by rw[e0];exact u1,A⟩);rw[hl,G id]at h;rw[<-h];unfold Out.after Out.base;cases hnew:out.new with
        |none=>simp only[hu,oK2]
        |some ob'=>
          have:=hm (by rw[hnew];rfl);simp only[hu,oK2];rw[nS2 (by omega),nS2 (by omega)]
        have J:=b0 (fun i ob hu e=>X ⟨ob,by rw[e];exact hu⟩) (fun h1 e=>O ⟨h1,e⟩);unfold Out.after Out.base;cases hnew:out.new with
        |none=>
          simp only;cases hu:out.up with
          |none=>exact J
          |some p=>
            obtain⟨i,ob⟩:=p;simp only;rw[nS2 (fun e=>X ⟨ob,by rw[e];exact hu⟩)];exact J
        |some ob'=>
          simp only;rw[nS2 (fun e=>O ⟨by rw[hnew];rfl,by rw[e];exact hm (by rw[hnew];rfl)⟩)];cases hu:out.up with
          |none=>exact J
          |some p=>
            obtain⟨i,ob⟩:=p;simp only;rw[nS2 (fun e=>X ⟨ob,by rw[e];exact hu⟩)];exact J
      rcases k5 id h with h1|⟨h1,h2⟩
      exact L id (q.dom id h1);refine .inr ⟨j,hr.c,hj,?_⟩;rw[R.al hr.c,hn,h2,h1,hm h2];simp
    cases hnew:out.new with
    |none=>
      have f8:doOp (gD st ft S ios.length) lim (st ios.length).s.n io.k xs=some out:=jV1 e8 hnew
      have f5:g.ι (st ios.length).s.n=none:=by
        cases h:g.ι (st ios.length).s.n with
        |none=>rfl
        |some l=>
          rcases q.dom _ (by rw[h];simp)with h1|⟨i,h1,h2,u⟩
          have:=R.mono (i:=0) (j:=ios.length) (by omega) (nM2 _);omega;rw[R.al h1]at u;have:=R.mono (i:=i+1) (j:=ios.length) (by omega) (nM2 _);omega
      have j2:lim<=(st ios.length).s.n:=oL2 b8 (R.mono (by omega) (nM2 _));exact Oc C (rD a.eval o C b5 f8 q.H q.W f5 j2) (fun V g' w'=>fin _ V g' w' (fun h=>by rw[hnew]at h;cases h))
    |some ob=>
      have f5:g.ι (st j).s.n=none:=by
        cases h:g.ι (st j).s.n with
        |none=>rfl
        |some l=>
          rcases q.dom _ (by rw[h];simp)with h1|⟨i,h1,h2,u⟩
          omega;rw[R.al h1]at u;rw[hnew]at hn;simp only[qO2,oK2]at hn;by_cases d2:i<j;have:=R.mono (i:=i+1) (j:=j) (by omega) (pA2 hr.c);omega;by_cases e:i=j;subst e;rw[hr.no]at h2;cases h2;have:=R.mono (i:=j+1) (j:=i) (by omega) (by omega);omega
      exact Oc C (rD a.eval o C b5 e8 q.H q.W f5 (oL2 b8 e9)) (fun V g' w'=>fin _ V g' w' (fun _=>rfl))
  ·
    have h2:(ft j).all=2:=by
      have:=(sU T io.k xs).1;rw[q4];have:=q3.1;have:=q3.2;show(foot T io.k xs).all=2
      omega
    have b6:∀i,i<j->S i=true\/(ft i).isE=true:=by
      intro i hi;rcases zH R hr d hi with h|⟨_,h,_⟩
      exact .inl h;rcases(dK h).1 with h|h|h;omega;exact .inr h;have:=(iT h).2.2.2;omega
    have b4:∀i,j<=i->i<ios.length->S i=false\/(ft i).isE=true:=by
      intro i hi z;cases F:S i with
      |false=>exact .inl rfl
      |true=>
        by_cases e:i=j;subst e;rw[hr.no]at F;cases F;rcases(dK (Eg R hr d (by omega) z F).1).1 with h|h|h;omega;have:=(iT h).2.2.2;omega;exact .inr h
    have f0:∀id,gD st ft S ios.length id=look (st j).s.h id:=by
      intro id
      rw[wM (j:=j) (pA2 hr.c) (fun i hi z F=>by
        rcases b4 i hi z with B|B;rw[B]at F;cases F;exact jX1 B),zF R (pA2 hr.c) (fun i hi f=>by
        rcases b6 i hi with B|B;exact B;rw[jX1 B]at f;cases f)]
    have Z:kV P g w (st j).s:=by
      refine⟨fun id ao h=>q.H id ao (by rw[f0];exact h),q.W,fun id h=>?_,R.wf (pA2 hr.c)⟩;rcases q.dom id h with h1|⟨i,h1,u,Y⟩
      omega;have f6:=xM Y;rw[R.al h1]at Y;by_cases d2:i<j;have:=R.mono (i:=i+1) (j:=j) (by omega) (pA2 hr.c);omega;rcases b4 i (by omega) h1 with B|B;rw[B]at u;cases u;rw[f6]at B;cases B
    refine Ec f2 hT c1 q5 b5 Z (oL2 b8 e9) (fun V g' w' k1 k2 k3 k4=>hK g' _ w' ⟨q.ext.trans k3,k2.W,fun id ao h=>k2.H id ao ?_,fun id h=>?_,d6 k3 k1,d4 k3,a0⟩)
    rw[wM (j:=j+1) hr.c (fun i hi z F=>by
      rcases b4 i (by omega) z with B|B;rw[y i (by omega),B]at F;cases F;exact jX1 B)]at h
    have f:uK ft j id=true:=by simp[uK,h2]
    simp only[gD,hj,f,qM2,oK2]at h;exact h;have A:=k2.dom id h;by_cases f7:id<(st 0).s.n;exact .inl f7;obtain⟨i,hi,u⟩:=cov R (j:=j+1) hr.c (by omega) A;refine .inr ⟨i,by have:=hr.c;omega,?_,u⟩;by_cases e:i=j;rw[e];exact hj;rw[y i e];rcases b6 i (by omega)with B|B;exact B;rw[xM u]at B;cases B
  ·
    rw[q1];simp only[oK2];have b5:=oW q.t c2 (f1.trans q2);have b9:(ft j).all=1:=by rw[q4]
    have e0:(ft j).wr=W:=by rw[q4]
    obtain⟨hid,s',wl,d5,k1,k2,k3,k4,k5,k6,k7,k9,_⟩:=nM q5;have E:=R.wf (pA2 hr.c)
    have b7:∀i,i<ios.length->S i=true->¬i<j->(ft i).wr=[]/\(∀id,id∈(ft i).al->(st (j+1)).s.n<=id)/\(ft i).all≠2:=by
      intro i z F d2
      have d3:j<i:=by
        rcases qU2 j i with h|h;exact h;have:i=j:=by omega
        subst this;rw[hr.no]at F;cases F
      obtain⟨e1,e2,e3,e4,e5,e6⟩:=dK (Eg R hr d d3 z F).1;refine⟨e5.resolve_left (by omega),fun id h=>?_,by have:=Cl e1 (pC (by omega));omega⟩;rw[R.al z]at h;have:=R.mono (i:=j+1) (j:=i) (by omega) (by omega);omega
    have j8:=(R.grows hr.c).n
    have g1:∀id,jV hid (st j).s.n id=true->id<(st j).s.n/\id∉hid:=by
      intro id h;simp only[jV,nJ2,oB2,oY2,pB2]at h;exact⟨by simpa[pQ2]using h.1,h.2⟩
    have e7:∀id,id∉hid->id<(st j).s.n->gD st ft S ios.length id=look (st j).s.h id:=by
      intro id j3 A;rw[wM (j:=j) (pA2 hr.c),zF R (pA2 hr.c)];intro i hi f;rcases zH R hr d hi with h|⟨hb,h,_⟩
      exact h;obtain⟨e1,e2,e3,e4,e5,e6⟩:=dK h;simp only[uK,oE2,pU2,oY2,nR2]at f;rcases f with(f|f)|f;have:=Uw e1 (pC (by omega));omega;rw[e6.resolve_left (by omega)]at f;simp at f;exact absurd (d5 _ (nQ i hi hb f)) j3;intro i hi z F;obtain⟨e1,e2,e3⟩:=b7 i z F (by omega);simp only[uK,qE2,qL2,ne_eq,oY2,pB2];refine⟨⟨e3,fun h=>?_⟩,fun h=>?_⟩;rw[e1]at h;simp at h;have:=e2 id h;omega
    have M:∀id ao,look (hide hid (st j).s.h) id=some ao->gD st ft S ios.length id=some ao/\jV hid (st j).s.n id=true:=by
      intro id ao h;obtain⟨h1,h2⟩:=uS _ E h;have A:=E.lt h1;refine⟨(e7 id h2 A).trans h1,?_⟩;simp only[jV,nJ2,oB2,oY2,pB2];exact⟨by simpa[pQ2]using A,h2⟩
    have hιp:∀id,jV hid (st j).s.n id=true->(g.only (jV hid (st j).s.n)).ι id=g.ι id:=fun id h=>Gh.only_pos h
    have Z:kV P (g.only (jV hid (st j).s.n)) w {h:=hide hid (st j).s.h,n:=(st j).s.n}:=by
      refine⟨fun id ao h=>?_,q.W.only,fun id h=>?_,E.hide _⟩;obtain⟨h1,h2⟩:=M id ao h;exact(q.H id ao h1).names (g:=g) (g2:=g.only _) rfl hιp (hιp id h2) (mD k5 id ao h);simp only[Gh.only]at h;split at h;rename_i hp;exact(g1 id hp).1;exact absurd rfl h
    refine Ec (s':=s') f2 hT c1 k1 (TR.names (g:=g) (g2:=g.only _) rfl hιp k6 b5) Z (oL2 b8 e9) (fun V g' w' m1 m2 m3 m4=>?_);obtain⟨hE,i6⟩:=Ur m3 q.W m2.W
    have hqι:∀id,sQ hid (st j).s.n s'.n id=true->(g.back g' (jV hid (st j).s.n) (st j).s.n).ι id=g'.ι id:=by
      intro id h;simp only[sQ,oE2,nJ2]at h;rcases h with h|⟨h1,h2⟩
      exact sR h;have h1:=oO2 h1;have h2:id<s'.n:=by simpa[pQ2]using h2
      simp only[Gh.back];split;rename_i hc;exfalso;rcases q.dom id (hc.2.resolve_left (by omega))with u|⟨i,u,Y,h5⟩
      omega;by_cases d2:i<j;rw[R.al u]at h5;have:=R.mono (i:=i+1) (j:=j) (by omega) (pA2 hr.c);omega;have h6:=(b7 i u Y d2).2.1 id h5;rw[k3]at h6;simp only at h6;omega;rfl
    have k8:(st (j+1)).s.n=s'.n:=by rw[k3]
    refine hK (g.back g' (jV hid (st j).s.n) (st j).s.n) _ w' ⟨q.ext.trans hE,i6,fun id ao h=>?_,fun id h=>?_,d6 hE (VR.names (g:=g') (g2:=g.back g' _ _) rfl hqι k7 m1),d4 hE,a0⟩;have d0:id∈(ft j).al↔(st j).s.n<=id/\id<(st (j+1)).s.n:=R.al hr.c;by_cases f:(id∈W/\id<(st j).s.n)\/id∈(ft j).al
    ·
      have h1:=zI R hr d y hj (id:=id) (by rw[e0];exact f);rw[h1,k3]at h;simp only at h
      have hq:sQ hid (st j).s.n s'.n id=true:=by
        rcases f with⟨h2,u⟩|h2;obtain⟨e,he,rfl⟩:=rJ2.1 (k4 ▸ h2);have Y:=mC (E.hide hid) k2 e he;obtain⟨d7,h5⟩:=Option.isSome_iff_exists.1 Y.2;have:=(M e.1 d7 h5).2;simp only[sQ,this,Bool.true_or];rw[d0]at h2;have a1:Nat.ble (st j).s.n id=true:=Nat.ble_eq_true_of_le h2.1;have a2:Nat.blt id s'.n=true:=by simp only[pQ2];omega
        simp only[sQ,a1,a2,qM2,Bool.or_true]
      rcases yS (m2.wf) h with⟨h2,u,Y⟩|h2;exact(m2.H id ao u).names (g:=g') (g2:=g.back g' _ _) rfl hqι (hqι id hq) Y;rcases wH _ _ _ _ h2 with⟨u,Y⟩|u;exfalso;rw[<-k4]at Y;rcases f with⟨h5,_⟩|h5;exact Y h5;rw[d0]at h5;have:=E.lt u;omega;exact(m2.H id ao ((kZ k2).2 _ u)).names (g:=g') (g2:=g.back g' _ _) rfl hqι (hqι id hq) (by have:=nN2.1 k9 _ u;exact this)
    have h1:gD st ft S ios.length id=some ao:=sW R hr d y hj (fun U=>by
      exfalso;simp only[uK,b9,e0,oE2,oY2,nR2]at U;rcases U with(U|U)|U;cases U;obtain⟨e,he,rfl⟩:=rJ2.1 (k4 ▸ U);exact f (.inl ⟨U,(mC (E.hide hid) k2 e he).1⟩);exact f (.inr U)) h
    cases hp:jV hid (st j).s.n id with
    |true=>
      obtain⟨h2,u⟩:=g1 id hp;have Y:look (hide hid (st j).s.h) id=some ao:=by rw[sP hid u,<-e7 id u h2];exact h1
      have h5:id∉wl.map (·.1):=fun h6=>f (.inl ⟨by rw[k4];exact h6,h2⟩);exact(m2.H id ao ((kZ k2).1 id ao Y h5)).names (g:=g') (g2:=g.back g' _ _) rfl hqι (sR hp) (Lh (fun i h=>by simp only[sQ,h,Bool.true_or]) (mD k5 id ao Y))
    |false=>
      have h2:=q.H id ao h1;have u:g.ι id≠none:=h2.some;refine h2.mono hE.le (yV hp u) (fun loc hl=>m3.keep _ (q.W.lt id loc hl) (fun id' loc' j7 d9 e=>?_));simp only[Gh.only]at d9;split at d9;rename_i h8;have:=q.W.inj id' id loc' loc d9 hl e;subst this;rw[hp]at h8;cases h8;cases d9
    by_cases hg:g.ι id=none
    have h2:g'.ι id≠none:=by
      simp only[Gh.back]at h;split at h;exact absurd hg h;exact h
    have u:id<s'.n:=m2.dom id h2;by_cases f7:id<(st 0).s.n;exact .inl f7;by_cases A:id<(st j).s.n;obtain⟨i,hi,Y⟩:=cov R (pA2 hr.c) (by omega) A;rcases zH R hr d hi with h5|⟨hb,_,_⟩
    refine .inr ⟨i,by have:=hr.c;omega,?_,Y⟩;rw[y i (by omega)];exact h5;have h6:id∈hid:=d5 _ (nQ i hi hb Y)
    have h7:jV hid (st j).s.n id=false:=by
      cases hp:jV hid (st j).s.n id with
      |false=>rfl
      |true=>exact absurd h6 (g1 id hp).2
    exfalso;simp only[Gh.back]at h;rw[nQ2 ⟨h7,.inl A⟩]at h;exact h hg;refine .inr ⟨j,hr.c,hj,?_⟩;rw[R.al hr.c];omega;exact L id (q.dom id hg)
end
end Go.Sim
namespace Go.Sim
section
variable {P:Program} {T:iG} {ex:Nat->Bool->IC->St->Option (Ex×St)} {lim:Nat} {ops:Array Oper} {ios:List Sim.Op1} {st:Nat->St} {ft:Nat->Foot} {v:Nat->AV} {r:Option Nat} {n base:Nat} {g0:Gh} {w0:World}
def dX (a:Array Bool) (i:Nat):Bool:=a.getD i false
theorem zJ (a:Array Bool) (i j:Nat) (h:j<a.size):dX (a.setIfInBounds j true) i=if i=j then true else dX a i:=by
 unfold dX;by_cases e:i=j;subst e;simp[h];simp[e,Array.getElem?_setIfInBounds_ne (Ne.symm e)]
theorem Uy (R:sB P T ex lim ops ios st ft v) (x:mK P ex) (F:gP P T) (p:lim<=(st 0).s.n) {Q:Exit->Act->World->Prop}
  (hQ:∀(S:Nat->Bool) g a w,(∀i,i<ios.length->S i=true)->bD1 P ops ios st ft v lim base g0 w0 S g a w->Q .normal a w):
  ∀(d:Nat) (b:Array Bool) (g:Gh) (a:Act) (w:World),b.size=ops.size->b.toList.count false<=d->bD1 P ops ios st ft v lim base g0 w0 (dX b) g a w->wpAnyIn (FW r) n P .any ops Q d b a w:=by
 have H:=R.size
 have l:∀(b:Array Bool),b.size=ops.size->Region.ready .any ops b=[]->∀i,i<ios.length->dX b i=true:=by
  intro b hl hr i
  induction i using Nat.strongRecOn with
  |_ i ih=>
   intro hi;cases h:dX b i with
   |true=>rfl
   |false=>
    exfalso;obtain⟨io,o,h1,h2,C⟩:=R.get hi
    have D:i∈Region.ready .any ops b:=by
     rw[mem_ready];have c:i<b.size:=by omega
     refine⟨by simp only[dX]at h;simp[c]at h ⊢;exact h,o,by simpa using h2,fun e he hb=>?_⟩;have A:=R.back i o h2 e (by simpa using he) hb;exact ih e.on A (by omega)
    rw[hr]at D;cases D
 intro d
 induction d with
 |zero=>
  intro b g a w hl hc q
  have f:∀i,i<ios.length->dX b i=true:=by
   intro i hi;have c:i<b.size:=by omega
   have m:b.toList.count false=0:=by omega
   rw[List.count_eq_zero]at m;cases h:dX b i with
   |true=>rfl
   |false=>
    exfalso;apply m;simp only[dX]at h;simp[c]at h;rw[<-h];simp
  refine⟨?_,hQ _ g a w f q⟩;rw[List.eq_nil_iff_forall_not_mem];intro i hi;rw[mem_ready]at hi;obtain⟨h1,o,h2,_⟩:=hi;have y:i<ops.size:=(oH2.1 h2).1;have:=f i (by omega);have c:i<b.size:=by omega
  simp only[dX]at this;simp[c]at h1 this;rw[h1]at this;cases this
 |succ d ih=>
  intro b g a w hl hc q;refine⟨fun hr=>hQ _ g a w (l b hl hr) q,fun i hi=>?_⟩;rw[mem_ready]at hi;obtain⟨h1,o,h2,C⟩:=hi;have y:i<ops.size:=(oH2.1 h2).1;have c:i<b.size:=by omega
  obtain⟨io,o',J,B,K⟩:=R.get (j:=i) (by omega)
  have:o'=o:=by
   have t:ops.toList[i]? =some o:=by simpa using h2
   rw[t]at B;cases B;rfl
  subst this
  have k:dX b i=false:=by
   simp only[dX];simp[c]at h1 ⊢;exact h1
  have hr:Rdy ops ios (dX b) i o' io:=⟨B,J,by omega,k,fun e he hb=>C e (by simpa using he) hb⟩
  refine Rb (S':=dX (b.setIfInBounds i true)) R x F p hr K q (fun j G=>by rw[zJ _ _ _ c,nS2 G]) (by rw[zJ _ _ _ c,nQ2 rfl]) (fun g' a' w' u=>?_);refine ih _ g' a' w' (by simpa using hl) ?_ u;have E:(b.setIfInBounds i true).toList=b.toList.set i true:=by simp
  have z:b.toList[i]'(by simpa using c)=false:=by
   simp only[dX]at k;simp[c]at k;simpa using k
  rw[E,List.count_set (by simpa using c),z,nQ2 (by rfl),nS2 (by decide)];omega
theorem bG1 (L:gP P T) (y:P.follows .mixedOrders=true) {ex:Nat->Bool->IC->St->aB (Ex×St)} (B:mK P ex) (C:nO ex):Ln P T ex:=by
 intro lim ops ios σ F fs id hc l z k r g a w n base O f hl hb M;obtain⟨st,ft,v,_,q,x,E,K⟩:=Hq ios 0 σ (fun _=>{}) F fs z;simp only[pE2]at x E K;have hlen:fs.length=ios.length:=by rw[E,revF_length]
 rw[E,revF_length]at k;simp only[Tn,nJ2,nN2]at l;obtain⟨r1,r2⟩:=l
 have R:sB P T ex lim ops ios st ft v:=by
  refine⟨hc,fun j o D e he A=>?_,fun j o D i p hi hp=>?_,K,wL k,C,by rw[q];exact f.wf⟩;have:=r1 (o,j) (by rw[oF2];exact⟨j,by simp[D]⟩);simp only[nN2,oE2,oB2,nR2]at this;rcases this e he with h|h;rw[A]at h;cases h;exact h;have:=r2 (o,j) (by rw[oF2];exact⟨j,by simp[D]⟩);have h:=wK this i p hp (by omega);rw[pE2]at h;exact h
 have N:=R.size;refine wpIn_region_any y ?_;have hw:kV P g {w with drawn:=w.drawn+1} σ.s:=⟨fun id ao h=>(f.H id ao h).mono (.refl g) rfl (fun _ _=>rfl),⟨f.W.still,f.W.lt,f.W.out,f.W.inj⟩,f.dom,f.wf⟩
 have G:oR lim g g w {w with drawn:=w.drawn+1}:=⟨.refl g,nM2 _,fun _ _ _=>rfl,fun id loc h=>.inl ⟨loc,h,rfl⟩,fun _ _=>rfl,rfl,rfl,rfl,fun _ _ h=>.inl h,fun _ R h=>⟨R,h⟩⟩
 refine Uy (base:=base) (g0:=g) (w0:=w) R B L (by rw[q];exact hl) ?_ ops.size (Array.replicate ops.size false) g a _ (by simp) (by simp) ?_;intro S g' a' w' J u;refine⟨rfl,g',?_⟩
 have b:∀id,gD st ft S ios.length id=look F.s.h id:=fun id=>by
  rw[zF R (nM2 _) (fun i hi _=>J i hi),x]
 have m:tl ios st v S ios.length=F.t:=by
  rw[<-x];exact rH2 (fun t=>tlA R (nM2 _) (fun i hi _=>J i hi))
 have d:=R.mono (i:=0) (j:=ios.length) (by omega) (nM2 _);rw[q,x]at d;refine⟨by rw[<-m];exact u.t,⟨fun id ao h=>u.H id ao (by rw[b];exact h),u.W,fun id h=>?_,by have:=R.wf (nM2 ios.length);rw[x]at this;exact this⟩,u.ext,d,u.marks⟩;rcases u.dom id h with h1|⟨i,h1,h2,h3⟩
 rw[q]at h1;omega;rw[R.al h1]at h3;have:=R.mono (i:=i+1) (j:=ios.length) (by omega) (nM2 _);rw[x]at this;omega
 have c:∀i,dX (Array.replicate ops.size false) i=false:=by
  intro i;simp only[dX];by_cases h:i<ops.size;simp[h];simp[h]
 have b:∀id,gD st ft (dX (Array.replicate ops.size false)) ios.length id=look σ.s.h id:=by
  intro id;rw[wM (j:=0) (by omega) (fun i _ _ h=>by rw[c i]at h;cases h),<-q];rfl
 have m:tl ios st v (dX (Array.replicate ops.size false)) ios.length=σ.t:=by
  rw[<-q];have h2:∀t,(tl ios st v (dX (Array.replicate ops.size false)) ios.length)[t]? =(tl ios st v (dX (Array.replicate ops.size false)) 0)[t]? :=fun t=>tlB (by omega) (fun i _ _ h=>by rw[c i]at h;cases h);exact rH2 h2
 exact⟨G,hw.W,fun id ao h=>hw.H id ao (by rw[<-b];exact h),fun id h=>.inl (by rw[q];exact hw.dom id h),by rw[m];exact O,M.ext G,fun i oi h=>by rw[c i]at h;cases h⟩
theorem zK (b:gP P T) (a:P.follows .mixedOrders=true) (d:Nat):mK P (exec T d):=bC1 b (fun d h=>bG1 b a h (yZ T d)) d
end
end Go.Sim
namespace Go.Sim
open Go.RowKit
def gW (w:World):Gh:={G:=fun b=>w.heap[b]?,ι:=fun _=>none}
theorem Rc (P:Program) (w:World):kV P (gW w) w {h:=[],n:=0}:=
 ⟨fun id ao h=>by simp[look]at h,⟨fun b o h=>h,fun id loc h=>by simp[gW]at h,fun id loc h=>by simp[gW]at h,fun id id' loc loc' h=>by simp[gW]at h⟩,fun id h=>by simp[gW]at h,trivial⟩
theorem Re {P:Program} {T:iG} (g:gP P T) (a:P.follows .mixedOrders=true) {f:FuncId} {args:aA AV} {Args:Array Value} {d:Nat} {s':Hp} {w:World} {x:Value} (hg:Value.ground x=true)
  (h:callF T (exec T d) 0 f args {h:=[],n:=0}=some (.v x,s')) (i:TR (gW w) args Args.toList):Calls P f Args w fun e w'=>e=.returned x/\Below w.heap.size w w':=by
 have h1:=sN (n:=0) (zK g a d) g h i (Rc P w) (nM2 _);refine callsIn_wide.1 (CallsIn.mono (F:=Fence.wide) h1 ?_);rintro e w' ⟨V,g',rfl,j,k,c,l⟩;refine⟨by rw[j.ground],⟨c.os,c.tape,c.output,c.size,fun b hb=>c.keep b hb (fun id loc _ hi=>by simp[gW]at hi)⟩⟩
def Uz (P:Program):aA Field->Nat->Nat->Bool
 |[],off,m=>off==m
 |f::fs,off,m=>f.offset==off&&Uz P fs (off+P.cellsOf f.type) m
def fG (P:Program):Nat->TypeId->Bool
 |0,_=>false
 |d+1,t=>
  match P.underlying t with
  |some .bool|some (.int _)|some .string=>true
  |some (.slice e)=>P.cellsOf e !=0&&fG P d e
  |some (.struct fs)=>Uz P fs.toList 0 (P.cellsOf t)&&fs.toList.all fun f=>fG P d f.type
  |some (.array n e)=>P.cellsOf t==n*P.cellsOf e&&fG P d e
  |_=>false
def bH1 (F:TypeId->aA AV->Prop) (P:Program):aA Field->aA AV->Prop
 |[],cs=>cs=[]
 |f::fs,cs=>∃c1 c2,cs=c1++c2/\c1.length=P.cellsOf f.type/\F f.type c1/\bH1 F P fs c2
def kQ (P:Program):Nat->TypeId->aA AV->Prop
 |0,_,_=>False
 |d+1,t,cs=>
  match P.underlying t with
  |some .bool=>∃b,cs=[.v (.bool b)]
  |some (.int k)=>∃n,cs=[.v (.int k n)]/\(Lit.int k n).wf=true
  |some .string=>∃s:ByteArray,cs=[.v (.string s)]/\s.size<=maxLen
  |some (.slice e)=>cs=[.v (.slice none 0 0)]\/∃els:aA (aA AV),cs=[.is (P.cellsOf e) els]/\els.length<=maxLen/\∀row∈els,row.length=P.cellsOf e/\kQ P d e row
  |some (.struct fs)=>bH1 (kQ P d) P fs.toList cs
  |some (.array n e)=>∃rows:aA (aA AV),cs=rows.flatten/\rows.length=n/\∀row∈rows,row.length=P.cellsOf e/\kQ P d e row
  |_=>False
theorem lN {α β:Type} {f:α->aB β}:∀{l:aA α} {r:aA β},l.mapM f=some r->r.length=l.length/\∀(i:Nat) (x:α),l[i]? =some x->∃y,f x=some y/\r[i]? =some y
 |[],r,h=>by
  simp at h
  subst h
  exact⟨rfl,fun i x h=>by simp at h⟩
 |a::l,r,h=>by
  simp only[rB2,Option.bind_eq_bind,nI2,Option.pure_def,nP2]at h
  obtain⟨b,hb,g,c,rfl⟩:=h
  obtain⟨h1,h2⟩:=lN c
  refine⟨by simp[h1],fun i x hi=>?_⟩
  cases i with
  |zero=>simp at hi;subst hi;exact⟨b,hb,rfl⟩
  |succ i=>simp at hi;obtain⟨y,d,e⟩:=h2 i x hi;exact⟨y,d,by simpa using e⟩
theorem uZ {w:World} {base:Nat} {a:Addr} {n:Nat} {cs:aA Value} (h:w.cells? base a n=some cs):cs.length=n/\∀i,i<n->w.cell? (a.add i)=cs[i]? :=by
 unfold World.cells? at h;split at h;obtain⟨h1,h2⟩:=lN h;refine⟨by simpa using h1,fun i hi=>?_⟩;obtain⟨y,b,c⟩:=h2 i i (by simp[hi]);rw[b,c];cases h
theorem bI1 {w:World} {a:Addr} {j:Nat} {y:Value} (h:w.cell? (a.add j)=some y) (hs:a.spot=none):(gW w).cell a j=some y:=by
 have d:a.add j=⟨a.block,a.off+j,none⟩:=by
  obtain⟨b,o,s⟩:=a;simp only at hs;subst hs;exact hZ b o j
 rw[d]at h;unfold World.cell? at h;split at h;rename_i c e fr hb;simp only at hb;simp only[Gh.cell,gW,hb];simpa using h;cases h
theorem pD {α:Type} {Q:Nat->α->Prop}:∀{n:Nat},(∀i,i<n->∃x,Q i x)->∃l:aA α,l.length=n/\∀(i:Nat) (x:α),l[i]? =some x->Q i x
 |0,_=>⟨[],rfl,fun i x h=>by simp at h⟩
 |n+1,h=>by
  obtain⟨l,h1,h2⟩:=pD (n:=n) (fun i hi=>h i (by omega))
  obtain⟨x,b⟩:=h n (by omega)
  refine⟨l++[x],by simp[h1],fun i y hy=>?_⟩
  rw[pF2]at hy
  split at hy
  exact h2 i y hy
  rename_i hi
  have a:i=n:=by
   have:=(nK2.1 hy).1;simp at this;omega
  subst a;simp[h1]at hy;subst hy;exact b
theorem TR.of_parts {g:Gh} {c1 c2:aA AV} {C:aA Value} {k:Nat} (h1:TR g c1 (C.take k)) (h2:TR g c2 (C.drop k)):TR g (c1++c2) C:=by
 have:=h1.app h2
 rwa [qS2]at this
section
variable {H:Type} {enc:TypeId×Value->H} {P:Program} {w:World} {held:Bool}
def Rd (P:Program) (w:World) (D:Nat) (t:TypeId) (Cs:aA Value):Prop:=∃cs,TR (gW w) cs Cs/\kQ P D t cs/\∀y∈Cs,isCell y=true
theorem wN {D a:Nat} (IH:∀t Cs g ps,DataW.trod enc P w 0 (fun _=>true) held a t Cs=some (g,ps)->fG P D t=true->Rd P w D t Cs):∀(fs:aA Field) (off m:Nat) (Cs:aA Value) (xs:aA (DataW H×aA MemPlace)),
  fs.mapM (fun f=>DataW.trod enc P w 0 (fun _=>true) held a f.type ((Cs.drop f.offset).take (P.cellsOf f.type)))=some xs->Uz P fs off m=true->(fs.all fun f=>fG P D f.type)=true->Cs.length=m->
  ∃cs,TR (gW w) cs (Cs.drop off)/\bH1 (kQ P D) P fs cs/\(∀y∈Cs.drop off,isCell y=true)/\off<=m
 |[],off,m,Cs,xs,h,hs,hp,hl=>by
  simp only[Uz,pU2]at hs
  subst hs
  have:Cs.drop off=[]:=by rw[List.drop_eq_nil_iff];omega
  rw[this]
  exact⟨[],.nil _,rfl,fun y h=>by simp at h,nM2 _⟩
 |f::fs,off,m,Cs,xs,h,hs,hp,hl=>by
  simp only[rB2,Option.bind_eq_bind,nI2,Option.pure_def,nP2]at h
  obtain⟨b,hb,e,d,rfl⟩:=h
  simp only[Uz,nJ2,pU2]at hs
  obtain⟨rfl,hs⟩:=hs
  simp only[pL2,nJ2]at hp
  obtain⟨cs2,i,j,k,l⟩:=wN IH fs (f.offset+P.cellsOf f.type) m Cs e d hs hp.2 hl
  obtain⟨c,q1,q2,q3⟩:=IH f.type _ b.1 b.2 hb hp.1
  have hd:(Cs.drop f.offset).drop (P.cellsOf f.type)=Cs.drop (f.offset+P.cellsOf f.type):=by rw[qF2]
  refine⟨c++cs2,TR.of_parts q1 (by rw[hd];exact i),⟨c,cs2,rfl,?_,q2,j⟩,fun y hy=>?_,by omega⟩
  rw[q1.1,qH2,List.length_drop]
  omega
  rw[<-qS2 (P.cellsOf f.type) (Cs.drop f.offset),hd,pI2]at hy
  rcases hy with hy|hy
  exact q3 y hy
  exact k y hy
theorem Rf {a:Nat} {t:TypeId} {Cs:aA Value} {x:DataW H×aA MemPlace} (c:P.underlying t=some .bool) (h:DataW.trod enc P w 0 (fun _=>true) held (a+1) t Cs=some x):∃b,Cs=[.bool b]:=by
 unfold DataW.trod at h;rw[c]at h;split at h<;>simp_all
theorem Va {a:Nat} {t:TypeId} {Cs:aA Value} {k:IntKind} {x:DataW H×aA MemPlace} (b:P.underlying t=some (.int k)) (h:DataW.trod enc P w 0 (fun _=>true) held (a+1) t Cs=some x):∃n,Cs=[.int k n]/\(Lit.int k n).wf=true:=by
 unfold DataW.trod at h;rw[b]at h;split at h<;>simp_all
theorem Hv {a:Nat} {t:TypeId} {Cs:aA Value} {x:DataW H×aA MemPlace} (b:P.underlying t=some .string) (h:DataW.trod enc P w 0 (fun _=>true) held (a+1) t Cs=some x):∃s:ByteArray,Cs=[.string s]/\s.size<=maxLen:=by
 unfold DataW.trod at h;rw[b]at h;split at h<;>simp_all
theorem Hw {a:Nat} {t:TypeId} {fs:Array Field} {Cs:aA Value} {x:DataW H×aA MemPlace} (b:P.underlying t=some (.struct fs)) (h:DataW.trod enc P w 0 (fun _=>true) held (a+1) t Cs=some x):
  Cs.length=P.cellsOf t/\∃xs,fs.toList.mapM (fun f=>DataW.trod enc P w 0 (fun _=>true) held a f.type ((Cs.drop f.offset).take (P.cellsOf f.type)))=some xs:=by
 unfold DataW.trod at h;rw[b]at h;split at h<;>simp_all;obtain⟨_,y,h,_⟩:=h;exact⟨y,h⟩
theorem Lp {a n:Nat} {t e:TypeId} {Cs:aA Value} {x:DataW H×aA MemPlace} (b:P.underlying t=some (.array n e)) (h:DataW.trod enc P w 0 (fun _=>true) held (a+1) t Cs=some x):
  Cs.length=P.cellsOf t/\∃xs,(List.range n).mapM (fun i=>DataW.trod enc P w 0 (fun _=>true) held a e ((Cs.drop (i*P.cellsOf e)).take (P.cellsOf e)))=some xs:=by
 unfold DataW.trod at h;rw[b]at h;split at h<;>simp_all;obtain⟨_,y,h,_⟩:=h;exact⟨y,h⟩
theorem Lq {c:Nat} {t e:TypeId} {Cs:aA Value} {x:DataW H×aA MemPlace} (k:P.underlying t=some (.slice e)) (h:DataW.trod enc P w 0 (fun _=>true) held (c+1) t Cs=some x):
  Cs=[.slice none 0 0]\/∃a len cap,Cs=[.slice (some a) len cap]/\len<=cap/\cap<=maxLen/\∀i,i<cap->∃row y,w.cells? 0 (a.add (i*P.cellsOf e)) (P.cellsOf e)=some row/\DataW.trod enc P w 0 (fun _=>true) held c e row=some y:=by
 unfold DataW.trod at h;rw[k]at h;split at h
 all_goals first|(simp_all;done)|skip
 rename_i e' a len cap he;cases he;right;simp only at h;split at h
 .rename_i hc
  obtain⟨_,c1,c2⟩:=hc;simp only[nI2,oK2,nL2]at h;obtain⟨d,h1,bW,h2,_⟩:=h;refine⟨a,len,cap,rfl,c1,c2,fun i hi=>?_⟩;by_cases f:i<len
  .obtain ⟨y,b,_⟩:=(lN h1).2 i i (qW2 f)
   simp only[nI2]at b;obtain⟨row,b,g⟩:=b;exact⟨row,y,b,g⟩
  .obtain ⟨y,b,_⟩:=(lN h2).2 (i-len) (i-len) (qW2 (by omega))
   have j:len+(i-len)=i:=by omega
   rw[j]at b;simp only[nI2]at b;obtain⟨row,b,g⟩:=b;exact⟨row,y,b,g⟩
 .cases h
theorem Oe:∀(D f:Nat) (t:TypeId) (Cs:aA Value) (G:DataW H) (ps:aA MemPlace),DataW.trod enc P w 0 (fun _=>true) held f t Cs=some (G,ps)->fG P D t=true->Rd P w D t Cs
 |0,_,_,_,_,_,_,hp=>by simp[fG]at hp
 |D+1,0,_,_,_,_,h,_=>by simp[DataW.trod]at h
 |D+1,f+1,t,Cs,G,ps,h,hp=>by
  have IH:=fun t Cs G ps=>Oe D f t Cs G ps
  have one:∀{x:AV} {y:Value},VR (gW w) x y->isCell y=true->kQ P (D+1) t [x]->Rd P w (D+1) t [y]:=fun h1 h2 r=>
   ⟨_,.cons h1 (.nil _),r,fun y hy=>by simp at hy;subst hy;exact h2⟩
  unfold fG at hp
  split at hp
  rename_i c
  obtain⟨b,rfl⟩:=Rf c h
  exact one (.v rfl) rfl (by simp[kQ,c])
  rename_i k c
  obtain⟨n,rfl,hn⟩:=Va c h
  exact one (.v rfl) rfl (by simp[kQ,c];exact hn)
  rename_i c
  obtain⟨s,rfl,hs⟩:=Hv c h
  exact one (.v rfl) rfl (by simp[kQ,c];exact hs)
  rename_i e c
  simp only[nJ2,bne_iff_ne,ne_eq]at hp
  obtain⟨h0,hp⟩:=hp
  rcases Lq c h with rfl|⟨a,len,cap,rfl,c1,c2,aK⟩
  exact one (x:=.v (.slice none 0 0)) (.v rfl) rfl (by simp[kQ,c])
  by_cases L:cap=0
  have N:len=0:=by omega
  subst L;subst N
  exact one (x:=.is (P.cellsOf e) []) .is0 rfl (by simp[kQ,c])
  have d:∀i,i<cap->∃row:aA AV,row.length=P.cellsOf e/\kQ P D e row/\a.spot=none/\∀(j:Nat) (x:AV),row[j]? =some x->∃y,(gW w).cell a (i*P.cellsOf e+j)=some y/\isCell y=true/\VR (gW w) x y:=by
   intro i hi;obtain⟨row,y,R,S⟩:=aK i hi;obtain⟨Z,U⟩:=uZ R;obtain⟨cs,q1,q2,q3⟩:=IH e row y.1 y.2 S hp
   have hs:a.spot=none:=by
    have h1:=U 0 (by omega);have h2:row[0]? =some row[0]:=by simp
    rw[h2]at h1;have r:=World.cell?_spot h1;unfold Addr.add at r;split at r;split at r;exact r;rename_i X;obtain⟨F,_,O,_⟩:=aK 0 (by omega);obtain⟨l3,T⟩:=uZ O;have B:=T 0 (by omega);have J:F[0]? =some F[0]:=by simp
    rw[J]at B;have K:=World.cell?_spot B;simpa[Addr.add]using K;obtain⟨F,_,O,_⟩:=aK 0 (by omega);obtain⟨l3,T⟩:=uZ O;have B:=T 0 (by omega);have J:F[0]? =some F[0]:=by simp
    rw[J]at B;have K:=World.cell?_spot B;simpa[Addr.add]using K
   refine⟨cs,by rw[q1.1,Z],q2,hs,fun j x u=>?_⟩;have hj:j<row.length:=by rw[<-q1.1];exact(nK2.1 u).1
   have hc:=U j (by omega);have C:row[j]? =some row[j]:=by simp
   rw[C]at hc
   have W:(a.add (i*P.cellsOf e)).add j=a.add (i*P.cellsOf e+j):=by
    obtain⟨b,o,s⟩:=a;simp only at hs;subst hs;rw[hZ,hZ,hZ,pC2]
   rw[W]at hc;exact⟨row[j],bI1 hc hs,q3 _ (by simp),q1.2 j x _ u C⟩
  obtain⟨els,A,e2⟩:=pD (n:=len) (fun i hi=>d i (by omega));obtain⟨_,_,_,hs,_⟩:=d 0 (by omega)
  have hv:VR (gW w) (.is (P.cellsOf e) els) (.slice (some a) els.length cap):=
   .is hs (by omega) (fun i row hr=>(e2 i row hr).1) (fun i row j x hr u=>by
    obtain⟨y,z,V,_⟩:=(e2 i row hr).2.2.2 j x u;exact⟨y,z,V⟩) (fun i row j x y hr u hy=>by
    obtain⟨y',z,V,y3⟩:=(e2 i row hr).2.2.2 j x u;rw[hy]at z;cases z;exact y3)
  rw[A]at hv;refine one hv rfl ?_;simp only[kQ,c];refine .inr ⟨els,rfl,by omega,fun row hr=>?_⟩;obtain⟨i,hi⟩:=oF2.1 hr;exact⟨(e2 i row hi).1,(e2 i row hi).2.1⟩;rename_i fs c;simp only[nJ2]at hp;obtain⟨hl,xs,q⟩:=Hw c h;obtain⟨cs,R,S,Y,_⟩:=wN IH fs.toList 0 (P.cellsOf t) Cs xs q hp.1 hp.2 hl;exact⟨cs,by simpa using R,by simpa only[kQ,c]using S,by simpa using Y⟩;rename_i n e c;simp only[nJ2,pU2]at hp;obtain⟨hl,xs,q⟩:=Lp c h;rw[hp.1]at hl
  have d:∀i,i<n->∃row:aA AV,TR (gW w) row ((Cs.drop (i*P.cellsOf e)).take (P.cellsOf e))/\kQ P D e row/\∀y∈(Cs.drop (i*P.cellsOf e)).take (P.cellsOf e),isCell y=true:=by
   intro i hi;obtain⟨y,z,_⟩:=(lN q).2 i i (by simp[hi]);exact IH e _ y.1 y.2 z hp.2
  obtain⟨rows,r1,r2⟩:=pD d
  have hlen:∀row∈rows,row.length=P.cellsOf e:=by
   intro row hr;obtain⟨i,hi⟩:=oF2.1 hr;have M:i<n:=by rw[<-r1];exact(nK2.1 hi).1
   rw[(r2 i row hi).1.1,qH2,List.length_drop,hl];have:(i+1)*P.cellsOf e<=n*P.cellsOf e:=oU2 _ M;rw[pP2]at this;omega
  have key:∀(m:Nat) (l:aA (aA AV)),l.length=m->(∀(i:Nat) (row:aA AV),l[i]? =some row->TR (gW w) row ((Cs.drop ((n-m+i)*P.cellsOf e)).take (P.cellsOf e))/\∀y∈(Cs.drop ((n-m+i)*P.cellsOf e)).take (P.cellsOf e),isCell y=true)->m<=n->
    TR (gW w) l.flatten (Cs.drop ((n-m)*P.cellsOf e))/\∀y∈Cs.drop ((n-m)*P.cellsOf e),isCell y=true:=by
   intro m
   induction m with
   |zero=>
    intro l p _ _;have:l=[]:=by cases l;rfl;simp at p
    subst this;have:Cs.drop ((n-0)*P.cellsOf e)=[]:=by rw[List.drop_eq_nil_iff,hl];simp
    rw[this];exact⟨.nil _,fun y h=>by simp at h⟩
   |succ m ih=>
    intro l p hr hm;cases l with
    |nil=>simp at p
    |cons row l=>
     have h0:=hr 0 row rfl;rw[pO2]at h0
     have g:=ih l (by simpa using p) (fun i E hi=>by
      have:=hr (i+1) E (by simpa using hi);have A:n-(m+1)+(i+1)=n-m+i:=by omega
      rwa [A]at this) (by omega)
     have hd:(Cs.drop ((n-(m+1))*P.cellsOf e)).drop (P.cellsOf e)=Cs.drop ((n-m)*P.cellsOf e):=by
      rw[qF2];congr 1;have:n-m=n-(m+1)+1:=by omega
      rw[this,pP2]
     refine⟨by simpa using TR.of_parts h0.1 (by rw[hd];exact g.1),fun y hy=>?_⟩;rw[<-qS2 (P.cellsOf e) (Cs.drop ((n-(m+1))*P.cellsOf e)),hd,pI2]at hy;rcases hy with hy|hy;exact h0.2 y hy;exact g.2 y hy
  have hk:=key n rows r1 (fun i row hi=>by
   have A:n-n+i=i:=by omega
   rw[A];exact⟨(r2 i row hi).1,(r2 i row hi).2.2⟩) (nM2 _)
  simp only[Nat.sub_self,rK2,pG2]at hk;refine⟨rows.flatten,hk.1,?_,hk.2⟩;simp only[kQ,c];refine⟨rows,rfl,r1,fun row hr=>⟨hlen row hr,?_⟩⟩;obtain⟨i,hi⟩:=oF2.1 hr;exact(r2 i row hi).2.1;cases hp
end
end Go.Sim
namespace Go.Sim
section
variable {T:iG} {ex ex':Nat->Bool->IC->St->Option (Ex×St)}
def sX (ex ex':Nat->Bool->IC->St->aB (Ex×St)):Prop:=∀lim rd c σ r,ex lim rd c σ=some r->ex' lim rd c σ=some r
theorem vA (b:sX ex ex') {lim:Nat} {fn:IFn} {args:aA AV} {s:Hp} {r:AV×Hp} (h:body ex lim fn args s=some r):body ex' lim fn args s=some r:=by
 unfold body at h ⊢;split at h;cases h;rename_i e σ a he;rw[b _ _ _ _ _ he];cases e with
 |exit id=>exact absurd rfl (a id)
 |normal=>exact h
 |ret=>exact h
 cases h
theorem mono_runP (a:sX ex ex') {f:FuncId} {fn:IFn} {args:aA AV} {r:AV} (h:runP T ex f fn args=some r):runP T ex' f fn args=some r:=by
 unfold runP at h ⊢;split at h;rename_i b;exact h;split at h;rename_i hb;rw[vA a hb];exact h;cases h
theorem rK (a:sX ex ex') {lim:Nat} {f:FuncId} {args:aA AV} {s:Hp} {r:AV×Hp} (h:callF T ex lim f args s=some r):callF T ex' lim f args s=some r:=by
 unfold callF at h ⊢;split at h;cases h;rename_i fn c
 (try simp only[c])
 split at h;rename_i hp;rw[nQ2 hp];split at h;rename_i hc;rw[nQ2 hc];simp only[nL2]at h;obtain⟨v,hv,rfl⟩:=h;rw[mono_runP a hv];rfl;rename_i hc;rw[nS2 hc];split at h;rename_i d;rw[nQ2 d];split at h;rename_i as b
 (try simp only[b])
 split at h;rename_i hb;rw[mono_runP a hb];exact h;cases h;cases h;rename_i d;rw[nS2 d];split at h;rename_i hb;rw[vA a hb];exact h;cases h;rename_i hp;rw[nS2 hp];exact vA a h
theorem Lr (a:sX ex ex') {lim l:Nat} {args:aA AV} {s:Hp} {r:AV×Hp} (h:round ex lim l args s=some r):round ex' lim l args s=some r:=by
 unfold Sim.round at h ⊢;split at h;rename_i c
 (try simp only[c])
 split at h;rename_i hc;rw[nQ2 hc];split at h;rename_i σ d;rw[a _ _ _ _ _ d];simp only;split at h;rename_i b
 (try simp only[b])
 split at h;rename_i hb;rw[a _ _ _ _ _ hb];exact h;rename_i hb;rw[a _ _ _ _ _ hb];exact h;rename_i hb;rw[a _ _ _ _ _ hb];exact h;cases h;cases h;cases h;cases h;cases h
theorem qH (a:sX ex ex') {lim:Nat} {k:eE} {xs:aA AV} {s:Hp} {r:AV×Hp} (h:step T ex lim k xs s=some r):step T ex' lim k xs s=some r:=by
 unfold step at h ⊢;split at h;exact rK a h;split at h;unfold callV at h ⊢;split at h;exact rK a h;exact Lr a h;cases h;cases h;exact h
theorem pE (b:sX ex ex') {lim:Nat}:∀{os:aA Sim.Op1} {σ τ:St},runOps T ex lim os σ=some τ->runOps T ex' lim os σ=some τ
 |[],σ,τ,h=>h
 |o::os,σ,τ,h=>by
  simp only[runOps]at h ⊢
  split at h
  rename_i hw
  rw[nQ2 hw]
  split at h
  rename_i c
  (try simp only[c])
  split at h
  rename_i a
  simp only[qH b a]
  exact pE b h
  cases h
  cases h
  rename_i hw
  rw[nS2 hw]
  exact pE b h
theorem jI (c:sX ex ex') {lim:Nat} {before:aA Nat}:∀{os:aA Sim.Op1} {j:Nat} {fs:aA Foot} {σ:St} {r:St×aA Foot},dB T ex lim before os j fs σ=some r->dB T ex' lim before os j fs σ=some r
 |[],j,fs,σ,r,h=>h
 |o::os,j,fs,σ,r,h=>by
  simp only[dB]at h ⊢
  split at h
  rename_i hw
  rw[nQ2 hw]
  split at h
  rename_i e
  (try simp only[e])
  split at h
  rename_i d
  rw[nQ2 d]
  split at h
  rename_i a
  simp only[qH c a]
  exact jI c h
  cases h
  rename_i d
  rw[nS2 d]
  split at h
  rename_i b
  rw[nQ2 b]
  split at h
  rename_i a
  simp only[Lg (fun _ _=>qH c) a]
  exact jI c h
  cases h
  rename_i b
  rw[nS2 b]
  split at h
  rename_i a
  simp only[qH c a]
  exact jI c h
  cases h
  cases h
  rename_i hw
  rw[nS2 hw]
  exact jI c h
theorem Cn (T:iG):∀d,sX (exec T d) (exec T (d+1))
 |0,lim,rd,c,σ,r,h=>by simp[exec]at h
 |d+1,lim,rd,c,σ,r,h=>by
  have ih:=Cn T d
  cases c with
  |skip=>simpa only[exec]using h
  |reg ops=>
   simp only[exec,nL2]at h
   obtain⟨τ,h,rfl⟩:=h
   rw[exec,pE ih h]
   rfl
  |regD ops before=>
   rw[exec]at h ⊢
   split at h
   rename_i hf
   rw[jI ih hf]
   exact h
   cases h
  |seq a b=>
   rw[exec]at h ⊢
   split at h
   rename_i i
   rw[ih _ _ _ _ _ i]
   exact ih _ _ _ _ _ h
   rename_i g
   have h2:=ih _ _ _ _ _ h
   rw[h2]
   obtain⟨e,τ⟩:=r
   cases e with
   |normal=>exact absurd h (g τ)
   |ret=>rfl
   |exit id=>rfl
  |cond c a b=>
   rw[exec]at h ⊢
   split at h
   rename_i hc
   (try simp only[hc])
   exact ih _ _ _ _ _ h
   cases h
  |block id c=>
   rw[exec]at h ⊢
   split at h
   rename_i i
   rw[ih _ _ _ _ _ i]
   exact h
   rename_i g
   have h2:=ih _ _ _ _ _ h
   rw[h2]
   obtain⟨e,τ⟩:=r
   cases e with
   |normal=>rfl
   |ret=>rfl
   |exit id=>exact absurd h (g _ _)
  |loop c=>
   rw[exec]at h ⊢
   split at h
   rename_i i
   rw[ih _ _ _ _ _ i]
   exact ih _ _ _ _ _ h
   rename_i e τ g i
   rw[ih _ _ _ _ _ i]
   cases e with
   |normal=>exact(g rfl).elim
   |ret=>exact h
   |exit id=>exact h
   cases h
  |rangeF f ps a b=>
   rw[exec]at h ⊢
   split at h
   rename_i j
   (try simp only[j])
   split at h
   rename_i hc
   simp only[rK ih hc]
   exact h
   cases h
   cases h
  |exit id=>simpa only[exec]using h
  |ret=>simpa only[exec]using h
theorem mono_le (T:iG) {d a:Nat} (h:d<=a):sX (exec T d) (exec T a):=by
 induction h with
 |refl=>exact fun _ _ _ _ _ h=>h
 |step _ ih=>exact fun _ _ _ _ _ h=>Cn T _ _ _ _ _ _ (ih _ _ _ _ _ h)
end
end Go.Sim
namespace Go.Sim
def iM (P:Program):Nat->aA (aB IFn)->Prop
 |_,[]=>True
 |i,none::r=>iM P (i+1) r
 |i,some ifn::r=>(∃fn,P.funcs[i]? =some fn/\kR P fn ifn.pure ifn.frz=some ifn)/\iM P (i+1) r
theorem iM.get {P:Program}:∀{l:aA (aB IFn)} {i j:Nat} {ifn:IFn},iM P i l->l[j]? =some (some ifn)->∃fn,P.funcs[i+j]? =some fn/\kR P fn ifn.pure ifn.frz=some ifn
 |[],i,j,ifn,_,h=>by simp at h
 |none::r,i,j,ifn,h,hj=>by
  cases j with
  |zero=>simp at hj
  |succ j=>
   have:=iM.get (l:=r) h (by simpa using hj)
   rwa [show i+1+j=i+(j+1)by omega]at this
 |some x::r,i,j,ifn,h,hj=>by
  cases j with
  |zero=>
   simp at hj
   subst hj
   exact h.1
  |succ j=>
   have:=iM.get (l:=r) h.2 (by simpa using hj)
   rwa [show i+1+j=i+(j+1)by omega]at this
def qU:aA (FuncId×aA AV×AV)->FuncId->aA AV->aB AV
 |[],_,_=>none
 |(f',as,v)::r,f,args=>if f=f'/\Gl (sD 20) args as=true then some v else qU r f args
def pF (P:Program):aA (FuncId×aA AV×AV)->Prop
 |[]=>True
 |(f,as,v)::r=>kE P f as v/\pF P r
theorem Hx {P:Program}:∀{M:aA (FuncId×aA AV×AV)} {f:FuncId} {args:aA AV} {v:AV},pF P M->qU M f args=some v->kE P f args v
 |[],_,_,_,_,h=>by cases h
 |(f',as,v')::r,f,args,v,hM,h=>by
  simp only[qU]at h
  split at h
  rename_i hc
  cases h
  rw[hc.1,rE (sO 20) hc.2]
  exact hM.1
  exact Hx hM.2 h
theorem nR {M:aA (FuncId×aA AV×AV)} {f:FuncId} (h:∀e∈M,e.1≠f) (args:aA AV):qU M f args=none:=by
 induction M with
 |nil=>rfl
 |cons e r ih=>
  obtain⟨f',as,v⟩:=e;simp only[qU];rw[nS2 (fun hc=>h (f',as,v) (by simp) hc.1.symm)];exact ih (fun e he=>h e (by simp[he]))
theorem iM.tab {P:Program} {l:aA (aB IFn)} {M:aA (FuncId×aA AV×AV)} (h:iM P 0 l) (a:pF P M):gP P ⟨fun f=>(l[f]?).join,qU M⟩:=by
 refine⟨fun f ifn hf=>?_,fun f args v b=>Hx a b⟩
 have:l[f]? =some (some ifn):=by
  cases hl:l[f]? with
  |none=>simp[hl]at hf
  |some x=>simp[hl]at hf;rw[hf]
 have h2:=iM.get h this
 rwa [pE2]at h2
def Vb (P:Program):aA Func->aA (aB IFn)->aA (aB IFn)
 |_,[]=>[]
 |[],_::_=>[]
 |_::fs,none::r=>none::Vb P fs r
 |fn::fs,some x::r=>kR P fn x.pure x.frz::Vb P fs r
theorem iM.of {P:Program}:∀{l:aA (aB IFn)} {fs:aA Func} {i:Nat},P.funcs.toList.drop i=fs->Vb P fs l=l->iM P i l
 |[],_,_,_,_=>trivial
 |o::r,[],i,_,h=>by cases o<;>cases h
 |none::r,f::fs,i,hd,h=>by
  have hn:P.funcs.toList.drop (i+1)=fs:=by rw[<-qF2,hd];rfl
  exact iM.of (l:=r) hn (List.cons.inj h).2
 |some x::r,f::fs,i,hd,h=>by
  have hn:P.funcs.toList.drop (i+1)=fs:=by rw[<-qF2,hd];rfl
  have hi:P.funcs[i]? =some f:=by
   rw[<-pM2,<-List.head?_drop,hd];rfl
  exact⟨⟨f,hi,(List.cons.inj h).1⟩,iM.of (l:=r) hn (List.cons.inj h).2⟩
theorem zL {P:Program} {T:iG} (b:gP P T) (a:P.follows .mixedOrders=true) {f:FuncId} {fn:IFn} {args:aA AV} {v:AV} {d:Nat} (hf:T f=some fn) (hp:fn.pure=true) (hc:args.all (closed 4)=true)
  (h:runP T (exec T d) f fn args=some v):kE P f args v:=by
 intro g w s n Args e c;exact uU (zK b a d) b hf hc h e c
end Go.Sim
namespace Go.Sim
open Go.RowKit Go.ChangeShapes Go.WideShapes
section
variable {H:Type} {enc:TypeId×Value->H} {P:Program} {W W':World}
theorem bJ1 {a:Addr} {y:Value} (h:W.cell? a=some y):a.block<W.heap.size:=by
 unfold World.cell? at h;split at h;rename_i hb;exact(oH2.1 hb).1;cases h
theorem Ls (hb:Below W.heap.size W W') {a:Addr} {n:Nat} {cs:aA Value} (h:W.cells? 0 a n=some cs):W'.cells? 0 a n=some cs:=by
 unfold World.cells? at h ⊢;simp only[oX2,oK2]at h ⊢;exact mapM_mono (fun x y hxy=>by rw[hb.cell (bJ1 hxy)];exact hxy) h
theorem mU {α β:Type} {f g:α->aB β}:∀{l:aA α} {r:aA β},l.mapM f=some r->(∀x y,x∈l->y∈r->f x=some y->g x=some y)->l.mapM g=some r
 |[],r,h,_=>by simpa using h
 |a::l,r,h,hk=>by
  simp only[rB2,Option.bind_eq_bind,nI2,Option.pure_def,nP2]at h
  obtain⟨b,hb,e,c,rfl⟩:=h
  have h1:=mU c (fun x y d hy=>hk x y (by simp[d]) (by simp[hy]))
  have h2:=hk a b (by simp) (by simp) hb
  simp[rB2,h1,h2]
theorem Co (hb:Below W.heap.size W W') {held:Bool} {sp:Nat->Bool}:∀(b D:Nat) (t:TypeId) (cs:aA Value) (x:DataW H×aA MemPlace),fG P D t=true->
  DataW.trod enc P W 0 (fun _=>true) held b t cs=some x->(∀q∈x.2,sp q.block=true)->DataW.trod enc P W' 0 sp held b t cs=some x
 |0,_,_,_,_,_,h,_=>by simp[DataW.trod]at h
 |b+1,0,_,_,_,hp,_,_=>by simp[fG]at hp
 |b+1,D+1,t,cs,x,hp,h,hs=>by
  have IH:=Co hb (held:=held) (sp:=sp) b D
  unfold fG at hp
  split at hp
  .rename_i d
   unfold DataW.trod at h ⊢
   rw[d]at h ⊢
   split at h<;>simp_all
  .rename_i k d
   unfold DataW.trod at h ⊢
   rw[d]at h ⊢
   split at h<;>simp_all
  .rename_i d
   unfold DataW.trod at h ⊢
   rw[d]at h ⊢
   split at h<;>simp_all
  .rename_i e d
   simp only[nJ2,bne_iff_ne,ne_eq]at hp
   obtain⟨h0,hp⟩:=hp
   unfold DataW.trod at h ⊢
   rw[d]at h ⊢
   split at h
   all_goals first|(simp_all;done)|skip
   rename_i e' a len cap he
   cases he
   simp only at h ⊢
   split at h
   .rename_i hc
    rw[nQ2 hc]
    simp only[nI2,oK2,nL2]at h
    obtain⟨c,h1,bW,h2,rfl⟩:=h
    simp only[pI2]at hs
    have el:∀(i:Nat) (y:DataW H×aA MemPlace),(y∈c\/y∈bW)->((W.cells? 0 (a.add (i*P.cellsOf e)) (P.cellsOf e)).bind (DataW.trod enc P W 0 (fun _=>true) held b e))=some y->
      ((W'.cells? 0 (a.add (i*P.cellsOf e)) (P.cellsOf e)).bind (DataW.trod enc P W' 0 sp held b e))=some y:=by
     intro i y hy h;simp only[nI2]at h ⊢;obtain⟨row,u,v⟩:=h;refine⟨row,Ls hb u,IH e row y hp v (fun q m=>hs q (Or.inr ?_))⟩;rw[List.mem_flatMap];exact⟨y,by simpa using hy,m⟩
    have o:=mU h1 (g:=fun i=>(W'.cells? 0 (a.add (i*P.cellsOf e)) (P.cellsOf e)).bind (DataW.trod enc P W' 0 sp held b e)) (fun i y _ hy h=>el i y (Or.inl hy) h);have l:=mU h2 (g:=fun j=>(W'.cells? 0 (a.add ((len+j)*P.cellsOf e)) (P.cellsOf e)).bind (DataW.trod enc P W' 0 sp held b e)) (fun i y _ hy h=>el (len+i) y (Or.inr hy) h);rw[o];simp only[nT2];by_cases p:cap=0
    .have:cap-len=0:=by omega
     rw[this]at h2 l ⊢;have:bW=[]:=by simpa using h2.symm
     subst this;split<;>simp
    .have hsp:sp a.block=true:=by
      have hlen:c.length+bW.length=cap:=by
       have r:=(lN h1).1;have e2:=(lN h2).1;simp at r e2;omega
      refine hs (.cell a.block (a.off+0)) (Or.inl ?_);unfold MemPlace.row;rw[rJ2];refine⟨0,?_,rfl⟩;rw[List.mem_range,hlen];exact Nat.mul_pos (by omega) (by omega)
     rw[nQ2 hsp,l];rfl
   .cases h
  .rename_i fs d
   simp only[nJ2]at hp;unfold DataW.trod at h ⊢;rw[d]at h ⊢;split at h
   all_goals first|(simp_all;done)|skip
   rename_i s he;cases he;split at h
   .rename_i hc
    rw[nQ2 hc];simp only[nL2]at h ⊢;obtain⟨xs,h1,rfl⟩:=h;refine⟨xs,mU h1 (fun f y hf hy h=>IH f.type _ y ?_ h (fun q m=>hs q ?_)),rfl⟩
    .exact nN2.1 hp.2 f hf
    .rw [List.mem_flatMap]
     exact⟨y,hy,m⟩
   .cases h
  .rename_i n e d
   simp only[nJ2,pU2]at hp;unfold DataW.trod at h ⊢;rw[d]at h ⊢;split at h
   all_goals first|(simp_all;done)|skip
   rename_i n' e' he;cases he;split at h
   .rename_i hc
    rw[nQ2 hc];simp only[nL2]at h ⊢;obtain⟨xs,h1,rfl⟩:=h;refine⟨xs,mU h1 (fun i y hi hy h=>IH e _ y hp.2 h (fun q m=>hs q ?_)),rfl⟩;rw[List.mem_flatMap];exact⟨y,hy,m⟩
   .cases h
  .cases hp
theorem sY (hb:Below W.heap.size W W') {held:Bool} {sp:Nat->Bool} {D:Nat}:∀(c:aA TypeId) (vs:aA Value) (a:aA (DataW H)) (ps:aA MemPlace),(c.all fun t=>fG P D t)=true->
  DataW.TrodAll enc P W 0 (fun _=>true) held c vs a ps->(∀q∈ps,sp q.block=true)->DataW.TrodAll enc P W' 0 sp held c vs a ps
 |[],vs,a,ps,_,h,_=>by
  match vs,a,h with
  |[],[],h=>exact h
 |t::c,vs,a,ps,hp,h,hs=>by
  match vs,a,h with
  |v::vs,d::a,h=>
   obtain⟨p,q,⟨b,h1⟩,h2,rfl⟩:=h
   simp only[pL2,nJ2]at hp
   exact⟨p,q,⟨b,Co hb b D t _ _ hp.1 h1 (fun x e=>hs x (by simp[e]))⟩,sY hb c vs a q hp.2 h2 (fun x e=>hs x (by simp[e])),rfl⟩
def bK1 (P:Program) (W:World) (D:Nat) (t:TypeId) (x:AV) (V:Value):Prop:=
 VR (gW W) x V/\∃cs,kQ P D t cs/\x=(if cQ P t then .agg cs else cs.headD .undef)
theorem jZ1 {D a:Nat} {t:TypeId} {V:Value} {x:DataW H×aA MemPlace} (b:(∃cs,V=.agg cs)↔cQ P t=true) (j:∀cs,V≠.tuple cs) (hp:fG P D t=true)
  (h:DataW.trod enc P W 0 (fun _=>true) true a t V.cells.toList=some x):∃y,bK1 P W D t y V:=by
 obtain⟨cs,h1,h2,f⟩:=Oe D a t _ x.1 x.2 h hp;by_cases d:cQ P t=true;obtain⟨Cs,rfl⟩:=b.2 d;refine⟨.agg cs,.agg (by simpa[Value.cells]using h1.1) (fun i y hy=>f y ?_) (fun i x y k hy=>h1.2 i x y k (by simpa[Value.cells]using hy)),cs,h2,by rw[nQ2 d]⟩;simp only[Value.cells];exact nU2 (by simpa using hy);have g:∀Cs,V≠.agg Cs:=fun Cs e=>d (b.1 ⟨Cs,e⟩);have hc:V.cells=#[V]:=by cases V<;>simp_all[Value.cells]
 rw[hc]at h1;have hl:=h1.1
 match cs,hl,h1,h2 with
 |[c],_,h1,h2=>exact⟨c,h1.head,[c],h2,by rw[nS2 d];rfl⟩
end
end Go.Sim
namespace Go.Sim
open Go.RowKit Go.ChangeShapes Go.WideShapes Go.ChangeAt
section
variable {H:Type} {enc:TypeId×Value->H} {P:Program} {W W':World}
theorem Lt {D:Nat} {t:TypeId} {base:Nat} {V:Value} (hp:fG P D t=true) (a:Value.okWide P W .any base t V):((∃cs,V=.agg cs)↔cQ P t=true)/\∀cs,V≠.tuple cs:=by
 cases D with
 |zero=>simp[fG]at hp
 |succ D=>
 unfold fG at hp;unfold Value.okWide at a;unfold cQ;split at hp;rename_i b;rw[b]at a ⊢;simp only[Cell.okWide,b]at a;cases V<;>simp_all[Cell.ok];rename_i b;rw[b]at a ⊢;simp only[Cell.okWide,b]at a;cases V<;>simp_all[Cell.ok];rename_i b;rw[b]at a ⊢;simp only[Cell.okWide,b]at a;cases V<;>simp_all[Cell.ok];rename_i b;rw[b]at a ⊢;simp only[Cell.okWide,b]at a;cases V<;>simp_all[Cell.ok];rename_i b;rw[b]at a ⊢;obtain⟨cs,rfl,_⟩:=a;exact⟨⟨fun _=>rfl,fun _=>⟨cs,rfl⟩⟩,fun cs h=>by cases h⟩;rename_i b;rw[b]at a ⊢;obtain⟨cs,rfl,_⟩:=a;exact⟨⟨fun _=>rfl,fun _=>⟨cs,rfl⟩⟩,fun cs h=>by cases h⟩;cases hp
def qV (P:Program) (W:World) (D:Nat):aA TypeId->aA AV->aA Value->Prop
 |[],[],[]=>True
 |t::ts,x::xs,V::Vs=>bK1 P W D t x V/\qV P W D ts xs Vs
 |_,_,_=>False
theorem Of {D base:Nat}:∀{e:aA TypeId} {vs:aA Value} {c:aA (DataW H)} {ps:aA MemPlace},(e.all fun t=>fG P D t)=true->
  (∀(j:Nat) t v,e[j]? =some t->vs[j]? =some v->Value.okWide P W .any base t v)->
  DataW.TrodAll enc P W 0 (fun _=>true) true e vs c ps->∃xs,qV P W D e xs vs
 |[],vs,c,ps,_,_,h=>by
  match vs,c,h with
  |[],[],h=>exact⟨[],trivial⟩
 |t::e,vs,c,ps,hp,hok,h=>by
  match vs,c,h with
  |v::vs,d::c,h=>
   obtain⟨p,q,⟨g,h1⟩,h2,rfl⟩:=h
   simp only[pL2,nJ2]at hp
   obtain⟨k,l⟩:=Lt hp.1 (hok 0 t v rfl rfl)
   obtain⟨x,i⟩:=jZ1 k l hp.1 h1
   obtain⟨xs,f⟩:=Of hp.2 (fun j t v a b=>hok (j+1) t v (by simpa using a) (by simpa using b)) h2
   exact⟨x::xs,i,f⟩
theorem qV.tr {D:Nat}:∀{a:aA TypeId} {xs:aA AV} {vs:aA Value},qV P W D a xs vs->TR (gW W) xs vs
 |[],[],[],_=>.nil _
 |_::_,_::_,_::_,h=>.cons h.1.1 (qV.tr h.2)
theorem wO {sp:Nat->Bool} {base:Nat} {held:Bool}:∀{b:aA TypeId} {vs:aA Value} {a:aA (DataW H)} {ps:aA MemPlace},DataW.TrodAll enc P W base sp held b vs a ps->a.length=b.length/\vs.length=b.length
 |[],vs,a,ps,h=>by
  match vs,a,h with
  |[],[],h=>exact⟨rfl,rfl⟩
 |t::b,vs,a,ps,h=>by
  match vs,a,h with
  |v::vs,d::a,⟨p,q,h1,h2,_⟩=>
   obtain⟨c,e⟩:=wO h2
   exact⟨by simp[c],by simp[e]⟩
end
theorem Eh {C:Checked} {f:FuncId} {fn:Func} {s:ChangeSpec} {d fresh g:Bool} {D:Nat} {tb:TypeId} {H:Type} {enc:TypeId×Value->H}
  (i:s.vars=[]) (l:∀k:aA (DataW H),k.length=fn.params.toList.length->s.fn H k={results:=[.lit (.bool true)],args:=k})
  (o:fn.resultTypes=#[tb]) (E:C.prog.underlying tb=some .bool) (c:(fn.params.toList.all fun t=>fG C.prog D t)=true)
  (u:∀(W:World) (xs:aA AV) (args:Array Value),qV C.prog W D fn.params.toList xs args.toList->Calls C.prog f args W fun e W'=>e=.returned (.bool true)/\Below W.heap.size W W')
  (W:World) (base:Nat) (args:Array Value) (k z:aA (DataW H)) (before:aA MemPlace)
  (r:∀(j:Nat) t v,fn.params[j]? =some t->args[j]? =some v->Value.okWide C.prog W .any base t v)
  (G:DataW.Whole enc C.prog fn.params.toList s.vars d W args.toList k z before):
  Calls C.prog f args W fun e W'=>∃v,e=.returned v/\s.post enc C.prog fn d fresh g false W args v W':=by
 have m:=G;obtain⟨p,q,A,w,rfl,J,K⟩:=G
 have B:z=[]/\q=[]:=by
  rw[i]at w
  match z,w with
  |[],w=>exact⟨rfl,w⟩
 obtain⟨rfl,rfl⟩:=B;obtain⟨xs,F⟩:=Of c (fun j t v a b=>r j t v (by simpa using a) (by simpa using b)) A;refine(u W xs args F).mono fun e W' ⟨he,hb⟩=>?_;subst he;have hsp:=l k (wO A).1
 have n:∀x∈p,(decide (x.block<W.heap.size))=true:=fun x y=>by
  have:=m.lt x (by simp[y]);simpa using this
 refine⟨_,rfl,k,[],p++[],[],p,[],m,?_,?_,?_,World.keptBut_mono (fun x y=>⟨y,by simpa using y⟩) (hb.frame (· ∈p++[])),fun h=>by cases h⟩;rw[qK2,hsp,o];exact trodAll_mk1 (shut_bool E _);rw[qK2,hsp];exact sY hb _ _ _ _ c A n;rw[qK2,hsp,i];rfl
end Go.Sim
