import Derived.Test.YtfdbgfhnlgbonaaGreatLaA
import Derived.ControlIn
import Derived.LoopNIn
import GoSem.ClaimChange
import Derived.Below
import Derived.DataReads
import Derived.ChangeSame
import Derived.ProofKit
import Derived.OpenShut
/- A text of the proof. -/
set_option linter.all false
namespace Go.Sim
variable {a:Act} {k:gC} {o:Oper} {os:aA Operand} {s:Hp} {v:AV} {xs:aA AV}
section
variable {P:Program} {T:jW} {ex:Nat->Bool->IC->St->Option (Ex×St)} {lim n:Nat} {g:Gh} {w:World} {r:Option Nat}
theorem Ay {fn} {pure frz} {ifn} (h:nH P fn pure frz=some ifn):(∃c,fn.body=some c)/\(fn.name== "runtime.NumGoroutine")=false:=by
 unfold nH at h;split at h;cases h
 grind
def Ya {ρ} {o} {fv} {args} {at_} {f} {F C} {fn} {c} (e:o.op=.call {callee:=.value fv,args:=args,argTypes:=at_}) (d:ρ fv=.func (.func f) F C)
  (hf:P.funcs[f]? =some fn) (hb:fn.body=some c) (b:(fn.name== "runtime.NumGoroutine")=false):(execOp ρ o).run P w=.ok (.enter f (F++args.map ρ++C)) w:=by
 have a:¬fn.name= "runtime.NumGoroutine":=by simpa using b
 simp[execOp,e,resolve,d,Deferred.ofValue,invoke,callFunc,hf,a,hb]
def Yb {ρ} {o} {fv} {args} {at_} {b} {R} (d:o.op=.call {callee:=.value fv,args:=args,argTypes:=at_}) (c:ρ fv=.func (.yield b) #[] #[])
  (hb:w.heap[b]? =some (.loop R)) (a:R.params.size=args.size):(execOp ρ o).run P w=.ok (.round b R.fn ((R.params.zip (args.map ρ)).foldl (fun tmps (p:Tmp×Value)=>tmps.setIfInBounds p.1 p.2) R.tmps) R.assign R.body) w:=by
 simp[execOp,d,resolve,c,Deferred.ofValue,invoke,Instr.yield,nD hb,a]
def rL {o} {ρ} (r:aB Nat) (h:∀c,o.op≠.defer c):Oper.semAt r ρ o=execOp ρ o:=by
 cases r with
 |none=>exact Oper.semAt_none ..
 |some l=>
  unfold Oper.semAt;cases ho:o.op<;>first|rfl|exact absurd ho (h _)
def xI {o} {ty} {k} {os} (h:jZ P o ty=some (k,os)):∀c,o≠.defer c:=by
 rintro c rfl;simp[jZ]at h
theorem cI1 {out:Out} (y:jZ P o.op o.type=some (k,os)) (hd:doOp (look s.h) lim s.n k xs=some out) (B:TR g xs (os.map a.eval)) (d:mJ P g w s)
  (hl:lim<=s.n) {next:Act->World->Prop} {Q:Exit->Act->World->Prop} (b:∀V g' w',VR g' out.v V->mJ P g' w' (out.apply s)->sS lim g g' w w'->s.n<=(out.apply s).n->next (a.put o.dst V) w'):
  o.wpIn (FW r) n P a w next Q:=by
 have hn:g.ι s.n=none:=by
  cases h:g.ι s.n with
  |none=>rfl
  |some l=>have:=d.dom s.n (by rw[h];simp);omega
 obtain⟨V,nx,g',w',m,u,hv,z,A,x,f⟩:=vO a.eval o y B hd d.H d.W hn hl
 have e:mJ P g' w' (out.apply s):=by
  have t:∀id ao,look (out.apply s).h id=some ao->out.after (look s.h) s.n id=some ao:=by
   intro id ao h;cases c:out.up with
   |none=>
    cases hw:out.new with
    |none=>simpa[Out.apply,Out.after,Out.base,c,hw]using h
    |some ob=>
     simp only[Out.apply,c,hw,look]at h;simp only[Out.after,Out.base,c,hw];split at h
     .grind
     .grind
   |some p=>
    obtain⟨i,q⟩:=p
    have h2:∀id ao,look (upd s.h i q) id=some ao->(if id=i then some q else look s.h id)=some ao:=by
     intro id ao h;rw[look_upd]at h;split at h
     .grind
     .grind
    cases hw:out.new with
    |none=>
     simp only[Out.apply,c,hw]at h;simpa only[Out.after,Out.base,c,hw]using h2 id ao h
    |some ob=>
     simp only[Out.apply,c,hw,look]at h;simp only[Out.after,Out.base,c,hw];split at h
     .grind
     .grind
  refine⟨fun id ao h=>z id ao (t id ao h),A,fun id h=>?_,?_⟩
  .rcases f id h with h1|⟨rfl,h2⟩
   .have:=d.dom id h1
    simp only[Out.apply];split
    .simp only;omega
    .exact this
   .simp only[Out.apply]
    split
    .simp
    .grind
  .have c:Wf (match out.up with|some (id,ob)=>upd s.h id ob|none=>s.h) s.n:=by
    split
    .exact d.wf.upd _ _
    .exact d.wf
   simp only[Out.apply];split
   .exact ⟨by simp,c⟩
   .exact c
 have j:s.n<=(out.apply s).n:=by
  simp only[Out.apply];split
  .simp
  .exact yX2 _
 refine⟨fun _ _=>trivial,?_⟩;rw[rL _ (xI y),m];rcases u with rfl|⟨rfl,rfl⟩
 .exact b V g' w' hv e x j
 .exact b undef g' w' hv e x j
theorem pO {o} {ty} {os} {k} (h:jZ P o ty=some (k,os)) (hk:k=.callV\/∃f,k=.callF f):
  ∃c d,o=.call c/\c.callee=.value d/\((∃f,k=.callF f/\d=.func f/\os=c.args.toList)\/(k=.callV/\os=d::c.args.toList)):=by
 have e:∀b a ty,kE P b a ty≠some .callV/\∀f,kE P b a ty≠some (.callF f):=by
  intro b a ty;constructor
  .intro h
   unfold kE at h;split at h<;>(repeat' split at h)<;>cases h
  .intro f h
   unfold kE at h;split at h<;>(repeat' split at h)<;>cases h
 cases o
 case call c=>
  simp only[jZ]at h;split at h
  .grind
  .grind
  .rename_i b hc
   simp only[yV2,zU2]at h;obtain⟨k',h1,rfl,rfl⟩:=h;rcases hk with rfl|⟨f,rfl⟩
   .grind
   .grind
  .cases h
 all_goals (rcases hk with rfl|⟨f,rfl⟩<;>exfalso<;>simp only[jZ]at h<;>(repeat' split at h)<;>simp_all)
def uA (p:jT P T) {c:Call} {j:Operand} {f:FuncId} {first cap:Array Value} {ifn:IFn} (k:o.op=.call c) (hc:c.callee=.value j) (q:a.eval j=.func (.func f) first cap) (g:T f=some ifn)
  {R:Ending->World->Prop} (b:CallsIn (FW none) (n-1) P f (first++c.args.map a.eval++cap) w R) {next:Act->World->Prop} {Q:Exit->Act->World->Prop} (m:∀e w',R e w'->∃V,e=.returned V/\next (a.put o.dst V) w'):
  o.wpIn (FW r) n P a w next Q:=by
 obtain⟨fn,hf,i⟩:=p.fns f ifn g;obtain⟨⟨s,hb⟩,d⟩:=Ay i;obtain⟨callee,args,l⟩:=c;simp only at hc;subst hc;refine⟨fun _ _=>trivial,?_⟩;rw[rL _ (fun c h=>by rw[k]at h;cases h),Ya k q hf hb d];refine⟨fun h=>(by cases h),CallsIn.mono (Ea b) ?_⟩;intro e w' he;obtain⟨V,rfl,h⟩:=m e w' he;exact h
theorem Ki (u:pW P ex) (K:jT P T) {s':Hp} (L:(jZ P o.op o.type).getD (.fail,[])=(k,os)) (h:step T ex lim k xs s=some (v,s'))
  (E:TR g xs (os.map a.eval)) (J:mJ P g w s) (hl:lim<=s.n) {next:Act->World->Prop} {Q:Exit->Act->World->Prop}
  (m:∀V g' w',VR g' v V->mJ P g' w' s'->sS lim g g' w w'->s.n<=s'.n->next (a.put o.dst V) w'):o.wpIn (FW r) n P a w next Q:=by
 cases hco:jZ P o.op o.type with
 |none=>
  rw[hco]at L;cases L;simp only[step,zK]at h;cases h
 |some p=>
  rw[hco]at L;cases L
  have plain:∀out,doOp (look s.h) lim s.n k xs=some out->(out.v,out.apply s)=(v,s')->o.wpIn (FW r) n P a w next Q:=by
   intro out hd he;cases he;exact cI1 hco hd E J hl m
  unfold step at h;split at h
  .rename_i f
   obtain⟨c,N,h1,h2,O⟩:=pO hco (.inr ⟨f,rfl⟩);rcases O with⟨f',B,Z,S⟩|⟨B,_⟩
   .cases B
    subst Z
    have d:∃ifn,T f=some ifn:=by
     unfold callF at h;split at h
     .cases h
     .grind
    obtain⟨ifn,d⟩:=d;have j:TR g xs (#[]++c.args.map a.eval++#[]).toList:=by rw[S]at E;simpa using E
    exact uA K h1 h2 rfl d (xD u K h j J hl) (fun e w' he=>by
     obtain⟨V,g',rfl,z,G,H,A⟩:=he;exact⟨V,rfl,m V g' w' z G H A⟩)
   .cases B
  .obtain ⟨c,N,h1,h2,O⟩:=pO hco (.inl rfl)
   rcases O with⟨f',B,_⟩|⟨_,S⟩
   .cases B
   .subst S
    split at h
    .rename_i fa args
     have t:=E.head;have j:=E.tail;unfold callV at h;split at h
     .rename_i f first cap
      generalize hV:a.eval N=V at t;cases t with
      |@fn _ _ _ _ F C l1 l2 v1 v2=>
       have d:∃ifn,T f=some ifn:=by
        unfold callF at h;split at h
        .cases h
        .grind
       obtain⟨ifn,d⟩:=d;have hF:TR g first F.toList:=⟨by simpa using l1,fun i x y W hy=>v1 i x y W (by simpa using hy)⟩
       have hC:TR g cap C.toList:=⟨by simpa using l2,fun i x y W hy=>v2 i x y W (by simpa using hy)⟩
       have D:TR g (first++args++cap) (F++c.args.map a.eval++C).toList:=by
        have:=(hF.app j).app hC;simpa using this
       exact uA K h1 h2 hV d (xD u K h D J hl) (fun e w' he=>by
        obtain⟨V,g',rfl,z,G,H,A⟩:=he;exact⟨V,rfl,m V g' w' z G H A⟩)
     .rename_i l
      generalize hV:a.eval N=V at t;cases t with
      |@yield _ _ b loc hi hp=>
       have q:TR g args (c.args.map a.eval).toList:=by simpa using j
       obtain⟨loc',R,z,G,H,A,X⟩:=cH1 u h q J hl;rw[hi]at z;cases z;have U:=hp G;subst U;obtain⟨callee,M,Y⟩:=c;simp only at h2 A X;subst h2;refine⟨fun _ _=>trivial,?_⟩;rw[rL _ (fun c h=>by rw[h1]at h;cases h),Yb h1 hV H (by simpa using A)];refine⟨fun h=>(by cases h),RoundIn.mono (X r (n-1)) ?_⟩;rintro e w' ⟨V,g',rfl,q1,q2,q3,q4⟩;exact m V g' w' q1 q2 q3 q4
     .cases h
    .cases h
  .grind
def rH1 {t:aA AV} {i:Nat} (b:TR g t a.tmps.toList) (hv:t[i]? =some v):i<a.tmps.size:=by
 have h1:t.length=a.tmps.size:=by simpa using b.1
 have h2:=(yT2.1 hv).1;omega
theorem Kj {t:aA AV} {x:Operand} {j:IX} (e:TR g t a.tmps.toList) (b:Ha x=some j) (hv:j.ev t=some v):VR g v (a.eval x):=by
 cases x with
 |tmp i=>
  simp only[Ha,yZ2]at b;subst b;simp only[IX.ev]at hv;have d:i<a.tmps.size:=rH1 e hv;have:a.eval (.tmp i)=a.tmps[i]:=by simp[Act.eval,d]
  rw[this];exact e.2 i v _ hv (by simp[d])
 |const c=>
  simp only[Ha,yV2]at b;obtain⟨k,h1,rfl⟩:=b;simp only[IX.ev,yZ2]at hv;subst hv;show VR g k c
  unfold AV.ofValue at h1;split at h1;rename_i cs;split at h1;rename_i hc;cases h1
  refine .agg (by simp) (fun i y hy=>mU (yW2.1 hc y (by
   rw[<-aY3]at hy;exact zL2.2 ⟨i,hy⟩))) (fun i x y b hy=>?_)
  rw[<-aY3]at hy;simp only[aJ3,hy,zW2,yZ2]at b;subst b;exact .v (yW2.1 hc y (zL2.2 ⟨i,hy⟩));cases h1;rename_i cs;split at h1;rename_i hc;cases h1;have:cs=#[]:=by grind
  subst this;exact .tup (by simp) (fun i x y b=>by simp at b);cases h1;split at h1;rename_i hc;cases h1;exact .v hc;cases h1
 |global g=>simp[Ha]at b
 |func f=>
  simp only[Ha,yZ2]at b;subst b;simp only[IX.ev,yZ2]at hv;subst hv;exact .fn (by simp) (by simp) (fun i x y h=>by simp at h) (fun i x y h=>by simp at h)
def sY {a:Act} {t:aA AV} (c:TR g t a.tmps.toList):∀{os} {b} {xs},My os=some b->evs t b=some xs->TR g xs (os.map a.eval)
 |[],b,xs,h,hx=>by
  simp only[My,mapO,yZ2]at h
  subst h
  simp only[evs,yZ2]at hx
  subst hx
  exact .nil g
 |o::os,b,xs,h,hx=>by
  simp only[My,mapO]at h
  split at h
  rename_i f cJ h1 h2
  cases h
  simp only[evs]at hx
  split at hx
  rename_i v vs d e
  cases hx
  exact .cons (Kj c h1 d) (sY c h2 e)
  cases hx
  cases h
def Sg {t:aA AV} (b:TR g t a.tmps.toList) {V:Value} (hv:VR g v V) (d:aB Nat):TR g (put t d v) (a.put d V).tmps.toList:=by
 cases d with
 |none=>exact b
 |some i=>simpa[put,Act.put]using b.set hv i
theorem pY {ops} {o} {io} (h:lV P ops o=some io):
    ∃os,(jZ P o.op o.type).getD (.fail,[])=(io.k,os)/\My os=some io.xs/\io.dst=o.dst/\
      (match o.guard with
       |none=>io.guard=none
       |some (j,b)=>∃a d,ops[j]? =some a/\a.dst=some d/\io.guard=some (d,b)):=by
  unfold lV at h;generalize hc:(jZ P o.op o.type).getD (.fail,[])=kx at h;obtain⟨k,xs⟩:=kx;simp only at h;split at h;cases h
  grind
def Vf:Value->aB Bool
 |.bool b=>some b
 |_=>none
def cJ1:AV->aB Bool
 |.v x=>Vf x
 |_=>none
def VR.boolCell {x} {X} (h:VR g x X):Vf X=cJ1 x:=by
 cases h<;>rfl
def Ic {t:aA AV} (f:TR g t a.tmps.toList) {ops:Array Oper} {io:Sim.Op1} (h:lV P ops.toList o=some io):Region.wanted o (yielded ops a.tmps)=Sim.wanted t io.guard:=by
 obtain⟨os,h1,h2,q,c⟩:=pY h;unfold Region.wanted;cases hg:o.guard with
 |none=>rw[hg]at c;simp only at c;rw[c];rfl
 |some p=>
  obtain⟨j,b⟩:=p;rw[hg]at c;obtain⟨n,d,k,l,m⟩:=c;rw[m];simp only[Sim.wanted,yielded];have:ops[j]? =some n:=by simpa using k
  rw[this];simp only[yU2,l];cases hx:t[d]? with
  |none=>
   have:a.tmps[d]? =none:=by
    have h1:t.length=a.tmps.size:=by simpa using f.1
    rw[List.getElem?_eq_none_iff]at hx;simp;omega
   rw[this];rfl
  |some x=>
   have e:d<a.tmps.size:=rH1 f hx;have i:a.tmps[d]? =some a.tmps[d]:=by simp[e]
   have hv:=f.2 d x a.tmps[d] hx (by simp[e]);rw[i];have hb:=hv.boolCell;generalize a.tmps[d]=X at hb;revert hb;cases x with
   |v y=>cases X<;>cases y<;>simp[cJ1,Vf]<;>(intro h;subst h;rfl)
   |_=>cases X<;>simp[cJ1,Vf]
def zP (f:pW P ex) (q:jT P T) {ops:Array Oper} {base:Nat} {Q:Exit->Act->World->Prop}:
  ∀cJ ios k σ l g w a,mapO (lV P ops.toList) cJ=some ios->(∀j,cJ[j]? =ops[k+j]?)->runOps T ex lim ios σ=some l->
   TR g σ.t a.tmps.toList->mJ P g w σ.s->lim<=σ.s.n->jK base g w a.defers->
   (∀g' a' w',Ax P base lim g w σ.s l.t l.s g' a' w'->Q .normal a' w')->wpOpsIn (FW r) n P ops Q (List.range' k cJ.length) a w
 |[],ios,k,σ,l,g,w,a,hc,hops,h,ht,hI,hl,hm,hQ=>by
  simp only[mapO,yZ2]at hc
  subst hc
  simp only[runOps,yZ2]at h
  subst h
  exact hQ g a w ⟨ht,hI,.refl lim g w,yX2 _,hm⟩
 |o::cJ,ios,k,σ,l,g,w,a,hc,hops,h,ht,hI,hl,hm,hQ=>by
  simp only[mapO]at hc
  split at hc
  rename_i io e hio d
  cases hc
  have h0:ops[k]? =some o:=by simpa using(hops 0).symm
  have c:∀j,cJ[j]? =ops[(k+1)+j]? :=fun j=>by have:=hops (j+1);simpa[aP3,bK3 1 j]using this
  simp only[zZ2,List.range'_succ,wpOpsIn,h0]
  rw[Ic ht hio]
  obtain⟨os,c1,c2,c3,c4⟩:=pY hio
  simp only[runOps]at h
  split at h
  rename_i hw
  rw[yY2 hw]
  split at h
  rename_i xs x
  split at h
  rename_i v s u
  refine Ki f q c1 u (sY ht c2 x) hI hl (fun V g' w' B C y A=>?_)
  have b:=Sg (ht.mono y.le) B io.dst
  rw[c3]at b
  have i:jK base g' w' (a.put o.dst V).defers:=by
   have:(a.put o.dst V).defers=a.defers:=by cases o.dst<;>rfl
   rw[this];exact hm.ext y
  refine zP f q cJ e (k+1) _ l g' w' (a.put o.dst V) d c h (by rw[c3];exact b) C (zX2 hl A) i (fun p a'' z m=>?_);exact hQ p a'' z ⟨m.t,m.inv,y.trans m.ext,zX2 A m.n,m.marks⟩;cases h;cases h;rename_i hw;rw[zB2 hw];refine⟨fun _ _=>trivial,?_⟩;have b:=Sg ht (.undef g) io.dst;rw[c3]at b
  have i:jK base g w (a.put o.dst undef).defers:=by
   have:(a.put o.dst undef).defers=a.defers:=by cases o.dst<;>rfl
   rw[this];exact hm
  exact zP f q cJ e (k+1) _ l g w (a.put o.dst undef) d c h (by rw[c3];exact b) hI hl i hQ;cases hc
end
end Go.Sim
namespace Go.Sim
structure kG (s s':Hp):Prop where
 wf:Wf s.h s.n->Wf s'.h s'.n
 n:s.n<=s'.n
def kG.refl (s:Hp):kG s s:=⟨id,yX2 _⟩
def kG.trans {a b c} (h:kG a b) (k:kG b c):kG a c:=⟨fun w=>k.wf (h.wf w),zX2 h.n k.n⟩
def Nv (out:Out) (s:Hp):kG s (out.apply s):=by
 constructor;intro hw
 have a:Wf (match out.up with|some (id,ob)=>upd s.h id ob|none=>s.h) s.n:=by
  split;exact hw.upd _ _;exact hw
 simp only[Out.apply];split;exact⟨by simp,a⟩;exact a;simp only[Out.apply];split;simp;exact yX2 _
def Ie (s:Hp) (id:Nat) (o:AO):kG s {h:=upd s.h id o,n:=s.n}:=⟨fun h=>h.upd _ _,yX2 _⟩
section
variable {T:jW} {ex:Nat->Bool->IC->St->Option (Ex×St)}
def rM (ex:Nat->Bool->IC->St->aB (Ex×St)):Prop:=∀lim rd c σ e a,ex lim rd c σ=some (e,a)->kG σ.s a.s
def Sh (b:rM ex) {lim} {fn} {args} {s s'} {v} (h:body ex lim fn args s=some (v,s')):kG s s':=by
 unfold body at h;split at h;cases h;rename_i e σ a he;simp only[yV2,zU2]at h;obtain⟨v',_,_,rfl⟩:=h;exact b _ _ _ _ _ _ he;cases h
def sZ (a:rM ex) {lim} {f} {args} {s s'} {v} (h:callF T ex lim f args s=some (v,s')):kG s s':=by
 unfold callF at h;split at h;cases h;split at h;split at h;simp only[yV2,zU2]at h;obtain⟨_,_,_,rfl⟩:=h;exact .refl _;split at h;split at h;split at h;split at h;cases h;exact .refl _;cases h;cases h;cases h;split at h;simp only[yV2,zU2]at h;obtain⟨_,_,_,rfl⟩:=h;exact .refl _;cases h;exact Sh a h
def tA {l} {s s'} {st} {pend} (h:endRound l s st pend=some s'):kG s s':=by
 obtain⟨_,_,_,_,_,_,_,rfl⟩:=pX h;exact Ie _ _ _
theorem Nw (d:rM ex) {lim l} {args} {s s'} {v} (h:round ex lim l args s=some (v,s')):kG s s':=by
 unfold Sim.round at h;split at h;split at h;split at h;rename_i σ f;have h1:=d _ _ _ _ _ _ f;split at h
 have fin:∀{e} {τ} {id} {o} {lim} {rd} {c} {st} {pend} {b},ex lim rd c {t:=σ.t,s:={h:=upd σ.s.h id o,n:=σ.s.n}}=some (e,τ)->
   (endRound l τ.s st pend).map (fun s=>(b,s))=some (v,s')->kG s s':=by
  intro e τ id o lim rd c st pend b hb a;simp only[yV2,zU2]at a;obtain⟨g,a,_,rfl⟩:=a;exact((h1.trans (Ie _ id o)).trans (d _ _ _ _ _ _ hb)).trans (tA a)
 split at h
 grind
 grind
 grind
 cases h;cases h;cases h;cases h;cases h
def oP (a:rM ex) {lim} {k} {xs} {s s'} {v} (h:step T ex lim k xs s=some (v,s')):kG s s':=by
 unfold step at h;split at h;exact sZ a h;split at h;unfold callV at h;split at h;exact sZ a h;exact Nw a h;cases h;cases h;split at h;cases h;exact Nv _ _;cases h
def rN (c:rM ex) {lim}:∀{os} {σ a},runOps T ex lim os σ=some a->kG σ.s a.s
 |[],σ,a,h=>by
  simp only[runOps,yZ2]at h
  subst h
  exact .refl _
 |o::os,σ,a,h=>by
  simp only[runOps]at h
  split at h
  split at h
  split at h
  rename_i b
  exact(oP c b).trans (rN c h)
  cases h
  cases h
  have:=rN c h
  exact this
def Az {nb} {run} (hr:∀s v s',run s=some (v,s')->kG s s') {hid} {xs} {s s1} {v} {W} (h:callX nb run hid xs s=some (v,s1,W)):kG s s1:=by
 obtain⟨a,s',w,_,h1,h2,rfl,_⟩:=rK h;have hg:=hr _ _ _ h1;exact⟨fun hw=>Wf.newOK (hw.updAll w) (hg.wf (hw.hide a)) hg.n,hg.n⟩
def lF (c:rM ex) {lim} {before}:∀{os} {j} {fs} {σ d} {a},eN T ex lim before os j fs σ=some (d,a)->kG σ.s d.s
 |[],j,fs,σ,d,a,h=>by
  simp only[eN,yZ2,zU2]at h
  obtain⟨rfl,_⟩:=h
  exact .refl _
 |o::os,j,fs,σ,d,a,h=>by
  simp only[eN]at h
  split at h
  split at h
  split at h
  split at h
  have:=lF c h
  exact this
  cases h
  split at h
  split at h
  rename_i b
  exact(Az (fun _ _ _=>oP c) b).trans (lF c h)
  cases h
  split at h
  rename_i b
  exact(oP c b).trans (lF c h)
  cases h
  cases h
  have:=lF c h
  exact this
def Ig {σ}:kG σ {h:=popMark σ.h,n:=σ.n}:=⟨fun h=>h.pop,yX2 _⟩
def Ei {σ}:kG σ {h:=.mark::σ.h,n:=σ.n}:=⟨fun h=>h,yX2 _⟩
def Ej (T:jW):∀d,rM (exec T d)
 |0,_,_,_,_,_,_,h=>by simp[exec]at h
 |d+1,lim,rd,c,σ,e,σ',h=>by
  have ih:=Ej T d
  unfold exec at h
  split at h
  cases h;exact .refl _
  simp only[yV2,zU2]at h
  obtain⟨τ,h,_,rfl⟩:=h
  exact rN ih h
  split at h
  rename_i hf
  split at h
  cases h
  exact lF ih hf
  cases h
  cases h
  split at h
  rename_i a
  exact(ih _ _ _ _ _ _ a).trans (ih _ _ _ _ _ _ h)
  exact ih _ _ _ _ _ _ h
  split at h
  exact ih _ _ _ _ _ _ h
  cases h
  split at h
  rename_i a
  split at h
  cases h;exact ih _ _ _ _ _ _ a
  cases h;exact ih _ _ _ _ _ _ a
  exact ih _ _ _ _ _ _ h
  split at h
  rename_i a
  exact((Ei.trans (ih _ _ _ _ _ _ a)).trans Ig).trans (ih _ _ _ _ _ _ h)
  rename_i a
  cases h
  exact(Ei.trans (ih _ _ _ _ _ _ a)).trans Ig
  cases h
  split at h
  split at h
  rename_i hc
  have h1:=sZ ih hc
  have h2:∀o:AO,kG σ.s {h:=.ob σ.s.n o::σ.s.h,n:=σ.s.n+1}:=fun o=>⟨fun h=>⟨by simp,h⟩,by simp⟩
  have f:=(h2 _).trans h1
  split at h
  split at h
  cases h
  split at h
  cases h
  rename_i b
  have g:=f.trans (tA b)
  split at h<;>cases h<;>exact g
  cases h
  cases h
  cases h
  cases h;exact .refl _
  cases h;exact .refl _
end
end Go.Sim
namespace Go.Sim
section
variable {P:Program} {F:Fence} {n:Nat} {b:Frame} {a:Act} {k:List Item} {cs:List Frame} {w:World} {Q:Exit->Act->World->Prop}
def lQ {c}:Go.step P (lone (b.atR a (.code (.scope c)::k)) cs w)=.next (lone (b.atR a (.code c::.inScope c::k)) cs w):=
 step_lone_go (by simp[stepG,stepG.exec,Frame.atR])
def Hf {c}:Go.step P (lone (b.atR a (.inScope c::k)) cs w)=.next (lone (b.atR a k) cs w):=
 step_lone_go (by simp[stepG,stepG.exec,Frame.atR])
def Si {c} (hg:∀l a w,¬Q (.goto l) a w) (h:c.wpIn F n P Q a w):(Code.scope c).wpIn F n P Q a w:=by
 intro b k cs j hb hr;have h0:(lone (b.atR a (.code (.scope c)::k)) cs w).fenced P F:=fenced_calm hb hr rfl;obtain⟨e,g,w₁,f,d⟩:=h b (.inScope c::k) cs j hb hr;cases e with
 |normal=>exact⟨.normal,g,w₁,f,.head h0 lQ (StepsIn.trans d (.one (fenced_calm hb hr rfl) Hf))⟩
 |exit id=>
  have m:exitTo id (.inScope c::k)=exitTo id k:=by simp[exitTo]
  exact⟨.exit id,g,w₁,f,fun k' hk=>.head h0 lQ (d.1 k' (by rw[m];exact hk)),
   fun i hk=>let⟨o,h1,h2⟩:=d.2 i (by rw[m];exact hk);⟨o,h1,.head h0 lQ h2⟩⟩
 |goto l=>exact(hg _ _ _ f).elim
 |ret=>exact⟨_,g,w₁,f,.of_steps (.one h0 lQ) d⟩
 |panic ch=>exact⟨_,g,w₁,f,.of_steps (.one h0 lQ) d⟩
 |outgrown=>exact⟨_,g,w₁,f,.of_steps (.one h0 lQ) d⟩
end
end Go.Sim
namespace Go.Sim
section
variable {T:jW} {L L':Nat->Option AO} {lim n n':Nat} {k:gC} {xs:List AV} {out:Out}
def lX {esz} {x} {r} (h:rowsOf L esz x=some r) (a:∀id ao,id∈idOf x->L id=some ao->L' id=some ao):rowsOf L' esz x=some r:=by
 unfold rowsOf at h;split at h;simpa only[rowsOf]using h;simpa only[rowsOf]using h;simpa only[rowsOf]using h;simpa only[rowsOf]using h;split at h;rename_i hl;simp only[rowsOf,a _ _ (by simp[idOf]) hl];exact h;cases h;cases h
def Kk {x} {r} (h:entsOf L x=some r) (a:∀id ao,id∈idOf x->L id=some ao->L' id=some ao):entsOf L' x=some r:=by
 unfold entsOf at h;split at h;exact h;split at h;rename_i hl;simp only[entsOf,a _ _ (by simp[idOf]) hl];exact h;cases h;exact h;cases h
def Ek {ty} {esz} {s} {new} {o} (h:appendTo L lim n ty esz s new=some o) (a:∀id ao,id∈idOf s->L id=some ao->L' id=some ao):appendTo L' lim n ty esz s new=some o:=by
 unfold appendTo at h;split at h;simpa only[appendTo]using h;simpa only[appendTo]using h;simpa only[appendTo]using h;split at h;rename_i hl;simp only[appendTo,a _ _ (by simp[idOf]) hl];exact h;cases h;cases h
theorem Hg {esz} {lo hi mx} {x} {bs} {v} (h:sliceOp L esz lo hi mx (x::bs)=some v) (j:∀id ao,id∈idOf x->L id=some ao->L' id=some ao):sliceOp L' esz lo hi mx (x::bs)=some v:=by
 have key:∀L,(∀a b c d e f,x≠.sl a b c d e f)->sliceOp L esz lo hi mx (x::bs)=sliceOp L' esz lo hi mx (x::bs):=by
  intro L i;cases x<;>first|rfl|exact absurd rfl (i _ _ _ _ _ _)|(rename_i y;cases y<;>first|rfl|(rename_i a b c;cases a<;>cases b<;>cases c<;>rfl))
 by_cases i:∃a b c d e f,x=.sl a b c d e f;obtain⟨z,id,ver,off,len,cap,rfl⟩:=i;cases hl:L id with
 |none=>
  exfalso;simp only[sliceOp,hl]at h;split at h<;>cases h
 |some ao=>
  have g:=j id ao (by simp[idOf]) hl;simp only[sliceOp,hl]at h;simp only[sliceOp,g];exact h
 grind
def Yc {ty} {esz b} {zero} {zeros} {s x} (h:doOp L lim n (.append ty esz b zero zeros) [s,x]=some out) (e:∀id ao,id∈idOf x->L id=some ao->L' id=some ao) (hs:∀id ao,id∈idOf s->L id=some ao->L' id=some ao):
  doOp L' lim n (.append ty esz b zero zeros) [s,x]=some out:=by
 simp only[doOp]at h ⊢;split at h;rename_i new a
 have c:appRows L' esz zeros zero x=some new:=by
  cases zeros;simp only[appRows,zG2,aL3]at a ⊢;exact lX a e;simp only[appRows,zT2]at a ⊢;exact a
 split at h;rename_i o d;simp only[c,Ek d hs];exact h;cases h;cases h
def Sj (h:doOp L lim n k xs=some out) (b:∀id ao,id∈(foot T k xs).rd\/id∈(foot T k xs).wr->L id=some ao->L' id=some ao):doOp L' lim n k xs=some out:=by
 unfold doOp at h;split at h
 all_goals first|(simp only[doOp];exact h)|skip
 ·
  split at h
  .simpa only[doOp]using h
  .split at h
   .rename_i hl
    simp only[doOp,b _ _ (.inl (by simp[foot,idOf])) hl];exact h
   .cases h
  .cases h
 ·
  split at h
  .simpa only[doOp]using h
  .split at h
   .rename_i hl
    simp only[doOp,b _ _ (.inl (by simp[foot,idOf])) hl];exact h
   .cases h
  .cases h
 ·
  split at h
  .rename_i hc
   split at h
   .rename_i hl
    simp only[doOp,hc,b _ _ (.inr (by simp[foot,idOf])) hl];exact h
   .cases h
  .cases h
 ·
  split at h
  .rename_i hr
   simp only[doOp,lX hr (fun id ao a=>b id ao (.inl a))];exact h
  .cases h
 ·
  rename_i x;simp only[yV2]at h;obtain⟨v,hv,rfl⟩:=h;cases xs with
  |nil=>simp[sliceOp]at hv
  |cons x bs=>simp only[doOp,Hg hv (fun id ao a=>b id ao (.inl a)),zW2]
 ·
  split at h
  .rename_i c
   split at h
   .rename_i es he
    simp only[doOp,c,zT2,Kk he (fun id ao a=>b id ao (.inl a))];exact h
   .cases h
  .cases h
 ·
  split at h
  .split at h
   .rename_i hl
    simp only[doOp,b _ _ (.inr (by simp[foot,idOf])) hl];exact h
   .cases h
  .cases h
 ·
  split at h
  all_goals first|(simp only[doOp];exact h)|skip
  .split at h
   .rename_i hl
    simp only[doOp,b _ _ (.inl (by simp[foot,idOf])) hl];exact h
   .cases h
 .exact Yc h (fun id ao a=>b id ao (.inl a)) (fun id ao a=>b id ao (.inr a))
 ·
  split at h
  .rename_i rows hr
   split at h
   .simp only[doOp,lX hr (fun id ao a=>b id ao (.inl a))]
    exact h
   .simp only[doOp,lX hr (fun id ao a=>b id ao (.inl a))]
    exact h
   .split at h
    .rename_i hl
     simp only[doOp,lX hr (fun id ao a=>b id ao (.inl a)),b _ _ (.inr (by simp[foot,idOf])) hl];exact h
    .cases h
   .cases h
  .cases h
 ·
  split at h
  .simpa only[doOp]using h
  .simpa only[doOp]using h
  .split at h
   .rename_i hl
    simp only[doOp,b _ _ (.inr (by simp[foot,idOf])) hl];exact h
   .cases h
  .cases h
theorem Nx {ty} {esz} {s} {new} {o} {id} {ao} (h:appendTo L lim n ty esz s new=some o) (a:o.up=some (id,ao)):id∈idOf s/\(L id).isSome=true:=by
 unfold appendTo at h;split at h
 .grind
 .grind
 .grind
 .split at h
  .rename_i hl
   repeat' split at h
   all_goals cases h
   all_goals cases a
   all_goals exact⟨by simp[idOf],by rw[hl];rfl⟩
  .cases h
 .cases h
theorem Sl {ty} {esz} {s} {new} {o} (h:appendTo L lim n ty esz s new=some o) (a:o.new=none):appendTo L lim n' ty esz s new=some o:=by
 unfold appendTo at h;split at h;split at h;rename_i hc;cases h;simp only[appendTo,hc,zT2];cases h;cases a;split at h;rename_i hc;cases h;simp only[appendTo,hc,zT2];cases h;cases a;simpa only[appendTo]using h;split at h;rename_i hl;simp only[appendTo,hl];split at h
 grind
 cases h;cases h;cases h
theorem Vg {ty} {esz b} {zero} {zeros} {s x} (h:doOp L lim n (.append ty esz b zero zeros) [s,x]=some out):
  ∃new,appRows L esz zeros zero x=some new/\appendTo L lim n ty esz s new=some out/\∀n',appendTo L lim n' ty esz s new=some out->doOp L lim n' (.append ty esz b zero zeros) [s,x]=some out:=by
 simp only[doOp]at h;split at h;rename_i new a;split at h;rename_i o c;have:o=out:=by grind
 subst this;refine⟨new,a,c,fun n' h'=>?_⟩;simp only[doOp,a,h'];exact h;cases h;cases h
def xJ {id} {ao} (h:doOp L lim n k xs=some out) (c:out.up=some (id,ao)):id∈(foot T k xs).wr/\(L id).isSome=true:=by
 have a:∀ty esz b zero zeros s x,k=.append ty esz b zero zeros->xs=[s,x]->id∈(foot T k xs).wr/\(L id).isSome=true:=by
  rintro ty esz b zero zeros s x rfl rfl;obtain⟨new,h1,h2,_⟩:=Vg h;exact Nx h2 c
 unfold doOp at h;split at h
 all_goals first|exact a _ _ _ _ _ _ _ rfl rfl|skip
 all_goals clear a
 all_goals (repeat' split at h)
 all_goals first
  |(cases h;done)
  |(simp only[yV2]at h;obtain⟨_,_,rfl⟩:=h;cases c;done)
  |(cases h;cases c;done)
  |(have hl:= ‹L _=some _›;cases h;cases c;exact⟨by simp[foot,idOf],by rw[hl];rfl⟩)
def tU1 (h:doOp L lim n k xs=some out) (c:out.new=none):doOp L lim n' k xs=some out:=by
 have a:∀ty esz b zero zeros s x,k=.append ty esz b zero zeros->xs=[s,x]->doOp L lim n' k xs=some out:=by
  rintro ty esz b zero zeros s x rfl rfl;obtain⟨new,h1,h2,d⟩:=Vg h;exact d n' (Sl h2 c)
 unfold doOp at h;split at h
 all_goals first|exact a _ _ _ _ _ _ _ rfl rfl|skip
 all_goals clear a
 all_goals first|(simp only[doOp];exact h)|skip
 all_goals (repeat' split at h)
 all_goals first
  |(cases h;done)
  |(simp only[yV2]at h;obtain⟨_,_,rfl⟩:=h;cases c;done)
  |(cases h;cases c;done)
end
end Go.Sim
namespace Go.Sim
def vS {a} {i}:∀{es},(pT a es).testBit i=true->∃e∈es,Region.binds .any e=true/\(i=e.on\/(a.getD e.on 0).testBit i=true)
 |[],h=>by simp[pT]at h
 |e::es,h=>by
  simp only[pT]at h
  split at h
  rename_i hb
  simp only[Nat.testBit_or,zN2]at h
  rcases h with(h|h)|h
  rw[Nat.testBit_two_pow]at h
  exact⟨e,by simp,hb,.inl (by simp at h;exact h.symm)⟩
  exact⟨e,by simp,hb,.inr h⟩
  obtain⟨e',h1,h2⟩:=vS h
  exact⟨e',by simp[h1],h2⟩
  obtain⟨e',h1,h2⟩:=vS h
  exact⟨e',by simp[h1],h2⟩
def tB:∀os a,∃tail,cZ a os=a++tail/\tail.length=os.length/\
  ∀k o,os[k]? =some o->(cZ a os).getD (a.length+k) 0=pT ((cZ a os).take (a.length+k)) o.after.toList
 |[],a=>⟨[],by simp[cZ],rfl,fun k o h=>by simp at h⟩
 |o::os,a=>by
  obtain⟨tail,h1,h2,b⟩:=tB os (a++[pT a o.after.toList])
  refine⟨pT a o.after.toList::tail,by simp[cZ,h1],by simp[h2],fun k o' hk=>?_⟩
  cases k with
  |zero=>
   simp only[aT3,yZ2]at hk
   subst hk
   simp only[cZ,h1,aZ3]
   simp
  |succ k=>
   have:=b k o' (by simpa using hk)
   have e:(a++[pT a o.after.toList]).length+k=a.length+(k+1):=by simp;omega
   rw[e]at this
   exact this
theorem tC {ops:aA Oper} (a:∀j o,ops[j]? =some o->∀e∈o.after.toList,Region.binds .any e=true->e.on<j) {D:Nat->Prop}
  (q:∀i oi,D i->ops[i]? =some oi->∀e∈oi.after.toList,Region.binds .any e=true->D e.on):∀j o,ops[j]? =some o->(∀e∈o.after.toList,Region.binds .any e=true->D e.on)->
   ∀i,((cZ [] ops).getD j 0).testBit i=true->D i:=by
 intro j
 induction j using Nat.strongRecOn with
 |_ j ih=>
  intro o k he i hi;obtain⟨tail,h1,h2,m⟩:=tB ops [];have l:=m j o k;simp only[zJ2,aQ3]at l;rw[l]at hi;obtain⟨e,f,g,c⟩:=vS hi;rcases c with rfl|c;exact he e f g;have h:=a j o k e f g;have r:j<ops.length:=(yT2.1 k).1;have n:((cZ [] ops).take j).getD e.on 0=(cZ [] ops).getD e.on 0:=by grind
  rw[n]at c;have b:ops[e.on]? =some ops[e.on]:=by simp
  exact ih e.on h _ b (fun e' p d=>q e.on _ (he e f g) b e' p d) i c
def Ba {j} {o} {a}:∀{ps} {b},Jz j o a ps b=true->∀k p,ps[k]? =some p->b+k<j->
  a.testBit (b+k)=true\/((∀d,p.dst=some d->o.dst≠some d/\d∉o.reads)/\∀d,o.dst=some d->d∉p.reads)
 |[],b,h,k,p,hk,_=>by simp at hk
 |q::ps,b,h,k,p,hk,hlt=>by
  simp only[Jz,yS2,zN2,zD2]at h
  obtain⟨h1,h2⟩:=h
  cases k with
  |zero=>
   simp only[aT3,yZ2]at hk
   subst hk
   rw[aZ3]at hlt ⊢
   rcases h1 with(h1|h1)|h1
   omega
   exact .inl h1
   refine .inr ⟨fun d hd=>?_,fun d hd=>?_⟩
   have:=h1.1
   rw[hd]at this
   simpa using this
   have:=h1.2
   rw[hd]at this
   simpa using this
  |succ k=>
   have:=Ba h2 k p (by simpa using hk) (by omega)
   have e:b+1+k=b+(k+1):=by omega
   rwa [e]at this
def iC (ft:Nat->Foot):Nat->aA Foot
 |0=>[]
 |j+1=>ft j::iC ft j
def oQ {ft ft'}:∀{j},(∀i,i<j->ft i=ft' i)->iC ft j=iC ft' j
 |0,_=>rfl
 |j+1,h=>by rw[iC,iC,h j (by omega),oQ (fun i hi=>h i (by omega))]
def Ny {ft} {i}:∀{j},i<j->ft i∈iC ft j
 |0,h=>by omega
 |j+1,h=>by
  rw[iC]
  by_cases e:i=j
  subst e;simp
  exact aC3 _ (Ny (by omega))
def revF_length (ft:Nat->Foot):∀j,(iC ft j).length=j
 |0=>rfl
 |j+1=>by simp[iC,revF_length ft j]
section
variable (T:jW) (ex:Nat->Bool->IC->St->Option (Ex×St))
def Stp (lim a m j:Nat) (o:Sim.Op1) (ft:Nat->Foot) (st:Nat->St) (v:Nat->AV):Prop:=
  (st (j+1)).t=put (st j).t o.dst (v j)/\
  ((wanted (st j).t o.guard=false/\v j=.undef/\ft j={}/\(st (j+1)).s=(st j).s)\/
   (wanted (st j).t o.guard=true/\∃xs,evs (st j).t o.xs=some xs/\(foot T o.k xs).all=1/\ft j=foot T o.k xs/\(st (j+1)).s=(st j).s/\
     ∃b,step T ex lim o.k xs {h:=hide (unseen a j (iC ft j)) (st j).s.h,n:=(st j).s.n+rsv (m-j)}=some (v j,b))\/
   (wanted (st j).t o.guard=true/\∃xs,evs (st j).t o.xs=some xs/\((foot T o.k xs).all≠1/\(foot T o.k xs).all≠3)/\ft j={foot T o.k xs with al:=List.range' (st j).s.n ((st (j+1)).s.n-(st j).s.n)}/\
     step T ex lim o.k xs (st j).s=some (v j,(st (j+1)).s))\/
   (wanted (st j).t o.guard=true/\∃xs W,evs (st j).t o.xs=some xs/\(foot T o.k xs).all=3/\ft j={wr:=W,al:=List.range' (st j).s.n ((st (j+1)).s.n-(st j).s.n),all:=1,x:=true}/\
     callX (nbF (iC ft j)) (step T ex lim o.k xs) (unseen a j (iC ft j)) xs (st j).s=some (v j,(st (j+1)).s,W)))
variable {T ex}
def Stp.congr {lim mask m j} {o} {ft ft'} {st st'} {v v'} (h:Stp T ex lim mask m j o ft st v) (hf:∀i,i<=j->ft' i=ft i) (h1:st' j=st j) (h2:st' (j+1)=st (j+1)) (a:v' j=v j):
  Stp T ex lim mask m j o ft' st' v':=by
 unfold Stp at *;rw[h1,h2,a,hf j (yX2 _),oQ (ft:=ft') (ft':=ft) (j:=j) (fun i hi=>hf i (by omega))];exact h
def Nz {lim} {before}:∀os j σ a n b,eN T ex lim before os j (iC a j) σ=some (n,b)->
  ∃st ft v,(∀i,i<j->ft i=a i)/\st j=σ/\st (j+os.length)=n/\b=iC ft (j+os.length)/\
   ∀k o,os[k]? =some o->Stp T ex lim (before.getD (j+k) 0) (j+os.length) (j+k) o ft st v
 |[],j,σ,a,n,b,h=>by
  simp only[eN,yZ2,zU2]at h
  obtain⟨rfl,rfl⟩:=h
  exact⟨fun _=>σ,a,fun _=>.undef,fun _ _=>rfl,rfl,rfl,rfl,fun k o h=>by simp at h⟩
 |o::os,j,σ,a,n,b,h=>by
  have cJ:∀s f x,eN T ex lim before os (j+1) (f::iC a j) s=some (n,b)->
    (∀st ft v,st j=σ->st (j+1)=s->ft j=f->(∀i,i<j->ft i=a i)->v j=x->Stp T ex lim (before.getD j 0) (j+(os.length+1)) j o ft st v)->
    ∃st ft v,(∀i,i<j->ft i=a i)/\st j=σ/\st (j+(o::os).length)=n/\b=iC ft (j+(o::os).length)/\
     ∀k o',(o::os)[k]? =some o'->Stp T ex lim (before.getD (j+k) 0) (j+(o::os).length) (j+k) o' ft st v:=by
   intro s f x hr hs;let l:Nat->Foot:=fun i=>if i=j then f else a i
   have r:f::iC a j=iC l (j+1):=by
    have h1:l j=f:=yY2 rfl;rw[iC,h1,oQ (ft:=l) (ft':=a) (fun i hi=>zB2 (by omega))]
   rw[r]at hr;obtain⟨st,ft,v,h1,h2,w,y,z⟩:=Nz os (j+1) s l n b hr;have p:∀i,i<j->ft i=a i:=fun i hi=>(h1 i (by omega)).trans (zB2 (by omega));have q:ft j=f:=(h1 j (by omega)).trans (yY2 rfl);have hlen:j+(o::os).length=j+1+os.length:=by simp;omega
   refine⟨fun i=>if i=j then σ else st i,ft,fun i=>if i=j then x else v i,p,yY2 rfl,?_,?_,?_⟩;rw[hlen];exact(zB2 (by omega)).trans w;rw[hlen];exact y;intro k o' hk;cases k with
   |zero=>
    simp only[aT3,yZ2]at hk;subst hk;exact hs _ ft _ (yY2 rfl) ((zB2 (by omega)).trans h2) q p (yY2 rfl)
   |succ k=>
    have u:=z k o' (by simpa using hk);have e:j+1+k=j+(k+1):=by omega
    rw[e,<-hlen]at u;exact u.congr (fun _ _=>rfl) (zB2 (by omega)) (zB2 (by omega)) (zB2 (by omega))
  simp only[eN]at h;split at h;rename_i hw;split at h;rename_i xs m;split at h;rename_i d;split at h;rename_i v t g;refine cJ _ _ v h (fun st ft v' a1 a2 a3 a4 a5=>?_);unfold Stp;rw[a1,a2,a5,a3,oQ a4];refine⟨rfl,.inr (.inl ⟨hw,xs,m,d,rfl,rfl,t,?_⟩)⟩;have e:j+(os.length+1)-j=os.length+1:=by omega
  rw[e];exact g;cases h;rename_i d;split at h;rename_i c;split at h;rename_i v t W g;refine cJ _ _ v h (fun st ft v' a1 a2 a3 a4 a5=>?_);unfold Stp;rw[a1,a2,a5,a3,oQ a4];exact⟨rfl,.inr (.inr (.inr ⟨hw,xs,W,m,c,rfl,g⟩))⟩;cases h;rename_i c;split at h;rename_i v t g;refine cJ _ _ v h (fun st ft v' a1 a2 a3 a4 a5=>?_);unfold Stp;rw[a1,a2,a5,a3];exact⟨rfl,.inr (.inr (.inl ⟨hw,xs,m,⟨d,c⟩,rfl,g⟩))⟩;cases h;cases h;rename_i hw;refine cJ _ _ .undef h (fun st ft v' a1 a2 a3 a4 a5=>?_);unfold Stp;rw[a1,a2,a5,a3];exact⟨rfl,.inl ⟨by simpa using hw,rfl,rfl,rfl⟩⟩
def tD {a} {f} {ft}:∀{j},drawOK.okAgainst a f (iC ft j) j=true->∀i,i<j->a.testBit i=true\/compat (ft i) f=true
 |0,_,i,hi=>by omega
 |j+1,h,i,hi=>by
  simp only[iC,drawOK.okAgainst,cD3,yS2,zN2]at h
  by_cases e:i=j
  subst e;exact h.1
  exact tD h.2 i (by omega)
def Bb {before} {ft}:∀{m},drawOK before (iC ft m) m=true->∀j,j<m->∀i,i<j->(before.getD j 0).testBit i=true\/compat (ft i) (ft j)=true
 |0,_,j,hj=>by omega
 |m+1,h,j,hj=>by
  simp only[iC,drawOK,cD3,yS2]at h
  intro i hi
  by_cases e:j=m
  subst e;exact tD h.1 i hi
  exact Bb h.2 j (by omega) i hi
end
end Go.Sim
namespace Go.Sim
variable {ex:Nat->Bool->IC->St->aB (Ex×St)} {of:IX} {ps:Array Tmp} {y:Code}
section
variable {P:Program} {T:jW} {lim n:Nat} {g:Gh} {w:World} {r:Option Nat}
def Sm (P:Program) (T:jW) (ex:Nat->Bool->IC->St->aB (Ex×St)):Prop:=
 ∀(lim:Nat) (ops:Array Oper) (ios:aA Sim.Op1) (σ b:St) (fs:aA Foot) (id:Nat),mapO (lV P ops.toList) ops.toList=some ios->bE1 ops.toList ios (cZ [] ops.toList)=true->
  eN T ex lim (cZ [] ops.toList) ios 0 [] σ=some (b,fs)->drawOK (cZ [] ops.toList) fs fs.length=true->
  ∀(r:aB Nat) (g:Gh) (a:Act) (w:World) (n base:Nat),TR g σ.t a.tmps.toList->mJ P g w σ.s->lim<=σ.s.n->base<=w.heap.size->jK base g w a.defers->
   (Code.region id ops true).wpIn (FW r) n P (Eb P base lim g w σ.s .normal b) a w
def Ax.trans {base} {s s' s''} {t t'} {g' g''} {a' a''} {w' w''} (h:Ax P base lim g w s t s' g' a' w') (k:Ax P base lim g' w' s' t' s'' g'' a'' w''):
  Ax P base lim g w s t' s'' g'' a'' w'':=⟨k.t,k.inv,h.ext.trans k.ext,zX2 h.n k.n,k.marks⟩
def mJ.pop {s} (h:mJ P g w s):mJ P g w {h:=popMark s.h,n:=s.n}:=
 ⟨fun id ao a=>h.H id ao (Ns h.wf a),h.W,h.dom,h.wf.pop⟩
def mJ.mark {s} (h:mJ P g w s):mJ P g w {h:=.mark::s.h,n:=s.n}:=⟨h.H,h.W,h.dom,h.wf⟩
def Ih {base} {s s'} {t} {g'} {e} {σ'} {e'} {a' a''} {w' w''} (b:Ax P base lim g w s t s' g' a' w') (h:Eb P base lim g' w' s' e σ' e' a'' w''):Eb P base lim g w s e σ' e' a'' w'':=by
 obtain⟨h1,a,h2⟩:=h;exact⟨h1,a,b.trans h2⟩
def xK {D} (c:∀d,d<D->pW P (exec T d)) {x} {f} (l:comp P x=some f) {rd} {r} (hr:rd=r.isSome) {e} {m}:
  ∀d,d<=D->∀σ g a w n base Q,exec T d lim rd (.loop f) σ=some (e,m)->pM r w->TR g σ.t a.tmps.toList->mJ P g w σ.s->lim<=σ.s.n->base<=w.heap.size->jK base g w a.defers->
   (∀e' a' w',Eb P base lim g w σ.s e m e' a' w'->Q e' a' w')->Code.roundsIn (FW r) n P x Q d a w
 |0,_,σ,g,a,w,n,base,Q,h,_,_,_,_,_,_,_=>by simp[exec]at h
 |d+1,hd,σ,g,a,w,n,base,Q,h,hra,ht,hI,hl,hb,hm,hQ=>by
  simp only[exec]at h
  rw[roundsIn_succ]
  split at h
  rename_i τ j
  refine wpIn_mono (c d (by omega) lim rd f _ .normal τ j x l r hr g a w n base hra ht hI.mark hl hb hm) ?_
  rintro o a1 w1 ⟨rfl,i,b⟩
  refine xK c l hr d (by omega) _ i a1 w1 n base Q h (hra.ext b.ext) b.t b.inv.pop (zX2 hl b.n) (zX2 hb b.ext.size) b.marks ?_
  intro e2 a2 w2 h2
  exact hQ _ _ _ (Ih (s':={h:=popMark τ.s.h,n:=τ.s.n}) ⟨b.t,b.inv.pop,b.ext,b.n,b.marks⟩ h2)
  rename_i p τ k j
  cases h
  refine wpIn_mono (c d (by omega) lim rd f _ e τ j x l r hr g a w n base hra ht hI.mark hl hb hm) ?_
  rintro o a1 w1 ⟨rfl,i,b⟩
  cases e with
  |normal=>exact(k rfl).elim
  |ret=>exact hQ _ _ _ ⟨rfl,i,b.t,b.inv.pop,b.ext,b.n,b.marks⟩
  |exit id=>exact hQ _ _ _ ⟨rfl,i,b.t,b.inv.pop,b.ext,b.n,b.marks⟩
  cases h
def mJ.other {s} (a:mJ P g w s) (o:Obj):mJ P g (w.alloc o) s/\sS lim g g w (w.alloc o):=by
 have c:∀b o',g.G b=some o'->b<w.heap.size:=fun b o' h=>(zV2.1 (a.W.still b o' h)).1
 refine⟨⟨fun id ao d=>(a.H id ao d).mono (.refl g) rfl (fun loc hl=>dO w o (a.W.lt id loc hl)),⟨fun b o' h=>?_,fun id loc h=>?_,a.W.out,a.W.inj⟩,a.dom,a.wf⟩,
  ⟨.refl g,by simp,fun b hb _=>dO w o hb,fun id loc h=>.inl ⟨loc,h,rfl⟩,fun _ _=>rfl,rfl,rfl,rfl,fun _ _ h=>.inl h,fun b R h=>⟨R,(dO w o (zV2.1 h).1).trans h⟩⟩⟩
 rw[dO w o (c b o' h)];exact a.W.still b o' h;have:=a.W.lt id loc h;simp;omega
def jK.fresh {base}:∀{a},jK base g w a->∀d∈a,d.target≠.collected w.heap.size
 |[],_,d,hd=>by simp at hd
 |d0::a,⟨⟨r,h1,h2,h3,_,_,_⟩,h7⟩,d,hd=>by
  rcases zF2.1 hd with rfl|hd
  intro e
  rw[h1]at e
  cases e
  have:=(zV2.1 h3).1
  omega
  exact jK.fresh h7 d hd
def Oa {b} {R} (hb:w.heap[b]? =some (.loop R)) (hr:R.state≠.busy):(Instr.endLoop b).run P w=.ok R.pending {w with heap:=w.heap.setIfInBounds b (.loop {R with state:=.exhausted})}:=by
 simp[Instr.endLoop,nD hb,sX hb,hr]
def tV1:aB IC->aB Ex
 |none=>some .normal
 |some .ret=>some .ret
 |some (.exit id)=>some (.exit id)
 |_=>none
theorem El (b8:pW P ex) (hT:jT P T) {f:Operand} {x:Code} {cx cy:IC} (hf:Ha f=some of) (Z:comp P x=some cx) (hy:comp P y=some cy)
  {σ:St} {K:FuncId} {first cap:aA AV} (b7:of.ev σ.t=some (.fn (.func K) first cap)) {v:AV} {s:Hp}
  (c:callF T ex lim K (first++[.fn (.yield σ.s.n) [] []]++cap) {h:=.ob σ.s.n (.loop .ready none σ.t ps.toList cx cy)::σ.s.h,n:=σ.s.n+1}=some (v,s))
  {st:LoopState} {pend:aB IC} {tm:aA AV} {pm:aA Nat} {as bd:IC} (hL:look s.h σ.s.n=some (.loop st pend tm pm as bd)) (d3:st≠.busy) {s':Hp} (U:endRound σ.s.n s .exhausted pend=some s')
  {e:Ex} (he:tV1 pend=some e)
  {a:Act} {base:Nat} (ht:TR g σ.t a.tmps.toList) (hI:mJ P g w σ.s) (hl:lim<=σ.s.n) {w1:World} {mark:aA Deferred} {D:Nat} (z:mJ P g w1 σ.s) (u:sS lim g g w w1) (Y:jK base g w1 (mark++a.defers))
  (m:∀d,(Instr.enterLoop d a.tmps ps x y (FW r).round).run P w=.ok (w1.heap.size,mark) (w1.alloc (.loop {state:=.ready,pending:=none,fn:=d,tmps:=a.tmps,params:=ps,assign:=x,body:=y,defers:=D}))):
  (Code.rangeFunc f ps x y).wpIn (FW r) n P (Eb P base lim g w σ.s e {t:=σ.t,s:=s'}) a w:=by
 refine wpIn_rangeFunc (fun d _=>?_);have X:=Kj ht hf b7;generalize hV:a.eval f=V at X;cases X with
 |@fn _ _ _ _ F C l1 l2 v1 v2=>
  have k:∃ifn,T K=some ifn:=by
   unfold callF at c;split at c;cases c
   grind
  obtain⟨ifn,k⟩:=k;obtain⟨fn,b9,b6⟩:=hT.fns K ifn k;obtain⟨⟨cd,B⟩,J⟩:=Ay b6;have o:¬fn.name= "runtime.NumGoroutine":=by simpa using J
  let R:Loop:={state:=.ready,pending:=none,fn:=d,tmps:=a.tmps,params:=ps,assign:=x,body:=y,defers:=D}
  let w2:=w1.alloc (.loop R)
  have hn:g.ι σ.s.n=none:=by
   cases h:g.ι σ.s.n with
   |none=>rfl
   |some l=>have:=hI.dom σ.s.n (by rw[h];simp);omega
  let loc:Hb:={b:=w1.heap.size,esz:=1,ct:=1,ver:=0}
  obtain⟨j,b5⟩:=Uy (lim:=lim) z.W (.loop R) σ.s.n loc rfl hn hl;let g2:Gh:={G:=g.G,ι:=fun id=>if id=σ.s.n then some loc else g.ι id}
  have E:g2.ι σ.s.n=some loc:=yY2 rfl
  have b0:mJ P g2 w2 {h:=.ob σ.s.n (.loop .ready none σ.t ps.toList cx cy)::σ.s.h,n:=σ.s.n+1}:=by
   refine⟨fun id ao ha=>?_,b5,fun id h=>?_,⟨by simp,hI.wf⟩⟩;simp only[look]at ha;split at ha;rename_i e;subst e;cases ha;refine⟨loc,R,E,rfl,?_,rfl,rfl,ht.mono (u.le.trans j.le),by simp[R],Z,hy⟩;show w2.heap[w1.heap.size]? =_
   exact heap_alloc_new w1 _;rename_i e;refine(z.H id ao ha).mono j.le ?_ (fun l hl=>dO w1 _ (z.W.lt id l hl));show(if id=σ.s.n then some loc else g.ι id)=g.ι id
   rw[zB2 (fun h=>e h.symm)];show id<σ.s.n+1
   by_cases e:id=σ.s.n;omega
   have h:g.ι id≠none:=by
    have:g2.ι id=g.ι id:=zB2 e
    rwa [this]at h
   have:=hI.dom id h;omega
  have hF:TR g first F.toList:=⟨by simpa using l1,fun i x y Z hy=>v1 i x y Z (by simpa using hy)⟩
  have hC:TR g cap C.toList:=⟨by simpa using l2,fun i x y Z hy=>v2 i x y Z (by simpa using hy)⟩
  have q:g.le g2:=u.le.trans j.le
  have A:TR g2 (first++[.fn (.yield σ.s.n) [] []]++cap) (F++#[Value.func (.yield w1.heap.size) #[] #[]]++C).toList:=by
   have:=((hF.mono q).app (.cons (VR.yield (l:=σ.s.n) (b:=w1.heap.size) E (fun _=>rfl)) (.nil g2))).app (hC.mono q);simpa using this
  have d2:jK base g2 w2 (mark++a.defers):=Y.ext j;refine⟨w1.heap.size,mark,w2,{target:=.fn (.func K) C,args:=F++#[Value.func (.yield w1.heap.size) #[] #[]]},w2,K,F++#[Value.func (.yield w1.heap.size) #[] #[]]++C,w2,m d,?_,fun _ _=>trivial,?_,fun h=>(by cases h),?_⟩;have S:a.eval (.const (.func (.yield w1.heap.size) #[] #[]))=.func (.yield w1.heap.size) #[] #[]:=rfl;simp[resolve,rangeCall,hV,Deferred.ofValue,S];simp[invoke,callFunc,b9,o,B];refine CallsIn.mono (Ea (xD b8 hT c A b0 (by show lim<=σ.s.n+1;omega))) ?_;rintro e' w' ⟨V',M,rfl,k1,k2,k3,k4⟩;obtain⟨a0,R3,m1,m2,m3,m4,m5,m6,m7,m8,m9⟩:=sW k2 hL
  have d0:a0=loc:=by
   obtain⟨loc',q1,q2,q3⟩:=k3.le.ι σ.s.n loc E;rw[m1]at q1;cases q1;exact q3 m2.symm
  subst d0;obtain⟨_,_,_,_,_,_,O,rfl⟩:=pX U;rw[hL]at O;cases O;obtain⟨b4,N⟩:=Eg (lim:=lim) (st':=.exhausted) (pend':=pend) (R':={R3 with state:=.exhausted}) k2 hL hl m1 m3 rfl m5 rfl rfl rfl rfl;refine⟨_,_,Oa m3 (by rw[m4];exact d3),?_⟩;have p:sS lim g M w {w' with heap:=w'.heap.setIfInBounds loc.b (.loop {R3 with state:=.exhausted})}:=((u.trans j).trans k3).trans N
  have L:Ax P base lim g w σ.s σ.t {h:=upd s.h σ.s.n (.loop .exhausted pend tm pm as bd),n:=s.n} M {a with defers:=mark++a.defers} {w' with heap:=w'.heap.setIfInBounds loc.b (.loop {R3 with state:=.exhausted})}:=
   ⟨ht.mono p.le,b4,p,by have:σ.s.n+1<=s.n:=k4;show σ.s.n<=s.n;omega,(d2.ext k3).ext N⟩
  unfold tV1 at he;split at he;cases he;have:R3.pending=none:=m5;rw[this]at L ⊢;exact⟨rfl,M,L⟩;cases he;have:R3.pending=some .ret:=m5;rw[this]at L ⊢;exact wpIn_ret ⟨rfl,M,L⟩;cases he;have:R3.pending=some (.exit _):=m5;rw[this]at L ⊢;exact wpIn_exit ⟨rfl,M,L⟩;cases he
def Em (m:pW P ex) (K:jT P T) {f:Operand} {x:Code} {E F:IC} (hf:Ha f=some of) (M:comp P x=some E) (hy:comp P y=some F)
  {σ:St} {H:FuncId} {first cap:aA AV} (k:of.ev σ.t=some (.fn (.func H) first cap)) {v:AV} {s:Hp}
  (c:callF T ex lim H (first++[.fn (.yield σ.s.n) [] []]++cap) {h:=.ob σ.s.n (.loop .ready none σ.t ps.toList E F)::σ.s.h,n:=σ.s.n+1}=some (v,s))
  {st:LoopState} {pend:aB IC} {O:aA AV} {N:aA Nat} {as bd:IC} (J:look s.h σ.s.n=some (.loop st pend O N as bd)) (p:st≠.busy) {s':Hp} (d:endRound σ.s.n s .exhausted pend=some s')
  {e:Ex} (he:tV1 pend=some e)
  {a:Act} {base:Nat} (C:pM r w) (L:TR g σ.t a.tmps.toList) (i:mJ P g w σ.s) (hl:lim<=σ.s.n) (hb:base<=w.heap.size) (A:jK base g w a.defers):
  (Code.rangeFunc f ps x y).wpIn (FW r) n P (Eb P base lim g w σ.s e {t:=σ.t,s:=s'}) a w:=by
 cases r with
 |none=>
  obtain⟨u,j⟩:=i.other (lim:=lim) (.deferred (some []))
  have B:jK base g (w.alloc (.deferred (some []))) ([{target:=.collected w.heap.size,args:=#[]}]++a.defers):=by
   refine⟨⟨w.heap.size,rfl,hb,heap_alloc_new w _,fun id l h=>?_,?_,A.fresh⟩,A.ext j⟩;have:=i.W.lt id l h;omega;cases hG:g.G w.heap.size with
   |none=>rfl
   |some o=>
    have:=(zV2.1 (i.W.still _ o hG)).1;omega
  refine El (D:=w.heap.size) m K hf M hy k c J p d he L i hl u j B (fun q=>?_);simp only[FW,Instr.enterLoop];simp[newObj,Sem.run]
 |some b=>
  obtain⟨R0,z⟩:=C b rfl;refine El (w1:=w) (mark:=[]) (D:=R0.defers) m K hf M hy k c J p d he L i hl i (.refl lim g w) A (fun q=>?_);simp only[FW,Instr.enterLoop];simp[nD z,newObj];simp[Sem.run]
def Oc (K:jT P T) (Y:∀d,pW P (exec T d)->Sm P T (exec T d)):∀D d,d<D->pW P (exec T d)
 |0,d,h=>by omega
 |D+1,d,hdD=>by
  have z:=Oc K Y D
  by_cases W:d<D
  exact z d W
  have V:d=D:=by omega
  subst V
  cases d with
  |zero=>exact fun lim rd c σ e F h=>by simp[exec]at h
  |succ d=>
  have ih:=z d (by omega)
  intro lim rd c σ e F h code hc r hr g a w n base b j m hl hb o
  cases code with
  |skip=>
   simp only[comp,yZ2]at hc
   subst hc
   simp only[exec,yZ2,zU2]at h
   obtain⟨rfl,rfl⟩:=h
   exact wpIn_skip ⟨rfl,g,j,m,.refl lim g w,yX2 _,o⟩
  |region id ops dr=>
   simp only[comp]at hc
   split at hc
   cases hc
   rename_i ios G
   split at hc
   rename_i A
   split at hc
   rename_i O
   cases hc
   subst A
   simp only[exec]at h
   split at h
   rename_i τ fs hf
   split at h
   rename_i M
   cases h
   exact Y d ih lim ops ios σ F fs id G O hf M r g a w n base j m hl hb o
   cases h
   cases h
   cases hc
   rename_i A
   cases hc
   have A:dr=false:=by simpa using A
   subst A
   simp only[exec,yV2,zU2]at h
   obtain⟨τ,h,rfl,rfl⟩:=h
   refine wpIn_region ?_
   rw[List.range_eq_range',<-cT3]
   exact zP ih K ops.toList ios 0 σ τ g w a G (by simp) h j m hl o (fun g' a' w' k=>⟨rfl,g',k⟩)
  |seq x y=>
   simp only[comp]at hc
   split at hc
   rename_i u R p hy
   cases hc
   simp only[exec]at h
   refine wpIn_seq ?_
   split at h
   rename_i τ L
   refine wpIn_mono (ih lim rd u σ .normal τ L x p r hr g a w n base b j m hl hb o) ?_
   rintro S a1 w1 ⟨rfl,E,k⟩
   refine wpIn_mono (ih lim rd R τ e F h y hy r hr E a1 w1 n base (b.ext k.ext) k.t k.inv (zX2 hl k.n) (zX2 hb k.ext.size) k.marks) ?_
   intro e2 a2 w2 h2
   exact Ih k h2
   rename_i H
   refine wpIn_mono (ih lim rd u σ e F h x p r hr g a w n base b j m hl hb o) ?_
   rintro S a1 w1 ⟨rfl,E,k⟩
   cases e with
   |normal=>exact absurd h (H _)
   |ret=>exact⟨rfl,E,k⟩
   |exit id=>exact⟨rfl,E,k⟩
   cases hc
  |cond c x y=>
   simp only[comp]at hc
   split at hc
   rename_i oc u R N p hy
   cases hc
   simp only[exec]at h
   split at h
   rename_i t C
   have hv:=(Kj j N C).bool
   refine wpIn_cond hv ?_
   cases t
   exact ih lim rd R σ e F h y hy r hr g a w n base b j m hl hb o
   exact ih lim rd u σ e F h x p r hr g a w n base b j m hl hb o
   cases h
   cases hc
  |block id x=>
   simp only[comp,yV2]at hc
   obtain⟨u,p,rfl⟩:=hc
   simp only[exec]at h
   refine wpIn_block ?_
   split at h
   rename_i i τ L
   refine wpIn_mono (ih lim rd u σ (.exit i) τ L x p r hr g a w n base b j m hl hb o) ?_
   rintro S a1 w1 ⟨rfl,E,k⟩
   simp only[Ex.toExit,Exit.inBlock]
   split at h
   rename_i hi
   cases h
   rw[yY2 hi]
   exact⟨rfl,E,k⟩
   rename_i hi
   cases h
   rw[zB2 hi]
   exact⟨rfl,E,k⟩
   rename_i H
   refine wpIn_mono (ih lim rd u σ e F h x p r hr g a w n base b j m hl hb o) ?_
   rintro S a1 w1 ⟨rfl,E,k⟩
   cases e with
   |normal=>exact⟨rfl,E,k⟩
   |ret=>exact⟨rfl,E,k⟩
   |exit id=>exact absurd h (H _ _)
  |loop x=>
   simp only[comp,yV2]at hc
   obtain⟨u,p,rfl⟩:=hc
   exact wpIn_loop_rounds (d+1) (xK (D:=d+1) z p hr (d+1) (yX2 _) σ g a w n base _ h b j m hl hb o (fun _ _ _ h=>h))
  |rangeFunc f ps x y=>
   simp only[comp]at hc
   split at hc
   rename_i of u R N p hy
   cases hc
   simp only[exec]at h
   split at h
   rename_i Z first cap C
   split at h
   rename_i v s q
   split at h
   rename_i st pend tm pm as bd U
   split at h
   cases h
   rename_i J
   split at h
   cases h
   rename_i s' B
   split at h
   cases h
   exact Em ih K N p hy C q U J B rfl b j m hl hb o
   cases h
   exact Em ih K N p hy C q U J B rfl b j m hl hb o
   cases h
   exact Em ih K N p hy C q U J B rfl b j m hl hb o
   cases h
   cases h
   cases h
   cases h
   cases hc
  |exit id=>
   simp only[comp,yZ2]at hc
   subst hc
   simp only[exec,yZ2,zU2]at h
   obtain⟨rfl,rfl⟩:=h
   exact wpIn_exit ⟨rfl,g,j,m,.refl lim g w,yX2 _,o⟩
  |ret=>
   simp only[comp,yZ2]at hc
   subst hc
   simp only[exec,yZ2,zU2]at h
   obtain⟨rfl,rfl⟩:=h
   exact wpIn_ret ⟨rfl,g,j,m,.refl lim g w,yX2 _,o⟩
  |scope x=>
   simp only[comp,yV2]at hc
   obtain⟨u,p,rfl⟩:=hc
   simp only[exec]at h
   refine Si (fun l a w X=>by obtain⟨X,_⟩:=X;cases e<;>cases X) ?_
   split at h
   rename_i τ L
   have:e=.normal/\F=τ:=by
    cases d with
    |zero=>simp[exec]at h
    |succ d=>simp only[exec,yZ2,zU2]at h;exact⟨h.1.symm,h.2.symm⟩
   obtain⟨rfl,rfl⟩:=this;exact ih lim rd u σ .normal _ L x p r hr g a w n base b j m hl hb o;exact ih lim rd u σ e F h x p r hr g a w n base b j m hl hb o
  |label l=>
   simp only[comp,yZ2]at hc;subst hc;simp only[exec,yZ2,zU2]at h;obtain⟨rfl,rfl⟩:=h;exact wpIn_label ⟨rfl,g,j,m,.refl lim g w,yX2 _,o⟩
  |_=>simp[comp]at hc
def jL1 (b:jT P T) (a:∀d,pW P (exec T d)->Sm P T (exec T d)) (d:Nat):pW P (exec T d):=Oc b a (d+1) d (by omega)
end
end Go.Sim
namespace Go.Sim
variable {f:Foot} {ft:Nat->Foot} {id j:Nat}
def Vh (T:jW) (k:gC) (xs:aA AV):(foot T k xs).al=[]:=by
 unfold foot;split<;>rfl
theorem Yd {T} {ex} {lim} {f} {fn} {xs} {H} {N} {v} {s2} (hf:T f=some fn) (hp:fn.pure=true) (b:(fn.frz||xs.all (closed 4))=true)
  (h:callF T ex lim f xs {h:=H,n:=N}=some (v,s2)) (N':Nat):∃a,callF T ex lim f xs {h:=H,n:=N'}=some (v,a):=by
 unfold callF at h ⊢;simp only[hf,hp,zT2]at h ⊢;split at h;rename_i hc;rw[yY2 hc];obtain⟨w,h1,h2⟩:=yV2.1 h;cases h2;exact⟨_,by rw[h1];rfl⟩
 grind
def cK1 {T} {ex} {lim} {k} {xs} {H} {N} {v} {s2} (h:step T ex lim k xs {h:=H,n:=N}=some (v,s2)) (e:(foot T k xs).all=1) (d:(foot T k xs).x=true) (N':Nat):
  ∃i,step T ex lim k xs {h:=H,n:=N'}=some (v,i):=by
 have one:∀{f} {zs},(match T f with|some fn=>fn.pure&&(fn.frz||zs.all (closed 4))|none=>false)=true->callF T ex lim f zs {h:=H,n:=N}=some (v,s2)->∃i,callF T ex lim f zs {h:=H,n:=N'}=some (v,i):=fun{f zs} d h=>by
  split at d;rename_i fn hf;simp only[yS2]at d;exact Yd hf d.1 d.2 h N';cases d
 cases k with
 |callF f=>exact one d h
 |callV=>
  cases xs with
  |nil=>simp[foot]at d
  |cons f args=>
   cases f with
   |fn g first cap=>
    cases g with
    |func g=>exact one (zs:=first++args++cap) d h
    |_=>simp[foot]at d
   |_=>simp[foot]at d
 |_=>exfalso;rcases xs with _|⟨a,_|⟨b,_|⟨c,t⟩⟩⟩<;>simp[foot]at e
def xL (T:jW) (k:gC) (xs:aA AV):(foot T k xs).all<=3/\((foot T k xs).all≠0->(foot T k xs).rd=[]/\(foot T k xs).wr=[]):=by
 unfold foot
 split<;>first
  |exact⟨by simp,fun h=>absurd rfl h⟩
  |(refine⟨?_,fun _=>⟨rfl,rfl⟩⟩;(repeat' split)<;>simp_all)
theorem uB {T} {k} {xs} (h:(foot T k xs).all=0):(∀f,k≠.callF f)/\k≠.callV:=by
 constructor;rintro f rfl;simp only[foot]at h;split at h
 grind
 cases h;rintro rfl;cases xs with
 |nil=>simp[foot]at h
 |cons x xs=>
  simp only[foot]at h;split at h
  grind
  cases h
theorem vT {T} {ex} {lim} {k} {xs} {s s'} {v} (h:step T ex lim k xs s=some (v,s')) (h0:(foot T k xs).all=0):
  ∃out,doOp (look s.h) lim s.n k xs=some out/\v=out.v/\s'=out.apply s:=by
 obtain⟨h1,h2⟩:=uB h0;unfold step at h;split at h
 grind
 exact absurd rfl h2
 grind
theorem En {out:Out} {s:Hp} (a:∀i ob,out.up=some (i,ob)->(look s.h i).isSome=true) (id:Nat):look (out.apply s).h id=out.after (look s.h) s.n id:=by
 have hb:look (match out.up with|some (i,ob)=>upd s.h i ob|none=>s.h) id=out.base (look s.h) id:=by
  unfold Out.base;cases hu:out.up with
  |none=>rfl
  |some p=>
   obtain⟨i,ob⟩:=p;simp only[look_upd];have:=a i ob hu;by_cases e:id=i;subst e;simp[this];simp[e]
 unfold Out.apply Out.after;cases hn:out.new with
 |none=>exact hb
 |some ob=>
  simp only[look];by_cases e:s.n=id
  grind
  grind
def uC (out:Out) (s:Hp):(out.apply s).n=if out.new.isSome then s.n+1 else s.n:=by
 unfold Out.apply;cases out.new<;>rfl
def lG (h:f.isE=true):f.rd=[]/\f.wr=[]/\f.al=[]/\f.all=0:=by
 simp only[Foot.isE,yS2,List.isEmpty_iff]at h;exact⟨h.1.1.1,h.1.1.2,h.1.2,zM2 h.2⟩
def Kl (h:id∈f.rd\/id∈f.wr):f.isE=false:=by
 cases hE:f.isE with
 |false=>rfl
 |true=>obtain⟨a,b,_⟩:=lG hE;rw[a,b]at h;simp at h
def Ce (h:id∈f.al):f.isE=false:=by
 cases hE:f.isE with
 |false=>rfl
 |true=>obtain⟨_,_,c,_⟩:=lG hE;rw[c]at h;simp at h
def tE (h:f.all≠0):f.isE=false:=by
 cases hE:f.isE with
 |false=>rfl
 |true=>exact absurd (lG hE).2.2.2 h
theorem jM1 {i j:Foot} (h:i.all+j.all<=1\/i.isE=true\/j.isE=true) (a:j.isE=false):i.all<=1:=by
 rcases h with h|h|h;omega;have:=(lG h).2.2.2;omega
 grind
theorem Ii {i j:Foot} (h:i.all+j.all<=1\/i.isE=true\/j.isE=true) (hi:i.isE=false):j.all<=1:=by
 rcases h with h|h|h;omega
 grind
 have:=(lG h).2.2.2;omega
def jM {i j} (h:compat0 i j=true):compat i j=true:=by simp[compat,h]
def fH {i j:Foot} (h:compat i j=true):(i.all+j.all<=1\/i.isE=true\/j.isE=true)/\(∀x∈i.wr,x∉j.rd/\x∉j.wr)/\(∀x∈j.wr,x∉i.rd)/\(∀x∈i.al,x∉j.rd/\x∉j.wr)/\(i.all=0\/j.wr=[])/\(j.all=0\/i.wr=[]):=by
 simp only[compat,zN2]at h;rcases h with(h|h)|h;obtain⟨a,b,c,d⟩:=lG h;rw[a,b,c,d];exact⟨.inr (.inl h),fun x e=>by simp at e,fun x _ e=>by simp at e,fun x e=>by simp at e,.inl rfl,.inr rfl⟩;obtain⟨a,b,c,d⟩:=lG h;rw[a,b,d];exact⟨.inr (.inr h),fun x _=>⟨fun e=>by simp at e,fun e=>by simp at e⟩,fun x e=>by simp at e,fun x _=>⟨fun e=>by simp at e,fun e=>by simp at e⟩,.inr rfl,.inl rfl⟩;simp only[compat0,yS2,zD2,yW2,zK2,zN2,bH3,List.isEmpty_iff,aD3,aA3]at h;obtain⟨⟨⟨⟨⟨h1,h2⟩,f⟩,g⟩,k⟩,l⟩:=h;exact⟨.inl h1,h2,f,g,k,l⟩
def rO {mask} {ft} {id}:∀{j},∀i,i<j->mask.testBit i=false->id∈(ft i).al->id∈unseen mask j (iC ft j)
 |0,i,hi,_,_=>by omega
 |j+1,i,hi,hm,hid=>by
  simp only[iC,unseen,cD3,aG3]
  by_cases e:i=j
  subst e
  left
  rw[hm]
  simpa using hid
  exact .inr (rO i (by omega) hm hid)
def Ij {l l'}:∀{xs},(∀t,.t t∈xs->l[t]? =l'[t]?)->evs l xs=evs l' xs
 |[],_=>rfl
 |x::xs,h=>by
  have h1:x.ev l=x.ev l':=by
   cases x with
   |t i=>exact h i (by simp)
   |c v=>rfl
  simp only[evs,h1,Ij (xs:=xs) (fun t a=>h t (by simp[a]))]
def Km {l l'} {a} (h:∀i b,a=some (i,b)->l[i]? =l'[i]?):wanted l a=wanted l' a:=by
 cases a with
 |none=>rfl
 |some p=>
  obtain⟨i,b⟩:=p;simp only[Sim.wanted,h i b rfl]
def Eo (l:aA AV) (d:aB Nat) (v:AV):(put l d v).length=l.length:=by
 cases d<;>simp[put]
def vU {l} {d} {v} {t} (h:d≠some t):(put l d v)[t]? =l[t]? :=by
 cases d with
 |none=>rfl
 |some i=>simp only[put,zS2];rw[zB2 (fun e=>h (by rw[e]))]
def cL1 {l} {d d'} {v v'} (h:∀t,d=some t->d'≠some t):put (put l d v) d' v'=put (put l d' v') d v:=by
 cases d with
 |none=>rfl
 |some i=>
  cases d' with
  |none=>rfl
  |some j=>exact List.set_comm _ _ (fun e=>h i rfl (by rw[e]))
structure wT (P:Program) (T:jW) (ex:Nat->Bool->IC->St->Option (Ex×St)) (lim:Nat) (ops:Array Oper) (ios:List Sim.Op1) (st:Nat->St) (ft:Nat->Foot) (v:Nat->AV):Prop where
 comp:mapO (lV P ops.toList) ops.toList=some ios
 back:∀j o,ops.toList[j]? =some o->∀e∈o.after.toList,Region.binds .any e=true->e.on<j
 tmps:∀j o,ios[j]? =some o->∀i p,i<j->ios[i]? =some p->((cZ [] ops.toList).getD j 0).testBit i=true\/((∀d,p.dst=some d->o.dst≠some d/\d∉o.reads)/\∀d,o.dst=some d->d∉p.reads)
 step:∀j o,ios[j]? =some o->Stp T ex lim ((cZ [] ops.toList).getD j 0) ios.length j o ft st v
 com:∀j,j<ios.length->∀i,i<j->((cZ [] ops.toList).getD j 0).testBit i=true\/compat (ft i) (ft j)=true
 gr:rM ex
 wf0:Wf (st 0).s.h (st 0).s.n
def zC (ft:Nat->Foot) (j id:Nat):Bool:=(ft j).all==2||(ft j).wr.contains id||(ft j).al.contains id
def tW1 (h:(ft j).isE=true):zC ft j id=false:=by
 obtain⟨_,b,c,d⟩:=lG h;simp[zC,b,c,d]
def jI (st:Nat->St) (ft:Nat->Foot) (S:Nat->Bool):Nat->Nat->aB AO
 |0,id=>look (st 0).s.h id
 |j+1,id=>if S j&&zC ft j id then look (st (j+1)).s.h id else jI st ft S j id
def qG (ios:aA Sim.Op1) (j:Nat):aB Nat:=(ios[j]?).bind (·.dst)
def tl (ios:aA Sim.Op1) (st:Nat->St) (v:Nat->AV) (S:Nat->Bool):Nat->aA AV
 |0=>(st 0).t
 |j+1=>if S j then put (tl ios st v S j) (qG ios j) (v j)else tl ios st v S j
section
variable {P:Program} {T:jW} {ex:Nat->Bool->IC->St->Option (Ex×St)} {lim:Nat} {ops:Array Oper} {ios:List Sim.Op1} {st:Nat->St} {v:Nat->AV}
def wT.get (R:wT P T ex lim ops ios st ft v) {j} (h:j<ios.length):∃io o,ios[j]? =some io/\ops.toList[j]? =some o/\lV P ops.toList o=some io:=by
 obtain⟨h1,h2⟩:=eG R.comp;obtain⟨o,a,b⟩:=h2 j ios[j] (by simp[h]);exact⟨ios[j],o,by simp[h],a,b⟩
def wT.size (R:wT P T ex lim ops ios st ft v):ios.length=ops.size:=by
 obtain⟨h1,h2⟩:=eG R.comp;simpa using h1
def wT.grows (R:wT P T ex lim ops ios st ft v) {j} (h:j<ios.length):kG (st j).s (st (j+1)).s:=by
 obtain⟨io,o,h1,_,_⟩:=R.get h;obtain⟨_,h2⟩:=R.step j io h1;rcases h2 with⟨_,_,_,a⟩|⟨_,xs,_,_,_,a,_⟩|⟨_,xs,_,_,_,a⟩|⟨_,xs,W,_,_,_,a⟩
 rw[a];exact .refl _;rw[a];exact .refl _;exact oP R.gr a;exact Az (fun _ _ _=>oP R.gr) a
def wT.mono (R:wT P T ex lim ops ios st ft v) {i}:∀{j},i<=j->j<=ios.length->(st i).s.n<=(st j).s.n
  | 0, h, _ => by have:i=0:=by omega
                  subst this;exact yX2 _
  |j+1,h,hm=>by
    by_cases e:i=j+1
    subst e;exact yX2 _
    exact zX2 (R.mono (i:=i) (j:=j) (by omega) (by omega)) (R.grows (by omega)).n
def wT.wf (R:wT P T ex lim ops ios st ft v):∀{j},j<=ios.length->Wf (st j).s.h (st j).s.n
 |0,_=>R.wf0
 |j+1,h=>(R.grows (by omega)).wf (R.wf (by omega))
theorem wT.al (R:wT P T ex lim ops ios st ft v) {j id} (h:j<ios.length):id∈(ft j).al↔(st j).s.n<=id/\id<(st (j+1)).s.n:=by
 obtain⟨io,o,h1,_,_⟩:=R.get h;obtain⟨_,h2⟩:=R.step j io h1;rcases h2 with⟨_,_,b,a⟩|⟨_,xs,_,_,b,a,_⟩|⟨_,xs,_,h5,b,a⟩|⟨_,xs,W,_,h5,b,a⟩
 rw[b,a];simp;rw[b,a,Vh];simp
 grind
 grind
def wT.all (R:wT P T ex lim ops ios st ft v) {j} (h:j<ios.length):(ft j).all<=2:=by
 obtain⟨io,o,h1,_,_⟩:=R.get h;obtain⟨_,h2⟩:=R.step j io h1;rcases h2 with⟨_,_,a,b⟩|⟨_,xs,_,h5,a,b,_⟩|⟨_,xs,_,h5,a,b⟩|⟨_,xs,W,_,h5,a,b⟩
 rw[a];simp;rw[a];omega;rw[a];have:=(xL T io.k xs).1;have:=h5.2;simp only;omega;rw[a];simp
theorem wT.keep (R:wT P T ex lim ops ios st ft v) (h:j<ios.length) (c:zC ft j id=false):look (st (j+1)).s.h id=look (st j).s.h id:=by
 obtain⟨io,o,h1,_,_⟩:=R.get h;obtain⟨_,h2⟩:=R.step j io h1;rcases h2 with⟨_,_,d,b⟩|⟨_,xs,_,_,d,b,_⟩|⟨_,xs,_,h5,d,b⟩|⟨_,xs,W,_,h5,d,b⟩
 rw[b];rw[b];have z:=(xL T io.k xs).1;simp only[zC,bC3,bZ3,ne_eq,aD3,aA3]at c;have f:=c.2;rw[R.al h]at f;rw[d]at c;have h0:(foot T io.k xs).all=0:=by grind
 obtain⟨out,q,_,hs⟩:=vT b h0;rw[hs,En (fun i ob g=>(xJ (T:=T) q g).2)];have hn:=uC out (st j).s;rw[<-hs]at hn;unfold Out.after Out.base;cases hnew:out.new with
 |none=>
  simp only;cases g:out.up with
  |none=>rfl
  |some p=>
   obtain⟨i,ob⟩:=p;have:=(xJ (T:=T) q g).1;simp only;rw[zB2 (fun e=>c.1.2 (by rw[e];exact this))]
 |some ob'=>
  rw[hnew]at hn;simp only[cC3,zT2]at hn;simp only;rw[zB2 (by omega)];cases g:out.up with
  |none=>rfl
  |some p=>
   obtain⟨i,ob⟩:=p;have:=(xJ (T:=T) q g).1;simp only;rw[zB2 (fun e=>c.1.2 (by rw[e];exact this))]
 simp only[zC,d,bC3,bZ3,ne_eq,aD3,aA3,List.mem_range'_1]at c;obtain⟨⟨_,hw⟩,f⟩:=c;obtain⟨t,s',w,_,A,B,x,y,_⟩:=rK b;have hn:=(R.grows h).n;have r:=R.wf (j:=j+1) (by omega);by_cases m:id<(st j).s.n;rw[x];simp only;rw[look_newOK_lt m,look_updAll_ne];rw[<-y];exact hw;have l:(st (j+1)).s.n<=id:=by omega
 have a:∀{h} {n},Wf h n->n<=id->look h id=none:=fun hw u=>by
  cases hl:look _ id with
  |none=>rfl
  |some o=>have:=hw.lt hl;omega
 rw[a r l,a (R.wf (j:=j) (by omega)) (by omega)]
def Ep (R:wT P T ex lim ops ios st ft v) {S} {id}:∀{j},j<=ios.length->(∀i,i<j->zC ft i id=true->S i=true)->jI st ft S j id=look (st j).s.h id
 |0,_,_=>rfl
 |j+1,hm,h=>by
  simp only[jI]
  cases ht:zC ft j id with
  |true=>simp[h j (by omega) ht]
  |false=>
   simp only[Bool.and_false,zG2,aL3]
   rw[Ep R (by omega) (fun i hi=>h i (by omega)),R.keep (by omega) ht]
def Bc {S} {id j}:∀{m},j<=m->(∀i,j<=i->i<m->S i=true->zC ft i id=false)->jI st ft S m id=jI st ft S j id
  | 0, hj, _ => by have:j=0:=by omega
                   subst this;rfl
  |m+1,hj,h=>by
    by_cases e:j=m+1
    subst e;rfl
    simp only[jI]
    have h1:¬((S m&&zC ft m id)=true):=by
      intro h2;simp only[yS2]at h2;rw[h m (by omega) (by omega) h2.1]at h2;cases h2.2
    rw[zB2 h1];exact Bc (by omega) (fun i hi a=>h i hi (by omega))
def rI1 {S S'} {id j} {ao} (a:∀i,j<i->S' i=S i) (h0:jI st ft S' (j+1) id=some ao->jI st ft S (j+1) id=some ao):∀{m},j<m->jI st ft S' m id=some ao->jI st ft S m id=some ao
 |0,hj,_=>by omega
 |m+1,hj,h=>by
  by_cases e:j=m
  subst e;exact h0 h
  simp only[jI]at h ⊢
  rw[a m (by omega)]at h
  split at h
  rename_i hc;rw[yY2 hc];exact h
  rename_i hc;rw[zB2 hc];exact rI1 a h0 (by omega) h
def Er {S S'} {id}:∀{j},(∀i,i<j->S' i=S i)->jI st ft S' j id=jI st ft S j id
 |0,_=>rfl
 |j+1,h=>by simp only[jI,h j (by omega),Er (j:=j) (fun i hi=>h i (by omega))]
def zQ (R:wT P T ex lim ops ios st ft v) {S}:∀{j},j<=ios.length->(tl ios st v S j).length=(st j).t.length
 |0,_=>rfl
 |j+1,h=>by
  obtain⟨io,o,h1,_,_⟩:=R.get (j:=j) (by omega)
  rw[(R.step j io h1).1,Eo]
  simp only[tl]
  split
  rw[Eo];exact zQ R (by omega)
  exact zQ R (by omega)
def tlA (R:wT P T ex lim ops ios st ft v) {S} {t}:∀{j},j<=ios.length->(∀i,i<j->qG ios i=some t->S i=true)->(tl ios st v S j)[t]? =(st j).t[t]?
 |0,_,_=>rfl
 |j+1,hm,h=>by
  obtain⟨io,o,h1,_,_⟩:=R.get (j:=j) (by omega)
  have a:=(R.step j io h1).1
  have hd:qG ios j=io.dst:=by simp[qG,h1]
  have ih:=tlA R (S:=S) (t:=t) (j:=j) (by omega) (fun i hi=>h i (by omega))
  have hl:=zQ R (S:=S) (j:=j) (by omega)
  simp only[tl,a]
  by_cases e:io.dst=some t
  rw[h j (by omega) (hd.trans e)]
  simp only[zT2,hd,e,put,zS2,hl]
  rw[vU e]
  split
  rw[hd,vU e];exact ih
  exact ih
def tlB {S} {t j}:∀{m},j<=m->(∀i,j<=i->i<m->S i=true->qG ios i≠some t)->(tl ios st v S m)[t]? =(tl ios st v S j)[t]?
  | 0, hj, _ => by have:j=0:=by omega
                   subst this;rfl
  |m+1,hj,h=>by
    by_cases e:j=m+1
    subst e;rfl
    simp only[tl]
    split
    rename_i hs
    rw[vU (h m (by omega) (by omega) hs)]
    exact tlB (by omega) (fun i hi a=>h i hi (by omega))
    exact tlB (by omega) (fun i hi a=>h i hi (by omega))
def Oe {S S'}:∀{j},(∀i,i<j->S' i=S i)->tl ios st v S' j=tl ios st v S j
 |0,_=>rfl
 |j+1,h=>by simp only[tl,h j (by omega),Oe (j:=j) (fun i hi=>h i (by omega))]
def tlC {S S'} {j} (b:∀i,i<j->S' i=S i) (a:∀i,j<i->S' i=S i) (h1:S j=false) (h2:S' j=true):∀{m},j<m->(∀i,j<i->i<m->S i=true->∀t,qG ios j=some t->qG ios i≠some t)->
  tl ios st v S' m=put (tl ios st v S m) (qG ios j) (v j)
 |0,hj,_=>by omega
 |m+1,hj,h=>by
  by_cases e:j=m
  subst e
  simp only[tl,h1,h2,zT2,zG2,aL3,Oe b]
  have ih:=tlC b a h1 h2 (m:=m) (by omega) (fun i hi c=>h i hi (by omega))
  simp only[tl,a m (by omega),ih]
  split
  rename_i hs
  exact cL1 (h m (by omega) (by omega) hs)
  rfl
end
end Go.Sim
namespace Go.Sim
section
variable {P:Program} {T:jW} {ex:Nat->Bool->IC->St->Option (Ex×St)} {lim:Nat} {ops:Array Oper} {ios:List Sim.Op1} {st:Nat->St} {ft:Nat->Foot} {v:Nat->AV} {S S':Nat->Bool}
structure jN1 (P:Program) (ops:Array Oper) (ios:List Sim.Op1) (st:Nat->St) (ft:Nat->Foot) (v:Nat->AV) (lim base:Nat) (g0:Gh) (w0:World) (S:Nat->Bool) (g:Gh) (a:Act) (w:World):Prop where
 ext:sS lim g0 g w0 w
 W:WG g w
 H:HR P g (jI st ft S ios.length) w
 dom:∀id,g.ι id≠none->id<(st 0).s.n\/∃i,i<ios.length/\S i=true/\id∈(ft i).al
 t:TR g (tl ios st v S ios.length) a.tmps.toList
 marks:jK base g w a.defers
 closed:∀i oi,S i=true->ops.toList[i]? =some oi->∀e∈oi.after.toList,Region.binds .any e=true->S e.on=true
structure Rdy (ops:Array Oper) (ios:List Sim.Op1) (S:Nat->Bool) (j:Nat) (o:Oper) (io:Sim.Op1):Prop where
 hop:ops.toList[j]? =some o
 hio:ios[j]? =some io
 c:j<ios.length
 no:S j=false
 edges:∀e∈o.after.toList,Region.binds .any e=true->S e.on=true
def Es (R:wT P T ex lim ops ios st ft v) {j} {o} {io} (hr:Rdy ops ios S j o io)
  (a:∀i oi,S i=true->ops.toList[i]? =some oi->∀e∈oi.after.toList,Region.binds .any e=true->S e.on=true) {i} (hi:i<j):
  S i=true\/(((cZ [] ops.toList).getD j 0).testBit i=false/\compat (ft i) (ft j)=true/\∀p,ios[i]? =some p->(∀d,p.dst=some d->io.dst≠some d/\d∉io.reads)/\∀d,io.dst=some d->d∉p.reads):=by
 cases hb:((cZ [] ops.toList).getD j 0).testBit i with
 |true=>exact .inl (tC R.back (D:=fun i=>S i=true) a j o hr.hop hr.edges i hb)
 |false=>
  refine .inr ⟨rfl,(R.com j hr.c i hi).resolve_left (by rw[hb];simp),fun p hp=>?_⟩;exact(R.tmps j io hr.hio i p hi hp).resolve_left (by rw[hb];simp)
def Kn (R:wT P T ex lim ops ios st ft v) {j} {o} {io} (hr:Rdy ops ios S j o io)
  (a:∀i oi,S i=true->ops.toList[i]? =some oi->∀e∈oi.after.toList,Region.binds .any e=true->S e.on=true) {i} (hi:j<i) (b:i<ios.length) (f:S i=true):
  compat (ft j) (ft i)=true/\∀p,ios[i]? =some p->(∀d,io.dst=some d->p.dst≠some d/\d∉p.reads)/\∀d,p.dst=some d->d∉io.reads:=by
 obtain⟨g,oi,h1,h2,h⟩:=R.get b
 have hb:((cZ [] ops.toList).getD i 0).testBit j=false:=by
  cases hb:((cZ [] ops.toList).getD i 0).testBit j with
  |false=>rfl
  |true=>
   have:=tC R.back (D:=fun i=>S i=true) a i oi h2 (fun e he c=>a i oi f h2 e he c) j hb;simp only[hr.no]at this;cases this
 refine⟨(R.com i b j hi).resolve_left (by rw[hb];simp),fun p hp=>?_⟩;exact(R.tmps i p hp j io hi hr.hio).resolve_left (by rw[hb];simp)
def Of (R:wT P T ex lim ops ios st ft v) {j} {o} {io} (hr:Rdy ops ios S j o io)
  (d:∀i oi,S i=true->ops.toList[i]? =some oi->∀e∈oi.after.toList,Region.binds .any e=true->S e.on=true) {t} (k:t∈io.reads):(tl ios st v S ios.length)[t]? =(st j).t[t]? :=by
 rw[tlB (j:=j) (aN3 hr.c),tlA R (aN3 hr.c)];intro i hi hd;rcases Es R hr d hi with h|⟨_,_,h⟩
 exact h;obtain⟨a,oi,h1,_,_⟩:=R.get (j:=i) (by have:=hr.c;omega);have b:a.dst=some t:=by simpa[qG,h1]using hd
 exact absurd k ((h a h1).1 t b).2;intro i hi f g hd;by_cases e:i=j;subst e;rw[hr.no]at g;cases g;obtain⟨a,oi,h1,_,_⟩:=R.get f;have b:a.dst=some t:=by simpa[qG,h1]using hd
 exact absurd k (((Kn R hr d (by omega) f g).2 a h1).2 t b)
def tX1 (R:wT P T ex lim ops ios st ft v) {j} {o} {io} (hr:Rdy ops ios S j o io)
  (f:∀i oi,S i=true->ops.toList[i]? =some oi->∀e∈oi.after.toList,Region.binds .any e=true->S e.on=true) (b:∀i,i≠j->S' i=S i) (l:S' j=true):
  tl ios st v S' ios.length=put (tl ios st v S ios.length) io.dst (v j):=by
 have hd:qG ios j=io.dst:=by simp[qG,hr.hio]
 rw[<-hd];refine tlC (fun i hi=>b i (by omega)) (fun i hi=>b i (by omega)) hr.no l hr.c (fun i hi a k t m h=>?_);obtain⟨d,oi,h1,_,_⟩:=R.get a;have g:d.dst=some t:=by simpa[qG,h1]using h
 exact(((Kn R hr f hi a k).2 d h1).1 t (hd.symm.trans m)).1 g
theorem jP1 (R:wT P T ex lim ops ios st ft v) {j} {o} {io} (hr:Rdy ops ios S j o io)
  (a:∀i oi,S i=true->ops.toList[i]? =some oi->∀e∈oi.after.toList,Region.binds .any e=true->S e.on=true) {id} {ao} (b:id∈(ft j).rd\/id∈(ft j).wr) (hl:look (st j).s.h id=some ao):
  jI st ft S ios.length id=some ao:=by
 have k:=(R.wf (aN3 hr.c)).lt hl;rw[Bc (j:=j) (aN3 hr.c),Ep R (aN3 hr.c)];exact hl;intro i hi f;rcases Es R hr a hi with h|⟨_,h,_⟩
 exact h;obtain⟨c1,c2,c3,c4,c5,c6⟩:=fH h;simp only[zC,zN2,bH3,aD3,zD2]at f;rcases f with(f|f)|f;have:=jM1 c1 (Kl b);omega
 grind
 grind
 intro i hi d g;by_cases e:i=j;subst e;rw[hr.no]at g;cases g;obtain⟨c1,c2,c3,c4,c5,c6⟩:=fH (Kn R hr a (by omega) d g).1;simp only[zC,bC3,bZ3,ne_eq,aD3,aA3];refine⟨⟨by have:=Ii c1 (Kl b);omega,fun h=>?_⟩,fun h=>?_⟩
 grind
 rw[R.al d]at h;have:=R.mono (i:=j) (j:=i) (by omega) (by omega);omega
theorem Et (R:wT P T ex lim ops ios st ft v) {j} {o} {io} (hr:Rdy ops ios S j o io)
  (f:∀i oi,S i=true->ops.toList[i]? =some oi->∀e∈oi.after.toList,Region.binds .any e=true->S e.on=true) (l:∀i,i≠j->S' i=S i) (p:S' j=true) {id}
  (a:(id∈(ft j).wr/\id<(st j).s.n)\/id∈(ft j).al):jI st ft S' ios.length id=look (st (j+1)).s.h id:=by
 rw[Bc (j:=j+1) hr.c]
 have:zC ft j id=true:=by
  simp only[zC,zN2,bH3,aD3,zD2];rcases a with⟨h,_⟩|h;exact .inl (.inr h);exact .inr h
 simp[jI,p,this];intro i hi b d;have m:S i=true:=by rw[<-l i (by omega)];exact d
 obtain⟨c1,c2,c3,c4,c5,c6⟩:=fH (Kn R hr f (by omega) b m).1;simp only[zC,bC3,bZ3,ne_eq,aD3,aA3];have k:=R.mono (i:=j+1) (j:=i) (by omega) (by omega);have hg:=(R.grows hr.c).n
 have g:(ft j).isE=false:=by
  rcases a with⟨a,_⟩|a;exact Kl (.inr a);exact Ce a
 refine⟨⟨by have:=Ii c1 g;omega,fun h=>?_⟩,fun h=>?_⟩
 grind
 rw[R.al b]at h;rcases a with⟨_,a⟩|a;omega;rw[R.al hr.c]at a;omega
theorem xM (R:wT P T ex lim ops ios st ft v) {j} {o} {io} (hr:Rdy ops ios S j o io)
  (g:∀i oi,S i=true->ops.toList[i]? =some oi->∀e∈oi.after.toList,Region.binds .any e=true->S e.on=true) (b:∀i,i≠j->S' i=S i) (k:S' j=true) {id} {ao}
  (hk:zC ft j id=true->id∈(ft j).wr/\look (st (j+1)).s.h id=look (st j).s.h id) (h:jI st ft S' ios.length id=some ao):jI st ft S ios.length id=some ao:=by
 refine rI1 (j:=j) (fun i hi=>b i (by omega)) (fun h0=>?_) hr.c h;have d:jI st ft S (j+1) id=jI st ft S j id:=by simp[jI,hr.no]
 have f:jI st ft S' j id=jI st ft S j id:=Er (fun i hi=>b i (by omega));rw[d];cases ht:zC ft j id with
 |false=>
  simp only[jI,ht,Bool.and_false,zG2,aL3,f]at h0;exact h0
 |true=>
  obtain⟨m,l⟩:=hk ht;simp only[jI,ht,k,bT3,zT2,l]at h0;rw[Ep R (aN3 hr.c)];exact h0;intro i hi a;rcases Es R hr g hi with h|⟨_,h,_⟩
  exact h;obtain⟨c1,c2,c3,c4,c5,c6⟩:=fH h;simp only[zC,zN2,bH3,aD3,zD2]at a;rcases a with(a|a)|a
  grind
  grind
  grind
end
end Go.Sim
namespace Go.Sim
variable {a:Act} {base j n:Nat} {o:Oper}
section
variable {P:Program} {T:jW} {ex:Nat->Bool->IC->St->Option (Ex×St)} {lim:Nat} {ops:Array Oper} {ios:List Sim.Op1} {st:Nat->St} {ft:Nat->Foot} {v:Nat->AV} {S S':Nat->Bool} {r:Option Nat} {g0 g:Gh} {w0 w:World}
def Vi {o} {k} {os} {L} {m} {out} {a} (j:jZ P o.op o.type=some (k,os)) (hg:gY P g lim w L m out (execOp a.eval o)) {next} {Q}
  (b:∀V g' w',VR g' out.v V->HR P g' (out.after L m) w'->WG g' w'->sS lim g g' w w'->(∀id,g'.ι id≠none->g.ι id≠none\/(id=m/\out.new.isSome))->next (a.put o.dst V) w'):
  o.wpIn (FW r) n P a w next Q:=by
 obtain⟨V,nx,g',w',d,e,hv,h,i,f,c⟩:=hg;refine⟨fun _ _=>trivial,?_⟩;rw[rL _ (xI j),d];rcases e with rfl|⟨rfl,rfl⟩
 .exact b V g' w' hv h i f c
 .exact b undef g' w' hv h i f c
def Sn {k} {xs} (h1:∀f,k≠.callF f) (h2:k≠.callV):(foot T k xs).all=0:=by
 unfold foot
 split<;>first
  |rfl
  |exact absurd rfl (h1 _)
  |exact absurd rfl h2
theorem Ye (v:pW P ex) (B:jT P T) {k:gC} {os:aA Operand} {xs:aA AV} {x:AV} {s U:Hp} (D:(jZ P o.op o.type).getD (.fail,[])=(k,os)) (h:step T ex lim k xs s=some (x,U)) (d:(foot T k xs).all=1)
  (E:TR g xs (os.map a.eval)) (A:mJ P g w s) {next:Act->World->Prop} {Q:Exit->Act->World->Prop}
  (t:∀V g' w',VR g' x V->g'.ι=g.ι->WG g' w'->(∀b,b<w.heap.size->w'.heap[b]? =w.heap[b]?)->sS s.n g g' w w'->next (a.put o.dst V) w'):o.wpIn (FW r) n P a w next Q:=by
 have fin:∀e w',lP P s.n g w s x s e w'->∃V,e=.returned V/\next (a.put o.dst V) w':=by
  rintro e w' ⟨V,g',rfl,S,M,K,Y⟩;refine⟨V,rfl,t V g' w' S ?_ M.W ?_ K⟩
  .funext id
   by_cases q:id<s.n
   .exact K.old id q
   .have h1:g.ι id=none:=by
     cases h:g.ι id with
     |none=>rfl
     |some l=>exact absurd (A.dom id (by rw[h];simp)) q
    have h2:g'.ι id=none:=by
     cases h:g'.ι id with
     |none=>rfl
     |some l=>exact absurd (M.dom id (by rw[h];simp)) q
    rw[h1,h2]
  .intro b hb
   exact K.keep b hb (fun id loc q hi=>by
    have:=A.dom id (by rw[hi];simp);omega)
 cases hco:jZ P o.op o.type with
 |none=>
  rw[hco]at D;cases D;simp only[step,zK]at h;cases h
 |some p=>
  rw[hco]at D;cases D;unfold step at h;split at h
  .rename_i f
   obtain⟨c,L,h1,h2,G⟩:=pO hco (.inr ⟨f,rfl⟩);rcases G with⟨f',u,N,H⟩|⟨u,_⟩
   .cases u
    subst N;simp only[foot]at d;split at d
    .rename_i ifn j
     split at d
     .rename_i hp
      have m:TR g xs (#[]++c.args.map a.eval++#[]).toList:=by rw[H]at E;simpa using E
      exact uA B h1 h2 rfl j (Ec v B j hp h m A).2 fin
     .grind
    .cases d
   .cases u
  .obtain ⟨c,L,h1,h2,G⟩:=pO hco (.inl rfl)
   rcases G with⟨f',u,_⟩|⟨_,H⟩
   .cases u
   .subst H
    split at h
    .rename_i X args
     have z:=E.head;have m:=E.tail;unfold callV at h;simp only[foot]at d;split at h
     .rename_i f first cap
      generalize hV:a.eval L=V at z;cases z with
      |@fn _ _ _ _ F C l1 l2 v1 v2=>
       simp only at d;split at d
       .rename_i ifn j
        split at d
        .rename_i hp
         have R:TR g first F.toList:=⟨by simpa using l1,fun i x y J hy=>v1 i x y J (by simpa using hy)⟩
         have O:TR g cap C.toList:=⟨by simpa using l2,fun i x y J hy=>v2 i x y J (by simpa using hy)⟩
         have d:TR g (first++args++cap) (F++c.args.map a.eval++C).toList:=by
          have:=(R.app m).app O;simpa using this
         exact uA B h1 h2 hV j (Ec v B j hp h d A).2 fin
        .grind
       .cases d
     .grind
     .cases h
    .cases h
  .rename_i h1 h2
   exfalso;have:=Sn (T:=T) (xs:=xs) (fun f e=>h1 f e) (fun e=>h2 e);omega
def cov (R:wT P T ex lim ops ios st ft v) {id}:∀{j},j<=ios.length->(st 0).s.n<=id->id<(st j).s.n->∃i,i<j/\id∈(ft i).al
 |0,_,h1,h2=>by omega
 |j+1,hj,h1,h2=>by
  by_cases h:id<(st j).s.n
  obtain⟨i,hi,a⟩:=cov R (j:=j) (by omega) h1 h
  exact⟨i,by omega,a⟩
  exact⟨j,by omega,(R.al (by omega)).2 ⟨by omega,h2⟩⟩
def Yf (R:wT P T ex lim ops ios st ft v) (f3:pW P ex) (hT:jT P T) (b9:lim<=(st 0).s.n) {io:Sim.Op1} (hr:Rdy ops ios S j o io) (hco:lV P ops.toList o=some io)
    (u:jN1 P ops ios st ft v lim base g0 w0 S g a w) (z:∀i,i≠j->S' i=S i) (hj:S' j=true) {K:Act->World->Prop} {Q:Exit->Act->World->Prop} (hK:∀g' a' w',jN1 P ops ios st ft v lim base g0 w0 S' g' a' w'->K a' w'):
    wpOpIn (FW r) n P ops Q j K a w:=by
  have d:=u.closed;have h8:ops[j]? =some o:=by simpa using hr.hop
  unfold wpOpIn;rw[h8];simp only;obtain⟨os,c1,c2,c3,c4⟩:=pY hco
  have hw:Region.wanted o (yielded ops a.tmps)=Sim.wanted (st j).t io.guard:=by
    rw[Ic u.t hco];refine Km (fun i b hg=>Of R hr d ?_);simp[Op1.reads,hg]
  have f2:evs (tl ios st v S ios.length) io.xs=evs (st j).t io.xs:=Ij (fun t q=>Of R hr d (by
    simp only[Op1.reads,aG3,List.mem_filterMap];exact .inl ⟨.t t,q,rfl⟩))
  have b0:∀i oi,S' i=true->ops.toList[i]? =some oi->∀e∈oi.after.toList,Region.binds .any e=true->S' e.on=true:=by
    intro i oi hi g1 e he hb
    have up:∀i,S i=true->S' i=true:=fun i h=>by
      by_cases e:i=j;rw[e];exact hj;rw[z i e];exact h
    by_cases e1:i=j;subst e1;rw[hr.hop]at g1;cases g1;exact up _ (hr.edges e he hb);exact up _ (d i oi (by rw[<-z i e1];exact hi) g1 e he hb)
  have d5:∀{g'} {w'} {V},sS lim g g' w w'->jK base g' w' (a.put o.dst V).defers:=by
    intro g' w' V hE;have:(a.put o.dst V).defers=a.defers:=by cases o.dst<;>rfl
    rw[this];exact u.marks.ext hE
  have d7:∀{g'} {w'} {V},sS lim g g' w w'->VR g' (v j) V->TR g' (tl ios st v S' ios.length) (a.put o.dst V).tmps.toList:=by
    intro g' w' V hE hV;rw[tX1 R hr d z hj,c3];exact Sg (u.t.mono hE.le) hV o.dst
  have M:∀id,(id<(st 0).s.n\/∃i,i<ios.length/\S i=true/\id∈(ft i).al)->id<(st 0).s.n\/∃i,i<ios.length/\S' i=true/\id∈(ft i).al:=by
    rintro id (h|⟨i,h1,h2,y⟩);exact .inl h;refine .inr ⟨i,h1,?_,y⟩;by_cases e:i=j;rw[e];exact hj;rw[z i e];exact h2
  have f0:=R.mono (i:=0) (j:=j) (by omega) (aN3 hr.c);obtain⟨s1,s2⟩:=R.step j io hr.hio;rw[hw];rcases s2 with⟨q1,q2,q3,q4⟩|⟨q1,xs,q2,q3,q4,q5,s2,q6⟩|⟨q1,xs,q2,q3,q4,q5⟩|⟨q1,xs,W,q2,q3,q4,q5⟩
  ·
    rw[q1];simp only[zG2,aL3];refine⟨fun _ _=>trivial,hK g _ w ⟨u.ext,u.W,fun id ao h=>?_,fun id h=>M id (u.dom id h),d7 (.refl lim g w) (by rw[q2];exact .undef g),d5 (.refl lim g w),b0⟩⟩;refine u.H id ao (xM R hr d z hj (fun q=>?_) h);rw[zC,q3]at q;simp at q
  ·
    rw[q1];simp only[zT2];have b6:=sY u.t c2 (f2.trans q2);have f5:=(xL T io.k xs).2 (by omega)
    have O:∀id ao,look (hide (unseen ((cZ [] ops.toList).getD j 0) j (iC ft j)) (st j).s.h) id=some ao->jI st ft S ios.length id=some ao:=by
      intro id ao h;obtain⟨h1,h2⟩:=zM _ (R.wf (aN3 hr.c)) h;have B:=(R.wf (aN3 hr.c)).lt h1;rw[Bc (j:=j) (aN3 hr.c),Ep R (aN3 hr.c)];exact h1;intro i hi q;rcases Es R hr d hi with h|⟨hb,h,_⟩
      exact h;obtain⟨c1,c2,c3,c4,c5,c6⟩:=fH h;simp only[zC,zN2,bH3,aD3,zD2]at q;have d0:(ft j).all=1:=by rw[q4];exact q3
      rcases q with(q|q)|q;have:=jM1 c1 (tE (by omega));omega;rw[c6.resolve_left (by omega)]at q;simp at q;exact absurd (rO i hi hb q) h2;intro i hi A G;by_cases e:i=j;subst e;rw[hr.no]at G;cases G;obtain⟨c1,c2,c3,c4,c5,c6⟩:=fH (Kn R hr d (by omega) A G).1;have d0:(ft j).all=1:=by rw[q4];exact q3
      simp only[zC,bC3,bZ3,ne_eq,aD3,aA3];refine⟨⟨by have:=Ii c1 (tE (by omega));omega,fun h=>?_⟩,fun h=>?_⟩;rw[c5.resolve_left (by omega)]at h;simp at h;rw[R.al A]at h;have:=R.mono (i:=j) (j:=i) (by omega) (by omega);omega
    obtain⟨N,s2,i4,i5,q6⟩:∃N s2,(st j).s.n<=N/\(∀id,g.ι id≠none->id<N)/\step T ex lim io.k xs {h:=hide (unseen ((cZ [] ops.toList).getD j 0) j (iC ft j)) (st j).s.h,n:=N}=some (v j,s2):=by
     cases hxf:(foot T io.k xs).x with
     |true=>
      obtain⟨s3,j5⟩:=cK1 q6 q3 hxf (st ios.length).s.n;refine⟨(st ios.length).s.n,s3,R.mono (aN3 hr.c) (yX2 _),fun id h=>?_,j5⟩;rcases u.dom id h with h1|⟨i,h1,h2,y⟩
      exact aE3 h1 (R.mono (aB3 _) (yX2 _));rw[R.al h1]at y;exact aE3 y.2 (R.mono h1 (yX2 _))
     |false=>
      refine⟨(st j).s.n+rsv (ios.length-j),s2,by omega,fun id h=>?_,q6⟩;rcases u.dom id h with h1|⟨i,h1,h2,y⟩
      have:=hr.c;omega;have f7:=Ce y;have d0:(ft j).isE=false:=tE (by rw[show(ft j).all=1 by rw[q4];exact q3];decide);rw[R.al h1]at y;by_cases d3:i<j;have:=R.mono (i:=i+1) (j:=j) (by omega) (aN3 hr.c);omega
      have d4:j<i:=by
        rcases bN3 j i with h|h;exact h;have:i=j:=by omega
        subst this;rw[hr.no]at h2;cases h2
      have h0:∀k,j<=k->k<=i->(st (k+1)).s.n<=(st j).s.n+rsv (k-j):=by
        intro k
        induction k with
        |zero=>
          intro hk _;have:j=0:=by omega
          subst this;rw[q5];omega
        |succ k ih=>
          intro hk k0;by_cases e:j=k+1;subst e;rw[q5];omega;have l1:=ih (by omega) (by omega);have g8:k+1<ios.length:=by omega
          have i9:(ft (k+1)).all<=1:=by
            by_cases e2:k+1=i;have:=Ii (fH (Kn R hr d d4 h1 h2).1).1 d0;rw[e2];omega
            ·
              rcases bN3 1 (ft (k+1)).all with j7|hok;exfalso;obtain⟨l2,oi,i1,i2,i3⟩:=R.get h1
              have hb:((cZ [] ops.toList).getD i 0).testBit (k+1)=true:=by
                rcases R.com i h1 (k+1) (by omega)with h|h;exact h;have:=jM1 (fH h).1 f7;omega
              have i6:S (k+1)=true:=tC R.back (D:=fun i=>S i=true) d i oi i2 (fun e he j0=>d i oi h2 i2 e he j0) (k+1) hb;have:=Ii (fH (Kn R hr d (by omega) g8 i6).1).1 d0;omega;exact hok
          obtain⟨g5,ok,k1,k2,k3⟩:=R.get g8;obtain⟨_,t2⟩:=R.step (k+1) g5 k1;have k8:rsv (k+1-j)=rsv (k-j)+1048576:=by rw[Nat.succ_sub (by omega),cF1]
          rcases t2 with⟨_,_,_,t3⟩|⟨_,xs',_,_,_,t3,_⟩|⟨_,xs',_,t3,t4,t5⟩|⟨_,xs',W',_,_,_,t3⟩
          rw[t3];omega;rw[t3];omega
          have d9:(foot T g5.k xs').all=0:=by
            have:(ft (k+1)).all=(foot T g5.k xs').all:=by rw[t4]
            have:=t3.1;omega
          obtain⟨out,_,_,hs⟩:=vT t5 d9;rw[hs,uC];split<;>omega;obtain⟨_,s',w,_,_,_,e3,_,_,_,_,_,e4⟩:=rK t3
          have e4:=e4 (by
            unfold nbF;rw[List.all_eq_false];refine⟨ft j,Ny (by omega),?_⟩;have:(ft j).x=false:=by rw[q4];exact hxf
            rw[this,show(ft j).all=1 by rw[q4];exact q3];decide)
          rw[e3];simp only;omega
      have:=h0 i (by omega) (yX2 _);have:=tS1 (a:=i-j) (b:=ios.length-j) (by omega);omega
    have a0:mJ P g w {h:=hide (unseen ((cZ [] ops.toList).getD j 0) j (iC ft j)) (st j).s.h,n:=N}:=
      ⟨fun id ao h=>u.H id ao (O id ao h),u.W,i5,((R.wf (aN3 hr.c)).hide _).mono i4⟩
    refine Ye f3 hT c1 q6 q3 b6 a0 (fun V g' w' k1 k2 k3 k4 k5=>hK g' _ w' ?_);have hE:sS lim g g' w w':=k5.mono (by simp only;have:=hr.c;omega);refine⟨u.ext.trans hE,k3,fun id ao h=>?_,fun id h=>M id (u.dom id (by rw[<-k2];exact h)),d7 hE k1,d5 hE,b0⟩
    have h1:=xM R hr d z hj (id:=id) (ao:=ao) (fun q=>by
      rw[zC,q4]at q;rw[q3,f5.2,Vh]at q;simp at q) h
    exact(u.H id ao h1).mono hE.le (by rw[k2]) (fun loc hl=>k4 _ (u.W.lt id loc hl))
  rw[q1];simp only[zT2];have b6:=sY u.t c2 (f2.trans q2);by_cases d9:(foot T io.k xs).all=0
  ·
    obtain⟨out,ho,hv,hs⟩:=vT q5 d9
    have j2:∀id ao,id∈(foot T io.k xs).rd\/id∈(foot T io.k xs).wr->look (st j).s.h id=some ao->jI st ft S ios.length id=some ao:=by
      intro id ao f hl;refine jP1 R hr d ?_ hl;rw[q4];exact f
    have e9:doOp (jI st ft S ios.length) lim (st j).s.n io.k xs=some out:=Sj (T:=T) ho j2;have hn:=uC out (st j).s;rw[<-hs]at hn;have J:∀id,look (st (j+1)).s.h id=out.after (look (st j).s.h) (st j).s.n id:=fun id=>by rw[hs];exact En (fun i ob hu=>(xJ (T:=T) ho hu).2) id
    have E:∃g6,jZ P o.op o.type=some (io.k,g6)/\g6=os:=by
      cases hc:jZ P o.op o.type with
      |none=>
        rw[hc]at c1;simp only[Option.getD_none,zU2]at c1;rw[<-c1.1,zK]at ho;cases ho
      |some p=>rw[hc]at c1;exact⟨os,by rw[<-c1];rfl,rfl⟩
    obtain⟨g6,E,rfl⟩:=E
    have fin:∀m V g' w',(out.new.isSome=true->m=(st j).s.n)->VR g' out.v V->HR P g' (out.after (jI st ft S ios.length) m) w'->WG g' w'->sS lim g g' w w'->
        (∀id,g'.ι id≠none->g.ι id≠none\/(id=m/\out.new.isSome))->K (a.put o.dst V) w':=by
      intro m V g' w' hm k1 k2 k3 k4 k5;refine hK g' _ w' ⟨u.ext.trans k4,k3,fun id ao h=>k2 id ao ?_,fun id h=>?_,d7 k4 (by rw[hv];exact k1),d5 k4,b0⟩
      ·
        have d2:id∈(ft j).al↔(st j).s.n<=id/\id<(st (j+1)).s.n:=R.al hr.c;have e7:(ft j).wr=(foot T io.k xs).wr:=by rw[q4]
        have j6:(ft j).all=0:=by rw[q4];exact d9
        have b4:(∀i ob,out.up=some (i,ob)->id≠i)->(out.new.isSome=true->id≠(st j).s.n)->jI st ft S ios.length id=some ao:=by
          intro h1 h2;refine xM R hr d z hj (fun q=>?_) h
          have g9:id∉(ft j).al:=by
            rw[d2,hn];cases hnew:out.new with
            |none=>simp
            |some ob=>
              have:=h2 (by rw[hnew];rfl);simp;omega
          refine⟨?_,?_⟩;simp only[zC,zN2,bH3,aD3,zD2]at q;rcases q with(q|q)|q;omega;exact q;exact absurd q g9;rw[J id];unfold Out.after Out.base;cases hnew:out.new with
          |none=>
            simp only;cases hu:out.up with
            |none=>rfl
            |some p=>
              obtain⟨i,ob⟩:=p;simp only;rw[zB2 (h1 i ob hu)]
          |some ob'=>
            simp only;rw[zB2 (h2 (by rw[hnew];rfl))];cases hu:out.up with
            |none=>rfl
            |some p=>
              obtain⟨i,ob⟩:=p;simp only;rw[zB2 (h1 i ob hu)]
        by_cases U:out.new.isSome=true/\id=(st j).s.n;obtain⟨h1,h2⟩:=U;have hl:=Et R hr d z hj (id:=id) (.inr (by rw[d2,hn,h1];simp;omega));rw[hl,J id]at h;rw[<-h,hm h1];unfold Out.after;cases hnew:out.new with
        |none=>rw[hnew]at h1;cases h1
        |some ob=>simp only;rw[yY2 h2,yY2 h2]
        by_cases Y:∃ob,out.up=some (id,ob);obtain⟨ob,hu⟩:=Y;obtain⟨u1,u2⟩:=xJ (T:=T) ho hu;have g4:∃d8,look (st j).s.h id=some d8:=Option.isSome_iff_exists.1 u2;obtain⟨d8,g7⟩:=g4;have B:=(R.wf (aN3 hr.c)).lt g7;have hl:=Et R hr d z hj (id:=id) (.inl ⟨by rw[e7];exact u1,B⟩);rw[hl,J id]at h;rw[<-h];unfold Out.after Out.base;cases hnew:out.new with
        |none=>simp only[hu,zT2]
        |some ob'=>
          have:=hm (by rw[hnew];rfl);simp only[hu,zT2];rw[zB2 (by omega),zB2 (by omega)]
        have L:=b4 (fun i ob hu e=>Y ⟨ob,by rw[e];exact hu⟩) (fun h1 e=>U ⟨h1,e⟩);unfold Out.after Out.base;cases hnew:out.new with
        |none=>
          simp only;cases hu:out.up with
          |none=>exact L
          |some p=>
            obtain⟨i,ob⟩:=p;simp only;rw[zB2 (fun e=>Y ⟨ob,by rw[e];exact hu⟩)];exact L
        |some ob'=>
          simp only;rw[zB2 (fun e=>U ⟨by rw[hnew];rfl,by rw[e];exact hm (by rw[hnew];rfl)⟩)];cases hu:out.up with
          |none=>exact L
          |some p=>
            obtain⟨i,ob⟩:=p;simp only;rw[zB2 (fun e=>Y ⟨ob,by rw[e];exact hu⟩)];exact L
      rcases k5 id h with h1|⟨h1,h2⟩
      exact M id (u.dom id h1);refine .inr ⟨j,hr.c,hj,?_⟩;rw[R.al hr.c,hn,h2,h1,hm h2];simp
    cases hnew:out.new with
    |none=>
      have f9:doOp (jI st ft S ios.length) lim (st ios.length).s.n io.k xs=some out:=tU1 e9 hnew
      have f6:g.ι (st ios.length).s.n=none:=by
        cases h:g.ι (st ios.length).s.n with
        |none=>rfl
        |some l=>
          rcases u.dom _ (by rw[h];simp)with h1|⟨i,h1,h2,y⟩
          have:=R.mono (i:=0) (j:=ios.length) (by omega) (yX2 _);omega;rw[R.al h1]at y;have:=R.mono (i:=i+1) (j:=ios.length) (by omega) (yX2 _);omega
      have j3:lim<=(st ios.length).s.n:=zX2 b9 (R.mono (by omega) (yX2 _));exact Vi E (vO a.eval o E b6 f9 u.H u.W f6 j3) (fun V g' w'=>fin _ V g' w' (fun h=>by rw[hnew]at h;cases h))
    |some ob=>
      have f6:g.ι (st j).s.n=none:=by
        cases h:g.ι (st j).s.n with
        |none=>rfl
        |some l=>
          rcases u.dom _ (by rw[h];simp)with h1|⟨i,h1,h2,y⟩
          omega;rw[R.al h1]at y;rw[hnew]at hn;simp only[cC3,zT2]at hn;by_cases d3:i<j;have:=R.mono (i:=i+1) (j:=j) (by omega) (aN3 hr.c);omega;by_cases e:i=j;subst e;rw[hr.no]at h2;cases h2;have:=R.mono (i:=j+1) (j:=i) (by omega) (by omega);omega
      exact Vi E (vO a.eval o E b6 e9 u.H u.W f6 (zX2 b9 f0)) (fun V g' w'=>fin _ V g' w' (fun _=>rfl))
  ·
    have h2:(ft j).all=2:=by
      have:=(xL T io.k xs).1;rw[q4];have:=q3.1;have:=q3.2;show(foot T io.k xs).all=2
      omega
    have b7:∀i,i<j->S i=true\/(ft i).isE=true:=by
      intro i hi;rcases Es R hr d hi with h|⟨_,h,_⟩
      exact .inl h;rcases(fH h).1 with h|h|h;omega;exact .inr h;have:=(lG h).2.2.2;omega
    have b5:∀i,j<=i->i<ios.length->S i=false\/(ft i).isE=true:=by
      intro i hi A;cases G:S i with
      |false=>exact .inl rfl
      |true=>
        by_cases e:i=j;subst e;rw[hr.no]at G;cases G;rcases(fH (Kn R hr d (by omega) A G).1).1 with h|h|h;omega;have:=(lG h).2.2.2;omega;exact .inr h
    have f1:∀id,jI st ft S ios.length id=look (st j).s.h id:=by
      intro id
      rw[Bc (j:=j) (aN3 hr.c) (fun i hi A G=>by
        rcases b5 i hi A with C|C;rw[C]at G;cases G;exact tW1 C),Ep R (aN3 hr.c) (fun i hi q=>by
        rcases b7 i hi with C|C;exact C;rw[tW1 C]at q;cases q)]
    have a0:mJ P g w (st j).s:=by
      refine⟨fun id ao h=>u.H id ao (by rw[f1];exact h),u.W,fun id h=>?_,R.wf (aN3 hr.c)⟩;rcases u.dom id h with h1|⟨i,h1,y,Z⟩
      omega;have f7:=Ce Z;rw[R.al h1]at Z;by_cases d3:i<j;have:=R.mono (i:=i+1) (j:=j) (by omega) (aN3 hr.c);omega;rcases b5 i (by omega) h1 with C|C;rw[C]at y;cases y;rw[f7]at C;cases C
    refine Ki f3 hT c1 q5 b6 a0 (zX2 b9 f0) (fun V g' w' k1 k2 k3 k4=>hK g' _ w' ⟨u.ext.trans k3,k2.W,fun id ao h=>k2.H id ao ?_,fun id h=>?_,d7 k3 k1,d5 k3,b0⟩)
    rw[Bc (j:=j+1) hr.c (fun i hi A G=>by
      rcases b5 i (by omega) A with C|C;rw[z i (by omega),C]at G;cases G;exact tW1 C)]at h
    have q:zC ft j id=true:=by simp[zC,h2]
    simp only[jI,hj,q,bT3,zT2]at h;exact h;have B:=k2.dom id h;by_cases f8:id<(st 0).s.n;exact .inl f8;obtain⟨i,hi,y⟩:=cov R (j:=j+1) hr.c (by omega) B;refine .inr ⟨i,by have:=hr.c;omega,?_,y⟩;by_cases e:i=j;rw[e];exact hj;rw[z i e];rcases b7 i (by omega)with C|C;exact C;rw[Ce y]at C;cases C
  ·
    rw[q1];simp only[zT2];have b6:=sY u.t c2 (f2.trans q2);have d0:(ft j).all=1:=by rw[q4]
    have e7:(ft j).wr=W:=by rw[q4]
    obtain⟨f,s',wl,d6,k1,k2,k3,k4,k5,k6,k7,k9,_⟩:=rK q5;have F:=R.wf (aN3 hr.c)
    have b8:∀i,i<ios.length->S i=true->¬i<j->(ft i).wr=[]/\(∀id,id∈(ft i).al->(st (j+1)).s.n<=id)/\(ft i).all≠2:=by
      intro i A G d3
      have d4:j<i:=by
        rcases bN3 j i with h|h;exact h;have:i=j:=by omega
        subst this;rw[hr.no]at G;cases G
      obtain⟨e1,e2,e3,e4,e5,e6⟩:=fH (Kn R hr d d4 A G).1;refine⟨e5.resolve_left (by omega),fun id h=>?_,by have:=Ii e1 (tE (by omega));omega⟩;rw[R.al A]at h;have:=R.mono (i:=j+1) (j:=i) (by omega) (by omega);omega
    have j9:=(R.grows hr.c).n
    have g3:∀id,nB f (st j).s.n id=true->id<(st j).s.n/\id∉f:=by
      intro id h;simp only[nB,yS2,zK2,aD3,aA3]at h;exact⟨by simpa[bB3]using h.1,h.2⟩
    have e8:∀id,id∉f->id<(st j).s.n->jI st ft S ios.length id=look (st j).s.h id:=by
      intro id j4 B;rw[Bc (j:=j) (aN3 hr.c),Ep R (aN3 hr.c)];intro i hi q;rcases Es R hr d hi with h|⟨hb,h,_⟩
      exact h;obtain⟨e1,e2,e3,e4,e5,e6⟩:=fH h;simp only[zC,zN2,bH3,aD3,zD2]at q;rcases q with(q|q)|q;have:=jM1 e1 (tE (by omega));omega;rw[e6.resolve_left (by omega)]at q;simp at q;exact absurd (d6 _ (rO i hi hb q)) j4;intro i hi A G;obtain⟨e1,e2,e3⟩:=b8 i A G (by omega);simp only[zC,bC3,bZ3,ne_eq,aD3,aA3];refine⟨⟨e3,fun h=>?_⟩,fun h=>?_⟩;rw[e1]at h;simp at h;have:=e2 id h;omega
    have O:∀id ao,look (hide f (st j).s.h) id=some ao->jI st ft S ios.length id=some ao/\nB f (st j).s.n id=true:=by
      intro id ao h;obtain⟨h1,h2⟩:=zM _ F h;have B:=F.lt h1;refine⟨(e8 id h2 B).trans h1,?_⟩;simp only[nB,yS2,zK2,aD3,aA3];exact⟨by simpa[bB3]using B,h2⟩
    have hιp:∀id,nB f (st j).s.n id=true->(g.only (nB f (st j).s.n)).ι id=g.ι id:=fun id h=>Gh.only_pos h
    have a0:mJ P (g.only (nB f (st j).s.n)) w {h:=hide f (st j).s.h,n:=(st j).s.n}:=by
      refine⟨fun id ao h=>?_,u.W.only,fun id h=>?_,F.hide _⟩;obtain⟨h1,h2⟩:=O id ao h;exact(u.H id ao h1).names (g:=g) (g2:=g.only _) rfl hιp (hιp id h2) (pN k5 id ao h);simp only[Gh.only]at h;split at h;rename_i hp;exact(g3 id hp).1;exact absurd rfl h
    refine Ki (s':=s') f3 hT c1 k1 (TR.names (g:=g) (g2:=g.only _) rfl hιp k6 b6) a0 (zX2 b9 f0) (fun V g' w' m1 m2 m3 m4=>?_);obtain⟨hE,i7⟩:=cG1 m3 u.W m2.W
    have hqι:∀id,xG f (st j).s.n s'.n id=true->(g.back g' (nB f (st j).s.n) (st j).s.n).ι id=g'.ι id:=by
      intro id h;simp only[xG,zN2,yS2]at h;rcases h with h|⟨h1,h2⟩
      exact xH h;have h1:=zH2 h1;have h2:id<s'.n:=by simpa[bB3]using h2
      simp only[Gh.back];split;rename_i hc;exfalso;rcases u.dom id (hc.2.resolve_left (by omega))with y|⟨i,y,Z,h5⟩
      omega;by_cases d3:i<j;rw[R.al y]at h5;have:=R.mono (i:=i+1) (j:=j) (by omega) (aN3 hr.c);omega;have h6:=(b8 i y Z d3).2.1 id h5;rw[k3]at h6;simp only at h6;omega;rfl
    have l0:(st (j+1)).s.n=s'.n:=by rw[k3]
    refine hK (g.back g' (nB f (st j).s.n) (st j).s.n) _ w' ⟨u.ext.trans hE,i7,fun id ao h=>?_,fun id h=>?_,d7 hE (VR.names (g:=g') (g2:=g.back g' _ _) rfl hqι k7 m1),d5 hE,b0⟩;have d2:id∈(ft j).al↔(st j).s.n<=id/\id<(st (j+1)).s.n:=R.al hr.c;by_cases q:(id∈W/\id<(st j).s.n)\/id∈(ft j).al
    ·
      have h1:=Et R hr d z hj (id:=id) (by rw[e7];exact q);rw[h1,k3]at h;simp only at h
      have hq:xG f (st j).s.n s'.n id=true:=by
        rcases q with⟨h2,y⟩|h2;obtain⟨e,he,rfl⟩:=cQ3.1 (k4 ▸ h2);have Z:=changed_mem (F.hide f) k2 e he;obtain⟨d8,h5⟩:=Option.isSome_iff_exists.1 Z.2;have:=(O e.1 d8 h5).2;simp only[xG,this,Bool.true_or];rw[d2]at h2;have a1:Nat.ble (st j).s.n id=true:=Nat.ble_eq_true_of_le h2.1;have a2:Nat.blt id s'.n=true:=by simp only[bB3];omega
        simp only[xG,a1,a2,bT3,Bool.or_true]
      rcases Ed (m2.wf) h with⟨h2,y,Z⟩|h2;exact(m2.H id ao y).names (g:=g') (g2:=g.back g' _ _) rfl hqι (hqι id hq) Z;rcases look_updAll _ _ _ _ h2 with⟨y,Z⟩|y;exfalso;rw[<-k4]at Z;rcases q with⟨h5,_⟩|h5;exact Z h5;rw[d2]at h5;have:=F.lt y;omega;exact(m2.H id ao ((changed_spec k2).2 _ y)).names (g:=g') (g2:=g.back g' _ _) rfl hqι (hqι id hq) (by have:=yW2.1 k9 _ y;exact this)
    have h1:jI st ft S ios.length id=some ao:=xM R hr d z hj (fun X=>by
      exfalso;simp only[zC,d0,e7,zN2,aD3,zD2]at X;rcases X with(X|X)|X;cases X;obtain⟨e,he,rfl⟩:=cQ3.1 (k4 ▸ X);exact q (.inl ⟨X,(changed_mem (F.hide f) k2 e he).1⟩);exact q (.inr X)) h
    cases hp:nB f (st j).s.n id with
    |true=>
      obtain⟨h2,y⟩:=g3 id hp;have Z:look (hide f (st j).s.h) id=some ao:=by rw[xF f y,<-e8 id y h2];exact h1
      have h5:id∉wl.map (·.1):=fun h6=>q (.inl ⟨by rw[k4];exact h6,h2⟩);exact(m2.H id ao ((changed_spec k2).1 id ao Z h5)).names (g:=g') (g2:=g.back g' _ _) rfl hqι (xH hp) (Sf (fun i h=>by simp only[xG,h,Bool.true_or]) (pN k5 id ao Z))
    |false=>
      have h2:=u.H id ao h1;have y:g.ι id≠none:=h2.some;refine h2.mono hE.le (Ef hp y) (fun loc hl=>m3.keep _ (u.W.lt id loc hl) (fun id' loc' j8 e0 e=>?_));simp only[Gh.only]at e0;split at e0;rename_i i0;have:=u.W.inj id' id loc' loc e0 hl e;subst this;rw[hp]at i0;cases i0;cases e0
    by_cases hg:g.ι id=none
    have h2:g'.ι id≠none:=by
      simp only[Gh.back]at h;split at h;exact absurd hg h;exact h
    have y:id<s'.n:=m2.dom id h2;by_cases f8:id<(st 0).s.n;exact .inl f8;by_cases B:id<(st j).s.n;obtain⟨i,hi,Z⟩:=cov R (aN3 hr.c) (by omega) B;rcases Es R hr d hi with h5|⟨hb,_,_⟩
    refine .inr ⟨i,by have:=hr.c;omega,?_,Z⟩;rw[z i (by omega)];exact h5;have h6:id∈f:=d6 _ (rO i hi hb Z)
    have h7:nB f (st j).s.n id=false:=by
      cases hp:nB f (st j).s.n id with
      |false=>rfl
      |true=>exact absurd h6 (g3 id hp).2
    exfalso;simp only[Gh.back]at h;rw[yY2 ⟨h7,.inl B⟩]at h;exact h hg;refine .inr ⟨j,hr.c,hj,?_⟩;rw[R.al hr.c];omega;exact M id (u.dom id hg)
end
end Go.Sim
namespace Go.Sim
variable {base n:Nat}
section
variable {P:Program} {T:jW} {ex:Nat->Bool->IC->St->Option (Ex×St)} {lim:Nat} {ops:Array Oper} {ios:List Sim.Op1} {st:Nat->St} {ft:Nat->Foot} {v:Nat->AV} {r:Option Nat} {g0:Gh} {w0:World}
def gI (a:Array Bool) (i:Nat):Bool:=a.getD i false
def Eu (a:Array Bool) (i j:Nat) (h:j<a.size):gI (a.setIfInBounds j true) i=if i=j then true else gI a i:=by
 unfold gI;by_cases e:i=j;subst e;simp[h];simp[e,Array.getElem?_setIfInBounds_ne (Ne.symm e)]
theorem cM1 (R:wT P T ex lim ops ios st ft v) (q:pW P ex) (C:jT P T) (l:lim<=(st 0).s.n) {Q}
  (hQ:∀(S:Nat->Bool) g a w,(∀i,i<ios.length->S i=true)->jN1 P ops ios st ft v lim base g0 w0 S g a w->Q .normal a w):
  ∀fuel b g a w,b.size=ops.size->b.toList.count false<=fuel->jN1 P ops ios st ft v lim base g0 w0 (gI b) g a w->wpAnyIn (FW r) n P .any ops Q fuel b a w:=by
 have E:=R.size
 have f:∀b,b.size=ops.size->Region.ready .any ops b=[]->∀i,i<ios.length->gI b i=true:=by
  intro b hl hr i
  induction i using Nat.strongRecOn with
  |_ i ih=>
   intro hi;cases h:gI b i with
   |true=>rfl
   |false=>
    exfalso;obtain⟨io,o,h1,h2,z⟩:=R.get hi
    have A:i∈Region.ready .any ops b:=by
     rw[mem_ready];have c:i<b.size:=by omega
     refine⟨by simp only[gI]at h;simp[c]at h ⊢;exact h,o,by simpa using h2,fun e he hb=>?_⟩;have x:=R.back i o h2 e (by simpa using he) hb;exact ih e.on x (by omega)
    rw[hr]at A;cases A
 intro fuel
 induction fuel with
 |zero=>
  intro b g a w hl hc m
  have d:∀i,i<ios.length->gI b i=true:=by
   intro i hi;have c:i<b.size:=by omega
   have k:b.toList.count false=0:=by omega
   rw[List.count_eq_zero]at k;cases h:gI b i with
   |true=>rfl
   |false=>
    exfalso;apply k;simp only[gI]at h;simp[c]at h;rw[<-h];simp
  refine⟨?_,hQ _ g a w d m⟩;rw[List.eq_nil_iff_forall_not_mem];intro i hi;rw[mem_ready]at hi;obtain⟨h1,o,h2,_⟩:=hi;have t:i<ops.size:=(zV2.1 h2).1;have:=d i (by omega);have c:i<b.size:=by omega
  simp only[gI]at this;simp[c]at h1 this;rw[h1]at this;cases this
 |succ fuel ih=>
  intro b g a w hl hc m;refine⟨fun hr=>hQ _ g a w (f b hl hr) m,fun i hi=>?_⟩;rw[mem_ready]at hi;obtain⟨h1,o,h2,z⟩:=hi;have t:i<ops.size:=(zV2.1 h2).1;have c:i<b.size:=by omega
  obtain⟨io,o',F,G,H⟩:=R.get (j:=i) (by omega);have:o'=o:=by grind
  subst this
  have y:gI b i=false:=by
   simp only[gI];simp[c]at h1 ⊢;exact h1
  have hr:Rdy ops ios (gI b) i o' io:=⟨G,F,by omega,y,fun e he hb=>z e (by simpa using he) hb⟩
  refine Yf (S':=gI (b.setIfInBounds i true)) R q C l hr H m (fun j D=>by rw[Eu _ _ _ c,zB2 D]) (by rw[Eu _ _ _ c,yY2 rfl]) (fun g' a' w' p=>?_);refine ih _ g' a' w' (by simpa using hl) ?_ p;have B:(b.setIfInBounds i true).toList=b.toList.set i true:=by simp
  have u:b.toList[i]'(by simpa using c)=false:=by simp_all
  rw[B,List.count_set (by simpa using c),u,yY2 (by rfl),zB2 (by decide)];omega
theorem jQ1 (K:jT P T) (y:P.follows .mixedOrders=true) {ex} (A:pW P ex) (B:rM ex):Sm P T ex:=by
 intro lim ops ios σ E fs id hc l z k r g a w n base O f hl hb M;obtain⟨st,ft,v,_,q,x,D,J⟩:=Nz ios 0 σ (fun _=>{}) E fs z;simp only[aQ3]at x D J;have hlen:fs.length=ios.length:=by rw[D,revF_length]
 rw[D,revF_length]at k;simp only[bE1,yS2,yW2]at l;obtain⟨r1,r2⟩:=l
 have R:wT P T ex lim ops ios st ft v:=by
  refine⟨hc,fun j o C e he L=>?_,fun j o C i p hi hp=>?_,J,Bb k,B,by rw[q];exact f.wf⟩;have:=r1 (o,j) (by rw[zL2];exact⟨j,by simp[C]⟩);simp only[yW2,zN2,zK2,zD2]at this;rcases this e he with h|h
  grind
  exact h;have:=r2 (o,j) (by rw[zL2];exact⟨j,by simp[C]⟩);have h:=Ba this i p hp (by omega);rw[aQ3]at h;exact h
 have N:=R.size;refine wpIn_region_any y ?_;have hw:mJ P g {w with drawn:=w.drawn+1} σ.s:=⟨fun id ao h=>(f.H id ao h).mono (.refl g) rfl (fun _ _=>rfl),⟨f.W.still,f.W.lt,f.W.out,f.W.inj⟩,f.dom,f.wf⟩
 have F:sS lim g g w {w with drawn:=w.drawn+1}:=⟨.refl g,yX2 _,fun _ _ _=>rfl,fun id loc h=>.inl ⟨loc,h,rfl⟩,fun _ _=>rfl,rfl,rfl,rfl,fun _ _ h=>.inl h,fun _ R h=>⟨R,h⟩⟩
 refine cM1 (base:=base) (g0:=g) (w0:=w) R A K (by rw[q];exact hl) ?_ ops.size (Array.replicate ops.size false) g a _ (by simp) (by simp) ?_;intro S g' a' w' G u;refine⟨rfl,g',?_⟩
 have b:∀id,jI st ft S ios.length id=look E.s.h id:=fun id=>by
  rw[Ep R (yX2 _) (fun i hi _=>G i hi),x]
 have m:tl ios st v S ios.length=E.t:=by
  rw[<-x];exact cK3 (fun t=>tlA R (yX2 _) (fun i hi _=>G i hi))
 have d:=R.mono (i:=0) (j:=ios.length) (by omega) (yX2 _);rw[q,x]at d;refine⟨by rw[<-m];exact u.t,⟨fun id ao h=>u.H id ao (by rw[b];exact h),u.W,fun id h=>?_,by have:=R.wf (yX2 ios.length);rw[x]at this;exact this⟩,u.ext,d,u.marks⟩;rcases u.dom id h with h1|⟨i,h1,h2,h3⟩
 rw[q]at h1;omega;rw[R.al h1]at h3;have:=R.mono (i:=i+1) (j:=ios.length) (by omega) (yX2 _);rw[x]at this;omega
 have c:∀i,gI (Array.replicate ops.size false) i=false:=by
  intro i;simp only[gI];by_cases h:i<ops.size;simp[h];simp[h]
 have b:∀id,jI st ft (gI (Array.replicate ops.size false)) ios.length id=look σ.s.h id:=by
  intro id;rw[Bc (j:=0) (by omega) (fun i _ _ h=>by rw[c i]at h;cases h),<-q];rfl
 have m:tl ios st v (gI (Array.replicate ops.size false)) ios.length=σ.t:=by
  rw[<-q];have h2:∀t,(tl ios st v (gI (Array.replicate ops.size false)) ios.length)[t]? =(tl ios st v (gI (Array.replicate ops.size false)) 0)[t]? :=fun t=>tlB (by omega) (fun i _ _ h=>by rw[c i]at h;cases h);exact cK3 h2
 exact⟨F,hw.W,fun id ao h=>hw.H id ao (by rw[<-b];exact h),fun id h=>.inl (by rw[q];exact hw.dom id h),by rw[m];exact O,M.ext F,fun i oi h=>by rw[c i]at h;cases h⟩
def Ev (b:jT P T) (a:P.follows .mixedOrders=true) (d:Nat):pW P (exec T d):=jL1 b (fun d h=>jQ1 b a h (Ej T d)) d
end
end Go.Sim
namespace Go.Sim
open Go.RowKit
variable {base n:Nat} {w:World}
def gW (w:World):Gh:={G:=fun b=>w.heap[b]?,ι:=fun _=>none}
def Yg (P:Program) (w:World):mJ P (gW w) w {h:=[],n:=0}:=
 ⟨fun id ao h=>by simp[look]at h,⟨fun b o h=>h,fun id loc h=>by simp[gW]at h,fun id loc h=>by simp[gW]at h,fun id id' loc loc' h=>by simp[gW]at h⟩,fun id h=>by simp[gW]at h,trivial⟩
def Yh {P} {T} (g:jT P T) (a:P.follows .mixedOrders=true) {f} {args} {Args} {d} {s'} {w} {x} (hg:Value.ground x=true)
  (h:callF T (exec T d) 0 f args {h:=[],n:=0}=some (.v x,s')) (i:TR (gW w) args Args.toList):Calls P f Args w fun e w'=>e=.returned x/\Below w.heap.size w w':=by
 have h1:=xD (n:=0) (Ev g a d) g h i (Yg P w) (yX2 _);refine callsIn_wide.1 (CallsIn.mono (F:=Fence.wide) h1 ?_);rintro e w' ⟨V,g',rfl,j,k,c,l⟩;refine⟨by rw[j.ground],⟨c.os,c.tape,c.output,c.size,fun b hb=>c.keep b hb (fun id loc _ hi=>by simp[gW]at hi)⟩⟩
def cN1 (P:Program):aA Field->Nat->Nat->Bool
 |[],off,m=>off==m
 |f::fs,off,m=>f.offset==off&&cN1 P fs (off+P.cellsOf f.type) m
def iK (P:Program):Nat->TypeId->Bool
 |0,_=>false
 |d+1,t=>
  match P.underlying t with
  |some .bool|some (.int _)|some .string=>true
  |some (.slice e)=>P.cellsOf e !=0&&iK P d e
  |some (.struct fs)=>cN1 P fs.toList 0 (P.cellsOf t)&&fs.toList.all fun f=>iK P d f.type
  |some (.array n e)=>P.cellsOf t==n*P.cellsOf e&&iK P d e
  |_=>false
def jR1 (F:TypeId->aA AV->Prop) (P:Program):aA Field->aA AV->Prop
 |[],cs=>cs=[]
 |f::fs,cs=>∃c1 c2,cs=c1++c2/\c1.length=P.cellsOf f.type/\F f.type c1/\jR1 F P fs c2
def nG (P:Program):Nat->TypeId->aA AV->Prop
 |0,_,_=>False
 |d+1,t,cs=>
  match P.underlying t with
  |some .bool=>∃b,cs=[.v (.bool b)]
  |some (.int k)=>∃n,cs=[.v (.int k n)]/\(Lit.int k n).wf=true
  |some .string=>∃s:ByteArray,cs=[.v (.string s)]/\s.size<=maxLen
  |some (.slice e)=>cs=[.v (.slice none 0 0)]\/∃els:aA (aA AV),cs=[.is (P.cellsOf e) els]/\els.length<=maxLen/\∀row∈els,row.length=P.cellsOf e/\nG P d e row
  |some (.struct fs)=>jR1 (nG P d) P fs.toList cs
  |some (.array n e)=>∃rows:aA (aA AV),cs=rows.flatten/\rows.length=n/\∀row∈rows,row.length=P.cellsOf e/\nG P d e row
  |_=>False
def oR {α β} {f}:∀{l:aA α} {r:aA β},l.mapM f=some r->r.length=l.length/\∀(i:Nat) (x:α),l[i]? =some x->∃y,f x=some y/\r[i]? =some y
 |[],r,h=>by
  simp at h
  subst h
  exact⟨rfl,fun i x h=>by simp at h⟩
 |a::l,r,h=>by
  simp only[cM3,Option.bind_eq_bind,yR2,Option.pure_def,yZ2]at h
  obtain⟨b,hb,bs,c,rfl⟩:=h
  obtain⟨h1,h2⟩:=oR c
  refine⟨by simp[h1],fun i x hi=>?_⟩
  cases i with
  |zero=>simp at hi;subst hi;exact⟨b,hb,rfl⟩
  |succ i=>simp at hi;obtain⟨y,d,e⟩:=h2 i x hi;exact⟨y,d,by simpa using e⟩
def zR {a:Addr} {cs:aA Value} (h:w.cells? base a n=some cs):cs.length=n/\∀i,i<n->w.cell? (a.add i)=cs[i]? :=by
 unfold World.cells? at h;split at h;obtain⟨h1,h2⟩:=oR h;refine⟨by simpa using h1,fun i hi=>?_⟩;obtain⟨y,b,c⟩:=h2 i i (by simp[hi]);rw[b,c];cases h
def jS1 {w} {a} {j} {y} (h:w.cell? (a.add j)=some y) (hs:a.spot=none):(gW w).cell a j=some y:=by
 have d:a.add j=⟨a.block,a.off+j,none⟩:=by
  obtain⟨b,o,s⟩:=a;simp only at hs;subst hs;exact kF b o j
 rw[d]at h;unfold World.cell? at h;split at h;rename_i c e fr hb;simp only at hb;simp only[Gh.cell,gW,hb];simpa using h;cases h
def tF {α:Type} {Q:Nat->α->Prop}:∀{n},(∀i,i<n->∃x,Q i x)->∃l:aA α,l.length=n/\∀i x,l[i]? =some x->Q i x
 |0,_=>⟨[],rfl,fun i x h=>by simp at h⟩
 |n+1,h=>by
  obtain⟨l,h1,h2⟩:=tF (n:=n) (fun i hi=>h i (by omega))
  obtain⟨x,b⟩:=h n (by omega)
  refine⟨l++[x],by simp[h1],fun i y hy=>?_⟩
  rw[aV3]at hy
  split at hy
  exact h2 i y hy
  rename_i hi
  have a:i=n:=by
   have:=(yT2.1 hy).1;simp at this;omega
  subst a;simp[h1]at hy;subst hy;exact b
def TR.of_parts {g} {c1 c2} {C} {k} (h1:TR g c1 (C.take k)) (h2:TR g c2 (C.drop k)):TR g (c1++c2) C:=by
 have:=h1.app h2
 rwa [List.take_append_drop]at this
section
variable {H:Type} {enc:TypeId×Value->H} {P:Program} {held:Bool}
def Rd (P:Program) (w:World) (D:Nat) (t:TypeId) (Cs:aA Value):Prop:=∃cs,TR (gW w) cs Cs/\nG P D t cs/\∀y∈Cs,isCell y=true
def Bd {D fuel} (IH:∀t Cs d ps,DataW.trod enc P w 0 (fun _=>true) held fuel t Cs=some (d,ps)->iK P D t=true->Rd P w D t Cs):∀(fs:aA Field) (off m:Nat) (Cs:aA Value) (xs:aA (DataW H×aA MemPlace)),
  fs.mapM (fun f=>DataW.trod enc P w 0 (fun _=>true) held fuel f.type ((Cs.drop f.offset).take (P.cellsOf f.type)))=some xs->cN1 P fs off m=true->(fs.all fun f=>iK P D f.type)=true->Cs.length=m->
  ∃cs,TR (gW w) cs (Cs.drop off)/\jR1 (nG P D) P fs cs/\(∀y∈Cs.drop off,isCell y=true)/\off<=m
 |[],off,m,Cs,xs,h,hs,hp,hl=>by
  simp only[cN1,bH3]at hs
  subst hs
  have:Cs.drop off=[]:=by rw[List.drop_eq_nil_iff];omega
  rw[this]
  exact⟨[],.nil _,rfl,fun y h=>by simp at h,yX2 _⟩
 |f::fs,off,m,Cs,xs,h,hs,hp,hl=>by
  simp only[cM3,Option.bind_eq_bind,yR2,Option.pure_def,yZ2]at h
  obtain⟨b,hb,bs,c,rfl⟩:=h
  simp only[cN1,yS2,bH3]at hs
  obtain⟨rfl,hs⟩:=hs
  simp only[aR3,yS2]at hp
  obtain⟨cs2,e,g,i,j⟩:=Bd IH fs (f.offset+P.cellsOf f.type) m Cs bs c hs hp.2 hl
  obtain⟨a,q1,q2,q3⟩:=IH f.type _ b.1 b.2 hb hp.1
  have hd:(Cs.drop f.offset).drop (P.cellsOf f.type)=Cs.drop (f.offset+P.cellsOf f.type):=by rw[bU3]
  refine⟨a++cs2,TR.of_parts q1 (by rw[hd];exact e),⟨a,cs2,rfl,?_,q2,g⟩,fun y hy=>?_,by omega⟩
  rw[q1.1,cH3,cR3]
  omega
  rw[<-List.take_append_drop (P.cellsOf f.type) (Cs.drop f.offset),hd,aG3]at hy
  rcases hy with hy|hy
  exact q3 y hy
  exact i y hy
def Yi {fuel} {t} {Cs} {x} (a:P.underlying t=some .bool) (h:DataW.trod enc P w 0 (fun _=>true) held (fuel+1) t Cs=some x):∃b,Cs=[.bool b]:=by
 unfold DataW.trod at h;rw[a]at h;split at h<;>simp_all
def cO1 {fuel} {t} {Cs} {k} {x} (a:P.underlying t=some (.int k)) (h:DataW.trod enc P w 0 (fun _=>true) held (fuel+1) t Cs=some x):∃n,Cs=[.int k n]/\(Lit.int k n).wf=true:=by
 unfold DataW.trod at h;rw[a]at h;split at h<;>simp_all
def Og {fuel} {t} {Cs} {x} (a:P.underlying t=some .string) (h:DataW.trod enc P w 0 (fun _=>true) held (fuel+1) t Cs=some x):∃s:ByteArray,Cs=[.string s]/\s.size<=maxLen:=by
 unfold DataW.trod at h;rw[a]at h;split at h<;>simp_all
def Oh {fuel} {t} {fs} {Cs} {x} (a:P.underlying t=some (.struct fs)) (h:DataW.trod enc P w 0 (fun _=>true) held (fuel+1) t Cs=some x):
  Cs.length=P.cellsOf t/\∃xs,fs.toList.mapM (fun f=>DataW.trod enc P w 0 (fun _=>true) held fuel f.type ((Cs.drop f.offset).take (P.cellsOf f.type)))=some xs:=by
 unfold DataW.trod at h;rw[a]at h;split at h<;>simp_all;obtain⟨_,y,h,_⟩:=h;exact⟨y,h⟩
def So {fuel n} {t e} {Cs} {x} (a:P.underlying t=some (.array n e)) (h:DataW.trod enc P w 0 (fun _=>true) held (fuel+1) t Cs=some x):
  Cs.length=P.cellsOf t/\∃xs,(List.range n).mapM (fun i=>DataW.trod enc P w 0 (fun _=>true) held fuel e ((Cs.drop (i*P.cellsOf e)).take (P.cellsOf e)))=some xs:=by
 unfold DataW.trod at h;rw[a]at h;split at h<;>simp_all;obtain⟨_,y,h,_⟩:=h;exact⟨y,h⟩
def Sp {fuel} {t e} {Cs} {x} (j:P.underlying t=some (.slice e)) (h:DataW.trod enc P w 0 (fun _=>true) held (fuel+1) t Cs=some x):
  Cs=[.slice none 0 0]\/∃a len cap,Cs=[.slice (some a) len cap]/\len<=cap/\cap<=maxLen/\∀i,i<cap->∃row y,w.cells? 0 (a.add (i*P.cellsOf e)) (P.cellsOf e)=some row/\DataW.trod enc P w 0 (fun _=>true) held fuel e row=some y:=by
 unfold DataW.trod at h;rw[j]at h;split at h
 all_goals first|(simp_all;done)|skip
 rename_i e' a len cap he;cases he;right;simp only at h;split at h
 .rename_i hc
  obtain⟨_,c1,c2⟩:=hc;simp only[yR2,zT2,yV2]at h;obtain⟨c,h1,cJ,h2,_⟩:=h;refine⟨a,len,cap,rfl,c1,c2,fun i hi=>?_⟩;by_cases d:i<len
  .obtain ⟨y,b,_⟩:=(oR h1).2 i i (cF3 d)
   simp only[yR2]at b;obtain⟨row,b,f⟩:=b;exact⟨row,y,b,f⟩
  .obtain ⟨y,b,_⟩:=(oR h2).2 (i-len) (i-len) (cF3 (by omega))
   have g:len+(i-len)=i:=by omega
   rw[g]at b;simp only[yR2]at b;obtain⟨row,b,f⟩:=b;exact⟨row,y,b,f⟩
 .cases h
def Vj:∀(D fuel:Nat) (t:TypeId) (Cs:aA Value) (F:DataW H) (ps:aA MemPlace),DataW.trod enc P w 0 (fun _=>true) held fuel t Cs=some (F,ps)->iK P D t=true->Rd P w D t Cs
 |0,_,_,_,_,_,_,hp=>by simp[iK]at hp
 |D+1,0,_,_,_,_,h,_=>by simp[DataW.trod]at h
 |D+1,fuel+1,t,Cs,F,ps,h,hp=>by
  have IH:=fun t Cs F ps=>Vj D fuel t Cs F ps
  have one:∀{x:AV} {y:Value},VR (gW w) x y->isCell y=true->nG P (D+1) t [x]->Rd P w (D+1) t [y]:=fun h1 h2 q=>
   ⟨_,.cons h1 (.nil _),q,fun y hy=>by simp at hy;subst hy;exact h2⟩
  unfold iK at hp
  split at hp
  rename_i c
  obtain⟨b,rfl⟩:=Yi c h
  exact one (.v rfl) rfl (by simp[nG,c])
  rename_i k c
  obtain⟨n,rfl,hn⟩:=cO1 c h
  exact one (.v rfl) rfl (by simp[nG,c];exact hn)
  rename_i c
  obtain⟨s,rfl,hs⟩:=Og c h
  exact one (.v rfl) rfl (by simp[nG,c];exact hs)
  rename_i e c
  simp only[yS2,bne_iff_ne,ne_eq]at hp
  obtain⟨h0,hp⟩:=hp
  rcases Sp c h with rfl|⟨a,len,cap,rfl,c1,c2,aG⟩
  exact one (x:=.v (.slice none 0 0)) (.v rfl) rfl (by simp[nG,c])
  by_cases K:cap=0
  have M:len=0:=by omega
  subst K;subst M
  exact one (x:=.is (P.cellsOf e) []) .is0 rfl (by simp[nG,c])
  have d:∀i,i<cap->∃row:aA AV,row.length=P.cellsOf e/\nG P D e row/\a.spot=none/\∀(j:Nat) (x:AV),row[j]? =some x->∃y,(gW w).cell a (i*P.cellsOf e+j)=some y/\isCell y=true/\VR (gW w) x y:=by
   intro i hi;obtain⟨row,y,O,R⟩:=aG i hi;obtain⟨Y,T⟩:=zR O;obtain⟨cs,q1,q2,q3⟩:=IH e row y.1 y.2 R hp
   have hs:a.spot=none:=by
    have h1:=T 0 (by omega);have h2:row[0]? =some row[0]:=by simp
    rw[h2]at h1;have q:=World.cell?_spot h1;unfold Addr.add at q;split at q;split at q;exact q;rename_i W;obtain⟨E,_,N,_⟩:=aG 0 (by omega);obtain⟨Z,S⟩:=zR N;have A:=S 0 (by omega);have G:E[0]? =some E[0]:=by simp
    rw[G]at A;have J:=World.cell?_spot A;simpa[Addr.add]using J;obtain⟨E,_,N,_⟩:=aG 0 (by omega);obtain⟨Z,S⟩:=zR N;have A:=S 0 (by omega);have G:E[0]? =some E[0]:=by simp
    rw[G]at A;have J:=World.cell?_spot A;simpa[Addr.add]using J
   refine⟨cs,by rw[q1.1,Y],q2,hs,fun j x r=>?_⟩;have hj:j<row.length:=by rw[<-q1.1];exact(yT2.1 r).1
   have hc:=T j (by omega);have B:row[j]? =some row[j]:=by simp
   rw[B]at hc
   have V:(a.add (i*P.cellsOf e)).add j=a.add (i*P.cellsOf e+j):=by
    obtain⟨b,o,s⟩:=a;simp only at hs;subst hs;rw[kF,kF,kF,aP3]
   rw[V]at hc;exact⟨row[j],jS1 hc hs,q3 _ (by simp),q1.2 j x _ r B⟩
  obtain⟨els,z,e2⟩:=tF (n:=len) (fun i hi=>d i (by omega));obtain⟨_,_,_,hs,_⟩:=d 0 (by omega)
  have hv:VR (gW w) (.is (P.cellsOf e) els) (.slice (some a) els.length cap):=
   .is hs (by omega) (fun i row hr=>(e2 i row hr).1) (fun i row j x hr r=>by
    obtain⟨y,u,U,_⟩:=(e2 i row hr).2.2.2 j x r;exact⟨y,u,U⟩) (fun i row j x y hr r hy=>by
    obtain⟨y',u,U,y3⟩:=(e2 i row hr).2.2.2 j x r;rw[hy]at u;cases u;exact y3)
  rw[z]at hv;refine one hv rfl ?_;simp only[nG,c];refine .inr ⟨els,rfl,by omega,fun row hr=>?_⟩;obtain⟨i,hi⟩:=zL2.1 hr;exact⟨(e2 i row hi).1,(e2 i row hi).2.1⟩;rename_i fs c;simp only[yS2]at hp;obtain⟨hl,xs,p⟩:=Oh c h;obtain⟨cs,O,R,X,_⟩:=Bd IH fs.toList 0 (P.cellsOf t) Cs xs p hp.1 hp.2 hl;exact⟨cs,by simpa using O,by simpa only[nG,c]using R,by simpa using X⟩;rename_i n e c;simp only[yS2,bH3]at hp;obtain⟨hl,xs,p⟩:=So c h;rw[hp.1]at hl
  have d:∀i,i<n->∃row:aA AV,TR (gW w) row ((Cs.drop (i*P.cellsOf e)).take (P.cellsOf e))/\nG P D e row/\∀y∈(Cs.drop (i*P.cellsOf e)).take (P.cellsOf e),isCell y=true:=by
   intro i hi;obtain⟨y,u,_⟩:=(oR p).2 i i (by simp[hi]);exact IH e _ y.1 y.2 u hp.2
  obtain⟨rows,r1,r2⟩:=tF d
  have hlen:∀row∈rows,row.length=P.cellsOf e:=by
   intro row hr;obtain⟨i,hi⟩:=zL2.1 hr;have L:i<n:=by rw[<-r1];exact(yT2.1 hi).1
   rw[(r2 i row hi).1.1,cH3,cR3,hl];have:(i+1)*P.cellsOf e<=n*P.cellsOf e:=aH3 _ L;rw[bD3]at this;omega
  have key:∀(m:Nat) (g:aA (aA AV)),g.length=m->(∀(i:Nat) (row:aA AV),g[i]? =some row->TR (gW w) row ((Cs.drop ((n-m+i)*P.cellsOf e)).take (P.cellsOf e))/\∀y∈(Cs.drop ((n-m+i)*P.cellsOf e)).take (P.cellsOf e),isCell y=true)->m<=n->
    TR (gW w) g.flatten (Cs.drop ((n-m)*P.cellsOf e))/\∀y∈Cs.drop ((n-m)*P.cellsOf e),isCell y=true:=by
   intro m
   induction m with
   |zero=>
    intro g l _ _;have:g=[]:=by cases g;rfl;simp at l
    subst this;have:Cs.drop ((n-0)*P.cellsOf e)=[]:=by rw[List.drop_eq_nil_iff,hl];simp
    rw[this];exact⟨.nil _,fun y h=>by simp at h⟩
   |succ m ih=>
    intro g l hr hm;cases g with
    |nil=>simp at l
    |cons row g=>
     have h0:=hr 0 row rfl;rw[aZ3]at h0
     have f:=ih g (by simpa using l) (fun i C hi=>by
      have:=hr (i+1) C (by simpa using hi);have z:n-(m+1)+(i+1)=n-m+i:=by omega
      rwa [z]at this) (by omega)
     have hd:(Cs.drop ((n-(m+1))*P.cellsOf e)).drop (P.cellsOf e)=Cs.drop ((n-m)*P.cellsOf e):=by
      rw[bU3];congr 1;have:n-m=n-(m+1)+1:=by omega
      rw[this,bD3]
     refine⟨by simpa using TR.of_parts h0.1 (by rw[hd];exact f.1),fun y hy=>?_⟩;rw[<-List.take_append_drop (P.cellsOf e) (Cs.drop ((n-(m+1))*P.cellsOf e)),hd,aG3]at hy;rcases hy with hy|hy;exact h0.2 y hy;exact f.2 y hy
  have hk:=key n rows r1 (fun i row hi=>by
   have z:n-n+i=i:=by omega
   rw[z];exact⟨(r2 i row hi).1,(r2 i row hi).2.2⟩) (yX2 _)
  simp only[Nat.sub_self,cW3,aO3]at hk;refine⟨rows.flatten,hk.1,?_,hk.2⟩;simp only[nG,c];refine⟨rows,rfl,r1,fun row hr=>⟨hlen row hr,?_⟩⟩;obtain⟨i,hi⟩:=zL2.1 hr;exact(r2 i row hi).2.1;cases hp
end
end Go.Sim
namespace Go.Sim
section
variable {T:jW} {ex ex':Nat->Bool->IC->St->Option (Ex×St)}
def xN (ex ex':Nat->Bool->IC->St->aB (Ex×St)):Prop:=∀lim rd c σ r,ex lim rd c σ=some r->ex' lim rd c σ=some r
def zS (b:xN ex ex') {lim} {fn} {args} {s} {r} (h:body ex lim fn args s=some r):body ex' lim fn args s=some r:=by
 unfold body at h ⊢;split at h;cases h;rename_i e σ a he;rw[b _ _ _ _ _ he];cases e with
 |exit id=>exact absurd rfl (a id)
 |normal=>exact h
 |ret=>exact h
 cases h
def mono_runP (a:xN ex ex') {f} {fn} {args} {r} (h:runP T ex f fn args=some r):runP T ex' f fn args=some r:=by
 unfold runP at h ⊢;split at h;rename_i b;exact h;split at h;rename_i hb;rw[zS a hb];exact h;cases h
def vV (a:xN ex ex') {lim} {f} {args} {s} {r} (h:callF T ex lim f args s=some r):callF T ex' lim f args s=some r:=by
 unfold callF at h ⊢;split at h;cases h;rename_i fn c
 (try simp only[c])
 split at h;rename_i hp;rw[yY2 hp];split at h;rename_i hc;rw[yY2 hc];simp only[yV2]at h;obtain⟨v,hv,rfl⟩:=h;rw[mono_runP a hv];rfl;rename_i hc;rw[zB2 hc];split at h;rename_i d;rw[yY2 d];split at h;rename_i as b
 (try simp only[b])
 split at h;rename_i hb;rw[mono_runP a hb];exact h;cases h;cases h;rename_i d;rw[zB2 d];split at h;rename_i hb;rw[zS a hb];exact h;cases h;rename_i hp;rw[zB2 hp];exact zS a h
def Sq (a:xN ex ex') {lim l} {args} {s} {r} (h:round ex lim l args s=some r):round ex' lim l args s=some r:=by
 unfold Sim.round at h ⊢;split at h;rename_i c
 (try simp only[c])
 split at h;rename_i hc;rw[yY2 hc];split at h;rename_i σ d;rw[a _ _ _ _ _ d];simp only;split at h;rename_i b
 (try simp only[b])
 split at h;rename_i hb;rw[a _ _ _ _ _ hb];exact h;rename_i hb;rw[a _ _ _ _ _ hb];exact h;rename_i hb;rw[a _ _ _ _ _ hb];exact h;cases h;cases h;cases h;cases h;cases h
def uD (a:xN ex ex') {lim} {k} {xs} {s} {r} (h:step T ex lim k xs s=some r):step T ex' lim k xs s=some r:=by
 unfold step at h ⊢;split at h;exact vV a h;split at h;unfold callV at h ⊢;split at h;exact vV a h;exact Sq a h;cases h;cases h;exact h
def tG (b:xN ex ex') {lim}:∀{os} {σ τ},runOps T ex lim os σ=some τ->runOps T ex' lim os σ=some τ
 |[],σ,τ,h=>h
 |o::os,σ,τ,h=>by
  simp only[runOps]at h ⊢
  split at h
  rename_i hw
  rw[yY2 hw]
  split at h
  rename_i c
  (try simp only[c])
  split at h
  rename_i a
  simp only[uD b a]
  exact tG b h
  cases h
  cases h
  rename_i hw
  rw[zB2 hw]
  exact tG b h
def lY (c:xN ex ex') {lim} {before}:∀{os} {j} {fs} {σ} {r},eN T ex lim before os j fs σ=some r->eN T ex' lim before os j fs σ=some r
 |[],j,fs,σ,r,h=>h
 |o::os,j,fs,σ,r,h=>by
  simp only[eN]at h ⊢
  split at h
  rename_i hw
  rw[yY2 hw]
  split at h
  rename_i e
  (try simp only[e])
  split at h
  rename_i d
  rw[yY2 d]
  split at h
  rename_i a
  simp only[uD c a]
  exact lY c h
  cases h
  rename_i d
  rw[zB2 d]
  split at h
  rename_i b
  rw[yY2 b]
  split at h
  rename_i a
  simp only[Se (fun _ _=>uD c) a]
  exact lY c h
  cases h
  rename_i b
  rw[zB2 b]
  split at h
  rename_i a
  simp only[uD c a]
  exact lY c h
  cases h
  cases h
  rename_i hw
  rw[zB2 hw]
  exact lY c h
def Ik (T:jW):∀d,xN (exec T d) (exec T (d+1))
 |0,lim,rd,c,σ,r,h=>by simp[exec]at h
 |d+1,lim,rd,c,σ,r,h=>by
  have ih:=Ik T d
  cases c with
  |skip=>simpa only[exec]using h
  |reg ops=>
   simp only[exec,yV2]at h
   obtain⟨τ,h,rfl⟩:=h
   rw[exec,tG ih h]
   rfl
  |regD ops before=>
   rw[exec]at h ⊢
   split at h
   rename_i hf
   rw[lY ih hf]
   exact h
   cases h
  |seq a b=>
   rw[exec]at h ⊢
   split at h
   rename_i i
   rw[ih _ _ _ _ _ i]
   exact ih _ _ _ _ _ h
   rename_i g
   have h2:=ih _ _ _ _ _ h
   rw[h2]
   obtain⟨e,τ⟩:=r
   cases e with
   |normal=>exact absurd h (g τ)
   |ret=>rfl
   |exit id=>rfl
  |cond c a b=>
   rw[exec]at h ⊢
   split at h
   rename_i hc
   (try simp only[hc])
   exact ih _ _ _ _ _ h
   cases h
  |block id c=>
   rw[exec]at h ⊢
   split at h
   rename_i i
   rw[ih _ _ _ _ _ i]
   exact h
   rename_i g
   have h2:=ih _ _ _ _ _ h
   rw[h2]
   obtain⟨e,τ⟩:=r
   cases e with
   |normal=>rfl
   |ret=>rfl
   |exit id=>exact absurd h (g _ _)
  |loop c=>
   rw[exec]at h ⊢
   split at h
   rename_i i
   rw[ih _ _ _ _ _ i]
   exact ih _ _ _ _ _ h
   rename_i e τ g i
   rw[ih _ _ _ _ _ i]
   cases e with
   |normal=>exact(g rfl).elim
   |ret=>exact h
   |exit id=>exact h
   cases h
  |rangeF f ps a b=>
   rw[exec]at h ⊢
   split at h
   rename_i j
   (try simp only[j])
   split at h
   rename_i hc
   simp only[vV ih hc]
   exact h
   cases h
   cases h
  |exit id=>simpa only[exec]using h
  |ret=>simpa only[exec]using h
def mono_le (T:jW) {d d'} (h:d<=d'):xN (exec T d) (exec T d'):=by
 induction h with
 |refl=>exact fun _ _ _ _ _ h=>h
 |step _ ih=>exact fun _ _ _ _ _ h=>Ik T _ _ _ _ _ _ (ih _ _ _ _ _ h)
end
end Go.Sim
namespace Go.Sim
def kX (P:Program):Nat->aA (aB IFn)->Prop
 |_,[]=>True
 |i,none::r=>kX P (i+1) r
 |i,some ifn::r=>(∃fn,P.funcs[i]? =some fn/\nH P fn ifn.pure ifn.frz=some ifn)/\kX P (i+1) r
def kX.get {P}:∀{l} {i j} {ifn},kX P i l->l[j]? =some (some ifn)->∃fn,P.funcs[i+j]? =some fn/\nH P fn ifn.pure ifn.frz=some ifn
 |[],i,j,ifn,_,h=>by simp at h
 |none::r,i,j,ifn,h,hj=>by
  cases j with
  |zero=>simp at hj
  |succ j=>
   have:=kX.get (l:=r) h (by simpa using hj)
   rwa [show i+1+j=i+(j+1)by omega]at this
 |some x::r,i,j,ifn,h,hj=>by
  cases j with
  |zero=>
   simp at hj
   subst hj
   exact h.1
  |succ j=>
   have:=kX.get (l:=r) h.2 (by simpa using hj)
   rwa [show i+1+j=i+(j+1)by omega]at this
def vJ:aA (FuncId×aA AV×AV)->FuncId->aA AV->aB AV
 |[],_,_=>none
 |(f',as,v)::r,f,args=>if f=f'/\Hm (wU 20) args as=true then some v else vJ r f args
def tH (P:Program):aA (FuncId×aA AV×AV)->Prop
 |[]=>True
 |(f,as,v)::r=>nR P f as v/\tH P r
def Oj {P}:∀{M} {f} {args} {v},tH P M->vJ M f args=some v->nR P f args v
 |[],_,_,_,_,h=>by cases h
 |(f',as,v')::r,f,args,v,hM,h=>by
  simp only[vJ]at h
  split at h
  rename_i hc
  cases h
  rw[hc.1,vP (xE 20) hc.2]
  exact hM.1
  exact Oj hM.2 h
def rP {M} {f} (h:∀e∈M,e.1≠f) (args:aA AV):vJ M f args=none:=by
 induction M with
 |nil=>rfl
 |cons e r ih=>
  obtain⟨f',as,v⟩:=e;simp only[vJ];rw[zB2 (fun hc=>h (f',as,v) (by simp) hc.1.symm)];exact ih (fun e he=>h e (by simp[he]))
theorem kX.tab {P} {l} {M} (h:kX P 0 l) (a:tH P M):jT P ⟨fun f=>(l[f]?).join,vJ M⟩:=by
 refine⟨fun f ifn hf=>?_,fun f args v b=>Oj a b⟩;have:l[f]? =some (some ifn):=by grind
 have h2:=kX.get h this
 rwa [aQ3]at h2
def cP1 (P:Program):aA Func->aA (aB IFn)->aA (aB IFn)
 |_,[]=>[]
 |[],_::_=>[]
 |_::fs,none::r=>none::cP1 P fs r
 |fn::fs,some x::r=>nH P fn x.pure x.frz::cP1 P fs r
def kX.of {P}:∀{l} {fs} {i},P.funcs.toList.drop i=fs->cP1 P fs l=l->kX P i l
 |[],_,_,_,_=>trivial
 |o::r,[],i,_,h=>by cases o<;>cases h
 |none::r,f::fs,i,hd,h=>by
  have hn:P.funcs.toList.drop (i+1)=fs:=by rw[<-bU3,hd];rfl
  exact kX.of (l:=r) hn (List.cons.inj h).2
 |some x::r,f::fs,i,hd,h=>by
  have hn:P.funcs.toList.drop (i+1)=fs:=by rw[<-bU3,hd];rfl
  have hi:P.funcs[i]? =some f:=by
   rw[<-aY3,<-List.head?_drop,hd];rfl
  exact⟨⟨f,hi,(List.cons.inj h).1⟩,kX.of (l:=r) hn (List.cons.inj h).2⟩
def Ew {P} {T} (b:jT P T) (a:P.follows .mixedOrders=true) {f} {fn} {args} {v} {d} (hf:T f=some fn) (hp:fn.pure=true) (hc:args.all (closed 4)=true)
  (h:runP T (exec T d) f fn args=some v):nR P f args v:=by
 intro g w s n Args e c;exact zO (Ev b a d) b hf hc h e c
end Go.Sim
namespace Go.Sim
open Go.RowKit Go.ChangeShapes Go.WideShapes
section
variable {H:Type} {enc:TypeId×Value->H} {P:Program} {W W':World}
theorem jT1 {a} {y} (h:W.cell? a=some y):a.block<W.heap.size:=by
 unfold World.cell? at h;split at h
 grind
 cases h
def Sr (hb:Below W.heap.size W W') {a} {n} {cs} (h:W.cells? 0 a n=some cs):W'.cells? 0 a n=some cs:=by
 unfold World.cells? at h ⊢;simp only[aB3,zT2]at h ⊢;exact mapM_mono (fun x y b=>by rw[hb.cell (jT1 b)];exact b) h
def qH {α β} {f g}:∀{l:aA α} {r:aA β},l.mapM f=some r->(∀x y,x∈l->y∈r->f x=some y->g x=some y)->l.mapM g=some r
 |[],r,h,_=>by simpa using h
 |a::l,r,h,hk=>by
  simp only[cM3,Option.bind_eq_bind,yR2,Option.pure_def,yZ2]at h
  obtain⟨b,hb,bs,c,rfl⟩:=h
  have h1:=qH c (fun x y d hy=>hk x y (by simp[d]) (by simp[hy]))
  have h2:=hk a b (by simp) (by simp) hb
  simp[cM3,h1,h2]
def Il (hb:Below W.heap.size W W') {held} {sp}:∀(fuel D:Nat) (t:TypeId) (cs:aA Value) (x:DataW H×aA MemPlace),iK P D t=true->
  DataW.trod enc P W 0 (fun _=>true) held fuel t cs=some x->(∀q∈x.2,sp q.block=true)->DataW.trod enc P W' 0 sp held fuel t cs=some x
 |0,_,_,_,_,_,h,_=>by simp[DataW.trod]at h
 |fuel+1,0,_,_,_,hp,_,_=>by simp[iK]at hp
 |fuel+1,D+1,t,cs,x,hp,h,hs=>by
  have IH:=Il hb (held:=held) (sp:=sp) fuel D
  unfold iK at hp
  split at hp
  .rename_i c
   unfold DataW.trod at h ⊢
   rw[c]at h ⊢
   split at h<;>simp_all
  .rename_i k c
   unfold DataW.trod at h ⊢
   rw[c]at h ⊢
   split at h<;>simp_all
  .rename_i c
   unfold DataW.trod at h ⊢
   rw[c]at h ⊢
   split at h<;>simp_all
  .rename_i e c
   simp only[yS2,bne_iff_ne,ne_eq]at hp
   obtain⟨h0,hp⟩:=hp
   unfold DataW.trod at h ⊢
   rw[c]at h ⊢
   split at h
   all_goals first|(simp_all;done)|skip
   rename_i e' a len cap he
   cases he
   simp only at h ⊢
   split at h
   .rename_i hc
    rw[yY2 hc]
    simp only[yR2,zT2,yV2]at h
    obtain⟨b,h1,cJ,h2,rfl⟩:=h
    simp only[aG3]at hs
    have el:∀(i:Nat) (y:DataW H×aA MemPlace),(y∈b\/y∈cJ)->((W.cells? 0 (a.add (i*P.cellsOf e)) (P.cellsOf e)).bind (DataW.trod enc P W 0 (fun _=>true) held fuel e))=some y->
      ((W'.cells? 0 (a.add (i*P.cellsOf e)) (P.cellsOf e)).bind (DataW.trod enc P W' 0 sp held fuel e))=some y:=by
     intro i y hy h;simp only[yR2]at h ⊢;obtain⟨row,s,u⟩:=h;refine⟨row,Sr hb s,IH e row y hp u (fun q l=>hs q (Or.inr ?_))⟩;rw[aM3];exact⟨y,by simpa using hy,l⟩
    have m:=qH h1 (g:=fun i=>(W'.cells? 0 (a.add (i*P.cellsOf e)) (P.cellsOf e)).bind (DataW.trod enc P W' 0 sp held fuel e)) (fun i y _ hy h=>el i y (Or.inl hy) h);have d:=qH h2 (g:=fun j=>(W'.cells? 0 (a.add ((len+j)*P.cellsOf e)) (P.cellsOf e)).bind (DataW.trod enc P W' 0 sp held fuel e)) (fun i y _ hy h=>el (len+i) y (Or.inr hy) h);rw[m];simp only[yU2];by_cases o:cap=0
    .have:cap-len=0:=by omega
     rw[this]at h2 d ⊢;have:cJ=[]:=by simpa using h2.symm
     subst this;split<;>simp
    .have hsp:sp a.block=true:=by
      have hlen:b.length+cJ.length=cap:=by
       have p:=(oR h1).1;have e2:=(oR h2).1;simp at p e2;omega
      refine hs (.cell a.block (a.off+0)) (Or.inl ?_);unfold MemPlace.row;rw[cQ3];refine⟨0,?_,rfl⟩;rw[List.mem_range,hlen];exact Nat.mul_pos (by omega) (by omega)
     rw[yY2 hsp,d];rfl
   .cases h
  .rename_i fs c
   simp only[yS2]at hp;unfold DataW.trod at h ⊢;rw[c]at h ⊢;split at h
   all_goals first|(simp_all;done)|skip
   rename_i r he;cases he;split at h
   .rename_i hc
    rw[yY2 hc];simp only[yV2]at h ⊢;obtain⟨xs,h1,rfl⟩:=h;refine⟨xs,qH h1 (fun f y hf hy h=>IH f.type _ y ?_ h (fun q l=>hs q ?_)),rfl⟩
    .exact yW2.1 hp.2 f hf
    .rw [aM3]
     exact⟨y,hy,l⟩
   .cases h
  .rename_i n e c
   simp only[yS2,bH3]at hp;unfold DataW.trod at h ⊢;rw[c]at h ⊢;split at h
   all_goals first|(simp_all;done)|skip
   rename_i n' e' he;cases he;split at h
   .rename_i hc
    rw[yY2 hc];simp only[yV2]at h ⊢;obtain⟨xs,h1,rfl⟩:=h;refine⟨xs,qH h1 (fun i y hi hy h=>IH e _ y hp.2 h (fun q l=>hs q ?_)),rfl⟩;rw[aM3];exact⟨y,hy,l⟩
   .cases h
  .cases hp
def xO (hb:Below W.heap.size W W') {held} {sp} {D}:∀b vs a ps,(b.all fun t=>iK P D t)=true->
  DataW.TrodAll enc P W 0 (fun _=>true) held b vs a ps->(∀q∈ps,sp q.block=true)->DataW.TrodAll enc P W' 0 sp held b vs a ps
 |[],vs,a,ps,_,h,_=>by
  match vs,a,h with
  |[],[],h=>exact h
 |t::b,vs,a,ps,hp,h,hs=>by
  match vs,a,h with
  |v::vs,d::a,h=>
   obtain⟨p,q,⟨fuel,h1⟩,h2,rfl⟩:=h
   simp only[aR3,yS2]at hp
   exact⟨p,q,⟨fuel,Il hb fuel D t _ _ hp.1 h1 (fun x c=>hs x (by simp[c]))⟩,xO hb b vs a q hp.2 h2 (fun x c=>hs x (by simp[c])),rfl⟩
def jU1 (P:Program) (W:World) (D:Nat) (t:TypeId) (x:AV) (V:Value):Prop:=
 VR (gW W) x V/\∃cs,nG P D t cs/\x=(if dS P t then .agg cs else cs.headD .undef)
def tY1 {D fuel} {t} {V} {x} (a:(∃cs,V=.agg cs)↔dS P t=true) (g:∀cs,V≠.tuple cs) (hp:iK P D t=true)
  (h:DataW.trod enc P W 0 (fun _=>true) true fuel t V.cells.toList=some x):∃y,jU1 P W D t y V:=by
 obtain⟨cs,h1,h2,d⟩:=Vj D fuel t _ x.1 x.2 h hp;by_cases b:dS P t=true;obtain⟨Cs,rfl⟩:=a.2 b;refine⟨.agg cs,.agg (by simpa[Value.cells]using h1.1) (fun i y hy=>d y ?_) (fun i x y j hy=>h1.2 i x y j (by simpa[Value.cells]using hy)),cs,h2,by rw[yY2 b]⟩;simp only[Value.cells];exact zC2 (by simpa using hy);have f:∀Cs,V≠.agg Cs:=fun Cs e=>b (a.1 ⟨Cs,e⟩);have hc:V.cells=#[V]:=by cases V<;>simp_all[Value.cells]
 rw[hc]at h1;have hl:=h1.1
 match cs,hl,h1,h2 with
 |[c],_,h1,h2=>exact⟨c,h1.head,[c],h2,by rw[zB2 b];rfl⟩
end
end Go.Sim
namespace Go.Sim
open Go.RowKit Go.ChangeShapes Go.WideShapes Go.ChangeAt
variable {H:Type}
section
variable {enc:TypeId×Value->H} {P:Program} {W W':World}
theorem Ss {D} {t} {base} {V} (hp:iK P D t=true) (a:Value.okWide P W .any base t V):((∃cs,V=.agg cs)↔dS P t=true)/\∀cs,V≠.tuple cs:=by
 cases D with
 |zero=>simp[iK]at hp
 |succ D=>
 unfold iK at hp;unfold Value.okWide at a;unfold dS;split at hp;rename_i b;rw[b]at a ⊢;simp only[Cell.okWide,b]at a;cases V<;>simp_all[Cell.ok];rename_i b;rw[b]at a ⊢;simp only[Cell.okWide,b]at a;cases V<;>simp_all[Cell.ok];rename_i b;rw[b]at a ⊢;simp only[Cell.okWide,b]at a;cases V<;>simp_all[Cell.ok];rename_i b;rw[b]at a ⊢;simp only[Cell.okWide,b]at a;cases V<;>simp_all[Cell.ok]
 grind
 grind
 cases hp
def vK (P:Program) (W:World) (D:Nat):aA TypeId->aA AV->aA Value->Prop
 |[],[],[]=>True
 |t::ts,x::xs,V::Vs=>jU1 P W D t x V/\vK P W D ts xs Vs
 |_,_,_=>False
def Vk {D base}:∀{e} {vs} {c} {ps},(e.all fun t=>iK P D t)=true->
  (∀(j:Nat) t v,e[j]? =some t->vs[j]? =some v->Value.okWide P W .any base t v)->
  DataW.TrodAll enc P W 0 (fun _=>true) true e vs c ps->∃xs,vK P W D e xs vs
 |[],vs,c,ps,_,_,h=>by
  match vs,c,h with
  |[],[],h=>exact⟨[],trivial⟩
 |t::e,vs,c,ps,hp,hok,h=>by
  match vs,c,h with
  |v::vs,d::c,h=>
   obtain⟨p,q,⟨fuel,h1⟩,h2,rfl⟩:=h
   simp only[aR3,yS2]at hp
   obtain⟨i,k⟩:=Ss hp.1 (hok 0 t v rfl rfl)
   obtain⟨x,g⟩:=tY1 i k hp.1 h1
   obtain⟨xs,f⟩:=Vk hp.2 (fun j t v a b=>hok (j+1) t v (by simpa using a) (by simpa using b)) h2
   exact⟨x::xs,g,f⟩
def vK.tr {D}:∀{a} {xs} {vs},vK P W D a xs vs->TR (gW W) xs vs
 |[],[],[],_=>.nil _
 |_::_,_::_,_::_,h=>.cons h.1.1 (vK.tr h.2)
def Be {sp} {base} {held}:∀{b} {vs} {a} {ps},DataW.TrodAll enc P W base sp held b vs a ps->a.length=b.length/\vs.length=b.length
 |[],vs,a,ps,h=>by
  match vs,a,h with
  |[],[],h=>exact⟨rfl,rfl⟩
 |t::b,vs,a,ps,h=>by
  match vs,a,h with
  |v::vs,d::a,⟨p,q,h1,h2,_⟩=>
   obtain⟨c,e⟩:=Be h2
   exact⟨by simp[c],by simp[e]⟩
end
def Ko {C:Checked} {f:FuncId} {fn:Func} {s:ChangeSpec} {d fresh g:Bool} {D:Nat} {tb:TypeId} {enc:TypeId×Value->H}
  (i:s.vars=[]) (l:∀k:aA (DataW H),k.length=fn.params.toList.length->s.fn H k={results:=[.lit (.bool true)],args:=k})
  (o:fn.resultTypes=#[tb]) (E:C.prog.underlying tb=some .bool) (c:(fn.params.toList.all fun t=>iK C.prog D t)=true)
  (u:∀W xs args,vK C.prog W D fn.params.toList xs args.toList->Calls C.prog f args W fun e W'=>e=.returned (.bool true)/\Below W.heap.size W W')
  (W:World) (base:Nat) (args:Array Value) (k z:aA (DataW H)) (before:aA MemPlace)
  (r:∀(j:Nat) t v,fn.params[j]? =some t->args[j]? =some v->Value.okWide C.prog W .any base t v)
  (G:DataW.Whole enc C.prog fn.params.toList s.vars d W args.toList k z before):
  Calls C.prog f args W fun e W'=>∃v,e=.returned v/\s.post enc C.prog fn d fresh g false W args v W':=by
 have m:=G;obtain⟨p,q,A,w,rfl,J,K⟩:=G
 have B:z=[]/\q=[]:=by
  rw[i]at w
  match z,w with
  |[],w=>exact⟨rfl,w⟩
 obtain⟨rfl,rfl⟩:=B;obtain⟨xs,F⟩:=Vk c (fun j t v a b=>r j t v (by simpa using a) (by simpa using b)) A;refine(u W xs args F).mono fun e W' ⟨he,hb⟩=>?_;subst he;have hsp:=l k (Be A).1
 have n:∀x∈p,(decide (x.block<W.heap.size))=true:=fun x y=>by
  have:=m.lt x (by simp[y]);simpa using this
 refine⟨_,rfl,k,[],p++[],[],p,[],m,?_,?_,?_,World.keptBut_mono (fun x y=>⟨y,by simpa using y⟩) (hb.frame (· ∈p++[])),fun h=>by cases h⟩;rw[bJ3,hsp,o];exact trodAll_mk1 (shut_bool E _);rw[bJ3,hsp];exact xO hb _ _ _ _ c A n;rw[bJ3,hsp,i];rfl
end Go.Sim
