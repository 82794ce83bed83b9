import Derived.Test.YtlohgggadnajiaaGreatLaA
import Derived.ControlIn
import Derived.LoopNIn
import GoSem.ClaimChange
import Derived.Below
import Derived.DataReads
import Derived.ChangeSame
import Derived.ProofKit
import Derived.OpenShut
/- A text of the proof. -/
set_option linter.all false
namespace Go.Sim
section
variable {P:Program} {T:lI} {ex:Nat->Bool->IC->St->Option (Ex×St)} {lim n:Nat} {g:Gh} {w:World} {r:Option Nat}
def Bg {fn:Func} {pure frz:Bool} {ifn:IFn} (h:oC P fn pure frz=some ifn):(∃c,fn.body=some c)/\(fn.name== "runtime.NumGoroutine")=false:=by
 unfold oC at h;split at h;cases h
 grind
def Yk {ρ:Operand->Value} {o:Oper} {e:Operand} {args:Array Operand} {d:Array TypeId} {f:FuncId} {F C:Array Value} {fn:Func} {c:Code} (h:o.op=.call {callee:=.value e,args:=args,argTypes:=d}) (g:ρ e=.func (.func f) F C)
  (hf:P.funcs[f]? =some fn) (hb:fn.body=some c) (b:(fn.name== "runtime.NumGoroutine")=false):(execOp ρ o).run P w=.ok (.enter f (F++args.map ρ++C)) w:=by
 have a:¬fn.name= "runtime.NumGoroutine":=by simpa using b
 simp[execOp,h,resolve,g,Deferred.ofValue,invoke,callFunc,hf,a,hb]
def Yl {ρ:Operand->Value} {o:Oper} {d:Operand} {args:Array Operand} {a:Array TypeId} {b:Nat} {R:Loop} (f:o.op=.call {callee:=.value d,args:=args,argTypes:=a}) (e:ρ d=.func (.yield b) #[] #[])
  (hb:w.heap[b]? =some (.loop R)) (c:R.params.size=args.size):(execOp ρ o).run P w=.ok (.round b R.fn ((R.params.zip (args.map ρ)).foldl (fun tmps (p:Tmp×Value)=>tmps.setIfInBounds p.1 p.2) R.tmps) R.assign R.body) w:=by
 simp[execOp,f,resolve,e,Deferred.ofValue,invoke,Instr.yield,nW hb,c]
def rU {o:Oper} {ρ:Operand->Value} (r:aB Nat) (h:∀c,o.op≠.defer c):Oper.semAt r ρ o=execOp ρ o:=by
 cases r with
 |none=>exact Oper.semAt_none ..
 |some l=>
  unfold Oper.semAt;cases ho:o.op<;>first|rfl|exact absurd ho (h _)
def xI {o:Op} {ty:TypeId} {k:hZ} {os:aA Operand} (h:kP P o ty=some (k,os)):∀c,o≠.defer c:=by
 rintro c rfl;simp[kP]at h
def cU1 {o:Oper} {k:hZ} {os:aA Operand} {xs:aA AV} {out:Out} {s:Hp} {a:Act} (x:kP P o.op o.type=some (k,os)) (hd:doOp (look s.h) lim s.n k xs=some out) (A:TR g xs (os.map a.eval)) (d:oH P g w s)
  (hl:lim<=s.n) {next:Act->World->Prop} {Q:Exit->Act->World->Prop} (b:∀V g' w',VR g' out.v V->oH P g' w' (out.apply s)->tC lim g g' w w'->s.n<=(out.apply s).n->next (a.put o.dst V) w'):
  o.wpIn (FW r) n P a w next Q:=by
 have hn:g.ι s.n=none:=by
  cases h:g.ι s.n with
  |none=>rfl
  |some l=>have:=d.dom s.n (by rw[h];simp);omega
 obtain⟨V,nx,g',w',m,t,hv,y,z,u,f⟩:=vU a.eval o x A hd d.H d.W hn hl
 have e:oH P g' w' (out.apply s):=by
  have q:∀id ao,look (out.apply s).h id=some ao->out.after (look s.h) s.n id=some ao:=by
   intro id ao h;cases c:out.up with
   |none=>
    cases hw:out.new with
    |none=>simpa[Out.apply,Out.after,Out.base,c,hw]using h
    |some ob=>
     simp only[Out.apply,c,hw,look]at h;simp only[Out.after,Out.base,c,hw];split at h
     .grind
     .grind
   |some p=>
    obtain⟨i,ob'⟩:=p
    have h2:∀id ao,look (upd s.h i ob') id=some ao->(if id=i then some ob' else look s.h id)=some ao:=by
     intro id ao h;rw[look_upd]at h;split at h
     .grind
     .grind
    cases hw:out.new with
    |none=>
     simp only[Out.apply,c,hw]at h;simpa only[Out.after,Out.base,c,hw]using h2 id ao h
    |some ob=>
     simp only[Out.apply,c,hw,look]at h;simp only[Out.after,Out.base,c,hw];split at h
     .grind
     .grind
  refine⟨fun id ao h=>y id ao (q id ao h),z,fun id h=>?_,?_⟩
  .rcases f id h with h1|⟨rfl,h2⟩
   .have:=d.dom id h1
    simp only[Out.apply];split
    .simp only;omega
    .exact this
   .simp only[Out.apply]
    split
    .simp
    .grind
  .have c:Wf (match out.up with|some (id,ob)=>upd s.h id ob|none=>s.h) s.n:=by
    split
    .exact d.wf.upd _ _
    .exact d.wf
   simp only[Out.apply];split
   .exact ⟨by simp,c⟩
   .exact c
 have j:s.n<=(out.apply s).n:=by
  simp only[Out.apply];split
  .simp
  .exact bI3 _
 refine⟨fun _ _=>trivial,?_⟩;rw[rU _ (xI x),m];rcases t with rfl|⟨rfl,rfl⟩
 .exact b V g' w' hv e u j
 .exact b undef g' w' hv e u j
def qD {o:Op} {ty:TypeId} {os:aA Operand} {k:hZ} (h:kP P o ty=some (k,os)) (hk:k=.callV\/∃f,k=.callF f):
  ∃c d,o=.call c/\c.callee=.value d/\((∃f,k=.callF f/\d=.func f/\os=c.args.toList)\/(k=.callV/\os=d::c.args.toList)):=by
 have e:∀b a ty,kX P b a ty≠some .callV/\∀f,kX P b a ty≠some (.callF f):=by
  intro b a ty;constructor
  .intro h
   unfold kX at h;split at h<;>(repeat' split at h)<;>cases h
  .intro f h
   unfold kX at h;split at h<;>(repeat' split at h)<;>cases h
 cases o
 case call c=>
  simp only[kP]at h;split at h
  .grind
  .grind
  .rename_i b hc
   simp only[bH3,cC3]at h;obtain⟨k',h1,rfl,rfl⟩:=h;rcases hk with rfl|⟨f,rfl⟩
   .grind
   .grind
  .cases h
 all_goals (rcases hk with rfl|⟨f,rfl⟩<;>exfalso<;>simp only[kP]at h<;>(repeat' split at h)<;>simp_all)
def uN (p:kN P T) {o:Oper} {c:Call} {j:Operand} {f:FuncId} {first cap:Array Value} {a:Act} {ifn:IFn} (k:o.op=.call c) (hc:c.callee=.value j) (q:a.eval j=.func (.func f) first cap) (g:T f=some ifn)
  {R:Ending->World->Prop} (b:CallsIn (FW none) (n-1) P f (first++c.args.map a.eval++cap) w R) {next:Act->World->Prop} {Q:Exit->Act->World->Prop} (m:∀e w',R e w'->∃V,e=.returned V/\next (a.put o.dst V) w'):
  o.wpIn (FW r) n P a w next Q:=by
 obtain⟨fn,hf,i⟩:=p.fns f ifn g;obtain⟨⟨s,hb⟩,d⟩:=Bg i;obtain⟨callee,args,l⟩:=c;simp only at hc;subst hc;refine⟨fun _ _=>trivial,?_⟩;rw[rU _ (fun c h=>by rw[k]at h;cases h),Yk k q hf hb d];refine⟨fun h=>(by cases h),CallsIn.mono (Ef b) ?_⟩;intro e w' he;obtain⟨V,rfl,h⟩:=m e w' he;exact h
def Kq (u:qL P ex) (K:kN P T) {o:Oper} {k:hZ} {os:aA Operand} {xs:aA AV} {v:AV} {s s':Hp} {a:Act} (L:(kP P o.op o.type).getD (.fail,[])=(k,os)) (h:step T ex lim k xs s=some (v,s'))
  (E:TR g xs (os.map a.eval)) (J:oH P g w s) (hl:lim<=s.n) {next:Act->World->Prop} {Q:Exit->Act->World->Prop}
  (m:∀V g' w',VR g' v V->oH P g' w' s'->tC lim g g' w w'->s.n<=s'.n->next (a.put o.dst V) w'):o.wpIn (FW r) n P a w next Q:=by
 cases hco:kP P o.op o.type with
 |none=>
  rw[hco]at L;cases L;simp only[step,zL]at h;cases h
 |some p=>
  rw[hco]at L;cases L
  have plain:∀out,doOp (look s.h) lim s.n k xs=some out->(out.v,out.apply s)=(v,s')->o.wpIn (FW r) n P a w next Q:=by
   intro out hd he;cases he;exact cU1 hco hd E J hl m
  unfold step at h;split at h
  .rename_i f
   obtain⟨c,N,h1,h2,O⟩:=qD hco (.inr ⟨f,rfl⟩);rcases O with⟨f',B,Z,S⟩|⟨B,_⟩
   .cases B
    subst Z
    have d:∃ifn,T f=some ifn:=by
     unfold callF at h;split at h
     .cases h
     .grind
    obtain⟨ifn,d⟩:=d;have j:TR g xs (#[]++c.args.map a.eval++#[]).toList:=by rw[S]at E;simpa using E
    exact uN K h1 h2 rfl d (xD u K h j J hl) (fun e w' he=>by
     obtain⟨V,g',rfl,z,G,H,A⟩:=he;exact⟨V,rfl,m V g' w' z G H A⟩)
   .cases B
  .obtain ⟨c,N,h1,h2,O⟩:=qD hco (.inl rfl)
   rcases O with⟨f',B,_⟩|⟨_,S⟩
   .cases B
   .subst S
    split at h
    .rename_i fa args
     have t:=E.head;have j:=E.tail;unfold callV at h;split at h
     .rename_i f first cap
      generalize hV:a.eval N=V at t;cases t with
      |@fn _ _ _ _ F C l1 l2 v1 v2=>
       have d:∃ifn,T f=some ifn:=by
        unfold callF at h;split at h
        .cases h
        .grind
       obtain⟨ifn,d⟩:=d;have hF:TR g first F.toList:=⟨by simpa using l1,fun i x y W hy=>v1 i x y W (by simpa using hy)⟩
       have hC:TR g cap C.toList:=⟨by simpa using l2,fun i x y W hy=>v2 i x y W (by simpa using hy)⟩
       have D:TR g (first++args++cap) (F++c.args.map a.eval++C).toList:=by
        have:=(hF.app j).app hC;simpa using this
       exact uN K h1 h2 hV d (xD u K h D J hl) (fun e w' he=>by
        obtain⟨V,g',rfl,z,G,H,A⟩:=he;exact⟨V,rfl,m V g' w' z G H A⟩)
     .rename_i l
      generalize hV:a.eval N=V at t;cases t with
      |@yield _ _ b loc hi hp=>
       have q:TR g args (c.args.map a.eval).toList:=by simpa using j
       obtain⟨loc',R,z,G,H,A,X⟩:=cT1 u h q J hl;rw[hi]at z;cases z;have U:=hp G;subst U;obtain⟨callee,M,Y⟩:=c;simp only at h2 A X;subst h2;refine⟨fun _ _=>trivial,?_⟩;rw[rU _ (fun c h=>by rw[h1]at h;cases h),Yl h1 hV H (by simpa using A)];refine⟨fun h=>(by cases h),RoundIn.mono (X r (n-1)) ?_⟩;rintro e w' ⟨V,g',rfl,q1,q2,q3,q4⟩;exact m V g' w' q1 q2 q3 q4
     .cases h
    .cases h
  .grind
def sM1 {a:Act} {t:aA AV} {i:Nat} {v:AV} (b:TR g t a.tmps.toList) (hv:t[i]? =some v):i<a.tmps.size:=by
 have h1:t.length=a.tmps.size:=by simpa using b.1
 have h2:=(bG3.1 hv).1;omega
def Kr {a:Act} {t:aA AV} {x:Operand} {j:IX} {v:AV} (e:TR g t a.tmps.toList) (b:Hk x=some j) (hv:j.ev t=some v):VR g v (a.eval x):=by
 cases x with
 |tmp i=>
  simp only[Hk,bL3]at b;subst b;simp only[IX.ev]at hv;have d:i<a.tmps.size:=sM1 e hv;have:a.eval (.tmp i)=a.tmps[i]:=by simp[Act.eval,d]
  rw[this];exact e.2 i v _ hv (by simp[d])
 |const c=>
  simp only[Hk,bH3]at b;obtain⟨k,h1,rfl⟩:=b;simp only[IX.ev,bL3]at hv;subst hv;show VR g k c
  unfold AV.ofValue at h1;split at h1;rename_i cs;split at h1;rename_i hc;cases h1
  refine .agg (by simp) (fun i y hy=>nM (bJ3.1 hc y (by
   rw[<-dK3]at hy;exact bX3.2 ⟨i,hy⟩))) (fun i x y b hy=>?_)
  rw[<-dK3]at hy;simp only[cT3,hy,cE3,bL3]at b;subst b;exact .v (bJ3.1 hc y (bX3.2 ⟨i,hy⟩));cases h1;rename_i cs;split at h1;rename_i hc;cases h1;have:cs=#[]:=by grind
  subst this;exact .tup (by simp) (fun i x y b=>by simp at b);cases h1;split at h1;rename_i hc;cases h1;exact .v hc;cases h1
 |global g=>simp[Hk]at b
 |func f=>
  simp only[Hk,bL3]at b;subst b;simp only[IX.ev,bL3]at hv;subst hv;exact .fn (by simp) (by simp) (fun i x y h=>by simp at h) (fun i x y h=>by simp at h)
def tH {a:Act} {t:aA AV} (c:TR g t a.tmps.toList):∀{os:aA Operand} {b:aA IX} {xs:aA AV},Mz os=some b->evs t b=some xs->TR g xs (os.map a.eval)
 |[],b,xs,h,hx=>by
  simp only[Mz,mapO,bL3]at h
  subst h
  simp only[evs,bL3]at hx
  subst hx
  exact .nil g
 |o::os,b,xs,h,hx=>by
  simp only[Mz,mapO]at h
  split at h
  rename_i f dK h1 h2
  cases h
  simp only[evs]at hx
  split at hx
  rename_i v vs d e
  cases hx
  exact .cons (Kr c h1 d) (tH c h2 e)
  cases hx
  cases h
def Si {a:Act} {t:aA AV} (b:TR g t a.tmps.toList) {v:AV} {V:Value} (hv:VR g v V) (d:aB Nat):TR g (put t d v) (a.put d V).tmps.toList:=by
 cases d with
 |none=>exact b
 |some i=>simpa[put,Act.put]using b.set hv i
def qN {ops:aA Oper} {o:Oper} {io:Sim.Op1} (h:mM P ops o=some io):
    ∃os,(kP P o.op o.type).getD (.fail,[])=(io.k,os)/\Mz os=some io.xs/\io.dst=o.dst/\
      (match o.guard with
       |none=>io.guard=none
       |some (j,b)=>∃a d,ops[j]? =some a/\a.dst=some d/\io.guard=some (d,b)):=by
  unfold mM at h;generalize hc:(kP P o.op o.type).getD (.fail,[])=kx at h;obtain⟨k,xs⟩:=kx;simp only at h;split at h;cases h
  grind
def Vb:Value->aB Bool
 |.bool b=>some b
 |_=>none
def cV1:AV->aB Bool
 |.v x=>Vb x
 |_=>none
def VR.boolCell {x:AV} {X:Value} (h:VR g x X):Vb X=cV1 x:=by
 cases h<;>rfl
def Io {a:Act} {t:aA AV} (f:TR g t a.tmps.toList) {ops:Array Oper} {o:Oper} {io:Sim.Op1} (h:mM P ops.toList o=some io):Region.wanted o (yielded ops a.tmps)=Sim.wanted t io.guard:=by
 obtain⟨os,h1,h2,q,c⟩:=qN h;unfold Region.wanted;cases hg:o.guard with
 |none=>rw[hg]at c;simp only at c;rw[c];rfl
 |some p=>
  obtain⟨j,b⟩:=p;rw[hg]at c;obtain⟨n,d,k,l,m⟩:=c;rw[m];simp only[Sim.wanted,yielded];have:ops[j]? =some n:=by simpa using k
  rw[this];simp only[bE3,l];cases hx:t[d]? with
  |none=>
   have:a.tmps[d]? =none:=by
    have h1:t.length=a.tmps.size:=by simpa using f.1
    rw[List.getElem?_eq_none_iff]at hx;simp;omega
   rw[this];rfl
  |some x=>
   have e:d<a.tmps.size:=sM1 f hx;have i:a.tmps[d]? =some a.tmps[d]:=by simp[e]
   have hv:=f.2 d x a.tmps[d] hx (by simp[e]);rw[i];have hb:=hv.boolCell;generalize a.tmps[d]=X at hb;revert hb;cases x with
   |v y=>cases X<;>cases y<;>simp[cV1,Vb]<;>(intro h;subst h;rfl)
   |_=>cases X<;>simp[cV1,Vb]
def zR (f:qL P ex) (u:kN P T) {ops:Array Oper} {base:Nat} {Q:Exit->Act->World->Prop}:
  ∀(dK:aA Oper) (ios:aA Sim.Op1) (k:Nat) (σ l:St) (g:Gh) (w:World) (a:Act),mapO (mM P ops.toList) dK=some ios->(∀j,dK[j]? =ops[k+j]?)->runOps T ex lim ios σ=some l->
   TR g σ.t a.tmps.toList->oH P g w σ.s->lim<=σ.s.n->kF base g w a.defers->
   (∀g' a' w',Be P base lim g w σ.s l.t l.s g' a' w'->Q .normal a' w')->wpOpsIn (FW r) n P ops Q (List.range' k dK.length) a w
 |[],ios,k,σ,l,g,w,a,hc,hops,h,ht,hI,hl,hm,hQ=>by
  simp only[mapO,bL3]at hc
  subst hc
  simp only[runOps,bL3]at h
  subst h
  exact hQ g a w ⟨ht,hI,.refl lim g w,bI3 _,hm⟩
 |o::dK,ios,k,σ,l,g,w,a,hc,hops,h,ht,hI,hl,hm,hQ=>by
  simp only[mapO]at hc
  split at hc
  rename_i io e hio d
  cases hc
  have h0:ops[k]? =some o:=by simpa using(hops 0).symm
  have c:∀j,dK[j]? =ops[(k+1)+j]? :=fun j=>by have:=hops (j+1);simpa[cW3,dS3 1 j]using this
  simp only[cM3,List.range'_succ,wpOpsIn,h0]
  rw[Io ht hio]
  obtain⟨os,c1,c2,c3,c4⟩:=qN hio
  simp only[runOps]at h
  split at h
  rename_i hw
  rw[bK3 hw]
  split at h
  rename_i xs y
  split at h
  rename_i v s x
  refine Kq f u c1 x (tH ht c2 y) hI hl (fun V g' w' C D z B=>?_)
  have b:=Si (ht.mono z.le) C io.dst
  rw[c3]at b
  have i:kF base g' w' (a.put o.dst V).defers:=by
   have:(a.put o.dst V).defers=a.defers:=by cases o.dst<;>rfl
   rw[this];exact hm.ext z
  refine zR f u dK e (k+1) _ l g' w' (a.put o.dst V) d c h (by rw[c3];exact b) D (cH3 hl B) i (fun q p A m=>?_);exact hQ q p A ⟨m.t,m.inv,z.trans m.ext,cH3 B m.n,m.marks⟩;cases h;cases h;rename_i hw;rw[bM3 hw];refine⟨fun _ _=>trivial,?_⟩;have b:=Si ht (.undef g) io.dst;rw[c3]at b
  have i:kF base g w (a.put o.dst undef).defers:=by
   have:(a.put o.dst undef).defers=a.defers:=by cases o.dst<;>rfl
   rw[this];exact hm
  exact zR f u dK e (k+1) _ l g w (a.put o.dst undef) d c h (by rw[c3];exact b) hI hl i hQ;cases hc
end
end Go.Sim
namespace Go.Sim
structure kZ (s s':Hp):Prop where
 wf:Wf s.h s.n->Wf s'.h s'.n
 n:s.n<=s'.n
def kZ.refl (s:Hp):kZ s s:=⟨id,bI3 _⟩
def kZ.trans {a b c:Hp} (h:kZ a b) (k:kZ b c):kZ a c:=⟨fun w=>k.wf (h.wf w),cH3 h.n k.n⟩
def Nw (out:Out) (s:Hp):kZ s (out.apply s):=by
 constructor;intro hw
 have a:Wf (match out.up with|some (id,ob)=>upd s.h id ob|none=>s.h) s.n:=by
  split;exact hw.upd _ _;exact hw
 simp only[Out.apply];split;exact⟨by simp,a⟩;exact a;simp only[Out.apply];split;simp;exact bI3 _
def Ip (s:Hp) (id:Nat) (o:AO):kZ s {h:=upd s.h id o,n:=s.n}:=⟨fun h=>h.upd _ _,bI3 _⟩
section
variable {T:lI} {ex:Nat->Bool->IC->St->Option (Ex×St)}
def rV (ex:Nat->Bool->IC->St->aB (Ex×St)):Prop:=∀lim rd c σ e a,ex lim rd c σ=some (e,a)->kZ σ.s a.s
def Sj (b:rV ex) {lim:Nat} {fn:IFn} {args:aA AV} {s s':Hp} {v:AV} (h:body ex lim fn args s=some (v,s')):kZ s s':=by
 unfold body at h;split at h;cases h;rename_i e σ a he;simp only[bH3,cC3]at h;obtain⟨v',_,_,rfl⟩:=h;exact b _ _ _ _ _ _ he;cases h
def tJ (a:rV ex) {lim:Nat} {f:FuncId} {args:aA AV} {s s':Hp} {v:AV} (h:callF T ex lim f args s=some (v,s')):kZ s s':=by
 unfold callF at h;split at h;cases h;split at h;split at h;simp only[bH3,cC3]at h;obtain⟨_,_,_,rfl⟩:=h;exact .refl _;split at h;split at h;split at h;split at h;cases h;exact .refl _;cases h;cases h;cases h;split at h;simp only[bH3,cC3]at h;obtain⟨_,_,_,rfl⟩:=h;exact .refl _;cases h;exact Sj a h
def tK {l:Nat} {s s':Hp} {st:LoopState} {pend:aB IC} (h:endRound l s st pend=some s'):kZ s s':=by
 obtain⟨_,_,_,_,_,_,_,rfl⟩:=qM h;exact Ip _ _ _
def Nx (d:rV ex) {lim l:Nat} {args:aA AV} {s s':Hp} {v:AV} (h:round ex lim l args s=some (v,s')):kZ s s':=by
 unfold Sim.round at h;split at h;split at h;split at h;rename_i σ f;have h1:=d _ _ _ _ _ _ f;split at h
 have fin:∀{e:Ex} {τ:St} {id:Nat} {o:AO} {lim:Nat} {rd:Bool} {c:IC} {st:LoopState} {pend:aB IC} {b:AV},ex lim rd c {t:=σ.t,s:={h:=upd σ.s.h id o,n:=σ.s.n}}=some (e,τ)->
   (endRound l τ.s st pend).map (fun s=>(b,s))=some (v,s')->kZ s s':=by
  intro e τ id o lim rd c st pend b hb a;simp only[bH3,cC3]at a;obtain⟨g,a,_,rfl⟩:=a;exact((h1.trans (Ip _ id o)).trans (d _ _ _ _ _ _ hb)).trans (tK a)
 split at h
 grind
 grind
 grind
 cases h;cases h;cases h;cases h;cases h
def pB (a:rV ex) {lim:Nat} {k:hZ} {xs:aA AV} {s s':Hp} {v:AV} (h:step T ex lim k xs s=some (v,s')):kZ s s':=by
 unfold step at h;split at h;exact tJ a h;split at h;unfold callV at h;split at h;exact tJ a h;exact Nx a h;cases h;cases h;split at h;cases h;exact Nw _ _;cases h
def rW (c:rV ex) {lim:Nat}:∀{os:aA Sim.Op1} {σ a:St},runOps T ex lim os σ=some a->kZ σ.s a.s
 |[],σ,a,h=>by
  simp only[runOps,bL3]at h
  subst h
  exact .refl _
 |o::os,σ,a,h=>by
  simp only[runOps]at h
  split at h
  split at h
  split at h
  rename_i b
  exact(pB c b).trans (rW c h)
  cases h
  cases h
  have:=rW c h
  exact this
def Bh {b:Bool} {run:Hp->aB (AV×Hp)} (hr:∀s v s',run s=some (v,s')->kZ s s') {hid:aA Nat} {xs:aA AV} {s s1:Hp} {v:AV} {W:aA Nat} (h:callX b run hid xs s=some (v,s1,W)):kZ s s1:=by
 obtain⟨a,s',w,_,h1,h2,rfl,_⟩:=rT h;have hg:=hr _ _ _ h1;exact⟨fun hw=>Wf.newOK (hw.updAll w) (hg.wf (hw.hide a)) hg.n,hg.n⟩
def lS (c:rV ex) {lim:Nat} {before:aA Nat}:∀{os:aA Sim.Op1} {j:Nat} {fs:aA Foot} {σ d:St} {a:aA Foot},fX T ex lim before os j fs σ=some (d,a)->kZ σ.s d.s
 |[],j,fs,σ,d,a,h=>by
  simp only[fX,bL3,cC3]at h
  obtain⟨rfl,_⟩:=h
  exact .refl _
 |o::os,j,fs,σ,d,a,h=>by
  simp only[fX]at h
  split at h
  split at h
  split at h
  split at h
  have:=lS c h
  exact this
  cases h
  split at h
  split at h
  rename_i b
  exact(Bh (fun _ _ _=>pB c) b).trans (lS c h)
  cases h
  split at h
  rename_i b
  exact(pB c b).trans (lS c h)
  cases h
  cases h
  have:=lS c h
  exact this
def Iq {σ:Hp}:kZ σ {h:=popMark σ.h,n:=σ.n}:=⟨fun h=>h.pop,bI3 _⟩
def Eo {σ:Hp}:kZ σ {h:=.mark::σ.h,n:=σ.n}:=⟨fun h=>h,bI3 _⟩
def Ep (T:lI):∀d,rV (exec T d)
 |0,_,_,_,_,_,_,h=>by simp[exec]at h
 |d+1,lim,rd,c,σ,e,σ',h=>by
  have ih:=Ep T d
  unfold exec at h
  split at h
  cases h;exact .refl _
  simp only[bH3,cC3]at h
  obtain⟨τ,h,_,rfl⟩:=h
  exact rW ih h
  split at h
  rename_i hf
  split at h
  cases h
  exact lS ih hf
  cases h
  cases h
  split at h
  rename_i a
  exact(ih _ _ _ _ _ _ a).trans (ih _ _ _ _ _ _ h)
  exact ih _ _ _ _ _ _ h
  split at h
  exact ih _ _ _ _ _ _ h
  cases h
  split at h
  rename_i a
  split at h
  cases h;exact ih _ _ _ _ _ _ a
  cases h;exact ih _ _ _ _ _ _ a
  exact ih _ _ _ _ _ _ h
  split at h
  rename_i a
  exact((Eo.trans (ih _ _ _ _ _ _ a)).trans Iq).trans (ih _ _ _ _ _ _ h)
  rename_i a
  cases h
  exact(Eo.trans (ih _ _ _ _ _ _ a)).trans Iq
  cases h
  split at h
  split at h
  rename_i hc
  have h1:=tJ ih hc
  have h2:∀o:AO,kZ σ.s {h:=.ob σ.s.n o::σ.s.h,n:=σ.s.n+1}:=fun o=>⟨fun h=>⟨by simp,h⟩,by simp⟩
  have f:=(h2 _).trans h1
  split at h
  split at h
  cases h
  split at h
  cases h
  rename_i b
  have g:=f.trans (tK b)
  split at h<;>cases h<;>exact g
  cases h
  cases h
  cases h
  cases h;exact .refl _
  cases h;exact .refl _
end
end Go.Sim
namespace Go.Sim
section
variable {P:Program} {F:Fence} {n:Nat} {b:Frame} {a:Act} {k:List Item} {cs:List Frame} {w:World} {Q:Exit->Act->World->Prop}
def mC {c:Code}:Go.step P (lone (b.atR a (.code (.scope c)::k)) cs w)=.next (lone (b.atR a (.code c::.inScope c::k)) cs w):=
 step_lone_go (by simp[stepG,stepG.exec,Frame.atR])
def Hq {c:Code}:Go.step P (lone (b.atR a (.inScope c::k)) cs w)=.next (lone (b.atR a k) cs w):=
 step_lone_go (by simp[stepG,stepG.exec,Frame.atR])
def Sl {c:Code} (hg:∀l a w,¬Q (.goto l) a w) (h:c.wpIn F n P Q a w):(Code.scope c).wpIn F n P Q a w:=by
 intro b k cs j hb hr;have h0:(lone (b.atR a (.code (.scope c)::k)) cs w).fenced P F:=fenced_calm hb hr rfl;obtain⟨e,g,w₁,f,d⟩:=h b (.inScope c::k) cs j hb hr;cases e with
 |normal=>exact⟨.normal,g,w₁,f,.head h0 mC (StepsIn.trans d (.one (fenced_calm hb hr rfl) Hq))⟩
 |exit id=>
  have m:exitTo id (.inScope c::k)=exitTo id k:=by simp[exitTo]
  exact⟨.exit id,g,w₁,f,fun k' hk=>.head h0 mC (d.1 k' (by rw[m];exact hk)),
   fun i hk=>let⟨o,h1,h2⟩:=d.2 i (by rw[m];exact hk);⟨o,h1,.head h0 mC h2⟩⟩
 |goto l=>exact(hg _ _ _ f).elim
 |ret=>exact⟨_,g,w₁,f,.of_steps (.one h0 mC) d⟩
 |panic ch=>exact⟨_,g,w₁,f,.of_steps (.one h0 mC) d⟩
 |outgrown=>exact⟨_,g,w₁,f,.of_steps (.one h0 mC) d⟩
end
end Go.Sim
namespace Go.Sim
section
variable {T:lI} {L L':Nat->Option AO} {lim n n':Nat} {k:hZ} {xs:List AV} {out:Out}
def mO {esz:Nat} {x:AV} {r:aA (aA AV)} (h:rowsOf L esz x=some r) (a:∀id ao,id∈idOf x->L id=some ao->L' id=some ao):rowsOf L' esz x=some r:=by
 unfold rowsOf at h;split at h;simpa only[rowsOf]using h;simpa only[rowsOf]using h;simpa only[rowsOf]using h;simpa only[rowsOf]using h;split at h;rename_i hl;simp only[rowsOf,a _ _ (by simp[idOf]) hl];exact h;cases h;cases h
def Ks {x:AV} {r:aA (AV×AV)} (h:entsOf L x=some r) (a:∀id ao,id∈idOf x->L id=some ao->L' id=some ao):entsOf L' x=some r:=by
 unfold entsOf at h;split at h;exact h;split at h;rename_i hl;simp only[entsOf,a _ _ (by simp[idOf]) hl];exact h;cases h;exact h;cases h
def Er {ty:TypeId} {esz:Nat} {s:AV} {new:aA (aA AV)} {o:Out} (h:appendTo L lim n ty esz s new=some o) (a:∀id ao,id∈idOf s->L id=some ao->L' id=some ao):appendTo L' lim n ty esz s new=some o:=by
 unfold appendTo at h;split at h;simpa only[appendTo]using h;simpa only[appendTo]using h;simpa only[appendTo]using h;split at h;rename_i hl;simp only[appendTo,a _ _ (by simp[idOf]) hl];exact h;cases h;cases h
def Hr {esz:Nat} {lo hi mx:Bool} {x:AV} {g:aA AV} {v:AV} (h:sliceOp L esz lo hi mx (x::g)=some v) (k:∀id ao,id∈idOf x->L id=some ao->L' id=some ao):sliceOp L' esz lo hi mx (x::g)=some v:=by
 have key:∀(L:Nat->aB AO),(∀a b c d e f,x≠.sl a b c d e f)->sliceOp L esz lo hi mx (x::g)=sliceOp L' esz lo hi mx (x::g):=by
  intro L j;cases x<;>first|rfl|exact absurd rfl (j _ _ _ _ _ _)|(rename_i y;cases y<;>first|rfl|(rename_i a b c;cases a<;>cases b<;>cases c<;>rfl))
 by_cases j:∃a b c d e f,x=.sl a b c d e f;obtain⟨z,id,ver,off,len,cap,rfl⟩:=j;cases hl:L id with
 |none=>
  exfalso;simp only[sliceOp,hl]at h;split at h<;>cases h
 |some ao=>
  have i:=k id ao (by simp[idOf]) hl;simp only[sliceOp,hl]at h;simp only[sliceOp,i];exact h
 grind
def Ym {ty:TypeId} {esz b:Nat} {zero:aA Value} {zeros:Bool} {s x:AV} (h:doOp L lim n (.append ty esz b zero zeros) [s,x]=some out) (e:∀id ao,id∈idOf x->L id=some ao->L' id=some ao) (hs:∀id ao,id∈idOf s->L id=some ao->L' id=some ao):
  doOp L' lim n (.append ty esz b zero zeros) [s,x]=some out:=by
 simp only[doOp]at h ⊢;split at h;rename_i new a
 have c:appRows L' esz zeros zero x=some new:=by
  cases zeros;simp only[appRows,bQ3,cR3]at a ⊢;exact mO a e;simp only[appRows,cF3]at a ⊢;exact a
 split at h;rename_i o d;simp only[c,Er d hs];exact h;cases h;cases h
def Sm (h:doOp L lim n k xs=some out) (a:∀id ao,id∈(foot T k xs).rd\/id∈(foot T k xs).wr->L id=some ao->L' id=some ao):doOp L' lim n k xs=some out:=by
 unfold doOp at h;split at h
 all_goals first|(simp only[doOp];exact h)|skip
 ·
  split at h
  .simpa only[doOp]using h
  .split at h
   .rename_i hl
    simp only[doOp,a _ _ (.inl (by simp[foot,idOf])) hl];exact h
   .cases h
  .cases h
 ·
  split at h
  .simpa only[doOp]using h
  .split at h
   .rename_i hl
    simp only[doOp,a _ _ (.inl (by simp[foot,idOf])) hl];exact h
   .cases h
  .cases h
 ·
  split at h
  .rename_i hc
   split at h
   .rename_i hl
    simp only[doOp,hc,a _ _ (.inr (by simp[foot,idOf])) hl];exact h
   .cases h
  .cases h
 ·
  split at h
  .rename_i hr
   simp only[doOp,mO hr (fun id ao hid=>a id ao (.inl hid))];exact h
  .cases h
 ·
  rename_i x;simp only[bH3]at h;obtain⟨v,hv,rfl⟩:=h;cases xs with
  |nil=>simp[sliceOp]at hv
  |cons x bs=>simp only[doOp,Hr hv (fun id ao hid=>a id ao (.inl hid)),cE3]
 ·
  split at h
  .rename_i b
   split at h
   .rename_i es he
    simp only[doOp,b,cF3,Ks he (fun id ao hid=>a id ao (.inl hid))];exact h
   .cases h
  .cases h
 ·
  split at h
  .split at h
   .rename_i hl
    simp only[doOp,a _ _ (.inr (by simp[foot,idOf])) hl];exact h
   .cases h
  .cases h
 ·
  split at h
  all_goals first|(simp only[doOp];exact h)|skip
  .split at h
   .rename_i hl
    simp only[doOp,a _ _ (.inl (by simp[foot,idOf])) hl];exact h
   .cases h
 .exact Ym h (fun id ao hid=>a id ao (.inl hid)) (fun id ao hid=>a id ao (.inr hid))
 ·
  split at h
  .rename_i rows hr
   split at h
   .simp only[doOp,mO hr (fun id ao hid=>a id ao (.inl hid))]
    exact h
   .simp only[doOp,mO hr (fun id ao hid=>a id ao (.inl hid))]
    exact h
   .split at h
    .rename_i hl
     simp only[doOp,mO hr (fun id ao hid=>a id ao (.inl hid)),a _ _ (.inr (by simp[foot,idOf])) hl];exact h
    .cases h
   .cases h
  .cases h
 ·
  split at h
  .simpa only[doOp]using h
  .simpa only[doOp]using h
  .split at h
   .rename_i hl
    simp only[doOp,a _ _ (.inr (by simp[foot,idOf])) hl];exact h
   .cases h
  .cases h
def Ny {ty:TypeId} {esz:Nat} {s:AV} {new:aA (aA AV)} {o:Out} {id:Nat} {ao:AO} (h:appendTo L lim n ty esz s new=some o) (a:o.up=some (id,ao)):id∈idOf s/\(L id).isSome=true:=by
 unfold appendTo at h;split at h
 .grind
 .grind
 .grind
 .split at h
  .rename_i hl
   repeat' split at h
   all_goals cases h
   all_goals cases a
   all_goals exact⟨by simp[idOf],by rw[hl];rfl⟩
  .cases h
 .cases h
def Sn {ty:TypeId} {esz:Nat} {s:AV} {new:aA (aA AV)} {o:Out} (h:appendTo L lim n ty esz s new=some o) (a:o.new=none):appendTo L lim n' ty esz s new=some o:=by
 unfold appendTo at h;split at h;split at h;rename_i hc;cases h;simp only[appendTo,hc,cF3];cases h;cases a;split at h;rename_i hc;cases h;simp only[appendTo,hc,cF3];cases h;cases a;simpa only[appendTo]using h;split at h;rename_i hl;simp only[appendTo,hl];split at h
 grind
 cases h;cases h;cases h
def Vc {ty:TypeId} {esz b:Nat} {zero:aA Value} {zeros:Bool} {s x:AV} (h:doOp L lim n (.append ty esz b zero zeros) [s,x]=some out):
  ∃new,appRows L esz zeros zero x=some new/\appendTo L lim n ty esz s new=some out/\∀n',appendTo L lim n' ty esz s new=some out->doOp L lim n' (.append ty esz b zero zeros) [s,x]=some out:=by
 simp only[doOp]at h;split at h;rename_i new a;split at h;rename_i o c;have:o=out:=by grind
 subst this;refine⟨new,a,c,fun n' h'=>?_⟩;simp only[doOp,a,h'];exact h;cases h;cases h
def xJ {id:Nat} {ao:AO} (h:doOp L lim n k xs=some out) (c:out.up=some (id,ao)):id∈(foot T k xs).wr/\(L id).isSome=true:=by
 have a:∀ty esz b zero zeros s x,k=.append ty esz b zero zeros->xs=[s,x]->id∈(foot T k xs).wr/\(L id).isSome=true:=by
  rintro ty esz b zero zeros s x rfl rfl;obtain⟨new,h1,h2,_⟩:=Vc h;exact Ny h2 c
 unfold doOp at h;split at h
 all_goals first|exact a _ _ _ _ _ _ _ rfl rfl|skip
 all_goals clear a
 all_goals (repeat' split at h)
 all_goals first
  |(cases h;done)
  |(simp only[bH3]at h;obtain⟨_,_,rfl⟩:=h;cases c;done)
  |(cases h;cases c;done)
  |(have hl:= ‹L _=some _›;cases h;cases c;exact⟨by simp[foot,idOf],by rw[hl];rfl⟩)
def vB1 (h:doOp L lim n k xs=some out) (c:out.new=none):doOp L lim n' k xs=some out:=by
 have a:∀ty esz b zero zeros s x,k=.append ty esz b zero zeros->xs=[s,x]->doOp L lim n' k xs=some out:=by
  rintro ty esz b zero zeros s x rfl rfl;obtain⟨new,h1,h2,d⟩:=Vc h;exact d n' (Sn h2 c)
 unfold doOp at h;split at h
 all_goals first|exact a _ _ _ _ _ _ _ rfl rfl|skip
 all_goals clear a
 all_goals first|(simp only[doOp];exact h)|skip
 all_goals (repeat' split at h)
 all_goals first
  |(cases h;done)
  |(simp only[bH3]at h;obtain⟨_,_,rfl⟩:=h;cases c;done)
  |(cases h;cases c;done)
end
end Go.Sim
namespace Go.Sim
def vY {a:aA Nat} {i:Nat}:∀{es:aA Edge},(qI a es).testBit i=true->∃e∈es,Region.binds .any e=true/\(i=e.on\/(a.getD e.on 0).testBit i=true)
 |[],h=>by simp[qI]at h
 |e::es,h=>by
  simp only[qI]at h
  split at h
  rename_i hb
  simp only[Nat.testBit_or,bZ3]at h
  rcases h with(h|h)|h
  grind
  grind
  obtain⟨e',h1,h2⟩:=vY h
  exact⟨e',by simp[h1],h2⟩
  obtain⟨e',h1,h2⟩:=vY h
  exact⟨e',by simp[h1],h2⟩
def tL:∀(os:aA Oper) (a:aA Nat),∃tail,dN a os=a++tail/\tail.length=os.length/\
  ∀k o,os[k]? =some o->(dN a os).getD (a.length+k) 0=qI ((dN a os).take (a.length+k)) o.after.toList
 |[],a=>⟨[],by simp[dN],rfl,fun k o h=>by simp at h⟩
 |o::os,a=>by
  obtain⟨tail,h1,h2,b⟩:=tL os (a++[qI a o.after.toList])
  refine⟨qI a o.after.toList::tail,by simp[dN,h1],by simp[h2],fun k o' hk=>?_⟩
  cases k with
  |zero=>
   simp only[dB3,bL3]at hk
   subst hk
   simp only[dN,h1,dN3]
   simp
  |succ k=>
   have:=b k o' (by simpa using hk)
   have e:(a++[qI a o.after.toList]).length+k=a.length+(k+1):=by simp;omega
   rw[e]at this
   exact this
def tM {ops:aA Oper} (a:∀j o,ops[j]? =some o->∀e∈o.after.toList,Region.binds .any e=true->e.on<j) {D:Nat->Prop}
  (q:∀i oi,D i->ops[i]? =some oi->∀e∈oi.after.toList,Region.binds .any e=true->D e.on):∀(j:Nat) (o:Oper),ops[j]? =some o->(∀e∈o.after.toList,Region.binds .any e=true->D e.on)->
   ∀i,((dN [] ops).getD j 0).testBit i=true->D i:=by
 intro j
 induction j using Nat.strongRecOn with
 |_ j ih=>
  intro o k he i hi;obtain⟨tail,h1,h2,m⟩:=tL ops [];have l:=m j o k;simp only[bU3,dC3]at l;rw[l]at hi;obtain⟨e,f,g,c⟩:=vY hi;rcases c with rfl|c;exact he e f g;have h:=a j o k e f g;have r:j<ops.length:=(bG3.1 k).1;have n:((dN [] ops).take j).getD e.on 0=(dN [] ops).getD e.on 0:=by grind
  rw[n]at c;have b:ops[e.on]? =some ops[e.on]:=by simp
  exact ih e.on h _ b (fun e' p d=>q e.on _ (he e f g) b e' p d) i c
def Bi {j:Nat} {o:Sim.Op1} {a:Nat}:∀{ps:aA Sim.Op1} {b:Nat},Kh j o a ps b=true->∀k p,ps[k]? =some p->b+k<j->
  a.testBit (b+k)=true\/((∀d,p.dst=some d->o.dst≠some d/\d∉o.reads)/\∀d,o.dst=some d->d∉p.reads)
 |[],b,h,k,p,hk,_=>by simp at hk
 |q::ps,b,h,k,p,hk,hlt=>by
  simp only[Kh,bF3,bZ3,bN3]at h
  obtain⟨h1,h2⟩:=h
  cases k with
  |zero=>
   simp only[dB3,bL3]at hk
   subst hk
   rw[dN3]at hlt ⊢
   rcases h1 with(h1|h1)|h1
   omega
   exact .inl h1
   grind
  |succ k=>
   have:=Bi h2 k p (by simpa using hk) (by omega)
   have e:b+1+k=b+(k+1):=by omega
   rwa [e]at this
def jD (ft:Nat->Foot):Nat->aA Foot
 |0=>[]
 |j+1=>ft j::jD ft j
def pC {ft ft':Nat->Foot}:∀{j:Nat},(∀i,i<j->ft i=ft' i)->jD ft j=jD ft' j
 |0,_=>rfl
 |j+1,h=>by rw[jD,jD,h j (by omega),pC (fun i hi=>h i (by omega))]
def Nz {ft:Nat->Foot} {i:Nat}:∀{j:Nat},i<j->ft i∈jD ft j
 |0,h=>by omega
 |j+1,h=>by
  rw[jD]
  by_cases e:i=j
  subst e;simp
  exact cY3 _ (Nz (by omega))
def revF_length (ft:Nat->Foot):∀j,(jD ft j).length=j
 |0=>rfl
 |j+1=>by simp[jD,revF_length ft j]
section
variable (T:lI) (ex:Nat->Bool->IC->St->Option (Ex×St))
def Stp (lim a m j:Nat) (o:Sim.Op1) (ft:Nat->Foot) (st:Nat->St) (v:Nat->AV):Prop:=
  (st (j+1)).t=put (st j).t o.dst (v j)/\
  ((wanted (st j).t o.guard=false/\v j=.undef/\ft j={}/\(st (j+1)).s=(st j).s)\/
   (wanted (st j).t o.guard=true/\∃xs,evs (st j).t o.xs=some xs/\(foot T o.k xs).all=1/\ft j=foot T o.k xs/\(st (j+1)).s=(st j).s/\
     ∃b,step T ex lim o.k xs {h:=hide (unseen a j (jD ft j)) (st j).s.h,n:=(st j).s.n+rsv (m-j)}=some (v j,b))\/
   (wanted (st j).t o.guard=true/\∃xs,evs (st j).t o.xs=some xs/\((foot T o.k xs).all≠1/\(foot T o.k xs).all≠3)/\ft j={foot T o.k xs with al:=List.range' (st j).s.n ((st (j+1)).s.n-(st j).s.n)}/\
     step T ex lim o.k xs (st j).s=some (v j,(st (j+1)).s))\/
   (wanted (st j).t o.guard=true/\∃xs W,evs (st j).t o.xs=some xs/\(foot T o.k xs).all=3/\ft j={wr:=W,al:=List.range' (st j).s.n ((st (j+1)).s.n-(st j).s.n),all:=1,x:=true}/\
     callX (nbF (jD ft j)) (step T ex lim o.k xs) (unseen a j (jD ft j)) xs (st j).s=some (v j,(st (j+1)).s,W)))
variable {T ex}
def Stp.congr {lim a m j:Nat} {o:Sim.Op1} {ft ft':Nat->Foot} {st st':Nat->St} {v v':Nat->AV} (h:Stp T ex lim a m j o ft st v) (hf:∀i,i<=j->ft' i=ft i) (h1:st' j=st j) (h2:st' (j+1)=st (j+1)) (b:v' j=v j):
  Stp T ex lim a m j o ft' st' v':=by
 unfold Stp at *;rw[h1,h2,b,hf j (bI3 _),pC (ft:=ft') (ft':=ft) (j:=j) (fun i hi=>hf i (by omega))];exact h
def Oa {lim:Nat} {before:aA Nat}:∀(os:aA Sim.Op1) (j:Nat) (σ:St) (a:Nat->Foot) (n:St) (b:aA Foot),fX T ex lim before os j (jD a j) σ=some (n,b)->
  ∃(st:Nat->St) (ft:Nat->Foot) (v:Nat->AV),(∀i,i<j->ft i=a i)/\st j=σ/\st (j+os.length)=n/\b=jD ft (j+os.length)/\
   ∀k o,os[k]? =some o->Stp T ex lim (before.getD (j+k) 0) (j+os.length) (j+k) o ft st v
 |[],j,σ,a,n,b,h=>by
  simp only[fX,bL3,cC3]at h
  obtain⟨rfl,rfl⟩:=h
  exact⟨fun _=>σ,a,fun _=>.undef,fun _ _=>rfl,rfl,rfl,rfl,fun k o h=>by simp at h⟩
 |o::os,j,σ,a,n,b,h=>by
  have dK:∀(s:St) (f:Foot) (x:AV),fX T ex lim before os (j+1) (f::jD a j) s=some (n,b)->
    (∀(st:Nat->St) (ft:Nat->Foot) (v:Nat->AV),st j=σ->st (j+1)=s->ft j=f->(∀i,i<j->ft i=a i)->v j=x->Stp T ex lim (before.getD j 0) (j+(os.length+1)) j o ft st v)->
    ∃(st:Nat->St) (ft:Nat->Foot) (v:Nat->AV),(∀i,i<j->ft i=a i)/\st j=σ/\st (j+(o::os).length)=n/\b=jD ft (j+(o::os).length)/\
     ∀k o',(o::os)[k]? =some o'->Stp T ex lim (before.getD (j+k) 0) (j+(o::os).length) (j+k) o' ft st v:=by
   intro s f x hr hs;let l:Nat->Foot:=fun i=>if i=j then f else a i
   have r:f::jD a j=jD l (j+1):=by
    have h1:l j=f:=bK3 rfl;rw[jD,h1,pC (ft:=l) (ft':=a) (fun i hi=>bM3 (by omega))]
   rw[r]at hr;obtain⟨st,ft,v,h1,h2,z,w,y⟩:=Oa os (j+1) s l n b hr;have p:∀i,i<j->ft i=a i:=fun i hi=>(h1 i (by omega)).trans (bM3 (by omega));have q:ft j=f:=(h1 j (by omega)).trans (bK3 rfl);have hlen:j+(o::os).length=j+1+os.length:=by simp;omega
   refine⟨fun i=>if i=j then σ else st i,ft,fun i=>if i=j then x else v i,p,bK3 rfl,?_,?_,?_⟩
   grind
   rw[hlen];exact w;intro k o' hk;cases k with
   |zero=>
    simp only[dB3,bL3]at hk;subst hk;exact hs _ ft _ (bK3 rfl) ((bM3 (by omega)).trans h2) q p (bK3 rfl)
   |succ k=>
    have u:=y k o' (by simpa using hk);have e:j+1+k=j+(k+1):=by omega
    rw[e,<-hlen]at u;exact u.congr (fun _ _=>rfl) (bM3 (by omega)) (bM3 (by omega)) (bM3 (by omega))
  simp only[fX]at h;split at h;rename_i hw;split at h;rename_i xs m;split at h;rename_i d;split at h;rename_i v t g;refine dK _ _ v h (fun st ft v' a1 a2 a3 a4 a5=>?_);unfold Stp;rw[a1,a2,a5,a3,pC a4];refine⟨rfl,.inr (.inl ⟨hw,xs,m,d,rfl,rfl,t,?_⟩)⟩;have e:j+(os.length+1)-j=os.length+1:=by omega
  rw[e];exact g;cases h;rename_i d;split at h;rename_i c;split at h;rename_i v t W g;refine dK _ _ v h (fun st ft v' a1 a2 a3 a4 a5=>?_);unfold Stp;rw[a1,a2,a5,a3,pC a4];exact⟨rfl,.inr (.inr (.inr ⟨hw,xs,W,m,c,rfl,g⟩))⟩;cases h;rename_i c;split at h;rename_i v t g;refine dK _ _ v h (fun st ft v' a1 a2 a3 a4 a5=>?_);unfold Stp;rw[a1,a2,a5,a3];exact⟨rfl,.inr (.inr (.inl ⟨hw,xs,m,⟨d,c⟩,rfl,g⟩))⟩;cases h;cases h;rename_i hw;refine dK _ _ .undef h (fun st ft v' a1 a2 a3 a4 a5=>?_);unfold Stp;rw[a1,a2,a5,a3];exact⟨rfl,.inl ⟨by simpa using hw,rfl,rfl,rfl⟩⟩
def tN {a:Nat} {f:Foot} {ft:Nat->Foot}:∀{j:Nat},drawOK.okAgainst a f (jD ft j) j=true->∀i,i<j->a.testBit i=true\/compat (ft i) f=true
 |0,_,i,hi=>by omega
 |j+1,h,i,hi=>by
  simp only[jD,drawOK.okAgainst,eI3,bF3,bZ3]at h
  by_cases e:i=j
  subst e;exact h.1
  exact tN h.2 i (by omega)
def Bj {before:aA Nat} {ft:Nat->Foot}:∀{m:Nat},drawOK before (jD ft m) m=true->∀j,j<m->∀i,i<j->(before.getD j 0).testBit i=true\/compat (ft i) (ft j)=true
 |0,_,j,hj=>by omega
 |m+1,h,j,hj=>by
  simp only[jD,drawOK,eI3,bF3]at h
  intro i hi
  by_cases e:j=m
  subst e;exact tN h.1 i hi
  exact Bj h.2 j (by omega) i hi
end
end Go.Sim
namespace Go.Sim
section
variable {P:Program} {T:lI} {lim n:Nat} {g:Gh} {w:World} {r:Option Nat}
def So (P:Program) (T:lI) (ex:Nat->Bool->IC->St->aB (Ex×St)):Prop:=
 ∀(lim:Nat) (ops:Array Oper) (ios:aA Sim.Op1) (σ b:St) (fs:aA Foot) (id:Nat),mapO (mM P ops.toList) ops.toList=some ios->bQ1 ops.toList ios (dN [] ops.toList)=true->
  fX T ex lim (dN [] ops.toList) ios 0 [] σ=some (b,fs)->drawOK (dN [] ops.toList) fs fs.length=true->
  ∀(r:aB Nat) (g:Gh) (a:Act) (w:World) (n base:Nat),TR g σ.t a.tmps.toList->oH P g w σ.s->lim<=σ.s.n->base<=w.heap.size->kF base g w a.defers->
   (Code.region id ops true).wpIn (FW r) n P (Eg P base lim g w σ.s .normal b) a w
def Be.trans {base:Nat} {s s' c:Hp} {t e:aA AV} {g' b:Gh} {a' a:Act} {w' d:World} (h:Be P base lim g w s t s' g' a' w') (k:Be P base lim g' w' s' e c b a d):
  Be P base lim g w s e c b a d:=⟨k.t,k.inv,h.ext.trans k.ext,cH3 h.n k.n,k.marks⟩
def oH.pop {s:Hp} (h:oH P g w s):oH P g w {h:=popMark s.h,n:=s.n}:=
 ⟨fun id ao a=>h.H id ao (Nt h.wf a),h.W,h.dom,h.wf.pop⟩
def oH.mark {s:Hp} (h:oH P g w s):oH P g w {h:=.mark::s.h,n:=s.n}:=⟨h.H,h.W,h.dom,h.wf⟩
def Ir {base:Nat} {s s':Hp} {t:aA AV} {g':Gh} {e:Ex} {d:St} {e':Exit} {a' a:Act} {w' b:World} (f:Be P base lim g w s t s' g' a' w') (h:Eg P base lim g' w' s' e d e' a b):Eg P base lim g w s e d e' a b:=by
 obtain⟨h1,c,h2⟩:=h;exact⟨h1,c,f.trans h2⟩
def aM {D:Nat} (c:∀d,d<D->qL P (exec T d)) {x:Code} {f:IC} (l:comp P x=some f) {rd:Bool} {r:aB Nat} (hr:rd=r.isSome) {e:Ex} {m:St}:
  ∀(d:Nat),d<=D->∀(σ:St) (g:Gh) (a:Act) (w:World) (n base:Nat) (Q:Exit->Act->World->Prop),exec T d lim rd (.loop f) σ=some (e,m)->qA r w->TR g σ.t a.tmps.toList->oH P g w σ.s->lim<=σ.s.n->base<=w.heap.size->kF base g w a.defers->
   (∀e' a' w',Eg P base lim g w σ.s e m e' a' w'->Q e' a' w')->Code.roundsIn (FW r) n P x Q d a w
 |0,_,σ,g,a,w,n,base,Q,h,_,_,_,_,_,_,_=>by simp[exec]at h
 |d+1,hd,σ,g,a,w,n,base,Q,h,hra,ht,hI,hl,hb,hm,hQ=>by
  simp only[exec]at h
  rw[roundsIn_succ]
  split at h
  rename_i τ j
  refine wpIn_mono (c d (by omega) lim rd f _ .normal τ j x l r hr g a w n base hra ht hI.mark hl hb hm) ?_
  rintro o a1 w1 ⟨rfl,i,b⟩
  refine aM c l hr d (by omega) _ i a1 w1 n base Q h (hra.ext b.ext) b.t b.inv.pop (cH3 hl b.n) (cH3 hb b.ext.size) b.marks ?_
  intro e2 a2 w2 h2
  exact hQ _ _ _ (Ir (s':={h:=popMark τ.s.h,n:=τ.s.n}) ⟨b.t,b.inv.pop,b.ext,b.n,b.marks⟩ h2)
  rename_i p τ k j
  cases h
  refine wpIn_mono (c d (by omega) lim rd f _ e τ j x l r hr g a w n base hra ht hI.mark hl hb hm) ?_
  rintro o a1 w1 ⟨rfl,i,b⟩
  cases e with
  |normal=>exact(k rfl).elim
  |ret=>exact hQ _ _ _ ⟨rfl,i,b.t,b.inv.pop,b.ext,b.n,b.marks⟩
  |exit id=>exact hQ _ _ _ ⟨rfl,i,b.t,b.inv.pop,b.ext,b.n,b.marks⟩
  cases h
def oH.other {s:Hp} (a:oH P g w s) (o:Obj):oH P g (w.alloc o) s/\tC lim g g w (w.alloc o):=by
 have c:∀b o',g.G b=some o'->b<w.heap.size:=fun b o' h=>(cG3.1 (a.W.still b o' h)).1
 refine⟨⟨fun id ao d=>(a.H id ao d).mono (.refl g) rfl (fun loc hl=>eI w o (a.W.lt id loc hl)),⟨fun b o' h=>?_,fun id loc h=>?_,a.W.out,a.W.inj⟩,a.dom,a.wf⟩,
  ⟨.refl g,by simp,fun b hb _=>eI w o hb,fun id loc h=>.inl ⟨loc,h,rfl⟩,fun _ _=>rfl,rfl,rfl,rfl,fun _ _ h=>.inl h,fun b R h=>⟨R,(eI w o (cG3.1 h).1).trans h⟩⟩⟩
 rw[eI w o (c b o' h)];exact a.W.still b o' h;have:=a.W.lt id loc h;simp;omega
def kF.fresh {base:Nat}:∀{a:aA Deferred},kF base g w a->∀d∈a,d.target≠.collected w.heap.size
 |[],_,d,hd=>by simp at hd
 |d0::a,⟨⟨r,h1,h2,h3,_,_,_⟩,h7⟩,d,hd=>by
  rcases bR3.1 hd with rfl|hd
  grind
  exact kF.fresh h7 d hd
def Oc {b:Nat} {R:Loop} (hb:w.heap[b]? =some (.loop R)) (hr:R.state≠.busy):(Instr.endLoop b).run P w=.ok R.pending {w with heap:=w.heap.setIfInBounds b (.loop {R with state:=.exhausted})}:=by
 simp[Instr.endLoop,nW hb,tG hb,hr]
def vC1:aB IC->aB Ex
 |none=>some .normal
 |some .ret=>some .ret
 |some (.exit id)=>some (.exit id)
 |_=>none
def Es {ex:Nat->Bool->IC->St->aB (Ex×St)} (b9:qL P ex) (hT:kN P T) {f:Operand} {of:IX} {ps:Array Tmp} {x y:Code} {cx cy:IC} (hf:Hk f=some of) (Z:comp P x=some cx) (hy:comp P y=some cy)
  {σ:St} {K:FuncId} {first cap:aA AV} (b8:of.ev σ.t=some (.fn (.func K) first cap)) {v:AV} {s:Hp}
  (c:callF T ex lim K (first++[.fn (.yield σ.s.n) [] []]++cap) {h:=.ob σ.s.n (.loop .ready none σ.t ps.toList cx cy)::σ.s.h,n:=σ.s.n+1}=some (v,s))
  {st:LoopState} {pend:aB IC} {tm:aA AV} {pm:aA Nat} {as bd:IC} (hL:look s.h σ.s.n=some (.loop st pend tm pm as bd)) (d4:st≠.busy) {s':Hp} (U:endRound σ.s.n s .exhausted pend=some s')
  {e:Ex} (he:vC1 pend=some e)
  {a:Act} {base:Nat} (ht:TR g σ.t a.tmps.toList) (hI:oH P g w σ.s) (hl:lim<=σ.s.n) {w1:World} {mark:aA Deferred} {D:Nat} (z:oH P g w1 σ.s) (u:tC lim g g w w1) (Y:kF base g w1 (mark++a.defers))
  (m:∀d,(Instr.enterLoop d a.tmps ps x y (FW r).round).run P w=.ok (w1.heap.size,mark) (w1.alloc (.loop {state:=.ready,pending:=none,fn:=d,tmps:=a.tmps,params:=ps,assign:=x,body:=y,defers:=D}))):
  (Code.rangeFunc f ps x y).wpIn (FW r) n P (Eg P base lim g w σ.s e {t:=σ.t,s:=s'}) a w:=by
 refine wpIn_rangeFunc (fun d _=>?_);have X:=Kr ht hf b8;generalize hV:a.eval f=V at X;cases X with
 |@fn _ _ _ _ F C l1 l2 v1 v2=>
  have k:∃ifn,T K=some ifn:=by
   unfold callF at c;split at c;cases c
   grind
  obtain⟨ifn,k⟩:=k;obtain⟨fn,d0,b7⟩:=hT.fns K ifn k;obtain⟨⟨cd,B⟩,J⟩:=Bg b7;have o:¬fn.name= "runtime.NumGoroutine":=by simpa using J
  let R:Loop:={state:=.ready,pending:=none,fn:=d,tmps:=a.tmps,params:=ps,assign:=x,body:=y,defers:=D}
  let w2:=w1.alloc (.loop R)
  have hn:g.ι σ.s.n=none:=by
   cases h:g.ι σ.s.n with
   |none=>rfl
   |some l=>have:=hI.dom σ.s.n (by rw[h];simp);omega
  let loc:Hl:={b:=w1.heap.size,esz:=1,ct:=1,ver:=0}
  obtain⟨j,b6⟩:=Uv (lim:=lim) z.W (.loop R) σ.s.n loc rfl hn hl;let g2:Gh:={G:=g.G,ι:=fun id=>if id=σ.s.n then some loc else g.ι id}
  have E:g2.ι σ.s.n=some loc:=bK3 rfl
  have b4:oH P g2 w2 {h:=.ob σ.s.n (.loop .ready none σ.t ps.toList cx cy)::σ.s.h,n:=σ.s.n+1}:=by
   refine⟨fun id ao ha=>?_,b6,fun id h=>?_,⟨by simp,hI.wf⟩⟩;simp only[look]at ha;split at ha;rename_i e;subst e;cases ha;refine⟨loc,R,E,rfl,?_,rfl,rfl,ht.mono (u.le.trans j.le),by simp[R],Z,hy⟩;show w2.heap[w1.heap.size]? =_
   exact heap_alloc_new w1 _;rename_i e;refine(z.H id ao ha).mono j.le ?_ (fun l hl=>eI w1 _ (z.W.lt id l hl));show(if id=σ.s.n then some loc else g.ι id)=g.ι id
   rw[bM3 (fun h=>e h.symm)];show id<σ.s.n+1
   by_cases e:id=σ.s.n;omega
   have h:g.ι id≠none:=by
    have:g2.ι id=g.ι id:=bM3 e
    rwa [this]at h
   have:=hI.dom id h;omega
  have hF:TR g first F.toList:=⟨by simpa using l1,fun i x y Z hy=>v1 i x y Z (by simpa using hy)⟩
  have hC:TR g cap C.toList:=⟨by simpa using l2,fun i x y Z hy=>v2 i x y Z (by simpa using hy)⟩
  have q:g.le g2:=u.le.trans j.le
  have A:TR g2 (first++[.fn (.yield σ.s.n) [] []]++cap) (F++#[Value.func (.yield w1.heap.size) #[] #[]]++C).toList:=by
   have:=((hF.mono q).app (.cons (VR.yield (l:=σ.s.n) (b:=w1.heap.size) E (fun _=>rfl)) (.nil g2))).app (hC.mono q);simpa using this
  have d3:kF base g2 w2 (mark++a.defers):=Y.ext j;refine⟨w1.heap.size,mark,w2,{target:=.fn (.func K) C,args:=F++#[Value.func (.yield w1.heap.size) #[] #[]]},w2,K,F++#[Value.func (.yield w1.heap.size) #[] #[]]++C,w2,m d,?_,fun _ _=>trivial,?_,fun h=>(by cases h),?_⟩;have S:a.eval (.const (.func (.yield w1.heap.size) #[] #[]))=.func (.yield w1.heap.size) #[] #[]:=rfl;simp[resolve,rangeCall,hV,Deferred.ofValue,S];simp[invoke,callFunc,d0,o,B];refine CallsIn.mono (Ef (xD b9 hT c A b4 (by show lim<=σ.s.n+1;omega))) ?_;rintro e' w' ⟨V',M,rfl,k1,k2,k3,k4⟩;obtain⟨b0,R3,m1,m2,m3,m4,m5,m6,m7,m8,m9⟩:=tF k2 hL
  have d2:b0=loc:=by
   obtain⟨loc',q1,q2,q3⟩:=k3.le.ι σ.s.n loc E;rw[m1]at q1;cases q1;exact q3 m2.symm
  subst d2;obtain⟨_,_,_,_,_,_,O,rfl⟩:=qM U;rw[hL]at O;cases O;obtain⟨b5,N⟩:=Em (lim:=lim) (st':=.exhausted) (pend':=pend) (R':={R3 with state:=.exhausted}) k2 hL hl m1 m3 rfl m5 rfl rfl rfl rfl;refine⟨_,_,Oc m3 (by rw[m4];exact d4),?_⟩;have p:tC lim g M w {w' with heap:=w'.heap.setIfInBounds loc.b (.loop {R3 with state:=.exhausted})}:=((u.trans j).trans k3).trans N
  have L:Be P base lim g w σ.s σ.t {h:=upd s.h σ.s.n (.loop .exhausted pend tm pm as bd),n:=s.n} M {a with defers:=mark++a.defers} {w' with heap:=w'.heap.setIfInBounds loc.b (.loop {R3 with state:=.exhausted})}:=
   ⟨ht.mono p.le,b5,p,by have:σ.s.n+1<=s.n:=k4;show σ.s.n<=s.n;omega,(d3.ext k3).ext N⟩
  unfold vC1 at he;split at he;cases he;have:R3.pending=none:=m5;rw[this]at L ⊢;exact⟨rfl,M,L⟩;cases he;have:R3.pending=some .ret:=m5;rw[this]at L ⊢;exact wpIn_ret ⟨rfl,M,L⟩;cases he;have:R3.pending=some (.exit _):=m5;rw[this]at L ⊢;exact wpIn_exit ⟨rfl,M,L⟩;cases he
def Et {ex:Nat->Bool->IC->St->aB (Ex×St)} (m:qL P ex) (K:kN P T) {f:Operand} {of:IX} {ps:Array Tmp} {x y:Code} {E F:IC} (hf:Hk f=some of) (M:comp P x=some E) (hy:comp P y=some F)
  {σ:St} {H:FuncId} {first cap:aA AV} (k:of.ev σ.t=some (.fn (.func H) first cap)) {v:AV} {s:Hp}
  (c:callF T ex lim H (first++[.fn (.yield σ.s.n) [] []]++cap) {h:=.ob σ.s.n (.loop .ready none σ.t ps.toList E F)::σ.s.h,n:=σ.s.n+1}=some (v,s))
  {st:LoopState} {pend:aB IC} {R:aA AV} {O:aA Nat} {as N:IC} (J:look s.h σ.s.n=some (.loop st pend R O as N)) (p:st≠.busy) {s':Hp} (d:endRound σ.s.n s .exhausted pend=some s')
  {e:Ex} (he:vC1 pend=some e)
  {a:Act} {base:Nat} (C:qA r w) (L:TR g σ.t a.tmps.toList) (i:oH P g w σ.s) (hl:lim<=σ.s.n) (hb:base<=w.heap.size) (A:kF base g w a.defers):
  (Code.rangeFunc f ps x y).wpIn (FW r) n P (Eg P base lim g w σ.s e {t:=σ.t,s:=s'}) a w:=by
 cases r with
 |none=>
  obtain⟨u,j⟩:=i.other (lim:=lim) (.deferred (some []))
  have B:kF base g (w.alloc (.deferred (some []))) ([{target:=.collected w.heap.size,args:=#[]}]++a.defers):=by
   refine⟨⟨w.heap.size,rfl,hb,heap_alloc_new w _,fun id l h=>?_,?_,A.fresh⟩,A.ext j⟩;have:=i.W.lt id l h;omega;cases hG:g.G w.heap.size with
   |none=>rfl
   |some o=>
    have:=(cG3.1 (i.W.still _ o hG)).1;omega
  refine Es (D:=w.heap.size) m K hf M hy k c J p d he L i hl u j B (fun q=>?_);simp only[FW,Instr.enterLoop];simp[newObj,Sem.run]
 |some b=>
  obtain⟨R0,z⟩:=C b rfl;refine Es (w1:=w) (mark:=[]) (D:=R0.defers) m K hf M hy k c J p d he L i hl i (.refl lim g w) A (fun q=>?_);simp only[FW,Instr.enterLoop];simp[nW z,newObj];simp[Sem.run]
def Oe (K:kN P T) (Y:∀d,qL P (exec T d)->So P T (exec T d)):∀D d,d<D->qL P (exec T d)
 |0,d,h=>by omega
 |D+1,d,hdD=>by
  have z:=Oe K Y D
  by_cases W:d<D
  exact z d W
  have V:d=D:=by omega
  subst V
  cases d with
  |zero=>exact fun lim rd c σ e F h=>by simp[exec]at h
  |succ d=>
  have ih:=z d (by omega)
  intro lim rd c σ e F h code hc r hr g a w n base b j m hl hb o
  cases code with
  |skip=>
   simp only[comp,bL3]at hc
   subst hc
   simp only[exec,bL3,cC3]at h
   obtain⟨rfl,rfl⟩:=h
   exact wpIn_skip ⟨rfl,g,j,m,.refl lim g w,bI3 _,o⟩
  |region id ops dr=>
   simp only[comp]at hc
   split at hc
   cases hc
   rename_i ios G
   split at hc
   rename_i A
   split at hc
   rename_i O
   cases hc
   subst A
   simp only[exec]at h
   split at h
   rename_i τ fs hf
   split at h
   rename_i M
   cases h
   exact Y d ih lim ops ios σ F fs id G O hf M r g a w n base j m hl hb o
   cases h
   cases h
   cases hc
   rename_i A
   cases hc
   have A:dr=false:=by simpa using A
   subst A
   simp only[exec,bH3,cC3]at h
   obtain⟨τ,h,rfl,rfl⟩:=h
   refine wpIn_region ?_
   rw[List.range_eq_range',<-eY3]
   exact zR ih K ops.toList ios 0 σ τ g w a G (by simp) h j m hl o (fun g' a' w' k=>⟨rfl,g',k⟩)
  |seq x y=>
   simp only[comp]at hc
   split at hc
   rename_i u R p hy
   cases hc
   simp only[exec]at h
   refine wpIn_seq ?_
   split at h
   rename_i τ L
   refine wpIn_mono (ih lim rd u σ .normal τ L x p r hr g a w n base b j m hl hb o) ?_
   rintro S a1 w1 ⟨rfl,E,k⟩
   refine wpIn_mono (ih lim rd R τ e F h y hy r hr E a1 w1 n base (b.ext k.ext) k.t k.inv (cH3 hl k.n) (cH3 hb k.ext.size) k.marks) ?_
   intro e2 a2 w2 h2
   exact Ir k h2
   rename_i H
   refine wpIn_mono (ih lim rd u σ e F h x p r hr g a w n base b j m hl hb o) ?_
   rintro S a1 w1 ⟨rfl,E,k⟩
   cases e with
   |normal=>exact absurd h (H _)
   |ret=>exact⟨rfl,E,k⟩
   |exit id=>exact⟨rfl,E,k⟩
   cases hc
  |cond c x y=>
   simp only[comp]at hc
   split at hc
   rename_i oc u R N p hy
   cases hc
   simp only[exec]at h
   split at h
   rename_i t C
   have hv:=(Kr j N C).bool
   refine wpIn_cond hv ?_
   cases t
   exact ih lim rd R σ e F h y hy r hr g a w n base b j m hl hb o
   exact ih lim rd u σ e F h x p r hr g a w n base b j m hl hb o
   cases h
   cases hc
  |block id x=>
   simp only[comp,bH3]at hc
   obtain⟨u,p,rfl⟩:=hc
   simp only[exec]at h
   refine wpIn_block ?_
   split at h
   rename_i i τ L
   refine wpIn_mono (ih lim rd u σ (.exit i) τ L x p r hr g a w n base b j m hl hb o) ?_
   rintro S a1 w1 ⟨rfl,E,k⟩
   simp only[Ex.toExit,Exit.inBlock]
   split at h
   rename_i hi
   cases h
   rw[bK3 hi]
   exact⟨rfl,E,k⟩
   rename_i hi
   cases h
   rw[bM3 hi]
   exact⟨rfl,E,k⟩
   rename_i H
   refine wpIn_mono (ih lim rd u σ e F h x p r hr g a w n base b j m hl hb o) ?_
   rintro S a1 w1 ⟨rfl,E,k⟩
   cases e with
   |normal=>exact⟨rfl,E,k⟩
   |ret=>exact⟨rfl,E,k⟩
   |exit id=>exact absurd h (H _ _)
  |loop x=>
   simp only[comp,bH3]at hc
   obtain⟨u,p,rfl⟩:=hc
   exact wpIn_loop_rounds (d+1) (aM (D:=d+1) z p hr (d+1) (bI3 _) σ g a w n base _ h b j m hl hb o (fun _ _ _ h=>h))
  |rangeFunc f ps x y=>
   simp only[comp]at hc
   split at hc
   rename_i of u R N p hy
   cases hc
   simp only[exec]at h
   split at h
   rename_i gf first cap C
   split at h
   rename_i v s q
   split at h
   rename_i st pend tm pm as Z U
   split at h
   cases h
   rename_i J
   split at h
   cases h
   rename_i s' B
   split at h
   cases h
   exact Et ih K N p hy C q U J B rfl b j m hl hb o
   cases h
   exact Et ih K N p hy C q U J B rfl b j m hl hb o
   cases h
   exact Et ih K N p hy C q U J B rfl b j m hl hb o
   cases h
   cases h
   cases h
   cases h
   cases hc
  |exit id=>
   simp only[comp,bL3]at hc
   subst hc
   simp only[exec,bL3,cC3]at h
   obtain⟨rfl,rfl⟩:=h
   exact wpIn_exit ⟨rfl,g,j,m,.refl lim g w,bI3 _,o⟩
  |ret=>
   simp only[comp,bL3]at hc
   subst hc
   simp only[exec,bL3,cC3]at h
   obtain⟨rfl,rfl⟩:=h
   exact wpIn_ret ⟨rfl,g,j,m,.refl lim g w,bI3 _,o⟩
  |scope x=>
   simp only[comp,bH3]at hc
   obtain⟨u,p,rfl⟩:=hc
   simp only[exec]at h
   refine Sl (fun l a w X=>by obtain⟨X,_⟩:=X;cases e<;>cases X) ?_
   split at h
   rename_i τ L
   have:e=.normal/\F=τ:=by
    cases d with
    |zero=>simp[exec]at h
    |succ d=>simp only[exec,bL3,cC3]at h;exact⟨h.1.symm,h.2.symm⟩
   obtain⟨rfl,rfl⟩:=this;exact ih lim rd u σ .normal _ L x p r hr g a w n base b j m hl hb o;exact ih lim rd u σ e F h x p r hr g a w n base b j m hl hb o
  |label l=>
   simp only[comp,bL3]at hc;subst hc;simp only[exec,bL3,cC3]at h;obtain⟨rfl,rfl⟩:=h;exact wpIn_label ⟨rfl,g,j,m,.refl lim g w,bI3 _,o⟩
  |_=>simp[comp]at hc
def kR1 (b:kN P T) (a:∀d,qL P (exec T d)->So P T (exec T d)) (d:Nat):qL P (exec T d):=Oe b a (d+1) d (by omega)
end
end Go.Sim
namespace Go.Sim
def Vd (T:lI) (k:hZ) (xs:aA AV):(foot T k xs).al=[]:=by
 unfold foot;split<;>rfl
def Yn {T:lI} {ex:Nat->Bool->IC->St->aB (Ex×St)} {lim:Nat} {f:FuncId} {fn:IFn} {xs:aA AV} {H:aA iJ} {N:Nat} {v:AV} {a:Hp} (hf:T f=some fn) (hp:fn.pure=true) (c:(fn.frz||xs.all (closed 4))=true)
  (h:callF T ex lim f xs {h:=H,n:=N}=some (v,a)) (N':Nat):∃b,callF T ex lim f xs {h:=H,n:=N'}=some (v,b):=by
 unfold callF at h ⊢;simp only[hf,hp,cF3]at h ⊢;split at h;rename_i hc;rw[bK3 hc];obtain⟨w,h1,h2⟩:=bH3.1 h;cases h2;exact⟨_,by rw[h1];rfl⟩
 grind
def cW1 {T:lI} {ex:Nat->Bool->IC->St->aB (Ex×St)} {lim:Nat} {k:hZ} {xs:aA AV} {H:aA iJ} {N:Nat} {v:AV} {j:Hp} (h:step T ex lim k xs {h:=H,n:=N}=some (v,j)) (e:(foot T k xs).all=1) (d:(foot T k xs).x=true) (N':Nat):
  ∃i,step T ex lim k xs {h:=H,n:=N'}=some (v,i):=by
 have one:∀{f:FuncId} {zs:aA AV},(match T f with|some fn=>fn.pure&&(fn.frz||zs.all (closed 4))|none=>false)=true->callF T ex lim f zs {h:=H,n:=N}=some (v,j)->∃i,callF T ex lim f zs {h:=H,n:=N'}=some (v,i):=fun{f zs} d h=>by
  split at d;rename_i fn hf;simp only[bF3]at d;exact Yn hf d.1 d.2 h N';cases d
 cases k with
 |callF f=>exact one d h
 |callV=>
  cases xs with
  |nil=>simp[foot]at d
  |cons f args=>
   cases f with
   |fn g first cap=>
    cases g with
    |func g=>exact one (zs:=first++args++cap) d h
    |_=>simp[foot]at d
   |_=>simp[foot]at d
 |_=>exfalso;rcases xs with _|⟨a,_|⟨b,_|⟨c,t⟩⟩⟩<;>simp[foot]at e
def xK (T:lI) (k:hZ) (xs:aA AV):(foot T k xs).all<=3/\((foot T k xs).all≠0->(foot T k xs).rd=[]/\(foot T k xs).wr=[]):=by
 unfold foot
 split<;>first
  |exact⟨by simp,fun h=>absurd rfl h⟩
  |(refine⟨?_,fun _=>⟨rfl,rfl⟩⟩;(repeat' split)<;>simp_all)
def uO {T:lI} {k:hZ} {xs:aA AV} (h:(foot T k xs).all=0):(∀f,k≠.callF f)/\k≠.callV:=by
 constructor;rintro f rfl;simp only[foot]at h;split at h
 grind
 cases h;rintro rfl;cases xs with
 |nil=>simp[foot]at h
 |cons x xs=>
  simp only[foot]at h;split at h
  grind
  cases h
def vZ {T:lI} {ex:Nat->Bool->IC->St->aB (Ex×St)} {lim:Nat} {k:hZ} {xs:aA AV} {s s':Hp} {v:AV} (h:step T ex lim k xs s=some (v,s')) (h0:(foot T k xs).all=0):
  ∃out,doOp (look s.h) lim s.n k xs=some out/\v=out.v/\s'=out.apply s:=by
 obtain⟨h1,h2⟩:=uO h0;unfold step at h;split at h
 grind
 exact absurd rfl h2
 grind
def Eu {out:Out} {s:Hp} (a:∀i ob,out.up=some (i,ob)->(look s.h i).isSome=true) (id:Nat):look (out.apply s).h id=out.after (look s.h) s.n id:=by
 have hb:look (match out.up with|some (i,ob)=>upd s.h i ob|none=>s.h) id=out.base (look s.h) id:=by
  unfold Out.base;cases hu:out.up with
  |none=>rfl
  |some p=>
   obtain⟨i,ob⟩:=p;simp only[look_upd];have:=a i ob hu;by_cases e:id=i;subst e;simp[this];simp[e]
 unfold Out.apply Out.after;cases hn:out.new with
 |none=>exact hb
 |some ob=>
  simp only[look];by_cases e:s.n=id
  grind
  grind
def uP (out:Out) (s:Hp):(out.apply s).n=if out.new.isSome then s.n+1 else s.n:=by
 unfold Out.apply;cases out.new<;>rfl
def lT {f:Foot} (h:f.isE=true):f.rd=[]/\f.wr=[]/\f.al=[]/\f.all=0:=by
 simp only[Foot.isE,bF3,List.isEmpty_iff]at h;exact⟨h.1.1.1,h.1.1.2,h.1.2,bV3 h.2⟩
def Kt {f:Foot} {id:Nat} (h:id∈f.rd\/id∈f.wr):f.isE=false:=by
 cases hE:f.isE with
 |false=>rfl
 |true=>obtain⟨a,b,_⟩:=lT hE;rw[a,b]at h;simp at h
def Cl {f:Foot} {id:Nat} (h:id∈f.al):f.isE=false:=by
 cases hE:f.isE with
 |false=>rfl
 |true=>obtain⟨_,_,c,_⟩:=lT hE;rw[c]at h;simp at h
def tO {f:Foot} (h:f.all≠0):f.isE=false:=by
 cases hE:f.isE with
 |false=>rfl
 |true=>exact absurd (lT hE).2.2.2 h
def kS1 {i j:Foot} (h:i.all+j.all<=1\/i.isE=true\/j.isE=true) (a:j.isE=false):i.all<=1:=by
 rcases h with h|h|h;omega;have:=(lT h).2.2.2;omega
 grind
def Is {i j:Foot} (h:i.all+j.all<=1\/i.isE=true\/j.isE=true) (hi:i.isE=false):j.all<=1:=by
 rcases h with h|h|h;omega
 grind
 have:=(lT h).2.2.2;omega
def kI {i j:Foot} (h:compat0 i j=true):compat i j=true:=by simp[compat,h]
def gF {i j:Foot} (h:compat i j=true):(i.all+j.all<=1\/i.isE=true\/j.isE=true)/\(∀x∈i.wr,x∉j.rd/\x∉j.wr)/\(∀x∈j.wr,x∉i.rd)/\(∀x∈i.al,x∉j.rd/\x∉j.wr)/\(i.all=0\/j.wr=[])/\(j.all=0\/i.wr=[]):=by
 simp only[compat,bZ3]at h;rcases h with(h|h)|h;obtain⟨a,b,c,d⟩:=lT h;rw[a,b,c,d];exact⟨.inr (.inl h),fun x e=>by simp at e,fun x _ e=>by simp at e,fun x e=>by simp at e,.inl rfl,.inr rfl⟩;obtain⟨a,b,c,d⟩:=lT h;rw[a,b,d];exact⟨.inr (.inr h),fun x _=>⟨fun e=>by simp at e,fun e=>by simp at e⟩,fun x e=>by simp at e,fun x _=>⟨fun e=>by simp at e,fun e=>by simp at e⟩,.inr rfl,.inl rfl⟩;simp only[compat0,bF3,bN3,bJ3,bW3,bZ3,dU3,List.isEmpty_iff,cS3,cV3]at h;obtain⟨⟨⟨⟨⟨h1,h2⟩,f⟩,g⟩,k⟩,l⟩:=h;exact⟨.inl h1,h2,f,g,k,l⟩
def rX {a:Nat} {ft:Nat->Foot} {id:Nat}:∀{j:Nat},∀i,i<j->a.testBit i=false->id∈(ft i).al->id∈unseen a j (jD ft j)
 |0,i,hi,_,_=>by omega
 |j+1,i,hi,hm,hid=>by
  simp only[jD,unseen,eI3,cL3]
  by_cases e:i=j
  grind
  exact .inr (rX i (by omega) hm hid)
def It {l l':aA AV}:∀{xs:aA IX},(∀t,.t t∈xs->l[t]? =l'[t]?)->evs l xs=evs l' xs
 |[],_=>rfl
 |x::xs,h=>by
  have h1:x.ev l=x.ev l':=by
   cases x with
   |t i=>exact h i (by simp)
   |c v=>rfl
  simp only[evs,h1,It (xs:=xs) (fun t a=>h t (by simp[a]))]
def Ku {l l':aA AV} {a:aB (Nat×Bool)} (h:∀i b,a=some (i,b)->l[i]? =l'[i]?):wanted l a=wanted l' a:=by
 cases a with
 |none=>rfl
 |some p=>
  obtain⟨i,b⟩:=p;simp only[Sim.wanted,h i b rfl]
def Ev (l:aA AV) (d:aB Nat) (v:AV):(put l d v).length=l.length:=by
 cases d<;>simp[put]
def wA {l:aA AV} {d:aB Nat} {v:AV} {t:Nat} (h:d≠some t):(put l d v)[t]? =l[t]? :=by
 cases d with
 |none=>rfl
 |some i=>simp only[put,cA3];rw[bM3 (fun e=>h (by rw[e]))]
def cX1 {l:aA AV} {d a:aB Nat} {v v':AV} (h:∀t,d=some t->a≠some t):put (put l d v) a v'=put (put l a v') d v:=by
 cases d with
 |none=>rfl
 |some i=>
  cases a with
  |none=>rfl
  |some j=>exact List.set_comm _ _ (fun e=>h i rfl (by rw[e]))
structure wT (P:Program) (T:lI) (ex:Nat->Bool->IC->St->Option (Ex×St)) (lim:Nat) (ops:Array Oper) (ios:List Sim.Op1) (st:Nat->St) (ft:Nat->Foot) (v:Nat->AV):Prop where
 comp:mapO (mM P ops.toList) ops.toList=some ios
 back:∀j o,ops.toList[j]? =some o->∀e∈o.after.toList,Region.binds .any e=true->e.on<j
 tmps:∀j o,ios[j]? =some o->∀i p,i<j->ios[i]? =some p->((dN [] ops.toList).getD j 0).testBit i=true\/((∀d,p.dst=some d->o.dst≠some d/\d∉o.reads)/\∀d,o.dst=some d->d∉p.reads)
 step:∀j o,ios[j]? =some o->Stp T ex lim ((dN [] ops.toList).getD j 0) ios.length j o ft st v
 com:∀j,j<ios.length->∀i,i<j->((dN [] ops.toList).getD j 0).testBit i=true\/compat (ft i) (ft j)=true
 gr:rV ex
 wf0:Wf (st 0).s.h (st 0).s.n
def zD (ft:Nat->Foot) (j id:Nat):Bool:=(ft j).all==2||(ft j).wr.contains id||(ft j).al.contains id
def vD1 {ft:Nat->Foot} {j id:Nat} (h:(ft j).isE=true):zD ft j id=false:=by
 obtain⟨_,b,c,d⟩:=lT h;simp[zD,b,c,d]
def kD (st:Nat->St) (ft:Nat->Foot) (S:Nat->Bool):Nat->Nat->aB AO
 |0,id=>look (st 0).s.h id
 |j+1,id=>if S j&&zD ft j id then look (st (j+1)).s.h id else kD st ft S j id
def qT (ios:aA Sim.Op1) (j:Nat):aB Nat:=(ios[j]?).bind (·.dst)
def tl (ios:aA Sim.Op1) (st:Nat->St) (v:Nat->AV) (S:Nat->Bool):Nat->aA AV
 |0=>(st 0).t
 |j+1=>if S j then put (tl ios st v S j) (qT ios j) (v j)else tl ios st v S j
section
variable {P:Program} {T:lI} {ex:Nat->Bool->IC->St->Option (Ex×St)} {lim:Nat} {ops:Array Oper} {ios:List Sim.Op1} {st:Nat->St} {ft:Nat->Foot} {v:Nat->AV}
def wT.get (R:wT P T ex lim ops ios st ft v) {j:Nat} (h:j<ios.length):∃io o,ios[j]? =some io/\ops.toList[j]? =some o/\mM P ops.toList o=some io:=by
 obtain⟨h1,h2⟩:=fO R.comp;obtain⟨o,a,b⟩:=h2 j ios[j] (by simp[h]);exact⟨ios[j],o,by simp[h],a,b⟩
def wT.size (R:wT P T ex lim ops ios st ft v):ios.length=ops.size:=by
 obtain⟨h1,h2⟩:=fO R.comp;simpa using h1
def wT.grows (R:wT P T ex lim ops ios st ft v) {j:Nat} (h:j<ios.length):kZ (st j).s (st (j+1)).s:=by
 obtain⟨io,o,h1,_,_⟩:=R.get h;obtain⟨_,h2⟩:=R.step j io h1;rcases h2 with⟨_,_,_,a⟩|⟨_,xs,_,_,_,a,_⟩|⟨_,xs,_,_,_,a⟩|⟨_,xs,W,_,_,_,a⟩
 rw[a];exact .refl _;rw[a];exact .refl _;exact pB R.gr a;exact Bh (fun _ _ _=>pB R.gr) a
def wT.mono (R:wT P T ex lim ops ios st ft v) {i:Nat}:∀{j:Nat},i<=j->j<=ios.length->(st i).s.n<=(st j).s.n
  | 0, h, _ => by have:i=0:=by omega
                  subst this;exact bI3 _
  |j+1,h,hm=>by
    by_cases e:i=j+1
    grind
    exact cH3 (R.mono (i:=i) (j:=j) (by omega) (by omega)) (R.grows (by omega)).n
def wT.wf (R:wT P T ex lim ops ios st ft v):∀{j:Nat},j<=ios.length->Wf (st j).s.h (st j).s.n
 |0,_=>R.wf0
 |j+1,h=>(R.grows (by omega)).wf (R.wf (by omega))
def wT.al (R:wT P T ex lim ops ios st ft v) {j id:Nat} (h:j<ios.length):id∈(ft j).al↔(st j).s.n<=id/\id<(st (j+1)).s.n:=by
 obtain⟨io,o,h1,_,_⟩:=R.get h;obtain⟨_,h2⟩:=R.step j io h1;rcases h2 with⟨_,_,b,a⟩|⟨_,xs,_,_,b,a,_⟩|⟨_,xs,_,h5,b,a⟩|⟨_,xs,W,_,h5,b,a⟩
 rw[b,a];simp;rw[b,a,Vd];simp
 grind
 grind
def wT.all (R:wT P T ex lim ops ios st ft v) {j:Nat} (h:j<ios.length):(ft j).all<=2:=by
 obtain⟨io,o,h1,_,_⟩:=R.get h;obtain⟨_,h2⟩:=R.step j io h1;rcases h2 with⟨_,_,a,b⟩|⟨_,xs,_,h5,a,b,_⟩|⟨_,xs,_,h5,a,b⟩|⟨_,xs,W,_,h5,a,b⟩
 rw[a];simp;rw[a];omega;rw[a];have:=(xK T io.k xs).1;have:=h5.2;simp only;omega;rw[a];simp
def wT.keep (R:wT P T ex lim ops ios st ft v) {j id:Nat} (h:j<ios.length) (c:zD ft j id=false):look (st (j+1)).s.h id=look (st j).s.h id:=by
 obtain⟨io,o,h1,_,_⟩:=R.get h;obtain⟨_,h2⟩:=R.step j io h1;rcases h2 with⟨_,_,d,b⟩|⟨_,xs,_,_,d,b,_⟩|⟨_,xs,_,h5,d,b⟩|⟨_,xs,W,_,h5,d,b⟩
 rw[b];rw[b];have y:=(xK T io.k xs).1;simp only[zD,dX3,eE3,ne_eq,cS3,cV3]at c;have f:=c.2;rw[R.al h]at f;rw[d]at c;have h0:(foot T io.k xs).all=0:=by grind
 obtain⟨out,m,_,hs⟩:=vZ b h0;rw[hs,Eu (fun i ob g=>(xJ (T:=T) m g).2)];have hn:=uP out (st j).s;rw[<-hs]at hn;unfold Out.after Out.base;cases hnew:out.new with
 |none=>
  simp only;cases g:out.up with
  |none=>rfl
  |some p=>
   obtain⟨i,ob⟩:=p;have:=(xJ (T:=T) m g).1;simp only;rw[bM3 (fun e=>c.1.2 (by rw[e];exact this))]
 |some ob'=>
  rw[hnew]at hn;simp only[eH3,cF3]at hn;simp only;rw[bM3 (by omega)];cases g:out.up with
  |none=>rfl
  |some p=>
   obtain⟨i,ob⟩:=p;have:=(xJ (T:=T) m g).1;simp only;rw[bM3 (fun e=>c.1.2 (by rw[e];exact this))]
 simp only[zD,d,dX3,eE3,ne_eq,cS3,cV3,List.mem_range'_1]at c;obtain⟨⟨_,hw⟩,f⟩:=c;obtain⟨r,s',w,_,z,A,u,x,_⟩:=rT b;have hn:=(R.grows h).n;have q:=R.wf (j:=j+1) (by omega);by_cases hid:id<(st j).s.n;rw[u];simp only;rw[look_newOK_lt hid,tE];rw[<-x];exact hw;have l:(st (j+1)).s.n<=id:=by omega
 have a:∀{h:aA iJ} {n:Nat},Wf h n->n<=id->look h id=none:=fun hw t=>by
  cases hl:look _ id with
  |none=>rfl
  |some o=>have:=hw.lt hl;omega
 rw[a q l,a (R.wf (j:=j) (by omega)) (by omega)]
def Ew (R:wT P T ex lim ops ios st ft v) {S:Nat->Bool} {id:Nat}:∀{j:Nat},j<=ios.length->(∀i,i<j->zD ft i id=true->S i=true)->kD st ft S j id=look (st j).s.h id
 |0,_,_=>rfl
 |j+1,hm,h=>by
  simp only[kD]
  cases ht:zD ft j id with
  |true=>simp[h j (by omega) ht]
  |false=>
   simp only[Bool.and_false,bQ3,cR3]
   rw[Ew R (by omega) (fun i hi=>h i (by omega)),R.keep (by omega) ht]
def Bk {S:Nat->Bool} {id j:Nat}:∀{m:Nat},j<=m->(∀i,j<=i->i<m->S i=true->zD ft i id=false)->kD st ft S m id=kD st ft S j id
  | 0, hj, _ => by have:j=0:=by omega
                   subst this;rfl
  |m+1,hj,h=>by
    by_cases e:j=m+1
    subst e;rfl
    simp only[kD]
    have h1:¬((S m&&zD ft m id)=true):=by grind
    rw[bM3 h1]
    exact Bk (by omega) (fun i hi a=>h i hi (by omega))
def sN1 {S S':Nat->Bool} {id j:Nat} {ao:AO} (a:∀i,j<i->S' i=S i) (h0:kD st ft S' (j+1) id=some ao->kD st ft S (j+1) id=some ao):∀{m:Nat},j<m->kD st ft S' m id=some ao->kD st ft S m id=some ao
 |0,hj,_=>by omega
 |m+1,hj,h=>by
  by_cases e:j=m
  subst e;exact h0 h
  simp only[kD]at h ⊢
  rw[a m (by omega)]at h
  split at h
  grind
  rename_i hc;rw[bM3 hc];exact sN1 a h0 (by omega) h
def Ey {S S':Nat->Bool} {id:Nat}:∀{j:Nat},(∀i,i<j->S' i=S i)->kD st ft S' j id=kD st ft S j id
 |0,_=>rfl
 |j+1,h=>by simp only[kD,h j (by omega),Ey (j:=j) (fun i hi=>h i (by omega))]
def zS (R:wT P T ex lim ops ios st ft v) {S:Nat->Bool}:∀{j:Nat},j<=ios.length->(tl ios st v S j).length=(st j).t.length
 |0,_=>rfl
 |j+1,h=>by
  obtain⟨io,o,h1,_,_⟩:=R.get (j:=j) (by omega)
  rw[(R.step j io h1).1,Ev]
  simp only[tl]
  split
  rw[Ev];exact zS R (by omega)
  exact zS R (by omega)
def tlA (R:wT P T ex lim ops ios st ft v) {S:Nat->Bool} {t:Nat}:∀{j:Nat},j<=ios.length->(∀i,i<j->qT ios i=some t->S i=true)->(tl ios st v S j)[t]? =(st j).t[t]?
 |0,_,_=>rfl
 |j+1,hm,h=>by
  obtain⟨io,o,h1,_,_⟩:=R.get (j:=j) (by omega)
  have a:=(R.step j io h1).1
  have hd:qT ios j=io.dst:=by simp[qT,h1]
  have ih:=tlA R (S:=S) (t:=t) (j:=j) (by omega) (fun i hi=>h i (by omega))
  have hl:=zS R (S:=S) (j:=j) (by omega)
  simp only[tl,a]
  by_cases e:io.dst=some t
  rw[h j (by omega) (hd.trans e)]
  simp only[cF3,hd,e,put,cA3,hl]
  rw[wA e]
  split
  rw[hd,wA e];exact ih
  exact ih
def tlB {S:Nat->Bool} {t j:Nat}:∀{m:Nat},j<=m->(∀i,j<=i->i<m->S i=true->qT ios i≠some t)->(tl ios st v S m)[t]? =(tl ios st v S j)[t]?
  | 0, hj, _ => by have:j=0:=by omega
                   subst this;rfl
  |m+1,hj,h=>by
    by_cases e:j=m+1
    subst e;rfl
    simp only[tl]
    split
    rename_i hs
    rw[wA (h m (by omega) (by omega) hs)]
    exact tlB (by omega) (fun i hi a=>h i hi (by omega))
    exact tlB (by omega) (fun i hi a=>h i hi (by omega))
def Of {S S':Nat->Bool}:∀{j:Nat},(∀i,i<j->S' i=S i)->tl ios st v S' j=tl ios st v S j
 |0,_=>rfl
 |j+1,h=>by simp only[tl,h j (by omega),Of (j:=j) (fun i hi=>h i (by omega))]
def tlC {S S':Nat->Bool} {j:Nat} (b:∀i,i<j->S' i=S i) (a:∀i,j<i->S' i=S i) (h1:S j=false) (h2:S' j=true):∀{m:Nat},j<m->(∀i,j<i->i<m->S i=true->∀t,qT ios j=some t->qT ios i≠some t)->
  tl ios st v S' m=put (tl ios st v S m) (qT ios j) (v j)
 |0,hj,_=>by omega
 |m+1,hj,h=>by
  by_cases e:j=m
  subst e
  simp only[tl,h1,h2,cF3,bQ3,cR3,Of b]
  have ih:=tlC b a h1 h2 (m:=m) (by omega) (fun i hi c=>h i hi (by omega))
  simp only[tl,a m (by omega),ih]
  split
  rename_i hs
  exact cX1 (h m (by omega) (by omega) hs)
  rfl
end
end Go.Sim
namespace Go.Sim
section
variable {P:Program} {T:lI} {ex:Nat->Bool->IC->St->Option (Ex×St)} {lim:Nat} {ops:Array Oper} {ios:List Sim.Op1} {st:Nat->St} {ft:Nat->Foot} {v:Nat->AV} {S S':Nat->Bool}
structure kT1 (P:Program) (ops:Array Oper) (ios:List Sim.Op1) (st:Nat->St) (ft:Nat->Foot) (v:Nat->AV) (lim base:Nat) (g0:Gh) (w0:World) (S:Nat->Bool) (g:Gh) (a:Act) (w:World):Prop where
 ext:tC lim g0 g w0 w
 W:WG g w
 H:HR P g (kD st ft S ios.length) w
 dom:∀id,g.ι id≠none->id<(st 0).s.n\/∃i,i<ios.length/\S i=true/\id∈(ft i).al
 t:TR g (tl ios st v S ios.length) a.tmps.toList
 marks:kF base g w a.defers
 closed:∀i oi,S i=true->ops.toList[i]? =some oi->∀e∈oi.after.toList,Region.binds .any e=true->S e.on=true
structure Rdy (ops:Array Oper) (ios:List Sim.Op1) (S:Nat->Bool) (j:Nat) (o:Oper) (io:Sim.Op1):Prop where
 hop:ops.toList[j]? =some o
 hio:ios[j]? =some io
 c:j<ios.length
 no:S j=false
 edges:∀e∈o.after.toList,Region.binds .any e=true->S e.on=true
def Ez (R:wT P T ex lim ops ios st ft v) {j:Nat} {o:Oper} {io:Sim.Op1} (hr:Rdy ops ios S j o io)
  (a:∀i oi,S i=true->ops.toList[i]? =some oi->∀e∈oi.after.toList,Region.binds .any e=true->S e.on=true) {i:Nat} (hi:i<j):
  S i=true\/(((dN [] ops.toList).getD j 0).testBit i=false/\compat (ft i) (ft j)=true/\∀p,ios[i]? =some p->(∀d,p.dst=some d->io.dst≠some d/\d∉io.reads)/\∀d,io.dst=some d->d∉p.reads):=by
 cases hb:((dN [] ops.toList).getD j 0).testBit i with
 |true=>exact .inl (tM R.back (D:=fun i=>S i=true) a j o hr.hop hr.edges i hb)
 |false=>
  refine .inr ⟨rfl,(R.com j hr.c i hi).resolve_left (by rw[hb];simp),fun p hp=>?_⟩;exact(R.tmps j io hr.hio i p hi hp).resolve_left (by rw[hb];simp)
def Kv (R:wT P T ex lim ops ios st ft v) {j:Nat} {o:Oper} {io:Sim.Op1} (hr:Rdy ops ios S j o io)
  (a:∀i oi,S i=true->ops.toList[i]? =some oi->∀e∈oi.after.toList,Region.binds .any e=true->S e.on=true) {i:Nat} (hi:j<i) (b:i<ios.length) (f:S i=true):
  compat (ft j) (ft i)=true/\∀p,ios[i]? =some p->(∀d,io.dst=some d->p.dst≠some d/\d∉p.reads)/\∀d,p.dst=some d->d∉io.reads:=by
 obtain⟨g,oi,h1,h2,h⟩:=R.get b
 have hb:((dN [] ops.toList).getD i 0).testBit j=false:=by
  cases hb:((dN [] ops.toList).getD i 0).testBit j with
  |false=>rfl
  |true=>
   have:=tM R.back (D:=fun i=>S i=true) a i oi h2 (fun e he c=>a i oi f h2 e he c) j hb;simp only[hr.no]at this;cases this
 refine⟨(R.com i b j hi).resolve_left (by rw[hb];simp),fun p hp=>?_⟩;exact(R.tmps i p hp j io hi hr.hio).resolve_left (by rw[hb];simp)
def Og (R:wT P T ex lim ops ios st ft v) {j:Nat} {o:Oper} {io:Sim.Op1} (hr:Rdy ops ios S j o io)
  (d:∀i oi,S i=true->ops.toList[i]? =some oi->∀e∈oi.after.toList,Region.binds .any e=true->S e.on=true) {t:Nat} (k:t∈io.reads):(tl ios st v S ios.length)[t]? =(st j).t[t]? :=by
 rw[tlB (j:=j) (cP3 hr.c),tlA R (cP3 hr.c)];intro i hi hd;rcases Ez R hr d hi with h|⟨_,_,h⟩
 exact h;obtain⟨a,oi,h1,_,_⟩:=R.get (j:=i) (by have:=hr.c;omega);have b:a.dst=some t:=by simpa[qT,h1]using hd
 exact absurd k ((h a h1).1 t b).2;intro i hi f g hd;by_cases e:i=j;subst e;rw[hr.no]at g;cases g;obtain⟨a,oi,h1,_,_⟩:=R.get f;have b:a.dst=some t:=by simpa[qT,h1]using hd
 exact absurd k (((Kv R hr d (by omega) f g).2 a h1).2 t b)
def vE1 (R:wT P T ex lim ops ios st ft v) {j:Nat} {o:Oper} {io:Sim.Op1} (hr:Rdy ops ios S j o io)
  (f:∀i oi,S i=true->ops.toList[i]? =some oi->∀e∈oi.after.toList,Region.binds .any e=true->S e.on=true) (b:∀i,i≠j->S' i=S i) (l:S' j=true):
  tl ios st v S' ios.length=put (tl ios st v S ios.length) io.dst (v j):=by
 have hd:qT ios j=io.dst:=by simp[qT,hr.hio]
 rw[<-hd];refine tlC (fun i hi=>b i (by omega)) (fun i hi=>b i (by omega)) hr.no l hr.c (fun i hi a k t m h=>?_);obtain⟨d,oi,h1,_,_⟩:=R.get a;have g:d.dst=some t:=by simpa[qT,h1]using h
 exact(((Kv R hr f hi a k).2 d h1).1 t (hd.symm.trans m)).1 g
def kV1 (R:wT P T ex lim ops ios st ft v) {j:Nat} {o:Oper} {io:Sim.Op1} (hr:Rdy ops ios S j o io)
  (a:∀i oi,S i=true->ops.toList[i]? =some oi->∀e∈oi.after.toList,Region.binds .any e=true->S e.on=true) {id:Nat} {ao:AO} (hid:id∈(ft j).rd\/id∈(ft j).wr) (hl:look (st j).s.h id=some ao):
  kD st ft S ios.length id=some ao:=by
 have g:=(R.wf (cP3 hr.c)).lt hl;rw[Bk (j:=j) (cP3 hr.c),Ew R (cP3 hr.c)];exact hl;intro i hi d;rcases Ez R hr a hi with h|⟨_,h,_⟩
 exact h;obtain⟨c1,c2,c3,c4,c5,c6⟩:=gF h;simp only[zD,bZ3,dU3,cS3,bN3]at d;rcases d with(d|d)|d;have:=kS1 c1 (Kt hid);omega
 grind
 grind
 intro i hi b f;by_cases e:i=j;subst e;rw[hr.no]at f;cases f;obtain⟨c1,c2,c3,c4,c5,c6⟩:=gF (Kv R hr a (by omega) b f).1;simp only[zD,dX3,eE3,ne_eq,cS3,cV3];refine⟨⟨by have:=Is c1 (Kt hid);omega,fun h=>?_⟩,fun h=>?_⟩
 grind
 rw[R.al b]at h;have:=R.mono (i:=j) (j:=i) (by omega) (by omega);omega
def Fa (R:wT P T ex lim ops ios st ft v) {j:Nat} {o:Oper} {io:Sim.Op1} (hr:Rdy ops ios S j o io)
  (d:∀i oi,S i=true->ops.toList[i]? =some oi->∀e∈oi.after.toList,Region.binds .any e=true->S e.on=true) (k:∀i,i≠j->S' i=S i) (m:S' j=true) {id:Nat}
  (hid:(id∈(ft j).wr/\id<(st j).s.n)\/id∈(ft j).al):kD st ft S' ios.length id=look (st (j+1)).s.h id:=by
 rw[Bk (j:=j+1) hr.c]
 have:zD ft j id=true:=by
  simp only[zD,bZ3,dU3,cS3,bN3];rcases hid with⟨h,_⟩|h;exact .inl (.inr h);exact .inr h
 simp[kD,m,this];intro i hi a b;have l:S i=true:=by rw[<-k i (by omega)];exact b
 obtain⟨c1,c2,c3,c4,c5,c6⟩:=gF (Kv R hr d (by omega) a l).1;simp only[zD,dX3,eE3,ne_eq,cS3,cV3];have g:=R.mono (i:=j+1) (j:=i) (by omega) (by omega);have hg:=(R.grows hr.c).n
 have f:(ft j).isE=false:=by
  rcases hid with⟨hid,_⟩|hid;exact Kt (.inr hid);exact Cl hid
 refine⟨⟨by have:=Is c1 f;omega,fun h=>?_⟩,fun h=>?_⟩
 grind
 rw[R.al a]at h;rcases hid with⟨_,hid⟩|hid;omega;rw[R.al hr.c]at hid;omega
def xL (R:wT P T ex lim ops ios st ft v) {j:Nat} {o:Oper} {io:Sim.Op1} (hr:Rdy ops ios S j o io)
  (g:∀i oi,S i=true->ops.toList[i]? =some oi->∀e∈oi.after.toList,Region.binds .any e=true->S e.on=true) (b:∀i,i≠j->S' i=S i) (k:S' j=true) {id:Nat} {ao:AO}
  (hk:zD ft j id=true->id∈(ft j).wr/\look (st (j+1)).s.h id=look (st j).s.h id) (h:kD st ft S' ios.length id=some ao):kD st ft S ios.length id=some ao:=by
 refine sN1 (j:=j) (fun i hi=>b i (by omega)) (fun h0=>?_) hr.c h;have d:kD st ft S (j+1) id=kD st ft S j id:=by simp[kD,hr.no]
 have f:kD st ft S' j id=kD st ft S j id:=Ey (fun i hi=>b i (by omega));rw[d];cases ht:zD ft j id with
 |false=>
  simp only[kD,ht,Bool.and_false,bQ3,cR3,f]at h0;exact h0
 |true=>
  obtain⟨m,l⟩:=hk ht;simp only[kD,ht,k,eF3,cF3,l]at h0;rw[Ew R (cP3 hr.c)];exact h0;intro i hi a;rcases Ez R hr g hi with h|⟨_,h,_⟩
  exact h;obtain⟨c1,c2,c3,c4,c5,c6⟩:=gF h;simp only[zD,bZ3,dU3,cS3,bN3]at a;rcases a with(a|a)|a
  grind
  grind
  grind
end
end Go.Sim
namespace Go.Sim
section
variable {P:Program} {T:lI} {ex:Nat->Bool->IC->St->Option (Ex×St)} {lim:Nat} {ops:Array Oper} {ios:List Sim.Op1} {st:Nat->St} {ft:Nat->Foot} {v:Nat->AV} {S S':Nat->Bool} {r:Option Nat} {n base:Nat} {g0 g:Gh} {w0 w:World}
def Ve {o:Oper} {k:hZ} {os:aA Operand} {L:Nat->aB AO} {m:Nat} {out:Out} {a:Act} (j:kP P o.op o.type=some (k,os)) (hg:iS P g lim w L m out (execOp a.eval o)) {next:Act->World->Prop} {Q:Exit->Act->World->Prop}
  (b:∀V g' w',VR g' out.v V->HR P g' (out.after L m) w'->WG g' w'->tC lim g g' w w'->(∀id,g'.ι id≠none->g.ι id≠none\/(id=m/\out.new.isSome))->next (a.put o.dst V) w'):
  o.wpIn (FW r) n P a w next Q:=by
 obtain⟨V,nx,g',w',d,e,hv,h,i,f,c⟩:=hg;refine⟨fun _ _=>trivial,?_⟩;rw[rU _ (xI j),d];rcases e with rfl|⟨rfl,rfl⟩
 .exact b V g' w' hv h i f c
 .exact b undef g' w' hv h i f c
def Sp {k:hZ} {xs:aA AV} (h1:∀f,k≠.callF f) (h2:k≠.callV):(foot T k xs).all=0:=by
 unfold foot
 split<;>first
  |rfl
  |exact absurd rfl (h1 _)
  |exact absurd rfl h2
def Yo (u:qL P ex) (A:kN P T) {o:Oper} {k:hZ} {os:aA Operand} {xs:aA AV} {x:AV} {s S:Hp} {a:Act} (B:(kP P o.op o.type).getD (.fail,[])=(k,os)) (h:step T ex lim k xs s=some (x,S)) (d:(foot T k xs).all=1)
  (D:TR g xs (os.map a.eval)) (z:oH P g w s) {next:Act->World->Prop} {Q:Exit->Act->World->Prop}
  (q:∀V g' w',VR g' x V->g'.ι=g.ι->WG g' w'->(∀b,b<w.heap.size->w'.heap[b]? =w.heap[b]?)->tC s.n g g' w w'->next (a.put o.dst V) w'):o.wpIn (FW r) n P a w next Q:=by
 have fin:∀e w',mB P s.n g w s x s e w'->∃V,e=.returned V/\next (a.put o.dst V) w':=by
  rintro e w' ⟨V,g',rfl,R,L,J,X⟩;refine⟨V,rfl,q V g' w' R ?_ L.W ?_ J⟩
  .funext id
   by_cases hid:id<s.n
   .exact J.old id hid
   .have h1:g.ι id=none:=by
     cases h:g.ι id with
     |none=>rfl
     |some l=>exact absurd (z.dom id (by rw[h];simp)) hid
    have h2:g'.ι id=none:=by
     cases h:g'.ι id with
     |none=>rfl
     |some l=>exact absurd (L.dom id (by rw[h];simp)) hid
    rw[h1,h2]
  .intro b hb
   exact J.keep b hb (fun id loc hid hi=>by
    have:=z.dom id (by rw[hi];simp);omega)
 cases hco:kP P o.op o.type with
 |none=>
  rw[hco]at B;cases B;simp only[step,zL]at h;cases h
 |some p=>
  rw[hco]at B;cases B;unfold step at h;split at h
  .rename_i f
   obtain⟨c,K,h1,h2,E⟩:=qD hco (.inr ⟨f,rfl⟩);rcases E with⟨f',t,M,G⟩|⟨t,_⟩
   .cases t
    subst M;simp only[foot]at d;split at d
    .rename_i ifn j
     split at d
     .rename_i hp
      have m:TR g xs (#[]++c.args.map a.eval++#[]).toList:=by rw[G]at D;simpa using D
      exact uN A h1 h2 rfl j (Eh u A j hp h m z).2 fin
     .grind
    .cases d
   .cases t
  .obtain ⟨c,K,h1,h2,E⟩:=qD hco (.inl rfl)
   rcases E with⟨f',t,_⟩|⟨_,G⟩
   .cases t
   .subst G
    split at h
    .rename_i U args
     have v:=D.head;have m:=D.tail;unfold callV at h;simp only[foot]at d;split at h
     .rename_i f first cap
      generalize hV:a.eval K=V at v;cases v with
      |@fn _ _ _ _ F C l1 l2 v1 v2=>
       simp only at d;split at d
       .rename_i ifn j
        split at d
        .rename_i hp
         have O:TR g first F.toList:=⟨by simpa using l1,fun i x y H hy=>v1 i x y H (by simpa using hy)⟩
         have N:TR g cap C.toList:=⟨by simpa using l2,fun i x y H hy=>v2 i x y H (by simpa using hy)⟩
         have d:TR g (first++args++cap) (F++c.args.map a.eval++C).toList:=by
          have:=(O.app m).app N;simpa using this
         exact uN A h1 h2 hV j (Eh u A j hp h d z).2 fin
        .grind
       .cases d
     .grind
     .cases h
    .cases h
  .rename_i h1 h2
   exfalso;have:=Sp (T:=T) (xs:=xs) (fun f e=>h1 f e) (fun e=>h2 e);omega
def cov (R:wT P T ex lim ops ios st ft v) {id:Nat}:∀{j:Nat},j<=ios.length->(st 0).s.n<=id->id<(st j).s.n->∃i,i<j/\id∈(ft i).al
 |0,_,h1,h2=>by omega
 |j+1,hj,h1,h2=>by
  by_cases h:id<(st j).s.n
  obtain⟨i,hi,a⟩:=cov R (j:=j) (by omega) h1 h
  exact⟨i,by omega,a⟩
  exact⟨j,by omega,(R.al (by omega)).2 ⟨by omega,h2⟩⟩
def Yp (R:wT P T ex lim ops ios st ft v) (f4:qL P ex) (hT:kN P T) (b9:lim<=(st 0).s.n) {j:Nat} {o:Oper} {io:Sim.Op1} {a:Act} (hr:Rdy ops ios S j o io) (hco:mM P ops.toList o=some io)
    (q:kT1 P ops ios st ft v lim base g0 w0 S g a w) (y:∀i,i≠j->S' i=S i) (hj:S' j=true) {K:Act->World->Prop} {Q:Exit->Act->World->Prop} (hK:∀g' a' w',kT1 P ops ios st ft v lim base g0 w0 S' g' a' w'->K a' w'):
    wpOpIn (FW r) n P ops Q j K a w:=by
  have d:=q.closed;have h8:ops[j]? =some o:=by simpa using hr.hop
  unfold wpOpIn;rw[h8];simp only;obtain⟨os,c1,c2,c3,c4⟩:=qN hco
  have hw:Region.wanted o (yielded ops a.tmps)=Sim.wanted (st j).t io.guard:=by
    rw[Io q.t hco];refine Ku (fun i b hg=>Og R hr d ?_);simp[Op1.reads,hg]
  have f2:evs (tl ios st v S ios.length) io.xs=evs (st j).t io.xs:=It (fun t f=>Og R hr d (by
    simp only[Op1.reads,cL3,List.mem_filterMap];exact .inl ⟨.t t,f,rfl⟩))
  have b0:∀i oi,S' i=true->ops.toList[i]? =some oi->∀e∈oi.after.toList,Region.binds .any e=true->S' e.on=true:=by
    intro i oi hi g1 e he hb
    have up:∀i,S i=true->S' i=true:=fun i h=>by
      by_cases e:i=j;rw[e];exact hj;rw[y i e];exact h
    by_cases e1:i=j;subst e1;rw[hr.hop]at g1;cases g1;exact up _ (hr.edges e he hb);exact up _ (d i oi (by rw[<-y i e1];exact hi) g1 e he hb)
  have d5:∀{g':Gh} {w':World} {V:Value},tC lim g g' w w'->kF base g' w' (a.put o.dst V).defers:=by
    intro g' w' V hE;have:(a.put o.dst V).defers=a.defers:=by cases o.dst<;>rfl
    rw[this];exact q.marks.ext hE
  have d7:∀{g':Gh} {w':World} {V:Value},tC lim g g' w w'->VR g' (v j) V->TR g' (tl ios st v S' ios.length) (a.put o.dst V).tmps.toList:=by
    intro g' w' V hE hV;rw[vE1 R hr d y hj,c3];exact Si (q.t.mono hE.le) hV o.dst
  have L:∀id,(id<(st 0).s.n\/∃i,i<ios.length/\S i=true/\id∈(ft i).al)->id<(st 0).s.n\/∃i,i<ios.length/\S' i=true/\id∈(ft i).al:=by
    rintro id (h|⟨i,h1,h2,u⟩);exact .inl h;refine .inr ⟨i,h1,?_,u⟩;by_cases e:i=j;rw[e];exact hj;rw[y i e];exact h2
  have f0:=R.mono (i:=0) (j:=j) (by omega) (cP3 hr.c);obtain⟨s1,s2⟩:=R.step j io hr.hio;rw[hw];rcases s2 with⟨q1,q2,q3,q4⟩|⟨q1,xs,q2,q3,q4,q5,s2,q6⟩|⟨q1,xs,q2,q3,q4,q5⟩|⟨q1,xs,W,q2,q3,q4,q5⟩
  ·
    rw[q1];simp only[bQ3,cR3];refine⟨fun _ _=>trivial,hK g _ w ⟨q.ext,q.W,fun id ao h=>?_,fun id h=>L id (q.dom id h),d7 (.refl lim g w) (by rw[q2];exact .undef g),d5 (.refl lim g w),b0⟩⟩;refine q.H id ao (xL R hr d y hj (fun f=>?_) h);rw[zD,q3]at f;simp at f
  ·
    rw[q1];simp only[cF3];have b6:=tH q.t c2 (f2.trans q2);have f5:=(xK T io.k xs).2 (by omega)
    have M:∀id ao,look (hide (unseen ((dN [] ops.toList).getD j 0) j (jD ft j)) (st j).s.h) id=some ao->kD st ft S ios.length id=some ao:=by
      intro id ao h;obtain⟨h1,h2⟩:=zO _ (R.wf (cP3 hr.c)) h;have A:=(R.wf (cP3 hr.c)).lt h1;rw[Bk (j:=j) (cP3 hr.c),Ew R (cP3 hr.c)];exact h1;intro i hi f;rcases Ez R hr d hi with h|⟨hb,h,_⟩
      exact h;obtain⟨c1,c2,c3,c4,c5,c6⟩:=gF h;simp only[zD,bZ3,dU3,cS3,bN3]at f;have d0:(ft j).all=1:=by rw[q4];exact q3
      rcases f with(f|f)|f;have:=kS1 c1 (tO (by omega));omega;rw[c6.resolve_left (by omega)]at f;simp at f;exact absurd (rX i hi hb f) h2;intro i hi z F;by_cases e:i=j;subst e;rw[hr.no]at F;cases F;obtain⟨c1,c2,c3,c4,c5,c6⟩:=gF (Kv R hr d (by omega) z F).1;have d0:(ft j).all=1:=by rw[q4];exact q3
      simp only[zD,dX3,eE3,ne_eq,cS3,cV3];refine⟨⟨by have:=Is c1 (tO (by omega));omega,fun h=>?_⟩,fun h=>?_⟩;rw[c5.resolve_left (by omega)]at h;simp at h;rw[R.al z]at h;have:=R.mono (i:=j) (j:=i) (by omega) (by omega);omega
    obtain⟨N,s2,i4,i5,q6⟩:∃N s2,(st j).s.n<=N/\(∀id,g.ι id≠none->id<N)/\step T ex lim io.k xs {h:=hide (unseen ((dN [] ops.toList).getD j 0) j (jD ft j)) (st j).s.h,n:=N}=some (v j,s2):=by
     cases hxf:(foot T io.k xs).x with
     |true=>
      obtain⟨s3,j6⟩:=cW1 q6 q3 hxf (st ios.length).s.n;refine⟨(st ios.length).s.n,s3,R.mono (cP3 hr.c) (bI3 _),fun id h=>?_,j6⟩;rcases q.dom id h with h1|⟨i,h1,h2,u⟩
      exact cO3 h1 (R.mono (cQ3 _) (bI3 _));rw[R.al h1]at u;exact cO3 u.2 (R.mono h1 (bI3 _))
     |false=>
      refine⟨(st j).s.n+rsv (ios.length-j),s2,by omega,fun id h=>?_,q6⟩;rcases q.dom id h with h1|⟨i,h1,h2,u⟩
      have:=hr.c;omega;have f7:=Cl u;have d0:(ft j).isE=false:=tO (by rw[show(ft j).all=1 by rw[q4];exact q3];decide);rw[R.al h1]at u;by_cases d3:i<j;have:=R.mono (i:=i+1) (j:=j) (by omega) (cP3 hr.c);omega
      have d4:j<i:=by
        rcases eN3 j i with h|h;exact h;have:i=j:=by omega
        subst this;rw[hr.no]at h2;cases h2
      have h0:∀k,j<=k->k<=i->(st (k+1)).s.n<=(st j).s.n+rsv (k-j):=by
        intro k
        induction k with
        |zero=>
          intro hk _;have:j=0:=by omega
          subst this;rw[q5];omega
        |succ k ih=>
          intro hk k8;by_cases e:j=k+1;subst e;rw[q5];omega;have l2:=ih (by omega) (by omega);have g8:k+1<ios.length:=by omega
          have i9:(ft (k+1)).all<=1:=by
            by_cases e2:k+1=i;have:=Is (gF (Kv R hr d d4 h1 h2).1).1 d0;rw[e2];omega
            ·
              rcases eN3 1 (ft (k+1)).all with j8|hok;exfalso;obtain⟨l3,oi,i1,i2,i3⟩:=R.get h1
              have hb:((dN [] ops.toList).getD i 0).testBit (k+1)=true:=by
                rcases R.com i h1 (k+1) (by omega)with h|h;exact h;have:=kS1 (gF h).1 f7;omega
              have i6:S (k+1)=true:=tM R.back (D:=fun i=>S i=true) d i oi i2 (fun e he j2=>d i oi h2 i2 e he j2) (k+1) hb;have:=Is (gF (Kv R hr d (by omega) g8 i6).1).1 d0;omega;exact hok
          obtain⟨g5,ok,k1,k2,k3⟩:=R.get g8;obtain⟨_,t2⟩:=R.step (k+1) g5 k1;have l0:rsv (k+1-j)=rsv (k-j)+1048576:=by rw[Nat.succ_sub (by omega),cR1]
          rcases t2 with⟨_,_,_,t3⟩|⟨_,xs',_,_,_,t3,_⟩|⟨_,xs',_,t3,t4,t5⟩|⟨_,xs',W',_,_,_,t3⟩
          rw[t3];omega;rw[t3];omega
          have d9:(foot T g5.k xs').all=0:=by
            have:(ft (k+1)).all=(foot T g5.k xs').all:=by rw[t4]
            have:=t3.1;omega
          obtain⟨out,_,_,hs⟩:=vZ t5 d9;rw[hs,uP];split<;>omega;obtain⟨_,s',w,_,_,_,e3,_,_,_,_,_,e4⟩:=rT t3
          have e4:=e4 (by
            unfold nbF;rw[List.all_eq_false];refine⟨ft j,Nz (by omega),?_⟩;have:(ft j).x=false:=by rw[q4];exact hxf
            rw[this,show(ft j).all=1 by rw[q4];exact q3];decide)
          rw[e3];simp only;omega
      have:=h0 i (by omega) (bI3 _);have:=uZ1 (a:=i-j) (b:=ios.length-j) (by omega);omega
    have Z:oH P g w {h:=hide (unseen ((dN [] ops.toList).getD j 0) j (jD ft j)) (st j).s.h,n:=N}:=
      ⟨fun id ao h=>q.H id ao (M id ao h),q.W,i5,((R.wf (cP3 hr.c)).hide _).mono i4⟩
    refine Yo f4 hT c1 q6 q3 b6 Z (fun V g' w' k1 k2 k3 k4 k5=>hK g' _ w' ?_);have hE:tC lim g g' w w':=k5.mono (by simp only;have:=hr.c;omega);refine⟨q.ext.trans hE,k3,fun id ao h=>?_,fun id h=>L id (q.dom id (by rw[<-k2];exact h)),d7 hE k1,d5 hE,b0⟩
    have h1:=xL R hr d y hj (id:=id) (ao:=ao) (fun f=>by
      rw[zD,q4]at f;rw[q3,f5.2,Vd]at f;simp at f) h
    exact(q.H id ao h1).mono hE.le (by rw[k2]) (fun loc hl=>k4 _ (q.W.lt id loc hl))
  rw[q1];simp only[cF3];have b6:=tH q.t c2 (f2.trans q2);by_cases d9:(foot T io.k xs).all=0
  ·
    obtain⟨out,ho,hv,hs⟩:=vZ q5 d9
    have j3:∀id ao,id∈(foot T io.k xs).rd\/id∈(foot T io.k xs).wr->look (st j).s.h id=some ao->kD st ft S ios.length id=some ao:=by
      intro id ao hid hl;refine kV1 R hr d ?_ hl;rw[q4];exact hid
    have e9:doOp (kD st ft S ios.length) lim (st j).s.n io.k xs=some out:=Sm (T:=T) ho j3;have hn:=uP out (st j).s;rw[<-hs]at hn;have G:∀id,look (st (j+1)).s.h id=out.after (look (st j).s.h) (st j).s.n id:=fun id=>by rw[hs];exact Eu (fun i ob hu=>(xJ (T:=T) ho hu).2) id
    have C:∃g6,kP P o.op o.type=some (io.k,g6)/\g6=os:=by
      cases hc:kP P o.op o.type with
      |none=>
        rw[hc]at c1;simp only[Option.getD_none,cC3]at c1;rw[<-c1.1,zL]at ho;cases ho
      |some p=>rw[hc]at c1;exact⟨os,by rw[<-c1];rfl,rfl⟩
    obtain⟨g6,C,rfl⟩:=C
    have fin:∀(m:Nat) (V:Value) (g':Gh) (w':World),(out.new.isSome=true->m=(st j).s.n)->VR g' out.v V->HR P g' (out.after (kD st ft S ios.length) m) w'->WG g' w'->tC lim g g' w w'->
        (∀id,g'.ι id≠none->g.ι id≠none\/(id=m/\out.new.isSome))->K (a.put o.dst V) w':=by
      intro m V g' w' hm k1 k2 k3 k4 k5;refine hK g' _ w' ⟨q.ext.trans k4,k3,fun id ao h=>k2 id ao ?_,fun id h=>?_,d7 k4 (by rw[hv];exact k1),d5 k4,b0⟩
      ·
        have d2:id∈(ft j).al↔(st j).s.n<=id/\id<(st (j+1)).s.n:=R.al hr.c;have e7:(ft j).wr=(foot T io.k xs).wr:=by rw[q4]
        have j7:(ft j).all=0:=by rw[q4];exact d9
        have b4:(∀i ob,out.up=some (i,ob)->id≠i)->(out.new.isSome=true->id≠(st j).s.n)->kD st ft S ios.length id=some ao:=by
          intro h1 h2;refine xL R hr d y hj (fun f=>?_) h
          have g9:id∉(ft j).al:=by
            rw[d2,hn];cases hnew:out.new with
            |none=>simp
            |some ob=>
              have:=h2 (by rw[hnew];rfl);simp;omega
          refine⟨?_,?_⟩;simp only[zD,bZ3,dU3,cS3,bN3]at f;rcases f with(f|f)|f;omega;exact f;exact absurd f g9;rw[G id];unfold Out.after Out.base;cases hnew:out.new with
          |none=>
            simp only;cases hu:out.up with
            |none=>rfl
            |some p=>
              obtain⟨i,ob⟩:=p;simp only;rw[bM3 (h1 i ob hu)]
          |some ob'=>
            simp only;rw[bM3 (h2 (by rw[hnew];rfl))];cases hu:out.up with
            |none=>rfl
            |some p=>
              obtain⟨i,ob⟩:=p;simp only;rw[bM3 (h1 i ob hu)]
        by_cases O:out.new.isSome=true/\id=(st j).s.n;obtain⟨h1,h2⟩:=O;have hl:=Fa R hr d y hj (id:=id) (.inr (by rw[d2,hn,h1];simp;omega));rw[hl,G id]at h;rw[<-h,hm h1];unfold Out.after;cases hnew:out.new with
        |none=>rw[hnew]at h1;cases h1
        |some ob=>simp only;rw[bK3 h2,bK3 h2]
        by_cases X:∃ob,out.up=some (id,ob);obtain⟨ob,hu⟩:=X;obtain⟨u1,u2⟩:=xJ (T:=T) ho hu;have g4:∃d8,look (st j).s.h id=some d8:=Option.isSome_iff_exists.1 u2;obtain⟨d8,g7⟩:=g4;have A:=(R.wf (cP3 hr.c)).lt g7;have hl:=Fa R hr d y hj (id:=id) (.inl ⟨by rw[e7];exact u1,A⟩);rw[hl,G id]at h;rw[<-h];unfold Out.after Out.base;cases hnew:out.new with
        |none=>simp only[hu,cF3]
        |some ob'=>
          have:=hm (by rw[hnew];rfl);simp only[hu,cF3];rw[bM3 (by omega),bM3 (by omega)]
        have J:=b4 (fun i ob hu e=>X ⟨ob,by rw[e];exact hu⟩) (fun h1 e=>O ⟨h1,e⟩);unfold Out.after Out.base;cases hnew:out.new with
        |none=>
          simp only;cases hu:out.up with
          |none=>exact J
          |some p=>
            obtain⟨i,ob⟩:=p;simp only;rw[bM3 (fun e=>X ⟨ob,by rw[e];exact hu⟩)];exact J
        |some ob'=>
          simp only;rw[bM3 (fun e=>O ⟨by rw[hnew];rfl,by rw[e];exact hm (by rw[hnew];rfl)⟩)];cases hu:out.up with
          |none=>exact J
          |some p=>
            obtain⟨i,ob⟩:=p;simp only;rw[bM3 (fun e=>X ⟨ob,by rw[e];exact hu⟩)];exact J
      rcases k5 id h with h1|⟨h1,h2⟩
      exact L id (q.dom id h1);refine .inr ⟨j,hr.c,hj,?_⟩;rw[R.al hr.c,hn,h2,h1,hm h2];simp
    cases hnew:out.new with
    |none=>
      have f9:doOp (kD st ft S ios.length) lim (st ios.length).s.n io.k xs=some out:=vB1 e9 hnew
      have f6:g.ι (st ios.length).s.n=none:=by
        cases h:g.ι (st ios.length).s.n with
        |none=>rfl
        |some l=>
          rcases q.dom _ (by rw[h];simp)with h1|⟨i,h1,h2,u⟩
          have:=R.mono (i:=0) (j:=ios.length) (by omega) (bI3 _);omega;rw[R.al h1]at u;have:=R.mono (i:=i+1) (j:=ios.length) (by omega) (bI3 _);omega
      have j4:lim<=(st ios.length).s.n:=cH3 b9 (R.mono (by omega) (bI3 _));exact Ve C (vU a.eval o C b6 f9 q.H q.W f6 j4) (fun V g' w'=>fin _ V g' w' (fun h=>by rw[hnew]at h;cases h))
    |some ob=>
      have f6:g.ι (st j).s.n=none:=by
        cases h:g.ι (st j).s.n with
        |none=>rfl
        |some l=>
          rcases q.dom _ (by rw[h];simp)with h1|⟨i,h1,h2,u⟩
          omega;rw[R.al h1]at u;rw[hnew]at hn;simp only[eH3,cF3]at hn;by_cases d3:i<j;have:=R.mono (i:=i+1) (j:=j) (by omega) (cP3 hr.c);omega;by_cases e:i=j;subst e;rw[hr.no]at h2;cases h2;have:=R.mono (i:=j+1) (j:=i) (by omega) (by omega);omega
      exact Ve C (vU a.eval o C b6 e9 q.H q.W f6 (cH3 b9 f0)) (fun V g' w'=>fin _ V g' w' (fun _=>rfl))
  ·
    have h2:(ft j).all=2:=by
      have:=(xK T io.k xs).1;rw[q4];have:=q3.1;have:=q3.2;show(foot T io.k xs).all=2
      omega
    have b7:∀i,i<j->S i=true\/(ft i).isE=true:=by
      intro i hi;rcases Ez R hr d hi with h|⟨_,h,_⟩
      exact .inl h;rcases(gF h).1 with h|h|h;omega;exact .inr h;have:=(lT h).2.2.2;omega
    have b5:∀i,j<=i->i<ios.length->S i=false\/(ft i).isE=true:=by
      intro i hi z;cases F:S i with
      |false=>exact .inl rfl
      |true=>
        by_cases e:i=j;subst e;rw[hr.no]at F;cases F;rcases(gF (Kv R hr d (by omega) z F).1).1 with h|h|h;omega;have:=(lT h).2.2.2;omega;exact .inr h
    have f1:∀id,kD st ft S ios.length id=look (st j).s.h id:=by
      intro id
      rw[Bk (j:=j) (cP3 hr.c) (fun i hi z F=>by
        rcases b5 i hi z with B|B;rw[B]at F;cases F;exact vD1 B),Ew R (cP3 hr.c) (fun i hi f=>by
        rcases b7 i hi with B|B;exact B;rw[vD1 B]at f;cases f)]
    have Z:oH P g w (st j).s:=by
      refine⟨fun id ao h=>q.H id ao (by rw[f1];exact h),q.W,fun id h=>?_,R.wf (cP3 hr.c)⟩;rcases q.dom id h with h1|⟨i,h1,u,Y⟩
      omega;have f7:=Cl Y;rw[R.al h1]at Y;by_cases d3:i<j;have:=R.mono (i:=i+1) (j:=j) (by omega) (cP3 hr.c);omega;rcases b5 i (by omega) h1 with B|B;rw[B]at u;cases u;rw[f7]at B;cases B
    refine Kq f4 hT c1 q5 b6 Z (cH3 b9 f0) (fun V g' w' k1 k2 k3 k4=>hK g' _ w' ⟨q.ext.trans k3,k2.W,fun id ao h=>k2.H id ao ?_,fun id h=>?_,d7 k3 k1,d5 k3,b0⟩)
    rw[Bk (j:=j+1) hr.c (fun i hi z F=>by
      rcases b5 i (by omega) z with B|B;rw[y i (by omega),B]at F;cases F;exact vD1 B)]at h
    have f:zD ft j id=true:=by simp[zD,h2]
    simp only[kD,hj,f,eF3,cF3]at h;exact h;have A:=k2.dom id h;by_cases f8:id<(st 0).s.n;exact .inl f8;obtain⟨i,hi,u⟩:=cov R (j:=j+1) hr.c (by omega) A;refine .inr ⟨i,by have:=hr.c;omega,?_,u⟩;by_cases e:i=j;rw[e];exact hj;rw[y i e];rcases b7 i (by omega)with B|B;exact B;rw[Cl u]at B;cases B
  ·
    rw[q1];simp only[cF3];have b6:=tH q.t c2 (f2.trans q2);have d0:(ft j).all=1:=by rw[q4]
    have e7:(ft j).wr=W:=by rw[q4]
    obtain⟨hid,s',wl,d6,k1,k2,k3,k4,k5,k6,k7,k9,_⟩:=rT q5;have E:=R.wf (cP3 hr.c)
    have b8:∀i,i<ios.length->S i=true->¬i<j->(ft i).wr=[]/\(∀id,id∈(ft i).al->(st (j+1)).s.n<=id)/\(ft i).all≠2:=by
      intro i z F d3
      have d4:j<i:=by
        rcases eN3 j i with h|h;exact h;have:i=j:=by omega
        subst this;rw[hr.no]at F;cases F
      obtain⟨e1,e2,e3,e4,e5,e6⟩:=gF (Kv R hr d d4 z F).1;refine⟨e5.resolve_left (by omega),fun id h=>?_,by have:=Is e1 (tO (by omega));omega⟩;rw[R.al z]at h;have:=R.mono (i:=j+1) (j:=i) (by omega) (by omega);omega
    have k0:=(R.grows hr.c).n
    have g3:∀id,nF hid (st j).s.n id=true->id<(st j).s.n/\id∉hid:=by
      intro id h;simp only[nF,bF3,bW3,cS3,cV3]at h;exact⟨by simpa[dP3]using h.1,h.2⟩
    have e8:∀id,id∉hid->id<(st j).s.n->kD st ft S ios.length id=look (st j).s.h id:=by
      intro id j5 A;rw[Bk (j:=j) (cP3 hr.c),Ew R (cP3 hr.c)];intro i hi f;rcases Ez R hr d hi with h|⟨hb,h,_⟩
      exact h;obtain⟨e1,e2,e3,e4,e5,e6⟩:=gF h;simp only[zD,bZ3,dU3,cS3,bN3]at f;rcases f with(f|f)|f;have:=kS1 e1 (tO (by omega));omega;rw[e6.resolve_left (by omega)]at f;simp at f;exact absurd (d6 _ (rX i hi hb f)) j5;intro i hi z F;obtain⟨e1,e2,e3⟩:=b8 i z F (by omega);simp only[zD,dX3,eE3,ne_eq,cS3,cV3];refine⟨⟨e3,fun h=>?_⟩,fun h=>?_⟩;rw[e1]at h;simp at h;have:=e2 id h;omega
    have M:∀id ao,look (hide hid (st j).s.h) id=some ao->kD st ft S ios.length id=some ao/\nF hid (st j).s.n id=true:=by
      intro id ao h;obtain⟨h1,h2⟩:=zO _ E h;have A:=E.lt h1;refine⟨(e8 id h2 A).trans h1,?_⟩;simp only[nF,bF3,bW3,cS3,cV3];exact⟨by simpa[dP3]using A,h2⟩
    have hιp:∀id,nF hid (st j).s.n id=true->(g.only (nF hid (st j).s.n)).ι id=g.ι id:=fun id h=>Gh.only_pos h
    have Z:oH P (g.only (nF hid (st j).s.n)) w {h:=hide hid (st j).s.h,n:=(st j).s.n}:=by
      refine⟨fun id ao h=>?_,q.W.only,fun id h=>?_,E.hide _⟩;obtain⟨h1,h2⟩:=M id ao h;exact(q.H id ao h1).names (g:=g) (g2:=g.only _) rfl hιp (hιp id h2) (qC k5 id ao h);simp only[Gh.only]at h;split at h;rename_i hp;exact(g3 id hp).1;exact absurd rfl h
    refine Kq (s':=s') f4 hT c1 k1 (TR.names (g:=g) (g2:=g.only _) rfl hιp k6 b6) Z (cH3 b9 f0) (fun V g' w' m1 m2 m3 m4=>?_);obtain⟨hE,i7⟩:=cS1 m3 q.W m2.W
    have hqι:∀id,xG hid (st j).s.n s'.n id=true->(g.back g' (nF hid (st j).s.n) (st j).s.n).ι id=g'.ι id:=by
      intro id h;simp only[xG,bZ3,bF3]at h;rcases h with h|⟨h1,h2⟩
      exact xH h;have h1:=bP3 h1;have h2:id<s'.n:=by simpa[dP3]using h2
      simp only[Gh.back];split;rename_i hc;exfalso;rcases q.dom id (hc.2.resolve_left (by omega))with u|⟨i,u,Y,h5⟩
      omega;by_cases d3:i<j;rw[R.al u]at h5;have:=R.mono (i:=i+1) (j:=j) (by omega) (cP3 hr.c);omega;have h6:=(b8 i u Y d3).2.1 id h5;rw[k3]at h6;simp only at h6;omega;rfl
    have l1:(st (j+1)).s.n=s'.n:=by rw[k3]
    refine hK (g.back g' (nF hid (st j).s.n) (st j).s.n) _ w' ⟨q.ext.trans hE,i7,fun id ao h=>?_,fun id h=>?_,d7 hE (VR.names (g:=g') (g2:=g.back g' _ _) rfl hqι k7 m1),d5 hE,b0⟩;have d2:id∈(ft j).al↔(st j).s.n<=id/\id<(st (j+1)).s.n:=R.al hr.c;by_cases f:(id∈W/\id<(st j).s.n)\/id∈(ft j).al
    ·
      have h1:=Fa R hr d y hj (id:=id) (by rw[e7];exact f);rw[h1,k3]at h;simp only at h
      have hq:xG hid (st j).s.n s'.n id=true:=by
        rcases f with⟨h2,u⟩|h2;obtain⟨e,he,rfl⟩:=eM3.1 (k4 ▸ h2);have Y:=qB (E.hide hid) k2 e he;obtain⟨d8,h5⟩:=Option.isSome_iff_exists.1 Y.2;have:=(M e.1 d8 h5).2;simp only[xG,this,Bool.true_or];rw[d2]at h2;have a1:Nat.ble (st j).s.n id=true:=Nat.ble_eq_true_of_le h2.1;have a2:Nat.blt id s'.n=true:=by simp only[dP3];omega
        simp only[xG,a1,a2,eF3,Bool.or_true]
      rcases Ei (m2.wf) h with⟨h2,u,Y⟩|h2;exact(m2.H id ao u).names (g:=g') (g2:=g.back g' _ _) rfl hqι (hqι id hq) Y;rcases Bf _ _ _ _ h2 with⟨u,Y⟩|u;exfalso;rw[<-k4]at Y;rcases f with⟨h5,_⟩|h5;exact Y h5;rw[d2]at h5;have:=E.lt u;omega;exact(m2.H id ao ((oO k2).2 _ u)).names (g:=g') (g2:=g.back g' _ _) rfl hqι (hqι id hq) (by have:=bJ3.1 k9 _ u;exact this)
    have h1:kD st ft S ios.length id=some ao:=xL R hr d y hj (fun U=>by
      exfalso;simp only[zD,d0,e7,bZ3,cS3,bN3]at U;rcases U with(U|U)|U;cases U;obtain⟨e,he,rfl⟩:=eM3.1 (k4 ▸ U);exact f (.inl ⟨U,(qB (E.hide hid) k2 e he).1⟩);exact f (.inr U)) h
    cases hp:nF hid (st j).s.n id with
    |true=>
      obtain⟨h2,u⟩:=g3 id hp;have Y:look (hide hid (st j).s.h) id=some ao:=by rw[xF hid u,<-e8 id u h2];exact h1
      have h5:id∉wl.map (·.1):=fun h6=>f (.inl ⟨by rw[k4];exact h6,h2⟩);exact(m2.H id ao ((oO k2).1 id ao Y h5)).names (g:=g') (g2:=g.back g' _ _) rfl hqι (xH hp) (Sh (fun i h=>by simp only[xG,h,Bool.true_or]) (qC k5 id ao Y))
    |false=>
      have h2:=q.H id ao h1;have u:g.ι id≠none:=h2.some;refine h2.mono hE.le (El hp u) (fun loc hl=>m3.keep _ (q.W.lt id loc hl) (fun id' loc' j9 e0 e=>?_));simp only[Gh.only]at e0;split at e0;rename_i i0;have:=q.W.inj id' id loc' loc e0 hl e;subst this;rw[hp]at i0;cases i0;cases e0
    by_cases hg:g.ι id=none
    have h2:g'.ι id≠none:=by
      simp only[Gh.back]at h;split at h;exact absurd hg h;exact h
    have u:id<s'.n:=m2.dom id h2;by_cases f8:id<(st 0).s.n;exact .inl f8;by_cases A:id<(st j).s.n;obtain⟨i,hi,Y⟩:=cov R (cP3 hr.c) (by omega) A;rcases Ez R hr d hi with h5|⟨hb,_,_⟩
    refine .inr ⟨i,by have:=hr.c;omega,?_,Y⟩;rw[y i (by omega)];exact h5;have h6:id∈hid:=d6 _ (rX i hi hb Y)
    have h7:nF hid (st j).s.n id=false:=by
      cases hp:nF hid (st j).s.n id with
      |false=>rfl
      |true=>exact absurd h6 (g3 id hp).2
    exfalso;simp only[Gh.back]at h;rw[bK3 ⟨h7,.inl A⟩]at h;exact h hg;refine .inr ⟨j,hr.c,hj,?_⟩;rw[R.al hr.c];omega;exact L id (q.dom id hg)
end
end Go.Sim
namespace Go.Sim
section
variable {P:Program} {T:lI} {ex:Nat->Bool->IC->St->Option (Ex×St)} {lim:Nat} {ops:Array Oper} {ios:List Sim.Op1} {st:Nat->St} {ft:Nat->Foot} {v:Nat->AV} {r:Option Nat} {n base:Nat} {g0:Gh} {w0:World}
def iG (a:Array Bool) (i:Nat):Bool:=a.getD i false
def Fb (a:Array Bool) (i j:Nat) (h:j<a.size):iG (a.setIfInBounds j true) i=if i=j then true else iG a i:=by
 unfold iG;by_cases e:i=j;subst e;simp[h];simp[e,Array.getElem?_setIfInBounds_ne (Ne.symm e)]
def cY1 (R:wT P T ex lim ops ios st ft v) (t:qL P ex) (D:kN P T) (m:lim<=(st 0).s.n) {Q:Exit->Act->World->Prop}
  (hQ:∀(S:Nat->Bool) g a w,(∀i,i<ios.length->S i=true)->kT1 P ops ios st ft v lim base g0 w0 S g a w->Q .normal a w):
  ∀(d:Nat) (b:Array Bool) (g:Gh) (a:Act) (w:World),b.size=ops.size->b.toList.count false<=d->kT1 P ops ios st ft v lim base g0 w0 (iG b) g a w->wpAnyIn (FW r) n P .any ops Q d b a w:=by
 have F:=R.size
 have k:∀(b:Array Bool),b.size=ops.size->Region.ready .any ops b=[]->∀i,i<ios.length->iG b i=true:=by
  intro b hl hr i
  induction i using Nat.strongRecOn with
  |_ i ih=>
   intro hi;cases h:iG b i with
   |true=>rfl
   |false=>
    exfalso;obtain⟨io,o,h1,h2,A⟩:=R.get hi
    have B:i∈Region.ready .any ops b:=by
     rw[mem_ready];have c:i<b.size:=by omega
     refine⟨by simp only[iG]at h;simp[c]at h ⊢;exact h,o,by simpa using h2,fun e he hb=>?_⟩;have y:=R.back i o h2 e (by simpa using he) hb;exact ih e.on y (by omega)
    rw[hr]at B;cases B
 intro d
 induction d with
 |zero=>
  intro b g a w hl hc p
  have f:∀i,i<ios.length->iG b i=true:=by
   intro i hi;have c:i<b.size:=by omega
   have l:b.toList.count false=0:=by omega
   rw[List.count_eq_zero]at l;cases h:iG b i with
   |true=>rfl
   |false=>
    exfalso;apply l;simp only[iG]at h;simp[c]at h;rw[<-h];simp
  refine⟨?_,hQ _ g a w f p⟩;rw[List.eq_nil_iff_forall_not_mem];intro i hi;rw[mem_ready]at hi;obtain⟨h1,o,h2,_⟩:=hi;have u:i<ops.size:=(cG3.1 h2).1;have:=f i (by omega);have c:i<b.size:=by omega
  simp only[iG]at this;simp[c]at h1 this;rw[h1]at this;cases this
 |succ d ih=>
  intro b g a w hl hc p;refine⟨fun hr=>hQ _ g a w (k b hl hr) p,fun i hi=>?_⟩;rw[mem_ready]at hi;obtain⟨h1,o,h2,A⟩:=hi;have u:i<ops.size:=(cG3.1 h2).1;have c:i<b.size:=by omega
  obtain⟨io,o',G,H,J⟩:=R.get (j:=i) (by omega);have:o'=o:=by grind
  subst this
  have z:iG b i=false:=by
   simp only[iG];simp[c]at h1 ⊢;exact h1
  have hr:Rdy ops ios (iG b) i o' io:=⟨H,G,by omega,z,fun e he hb=>A e (by simpa using he) hb⟩
  refine Yp (S':=iG (b.setIfInBounds i true)) R t D m hr J p (fun j E=>by rw[Fb _ _ _ c,bM3 E]) (by rw[Fb _ _ _ c,bK3 rfl]) (fun g' a' w' q=>?_);refine ih _ g' a' w' (by simpa using hl) ?_ q;have C:(b.setIfInBounds i true).toList=b.toList.set i true:=by simp
  have x:b.toList[i]'(by simpa using c)=false:=by simp_all
  rw[C,List.count_set (by simpa using c),x,bK3 (by rfl),bM3 (by decide)];omega
def kW1 (K:kN P T) (y:P.follows .mixedOrders=true) {ex:Nat->Bool->IC->St->aB (Ex×St)} (A:qL P ex) (B:rV ex):So P T ex:=by
 intro lim ops ios σ E fs id hc l z k r g a w n base O f hl hb M;obtain⟨st,ft,v,_,q,x,D,J⟩:=Oa ios 0 σ (fun _=>{}) E fs z;simp only[dC3]at x D J;have hlen:fs.length=ios.length:=by rw[D,revF_length]
 rw[D,revF_length]at k;simp only[bQ1,bF3,bJ3]at l;obtain⟨r1,r2⟩:=l
 have R:wT P T ex lim ops ios st ft v:=by
  refine⟨hc,fun j o C e he L=>?_,fun j o C i p hi hp=>?_,J,Bj k,B,by rw[q];exact f.wf⟩;have:=r1 (o,j) (by rw[bX3];exact⟨j,by simp[C]⟩);simp only[bJ3,bZ3,bW3,bN3]at this;rcases this e he with h|h
  grind
  exact h;have:=r2 (o,j) (by rw[bX3];exact⟨j,by simp[C]⟩);have h:=Bi this i p hp (by omega);rw[dC3]at h;exact h
 have N:=R.size;refine wpIn_region_any y ?_;have hw:oH P g {w with drawn:=w.drawn+1} σ.s:=⟨fun id ao h=>(f.H id ao h).mono (.refl g) rfl (fun _ _=>rfl),⟨f.W.still,f.W.lt,f.W.out,f.W.inj⟩,f.dom,f.wf⟩
 have F:tC lim g g w {w with drawn:=w.drawn+1}:=⟨.refl g,bI3 _,fun _ _ _=>rfl,fun id loc h=>.inl ⟨loc,h,rfl⟩,fun _ _=>rfl,rfl,rfl,rfl,fun _ _ h=>.inl h,fun _ R h=>⟨R,h⟩⟩
 refine cY1 (base:=base) (g0:=g) (w0:=w) R A K (by rw[q];exact hl) ?_ ops.size (Array.replicate ops.size false) g a _ (by simp) (by simp) ?_;intro S g' a' w' G u;refine⟨rfl,g',?_⟩
 have b:∀id,kD st ft S ios.length id=look E.s.h id:=fun id=>by
  rw[Ew R (bI3 _) (fun i hi _=>G i hi),x]
 have m:tl ios st v S ios.length=E.t:=by
  rw[<-x];exact List.ext_getElem? (fun t=>tlA R (bI3 _) (fun i hi _=>G i hi))
 have d:=R.mono (i:=0) (j:=ios.length) (by omega) (bI3 _);rw[q,x]at d;refine⟨by rw[<-m];exact u.t,⟨fun id ao h=>u.H id ao (by rw[b];exact h),u.W,fun id h=>?_,by have:=R.wf (bI3 ios.length);rw[x]at this;exact this⟩,u.ext,d,u.marks⟩;rcases u.dom id h with h1|⟨i,h1,h2,h3⟩
 rw[q]at h1;omega;rw[R.al h1]at h3;have:=R.mono (i:=i+1) (j:=ios.length) (by omega) (bI3 _);rw[x]at this;omega
 have c:∀i,iG (Array.replicate ops.size false) i=false:=by
  intro i;simp only[iG];by_cases h:i<ops.size;simp[h];simp[h]
 have b:∀id,kD st ft (iG (Array.replicate ops.size false)) ios.length id=look σ.s.h id:=by
  intro id;rw[Bk (j:=0) (by omega) (fun i _ _ h=>by rw[c i]at h;cases h),<-q];rfl
 have m:tl ios st v (iG (Array.replicate ops.size false)) ios.length=σ.t:=by
  rw[<-q];have h2:∀t,(tl ios st v (iG (Array.replicate ops.size false)) ios.length)[t]? =(tl ios st v (iG (Array.replicate ops.size false)) 0)[t]? :=fun t=>tlB (by omega) (fun i _ _ h=>by rw[c i]at h;cases h);exact List.ext_getElem? h2
 exact⟨F,hw.W,fun id ao h=>hw.H id ao (by rw[<-b];exact h),fun id h=>.inl (by rw[q];exact hw.dom id h),by rw[m];exact O,M.ext F,fun i oi h=>by rw[c i]at h;cases h⟩
def Fc (b:kN P T) (a:P.follows .mixedOrders=true) (d:Nat):qL P (exec T d):=kR1 b (fun d h=>kW1 b a h (Ep T d)) d
end
end Go.Sim
namespace Go.Sim
open Go.RowKit
def gW (w:World):Gh:={G:=fun b=>w.heap[b]?,ι:=fun _=>none}
def Yq (P:Program) (w:World):oH P (gW w) w {h:=[],n:=0}:=
 ⟨fun id ao h=>by simp[look]at h,⟨fun b o h=>h,fun id loc h=>by simp[gW]at h,fun id loc h=>by simp[gW]at h,fun id id' loc loc' h=>by simp[gW]at h⟩,fun id h=>by simp[gW]at h,trivial⟩
def Yr {P:Program} {T:lI} (g:kN P T) (a:P.follows .mixedOrders=true) {f:FuncId} {args:aA AV} {Args:Array Value} {d:Nat} {s':Hp} {w:World} {x:Value} (hg:Value.ground x=true)
  (h:callF T (exec T d) 0 f args {h:=[],n:=0}=some (.v x,s')) (i:TR (gW w) args Args.toList):Calls P f Args w fun e w'=>e=.returned x/\Below w.heap.size w w':=by
 have h1:=xD (n:=0) (Fc g a d) g h i (Yq P w) (bI3 _);refine callsIn_wide.1 (CallsIn.mono (F:=Fence.wide) h1 ?_);rintro e w' ⟨V,g',rfl,j,k,c,l⟩;refine⟨by rw[j.ground],⟨c.os,c.tape,c.output,c.size,fun b hb=>c.keep b hb (fun id loc _ hi=>by simp[gW]at hi)⟩⟩
def cZ1 (P:Program):aA Field->Nat->Nat->Bool
 |[],off,m=>off==m
 |f::fs,off,m=>f.offset==off&&cZ1 P fs (off+P.cellsOf f.type) m
def jH (P:Program):Nat->TypeId->Bool
 |0,_=>false
 |d+1,t=>
  match P.underlying t with
  |some .bool|some (.int _)|some .string=>true
  |some (.slice e)=>P.cellsOf e !=0&&jH P d e
  |some (.struct fs)=>cZ1 P fs.toList 0 (P.cellsOf t)&&fs.toList.all fun f=>jH P d f.type
  |some (.array n e)=>P.cellsOf t==n*P.cellsOf e&&jH P d e
  |_=>false
def kX1 (F:TypeId->aA AV->Prop) (P:Program):aA Field->aA AV->Prop
 |[],cs=>cs=[]
 |f::fs,cs=>∃c1 c2,cs=c1++c2/\c1.length=P.cellsOf f.type/\F f.type c1/\kX1 F P fs c2
def oB (P:Program):Nat->TypeId->aA AV->Prop
 |0,_,_=>False
 |d+1,t,cs=>
  match P.underlying t with
  |some .bool=>∃b,cs=[.v (.bool b)]
  |some (.int k)=>∃n,cs=[.v (.int k n)]/\(Lit.int k n).wf=true
  |some .string=>∃s:ByteArray,cs=[.v (.string s)]/\s.size<=maxLen
  |some (.slice e)=>cs=[.v (.slice none 0 0)]\/∃els:aA (aA AV),cs=[.is (P.cellsOf e) els]/\els.length<=maxLen/\∀row∈els,row.length=P.cellsOf e/\oB P d e row
  |some (.struct fs)=>kX1 (oB P d) P fs.toList cs
  |some (.array n e)=>∃rows:aA (aA AV),cs=rows.flatten/\rows.length=n/\∀row∈rows,row.length=P.cellsOf e/\oB P d e row
  |_=>False
def pD {α β:Type} {f:α->aB β}:∀{l:aA α} {r:aA β},l.mapM f=some r->r.length=l.length/\∀(i:Nat) (x:α),l[i]? =some x->∃y,f x=some y/\r[i]? =some y
 |[],r,h=>by grind
 |a::l,r,h=>by
  simp only[eT3,Option.bind_eq_bind,bD3,Option.pure_def,bL3]at h
  obtain⟨b,hb,g,c,rfl⟩:=h
  obtain⟨h1,h2⟩:=pD c
  refine⟨by simp[h1],fun i x hi=>?_⟩
  cases i with
  |zero=>simp at hi;subst hi;exact⟨b,hb,rfl⟩
  |succ i=>simp at hi;obtain⟨y,d,e⟩:=h2 i x hi;exact⟨y,d,by simpa using e⟩
def zT {w:World} {base:Nat} {a:Addr} {n:Nat} {cs:aA Value} (h:w.cells? base a n=some cs):cs.length=n/\∀i,i<n->w.cell? (a.add i)=cs[i]? :=by
 unfold World.cells? at h;split at h;obtain⟨h1,h2⟩:=pD h;refine⟨by simpa using h1,fun i hi=>?_⟩;obtain⟨y,b,c⟩:=h2 i i (by simp[hi]);rw[b,c];cases h
def kY1 {w:World} {a:Addr} {j:Nat} {y:Value} (h:w.cell? (a.add j)=some y) (hs:a.spot=none):(gW w).cell a j=some y:=by
 have d:a.add j=⟨a.block,a.off+j,none⟩:=by
  obtain⟨b,o,s⟩:=a;simp only at hs;subst hs;exact kY b o j
 rw[d]at h;unfold World.cell? at h;split at h;rename_i c e fr hb;simp only at hb;simp only[Gh.cell,gW,hb];simpa using h;cases h
def tP {α:Type} {Q:Nat->α->Prop}:∀{n:Nat},(∀i,i<n->∃x,Q i x)->∃l:aA α,l.length=n/\∀(i:Nat) (x:α),l[i]? =some x->Q i x
 |0,_=>⟨[],rfl,fun i x h=>by simp at h⟩
 |n+1,h=>by
  obtain⟨l,h1,h2⟩:=tP (n:=n) (fun i hi=>h i (by omega))
  obtain⟨x,a⟩:=h n (by omega)
  refine⟨l++[x],by simp[h1],fun i y hy=>?_⟩
  rw[dE3]at hy
  split at hy
  exact h2 i y hy
  grind
def TR.of_parts {g:Gh} {c1 c2:aA AV} {C:aA Value} {k:Nat} (h1:TR g c1 (C.take k)) (h2:TR g c2 (C.drop k)):TR g (c1++c2) C:=by
 have:=h1.app h2
 rwa [eS3]at this
section
variable {H:Type} {enc:TypeId×Value->H} {P:Program} {w:World} {held:Bool}
def Rd (P:Program) (w:World) (D:Nat) (t:TypeId) (Cs:aA Value):Prop:=∃cs,TR (gW w) cs Cs/\oB P D t cs/\∀y∈Cs,isCell y=true
def Bl {D a:Nat} (IH:∀t Cs g ps,DataW.trod enc P w 0 (fun _=>true) held a t Cs=some (g,ps)->jH P D t=true->Rd P w D t Cs):∀(fs:aA Field) (off m:Nat) (Cs:aA Value) (xs:aA (DataW H×aA MemPlace)),
  fs.mapM (fun f=>DataW.trod enc P w 0 (fun _=>true) held a f.type ((Cs.drop f.offset).take (P.cellsOf f.type)))=some xs->cZ1 P fs off m=true->(fs.all fun f=>jH P D f.type)=true->Cs.length=m->
  ∃cs,TR (gW w) cs (Cs.drop off)/\kX1 (oB P D) P fs cs/\(∀y∈Cs.drop off,isCell y=true)/\off<=m
 |[],off,m,Cs,xs,h,hs,hp,hl=>by
  simp only[cZ1,dU3]at hs
  subst hs
  have:Cs.drop off=[]:=by rw[List.drop_eq_nil_iff];omega
  rw[this]
  exact⟨[],.nil _,rfl,fun y h=>by simp at h,bI3 _⟩
 |f::fs,off,m,Cs,xs,h,hs,hp,hl=>by
  simp only[eT3,Option.bind_eq_bind,bD3,Option.pure_def,bL3]at h
  obtain⟨b,hb,e,d,rfl⟩:=h
  simp only[cZ1,bF3,dU3]at hs
  obtain⟨rfl,hs⟩:=hs
  simp only[dF3,bF3]at hp
  obtain⟨cs2,i,j,k,l⟩:=Bl IH fs (f.offset+P.cellsOf f.type) m Cs e d hs hp.2 hl
  obtain⟨c,q1,q2,q3⟩:=IH f.type _ b.1 b.2 hb hp.1
  have hd:(Cs.drop f.offset).drop (P.cellsOf f.type)=Cs.drop (f.offset+P.cellsOf f.type):=by rw[dY3]
  refine⟨c++cs2,TR.of_parts q1 (by rw[hd];exact i),⟨c,cs2,rfl,?_,q2,j⟩,fun y hy=>?_,by omega⟩
  rw[q1.1,dT3,List.length_drop]
  omega
  rw[<-eS3 (P.cellsOf f.type) (Cs.drop f.offset),hd,cL3]at hy
  rcases hy with hy|hy
  exact q3 y hy
  exact k y hy
def Yt {a:Nat} {t:TypeId} {Cs:aA Value} {x:DataW H×aA MemPlace} (c:P.underlying t=some .bool) (h:DataW.trod enc P w 0 (fun _=>true) held (a+1) t Cs=some x):∃b,Cs=[.bool b]:=by
 unfold DataW.trod at h;rw[c]at h;split at h<;>simp_all
def dA1 {a:Nat} {t:TypeId} {Cs:aA Value} {k:IntKind} {x:DataW H×aA MemPlace} (b:P.underlying t=some (.int k)) (h:DataW.trod enc P w 0 (fun _=>true) held (a+1) t Cs=some x):∃n,Cs=[.int k n]/\(Lit.int k n).wf=true:=by
 unfold DataW.trod at h;rw[b]at h;split at h<;>simp_all
def Oh {a:Nat} {t:TypeId} {Cs:aA Value} {x:DataW H×aA MemPlace} (b:P.underlying t=some .string) (h:DataW.trod enc P w 0 (fun _=>true) held (a+1) t Cs=some x):∃s:ByteArray,Cs=[.string s]/\s.size<=maxLen:=by
 unfold DataW.trod at h;rw[b]at h;split at h<;>simp_all
def Oj {a:Nat} {t:TypeId} {fs:Array Field} {Cs:aA Value} {x:DataW H×aA MemPlace} (b:P.underlying t=some (.struct fs)) (h:DataW.trod enc P w 0 (fun _=>true) held (a+1) t Cs=some x):
  Cs.length=P.cellsOf t/\∃xs,fs.toList.mapM (fun f=>DataW.trod enc P w 0 (fun _=>true) held a f.type ((Cs.drop f.offset).take (P.cellsOf f.type)))=some xs:=by
 unfold DataW.trod at h;rw[b]at h;split at h<;>simp_all;obtain⟨_,y,h,_⟩:=h;exact⟨y,h⟩
def Sq {a n:Nat} {t e:TypeId} {Cs:aA Value} {x:DataW H×aA MemPlace} (b:P.underlying t=some (.array n e)) (h:DataW.trod enc P w 0 (fun _=>true) held (a+1) t Cs=some x):
  Cs.length=P.cellsOf t/\∃xs,(List.range n).mapM (fun i=>DataW.trod enc P w 0 (fun _=>true) held a e ((Cs.drop (i*P.cellsOf e)).take (P.cellsOf e)))=some xs:=by
 unfold DataW.trod at h;rw[b]at h;split at h<;>simp_all;obtain⟨_,y,h,_⟩:=h;exact⟨y,h⟩
def Sr {c:Nat} {t e:TypeId} {Cs:aA Value} {x:DataW H×aA MemPlace} (k:P.underlying t=some (.slice e)) (h:DataW.trod enc P w 0 (fun _=>true) held (c+1) t Cs=some x):
  Cs=[.slice none 0 0]\/∃a len cap,Cs=[.slice (some a) len cap]/\len<=cap/\cap<=maxLen/\∀i,i<cap->∃row y,w.cells? 0 (a.add (i*P.cellsOf e)) (P.cellsOf e)=some row/\DataW.trod enc P w 0 (fun _=>true) held c e row=some y:=by
 unfold DataW.trod at h;rw[k]at h;split at h
 all_goals first|(simp_all;done)|skip
 rename_i e' a len cap he;cases he;right;simp only at h;split at h
 .rename_i hc
  obtain⟨_,c1,c2⟩:=hc;simp only[bD3,cF3,bH3]at h;obtain⟨d,h1,dK,h2,_⟩:=h;refine⟨a,len,cap,rfl,c1,c2,fun i hi=>?_⟩;by_cases f:i<len
  .obtain ⟨y,b,_⟩:=(pD h1).2 i i (eP3 f)
   simp only[bD3]at b;obtain⟨row,b,g⟩:=b;exact⟨row,y,b,g⟩
  .obtain ⟨y,b,_⟩:=(pD h2).2 (i-len) (i-len) (eP3 (by omega))
   have j:len+(i-len)=i:=by omega
   rw[j]at b;simp only[bD3]at b;obtain⟨row,b,g⟩:=b;exact⟨row,y,b,g⟩
 .cases h
def Vf:∀(D f:Nat) (t:TypeId) (Cs:aA Value) (G:DataW H) (ps:aA MemPlace),DataW.trod enc P w 0 (fun _=>true) held f t Cs=some (G,ps)->jH P D t=true->Rd P w D t Cs
 |0,_,_,_,_,_,_,hp=>by simp[jH]at hp
 |D+1,0,_,_,_,_,h,_=>by simp[DataW.trod]at h
 |D+1,f+1,t,Cs,G,ps,h,hp=>by
  have IH:=fun t Cs G ps=>Vf D f t Cs G ps
  have one:∀{x:AV} {y:Value},VR (gW w) x y->isCell y=true->oB P (D+1) t [x]->Rd P w (D+1) t [y]:=fun h1 h2 r=>
   ⟨_,.cons h1 (.nil _),r,fun y hy=>by simp at hy;subst hy;exact h2⟩
  unfold jH at hp
  split at hp
  rename_i c
  obtain⟨b,rfl⟩:=Yt c h
  exact one (.v rfl) rfl (by simp[oB,c])
  rename_i k c
  obtain⟨n,rfl,hn⟩:=dA1 c h
  exact one (.v rfl) rfl (by simp[oB,c];exact hn)
  rename_i c
  obtain⟨s,rfl,hs⟩:=Oh c h
  exact one (.v rfl) rfl (by simp[oB,c];exact hs)
  rename_i e c
  simp only[bF3,bne_iff_ne,ne_eq]at hp
  obtain⟨h0,hp⟩:=hp
  rcases Sr c h with rfl|⟨a,len,cap,rfl,c1,c2,aK⟩
  exact one (x:=.v (.slice none 0 0)) (.v rfl) rfl (by simp[oB,c])
  by_cases L:cap=0
  have N:len=0:=by omega
  subst L;subst N
  exact one (x:=.is (P.cellsOf e) []) .is0 rfl (by simp[oB,c])
  have d:∀i,i<cap->∃row:aA AV,row.length=P.cellsOf e/\oB P D e row/\a.spot=none/\∀(j:Nat) (x:AV),row[j]? =some x->∃y,(gW w).cell a (i*P.cellsOf e+j)=some y/\isCell y=true/\VR (gW w) x y:=by
   intro i hi;obtain⟨row,y,R,S⟩:=aK i hi;obtain⟨Z,U⟩:=zT R;obtain⟨cs,q1,q2,q3⟩:=IH e row y.1 y.2 S hp
   have hs:a.spot=none:=by
    have h1:=U 0 (by omega);have h2:row[0]? =some row[0]:=by simp
    rw[h2]at h1;have r:=World.cell?_spot h1;unfold Addr.add at r;split at r;split at r;exact r;rename_i X;obtain⟨F,_,O,_⟩:=aK 0 (by omega);obtain⟨l3,T⟩:=zT O;have B:=T 0 (by omega);have J:F[0]? =some F[0]:=by simp
    rw[J]at B;have K:=World.cell?_spot B;simpa[Addr.add]using K;obtain⟨F,_,O,_⟩:=aK 0 (by omega);obtain⟨l3,T⟩:=zT O;have B:=T 0 (by omega);have J:F[0]? =some F[0]:=by simp
    rw[J]at B;have K:=World.cell?_spot B;simpa[Addr.add]using K
   refine⟨cs,by rw[q1.1,Z],q2,hs,fun j x u=>?_⟩;have hj:j<row.length:=by rw[<-q1.1];exact(bG3.1 u).1
   have hc:=U j (by omega);have C:row[j]? =some row[j]:=by simp
   rw[C]at hc
   have W:(a.add (i*P.cellsOf e)).add j=a.add (i*P.cellsOf e+j):=by
    obtain⟨b,o,s⟩:=a;simp only at hs;subst hs;rw[kY,kY,kY,cW3]
   rw[W]at hc;exact⟨row[j],kY1 hc hs,q3 _ (by simp),q1.2 j x _ u C⟩
  obtain⟨els,A,e2⟩:=tP (n:=len) (fun i hi=>d i (by omega));obtain⟨_,_,_,hs,_⟩:=d 0 (by omega)
  have hv:VR (gW w) (.is (P.cellsOf e) els) (.slice (some a) els.length cap):=
   .is hs (by omega) (fun i row hr=>(e2 i row hr).1) (fun i row j x hr u=>by
    obtain⟨y,z,V,_⟩:=(e2 i row hr).2.2.2 j x u;exact⟨y,z,V⟩) (fun i row j x y hr u hy=>by
    obtain⟨y',z,V,y3⟩:=(e2 i row hr).2.2.2 j x u;rw[hy]at z;cases z;exact y3)
  rw[A]at hv;refine one hv rfl ?_;simp only[oB,c];refine .inr ⟨els,rfl,by omega,fun row hr=>?_⟩;obtain⟨i,hi⟩:=bX3.1 hr;exact⟨(e2 i row hi).1,(e2 i row hi).2.1⟩;rename_i fs c;simp only[bF3]at hp;obtain⟨hl,xs,q⟩:=Oj c h;obtain⟨cs,R,S,Y,_⟩:=Bl IH fs.toList 0 (P.cellsOf t) Cs xs q hp.1 hp.2 hl;exact⟨cs,by simpa using R,by simpa only[oB,c]using S,by simpa using Y⟩;rename_i n e c;simp only[bF3,dU3]at hp;obtain⟨hl,xs,q⟩:=Sq c h;rw[hp.1]at hl
  have d:∀i,i<n->∃row:aA AV,TR (gW w) row ((Cs.drop (i*P.cellsOf e)).take (P.cellsOf e))/\oB P D e row/\∀y∈(Cs.drop (i*P.cellsOf e)).take (P.cellsOf e),isCell y=true:=by
   intro i hi;obtain⟨y,z,_⟩:=(pD q).2 i i (by simp[hi]);exact IH e _ y.1 y.2 z hp.2
  obtain⟨rows,r1,r2⟩:=tP d
  have hlen:∀row∈rows,row.length=P.cellsOf e:=by
   intro row hr;obtain⟨i,hi⟩:=bX3.1 hr;have M:i<n:=by rw[<-r1];exact(bG3.1 hi).1
   rw[(r2 i row hi).1.1,dT3,List.length_drop,hl];have:(i+1)*P.cellsOf e<=n*P.cellsOf e:=cN3 _ M;rw[dO3]at this;omega
  have key:∀(m:Nat) (l:aA (aA AV)),l.length=m->(∀(i:Nat) (row:aA AV),l[i]? =some row->TR (gW w) row ((Cs.drop ((n-m+i)*P.cellsOf e)).take (P.cellsOf e))/\∀y∈(Cs.drop ((n-m+i)*P.cellsOf e)).take (P.cellsOf e),isCell y=true)->m<=n->
    TR (gW w) l.flatten (Cs.drop ((n-m)*P.cellsOf e))/\∀y∈Cs.drop ((n-m)*P.cellsOf e),isCell y=true:=by
   intro m
   induction m with
   |zero=>
    intro l p _ _;have:l=[]:=by cases l;rfl;simp at p
    subst this;have:Cs.drop ((n-0)*P.cellsOf e)=[]:=by rw[List.drop_eq_nil_iff,hl];simp
    rw[this];exact⟨.nil _,fun y h=>by simp at h⟩
   |succ m ih=>
    intro l p hr hm;cases l with
    |nil=>simp at p
    |cons row l=>
     have h0:=hr 0 row rfl;rw[dN3]at h0
     have g:=ih l (by simpa using p) (fun i E hi=>by
      have:=hr (i+1) E (by simpa using hi);have A:n-(m+1)+(i+1)=n-m+i:=by omega
      rwa [A]at this) (by omega)
     have hd:(Cs.drop ((n-(m+1))*P.cellsOf e)).drop (P.cellsOf e)=Cs.drop ((n-m)*P.cellsOf e):=by
      rw[dY3];congr 1;have:n-m=n-(m+1)+1:=by omega
      rw[this,dO3]
     refine⟨by simpa using TR.of_parts h0.1 (by rw[hd];exact g.1),fun y hy=>?_⟩;rw[<-eS3 (P.cellsOf e) (Cs.drop ((n-(m+1))*P.cellsOf e)),hd,cL3]at hy;rcases hy with hy|hy;exact h0.2 y hy;exact g.2 y hy
  have hk:=key n rows r1 (fun i row hi=>by
   have A:n-n+i=i:=by omega
   rw[A];exact⟨(r2 i row hi).1,(r2 i row hi).2.2⟩) (bI3 _)
  simp only[Nat.sub_self,fB3,dA3]at hk;refine⟨rows.flatten,hk.1,?_,hk.2⟩;simp only[oB,c];refine⟨rows,rfl,r1,fun row hr=>⟨hlen row hr,?_⟩⟩;obtain⟨i,hi⟩:=bX3.1 hr;exact(r2 i row hi).2.1;cases hp
end
end Go.Sim
namespace Go.Sim
section
variable {T:lI} {ex ex':Nat->Bool->IC->St->Option (Ex×St)}
def xM (ex ex':Nat->Bool->IC->St->aB (Ex×St)):Prop:=∀lim rd c σ r,ex lim rd c σ=some r->ex' lim rd c σ=some r
def zU (b:xM ex ex') {lim:Nat} {fn:IFn} {args:aA AV} {s:Hp} {r:AV×Hp} (h:body ex lim fn args s=some r):body ex' lim fn args s=some r:=by
 unfold body at h ⊢;split at h;cases h;rename_i e σ a he;rw[b _ _ _ _ _ he];cases e with
 |exit id=>exact absurd rfl (a id)
 |normal=>exact h
 |ret=>exact h
 cases h
def mono_runP (a:xM ex ex') {f:FuncId} {fn:IFn} {args:aA AV} {r:AV} (h:runP T ex f fn args=some r):runP T ex' f fn args=some r:=by
 unfold runP at h ⊢;split at h;rename_i b;exact h;split at h;rename_i hb;rw[zU a hb];exact h;cases h
def wB (a:xM ex ex') {lim:Nat} {f:FuncId} {args:aA AV} {s:Hp} {r:AV×Hp} (h:callF T ex lim f args s=some r):callF T ex' lim f args s=some r:=by
 unfold callF at h ⊢;split at h;cases h;rename_i fn c
 (try simp only[c])
 split at h;rename_i hp;rw[bK3 hp];split at h;rename_i hc;rw[bK3 hc];simp only[bH3]at h;obtain⟨v,hv,rfl⟩:=h;rw[mono_runP a hv];rfl;rename_i hc;rw[bM3 hc];split at h;rename_i d;rw[bK3 d];split at h;rename_i as b
 (try simp only[b])
 split at h;rename_i hb;rw[mono_runP a hb];exact h;cases h;cases h;rename_i d;rw[bM3 d];split at h;rename_i hb;rw[zU a hb];exact h;cases h;rename_i hp;rw[bM3 hp];exact zU a h
def Ss (a:xM ex ex') {lim l:Nat} {args:aA AV} {s:Hp} {r:AV×Hp} (h:round ex lim l args s=some r):round ex' lim l args s=some r:=by
 unfold Sim.round at h ⊢;split at h;rename_i c
 (try simp only[c])
 split at h;rename_i hc;rw[bK3 hc];split at h;rename_i σ d;rw[a _ _ _ _ _ d];simp only;split at h;rename_i b
 (try simp only[b])
 split at h;rename_i hb;rw[a _ _ _ _ _ hb];exact h;rename_i hb;rw[a _ _ _ _ _ hb];exact h;rename_i hb;rw[a _ _ _ _ _ hb];exact h;cases h;cases h;cases h;cases h;cases h
def uQ (a:xM ex ex') {lim:Nat} {k:hZ} {xs:aA AV} {s:Hp} {r:AV×Hp} (h:step T ex lim k xs s=some r):step T ex' lim k xs s=some r:=by
 unfold step at h ⊢;split at h;exact wB a h;split at h;unfold callV at h ⊢;split at h;exact wB a h;exact Ss a h;cases h;cases h;exact h
def tQ (b:xM ex ex') {lim:Nat}:∀{os:aA Sim.Op1} {σ τ:St},runOps T ex lim os σ=some τ->runOps T ex' lim os σ=some τ
 |[],σ,τ,h=>h
 |o::os,σ,τ,h=>by
  simp only[runOps]at h ⊢
  split at h
  rename_i hw
  rw[bK3 hw]
  split at h
  rename_i c
  (try simp only[c])
  split at h
  rename_i a
  simp only[uQ b a]
  exact tQ b h
  cases h
  cases h
  rename_i hw
  rw[bM3 hw]
  exact tQ b h
def mP (c:xM ex ex') {lim:Nat} {before:aA Nat}:∀{os:aA Sim.Op1} {j:Nat} {fs:aA Foot} {σ:St} {r:St×aA Foot},fX T ex lim before os j fs σ=some r->fX T ex' lim before os j fs σ=some r
 |[],j,fs,σ,r,h=>h
 |o::os,j,fs,σ,r,h=>by
  simp only[fX]at h ⊢
  split at h
  rename_i hw
  rw[bK3 hw]
  split at h
  rename_i e
  (try simp only[e])
  split at h
  rename_i d
  rw[bK3 d]
  split at h
  rename_i a
  simp only[uQ c a]
  exact mP c h
  cases h
  rename_i d
  rw[bM3 d]
  split at h
  rename_i b
  rw[bK3 b]
  split at h
  rename_i a
  simp only[Sg (fun _ _=>uQ c) a]
  exact mP c h
  cases h
  rename_i b
  rw[bM3 b]
  split at h
  rename_i a
  simp only[uQ c a]
  exact mP c h
  cases h
  cases h
  rename_i hw
  rw[bM3 hw]
  exact mP c h
def Iu (T:lI):∀d,xM (exec T d) (exec T (d+1))
 |0,lim,rd,c,σ,r,h=>by simp[exec]at h
 |d+1,lim,rd,c,σ,r,h=>by
  have ih:=Iu T d
  cases c with
  |skip=>simpa only[exec]using h
  |reg ops=>
   simp only[exec,bH3]at h
   obtain⟨τ,h,rfl⟩:=h
   rw[exec,tQ ih h]
   rfl
  |regD ops before=>
   rw[exec]at h ⊢
   split at h
   rename_i hf
   rw[mP ih hf]
   exact h
   cases h
  |seq a b=>
   rw[exec]at h ⊢
   split at h
   rename_i i
   rw[ih _ _ _ _ _ i]
   exact ih _ _ _ _ _ h
   rename_i g
   have h2:=ih _ _ _ _ _ h
   rw[h2]
   obtain⟨e,τ⟩:=r
   cases e with
   |normal=>exact absurd h (g τ)
   |ret=>rfl
   |exit id=>rfl
  |cond c a b=>
   rw[exec]at h ⊢
   split at h
   rename_i hc
   (try simp only[hc])
   exact ih _ _ _ _ _ h
   cases h
  |block id c=>
   rw[exec]at h ⊢
   split at h
   rename_i i
   rw[ih _ _ _ _ _ i]
   exact h
   rename_i g
   have h2:=ih _ _ _ _ _ h
   rw[h2]
   obtain⟨e,τ⟩:=r
   cases e with
   |normal=>rfl
   |ret=>rfl
   |exit id=>exact absurd h (g _ _)
  |loop c=>
   rw[exec]at h ⊢
   split at h
   rename_i i
   rw[ih _ _ _ _ _ i]
   exact ih _ _ _ _ _ h
   rename_i e τ g i
   rw[ih _ _ _ _ _ i]
   cases e with
   |normal=>exact(g rfl).elim
   |ret=>exact h
   |exit id=>exact h
   cases h
  |rangeF f ps a b=>
   rw[exec]at h ⊢
   split at h
   rename_i j
   (try simp only[j])
   split at h
   rename_i hc
   simp only[wB ih hc]
   exact h
   cases h
   cases h
  |exit id=>simpa only[exec]using h
  |ret=>simpa only[exec]using h
def mono_le (T:lI) {d a:Nat} (h:d<=a):xM (exec T d) (exec T a):=by
 induction h with
 |refl=>exact fun _ _ _ _ _ h=>h
 |step _ ih=>exact fun _ _ _ _ _ h=>Iu T _ _ _ _ _ _ (ih _ _ _ _ _ h)
end
end Go.Sim
namespace Go.Sim
def lO (P:Program):Nat->aA (aB IFn)->Prop
 |_,[]=>True
 |i,none::r=>lO P (i+1) r
 |i,some ifn::r=>(∃fn,P.funcs[i]? =some fn/\oC P fn ifn.pure ifn.frz=some ifn)/\lO P (i+1) r
def lO.get {P:Program}:∀{l:aA (aB IFn)} {i j:Nat} {ifn:IFn},lO P i l->l[j]? =some (some ifn)->∃fn,P.funcs[i+j]? =some fn/\oC P fn ifn.pure ifn.frz=some ifn
 |[],i,j,ifn,_,h=>by simp at h
 |none::r,i,j,ifn,h,hj=>by
  cases j with
  |zero=>simp at hj
  |succ j=>
   have:=lO.get (l:=r) h (by simpa using hj)
   rwa [show i+1+j=i+(j+1)by omega]at this
 |some x::r,i,j,ifn,h,hj=>by
  cases j with
  |zero=>
   simp at hj
   subst hj
   exact h.1
  |succ j=>
   have:=lO.get (l:=r) h.2 (by simpa using hj)
   rwa [show i+1+j=i+(j+1)by omega]at this
def vM:aA (FuncId×aA AV×AV)->FuncId->aA AV->aB AV
 |[],_,_=>none
 |(f',as,v)::r,f,args=>if f=f'/\Hx (wU 20) args as=true then some v else vM r f args
def tR (P:Program):aA (FuncId×aA AV×AV)->Prop
 |[]=>True
 |(f,as,v)::r=>nN P f as v/\tR P r
def Ol {P:Program}:∀{M:aA (FuncId×aA AV×AV)} {f:FuncId} {args:aA AV} {v:AV},tR P M->vM M f args=some v->nN P f args v
 |[],_,_,_,_,h=>by cases h
 |(f',as,v')::r,f,args,v,hM,h=>by
  simp only[vM]at h
  split at h
  rename_i hc
  cases h
  rw[hc.1,vV (xE 20) hc.2]
  exact hM.1
  exact Ol hM.2 h
def rY {M:aA (FuncId×aA AV×AV)} {f:FuncId} (h:∀e∈M,e.1≠f) (args:aA AV):vM M f args=none:=by
 induction M with
 |nil=>rfl
 |cons e r ih=>
  obtain⟨f',as,v⟩:=e;simp only[vM];rw[bM3 (fun hc=>h (f',as,v) (by simp) hc.1.symm)];exact ih (fun e he=>h e (by simp[he]))
def lO.tab {P:Program} {l:aA (aB IFn)} {M:aA (FuncId×aA AV×AV)} (h:lO P 0 l) (a:tR P M):kN P ⟨fun f=>(l[f]?).join,vM M⟩:=by
 refine⟨fun f ifn hf=>?_,fun f args v b=>Ol a b⟩;have:l[f]? =some (some ifn):=by grind
 have h2:=lO.get h this
 rwa [dC3]at h2
def dB1 (P:Program):aA Func->aA (aB IFn)->aA (aB IFn)
 |_,[]=>[]
 |[],_::_=>[]
 |_::fs,none::r=>none::dB1 P fs r
 |fn::fs,some x::r=>oC P fn x.pure x.frz::dB1 P fs r
def lO.of {P:Program}:∀{l:aA (aB IFn)} {fs:aA Func} {i:Nat},P.funcs.toList.drop i=fs->dB1 P fs l=l->lO P i l
 |[],_,_,_,_=>trivial
 |o::r,[],i,_,h=>by cases o<;>cases h
 |none::r,f::fs,i,hd,h=>by
  have hn:P.funcs.toList.drop (i+1)=fs:=by rw[<-dY3,hd];rfl
  exact lO.of (l:=r) hn (List.cons.inj h).2
 |some x::r,f::fs,i,hd,h=>by
  have hn:P.funcs.toList.drop (i+1)=fs:=by rw[<-dY3,hd];rfl
  have hi:P.funcs[i]? =some f:=by
   rw[<-dK3,<-List.head?_drop,hd];rfl
  exact⟨⟨f,hi,(List.cons.inj h).1⟩,lO.of (l:=r) hn (List.cons.inj h).2⟩
def Fe {P:Program} {T:lI} (b:kN P T) (a:P.follows .mixedOrders=true) {f:FuncId} {fn:IFn} {args:aA AV} {v:AV} {d:Nat} (hf:T f=some fn) (hp:fn.pure=true) (hc:args.all (closed 4)=true)
  (h:runP T (exec T d) f fn args=some v):nN P f args v:=by
 intro g w s n Args e c;exact zQ (Fc b a d) b hf hc h e c
end Go.Sim
namespace Go.Sim
open Go.RowKit Go.ChangeShapes Go.WideShapes
section
variable {H:Type} {enc:TypeId×Value->H} {P:Program} {W W':World}
def kZ1 {a:Addr} {y:Value} (h:W.cell? a=some y):a.block<W.heap.size:=by
 unfold World.cell? at h;split at h
 grind
 cases h
def Su (hb:Below W.heap.size W W') {a:Addr} {n:Nat} {cs:aA Value} (h:W.cells? 0 a n=some cs):W'.cells? 0 a n=some cs:=by
 unfold World.cells? at h ⊢;simp only[cQ3,cF3]at h ⊢;exact mapM_mono (fun x y hxy=>by rw[hb.cell (kZ1 hxy)];exact hxy) h
def qU {α β:Type} {f g:α->aB β}:∀{l:aA α} {r:aA β},l.mapM f=some r->(∀x y,x∈l->y∈r->f x=some y->g x=some y)->l.mapM g=some r
 |[],r,h,_=>by simpa using h
 |a::l,r,h,hk=>by
  simp only[eT3,Option.bind_eq_bind,bD3,Option.pure_def,bL3]at h
  obtain⟨b,hb,e,c,rfl⟩:=h
  have h1:=qU c (fun x y d hy=>hk x y (by simp[d]) (by simp[hy]))
  have h2:=hk a b (by simp) (by simp) hb
  simp[eT3,h1,h2]
def Iv (hb:Below W.heap.size W W') {held:Bool} {sp:Nat->Bool}:∀(b D:Nat) (t:TypeId) (cs:aA Value) (x:DataW H×aA MemPlace),jH P D t=true->
  DataW.trod enc P W 0 (fun _=>true) held b t cs=some x->(∀q∈x.2,sp q.block=true)->DataW.trod enc P W' 0 sp held b t cs=some x
 |0,_,_,_,_,_,h,_=>by simp[DataW.trod]at h
 |b+1,0,_,_,_,hp,_,_=>by simp[jH]at hp
 |b+1,D+1,t,cs,x,hp,h,hs=>by
  have IH:=Iv hb (held:=held) (sp:=sp) b D
  unfold jH at hp
  split at hp
  .rename_i d
   unfold DataW.trod at h ⊢
   rw[d]at h ⊢
   split at h<;>simp_all
  .rename_i k d
   unfold DataW.trod at h ⊢
   rw[d]at h ⊢
   split at h<;>simp_all
  .rename_i d
   unfold DataW.trod at h ⊢
   rw[d]at h ⊢
   split at h<;>simp_all
  .rename_i e d
   simp only[bF3,bne_iff_ne,ne_eq]at hp
   obtain⟨h0,hp⟩:=hp
   unfold DataW.trod at h ⊢
   rw[d]at h ⊢
   split at h
   all_goals first|(simp_all;done)|skip
   rename_i e' a len cap he
   cases he
   simp only at h ⊢
   split at h
   .rename_i hc
    rw[bK3 hc]
    simp only[bD3,cF3,bH3]at h
    obtain⟨c,h1,dK,h2,rfl⟩:=h
    simp only[cL3]at hs
    have el:∀(i:Nat) (y:DataW H×aA MemPlace),(y∈c\/y∈dK)->((W.cells? 0 (a.add (i*P.cellsOf e)) (P.cellsOf e)).bind (DataW.trod enc P W 0 (fun _=>true) held b e))=some y->
      ((W'.cells? 0 (a.add (i*P.cellsOf e)) (P.cellsOf e)).bind (DataW.trod enc P W' 0 sp held b e))=some y:=by
     intro i y hy h;simp only[bD3]at h ⊢;obtain⟨row,v,w⟩:=h;refine⟨row,Su hb v,IH e row y hp w (fun q l=>hs q (Or.inr ?_))⟩;rw[List.mem_flatMap];exact⟨y,by simpa using hy,l⟩
    have m:=qU h1 (g:=fun i=>(W'.cells? 0 (a.add (i*P.cellsOf e)) (P.cellsOf e)).bind (DataW.trod enc P W' 0 sp held b e)) (fun i y _ hy h=>el i y (Or.inl hy) h);have o:=qU h2 (g:=fun j=>(W'.cells? 0 (a.add ((len+j)*P.cellsOf e)) (P.cellsOf e)).bind (DataW.trod enc P W' 0 sp held b e)) (fun i y _ hy h=>el (len+i) y (Or.inr hy) h);rw[m];simp only[bE3];by_cases r:cap=0
    .grind
    .have p:sp a.block=true:=by
      have hlen:c.length+dK.length=cap:=by
       have s:=(pD h1).1;have e2:=(pD h2).1;simp at s e2;omega
      refine hs (.cell a.block (a.off+0)) (Or.inl ?_);unfold MemPlace.row;rw[eM3];refine⟨0,?_,rfl⟩;rw[List.mem_range,hlen];exact Nat.mul_pos (by omega) (by omega)
     rw[bK3 p,o];rfl
   .cases h
  .rename_i fs d
   simp only[bF3]at hp;unfold DataW.trod at h ⊢;rw[d]at h ⊢;split at h
   all_goals first|(simp_all;done)|skip
   rename_i u he;cases he;split at h
   .rename_i hc
    rw[bK3 hc];simp only[bH3]at h ⊢;obtain⟨xs,h1,rfl⟩:=h;refine⟨xs,qU h1 (fun f y hf hy h=>IH f.type _ y ?_ h (fun q l=>hs q ?_)),rfl⟩
    .grind
    .grind
   .cases h
  .rename_i n e d
   simp only[bF3,dU3]at hp;unfold DataW.trod at h ⊢;rw[d]at h ⊢;split at h
   all_goals first|(simp_all;done)|skip
   rename_i n' e' he;cases he;split at h
   .rename_i hc
    rw[bK3 hc];simp only[bH3]at h ⊢;obtain⟨xs,h1,rfl⟩:=h;refine⟨xs,qU h1 (fun i y hi hy h=>IH e _ y hp.2 h (fun q l=>hs q ?_)),rfl⟩;rw[List.mem_flatMap];exact⟨y,hy,l⟩
   .cases h
  .cases hp
def xN (hb:Below W.heap.size W W') {held:Bool} {sp:Nat->Bool} {D:Nat}:∀(c:aA TypeId) (vs:aA Value) (a:aA (DataW H)) (ps:aA MemPlace),(c.all fun t=>jH P D t)=true->
  DataW.TrodAll enc P W 0 (fun _=>true) held c vs a ps->(∀q∈ps,sp q.block=true)->DataW.TrodAll enc P W' 0 sp held c vs a ps
 |[],vs,a,ps,_,h,_=>by
  match vs,a,h with
  |[],[],h=>exact h
 |t::c,vs,a,ps,hp,h,hs=>by
  match vs,a,h with
  |v::vs,d::a,h=>
   obtain⟨p,q,⟨b,h1⟩,h2,rfl⟩:=h
   simp only[dF3,bF3]at hp
   exact⟨p,q,⟨b,Iv hb b D t _ _ hp.1 h1 (fun x e=>hs x (by simp[e]))⟩,xN hb c vs a q hp.2 h2 (fun x e=>hs x (by simp[e])),rfl⟩
def lA1 (P:Program) (W:World) (D:Nat) (t:TypeId) (x:AV) (V:Value):Prop:=
 VR (gW W) x V/\∃cs,oB P D t cs/\x=(if eP P t then .agg cs else cs.headD .undef)
def vF1 {D a:Nat} {t:TypeId} {V:Value} {x:DataW H×aA MemPlace} (b:(∃cs,V=.agg cs)↔eP P t=true) (j:∀cs,V≠.tuple cs) (hp:jH P D t=true)
  (h:DataW.trod enc P W 0 (fun _=>true) true a t V.cells.toList=some x):∃y,lA1 P W D t y V:=by
 obtain⟨cs,h1,h2,f⟩:=Vf D a t _ x.1 x.2 h hp;by_cases d:eP P t=true;obtain⟨Cs,rfl⟩:=b.2 d;refine⟨.agg cs,.agg (by simpa[Value.cells]using h1.1) (fun i y hy=>f y ?_) (fun i x y k hy=>h1.2 i x y k (by simpa[Value.cells]using hy)),cs,h2,by rw[bK3 d]⟩;simp only[Value.cells];exact bO3 (by simpa using hy);have g:∀Cs,V≠.agg Cs:=fun Cs e=>d (b.1 ⟨Cs,e⟩);have hc:V.cells=#[V]:=by cases V<;>simp_all[Value.cells]
 rw[hc]at h1;have hl:=h1.1
 match cs,hl,h1,h2 with
 |[c],_,h1,h2=>exact⟨c,h1.head,[c],h2,by rw[bM3 d];rfl⟩
end
end Go.Sim
namespace Go.Sim
open Go.RowKit Go.ChangeShapes Go.WideShapes Go.ChangeAt
section
variable {H:Type} {enc:TypeId×Value->H} {P:Program} {W W':World}
def Sv {D:Nat} {t:TypeId} {base:Nat} {V:Value} (hp:jH P D t=true) (a:Value.okWide P W .any base t V):((∃cs,V=.agg cs)↔eP P t=true)/\∀cs,V≠.tuple cs:=by
 cases D with
 |zero=>simp[jH]at hp
 |succ D=>
 unfold jH at hp;unfold Value.okWide at a;unfold eP;split at hp;rename_i b;rw[b]at a ⊢;simp only[Cell.okWide,b]at a;cases V<;>simp_all[Cell.ok];rename_i b;rw[b]at a ⊢;simp only[Cell.okWide,b]at a;cases V<;>simp_all[Cell.ok];rename_i b;rw[b]at a ⊢;simp only[Cell.okWide,b]at a;cases V<;>simp_all[Cell.ok];rename_i b;rw[b]at a ⊢;simp only[Cell.okWide,b]at a;cases V<;>simp_all[Cell.ok]
 grind
 grind
 cases hp
def vN (P:Program) (W:World) (D:Nat):aA TypeId->aA AV->aA Value->Prop
 |[],[],[]=>True
 |t::ts,x::xs,V::Vs=>lA1 P W D t x V/\vN P W D ts xs Vs
 |_,_,_=>False
def Vg {D base:Nat}:∀{e:aA TypeId} {vs:aA Value} {c:aA (DataW H)} {ps:aA MemPlace},(e.all fun t=>jH P D t)=true->
  (∀(j:Nat) t v,e[j]? =some t->vs[j]? =some v->Value.okWide P W .any base t v)->
  DataW.TrodAll enc P W 0 (fun _=>true) true e vs c ps->∃xs,vN P W D e xs vs
 |[],vs,c,ps,_,_,h=>by
  match vs,c,h with
  |[],[],h=>exact⟨[],trivial⟩
 |t::e,vs,c,ps,hp,hok,h=>by
  match vs,c,h with
  |v::vs,d::c,h=>
   obtain⟨p,q,⟨g,h1⟩,h2,rfl⟩:=h
   simp only[dF3,bF3]at hp
   obtain⟨k,l⟩:=Sv hp.1 (hok 0 t v rfl rfl)
   obtain⟨x,i⟩:=vF1 k l hp.1 h1
   obtain⟨xs,f⟩:=Vg hp.2 (fun j t v a b=>hok (j+1) t v (by simpa using a) (by simpa using b)) h2
   exact⟨x::xs,i,f⟩
def vN.tr {D:Nat}:∀{a:aA TypeId} {xs:aA AV} {vs:aA Value},vN P W D a xs vs->TR (gW W) xs vs
 |[],[],[],_=>.nil _
 |_::_,_::_,_::_,h=>.cons h.1.1 (vN.tr h.2)
def Bm {sp:Nat->Bool} {base:Nat} {held:Bool}:∀{b:aA TypeId} {vs:aA Value} {a:aA (DataW H)} {ps:aA MemPlace},DataW.TrodAll enc P W base sp held b vs a ps->a.length=b.length/\vs.length=b.length
 |[],vs,a,ps,h=>by
  match vs,a,h with
  |[],[],h=>exact⟨rfl,rfl⟩
 |t::b,vs,a,ps,h=>by
  match vs,a,h with
  |v::vs,d::a,⟨p,q,h1,h2,_⟩=>
   obtain⟨c,e⟩:=Bm h2
   exact⟨by simp[c],by simp[e]⟩
end
def Kw {C:Checked} {f:FuncId} {fn:Func} {s:ChangeSpec} {d fresh g:Bool} {D:Nat} {tb:TypeId} {H:Type} {enc:TypeId×Value->H}
  (i:s.vars=[]) (m:∀k:aA (DataW H),k.length=fn.params.toList.length->s.fn H k={results:=[.lit (.bool true)],args:=k})
  (r:fn.resultTypes=#[tb]) (F:C.prog.underlying tb=some .bool) (c:(fn.params.toList.all fun t=>jH C.prog D t)=true)
  (w:∀(W:World) (xs:aA AV) (args:Array Value),vN C.prog W D fn.params.toList xs args.toList->Calls C.prog f args W fun e W'=>e=.returned (.bool true)/\Below W.heap.size W W')
  (W:World) (base:Nat) (args:Array Value) (k A:aA (DataW H)) (before:aA MemPlace)
  (u:∀(j:Nat) t v,fn.params[j]? =some t->args[j]? =some v->Value.okWide C.prog W .any base t v)
  (J:DataW.Whole enc C.prog fn.params.toList s.vars d W args.toList k A before):
  Calls C.prog f args W fun e W'=>∃v,e=.returned v/\s.post enc C.prog fn d fresh g false W args v W':=by
 have n:=J;obtain⟨p,q,B,y,rfl,K,L⟩:=J
 have E:A=[]/\q=[]:=by
  rw[i]at y
  match A,y with
  |[],y=>exact⟨rfl,y⟩
 obtain⟨rfl,rfl⟩:=E;obtain⟨xs,G⟩:=Vg c (fun j t v a b=>u j t v (by simpa using a) (by simpa using b)) B;refine(w W xs args G).mono fun e W' ⟨he,hb⟩=>?_;subst he;have l:=m k (Bm B).1
 have o:∀x∈p,(decide (x.block<W.heap.size))=true:=fun x z=>by
  have:=n.lt x (by simp[z]);simpa using this
 refine⟨_,rfl,k,[],p++[],[],p,[],n,?_,?_,?_,World.keptBut_mono (fun x z=>⟨z,by simpa using z⟩) (hb.frame (· ∈p++[])),fun h=>by cases h⟩;rw[eA3,l,r];exact trodAll_mk1 (shut_bool F _);rw[eA3,l];exact xN hb _ _ _ _ c B o;rw[eA3,l,i];rfl
end Go.Sim
