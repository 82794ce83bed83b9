import Derived.Test.YtaghiddbmfnakaaGreatGaB
import Derived.Test.YtaghiddbmfnakaaGreatChecked
/- A text of the proof. -/
set_option linter.all false
set_option maxRecDepth 100000
set_option maxHeartbeats 2000000
namespace Go.P.V
open Go.Sim
abbrev t (n:Nat):IX:=.t n
abbrev c (n:Int):IX:=.c (.v (.int .i64 n))
abbrev cn:IX:=.c (.v (.slice none 0 0))
abbrev ct:IX:=.c (.v (.bool true))
abbrev cf:IX:=.c (.v (.bool false))
abbrev J (n:Int):Value:=.int .i64 n
abbrev ZS:Value:=.string ⟨#[]⟩
abbrev ZB:Value:=.bool false
abbrev ZN:Value:=.slice none 0 0
abbrev o (d:Nat) (k:dV) (xs:aA IX):Sim.Op1:=⟨some d,k,xs,none⟩
abbrev u (d:Nat) (k:dV) (xs:aA Nat):Sim.Op1:=⟨some d,k,xs.map .t,none⟩
abbrev m (d x:Nat):Sim.Op1:=⟨some d,.mov,[.t x],none⟩
abbrev z (d:Nat) (x:IX):Sim.Op1:=⟨some d,.mov,[x],none⟩
abbrev l (d x:Nat):Sim.Op1:=⟨some d,.loadS,[.t x],none⟩
abbrev a (d k x:Nat):Sim.Op1:=⟨some d,.fad k,[.t x],none⟩
abbrev e (d k x:Nat):Sim.Op1:=⟨some d,.ext k,[.t x],none⟩
abbrev f (d g:Nat) (xs:aA Nat):Sim.Op1:=⟨some d,.callF g,xs.map .t,none⟩
abbrev s (n x y:Nat):Sim.Op1:=⟨none,.store n,[.t x,.t y],none⟩
abbrev R (l:aA Sim.Op1) (b:IC):IC:=.seq (.reg l) b
abbrev q (a b:IC):IC:=.seq a b
abbrev i (n:Nat) (a b:IC):IC:=.cond (.t n) a b
abbrev k:IC:=.skip
abbrev r:IC:=.ret
abbrev X (n:Nat) (l:aA Sim.RV) (c:IC) (p f:Bool):IFn:=⟨n,l,c,p,f⟩
end Go.P.V
namespace Go.P
open Go.Sim (fP gM jF IFn gO AV pK mI nX jM)
open Go.Proofs
noncomputable section
def ax (p:bR) (a b:Bool):Go.Sim.IFn:={ntmps:=p.ntmps,res:=p.res,body:=iN p.code,pure:=a,frz:=b}
section
open V
abbrev w0:aA Value:=[ZS,ZB,ZN,ZN,ZN,ZN]
def ix6:=X 58 [.tmp 0] (R [z 0 cf] (R [f 6 16 [],u 1 (.alloc 27 w0) [],s 6 1 6] (q (.regD [a 7 3 1,l 8 7,a 9 3 1,l 10 9,o 11 (.iad 22) [t 8,c 0],a 12 12 11,⟨none,.store 1,[t 12,ct],none⟩,o 13 (.iad 22) [t 10,c 2],a 14 13 13,⟨none,.store 1,[t 14,c 2],none⟩] [0,1,0,4,3,19,51,127,255,511]) (R [u 16 (.loadA 6) [1],f 17 7 [16],m 15 17,e 18 0 15,e 19 1 15,m 2 18,m 3 19] (R [o 20 (.buildSl 3 1 7 [J 0] [0,1,2,3,4,5,6]) [c 0,c 1,c 2,c 0,c 1,c 2,c 3],m 4 20] (q (R [m 21 3,o 22 (.bin .neq) [t 21,c 0],m 23 22,⟨some 24,.mov,[t 2],some (23,false)⟩,⟨some 25,.len 0,[t 24],some (23,false)⟩,⟨some 26,.mov,[t 4],some (23,false)⟩,⟨some 27,.len 0,[t 26],some (23,false)⟩,⟨some 28,.bin .neq,[t 25,t 27],some (23,false)⟩,o 29 (.pick) [t 23,ct,t 28]] (i 29 (R [z 0 cf] r) k)) (q (R [z 5 (c 0)] (.block 0 (.loop (q (R [m 30 5,m 31 4,u 32 (.len 0) [31],u 33 (.bin .lss) [30,32]] (i 33 k (.exit 0))) (q (.block 1 (q (.regD [m 36 2,m 37 5,u 38 (.iad 2) [36,37],a 39 0 38,l 40 39,m 41 4,m 42 5,u 43 (.iad 1) [41,42],l 44 43,u 45 (.bin .neq) [40,44]] [0,0,3,7,15,0,0,96,224,511]) (i 45 (R [z 0 cf] r) k))) (.reg [m 34 5,o 35 (.bin .add) [t 34,c 1],m 5 35])))))) (R [m 46 2,o 47 (.iad 2) [t 46,c 3],a 48 1 47,l 49 48,o 50 (.bin .eql) [t 49,c 1],m 51 50,⟨some 52,.mov,[t 2],some (51,true)⟩,⟨some 53,.iad 2,[t 52,c 6],some (51,true)⟩,⟨some 54,.fad 1,[t 53],some (51,true)⟩,⟨some 55,.loadS,[t 54],some (51,true)⟩,⟨some 56,.bin .eql,[t 55,c 0],some (51,true)⟩,o 57 (.pick) [t 51,t 56,cf],m 0 57] r)))))))) true true
end
def bI:Nat->aB Go.Sim.IFn
 |6=>some ix6
 |163=>some (jK 158 5 40 [(.int .i64 0),(.int .i64 0),(.int .i64 0),(.bool false),(.int .i64 0)])
 |164=>some (jK 162 5 40 [(.int .i64 0),(.int .i64 0),(.int .i64 0),(.int .i64 0),(.bool false)])
 |165=>some (jK 91 2 24 [(.string ⟨#[]⟩),(.int .i64 0)])
 |_=>none
abbrev n0 (k:Nat) (l:aA (aB Go.Sim.IFn)):aA (aB Go.Sim.IFn):=List.replicate k none++l
def tl2:aA (aB Go.Sim.IFn):=(n0 6 ([some ix6,some (ax p7 false false),some (ax p8 true true)]++(n0 7 ([some (ax p16 false false),some (ax p17 false false)]++(n0 4 ([some (ax p22 false false),some (ax p23 true false),some (ax p24 false false)]++(n0 20 [some (ax p45 false false)])))))))
def tI:Nat->aA (aB bR)->aA (aB IFn)
 |_,[]=>[]
 |i,none::r=>bI i::tI (i+1) r
 |i,some p::r=>some (Je (jE i) p)::tI (i+1) r
theorem Kd:∀(l:aA (aB bR)) (i j:Nat) (fn:bR),l[j]? =some (some fn)->(tI i l)[j]? =some (some (Je (jE (i+j)) fn))
 |[],i,j,fn,h=>by simp at h
 |none::r,i,0,fn,h=>by simp at h
 |none::r,i,j+1,fn,h=>by
  have:=Kd r (i+1) j fn (by simpa using h)
  rw[show i+1+j=i+(j+1)by omega]at this
  simpa[tI]using this
 |some p::r,i,0,fn,h=>by simp at h;subst h;rfl
 |some p::r,i,j+1,fn,h=>by
  have:=Kd r (i+1) j fn (by simpa using h)
  rw[show i+1+j=i+(j+1)by omega]at this
  simpa[tI]using this
def tl:aA (aB IFn):=tI 0 pl
abbrev Mm:=aA (Nat×aA AV×AV)
def TM (M:Mm):gO:=⟨fun f=>(tl[f]?).join,pK M⟩
abbrev MK:Mm:=[(6,[],.v (.bool true))]
abbrev TBL:gO:=TM MK
def okE (o:aB bR):Bool:=match o with|some fn=>sQ jE fn.ntmps false fn.code|none=>true
theorem rG1:pl.all okE=true:=by kernel_rfl
theorem rH1 {M:Mm} (a:∀e∈M,e.1=6) (f:Nat) (fn:bR) (h:Jg f=some fn):TM M f=some (Je (jE f) fn)/\sQ jE fn.ntmps false fn.code=true/\∀ys,(TM M).memo f ys=none:=by
 have h1:pl[f]? =some (some fn):=by
  unfold Jg at h;cases hl:pl[f]? with
  |none=>rw[hl]at h;cases h
  |some o=>rw[hl]at h;cases o with
   |none=>cases h
   |some q=>cases h;rfl
 refine⟨?_,?_,fun ys=>mI (fun e he hf=>?_) ys⟩;have:=Kd pl 0 f fn h1;rw[kC2]at this;show(tl[f]?).join=_
 unfold tl;rw[this];rfl;exact iM2.1 rG1 _ (iN2 h1);rw[a e he]at hf;subst hf;cases h
theorem Wd:∀e∈MK,e.1=6:=by intro e he;rcases kO2.1 he with rfl;rfl
theorem rI1 (f:Nat) (fn:bR) (h:Jg f=some fn):TBL f=some (Je (jE f) fn)/\sQ jE fn.ntmps false fn.code=true/\∀ys,TBL.memo f ys=none:=rH1 Wd f fn h
theorem We:Tryz.prog.follows .mixedOrders=true:=by kernel_rfl
theorem rJ1:gM Tryz.prog 0 tl:=gM.of (i:=0) (fs:=Tryz.prog.funcs.toList) rfl (by kernel_rfl)
theorem bV2:gM Tryz.prog 0 tl2:=gM.of (i:=0) (fs:=Tryz.prog.funcs.toList) rfl (by kernel_rfl)
theorem bW2:fP Tryz.prog (TM []):=gM.tab (M:=[]) rJ1 trivial
end
end Go.P
