import Derived.Test.YtcbmkpbljlaghaaGreatGaB
import Derived.Test.YtcbmkpbljlaghaaGreatChecked
/- A text of the proof. -/
set_option linter.all false
set_option maxRecDepth 100000
set_option maxHeartbeats 2000000
namespace Go.P.V
open Go.Sim
abbrev t (n:Nat):IX:=.t n
abbrev c (n:Int):IX:=.c (.v (.int .i64 n))
abbrev cn:IX:=.c (.v (.slice none 0 0))
abbrev ct:IX:=.c (.v (.bool true))
abbrev cf:IX:=.c (.v (.bool false))
abbrev J (n:Int):Value:=.int .i64 n
abbrev ZS:Value:=.string ⟨#[]⟩
abbrev ZB:Value:=.bool false
abbrev ZN:Value:=.slice none 0 0
abbrev o (d:Nat) (k:fC) (xs:aA IX):Sim.Op1:=⟨some d,k,xs,none⟩
abbrev u (d:Nat) (k:fC) (xs:aA Nat):Sim.Op1:=⟨some d,k,xs.map .t,none⟩
abbrev m (d x:Nat):Sim.Op1:=⟨some d,.mov,[.t x],none⟩
abbrev z (d:Nat) (x:IX):Sim.Op1:=⟨some d,.mov,[x],none⟩
abbrev l (d x:Nat):Sim.Op1:=⟨some d,.loadS,[.t x],none⟩
abbrev a (d k x:Nat):Sim.Op1:=⟨some d,.fad k,[.t x],none⟩
abbrev e (d k x:Nat):Sim.Op1:=⟨some d,.ext k,[.t x],none⟩
abbrev f (d g:Nat) (xs:aA Nat):Sim.Op1:=⟨some d,.callF g,xs.map .t,none⟩
abbrev s (n x y:Nat):Sim.Op1:=⟨none,.store n,[.t x,.t y],none⟩
abbrev R (l:aA Sim.Op1) (b:IC):IC:=.seq (.reg l) b
abbrev q (a b:IC):IC:=.seq a b
abbrev i (n:Nat) (a b:IC):IC:=.cond (.t n) a b
abbrev k:IC:=.skip
abbrev r:IC:=.ret
abbrev X (n:Nat) (l:aA Sim.RV) (c:IC) (p f:Bool):IFn:=⟨n,l,c,p,f⟩
end Go.P.V
namespace Go.P
open Go.Sim (iB jB lJ IFn jA AV sL oY qO lV)
open Go.Proofs
noncomputable section
def ax (p:cD) (a b:Bool):Go.Sim.IFn:={ntmps:=p.ntmps,res:=p.res,body:=kR p.code,pure:=a,frz:=b}
section
open V
abbrev w0:aA Value:=[ZS,ZB,ZN,ZN,ZN,ZN]
abbrev w1:aA Value:=[J 0,J 0]
abbrev w2:aA Value:=[J 0,J 0,J 0]
abbrev w3:aA Value:=[J 0,J 0,ZS,J 0,J 0,ZN]
abbrev w4:aA Value:=[J 0,J 0,J 0,J 0,J 0,ZN,ZN,J 0,J 0,J 0,ZN,J 0,J 0]
abbrev w5:aA Value:=[J 0,J 0,J 0,J 0,J 0,J 0,J 0,J 0]
abbrev w6:aA Value:=[ZN,ZN]
abbrev w7:aA Value:=[J 0,J 0,J 0,J 0,J 0,J 0,J 0,J 0,J 0,J 0,J 0,J 0,ZB,J 0,J 0,J 0,J 0,J 0,J 0,ZS,ZN,ZN]
def ix7:=X 58 [.tmp 0] (R [z 0 cf] (R [f 6 18 [],u 1 (.alloc 27 w0) [],s 6 1 6] (q (.regD [a 7 3 1,l 8 7,a 9 3 1,l 10 9,o 11 (.iad 22) [t 8,c 0],a 12 12 11,⟨none,.store 1,[t 12,ct],none⟩,o 13 (.iad 22) [t 10,c 2],a 14 13 13,⟨none,.store 1,[t 14,c 2],none⟩] [0,1,0,4,3,19,51,127,255,511]) (R [u 16 (.loadA 6) [1],f 17 12 [16],m 15 17,e 18 0 15,e 19 1 15,m 2 18,m 3 19] (R [o 20 (.buildSl 3 1 7 [J 0] [0,1,2,3,4,5,6]) [c 0,c 1,c 2,c 0,c 1,c 2,c 3],m 4 20] (q (R [m 21 3,o 22 (.bin .neq) [t 21,c 0],m 23 22,⟨some 24,.mov,[t 2],some (23,false)⟩,⟨some 25,.len 0,[t 24],some (23,false)⟩,⟨some 26,.mov,[t 4],some (23,false)⟩,⟨some 27,.len 0,[t 26],some (23,false)⟩,⟨some 28,.bin .neq,[t 25,t 27],some (23,false)⟩,o 29 (.pick) [t 23,ct,t 28]] (i 29 (R [z 0 cf] r) k)) (q (R [z 5 (c 0)] (.block 0 (.loop (q (R [m 30 5,m 31 4,u 32 (.len 0) [31],u 33 (.bin .lss) [30,32]] (i 33 k (.exit 0))) (q (.block 1 (q (.regD [m 36 2,m 37 5,u 38 (.iad 2) [36,37],a 39 0 38,l 40 39,m 41 4,m 42 5,u 43 (.iad 1) [41,42],l 44 43,u 45 (.bin .neq) [40,44]] [0,0,3,7,15,0,0,96,224,511]) (i 45 (R [z 0 cf] r) k))) (.reg [m 34 5,o 35 (.bin .add) [t 34,c 1],m 5 35])))))) (R [m 46 2,o 47 (.iad 2) [t 46,c 3],a 48 1 47,l 49 48,o 50 (.bin .eql) [t 49,c 1],m 51 50,⟨some 52,.mov,[t 2],some (51,true)⟩,⟨some 53,.iad 2,[t 52,c 6],some (51,true)⟩,⟨some 54,.fad 1,[t 53],some (51,true)⟩,⟨some 55,.loadS,[t 54],some (51,true)⟩,⟨some 56,.bin .eql,[t 55,c 0],some (51,true)⟩,o 57 (.pick) [t 51,t 56,cf],m 0 57] r)))))))) true true
def pN2:=X 40 [.cellA 0 6] (R [u 0 (.alloc 27 w0) []] (R [o 4 (.build w1 [(1,1)]) [c 1],o 5 (.build w1 [(1,1)]) [c 2],o 6 (.build w2 [(0,2),(2,1)]) [t 5,c 1],u 7 (.buildSl 105 3 1 w2 [0]) [6],u 8 (.build w3 [(0,2),(5,1)]) [4,7],u 9 (.buildSl 56 6 1 w3 [0]) [8],o 10 (.build w1 [(1,1)]) [c 10],u 11 (.buildSl 39 2 1 w1 [0]) [10],u 12 (.build w0 [(2,1),(5,1)]) [9,11],u 1 (.alloc 27 w0) [],s 6 1 12] (q (R [z 2 (c 0)] (.block 0 (.loop (q (R [m 13 2,o 14 (.bin .lss) [t 13,c 4]] (i 14 k (.exit 0))) (q (.block 1 (R [m 17 2,o 18 (.bin .mul) [c 2,t 17],o 19 (.bin .add) [c 4,t 18],u 20 (.build w1 [(1,1)]) [19],o 21 (.build w4 [(0,2),(2,1)]) [t 20,c 3],u 3 (.alloc 101 w4) [],s 13 3 21] (.reg [a 22 3 1,l 23 22,m 24 2,o 25 (.bin .mul) [c 2,t 24],o 26 (.bin .add) [c 3,t 25],u 27 (.build w1 [(1,1)]) [26],o 28 (.build w5 [(0,1),(1,1)]) [c 4,c 4],u 29 (.loadA 13) [3],u 30 (.buildSl 101 13 1 w4 [0]) [29],u 31 (.build w6 [(0,1)]) [30],u 32 (.buildSl 72 2 1 w6 [0]) [31],u 33 (.build w6 [(1,1)]) [32],u 34 (.buildSl 67 2 1 w6 [0]) [33],u 35 (.build w7 [(0,2),(2,8),(21,1)]) [27,28,34],u 36 (.buildSl 63 22 1 w7 [0]) [35],u 37 (.append 63 22 216 w7 false) [23,36],a 38 3 1,s 1 38 37]))) (.reg [m 15 2,o 16 (.bin .add) [t 15,c 1],m 2 16])))))) (R [u 39 (.loadA 6) [1],s 6 0 39] r)))) false false
end
def bI:Nat->aB Go.Sim.IFn
 |7=>some ix7
 |186=>some (iA 168 5 40 [(.int .i64 0),(.int .i64 0),(.int .i64 0),(.bool false),(.int .i64 0)])
 |187=>some (iA 172 5 40 [(.int .i64 0),(.int .i64 0),(.int .i64 0),(.int .i64 0),(.bool false)])
 |188=>some (iA 103 2 24 [(.string ⟨#[]⟩),(.int .i64 0)])
 |_=>none
abbrev n0 (k:Nat) (l:aA (aB Go.Sim.IFn)):aA (aB Go.Sim.IFn):=List.replicate k none++l
def tl2:aA (aB Go.Sim.IFn):=(n0 7 ([some ix7]++(n0 3 ([some (ax p11 true true),some (ax p12 false false)]++(n0 5 ([some pN2]++(n0 3 ([some (ax p22 false false)]++(n0 26 ([some (ax p49 false false),some (ax p50 true false),some (ax p51 false false)]++(n0 54 [some (ax rY1 false false)])))))))))))
def tI:Nat->aA (aB cD)->aA (aB IFn)
 |_,[]=>[]
 |i,none::r=>bI i::tI (i+1) r
 |i,some p::r=>some (Of (kA i) p)::tI (i+1) r
theorem Rp:∀(l:aA (aB cD)) (i j:Nat) (fn:cD),l[j]? =some (some fn)->(tI i l)[j]? =some (some (Of (kA (i+j)) fn))
 |[],i,j,fn,h=>by simp at h
 |none::r,i,0,fn,h=>by simp at h
 |none::r,i,j+1,fn,h=>by
  have:=Rp r (i+1) j fn (by simpa using h)
  rw[show i+1+j=i+(j+1)by omega]at this
  simpa[tI]using this
 |some p::r,i,0,fn,h=>by simp at h;subst h;rfl
 |some p::r,i,j+1,fn,h=>by
  have:=Rp r (i+1) j fn (by simpa using h)
  rw[show i+1+j=i+(j+1)by omega]at this
  simpa[tI]using this
def tl:aA (aB IFn):=tI 0 pl
abbrev Mm:=aA (Nat×aA AV×AV)
def TM (M:Mm):jA:=⟨fun f=>(tl[f]?).join,sL M⟩
abbrev MK:Mm:=[(7,[],.v (.bool true))]
abbrev TBL:jA:=TM MK
def okE (o:aB cD):Bool:=match o with|some fn=>vI kA fn.ntmps false fn.code|none=>true
theorem eH2:pl.all okE=true:=by kernel_rfl
theorem vE1 {M:Mm} (a:∀e∈M,e.1=7) (f:Nat) (fn:cD) (h:Iq f=some fn):TM M f=some (Of (kA f) fn)/\vI kA fn.ntmps false fn.code=true/\∀ys,(TM M).memo f ys=none:=by
 have h1:pl[f]? =some (some fn):=by
  unfold Iq at h;cases hr:Nat.beq f 170 with
  |true=>rw[hr]at h;cases h
  |false=>
  rw[hr,xO2]at h;cases hl:pl[f]? with
  |none=>rw[hl]at h;cases h
  |some o=>rw[hl]at h;cases o with
   |none=>cases h
   |some q=>cases h;rfl
 refine⟨?_,?_,fun ys=>oY (fun e he hf=>?_) ys⟩;have:=Rp pl 0 f fn h1;rw[yP2]at this;show(tl[f]?).join=_
 unfold tl;rw[this];rfl;exact wR2.1 eH2 _ (wT2 h1);rw[a e he]at hf;subst hf;cases h
theorem Rq:∀e∈MK,e.1=7:=by intro e he;rcases yJ2.1 he with rfl;rfl
theorem eI2 (f:Nat) (fn:cD) (h:Iq f=some fn):TBL f=some (Of (kA f) fn)/\vI kA fn.ntmps false fn.code=true/\∀ys,TBL.memo f ys=none:=vE1 Rq f fn h
theorem gF1:Tryz.prog.follows .mixedOrders=true:=by kernel_rfl
theorem eJ2:jB Tryz.prog 0 tl:=jB.of (i:=0) (fs:=Tryz.prog.funcs.toList) rfl (by kernel_rfl)
theorem pO2:jB Tryz.prog 0 tl2:=jB.of (i:=0) (fs:=Tryz.prog.funcs.toList) rfl (by kernel_rfl)
theorem pP2:iB Tryz.prog (TM []):=jB.tab (M:=[]) eJ2 trivial
end
end Go.P
