import Derived.Test.YtlmhifhgadmigaaGreatGaB
import Derived.Test.YtlmhifhgadmigaaGreatChecked
/- A text of the proof. -/
set_option linter.all false
set_option maxRecDepth 100000
set_option maxHeartbeats 2000000
namespace Go.P.V
open Go.Sim
abbrev t (n:Nat):IX:=.t n
abbrev c (n:Int):IX:=.c (.v (.int .i64 n))
abbrev cn:IX:=.c (.v (.slice none 0 0))
abbrev ct:IX:=.c (.v (.bool true))
abbrev cf:IX:=.c (.v (.bool false))
abbrev J (n:Int):Value:=.int .i64 n
abbrev ZS:Value:=.string ⟨#[]⟩
abbrev ZB:Value:=.bool false
abbrev ZN:Value:=.slice none 0 0
abbrev o (d:Nat) (k:dW) (xs:aA IX):Sim.Op1:=⟨some d,k,xs,none⟩
abbrev u (d:Nat) (k:dW) (xs:aA Nat):Sim.Op1:=⟨some d,k,xs.map .t,none⟩
abbrev m (d x:Nat):Sim.Op1:=⟨some d,.mov,[.t x],none⟩
abbrev z (d:Nat) (x:IX):Sim.Op1:=⟨some d,.mov,[x],none⟩
abbrev l (d x:Nat):Sim.Op1:=⟨some d,.loadS,[.t x],none⟩
abbrev a (d k x:Nat):Sim.Op1:=⟨some d,.fad k,[.t x],none⟩
abbrev e (d k x:Nat):Sim.Op1:=⟨some d,.ext k,[.t x],none⟩
abbrev f (d g:Nat) (xs:aA Nat):Sim.Op1:=⟨some d,.callF g,xs.map .t,none⟩
abbrev s (n x y:Nat):Sim.Op1:=⟨none,.store n,[.t x,.t y],none⟩
abbrev R (l:aA Sim.Op1) (b:IC):IC:=.seq (.reg l) b
abbrev q (a b:IC):IC:=.seq a b
abbrev i (n:Nat) (a b:IC):IC:=.cond (.t n) a b
abbrev k:IC:=.skip
abbrev r:IC:=.ret
abbrev X (n:Nat) (l:aA Sim.RV) (c:IC) (p f:Bool):IFn:=⟨n,l,c,p,f⟩
end Go.P.V
namespace Go.P
open Go.Sim (fL gI iT IFn gH AV pF mI nL jG)
open Go.Proofs
noncomputable section
def ax (p:bL) (a b:Bool):Go.Sim.IFn:={ntmps:=p.ntmps,res:=p.res,body:=iG p.code,pure:=a,frz:=b}
section
open V
abbrev w0:aA Value:=[ZS,ZB,ZN,ZN,ZN,ZN]
abbrev w1:aA Value:=[J 0,J 0]
abbrev w2:aA Value:=[J 0,J 0,J 0]
abbrev w3:aA Value:=[J 0,J 0,ZS,J 0,J 0,ZN]
abbrev w4:aA Value:=[J 0,J 0,J 0,J 0,J 0,ZN,ZN,J 0,J 0,J 0,ZN,J 0,J 0]
abbrev w5:aA Value:=[J 0,J 0,J 0,ZB,J 0]
abbrev w6:aA Value:=[J 0,J 0,J 0,J 0,J 0,J 0,J 0,J 0]
abbrev w7:aA Value:=[ZN,ZN]
abbrev w8:aA Value:=[J 0,J 0,J 0,J 0,J 0,J 0,J 0,J 0,J 0,J 0,J 0,J 0,ZB,J 0,J 0,J 0,J 0,J 0,J 0,ZS,ZN,ZN]
def ix5:=X 58 [.tmp 0] (R [z 0 cf] (R [f 6 13 [],u 1 (.alloc 27 w0) [],s 6 1 6] (R [u 8 (.loadA 6) [1],f 9 14 [8],m 7 9,e 10 0 7,e 11 1 7,m 2 10,m 3 11] (R [u 13 (.loadA 6) [1],f 14 8 [13],m 12 14,e 15 0 12,e 16 1 12,m 4 15,m 5 16] (R [m 17 3,o 18 (.bin .eql) [t 17,c 0],m 19 18,⟨some 20,.mov,[t 2],some (19,true)⟩,⟨some 21,.len 0,[t 20],some (19,true)⟩,⟨some 22,.bin .eql,[t 21,c 1],some (19,true)⟩,o 23 (.pick) [t 19,t 22,cf],m 24 23,⟨some 25,.mov,[t 2],some (24,true)⟩,⟨some 26,.iad 2,[t 25,c 0],some (24,true)⟩,⟨some 27,.loadA 2,[t 26],some (24,true)⟩,⟨some 28,.build w1 [(0,1),(1,1)],[c 1,c 3],some (24,true)⟩,⟨some 29,.eqA false [.i,.i],[t 27,t 28],some (24,true)⟩,o 30 (.pick) [t 24,t 29,cf],m 31 30,⟨some 32,.mov,[t 5],some (31,true)⟩,⟨some 33,.bin .eql,[t 32,c 0],some (31,true)⟩,o 34 (.pick) [t 31,t 33,cf],m 35 34,⟨some 36,.mov,[t 4],some (35,true)⟩,⟨some 37,.len 0,[t 36],some (35,true)⟩,⟨some 38,.bin .eql,[t 37,c 3],some (35,true)⟩,o 39 (.pick) [t 35,t 38,cf],m 40 39,⟨some 41,.mov,[t 4],some (40,true)⟩,⟨some 42,.iad 1,[t 41,c 0],some (40,true)⟩,⟨some 43,.loadS,[t 42],some (40,true)⟩,⟨some 44,.bin .eql,[t 43,c 0],some (40,true)⟩,o 45 (.pick) [t 40,t 44,cf],m 46 45,⟨some 47,.mov,[t 4],some (46,true)⟩,⟨some 48,.iad 1,[t 47,c 1],some (46,true)⟩,⟨some 49,.loadS,[t 48],some (46,true)⟩,⟨some 50,.bin .eql,[t 49,c 1],some (46,true)⟩,o 51 (.pick) [t 46,t 50,cf],m 52 51,⟨some 53,.mov,[t 4],some (52,true)⟩,⟨some 54,.iad 1,[t 53,c 2],some (52,true)⟩,⟨some 55,.loadS,[t 54],some (52,true)⟩,⟨some 56,.bin .eql,[t 55,c 4],some (52,true)⟩,o 57 (.pick) [t 52,t 56,cf],m 0 57] r))))) true true
def iW2:=X 51 [.cellA 0 6] (R [u 0 (.alloc 27 w0) []] (R [o 4 (.build w1 [(1,1)]) [c 1],o 5 (.build w1 [(1,1)]) [c 2],o 6 (.build w2 [(0,2),(2,1)]) [t 5,c 1],u 7 (.buildSl 97 3 1 w2 [0]) [6],u 8 (.build w3 [(0,2),(5,1)]) [4,7],u 9 (.buildSl 58 6 1 w3 [0]) [8],o 10 (.build w1 [(1,1)]) [c 12],u 11 (.buildSl 39 2 1 w1 [0]) [10],u 12 (.build w0 [(2,1),(5,1)]) [9,11],u 1 (.alloc 27 w0) [],s 6 1 12] (q (R [z 2 (c 0)] (.block 0 (.loop (q (R [m 13 2,o 14 (.bin .lss) [t 13,c 5]] (i 14 k (.exit 0))) (q (.block 1 (R [m 17 2,o 18 (.bin .mul) [c 2,t 17],o 19 (.bin .add) [c 4,t 18],u 20 (.build w1 [(1,1)]) [19],o 21 (.build w4 [(0,2),(2,1)]) [t 20,c 3],u 3 (.alloc 104 w4) [],s 13 3 21] (q (R [m 22 2,o 23 (.bin .eql) [t 22,c 0],m 24 23,⟨some 25,.mov,[t 2],some (24,false)⟩,⟨some 26,.bin .eql,[t 25,c 4],some (24,false)⟩,o 27 (.pick) [t 24,ct,t 26]] (i 27 (.reg [o 28 (.build w2 [(2,1)]) [c 4],u 29 (.build w5 [(0,3)]) [28],u 30 (.buildSl 108 5 1 w5 [0]) [29],a 31 2 3,⟨none,.store 1,[t 31,c 1],none⟩,a 32 5 3,s 1 32 30]) k)) (.reg [a 33 3 1,l 34 33,m 35 2,o 36 (.bin .mul) [c 2,t 35],o 37 (.bin .add) [c 3,t 36],u 38 (.build w1 [(1,1)]) [37],o 39 (.build w6 [(0,1),(1,1)]) [c 4,c 4],u 40 (.loadA 13) [3],u 41 (.buildSl 104 13 1 w4 [0]) [40],u 42 (.build w7 [(0,1)]) [41],u 43 (.buildSl 74 2 1 w7 [0]) [42],u 44 (.build w7 [(1,1)]) [43],u 45 (.buildSl 69 2 1 w7 [0]) [44],u 46 (.build w8 [(0,2),(2,8),(21,1)]) [38,39,45],u 47 (.buildSl 65 22 1 w8 [0]) [46],u 48 (.append 65 22 216 w8 false) [34,47],a 49 3 1,s 1 49 48])))) (.reg [m 15 2,o 16 (.bin .add) [t 15,c 1],m 2 16])))))) (R [u 50 (.loadA 6) [1],s 6 0 50] r)))) false true
def iX2:=X 10 [.tmp 2,.tmp 3] (R [u 1 (.box 27 6) [0],z 2 cn,z 3 (c 0)] (q (R [u 4 (.loadA 6) [1],f 5 7 [4],u 6 (.un .not) [5]] (i 6 (R [z 2 cn,z 3 (c 24)] r) k)) (R [u 7 (.loadA 6) [1],f 8 28 [7],f 9 27 [8],m 2 9,z 3 (c 0)] r))) true false
end
def bI:Nat->aB Go.Sim.IFn
 |5=>some ix5
 |193=>some (fK 108 5 40 [(.int .i64 0),(.int .i64 0),(.int .i64 0),(.bool false),(.int .i64 0)])
 |194=>some (fK 167 5 40 [(.int .i64 0),(.int .i64 0),(.int .i64 0),(.int .i64 0),(.bool false)])
 |195=>some (fK 114 2 24 [(.string ⟨#[]⟩),(.int .i64 0)])
 |_=>none
abbrev n0 (k:Nat) (l:aA (aB Go.Sim.IFn)):aA (aB Go.Sim.IFn):=List.replicate k none++l
def tl2:aA (aB Go.Sim.IFn):=(n0 5 ([some ix5]++(n0 1 ([some (ax p7 true true),some (ax p8 true false)]++(n0 4 ([some iW2,some iX2]++(n0 3 ([some (ax p18 true false)]++(n0 8 ([some (ax p27 false true),some (ax p28 false true)]++(n0 17 ([some (ax p46 true true)]++(n0 7 ([some (ax p54 false true),some (ax p55 false true),some (ax p56 false true),some (ax p57 false true),some (ax p58 true true)]++(n0 44 ([some (ax pG1 true true),some (ax pH1 true true)]++(n0 8 ([some (ax pL1 false true),some (ax pM1 false true),some (ax pN1 false true),some (ax pO1 true true),some (ax pP1 false true),some (ax pQ1 true true),some (ax kA1 false true),some (ax pR1 false true),some (ax pS1 true true),some (ax pT1 true true)]++(n0 9 ([some (ax pU1 true true)]++(n0 40 ([some (ax pW1 true true),some (ax pX1 true true),some (ax pY1 true true),some (ax pZ1 true true),some (ax pF1 true true),some (ax kB1 false true),some (ax qA1 true true)]++(n0 3 ([some (ax qB1 true true)]++(n0 25 [some (ax qD1 true true),some (ax qE1 true true)])))))))))))))))))))))))))
def tI:Nat->aA (aB bL)->aA (aB IFn)
 |_,[]=>[]
 |i,none::r=>bI i::tI (i+1) r
 |i,some p::r=>some (Iu (iI i) p)::tI (i+1) r
theorem Lv:∀(l:aA (aB bL)) (i j:Nat) (fn:bL),l[j]? =some (some fn)->(tI i l)[j]? =some (some (Iu (iI (i+j)) fn))
 |[],i,j,fn,h=>by simp at h
 |none::r,i,0,fn,h=>by simp at h
 |none::r,i,j+1,fn,h=>by
  have:=Lv r (i+1) j fn (by simpa using h)
  rw[show i+1+j=i+(j+1)by omega]at this
  simpa[tI]using this
 |some p::r,i,0,fn,h=>by simp at h;subst h;rfl
 |some p::r,i,j+1,fn,h=>by
  have:=Lv r (i+1) j fn (by simpa using h)
  rw[show i+1+j=i+(j+1)by omega]at this
  simpa[tI]using this
def tl:aA (aB IFn):=tI 0 pl
abbrev Mm:=aA (Nat×aA AV×AV)
def TM (M:Mm):gH:=⟨fun f=>(tl[f]?).join,pF M⟩
abbrev MK:Mm:=[(5,[],.v (.bool true))]
abbrev TBL:gH:=TM MK
def okE (o:aB bL):Bool:=match o with|some fn=>rW iI fn.ntmps false fn.code|none=>true
theorem xE1:pl.all okE=true:=by kernel_rfl
theorem nV1 {M:Mm} (a:∀e∈M,e.1=5) (f:Nat) (fn:bL) (h:Fa f=some fn):TM M f=some (Iu (iI f) fn)/\rW iI fn.ntmps false fn.code=true/\∀ys,(TM M).memo f ys=none:=by
 have h1:pl[f]? =some (some fn):=by
  unfold Fa at h;cases hr:Nat.beq f 208 with
  |true=>rw[hr]at h;cases h
  |false=>
  rw[hr,qS2]at h;cases hl:pl[f]? with
  |none=>rw[hl]at h;cases h
  |some o=>rw[hl]at h;cases o with
   |none=>cases h
   |some q=>cases h;rfl
 refine⟨?_,?_,fun ys=>mI (fun e he hf=>?_) ys⟩;have:=Lv pl 0 f fn h1;rw[rP2]at this;show(tl[f]?).join=_
 unfold tl;rw[this];rfl;exact pX2.1 xE1 _ (pZ2 h1);rw[a e he]at hf;subst hf;cases h
theorem Lw:∀e∈MK,e.1=5:=by intro e he;rcases sK2.1 he with rfl;rfl
theorem xF1 (f:Nat) (fn:bL) (h:Fa f=some fn):TBL f=some (Iu (iI f) fn)/\rW iI fn.ntmps false fn.code=true/\∀ys,TBL.memo f ys=none:=nV1 Lw f fn h
theorem Yo:Tryz.prog.follows .mixedOrders=true:=by kernel_rfl
theorem xG1:gI Tryz.prog 0 tl:=gI.of (i:=0) (fs:=Tryz.prog.funcs.toList) rfl (by kernel_rfl)
theorem iY2:gI Tryz.prog 0 tl2:=gI.of (i:=0) (fs:=Tryz.prog.funcs.toList) rfl (by kernel_rfl)
theorem iZ2:fL Tryz.prog (TM []):=gI.tab (M:=[]) xG1 trivial
end
end Go.P
