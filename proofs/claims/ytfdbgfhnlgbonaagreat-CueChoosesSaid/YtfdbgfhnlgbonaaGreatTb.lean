import Derived.Test.YtfdbgfhnlgbonaaGreatGaB
import Derived.Test.YtfdbgfhnlgbonaaGreatChecked
/- A text of the proof. -/
set_option linter.all false
set_option maxRecDepth 100000
set_option maxHeartbeats 2000000
namespace Go.P.V
open Go.Sim
abbrev t (n:Nat):IX:=.t n
abbrev c (n:Int):IX:=.c (.v (.int .i64 n))
abbrev cn:IX:=.c (.v (.slice none 0 0))
abbrev ct:IX:=.c (.v (.bool true))
abbrev cf:IX:=.c (.v (.bool false))
abbrev J (n:Int):Value:=.int .i64 n
abbrev ZS:Value:=.string ⟨#[]⟩
abbrev ZB:Value:=.bool false
abbrev ZN:Value:=.slice none 0 0
abbrev o (d:Nat) (k:gC) (xs:aA IX):Sim.Op1:=⟨some d,k,xs,none⟩
abbrev u (d:Nat) (k:gC) (xs:aA Nat):Sim.Op1:=⟨some d,k,xs.map .t,none⟩
abbrev m (d x:Nat):Sim.Op1:=⟨some d,.mov,[.t x],none⟩
abbrev z (d:Nat) (x:IX):Sim.Op1:=⟨some d,.mov,[x],none⟩
abbrev l (d x:Nat):Sim.Op1:=⟨some d,.loadS,[.t x],none⟩
abbrev a (d k x:Nat):Sim.Op1:=⟨some d,.fad k,[.t x],none⟩
abbrev e (d k x:Nat):Sim.Op1:=⟨some d,.ext k,[.t x],none⟩
abbrev f (d g:Nat) (xs:aA Nat):Sim.Op1:=⟨some d,.callF g,xs.map .t,none⟩
abbrev s (n x y:Nat):Sim.Op1:=⟨none,.store n,[.t x,.t y],none⟩
abbrev R (l:aA Sim.Op1) (b:IC):IC:=.seq (.reg l) b
abbrev q (a b:IC):IC:=.seq a b
abbrev i (n:Nat) (a b:IC):IC:=.cond (.t n) a b
abbrev k:IC:=.skip
abbrev r:IC:=.ret
abbrev X (n:Nat) (l:aA Sim.RV) (c:IC) (p f:Bool):IFn:=⟨n,l,c,p,f⟩
end Go.P.V
namespace Go.P
open Go.Sim (jN kQ nD IFn kG AV vH rH tC nP)
open Go.Proofs
noncomputable section
def ax (p:cO) (a b:Bool):Go.Sim.IFn:={ntmps:=p.ntmps,res:=p.res,body:=lW p.code,pure:=a,frz:=b}
section
open V
abbrev w0:aA Value:=[J 0,J 0]
abbrev w1:aA Value:=[J 0,J 0,J 0,J 0,J 0]
abbrev w2:aA Value:=[ZS,ZB,ZN,ZN,ZN,ZN]
abbrev w3:aA Value:=[J 0,J 0,J 0]
abbrev w4:aA Value:=[J 0,J 0,J 0,ZB,J 0]
abbrev w5:aA Value:=[J 0,J 0,ZS,J 0,J 0,ZN]
abbrev w6:aA Value:=[J 0,J 0,J 0,J 0,J 0,ZN,ZN,J 0,J 0,J 0,ZN,J 0,J 0]
abbrev w7:aA Value:=[J 0,J 0,J 0,J 0,J 0,J 0,J 0,J 0]
abbrev w8:aA Value:=[ZN,ZN]
abbrev w9:aA Value:=[J 0,J 0,J 0,J 0,J 0,J 0,J 0,J 0,J 0,J 0,J 0,J 0,ZB,J 0,J 0,J 0,J 0,J 0,J 0,ZS,ZN,ZN]
def ix5:=X 23 [.tmp 0] (R [z 0 cf] (R [f 4 17 [],o 5 (.build w0 [(0,1),(1,1)]) [c 1,c 2],o 6 (.callF 8) [t 4,c 0,t 5],m 3 6,e 7 0 3,e 8 1 3,m 1 7,m 2 8] (R [m 9 2,o 10 (.bin .eql) [t 9,c 0],m 11 10,⟨some 12,.mov,[t 1],some (11,true)⟩,⟨some 13,.len 0,[t 12],some (11,true)⟩,⟨some 14,.bin .eql,[t 13,c 1],some (11,true)⟩,o 15 (.pick) [t 11,t 14,cf],m 16 15,⟨some 17,.mov,[t 1],some (16,true)⟩,⟨some 18,.iad 5,[t 17,c 0],some (16,true)⟩,⟨some 19,.loadA 5,[t 18],some (16,true)⟩,⟨some 20,.build w1 [(2,1),(3,1)],[c 1,c 1],some (16,true)⟩,⟨some 21,.eqA false [.i,.i,.i,.i,.i],[t 19,t 20],some (16,true)⟩,o 22 (.pick) [t 16,t 21,cf],m 0 22] r))) true true
def vF2:=X 68 [.cellA 0 6] (R [u 0 (.alloc 27 w2) []] (R [o 6 (.build w3 [(2,1)]) [c 4],u 7 (.build w4 [(0,3)]) [6],u 8 (.buildSl 135 5 1 w4 [0]) [7],m 1 8] (R [o 9 (.build w0 [(1,1)]) [c 1],o 10 (.build w0 [(1,1)]) [c 2],o 11 (.build w3 [(0,2),(2,1)]) [t 10,c 1],u 12 (.buildSl 123 3 1 w3 [0]) [11],u 13 (.build w5 [(0,2),(5,1)]) [9,12],o 14 (.build w0 [(1,1)]) [c 3],o 15 (.build w0 [(1,1)]) [c 4],o 16 (.build w3 [(0,2),(2,1)]) [t 15,c 1],u 17 (.buildSl 123 3 1 w3 [0]) [16],u 18 (.build w5 [(0,2),(5,1)]) [14,17],u 19 (.buildSl 109 6 2 w5 [0,1]) [13,18],o 20 (.build w0 [(1,1)]) [c 10],u 21 (.buildSl 51 2 1 w0 [0]) [20],u 22 (.build w2 [(2,1),(5,1)]) [19,21],u 2 (.alloc 27 w2) [],s 6 2 22] (q (R [z 3 (c 0)] (.block 0 (.loop (q (R [m 23 3,o 24 (.bin .lss) [t 23,c 2]] (i 24 k (.exit 0))) (q (.block 1 (R [m 27 3,o 28 (.bin .mul) [c 3,t 27],o 29 (.bin .add) [c 6,t 28],u 30 (.build w0 [(1,1)]) [29],o 31 (.build w6 [(0,2),(2,1)]) [t 30,c 3],u 4 (.alloc 102 w6) [],s 13 4 31] (q (R [m 32 3,o 33 (.bin .eql) [t 32,c 1]] (i 33 (.reg [o 34 (.build w0 [(1,1)]) [c 9],o 35 (.build w0 [(0,1)]) [c 2],m 36 1,o 37 (.build w6 [(0,2),(2,1),(3,2),(5,1)]) [t 34,c 1,t 35,t 36],s 13 4 37]) k)) (R [m 38 3,o 39 (.bin .mul) [c 3,t 38],o 40 (.bin .add) [c 7,t 39],u 41 (.build w0 [(1,1)]) [40],o 42 (.build w0 [(0,1)]) [c 2],m 43 1,o 44 (.build w6 [(0,2),(2,1),(3,2),(5,1)]) [t 41,c 1,t 42,t 43],u 5 (.alloc 102 w6) [],s 13 5 44] (.reg [a 45 3 2,l 46 45,m 47 3,o 48 (.bin .mul) [c 3,t 47],o 49 (.bin .add) [c 5,t 48],u 50 (.build w0 [(1,1)]) [49],o 51 (.build w7 [(0,1),(1,1)]) [c 1,c 4],u 52 (.loadA 13) [4],u 53 (.buildSl 102 13 1 w6 [0]) [52],u 54 (.build w8 [(0,1)]) [53],u 55 (.buildSl 57 2 1 w8 [0]) [54],u 56 (.build w8 [(1,1)]) [55],u 57 (.loadA 13) [5],u 58 (.buildSl 102 13 1 w6 [0]) [57],u 59 (.build w8 [(0,1)]) [58],u 60 (.buildSl 57 2 1 w8 [0]) [59],u 61 (.build w8 [(1,1)]) [60],u 62 (.buildSl 61 2 2 w8 [0,1]) [56,61],u 63 (.build w9 [(0,2),(2,8),(21,1)]) [50,51,62],u 64 (.buildSl 68 22 1 w9 [0]) [63],u 65 (.append 68 22 216 w9 false) [46,64],a 66 3 2,s 1 66 65]))))) (.reg [m 25 3,o 26 (.bin .add) [t 25,c 1],m 3 26])))))) (R [u 67 (.loadA 6) [2],s 6 0 67] r))))) true false
def jL2:Go.Sim.IFn:={iL 135 5 40 [J 0,J 0,J 0,ZB,J 0]with pure:=false,frz:=true}
def jM2:Go.Sim.IFn:={iL 211 5 40 [J 0,J 0,J 0,J 0,ZB]with pure:=false,frz:=true}
def jN2:Go.Sim.IFn:={iL 166 2 24 [ZS,J 0]with pure:=false,frz:=true}
end
def bI:Nat->aB Go.Sim.IFn
 |5=>some ix5
 |203=>some (iL 211 5 40 [(.int .i64 0),(.int .i64 0),(.int .i64 0),(.int .i64 0),(.bool false)])
 |204=>some (iL 166 2 24 [(.string ⟨#[]⟩),(.int .i64 0)])
 |202=>some {iL 135 5 40 [(.int .i64 0),(.int .i64 0),(.int .i64 0),(.bool false),(.int .i64 0)]with pure:=false,frz:=true}
 |_=>none
abbrev n0 (k:Nat) (l:aA (aB Go.Sim.IFn)):aA (aB Go.Sim.IFn):=List.replicate k none++l
def tl2:aA (aB Go.Sim.IFn):=(n0 5 ([some ix5]++(n0 2 ([some (ax p8 true false)]++(n0 8 ([some vF2]++(n0 1 ([some (ax p19 true true),some (ax p20 true true),some (ax p21 true true),some (ax p22 true true),some (ax p23 true true),some (ax p24 true true),some (ax p25 false true),some (ax p26 true false),some (ax p27 false true),some (ax p28 true true),some (ax p29 true true)]++(n0 2 ([some (ax p32 true true)]++(n0 22 ([some (ax p55 true true),some (ax p56 false true),some (ax p57 true true),some (ax p58 true true),some (ax p59 false true),some (ax p60 true true),some (ax p61 true false),some (ax p62 true true)]++(n0 29 ([some (ax p92 true true),some (ax p93 true true),some (ax p94 true true),some (ax p95 true true)]++(n0 1 ([some (ax p97 false true)]++(n0 1 ([some (ax p99 true true)]++(n0 47 ([some (ax bI2 true true),some (ax bJ2 true true)]++(n0 1 ([some (ax gC1 false true)]++(n0 6 ([some (ax bL2 true true),some (ax bM2 true true)]++(n0 43 ([some jL2,some jM2,some jN2]++(n0 4 [some (ax bP2 true true)])))))))))))))))))))))))))))
def tI:Nat->aA (aB cO)->aA (aB IFn)
 |_,[]=>[]
 |i,none::r=>bI i::tI (i+1) r
 |i,some p::r=>some (Tl (mZ i) (Tt i) p)::tI (i+1) r
def Ut:∀(l:aA (aB cO)) (i j:Nat) (fn:cO),l[j]? =some (some fn)->(tI i l)[j]? =some (some (Tl (mZ (i+j)) (Tt (i+j)) fn))
 |[],i,j,fn,h=>by simp at h
 |none::r,i,0,fn,h=>by simp at h
 |none::r,i,j+1,fn,h=>by
  have:=Ut r (i+1) j fn (by simpa using h)
  rw[show i+1+j=i+(j+1)by omega]at this
  simpa[tI]using this
 |some p::r,i,0,fn,h=>by simp at h;subst h;rfl
 |some p::r,i,j+1,fn,h=>by
  have:=Ut r (i+1) j fn (by simpa using h)
  rw[show i+1+j=i+(j+1)by omega]at this
  simpa[tI]using this
def tl:aA (aB IFn):=tI 0 pl
abbrev Mm:=aA (Nat×aA AV×AV)
def TM (M:Mm):kG:=⟨fun f=>(tl[f]?).join,vH M⟩
abbrev MK:Mm:=[(5,[],.v (.bool true))]
abbrev TBL:kG:=TM MK
def okE (o:aB cO):Bool:=match o with|some fn=>yU mZ fn.ntmps false fn.code|none=>true
def jO2:pl.all okE=true:=by kernel_rfl
def jP2 {M:Mm} (a:∀e∈M,e.1=5) (f:Nat) (fn:cO) (h:Rh f=some fn):TM M f=some (Tl (mZ f) (Tt f) fn)/\yU mZ fn.ntmps false fn.code=true/\∀ys,(TM M).memo f ys=none:=by
 have h1:pl[f]? =some (some fn):=by
  unfold Rh at h;cases hl:pl[f]? with
  |none=>rw[hl]at h;cases h
  |some o=>rw[hl]at h;cases o with
   |none=>cases h
   |some q=>cases h;rfl
 refine⟨?_,?_,fun ys=>rH (fun e he hf=>?_) ys⟩;have:=Ut pl 0 f fn h1;rw[bX3]at this;show(tl[f]?).join=_
 unfold tl;rw[this];rfl;exact aD3.1 jO2 _ (aJ3 h1);rw[a e he]at hf;subst hf;cases h
def kI1:∀e∈MK,e.1=5:=by intro e he;rcases List.mem_singleton.1 he with rfl;rfl
def jQ2 (f:Nat) (fn:cO) (h:Rh f=some fn):TBL f=some (Tl (mZ f) (Tt f) fn)/\yU mZ fn.ntmps false fn.code=true/\∀ys,TBL.memo f ys=none:=jP2 kI1 f fn h
def kJ1:Tryz.prog.follows .mixedOrders=true:=by kernel_rfl
def jR2:kQ Tryz.prog 0 tl:=kQ.of (i:=0) (fs:=Tryz.prog.funcs.toList) rfl (by kernel_rfl)
def vG2:kQ Tryz.prog 0 tl2:=kQ.of (i:=0) (fs:=Tryz.prog.funcs.toList) rfl (by kernel_rfl)
def vH2:jN Tryz.prog (TM []):=kQ.tab (M:=[]) jR2 trivial
end
end Go.P
