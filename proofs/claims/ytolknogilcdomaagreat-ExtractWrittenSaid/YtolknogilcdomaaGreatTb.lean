import Derived.Test.YtolknogilcdomaaGreatGaB
import Derived.Test.YtolknogilcdomaaGreatChecked
/- A text of the proof. -/
set_option linter.all false
set_option maxRecDepth 100000
set_option maxHeartbeats 2000000
namespace Go.P.V
open Go.Sim
abbrev t (n:Nat):IX:=.t n
abbrev c (n:Int):IX:=.c (.v (.int .i64 n))
abbrev cn:IX:=.c (.v (.slice none 0 0))
abbrev ct:IX:=.c (.v (.bool true))
abbrev cf:IX:=.c (.v (.bool false))
abbrev J (n:Int):Value:=.int .i64 n
abbrev ZS:Value:=.string ⟨#[]⟩
abbrev ZB:Value:=.bool false
abbrev ZN:Value:=.slice none 0 0
abbrev o (d:Nat) (k:iV) (xs:aA IX):Sim.Op1:=⟨some d,k,xs,none⟩
abbrev u (d:Nat) (k:iV) (xs:aA Nat):Sim.Op1:=⟨some d,k,xs.map .t,none⟩
abbrev m (d x:Nat):Sim.Op1:=⟨some d,.mov,[.t x],none⟩
abbrev z (d:Nat) (x:IX):Sim.Op1:=⟨some d,.mov,[x],none⟩
abbrev l (d x:Nat):Sim.Op1:=⟨some d,.loadS,[.t x],none⟩
abbrev a (d k x:Nat):Sim.Op1:=⟨some d,.fad k,[.t x],none⟩
abbrev e (d k x:Nat):Sim.Op1:=⟨some d,.ext k,[.t x],none⟩
abbrev f (d g:Nat) (xs:aA Nat):Sim.Op1:=⟨some d,.callF g,xs.map .t,none⟩
abbrev s (n x y:Nat):Sim.Op1:=⟨none,.store n,[.t x,.t y],none⟩
abbrev R (l:aA Sim.Op1) (b:IC):IC:=.seq (.reg l) b
abbrev q (a b:IC):IC:=.seq a b
abbrev i (n:Nat) (a b:IC):IC:=.cond (.t n) a b
abbrev k:IC:=.skip
abbrev r:IC:=.ret
abbrev X (n:Nat) (l:aA Sim.RV) (c:IC) (p f:Bool):IFn:=⟨n,l,c,p,f⟩
end Go.P.V
namespace Go.P
open Go.Sim (kJ lP nY IFn mO AV vJ rU tK nM)
open Go.Proofs
noncomputable section
def ax (p:cQ) (a b:Bool):Go.Sim.IFn:={ntmps:=p.ntmps,res:=p.res,body:=mY p.code,pure:=a,frz:=b}
section
open V
abbrev w0:aA Value:=[ZS,ZB,ZN,ZN,ZN,ZN]
abbrev w1:aA Value:=[J 0,J 0]
abbrev w2:aA Value:=[J 0,J 0,J 0]
abbrev w3:aA Value:=[J 0,J 0,J 0,J 0,J 0,J 0,J 0,J 0,J 0,J 0,J 0,J 0,ZB,J 0,J 0,J 0,J 0,J 0,J 0,ZS,ZN,ZN]
abbrev w4:aA Value:=[J 0,J 0,J 0,ZB,J 0]
abbrev w5:aA Value:=[J 0,J 0,J 0,J 0,J 0,ZN,ZN,J 0,J 0,J 0,ZN,J 0,J 0]
abbrev w6:aA Value:=[J 0,J 0,J 0,J 0,J 0,J 0,J 0,J 0]
abbrev w7:aA Value:=[ZN,ZN]
abbrev w8:aA Value:=[J 0,J 0,ZS,J 0,J 0,ZN]
def ix5:=X 118 [.tmp 0] (R [z 0 cf] (R [o 9 (.callF 15) [c (-2)],f 10 6 [9],m 8 10,e 11 0 8,e 12 1 8,u 1 (.alloc 27 w0) [],s 6 1 11,m 2 12] (R [o 14 (.callF 15) [c 6],o 15 (.callF 16) [t 14,c 0],m 13 15,e 16 0 13,e 17 1 13,u 3 (.alloc 38 w1) [],s 2 3 16,m 4 17] (R [o 19 (.callF 15) [c 6],o 20 (.callF 17) [t 19,c 0],m 18 20,e 21 0 18,e 22 1 18,m 5 21,m 6 22] (q (R [m 23 2,o 24 (.bin .neq) [t 23,c 0],m 25 24,⟨some 26,.fad 1,[t 1],some (25,false)⟩,⟨some 27,.loadS,[t 26],some (25,false)⟩,⟨some 28,.un .not,[t 27],some (25,false)⟩,o 29 (.pick) [t 25,ct,t 28],m 30 29,⟨some 31,.fad 3,[t 1],some (30,false)⟩,⟨some 32,.loadS,[t 31],some (30,false)⟩,⟨some 33,.len 0,[t 32],some (30,false)⟩,⟨some 34,.bin .neq,[t 33,c 1],some (30,false)⟩,o 35 (.pick) [t 30,ct,t 34],m 36 35,⟨some 37,.mov,[t 4],some (36,false)⟩,⟨some 38,.bin .neq,[t 37,c 0],some (36,false)⟩,o 39 (.pick) [t 36,ct,t 38],m 40 39,⟨some 41,.loadA 2,[t 3],some (40,false)⟩,⟨some 42,.build w1 [(0,1),(1,1)],[c 2,c 2],some (40,false)⟩,⟨some 43,.eqA true [.i,.i],[t 41,t 42],some (40,false)⟩,o 44 (.pick) [t 40,ct,t 43],m 45 44,⟨some 46,.mov,[t 6],some (45,false)⟩,⟨some 47,.bin .neq,[t 46,c 0],some (45,false)⟩,o 48 (.pick) [t 45,ct,t 47],m 49 48,⟨some 50,.mov,[t 5],some (49,false)⟩,⟨some 51,.len 0,[t 50],some (49,false)⟩,⟨some 52,.bin .neq,[t 51,c 1],some (49,false)⟩,o 53 (.pick) [t 49,ct,t 52],m 54 53,⟨some 55,.mov,[t 5],some (54,false)⟩,⟨some 56,.iad 1,[t 55,c 0],some (54,false)⟩,⟨some 57,.loadS,[t 56],some (54,false)⟩,⟨some 58,.bin .neq,[t 57,c (-4)],some (54,false)⟩,o 59 (.pick) [t 54,ct,t 58]] (i 59 (R [z 0 cf] r) k)) (R [a 60 3 1,l 61 60,o 62 (.iad 22) [t 61,c 0],a 63 21 62,l 64 63,m 7 64] (R [m 65 7,u 66 (.len 0) [65],o 67 (.bin .eql) [t 66,c 1],m 68 67,⟨some 69,.mov,[t 7],some (68,true)⟩,⟨some 70,.iad 2,[t 69,c 0],some (68,true)⟩,⟨some 71,.fad 1,[t 70],some (68,true)⟩,⟨some 72,.loadS,[t 71],some (68,true)⟩,⟨some 73,.len 0,[t 72],some (68,true)⟩,⟨some 74,.bin .eql,[t 73,c 1],some (68,true)⟩,o 75 (.pick) [t 68,t 74,cf],m 76 75,⟨some 77,.mov,[t 7],some (76,true)⟩,⟨some 78,.iad 2,[t 77,c 0],some (76,true)⟩,⟨some 79,.fad 1,[t 78],some (76,true)⟩,⟨some 80,.loadS,[t 79],some (76,true)⟩,⟨some 81,.iad 2,[t 80,c 0],some (76,true)⟩,⟨some 82,.fad 0,[t 81],some (76,true)⟩,⟨some 83,.loadS,[t 82],some (76,true)⟩,⟨some 84,.len 0,[t 83],some (76,true)⟩,⟨some 85,.bin .eql,[t 84,c 1],some (76,true)⟩,o 86 (.pick) [t 76,t 85,cf],m 87 86,⟨some 88,.mov,[t 7],some (87,true)⟩,⟨some 89,.iad 2,[t 88,c 0],some (87,true)⟩,⟨some 90,.fad 1,[t 89],some (87,true)⟩,⟨some 91,.loadS,[t 90],some (87,true)⟩,⟨some 92,.iad 2,[t 91,c 0],some (87,true)⟩,⟨some 93,.fad 0,[t 92],some (87,true)⟩,⟨some 94,.loadS,[t 93],some (87,true)⟩,⟨some 95,.iad 13,[t 94,c 0],some (87,true)⟩,⟨some 96,.fad 5,[t 95],some (87,true)⟩,⟨some 97,.loadS,[t 96],some (87,true)⟩,⟨some 98,.len 0,[t 97],some (87,true)⟩,⟨some 99,.bin .eql,[t 98,c 1],some (87,true)⟩,o 100 (.pick) [t 87,t 99,cf],m 101 100,⟨some 102,.mov,[t 7],some (101,true)⟩,⟨some 103,.iad 2,[t 102,c 0],some (101,true)⟩,⟨some 104,.fad 1,[t 103],some (101,true)⟩,⟨some 105,.loadS,[t 104],some (101,true)⟩,⟨some 106,.iad 2,[t 105,c 0],some (101,true)⟩,⟨some 107,.fad 0,[t 106],some (101,true)⟩,⟨some 108,.loadS,[t 107],some (101,true)⟩,⟨some 109,.iad 13,[t 108,c 0],some (101,true)⟩,⟨some 110,.fad 5,[t 109],some (101,true)⟩,⟨some 111,.loadS,[t 110],some (101,true)⟩,⟨some 112,.iad 5,[t 111,c 0],some (101,true)⟩,⟨some 113,.fad 0,[t 112],some (101,true)⟩,⟨some 114,.loadA 3,[t 113],some (101,true)⟩,⟨some 115,.build w2 [(2,1)],[c 4],some (101,true)⟩,⟨some 116,.eqA false [.i,.i,.i],[t 114,t 115],some (101,true)⟩,o 117 (.pick) [t 101,t 116,cf],m 0 117] r))))))) true true
def yM2:=X 19 [.cellA 4 2,.tmp 5] (R [u 2 (.box 27 6) [0],u 4 (.alloc 38 w1) [],z 5 (c 0)] (q (R [u 7 (.loadA 6) [2],m 8 1,f 9 32 [7,8],m 6 9] (R [m 10 6,o 11 (.bin .neq) [t 10,c 0]] (i 11 (R [u 12 (.build w1 []) [],m 13 6,s 2 4 12,m 5 13] r) k))) (R [u 14 (.loadA 6) [2],m 15 1,f 16 33 [14,15],e 17 0 16,e 18 1 16,s 2 4 17,m 5 18] r))) true true
def yN2:=X 51 [.tmp 4,.tmp 5] (R [u 2 (.box 27 6) [0],z 4 cn,z 5 (c 0)] (R [u 13 (.loadA 6) [2],m 14 1,f 15 16 [13,14],m 12 15,e 16 0 12,e 17 1 12,u 6 (.alloc 38 w1) [],s 2 6 16,m 7 17] (q (R [m 18 7,o 19 (.bin .neq) [t 18,c 0]] (i 19 (R [m 20 7,z 4 cn,m 5 20] r) k)) (R [a 21 3 2,l 22 21,u 23 (.len 0) [22],o 24 (.mksl 3 1 8 [J 0]) [c 0,t 23],m 8 24] (q (R [a 25 3 2,l 26 25,u 27 (.len 0) [26],z 28 (c 0)] (.block 0 (.loop (R [u 29 (.bin .lss) [28,27]] (q (i 29 k (.exit 0)) (q (.block 1 (R [u 30 (.iad 22) [26,28],u 31 (.loadA 22) [30],u 10 (.alloc 48 w3) [],s 22 10 31] (R [a 32 11 10,l 33 32,u 34 (.loadA 2) [6],f 35 34 [33,34],m 11 35] (q (R [a 36 1 2,l 37 36] (i 37 (.reg [a 39 11 10,l 40 39,u 41 (.loadA 2) [6],f 42 35 [40,41],m 38 42,e 43 0 38,e 44 1 38,m 11 43]) k)) (.reg [m 45 8,m 46 11,u 47 (.buildSl 3 1 1 [J 0] [0]) [46],u 48 (.append 3 1 8 [J 0] false) [45,47],m 8 48]))))) (.reg [o 49 (.bin .add) [t 28,c 1],m 28 49]))))))) (R [m 50 8,m 4 50,z 5 (c 0)] r)))))) true false
def yO2:=X 33 [.cellA 2 6] (R [u 2 (.alloc 27 w0) []] (R [o 5 (.build w1 [(1,1)]) [c 4],o 6 (.build w1 [(0,1)]) [c 0],o 7 (.build w2 [(0,1),(1,1),(2,1)]) [c 6,c (-1),c 3],u 8 (.build w4 [(0,3)]) [7],u 9 (.buildSl 75 5 1 w4 [0]) [8],o 10 (.build w5 [(0,2),(2,1),(3,2),(5,1)]) [t 5,c 1,t 6,t 9],u 3 (.alloc 71 w5) [],s 13 3 10] (R [o 11 (.build w1 [(1,1)]) [c 3],o 12 (.build w6 [(0,1),(1,1)]) [c 4,c 4],m 13 0,u 14 (.loadA 13) [3],u 15 (.buildSl 71 13 1 w5 [0]) [14],u 16 (.build w7 [(0,1)]) [15],u 17 (.buildSl 57 2 1 w7 [0]) [16],u 18 (.build w7 [(1,1)]) [17],u 19 (.buildSl 52 2 1 w7 [0]) [18],u 20 (.build w3 [(0,2),(2,8),(11,1),(21,1)]) [11,12,13,19],u 4 (.alloc 48 w3) [],s 22 4 20] (R [o 21 (.build w1 [(1,1)]) [c 1],o 22 (.build w1 [(0,1),(1,1)]) [c 1,c 2],o 23 (.build w1 [(1,1)]) [c 2],o 24 (.build w2 [(0,2),(2,1)]) [t 23,c 1],u 25 (.buildSl 87 3 1 w2 [0]) [24],u 26 (.build w8 [(0,2),(3,2),(5,1)]) [21,22,25],u 27 (.buildSl 41 6 1 w8 [0]) [26],u 28 (.loadA 22) [4],u 29 (.buildSl 48 22 1 w3 [0]) [28],o 30 (.build w1 [(1,1)]) [c 4],u 31 (.buildSl 36 2 1 w1 [0]) [30],u 32 (.build w0 [(2,1),(3,1),(5,1)]) [27,29,31],s 6 2 32] r)))) true false
def yP2:=X 17 [.tmp 4] (R [u 2 (.box 27 6) [0],z 4 (c 0)] (q (R [u 5 (.loadA 6) [2],f 6 8 [5],u 7 (.un .not) [6]] (i 7 (R [z 4 (c 24)] r) k)) (q (R [m 8 1,o 9 (.bin .lss) [t 8,c 0],m 10 9,⟨some 11,.mov,[t 1],some (10,false)⟩,⟨some 12,.fad 2,[t 2],some (10,false)⟩,⟨some 13,.loadS,[t 12],some (10,false)⟩,⟨some 14,.len 0,[t 13],some (10,false)⟩,⟨some 15,.bin .geq,[t 11,t 14],some (10,false)⟩,o 16 (.pick) [t 10,ct,t 15]] (i 16 (R [z 4 (c 2)] r) k)) (R [z 4 (c 0)] r)))) true true
def yQ2:Go.Sim.IFn:={eP 94 7 56 [J 0,J 0,J 0,J 0,J 0,J 0,J 0]with pure:=false,frz:=true}
def yR2:Go.Sim.IFn:={eP 36 2 16 [J 0,J 0]with pure:=false,frz:=true}
def yS2:Go.Sim.IFn:={eP 87 3 24 [J 0,J 0,J 0]with pure:=false,frz:=true}
def yT2:Go.Sim.IFn:={eP 128 3 24 [J 0,J 0,ZB]with pure:=false,frz:=true}
def lQ2:Go.Sim.IFn:={eP 155 2 16 [J 0,J 0]with pure:=false,frz:=true}
def lR2:Go.Sim.IFn:={eP 75 5 40 [J 0,J 0,J 0,ZB,J 0]with pure:=false,frz:=true}
def lS2:Go.Sim.IFn:={eP 110 5 40 [J 0,J 0,J 0,J 0,ZB]with pure:=false,frz:=true}
def lT2:Go.Sim.IFn:={eP 97 2 24 [ZS,J 0]with pure:=false,frz:=true}
end
def bI:Nat->aB Go.Sim.IFn
 |5=>some ix5
 |38=>some (eP 94 7 56 [.int .i64 0,.int .i64 0,.int .i64 0,.int .i64 0,.int .i64 0,.int .i64 0,.int .i64 0])
 |39=>some (eP 36 2 16 [.int .i64 0,.int .i64 0])
 |69=>some (eP 87 3 24 [.int .i64 0,.int .i64 0,.int .i64 0])
 |70=>some (eP 128 3 24 [.int .i64 0,.int .i64 0,.bool false])
 |129=>some (eP 155 2 16 [.int .i64 0,.int .i64 0])
 |207=>some {eP 75 5 40 [.int .i64 0,.int .i64 0,.int .i64 0,.bool false,.int .i64 0]with pure:=false,frz:=true}
 |208=>some {eP 110 5 40 [.int .i64 0,.int .i64 0,.int .i64 0,.int .i64 0,.bool false]with pure:=false,frz:=true}
 |209=>some {eP 97 2 24 [(.string ⟨#[]⟩),.int .i64 0]with pure:=false,frz:=true}
 |_=>none
abbrev n0 (k:Nat) (l:aA (aB Go.Sim.IFn)):aA (aB Go.Sim.IFn):=List.replicate k none++l
def tl2:aA (aB Go.Sim.IFn):=(n0 5 ([some ix5,some (ax p6 true false)]++(n0 1 ([some (ax p8 true true)]++(n0 6 ([some yO2,some yM2,some yN2,some (ax p18 true false),some (ax p19 false true),some (ax p20 false true),some (ax p21 false true)]++(n0 10 ([some yP2,some (ax p33 true true),some (ax p34 true true)]++(n0 1 ([some (ax p36 false true),some (ax p37 false true),some yQ2,some yR2,some (ax p40 false true),some (ax p41 true true),some (ax p42 true true),some (ax p43 true true)]++(n0 23 ([some (ax p67 true true),some (ax p68 true true),some yS2,some yT2,some (ax p71 false true),some (ax p72 true true),some (ax p73 true false),some (ax p74 true true),some (ax p75 true true),some (ax p76 true true),some (ax p77 true true)]++(n0 3 ([some (ax p81 true true)]++(n0 18 ([some (ax cZ2 true true)]++(n0 18 ([some (ax dB2 true true)]++(n0 7 ([some (ax dC2 true false),some (ax dD2 true true),some lQ2,some (ax xX1 false true),some (ax dE2 true true),some (ax xY1 true false),some (ax xZ1 true true),some (ax dF2 true true)]++(n0 22 ([some (ax dG2 true true),some (ax dH2 true true)]++(n0 6 ([some (ax yB1 false true)]++(n0 11 ([some (ax dI2 true true)]++(n0 5 ([some (ax xV1 true false),some (ax dJ2 true true),some (ax dK2 true true),some (ax dL2 true true),some (ax dM2 true true),some (ax xW1 true true),some (ax dN2 true true)]++(n0 17 ([some lR2,some lS2,some lT2]++(n0 9 ([some (ax dO2 true true),some (ax yD1 true true)]++(n0 8 [some (ax dP2 true true)])))))))))))))))))))))))))))))))))
def tI:Nat->aA (aB cQ)->aA (aB IFn)
 |_,[]=>[]
 |i,none::r=>bI i::tI (i+1) r
 |i,some p::r=>some (Uv (oA i) (Lz i) p)::tI (i+1) r
def Vv:∀(l:aA (aB cQ)) (i j:Nat) (fn:cQ),l[j]? =some (some fn)->(tI i l)[j]? =some (some (Uv (oA (i+j)) (Lz (i+j)) fn))
 |[],i,j,fn,h=>by simp at h
 |none::r,i,0,fn,h=>by simp at h
 |none::r,i,j+1,fn,h=>by
  have:=Vv r (i+1) j fn (by simpa using h)
  rw[show i+1+j=i+(j+1)by omega]at this
  simpa[tI]using this
 |some p::r,i,0,fn,h=>by simp at h;subst h;rfl
 |some p::r,i,j+1,fn,h=>by
  have:=Vv r (i+1) j fn (by simpa using h)
  rw[show i+1+j=i+(j+1)by omega]at this
  simpa[tI]using this
def tl:aA (aB IFn):=tI 0 pl
abbrev Mm:=aA (Nat×aA AV×AV)
def TM (M:Mm):mO:=⟨fun f=>(tl[f]?).join,vJ M⟩
abbrev MK:Mm:=[(5,[],.v (.bool true))]
abbrev TBL:mO:=TM MK
def okE (o:aB cQ):Bool:=match o with|some fn=>zI oA fn.ntmps false fn.code|none=>true
def lU2:pl.all okE=true:=by kernel_rfl
def aX2 {M:Mm} (a:∀e∈M,e.1=5) (f:Nat) (fn:cQ) (h:Rq f=some fn):TM M f=some (Uv (oA f) (Lz f) fn)/\zI oA fn.ntmps false fn.code=true/\∀ys,(TM M).memo f ys=none:=by
 have h1:pl[f]? =some (some fn):=by
  unfold Rq at h;cases hl:pl[f]? with
  |none=>rw[hl]at h;cases h
  |some o=>rw[hl]at h;cases o with
   |none=>cases h
   |some q=>cases h;rfl
 refine⟨?_,?_,fun ys=>rU (fun e he hf=>?_) ys⟩;have:=Vv pl 0 f fn h1;rw[hD3]at this;show(tl[f]?).join=_
 unfold tl;rw[this];rfl;exact fH3.1 lU2 _ (fL3 h1);rw[a e he]at hf;subst hf;cases h
def lF1:∀e∈MK,e.1=5:=by intro e he;rcases iT3.1 he with rfl;rfl
def lV2 (f:Nat) (fn:cQ) (h:Rq f=some fn):TBL f=some (Uv (oA f) (Lz f) fn)/\zI oA fn.ntmps false fn.code=true/\∀ys,TBL.memo f ys=none:=aX2 lF1 f fn h
def Zj:Tryz.prog.follows .mixedOrders=true:=by kernel_rfl
def lW2:lP Tryz.prog 0 tl:=lP.of (i:=0) (fs:=Tryz.prog.funcs.toList) rfl (by kernel_rfl)
def yU2:lP Tryz.prog 0 tl2:=lP.of (i:=0) (fs:=Tryz.prog.funcs.toList) rfl (by kernel_rfl)
def lX2:kJ Tryz.prog (TM []):=lP.tab (M:=[]) lW2 trivial
end
end Go.P
