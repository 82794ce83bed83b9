import Derived.Test.YtlohgggadnajiaaGreatGaB
import Derived.Test.YtlohgggadnajiaaGreatChecked
/- A text of the proof. -/
set_option linter.all false
set_option maxRecDepth 100000
set_option maxHeartbeats 2000000
namespace Go.P.V
open Go.Sim
abbrev t (n:Nat):IX:=.t n
abbrev c (n:Int):IX:=.c (.v (.int .i64 n))
abbrev cn:IX:=.c (.v (.slice none 0 0))
abbrev ct:IX:=.c (.v (.bool true))
abbrev cf:IX:=.c (.v (.bool false))
abbrev J (n:Int):Value:=.int .i64 n
abbrev ZS:Value:=.string ⟨#[]⟩
abbrev ZB:Value:=.bool false
abbrev ZN:Value:=.slice none 0 0
abbrev o (d:Nat) (k:hZ) (xs:aA IX):Sim.Op1:=⟨some d,k,xs,none⟩
abbrev u (d:Nat) (k:hZ) (xs:aA Nat):Sim.Op1:=⟨some d,k,xs.map .t,none⟩
abbrev m (d x:Nat):Sim.Op1:=⟨some d,.mov,[.t x],none⟩
abbrev z (d:Nat) (x:IX):Sim.Op1:=⟨some d,.mov,[x],none⟩
abbrev l (d x:Nat):Sim.Op1:=⟨some d,.loadS,[.t x],none⟩
abbrev a (d k x:Nat):Sim.Op1:=⟨some d,.fad k,[.t x],none⟩
abbrev e (d k x:Nat):Sim.Op1:=⟨some d,.ext k,[.t x],none⟩
abbrev f (d g:Nat) (xs:aA Nat):Sim.Op1:=⟨some d,.callF g,xs.map .t,none⟩
abbrev s (n x y:Nat):Sim.Op1:=⟨none,.store n,[.t x,.t y],none⟩
abbrev R (l:aA Sim.Op1) (b:IC):IC:=.seq (.reg l) b
abbrev q (a b:IC):IC:=.seq a b
abbrev i (n:Nat) (a b:IC):IC:=.cond (.t n) a b
abbrev k:IC:=.skip
abbrev r:IC:=.ret
abbrev X (n:Nat) (l:aA Sim.RV) (c:IC) (p f:Bool):IFn:=⟨n,l,c,p,f⟩
end Go.P.V
namespace Go.P
open Go.Sim (kN lO oC IFn lI AV vM rY tR nN)
open Go.Proofs
noncomputable section
def ax (p:cR) (a b:Bool):Go.Sim.IFn:={ntmps:=p.ntmps,res:=p.res,body:=mT p.code,pure:=a,frz:=b}
section
open V
abbrev w0:aA Value:=[ZS,ZB,ZN,ZN,ZN,ZN]
abbrev w1:aA Value:=[J 0,J 0]
abbrev w2:aA Value:=[J 0,J 0,J 0]
abbrev w3:aA Value:=[J 0,J 0,J 0,J 0,J 0,J 0,J 0,J 0,J 0,J 0,J 0,J 0,ZB,J 0,J 0,J 0,J 0,J 0,J 0,ZS,ZN,ZN]
abbrev w4:aA Value:=[J 0,J 0,J 0,ZB,J 0]
abbrev w5:aA Value:=[J 0,J 0,J 0,J 0,J 0,ZN,ZN,J 0,J 0,J 0,ZN,J 0,J 0]
abbrev w6:aA Value:=[J 0,J 0,J 0,J 0,J 0,J 0,J 0,J 0]
abbrev w7:aA Value:=[ZN,ZN]
abbrev w8:aA Value:=[J 0,J 0,ZS,J 0,J 0,ZN]
def ix6:=X 118 [.tmp 0] (R [z 0 cf] (R [o 9 (.callF 19) [c (-2)],f 10 18 [9],m 8 10,e 11 0 8,e 12 1 8,u 1 (.alloc 27 w0) [],s 6 1 11,m 2 12] (R [o 14 (.callF 19) [c 6],o 15 (.callF 20) [t 14,c 0],m 13 15,e 16 0 13,e 17 1 13,u 3 (.alloc 29 w1) [],s 2 3 16,m 4 17] (R [o 19 (.callF 19) [c 6],o 20 (.callF 21) [t 19,c 0],m 18 20,e 21 0 18,e 22 1 18,m 5 21,m 6 22] (q (R [m 23 2,o 24 (.bin .neq) [t 23,c 0],m 25 24,⟨some 26,.fad 1,[t 1],some (25,false)⟩,⟨some 27,.loadS,[t 26],some (25,false)⟩,⟨some 28,.un .not,[t 27],some (25,false)⟩,o 29 (.pick) [t 25,ct,t 28],m 30 29,⟨some 31,.fad 3,[t 1],some (30,false)⟩,⟨some 32,.loadS,[t 31],some (30,false)⟩,⟨some 33,.len 0,[t 32],some (30,false)⟩,⟨some 34,.bin .neq,[t 33,c 1],some (30,false)⟩,o 35 (.pick) [t 30,ct,t 34],m 36 35,⟨some 37,.mov,[t 4],some (36,false)⟩,⟨some 38,.bin .neq,[t 37,c 0],some (36,false)⟩,o 39 (.pick) [t 36,ct,t 38],m 40 39,⟨some 41,.loadA 2,[t 3],some (40,false)⟩,⟨some 42,.build w1 [(0,1),(1,1)],[c 2,c 2],some (40,false)⟩,⟨some 43,.eqA true [.i,.i],[t 41,t 42],some (40,false)⟩,o 44 (.pick) [t 40,ct,t 43],m 45 44,⟨some 46,.mov,[t 6],some (45,false)⟩,⟨some 47,.bin .neq,[t 46,c 0],some (45,false)⟩,o 48 (.pick) [t 45,ct,t 47],m 49 48,⟨some 50,.mov,[t 5],some (49,false)⟩,⟨some 51,.len 0,[t 50],some (49,false)⟩,⟨some 52,.bin .neq,[t 51,c 1],some (49,false)⟩,o 53 (.pick) [t 49,ct,t 52],m 54 53,⟨some 55,.mov,[t 5],some (54,false)⟩,⟨some 56,.iad 1,[t 55,c 0],some (54,false)⟩,⟨some 57,.loadS,[t 56],some (54,false)⟩,⟨some 58,.bin .neq,[t 57,c (-4)],some (54,false)⟩,o 59 (.pick) [t 54,ct,t 58]] (i 59 (R [z 0 cf] r) k)) (R [a 60 3 1,l 61 60,o 62 (.iad 22) [t 61,c 0],a 63 21 62,l 64 63,m 7 64] (R [m 65 7,u 66 (.len 0) [65],o 67 (.bin .eql) [t 66,c 1],m 68 67,⟨some 69,.mov,[t 7],some (68,true)⟩,⟨some 70,.iad 2,[t 69,c 0],some (68,true)⟩,⟨some 71,.fad 1,[t 70],some (68,true)⟩,⟨some 72,.loadS,[t 71],some (68,true)⟩,⟨some 73,.len 0,[t 72],some (68,true)⟩,⟨some 74,.bin .eql,[t 73,c 1],some (68,true)⟩,o 75 (.pick) [t 68,t 74,cf],m 76 75,⟨some 77,.mov,[t 7],some (76,true)⟩,⟨some 78,.iad 2,[t 77,c 0],some (76,true)⟩,⟨some 79,.fad 1,[t 78],some (76,true)⟩,⟨some 80,.loadS,[t 79],some (76,true)⟩,⟨some 81,.iad 2,[t 80,c 0],some (76,true)⟩,⟨some 82,.fad 0,[t 81],some (76,true)⟩,⟨some 83,.loadS,[t 82],some (76,true)⟩,⟨some 84,.len 0,[t 83],some (76,true)⟩,⟨some 85,.bin .eql,[t 84,c 1],some (76,true)⟩,o 86 (.pick) [t 76,t 85,cf],m 87 86,⟨some 88,.mov,[t 7],some (87,true)⟩,⟨some 89,.iad 2,[t 88,c 0],some (87,true)⟩,⟨some 90,.fad 1,[t 89],some (87,true)⟩,⟨some 91,.loadS,[t 90],some (87,true)⟩,⟨some 92,.iad 2,[t 91,c 0],some (87,true)⟩,⟨some 93,.fad 0,[t 92],some (87,true)⟩,⟨some 94,.loadS,[t 93],some (87,true)⟩,⟨some 95,.iad 13,[t 94,c 0],some (87,true)⟩,⟨some 96,.fad 5,[t 95],some (87,true)⟩,⟨some 97,.loadS,[t 96],some (87,true)⟩,⟨some 98,.len 0,[t 97],some (87,true)⟩,⟨some 99,.bin .eql,[t 98,c 1],some (87,true)⟩,o 100 (.pick) [t 87,t 99,cf],m 101 100,⟨some 102,.mov,[t 7],some (101,true)⟩,⟨some 103,.iad 2,[t 102,c 0],some (101,true)⟩,⟨some 104,.fad 1,[t 103],some (101,true)⟩,⟨some 105,.loadS,[t 104],some (101,true)⟩,⟨some 106,.iad 2,[t 105,c 0],some (101,true)⟩,⟨some 107,.fad 0,[t 106],some (101,true)⟩,⟨some 108,.loadS,[t 107],some (101,true)⟩,⟨some 109,.iad 13,[t 108,c 0],some (101,true)⟩,⟨some 110,.fad 5,[t 109],some (101,true)⟩,⟨some 111,.loadS,[t 110],some (101,true)⟩,⟨some 112,.iad 5,[t 111,c 0],some (101,true)⟩,⟨some 113,.fad 0,[t 112],some (101,true)⟩,⟨some 114,.loadA 3,[t 113],some (101,true)⟩,⟨some 115,.build w2 [(2,1)],[c 4],some (101,true)⟩,⟨some 116,.eqA false [.i,.i,.i],[t 114,t 115],some (101,true)⟩,o 117 (.pick) [t 101,t 116,cf],m 0 117] r))))))) true true
def vP2:=X 19 [.cellA 4 2,.tmp 5] (R [u 2 (.box 27 6) [0],u 4 (.alloc 29 w1) [],z 5 (c 0)] (q (R [u 7 (.loadA 6) [2],m 8 1,f 9 53 [7,8],m 6 9] (R [m 10 6,o 11 (.bin .neq) [t 10,c 0]] (i 11 (R [u 12 (.build w1 []) [],m 13 6,s 2 4 12,m 5 13] r) k))) (R [u 14 (.loadA 6) [2],m 15 1,f 16 54 [14,15],e 17 0 16,e 18 1 16,s 2 4 17,m 5 18] r))) true true
def vQ2:=X 51 [.tmp 4,.tmp 5] (R [u 2 (.box 27 6) [0],z 4 cn,z 5 (c 0)] (R [u 13 (.loadA 6) [2],m 14 1,f 15 20 [13,14],m 12 15,e 16 0 12,e 17 1 12,u 6 (.alloc 29 w1) [],s 2 6 16,m 7 17] (q (R [m 18 7,o 19 (.bin .neq) [t 18,c 0]] (i 19 (R [m 20 7,z 4 cn,m 5 20] r) k)) (R [a 21 3 2,l 22 21,u 23 (.len 0) [22],o 24 (.mksl 3 1 8 [J 0]) [c 0,t 23],m 8 24] (q (R [a 25 3 2,l 26 25,u 27 (.len 0) [26],z 28 (c 0)] (.block 0 (.loop (R [u 29 (.bin .lss) [28,27]] (q (i 29 k (.exit 0)) (q (.block 1 (R [u 30 (.iad 22) [26,28],u 31 (.loadA 22) [30],u 10 (.alloc 45 w3) [],s 22 10 31] (R [a 32 11 10,l 33 32,u 34 (.loadA 2) [6],f 35 28 [33,34],m 11 35] (q (R [a 36 1 2,l 37 36] (i 37 (.reg [a 39 11 10,l 40 39,u 41 (.loadA 2) [6],f 42 55 [40,41],m 38 42,e 43 0 38,e 44 1 38,m 11 43]) k)) (.reg [m 45 8,m 46 11,u 47 (.buildSl 3 1 1 [J 0] [0]) [46],u 48 (.append 3 1 8 [J 0] false) [45,47],m 8 48]))))) (.reg [o 49 (.bin .add) [t 28,c 1],m 28 49]))))))) (R [m 50 8,m 4 50,z 5 (c 0)] r)))))) true false
def vR2:=X 12 [.cellA 2 6,.tmp 3] (R [u 1 (.box 27 6) [0],u 2 (.alloc 27 w0) [],z 3 (c 0)] (q (R [u 4 (.loadA 6) [1],f 5 7 [4],u 6 (.un .not) [5]] (i 6 (R [u 7 (.build w0 []) [],s 6 2 7,z 3 (c 24)] r) k)) (R [u 8 (.loadA 6) [1],f 9 52 [8],e 10 0 9,e 11 1 9,s 6 2 10,m 3 11] r))) true false
def vS2:=X 33 [.cellA 2 6] (R [u 2 (.alloc 27 w0) []] (R [o 5 (.build w1 [(1,1)]) [c 4],o 6 (.build w1 [(0,1)]) [c 0],o 7 (.build w2 [(0,1),(1,1),(2,1)]) [c 6,c (-1),c 3],u 8 (.build w4 [(0,3)]) [7],u 9 (.buildSl 87 5 1 w4 [0]) [8],o 10 (.build w5 [(0,2),(2,1),(3,2),(5,1)]) [t 5,c 1,t 6,t 9],u 3 (.alloc 85 w5) [],s 13 3 10] (R [o 11 (.build w1 [(1,1)]) [c 3],o 12 (.build w6 [(0,1),(1,1)]) [c 4,c 4],m 13 0,u 14 (.loadA 13) [3],u 15 (.buildSl 85 13 1 w5 [0]) [14],u 16 (.build w7 [(0,1)]) [15],u 17 (.buildSl 69 2 1 w7 [0]) [16],u 18 (.build w7 [(1,1)]) [17],u 19 (.buildSl 64 2 1 w7 [0]) [18],u 20 (.build w3 [(0,2),(2,8),(11,1),(21,1)]) [11,12,13,19],u 4 (.alloc 45 w3) [],s 22 4 20] (R [o 21 (.build w1 [(1,1)]) [c 1],o 22 (.build w1 [(0,1),(1,1)]) [c 1,c 2],o 23 (.build w1 [(1,1)]) [c 2],o 24 (.build w2 [(0,2),(2,1)]) [t 23,c 1],u 25 (.buildSl 106 3 1 w2 [0]) [24],u 26 (.build w8 [(0,2),(3,2),(5,1)]) [21,22,25],u 27 (.buildSl 60 6 1 w8 [0]) [26],u 28 (.loadA 22) [4],u 29 (.buildSl 45 22 1 w3 [0]) [28],o 30 (.build w1 [(1,1)]) [c 4],u 31 (.buildSl 38 2 1 w1 [0]) [30],u 32 (.build w0 [(2,1),(3,1),(5,1)]) [27,29,31],s 6 2 32] r)))) true false
def vT2:=X 17 [.tmp 4] (R [u 2 (.box 27 6) [0],z 4 (c 0)] (q (R [u 5 (.loadA 6) [2],f 6 7 [5],u 7 (.un .not) [6]] (i 7 (R [z 4 (c 24)] r) k)) (q (R [m 8 1,o 9 (.bin .lss) [t 8,c 0],m 10 9,⟨some 11,.mov,[t 1],some (10,false)⟩,⟨some 12,.fad 2,[t 2],some (10,false)⟩,⟨some 13,.loadS,[t 12],some (10,false)⟩,⟨some 14,.len 0,[t 13],some (10,false)⟩,⟨some 15,.bin .geq,[t 11,t 14],some (10,false)⟩,o 16 (.pick) [t 10,ct,t 15]] (i 16 (R [z 4 (c 2)] r) k)) (R [z 4 (c 0)] r)))) true true
def vU2:=X 21 [.cellA 4 2,.tmp 5] (R [u 2 (.box 27 6) [0],u 4 (.alloc 29 w1) [],z 5 (c 0)] (R [a 7 2 2,l 8 7,m 9 1,u 10 (.iad 6) [8,9],a 11 3 10,u 12 (.loadA 2) [11],u 6 (.alloc 29 w1) [],s 2 6 12] (q (R [a 13 1 2,l 14 13] (i 14 (R [u 15 (.loadA 2) [6],s 2 4 15,z 5 (c 0)] r) k)) (R [u 16 (.loadA 6) [2],u 17 (.loadA 2) [6],f 18 24 [16,17],e 19 0 18,e 20 1 18,s 2 4 19,m 5 20] r)))) true true
def vV2:=X 66 [.cellA 2 6,.tmp 3] (R [u 1 (.box 27 6) [0],u 2 (.alloc 27 w0) [],z 3 (c 0)] (q (R [a 11 1 1,l 12 11] (i 12 (R [u 13 (.loadA 6) [1],f 14 77 [13],s 6 2 14,z 3 (c 0)] r) k)) (R [z 4 cn] (q (R [a 15 2 1,l 16 15,u 17 (.len 0) [16],z 18 (c 0)] (.block 0 (.loop (R [u 19 (.bin .lss) [18,17]] (q (i 19 k (.exit 0)) (q (.block 1 (R [m 20 18,m 5 20] (R [u 22 (.loadA 6) [1],m 23 5,f 24 54 [22,23],m 21 24,e 25 0 21,e 26 1 21,u 6 (.alloc 29 w1) [],s 2 6 25,m 7 26] (q (R [m 27 7,o 28 (.bin .neq) [t 27,c 0]] (i 28 (R [u 29 (.build w0 []) [],m 30 7,s 6 2 29,m 3 30] r) k)) (.reg [m 31 4,u 32 (.loadA 2) [6],u 33 (.buildSl 29 2 1 w1 [0]) [32],u 34 (.append 29 2 16 w1 false) [31,33],m 4 34]))))) (.reg [o 35 (.bin .add) [t 18,c 1],m 18 35]))))))) (q (.regD [u 37 (.loadA 6) [1],u 38 (.loadA 6) [1],m 39 4,f 40 97 [38,39],f 41 25 [37,40],m 36 41,e 42 0 36,e 43 1 36,u 8 (.alloc 27 w0) [],s 6 8 42,m 9 43] [0,0,0,6,15,31,63,63,0,383,1023]) (q (R [m 44 9,o 45 (.bin .neq) [t 44,c 0]] (i 45 (R [u 46 (.build w0 []) [],m 47 9,s 6 2 46,m 3 47] r) k)) (R [a 48 1 8,⟨none,.store 1,[t 48,ct],none⟩] (q (R [a 49 2 8,l 50 49,u 51 (.len 0) [50],z 52 (c 0)] (.block 2 (.loop (R [u 53 (.bin .lss) [52,51]] (q (i 53 k (.exit 2)) (q (.block 3 (R [m 54 52,m 10 54] (.regD [a 55 2 8,l 56 55,m 57 10,m 58 4,m 59 10,u 60 (.iad 2) [58,59],u 61 (.loadA 2) [60],u 62 (.iad 6) [56,57],a 63 3 62,s 2 63 61] [0,1,0,0,0,24,56,127,255,511]))) (.reg [o 64 (.bin .add) [t 52,c 1],m 52 64]))))))) (R [u 65 (.loadA 6) [8],s 6 2 65,z 3 (c 0)] r))))))))) true false
def vW2:=X 6 [.tmp 4] (R [u 2 (.box 27 6) [0],u 3 (.box 117 1) [1],z 4 (.c (.v .nilFunc))] (R [u 5 (.mkfn (.func 163) 0) [2,3],m 4 5] r)) false true
def iV2:Go.Sim.IFn:={eZ 113 7 56 [J 0,J 0,J 0,J 0,J 0,J 0,J 0]with pure:=false,frz:=true}
def iW2:Go.Sim.IFn:={eZ 38 2 16 [J 0,J 0]with pure:=false,frz:=true}
def iX2:=X 26 [.cellA 6 3,.tmp 7] (R [u 5 (.box 47 3) [1],u 6 (.alloc 47 w2) [],z 7 (c 0)] (R [u 12 (.loadA 6) [2],m 13 0,f 14 47 [12,13],m 11 14,e 15 0 11,e 16 1 11,e 17 2 11,m 8 15,m 9 16,m 10 17] (q (.regD [u 18 (.loadA 3) [5],l 19 3,m 20 8,u 21 (.iad 2) [19,20],u 22 (.loadA 2) [21],f 23 27 [18,22],e 24 0 23,e 25 1 23,s 3 6 24,m 7 25] [0,0,0,6,14,31,63,63,255,511]) r))) true true
def iY2:Go.Sim.IFn:={eZ 106 3 24 [J 0,J 0,J 0]with pure:=false,frz:=true}
def iZ2:Go.Sim.IFn:={eZ 157 3 24 [J 0,J 0,ZB]with pure:=false,frz:=true}
def jA2:Go.Sim.IFn:={eZ 184 2 16 [J 0,J 0]with pure:=false,frz:=true}
def jB2:Go.Sim.IFn:={eZ 87 5 40 [J 0,J 0,J 0,ZB,J 0]with pure:=false,frz:=true}
def jC2:Go.Sim.IFn:={eZ 96 5 40 [J 0,J 0,J 0,J 0,ZB]with pure:=false,frz:=true}
def jD2:Go.Sim.IFn:={eZ 131 2 24 [ZS,J 0]with pure:=false,frz:=true}
end
def bI:Nat->aB Go.Sim.IFn
 |6=>some ix6
 |144=>some (eZ 113 7 56 [(.int .i64 0),(.int .i64 0),(.int .i64 0),(.int .i64 0),(.int .i64 0),(.int .i64 0),(.int .i64 0)])
 |145=>some (eZ 38 2 16 [(.int .i64 0),(.int .i64 0)])
 |207=>some (eZ 106 3 24 [(.int .i64 0),(.int .i64 0),(.int .i64 0)])
 |208=>some (eZ 157 3 24 [(.int .i64 0),(.int .i64 0),(.bool false)])
 |254=>some (eZ 184 2 16 [(.int .i64 0),(.int .i64 0)])
 |244=>some {eZ 87 5 40 [(.int .i64 0),(.int .i64 0),(.int .i64 0),(.bool false),(.int .i64 0)]with pure:=false,frz:=true}
 |245=>some {eZ 96 5 40 [(.int .i64 0),(.int .i64 0),(.int .i64 0),(.int .i64 0),(.bool false)]with pure:=false,frz:=true}
 |246=>some {eZ 131 2 24 [(.string ⟨#[]⟩),(.int .i64 0)]with pure:=false,frz:=true}
 |_=>none
abbrev n0 (k:Nat) (l:aA (aB Go.Sim.IFn)):aA (aB Go.Sim.IFn):=List.replicate k none++l
def tl2:aA (aB Go.Sim.IFn):=(n0 6 ([some ix6,some (ax p7 true true)]++(n0 10 ([some vR2,some vS2,some vP2,some vQ2]++(n0 1 ([some (ax p23 true true),some (ax p24 true true),some (ax p25 false true)]++(n0 1 ([some (ax p27 true true),some (ax p28 true true),some (ax p29 true true),some (ax p30 true false)]++(n0 2 ([some (ax p33 true true)]++(n0 13 ([some (ax p47 true true)]++(n0 4 ([some vV2,some vT2,some vU2]++(n0 18 ([some (ax p73 true false),some (ax p74 true true),some (ax p75 true true),some (ax p76 true true),some (ax p77 false true),some (ax p78 false true),some (ax p79 true true),some (ax p80 true true),some (ax p81 true true),some (ax p82 true true),some (ax p83 true false),some (ax p84 true true),some (ax p85 true true)]++(n0 11 ([some vW2]++(n0 19 ([some (ax aO2 true true)]++(n0 21 ([some (ax wI1 true false),some (ax aQ2 true true),some (ax aR2 true true),some (ax aS2 false true),some (ax wL1 false true),some iV2,some iW2,some (ax aT2 true true),some (ax aU2 true true),some (ax aV2 true true),some (ax aW2 true true),some (ax wJ1 true true),some (ax aX2 true true)]++(n0 11 ([some iX2]++(n0 21 ([some (ax aY2 true true)]++(n0 6 ([some (ax mT1 false true)]++(n0 13 ([some (ax aZ2 true true),some iY2,some iZ2,some (ax wN1 false true),some (ax wO1 true true)]++(n0 8 ([some (ax bA2 true true)]++(n0 24 ([some jB2,some jC2,some jD2]++(n0 7 [some jA2,some (ax wQ1 false true)])))))))))))))))))))))))))))))))))))
def tI:Nat->aA (aB cR)->aA (aB IFn)
 |_,[]=>[]
 |i,none::r=>bI i::tI (i+1) r
 |i,some p::r=>some (Ts (oF i) (Ls i) p)::tI (i+1) r
def Up:∀(l:aA (aB cR)) (i j:Nat) (fn:cR),l[j]? =some (some fn)->(tI i l)[j]? =some (some (Ts (oF (i+j)) (Ls (i+j)) fn))
 |[],i,j,fn,h=>by simp at h
 |none::r,i,0,fn,h=>by simp at h
 |none::r,i,j+1,fn,h=>by
  have:=Up r (i+1) j fn (by simpa using h)
  rw[show i+1+j=i+(j+1)by omega]at this
  simpa[tI]using this
 |some p::r,i,0,fn,h=>by simp at h;subst h;rfl
 |some p::r,i,j+1,fn,h=>by
  have:=Up r (i+1) j fn (by simpa using h)
  rw[show i+1+j=i+(j+1)by omega]at this
  simpa[tI]using this
def tl:aA (aB IFn):=tI 0 pl
abbrev Mm:=aA (Nat×aA AV×AV)
def TM (M:Mm):lI:=⟨fun f=>(tl[f]?).join,vM M⟩
abbrev MK:Mm:=[(6,[],.v (.bool true))]
abbrev TBL:lI:=TM MK
def okE (o:aB cR):Bool:=match o with|some fn=>zG oF fn.ntmps false fn.code|none=>true
def jE2:pl.all okE=true:=by kernel_rfl
def yV1 {M:Mm} (a:∀e∈M,e.1=6) (f:Nat) (fn:cR) (h:Qo f=some fn):TM M f=some (Ts (oF f) (Ls f) fn)/\zG oF fn.ntmps false fn.code=true/\∀ys,(TM M).memo f ys=none:=by
 have h1:pl[f]? =some (some fn):=by
  unfold Qo at h;cases hl:pl[f]? with
  |none=>rw[hl]at h;cases h
  |some o=>rw[hl]at h;cases o with
   |none=>cases h
   |some q=>cases h;rfl
 refine⟨?_,?_,fun ys=>rY (fun e he hf=>?_) ys⟩;have:=Up pl 0 f fn h1;rw[dC3]at this;show(tl[f]?).join=_
 unfold tl;rw[this];rfl;exact bJ3.1 jE2 _ (bO3 h1);rw[a e he]at hf;subst hf;cases h
def jW1:∀e∈MK,e.1=6:=by intro e he;rcases List.mem_singleton.1 he with rfl;rfl
def jF2 (f:Nat) (fn:cR) (h:Qo f=some fn):TBL f=some (Ts (oF f) (Ls f) fn)/\zG oF fn.ntmps false fn.code=true/\∀ys,TBL.memo f ys=none:=yV1 jW1 f fn h
def Xy:Tryz.prog.follows .mixedOrders=true:=by kernel_rfl
def jG2:lO Tryz.prog 0 tl:=lO.of (i:=0) (fs:=Tryz.prog.funcs.toList) rfl (by kernel_rfl)
def vX2:lO Tryz.prog 0 tl2:=lO.of (i:=0) (fs:=Tryz.prog.funcs.toList) rfl (by kernel_rfl)
def jH2:kN Tryz.prog (TM []):=lO.tab (M:=[]) jG2 trivial
end
end Go.P
