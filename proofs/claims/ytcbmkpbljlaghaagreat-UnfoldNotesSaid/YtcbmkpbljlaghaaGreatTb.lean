import Derived.Test.YtcbmkpbljlaghaaGreatGaB
import Derived.Test.YtcbmkpbljlaghaaGreatChecked
/- A text of the proof. -/
set_option linter.all false
set_option maxRecDepth 100000
set_option maxHeartbeats 2000000
namespace Go.P.V
open Go.Sim
abbrev t (n:Nat):IX:=.t n
abbrev c (n:Int):IX:=.c (.v (.int .i64 n))
abbrev cn:IX:=.c (.v (.slice none 0 0))
abbrev ct:IX:=.c (.v (.bool true))
abbrev cf:IX:=.c (.v (.bool false))
abbrev J (n:Int):Value:=.int .i64 n
abbrev ZS:Value:=.string ⟨#[]⟩
abbrev ZB:Value:=.bool false
abbrev ZN:Value:=.slice none 0 0
abbrev o (d:Nat) (k:dQ) (xs:aA IX):Sim.Op1:=⟨some d,k,xs,none⟩
abbrev u (d:Nat) (k:dQ) (xs:aA Nat):Sim.Op1:=⟨some d,k,xs.map .t,none⟩
abbrev m (d x:Nat):Sim.Op1:=⟨some d,.mov,[.t x],none⟩
abbrev z (d:Nat) (x:IX):Sim.Op1:=⟨some d,.mov,[x],none⟩
abbrev l (d x:Nat):Sim.Op1:=⟨some d,.loadS,[.t x],none⟩
abbrev a (d k x:Nat):Sim.Op1:=⟨some d,.fad k,[.t x],none⟩
abbrev e (d k x:Nat):Sim.Op1:=⟨some d,.ext k,[.t x],none⟩
abbrev f (d g:Nat) (xs:aA Nat):Sim.Op1:=⟨some d,.callF g,xs.map .t,none⟩
abbrev s (n x y:Nat):Sim.Op1:=⟨none,.store n,[.t x,.t y],none⟩
abbrev R (l:aA Sim.Op1) (b:IC):IC:=.seq (.reg l) b
abbrev q (a b:IC):IC:=.seq a b
abbrev i (n:Nat) (a b:IC):IC:=.cond (.t n) a b
abbrev k:IC:=.skip
abbrev r:IC:=.ret
abbrev X (n:Nat) (l:aA Sim.RV) (c:IC) (p f:Bool):IFn:=⟨n,l,c,p,f⟩
end Go.P.V
namespace Go.P
open Go.Sim (fE gC iP IFn gB AV oQ lU nG iZ)
open Go.Proofs
noncomputable section
def ax (p:bM) (a b:Bool):Go.Sim.IFn:={ntmps:=p.ntmps,res:=p.res,body:=iB p.code,pure:=a,frz:=b}
section
open V
abbrev w0:aA Value:=[ZS,ZB,ZN,ZN,ZN,ZN]
abbrev w1:aA Value:=[J 0,J 0]
abbrev w2:aA Value:=[J 0,J 0,J 0]
abbrev w3:aA Value:=[J 0,J 0,ZS,J 0,J 0,ZN]
abbrev w4:aA Value:=[J 0,J 0,J 0,J 0,J 0,ZN,ZN,J 0,J 0,J 0,ZN,J 0,J 0]
abbrev w5:aA Value:=[J 0,J 0,J 0,J 0,J 0,J 0,J 0,J 0]
abbrev w6:aA Value:=[ZN,ZN]
abbrev w7:aA Value:=[J 0,J 0,J 0,J 0,J 0,J 0,J 0,J 0,J 0,J 0,J 0,J 0,ZB,J 0,J 0,J 0,J 0,J 0,J 0,ZS,ZN,ZN]
abbrev w8:aA Value:=[J 0,J 0,ZN,J 0]
def ix7:=X 58 [.tmp 0] (R [z 0 cf] (R [f 6 18 [],u 1 (.alloc 27 w0) [],s 6 1 6] (q (.regD [a 7 3 1,l 8 7,a 9 3 1,l 10 9,o 11 (.iad 22) [t 8,c 0],a 12 12 11,⟨none,.store 1,[t 12,ct],none⟩,o 13 (.iad 22) [t 10,c 2],a 14 13 13,⟨none,.store 1,[t 14,c 2],none⟩] [0,1,0,4,3,19,51,127,255,511]) (R [u 16 (.loadA 6) [1],f 17 12 [16],m 15 17,e 18 0 15,e 19 1 15,m 2 18,m 3 19] (R [o 20 (.buildSl 3 1 7 [J 0] [0,1,2,3,4,5,6]) [c 0,c 1,c 2,c 0,c 1,c 2,c 3],m 4 20] (q (R [m 21 3,o 22 (.bin .neq) [t 21,c 0],m 23 22,⟨some 24,.mov,[t 2],some (23,false)⟩,⟨some 25,.len 0,[t 24],some (23,false)⟩,⟨some 26,.mov,[t 4],some (23,false)⟩,⟨some 27,.len 0,[t 26],some (23,false)⟩,⟨some 28,.bin .neq,[t 25,t 27],some (23,false)⟩,o 29 (.pick) [t 23,ct,t 28]] (i 29 (R [z 0 cf] r) k)) (q (R [z 5 (c 0)] (.block 0 (.loop (q (R [m 30 5,m 31 4,u 32 (.len 0) [31],u 33 (.bin .lss) [30,32]] (i 33 k (.exit 0))) (q (.block 1 (q (.regD [m 36 2,m 37 5,u 38 (.iad 2) [36,37],a 39 0 38,l 40 39,m 41 4,m 42 5,u 43 (.iad 1) [41,42],l 44 43,u 45 (.bin .neq) [40,44]] [0,0,3,7,15,0,0,96,224,511]) (i 45 (R [z 0 cf] r) k))) (.reg [m 34 5,o 35 (.bin .add) [t 34,c 1],m 5 35])))))) (R [m 46 2,o 47 (.iad 2) [t 46,c 3],a 48 1 47,l 49 48,o 50 (.bin .eql) [t 49,c 1],m 51 50,⟨some 52,.mov,[t 2],some (51,true)⟩,⟨some 53,.iad 2,[t 52,c 6],some (51,true)⟩,⟨some 54,.fad 1,[t 53],some (51,true)⟩,⟨some 55,.loadS,[t 54],some (51,true)⟩,⟨some 56,.bin .eql,[t 55,c 0],some (51,true)⟩,o 57 (.pick) [t 51,t 56,cf],m 0 57] r)))))))) true true
def dK2:=X 40 [.cellA 0 6] (R [u 0 (.alloc 27 w0) []] (R [o 4 (.build w1 [(1,1)]) [c 1],o 5 (.build w1 [(1,1)]) [c 2],o 6 (.build w2 [(0,2),(2,1)]) [t 5,c 1],u 7 (.buildSl 105 3 1 w2 [0]) [6],u 8 (.build w3 [(0,2),(5,1)]) [4,7],u 9 (.buildSl 56 6 1 w3 [0]) [8],o 10 (.build w1 [(1,1)]) [c 10],u 11 (.buildSl 39 2 1 w1 [0]) [10],u 12 (.build w0 [(2,1),(5,1)]) [9,11],u 1 (.alloc 27 w0) [],s 6 1 12] (q (R [z 2 (c 0)] (.block 0 (.loop (q (R [m 13 2,o 14 (.bin .lss) [t 13,c 4]] (i 14 k (.exit 0))) (q (.block 1 (R [m 17 2,o 18 (.bin .mul) [c 2,t 17],o 19 (.bin .add) [c 4,t 18],u 20 (.build w1 [(1,1)]) [19],o 21 (.build w4 [(0,2),(2,1)]) [t 20,c 3],u 3 (.alloc 101 w4) [],s 13 3 21] (.reg [a 22 3 1,l 23 22,m 24 2,o 25 (.bin .mul) [c 2,t 24],o 26 (.bin .add) [c 3,t 25],u 27 (.build w1 [(1,1)]) [26],o 28 (.build w5 [(0,1),(1,1)]) [c 4,c 4],u 29 (.loadA 13) [3],u 30 (.buildSl 101 13 1 w4 [0]) [29],u 31 (.build w6 [(0,1)]) [30],u 32 (.buildSl 72 2 1 w6 [0]) [31],u 33 (.build w6 [(1,1)]) [32],u 34 (.buildSl 67 2 1 w6 [0]) [33],u 35 (.build w7 [(0,2),(2,8),(21,1)]) [27,28,34],u 36 (.buildSl 63 22 1 w7 [0]) [35],u 37 (.append 63 22 216 w7 false) [23,36],a 38 3 1,s 1 38 37]))) (.reg [m 15 2,o 16 (.bin .add) [t 15,c 1],m 2 16])))))) (R [u 39 (.loadA 6) [1],s 6 0 39] r)))) false false
def dL2:=X 30 [.cellS 2,.cellS 3] (R [u 1 (.box 27 6) [0],u 2 (.alloc 28 [ZN]) [],u 3 (.alloc 33 [J 0]) []] (q (R [u 7 (.loadA 6) [1],f 8 11 [7],u 9 (.un .not) [8]] (i 9 (R [⟨none,.store 1,[t 2,cn],none⟩,⟨none,.store 1,[t 3,c 24],none⟩] r) k)) (R [u 4 (.alloc 28 [ZN]) []] (R [u 10 (.mkmap) [],u 5 (.alloc 79 [(.map none)]) [],s 1 5 10] (q (R [u 11 (.loadA 6) [1],f 12 22 [11]] (.block 0 (.rangeF (t 12) [13] (.reg [m 6 13]) (.block 1 (q (R [l 14 4,u 15 (.len 0) [14],o 16 (.bin .eql) [t 15,c 8192]] (i 16 (R [⟨none,.store 1,[t 2,cn],none⟩,⟨none,.store 1,[t 3,c 9],none⟩] r) k)) (R [l 17 4,m 18 6,l 19 5,m 20 6,u 21 (.lookup false [.i] (.v (.int .i64 0)) false) [19,20],u 22 (.build w1 [(0,1),(1,1)]) [18,21],u 23 (.buildSl 51 2 1 w1 [0]) [22],u 24 (.append 51 2 16 w1 false) [17,23],s 1 4 24] (.reg [l 25 5,m 26 6,u 27 (.lookup false [.i] (.v (.int .i64 0)) false) [25,26],o 28 (.bin .add) [t 27,c 1],⟨none,.mapup false [.i],[t 25,t 26,t 28],none⟩]))))))) (R [l 29 4,s 1 2 29,⟨none,.store 1,[t 3,c 0],none⟩] r)))))) false false
def dM2:=X 4 [.tmp 2] (R [u 1 (.box 27 6) [0],z 2 (.c (.v .nilFunc))] (R [u 3 (.mkfn (.func 49) 0) [1],m 2 3] r)) false false
def dN2:=X 43 [] (R [u 2 (.box 117 1) [0]] (R [u 9 (.loadA 6) [1],f 10 50 [9],u 3 (.alloc 118 [ZN]) [],s 1 3 10] (R [l 11 3,u 12 (.len 0) [11],z 13 (c 0)] (.block 0 (.loop (R [u 14 (.bin .lss) [13,12]] (q (i 14 k (.exit 0)) (q (.block 1 (R [u 15 (.iad 4) [11,13],u 16 (.loadA 4) [15],u 5 (.alloc 124 w8) [],s 4 5 16] (R [u 17 (.loadA 4) [5],f 18 51 [17]] (.block 2 (.rangeF (t 18) [19,20] (R [m 6 19] (.reg [m 7 20])) (.block 3 (q (R [l 21 2,m 22 6,u 23 (.callV) [21,22],u 24 (.un .not) [23]] (i 24 r k)) (R [a 25 3 1,l 26 25,m 27 6,u 28 (.iad 22) [26,27],a 29 15 28,l 30 29,m 8 30] (R [m 31 8,o 32 (.bin .neq) [t 31,c 0],m 33 32,⟨some 34,.mov,[t 7],some (33,true)⟩,o 35 (.pick) [t 33,t 34,cf]] (i 35 (q (.regD [u 36 (.loadA 6) [1],l 37 3,m 38 8,f 39 52 [36,37,38],l 40 2,u 41 (.callV) [39,40]] [0,0,0,7,0,31]) r) k)))))))))) (.reg [o 42 (.bin .add) [t 13,c 1],m 13 42]))))))))) false false
def dO2:=X 153 [.tmp 2] (R [u 1 (.box 27 6) [0],z 2 cn] (R [z 3 cn] (R [z 4 (c 0)] (q (R [z 5 (c 0)] (.block 0 (.loop (q (R [m 10 5,a 11 3 1,l 12 11,u 13 (.len 0) [12],u 14 (.bin .lss) [10,13]] (i 14 k (.exit 0))) (q (.block 1 (R [a 17 3 1,l 18 17,m 19 5,u 20 (.iad 22) [18,19],u 21 (.loadA 22) [20],u 6 (.alloc 63 w7) [],s 22 6 21] (.block 2 (R [a 23 14 6,l 24 23,o 25 (.bin .neq) [t 24,c 0],m 22 25] (i 22 (R [m 26 4,m 27 5,u 28 (.build w1 [(0,1),(1,1)]) [26,27],u 29 (.build w8 [(0,2)]) [28],u 7 (.alloc 124 w8) [],s 4 7 29] (R [z 8 (c 0)] (q (.block 3 (.loop (q (R [m 30 5,a 31 3 1,l 32 31,u 33 (.len 0) [32],u 34 (.bin .lss) [30,33],m 35 34,⟨some 36,.fad 3,[t 1],some (35,true)⟩,⟨some 37,.loadS,[t 36],some (35,true)⟩,⟨some 38,.mov,[t 5],some (35,true)⟩,⟨some 39,.iad 22,[t 37,t 38],some (35,true)⟩,⟨some 40,.fad 14,[t 39],some (35,true)⟩,⟨some 41,.loadS,[t 40],some (35,true)⟩,⟨some 42,.bin .neq,[t 41,c 0],some (35,true)⟩,o 43 (.pick) [t 35,t 42,cf]] (i 43 k (.exit 3))) (.block 4 (R [m 44 5,m 45 5,u 46 (.build w1 [(0,1),(1,1)]) [44,45],a 47 3 1,l 48 47,m 49 5,u 50 (.iad 22) [48,49],a 51 14 50,l 52 51,u 53 (.build w2 [(0,2),(2,1)]) [46,52],u 9 (.alloc 203 w2) [],s 3 9 53] (q (.block 5 (.loop (q (q (.regD [a 54 0 9,a 55 1 54,l 56 55,a 57 3 1,l 58 57,u 59 (.len 0) [58],u 60 (.bin .lss) [56,59],m 61 60,⟨some 62,.fad 3,[t 1],some (61,true)⟩,⟨some 63,.loadS,[t 62],some (61,true)⟩,⟨some 64,.fad 0,[t 9],some (61,true)⟩,⟨some 65,.fad 1,[t 64],some (61,true)⟩,⟨some 66,.loadS,[t 65],some (61,true)⟩,⟨some 67,.iad 22,[t 63,t 66],some (61,true)⟩,⟨some 68,.fad 14,[t 67],some (61,true)⟩,⟨some 69,.loadS,[t 68],some (61,true)⟩,⟨some 70,.fad 2,[t 9],some (61,true)⟩,⟨some 71,.loadS,[t 70],some (61,true)⟩,⟨some 72,.bin .eql,[t 69,t 71],some (61,true)⟩,o 73 (.pick) [t 61,t 72,cf]] [0,1,3,0,8,24,63,127,255,511,255,1279,3327,8191,16383,32767,255,65791,262143,524287]) (i 73 k (.exit 5))) (.block 6 (.reg [a 74 0 9,a 75 1 74,l 76 75,o 77 (.bin .add) [t 76,c 1],a 78 0 9,a 79 1 78,s 1 79 77]))))) (R [a 80 2 7,l 81 80,u 82 (.loadA 3) [9],u 83 (.buildSl 203 3 1 w2 [0]) [82],u 84 (.append 203 3 24 w2 false) [81,83],a 85 2 7,s 1 85 84] (R [m 86 8,a 87 2 9,l 88 87,u 89 (.bin .or) [86,88],m 8 89] (.reg [a 90 0 9,a 91 1 90,l 92 91,m 5 92]))))))))) (R [m 93 8,u 94 (.convI .u64) [93],f 95 105 [94],a 96 3 7,s 1 96 95] (R [m 97 3,u 98 (.loadA 4) [7],u 99 (.buildSl 124 4 1 w8 [0]) [98],u 100 (.append 124 4 48 w8 false) [97,99],m 3 100] (R [m 101 5,m 4 101] (.reg [m 102 5,o 103 (.bin .sub) [t 102,c 1],m 5 103]))))))) (R [a 105 12 6,l 106 105,m 107 106,⟨some 108,.mov,[t 5],some (107,true)⟩,⟨some 109,.mov,[t 4],some (107,true)⟩,⟨some 110,.bin .gtr,[t 108,t 109],some (107,true)⟩,o 111 (.pick) [t 107,t 110,cf],m 104 111] (i 104 (R [m 112 3,m 113 4,m 114 5,u 115 (.build w1 [(0,1),(1,1)]) [113,114],o 116 (.build w8 [(0,2),(3,1)]) [t 115,c 1],u 117 (.buildSl 124 4 1 w8 [0]) [116],u 118 (.append 124 4 48 w8 false) [112,117],m 3 118] (R [m 119 5,m 4 119] (.reg [m 120 5,o 121 (.bin .sub) [t 120,c 1],m 5 121]))) (R [a 123 13 6,l 124 123,o 125 (.bin .neq) [t 124,c 0],m 122 125] (i 122 (R [m 126 3,m 127 4,m 128 5,o 129 (.bin .add) [t 128,c 1],u 130 (.build w1 [(0,1),(1,1)]) [127,129],a 131 13 6,l 132 131,u 133 (.build w8 [(0,2),(3,1)]) [130,132],u 134 (.buildSl 124 4 1 w8 [0]) [133],u 135 (.append 124 4 48 w8 false) [126,134],m 3 135] (.reg [m 136 5,o 137 (.bin .add) [t 136,c 1],m 4 137])) k))))))))) (.reg [m 15 5,o 16 (.bin .add) [t 15,c 1],m 5 16])))))) (q (R [m 138 4,a 139 3 1,l 140 139,u 141 (.len 0) [140],u 142 (.bin .lss) [138,141]] (i 142 (.reg [m 143 3,m 144 4,a 145 3 1,l 146 145,u 147 (.len 0) [146],u 148 (.build w1 [(0,1),(1,1)]) [144,147],o 149 (.build w8 [(0,2),(3,1)]) [t 148,c 1],u 150 (.buildSl 124 4 1 w8 [0]) [149],u 151 (.append 124 4 48 w8 false) [143,150],m 3 151]) k)) (R [m 152 3,m 2 152] r)))))) true false
def dP2:=X 4 [.tmp 2] (R [u 1 (.box 124 4) [0],z 2 (.c (.v .nilFunc))] (R [u 3 (.mkfn (.func 106) 0) [1],m 2 3] r)) false false
def sZ1:=X 62 [] (R [a 10 3 1,l 11 10,z 12 (c 0)] (.block 0 (.loop (R [u 13 (.bin .lss) [12,11]] (q (i 13 k (.exit 0)) (q (.block 1 (R [m 14 12,m 3 14] (R [a 15 0 1,u 16 (.loadA 2) [15],u 17 (.buildSl 121 2 1 w1 [0]) [16],m 4 17] (q (R [a 18 2 1,l 19 18,u 20 (.len 0) [19],z 21 (c 0)] (.block 2 (.loop (R [u 22 (.bin .lss) [21,20]] (q (i 22 k (.exit 2)) (q (.block 3 (R [u 23 (.iad 3) [19,21],u 24 (.loadA 3) [23],u 6 (.alloc 203 w2) [],s 3 6 24] (R [a 25 2 6,l 26 25,m 27 3,u 28 (.bin .shr) [26,27],o 29 (.bin .and) [t 28,c 1],o 30 (.bin .eql) [t 29,c 1]] (i 30 (.reg [m 31 4,a 32 0 6,u 33 (.loadA 2) [32],u 34 (.buildSl 121 2 1 w1 [0]) [33],u 35 (.append 121 2 16 w1 false) [31,34],m 4 35]) k)))) (.reg [o 36 (.bin .add) [t 21,c 1],m 21 36]))))))) (R [m 37 4,u 38 (.len 0) [37],z 39 (c 0)] (.block 4 (.loop (R [u 40 (.bin .lss) [39,38]] (q (i 40 k (.exit 4)) (q (.block 5 (R [u 41 (.iad 2) [37,39],u 42 (.loadA 2) [41],u 8 (.alloc 121 w1) [],s 2 8 42] (R [a 43 0 8,l 44 43,m 9 44] (.block 6 (.loop (q (R [m 45 9,a 46 1 8,l 47 46,u 48 (.bin .lss) [45,47]] (i 48 k (.exit 6))) (q (.block 7 (R [m 51 0,m 52 9,m 53 3,a 54 3 1,l 55 54,o 56 (.bin .sub) [t 55,c 1],u 57 (.bin .eql) [53,56],u 58 (.callV) [51,52,57],u 59 (.un .not) [58]] (i 59 r k))) (.reg [m 49 9,o 50 (.bin .add) [t 49,c 1],m 9 50])))))))) (.reg [o 60 (.bin .add) [t 39,c 1],m 39 60]))))))))))) (.reg [o 61 (.bin .add) [t 12,c 1],m 12 61]))))))) false false
end
def bI:Nat->aB Go.Sim.IFn
 |7=>some ix7
 |186=>some (fC 168 5 40 [(.int .i64 0),(.int .i64 0),(.int .i64 0),(.bool false),(.int .i64 0)])
 |187=>some (fC 172 5 40 [(.int .i64 0),(.int .i64 0),(.int .i64 0),(.int .i64 0),(.bool false)])
 |188=>some (fC 103 2 24 [(.string ⟨#[]⟩),(.int .i64 0)])
 |_=>none
abbrev n0 (k:Nat) (l:aA (aB Go.Sim.IFn)):aA (aB Go.Sim.IFn):=List.replicate k none++l
def tl2:aA (aB Go.Sim.IFn):=(n0 7 ([some ix7]++(n0 3 ([some (ax p11 true true),some dL2]++(n0 5 ([some dK2]++(n0 3 ([some dM2]++(n0 26 ([some dN2,some dO2,some dP2]++(n0 54 [some sZ1])))))))))))
def tI:Nat->aA (aB bM)->aA (aB IFn)
 |_,[]=>[]
 |i,none::r=>bI i::tI (i+1) r
 |i,some p::r=>some (Hn (iH i) p)::tI (i+1) r
theorem Kj:∀(l:aA (aB bM)) (i j:Nat) (fn:bM),l[j]? =some (some fn)->(tI i l)[j]? =some (some (Hn (iH (i+j)) fn))
 |[],i,j,fn,h=>by simp at h
 |none::r,i,0,fn,h=>by simp at h
 |none::r,i,j+1,fn,h=>by
  have:=Kj r (i+1) j fn (by simpa using h)
  rw[show i+1+j=i+(j+1)by omega]at this
  simpa[tI]using this
 |some p::r,i,0,fn,h=>by simp at h;subst h;rfl
 |some p::r,i,j+1,fn,h=>by
  have:=Kj r (i+1) j fn (by simpa using h)
  rw[show i+1+j=i+(j+1)by omega]at this
  simpa[tI]using this
def tl:aA (aB IFn):=tI 0 pl
abbrev Mm:=aA (Nat×aA AV×AV)
def TM (M:Mm):gB:=⟨fun f=>(tl[f]?).join,oQ M⟩
abbrev MK:Mm:=[(7,[],.v (.bool true))]
abbrev TBL:gB:=TM MK
def okE (o:aB bM):Bool:=match o with|some fn=>rC iH fn.ntmps false fn.code|none=>true
theorem tA1:pl.all okE=true:=by kernel_rfl
theorem kI1 {M:Mm} (a:∀e∈M,e.1=7) (f:Nat) (fn:bM) (h:Dp f=some fn):TM M f=some (Hn (iH f) fn)/\rC iH fn.ntmps false fn.code=true/\∀ys,(TM M).memo f ys=none:=by
 have h1:pl[f]? =some (some fn):=by
  unfold Dp at h;cases hr:Nat.beq f 170 with
  |true=>rw[hr]at h;cases h
  |false=>
  rw[hr,lN2]at h;cases hl:pl[f]? with
  |none=>rw[hl]at h;cases h
  |some o=>rw[hl]at h;cases o with
   |none=>cases h
   |some q=>cases h;rfl
 refine⟨?_,?_,fun ys=>lU (fun e he hf=>?_) ys⟩;have:=Kj pl 0 f fn h1;rw[mI2]at this;show(tl[f]?).join=_
 unfold tl;rw[this];rfl;exact kU2.1 tA1 _ (kY2 h1);rw[a e he]at hf;subst hf;cases h
theorem Kk:∀e∈MK,e.1=7:=by intro e he;rcases List.mem_singleton.1 he with rfl;rfl
theorem tB1 (f:Nat) (fn:bM) (h:Dp f=some fn):TBL f=some (Hn (iH f) fn)/\rC iH fn.ntmps false fn.code=true/\∀ys,TBL.memo f ys=none:=kI1 Kk f fn h
theorem Wo:Tryz.prog.follows .mixedOrders=true:=by kernel_rfl
theorem tC1:gC Tryz.prog 0 tl:=gC.of (i:=0) (fs:=Tryz.prog.funcs.toList) rfl (by kernel_rfl)
theorem dQ2:gC Tryz.prog 0 tl2:=gC.of (i:=0) (fs:=Tryz.prog.funcs.toList) rfl (by kernel_rfl)
theorem dR2:fE Tryz.prog (TM []):=gC.tab (M:=[]) tC1 trivial
end
end Go.P
