import Derived.Test.YtnjheelameojaaaGreatGaB
import Derived.Test.YtnjheelameojaaaGreatChecked
/- A text of the proof. -/
set_option linter.all false
set_option maxRecDepth 100000
set_option maxHeartbeats 2000000
namespace Go.P.V
open Go.Sim
abbrev t (n:Nat):IX:=.t n
abbrev c (n:Int):IX:=.c (.v (.int .i64 n))
abbrev cn:IX:=.c (.v (.slice none 0 0))
abbrev ct:IX:=.c (.v (.bool true))
abbrev cf:IX:=.c (.v (.bool false))
abbrev J (n:Int):Value:=.int .i64 n
abbrev ZS:Value:=.string ⟨#[]⟩
abbrev ZB:Value:=.bool false
abbrev ZN:Value:=.slice none 0 0
abbrev o (d:Nat) (k:OpK) (xs:List IX):Sim.Op1:=⟨some d,k,xs,none⟩
abbrev u (d:Nat) (k:OpK) (xs:List Nat):Sim.Op1:=⟨some d,k,xs.map .t,none⟩
abbrev m (d x:Nat):Sim.Op1:=⟨some d,.mov,[.t x],none⟩
abbrev z (d:Nat) (x:IX):Sim.Op1:=⟨some d,.mov,[x],none⟩
abbrev l (d x:Nat):Sim.Op1:=⟨some d,.loadS,[.t x],none⟩
abbrev a (d k x:Nat):Sim.Op1:=⟨some d,.fad k,[.t x],none⟩
abbrev e (d k x:Nat):Sim.Op1:=⟨some d,.ext k,[.t x],none⟩
abbrev f (d g:Nat) (xs:List Nat):Sim.Op1:=⟨some d,.callF g,xs.map .t,none⟩
abbrev s (n x y:Nat):Sim.Op1:=⟨none,.store n,[.t x,.t y],none⟩
abbrev R (l:List Sim.Op1) (b:IC):IC:=.seq (.reg l) b
abbrev q (a b:IC):IC:=.seq a b
abbrev i (n:Nat) (a b:IC):IC:=.cond (.t n) a b
abbrev k:IC:=.skip
abbrev r:IC:=.ret
abbrev X (n:Nat) (l:List Sim.RV) (c:IC) (p f:Bool):IFn:=⟨n,l,c,p,f⟩
end Go.P.V
namespace Go.P
open Go.Sim (eB eO gE IFn Tab AV nY hU jL fM)
open Go.Proofs
def ax (p:PFn) (a b:Bool):Go.Sim.IFn:={ntmps:=p.ntmps,res:=p.res,body:=erC p.code,pure:=a,frz:=b}
section
open V
def ix6:=X 23 [.tmp 0] (R [z 0 cf] (R [f 4 22 [],o 5 (.build [J 0,J 0] [(0,1),(1,1)]) [c 1,c 2],o 6 (.callF 9) [t 4,c 0,t 5],m 3 6,e 7 0 3,e 8 1 3,m 1 7,m 2 8] (R [m 9 2,o 10 (.bin .eql) [t 9,c 0],m 11 10,⟨some 12,.mov,[t 1],some (11,true)⟩,⟨some 13,.len 0,[t 12],some (11,true)⟩,⟨some 14,.bin .eql,[t 13,c 1],some (11,true)⟩,o 15 (.pick) [t 11,t 14,cf],m 16 15,⟨some 17,.mov,[t 1],some (16,true)⟩,⟨some 18,.iad 5,[t 17,c 0],some (16,true)⟩,⟨some 19,.loadA 5,[t 18],some (16,true)⟩,⟨some 20,.build [J 0,J 0,J 0,J 0,J 0] [(2,1),(3,1)],[c 1,c 1],some (16,true)⟩,⟨some 21,.eqA false [.i,.i,.i,.i,.i],[t 19,t 20],some (16,true)⟩,o 22 (.pick) [t 16,t 21,cf],m 0 22] r))) true true
def ix22:=X 68 [.cellA 0 6] (R [u 0 (.alloc 27 [ZS,ZB,ZN,ZN,ZN,ZN]) []] (R [o 6 (.build [J 0,J 0,J 0] [(2,1)]) [c 4],u 7 (.build [J 0,J 0,J 0,ZB,J 0] [(0,3)]) [6],u 8 (.buildSl 129 5 1 [J 0,J 0,J 0,ZB,J 0] [0]) [7],m 1 8] (R [o 9 (.build [J 0,J 0] [(1,1)]) [c 1],o 10 (.build [J 0,J 0] [(1,1)]) [c 2],o 11 (.build [J 0,J 0,J 0] [(0,2),(2,1)]) [t 10,c 1],u 12 (.buildSl 131 3 1 [J 0,J 0,J 0] [0]) [11],u 13 (.build [J 0,J 0,ZS,J 0,J 0,ZN] [(0,2),(5,1)]) [9,12],o 14 (.build [J 0,J 0] [(1,1)]) [c 3],o 15 (.build [J 0,J 0] [(1,1)]) [c 4],o 16 (.build [J 0,J 0,J 0] [(0,2),(2,1)]) [t 15,c 1],u 17 (.buildSl 131 3 1 [J 0,J 0,J 0] [0]) [16],u 18 (.build [J 0,J 0,ZS,J 0,J 0,ZN] [(0,2),(5,1)]) [14,17],u 19 (.buildSl 87 6 2 [J 0,J 0,ZS,J 0,J 0,ZN] [0,1]) [13,18],o 20 (.build [J 0,J 0] [(1,1)]) [c 10],u 21 (.buildSl 59 2 1 [J 0,J 0] [0]) [20],u 22 (.build [ZS,ZB,ZN,ZN,ZN,ZN] [(2,1),(5,1)]) [19,21],u 2 (.alloc 27 [ZS,ZB,ZN,ZN,ZN,ZN]) [],s 6 2 22] (q (R [z 3 (c 0)] (.block 0 (.loop (q (R [m 23 3,o 24 (.bin .lss) [t 23,c 2]] (i 24 k (.exit 0))) (q (.block 1 (R [m 27 3,o 28 (.bin .mul) [c 3,t 27],o 29 (.bin .add) [c 6,t 28],u 30 (.build [J 0,J 0] [(1,1)]) [29],o 31 (.build [J 0,J 0,J 0,J 0,J 0,ZN,ZN,J 0,J 0,J 0,ZN,J 0,J 0] [(0,2),(2,1)]) [t 30,c 3],u 4 (.alloc 116 [J 0,J 0,J 0,J 0,J 0,ZN,ZN,J 0,J 0,J 0,ZN,J 0,J 0]) [],s 13 4 31] (q (R [m 32 3,o 33 (.bin .eql) [t 32,c 1]] (i 33 (.reg [o 34 (.build [J 0,J 0] [(1,1)]) [c 9],o 35 (.build [J 0,J 0] [(0,1)]) [c 2],m 36 1,o 37 (.build [J 0,J 0,J 0,J 0,J 0,ZN,ZN,J 0,J 0,J 0,ZN,J 0,J 0] [(0,2),(2,1),(3,2),(5,1)]) [t 34,c 1,t 35,t 36],s 13 4 37]) k)) (R [m 38 3,o 39 (.bin .mul) [c 3,t 38],o 40 (.bin .add) [c 7,t 39],u 41 (.build [J 0,J 0] [(1,1)]) [40],o 42 (.build [J 0,J 0] [(0,1)]) [c 2],m 43 1,o 44 (.build [J 0,J 0,J 0,J 0,J 0,ZN,ZN,J 0,J 0,J 0,ZN,J 0,J 0] [(0,2),(2,1),(3,2),(5,1)]) [t 41,c 1,t 42,t 43],u 5 (.alloc 116 [J 0,J 0,J 0,J 0,J 0,ZN,ZN,J 0,J 0,J 0,ZN,J 0,J 0]) [],s 13 5 44] (.reg [a 45 3 2,l 46 45,m 47 3,o 48 (.bin .mul) [c 3,t 47],o 49 (.bin .add) [c 5,t 48],u 50 (.build [J 0,J 0] [(1,1)]) [49],o 51 (.build [J 0,J 0,J 0,J 0,J 0,J 0,J 0,J 0] [(0,1),(1,1)]) [c 1,c 4],u 52 (.loadA 13) [4],u 53 (.buildSl 116 13 1 [J 0,J 0,J 0,J 0,J 0,ZN,ZN,J 0,J 0,J 0,ZN,J 0,J 0] [0]) [52],u 54 (.build [ZN,ZN] [(0,1)]) [53],u 55 (.buildSl 103 2 1 [ZN,ZN] [0]) [54],u 56 (.build [ZN,ZN] [(1,1)]) [55],u 57 (.loadA 13) [5],u 58 (.buildSl 116 13 1 [J 0,J 0,J 0,J 0,J 0,ZN,ZN,J 0,J 0,J 0,ZN,J 0,J 0] [0]) [57],u 59 (.build [ZN,ZN] [(0,1)]) [58],u 60 (.buildSl 103 2 1 [ZN,ZN] [0]) [59],u 61 (.build [ZN,ZN] [(1,1)]) [60],u 62 (.buildSl 98 2 2 [ZN,ZN] [0,1]) [56,61],u 63 (.build [J 0,J 0,J 0,J 0,J 0,J 0,J 0,J 0,J 0,J 0,J 0,J 0,ZB,J 0,J 0,J 0,J 0,J 0,J 0,ZS,ZN,ZN] [(0,2),(2,8),(21,1)]) [50,51,62],u 64 (.buildSl 95 22 1 [J 0,J 0,J 0,J 0,J 0,J 0,J 0,J 0,J 0,J 0,J 0,J 0,ZB,J 0,J 0,J 0,J 0,J 0,J 0,ZS,ZN,ZN] [0]) [63],u 65 (.append 95 22 216 [J 0,J 0,J 0,J 0,J 0,J 0,J 0,J 0,J 0,J 0,J 0,J 0,ZB,J 0,J 0,J 0,J 0,J 0,J 0,ZS,ZN,ZN] false) [46,64],a 66 3 2,s 1 66 65]))))) (.reg [m 25 3,o 26 (.bin .add) [t 25,c 1],m 3 26])))))) (R [u 67 (.loadA 6) [2],s 6 0 67] r))))) true false
def ix24:=X 26 [.tmp 4] (R [u 2 (.box 66 6) [0],u 3 (.box 66 6) [1],z 4 (c 0)] (q (.regD [a 5 5 2,l 6 5,a 7 5 3,l 8 7,f 9 26 [6,8],a 10 0 3,a 11 3 10,l 12 11,a 13 0 2,a 14 3 13,l 15 14,f 16 26 [12,15],a 17 0 3,a 18 4 17,l 19 18,a 20 0 2,a 21 4 20,l 22 21,f 23 26 [19,22],u 24 (.buildSl 3 1 3 [J 0] [0,1,2]) [9,16,23],f 25 25 [24],m 4 25] [0,1,0,4,15,0,32,96,0,256,768,2047,0,4096,12288,0,32768,98304,262143,524287,1048575,2097151]) r)) true true
def ix29:=X 10 [.tmp 8] (R [u 4 (.box 27 6) [0],u 5 (.box 3 1) [1],u 6 (.box 3 1) [2],u 7 (.box 3 1) [3],z 8 (.c (.v .nilFunc))] (R [u 9 (.mkfn (.func 52) 0) [4,5,6,7],m 8 9] r)) false true
def ix30:=X 44 [.tmp 4] (R [u 2 (.box 27 6) [0],u 3 (.box 39 5) [1],z 4 (c 0)] (R [u 13 (.loadA 6) [2],u 14 (.loadA 5) [3],f 15 41 [13,14],m 12 15,e 16 0 12,e 17 1 12,m 5 16,m 6 17] (q (R [m 18 6,u 19 (.un .not) [18]] (i 19 (R [z 4 (c 0)] r) k)) (R [z 7 (c 0)] (q (R [m 20 5,u 21 (.len 0) [20],z 22 (c 0)] (.block 0 (.loop (R [u 23 (.bin .lss) [22,21]] (q (i 23 k (.exit 0)) (q (.block 1 (R [m 24 22,u 25 (.iad 2) [20,22],u 26 (.loadA 2) [25],u 9 (.alloc 103 [ZN,ZN]) [],m 8 24,s 2 9 26] (R [a 27 0 9,l 28 27,u 29 (.len 0) [28],z 30 (c 0)] (.block 2 (.loop (R [u 31 (.bin .lss) [30,29]] (q (i 31 k (.exit 2)) (q (.block 3 (R [u 32 (.iad 13) [28,30],u 33 (.loadA 13) [32],u 11 (.alloc 116 [J 0,J 0,J 0,J 0,J 0,ZN,ZN,J 0,J 0,J 0,ZN,J 0,J 0]) [],s 13 11 33] (R [a 34 2 11,l 35 34,o 36 (.bin .eql) [t 35,c 1]] (i 36 (.reg [m 37 7,m 38 8,o 39 (.bin .add) [t 38,c 1],u 40 (.bin .add) [37,39],m 7 40]) k)))) (.reg [o 41 (.bin .add) [t 30,c 1],m 30 41]))))))))) (.reg [o 42 (.bin .add) [t 22,c 1],m 22 42]))))))) (R [m 43 7,m 4 43] r)))))) true true
def ix31:=X 33 [.cellA 4 6] (R [u 4 (.alloc 66 [J 0,J 0,J 0,J 0,J 0,J 0]) []] (q (R [m 7 0,u 8 (.len 0) [7],o 9 (.bin .lss) [t 8,c 1]] (i 9 (.reg [u 10 (.fail) [],⟨none,.fail,[],none⟩]) k)) (R [m 11 0,o 12 (.iad 6) [t 11,c 0],u 13 (.loadA 6) [12],u 5 (.alloc 66 [J 0,J 0,J 0,J 0,J 0,J 0]) [],s 6 5 13] (q (R [z 6 (c 1)] (.block 0 (.loop (q (R [m 14 6,m 15 0,u 16 (.len 0) [15],u 17 (.bin .lss) [14,16]] (i 17 k (.exit 0))) (q (.block 1 (q (.regD [m 20 1,m 21 0,m 22 6,u 23 (.iad 6) [21,22],u 24 (.loadA 6) [23],u 25 (.loadA 6) [5],u 26 (.callV) [20,24,25],o 27 (.bin .gtr) [t 26,c 0]] [0,0,0,6,14,0,63,127]) (i 27 (.reg [m 28 0,m 29 6,u 30 (.iad 6) [28,29],u 31 (.loadA 6) [30],s 6 5 31]) k))) (.reg [m 18 6,o 19 (.bin .add) [t 18,c 1],m 6 19])))))) (R [u 32 (.loadA 6) [5],s 6 4 32] r))))) true true
def ix41:=X 229 [.tmp 4,.tmp 5] (R [u 2 (.box 27 6) [0],u 3 (.box 39 5) [1],z 4 cn,z 5 cf] (R [u 29 (.loadA 6) [2],a 30 0 3,l 31 30,f 32 36 [29,31],m 28 32,e 33 0 28,e 34 1 28,m 6 33,m 7 34] (R [u 36 (.loadA 6) [2],a 37 3 3,l 38 37,f 39 53 [36,38],m 35 39,e 40 0 35,e 41 1 35,e 42 2 35,m 8 40,m 9 41,m 10 42] (R [a 43 2 2,l 44 43,a 45 0 3,l 46 45,u 47 (.iad 6) [44,46],a 48 3 47,u 49 (.loadA 2) [48],u 11 (.alloc 84 [J 0,J 0]) [],s 2 11 49] (R [a 50 1 11,l 51 50,m 12 51] (R [u 13 (.alloc 84 [J 0,J 0]) []] (q (R [a 52 1 2,l 53 52] (i 53 (R [m 54 12,u 55 (.un .neg) [54],m 12 55] (q (.regD [u 57 (.loadA 2) [11],a 58 2 2,l 59 58,m 60 8,u 61 (.iad 6) [59,60],a 62 3 61,u 63 (.loadA 2) [62],f 64 76 [57,63],m 56 64,e 65 0 56,e 66 1 56,u 14 (.alloc 84 [J 0,J 0]) [],s 2 14 65,m 15 66] [0,0,2,0,14,30,62,127,255,511,511,0,3071,8191]) (q (R [m 67 15,o 68 (.bin .neq) [t 67,c 0]] (i 68 (R [z 4 cn,z 5 cf] r) k)) (.reg [u 69 (.loadA 2) [14],s 2 13 69])))) k)) (R [z 16 cn] (q (R [a 70 1 3,l 71 70,m 17 71] (.block 0 (.loop (q (R [m 72 17,a 73 2 3,l 74 73,u 75 (.bin .lss) [72,74]] (i 75 k (.exit 0))) (q (.block 1 (R [a 78 3 2,l 79 78,m 80 17,u 81 (.iad 22) [79,80],a 82 21 81,l 83 82,m 18 83] (q (q (.regD [m 84 18,a 85 3 3,l 86 85,u 87 (.iad 2) [84,86],a 88 1 87,l 89 88,u 90 (.len 0) [89],a 91 4 3,l 92 91,u 93 (.bin .leq) [90,92],m 94 93,⟨some 95,.mov,[t 18],some (94,false)⟩,⟨some 96,.fad 3,[t 3],some (94,false)⟩,⟨some 97,.loadS,[t 96],some (94,false)⟩,⟨some 98,.iad 2,[t 95,t 97],some (94,false)⟩,⟨some 99,.fad 1,[t 98],some (94,false)⟩,⟨some 100,.loadS,[t 99],some (94,false)⟩,⟨some 101,.fad 4,[t 3],some (94,false)⟩,⟨some 102,.loadS,[t 101],some (94,false)⟩,⟨some 103,.iad 2,[t 100,t 102],some (94,false)⟩,⟨some 104,.fad 0,[t 103],some (94,false)⟩,⟨some 105,.loadS,[t 104],some (94,false)⟩,⟨some 106,.len 0,[t 105],some (94,false)⟩,⟨some 107,.bin .eql,[t 106,c 0],some (94,false)⟩,o 108 (.pick) [t 94,ct,t 107],m 109 108,⟨some 110,.mov,[t 18],some (109,false)⟩,⟨some 111,.mov,[t 6],some (109,false)⟩,⟨some 112,.iad 2,[t 110,t 111],some (109,false)⟩,⟨some 113,.fad 1,[t 112],some (109,false)⟩,⟨some 114,.loadS,[t 113],some (109,false)⟩,⟨some 115,.len 0,[t 114],some (109,false)⟩,⟨some 116,.bin .neq,[t 115,c 1],some (109,false)⟩,o 117 (.pick) [t 109,ct,t 116]] [0,0,2,7,15,31,63,0,128,511,1023,2047,2047,6143,16383,32767,65535,2047,133119,524287,1048575,2097151,4194303,8388607,16777215,33554431,67108863,67108863,268435455,536870911,1073741823,2147483647,4294967295,8589934591]) (i 117 (R [z 4 cn,z 5 cf] r) k)) (q (.regD [m 118 18,a 119 3 3,l 120 119,u 121 (.iad 2) [118,120],a 122 1 121,l 123 122,a 124 4 3,l 125 124,u 126 (.iad 2) [123,125],u 127 (.loadA 2) [126],f 128 77 [127],u 19 (.alloc 103 [ZN,ZN]) [],s 2 19 128] [0,0,2,7,15,31,0,64,255,511,1023,0,4095]) (q (R [a 129 0 19,l 130 129,u 131 (.len 0) [130],z 132 (c 0)] (.block 2 (.loop (R [u 133 (.bin .lss) [132,131]] (q (i 133 k (.exit 2)) (q (.block 3 (R [m 134 132,m 20 134] (R [a 135 0 19,l 136 135,m 137 20,u 138 (.iad 13) [136,137],m 21 138] (q (.regD [m 139 21,m 140 21,u 141 (.nilc) [140],a 142 2 141,l 143 142,m 144 21,u 145 (.nilc) [144],a 146 3 145,u 147 (.loadA 2) [146],m 148 21,u 149 (.nilc) [148],a 150 5 149,l 151 150,u 152 (.build [J 0,J 0,J 0,J 0,J 0,ZN,ZN,J 0,J 0,J 0,ZN,J 0,J 0] [(2,1),(3,2),(5,1)]) [143,147,151],u 153 (.nilc) [139],s 13 153 152] [0,0,2,6,14,0,32,96,224,0,512,1536,3584,8190,16383,32767]) (R [m 154 21,u 155 (.nilc) [154],a 156 5 155,l 157 156,u 158 (.len 0) [157],z 159 (c 0)] (.block 4 (.loop (R [u 160 (.bin .lss) [159,158]] (q (i 160 k (.exit 4)) (q (.block 5 (R [m 161 159,m 22 161] (R [m 162 21,u 163 (.nilc) [162],a 164 5 163,l 165 164,m 166 22,u 167 (.iad 5) [165,166],m 23 167] (R [m 168 23,u 169 (.nilc) [168],a 170 4 169,⟨none,.store 1,[t 170,c 0],none⟩] (q (R [m 171 17,a 172 2 3,l 173 172,o 174 (.bin .sub) [t 173,c 1],u 175 (.bin .eql) [171,174],m 176 175,⟨some 177,.mov,[t 20],some (176,true)⟩,⟨some 178,.fad 0,[t 19],some (176,true)⟩,⟨some 179,.loadS,[t 178],some (176,true)⟩,⟨some 180,.len 0,[t 179],some (176,true)⟩,⟨some 181,.bin .sub,[t 180,c 1],some (176,true)⟩,⟨some 182,.bin .eql,[t 177,t 181],some (176,true)⟩,o 183 (.pick) [t 176,t 182,cf]] (i 183 (.reg [m 184 23,u 185 (.nilc) [184],a 186 3 185,⟨none,.store 1,[t 186,cf],none⟩]) k)) (R [m 187 23,u 188 (.nilc) [187],a 189 0 188,u 190 (.loadA 3) [189],u 24 (.alloc 127 [J 0,J 0,J 0]) [],s 3 24 190,z 25 (c 0)] (q (R [a 191 1 2,l 192 191] (i 192 (.reg [u 194 (.loadA 3) [24],u 195 (.loadA 2) [13],f 196 78 [194,195],m 193 196,e 197 0 193,e 198 1 193,s 3 24 197,m 25 198]) k)) (R [u 200 (.loadA 3) [24],f 201 79 [200],m 199 201,e 202 0 199,e 203 1 199,m 26 202,m 27 203] (q (R [m 204 25,o 205 (.bin .neq) [t 204,c 0],m 206 205,⟨some 207,.mov,[t 26],some (206,false)⟩,⟨some 208,.mov,[t 12],some (206,false)⟩,⟨some 209,.bin .add,[t 207,t 208],some (206,false)⟩,⟨some 210,.bin .lss,[t 209,c 0],some (206,false)⟩,o 211 (.pick) [t 206,ct,t 210],m 212 211,⟨some 213,.mov,[t 26],some (212,false)⟩,⟨some 214,.mov,[t 12],some (212,false)⟩,⟨some 215,.bin .add,[t 213,t 214],some (212,false)⟩,⟨some 216,.bin .gtr,[t 215,c 127],some (212,false)⟩,o 217 (.pick) [t 212,ct,t 216]] (i 217 (R [z 4 cn,z 5 cf] r) k)) (.reg [m 218 23,u 219 (.loadA 3) [24],u 220 (.nilc) [218],a 221 0 220,s 3 221 219])))))))))) (.reg [o 222 (.bin .add) [t 159,c 1],m 159 222]))))))))))) (.reg [o 223 (.bin .add) [t 132,c 1],m 132 223]))))))) (.reg [m 224 16,u 225 (.loadA 2) [19],u 226 (.buildSl 103 2 1 [ZN,ZN] [0]) [225],u 227 (.append 103 2 48 [ZN,ZN] false) [224,226],m 16 227])))))) (.reg [m 76 17,o 77 (.bin .add) [t 76,c 1],m 17 77])))))) (R [m 228 16,m 4 228,z 5 ct] r)))))))))) true false
def ix52:=X 34 [] (R [u 9 (.loadA 6) [1],f 10 32 [9],z 11 (c 0)] (.block 0 (.loop (R [u 12 (.bin .lss) [11,10]] (q (i 12 k (.exit 0)) (q (.block 1 (R [m 13 11,m 6 13] (R [z 14 (c 0)] (.block 2 (.loop (R [o 15 (.bin .lss) [t 14,c 2]] (q (i 15 k (.exit 2)) (q (.block 3 (R [m 16 14,m 7 16] (R [l 17 2,l 18 3,l 19 4,m 20 6,m 21 7,u 22 (.build [J 0,J 0,J 0,J 0,J 0] [(0,1),(1,1),(2,1),(3,1),(4,1)]) [17,18,19,20,21],u 8 (.alloc 39 [J 0,J 0,J 0,J 0,J 0]) [],s 5 8 22] (R [u 23 (.loadA 6) [1],u 24 (.loadA 5) [8],f 25 43 [23,24],m 26 25,⟨some 27,.mov,[t 0],some (26,true)⟩,⟨some 28,.loadA 5,[t 8],some (26,true)⟩,⟨some 29,.callV,[t 27,t 28],some (26,true)⟩,⟨some 30,.un .not,[t 29],some (26,true)⟩,o 31 (.pick) [t 26,t 30,cf]] (i 31 r k))))) (.reg [o 32 (.bin .add) [t 14,c 1],m 14 32]))))))))) (.reg [o 33 (.bin .add) [t 11,c 1],m 11 33]))))))) false true
def ix77:=X 28 [.cellA 2 2] (R [u 1 (.box 103 2) [0],u 2 (.alloc 103 [ZN,ZN]) []] (R [u 3 (.alloc 103 [ZN,ZN]) []] (q (R [a 6 0 1,l 7 6,u 8 (.len 0) [7],z 9 (c 0)] (.block 0 (.loop (R [u 10 (.bin .lss) [9,8]] (q (i 10 k (.exit 0)) (q (.block 1 (R [u 11 (.iad 13) [7,9],u 12 (.loadA 13) [11],u 5 (.alloc 116 [J 0,J 0,J 0,J 0,J 0,ZN,ZN,J 0,J 0,J 0,ZN,J 0,J 0]) [],s 13 5 12] (.regD [a 13 0 3,l 14 13,u 15 (.loadA 13) [5],f 16 140 [15],u 17 (.buildSl 116 13 1 [J 0,J 0,J 0,J 0,J 0,ZN,ZN,J 0,J 0,J 0,ZN,J 0,J 0] [0]) [16],u 18 (.append 116 13 152 [J 0,J 0,J 0,J 0,J 0,ZN,ZN,J 0,J 0,J 0,ZN,J 0,J 0] false) [14,17],a 19 0 3,s 1 19 18] [0,1,0,4,12,31,63,127]))) (.reg [o 20 (.bin .add) [t 9,c 1],m 9 20]))))))) (R [a 21 1 3,l 22 21,a 23 1 1,l 24 23,u 25 (.append 331 4 32 [J 0,J 0,J 0,J 0] false) [22,24],a 26 1 3,s 1 26 25] (R [u 27 (.loadA 2) [3],s 2 2 27] r))))) false true
def jT1:=X 8 [.tmp 2] (R [z 2 cn] (q (R [m 3 0,o 4 (.eqNil false 0) [t 3,cn]] (i 4 (R [z 2 cn] r) k)) (R [u 5 (.buildSl 129 5 0 [J 0,J 0,J 0,ZB,J 0] []) [],m 6 0,u 7 (.append 129 5 40 [J 0,J 0,J 0,ZB,J 0] false) [5,6],m 2 7] r))) false true
def jU1:=X 8 [.tmp 2] (R [z 2 cn] (q (R [m 3 0,o 4 (.eqNil false 0) [t 3,cn]] (i 4 (R [z 2 cn] r) k)) (R [u 5 (.buildSl 199 5 0 [J 0,J 0,J 0,J 0,ZB] []) [],m 6 0,u 7 (.append 199 5 40 [J 0,J 0,J 0,J 0,ZB] false) [5,6],m 2 7] r))) false true
def jV1:=X 8 [.tmp 2] (R [z 2 cn] (q (R [m 3 0,o 4 (.eqNil false 0) [t 3,cn]] (i 4 (R [z 2 cn] r) k)) (R [u 5 (.buildSl 141 2 0 [ZS,J 0] []) [],m 6 0,u 7 (.append 141 2 24 [ZS,J 0] false) [5,6],m 2 7] r))) false true
end
def bI:Nat->Option Go.Sim.IFn
 |6=>some ix6
 |196=>some (gC 129 5 40 [(.int .i64 0),(.int .i64 0),(.int .i64 0),(.bool false),(.int .i64 0)])
 |197=>some (gC 199 5 40 [(.int .i64 0),(.int .i64 0),(.int .i64 0),(.int .i64 0),(.bool false)])
 |198=>some (gC 141 2 24 [(.string ⟨#[]⟩),(.int .i64 0)])
 |_=>none
def tl2:List (Option Go.Sim.IFn):=[none,none,none,none,none,none,some ix6,none,none,some (ax p9 true false),none,none,none,none,some (ax p14 true true),none,none,none,some (ax p18 true true),none,none,none,some ix22,some (ax p23 true true),some ix24,some (ax p25 true true),some (ax p26 true true),some (ax p27 false true),some (ax p28 true false),some ix29,some ix30,some ix31,some (ax p32 true true),none,none,none,some (ax p36 true true),some (ax p37 true true),none,none,none,some ix41,none,some (ax p43 true true),none,none,none,none,none,none,some (ax p50 true true),some (ax p51 false true),some ix52,some (ax p53 true true),none,some (ax p55 true true),some (ax p56 true true),some (ax p57 true true),some (ax p58 true true),none,none,none,none,none,none,none,none,none,none,none,none,none,none,none,none,none,none,some ix77,none,some (ax p79 true true),none,none,none,none,none,none,none,none,none,none,none,none,none,none,some (ax p94 true true),some (ax p95 true true),none,none,none,none,none,none,none,none,none,none,none,none,none,none,none,none,none,none,none,none,none,none,none,none,none,none,none,none,none,none,none,none,none,none,none,none,none,none,none,none,none,none,none,none,some (ax p140 false true),none,none,none,none,none,none,some (ax p147 true true),some (ax p148 true true),none,none,none,none,none,none,none,none,none,none,none,none,none,none,none,none,none,none,none,none,none,none,none,none,none,none,none,none,none,none,none,none,none,none,none,none,none,none,none,none,none,none,none,none,none,none,none,some jT1,some jU1,some jV1,none,none,none,none,some (ax p203 true true)]
def tI:Nat->List (Option PFn)->List (Option IFn)
 |_,[]=>[]
 |i,none::r=>bI i::tI (i+1) r
 |i,some p::r=>some (toI (NF40 i) p)::tI (i+1) r
theorem bN1:∀(l:List (Option PFn)) (i j:Nat) (fn:PFn),l[j]? =some (some fn)->(tI i l)[j]? =some (some (toI (NF40 (i+j)) fn))
 |[],i,j,fn,h=>by simp at h
 |none::r,i,0,fn,h=>by simp at h
 |none::r,i,j+1,fn,h=>by
  have:=bN1 r (i+1) j fn (by simpa using h)
  rw[show i+1+j=i+(j+1)by omega]at this
  simpa[tI]using this
 |some p::r,i,0,fn,h=>by simp at h;subst h;rfl
 |some p::r,i,j+1,fn,h=>by
  have:=bN1 r (i+1) j fn (by simpa using h)
  rw[show i+1+j=i+(j+1)by omega]at this
  simpa[tI]using this
def tl:List (Option IFn):=tI 0 pl
abbrev Mm:=List (Nat×List AV×AV)
def TM (M:Mm):Tab:=⟨fun f=>(tl[f]?).join,nY M⟩
abbrev MK:Mm:=[(6,[],.v (.bool true))]
abbrev TBL:Tab:=TM MK
def okE (o:Option PFn):Bool:=match o with|some fn=>okP NF40 fn.ntmps false fn.code|none=>true
theorem jW1:pl.all okE=true:=by kernel_rfl
theorem tabM {M:Mm} (a:∀e∈M,e.1=6) (f:Nat) (fn:PFn) (h:P40 f=some fn):TM M f=some (toI (NF40 f) fn)/\okP NF40 fn.ntmps false fn.code=true/\∀ys,(TM M).memo f ys=none:=by
 have h1:pl[f]? =some (some fn):=by
  unfold P40 at h
  cases hl:pl[f]? with
  |none=>rw[hl]at h;cases h
  |some o=>rw[hl]at h;cases o with
   |none=>cases h
   |some q=>cases h;rfl
 refine⟨?_,?_,fun ys=>hU (fun e he hf=>?_) ys⟩
 .have:=bN1 pl 0 f fn h1
  rw[Nat.zero_add]at this
  show(tl[f]?).join=_
  unfold tl
  rw[this];rfl
 .exact List.all_eq_true.1 jW1 _ (List.mem_of_getElem? h1)
 .rw [a e he]at hf
  subst hf
  cases h
theorem eX1:∀e∈MK,e.1=6:=by intro e he;rcases List.mem_singleton.1 he with rfl;rfl
theorem jB1 (f:Nat) (fn:PFn) (h:P40 f=some fn):TBL f=some (toI (NF40 f) fn)/\okP NF40 fn.ntmps false fn.code=true/\∀ys,TBL.memo f ys=none:=tabM eX1 f fn h
theorem dY1:Tryz.prog.follows .mixedOrders=true:=by kernel_rfl
theorem all1:eO Tryz.prog 0 tl:=eO.of (i:=0) (fs:=Tryz.prog.funcs.toList) rfl (by kernel_rfl)
theorem all2:eO Tryz.prog 0 tl2:=eO.of (i:=0) (fs:=Tryz.prog.funcs.toList) rfl (by kernel_rfl)
theorem tab0:eB Tryz.prog (TM []):=eO.tab (M:=[]) all1 trivial
end Go.P
