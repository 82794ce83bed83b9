import Derived.Test.YtgboeaaoebjfaaaGreatGaB
import Derived.Test.YtgboeaaoebjfaaaGreatChecked
/- A text of the proof. -/
set_option linter.all false
set_option maxRecDepth 100000
set_option maxHeartbeats 2000000
namespace Go.P.V
open Go.Sim
abbrev t (n:Nat):IX:=.t n
abbrev c (n:Int):IX:=.c (.v (.int .i64 n))
abbrev cn:IX:=.c (.v (.slice none 0 0))
abbrev ct:IX:=.c (.v (.bool true))
abbrev cf:IX:=.c (.v (.bool false))
abbrev J (n:Int):Value:=.int .i64 n
abbrev ZS:Value:=.string ⟨#[]⟩
abbrev ZB:Value:=.bool false
abbrev ZN:Value:=.slice none 0 0
abbrev o (d:Nat) (k:OpK) (xs:List IX):Sim.Op1:=⟨some d,k,xs,none⟩
abbrev u (d:Nat) (k:OpK) (xs:List Nat):Sim.Op1:=⟨some d,k,xs.map .t,none⟩
abbrev m (d x:Nat):Sim.Op1:=⟨some d,.mov,[.t x],none⟩
abbrev z (d:Nat) (x:IX):Sim.Op1:=⟨some d,.mov,[x],none⟩
abbrev l (d x:Nat):Sim.Op1:=⟨some d,.loadS,[.t x],none⟩
abbrev a (d k x:Nat):Sim.Op1:=⟨some d,.fad k,[.t x],none⟩
abbrev e (d k x:Nat):Sim.Op1:=⟨some d,.ext k,[.t x],none⟩
abbrev f (d g:Nat) (xs:List Nat):Sim.Op1:=⟨some d,.callF g,xs.map .t,none⟩
abbrev s (n x y:Nat):Sim.Op1:=⟨none,.store n,[.t x,.t y],none⟩
abbrev R (l:List Sim.Op1) (b:IC):IC:=.seq (.reg l) b
abbrev q (a b:IC):IC:=.seq a b
abbrev i (n:Nat) (a b:IC):IC:=.cond (.t n) a b
abbrev k:IC:=.skip
abbrev r:IC:=.ret
abbrev X (n:Nat) (l:List Sim.RV) (c:IC) (p f:Bool):IFn:=⟨n,l,c,p,f⟩
end Go.P.V
namespace Go.P
open Go.Sim (dZ eR gN IFn Tab AV oE iD jS fZ)
open Go.Proofs
noncomputable section
def ax (p:PFn) (a b:Bool):Go.Sim.IFn:={ntmps:=p.ntmps,res:=p.res,body:=erC p.code,pure:=a,frz:=b}
section
open V
abbrev w0:List Value:=[J 0,J 0,J 0,J 0,J 0,J 0,J 0,J 0,J 0]
abbrev w1:List Value:=[J 0,J 0]
abbrev w2:List Value:=[J 0,J 0,J 0,J 0,J 0,J 0,J 0,J 0,J 0,J 0,J 0,J 0,ZB,J 0,J 0,J 0,J 0,J 0,J 0,ZS,ZN,ZN]
abbrev w3:List Value:=[ZS,ZB,ZN,ZN,ZN,ZN]
abbrev w4:List Value:=[J 0,J 0,J 0,J 0,J 0,ZN,ZN,J 0,J 0,J 0,ZN,J 0,J 0]
abbrev w5:List Value:=[ZN,ZN]
abbrev w6:List Value:=[J 0,J 0,J 0]
abbrev w7:List Value:=[J 0,J 0,ZS,J 0,J 0,ZN]
abbrev w8:List Value:=[J 0,J 0,J 0,J 0,J 0,J 0,J 0,J 0]
abbrev w9:List Value:=[J 0,J 0,J 0,J 0,J 0]
abbrev w10:List Value:=[J 0,J 0,J 0,ZB,J 0]
def ix7:=X 45 [.tmp 0] (R [z 0 cf] (R [f 6 13 [],f 7 12 [6],m 5 7,e 8 0 5,e 9 1 5,m 1 8,m 2 9] (R [f 11 13 [],f 12 14 [11],m 10 12,e 13 0 10,e 14 1 10,m 3 13,m 4 14] (q (.regD [m 15 2,o 16 (.bin .eql) [t 15,c 0],m 17 16,⟨some 18,.mov,[t 1],some (17,true)⟩,⟨some 19,.len 0,[t 18],some (17,true)⟩,⟨some 20,.bin .eql,[t 19,c 1],some (17,true)⟩,o 21 (.pick) [t 17,t 20,cf],m 22 21,⟨some 23,.mov,[t 1],some (22,true)⟩,⟨some 24,.iad 9,[t 23,c 0],some (22,true)⟩,⟨some 25,.loadA 9,[t 24],some (22,true)⟩,⟨some 26,.callF 15,[c 4],some (22,true)⟩,⟨some 27,.build w0 [(1,1),(2,1),(6,2)],[c 1451520,c 60,t 26],some (22,true)⟩,⟨some 28,.eqA false [.i,.i,.i,.i,.i,.i,.i,.i,.i],[t 25,t 27],some (22,true)⟩,o 29 (.pick) [t 22,t 28,cf],m 30 29,⟨some 31,.mov,[t 4],some (30,true)⟩,⟨some 32,.bin .eql,[t 31,c 0],some (30,true)⟩,o 33 (.pick) [t 30,t 32,cf],m 34 33,⟨some 35,.mov,[t 3],some (34,true)⟩,⟨some 36,.len 0,[t 35],some (34,true)⟩,⟨some 37,.bin .eql,[t 36,c 2],some (34,true)⟩,o 38 (.pick) [t 34,t 37,cf],m 39 38,⟨some 40,.mov,[t 3],some (39,true)⟩,⟨some 41,.iad 1,[t 40,c 1],some (39,true)⟩,⟨some 42,.loadS,[t 41],some (39,true)⟩,⟨some 43,.bin .eql,[t 42,c 1935360],some (39,true)⟩,o 44 (.pick) [t 39,t 43,cf],m 0 44] [0,1,3,7,15,31,63,127,255,511,1023,255,2303,8191,16383,32767,65535,131071,262143,524287,1048575,2097151,4194303,8388607,16777215,33554431,67108863,134217727,268435455,536870911,1073741823]) r)))) true true
def ix14:=X 9 [.tmp 2,.tmp 3] (R [u 1 (.box 44 6) [0],z 2 cn,z 3 (c 0)] (q (R [u 4 (.loadA 6) [1],f 5 19 [4],u 6 (.un .not) [5]] (i 6 (R [z 2 cn,z 3 (c 24)] r) k)) (R [u 7 (.loadA 6) [1],f 8 20 [7],m 2 8,z 3 (c 0)] r))) true false
def ix15:=X 5 [.cellA 2 2] (R [u 2 (.alloc 25 w1) []] (R [m 3 0,o 4 (.build w1 [(0,1),(1,1)]) [c 1,t 3],s 2 2 4] r)) true true
def ix12:=X 73 [.tmp 2,.tmp 3] (R [u 1 (.box 44 6) [0],z 2 cn,z 3 (c 0)] (q (R [u 15 (.loadA 6) [1],f 16 19 [15],u 17 (.un .not) [16]] (i 17 (R [z 2 cn,z 3 (c 24)] r) k)) (R [u 4 (.alloc 22 [ZN]) []] (R [u 18 (.loadA 6) [1],f 19 20 [18],m 5 19] (q (R [u 20 (.loadA 6) [1],f 21 21 [20],z 22 (c 0)] (.block 0 (.loop (R [u 23 (.bin .lss) [22,21]] (q (i 23 k (.exit 0)) (q (.block 1 (R [m 24 22,m 6 24] (R [u 26 (.loadA 6) [1],m 27 6,f 28 22 [26,27],m 25 28,e 29 0 25,e 30 1 25,e 31 2 25,m 7 29,m 8 30,m 9 31] (R [z 10 (c 0)] (q (R [a 32 1 1,l 33 32] (i 33 (.reg [a 34 2 1,l 35 34,m 36 7,u 37 (.iad 6) [35,36],a 38 3 37,a 39 1 38,l 40 39,m 10 40]) k)) (R [z 41 (c 0)] (.block 2 (.loop (R [o 42 (.bin .lss) [t 41,c 2]] (q (i 42 k (.exit 2)) (q (.block 3 (R [m 43 41,m 11 43] (R [m 44 7,m 45 8,m 46 11,u 47 (.build w0 [(3,1),(4,1),(5,1)]) [44,45,46],m 48 10,u 49 (.build [(.pointer none),(.map none),J 0,J 0,J 0,J 0,J 0,J 0,J 0,J 0,J 0,J 0] [(0,1),(2,9),(11,1)]) [4,47,48],u 50 (.box 68 12) [49],m 12 50] (R [a 51 3 1,l 52 51,u 53 (.len 0) [52],z 54 (c 0)] (.block 4 (.loop (R [u 55 (.bin .lss) [54,53]] (q (i 55 k (.exit 4)) (q (.block 5 (R [m 56 54,u 57 (.iad 22) [52,54],u 58 (.loadA 22) [57],u 14 (.alloc 75 w2) [],m 13 56,s 22 14 58] (.regD [m 59 12,u 60 (.loadA 22) [14],m 61 5,m 62 13,u 63 (.iad 1) [61,62],l 64 63,m 65 6,m 66 11,f 67 23 [59,60,64,65,66]] [0,0,0,0,12,28,0,0,255]))) (.reg [o 68 (.bin .add) [t 54,c 1],m 54 68])))))))))) (.reg [o 69 (.bin .add) [t 41,c 1],m 41 69])))))))))))) (.reg [o 70 (.bin .add) [t 22,c 1],m 22 70]))))))) (R [l 71 4,f 72 9 [71],m 2 72,z 3 (c 0)] r)))))) true false
def ix13:=X 35 [.cellA 0 6] (R [u 0 (.alloc 44 w3) []] (R [z 1 (.c (.fn (.func 24) [] []))] (R [o 3 (.callF 15) [c 4],o 4 (.build w1 [(0,1)]) [c 1],m 5 1,o 6 (.callV) [t 5,ct],o 7 (.build w4 [(0,2),(2,1),(3,2),(5,1)]) [t 3,c 1,t 4,t 6],o 8 (.callF 15) [c 5],o 9 (.build w1 [(0,1)]) [c 2],m 10 1,o 11 (.callV) [t 10,cf],o 12 (.build w4 [(0,2),(2,1),(3,2),(5,1)]) [t 8,c 1,t 9,t 11],o 13 (.callF 15) [c 6],o 14 (.build w1 [(0,1)]) [c 2],o 15 (.build w4 [(0,2),(2,1),(3,2)]) [t 13,c 2,t 14],u 16 (.buildSl 88 13 3 w4 [0,1,2]) [7,12,15],u 17 (.build w5 [(0,1)]) [16],u 2 (.alloc 92 w5) [],s 2 2 17] (q (.regD [o 18 (.callF 15) [c 1],o 19 (.callF 15) [c 2],o 20 (.build w6 [(0,2),(2,1)]) [t 19,c 1],u 21 (.buildSl 94 3 1 w6 [0]) [20],o 22 (.build w7 [(0,2),(2,1),(5,1)]) [t 18,.c (.v (.string ⟨#[97]⟩)),t 21],u 23 (.buildSl 63 6 1 w7 [0]) [22],o 24 (.callF 15) [c 3],o 25 (.build w8 [(0,1),(1,1)]) [c 4,c 4],u 26 (.loadA 2) [2],u 27 (.buildSl 92 2 1 w5 [0]) [26],u 28 (.build w5 [(1,1)]) [27],u 29 (.buildSl 98 2 1 w5 [0]) [28],u 30 (.build w2 [(0,2),(2,8),(21,1)]) [24,25,29],u 31 (.buildSl 75 22 1 w2 [0]) [30],o 32 (.callF 15) [c 6],u 33 (.buildSl 25 2 1 w1 [0]) [32],u 34 (.build w3 [(2,1),(3,1),(5,1)]) [23,31,33],s 6 0 34] [0,1,3,7,15,31,3,0,0,256,768,1792,4035,8131,67,16451,65535,131071]) r)))) true false
def ix20:=X 33 [.tmp 2] (R [u 1 (.box 44 6) [0],z 2 cn] (R [o 8 (.buildSl 3 1 1 [J 0] [0]) [c 0],m 3 8] (q (R [a 9 3 1,l 10 9,u 11 (.len 0) [10],z 12 (c 0)] (.block 0 (.loop (R [u 13 (.bin .lss) [12,11]] (q (i 13 k (.exit 0)) (q (.block 1 (R [m 14 12,u 15 (.iad 22) [10,12],u 16 (.loadA 22) [15],u 5 (.alloc 75 w2) [],m 4 14,s 22 5 16] (R [u 18 (.loadA 22) [5],f 19 29 [18],m 17 19,e 20 0 17,e 21 1 17,m 6 20,m 7 21] (.reg [m 22 3,m 23 3,m 24 4,u 25 (.iad 1) [23,24],l 26 25,m 27 6,u 28 (.bin .add) [26,27],u 29 (.buildSl 3 1 1 [J 0] [0]) [28],u 30 (.append 3 1 8 [J 0] false) [22,29],m 3 30])))) (.reg [o 31 (.bin .add) [t 12,c 1],m 12 31]))))))) (R [m 32 3,m 2 32] r)))) true false
def ix23:=X 66 [] (R [u 6 (.box 75 22) [1]] (R [u 16 (.loadA 22) [6],f 17 30 [16],m 15 17,e 18 0 15,e 19 1 15,m 10 18,m 11 19] (R [z 12 cf] (q (R [m 20 10,u 21 (.len 0) [20],z 22 (c 0)] (.block 0 (.loop (R [u 23 (.bin .lss) [22,21]] (q (i 23 k (.exit 0)) (q (.block 1 (R [u 24 (.iad 5) [20,22],u 25 (.loadA 5) [24],u 14 (.alloc 110 w9) [],s 5 14 25] (R [a 26 0 14,l 27 26,m 28 3,u 29 (.bin .eql) [27,28],m 30 29,⟨some 31,.fad 1,[t 14],some (30,true)⟩,⟨some 32,.loadS,[t 31],some (30,true)⟩,⟨some 33,.mov,[t 4],some (30,true)⟩,⟨some 34,.bin .eql,[t 32,t 33],some (30,true)⟩,o 35 (.pick) [t 30,t 34,cf]] (i 35 (R [z 12 ct] (.regD [m 36 0,a 37 21 6,l 38 37,m 39 3,u 40 (.iad 2) [38,39],a 41 1 40,l 42 41,m 43 4,u 44 (.iad 2) [42,43],a 45 0 44,l 46 45,a 47 2 14,l 48 47,u 49 (.iad 13) [46,48],u 50 (.loadA 13) [49],m 51 2,a 52 3 14,l 53 52,u 54 (.bin .add) [51,53],m 55 2,a 56 4 14,l 57 56,u 58 (.bin .add) [55,57],f 59 31 [36,50,54,58]] [0,0,2,0,14,30,62,0,254,510,1022,0,2048,8190,16382,0,0,65536,229376,0,0,1048576,3670016,8388607])) k)))) (.reg [o 60 (.bin .add) [t 22,c 1],m 22 60]))))))) (R [m 61 12,u 62 (.un .not) [61]] (i 62 (.reg [m 63 0,u 64 (.nilc) [63],a 65 1 64,⟨none,.store 1,[t 65,.c (.v (.map none))],none⟩]) k)))))) false true
def ix24:=X 7 [.tmp 2] (R [z 2 cn] (R [o 3 (.build w6 [(2,1)]) [c 4],m 4 0,u 5 (.build w10 [(0,3),(3,1)]) [3,4],u 6 (.buildSl 81 5 1 w10 [0]) [5],m 2 6] r)) true false
def ix30:=X 83 [.tmp 2,.tmp 3] (R [u 1 (.box 75 22) [0],z 2 cn,z 3 (c 0)] (q (R [u 16 (.loadA 22) [1],f 17 29 [16],m 15 17,e 18 0 15,e 19 1 15,m 4 18,m 5 19] (R [z 6 cn] (q k (q (R [a 20 21 1,l 21 20,u 22 (.len 0) [21],z 23 (c 0)] (.block 0 (.loop (R [u 24 (.bin .lss) [23,22]] (q (i 24 k (.exit 0)) (q (.block 1 (R [m 25 23,u 26 (.iad 2) [21,23],u 27 (.loadA 2) [26],u 8 (.alloc 98 w5) [],m 7 25,s 2 8 27] (R [a 28 1 8,l 29 28,u 30 (.len 0) [29],z 31 (c 0)] (.block 2 (.loop (R [u 32 (.bin .lss) [31,30]] (q (i 32 k (.exit 2)) (q (.block 3 (R [m 33 31,u 34 (.iad 2) [29,31],u 35 (.loadA 2) [34],u 10 (.alloc 92 w5) [],m 9 33,s 2 10 35] (q (R [m 36 5,o 37 (.bin .neq) [t 36,c 0]] (i 37 (.exit 0) k)) (q (R [u 38 (.loadA 2) [10],f 39 52 [38],u 40 (.un .not) [39]] (i 40 (.exit 3) k)) (R [z 11 cn] (q (R [u 42 (.loadA 2) [10],m 43 4,f 44 53 [42,43],m 41 44,e 45 0 41,e 46 1 41,m 11 45,m 5 46] (R [m 47 5,o 48 (.bin .neq) [t 47,c 0]] (i 48 (.exit 0) k))) (R [m 49 11,u 50 (.len 0) [49],z 51 (c 0)] (.block 4 (.loop (R [u 52 (.bin .lss) [51,50]] (q (i 52 k (.exit 4)) (q (.block 5 (R [m 53 51,u 54 (.iad 1) [49,51],l 55 54,m 12 53,m 13 55] (R [m 56 4,m 14 56] (q (R [m 57 12,o 58 (.bin .add) [t 57,c 1],m 59 11,u 60 (.len 0) [59],u 61 (.bin .lss) [58,60]] (i 61 (.reg [m 62 11,m 63 12,o 64 (.bin .add) [t 63,c 1],u 65 (.iad 1) [62,64],l 66 65,m 14 66]) k)) (.reg [m 67 6,m 68 7,m 69 9,m 70 12,m 71 13,m 72 14,u 73 (.build w9 [(0,1),(1,1),(2,1),(3,1),(4,1)]) [68,69,70,71,72],u 74 (.buildSl 110 5 1 w9 [0]) [73],u 75 (.append 110 5 40 w9 false) [67,74],m 6 75]))))) (.reg [o 76 (.bin .add) [t 51,c 1],m 51 76]))))))))))))) (.reg [o 77 (.bin .add) [t 31,c 1],m 31 77]))))))))) (.reg [o 78 (.bin .add) [t 23,c 1],m 23 78]))))))) (q (R [m 79 5,o 80 (.bin .neq) [t 79,c 0]] (i 80 (R [m 81 5,z 2 cn,m 3 81] r) k)) (R [m 82 6,m 2 82,z 3 (c 0)] r)))))) k)) true false
def ix31:=X 103 [] (R [u 5 (.box 88 13) [1]] (R [u 16 (.mkmap) [],m 8 16] (q (R [a 17 5 5,l 18 17,u 19 (.len 0) [18],z 20 (c 0)] (.block 0 (.loop (R [u 21 (.bin .lss) [20,19]] (q (i 21 k (.exit 0)) (q (.block 1 (R [m 22 20,u 23 (.iad 5) [18,20],u 24 (.loadA 5) [23],u 10 (.alloc 81 w10) [],m 9 22,s 5 10 24] (q (.regD [m 26 0,u 27 (.nilc) [26],a 28 1 27,l 29 28,a 30 0 10,u 31 (.loadA 3) [30],u 32 (.lookup true [.i,.i,.i] (.v (.int .i64 0)) true) [29,31],m 25 32,e 33 0 25,e 34 1 25,m 11 33,m 12 34] [0,1,3,7,0,16,63,127,255,255,511,2047]) (q (R [m 35 12,u 36 (.un .not) [35]] (i 36 (R [a 38 0 10,u 39 (.loadA 3) [38],f 40 54 [39],m 37 40,e 41 0 37,e 42 1 37,m 13 41,m 14 42] (R [m 43 0,u 44 (.nilc) [43],a 45 2 44,u 46 (.loadA 9) [45],u 15 (.alloc 27 w0) [],s 9 15 46] (q (.regD [m 47 2,m 48 13,m 49 0,u 50 (.nilc) [49],a 51 11 50,l 52 51,u 53 (.bin .sub) [48,52],a 54 0 5,u 55 (.loadA 2) [54],m 56 9,a 57 0 15,s 1 57 47,a 58 2 15,s 1 58 53,a 59 6 15,s 2 59 55,a 60 8 15,s 1 60 56] [0,0,0,4,12,28,62,0,128,0,1,1025,3199,7295,15871,32255,65535,131071]) (R [m 61 0,u 62 (.nilc) [61],a 63 0 62,l 64 63,u 65 (.nilc) [64],l 66 65,u 67 (.len 0) [66],m 11 67] (.regD [m 68 0,u 69 (.nilc) [68],a 70 0 69,l 71 70,m 72 0,u 73 (.nilc) [72],a 74 0 73,l 75 74,u 76 (.nilc) [75],l 77 76,u 78 (.loadA 9) [15],u 79 (.buildSl 27 9 1 w0 [0]) [78],u 80 (.append 27 9 72 w0 false) [77,79],u 81 (.nilc) [71],s 1 81 80] [0,1,3,7,0,16,48,112,240,496,0,1024,4080,8191,16383]))))) k)) (R [m 82 0,u 83 (.nilc) [82],a 84 0 83,l 85 84,u 86 (.nilc) [85],l 87 86,m 88 11,m 89 3,u 90 (.iad 9) [87,88],a 91 1 90,s 1 91 89] (R [a 92 3 10,l 93 92] (i 93 (.reg [m 94 8,a 95 0 10,u 96 (.loadA 3) [95],m 97 11,⟨none,.mapup true [.i,.i,.i],[t 94,t 96,t 97],none⟩]) k))))))) (.reg [o 98 (.bin .add) [t 20,c 1],m 20 98]))))))) (.reg [m 99 0,m 100 8,u 101 (.nilc) [99],a 102 1 101,s 1 102 100])))) false true
def ix52:=X 7 [.tmp 2] (R [u 1 (.box 92 2) [0],z 2 cf] (R [a 3 0 1,l 4 3,u 5 (.len 0) [4],o 6 (.bin .gtr) [t 5,c 0],m 2 6] r)) true true
end
def bI:Nat->Option Go.Sim.IFn
 |7=>some ix7
 |170=>some (dK 81 5 40 [(.int .i64 0),(.int .i64 0),(.int .i64 0),(.bool false),(.int .i64 0)])
 |171=>some (dK 153 5 40 [(.int .i64 0),(.int .i64 0),(.int .i64 0),(.int .i64 0),(.bool false)])
 |172=>some (dK 219 2 24 [(.string ⟨#[]⟩),(.int .i64 0)])
 |_=>none
abbrev n0 (k:Nat) (l:List (Option Go.Sim.IFn)):List (Option Go.Sim.IFn):=List.replicate k none++l
def tl2:List (Option Go.Sim.IFn):=(n0 7 ([some ix7]++(n0 1 ([some (ax p9 false true)]++(n0 2 ([some ix12,some ix13,some ix14,some ix15,some (ax p16 false true),some (ax p17 false true)]++(n0 1 ([some (ax p19 true true),some ix20,some (ax p21 true true),some (ax p22 true true),some ix23,some ix24,some (ax p25 false true),some (ax p26 false true),some (ax p27 false true)]++(n0 1 ([some (ax p29 true true),some ix30,some ix31,some (ax p32 false true),some (ax p33 false true)]++(n0 17 ([some (ax p51 true true),some ix52,some (ax p53 true false),some (ax p54 true true),some (ax p55 false true)]++(n0 19 ([some (ax p75 true true)]++(n0 24 ([some (ax p100 true true),some (ax p101 true true),some (ax p102 true false),some (ax p103 true false),some (ax p104 true true),some (ax p105 true true)]++(n0 14 ([some (ax p120 true true),some (ax p121 true true),some (ax p122 true true),some (ax p123 true true),some (ax p124 true false),some (ax p125 true true),some (ax p126 true true),some (ax p127 true true),some (ax p128 true true)]++(n0 21 ([some (ax p150 true true),some (ax p151 true true),some (ax p152 true false),some (ax p153 true true),some (ax p154 true true)]++(n0 7 ([some (ax p162 true true),some (ax p163 true true),some (ax p164 true true),some (ax p165 true true),some (ax p166 true true),some (ax p167 true true)]++(n0 13 ([some (ax p181 true true),some (ax p182 true false)]++(n0 3 ([some (ax p186 true false),some (ax p187 true false),some (ax p188 true false),some (ax p189 true true),some (ax p190 true true),some (ax p191 true true)]++(n0 1 ([some (ax p193 true true)]++(n0 4 [some (ax p198 true true),some (ax p199 true true)])))))))))))))))))))))))))))))
def tI:Nat->List (Option PFn)->List (Option IFn)
 |_,[]=>[]
 |i,none::r=>bI i::tI (i+1) r
 |i,some p::r=>some (toI (NF40 i) p)::tI (i+1) r
theorem cP1:∀(l:List (Option PFn)) (i j:Nat) (fn:PFn),l[j]? =some (some fn)->(tI i l)[j]? =some (some (toI (NF40 (i+j)) fn))
 |[],i,j,fn,h=>by simp at h
 |none::r,i,0,fn,h=>by simp at h
 |none::r,i,j+1,fn,h=>by
  have:=cP1 r (i+1) j fn (by simpa using h)
  rw[show i+1+j=i+(j+1)by omega]at this
  simpa[tI]using this
 |some p::r,i,0,fn,h=>by simp at h;subst h;rfl
 |some p::r,i,j+1,fn,h=>by
  have:=cP1 r (i+1) j fn (by simpa using h)
  rw[show i+1+j=i+(j+1)by omega]at this
  simpa[tI]using this
def tl:List (Option IFn):=tI 0 pl
abbrev Mm:=List (Nat×List AV×AV)
def TM (M:Mm):Tab:=⟨fun f=>(tl[f]?).join,oE M⟩
abbrev MK:Mm:=[(7,[],.v (.bool true))]
abbrev TBL:Tab:=TM MK
def okE (o:Option PFn):Bool:=match o with|some fn=>okP NF40 fn.ntmps false fn.code|none=>true
theorem lQ1:pl.all okE=true:=by kernel_rfl
theorem tabM {M:Mm} (a:∀e∈M,e.1=7) (f:Nat) (fn:PFn) (h:P40 f=some fn):TM M f=some (toI (NF40 f) fn)/\okP NF40 fn.ntmps false fn.code=true/\∀ys,(TM M).memo f ys=none:=by
 have h1:pl[f]? =some (some fn):=by
  unfold P40 at h
  cases hr:Nat.beq f 56 with
  |true=>rw[hr]at h;cases h
  |false=>
  rw[hr,mT1]at h
  cases hl:pl[f]? with
  |none=>rw[hl]at h;cases h
  |some o=>rw[hl]at h;cases o with
   |none=>cases h
   |some q=>cases h;rfl
 refine⟨?_,?_,fun ys=>iD (fun e he hf=>?_) ys⟩
 .have:=cP1 pl 0 f fn h1
  rw[nO1]at this
  show(tl[f]?).join=_
  unfold tl
  rw[this];rfl
 .exact mB1.1 lQ1 _ (mE1 h1)
 .rw [a e he]at hf
  subst hf
  cases h
theorem cQ1:∀e∈MK,e.1=7:=by intro e he;rcases List.mem_singleton.1 he with rfl;rfl
theorem lR1 (f:Nat) (fn:PFn) (h:P40 f=some fn):TBL f=some (toI (NF40 f) fn)/\okP NF40 fn.ntmps false fn.code=true/\∀ys,TBL.memo f ys=none:=tabM cQ1 f fn h
theorem iU1:Tryz.prog.follows .mixedOrders=true:=by kernel_rfl
theorem all1:eR Tryz.prog 0 tl:=eR.of (i:=0) (fs:=Tryz.prog.funcs.toList) rfl (by kernel_rfl)
theorem all2:eR Tryz.prog 0 tl2:=eR.of (i:=0) (fs:=Tryz.prog.funcs.toList) rfl (by kernel_rfl)
theorem tab0:dZ Tryz.prog (TM []):=eR.tab (M:=[]) all1 trivial
end
end Go.P
