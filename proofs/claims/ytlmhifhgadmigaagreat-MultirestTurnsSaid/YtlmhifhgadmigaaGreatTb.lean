import Derived.Test.YtlmhifhgadmigaaGreatGaB
import Derived.Test.YtlmhifhgadmigaaGreatChecked
/- A text of the proof. -/
set_option linter.all false
set_option maxRecDepth 100000
set_option maxHeartbeats 2000000
namespace Go.P.V
open Go.Sim
abbrev t (n:Nat):IX:=.t n
abbrev c (n:Int):IX:=.c (.v (.int .i64 n))
abbrev cn:IX:=.c (.v (.slice none 0 0))
abbrev ct:IX:=.c (.v (.bool true))
abbrev cf:IX:=.c (.v (.bool false))
abbrev J (n:Int):Value:=.int .i64 n
abbrev ZS:Value:=.string ⟨#[]⟩
abbrev ZB:Value:=.bool false
abbrev ZN:Value:=.slice none 0 0
abbrev o (d:Nat) (k:dQ) (xs:aA IX):Sim.Op1:=⟨some d,k,xs,none⟩
abbrev u (d:Nat) (k:dQ) (xs:aA Nat):Sim.Op1:=⟨some d,k,xs.map .t,none⟩
abbrev m (d x:Nat):Sim.Op1:=⟨some d,.mov,[.t x],none⟩
abbrev z (d:Nat) (x:IX):Sim.Op1:=⟨some d,.mov,[x],none⟩
abbrev l (d x:Nat):Sim.Op1:=⟨some d,.loadS,[.t x],none⟩
abbrev a (d k x:Nat):Sim.Op1:=⟨some d,.fad k,[.t x],none⟩
abbrev e (d k x:Nat):Sim.Op1:=⟨some d,.ext k,[.t x],none⟩
abbrev f (d g:Nat) (xs:aA Nat):Sim.Op1:=⟨some d,.callF g,xs.map .t,none⟩
abbrev s (n x y:Nat):Sim.Op1:=⟨none,.store n,[.t x,.t y],none⟩
abbrev R (l:aA Sim.Op1) (b:IC):IC:=.seq (.reg l) b
abbrev q (a b:IC):IC:=.seq a b
abbrev i (n:Nat) (a b:IC):IC:=.cond (.t n) a b
abbrev k:IC:=.skip
abbrev r:IC:=.ret
abbrev X (n:Nat) (l:aA Sim.RV) (c:IC) (p f:Bool):IFn:=⟨n,l,c,p,f⟩
end Go.P.V
namespace Go.P
open Go.Sim (fC gB iM IFn gA AV oL lS mW iV)
open Go.Proofs
noncomputable section
def ax (p:bK) (a b:Bool):Go.Sim.IFn:={ntmps:=p.ntmps,res:=p.res,body:=hZ p.code,pure:=a,frz:=b}
section
open V
abbrev w0:aA Value:=[ZS,ZB,ZN,ZN,ZN,ZN]
abbrev w1:aA Value:=[J 0,J 0]
abbrev w2:aA Value:=[J 0,J 0,J 0]
abbrev w3:aA Value:=[J 0,J 0,ZS,J 0,J 0,ZN]
abbrev w4:aA Value:=[J 0,J 0,J 0,J 0,J 0,ZN,ZN,J 0,J 0,J 0,ZN,J 0,J 0]
abbrev w5:aA Value:=[J 0,J 0,J 0,ZB,J 0]
abbrev w6:aA Value:=[J 0,J 0,J 0,J 0,J 0,J 0,J 0,J 0]
abbrev w7:aA Value:=[ZN,ZN]
abbrev w8:aA Value:=[J 0,J 0,J 0,J 0,J 0,J 0,J 0,J 0,J 0,J 0,J 0,J 0,ZB,J 0,J 0,J 0,J 0,J 0,J 0,ZS,ZN,ZN]
abbrev w9:aA Value:=[J 0,J 0,J 0,J 0,J 0,J 0,J 0]
def ix5:=X 58 [.tmp 0] (R [z 0 cf] (R [f 6 13 [],u 1 (.alloc 27 w0) [],s 6 1 6] (R [u 8 (.loadA 6) [1],f 9 14 [8],m 7 9,e 10 0 7,e 11 1 7,m 2 10,m 3 11] (R [u 13 (.loadA 6) [1],f 14 8 [13],m 12 14,e 15 0 12,e 16 1 12,m 4 15,m 5 16] (R [m 17 3,o 18 (.bin .eql) [t 17,c 0],m 19 18,⟨some 20,.mov,[t 2],some (19,true)⟩,⟨some 21,.len 0,[t 20],some (19,true)⟩,⟨some 22,.bin .eql,[t 21,c 1],some (19,true)⟩,o 23 (.pick) [t 19,t 22,cf],m 24 23,⟨some 25,.mov,[t 2],some (24,true)⟩,⟨some 26,.iad 2,[t 25,c 0],some (24,true)⟩,⟨some 27,.loadA 2,[t 26],some (24,true)⟩,⟨some 28,.build w1 [(0,1),(1,1)],[c 1,c 3],some (24,true)⟩,⟨some 29,.eqA false [.i,.i],[t 27,t 28],some (24,true)⟩,o 30 (.pick) [t 24,t 29,cf],m 31 30,⟨some 32,.mov,[t 5],some (31,true)⟩,⟨some 33,.bin .eql,[t 32,c 0],some (31,true)⟩,o 34 (.pick) [t 31,t 33,cf],m 35 34,⟨some 36,.mov,[t 4],some (35,true)⟩,⟨some 37,.len 0,[t 36],some (35,true)⟩,⟨some 38,.bin .eql,[t 37,c 3],some (35,true)⟩,o 39 (.pick) [t 35,t 38,cf],m 40 39,⟨some 41,.mov,[t 4],some (40,true)⟩,⟨some 42,.iad 1,[t 41,c 0],some (40,true)⟩,⟨some 43,.loadS,[t 42],some (40,true)⟩,⟨some 44,.bin .eql,[t 43,c 0],some (40,true)⟩,o 45 (.pick) [t 40,t 44,cf],m 46 45,⟨some 47,.mov,[t 4],some (46,true)⟩,⟨some 48,.iad 1,[t 47,c 1],some (46,true)⟩,⟨some 49,.loadS,[t 48],some (46,true)⟩,⟨some 50,.bin .eql,[t 49,c 1],some (46,true)⟩,o 51 (.pick) [t 46,t 50,cf],m 52 51,⟨some 53,.mov,[t 4],some (52,true)⟩,⟨some 54,.iad 1,[t 53,c 2],some (52,true)⟩,⟨some 55,.loadS,[t 54],some (52,true)⟩,⟨some 56,.bin .eql,[t 55,c 4],some (52,true)⟩,o 57 (.pick) [t 52,t 56,cf],m 0 57] r))))) true true
def ix8:=X 15 [.tmp 2,.tmp 3] (R [u 1 (.box 27 6) [0],z 2 cn,z 3 (c 0)] (q (R [u 6 (.loadA 6) [1],f 7 7 [6],u 8 (.un .not) [7]] (i 8 (R [z 2 cn,z 3 (c 24)] r) k)) (R [u 10 (.loadA 6) [1],f 11 18 [10],m 9 11,e 12 0 9,e 13 1 9,m 4 12,m 5 13] (R [m 14 4,m 2 14,z 3 (c 0)] r)))) true false
def cR2:=X 51 [.cellA 0 6] (R [u 0 (.alloc 27 w0) []] (R [o 4 (.build w1 [(1,1)]) [c 1],o 5 (.build w1 [(1,1)]) [c 2],o 6 (.build w2 [(0,2),(2,1)]) [t 5,c 1],u 7 (.buildSl 97 3 1 w2 [0]) [6],u 8 (.build w3 [(0,2),(5,1)]) [4,7],u 9 (.buildSl 58 6 1 w3 [0]) [8],o 10 (.build w1 [(1,1)]) [c 12],u 11 (.buildSl 39 2 1 w1 [0]) [10],u 12 (.build w0 [(2,1),(5,1)]) [9,11],u 1 (.alloc 27 w0) [],s 6 1 12] (q (R [z 2 (c 0)] (.block 0 (.loop (q (R [m 13 2,o 14 (.bin .lss) [t 13,c 5]] (i 14 k (.exit 0))) (q (.block 1 (R [m 17 2,o 18 (.bin .mul) [c 2,t 17],o 19 (.bin .add) [c 4,t 18],u 20 (.build w1 [(1,1)]) [19],o 21 (.build w4 [(0,2),(2,1)]) [t 20,c 3],u 3 (.alloc 104 w4) [],s 13 3 21] (q (R [m 22 2,o 23 (.bin .eql) [t 22,c 0],m 24 23,⟨some 25,.mov,[t 2],some (24,false)⟩,⟨some 26,.bin .eql,[t 25,c 4],some (24,false)⟩,o 27 (.pick) [t 24,ct,t 26]] (i 27 (.reg [o 28 (.build w2 [(2,1)]) [c 4],u 29 (.build w5 [(0,3)]) [28],u 30 (.buildSl 108 5 1 w5 [0]) [29],a 31 2 3,⟨none,.store 1,[t 31,c 1],none⟩,a 32 5 3,s 1 32 30]) k)) (.reg [a 33 3 1,l 34 33,m 35 2,o 36 (.bin .mul) [c 2,t 35],o 37 (.bin .add) [c 3,t 36],u 38 (.build w1 [(1,1)]) [37],o 39 (.build w6 [(0,1),(1,1)]) [c 4,c 4],u 40 (.loadA 13) [3],u 41 (.buildSl 104 13 1 w4 [0]) [40],u 42 (.build w7 [(0,1)]) [41],u 43 (.buildSl 74 2 1 w7 [0]) [42],u 44 (.build w7 [(1,1)]) [43],u 45 (.buildSl 69 2 1 w7 [0]) [44],u 46 (.build w8 [(0,2),(2,8),(21,1)]) [38,39,45],u 47 (.buildSl 65 22 1 w8 [0]) [46],u 48 (.append 65 22 216 w8 false) [34,47],a 49 3 1,s 1 49 48])))) (.reg [m 15 2,o 16 (.bin .add) [t 15,c 1],m 2 16])))))) (R [u 50 (.loadA 6) [1],s 6 0 50] r)))) false true
def cS2:=X 10 [.tmp 2,.tmp 3] (R [u 1 (.box 27 6) [0],z 2 cn,z 3 (c 0)] (q (R [u 4 (.loadA 6) [1],f 5 7 [4],u 6 (.un .not) [5]] (i 6 (R [z 2 cn,z 3 (c 24)] r) k)) (R [u 7 (.loadA 6) [1],f 8 28 [7],f 9 27 [8],m 2 9,z 3 (c 0)] r))) true false
def cT2:=X 39 [.tmp 2,.tmp 3] (R [u 1 (.box 27 6) [0],z 2 cn,z 3 cn] (R [u 9 (.loadA 6) [1],f 10 28 [9],f 11 27 [10],m 4 11] (q (R [z 5 (c 0)] (.block 0 (.loop (q (R [m 12 5,a 13 3 1,l 14 13,u 15 (.len 0) [14],u 16 (.bin .lss) [12,15]] (i 16 k (.exit 0))) (.block 1 (R [z 6 (c 1)] (q (R [m 18 4,m 19 5,f 20 46 [18,19],m 17 20,e 21 0 17,e 22 1 17,u 7 (.alloc 53 w1) [],s 2 7 21,m 8 22] (R [m 23 8] (i 23 (.reg [a 24 1 7,l 25 24,m 6 25]) k))) (.reg [m 26 2,m 27 5,u 28 (.buildSl 3 1 1 [J 0] [0]) [27],u 29 (.append 3 1 8 [J 0] false) [26,28],m 30 3,m 31 6,u 32 (.buildSl 3 1 1 [J 0] [0]) [31],u 33 (.append 3 1 8 [J 0] false) [30,32],m 34 5,m 35 6,u 36 (.bin .add) [34,35],m 2 29,m 3 33,m 5 36])))))))) (R [m 37 2,m 38 3,m 2 37,m 3 38] r)))) true false
def cU2:=X 5 [.tmp 2] (R [z 2 cn] (R [m 3 0,o 4 (.callF 54) [cn,t 3],m 2 4] r)) false true
def cV2:=X 4 [.tmp 2] (R [u 1 (.box 27 6) [0],z 2 (.c (.v .nilFunc))] (R [u 3 (.mkfn (.func 55) 0) [1],m 2 3] r)) false true
def cW2:=X 17 [.cellA 4 2,.tmp 5] (R [u 3 (.box 3 1) [1],u 4 (.alloc 53 w1) [],z 5 cf] (R [m 7 0,u 8 (.mkfn (.func 104) 0) [3],f 9 103 [7,8],m 6 9] (q (R [m 10 6,o 11 (.bin .lss) [t 10,c 0]] (i 11 (R [u 12 (.build w1 []) [],s 2 4 12,z 5 cf] r) k)) (R [m 13 0,m 14 6,u 15 (.iad 2) [13,14],u 16 (.loadA 2) [15],s 2 4 16,z 5 ct] r)))) true true
def cX2:=X 13 [.tmp 4] (R [u 2 (.box 49 1) [0],z 4 cn] (q (R [m 6 1] (.block 0 (.rangeF (t 6) [7] (.reg [u 5 (.alloc 53 w1) [],s 2 5 7]) (.block 1 (.reg [l 8 2,u 9 (.loadA 2) [5],u 10 (.buildSl 53 2 1 w1 [0]) [9],u 11 (.append 53 2 16 w1 false) [8,10],s 1 2 11]))))) (R [l 12 2,m 4 12] r))) false true
def cY2:=X 59 [] (R [u 6 (.loadA 6) [1],f 7 56 [6],m 3 7] (R [z 4 (c 0)] (.block 0 (.loop (q (R [m 8 4,a 9 3 1,l 10 9,u 11 (.len 0) [10],u 12 (.bin .lss) [8,11]] (i 12 k (.exit 0))) (.block 1 (R [m 13 4,u 14 (.build w1 [(0,1)]) [13],u 5 (.alloc 53 w1) [],s 2 5 14] (q (.block 2 (.loop (q (R [m 15 4,a 16 3 1,l 17 16,u 18 (.len 0) [17],u 19 (.bin .lss) [15,18],m 20 19,⟨some 21,.fad 3,[t 1],some (20,true)⟩,⟨some 22,.loadS,[t 21],some (20,true)⟩,⟨some 23,.mov,[t 4],some (20,true)⟩,⟨some 24,.iad 22,[t 22,t 23],some (20,true)⟩,⟨some 25,.loadA 22,[t 24],some (20,true)⟩,⟨some 26,.mov,[t 3],some (20,true)⟩,⟨some 27,.callF 57,[t 25,t 26],some (20,true)⟩,o 28 (.pick) [t 20,t 27,cf],m 29 28,⟨some 30,.fad 1,[t 5],some (29,true)⟩,⟨some 31,.loadS,[t 30],some (29,true)⟩,⟨some 32,.bin .eql,[t 31,c 0],some (29,true)⟩,⟨some 33,.mov,[t 32],some (29,true)⟩,⟨some 34,.loadA 6,[t 1],some (33,false)⟩,⟨some 35,.mov,[t 4],some (33,false)⟩,⟨some 36,.callF 58,[t 34,t 35],some (33,false)⟩,⟨some 37,.pick,[t 33,ct,t 36],some (29,true)⟩,o 38 (.pick) [t 29,t 37,cf]] (i 38 k (.exit 2))) (.block 3 (R [a 39 1 5,l 40 39,o 41 (.bin .add) [t 40,c 1],a 42 1 5,s 1 42 41] (.reg [m 43 4,o 44 (.bin .add) [t 43,c 1],m 4 44])))))) (q (R [a 45 1 5,l 46 45,o 47 (.bin .geq) [t 46,c 2],m 48 47,⟨some 49,.mov,[t 0],some (48,true)⟩,⟨some 50,.loadA 2,[t 5],some (48,true)⟩,⟨some 51,.callV,[t 49,t 50],some (48,true)⟩,⟨some 52,.un .not,[t 51],some (48,true)⟩,o 53 (.pick) [t 48,t 52,cf]] (i 53 r k)) (R [a 54 1 5,l 55 54,o 56 (.bin .eql) [t 55,c 0]] (i 56 (.reg [m 57 4,o 58 (.bin .add) [t 57,c 1],m 4 58]) k))))))))))) false true
def cZ2:=X 22 [.tmp 2] (R [u 1 (.box 27 6) [0],z 2 (.c (.v (.map none)))] (R [u 6 (.mkmap) [],m 3 6] (q (R [a 7 4 1,l 8 7,u 9 (.len 0) [8],z 10 (c 0)] (.block 0 (.loop (R [u 11 (.bin .lss) [10,9]] (q (i 11 k (.exit 0)) (q (.block 1 (R [u 12 (.iad 7) [8,10],u 13 (.loadA 7) [12],u 5 (.alloc 47 w9) [],s 7 5 13] (.regD [m 14 3,a 15 3 5,u 16 (.loadA 2) [15],m 17 3,a 18 5 5,u 19 (.loadA 2) [18],⟨none,.mapup true [.i,.i],[t 14,t 16,ct],none⟩,⟨none,.mapup true [.i,.i],[t 17,t 19,ct],none⟩] [0,0,2,0,0,16,7,127]))) (.reg [o 20 (.bin .add) [t 10,c 1],m 10 20]))))))) (R [m 21 3,m 2 21] r)))) false true
def dA2:=X 14 [.tmp 4] (R [u 2 (.box 65 22) [0],u 3 (.box 139 1) [1],z 4 cf] (R [u 6 (.mkfn (.func 113) 0) [2],u 7 (.mkfn (.func 114) 0) [2],u 8 (.mkfn (.func 115) 0) [2],u 9 (.mkfn (.func 117) 0) [2,3],u 10 (.buildSl 28 1 4 [.nilFunc] [0,1,2,3]) [6,7,8,9],m 5 10] (R [m 11 5,o 12 (.callF 119) [t 11,.c (.fn (.func 120) [] [])],u 13 (.un .not) [12],m 4 13] r))) false true
def dB2:=X 68 [.tmp 4] (R [u 2 (.box 27 6) [0],z 4 cf] (q (R [m 8 1,o 9 (.bin .eql) [t 8,c 0]] (i 9 (R [z 4 cf] r) k)) (q (.regD [a 10 3 2,l 11 10,m 12 1,o 13 (.bin .sub) [t 12,c 1],u 14 (.iad 22) [11,13],u 15 (.loadA 22) [14],a 16 3 2,l 17 16,m 18 1,u 19 (.iad 22) [17,18],u 20 (.loadA 22) [19],u 5 (.alloc 65 w8) [],u 6 (.alloc 65 w8) [],s 22 5 15,s 22 6 20] [0,1,0,4,15,31,0,64,0,448,960,0,0,6207,16383]) (R [a 21 21 6,l 22 21,o 23 (.callF 121) [t 22,.c (.fn (.func 122) [] [])],m 7 23] (R [a 24 2 5,u 25 (.loadA 8) [24],a 26 2 6,u 27 (.loadA 8) [26],u 28 (.eqA false [.i,.i,.i,.i,.i,.i,.i,.i]) [25,27],m 29 28,⟨some 30,.fad 10,[t 5],some (29,true)⟩,⟨some 31,.loadS,[t 30],some (29,true)⟩,⟨some 32,.fad 10,[t 6],some (29,true)⟩,⟨some 33,.loadS,[t 32],some (29,true)⟩,⟨some 34,.bin .eql,[t 31,t 33],some (29,true)⟩,o 35 (.pick) [t 29,t 34,cf],m 36 35,⟨some 37,.fad 11,[t 5],some (36,true)⟩,⟨some 38,.loadS,[t 37],some (36,true)⟩,⟨some 39,.fad 11,[t 6],some (36,true)⟩,⟨some 40,.loadS,[t 39],some (36,true)⟩,⟨some 41,.bin .eql,[t 38,t 40],some (36,true)⟩,o 42 (.pick) [t 36,t 41,cf],m 43 42,⟨some 44,.fad 20,[t 6],some (43,true)⟩,⟨some 45,.loadS,[t 44],some (43,true)⟩,⟨some 46,.len 0,[t 45],some (43,true)⟩,⟨some 47,.bin .eql,[t 46,c 0],some (43,true)⟩,o 48 (.pick) [t 43,t 47,cf],m 49 48,⟨some 50,.mov,[t 7],some (49,true)⟩,⟨some 51,.un .not,[t 50],some (49,true)⟩,o 52 (.pick) [t 49,t 51,cf],m 53 52,⟨some 54,.fad 17,[t 6],some (53,true)⟩,⟨some 55,.loadS,[t 54],some (53,true)⟩,⟨some 56,.bin .eql,[t 55,c 0],some (53,true)⟩,o 57 (.pick) [t 53,t 56,cf],m 58 57,⟨some 59,.fad 18,[t 6],some (58,true)⟩,⟨some 60,.loadS,[t 59],some (58,true)⟩,⟨some 61,.bin .eql,[t 60,c 0],some (58,true)⟩,o 62 (.pick) [t 58,t 61,cf],m 63 62,⟨some 64,.fad 19,[t 6],some (63,true)⟩,⟨some 65,.loadS,[t 64],some (63,true)⟩,⟨some 66,.bin .eql,[t 65,.c (.v (.string ⟨#[]⟩))],some (63,true)⟩,o 67 (.pick) [t 63,t 66,cf],m 4 67] r))))) true true
def rK1:=X 19 [.tmp 4] (R [z 4 (c 0)] (q (R [m 6 0,u 7 (.len 0) [6],z 8 (c 0)] (.block 0 (.loop (R [u 9 (.bin .lss) [8,7]] (q (i 9 k (.exit 0)) (q (.block 1 (R [m 10 8,m 5 10] (R [m 11 1,m 12 0,m 13 5,u 14 (.iad 2) [12,13],u 15 (.loadA 2) [14],u 16 (.callV) [11,15]] (i 16 (R [m 17 5,m 4 17] r) k)))) (.reg [o 18 (.bin .add) [t 8,c 1],m 8 18]))))))) (R [z 4 (c (-1))] r))) true true
def rL1:=X 17 [.tmp 3] (R [u 2 (.box 53 2) [0],z 3 cf] (R [l 4 1,a 5 0 2,l 6 5,u 7 (.bin .geq) [4,6],m 8 7,⟨some 9,.loadS,[t 1],some (8,true)⟩,⟨some 10,.fad 0,[t 2],some (8,true)⟩,⟨some 11,.loadS,[t 10],some (8,true)⟩,⟨some 12,.bin .sub,[t 9,t 11],some (8,true)⟩,⟨some 13,.fad 1,[t 2],some (8,true)⟩,⟨some 14,.loadS,[t 13],some (8,true)⟩,⟨some 15,.bin .lss,[t 12,t 14],some (8,true)⟩,o 16 (.pick) [t 8,t 15,cf],m 3 16] r)) true true
def rM1:=X 15 [.tmp 1] (R [z 1 cf] (R [a 2 12 0,l 3 2,u 4 (.un .not) [3],m 5 4,⟨some 6,.fad 13,[t 0],some (5,true)⟩,⟨some 7,.loadS,[t 6],some (5,true)⟩,⟨some 8,.bin .eql,[t 7,c 0],some (5,true)⟩,o 9 (.pick) [t 5,t 8,cf],m 10 9,⟨some 11,.fad 14,[t 0],some (10,true)⟩,⟨some 12,.loadS,[t 11],some (10,true)⟩,⟨some 13,.bin .eql,[t 12,c 0],some (10,true)⟩,o 14 (.pick) [t 10,t 13,cf],m 1 14] r)) false true
def rN1:=X 10 [.tmp 1] (R [z 1 cf] (R [a 2 15 0,l 3 2,o 4 (.bin .eql) [t 3,c 0],m 5 4,⟨some 6,.fad 16,[t 0],some (5,true)⟩,⟨some 7,.loadS,[t 6],some (5,true)⟩,⟨some 8,.bin .eql,[t 7,c 0],some (5,true)⟩,o 9 (.pick) [t 5,t 8,cf],m 1 9] r)) false true
def rO1:=X 4 [.tmp 1] (R [z 1 cf] (R [u 2 (.loadA 22) [0],f 3 116 [2],m 1 3] r)) false true
def rP1:=X 25 [.tmp 2] (R [u 1 (.box 65 22) [0],z 2 cf] (R [a 6 20 1,l 7 6,o 8 (.callF 173) [t 7,.c (.fn (.func 174) [] [])],m 3 8] (q (R [a 9 21 1,l 10 9,u 11 (.len 0) [10],z 12 (c 0)] (.block 0 (.loop (R [u 13 (.bin .lss) [12,11]] (q (i 13 k (.exit 0)) (q (.block 1 (R [u 14 (.iad 2) [10,12],u 15 (.loadA 2) [14],u 5 (.alloc 69 w7) [],s 2 5 15] (.reg [m 16 3,m 17 16,⟨some 18,.fad 0,[t 5],some (17,false)⟩,⟨some 19,.loadS,[t 18],some (17,false)⟩,⟨some 20,.callF 175,[t 19,.c (.fn (.func 176) [] [])],some (17,false)⟩,o 21 (.pick) [t 17,ct,t 20],m 3 21]))) (.reg [o 22 (.bin .add) [t 12,c 1],m 12 22]))))))) (R [m 23 3,u 24 (.un .not) [23],m 2 24] r)))) true true
def rQ1:=X 6 [.tmp 2] (R [z 2 cf] (R [u 3 (.loadA 22) [0],l 4 1,f 5 118 [3,4],m 2 5] r)) false true
def rR1:=X 31 [.tmp 4] (R [u 2 (.box 65 22) [0],u 3 (.box 139 1) [1],z 4 cf] (R [u 10 (.mkfn (.func 177) 0) [3],m 5 10] (q (R [a 11 21 2,l 12 11,u 13 (.len 0) [12],z 14 (c 0)] (.block 0 (.loop (R [u 15 (.bin .lss) [14,13]] (q (i 15 k (.exit 0)) (q (.block 1 (R [u 16 (.iad 2) [12,14],u 17 (.loadA 2) [16],u 7 (.alloc 69 w7) [],s 2 7 17] (R [a 18 1 7,l 19 18,u 20 (.len 0) [19],z 21 (c 0)] (.block 2 (.loop (R [u 22 (.bin .lss) [21,20]] (q (i 22 k (.exit 2)) (q (.block 3 (R [u 23 (.iad 2) [19,21],u 24 (.loadA 2) [23],u 9 (.alloc 74 w7) [],s 2 9 24] (R [a 25 0 9,l 26 25,m 27 5,f 28 132 [26,27]] (i 28 (R [z 4 cf] r) k)))) (.reg [o 29 (.bin .add) [t 21,c 1],m 21 29]))))))))) (.reg [o 30 (.bin .add) [t 14,c 1],m 14 30]))))))) (R [z 4 ct] r)))) true true
def rS1:=X 9 [.tmp 4] (R [z 4 cf] (R [m 5 0,m 6 1,f 7 178 [5,6],o 8 (.bin .geq) [t 7,c 0],m 4 8] r)) false true
def rT1:=X 6 [.tmp 2] (R [z 2 cf] (R [m 3 0,u 4 (.callV) [3],u 5 (.un .not) [4],m 2 5] r)) false true
def rU1:=X 7 [.tmp 2] (R [u 1 (.box 69 2) [0],z 2 cf] (R [a 3 0 1,l 4 3,u 5 (.len 0) [4],o 6 (.bin .gtr) [t 5,c 0],m 2 6] r)) true true
def rV1:=X 9 [.tmp 4] (R [z 4 cf] (R [m 5 0,m 6 1,f 7 209 [5,6],o 8 (.bin .geq) [t 7,c 0],m 4 8] r)) true true
def rW1:=X 6 [.tmp 2] (R [u 1 (.box 193 3) [0],z 2 cf] (R [a 3 0 1,l 4 3,o 5 (.bin .neq) [t 4,c 0],m 2 5] r)) true true
def rX1:=X 9 [.tmp 4] (R [z 4 cf] (R [m 5 0,m 6 1,f 7 210 [5,6],o 8 (.bin .geq) [t 7,c 0],m 4 8] r)) true true
def rY1:=X 6 [.tmp 2] (R [u 1 (.box 154 2) [0],z 2 cf] (R [a 3 0 1,l 4 3,o 5 (.bin .neq) [t 4,c 0],m 2 5] r)) true true
def rZ1:=X 24 [.tmp 3] (R [u 2 (.box 104 13) [0],z 3 cf] (R [a 4 5 2,l 5 4,u 6 (.len 0) [5],o 7 (.bin .gtr) [t 6,c 0],m 8 7,⟨some 9,.fad 9,[t 2],some (8,false)⟩,⟨some 10,.loadS,[t 9],some (8,false)⟩,⟨some 11,.bin .neq,[t 10,c 0],some (8,false)⟩,o 12 (.pick) [t 8,ct,t 11],m 13 12,⟨some 14,.fad 7,[t 2],some (13,false)⟩,⟨some 15,.loadS,[t 14],some (13,false)⟩,⟨some 16,.bin .neq,[t 15,c 0],some (13,false)⟩,o 17 (.pick) [t 13,ct,t 16],m 18 17,⟨some 19,.loadS,[t 1],some (18,false)⟩,⟨some 20,.fad 0,[t 2],some (18,false)⟩,⟨some 21,.loadA 2,[t 20],some (18,false)⟩,⟨some 22,.lookup true [.i,.i] (.v (.bool false)) false,[t 19,t 21],some (18,false)⟩,o 23 (.pick) [t 18,ct,t 22],m 3 23] r)) true true
def sA1:=X 19 [.tmp 4] (R [z 4 (c 0)] (q (R [m 6 0,u 7 (.len 0) [6],z 8 (c 0)] (.block 0 (.loop (R [u 9 (.bin .lss) [8,7]] (q (i 9 k (.exit 0)) (q (.block 1 (R [m 10 8,m 5 10] (R [m 11 1,m 12 0,m 13 5,u 14 (.iad 1) [12,13],l 15 14,u 16 (.callV) [11,15]] (i 16 (R [m 17 5,m 4 17] r) k)))) (.reg [o 18 (.bin .add) [t 8,c 1],m 8 18]))))))) (R [z 4 (c (-1))] r))) false true
def sB1:=X 19 [.tmp 4] (R [z 4 (c 0)] (q (R [m 6 0,u 7 (.len 0) [6],z 8 (c 0)] (.block 0 (.loop (R [u 9 (.bin .lss) [8,7]] (q (i 9 k (.exit 0)) (q (.block 1 (R [m 10 8,m 5 10] (R [m 11 1,m 12 0,m 13 5,u 14 (.iad 3) [12,13],u 15 (.loadA 3) [14],u 16 (.callV) [11,15]] (i 16 (R [m 17 5,m 4 17] r) k)))) (.reg [o 18 (.bin .add) [t 8,c 1],m 8 18]))))))) (R [z 4 (c (-1))] r))) true true
def sC1:=X 19 [.tmp 4] (R [z 4 (c 0)] (q (R [m 6 0,u 7 (.len 0) [6],z 8 (c 0)] (.block 0 (.loop (R [u 9 (.bin .lss) [8,7]] (q (i 9 k (.exit 0)) (q (.block 1 (R [m 10 8,m 5 10] (R [m 11 1,m 12 0,m 13 5,u 14 (.iad 2) [12,13],u 15 (.loadA 2) [14],u 16 (.callV) [11,15]] (i 16 (R [m 17 5,m 4 17] r) k)))) (.reg [o 18 (.bin .add) [t 8,c 1],m 8 18]))))))) (R [z 4 (c (-1))] r))) true true
end
def bI:Nat->aB Go.Sim.IFn
 |5=>some ix5
 |193=>some (fB 108 5 40 [(.int .i64 0),(.int .i64 0),(.int .i64 0),(.bool false),(.int .i64 0)])
 |194=>some (fB 167 5 40 [(.int .i64 0),(.int .i64 0),(.int .i64 0),(.int .i64 0),(.bool false)])
 |195=>some (fB 114 2 24 [(.string ⟨#[]⟩),(.int .i64 0)])
 |_=>none
abbrev n0 (k:Nat) (l:aA (aB Go.Sim.IFn)):aA (aB Go.Sim.IFn):=List.replicate k none++l
def tl2:aA (aB Go.Sim.IFn):=(n0 5 ([some ix5]++(n0 1 ([some (ax p7 true true),some ix8]++(n0 4 ([some cR2,some cS2]++(n0 3 ([some cT2]++(n0 8 ([some cU2,some cV2]++(n0 17 ([some cW2]++(n0 7 ([some cX2,some cY2,some cZ2,some dA2,some dB2]++(n0 44 ([some rK1,some rL1]++(n0 8 ([some rM1,some rN1,some rO1,some rP1,some rQ1,some rR1,some rS1,some rT1,some (ax kQ1 true true),some rU1]++(n0 9 ([some (ax kR1 true true)]++(n0 40 ([some rV1,some rW1,some rX1,some rY1,some rZ1,some sA1,some (ax kT1 true true)]++(n0 3 ([some (ax kU1 true true)]++(n0 25 [some sB1,some sC1])))))))))))))))))))))))))
def tI:Nat->aA (aB bK)->aA (aB IFn)
 |_,[]=>[]
 |i,none::r=>bI i::tI (i+1) r
 |i,some p::r=>some (Gw (iD i) p)::tI (i+1) r
theorem Jq:∀(l:aA (aB bK)) (i j:Nat) (fn:bK),l[j]? =some (some fn)->(tI i l)[j]? =some (some (Gw (iD (i+j)) fn))
 |[],i,j,fn,h=>by simp at h
 |none::r,i,0,fn,h=>by simp at h
 |none::r,i,j+1,fn,h=>by
  have:=Jq r (i+1) j fn (by simpa using h)
  rw[show i+1+j=i+(j+1)by omega]at this
  simpa[tI]using this
 |some p::r,i,0,fn,h=>by simp at h;subst h;rfl
 |some p::r,i,j+1,fn,h=>by
  have:=Jq r (i+1) j fn (by simpa using h)
  rw[show i+1+j=i+(j+1)by omega]at this
  simpa[tI]using this
def tl:aA (aB IFn):=tI 0 pl
abbrev Mm:=aA (Nat×aA AV×AV)
def TM (M:Mm):gA:=⟨fun f=>(tl[f]?).join,oL M⟩
abbrev MK:Mm:=[(5,[],.v (.bool true))]
abbrev TBL:gA:=TM MK
def okE (o:aB bK):Bool:=match o with|some fn=>qY iD fn.ntmps false fn.code|none=>true
theorem sD1:pl.all okE=true:=by kernel_rfl
theorem iZ1 {M:Mm} (a:∀e∈M,e.1=5) (f:Nat) (fn:bK) (h:Dg f=some fn):TM M f=some (Gw (iD f) fn)/\qY iD fn.ntmps false fn.code=true/\∀ys,(TM M).memo f ys=none:=by
 have h1:pl[f]? =some (some fn):=by
  unfold Dg at h;cases hr:Nat.beq f 208 with
  |true=>rw[hr]at h;cases h
  |false=>
  rw[hr,kQ2]at h;cases hl:pl[f]? with
  |none=>rw[hl]at h;cases h
  |some o=>rw[hl]at h;cases o with
   |none=>cases h
   |some q=>cases h;rfl
 refine⟨?_,?_,fun ys=>lS (fun e he hf=>?_) ys⟩;have:=Jq pl 0 f fn h1;rw[lN2]at this;show(tl[f]?).join=_
 unfold tl;rw[this];rfl;exact jV2.1 sD1 _ (kA2 h1);rw[a e he]at hf;subst hf;cases h
theorem Jr:∀e∈MK,e.1=5:=by intro e he;rcases lT2.1 he with rfl;rfl
theorem sE1 (f:Nat) (fn:bK) (h:Dg f=some fn):TBL f=some (Gw (iD f) fn)/\qY iD fn.ntmps false fn.code=true/\∀ys,TBL.memo f ys=none:=iZ1 Jr f fn h
theorem Vl:Tryz.prog.follows .mixedOrders=true:=by kernel_rfl
theorem sF1:gB Tryz.prog 0 tl:=gB.of (i:=0) (fs:=Tryz.prog.funcs.toList) rfl (by kernel_rfl)
theorem dC2:gB Tryz.prog 0 tl2:=gB.of (i:=0) (fs:=Tryz.prog.funcs.toList) rfl (by kernel_rfl)
theorem dD2:fC Tryz.prog (TM []):=gB.tab (M:=[]) sF1 trivial
end
end Go.P
