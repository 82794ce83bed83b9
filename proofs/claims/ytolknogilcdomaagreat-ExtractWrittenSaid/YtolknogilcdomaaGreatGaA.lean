import Derived.Test.YtolknogilcdomaaGreatLpB
import Derived.KernelRfl
import Derived.Test.YtolknogilcdomaaGreatChecked
/- A text of the proof. -/
set_option linter.all false
set_option maxRecDepth 100000
set_option maxHeartbeats 2000000
namespace Go.P
open Go.Sim (Ex iV CK)
structure YZ where
 gJ:Int
 dE:Int
 deriving DecidableEq,Inhabited
def YZ.g (x:YZ):aA PV:=[i64 x.gJ,i64 x.dE]
structure YL where
 eC:Int
 bC:Int
 deriving DecidableEq,Inhabited
def YL.g (x:YL):aA PV:=[i64 x.eC,i64 x.bC]
structure YF where
 ID:YZ
 Hg:Int
 deriving DecidableEq,Inhabited
def YF.g (x:YF):aA PV:=[i64 x.ID.gJ,i64 x.ID.dE,i64 x.Hg]
structure YJ where
 ID:YZ
 oP:ByteArray
 bG:YL
 cO:List YF
 deriving Inhabited
def YJ.g (x:YJ):aA PV:=[i64 x.ID.gJ,i64 x.ID.dE,.v (.string x.oP),i64 x.bG.eC,i64 x.bG.bC,.is 3 (List.map YF.g x.cO)]
structure Y6 where
 c0:Int
 c1:Int
 c2:Int
 c3:Int
 c4:Int
 c5:Int
 deriving DecidableEq,Inhabited
def Y6.g (x:Y6):aA PV:=[i64 x.c0,i64 x.c1,i64 x.c2,i64 x.c3,i64 x.c4,i64 x.c5]
structure YX where
 gS:Int
 Unit:Int
 bY:Y6
 deriving DecidableEq,Inhabited
def YX.g (x:YX):aA PV:=[i64 x.gS,i64 x.Unit,i64 x.bY.c0,i64 x.bY.c1,i64 x.bY.c2,i64 x.bY.c3,i64 x.bY.c4,i64 x.bY.c5]
structure YT where
 At:Int
 Hi:Int
 bC2:Bool
 deriving DecidableEq,Inhabited
def YT.g (x:YT):aA PV:=[i64 x.At,i64 x.Hi,bv x.bC2]
structure YC where
 At:Int
 Hg:Int
 deriving DecidableEq,Inhabited
def YC.g (x:YC):aA PV:=[i64 x.At,i64 x.Hg]
structure YA where
 Log:Int
 qR:Int
 deriving DecidableEq,Inhabited
def YA.g (x:YA):aA PV:=[i64 x.Log,i64 x.qR]
structure YH where
 jP:Int
 iJ:Int
 eZ:Int
 deriving DecidableEq,Inhabited
def YH.g (x:YH):aA PV:=[i64 x.jP,i64 x.iJ,i64 x.eZ]
structure YB where
 cA:YH
 Hj:Bool
 Hh:Int
 deriving DecidableEq,Inhabited
def YB.g (x:YB):aA PV:=[i64 x.cA.jP,i64 x.cA.iJ,i64 x.cA.eZ,bv x.Hj,i64 x.Hh]
structure YD where
 cA:YH
 Log:Int
 zF:Bool
 deriving DecidableEq,Inhabited
def YD.g (x:YD):aA PV:=[i64 x.cA.jP,i64 x.cA.iJ,i64 x.cA.eZ,i64 x.Log,bv x.zF]
structure YY where
 qQ:ByteArray
 Cn:Int
 deriving DecidableEq,Inhabited
def YY.g (x:YY):aA PV:=[.v (.string x.qQ),i64 x.Cn]
structure YE where
 ID:YZ
 dH:Int
 Value:YA
 cE:List YB
 bR:List YD
 bD:Int
 cS:Int
 dC:Int
 cX:List YY
 jO:Int
 jQ:Int
 deriving Inhabited
def YE.g (x:YE):aA PV:=[i64 x.ID.gJ,i64 x.ID.dE,i64 x.dH,i64 x.Value.Log,i64 x.Value.qR,.is 5 (List.map YB.g x.cE),.is 5 (List.map YD.g x.bR),i64 x.bD,i64 x.cS,i64 x.dC,.is 2 (List.map YY.g x.cX),i64 x.jO,i64 x.jQ]
structure YU where
 lH:Int
 gS:Int
 iQ:Int
 jM:Int
 deriving DecidableEq,Inhabited
def YU.g (x:YU):aA PV:=[i64 x.lH,i64 x.gS,i64 x.iQ,i64 x.jM]
structure YO where
 aW:List YE
 cT:List YU
 deriving Inhabited
def YO.g (x:YO):aA PV:=[.is 13 (List.map YE.g x.aW),.is 4 (List.map YU.g x.cT)]
structure YW where
 iI:List YC
 aT:List YO
 deriving Inhabited
def YW.g (x:YW):aA PV:=[.is 2 (List.map YC.g x.iI),.is 2 (List.map YO.g x.aT)]
structure YM where
 ID:YZ
 dK:YX
 gQ:Int
 eM:Int
 cN:Bool
 bN:Int
 bS:Int
 lU:Int
 fL:Int
 jN:Int
 jY:Int
 cW:ByteArray
 fR:List YT
 aO:List YW
 deriving Inhabited
def YM.g (x:YM):aA PV:=[i64 x.ID.gJ,i64 x.ID.dE,i64 x.dK.gS,i64 x.dK.Unit,i64 x.dK.bY.c0,i64 x.dK.bY.c1,i64 x.dK.bY.c2,i64 x.dK.bY.c3,i64 x.dK.bY.c4,i64 x.dK.bY.c5,i64 x.gQ,i64 x.eM,bv x.cN,i64 x.bN,i64 x.bS,i64 x.lU,i64 x.fL,i64 x.jN,i64 x.jY,.v (.string x.cW),.is 3 (List.map YT.g x.fR),.is 2 (List.map YW.g x.aO)]
structure YN where
 ID:YZ
 dH:Int
 jL:YZ
 To:YZ
 deriving DecidableEq,Inhabited
def YN.g (x:YN):aA PV:=[i64 x.ID.gJ,i64 x.ID.dE,i64 x.dH,i64 x.jL.gJ,i64 x.jL.dE,i64 x.To.gJ,i64 x.To.dE]
structure Y0 where
 jJ:ByteArray
 cJ:Bool
 aU:List YJ
 aF:List YM
 bT:List YN
 kI:List YZ
 deriving Inhabited
def Y0.g (x:Y0):aA PV:=[.v (.string x.jJ),bv x.cJ,.is 6 (List.map YJ.g x.aU),.is 22 (List.map YM.g x.aF),.is 7 (List.map YN.g x.bT),.is 2 (List.map YZ.g x.kI)]
structure YV where
 kW:Int
 lH1:YZ
 deriving DecidableEq,Inhabited
def YV.g (x:YV):aA PV:=[i64 x.kW,i64 x.lH1.gJ,i64 x.lH1.dE]
structure YI where
 name:ByteArray
 letter:Int
 line:Int
 octaves:Int
 middle:Int
 sharps:Int
 flats:Int
 deriving DecidableEq,Inhabited
def YI.g (x:YI):aA PV:=[.v (.string x.name),.v (.int .u8 x.letter),i64 x.line,i64 x.octaves,i64 x.middle,i64 x.sharps,i64 x.flats]
structure Y9 where
 c0:YI
 c1:YI
 c2:YI
 c3:YI
 c4:YI
 c5:YI
 c6:YI
 c7:YI
 c8:YI
 deriving DecidableEq,Inhabited
def Y9.g (x:Y9):aA PV:=[.v (.string x.c0.name),.v (.int .u8 x.c0.letter),i64 x.c0.line,i64 x.c0.octaves,i64 x.c0.middle,i64 x.c0.sharps,i64 x.c0.flats,.v (.string x.c1.name),.v (.int .u8 x.c1.letter),i64 x.c1.line,i64 x.c1.octaves,i64 x.c1.middle,i64 x.c1.sharps,i64 x.c1.flats,.v (.string x.c2.name),.v (.int .u8 x.c2.letter),i64 x.c2.line,i64 x.c2.octaves,i64 x.c2.middle,i64 x.c2.sharps,i64 x.c2.flats,.v (.string x.c3.name),.v (.int .u8 x.c3.letter),i64 x.c3.line,i64 x.c3.octaves,i64 x.c3.middle,i64 x.c3.sharps,i64 x.c3.flats,.v (.string x.c4.name),.v (.int .u8 x.c4.letter),i64 x.c4.line,i64 x.c4.octaves,i64 x.c4.middle,i64 x.c4.sharps,i64 x.c4.flats,.v (.string x.c5.name),.v (.int .u8 x.c5.letter),i64 x.c5.line,i64 x.c5.octaves,i64 x.c5.middle,i64 x.c5.sharps,i64 x.c5.flats,.v (.string x.c6.name),.v (.int .u8 x.c6.letter),i64 x.c6.line,i64 x.c6.octaves,i64 x.c6.middle,i64 x.c6.sharps,i64 x.c6.flats,.v (.string x.c7.name),.v (.int .u8 x.c7.letter),i64 x.c7.line,i64 x.c7.octaves,i64 x.c7.middle,i64 x.c7.sharps,i64 x.c7.flats,.v (.string x.c8.name),.v (.int .u8 x.c8.letter),i64 x.c8.line,i64 x.c8.octaves,i64 x.c8.middle,i64 x.c8.sharps,i64 x.c8.flats]
structure YK where
 s':Y0
 rule:Int
 list:List YV
 deriving Inhabited
def YK.g (x:YK):aA PV:=[.v (.string x.s'.jJ),bv x.s'.cJ,.is 6 (List.map YJ.g x.s'.aU),.is 22 (List.map YM.g x.s'.aF),.is 7 (List.map YN.g x.s'.bT),.is 2 (List.map YZ.g x.s'.kI),i64 x.rule,.is 3 (List.map YV.g x.list)]
structure Ar where
 c0:Int
 c1:Int
 c2:Int
 c3:Int
 c4:Int
 c5:Int
 c6:Int
 deriving DecidableEq,Inhabited
def Ar.g (x:Ar):aA PV:=[i64 x.c0,i64 x.c1,i64 x.c2,i64 x.c3,i64 x.c4,i64 x.c5,i64 x.c6]
structure YP where
 dH:Int
 zB2:Int
 iE:Int
 dF:Int
 iN:Int
 pV:Int
 tX1:Int
 deriving DecidableEq,Inhabited
def YP.g (x:YP):aA PV:=[i64 x.dH,i64 x.zB2,i64 x.iE,i64 x.dF,i64 x.iN,i64 x.pV,i64 x.tX1]
structure YQ where
 dF:Int
 At:Int
 iE:Int
 iN:Int
 deriving DecidableEq,Inhabited
def YQ.g (x:YQ):aA PV:=[i64 x.dF,i64 x.At,i64 x.iE,i64 x.iN]
structure YS where
 dH:Int
 jL:YQ
 To:YQ
 deriving DecidableEq,Inhabited
def YS.g (x:YS):aA PV:=[i64 x.dH,i64 x.jL.dF,i64 x.jL.At,i64 x.jL.iE,i64 x.jL.iN,i64 x.To.dF,i64 x.To.At,i64 x.To.iE,i64 x.To.iN]
structure YG where
 started:Bool
 body:Int
 used:Int
 ending:Int
 ended:Bool
 passes:Int
 deriving DecidableEq,Inhabited
def YG.g (x:YG):aA PV:=[bv x.started,i64 x.body,i64 x.used,i64 x.ending,bv x.ended,i64 x.passes]
structure lZ where
 id:YZ
 metre:YX
 length:Int
 fifths:Int
 start:Bool
 end':Int
 endings:Int
 jump:Int
 labels:Int
 swing:Int
 lineBreaking:Int
 rehearsal:ByteArray
 deriving DecidableEq,Inhabited
def lZ.g (x:lZ):aA PV:=[i64 x.id.gJ,i64 x.id.dE,i64 x.metre.gS,i64 x.metre.Unit,i64 x.metre.bY.c0,i64 x.metre.bY.c1,i64 x.metre.bY.c2,i64 x.metre.bY.c3,i64 x.metre.bY.c4,i64 x.metre.bY.c5,i64 x.length,i64 x.fifths,bv x.start,i64 x.end',i64 x.endings,i64 x.jump,i64 x.labels,i64 x.swing,i64 x.lineBreaking,.v (.string x.rehearsal)]
def Yd:Rm (eA YZ.g) true [.i,.i]:=⟨fun _=>rfl,fun a b=>by
 cases a;cases b
 simp only[zY,eA,YZ.g,i64,pF,xP,YZ.mk.injEq,gR3,fV3,and_self,gF3]
 repeat' (first|rfl|split)
 all_goals simp_all⟩
def mD:Rm (eA YP.g) true [.i,.i,.i,.i,.i,.i,.i]:=⟨fun _=>rfl,fun a b=>by
 cases a;cases b
 simp only[zY,eA,YP.g,i64,pF,xP,YP.mk.injEq,gR3,fV3,and_self,gF3]
 repeat' (first|rfl|split)
 all_goals simp_all⟩
abbrev td0:TD:=(.nd 71 13 [(5,.nd 75 5 []),(6,.nd 110 5 []),(10,.nd 97 2 [])])
abbrev Ly:TD:=(.nd 57 2 [(0,.nd 71 13 [(5,.nd 75 5 []),(6,.nd 110 5 []),(10,.nd 97 2 [])]),(1,.nd 276 4 [])])
abbrev Ka:TD:=(.nd 52 2 [(1,.nd 57 2 [(0,.nd 71 13 [(5,.nd 75 5 []),(6,.nd 110 5 []),(10,.nd 97 2 [])]),(1,.nd 276 4 [])])])
abbrev sT:TD:=(.nd 48 22 [(21,.nd 52 2 [(1,.nd 57 2 [(0,.nd 71 13 [(5,.nd 75 5 []),(6,.nd 110 5 []),(10,.nd 97 2 [])]),(1,.nd 276 4 [])])])])
end Go.P
namespace Go.P.K
open Go.Sim (Ex iV CK)
abbrev I {A B:Type} (f:A->B) (l:aA A):aA B:=l.map f
abbrev Q (e:gL) (h:bA):Sw:=⟨e,h⟩
abbrev rq (e:gL) (h:bA):Ex×Sw:=(.ret,⟨e,h⟩)
abbrev ck (s:Y0) (r:Int) (l:PV):aA PV:=[.v (.string s.jJ),bv s.cJ,.is 6 (List.map YJ.g s.aU),.is 22 (List.map YM.g s.aF),.is 7 (List.map YN.g s.bT),.is 2 (List.map YZ.g s.kI),i64 r,l]
abbrev nq (e:gL) (h:bA):Ex×Sw:=(.normal,⟨e,h⟩)
abbrev xq (n:Nat) (e:gL) (h:bA):Ex×Sw:=(.exit n,⟨e,h⟩)
end Go.P.K
namespace Go.P.K
open Go.Sim (Ex iV CK)
abbrev t (n:Nat):PX:=.t n
abbrev c (n:Int):PX:=.c (.v (.int .i64 n))
abbrev cn:PX:=.c (.v (.slice none 0 0))
abbrev ct:PX:=.c (.v (.bool true))
abbrev cf:PX:=.c (.v (.bool false))
abbrev J (n:Int):Value:=.int .i64 n
abbrev ZS:Value:=.string ⟨#[]⟩
abbrev ZB:Value:=.bool false
abbrev ZN:Value:=.slice none 0 0
abbrev o (d:Nat) (k:iV) (xs:aA PX) (l:aA Nat) (r:kT):kT:=.op d k xs l r
abbrev m (d x:Nat) (r:kT):kT:=.op d .mov [.t x] [] r
abbrev M (d x:Nat) (r:kT):kT:=.op d .mov [.t x] [x] r
abbrev L (d x:Nat) (r:kT):kT:=.op d .loadS [.t x] [x] r
abbrev a (d k x:Nat) (r:kT):kT:=.op d (.fad k) [.t x] [] r
abbrev A (d k x:Nat) (r:kT):kT:=.op d (.fad k) [.t x] [x] r
abbrev b (d:Nat) (k:BinOp) (xs:aA PX) (l:aA Nat) (r:kT):kT:=.op d (.bin k) xs l r
abbrev f (d g:Nat) (xs:aA PX) (l:aA Nat) (r:kT):kT:=.op d (.callF g) xs l r
abbrev e (d k x:Nat) (l:aA Nat) (r:kT):kT:=.op d (.ext k) [.t x] l r
abbrev O (d:Nat) (k:iV) (x:Nat) (r:kT):kT:=.op d k [.t x] [x] r
abbrev B (d:Nat) (k:BinOp) (x:Nat) (n:Int) (r:kT):kT:=.op d (.bin k) [.t x,c n] [x] r
abbrev C (d:Nat) (k:BinOp) (x y:Nat) (r:kT):kT:=.op d (.bin k) [.t x,.t y] [x,y] r
abbrev U (d:Nat) (k:iV) (l:aA Nat) (r:kT):kT:=.op d k (l.map .t) l r
abbrev x (d g:Nat) (w:Bool) (s:kT) (y:PX) (l:aA Nat) (r:kT):kT:=.ifx d g w s y l r
abbrev R (s:kT) (q:PC):PC:=.seq (.reg s) q
abbrev z0:aA Value:=[ZS,ZB,ZN,ZN,ZN,ZN]
abbrev z1:aA Value:=[J 0,J 0,J 0,J 0,J 0,J 0,J 0,J 0,J 0,J 0,J 0,J 0,ZB,J 0,J 0,J 0,J 0,J 0,J 0,ZS,ZN,ZN]
abbrev z2:aA Value:=[J 0,J 0,ZS,J 0,J 0,ZN]
abbrev z3:aA Value:=[J 0,J 0]
abbrev z4:aA Value:=[J 0,J 0,J 0,J 0,J 0,ZN,ZN,J 0,J 0,J 0,ZN,J 0,J 0]
abbrev z5:aA Value:=[ZS,ZB,ZN,ZN,ZN,ZN,J 0,ZN]
abbrev z6:aA Value:=[J 0,J 0,J 0]
abbrev z7:aA Value:=[.map none]
abbrev z8:aA Value:=[J 0,J 0,J 0,J 0,J 0,J 0,J 0]
abbrev z9:aA Value:=[ZB,J 0,J 0,J 0,ZB,J 0]
abbrev z10:aA Value:=[J 0,J 0,J 0,J 0,J 0,J 0,J 0,J 0,J 0,J 0,J 0,J 0,ZB,J 0,J 0,J 0,J 0,J 0,J 0,ZS]
abbrev z11:aA Value:=[ZS,.int .u8 0,J 0,J 0,J 0,J 0,J 0]
abbrev z12:aA Value:=[J 0,J 0,J 0,ZB,J 0]
abbrev z13:aA Value:=[J 0,J 0,J 0,J 0]
abbrev z14:aA Value:=[J 0,J 0,J 0,J 0,J 0,J 0,J 0,J 0,J 0]
abbrev z15:aA Value:=[.nilFunc,.nilFunc,.nilFunc,.nilFunc,.nilFunc,.nilFunc,.nilFunc]
abbrev z16:aA Value:=[J 0,J 0,ZB]
abbrev z17:aA Value:=[J 0,J 0,J 0,J 0,ZB]
abbrev z19:aA Value:=[J 0,J 0,J 0,J 0,J 0,J 0]
end Go.P.K
namespace Go.P
open Go.Sim (Ex iV CK)
def hU1:aA Nat->Go.Sim.IC->Go.Sim.IC
 |[],c=>c
 |i::p,c=>match c with
  |.seq a b=>hU1 p (bif Nat.beq i 0 then a else b)
  |.cond _ a b=>hU1 p (bif Nat.beq i 0 then a else b)
  |.block _ a=>hU1 p a
  |.loop a=>hU1 p a
  |c=>c
noncomputable def ddf (f:Nat) (p:aA Nat):Go.Sim.IC:=match Go.Proofs.Tryz.prog.funcs[f]? with
 |some fn=>match fn.body with
  |some c=>match Go.Sim.comp Go.Proofs.Tryz.prog c with
   |some ic=>hU1 p ic
   |none=>.skip
  |none=>.skip
 |none=>.skip
noncomputable section
open K
noncomputable abbrev aP (f s:Nat) (z:Bool):cQ:=anF Go.Proofs.Tryz.prog f s z
def zg (l:aA cQ) (i:Nat):cQ:=(l[i]?).getD default
def p7:cQ:=⟨49,[.cellA 2 6,.tmp 3],R (O 1 (.box 27 6) 0<|U 2 (.alloc 27 z0) []<|o 3 .mov [c 0] [3]<|.nil)<|.seq (R (o 9 (.loadA 6) [t 1] [3]<|O 10 (.callF 8) 9<|O 11 (.un .not) 10<|.nil)<|.cond (t 11) (R (U 12 (.build z0 []) []<|.sto (.store 6) [t 2,t 12] [12]<|.laxc 2 2 6<|.laxc 2 3 22<|.laxc 2 4 7<|.laxc 2 5 2<|o 3 .mov [c 24] []<|.nil)<|.ret) (.skip))<|.seq (R (a 13 1 1<|L 14 13<|O 15 (.un .not) 14<|.nil)<|.cond (t 15) (R (O 16 (.loadA 6) 1<|.up 40<|O 17 (.callF 19) 16<|.sto (.store 6) [t 2,t 17] [17]<|o 3 .mov [c 0] []<|.nil)<|.ret) (.skip))<|R (o 4 .mov [cn] []<|.own 4 38 2 false<|.nil)<|.seq (R (a 18 2 1<|L 19 18<|o 20 (.len 0) [t 19] []<|o 21 .mov [c 0] []<|.nil)<|.block 0 (.loop [1,2,4,19,20,21] [1,2,4] (R (b 22 .lss [t 21,t 20] []<|.nil)<|.seq (.cond (t 22) (.skip) (.exit 0))<|.seq (.block 1 (R (o 23 (.iad 6) [t 19,t 21] []<|O 24 (.loadA 6) 23<|U 6 (.alloc 41 z2) []<|.sto (.store 6) [t 6,t 24] [24]<|.nil)<|.reg<|M 25 4<|a 26 3 6<|A 27 0 26<|L 28 27<|O 29 (.un .neg) 28<|A 30 3 6<|A 31 1 30<|L 32 31<|O 33 (.un .neg) 32<|U 34 (.build z3 [(0,1),(1,1)]) [29,33]<|O 35 (.buildSl 38 2 1 z3 [0]) 34<|U 36 (.append 38 2 16 z3 false) [25,35]<|M 4 36<|.nil))<|.reg<|B 37 .add 21 1<|M 21 37<|.nil)))<|.seq (.seq (.reg<|.fz 4 none<|.nil)<|.regD 26 (o 39 (.loadA 6) [t 1] []<|O 40 (.loadA 6) 1<|M 41 4<|U 42 (.callF 21) [40,41]<|U 43 (.callF 20) [39,42]<|M 38 43<|e 44 0 38 []<|O 45 (.ext 1) 38<|U 7 (.alloc 27 z0) []<|.sto (.store 6) [t 7,t 44] [44]<|M 8 45<|.nil) [0,0,0,6,15,31,63,63,0,383,1023])<|R (a 46 1 7<|.sto (.store 1) [t 46,cf] [46]<|.nil)<|R (O 47 (.loadA 6) 7<|M 48 8<|.sto (.store 6) [t 2,t 47] [47]<|M 3 48<|.nil)<|.ret,true⟩
def p10:cQ:=⟨54,[.cellA 2 6,.tmp 3],R (O 1 (.box 27 6) 0<|U 2 (.alloc 27 z0) []<|o 3 .mov [c 0] [3]<|.nil)<|.seq (R (o 10 (.fad 1) [t 1] [3]<|L 11 10<|.nil)<|.cond (t 11) (R (O 12 (.loadA 6) 1<|.sto (.store 6) [t 2,t 12] [12]<|o 3 .mov [c 0] []<|.nil)<|.ret) (.skip))<|R (o 4 .mov [cn] []<|.own 4 38 2 false<|.nil)<|.seq (R (o 5 .mov [c 0] []<|.nil)<|.block 0 (.loop [1,2,4,5] [1,2,3,4] (.seq (R (m 13 5<|a 14 2 1<|L 15 14<|O 16 (.len 0) 15<|C 17 .lss 13 16<|.nil)<|.cond (t 17) (.skip) (.exit 0))<|.seq (.block 1 (R (o 21 (.loadA 6) [t 1] []<|m 22 5<|U 23 (.callF 23) [21,22]<|M 20 23<|e 24 0 20 []<|O 25 (.ext 1) 20<|U 6 (.alloc 38 z3) []<|.sto (.store 2) [t 6,t 24] [24]<|M 7 25<|.nil)<|.seq (R (M 26 7<|O 27 (.un .not) 26<|.nil)<|.cond (t 27) (R (U 28 (.build z0 []) []<|.sto (.store 6) [t 2,t 28] [28]<|.laxc 2 2 6<|.laxc 2 3 22<|.laxc 2 4 7<|.laxc 2 5 2<|o 3 .mov [c 18] []<|.nil)<|.ret) (.skip))<|.reg<|M 29 4<|O 30 (.loadA 2) 6<|O 31 (.buildSl 38 2 1 z3 [0]) 30<|U 32 (.append 38 2 16 z3 false) [29,31]<|M 4 32<|.nil))<|.reg<|M 18 5<|B 19 .add 18 1<|M 5 19<|.nil)))<|R (.fz 4 none<|O 33 (.loadA 6) 1<|m 34 4<|U 35 (.callF 24) [33,34]<|U 8 (.alloc 27 z0) []<|.sto (.store 6) [t 8,t 35] [35]<|.nil)<|R (a 36 1 8<|.sto (.store 1) [t 36,ct] [36]<|.nil)<|.seq (R (o 9 .mov [c 0] []<|.nil)<|.block 2 (.loop [2,4,8,9] [2,8] (.seq (R (m 37 9<|a 38 2 8<|L 39 38<|O 40 (.len 0) 39<|C 41 .lss 37 40<|.nil)<|.cond (t 41) (.skip) (.exit 2))<|.seq (.block 3 (.regD 3 (a 44 2 8<|L 45 44<|m 46 9<|m 47 4<|m 48 9<|U 49 (.iad 2) [47,48]<|O 50 (.loadA 2) 49<|U 51 (.iad 6) [45,46]<|A 52 3 51<|.sto (.store 2) [t 52,t 50] [50,52]<|.nil) [0,1,0,0,0,24,56,127,255,511]))<|.reg<|M 42 9<|B 43 .add 42 1<|M 9 43<|.nil)))<|R (O 53 (.loadA 6) 8<|.sto (.store 6) [t 2,t 53] [53]<|o 3 .mov [c 0] []<|.nil)<|.ret,true⟩
def p12:cQ:=⟨39,[.cellA 2 6],R (O 1 (.box 27 6) 0<|U 2 (.alloc 27 z0) []<|.nil)<|.seq (R (a 7 1 1<|L 8 7<|O 9 (.un .not) 8<|.nil)<|.cond (t 9) (R (O 10 (.loadA 6) 1<|.sto (.store 6) [t 2,t 10] [10]<|.nil)<|.ret) (.skip))<|R (o 3 .mov [cn] []<|.own 3 38 2 false<|.nil)<|.seq (R (o 4 .mov [c 0] []<|.nil)<|.block 0 (.loop [1,2,3,4] [1,2,3] (.seq (R (m 11 4<|a 12 2 1<|L 13 12<|O 14 (.len 0) 13<|C 15 .lss 11 14<|.nil)<|.cond (t 15) (.skip) (.exit 0))<|.seq (.block 1 (R (a 18 2 1<|L 19 18<|m 20 4<|U 21 (.iad 6) [19,20]<|A 22 3 21<|O 23 (.loadA 2) 22<|U 5 (.alloc 38 z3) []<|.sto (.store 2) [t 5,t 23] [23]<|.nil)<|.reg<|M 24 3<|a 25 0 5<|L 26 25<|O 27 (.un .neg) 26<|A 28 1 5<|L 29 28<|O 30 (.un .neg) 29<|U 31 (.build z3 [(0,1),(1,1)]) [27,30]<|O 32 (.buildSl 38 2 1 z3 [0]) 31<|U 33 (.append 38 2 16 z3 false) [24,32]<|M 3 33<|.nil))<|.reg<|M 16 4<|B 17 .add 16 1<|M 4 17<|.nil)))<|R (.fz 3 none<|O 34 (.loadA 6) 1<|M 35 3<|U 36 (.callF 24) [34,35]<|U 6 (.alloc 27 z0) []<|.sto (.store 6) [t 6,t 36] [36]<|.nil)<|R (a 37 1 6<|.sto (.store 1) [t 37,cf] [37]<|.nil)<|R (O 38 (.loadA 6) 6<|.sto (.store 6) [t 2,t 38] [38]<|.nil)<|.ret,true⟩
def p18:cQ:=⟨66,[.cellA 2 6,.tmp 3],R (O 1 (.box 27 6) 0<|U 2 (.alloc 27 z0) []<|o 3 .mov [c 0] [3]<|.nil)<|.seq (R (o 11 (.fad 1) [t 1] [3]<|L 12 11<|.nil)<|.cond (t 12) (R (O 13 (.loadA 6) 1<|.up 40<|O 14 (.callF 19) 13<|.sto (.store 6) [t 2,t 14] [14]<|o 3 .mov [c 0] []<|.nil)<|.ret) (.skip))<|R (o 4 .mov [cn] []<|.own 4 38 2 false<|.nil)<|.seq (R (a 15 2 1<|L 16 15<|O 17 (.len 0) 16<|o 18 .mov [c 0] []<|.nil)<|.block 0 (.loop [1,2,4,17,18] [1,2,3,4] (R (b 19 .lss [t 18,t 17] []<|.nil)<|.seq (.cond (t 19) (.skip) (.exit 0))<|.seq (.block 1 (R (m 20 18<|M 5 20<|.nil)<|R (o 22 (.loadA 6) [t 1] []<|M 23 5<|U 24 (.callF 33) [22,23]<|M 21 24<|e 25 0 21 []<|O 26 (.ext 1) 21<|U 6 (.alloc 38 z3) []<|.sto (.store 2) [t 6,t 25] [25]<|M 7 26<|.nil)<|.seq (R (m 27 7<|B 28 .neq 27 0<|.nil)<|.cond (t 28) (R (U 29 (.build z0 []) []<|M 30 7<|.sto (.store 6) [t 2,t 29] [29]<|.laxc 2 2 6<|.laxc 2 3 22<|.laxc 2 4 7<|.laxc 2 5 2<|M 3 30<|.nil)<|.ret) (.skip))<|.reg<|M 31 4<|O 32 (.loadA 2) 6<|O 33 (.buildSl 38 2 1 z3 [0]) 32<|U 34 (.append 38 2 16 z3 false) [31,33]<|M 4 34<|.nil))<|.reg<|B 35 .add 18 1<|M 18 35<|.nil)))<|.seq (.seq (.reg<|.fz 4 none<|.nil)<|.regD 26 (o 37 (.loadA 6) [t 1] []<|O 38 (.loadA 6) 1<|m 39 4<|U 40 (.callF 21) [38,39]<|U 41 (.callF 20) [37,40]<|M 36 41<|e 42 0 36 []<|O 43 (.ext 1) 36<|U 8 (.alloc 27 z0) []<|.sto (.store 6) [t 8,t 42] [42]<|M 9 43<|.nil) [0,0,0,6,15,31,63,63,0,383,1023])<|.seq (R (m 44 9<|B 45 .neq 44 0<|.nil)<|.cond (t 45) (R (U 46 (.build z0 []) []<|M 47 9<|.sto (.store 6) [t 2,t 46] [46]<|.laxc 2 2 6<|.laxc 2 3 22<|.laxc 2 4 7<|.laxc 2 5 2<|M 3 47<|.nil)<|.ret) (.skip))<|R (a 48 1 8<|.sto (.store 1) [t 48,ct] [48]<|.nil)<|.seq (R (a 49 2 8<|L 50 49<|O 51 (.len 0) 50<|o 52 .mov [c 0] []<|.nil)<|.block 2 (.loop [2,4,8,51,52] [2,8] (R (b 53 .lss [t 52,t 51] []<|.nil)<|.seq (.cond (t 53) (.skip) (.exit 2))<|.seq (.block 3 (R (m 54 52<|M 10 54<|.nil)<|.regD 3 (a 55 2 8<|L 56 55<|m 57 10<|m 58 4<|M 59 10<|U 60 (.iad 2) [58,59]<|O 61 (.loadA 2) 60<|U 62 (.iad 6) [56,57]<|A 63 3 62<|.sto (.store 2) [t 63,t 61] [61,63]<|.nil) [0,1,0,0,0,24,56,127,255,511]))<|.reg<|B 64 .add 52 1<|M 52 64<|.nil)))<|R (O 65 (.loadA 6) 8<|.sto (.store 6) [t 2,t 65] [65]<|o 3 .mov [c 0] []<|.nil)<|.ret,true⟩
def p25:cQ:=⟨31,[.tmp 4],R (O 2 (.box 41 6) 0<|O 3 (.box 41 6) 1<|o 4 .mov [cf] [4]<|.nil)<|R (o 5 (.fad 0) [t 2] [4]<|O 6 (.loadA 2) 5<|a 7 0 3<|O 8 (.loadA 2) 7<|U 9 (.eqA false [.i,.i]) [6,8]<|M 10 9<|x 16 10 true (a 11 2 2<|L 12 11<|a 13 2 3<|L 14 13<|C 15 .eql 12 14<|.nil) (t 15) [10]<|M 17 16<|x 23 17 true (a 18 3 2<|O 19 (.loadA 2) 18<|a 20 3 3<|O 21 (.loadA 2) 20<|U 22 (.eqA false [.i,.i]) [19,21]<|.nil) (t 22) [17]<|M 24 23<|x 30 24 true (A 25 5 2<|L 26 25<|A 27 5 3<|L 28 27<|U 29 (.callF 26) [26,28]<|.nil) (t 29) [2,3,24]<|M 4 30<|.nil)<|.ret,true⟩
def p26:cQ:=⟨26,[.tmp 4],R (o 4 .mov [cf] [4]<|.nil)<|.seq (R (o 6 .mov [t 0] [4]<|O 7 (.len 0) 6<|m 8 1<|O 9 (.len 0) 8<|C 10 .neq 7 9<|.nil)<|.cond (t 10) (R (o 4 .mov [cf] []<|.nil)<|.ret) (.skip))<|.seq (R (m 11 0<|O 12 (.len 0) 11<|o 13 .mov [c 0] []<|.nil)<|.block 0 (.loop [0,1,12,13] [4] (R (b 14 .lss [t 13,t 12] []<|.nil)<|.seq (.cond (t 14) (.skip) (.exit 0))<|.seq (.block 1 (R (m 15 13<|M 5 15<|.nil)<|.seq (.regD 3 (m 16 0<|m 17 5<|U 18 (.iad 3) [16,17]<|O 19 (.loadA 3) 18<|m 20 1<|M 21 5<|U 22 (.iad 3) [20,21]<|O 23 (.loadA 3) 22<|U 24 (.eqA true [.i,.i,.i]) [19,23]<|.nil) [0,0,3,7,0,0,48,112,255])<|.cond (t 24) (R (o 4 .mov [cf] []<|.nil)<|.ret) (.skip)))<|.reg<|B 25 .add 13 1<|M 13 25<|.nil)))<|R (o 4 .mov [ct] []<|.nil)<|.ret,true⟩
def p29:cQ:=⟨24,[.tmp 4],R (O 2 (.box 48 22) 0<|O 3 (.box 48 22) 1<|o 4 .mov [cf] [4]<|.nil)<|.seq (.regD 3 (o 5 (.loadA 22) [t 2] [4]<|O 6 (.callF 63) 5<|o 7 (.loadA 22) [t 3] []<|O 8 (.callF 63) 7<|U 9 (.eqA false [.i,.i,.i,.i,.i,.i,.i,.i,.i,.i,.i,.i,.b,.i,.i,.i,.i,.i,.i,.s]) [6,8]<|M 10 9<|x 16 10 true (a 11 20 2<|L 12 11<|a 13 20 3<|L 14 13<|U 15 (.callF 64) [12,14]<|.nil) (t 15) [10]<|M 17 16<|x 23 17 true (A 18 21 2<|L 19 18<|A 20 21 3<|L 21 20<|f 22 65 [t 19,t 21,.c (.fn 66 [] [])] [19,21]<|.nil) (t 22) [2,3,17]<|M 4 23<|.nil) [0,1,0,7,15,31,63,127,63,319,1023,2047,4095,8191,16383,8191,40959,131071,262143,524287])<|.ret,true⟩
def p30:cQ:=⟨26,[.tmp 4],R (o 4 .mov [cf] [4]<|.nil)<|.seq (R (o 6 .mov [t 0] [4]<|O 7 (.len 0) 6<|m 8 1<|O 9 (.len 0) 8<|C 10 .neq 7 9<|.nil)<|.cond (t 10) (R (o 4 .mov [cf] []<|.nil)<|.ret) (.skip))<|.seq (R (m 11 0<|O 12 (.len 0) 11<|o 13 .mov [c 0] []<|.nil)<|.block 0 (.loop [0,1,12,13] [4] (R (b 14 .lss [t 13,t 12] []<|.nil)<|.seq (.cond (t 14) (.skip) (.exit 0))<|.seq (.block 1 (R (m 15 13<|M 5 15<|.nil)<|.seq (.regD 3 (m 16 0<|m 17 5<|U 18 (.iad 7) [16,17]<|O 19 (.loadA 7) 18<|m 20 1<|M 21 5<|U 22 (.iad 7) [20,21]<|O 23 (.loadA 7) 22<|U 24 (.eqA true [.i,.i,.i,.i,.i,.i,.i]) [19,23]<|.nil) [0,0,3,7,0,0,48,112,255])<|.cond (t 24) (R (o 4 .mov [cf] []<|.nil)<|.ret) (.skip)))<|.reg<|B 25 .add 13 1<|M 13 25<|.nil)))<|R (o 4 .mov [ct] []<|.nil)<|.ret,true⟩
def p31:cQ:=⟨26,[.tmp 4],R (o 4 .mov [cf] [4]<|.nil)<|.seq (R (o 6 .mov [t 0] [4]<|O 7 (.len 0) 6<|m 8 1<|O 9 (.len 0) 8<|C 10 .neq 7 9<|.nil)<|.cond (t 10) (R (o 4 .mov [cf] []<|.nil)<|.ret) (.skip))<|.seq (R (m 11 0<|O 12 (.len 0) 11<|o 13 .mov [c 0] []<|.nil)<|.block 0 (.loop [0,1,12,13] [4] (R (b 14 .lss [t 13,t 12] []<|.nil)<|.seq (.cond (t 14) (.skip) (.exit 0))<|.seq (.block 1 (R (m 15 13<|M 5 15<|.nil)<|.seq (.regD 3 (m 16 0<|m 17 5<|U 18 (.iad 2) [16,17]<|O 19 (.loadA 2) 18<|m 20 1<|M 21 5<|U 22 (.iad 2) [20,21]<|O 23 (.loadA 2) 22<|U 24 (.eqA true [.i,.i]) [19,23]<|.nil) [0,0,3,7,0,0,48,112,255])<|.cond (t 24) (R (o 4 .mov [cf] []<|.nil)<|.ret) (.skip)))<|.reg<|B 25 .add 13 1<|M 13 25<|.nil)))<|R (o 4 .mov [ct] []<|.nil)<|.ret,true⟩
def p45:cQ:=⟨86,[],R (U 8 .mkmap []<|M 2 8<|.nil)<|.seq (R (m 9 0<|O 10 .nilc 9<|A 11 0 10<|O 12 (.loadA 6) 11<|O 13 (.callF 82) 12<|o 14 (.len 0) [t 13] []<|o 15 .mov [c 0] []<|.nil)<|.block 0 (.loop [0,2,13,14,15] [0] (R (b 16 .lss [t 15,t 14] []<|.nil)<|.seq (.cond (t 16) (.skip) (.exit 0))<|.seq (.block 1 (R (o 17 (.iad 2) [t 13,t 15] []<|O 18 (.loadA 2) 17<|U 4 (.alloc 36 z3) []<|.sto (.store 2) [t 4,t 18] [18]<|.nil)<|.seq (.regD 3 (m 19 0<|o 20 (.loadA 2) [t 4] []<|O 21 (.callF 83) 20<|O 22 (.un .not) 21<|M 23 22<|x 27 23 false (m 24 2<|o 25 (.loadA 2) [t 4] []<|U 26 (.lookup true [.i,.i] (.v (.bool false)) false) [24,25]<|.nil) (t 26) [23]<|M 28 27<|x 39 28 false (a 29 1 4<|L 30 29<|m 31 0<|O 32 .nilc 31<|A 33 0 32<|O 34 (.loadA 6) 33<|a 35 0 4<|L 36 35<|U 37 (.callF 84) [34,36]<|C 38 .gtr 30 37<|.nil) (t 38) [28]<|o 40 (.loadA 2) [t 4] []<|f 41 78 [t 19,t 39,t 40] [19,39,40,41]<|.nil) [0,0,2,6,14,30,30,126,254,510,1022,2046,1022,5118,13310,29694,1022,66558,259070,524286,1048574,0,4194303])<|.reg<|o 42 .mov [t 2] [41]<|O 43 (.loadA 2) 4<|.sto (.mapup true [.i,.i]) [t 42,t 43,ct] [42,43]<|.nil))<|.reg<|B 44 .add 15 1<|M 15 44<|.nil)))<|R (o 5 .mov [cf] []<|.nil)<|.seq (R (m 45 0<|O 46 .nilc 45<|A 47 0 46<|A 48 5 47<|L 49 48<|o 50 (.len 0) [t 49] []<|o 51 .mov [c 0] []<|.nil)<|.block 2 (.loop [0,5,49,50,51] [0,5] (R (b 52 .lss [t 51,t 50] []<|.nil)<|.seq (.cond (t 52) (.skip) (.exit 2))<|.seq (.block 3 (R (m 53 51<|o 54 (.iad 2) [t 49,t 51] []<|O 55 (.loadA 2) 54<|U 7 (.alloc 36 z3) []<|M 6 53<|.sto (.store 2) [t 7,t 55] [55]<|.nil)<|.regD 3 (M 56 5<|M 57 56<|x 61 57 false (o 58 (.loadA 2) [t 7] []<|O 59 (.callF 83) 58<|O 60 (.un .not) 59<|.nil) (t 60) [57]<|M 62 61<|x 80 62 false (m 63 6<|B 64 .gtr 63 0<|M 65 64<|x 79 65 true (A 66 0 7<|L 67 66<|m 68 0<|O 69 .nilc 68<|A 70 0 69<|A 71 5 70<|L 72 71<|M 73 6<|B 74 .sub 73 1<|U 75 (.iad 2) [72,74]<|A 76 0 75<|L 77 76<|C 78 .leq 67 77<|.nil) (t 78) [6,7,65]<|.nil) (t 79) [6,7,62]<|M 5 80<|.nil) [0,1,3,7,15,31,63,127,255,511,1023,2047,1023,5119,13311,29695,62463,1023,132095,521215,1045503,2094079,4194303,8388607,16777215,33554431]))<|.reg<|B 81 .add 51 1<|M 51 81<|.nil)))<|.reg<|M 82 0<|M 83 5<|U 84 (.build z3 []) []<|f 85 78 [t 82,t 83,t 84] [82,83,84,85]<|.nil,true⟩
def p64:cQ:=⟨26,[.tmp 4],R (o 4 .mov [cf] [4]<|.nil)<|.seq (R (o 6 .mov [t 0] [4]<|O 7 (.len 0) 6<|m 8 1<|O 9 (.len 0) 8<|C 10 .neq 7 9<|.nil)<|.cond (t 10) (R (o 4 .mov [cf] []<|.nil)<|.ret) (.skip))<|.seq (R (m 11 0<|O 12 (.len 0) 11<|o 13 .mov [c 0] []<|.nil)<|.block 0 (.loop [0,1,12,13] [4] (R (b 14 .lss [t 13,t 12] []<|.nil)<|.seq (.cond (t 14) (.skip) (.exit 0))<|.seq (.block 1 (R (m 15 13<|M 5 15<|.nil)<|.seq (.regD 3 (m 16 0<|m 17 5<|U 18 (.iad 3) [16,17]<|O 19 (.loadA 3) 18<|m 20 1<|M 21 5<|U 22 (.iad 3) [20,21]<|O 23 (.loadA 3) 22<|U 24 (.eqA true [.i,.i,.b]) [19,23]<|.nil) [0,0,3,7,0,0,48,112,255])<|.cond (t 24) (R (o 4 .mov [cf] []<|.nil)<|.ret) (.skip)))<|.reg<|B 25 .add 13 1<|M 13 25<|.nil)))<|R (o 4 .mov [ct] []<|.nil)<|.ret,true⟩
def p76:cQ:=⟨33,[.cellA 4 3],R (U 4 (.alloc 73 z6) []<|.nil)<|.seq (R (m 7 0<|O 8 (.len 0) 7<|B 9 .lss 8 1<|.nil)<|.cond (t 9) (.dead (ddf 76 [1,0,1,0])) (.skip))<|R (m 11 0<|o 12 (.iad 3) [t 11,c 0] [11]<|O 13 (.loadA 3) 12<|U 5 (.alloc 73 z6) []<|.sto (.store 3) [t 5,t 13] [13]<|.nil)<|.seq (R (o 6 .mov [c 1] []<|.nil)<|.block 0 (.loop [0,1,4,5,6] [4,5] (.seq (R (m 14 6<|m 15 0<|O 16 (.len 0) 15<|C 17 .lss 14 16<|.nil)<|.cond (t 17) (.skip) (.exit 0))<|.seq (.block 1 (.seq (.regD 3 (m 20 1<|m 21 0<|m 22 6<|U 23 (.iad 3) [21,22]<|O 24 (.loadA 3) 23<|o 25 (.loadA 3) [t 5] []<|U 26 .callV [20,24,25]<|B 27 .lss 26 0<|.nil) [0,0,0,6,14,0,63,127])<|.condJ [0,1,4,5,6] (t 27) (.reg<|m 28 0<|m 29 6<|U 30 (.iad 3) [28,29]<|O 31 (.loadA 3) 30<|.sto (.store 3) [t 5,t 31] [31]<|.nil) (.skip)))<|.reg<|M 18 6<|B 19 .add 18 1<|M 6 19<|.nil)))<|R (O 32 (.loadA 3) 5<|.sto (.store 3) [t 4,t 32] [32]<|.nil)<|.ret,true⟩
def Vb:PC:=.reg<|M 5 8<|.nil
def Vc:PC:=.block 1 (.regD 3 (o 9 .loadS [t 3] []<|M 10 5<|O 11 .nilc 10<|O 12 (.loadA 2) 11<|O 13 (.buildSl 36 2 1 z3 [0]) 12<|U 14 (.append 36 2 16 z3 false) [9,13]<|.sto (.store 1) [t 3,t 14] [3,14]<|.nil) [0,0,2,6,14,31,63])
def p82:cQ:=⟨16,[.tmp 2],R (O 1 (.box 27 6) 0<|o 2 .mov [cn] [2]<|.nil)<|R (o 3 (.alloc 25 [ZN]) [] [2]<|.ownc 3 0 36 2 false<|.nil)<|.seq (R (O 6 (.callF 137) 1<|.nil)<|.block 0 (.rangeF 16 [3] (t 6) [7,8] Vb Vc))<|R (L 15 3<|M 2 15<|.nil)<|.ret,true⟩
def p91:cQ:=⟨55,[.tmp 5],R (O 4 (.box 48 22) 1<|o 5 .mov [cf] [5]<|.nil)<|R (o 12 (.loadA 22) [t 4] [5]<|O 13 (.callF 90) 12<|M 11 13<|e 14 0 11 []<|O 15 (.ext 1) 11<|o 6 .mov [t 14] [6,14]<|o 7 .mov [t 15] [6,15]<|.nil)<|R (M 16 7<|B 17 .neq 16 0<|M 18 17<|x 23 18 false (a 19 11 4<|L 20 19<|f 21 80 [t 20,c (-7),c 7] [20]<|O 22 (.un .not) 21<|.nil) (t 22) [18]<|M 8 23<|.nil)<|.seq (R (o 24 .loadS [t 2] []<|O 25 .nilc 24<|A 26 0 25<|A 27 2 26<|L 28 27<|o 29 (.len 0) [t 28] []<|o 30 .mov [c 0] []<|.nil)<|.block 0 (.loop [2,4,8,28,29,30] [8] (R (b 31 .lss [t 30,t 29] []<|.nil)<|.seq (.cond (t 31) (.skip) (.exit 0))<|.seq (.block 1 (R (o 32 (.iad 6) [t 28,t 30] []<|O 33 (.loadA 6) 32<|U 10 (.alloc 41 z2) []<|.sto (.store 6) [t 10,t 33] [33]<|.nil)<|R (o 34 .loadS [t 2] []<|O 35 .nilc 34<|A 36 0 35<|A 37 1 36<|L 38 37<|M 39 38<|x 42 39 true (m 40 8<|O 41 (.un .not) 40<|.nil) (t 41) [39]<|.nil)<|.condJ [2,4,8,28,29,30] (t 42) (R (a 44 11 4<|L 45 44<|A 46 3 10<|O 47 (.loadA 2) 46<|U 48 (.callF 35) [45,47]<|M 43 48<|e 49 0 43 [49]<|e 50 1 43 [43,49]<|M 7 50<|.nil)<|.reg<|M 51 7<|B 52 .neq 51 0<|M 8 52<|.nil) (.skip)))<|.reg<|B 53 .add 30 1<|M 30 53<|.nil)))<|R (M 54 8<|M 5 54<|.nil)<|.ret,true⟩
def cY2:cQ:=⟨108,[],R (U 10 (.alloc 97 [ZS,J 0]) []<|.nil)<|R (U 11 (.alloc 160 z8) []<|.nil)<|.seq (R (M 18 0<|O 19 .nilc 18<|A 20 0 19<|A 21 3 20<|L 22 21<|o 23 (.len 0) [t 22] []<|o 24 .mov [c 0] []<|.nil)<|.block 0 (.loop [1,2,3,4,10,11,22,23,24] [4,10,11] (R (b 25 .lss [t 24,t 23] []<|.nil)<|.seq (.cond (t 25) (.skip) (.exit 0))<|.seq (.block 1 (R (m 26 24<|o 27 (.iad 22) [t 22,t 24] []<|O 28 (.loadA 22) 27<|U 13 (.alloc 48 z1) []<|M 12 26<|.sto (.store 22) [t 13,t 28] [28]<|.nil)<|.seq (R (m 29 1<|a 30 21 13<|L 31 30<|O 32 (.len 0) 31<|C 33 .geq 29 32<|M 34 33<|x 44 34 false (m 35 2<|a 36 21 13<|L 37 36<|m 38 1<|U 39 (.iad 2) [37,38]<|A 40 1 39<|L 41 40<|O 42 (.len 0) 41<|C 43 .geq 35 42<|.nil) (t 43) [34]<|.nil)<|.cond (t 44) (.exit 1) (.skip))<|R (A 45 21 13<|L 46 45<|m 47 1<|U 48 (.iad 2) [46,47]<|A 49 1 48<|L 50 49<|m 51 2<|U 52 (.iad 2) [50,51]<|A 53 0 52<|L 54 53<|o 55 (.len 0) [t 54] []<|o 56 .mov [c 0] []<|.nil)<|.block 2 (.loop [1,2,3,4,10,11,12,22,23,24,54,55,56] [1,2,3,4,10,11,22,23,24] (R (b 57 .lss [t 56,t 55] []<|.nil)<|.seq (.cond (t 57) (.skip) (.exit 2))<|.seq (.block 3 (R (m 58 56<|o 59 (.iad 13) [t 54,t 56] []<|O 60 (.loadA 13) 59<|U 15 (.alloc 71 z4) []<|M 14 58<|.sto (.store 13) [t 15,t 60] [60]<|.nil)<|.seq (R (o 61 (.loadA 13) [t 15] []<|m 62 3<|U 63 (.callF 167) [61,62]<|.nil)<|.cond (t 63) (.exit 3) (.skip))<|.seq (.regX 3 (m 64 1<|m 65 12<|m 66 2<|M 67 14<|o 68 (.build z8 [(0,1),(2,1),(3,1),(4,1),(5,1)]) [c 4,t 64,t 65,t 66,t 67] [64,65,66,67]<|A 69 10 15<|o 70 .loadS [t 69] []<|m 71 3<|U 72 (.iad 2) [70,71]<|o 73 (.loadA 2) [t 72] []<|U 16 (.alloc 160 z8) []<|U 17 (.alloc 97 [ZS,J 0]) []<|.sto (.store 7) [t 16,t 68] [68]<|.sto (.store 2) [t 17,t 73] [73]<|.nil) [0,0,0,0,15,0,32,0,224,480,0,0,3103,8191] [(6,12,69,16),(9,12,72,16)])<|.seq (R (a 74 1 10<|L 75 74<|B 76 .eql 75 1<|M 77 76<|x 81 77 true (a 78 0 17<|L 79 78<|b 80 .eql [t 79,.c (.v (.string ⟨#[]⟩))] [79]<|.nil) (t 80) [77]<|.nil)<|.condJ [1,2,3,4,10,11,12,16,17,22,23,24,54,55,56] (t 81) (.reg<|m 82 4<|o 83 (.loadA 7) [t 11] []<|.sto (.mapup true [.i,.i,.i,.i,.i,.i,.i]) [t 82,t 83,ct] [82,83]<|.nil) (.skip))<|.seq (R (a 84 0 17<|L 85 84<|b 86 .eql [t 85,.c (.v (.string ⟨#[]⟩))] [85]<|M 87 86<|x 91 87 true (a 88 1 17<|L 89 88<|B 90 .eql 89 2<|.nil) (t 90) [87]<|M 92 91<|x 96 92 true (a 93 1 10<|L 94 93<|B 95 .neq 94 2<|.nil) (t 95) [92]<|.nil)<|.condJ [1,2,3,4,10,11,12,16,17,22,23,24,54,55,56] (t 96) (.reg<|m 97 4<|o 98 (.loadA 7) [t 16] []<|.sto (.mapup true [.i,.i,.i,.i,.i,.i,.i]) [t 97,t 98,ct] [97,98]<|.nil) (.skip))<|.regX 3 (O 99 (.loadA 2) 17<|o 100 (.loadA 7) [t 16] []<|.sto (.store 2) [t 10,t 99] [99]<|.sto (.store 7) [t 11,t 100] [100]<|.nil) [0,0,1,7] [(1,2,16,10)]))<|.reg<|B 101 .add 56 1<|M 56 101<|.nil))))<|.reg<|B 102 .add 24 1<|M 24 102<|.nil)))<|R (A 103 1 10<|L 104 103<|B 105 .eql 104 1<|.nil)<|.condJ [] (t 105) (.reg<|M 106 4<|O 107 (.loadA 7) 11<|.sto (.mapup true [.i,.i,.i,.i,.i,.i,.i]) [t 106,t 107,ct] [106,107]<|.nil) (.skip),true⟩
def oB2:cQ:=⟨9,[.tmp 5],R (O 3 (.box 160 7) 0<|o 4 (.box 71 13) [t 1] [1,4]<|o 5 .mov [cf] [4,5]<|.nil)<|R (o 6 .loadS [t 2] [2,5]<|O 7 (.loadA 7) 3<|U 8 (.lookup true [.i,.i,.i,.i,.i,.i,.i] (.v (.bool false)) false) [6,7]<|M 5 8<|.nil)<|.ret,true⟩
def oC2:cQ:=⟨26,[.tmp 4],R (o 4 .mov [cf] [4]<|.nil)<|.seq (R (o 6 .mov [t 0] [4]<|O 7 (.len 0) 6<|m 8 1<|O 9 (.len 0) 8<|C 10 .neq 7 9<|.nil)<|.cond (t 10) (R (o 4 .mov [cf] []<|.nil)<|.ret) (.skip))<|.seq (R (m 11 0<|O 12 (.len 0) 11<|o 13 .mov [c 0] []<|.nil)<|.block 0 (.loop [0,1,12,13] [4] (R (b 14 .lss [t 13,t 12] []<|.nil)<|.seq (.cond (t 14) (.skip) (.exit 0))<|.seq (.block 1 (R (m 15 13<|M 5 15<|.nil)<|.seq (.regD 3 (m 16 0<|m 17 5<|U 18 (.iad 2) [16,17]<|O 19 (.loadA 2) 18<|m 20 1<|M 21 5<|U 22 (.iad 2) [20,21]<|O 23 (.loadA 2) 22<|U 24 (.eqA true [.i,.i]) [19,23]<|.nil) [0,0,3,7,0,0,48,112,255])<|.cond (t 24) (R (o 4 .mov [cf] []<|.nil)<|.ret) (.skip)))<|.reg<|B 25 .add 13 1<|M 13 25<|.nil)))<|R (o 4 .mov [ct] []<|.nil)<|.ret,true⟩
def oD2:cQ:=⟨73,[.tmp 4],R (O 2 (.box 71 13) 0<|O 3 (.box 71 13) 1<|o 4 .mov [cf] [4]<|.nil)<|R (o 5 (.fad 2) [t 2] [4]<|L 6 5<|a 7 2 3<|L 8 7<|C 9 .eql 6 8<|M 10 9<|x 16 10 true (a 11 3 2<|O 12 (.loadA 2) 11<|a 13 3 3<|O 14 (.loadA 2) 13<|U 15 (.eqA false [.i,.i]) [12,14]<|.nil) (t 15) [10]<|M 17 16<|x 23 17 true (a 18 7 2<|L 19 18<|a 20 7 3<|L 21 20<|C 22 .eql 19 21<|.nil) (t 22) [17]<|M 24 23<|x 30 24 true (a 25 8 2<|L 26 25<|a 27 8 3<|L 28 27<|C 29 .eql 26 28<|.nil) (t 29) [24]<|M 31 30<|x 37 31 true (a 32 9 2<|L 33 32<|a 34 9 3<|L 35 34<|C 36 .eql 33 35<|.nil) (t 36) [31]<|M 38 37<|x 44 38 true (a 39 11 2<|L 40 39<|a 41 11 3<|L 42 41<|C 43 .eql 40 42<|.nil) (t 43) [38]<|M 45 44<|x 51 45 true (a 46 12 2<|L 47 46<|a 48 12 3<|L 49 48<|C 50 .eql 47 49<|.nil) (t 50) [45]<|M 52 51<|x 58 52 true (a 53 5 2<|L 54 53<|a 55 5 3<|L 56 55<|U 57 (.callF 199) [54,56]<|.nil) (t 57) [52]<|M 59 58<|x 65 59 true (a 60 6 2<|L 61 60<|a 62 6 3<|L 63 62<|U 64 (.callF 200) [61,63]<|.nil) (t 64) [59]<|M 66 65<|x 72 66 true (A 67 10 2<|L 68 67<|A 69 10 3<|L 70 69<|U 71 (.callF 201) [68,70]<|.nil) (t 71) [2,3,66]<|M 4 72<|.nil)<|.ret,true⟩
def oE2:cQ:=⟨9,[.tmp 3],R (O 2 (.box 75 5) 0<|o 3 .mov [cf] [3]<|.nil)<|R (o 4 (.fad 0) [t 2] [2,3]<|O 5 (.loadA 3) 4<|A 6 0 1<|O 7 (.loadA 3) 6<|U 8 (.eqA false [.i,.i,.i]) [5,7]<|M 3 8<|.nil)<|.ret,true⟩
def oF2:cQ:=⟨19,[.tmp 4],R (O 2 (.box 71 13) 0<|o 4 .mov [cf] [4]<|.nil)<|R (o 5 .mov [t 1] [4]<|a 6 10 2<|L 7 6<|O 8 (.len 0) 7<|C 9 .geq 5 8<|M 10 9<|x 18 10 false (A 11 10 2<|L 12 11<|M 13 1<|U 14 (.iad 2) [12,13]<|O 15 (.loadA 2) 14<|U 16 (.build [ZS,J 0] []) []<|U 17 (.eqA false [.s,.i]) [15,16]<|.nil) (t 17) [1,2,10]<|M 4 18<|.nil)<|.ret,true⟩
def oG2:cQ:=⟨15,[.tmp 4],R (O 2 (.box 71 13) 0<|O 3 (.box 71 13) 1<|o 4 .mov [cf] [4]<|.nil)<|R (o 5 (.fad 0) [t 2] [4]<|O 6 (.loadA 2) 5<|a 7 0 3<|O 8 (.loadA 2) 7<|U 9 (.eqA false [.i,.i]) [6,8]<|M 10 9<|x 14 10 true (O 11 (.loadA 13) 2<|O 12 (.loadA 13) 3<|U 13 (.callF 151) [11,12]<|.nil) (t 13) [2,3,10]<|M 4 14<|.nil)<|.ret,true⟩
def xV1:cQ:=⟨42,[.tmp 4],R (o 4 .mov [cn] [4]<|.nil)<|R (o 8 .mov [t 0] [4]<|m 9 1<|U 10 (.callF 219) [8,9]<|M 5 10<|.nil)<|.seq (R (m 11 5<|B 12 .eql 11 (-1)<|.nil)<|.cond (t 12) (R (M 13 0<|M 4 13<|.nil)<|.ret) (.skip))<|.seq (R (m 14 5<|B 15 .add 14 1<|M 6 15<|.nil)<|.block 0 (.loop [0,1,5,6] [0,5] (.seq (R (m 16 6<|m 17 0<|O 18 (.len 0) 17<|C 19 .lss 16 18<|.nil)<|.cond (t 19) (.skip) (.exit 0))<|.seq (.block 1 (R (m 22 0<|m 23 6<|U 24 (.iad 2) [22,23]<|O 25 (.loadA 2) 24<|U 7 (.alloc 38 z3) []<|.sto (.store 2) [t 7,t 25] [25]<|.nil)<|R (m 26 1<|o 27 (.loadA 2) [t 7] []<|U 28 .callV [26,27]<|O 29 (.un .not) 28<|.nil)<|.condJ [0,1,5,6] (t 29) (R (m 30 0<|m 31 5<|O 32 (.loadA 2) 7<|U 33 (.iad 2) [30,31]<|.sto (.store 2) [t 33,t 32] [32,33]<|.nil)<|.reg<|M 34 5<|B 35 .add 34 1<|M 5 35<|.nil) (.skip)))<|.reg<|M 20 6<|B 21 .add 20 1<|M 6 21<|.nil)))<|R (m 36 0<|m 37 5<|.clr 38 2 z3 (t 36) (t 37) [36,37,38]<|.nil)<|R (M 39 0<|M 40 5<|U 41 (.slc 2 false true false) [39,40]<|M 4 41<|.nil)<|.ret,true⟩
def xW1:cQ:=⟨148,[],R (o 10 .mov [ct] [10]<|.nil)<|R (o 11 .mov [ct] [10,11]<|.nil)<|.block 0 (.loop [0,1,2,4] [] (.block 1 (R (m 21 2<|m 22 1<|C 23 .sub 21 22<|M 12 23<|.nil)<|.seq (R (M 24 12<|B 25 .leq 24 12<|.nil)<|.cond (t 25) (R (M 26 0<|M 27 1<|M 28 2<|M 29 4<|f 30 220 [t 26,t 27,t 28,t 29] [26,27,28,29,30]<|.nil)<|.ret) (.skip))<|.dead (ddf 188 [1,1,0,0,0,1,1])))),true⟩
def oH2:cQ:=⟨26,[.tmp 4],R (o 4 .mov [cf] [4]<|.nil)<|.seq (R (o 6 .mov [t 0] [4]<|O 7 (.len 0) 6<|m 8 1<|O 9 (.len 0) 8<|C 10 .neq 7 9<|.nil)<|.cond (t 10) (R (o 4 .mov [cf] []<|.nil)<|.ret) (.skip))<|.seq (R (m 11 0<|O 12 (.len 0) 11<|o 13 .mov [c 0] []<|.nil)<|.block 0 (.loop [0,1,12,13] [4] (R (b 14 .lss [t 13,t 12] []<|.nil)<|.seq (.cond (t 14) (.skip) (.exit 0))<|.seq (.block 1 (R (m 15 13<|M 5 15<|.nil)<|.seq (.regD 3 (m 16 0<|m 17 5<|U 18 (.iad 5) [16,17]<|O 19 (.loadA 5) 18<|m 20 1<|M 21 5<|U 22 (.iad 5) [20,21]<|O 23 (.loadA 5) 22<|U 24 (.eqA true [.i,.i,.i,.b,.i]) [19,23]<|.nil) [0,0,3,7,0,0,48,112,255])<|.cond (t 24) (R (o 4 .mov [cf] []<|.nil)<|.ret) (.skip)))<|.reg<|B 25 .add 13 1<|M 13 25<|.nil)))<|R (o 4 .mov [ct] []<|.nil)<|.ret,true⟩
def oI2:cQ:=⟨26,[.tmp 4],R (o 4 .mov [cf] [4]<|.nil)<|.seq (R (o 6 .mov [t 0] [4]<|O 7 (.len 0) 6<|m 8 1<|O 9 (.len 0) 8<|C 10 .neq 7 9<|.nil)<|.cond (t 10) (R (o 4 .mov [cf] []<|.nil)<|.ret) (.skip))<|.seq (R (m 11 0<|O 12 (.len 0) 11<|o 13 .mov [c 0] []<|.nil)<|.block 0 (.loop [0,1,12,13] [4] (R (b 14 .lss [t 13,t 12] []<|.nil)<|.seq (.cond (t 14) (.skip) (.exit 0))<|.seq (.block 1 (R (m 15 13<|M 5 15<|.nil)<|.seq (.regD 3 (m 16 0<|m 17 5<|U 18 (.iad 5) [16,17]<|O 19 (.loadA 5) 18<|m 20 1<|M 21 5<|U 22 (.iad 5) [20,21]<|O 23 (.loadA 5) 22<|U 24 (.eqA true [.i,.i,.i,.i,.b]) [19,23]<|.nil) [0,0,3,7,0,0,48,112,255])<|.cond (t 24) (R (o 4 .mov [cf] []<|.nil)<|.ret) (.skip)))<|.reg<|B 25 .add 13 1<|M 13 25<|.nil)))<|R (o 4 .mov [ct] []<|.nil)<|.ret,true⟩
def oJ2:cQ:=⟨26,[.tmp 4],R (o 4 .mov [cf] [4]<|.nil)<|.seq (R (o 6 .mov [t 0] [4]<|O 7 (.len 0) 6<|m 8 1<|O 9 (.len 0) 8<|C 10 .neq 7 9<|.nil)<|.cond (t 10) (R (o 4 .mov [cf] []<|.nil)<|.ret) (.skip))<|.seq (R (m 11 0<|O 12 (.len 0) 11<|o 13 .mov [c 0] []<|.nil)<|.block 0 (.loop [0,1,12,13] [4] (R (b 14 .lss [t 13,t 12] []<|.nil)<|.seq (.cond (t 14) (.skip) (.exit 0))<|.seq (.block 1 (R (m 15 13<|M 5 15<|.nil)<|.seq (.regD 3 (m 16 0<|m 17 5<|U 18 (.iad 2) [16,17]<|O 19 (.loadA 2) 18<|m 20 1<|M 21 5<|U 22 (.iad 2) [20,21]<|O 23 (.loadA 2) 22<|U 24 (.eqA true [.s,.i]) [19,23]<|.nil) [0,0,3,7,0,0,48,112,255])<|.cond (t 24) (R (o 4 .mov [cf] []<|.nil)<|.ret) (.skip)))<|.reg<|B 25 .add 13 1<|M 13 25<|.nil)))<|R (o 4 .mov [ct] []<|.nil)<|.ret,true⟩
def oK2:cQ:=⟨6,[.tmp 2],R (O 1 (.box 97 2) 0<|o 2 .mov [cf] [2]<|.nil)<|R (o 3 (.loadA 2) [t 1] [1,2]<|U 4 (.build [ZS,J 0] []) []<|U 5 (.eqA false [.s,.i]) [3,4]<|M 2 5<|.nil)<|.ret,true⟩
def yN:PC:=R (U 6 (.alloc 160 z8) []<|.sto (.store 7) [t 6,t 13] [13]<|.nil)<|.reg<|M 7 14<|.nil
def yO:PC:=.block 1 (.seq (.regD 3 (M 15 7<|O 16 .nilc 15<|O 17 (.loadA 2) 16<|O 18 (.loadA 2) 3<|U 19 (.eqA false [.i,.i]) [17,18]<|.nil) [0,1,3,0,15])<|.cond (t 19) (R (O 20 (.loadA 7) 6<|.sto (.store 7) [t 4,t 20] [4,20]<|.sto (.store 1) [t 5,ct] [5]<|.nil)<|.ret) (.skip))
def oL2:cQ:=⟨22,[.cellA 4 7,.cellS 5],R (O 2 (.box 27 6) 0<|O 3 (.box 36 2) 1<|U 4 (.alloc 160 z8) []<|U 5 (.alloc 4 [ZB]) []<|.nil)<|.seq (R (o 8 (.loadA 2) [t 3] []<|U 9 (.build z3 []) []<|U 10 (.eqA false [.i,.i]) [8,9]<|.nil)<|.cond (t 10) (R (U 11 (.build z8 []) []<|.sto (.store 7) [t 4,t 11] [11]<|.sto (.store 1) [t 5,cf] []<|.nil)<|.ret) (.skip))<|.seq (R (O 12 (.callF 137) 2<|.nil)<|.block 0 (.rangeF 22 [3,4,5] (t 12) [13,14] yN yO))<|R (U 21 (.build z8 []) []<|.sto (.store 7) [t 4,t 21] [21]<|.sto (.store 1) [t 5,cf] []<|.nil)<|.ret,true⟩
def oM2:cQ:=⟨26,[.tmp 4],R (o 4 .mov [cf] [4]<|.nil)<|.seq (R (o 6 .mov [t 0] [4]<|O 7 (.len 0) 6<|m 8 1<|O 9 (.len 0) 8<|C 10 .neq 7 9<|.nil)<|.cond (t 10) (R (o 4 .mov [cf] []<|.nil)<|.ret) (.skip))<|.seq (R (m 11 0<|O 12 (.len 0) 11<|o 13 .mov [c 0] []<|.nil)<|.block 0 (.loop [0,1,12,13] [4] (R (b 14 .lss [t 13,t 12] []<|.nil)<|.seq (.cond (t 14) (.skip) (.exit 0))<|.seq (.block 1 (R (m 15 13<|M 5 15<|.nil)<|.seq (.regD 3 (m 16 0<|m 17 5<|U 18 (.iad 4) [16,17]<|O 19 (.loadA 4) 18<|m 20 1<|M 21 5<|U 22 (.iad 4) [20,21]<|O 23 (.loadA 4) 22<|U 24 (.eqA true [.i,.i,.i,.i]) [19,23]<|.nil) [0,0,3,7,0,0,48,112,255])<|.cond (t 24) (R (o 4 .mov [cf] []<|.nil)<|.ret) (.skip)))<|.reg<|B 25 .add 13 1<|M 13 25<|.nil)))<|R (o 4 .mov [ct] []<|.nil)<|.ret,true⟩
def oN2:cQ:=⟨50,[.tmp 2],R (O 1 (.box 44 8) 0<|o 2 .mov [cf] [2]<|.nil)<|.seq (R (o 7 (.fad 2) [t 1] [2]<|O 8 (.loadA 6) 7<|U 9 (.build z19 []) []<|U 10 (.eqA false [.i,.i,.i,.i,.i,.i]) [8,9]<|.nil)<|.cond (t 10) (R (o 2 .mov [ct] []<|.nil)<|.ret) (.skip))<|R (o 3 .mov [c 0] []<|o 4 .mov [c 0] []<|.nil)<|.seq (R (a 11 2 1<|O 12 (.loadA 6) 11<|o 13 .mov [c 0] []<|.nil)<|.block 0 (.loop [1,3,4,12,13] [1,2,3,4] (R (b 14 .lss [t 13,c 6] []<|.nil)<|.seq (.cond (t 14) (.skip) (.exit 0))<|.seq (.block 1 (R (m 15 13<|o 16 (.idxA 6 1 false) [t 12,t 13] []<|M 5 15<|M 6 16<|.nil)<|.block 2 (R (m 18 6<|B 19 .lss 18 0<|M 20 19<|x 23 20 false (m 21 6<|B 22 .gtr 21 64<|.nil) (t 22) [20]<|M 24 23<|x 32 24 false (m 25 6<|B 26 .gtr 25 0<|M 27 26<|x 31 27 true (M 28 5<|m 29 4<|C 30 .neq 28 29<|.nil) (t 30) [5,27]<|.nil) (t 31) [5,24]<|M 17 32<|.nil)<|.cond (t 17) (R (o 2 .mov [cf] []<|.nil)<|.ret) (R (m 34 6<|B 35 .gtr 34 0<|M 33 35<|.nil)<|.condJ [1,3,4,12,13] (t 33) (.reg<|M 36 3<|M 37 6<|C 38 .add 36 37<|M 39 4<|B 40 .add 39 1<|M 3 38<|M 4 40<|.nil) (.skip)))))<|.reg<|B 41 .add 13 1<|M 13 41<|.nil)))<|R (M 42 3<|A 43 0 1<|L 44 43<|C 45 .eql 42 44<|M 46 45<|x 49 46 true (M 47 4<|B 48 .geq 47 2<|.nil) (t 48) [4,46]<|M 2 49<|.nil)<|.ret,true⟩
def Dc:{l:aA cQ//l=[aP 3 0x17d5132111145179622112516c7332111351111315f12010110158522112514c3221125148622112511101101391201011012c12010110100110251112122121 true,aP 4 0x12cb122111145111110451111104511111045111101111111110011025110011111101110101111110111010130011110111010011111010018764321719187643170000111111010185111111010011100643215187643160000111104511111045111105e1201101001110021264314001110011111101018511111101001110043214543140002122121 true,aP 6 0x11a121011025274742742e32746227447124001131231201 true,aP 8 0x111121222121 true,aP 9 0x11256418574641852e364185626418540421222121 true,aP 11 0x1583232111115511110105511110105512a5221110106511110105511101041241211 true,aP 13 0x16d122111145111101111110011111010011100321354314000011110451111104511110291201101001110021231202122121 true,aP 14 0x1111111111111101110101011111010043135431400011100314313002122121 true,aP 19 0x6f12106e6a2206d5f2206c5c2206b5b2201101101131111584d49483f3211a191044ac1021c91a051de60519b531d18f022791126c2d12e683f4f171114c12010006321449483f63217000101044ac1021c91a051de60519b531d18f022791126c2d12e6803d194a114110111111112b12010003213281f1e3216000101111001 true,aP 20 0x1ba12104721412547474474044ac1021c91a051de60519b531d18f022791126c2d12e6844194a12e6834661659246651b81240030101111111111a818e22488888888881a819f19a19952111100010000685f5e59584f3f3e382f2e1b1a187642918e18d685f5e59584f3f3e382f2e1f1b1a187642c0011011896f22488888888881891887b7a52111100010000685f5e59584f3f3e382f2e1f1b1a187642a6f6e685f5e59584f3f3e382f2e1f1b1a187642c001106b12006526a18059584f3f3e382f2e1b1a187641e10059584f3f3e382f2e1b1a187641e685f5e59584f3f3e382f2e1b1a1876429300115c1200015b1800003f3e382f2e1a187641a59584f3f3e382f2e1b1a187641e0000114e181101010382f2e187647100382f2e1876473f3e382f2e1a187641a201103b12002d13a1800007643382f2e187647000101312002b1201581b21522245120110f true,aP 21 0x14323241211 true,aP 22 0x1111111b85f221b81af2210111111111101851111101f51111102e51111110786e221111011100205f5e5d342a100115b594f4d4b493f3d3b392f2d2b291f1d1b29310101010101010101010101010101010101031ef71966114121222121 true,aP 23 0x12e121011111110301d121111110151251201 true,aP 24 0x28b121111111111111111028a1ff2212881ec1eb322881df22011011100611ef1811000611ea1811031a19187654211910110611d91811001a1918765421191d1b1a19187654211b2011101cd1ca2211cb1af1ae321cb1aa22011011100511ba1811000511ad1811031b1a19187654211a101105119c1811001b1a19187654211a1c1b1a19187654211b2011000118d18110019187654211810110017c18110001918765421181a19187654211920001100654215191876542118001011681811002d15c18110104f1201114c4b4a654211a191040054214101102d13c181101005421465421520001110042254214001f121581b2104010f true,aP 27 0x1100111103912011102d1210100006129281f2150001001101612612 true,aP 28 0x1100111103912011102d1210100006129281f2150001001101612612 true,aP 33 0x12b121011101f1210101c1201111151251201 true,aP 34 0x11111111040224121 true,aP 35 0x11111010010101110100101011111111010001110351111035111103511101010101151254224121 true,aP 36 0x71216522011001 true,aP 37 0x3b121110393822012f2c1f1e1d211a181044ac1021c91a051de60519b531d18f022791126c3b2e1711103ec998d2a12010002121f1e1d2150001044ac1021c91a051de60519b531d18f022791126c11c193e026c2d1c6620401b1a22011011001 true,aP 40 0x2e2d2211111612110011f1201011110113 true,aP 41 0x1381210111111a5223291a19322819221100111722271201 true,aP 42 0x11111111011110111002a12101000065431e1d1c140001100001612652254224121 true]}:=by
 apply Subtype.mk
 conv=>rhs;reduce
def p3:cQ:=zg Dc.1 0
def p4:cQ:=zg Dc.1 1
def p6:cQ:=zg Dc.1 2
def p8:cQ:=zg Dc.1 3
def p9:cQ:=zg Dc.1 4
def p11:cQ:=zg Dc.1 5
def p13:cQ:=zg Dc.1 6
def p14:cQ:=zg Dc.1 7
def p19:cQ:=zg Dc.1 8
def p20:cQ:=zg Dc.1 9
def p21:cQ:=zg Dc.1 10
def p22:cQ:=zg Dc.1 11
def p23:cQ:=zg Dc.1 12
def p24:cQ:=zg Dc.1 13
def p27:cQ:=zg Dc.1 14
def p28:cQ:=zg Dc.1 15
def p33:cQ:=zg Dc.1 16
def p34:cQ:=zg Dc.1 17
def p35:cQ:=zg Dc.1 18
def p36:cQ:=zg Dc.1 19
def p37:cQ:=zg Dc.1 20
def p40:cQ:=zg Dc.1 21
def p41:cQ:=zg Dc.1 22
def p42:cQ:=zg Dc.1 23
def Dd:{l:aA cQ//l=[aP 43 0x4a121113f120113d1210010111011112c1210010111f1201001115222512011 true,aP 44 0x2be2bd2bc1df4202ac022111111175111111110751111111110185111111111018511111110011dd69221dd1dc1da1d9421110111111c91a2211114511111045111b9120100018a18918869685f650191ae1ad1ac18a18918869685f6501c0001111111045111110451118d120100069685f650618a18918869685f650190001011111045111106c12010000169685f04000111101592922059584e2d4211111104511111105511110032c12010000129281f0400011110 true,aP 46 0x1a19183211712011110 true,aP 47 0x4a492211113e2b2203e3d3b2f42111110032e12010001c1b1a042b2a291c1b1a07000111f1201000011c1b1a0400011110 true,aP 48 0x43232101 true,aP 49 0x32221 true,aP 50 0x32221 true,aP 51 0x32221 true,aP 52 0x43232101 true,aP 53 0x43232101 true,aP 54 0x4a49483211111113c2c223c3b3a39382f62010001000291e1d42062c291e1d5420180010001e1d204291e1d42060010002021e1d20400111111071200 true,aP 55 0x13d292203d3c3a2e42111110032d121010000029281f305000111101a2221922210110 true,aP 56 0x17c2b227c7b7978421110111011111001100195111100301102511111005511002b2a2965320182b2a2976543201a0002f12101000002b2a293206000111101110110 true,aP 57 0x19f19e7f7e4211111111111111010316c32278322111351110185111103511015b3c225b5a583211101114c121011003f12010003023c3b3a3050001111412412001111111e121e1d220111110 true,aP 58 0x43232101 true,aP 59 0x32221 true,aP 60 0x43232101 true,aP 61 0x781201106e121011111691b221125110011101110103010151111001e1d1c1918432181e1d1c1a191843219001110381201101110110005421e1d1c4326000512512011 true,aP 62 0x111111111010111011111010001110041521304124121 true,aP 63 0x3b12111101010101010101010101001 true,aP 65 0x1100111103912011102d1210100006129281f2150001001101612612 true,aP 66 0x11a323211111551110141241211 true,aP 67 0x2e1201102c1210110101e12010005421b1a1942500015322512011 true,aP 68 0x5022112511212212 true]}:=by
 apply Subtype.mk
 conv=>rhs;reduce
def p43:cQ:=zg Dd.1 0
def p44:cQ:=zg Dd.1 1
def p46:cQ:=zg Dd.1 2
def p47:cQ:=zg Dd.1 3
def p48:cQ:=zg Dd.1 4
def p49:cQ:=zg Dd.1 5
def p50:cQ:=zg Dd.1 6
def p51:cQ:=zg Dd.1 7
def p52:cQ:=zg Dd.1 8
def p53:cQ:=zg Dd.1 9
def p54:cQ:=zg Dd.1 10
def p55:cQ:=zg Dd.1 11
def p56:cQ:=zg Dd.1 12
def p57:cQ:=zg Dd.1 13
def p58:cQ:=zg Dd.1 14
def p59:cQ:=zg Dd.1 15
def p60:cQ:=zg Dd.1 16
def p61:cQ:=zg Dd.1 17
def p62:cQ:=zg Dd.1 18
def p63:cQ:=zg Dd.1 19
def p65:cQ:=zg Dd.1 20
def p66:cQ:=zg Dd.1 21
def p67:cQ:=zg Dd.1 22
def p68:cQ:=zg Dd.1 23
def De:{l:aA cQ//l=[aP 71 0x391211102f2e22012d2a1d1c1b321a181044ac1021c91a051de60519b531d18f022792f2c1711103ec998d2812010003221d1c1b32500011044ac1021c91a051de60519b531d18f0227923193a027913662191240111001 true,aP 72 0x11111111013100101011010010101111001162226522542241211 true,aP 73 0x12b422488888888882b2a32003253104011103511111101130223222212 true,aP 74 0x11111110131233121 true,aP 75 0x1111112122121 true,aP 77 0x1111111512351211 true,aP 78 0x2d2b2211111111111110030111 true,aP 79 0x17303211111551110212212 true,aP 80 0x11a203211135111612612 true,aP 81 0x2812211135111103511110351112122121 true,aP 83 0x16122111351112122121 true,aP 84 0x11111010101d1201000411a191814000142224121 true,aP 85 0x11111111111c1201000311918734000112122121 true,aP 86 0x1381c220382f2d2942111010032812101000001c1b1a10500011110 true,aP 87 0x11111117a1b227f1b22111145111101a5117812010002c2b2a646d6c6b2c2b2a6700011111111110019511111110651111035111112f1201000612c2b2a6400011111115125121 true,aP 88 0x1111010112022212 true,aP 89 0x118a6221125111111015f1b1a326a1b1a3211111110111a51101e51111101065111110451133f1210100002c2b2a76563b3a392c2b2a197651a000102f12010007622c2b2a76560001101110114124121 true,aP 90 0x110001100001110111411111000011101010110111011131232222121 true,aP 92 0x65432111 true,aP 93 0x15022112511212212 true,aP 94 0x150221113511212212 true,aP 95 0x11111117a5a2207a796f5f421110110000035e1210100004a49483a39382a292864101d5a59584a49483a39382a292818641029000114e1210100003a39382a2928410194a49483a39382a292864101d000113e1210100002a29281053a39382a292841019000112e12101000002a292810500011110 true,aP 96 0x111432241221222022 true,aP 97 0x1111111101101101103110100111110110110301100011110451110000111003001110110100111111011121232121 true]}:=by
 apply Subtype.mk
 conv=>rhs;reduce
def p71:cQ:=zg De.1 0
def p72:cQ:=zg De.1 1
def p73:cQ:=zg De.1 2
def p74:cQ:=zg De.1 3
def p75:cQ:=zg De.1 4
def p77:cQ:=zg De.1 5
def p78:cQ:=zg De.1 6
def p79:cQ:=zg De.1 7
def p80:cQ:=zg De.1 8
def p81:cQ:=zg De.1 9
def p83:cQ:=zg De.1 10
def p84:cQ:=zg De.1 11
def p85:cQ:=zg De.1 12
def p86:cQ:=zg De.1 13
def p87:cQ:=zg De.1 14
def p88:cQ:=zg De.1 15
def p89:cQ:=zg De.1 16
def p90:cQ:=zg De.1 17
def p92:cQ:=zg De.1 18
def p93:cQ:=zg De.1 19
def p94:cQ:=zg De.1 20
def p95:cQ:=zg De.1 21
def p96:cQ:=zg De.1 22
def p97:cQ:=zg De.1 23
def Df:{l:aA cQ//l=[aP 98 0x1691a432111145110105c12015b12106421111114c121111111110642311103818222f1822110011111110300001151251211 true,aP 99 0x1111154221a5221101132223121 true,aP 100 0x1111010101131232222121 true,aP 101 0x11114022412 true,aP 102 0x111131223121 true,aP 103 0x11114022412 true,aP 104 0x111131223121 true,aP 105 0x14918432111145111972203e19223d1201011111113012c1201011111103001151251211 true,aP 106 0x16122111351112122121 true,aP 107 0x6d12006c1211110110011110101101049121111101010001111010100110301a1200110512512011 true,aP 108 0x3a1217c1b2114111110101013ec998d121a474564745547431c12410010110512512011 true,aP 109 0x11002b62212f62211104511101a5110281201000411d1c1b3400011001141241211 true,aP 112 0x11111111116d1c22111351691b22112511111101591201111114b120101110013c12010111002e12010005422b2a295406000111100145051040192f9405131243222212 true,aP 113 0x11111111032a1201110000000011041241211 true,aP 114 0x11e322111145111110451114124121 true,aP 115 0x4c1214b12042211113f3e2201103b12003a1210100102d12002c1210110011011c1210111011512512011 true,aP 116 0x1612211111107511121232121 true,aP 117 0x15f420421111116511110111101000111110351110185111103511102a51111104511115125121 true,aP 118 0x11c21321111116511110351113123121 true,aP 119 0x11114022412 true,aP 120 0x13b322111105511130112e73311011101029287341101001110351101652261211 true,aP 121 0x1111016d1918327819183211111110111a51101e51111104511111010651134d1210100007149483f75360001011111045111110451116121e622110114124121 true,aP 122 0x119c1922111145111025118918221101155111110451111035111018692c29185f2c1f185d2c1d1822c19286a125912000101011101111111103001110105512d42211135111012912010110111512351211 true,aP 123 0x11111112122121 true]}:=by
 apply Subtype.mk
 conv=>rhs;reduce
def p98:cQ:=zg Df.1 0
def p99:cQ:=zg Df.1 1
def cZ2:cQ:=zg Df.1 2
def oU2:cQ:=zg Df.1 3
def oV2:cQ:=zg Df.1 4
def oW2:cQ:=zg Df.1 5
def oX2:cQ:=zg Df.1 6
def oY2:cQ:=zg Df.1 7
def oZ2:cQ:=zg Df.1 8
def pA2:cQ:=zg Df.1 9
def pB2:cQ:=zg Df.1 10
def pC2:cQ:=zg Df.1 11
def dA2:cQ:=zg Df.1 12
def pD2:cQ:=zg Df.1 13
def pE2:cQ:=zg Df.1 14
def pF2:cQ:=zg Df.1 15
def pG2:cQ:=zg Df.1 16
def pH2:cQ:=zg Df.1 17
def pI2:cQ:=zg Df.1 18
def dB2:cQ:=zg Df.1 19
def pJ2:cQ:=zg Df.1 20
def pK2:cQ:=zg Df.1 21
def pL2:cQ:=zg Df.1 22
def pM2:cQ:=zg Df.1 23
def Dg:{l:aA cQ//l=[aP 125 0x1100111103912011102d1210100006129281f2150001001101612612 true,aP 126 0x11a323211111551110141241211 true,aP 127 0x111111111101101102122121 true,aP 128 0x11111132223121 true,aP 130 0x3b1213a39220111101102b2a2201291e191873211a191021c91a051de60519b531d18f1f281717c1b2114103ec998d1c1201000321319187321600010044ac1366021c91a051de60519b531d18f13192a01d18f036630401 true,aP 131 0x1111111110111000011111011412432232222121 true,aP 132 0x1111111111113d3c765407111103511014d1201100111000054033d3c7654070001110111000104154030003199405104003199205104011025113123222212 true,aP 133 0x1d1c1b18752111101110 true,aP 134 0x111114222341211 true,aP 135 0x15022112511212212 true,aP 136 0x11114022412 true,aP 137 0x121222121 true,aP 138 0x1e12111001a120011025113123120 true,aP 139 0x1111010101131232222121 true,aP 140 0x111862321100001111c12010115125121 true,aP 141 0x11121222121 true,aP 142 0x11114022412 true,aP 143 0x111154225121 true,aP 144 0x11114022412 true,aP 145 0x11b4324211111551111151235121 true,aP 146 0x11114022412 true,aP 147 0x111c5221b5221011142224121 true,aP 148 0x1111010110002176530002022212 true,aP 149 0x710321113511412412 true]}:=by
 apply Subtype.mk
 conv=>rhs;reduce
def pN2:cQ:=zg Dg.1 0
def pO2:cQ:=zg Dg.1 1
def dC2:cQ:=zg Dg.1 2
def dD2:cQ:=zg Dg.1 3
def xX1:cQ:=zg Dg.1 4
def dE2:cQ:=zg Dg.1 5
def xY1:cQ:=zg Dg.1 6
def xZ1:cQ:=zg Dg.1 7
def dF2:cQ:=zg Dg.1 8
def pP2:cQ:=zg Dg.1 9
def pQ2:cQ:=zg Dg.1 10
def yA1:cQ:=zg Dg.1 11
def pR2:cQ:=zg Dg.1 12
def pS2:cQ:=zg Dg.1 13
def pT2:cQ:=zg Dg.1 14
def pU2:cQ:=zg Dg.1 15
def pV2:cQ:=zg Dg.1 16
def pW2:cQ:=zg Dg.1 17
def pX2:cQ:=zg Dg.1 18
def pY2:cQ:=zg Dg.1 19
def pZ2:cQ:=zg Dg.1 20
def qA2:cQ:=zg Dg.1 21
def qB2:cQ:=zg Dg.1 22
def qC2:cQ:=zg Dg.1 23
def Dh:{l:aA cQ//l=[aP 150 0x15022112511212212 true,aP 152 0x21a274562745527434a1241494822011132211103a3922010321311102c12011010101d12101111045111001 true,aP 153 0x2812211135111103511110351112122121 true,aP 154 0x1111001118124918221101111110101102e1201000212b2a29340001000111000111212212 true,aP 155 0x11003c422111351110110102d5222c5221011101f1201000211c1b1a300010011212212 true,aP 156 0x3a60321111116511011011110101111f12010002021c1b1a0400000011212212 true,aP 157 0x4c32211251101110011103511110351111035111103511110351112122121 true,aP 158 0x11111110011121232121 true,aP 159 0x11110111000100041187104001412412 true,aP 160 0x11110111000100041187104001412412 true,aP 161 0x1121222121 true,aP 162 0x1b32321111110101101c511103001141241211 true,aP 163 0x1111111111111111d18531040111111011101001d51110251111111010019511102511111005511181218121 true,aP 164 0x1d12111110 true,aP 165 0x1f121193ec98ff75193ec98ff7263ec98ff421c1e1b2201d182201c52201001001103ec998d01 true,aP 168 0x19d1211110111011030189120011011c1207b1c2211011111101111011a182235b1a2211011004e120111011111303d1200111035111012c12010111111512351201 true,aP 169 0x11111100011111101107511101c5111101100011111045111100011110351112122121 true,aP 170 0x13b3232483232111111175111101d511111011075111110110751111412341211 true,aP 171 0x1111422241211 true,aP 172 0x11b32321111116511110141241211 true,aP 173 0x1111422241211 true,aP 174 0x11b32321111116511110141241211 true,aP 175 0x11932321111100751110412341211 true,aP 176 0x1fe121101fc1fb2201101f9121001110111075111110105511101a51103011001be12101001bb12100118e6221111110107511101c51111012b5111003018812107c62211251111001110695f1864106a682205e1200011010311111004c12101111010651111035111001101001e121011103511512512011 true]}:=by
 apply Subtype.mk
 conv=>rhs;reduce
def qD2:cQ:=zg Dh.1 0
def qE2:cQ:=zg Dh.1 1
def qF2:cQ:=zg Dh.1 2
def qG2:cQ:=zg Dh.1 3
def qH2:cQ:=zg Dh.1 4
def qI2:cQ:=zg Dh.1 5
def dG2:cQ:=zg Dh.1 6
def dH2:cQ:=zg Dh.1 7
def qJ2:cQ:=zg Dh.1 8
def qK2:cQ:=zg Dh.1 9
def qL2:cQ:=zg Dh.1 10
def qM2:cQ:=zg Dh.1 11
def qN2:cQ:=zg Dh.1 12
def qO2:cQ:=zg Dh.1 13
def yB1:cQ:=zg Dh.1 14
def qP2:cQ:=zg Dh.1 15
def qQ2:cQ:=zg Dh.1 16
def qR2:cQ:=zg Dh.1 17
def qS2:cQ:=zg Dh.1 18
def qT2:cQ:=zg Dh.1 19
def qU2:cQ:=zg Dh.1 20
def qV2:cQ:=zg Dh.1 21
def qW2:cQ:=zg Dh.1 22
def qX2:cQ:=zg Dh.1 23
def Di:{l:aA cQ//l=[aP 177 0x11110111000100041187104001412412 true,aP 178 0x1111141223412 true,aP 179 0x111111140224121 true,aP 180 0x1100111103912011102d1210100006129281f2150001001101612612 true,aP 182 0x1114022412 true,aP 184 0x11121222121 true,aP 185 0x11111101010101131232222121 true,aP 186 0x111111111117621100111011051235422412 true,aP 187 0x11200 true,aP 189 0x11202211120222212 true,aP 190 0x11110111000100041187104001412412 true,aP 191 0x112111111110100100002cf2ce104001111011111111211111111011101110111010000010001dc1db1bc1bb18c18b76101a2881ff1dc1db1bc1bb18c18b1876101d001111011101110111010001bc1bb18c18b61071dc1db1bc1bb18c18b76101a001111011101110100018c18b1041bc1bb18c18b6107001111011102111101110100100010218c18b10400111101111111211111111011101001000281f3105584f281f4310180011110111021111011101001000102281f310500111100 true,aP 192 0x1a1210000000000 true,aP 193 0x11110011111101075111103511100011110351112122121 true,aP 194 0x1111121232121 true,aP 195 0x11110111000100041187104001412412 true,aP 196 0x11110111000100041187104001412412 true,aP 197 0x11110111000100041187104001412412 true,aP 198 0x11114531041010076212d12211104511110351101110110522254224121 true,aP 202 0x111001212212 true,aP 203 0x11111111a32219322101112122121 true,aP 204 0x1100011025111025111111011312232222121 true,aP 205 0x5812211135111011003d322111105511101010002122d2c130011000111100011110351112122121 true,aP 211 0x1111145310410101110111522254224121 true]}:=by
 apply Subtype.mk
 conv=>rhs;reduce
def dI2:cQ:=zg Di.1 0
def qY2:cQ:=zg Di.1 1
def qZ2:cQ:=zg Di.1 2
def rA2:cQ:=zg Di.1 3
def rB2:cQ:=zg Di.1 4
def dJ2:cQ:=zg Di.1 5
def dK2:cQ:=zg Di.1 6
def dL2:cQ:=zg Di.1 7
def dM2:cQ:=zg Di.1 8
def dN2:cQ:=zg Di.1 9
def rC2:cQ:=zg Di.1 10
def yC1:cQ:=zg Di.1 11
def rD2:cQ:=zg Di.1 12
def rE2:cQ:=zg Di.1 13
def rF2:cQ:=zg Di.1 14
def rG2:cQ:=zg Di.1 15
def rH2:cQ:=zg Di.1 16
def rI2:cQ:=zg Di.1 17
def rJ2:cQ:=zg Di.1 18
def rK2:cQ:=zg Di.1 19
def rL2:cQ:=zg Di.1 20
def rM2:cQ:=zg Di.1 21
def rN2:cQ:=zg Di.1 22
def rO2:cQ:=zg Di.1 23
def Dj:{l:aA cQ//l=[aP 212 0x12c31321111451111004511110045111002122121 true,aP 213 0x15022112511212212 true,aP 214 0x111111111101412341211 true,aP 215 0x11110001102511212212 true,aP 216 0x11b32321111116511110141241211 true,aP 217 0x1111132223121 true,aP 219 0x11110111000100041187104001412412 true,aP 220 0x11111106c6a2216b5e2211100111001000030011111100110001c51100318321051918321060100100018321050110 true,aP 229 0x111111111111120211011111120211001112021100 true,aP 231 0x11121222121 true,aP 232 0x1110110111014531040111111453104101011111001111045110014531040111100145310401110251151254224121 true,aP 233 0x1111111111000311876340001212212 true,aP 234 0x1111103b3a22111110011100003011003143030016121212212 true,aP 235 0x1710321113511412412 true,aP 236 0x1111110100110003221876340001212212 true,aP 237 0x1110010000100010111011412412 true,aP 243 0x171221111116511112122121 true,aP 244 0x11012531040117a1a22791a2210111111125310410101110110101110110125310403c422111104511118511111125310410101102b12101000032131f1e1d14000131232222121 true,aP 245 0x111212212 true,aP 247 0x11112f2d222e2a29322e28220111101f121010000311b1a1934000117121212212 true,aP 248 0x11111111111453104101011101111011100007543382f2e7050001111011453104101011105125422412 true,aP 249 0x111111111014531040111110110101000185433a3918105001011101145310410102962228622101105125422412 true,aP 250 0x111011110101110351101131232222121 true,aP 251 0x1100111000018e7221101111018511030011101055111110451111104511111001075111103511101045111039121010000412d2c2b6106000011144ac056610400110001102511412412 true]}:=by
 apply Subtype.mk
 conv=>rhs;reduce
def rP2:cQ:=zg Dj.1 0
def rQ2:cQ:=zg Dj.1 1
def rR2:cQ:=zg Dj.1 2
def rS2:cQ:=zg Dj.1 3
def rT2:cQ:=zg Dj.1 4
def rU2:cQ:=zg Dj.1 5
def dO2:cQ:=zg Dj.1 6
def yD1:cQ:=zg Dj.1 7
def dP2:cQ:=zg Dj.1 8
def rV2:cQ:=zg Dj.1 9
def rW2:cQ:=zg Dj.1 10
def rX2:cQ:=zg Dj.1 11
def rY2:cQ:=zg Dj.1 12
def rZ2:cQ:=zg Dj.1 13
def sA2:cQ:=zg Dj.1 14
def sB2:cQ:=zg Dj.1 15
def sC2:cQ:=zg Dj.1 16
def sD2:cQ:=zg Dj.1 17
def sE2:cQ:=zg Dj.1 18
def sF2:cQ:=zg Dj.1 19
def sG2:cQ:=zg Dj.1 20
def sH2:cQ:=zg Dj.1 21
def sI2:cQ:=zg Dj.1 22
def sJ2:cQ:=zg Dj.1 23
def zA8:{l:aA cQ//l=[aP 252 0x1111110001101001110111100011025117127622612 true,aP 253 0x111011001111010030107621d1918300111111100011011101111000110030110019187641a1918210601100291201107127622612 true,aP 254 0x1111010101131232222121 true,aP 255 0x111100003d422484221111110101951101d5110311038121110000111011111001a51110321221203121 true,aP 256 0x111112122121 true,aP 257 0x15022112511212212 true,aP 258 0x11111011010000111110110141241211 true,aP 259 0x111111011111101311000111111110131b1a19541611001e12010005421b1a195416000105125422412 true,aP 260 0x1111110111100411c1b43400111011112122121 true,aP 261 0x119213211111017511104124121 true,aP 262 0x1101111103010011020412 true]}:=by
 apply Subtype.mk
 conv=>rhs;reduce
def sK2:cQ:=zg zA8.1 0
def sL2:cQ:=zg zA8.1 1
def sM2:cQ:=zg zA8.1 2
def dQ2:cQ:=zg zA8.1 3
def sN2:cQ:=zg zA8.1 4
def sO2:cQ:=zg zA8.1 5
def sP2:cQ:=zg zA8.1 6
def sQ2:cQ:=zg zA8.1 7
def sR2:cQ:=zg zA8.1 8
def sS2:cQ:=zg zA8.1 9
def sT2:cQ:=zg zA8.1 10
end
noncomputable section
def pl:aA (aB cQ):=[none,none,none,some p3,some p4,none,some p6,some p7,some p8,some p9,some p10,some p11,some p12,some p13,some p14,none,none,none,some p18,some p19,some p20,some p21,some p22,some p23,some p24,some p25,some p26,some p27,some p28,some p29,some p30,some p31,none,some p33,some p34,some p35,some p36,some p37,none,none,some p40,some p41,some p42,some p43,some p44,some p45,some p46,some p47,some p48,some p49,some p50,some p51,some p52,some p53,some p54,some p55,some p56,some p57,some p58,some p59,some p60,some p61,some p62,some p63,some p64,some p65,some p66,some p67,some p68,none,none,some p71,some p72,some p73,some p74,some p75,some p76,some p77,some p78,some p79,some p80,some p81,some p82,some p83,some p84,some p85,some p86,some p87,some p88,some p89,some p90,some p91,some p92,some p93,some p94,some p95,some p96,some p97,some p98,some p99,some cZ2,some oU2,some oV2,some oW2,some oX2,some oY2,some oZ2,some pA2,some pB2,some pC2,some cY2,some oB2,some dA2,some pD2,some pE2,some pF2,some pG2,some pH2,some pI2,some dB2,some pJ2,some pK2,some pL2,some pM2,some oC2,some pN2,some pO2,some dC2,some dD2,none,some xX1,some dE2,some xY1,some xZ1,some dF2,some pP2,some pQ2,some yA1,some pR2,some pS2,some pT2,some pU2,some pV2,some pW2,some pX2,some pY2,some pZ2,some qA2,some qB2,some qC2,some qD2,some oD2,some qE2,some qF2,some qG2,some qH2,some qI2,some dG2,some dH2,some qJ2,some qK2,some qL2,some qM2,some qN2,some qO2,some yB1,some oE2,some oF2,some qP2,some qQ2,some qR2,some qS2,some qT2,some qU2,some qV2,some qW2,some qX2,some dI2,some qY2,some qZ2,some rA2,some oG2,some rB2,some xV1,some dJ2,some dK2,some dL2,some dM2,some xW1,some dN2,some rC2,some yC1,some rD2,some rE2,some rF2,some rG2,some rH2,some rI2,some rJ2,some oH2,some oI2,some oJ2,some rK2,some rL2,some rM2,some rN2,some oK2,none,none,none,some oL2,some rO2,some rP2,some rQ2,some rR2,some rS2,some rT2,some rU2,some oM2,some dO2,some yD1,none,none,none,none,none,none,none,none,some dP2,some oN2,some rV2,some rW2,some rX2,some rY2,some rZ2,some sA2,some sB2,none,none,none,none,none,some sC2,some sD2,some sE2,none,some sF2,some sG2,some sH2,some sI2,some sJ2,some sK2,some sL2,some sM2,some dQ2,some sN2,some sO2,some sP2,some sQ2,some sR2,some sS2,some sT2]
def Rq:aY1:=fun f=>(pl[f]?).join
def oA (f:Nat):Bool:=xN f [19,20,21,24,37,40,44,45,46,47,48,49,50,51,52,53,54,55,56,57,58,59,60,71,78,86,92,95,110,112,130,132,133,137,165,183,188,191,207,208,209,220,255]
def NW1 (f:Nat):Bool:=xN f [19,20,21,24,37,71,112,130,132,137,165,207,208,209]
def Lz (f:Nat):Bool:=xN f [19,20,21,24,37,71,130,165,207,208,209]
def clN:Nat->aB (Nat×Nat):=fun f=>bif Nat.beq f 207 then some (75,5)else bif Nat.beq f 208 then some (110,5)else bif Nat.beq f 209 then some (97,2)else none
def As:NB:=⟨NW1,Lz,yL clN⟩
def hW1 (f e:Nat):Bool:=xN f [38,39,69,70,129]&&Nat.beq e (match f with|38=>7|39=>2|69=>3|70=>3|129=>2|_=>0)
def dR2 (k:Int):YM:=⟨⟨0,3⟩,⟨4,4,⟨0,0,0,0,0,0⟩⟩,0,k,false,0,0,0,0,0,0,⟨#[]⟩,[],[⟨[],[⟨[⟨⟨0,4⟩,1,⟨0,0⟩,[⟨⟨6,-1,3⟩,false,0⟩],[],0,0,0,[],0,0⟩],[]⟩]⟩]⟩
def hY1:Y0:=⟨⟨#[]⟩,false,[⟨⟨0,1⟩,⟨#[]⟩,⟨1,2⟩,[⟨⟨0,2⟩,1⟩]⟩],[dR2 (-2)],[],[⟨0,4⟩]⟩
def Rr:Y0:=⟨⟨#[]⟩,false,[⟨⟨0,1⟩,⟨#[]⟩,⟨1,2⟩,[⟨⟨0,2⟩,1⟩]⟩],[dR2 6],[],[⟨0,4⟩]⟩
def nD {A:Type} (l:aA A):aB (aA A):=bif Nat.ble l.length 1073741824 then some l else none
def B40 (k:Bool):Hk:=fun f xs=>match xs with
 |[.is e rows]=>bif hW1 f e&&Nat.ble rows.length 1073741824 then some (.is e rows)else none
 |[]=>bif k&&Nat.beq f 5 then some (bv true)else none
 |_=>none
def okg {k:Bool} {d N:Nat} {ps:aA Nat} {a b:PC} (h:okL oA N ps a b=true):okG (Xd (B40 k) oA As Rq d).is N ps a b=some ():=by
 unfold okG;rw[show(Xd (B40 k) oA As Rq d).is=oA from Xy d,fJ3 h]
noncomputable abbrev OD (k:Bool) (d:Nat):Hk:=Od (B40 k) oA As Rq d
noncomputable abbrev XD (k:Bool) (d:Nat):NX:=Xd (B40 k) oA As Rq d
def od {k:Bool} {f:Nat} {fn:cQ} (hn:oA f=false) (h:Rq f=some fn) (a:fn.frz=true) {d:Nat} {xs:aA PV}:OD k (d+1) f xs=Gi (OD k d) (XD k d) fn xs some:=cO2 hn h a d xs
def oe {k:Bool} {f:Nat} {fn:cQ} {d:Nat} {xs:aA PV} {A:Type} {F:aB A} {e:A->PV} (h:(oA f,Rq f,fn.frz)=(false,some fn,true)) (hb:Gi (OD k d) (XD k d) fn xs some=F.map e):OD k (d+1) f xs=F.map e:=by
 simp only[gD3]at h;rw[od h.1 h.2.1 h.2.2];exact hb
def xd {k:Bool} {f:Nat} {fn:cQ} (h:Rq f=some fn) {d:Nat} {xs:aA PV} {hs:bA} {m:Nat} {nw:Bool}:gN (XD k (d+1)) f xs hs m nw=hA1 (OD k d) (XD k d) fn xs hs m (Ld hs nw m):=cP2 h d xs hs m _
def yd {kf:Bool} {k d:Nat} {xs:aA PV} {hs:bA} {m:Nat}:Fh (XD kf (d+1)) k xs hs m=nR1 (OD kf d) (XD kf d) k xs hs m (Ld hs false m):=rfl
def pO {k:Bool} (f d:Nat) {A:Type} (e:Nat) (c:A->aA PV) (l:aA A) (h1:oA f=false) (h2:Rq f=none) (a:hW1 f e=true):OD k d f [.is e (l.map c)]=(nD l).map fun l=>.is e (l.map c):=by
 rw[OD,Xz h1 h2];unfold nD;simp only[B40,a,jL3,gV3];cases Nat.ble l.length 1073741824<;>rfl
def hZ1 (d:Nat):OD true d 5 []=(some true).map fun y=>bv y:=by
 rw[OD,Xz rfl rfl];rfl
def uB {kf:Bool} (f d ty e:Nat) {A:Type} (c:A->aA PV) (l:aA A) (m:Nat) (h1:Rq f=none) (h2:clN f=some (ty,e)) (a:Nat.beq e e=true) (b:∀rows,Ld [] true m (.own m) [(m,.lst ty e true rows)] (m+1)=some (.own m,[(m,.lst ty e true rows)],m+1)):gN (XD kf (d+1)) f [.is e (l.map c)] [] m true=(nD l).map fun l=>(.own m,[(m,.lst ty e true (l.map c))],m+1):=by
 show(Xd (B40 kf) oA As Rq (d+1)).run f _ _ _ _=_
 rw[nW1 h1];simp only[As,yL,h2,fD3,a,jL3,gV3];unfold nD;cases Nat.ble l.length 1073741824;rfl;exact b _
def uC:okL oA 16 [7,8] Vb Vc=true:=by kernel_rfl
def pP:okL oA 22 [13,14] yN yO=true:=by kernel_rfl
end
end Go.P
namespace Go.P
open Go.Sim (Ex iV CK)
open K (I Q rq nq xq ck)
abbrev dM {A B:Type} (l:aA A) (i:Int) (t:A->aB B) (e:aB B):aB B:=if decide (i<(l.length:Int))=true then(bU l i).bind t else e
abbrev cL (l:aA YV) (s:Y0) (r:Int):bA:=[(2,.lst 119 3 false (I YV.g l)),(1,.box (ck s r (.own 2)))]
abbrev zLn {A:Type} (l:aA A):PV:=i64 (l.length:Int)
abbrev Gn (l:aA UInt8):PV:=.is 1 (List.map cR2 l)
abbrev oF (l:aA Int):PV:=.is 1 (List.map cI l)
abbrev kO (l:aA YE):PV:=.is 13 (List.map YE.g l)
abbrev mA (l:aA YW):PV:=.is 2 (List.map YW.g l)
abbrev jU (l:aA YC):PV:=.is 2 (List.map YC.g l)
abbrev Gp (l:aA YZ):PV:=.is 2 (List.map YZ.g l)
abbrev oL (l:aA YL):PV:=.is 2 (List.map YL.g l)
abbrev nE (l:aA YY):PV:=.is 2 (List.map YY.g l)
abbrev lN (l:aA YO):PV:=.is 2 (List.map YO.g l)
abbrev kC (l:aA YM):PV:=.is 22 (List.map YM.g l)
abbrev Au (l:aA YH):PV:=.is 3 (List.map YH.g l)
abbrev Av (l:aA YF):PV:=.is 3 (List.map YF.g l)
abbrev iS (l:aA YT):PV:=.is 3 (List.map YT.g l)
abbrev Hw (l:aA YV):PV:=.is 3 (List.map YV.g l)
abbrev iK (l:aA YU):PV:=.is 4 (List.map YU.g l)
abbrev kP (l:aA YD):PV:=.is 5 (List.map YD.g l)
abbrev jG (l:aA YB):PV:=.is 5 (List.map YB.g l)
abbrev Gq (l:aA YJ):PV:=.is 6 (List.map YJ.g l)
abbrev qC (l:aA YN):PV:=.is 7 (List.map YN.g l)
abbrev iA1 (x:YW):eT:=.box x.g
abbrev Gr (x:YG):eT:=.box x.g
abbrev bK1 (x:YE):eT:=.box x.g
abbrev yE1 (x:YZ):eT:=.box x.g
abbrev Ma (x:YL):eT:=.box x.g
abbrev Rs (x:YM):eT:=.box x.g
abbrev bL1 (x:YX):eT:=.box x.g
abbrev iB1 (x:YJ):eT:=.box x.g
abbrev bM1 (x:YH):eT:=.box x.g
abbrev bN1 (x:Y0):eT:=.box x.g
abbrev Gs (x:YP):eT:=.box x.g
abbrev Rt (x:YN):eT:=.box x.g
abbrev Mb (x:YY):eT:=.box x.g
abbrev Vd (x:YU):eT:=.box x.g
abbrev bO1 (x:YA):eT:=.box x.g
abbrev bP1 (x:YO):eT:=.box x.g
abbrev Kb (x:Y6):PV:=.agg x.g
abbrev Aw (x:Ar):PV:=.agg x.g
abbrev Cj (x:Y9):PV:=.agg x.g
abbrev uD (x:YW):PV:=.agg x.g
abbrev lF (x:YG):PV:=.agg x.g
abbrev Mc (x:YI):PV:=.agg x.g
abbrev eS (x:YE):PV:=.agg x.g
abbrev bQ1 (x:YD):PV:=.agg x.g
abbrev yP (x:YB):PV:=.agg x.g
abbrev Md (x:YZ):PV:=.agg x.g
abbrev eR (x:YL):PV:=.agg x.g
abbrev eF (x:YM):PV:=.agg x.g
abbrev Ax (x:lZ):PV:=.agg x.g
abbrev rJ (x:YX):PV:=.agg x.g
abbrev yQ (x:YJ):PV:=.agg x.g
abbrev fF (x:YH):PV:=.agg x.g
abbrev cV (x:Y0):PV:=.agg x.g
abbrev eY (x:YP):PV:=.agg x.g
abbrev lO (x:YQ):PV:=.agg x.g
abbrev dA (x:YS):PV:=.agg x.g
abbrev yR (x:YY):PV:=.agg x.g
abbrev pQ (x:YU):PV:=.agg x.g
abbrev Ay (x:YA):PV:=.agg x.g
abbrev iU (x:YO):PV:=.agg x.g
abbrev dJ (x:YK):PV:=.ip x.g
abbrev Kc (x:YE):PV:=.ip x.g
abbrev yS (x:YB):PV:=.ip x.g
abbrev oO (x:YL):PV:=.ip x.g
abbrev mM (x:YM):PV:=.ip x.g
abbrev Ru (x:YJ):PV:=.ip x.g
abbrev bR1 (x:Y0):PV:=.ip x.g
abbrev Cc (x:YN):PV:=.ip x.g
abbrev Kd (x:YF):PV:=.ip x.g
abbrev bQ (n k:Nat):Nat×PV:=(n,.ref k 0)
abbrev aY (n:Nat) (x:Int):Nat×PV:=(n,i64 x)
abbrev cP {A:Type} (n:Nat) (l:aA A):Nat×PV:=(n,zLn l)
abbrev cK (n:Nat) (l:aA YW):Nat×PV:=(n,mA l)
abbrev oB (n:Nat) (l:aA YC):Nat×PV:=(n,jU l)
abbrev gI (n:Nat) (l:aA YE):Nat×PV:=(n,kO l)
abbrev sH (n:Nat) (l:aA YD):Nat×PV:=(n,kP l)
abbrev nJ (n:Nat) (l:aA YB):Nat×PV:=(n,jG l)
abbrev yT (n:Nat) (l:aA YZ):Nat×PV:=(n,Gp l)
abbrev vP (n:Nat) (l:aA YL):Nat×PV:=(n,oL l)
abbrev aX (n:Nat) (l:aA YM):Nat×PV:=(n,kC l)
abbrev jD (n:Nat) (l:aA YJ):Nat×PV:=(n,Gq l)
abbrev Gt (n:Nat) (l:aA YH):Nat×PV:=(n,Au l)
abbrev kH (n:Nat) (l:aA YN):Nat×PV:=(n,qC l)
abbrev wN (n:Nat) (l:aA YF):Nat×PV:=(n,Av l)
abbrev kQ (n:Nat) (l:aA YY):Nat×PV:=(n,nE l)
abbrev pR (n:Nat) (l:aA YT):Nat×PV:=(n,iS l)
abbrev jH (n:Nat) (l:aA YU):Nat×PV:=(n,iK l)
abbrev dV (n:Nat) (l:aA YO):Nat×PV:=(n,lN l)
abbrev bS1 (n:Nat) (l:aA UInt8):Nat×PV:=(n,Gn l)
abbrev uE (n:Nat) (l:aA Int):Nat×PV:=(n,oF l)
abbrev dQ (n:Nat) (x:YW):Nat×eT:=(n,iA1 x)
abbrev mE (n:Nat) (x:YG):Nat×eT:=(n,Gr x)
abbrev gB (n:Nat) (x:YE):Nat×eT:=(n,bK1 x)
abbrev dO (n:Nat) (x:YZ):Nat×eT:=(n,yE1 x)
abbrev cU (n:Nat) (x:YL):Nat×eT:=(n,Ma x)
abbrev aV (n:Nat) (x:YM):Nat×eT:=(n,Rs x)
abbrev sI (n:Nat) (x:YX):Nat×eT:=(n,bL1 x)
abbrev Az (n:Nat) (x:YJ):Nat×eT:=(n,iB1 x)
abbrev pS (n:Nat) (x:YH):Nat×eT:=(n,bM1 x)
abbrev aJ (n:Nat) (x:Y0):Nat×eT:=(n,bN1 x)
abbrev bM (n:Nat) (x:YP):Nat×eT:=(n,Gs x)
abbrev yU (n:Nat) (x:YN):Nat×eT:=(n,Rt x)
abbrev fA (n:Nat) (x:YY):Nat×eT:=(n,Mb x)
abbrev jI (n:Nat) (x:YU):Nat×eT:=(n,Vd x)
abbrev Gu (n:Nat) (x:YA):Nat×eT:=(n,bO1 x)
abbrev dI (n:Nat) (x:YO):Nat×eT:=(n,bP1 x)
abbrev Sx (n:Nat):Int⊕Unit->Ex×Sw:=fun|.inl v=>rq [aY n v] []|.inr _=>xq 0 [] []
abbrev qS:aA PV:=[.v (.string (⟨#[]⟩:ByteArray)),bv false,.v (.slice none 0 0),.v (.slice none 0 0),.v (.slice none 0 0),.v (.slice none 0 0)]
abbrev wO (x:Y0) (w:Bool) (a b:Nat) (l:aA YN) (m:aA YZ):aA PV:=[.v (.string x.jJ),bv w,.own a,.own b,qC l,Gp m]
abbrev zMr (x:YM) (k:Nat):aA PV:=[i64 x.ID.gJ,i64 x.ID.dE,i64 x.dK.gS,i64 x.dK.Unit,i64 x.dK.bY.c0,i64 x.dK.bY.c1,i64 x.dK.bY.c2,i64 x.dK.bY.c3,i64 x.dK.bY.c4,i64 x.dK.bY.c5,i64 x.gQ,i64 x.eM,bv x.cN,i64 x.bN,i64 x.bS,i64 x.lU,i64 x.fL,i64 x.jN,i64 x.jY,.v (.string x.cW),iS x.fR,.own k]
noncomputable abbrev Cd:Nat×eT:=(4,.loop 16 [bQ 3 1] [7,8] Vb Vc false none)
noncomputable abbrev Ce:Nat×eT:=(5,.loop 22 [bQ 3 1,bQ 4 2,bQ 5 3] [13,14] yN yO false none)
noncomputable abbrev zQ2:Nat×eT:=(5,.loop 22 [bQ 3 1,bQ 4 2,bQ 5 3] [13,14] yN yO false (some .ret))
abbrev dS2:Nat×eT:=(1,.box [i64 0,i64 0,i64 0,i64 0,i64 0,.v (.slice none 0 0),.v (.slice none 0 0),i64 0,i64 0,i64 0,.v (.slice none 0 0),i64 0,i64 0])
abbrev oG1:Nat×eT:=(2,.box [bv false,i64 0,i64 0,i64 0,bv false,i64 0])
abbrev oH1:Nat×eT:=(3,.box [.undef,.undef,.undef,.undef,.undef,.undef])
abbrev sS:Nat×eT:=(6,.box [.fn 41 [] [.ref 3 0,.ref 4 0]])
abbrev bU1:Nat×eT:=(50,.box [.undef,.undef])
abbrev bV1:Nat×eT:=(2,.box [i64 0,i64 0])
def ig {α A B:Type} {f:A->aA PV} {l:aA A} {i:Int} {b:Bool} {K:aA PV->aB α} {F:A->aB B} {Y:aB α} {FY:aB B} {enc:B->α} (hk:∀y,K (f y)=(F y).map enc) (hy:Y=FY.map enc:=by rfl):Sv b (cM (qL (l.map f) i) K) Y=(if b then(bU l i).bind F else FY).map enc:=io (bo rg hk) hy
variable {k:Bool} (d:Nat)
def iC1 (a:Int):aB Bool:=
 some ((decide (a<32))||(a==127))
def dT2 a:OD k (d+1) 135 [.v (.int .u8 a)]=(iC1 a).map bv:=oe rfl<|bz (kB rfl)
def oI1 (b:aA UInt8):aB Int:=
 (aS (E:=Int⊕Unit) (fun(a:Int)=>dM b a (fun c=>(iC1 (c.toNat:Int)).bind fun d=>if d then some (.inr (.inl a))else some (.inl (bF (a+1)))) (some (.inr (.inr ())))) bK 0).bind fun e=>(match e with|.inl x7=>some x7|.inr _=>some (-1))
def dU2 a:OD k (d+2) 190 [Gn a,.fn 135 [] []]=(oI1 a).map i64:=oe rfl<|bl<|bo (zLo (fun b=>(Q [bS1 0 a,(1,.fn 135 [] []),cP 7 a,aY 8 b] [])) (Sx 4) (fun b=>ig fun c=>bo (dT2 d (c.toNat:Int)) fun e=>io) 0) fun|.inl f=>rfl|.inr _=>rfl
def bW1 (a:aA UInt8):aB Bool:=
 (oI1 a).bind fun b=>some (decide (b>=0))
def dV2 a:OD k (d+3) 136 [Gn a,.fn 135 [] []]=(bW1 a).map bv:=oe rfl<|bo (dU2 d a)
def F79 (a:ByteArray):aB Bool:=
 (if decide ((a.size:Int)<=256)then(bW1 a.data.toList).bind fun b=>some (!b)else some false:aB Bool).bind fun c=>some c
def yF1 a:OD k (d+4) 79 [.v (.string a)]=(F79 a).map bv:=oe rfl<|be (io<|bo (dV2 d a.data.toList))
def Hl (a b c:Int):aB Bool:=
 some ((decide (a>=b))&&(decide (a<=c)))
def uF a b c:OD k (d+1) 80 [i64 a,i64 b,i64 c]=(Hl a b c).map bv:=oe rfl<|bz (jC rfl)
def F81 (a:YL):aB Int:=
 if(((decide (a.eC<(-77)))||(decide (a.eC>77)))||(decide (a.bC<(-140))))||(decide (a.bC>140))then some 2 else some 0
def oJ1 a:OD k (d+1) 81 [eR a]=(F81 a).map i64:=oe rfl<|bz (kB rfl)<|bz (kB rfl)<|bz (kB rfl) io
def mP (b:Bool) (c:YZ) (a:aA YV) (g:Y0) (d:Int):aB (aA YV):=
 (if b then(lM false a [YV.mk d c]).bind fun e=>some e else some a:aB (aA YV)).bind fun f=>some f
def lG h b f c a:gN (XD k (d+1)) 78 [.ref 1 0,bv h,Md b] (cL f c a) 3 false=(mP h b f c a).map (fun(j:aA YV)=>(.tup [],cL j c a,0)):=by rw[xd (fn:=p78) rfl];exact bo (e:=(fun(i:aA YV)=>(nq [] (dO 3 b::cL i c a)))) (io<|bo (dN false YV.g f [YV.mk a b]))
def Me (G:aA YV) (a:Y0) (u:Int):aB (aA YV):=
 (aS (fun(⟨e,f⟩:Int×(aA YV))=>dM a.aU e (fun b=>(F79 b.oP).bind fun n=>(if !n then some true else(Hl (b.cO.length:Int) 1 4).bind fun o=>some (!o):aB Bool).bind fun p=>(if p then some true else(F81 b.bG).bind fun q=>some (q !=0):aB Bool).bind fun r=>(mP r b.ID f a u).bind fun s=>some (.inl (bF (e+1),s))) (some (.inr f))) bK (0,G)).bind fun t=>(aS (fun(⟨g,h⟩:Int×(aA YV))=>dM a.aF g (fun c=>(F79 c.cW).bind fun v=>(aS (fun(⟨i,j⟩:Bool×Int)=>dM c.aO j (fun d=>(aS (fun(⟨k,l⟩:Bool×Int)=>dM d.aT l (fun m=>some (.inl (((k||(decide ((m.aW.length:Int)>128)))||(decide ((m.cT.length:Int)>16))),bF (l+1)))) (some (.inr k))) bK (((i||(decide ((d.iI.length:Int)>64)))||(decide ((d.aT.length:Int)>2))),0)).bind fun w=>some (.inl (w,bF (j+1)))) (some (.inr i))) bK (((!v)||(decide ((c.fR.length:Int)>64))),0)).bind fun x=>(mP x c.ID h a u).bind fun y=>some (.inl (bF (g+1),y))) (some (.inr h))) bK (0,t)).bind fun z=>(F79 a.jJ).bind fun A=>(if !A then some true else(Hl (a.aU.length:Int) 1 32).bind fun B=>some (!B):aB Bool).bind fun C=>(if C then some true else(Hl (a.aF.length:Int) 1 1024).bind fun D=>some (!D):aB Bool).bind fun E=>(mP ((E||(decide ((a.bT.length:Int)>4096)))||(decide ((a.kI.length:Int)>100))) (YZ.mk 0 0) z a u).bind fun F=>some F
def dW2 (t:aA YV) (a:Y0) (e:Int):gN (XD k (d+5)) 44 [.ref 1 0] (cL t a e) 3 false=(Me t a e).map (fun(x:aA YV)=>(.tup [],cL x a e,0)):=by
 rw[xd (fn:=p44) rfl];refine bl ?_;refine bo (zLo (S:=Int×(aA YV)) (fun⟨p,j⟩=>(Q [bQ 0 1,jD 15 a.aU,cP 16 a.aU,aY 17 p] (cL j a e))) (fun(l:aA YV)=>(xq 0 [bQ 0 1] (cL l a e))) (fun⟨p,j⟩=>?_) (0,t)) fun l=>?_;refine ig fun h=>?_;refine bo (yF1 d h.oP) fun y=>?_;refine be ?_ fun A=>?_;refine iy ?_;refine bl ?_;refine bo (uF (d+3) (h.cO.length:Int) 1 4) fun z=>?_;rfl;refine be ?_ fun u=>?_;refine iy ?_;refine bo (oJ1 (d+3) h.bG) fun B=>?_;rfl;refine bo (lG (d+3) u h.ID j a e) fun C=>?_;rfl;refine bl ?_;refine bo (zLo (S:=Int×(aA YV)) (fun⟨f,c⟩=>(Q [bQ 0 1,aX 47 a.aF,cP 48 a.aF,aY 49 f] (cL c a e))) (fun(o:aA YV)=>(xq 2 [bQ 0 1] (cL o a e))) (fun⟨f,c⟩=>?_) (0,l)) fun o=>?_;refine ig fun b=>?_;refine bo (yF1 d b.cW) fun v=>?_;refine bz (kB (bz lm rfl)) ?_;refine bl ?_;refine bo (zLo (S:=Bool×Int) (fun⟨m,i⟩=>(Q [bQ 0 1,bQ 5 3,(6,bv m),aX 47 a.aF,cP 48 a.aF,aY 49 f,cK 64 b.aO,cP 65 b.aO,aY 66 i] (aV 3 b::cL c a e))) (fun(n:Bool)=>(xq 4 [bQ 0 1,bQ 5 3,(6,bv n),aX 47 a.aF,cP 48 a.aF,aY 49 f] (aV 3 b::cL c a e))) (fun⟨m,i⟩=>?_) (((!v)||(decide ((b.fR.length:Int)>64))),0)) fun n=>?_;refine ig fun g=>?_;refine bz (kB (bz lm rfl)) ?_;refine bz (kB (bz lm rfl)) ?_;refine bl ?_;refine bo (zLo (S:=Bool×Int) (fun⟨q,r⟩=>(Q [bQ 0 1,bQ 5 3,(6,bv q),aX 47 a.aF,cP 48 a.aF,aY 49 f,cK 64 b.aO,cP 65 b.aO,aY 66 i,dV 84 g.aT,cP 85 g.aT,aY 86 r] (dQ 4 g::aV 3 b::cL c a e))) (fun(s:Bool)=>(xq 6 [bQ 0 1,bQ 5 3,(6,bv s),aX 47 a.aF,cP 48 a.aF,aY 49 f,cK 64 b.aO,cP 65 b.aO,aY 66 i] (dQ 4 g::aV 3 b::cL c a e))) (fun⟨q,r⟩=>?_) (((m||(decide ((g.iI.length:Int)>64)))||(decide ((g.aT.length:Int)>2))),0)) fun s=>?_;refine ig fun D=>?_;refine bz (kB (bz lm rfl)) ?_;refine bz (kB (bz lm rfl)) ?_;rfl;rfl;refine bo (lG (d+3) n b.ID c a e) fun E=>?_;rfl;refine bo (yF1 d a.jJ) fun F=>?_;refine be ?_ fun H=>?_;refine iy ?_;refine bl ?_;refine bo (uF (d+3) (a.aU.length:Int) 1 32) fun G=>?_;rfl;refine be ?_ fun w=>?_;refine iy ?_;refine bl ?_;refine bo (uF (d+3) (a.aF.length:Int) 1 1024) fun J=>?_;rfl;refine bz (kB (bz lm rfl)) ?_;refine bz (kB (bz lm rfl)) ?_;refine bo (lG (d+3) ((w||(decide ((a.bT.length:Int)>4096)))||(decide ((a.kI.length:Int)>100))) (YZ.mk 0 0) o a e) fun K=>?_;rfl
def Ye (a:Y0):aB Unit:=
 some ()
def yG1 a:gN (XD k (d+1)) 137 [.ref 0 0] [aJ 0 a] 3 true=(Ye a).map (fun(_:Unit)=>(.fn 191 [] [.ref 3 0],[(3,.box [.ref 0 0]),aJ 0 a],4)):=by rw[xd (fn:=yA1) rfl];exact rfl
def Mf (d e:Int) (f g:Int) (h i j:Int) (b:YJ) (c:aA YZ):aB (aA YZ):=
 (lM false c [b.ID]).bind fun a=>some a
def oK1 e f h i j l m b c:Fh (XD k (d+1)) 4 [.agg [i64 e,i64 f,i64 h,i64 i,i64 j,i64 l,i64 m],Ru b] [Cd,(2,.lst 36 2 false (I YZ.g c)),(1,.box [.own 2])] 5=(Mf e f h i j l m b c).map (fun(a:aA YZ)=>(bv true,[Cd,(2,.lst 36 2 false (I YZ.g a)),(1,.box [.own 2])],0)):=by rw[yd];exact bz (okg uC)<|bo (dN false YZ.g c [b.ID])
def yV (d e:Int) (f g:Int) (h i j:Int) (b:YF) (c:aA YZ):aB (aA YZ):=
 (lM false c [b.ID]).bind fun a=>some a
def bY1 e f h i j l m b c:Fh (XD k (d+1)) 4 [.agg [i64 e,i64 f,i64 h,i64 i,i64 j,i64 l,i64 m],Kd b] [Cd,(2,.lst 36 2 false (I YZ.g c)),(1,.box [.own 2])] 5=(yV e f h i j l m b c).map (fun(a:aA YZ)=>(bv true,[Cd,(2,.lst 36 2 false (I YZ.g a)),(1,.box [.own 2])],0)):=by rw[yd];exact bz (okg uC)<|bo (dN false YZ.g c [b.ID])
def yW (d e:Int) (f g:Int) (h i j:Int) (b:YM) (c:aA YZ):aB (aA YZ):=
 (lM false c [b.ID]).bind fun a=>some a
def bZ1 e f h i j l m b c:Fh (XD k (d+1)) 4 [.agg [i64 e,i64 f,i64 h,i64 i,i64 j,i64 l,i64 m],mM b] [Cd,(2,.lst 36 2 false (I YZ.g c)),(1,.box [.own 2])] 5=(yW e f h i j l m b c).map (fun(a:aA YZ)=>(bv true,[Cd,(2,.lst 36 2 false (I YZ.g a)),(1,.box [.own 2])],0)):=by rw[yd];exact bz (okg uC)<|bo (dN false YZ.g c [b.ID])
def yX (d e:Int) (f g:Int) (h i j:Int) (b:YE) (c:aA YZ):aB (aA YZ):=
 (lM false c [b.ID]).bind fun a=>some a
def cA1 e f h i j l m b c:Fh (XD k (d+1)) 4 [.agg [i64 e,i64 f,i64 h,i64 i,i64 j,i64 l,i64 m],Kc b] [Cd,(2,.lst 36 2 false (I YZ.g c)),(1,.box [.own 2])] 5=(yX e f h i j l m b c).map (fun(a:aA YZ)=>(bv true,[Cd,(2,.lst 36 2 false (I YZ.g a)),(1,.box [.own 2])],0)):=by rw[yd];exact bz (okg uC)<|bo (dN false YZ.g c [b.ID])
def yY (d e:Int) (f g:Int) (h i j:Int) (b:YN) (c:aA YZ):aB (aA YZ):=
 (lM false c [b.ID]).bind fun a=>some a
def cB1 e f h i j l m b c:Fh (XD k (d+1)) 4 [.agg [i64 e,i64 f,i64 h,i64 i,i64 j,i64 l,i64 m],Cc b] [Cd,(2,.lst 36 2 false (I YZ.g c)),(1,.box [.own 2])] 5=(yY e f h i j l m b c).map (fun(a:aA YZ)=>(bv true,[Cd,(2,.lst 36 2 false (I YZ.g a)),(1,.box [.own 2])],0)):=by rw[yd];exact bz (okg uC)<|bo (dN false YZ.g c [b.ID])
def Yf (g:Y0) (W:aA YZ):aB (aA YZ):=
 (aS (fun(⟨L,e,x⟩:Int×Int×(aA YZ))=>dM g.aU e (fun M=>(Mf 1 e 0 0 0 0 0 M x).bind fun N=>(bU g.aU e).bind fun O=>(aS (fun(⟨m,n,K⟩:Int×Int×(aA YZ))=>if decide (n<(O.cO.length:Int))then(bU g.aU e).bind fun P=>(bU P.cO n).bind fun R=>(yV 2 0 m 0 0 0 0 R K).bind fun S=>some (.inl (bF (m+1),bF (n+1),S))else some (.inr (m,K))) bK (L,0,N)).bind fun⟨T,U⟩=>some (.inl (T,bF (e+1),U))) (some (.inr x))) bK (0,0,W)).bind fun V=>(aS (fun(⟨a,h⟩:Int×(aA YZ))=>dM g.aF a (fun o=>(yW 3 0 0 a 0 0 0 o h).bind fun p=>(bU g.aF a).bind fun q=>(aS (fun(⟨b,i⟩:Int×(aA YZ))=>if decide (b<(q.aO.length:Int))then(bU g.aF a).bind fun r=>(bU r.aO b).bind fun s=>(aS (fun(⟨c,j⟩:Int×(aA YZ))=>if decide (c<(s.aT.length:Int))then(bU g.aF a).bind fun t=>(bU t.aO b).bind fun u=>(bU u.aT c).bind fun v=>(aS (fun(⟨d,k⟩:Int×(aA YZ))=>if decide (d<(v.aW.length:Int))then(bU g.aF a).bind fun w=>(bU w.aO b).bind fun y=>(bU y.aT c).bind fun z=>(bU z.aW d).bind fun A=>(yX 4 0 b a c d 0 A k).bind fun B=>some (.inl (bF (d+1),B))else some (.inr k)) bK (0,j)).bind fun C=>some (.inl (bF (c+1),C))else some (.inr j)) bK (0,i)).bind fun D=>some (.inl (bF (b+1),D))else some (.inr i)) bK (0,p)).bind fun E=>some (.inl (bF (a+1),E))) (some (.inr h))) bK (0,V)).bind fun F=>(aS (fun(⟨f,l⟩:Int×(aA YZ))=>dM g.bT f (fun G=>(yY 5 0 0 0 0 0 f G l).bind fun H=>some (.inl (bF (f+1),H))) (some (.inr l))) bK (0,F)).bind fun J=>some J
def yH1 (c:Y0) (L:aA YZ):gN (XD k (d+2)) 191 [.yld 4,.ref 3 0] [Cd,(3,.box [.ref 0 0]),aJ 0 c,(2,.lst 36 2 false (I YZ.g L)),(1,.box [.own 2])] 5 false=(Yf c L).map (fun(G:aA YZ)=>(.tup [],[Cd,(3,.box [.ref 0 0]),aJ 0 c,(2,.lst 36 2 false (I YZ.g G)),(1,.box [.own 2])],0)):=by
 rw[xd (fn:=yC1) rfl];refine bl ?_;refine bo (zLo (S:=Int×Int×(aA YZ)) (fun⟨w,h,x⟩=>(Q [(0,.yld 4),bQ 1 3,aY 3 w,cP 15 c.aU,aY 16 h] [Cd,(3,.box [.ref 0 0]),aJ 0 c,(2,.lst 36 2 false (I YZ.g x)),(1,.box [.own 2])])) (fun(A:aA YZ)=>(xq 0 [(0,.yld 4),bQ 1 3] [Cd,(3,.box [.ref 0 0]),aJ 0 c,(2,.lst 36 2 false (I YZ.g A)),(1,.box [.own 2])])) (fun⟨w,h,x⟩=>?_) (0,0,L)) fun A=>?_;refine ig fun M=>?_;refine bo (oK1 d 1 h 0 0 0 0 0 M x) fun N=>?_;refine bo rg fun O=>?_;refine bl ?_;refine bo (zLo (S:=Int×Int×(aA YZ)) (fun⟨y,H,z⟩=>(Q [(0,.yld 4),bQ 1 3,aY 3 y,aY 4 h,cP 15 c.aU,aY 16 h,cP 39 O.cO,aY 40 H] [Cd,(2,.lst 36 2 false (I YZ.g z)),(1,.box [.own 2]),(3,.box [.ref 0 0]),aJ 0 c])) (fun(⟨J,K⟩:Int×(aA YZ))=>(xq 2 [(0,.yld 4),bQ 1 3,aY 3 J,cP 15 c.aU,aY 16 h] [Cd,(2,.lst 36 2 false (I YZ.g K)),(1,.box [.own 2]),(3,.box [.ref 0 0]),aJ 0 c])) (fun⟨y,H,z⟩=>?_) (w,0,N)) fun⟨J,K⟩=>?_;refine ig fun b0=>?_;refine bo rg fun P=>?_;refine bo (bY1 d 2 0 y 0 0 0 0 P z) fun b4=>?_;rfl;rfl;refine bl ?_;refine bo (zLo (S:=Int×(aA YZ)) (fun⟨a,i⟩=>(Q [(0,.yld 4),bQ 1 3,cP 67 c.aF,aY 68 a] [Cd,(3,.box [.ref 0 0]),aJ 0 c,(2,.lst 36 2 false (I YZ.g i)),(1,.box [.own 2])])) (fun(p:aA YZ)=>(xq 4 [(0,.yld 4),bQ 1 3] [Cd,(3,.box [.ref 0 0]),aJ 0 c,(2,.lst 36 2 false (I YZ.g p)),(1,.box [.own 2])])) (fun⟨a,i⟩=>?_) (0,A)) fun p=>?_;refine ig fun B=>?_;refine bo (bZ1 d 3 0 0 a 0 0 0 B i) fun C=>?_;refine bo rg fun f=>?_;refine bl ?_;refine bo (zLo (S:=Int×(aA YZ)) (fun⟨b,j⟩=>(Q [(0,.yld 4),bQ 1 3,aY 6 a,cP 67 c.aF,aY 68 a,cP 91 f.aO,aY 92 b] [Cd,(2,.lst 36 2 false (I YZ.g j)),(1,.box [.own 2]),(3,.box [.ref 0 0]),aJ 0 c])) (fun(u:aA YZ)=>(xq 6 [(0,.yld 4),bQ 1 3,cP 67 c.aF,aY 68 a] [Cd,(2,.lst 36 2 false (I YZ.g u)),(1,.box [.own 2]),(3,.box [.ref 0 0]),aJ 0 c])) (fun⟨b,j⟩=>?_) (0,C)) fun u=>?_;refine ig fun R=>?_;refine bo rg fun l=>?_;refine bl ?_;refine bo (zLo (S:=Int×(aA YZ)) (fun⟨e,m⟩=>(Q [(0,.yld 4),bQ 1 3,aY 6 a,aY 7 b,cP 67 c.aF,aY 68 a,cP 91 f.aO,aY 92 b,cP 107 l.aT,aY 108 e] [Cd,(2,.lst 36 2 false (I YZ.g m)),(1,.box [.own 2]),(3,.box [.ref 0 0]),aJ 0 c])) (fun(t:aA YZ)=>(xq 8 [(0,.yld 4),bQ 1 3,aY 6 a,cP 67 c.aF,aY 68 a,cP 91 f.aO,aY 92 b] [Cd,(2,.lst 36 2 false (I YZ.g t)),(1,.box [.own 2]),(3,.box [.ref 0 0]),aJ 0 c])) (fun⟨e,m⟩=>?_) (0,j)) fun t=>?_;refine ig fun T=>?_;refine bo rg fun U=>?_;refine bo rg fun D=>?_;refine bl ?_;refine bo (zLo (S:=Int×(aA YZ)) (fun⟨n,o⟩=>(Q [(0,.yld 4),bQ 1 3,aY 6 a,aY 7 b,aY 8 e,cP 67 c.aF,aY 68 a,cP 91 f.aO,aY 92 b,cP 107 l.aT,aY 108 e,cP 127 D.aW,aY 128 n] [Cd,(2,.lst 36 2 false (I YZ.g o)),(1,.box [.own 2]),(3,.box [.ref 0 0]),aJ 0 c])) (fun(s:aA YZ)=>(xq 10 [(0,.yld 4),bQ 1 3,aY 6 a,aY 7 b,cP 67 c.aF,aY 68 a,cP 91 f.aO,aY 92 b,cP 107 l.aT,aY 108 e] [Cd,(2,.lst 36 2 false (I YZ.g s)),(1,.box [.own 2]),(3,.box [.ref 0 0]),aJ 0 c])) (fun⟨n,o⟩=>?_) (0,m)) fun s=>?_;refine ig fun V=>?_;refine bo rg fun W=>?_;refine bo rg fun X=>?_;refine bo rg fun E=>?_;refine bo (cA1 d 4 0 b a e n 0 E o) fun Y=>?_;rfl;rfl;rfl;rfl;refine bl ?_;refine bo (zLo (S:=Int×(aA YZ)) (fun⟨q,r⟩=>(Q [(0,.yld 4),bQ 1 3,cP 166 c.bT,aY 167 q] [Cd,(3,.box [.ref 0 0]),aJ 0 c,(2,.lst 36 2 false (I YZ.g r)),(1,.box [.own 2])])) (fun(v:aA YZ)=>(xq 12 [] [Cd,(3,.box [.ref 0 0]),aJ 0 c,(2,.lst 36 2 false (I YZ.g v)),(1,.box [.own 2])])) (fun⟨q,r⟩=>?_) (0,p)) fun v=>?_;refine ig fun F=>?_;refine bo (cB1 d 5 0 0 0 0 0 q F r) fun Z=>?_;rfl;rfl
def F82 (a:Y0):aB (aA YZ):=
 (Ye a).bind fun _=>(Yf a []).bind fun b=>some b
def sU2 a:OD k (d+3) 82 [cV a]=(F82 a).map (fun b=>Gp b):=oe rfl<|bo (yG1 (d+1) a) fun _=>bo (yH1 d a [])
def F83 (a:YZ):aB Bool:=
 (Hl a.gJ 0 99).bind fun b=>(if b then(Hl a.dE 1 1073741824).bind fun c=>some c else some false:aB Bool).bind fun d=>some d
def dY2 a:OD k (d+2) 83 [Md a]=(F83 a).map bv:=oe rfl<|bo (uF d a.gJ 0 99) fun b=>be (io<|bo (uF d a.dE 1 1073741824))
def F84 (c:Y0) (d:Int):aB Int:=
 (aS (E:=Int⊕Unit) (fun(a:Int)=>dM c.kI a (fun b=>if b.gJ==d then some (.inr (.inl b.dE))else some (.inl (bF (a+1)))) (some (.inr (.inr ())))) bK 0).bind fun e=>(match e with|.inl x6=>some x6|.inr _=>some 0)
def sV2 a b:OD k (d+1) 84 [cV a,i64 b]=(F84 a b).map i64:=oe rfl<|bl<|bo (zLo (fun c=>(Q [aY 1 b,yT 8 a.kI,cP 9 a.kI,aY 10 c] [aJ 0 a])) (fun|.inl e=>(rq [aY 4 e] [aJ 0 a])|.inr _=>(xq 0 [] [aJ 0 a])) (fun c=>ig fun f=>io) 0) fun|.inl e=>rfl|.inr _=>rfl
def iD1 (v:aA YV) (d:Y0) (u:Int):aB (aA YV):=
 (F82 d).bind fun x=>(aS (fun(⟨e,c,f⟩:Int×(aA (YZ×Bool))×(aA YV))=>dM x e (fun a=>(F83 a).bind fun i=>(if(!i)||(nZ1 c a false)then some true else(F84 d a.gJ).bind fun j=>some (decide (a.dE>j)):aB Bool).bind fun k=>(mP k a f d u).bind fun l=>some (.inl (bF (e+1),bG1 c a true,l))) (some (.inr (c,f)))) bK (0,[],v)).bind fun⟨w,m⟩=>(aS (fun(⟨g,b⟩:Bool×Int)=>dM d.kI b (fun h=>(if g then some true else(F83 h).bind fun n=>some (!n):aB Bool).bind fun o=>(if o then some true else(if decide (b>0)then(bU d.kI (bF (b-1))).bind fun p=>some (decide (h.gJ<=p.gJ))else some false:aB Bool).bind fun q=>some q:aB Bool).bind fun r=>some (.inl (r,bF (b+1)))) (some (.inr g))) bK (false,0)).bind fun s=>(mP s (YZ.mk 0 0) m d u).bind fun t=>some t
def dZ2 (o:aA YV) (a:Y0) (h:Int):gN (XD k (d+4)) 45 [.ref 1 0] (cL o a h) 3 false=(iD1 o a h).map (fun(r:aA YV)=>(.tup [],cL r a h,0)):=by
 rw[xd (fn:=p45) rfl];refine bo (sU2 d a) fun s=>?_;refine bl ?_;refine bo (zLo (S:=Int×(aA (YZ×Bool))×(aA YV)) (fun⟨l,e,i⟩=>(Q [bQ 0 1,(2,.map 3),yT 13 s,cP 14 s,aY 15 l] ((3,.mp (I (kS (eA YZ.g) bv) e))::cL i a h))) (fun(⟨f,c⟩:(aA (YZ×Bool))×(aA YV))=>(xq 0 [bQ 0 1] ((3,.mp (I (kS (eA YZ.g) bv) f))::cL c a h))) (fun⟨l,e,i⟩=>?_) (0,[],o)) fun⟨f,c⟩=>?_;refine ig fun b=>?_;refine bo (dY2 (d+1) b) fun t=>?_;refine bz (kB (bz (Gl Yd bv e b false) rfl)) ?_;refine be ?_ fun p=>?_;refine iy ?_;refine bo (sV2 (d+2) a b.gJ) fun u=>?_;rfl;refine bo (lG (d+2) p b i a h) fun v=>?_;refine bz (sF Yd bv e b true) ?_;rfl;refine bl ?_;refine bo (zLo (S:=Bool×Int) (fun⟨m,n⟩=>(Q [bQ 0 1,(5,bv m),yT 49 a.kI,cP 50 a.kI,aY 51 n] ((3,.mp (I (kS (eA YZ.g) bv) f))::cL c a h))) (fun(j:Bool)=>(xq 2 [bQ 0 1,(5,bv j)] ((3,.mp (I (kS (eA YZ.g) bv) f))::cL c a h))) (fun⟨m,n⟩=>?_) (false,0)) fun j=>?_;refine ig fun q=>?_;refine be ?_ fun x=>?_;refine iy ?_;refine bo (dY2 (d+1) q) fun w=>?_;rfl;refine be ?_ fun A=>?_;refine iy ?_;refine be ?_ fun z=>?_;refine ig fun y=>?_;rfl;rfl;rfl;refine bo (lG (d+2) j (YZ.mk 0 0) c a h) fun B=>?_;rfl
def F85 (c:Y0):aB Int:=
 (aS (fun(⟨a,b⟩:Int×Int)=>dM c.aU b (fun d=>some (.inl (bF (a+(d.cO.length:Int)),bF (b+1)))) (some (.inr a))) bK (0,0)).bind fun e=>some e
def eA2 a:OD k (d+1) 85 [cV a]=(F85 a).map i64:=oe rfl<|bl<|bo (zLo (fun⟨b,c⟩=>(Q [aY 3 b,jD 7 a.aU,cP 8 a.aU,aY 9 c] [aJ 0 a])) (fun(e:Int)=>(xq 0 [aY 3 e] [aJ 0 a])) (fun⟨b,c⟩=>ig fun f=>bl) (0,0))
def F87 (o:Int) (m:YM) (n:Int):aB Bool:=
 (aS (fun(⟨b,c⟩:Bool×Int)=>dM m.aO c (fun a=>(if b||((a.aT.length:Int)==0)then some true else(bU a.aT 0).bind fun g=>some ((g.aW.length:Int)==0):aB Bool).bind fun h=>(if h then some true else(bU a.aT (bF ((a.aT.length:Int)-1))).bind fun i=>some ((i.aW.length:Int)==0):aB Bool).bind fun j=>(aS (fun(⟨d,e⟩:Bool×Int)=>dM a.aT e (fun f=>some (.inl ((d||(((f.aW.length:Int)==0)&&(decide ((f.cT.length:Int)>0)))),bF (e+1)))) (some (.inr d))) bK (j,0)).bind fun k=>some (.inl (k,bF (c+1)))) (some (.inr b))) bK (((m.aO.length:Int)!=n),0)).bind fun l=>some l
def sW2 m a l:OD k (d+1) 87 [i64 m,eF a,.ip [i64 l]]=(F87 m a l).map bv:=oe rfl<|bl<|bl<|bo (zLo (S:=Bool×Int) (fun⟨e,b⟩=>(Q [(6,bv e),cK 18 a.aO,cP 19 a.aO,aY 20 b] [aV 0 a])) (fun(j:Bool)=>(xq 0 [(6,bv j)] [aV 0 a])) (fun⟨e,b⟩=>ig fun c=>bz (kB (bz lm rfl))<|be (iy<|bo rg fun n=>bl) fun o=>be (iy<|bl<|bo rg fun p=>bl) fun h=>bl<|bo (zLo (S:=Bool×Int) (fun⟨f,g⟩=>(Q [(6,bv f),cK 18 a.aO,cP 19 a.aO,aY 20 b,dV 51 c.aT,cP 52 c.aT,aY 53 g] [dQ 1 c,aV 0 a])) (fun(i:Bool)=>(xq 2 [(6,bv i),cK 18 a.aO,cP 19 a.aO,aY 20 b] [dQ 1 c,aV 0 a])) (fun⟨f,g⟩=>ig fun q=>bz (kB (bz lm (bz (jC (bz lm rfl)) rfl)))) (h,0))) (((a.aO.length:Int)!=l),0))
def cC1 (h:Int) (i:aA YV) (f:Y0) (j:Int):aB (aA YV):=
 (aS (fun(⟨e,g⟩:Int×(aA YV))=>dM f.aF e (fun a=>(F87 e a h).bind fun b=>(mP b a.ID g f j).bind fun c=>some (.inl (bF (e+1),c))) (some (.inr g))) bK (0,i)).bind fun d=>some d
def eB2 b i a c:gN (XD k (d+2)) 86 [.ref 1 0,.fn 87 [] [.ref 3 0]] ((3,.box [i64 b])::cL i a c) 4 false=(cC1 b i a c).map (fun(h:aA YV)=>(.tup [],((3,.box [i64 b])::cL h a c),0)):=by rw[xd (fn:=p86) rfl];exact bl<|bo (zLo (fun⟨j,l⟩=>(Q [bQ 0 1,(1,.fn 87 [] [.ref 3 0]),aX 10 a.aF,cP 11 a.aF,aY 12 j] ((3,.box [i64 b])::cL l a c))) (fun(g:aA YV)=>(xq 0 [] ((3,.box [i64 b])::cL g a c))) (fun⟨j,l⟩=>ig fun e=>bo (sW2 d j e b) fun f=>bo (lG d f e.ID l a c)) (0,i))
def cD1 (b:aA YV) (a:Y0) (c:Int):aB (aA YV):=
 (F85 a).bind fun d=>(cC1 d b a c).bind fun e=>some e
def eC2 c a b:gN (XD k (d+3)) 46 [.ref 1 0] (cL c a b) 3 false=(cD1 c a b).map (fun(f:aA YV)=>(.tup [],cL f a b,0)):=by rw[xd (fn:=p46) rfl];exact bo (eA2 (d+1) a) fun e=>bo (eB2 d e c a b)
def oL1:aB Y9:=
 some (Y9.mk (YI.mk (⟨#[116,114,101,98,108,101]⟩:ByteArray) 71 (-2) 0 34 (-1) (-3)) (YI.mk (⟨#[98,97,115,115]⟩:ByteArray) 70 2 0 22 (-3) (-5)) (YI.mk (⟨#[97,108,116,111]⟩:ByteArray) 67 0 0 28 (-2) (-4)) (YI.mk (⟨#[116,101,110,111,114]⟩:ByteArray) 67 2 0 26 (-2) (-2)) (YI.mk (⟨#[115,111,112,114,97,110,111]⟩:ByteArray) 67 (-4) 0 32 (-2) (-3)) (YI.mk (⟨#[109,101,122,122,111,115,111,112,114,97,110,111]⟩:ByteArray) 67 (-2) 0 30 (-2) (-3)) (YI.mk (⟨#[98,97,114,105,116,111,110,101]⟩:ByteArray) 70 0 0 24 (-2) (-3)) (YI.mk (⟨#[116,114,101,98,108,101,56]⟩:ByteArray) 71 (-2) (-1) 27 (-1) (-3)) (YI.mk (⟨#[98,97,115,115,56]⟩:ByteArray) 70 2 (-1) 15 (-3) (-5)))
def eD2:OD k (d+1) 192 []=(oL1).map (fun a=>Cj a):=oe rfl<|rfl
def oM1 (b:Int):aB (YI×Int):=
 if(decide (b<1))||(decide (b>9))then some ((YI.mk (⟨#[]⟩:ByteArray) 0 0 0 0 0 0),11)else(oL1).bind fun a=>(bU [a.c0,a.c1,a.c2,a.c3,a.c4,a.c5,a.c6,a.c7,a.c8] (bF (b-1))).bind fun c=>some (c,0)
def eE2 b:OD k (d+2) 138 [i64 b]=(oM1 b).map (fun⟨c,e⟩=>.tup [Mc c,i64 e]):=oe rfl<|bz (kB rfl)<|iy<|bo (eD2 d) fun a=>bo (Rj (A:=YI) YI.g [a.c0,a.c1,a.c2,a.c3,a.c4,a.c5,a.c6,a.c7,a.c8] (bF (b-1)) rfl (fun _=>rfl) rfl)
def F88 (a:Int):aB Int:=
 (oM1 a).bind fun⟨c,b⟩=>some b
def eG2 a:OD k (d+3) 88 [i64 a]=(F88 a).map i64:=oe rfl<|bo (eE2 d a)
def oN1 (a:YX):aB Bool:=
 if((a.bY.c0==0)&&((a.bY.c1==0)&&((a.bY.c2==0)&&((a.bY.c3==0)&&((a.bY.c4==0)&&((a.bY.c5==0)&&true))))))!=false then some true else(aS (E:=(Int×Int)⊕(Int×Int)) (fun(⟨d,b,e⟩:Int×Int×Int)=>if decide (e<6)then(bU [a.bY.c0,a.bY.c1,a.bY.c2,a.bY.c3,a.bY.c4,a.bY.c5] e).bind fun c=>if((decide (c<0))||(decide (c>64)))||((decide (c>0))&&(e !=b))then some (.inr (.inl (d,b)))else(if decide (c>0)then some (bF (d+c),bF (b+1))else some (d,b):aB (Int×Int)).bind fun⟨h,f⟩=>some (.inl (h,f,bF (e+1)))else some (.inr (.inr (d,b)))) bK (0,0,0)).bind fun g=>(match g with|.inl ⟨x11,x12⟩=>some false|.inr ⟨x13,x14⟩=>some ((x13==a.gS)&&(decide (x14>=2))))
def eH2 (a:YX):OD k (d+1) 230 [rJ a]=(oN1 a).map bv:=oe rfl<|by
 refine iy ?_;refine bo (zLo (S:=Int×Int×Int) (fun⟨i,j,g⟩=>(Q [bQ 1 0,aY 3 i,aY 4 j,(12,Kb a.bY),aY 13 g] [sI 0 a])) (fun|.inl ⟨c,f⟩=>(rq [bQ 1 0,(2,bv false),aY 3 c,aY 4 f] [sI 0 a])|.inr ⟨x13,x14⟩=>(xq 0 [bQ 1 0,aY 3 x13,aY 4 x14] [sI 0 a])) (fun⟨i,j,g⟩=>?_) (0,0,0)) fun h=>?_;refine io ?_;refine bo (sD .i64 [a.bY.c0,a.bY.c1,a.bY.c2,a.bY.c3,a.bY.c4,a.bY.c5] g rfl) fun m=>?_;refine bz (kB rfl) ?_;refine bz (kB (bz (jC rfl) rfl)) ?_;refine iy ?_;refine bo (e:=(fun(⟨l,b⟩:Int×Int)=>(nq [bQ 1 0,aY 3 l,aY 4 b,(12,Kb a.bY),aY 13 g] [sI 0 a]))) ?_ fun⟨l,b⟩=>?_;refine io;rfl;rcases h with⟨c,f⟩|⟨x13,x14⟩
 rfl;refine bz (jC rfl) ?_;rfl
def oO1 (a:YX):aB Int:=
 if(decide (a.gS<1))||(decide (a.gS>64))then some 2 else if((decide (a.Unit<1))||(decide (a.Unit>64)))||((Rl .i64 a.Unit (bF (a.Unit-1)))!=0)then some 17 else(oN1 a).bind fun b=>if !b then some 19 else some 0
def eI2 a:OD k (d+2) 193 [rJ a]=(oO1 a).map i64:=oe rfl<|bz (kB rfl)<|iy<|bz (kB rfl)<|bz (kB rfl)<|iy<|bo (eH2 d a) fun b=>io
def oP1 (a:YX):aB Int:=
 (Rk .i64 1935360 a.Unit).bind fun b=>some b
def eJ2 a:OD k (d+1) 231 [rJ a]=(oP1 a).map i64:=oe rfl<|bo oi
def oQ1 (a:YX):aB Int:=
 (oP1 a).bind fun b=>some (bF (a.gS*b))
def eK2 a:OD k (d+2) 194 [rJ a]=(oQ1 a).map i64:=oe rfl<|bo (eJ2 d a)
def oR1 (a:YX):aB (Int×Int):=
 (oO1 a).bind fun b=>if b !=0 then some (0,b)else(oQ1 a).bind fun c=>some (c,0)
def eL2 a:OD k (d+3) 139 [rJ a]=(oR1 a).map (fun⟨b,c⟩=>.tup [i64 b,i64 c]):=oe rfl<|bo (eI2 d a) fun e=>iy<|bo (eK2 d a)
def F90 (a:YM):aB (Int×Int):=
 (oR1 a.dK).bind fun⟨d,c⟩=>if c !=0 then some (0,c)else if decide (a.gQ<0)then some (0,2)else(if decide (a.gQ>0)then some a.gQ else some d:aB Int).bind fun b=>(bF1 .i64 b 7560).bind fun e=>if e !=0 then some (0,16)else if decide (b>15482880)then some (0,5)else some (b,0)
def cE1 a:OD k (d+4) 90 [eF a]=(F90 a).map (fun⟨c,f⟩=>.tup [i64 c,i64 f]):=oe rfl<|bo (eL2 d a.dK) fun⟨g,h⟩=>iy<|iy<|bo (e:=(fun(b:Int)=>(nq [aY 4 b] [aV 0 a]))) io fun b=>bo oi fun i=>iy io
def F89 (s:Int) (p:YM):aB Bool:=
 (F90 p).bind fun⟨q,r⟩=>(aS (fun(⟨c,d⟩:Bool×Int)=>dM p.aO d (fun e=>(aS (fun(⟨f,a⟩:Bool×Int)=>dM e.iI a (fun b=>(if f then some true else(F88 b.Hg).bind fun g=>some (g !=0):aB Bool).bind fun h=>(if h then some true else(Hl b.At 0 (bF (q-1))).bind fun i=>some (!i):aB Bool).bind fun j=>(if j then some true else(if decide (a>0)then(bU e.iI (bF (a-1))).bind fun k=>some (decide (b.At<=k.At))else some false:aB Bool).bind fun l=>some l:aB Bool).bind fun m=>some (.inl (m,bF (a+1)))) (some (.inr f))) bK (c,0)).bind fun n=>some (.inl (n,bF (d+1)))) (some (.inr c))) bK (false,0)).bind fun o=>some (o&&(r==0))
def sX2 (n:Int) (a:YM):OD k (d+5) 89 [i64 n,eF a]=(F89 n a).map bv:=oe rfl<|by
 refine bo (cE1 d a) fun⟨l,m⟩=>?_;refine bl ?_;refine bo (zLo (S:=Bool×Int) (fun⟨e,b⟩=>(Q [aY 5 l,aY 6 m,(7,bv e),cK 18 a.aO,cP 19 a.aO,aY 20 b] [aV 0 a])) (fun(j:Bool)=>(xq 0 [aY 6 m,(7,bv j)] [aV 0 a])) (fun⟨e,b⟩=>?_) (false,0)) fun j=>?_;refine ig fun c=>?_;refine bl ?_;refine bo (zLo (S:=Bool×Int) (fun⟨f,g⟩=>(Q [aY 5 l,aY 6 m,(7,bv f),bQ 9 1,cK 18 a.aO,cP 19 a.aO,aY 20 b,oB 25 c.iI,cP 26 c.iI,aY 27 g] [dQ 1 c,aV 0 a])) (fun(i:Bool)=>(xq 2 [aY 5 l,aY 6 m,(7,bv i),cK 18 a.aO,cP 19 a.aO,aY 20 b] [dQ 1 c,aV 0 a])) (fun⟨f,g⟩=>?_) (e,0)) fun i=>?_;refine ig fun h=>?_;refine be ?_ fun p=>?_;refine iy ?_;refine bo (eG2 (d+1) h.Hg) fun o=>?_;rfl;refine be ?_ fun r=>?_;refine iy ?_;refine bo (uF (d+3) h.At 0 (bF (l-1))) fun q=>?_;rfl;refine be ?_ fun u=>?_;refine iy ?_;refine be ?_ fun t=>?_;refine ig fun s=>?_;rfl;rfl;rfl;rfl;refine bz (jC rfl) ?_;rfl
def Mg (h:aA YV) (e:Y0) (i:Int):aB (aA YV):=
 (aS (fun(⟨d,f⟩:Int×(aA YV))=>dM e.aF d (fun g=>(F89 d g).bind fun a=>(mP a g.ID f e i).bind fun b=>some (.inl (bF (d+1),b))) (some (.inr f))) bK (0,h)).bind fun c=>some c
def oT1 c a b:gN (XD k (d+6)) 86 [.ref 1 0,.fn 89 [] []] (cL c a b) 3 false=(Mg c a b).map (fun(g:aA YV)=>(.tup [],cL g a b,0)):=by rw[xd (fn:=p86) rfl];exact bl<|bo (zLo (S:=Int×(aA YV)) (fun⟨h,i⟩=>(Q [bQ 0 1,(1,.fn 89 [] []),aX 10 a.aF,cP 11 a.aF,aY 12 h] (cL i a b))) (fun(f:aA YV)=>(xq 0 [] (cL f a b))) (fun⟨h,i⟩=>ig fun j=>bo (sX2 d h j) fun e=>bo (lG (d+4) e j.ID i a b)) (0,c))
def iE1 (n:aA YV) (g:Y0) (m:Int):aB (aA YV):=
 (aS (fun(⟨a,b⟩:Int×(aA YV))=>dM g.aU a (fun f=>(aS (fun(⟨c,d⟩:Int×(aA YV))=>dM f.cO c (fun e=>(F88 e.Hg).bind fun h=>(mP (h !=0) e.ID d g m).bind fun i=>some (.inl (bF (c+1),i))) (some (.inr d))) bK (0,b)).bind fun j=>some (.inl (bF (a+1),j))) (some (.inr b))) bK (0,n)).bind fun k=>(Mg k g m).bind fun l=>some l
def eM2 (m:aA YV) (a:Y0) (e:Int):gN (XD k (d+7)) 47 [.ref 1 0] (cL m a e) 3 false=(iE1 m a e).map (fun(o:aA YV)=>(.tup [],cL o a e,0)):=by
 rw[xd (fn:=p47) rfl];refine bl ?_;refine bo (zLo (S:=Int×(aA YV)) (fun⟨b,f⟩=>(Q [bQ 0 1,jD 10 a.aU,cP 11 a.aU,aY 12 b] (cL f a e))) (fun(h:aA YV)=>(xq 0 [bQ 0 1] (cL h a e))) (fun⟨b,f⟩=>?_) (0,m)) fun h=>?_;refine ig fun c=>?_;refine bl ?_;refine bo (zLo (S:=Int×(aA YV)) (fun⟨i,g⟩=>(Q [bQ 0 1,jD 10 a.aU,cP 11 a.aU,aY 12 b,wN 17 c.cO,cP 18 c.cO,aY 19 i] (Az 3 c::cL g a e))) (fun(l:aA YV)=>(xq 2 [bQ 0 1,jD 10 a.aU,cP 11 a.aU,aY 12 b] (Az 3 c::cL l a e))) (fun⟨i,g⟩=>?_) (0,f)) fun l=>?_;refine ig fun j=>?_;refine bo (eG2 (d+3) j.Hg) fun n=>?_;refine bo (lG (d+5) (n !=0) j.ID g a e) fun p=>?_;rfl;rfl;refine bo (oT1 d h a e) fun q=>?_;rfl
def F68 (a:Int):aB Int:=
 if(decide (a<(-7)))||(decide (a>7))then some 2 else some 0
def eN2 a:OD k (d+1) 68 [i64 a]=(F68 a).map i64:=oe rfl<|bz (kB rfl) io
def F35 (d:Int) (a:YL):aB (Int×Int):=
 (F68 d).bind fun e=>if e !=0 then some (0,e)else if(((decide (a.eC<(-77)))||(decide (a.eC>77)))||(decide (a.bC<(-140))))||(decide (a.bC>140))then some (0,2)else(aS (fun(b:Int)=>if decide (b>7)then some (.inl (bF (b-12)))else some (.inr b)) bK (bF (d+(bF ((bF (7*a.bC))-(bF (12*a.eC))))))).bind fun f=>(aS (fun(c:Int)=>if decide (c<(-7))then some (.inl (bF (c+12)))else some (.inr c)) bK f).bind fun g=>some (g,0)
def sY2 b a:OD k (d+2) 35 [i64 b,eR a]=(F35 b a).map (fun⟨h,i⟩=>.tup [i64 h,i64 i]):=oe rfl<|bo (eN2 d b) fun j=>iy<|bz (kB rfl)<|bz (kB rfl)<|bz (kB rfl)<|iy<|bo (zLo (fun e=>(Q [aY 0 e] [cU 0 a])) (fun(c:Int)=>(xq 0 [aY 0 c] [cU 0 a])) (fun e=>io) (bF (b+(bF ((bF (7*a.bC))-(bF (12*a.eC))))))) fun c=>bo (zLo (fun f=>(Q [aY 0 f] [cU 0 a])) (fun(g:Int)=>(xq 2 [aY 0 g] [cU 0 a])) (fun f=>io) c)
def F91 (m:Int) (g:YM) (h:YK):aB Bool:=
 (F90 g).bind fun⟨n,j⟩=>(if j !=0 then some true else(Hl g.eM (-7) 7).bind fun k=>some (!k):aB Bool).bind fun l=>(aS (fun(⟨a,b⟩:Bool×Int)=>dM h.s'.aU b (fun c=>(if h.s'.cJ&&(!a)then(F35 g.eM c.bG).bind fun⟨i,d⟩=>some (d !=0)else some a:aB Bool).bind fun e=>some (.inl (e,bF (b+1)))) (some (.inr a))) bK (l,0)).bind fun f=>some f
def sZ2 j a b:OD k (d+5) 91 [i64 j,eF a,.ip [dJ b]]=(F91 j a b).map bv:=oe rfl<|bo (cE1 d a) fun⟨m,n⟩=>be (iy<|bo (uF (d+3) a.eM (-7) 7)) fun l=>bl<|bo (zLo (fun⟨f,c⟩=>(Q [(2,.ip [dJ b]),bQ 4 0,(8,bv f),jD 28 b.s'.aU,cP 29 b.s'.aU,aY 30 c] [aV 0 a])) (fun(i:Bool)=>(xq 0 [(8,bv i)] [aV 0 a])) (fun⟨f,c⟩=>ig fun g=>bz (jC rfl)<|bo (e:=(fun(h:Bool)=>(nq [(2,.ip [dJ b]),bQ 4 0,(8,bv h),jD 28 b.s'.aU,cP 29 b.s'.aU,aY 30 c] [Az 1 g,aV 0 a]))) (io<|bo (sY2 (d+2) a.eM g.bG))) (l,0))
def Mh (i:aA YV) (d:Y0) (g:Int):aB (aA YV):=
 (aS (fun(⟨e,f⟩:Int×(aA YV))=>dM d.aF e (fun h=>(F91 e h (YK.mk d g f)).bind fun a=>(mP a h.ID f d g).bind fun b=>some (.inl (bF (e+1),b))) (some (.inr f))) bK (0,i)).bind fun c=>some c
def oU1 e a b:gN (XD k (d+6)) 86 [.ref 1 0,.fn 91 [] [.ref 3 0]] ((3,.box [.ref 1 0])::cL e a b) 4 false=(Mh e a b).map (fun(h:aA YV)=>(.tup [],((3,.box [.ref 1 0])::cL h a b),0)):=by rw[xd (fn:=p86) rfl];exact bl<|bo (zLo (fun⟨i,c⟩=>(Q [bQ 0 1,(1,.fn 91 [] [.ref 3 0]),aX 10 a.aF,cP 11 a.aF,aY 12 i] ((3,.box [.ref 1 0])::cL c a b))) (fun(g:aA YV)=>(xq 0 [] ((3,.box [.ref 1 0])::cL g a b))) (fun⟨i,c⟩=>ig fun j=>bo (sZ2 d i j (YK.mk a b c)) fun f=>bo (lG (d+4) f j.ID c a b)) (0,e))
def iF1 (a:aA YV) (b:Y0) (c:Int):aB (aA YV):=
 (Mh a b c).bind fun d=>some d
def eO2 c a b:gN (XD k (d+7)) 48 [.ref 1 0] (cL c a b) 3 false=(iF1 c a b).map (fun(e:aA YV)=>(.tup [],cL e a b,0)):=by rw[xd (fn:=p48) rfl];exact bo (oU1 d c a b)
def vF (a b:Int):aB Int:=
 if(decide (a<0))||(decide (a>b))then some 2 else some 0
def rK a b:OD k (d+1) 149 [i64 a,i64 b]=(vF a b).map i64:=oe rfl<|bz (kB rfl) io
def Gv (c:aA Int):aB Int:=
 (aS (E:=Int⊕Unit) (fun(a:Int)=>dM c a (fun b=>if b !=0 then some (.inr (.inl b))else some (.inl (bF (a+1)))) (some (.inr (.inr ())))) bK 0).bind fun d=>(match d with|.inl x5=>some x5|.inr _=>some 0)
def Rv a:OD k (d+1) 148 [oF a]=(Gv a).map i64:=oe rfl<|bl<|bo (zLo (fun b=>(Q [uE 5 a,cP 6 a,aY 7 b] [])) (Sx 2) (fun b=>ig fun c=>io) 0) fun|.inl e=>rfl|.inr _=>rfl
def iG1 (a:Int):aB Bool:=
 some ((decide (a>=1))&&(decide (a<=4)))
def uS1 a:OD k (d+1) 150 [i64 a]=(iG1 a).map bv:=oe rfl<|bz (jC rfl)
def oV1 (a:Int):aB Int:=
 if decide (a<0)then some 0 else some (Rl .i64 a 16)
def eP2 a:OD k (d+1) 202 [i64 a]=(oV1 a).map i64:=oe rfl<|io
def cF1 (a:YE):aB YE:=
 (if a.dH==1 then some true else(iG1 a.dH).bind fun b=>some (!b):aB Bool).bind fun c=>if c then some a else(if a.dH !=3 then some a.Value else some (YA.mk 0 0):aB YA).bind fun d=>(if a.dH !=4 then(oV1 a.bD).bind fun e=>some e else some 0:aB Int).bind fun f=>some (YE.mk a.ID a.dH d [] [] f 0 a.dC [] 0 0)
def eQ2 a:OD k (d+2) 152 [eS a]=(cF1 a).map (fun f=>eS f):=oe rfl<|be (iy<|bo (uS1 d a.dH)) fun g=>iy<|bo (e:=(fun(b:YA)=>(nq [bQ 1 0,bQ 2 1,bQ 3 2] [(2,.box [i64 a.ID.gJ,i64 a.ID.dE,i64 a.dH,i64 b.Log,i64 b.qR,.v (.slice none 0 0),.v (.slice none 0 0),i64 0,i64 0,i64 a.dC,.v (.slice none 0 0),i64 0,i64 0]),dS2,gB 0 a]))) io fun b=>bo (e:=(fun(c:Int)=>(nq [bQ 2 1,bQ 3 2] [(2,.box [i64 a.ID.gJ,i64 a.ID.dE,i64 a.dH,i64 b.Log,i64 b.qR,.v (.slice none 0 0),.v (.slice none 0 0),i64 c,i64 0,i64 a.dC,.v (.slice none 0 0),i64 0,i64 0]),dS2,gB 0 a]))) (io<|bo (eP2 d a.bD))
def Rw (d e:aA YB):aB Bool:=
 if(d.length:Int)!=(e.length:Int)then some false else(aS (E:=Unit⊕Unit) (fun(c:Int)=>dM d c (fun a=>(bU e c).bind fun b=>if((a.cA.jP==b.cA.jP)&&((a.cA.iJ==b.cA.iJ)&&((a.cA.eZ==b.cA.eZ)&&((a.Hj==b.Hj)&&((a.Hh==b.Hh)&&true)))))!=true then some (.inr (.inl ()))else some (.inl (bF (c+1)))) (some (.inr (.inr ())))) bK 0).bind fun f=>(match f with|.inl _=>some false|.inr _=>some true)
def eR2 a b:OD k (d+1) 199 [jG a,jG b]=(Rw a b).map bv:=oe rfl<|bl<|bl<|iy<|bl<|bo (zLo (fun c=>(Q [nJ 0 a,nJ 1 b,cP 12 a,aY 13 c] [])) (fun|.inl _=>(rq [(4,bv false)] [])|.inr _=>(xq 0 [] [])) (fun c=>ig fun e=>bo rg fun f=>io) 0) fun|.inl _=>rfl|.inr _=>rfl
def Rx (d e:aA YD):aB Bool:=
 if(d.length:Int)!=(e.length:Int)then some false else(aS (E:=Unit⊕Unit) (fun(c:Int)=>dM d c (fun a=>(bU e c).bind fun b=>if((a.cA.jP==b.cA.jP)&&((a.cA.iJ==b.cA.iJ)&&((a.cA.eZ==b.cA.eZ)&&((a.Log==b.Log)&&((a.zF==b.zF)&&true)))))!=true then some (.inr (.inl ()))else some (.inl (bF (c+1)))) (some (.inr (.inr ())))) bK 0).bind fun f=>(match f with|.inl _=>some false|.inr _=>some true)
def eS2 a b:OD k (d+1) 200 [kP a,kP b]=(Rx a b).map bv:=oe rfl<|bl<|bl<|iy<|bl<|bo (zLo (fun c=>(Q [sH 0 a,sH 1 b,cP 12 a,aY 13 c] [])) (fun|.inl _=>(rq [(4,bv false)] [])|.inr _=>(xq 0 [] [])) (fun c=>ig fun e=>bo rg fun f=>io) 0) fun|.inl _=>rfl|.inr _=>rfl
end Go.P
namespace Go.P
open Go.Sim (Ex iV CK)
open K (I Q rq nq xq ck)
variable {k:Bool} (d:Nat)
def cG1 (b c:aA YY):aB Bool:=
 if(b.length:Int)!=(c.length:Int)then some false else(aS (E:=Unit⊕Unit) (fun(a:Int)=>dM b a (fun d=>(bU c a).bind fun e=>if((d.qQ==e.qQ)&&((d.Cn==e.Cn)&&true))!=true then some (.inr (.inl ()))else some (.inl (bF (a+1)))) (some (.inr (.inr ())))) bK 0).bind fun f=>(match f with|.inl _=>some false|.inr _=>some true)
def eT2 a b:OD k (d+1) 201 [nE a,nE b]=(cG1 a b).map bv:=oe rfl<|bl<|bl<|iy<|bl<|bo (zLo (fun c=>(Q [kQ 0 a,kQ 1 b,cP 12 a,aY 13 c] [])) (fun|.inl _=>(rq [(4,bv false)] [])|.inr _=>(xq 0 [] [])) (fun c=>ig fun e=>bo rg fun f=>io) 0) fun|.inl _=>rfl|.inr _=>rfl
def Ry (a b:YE):aB Bool:=
 (if((((((a.dH==b.dH)&&(((a.Value.Log==b.Value.Log)&&((a.Value.qR==b.Value.qR)&&true))!=false))&&(a.bD==b.bD))&&(a.cS==b.cS))&&(a.dC==b.dC))&&(a.jO==b.jO))&&(a.jQ==b.jQ)then(Rw a.cE b.cE).bind fun c=>some c else some false:aB Bool).bind fun d=>(if d then(Rx a.bR b.bR).bind fun e=>some e else some false:aB Bool).bind fun f=>(if f then(cG1 a.cX b.cX).bind fun g=>some g else some false:aB Bool).bind fun h=>some h
def uT1 a b:OD k (d+2) 151 [eS a,eS b]=(Ry a b).map bv:=oe rfl<|bz (jC rfl)<|bz (jC rfl)<|bz (jC rfl)<|bz (jC rfl)<|bz (jC rfl)<|bz (jC rfl)<|be (io<|bo (eR2 d a.cE b.cE)) fun c=>be (io<|bo (eS2 d a.bR b.bR)) fun e=>be (io<|bo (eT2 d a.cX b.cX))
def iH1 (a:YA):aB Int:=
 if(((decide (a.Log<(-1)))||(decide (a.Log>8)))||(decide (a.qR<0)))||(decide (a.qR>3))then some 17 else some 0
def uU1 a:OD k (d+1) 153 [Ay a]=(iH1 a).map i64:=oe rfl<|bz (kB rfl)<|bz (kB rfl)<|bz (kB rfl) io
def cH1:aB Ar:=
 some (Ar.mk 0 2 4 5 7 9 11)
def uV1:OD k (d+1) 187 []=(cH1).map (fun a=>Aw a):=oe rfl<|rfl
def Ve (b:YH):aB Int:=
 (cH1).bind fun a=>(bU [a.c0,a.c1,a.c2,a.c3,a.c4,a.c5,a.c6] b.jP).bind fun c=>some (bF ((bF ((bF (12*(bF (b.eZ+1))))+c))+b.iJ))
def uW1 b:OD k (d+2) 158 [fF b]=(Ve b).map i64:=oe rfl<|bo (uV1 d) fun a=>bo (sD .i64 [a.c0,a.c1,a.c2,a.c3,a.c4,a.c5,a.c6] b.jP rfl)
def qP (a:YH):aB Int:=
 if(((((decide (a.jP<0))||(decide (a.jP>6)))||(decide (a.iJ<(-2))))||(decide (a.iJ>2)))||(decide (a.eZ<(-1))))||(decide (a.eZ>9))then some 18 else(Ve a).bind fun b=>if(decide (b<0))||(decide (b>127))then some 18 else some 0
def iI1 a:OD k (d+3) 157 [fF a]=(qP a).map i64:=oe rfl<|bz (kB rfl)<|bz (kB rfl)<|bz (kB rfl)<|bz (kB rfl)<|bz (kB rfl)<|iy<|bo (uW1 d a) fun b=>bz (kB rfl) io
def Hx (a:YH):aB (Int×Int):=
 (qP a).bind fun b=>if b !=0 then some (0,b)else(Ve a).bind fun c=>some (c,0)
def iJ1 a:OD k (d+4) 100 [fF a]=(Hx a).map (fun⟨b,c⟩=>.tup [i64 b,i64 c]):=oe rfl<|bo (iI1 d a) fun e=>iy<|bo (uW1 (d+1) a)
def Hy (b:YH):aB (Int×Int):=
 (Hx b).bind fun⟨a,c⟩=>if((c !=0)||(decide (a<0)))||(decide (a>127))then some (0,18)else some (a,0)
def iK1 a:OD k (d+5) 204 [fF a]=(Hy a).map (fun⟨b,c⟩=>.tup [i64 b,i64 c]):=oe rfl<|bo (iJ1 d a) fun⟨e,f⟩=>bz (kB rfl)<|bz (kB rfl) io
def Vf (a:YB):aB Int:=
 (Hy a.cA).bind fun⟨e,b⟩=>(vF a.Hh 2).bind fun c=>(Gv [b,c]).bind fun d=>some d
def eU2 a:OD k (d+6) 203 [yP a]=(Vf a).map i64:=oe rfl<|bo (iK1 d a.cA) fun⟨e,b⟩=>bo (rK (d+4) a.Hh 2) fun c=>bo (Rv (d+4) [b,c])
def cI1 (b:aA YB):aB Int:=
 if(b.length:Int)==0 then some 4 else if decide ((b.length:Int)>10)then some 9 else(aS (E:=Int⊕Unit) (fun(⟨h,d⟩:Int×Int)=>dM b d (fun e=>(Vf e).bind fun f=>if f !=0 then some (.inr (.inl f))else(Hy e.cA).bind fun⟨a,g⟩=>if decide (a<=h)then some (.inr (.inl 25))else some (.inl (a,bF (d+1)))) (some (.inr (.inr ())))) bK (-1,0)).bind fun c=>(match c with|.inl x12=>some x12|.inr _=>some 0)
def eV2 b:OD k (d+7) 154 [jG b]=(cI1 b).map i64:=oe rfl<|bl<|iy<|bl<|iy<|bl<|bo (zLo (S:=Int×Int) (fun⟨c,e⟩=>(Q [aY 3 c,nJ 17 b,cP 18 b,aY 19 e] [])) (fun|.inl a=>(rq [aY 2 a] [])|.inr _=>(xq 1 [] [])) (fun⟨c,e⟩=>ig fun f=>bo (eU2 d f) fun i=>iy<|bo (iK1 (d+1) f.cA) fun⟨g,h⟩=>io) (-1,0)) fun|.inl a=>rfl|.inr _=>rfl
def Vg (c:aA YD):aB Int:=
 if decide ((c.length:Int)>8)then some 9 else(aS (E:=Int⊕Unit) (fun(d:Int)=>dM c d (fun b=>(Hy b.cA).bind fun⟨f,e⟩=>if e !=0 then some (.inr (.inl e))else if(decide (b.Log<1))||(decide (b.Log>6))then some (.inr (.inl 2))else some (.inl (bF (d+1)))) (some (.inr (.inr ())))) bK 0).bind fun a=>(match a with|.inl x9=>some x9|.inr _=>some 0)
def eW2 a:OD k (d+6) 155 [kP a]=(Vg a).map i64:=oe rfl<|bl<|iy<|bl<|bo (zLo (fun b=>(Q [sH 10 a,cP 11 a,aY 12 b] [])) (Sx 2) (fun b=>ig fun c=>bo (iK1 d c.cA) fun⟨e,f⟩=>iy<|bz (kB rfl) io) 0) fun|.inl g=>rfl|.inr _=>rfl
def oW1 (a:YY):aB Int:=
 if(decide (a.Cn<0))||(decide (a.Cn>2))then some 2 else if decide ((a.qQ.size:Int)>256)then some 5 else(aS (E:=Unit⊕Unit) (fun(b:Int)=>if decide (b<(a.qQ.size:Int))then(tO a.qQ b).bind fun c=>(if decide (c<32)then some true else(tO a.qQ b).bind fun d=>some (d==127):aB Bool).bind fun e=>if e then some (.inr (.inl ()))else some (.inl (bF (b+1)))else some (.inr (.inr ()))) bK 0).bind fun f=>(match f with|.inl _=>some 6|.inr _=>if(a.qQ.toList==(⟨#[]⟩:ByteArray).toList)&&(a.Cn==1)then some 3 else some 0)
def eX2 (a:YY):OD k (d+1) 205 [yR a]=(oW1 a).map i64:=oe rfl<|by
 refine bz (kB rfl) ?_;refine iy ?_;refine iy ?_;refine bo (zLo (fun b=>(Q [bQ 1 0,(20,i64 (a.qQ.size:Int)),aY 21 b] [fA 0 a])) (fun|.inl _=>(rq [bQ 1 0,aY 2 6] [fA 0 a])|.inr _=>(xq 1 [bQ 1 0] [fA 0 a])) (fun b=>?_) 0) fun c=>?_;refine io ?_;refine bo oi fun e=>?_;refine be ?_ fun g=>?_;refine iy ?_;refine bo oi fun f=>?_;rfl;refine io;rcases c with _|_;rfl;refine bz (jC rfl) ?_;refine io
def oX1 (a:YY):aB Bool:=
 some (((a.qQ==(⟨#[]⟩:ByteArray))&&((a.Cn==0)&&true))!=false)
def eY2 a:OD k (d+1) 206 [yR a]=(oX1 a).map bv:=oe rfl<|rfl
def oY1 (a:aA YY):aB Int:=
 if decide ((a.length:Int)>4)then some 9 else(aS (E:=Int⊕Unit) (fun(d:Int)=>dM a d (fun f=>(oW1 f).bind fun e=>if e !=0 then some (.inr (.inl e))else some (.inl (bF (d+1)))) (some (.inr (.inr ())))) bK 0).bind fun g=>(match g with|.inl x7=>some x7|.inr _=>(if decide ((a.length:Int)>0)then(bU a (bF ((a.length:Int)-1))).bind fun h=>(oX1 h).bind fun b=>some b else some false:aB Bool).bind fun c=>if c then some 3 else some 0)
def eZ2 (a:aA YY):OD k (d+2) 156 [nE a]=(oY1 a).map i64:=oe rfl<|by
 refine bl ?_;refine iy ?_;refine bl ?_;refine bo (zLo (fun b=>(Q [kQ 0 a,kQ 10 a,cP 11 a,aY 12 b] [])) (fun|.inl c=>(rq [kQ 0 a,aY 2 c] [])|.inr _=>(xq 0 [kQ 0 a] [])) (fun b=>?_) 0) fun h=>?_;refine ig fun g=>?_;refine bo (eX2 d g) fun j=>?_;refine io;rcases h with c|_;rfl;refine bl ?_;refine be ?_ fun f=>?_;refine ig fun i=>?_;refine bo (eY2 d i) fun e=>?_;rfl;refine io
def Ns (a:YE):aB Int:=
 (vF a.ID.gJ 99).bind fun s=>(vF a.ID.dE 1073741824).bind fun t=>(Gv [s,t]).bind fun r=>if r !=0 then some r else(iG1 a.dH).bind fun u=>if !u then some 11 else(cF1 a).bind fun v=>(Ry a v).bind fun w=>if !w then some 3 else(if a.dH !=3 then(iH1 a.Value).bind fun x=>some (x !=0)else some false:aB Bool).bind fun y=>if y then some 17 else if a.dH==1 then(cI1 a.cE).bind fun c=>(Vg a.bR).bind fun d=>(oY1 a.cX).bind fun e=>(Gv [c,d,e]).bind fun b=>if b !=0 then some b else(vF a.bD 31).bind fun f=>(vF a.cS 4).bind fun g=>(vF a.dC 9).bind fun h=>(vF a.jO 2).bind fun i=>(vF a.jQ 2).bind fun j=>(Gv [f,g,h,i,j]).bind fun k=>some k else(vF a.bD 31).bind fun l=>(vF a.cS 4).bind fun m=>(vF a.dC 9).bind fun n=>(vF a.jO 2).bind fun o=>(vF a.jQ 2).bind fun p=>(Gv [l,m,n,o,p]).bind fun q=>some q
def cJ1 a:OD k (d+8) 97 [eS a]=(Ns a).map i64:=oe rfl<|bo (rK (d+6) a.ID.gJ 99) fun r=>bo (rK (d+6) a.ID.dE 1073741824) fun s=>bo (Rv (d+6) [r,s]) fun u=>iy<|bo (uS1 (d+6) a.dH) fun v=>iy<|bo (eQ2 (d+5) a) fun t=>bo (uT1 (d+5) a t) fun w=>iy<|be (io<|bo (uU1 (d+6) a.Value)) fun x=>iy<|io (bo (eV2 d a.cE) fun b=>bo (eW2 (d+1) a.bR) fun c=>bo (eZ2 (d+5) a.cX) fun e=>bo (Rv (d+6) [b,c,e]) fun q=>iy<|bo (rK (d+6) a.bD 31) fun f=>bo (rK (d+6) a.cS 4) fun g=>bo (rK (d+6) a.dC 9) fun h=>bo (rK (d+6) a.jO 2) fun i=>bo (rK (d+6) a.jQ 2) fun j=>bo (Rv (d+6) [f,g,h,i,j]))<|bo (rK (d+6) a.bD 31) fun l=>bo (rK (d+6) a.cS 4) fun m=>bo (rK (d+6) a.dC 9) fun n=>bo (rK (d+6) a.jO 2) fun o=>bo (rK (d+6) a.jQ 2) fun p=>bo (Rv (d+6) [l,m,n,o,p])
def oZ1 (a:YE):aB Bool:=
 (Ns a).bind fun b=>some (b !=0)
def fA2 a:OD k (d+9) 141 [eS a]=(oZ1 a).map bv:=oe rfl<|bo (cJ1 d a)
def pA1 (b:aA YE):aB Int:=
 (aS (E:=Int⊕Unit) (fun(a:Int)=>dM b a (fun c=>(oZ1 c).bind fun d=>if d then some (.inr (.inl a))else some (.inl (bF (a+1)))) (some (.inr (.inr ())))) bK 0).bind fun e=>(match e with|.inl x7=>some x7|.inr _=>some (-1))
def fB2 a:OD k (d+10) 197 [kO a,.fn 141 [] []]=(pA1 a).map i64:=oe rfl<|bl<|bo (zLo (fun b=>(Q [gI 0 a,(1,.fn 141 [] []),cP 7 a,aY 8 b] [])) (Sx 4) (fun b=>ig fun c=>bo (fA2 d c) fun e=>io) 0) fun|.inl f=>rfl|.inr _=>rfl
def iL1 (a:aA YE):aB Bool:=
 (pA1 a).bind fun b=>some (decide (b>=0))
def uX1 a:OD k (d+11) 146 [kO a,.fn 141 [] []]=(iL1 a).map bv:=oe rfl<|bo (fB2 d a)
def pB1 (a:YO):aB Bool:=
 (if decide ((a.aW.length:Int)>0)then(bU a.aW 0).bind fun b=>some (b.dH==3)else some false:aB Bool).bind fun c=>some c
def fC2 a:OD k (d+1) 243 [iU a]=(pB1 a).map bv:=oe rfl<|bl<|be (ig fun b=>rfl)
def pC1 (a:YA):aB Int:=
 (Ux .i64 3870720 (bF (a.Log+1))).bind fun b=>(aS (fun(⟨f,c,d⟩:Int×Int×Int)=>if decide (d<a.qR)then(Rk .i64 f 2).bind fun e=>some (.inl (e,bF (c+e),bF (d+1)))else some (.inr c)) bK (b,b,0)).bind fun g=>some g
def fD2 a:OD k (d+1) 260 [Ay a]=(pC1 a).map i64:=oe rfl<|bo oi fun b=>bo (zLo (fun⟨c,e,f⟩=>(Q [aY 3 c,aY 4 e,(11,i64 a.qR),aY 12 f] [Gu 0 a])) (fun(g:Int)=>(xq 0 [aY 4 g] [Gu 0 a])) (fun⟨c,e,f⟩=>io<|bo oi) (b,b,0))
def pD1 (a:YA):aB (Int×Int):=
 (iH1 a).bind fun b=>if b !=0 then some (0,b)else(pC1 a).bind fun c=>some (c,0)
def fE2 a:OD k (d+2) 254 [Ay a]=(pD1 a).map (fun⟨b,c⟩=>.tup [i64 b,i64 c]):=oe rfl<|bo (uU1 d a) fun e=>iy<|bo (fD2 d a)
def pE1 (a:YE):aB (Int×Int):=
 (Ns a).bind fun b=>if(b !=0)||(a.dH==3)then some (0,b)else(pD1 a.Value).bind fun⟨c,d⟩=>some (c,d)
def fF2 a:OD k (d+9) 250 [eS a]=(pE1 a).map (fun⟨b,c⟩=>.tup [i64 b,i64 c]):=oe rfl<|bo (cJ1 d a) fun e=>bz (kB rfl)<|iy<|bo (fE2 (d+6) a.Value)
def pF1 (b:aA YE):aB (aA Int):=
 (Cb (b.length:Int) (b.length:Int) 0).bind fun k=>(aS (fun(⟨h,a⟩:Int×(aA Int))=>dM b h (fun c=>(pE1 c).bind fun⟨d,i⟩=>(eE a h).bind fun e=>(gR a e (fun j=>d)).bind fun f=>some (.inl (bF (h+1),f))) (some (.inr a))) bK (0,k)).bind fun g=>some g
def fG2 b:OD k (d+10) 247 [kO b]=(pF1 b).map (fun p=>oF p):=oe rfl<|bl<|bo (oK cI _ _ 0) fun o=>bl<|bo (zLo (fun⟨i,a⟩=>(Q [(3,.own 0),gI 9 b,cP 10 b,aY 11 i] [(0,.lst 3 1 true (I cI a))])) (fun(h:aA Int)=>(xq 0 [(3,.own 0)] [(0,.lst 3 1 true (I cI h))])) (fun⟨i,a⟩=>ig fun e=>bo (fF2 d e) fun⟨g,j⟩=>bo (bL cI a _) fun l=>bo (cZ (A:=Int) (c:=cI) (m:=1) (f:=fun n=>g) (fun _=>⟨rfl,rfl⟩) (fK3 rfl) a _)) (0,o))
def iM1 (a:Int):aB Bool:=
 some ((decide (a>=1))&&(decide (a<=32)))
def uY1 a:OD k (d+1) 257 [i64 a]=(iM1 a).map bv:=oe rfl<|bz (jC rfl)
def pG1 (a b:YU):aB Int:=
 if a.lH !=b.lH then if decide (a.lH<b.lH)then some (-1)else some 1 else if a.gS !=b.gS then if decide (a.gS>b.gS)then some (-1)else some 1 else some 0
def fH2 a b:OD k (d+1) 258 [pQ a,pQ b]=(pG1 a b).map i64:=oe rfl<|io io<|io io
def Vh (a:YU):aB Int:=
 some (bF (a.lH+a.gS))
def Yg a:OD k (d+1) 256 [pQ a]=(Vh a).map i64:=oe rfl<|rfl
def Yh (c:YU) (o:aA YU):aB (Bool×(aA YU)):=
 (aS (fun(b:aA YU)=>(if decide ((b.length:Int)>0)then(eE b (bF ((b.length:Int)-1))).bind fun p=>(dX b p).bind fun d=>(Vh d).bind fun e=>some (decide (e<=c.lH))else some false:aB Bool).bind fun f=>if f then(tZ b (bF ((b.length:Int)-1))).bind fun g=>some (.inl g)else some (.inr b)) bK o).bind fun a=>(if(a.length:Int)==3 then some true else(if decide ((a.length:Int)>0)then(Vh c).bind fun h=>(eE a (bF ((a.length:Int)-1))).bind fun i=>(dX a i).bind fun j=>(Vh j).bind fun k=>some (decide (h>k))else some false:aB Bool).bind fun l=>some l:aB Bool).bind fun m=>if m then some (false,a)else(lM true a [c]).bind fun n=>some (true,n)
def yK1 h i:gN (XD k (d+2)) 255 [pQ h,.ref 0 0] [(1,.lst 276 4 true (I YU.g i)),(0,.box [.own 1])] 2 false=(Yh h i).map (fun(⟨j,l⟩:Bool×(aA YU))=>(bv j,[(1,.lst 276 4 true (I YU.g l)),(0,.box [.own 1])],0)):=by rw[xd (fn:=dQ2) rfl];exact bo (zLo (fun f=>(Q [bQ 1 0,bQ 2 2] [jI 2 h,(1,.lst 276 4 true (I YU.g f)),(0,.box [.own 1])])) (fun(b:aA YU)=>(xq 0 [bQ 1 0,bQ 2 2] [jI 2 h,(1,.lst 276 4 true (I YU.g b)),(0,.box [.own 1])])) (fun f=>bz (dG YU.g f)<|be (io<|bz (dG YU.g f)<|bo (bL YU.g f _) fun r=>bo (fJ (A:=YU) (c:=YU.g) (m:=4) (g:=fun a=>[i64 a.lH,i64 a.gS,i64 a.iQ,i64 a.jM]) (fun _=>⟨rfl,rfl⟩) (fK3 rfl) f _) fun a=>bo (Yg d a)) fun n=>io<|bz (dG YU.g f)<|bo (vO YU.g f (bF ((f.length:Int)-1)))) i) fun b=>bz (dG YU.g b)<|be (iy<|be (io<|bo (Yg d h) fun o=>bo (bL YU.g b _) fun p=>bo (fJ (A:=YU) (c:=YU.g) (m:=4) (g:=fun e=>[i64 e.lH,i64 e.gS,i64 e.iQ,i64 e.jM]) (fun _=>⟨rfl,rfl⟩) (fK3 rfl) b _) fun e=>bo (Yg d e))) fun q=>iy<|bo (dN true YU.g b [h])
def pH1 (f:aA YU) (e:Int):aB Int:=
 if(decide (e<0))||(decide (e>128))then some 2 else if decide ((f.length:Int)>16)then some 9 else(aS (E:=(Int×(aA YU))⊕(aA YU)) (fun(⟨b,c⟩:Int×(aA YU))=>dM f b (fun a=>(if(((decide (a.gS<1))||(decide (a.gS>e)))||(decide (a.lH<0)))||(decide (a.lH>(bF (e-a.gS))))then some true else(iM1 a.iQ).bind fun g=>some (!g):aB Bool).bind fun h=>(if h then some true else(iM1 a.jM).bind fun i=>some (!i):aB Bool).bind fun j=>if j||(a.iQ==a.jM)then some (.inr (.inl (2,c)))else(if decide (b>0)then(bU f (bF (b-1))).bind fun k=>(pG1 k a).bind fun l=>some (decide (l>0))else some false:aB Bool).bind fun m=>if m then some (.inr (.inl (25,c)))else(Yh a c).bind fun⟨n,d⟩=>if !n then some (.inr (.inl (21,d)))else some (.inl (bF (b+1),d))) (some (.inr (.inr c)))) bK (0,[])).bind fun o=>(match o with|.inl ⟨x25,x26⟩=>some x25|.inr x27=>some 0)
def fI2 (c:aA YU) (i:Int):OD k (d+3) 251 [iK c,i64 i]=(pH1 c i).map i64:=oe rfl<|by
 refine bz (kB rfl) ?_;refine iy ?_;refine bl ?_;refine iy ?_;refine bl ?_;refine bo (zLo (S:=Int×(aA YU)) (fun⟨e,b⟩=>(Q [jH 0 c,aY 1 i,(6,.fn 255 [] [.ref 0 0]),jH 19 c,cP 20 c,aY 21 e] [(1,.lst 276 4 true (I YU.g b)),(0,.box [.own 1])])) (fun|.inl ⟨f,h⟩=>(rq [aY 4 f] [(1,.lst 276 4 true (I YU.g h)),(0,.box [.own 1])])|.inr x27=>(xq 0 [] [(1,.lst 276 4 true (I YU.g x27)),(0,.box [.own 1])])) (fun⟨e,b⟩=>?_) (0,[])) fun l=>?_;refine ig fun a=>?_;refine bz (kB rfl) ?_;refine bz (kB rfl) ?_;refine bz (kB rfl) ?_;refine be ?_ fun n=>?_;refine iy ?_;refine bo (uY1 (d+1) a.iQ) fun m=>?_;rfl;refine be ?_ fun p=>?_;refine iy ?_;refine bo (uY1 (d+1) a.jM) fun o=>?_;rfl;refine bz (kB rfl) ?_;refine iy ?_;refine be ?_ fun r=>?_;refine ig fun j=>?_;refine bo (fH2 (d+1) j a) fun q=>?_;rfl;refine iy ?_;refine bo (yK1 d a b) fun⟨s,t⟩=>?_;refine io;rcases l with⟨f,h⟩|x27;rfl;rfl
def pI1 (a:YU) (b:Int):aB Bool:=
 some ((decide (b>=a.lH))&&(decide ((bF (b-a.lH))<a.gS)))
def fJ2 a b:OD k (d+1) 261 [pQ a,i64 b]=(pI1 a b).map bv:=oe rfl<|bz (jC rfl)
def pJ1 (c d:Int):aB Int:=
 (aS (fun(⟨b,a⟩:Int×Int)=>if decide (a>0)then(bF1 .i64 b a).bind fun e=>some (.inl (a,e))else some (.inr b)) bK (c,d)).bind fun f=>some f
def fK2 a b:OD k (d+1) 262 [i64 a,i64 b]=(pJ1 a b).map i64:=oe rfl<|bo (zLo (fun⟨c,e⟩=>(Q [aY 0 c,aY 1 e] [])) (fun(f:Int)=>(xq 0 [aY 0 f] [])) (fun⟨c,e⟩=>io<|bo oi) (a,b))
def pK1 (m:aA YU) (n:Int):aB (Int×Int):=
 (aS (fun(⟨b,c,d⟩:Int×Int×Int)=>dM m d (fun a=>(pI1 a n).bind fun f=>(if f then(pJ1 (bF (b*a.jM)) (bF (c*a.iQ))).bind fun e=>(Rk .i64 (bF (b*a.jM)) e).bind fun g=>(Rk .i64 (bF (c*a.iQ)) e).bind fun h=>some (g,h)else some (b,c):aB (Int×Int)).bind fun⟨i,j⟩=>some (.inl (i,j,bF (d+1)))) (some (.inr (b,c)))) bK (1,1,0)).bind fun⟨k,l⟩=>some (k,l)
def fL2 (g:aA YU) (j:Int):OD k (d+2) 259 [iK g,i64 j]=(pK1 g j).map (fun⟨r,s⟩=>.tup [i64 r,i64 s]):=oe rfl<|by
 refine bl ?_;refine bo (zLo (S:=Int×Int×Int) (fun⟨b,c,f⟩=>(Q [aY 1 j,aY 4 b,aY 5 c,jH 9 g,cP 10 g,aY 11 f] [])) (fun(⟨l,m⟩:Int×Int)=>(xq 0 [aY 4 l,aY 5 m] [])) (fun⟨b,c,f⟩=>?_) (1,1,0)) fun⟨l,m⟩=>?_;refine ig fun a=>?_;refine bo (fJ2 d a j) fun n=>?_;refine bo (e:=(fun(⟨h,i⟩:Int×Int)=>(nq [aY 1 j,aY 4 h,aY 5 i,jH 9 g,cP 10 g,aY 11 f] [jI 0 a]))) ?_ fun⟨h,i⟩=>?_;refine io ?_;refine bo (fK2 d (bF (b*a.jM)) (bF (c*a.iQ))) fun o=>?_;refine bo oi fun p=>?_;refine bo oi fun q=>?_;rfl;rfl;rfl
def iN1 (d:aA YU) (e a:Int):aB (Int×Int):=
 if(decide (a<0))||(decide (a>7741440))then some (0,2)else(pK1 d e).bind fun⟨b,c⟩=>(bF1 .i64 (bF (a*b)) c).bind fun f=>if f !=0 then some (0,16)else(Rk .i64 (bF (a*b)) c).bind fun g=>some (g,0)
def uZ1 a b c:OD k (d+3) 252 [iK a,i64 b,i64 c]=(iN1 a b c).map (fun⟨e,f⟩=>.tup [i64 e,i64 f]):=oe rfl<|bz (kB rfl)<|iy<|bo (fL2 d a b) fun⟨g,h⟩=>bo oi fun i=>iy<|bo oi
def iO1 (i:aA YU) (g:aA Int):aB ((aA Int)×Int):=
 (pH1 i (g.length:Int)).bind fun j=>if j !=0 then some ([],j)else(Cb 0 (g.length:Int) 0).bind fun k=>(aS (E:=(Int×(aA Int))⊕(aA Int)) (fun(⟨h,a⟩:Int×(aA Int))=>dM g h (fun c=>(iN1 i h c).bind fun⟨d,b⟩=>if b !=0 then some (.inr (.inl (b,a)))else(lM true a [d]).bind fun e=>some (.inl (bF (h+1),e))) (some (.inr (.inr a)))) bK (0,k)).bind fun f=>(match f with|.inl ⟨x15,x16⟩=>some ([],x15)|.inr x17=>some (x17,0))
def vA1 (b:aA YU) (f:aA Int):OD k (d+4) 248 [iK b,oF f]=(iO1 b f).map (fun⟨o,p⟩=>.tup [oF o,i64 p]):=oe rfl<|by
 refine bl ?_;refine bo (fI2 d b (f.length:Int)) fun q=>?_;refine iy ?_;refine bl ?_;refine bo (oK cI _ _ 0) fun n=>?_;refine bl ?_;refine bo (zLo (S:=Int×(aA Int)) (fun⟨j,a⟩=>(Q [jH 0 b,(7,.own 0),uE 22 f,cP 23 f,aY 24 j] [(0,.lst 3 1 true (I cI a))])) (fun|.inl ⟨c,e⟩=>(rq [(4,.is 1 (I cI [])),aY 5 c,(7,.own 0)] [(0,.lst 3 1 true (I cI e))])|.inr x17=>(xq 0 [(7,.own 0)] [(0,.lst 3 1 true (I cI x17))])) (fun⟨j,a⟩=>?_) (0,n)) fun i=>?_;refine ig fun g=>?_;refine bo (uZ1 d b j g) fun⟨h,l⟩=>?_;refine iy ?_;refine bo (dN true cI a [h]) fun m=>?_;rfl;rcases i with⟨c,e⟩|x17;rfl;rfl
def pL1 (d:aA YU) (n:Int) (o:aA Int):aB (Int×Bool):=
 (bU d n).bind fun m=>(aS (E:=Int⊕Int) (fun(⟨c,a⟩:Int×Int)=>(Vh m).bind fun e=>if decide (a<e)then(wM d (bF (n+1)) ((d).length)).bind fun f=>(bU o a).bind fun g=>(iN1 f a g).bind fun⟨h,i⟩=>if i !=0 then some (.inr (.inl c))else some (.inl (bF (c+h),bF (a+1)))else some (.inr (.inr c))) bK (0,m.lH)).bind fun j=>(match j with|.inl x17=>some (0,false)|.inr x18=>(aS (E:=Int⊕Unit) (fun(b:Int)=>if decide (b<=8)then(Ux .i64 3870720 (bF (b+1))).bind fun k=>if x18==(bF (m.iQ*k))then some (.inr (.inl b))else some (.inl (bF (b+1)))else some (.inr (.inr ()))) bK (-1)).bind fun l=>(match l with|.inl x23=>some (x23,true)|.inr _=>some (0,false)))
def fM2 (h:aA YU) (m:Int) (o:aA Int):OD k (d+4) 253 [iK h,i64 m,oF o]=(pL1 h m o).map (fun⟨t,u⟩=>.tup [i64 t,bv u]):=oe rfl<|by
 refine bo rg fun a=>?_;refine bo (zLo (S:=Int×Int) (fun⟨c,b⟩=>(Q [jH 0 h,aY 1 m,uE 2 o,bQ 8 0,aY 9 c,aY 10 b] [jI 0 a])) (fun|.inl e=>(rq [aY 6 0,(7,bv false),bQ 8 0,aY 9 e] [jI 0 a])|.inr x18=>(xq 0 [bQ 8 0,aY 9 x18] [jI 0 a])) (fun⟨c,b⟩=>?_) (0,a.lH)) fun l=>?_;refine bo (Yg (d+2) a) fun p=>?_;refine io ?_;refine bo (Hv _ _ _) fun i=>?_;refine bo rg fun j=>?_;refine bo (uZ1 d i b j) fun⟨q,r⟩=>?_;refine io;rcases l with e|x18;rfl;refine bo (zLo (fun f=>(Q [bQ 8 0,aY 9 x18,aY 13 f] [jI 0 a])) (fun|.inl g=>(rq [aY 6 g,(7,bv true)] [jI 0 a])|.inr _=>(xq 2 [] [jI 0 a])) (fun f=>?_) (-1)) fun n=>?_;refine io ?_;refine bo oi fun s=>?_;refine io;rcases n with g|_;rfl;rfl
def pM1 (b:aA YU) (h:aA Int):aB ((aA Int)×Int):=
 (iO1 b h).bind fun⟨k,i⟩=>if i !=0 then some ([],i)else(Cb 0 (b.length:Int) 0).bind fun j=>(aS (E:=(aA Int)⊕(aA Int)) (fun(⟨g,a⟩:Int×(aA Int))=>if decide (g<(b.length:Int))then(pL1 b g h).bind fun⟨c,d⟩=>if !d then some (.inr (.inl a))else(lM true a [c]).bind fun e=>some (.inl (bF (g+1),e))else some (.inr (.inr a))) bK (0,j)).bind fun f=>(match f with|.inl x14=>some ([],21)|.inr x15=>some (x15,0))
def fN2 b f:OD k (d+5) 249 [iK b,oF f]=(pM1 b f).map (fun⟨l,m⟩=>.tup [oF l,i64 m]):=oe rfl<|bo (vA1 d b f) fun⟨n,o⟩=>iy<|bl<|bo (oK cI _ _ 0) fun j=>bl<|bo (zLo (fun⟨h,a⟩=>(Q [jH 0 b,uE 1 f,(8,.own 0),cP 25 b,aY 26 h] [(0,.lst 3 1 true (I cI a))])) (fun|.inl c=>(rq [(4,.is 1 (I cI [])),aY 5 21,(8,.own 0)] [(0,.lst 3 1 true (I cI c))])|.inr e=>(xq 0 [(8,.own 0)] [(0,.lst 3 1 true (I cI e))])) (fun⟨h,a⟩=>io<|bo (fM2 d b h f) fun⟨g,i⟩=>iy<|bo (dN true cI a [g])) (0,j)) fun|.inl c=>rfl|.inr e=>rfl
def pN1 (a:YO):aB ((aA Int)×Int):=
 (aS (E:=Int⊕Unit) (fun(e:Int)=>dM a.aW e (fun f=>(Ns f).bind fun g=>if g !=0 then some (.inr (.inl g))else if(f.dH==3)&&((decide (e>0))||(decide ((a.aW.length:Int)>1)))then some (.inr (.inl 11))else some (.inl (bF (e+1)))) (some (.inr (.inr ())))) bK 0).bind fun j=>(match j with|.inl x7=>some ([],x7)|.inr _=>(pF1 a.aW).bind fun h=>(iO1 a.cT h).bind fun⟨c,b⟩=>if b !=0 then some ([],b)else(pM1 a.cT h).bind fun⟨i,d⟩=>if d !=0 then some ([],21)else some (c,0))
def fO2 a:OD k (d+11) 244 [iU a]=(pN1 a).map (fun⟨l,m⟩=>.tup [oF l,i64 m]):=oe rfl<|bl<|bo (zLo (fun b=>(Q [bQ 1 0,gI 13 a.aW,cP 14 a.aW,aY 15 b] [dI 0 a])) (fun|.inl c=>(rq [bQ 1 0,(2,.is 1 (I cI [])),aY 3 c] [dI 0 a])|.inr _=>(xq 0 [bQ 1 0] [dI 0 a])) (fun b=>ig fun j=>bo (cJ1 (d+2) j) fun n=>iy<|bz (jC (bz (kB (bz lm rfl)) rfl)) io) 0) fun|.inl c=>rfl|.inr _=>bo (fG2 d a.aW) fun e=>bo (vA1 (d+6) a.cT e) fun⟨f,g⟩=>iy<|bo (fN2 (d+5) a.cT e) fun⟨h,i⟩=>io
def pO1 (a:YO) (b:Int):aB ((aA Int)×Int):=
 if(decide (b<1))||(decide (b>15482880))then some ([],2)else if decide ((a.aW.length:Int)>128)then some ([],9)else(pB1 a).bind fun d=>if d&&((a.aW.length:Int)==1)then(bU a.aW 0).bind fun e=>(Ns e).bind fun c=>if c !=0 then some ([],c)else if decide ((a.cT.length:Int)>0)then some ([],21)else some ([b],0)else(pN1 a).bind fun⟨f,g⟩=>some (f,g)
def fP2 a b:OD k (d+12) 232 [iU a,i64 b]=(pO1 a b).map (fun⟨e,f⟩=>.tup [oF e,i64 f]):=oe rfl<|bz (kB rfl)<|iy<|bl<|iy<|bo (fC2 (d+10) a) fun g=>bz (jC (bz lm rfl))<|io (bo rg fun c=>bo (cJ1 (d+3) c) fun h=>iy<|bl io)<|bo (fO2 d a)
def pP1 (c:aA Int):aB Int:=
 (aS (fun(⟨a,b⟩:Int×Int)=>dM c b (fun d=>some (.inl (bF (a+d),bF (b+1)))) (some (.inr a))) bK (0,0)).bind fun e=>some e
def fQ2 a:OD k (d+1) 233 [oF a]=(pP1 a).map i64:=oe rfl<|bl<|bo (zLo (fun⟨b,c⟩=>(Q [aY 3 b,uE 6 a,cP 7 a,aY 8 c] [])) (fun(e:Int)=>(xq 0 [aY 3 e] [])) (fun⟨b,c⟩=>ig fun f=>rfl) (0,0))
def iP1 (e:YO) (b:Int):aB ((aA Int)×Int):=
 (pO1 e b).bind fun⟨a,c⟩=>(if(c==0)&&(decide ((a.length:Int)>0))then(pP1 a).bind fun f=>some (f !=b)else some false:aB Bool).bind fun g=>(if g then some 20 else some c:aB Int).bind fun d=>if d !=0 then some ([],d)else some (a,0)
def vB1 a b:OD k (d+13) 198 [iU a,i64 b]=(iP1 a b).map (fun⟨g,h⟩=>.tup [oF g,i64 h]):=oe rfl<|bo (fP2 d a b) fun⟨c,i⟩=>bz (jC (bz lm rfl))<|be (io<|bo (fQ2 (d+11) c)) fun j=>bo (e:=(fun(f:Int)=>(nq [uE 6 c,aY 7 f] [dI 0 a]))) io fun f=>io
def iQ1 (a:YO) (b:Int):aB Int:=
 (iP1 a b).bind fun⟨d,c⟩=>some c
def vC1 a b:OD k (d+14) 147 [iU a,i64 b]=(iQ1 a b).map i64:=oe rfl<|bo (vB1 d a b)
def F93 (a:Int):aB Bool:=
 some ((a==11)||(a==20))
def fS2 a:OD k (d+1) 93 [i64 a]=(F93 a).map bv:=oe rfl<|bz (kB rfl)
def pQ1 (a:YO) (b:Int):aB Bool:=
 (iL1 a.aW).bind fun c=>(if !c then(iQ1 a b).bind fun d=>(F93 d).bind fun e=>some e else some false:aB Bool).bind fun f=>some f
def fT2 a b:OD k (d+15) 145 [iU a,.ip [.fn 141 [] []],.ip [.fn 93 [] []],.ip [i64 b]]=(pQ1 a b).map bv:=oe rfl<|bo (uX1 (d+3) a.aW) fun e=>be (io<|bo (vC1 d a b) fun c=>bo (fS2 (d+13) c))
def pR1 (b:aA YO) (c:Int):aB Int:=
 (aS (E:=Int⊕Unit) (fun(a:Int)=>dM b a (fun d=>(pQ1 d c).bind fun e=>if e then some (.inr (.inl a))else some (.inl (bF (a+1)))) (some (.inr (.inr ())))) bK 0).bind fun f=>(match f with|.inl x8=>some x8|.inr _=>some (-1))
def fU2 a b:OD k (d+16) 196 [lN a,.fn 145 [] [.ip [.fn 141 [] []],.ip [.fn 93 [] []],.ip [i64 b]]]=(pR1 a b).map i64:=oe rfl<|bl<|bo (zLo (fun c=>(Q [dV 0 a,(1,.fn 145 [] [.ip [.fn 141 [] []],.ip [.fn 93 [] []],.ip [i64 b]]),cP 7 a,aY 8 c] [])) (Sx 4) (fun c=>ig fun e=>bo (fT2 d e b) fun f=>io) 0) fun|.inl g=>rfl|.inr _=>rfl
def pS1 (a:aA YO) (b:Int):aB Bool:=
 (pR1 a b).bind fun c=>some (decide (c>=0))
def fV2 a b:OD k (d+17) 144 [lN a,.fn 145 [] [.ip [.fn 141 [] []],.ip [.fn 93 [] []],.ip [i64 b]]]=(pS1 a b).map bv:=oe rfl<|bo (fU2 d a b)
def pT1 (a:YW) (b:Int):aB Bool:=
 (pS1 a.aT b).bind fun c=>some c
def fW2 a b:OD k (d+18) 143 [uD a,.ip [.fn 141 [] []],.ip [.fn 93 [] []],.ip [i64 b]]=(pT1 a b).map bv:=oe rfl<|bo (fV2 d a.aT b)
def pU1 (b:aA YW) (c:Int):aB Int:=
 (aS (E:=Int⊕Unit) (fun(a:Int)=>dM b a (fun d=>(pT1 d c).bind fun e=>if e then some (.inr (.inl a))else some (.inl (bF (a+1)))) (some (.inr (.inr ())))) bK 0).bind fun f=>(match f with|.inl x8=>some x8|.inr _=>some (-1))
def fX2 a b:OD k (d+19) 195 [mA a,.fn 143 [] [.ip [.fn 141 [] []],.ip [.fn 93 [] []],.ip [i64 b]]]=(pU1 a b).map i64:=oe rfl<|bl<|bo (zLo (fun c=>(Q [cK 0 a,(1,.fn 143 [] [.ip [.fn 141 [] []],.ip [.fn 93 [] []],.ip [i64 b]]),cP 7 a,aY 8 c] [])) (Sx 4) (fun c=>ig fun e=>bo (fW2 d e b) fun f=>io) 0) fun|.inl g=>rfl|.inr _=>rfl
def pV1 (a:aA YW) (b:Int):aB Bool:=
 (pU1 a b).bind fun c=>some (decide (c>=0))
def fY2 a b:OD k (d+20) 142 [mA a,.fn 143 [] [.ip [.fn 141 [] []],.ip [.fn 93 [] []],.ip [i64 b]]]=(pV1 a b).map bv:=oe rfl<|bo (fX2 d a b)
def pW1 (e:Int) (a:YM):aB Bool:=
 (F90 a).bind fun⟨b,c⟩=>if c !=0 then some false else(pV1 a.aO b).bind fun d=>some d
def fZ2 b a:OD k (d+21) 140 [i64 b,eF a,.ip [.fn 93 [] []]]=(pW1 b a).map bv:=oe rfl<|bo (cE1 (d+16) a) fun⟨c,e⟩=>iy<|bo (fY2 d a.aO c)
def Mi (h:aA YV) (e:Y0) (i:Int):aB (aA YV):=
 (aS (fun(⟨d,f⟩:Int×(aA YV))=>dM e.aF d (fun g=>(pW1 d g).bind fun a=>(mP a g.ID f e i).bind fun b=>some (.inl (bF (d+1),b))) (some (.inr f))) bK (0,h)).bind fun c=>some c
def pX1 c a b:gN (XD k (d+22)) 86 [.ref 1 0,.fn 140 [] [.ref 3 0]] ((3,.box [.fn 93 [] []])::cL c a b) 4 false=(Mi c a b).map (fun(g:aA YV)=>(.tup [],((3,.box [.fn 93 [] []])::cL g a b),0)):=by rw[xd (fn:=p86) rfl];exact bl<|bo (zLo (fun⟨h,i⟩=>(Q [bQ 0 1,(1,.fn 140 [] [.ref 3 0]),aX 10 a.aF,cP 11 a.aF,aY 12 h] ((3,.box [.fn 93 [] []])::cL i a b))) (fun(f:aA YV)=>(xq 0 [] ((3,.box [.fn 93 [] []])::cL f a b))) (fun⟨h,i⟩=>ig fun j=>bo (fZ2 d h j) fun e=>bo (lG (d+20) e j.ID i a b)) (0,c))
def pY1 (a:aA YV) (b:Y0) (c:Int):aB (aA YV):=
 (Mi a b c).bind fun d=>some d
def gA2 c a b:gN (XD k (d+23)) 92 [.ref 1 0,.fn 93 [] []] (cL c a b) 3 false=(pY1 c a b).map (fun(e:aA YV)=>(.tup [],cL e a b,0)):=by rw[xd (fn:=p92) rfl];exact bo (pX1 d c a b)
def iR1 (a:aA YV) (b:Y0) (c:Int):aB (aA YV):=
 (pY1 a b c).bind fun d=>some d
def gB2 c a b:gN (XD k (d+24)) 49 [.ref 1 0] (cL c a b) 3 false=(iR1 c a b).map (fun(e:aA YV)=>(.tup [],cL e a b,0)):=by rw[xd (fn:=p49) rfl];exact bo (gA2 d c a b)
def F94 (a:Int):aB Bool:=
 (if a !=0 then(F93 a).bind fun b=>some (!b)else some false:aB Bool).bind fun c=>some c
def tA2 a:OD k (d+2) 94 [i64 a]=(F94 a).map bv:=oe rfl<|be (io<|bo (fS2 d a))
def Mj (a:YO) (b:Int):aB Bool:=
 (iL1 a.aW).bind fun c=>(if !c then(iQ1 a b).bind fun d=>(F94 d).bind fun e=>some e else some false:aB Bool).bind fun f=>some f
def pZ1 a b:OD k (d+15) 145 [iU a,.ip [.fn 141 [] []],.ip [.fn 94 [] []],.ip [i64 b]]=(Mj a b).map bv:=oe rfl<|bo (uX1 (d+3) a.aW) fun e=>be (io<|bo (vC1 d a b) fun c=>bo (tA2 (d+12) c))
def Mk (b:aA YO) (c:Int):aB Int:=
 (aS (E:=Int⊕Unit) (fun(a:Int)=>dM b a (fun d=>(Mj d c).bind fun e=>if e then some (.inr (.inl a))else some (.inl (bF (a+1)))) (some (.inr (.inr ())))) bK 0).bind fun f=>(match f with|.inl x8=>some x8|.inr _=>some (-1))
def qA1 a b:OD k (d+16) 196 [lN a,.fn 145 [] [.ip [.fn 141 [] []],.ip [.fn 94 [] []],.ip [i64 b]]]=(Mk a b).map i64:=oe rfl<|bl<|bo (zLo (fun c=>(Q [dV 0 a,(1,.fn 145 [] [.ip [.fn 141 [] []],.ip [.fn 94 [] []],.ip [i64 b]]),cP 7 a,aY 8 c] [])) (Sx 4) (fun c=>ig fun e=>bo (pZ1 d e b) fun f=>io) 0) fun|.inl g=>rfl|.inr _=>rfl
def Ml (a:aA YO) (b:Int):aB Bool:=
 (Mk a b).bind fun c=>some (decide (c>=0))
def qB1 a b:OD k (d+17) 144 [lN a,.fn 145 [] [.ip [.fn 141 [] []],.ip [.fn 94 [] []],.ip [i64 b]]]=(Ml a b).map bv:=oe rfl<|bo (qA1 d a b)
def Mn (a:YW) (b:Int):aB Bool:=
 (Ml a.aT b).bind fun c=>some c
def qC1 a b:OD k (d+18) 143 [uD a,.ip [.fn 141 [] []],.ip [.fn 94 [] []],.ip [i64 b]]=(Mn a b).map bv:=oe rfl<|bo (qB1 d a.aT b)
def Mo (b:aA YW) (c:Int):aB Int:=
 (aS (E:=Int⊕Unit) (fun(a:Int)=>dM b a (fun d=>(Mn d c).bind fun e=>if e then some (.inr (.inl a))else some (.inl (bF (a+1)))) (some (.inr (.inr ())))) bK 0).bind fun f=>(match f with|.inl x8=>some x8|.inr _=>some (-1))
def qD1 a b:OD k (d+19) 195 [mA a,.fn 143 [] [.ip [.fn 141 [] []],.ip [.fn 94 [] []],.ip [i64 b]]]=(Mo a b).map i64:=oe rfl<|bl<|bo (zLo (fun c=>(Q [cK 0 a,(1,.fn 143 [] [.ip [.fn 141 [] []],.ip [.fn 94 [] []],.ip [i64 b]]),cP 7 a,aY 8 c] [])) (Sx 4) (fun c=>ig fun e=>bo (qC1 d e b) fun f=>io) 0) fun|.inl g=>rfl|.inr _=>rfl
def Mp (a:aA YW) (b:Int):aB Bool:=
 (Mo a b).bind fun c=>some (decide (c>=0))
def qE1 a b:OD k (d+20) 142 [mA a,.fn 143 [] [.ip [.fn 141 [] []],.ip [.fn 94 [] []],.ip [i64 b]]]=(Mp a b).map bv:=oe rfl<|bo (qD1 d a b)
def Mq (e:Int) (a:YM):aB Bool:=
 (F90 a).bind fun⟨b,c⟩=>if c !=0 then some false else(Mp a.aO b).bind fun d=>some d
def qF1 b a:OD k (d+21) 140 [i64 b,eF a,.ip [.fn 94 [] []]]=(Mq b a).map bv:=oe rfl<|bo (cE1 (d+16) a) fun⟨c,e⟩=>iy<|bo (qE1 d a.aO c)
def Mr (h:aA YV) (e:Y0) (i:Int):aB (aA YV):=
 (aS (fun(⟨d,f⟩:Int×(aA YV))=>dM e.aF d (fun g=>(Mq d g).bind fun a=>(mP a g.ID f e i).bind fun b=>some (.inl (bF (d+1),b))) (some (.inr f))) bK (0,h)).bind fun c=>some c
def qG1 c a b:gN (XD k (d+22)) 86 [.ref 1 0,.fn 140 [] [.ref 3 0]] ((3,.box [.fn 94 [] []])::cL c a b) 4 false=(Mr c a b).map (fun(g:aA YV)=>(.tup [],((3,.box [.fn 94 [] []])::cL g a b),0)):=by rw[xd (fn:=p86) rfl];exact bl<|bo (zLo (fun⟨h,i⟩=>(Q [bQ 0 1,(1,.fn 140 [] [.ref 3 0]),aX 10 a.aF,cP 11 a.aF,aY 12 h] ((3,.box [.fn 94 [] []])::cL i a b))) (fun(f:aA YV)=>(xq 0 [] ((3,.box [.fn 94 [] []])::cL f a b))) (fun⟨h,i⟩=>ig fun j=>bo (qF1 d h j) fun e=>bo (lG (d+20) e j.ID i a b)) (0,c))
def Ms (a:aA YV) (b:Y0) (c:Int):aB (aA YV):=
 (Mr a b c).bind fun d=>some d
def qH1 c a b:gN (XD k (d+23)) 92 [.ref 1 0,.fn 94 [] []] (cL c a b) 3 false=(Ms c a b).map (fun(e:aA YV)=>(.tup [],cL e a b,0)):=by rw[xd (fn:=p92) rfl];exact bo (qG1 d c a b)
def iS1 (a:aA YV) (b:Y0) (c:Int):aB (aA YV):=
 (Ms a b c).bind fun d=>some d
def gC2 c a b:gN (XD k (d+24)) 50 [.ref 1 0] (cL c a b) 3 false=(iS1 c a b).map (fun(e:aA YV)=>(.tup [],cL e a b,0)):=by rw[xd (fn:=p50) rfl];exact bo (qH1 d c a b)
def F96 (c:YP) (a:YE):aB Bool:=
 (Ns a).bind fun b=>some (b !=0)
def tB2 b a:OD k (d+9) 96 [eY b,eS a]=(F96 b a).map bv:=oe rfl<|bo (cJ1 d a)
def cK1 (t:aA YV) (s:Y0) (u:Int):aB (aA YV):=
 (aS (fun(⟨d,m⟩:Int×(aA YV))=>dM s.aF d (fun p=>(aS (fun(⟨e,n⟩:Int×(aA YV))=>dM p.aO e (fun q=>(aS (fun(⟨f,o⟩:Int×(aA YV))=>dM q.aT f (fun r=>(aS (fun(⟨a,b⟩:Int×(aA YV))=>dM r.aW a (fun c=>(F96 (YP.mk 4 0 e d f a 0) c).bind fun g=>(mP g c.ID b s u).bind fun h=>some (.inl (bF (a+1),h))) (some (.inr b))) bK (0,o)).bind fun i=>some (.inl (bF (f+1),i))) (some (.inr o))) bK (0,n)).bind fun j=>some (.inl (bF (e+1),j))) (some (.inr n))) bK (0,m)).bind fun k=>some (.inl (bF (d+1),k))) (some (.inr m))) bK (0,t)).bind fun l=>some l
def gD2 w c h:gN (XD k (d+10)) 95 [.ref 1 0,.fn 96 [] []] (cL w c h) 3 false=(cK1 w c h).map (fun(v:aA YV)=>(.tup [],cL v c h,0)):=by rw[xd (fn:=p95) rfl];exact bl<|bo (zLo (fun⟨b,n⟩=>(Q [bQ 0 1,(1,.fn 96 [] []),aX 16 c.aF,cP 17 c.aF,aY 18 b] (cL n c h))) (fun(u:aA YV)=>(xq 0 [] (cL u c h))) (fun⟨b,n⟩=>ig fun a=>bl<|bo (zLo (fun⟨e,o⟩=>(Q [bQ 0 1,(1,.fn 96 [] []),aY 4 b,aX 16 c.aF,cP 17 c.aF,aY 18 b,cK 24 a.aO,cP 25 a.aO,aY 26 e] (aV 3 a::cL o c h))) (fun(t:aA YV)=>(xq 2 [bQ 0 1,(1,.fn 96 [] []),aX 16 c.aF,cP 17 c.aF,aY 18 b] (aV 3 a::cL t c h))) (fun⟨e,o⟩=>ig fun f=>bl<|bo (zLo (fun⟨g,p⟩=>(Q [bQ 0 1,(1,.fn 96 [] []),aY 4 b,aY 6 e,aX 16 c.aF,cP 17 c.aF,aY 18 b,cK 24 a.aO,cP 25 a.aO,aY 26 e,dV 32 f.aT,cP 33 f.aT,aY 34 g] (dQ 4 f::aV 3 a::cL p c h))) (fun(s:aA YV)=>(xq 4 [bQ 0 1,(1,.fn 96 [] []),aY 4 b,aX 16 c.aF,cP 17 c.aF,aY 18 b,cK 24 a.aO,cP 25 a.aO,aY 26 e] (dQ 4 f::aV 3 a::cL s c h))) (fun⟨g,p⟩=>ig fun l=>bl<|bo (zLo (fun⟨i,j⟩=>(Q [bQ 0 1,(1,.fn 96 [] []),aY 4 b,aY 6 e,aY 8 g,aX 16 c.aF,cP 17 c.aF,aY 18 b,cK 24 a.aO,cP 25 a.aO,aY 26 e,dV 32 f.aT,cP 33 f.aT,aY 34 g,gI 40 l.aW,cP 41 l.aW,aY 42 i] (dI 5 l::dQ 4 f::aV 3 a::cL j c h))) (fun(r:aA YV)=>(xq 6 [bQ 0 1,(1,.fn 96 [] []),aY 4 b,aY 6 e,aX 16 c.aF,cP 17 c.aF,aY 18 b,cK 24 a.aO,cP 25 a.aO,aY 26 e,dV 32 f.aT,cP 33 f.aT,aY 34 g] (dI 5 l::dQ 4 f::aV 3 a::cL r c h))) (fun⟨i,j⟩=>ig fun m=>bo (tB2 d (YP.mk 4 0 e b g i 0) m) fun q=>bo (lG (d+8) q m.ID j c h)) (0,p))) (0,o))) (0,n))) (0,w))
def cL1 (a:aA YV) (b:Y0) (c:Int):aB (aA YV):=
 (cK1 a b c).bind fun d=>some d
def gE2 c a b:gN (XD k (d+11)) 51 [.ref 1 0] (cL c a b) 3 false=(cL1 c a b).map (fun(e:aA YV)=>(.tup [],cL e a b,0)):=by rw[xd (fn:=p51) rfl];exact bo (gD2 d c a b)
end Go.P
namespace Go.P
open Go.Sim (Ex iV CK)
open K (I Q rq nq xq ck)
variable {k:Bool} (d:Nat)
def F42 (e:Y0) (c:Int):aB (Int×Int×Int):=
 if decide (c<0)then some (0,0,2)else(aS (E:=(Int×Int)⊕Unit) (fun(⟨a,b⟩:Int×Int)=>dM e.aU b (fun d=>if decide (a<(d.cO.length:Int))then some (.inr (.inl (b,a)))else some (.inl (bF (a-(d.cO.length:Int)),bF (b+1)))) (some (.inr (.inr ())))) bK (c,0)).bind fun f=>(match f with|.inl ⟨x7,x8⟩=>some (x7,x8,0)|.inr _=>some (0,0,2))
def gF2 a b:OD k (d+1) 42 [cV a,i64 b]=(F42 a b).map (fun⟨h,i,j⟩=>.tup [i64 h,i64 i,i64 j]):=oe rfl<|iy<|bl<|bo (zLo (S:=Int×Int) (fun⟨c,e⟩=>(Q [aY 1 c,jD 12 a.aU,cP 13 a.aU,aY 14 e] [aJ 0 a])) (fun|.inl ⟨f,g⟩=>(rq [aY 4 f,aY 5 g,aY 6 0] [aJ 0 a])|.inr _=>(xq 0 [] [aJ 0 a])) (fun⟨c,e⟩=>ig fun l=>bl<|iy bl) (b,0)) fun|.inl ⟨f,g⟩=>rfl|.inr _=>rfl
def F99 (a:YH) (b:Int):aB Bool:=
 (Hx a).bind fun⟨c,e⟩=>(Hl (bF (c+b)) 0 127).bind fun d=>some (!d)
def gG2 a b:OD k (d+5) 99 [fF a,.ip [i64 b]]=(F99 a b).map bv:=oe rfl<|bo (iJ1 d a) fun⟨c,e⟩=>bo (uF (d+3) (bF (c+b)) 0 127)
def Rz (a:YB) (b:Int):aB Bool:=
 (F99 a.cA b).bind fun c=>some c
def gH2 a b:OD k (d+6) 102 [yP a,.ip [.fn 99 [] [.ip [i64 b]]]]=(Rz a b).map bv:=oe rfl<|bo (gG2 d a.cA b)
def iT1 (b:aA YB) (c:Int):aB Int:=
 (aS (E:=Int⊕Unit) (fun(a:Int)=>dM b a (fun d=>(Rz d c).bind fun e=>if e then some (.inr (.inl a))else some (.inl (bF (a+1)))) (some (.inr (.inr ())))) bK 0).bind fun f=>(match f with|.inl x8=>some x8|.inr _=>some (-1))
def gI2 a b:OD k (d+7) 159 [jG a,.fn 102 [] [.ip [.fn 99 [] [.ip [i64 b]]]]]=(iT1 a b).map i64:=oe rfl<|bl<|bo (zLo (fun c=>(Q [nJ 0 a,(1,.fn 102 [] [.ip [.fn 99 [] [.ip [i64 b]]]]),cP 7 a,aY 8 c] [])) (Sx 4) (fun c=>ig fun e=>bo (gH2 d e b) fun f=>io) 0) fun|.inl g=>rfl|.inr _=>rfl
def cM1 (a:aA YB) (b:Int):aB Bool:=
 (iT1 a b).bind fun c=>some (decide (c>=0))
def gJ2 a b:OD k (d+8) 101 [jG a,.fn 102 [] [.ip [.fn 99 [] [.ip [i64 b]]]]]=(cM1 a b).map bv:=oe rfl<|bo (gI2 d a b)
def Sa (a:YD) (b:Int):aB Bool:=
 (F99 a.cA b).bind fun c=>some c
def gK2 a b:OD k (d+6) 104 [bQ1 a,.ip [.fn 99 [] [.ip [i64 b]]]]=(Sa a b).map bv:=oe rfl<|bo (gG2 d a.cA b)
def iU1 (b:aA YD) (c:Int):aB Int:=
 (aS (E:=Int⊕Unit) (fun(a:Int)=>dM b a (fun d=>(Sa d c).bind fun e=>if e then some (.inr (.inl a))else some (.inl (bF (a+1)))) (some (.inr (.inr ())))) bK 0).bind fun f=>(match f with|.inl x8=>some x8|.inr _=>some (-1))
def gL2 a b:OD k (d+7) 160 [kP a,.fn 104 [] [.ip [.fn 99 [] [.ip [i64 b]]]]]=(iU1 a b).map i64:=oe rfl<|bl<|bo (zLo (fun c=>(Q [sH 0 a,(1,.fn 104 [] [.ip [.fn 99 [] [.ip [i64 b]]]]),cP 7 a,aY 8 c] [])) (Sx 4) (fun c=>ig fun e=>bo (gK2 d e b) fun f=>io) 0) fun|.inl g=>rfl|.inr _=>rfl
def cN1 (a:aA YD) (b:Int):aB Bool:=
 (iU1 a b).bind fun c=>some (decide (c>=0))
def gM2 a b:OD k (d+8) 103 [kP a,.fn 104 [] [.ip [.fn 99 [] [.ip [i64 b]]]]]=(cN1 a b).map bv:=oe rfl<|bo (gL2 d a b)
def F98 (h:YP) (e:YE) (f:YK):aB Bool:=
 (Ns e).bind fun i=>if i !=0 then some false else(F42 f.s' h.iE).bind fun⟨j,m,k⟩=>(if k==0 then(bU f.s'.aU j).bind fun l=>some l.bG.bC else some 0:aB Int).bind fun g=>(if f.s'.cJ then some (bF (0-g))else some g:aB Int).bind fun a=>(cM1 e.cE a).bind fun b=>(if b then some true else(cN1 e.bR a).bind fun c=>some c:aB Bool).bind fun d=>some d
def tC2 c b f:OD k (d+9) 98 [eY c,eS b,.ip [dJ f]]=(F98 c b f).map bv:=oe rfl<|bo (cJ1 d b) fun i=>iy<|bo (gF2 (d+7) f.s' c.iE) fun⟨j,l,m⟩=>bo (e:=(fun(g:Int)=>(nq [(2,.ip [dJ f]),bQ 4 1,bQ 6 2] [(2,.box [i64 g]),gB 1 b,bM 0 c]))) (ig fun n=>rfl) fun g=>bo (e:=(fun(a:Int)=>(nq [bQ 4 1,bQ 6 2] [(2,.box [i64 a]),gB 1 b,bM 0 c]))) io fun a=>bo (gJ2 d b.cE a) fun h=>be (iy<|bo (gM2 d b.bR a))
def Ba (u:aA YV) (p:Y0) (t:Int):aB (aA YV):=
 (aS (fun(⟨d,m⟩:Int×(aA YV))=>dM p.aF d (fun q=>(aS (fun(⟨e,n⟩:Int×(aA YV))=>dM q.aO e (fun r=>(aS (fun(⟨f,o⟩:Int×(aA YV))=>dM r.aT f (fun s=>(aS (fun(⟨a,b⟩:Int×(aA YV))=>dM s.aW a (fun c=>(F98 (YP.mk 4 0 e d f a 0) c (YK.mk p t b)).bind fun g=>(mP g c.ID b p t).bind fun h=>some (.inl (bF (a+1),h))) (some (.inr b))) bK (0,o)).bind fun i=>some (.inl (bF (f+1),i))) (some (.inr o))) bK (0,n)).bind fun j=>some (.inl (bF (e+1),j))) (some (.inr n))) bK (0,m)).bind fun k=>some (.inl (bF (d+1),k))) (some (.inr m))) bK (0,u)).bind fun l=>some l
def qJ1 w c h:gN (XD k (d+10)) 95 [.ref 1 0,.fn 98 [] [.ref 3 0]] ((3,.box [.ref 1 0])::cL w c h) 4 false=(Ba w c h).map (fun(v:aA YV)=>(.tup [],((3,.box [.ref 1 0])::cL v c h),0)):=by rw[xd (fn:=p95) rfl];exact bl<|bo (zLo (fun⟨b,n⟩=>(Q [bQ 0 1,(1,.fn 98 [] [.ref 3 0]),aX 16 c.aF,cP 17 c.aF,aY 18 b] ((3,.box [.ref 1 0])::cL n c h))) (fun(u:aA YV)=>(xq 0 [] ((3,.box [.ref 1 0])::cL u c h))) (fun⟨b,n⟩=>ig fun a=>bl<|bo (zLo (fun⟨e,o⟩=>(Q [bQ 0 1,(1,.fn 98 [] [.ref 3 0]),aY 4 b,aX 16 c.aF,cP 17 c.aF,aY 18 b,cK 24 a.aO,cP 25 a.aO,aY 26 e] (aV 4 a::(3,.box [.ref 1 0])::cL o c h))) (fun(t:aA YV)=>(xq 2 [bQ 0 1,(1,.fn 98 [] [.ref 3 0]),aX 16 c.aF,cP 17 c.aF,aY 18 b] (aV 4 a::(3,.box [.ref 1 0])::cL t c h))) (fun⟨e,o⟩=>ig fun f=>bl<|bo (zLo (fun⟨i,p⟩=>(Q [bQ 0 1,(1,.fn 98 [] [.ref 3 0]),aY 4 b,aY 6 e,aX 16 c.aF,cP 17 c.aF,aY 18 b,cK 24 a.aO,cP 25 a.aO,aY 26 e,dV 32 f.aT,cP 33 f.aT,aY 34 i] (dQ 5 f::aV 4 a::(3,.box [.ref 1 0])::cL p c h))) (fun(s:aA YV)=>(xq 4 [bQ 0 1,(1,.fn 98 [] [.ref 3 0]),aY 4 b,aX 16 c.aF,cP 17 c.aF,aY 18 b,cK 24 a.aO,cP 25 a.aO,aY 26 e] (dQ 5 f::aV 4 a::(3,.box [.ref 1 0])::cL s c h))) (fun⟨i,p⟩=>ig fun l=>bl<|bo (zLo (fun⟨j,g⟩=>(Q [bQ 0 1,(1,.fn 98 [] [.ref 3 0]),aY 4 b,aY 6 e,aY 8 i,aX 16 c.aF,cP 17 c.aF,aY 18 b,cK 24 a.aO,cP 25 a.aO,aY 26 e,dV 32 f.aT,cP 33 f.aT,aY 34 i,gI 40 l.aW,cP 41 l.aW,aY 42 j] (dI 6 l::dQ 5 f::aV 4 a::(3,.box [.ref 1 0])::cL g c h))) (fun(r:aA YV)=>(xq 6 [bQ 0 1,(1,.fn 98 [] [.ref 3 0]),aY 4 b,aY 6 e,aX 16 c.aF,cP 17 c.aF,aY 18 b,cK 24 a.aO,cP 25 a.aO,aY 26 e,dV 32 f.aT,cP 33 f.aT,aY 34 i] (dI 6 l::dQ 5 f::aV 4 a::(3,.box [.ref 1 0])::cL r c h))) (fun⟨j,g⟩=>ig fun m=>bo (tC2 d (YP.mk 4 0 e b i j 0) m (YK.mk c h g)) fun q=>bo (lG (d+8) q m.ID g c h)) (0,p))) (0,o))) (0,n))) (0,w))
def cO1 (a:aA YV) (b:Y0) (c:Int):aB (aA YV):=
 (Ba a b c).bind fun d=>some d
def gN2 c a b:gN (XD k (d+11)) 52 [.ref 1 0] (cL c a b) 3 false=(cO1 c a b).map (fun(e:aA YV)=>(.tup [],cL e a b,0)):=by rw[xd (fn:=p52) rfl];exact bo (qJ1 d c a b)
def qK1 (a:YB):aB Bool:=
 some a.Hj
def gO2 a:OD k (d+1) 161 [yP a]=(qK1 a).map bv:=oe rfl<|rfl
def Mt (b:aA YB):aB Int:=
 (aS (E:=Int⊕Unit) (fun(a:Int)=>dM b a (fun c=>(qK1 c).bind fun d=>if d then some (.inr (.inl a))else some (.inl (bF (a+1)))) (some (.inr (.inr ())))) bK 0).bind fun e=>(match e with|.inl x7=>some x7|.inr _=>some (-1))
def qL1 a:OD k (d+2) 159 [jG a,.fn 161 [] []]=(Mt a).map i64:=oe rfl<|bl<|bo (zLo (fun b=>(Q [nJ 0 a,(1,.fn 161 [] []),cP 7 a,aY 8 b] [])) (Sx 4) (fun b=>ig fun c=>bo (gO2 d c) fun e=>io) 0) fun|.inl f=>rfl|.inr _=>rfl
def Mu (a:aA YB):aB Bool:=
 (Mt a).bind fun b=>some (decide (b>=0))
def qM1 a:OD k (d+3) 101 [jG a,.fn 161 [] []]=(Mu a).map bv:=oe rfl<|bo (qL1 d a)
def iV1 (a:YE):aB Bool:=
 (if a.dH==1 then(Mu a.cE).bind fun b=>some b else some false:aB Bool).bind fun c=>some c
def vD1 a:OD k (d+4) 106 [eS a]=(iV1 a).map bv:=oe rfl<|be (io<|bo (qM1 d a.cE))
def Mv (b:Y0) (a c g:Int):aB (aA YE):=
 (if((decide (a<0))||(decide (a>=(b.aF.length:Int))))||(decide (c<0))then some true else(bU b.aF a).bind fun h=>some (decide (c>=(h.aO.length:Int))):aB Bool).bind fun i=>(if i||(decide (g<0))then some true else(bU b.aF a).bind fun j=>(bU j.aO c).bind fun k=>some (decide (g>=(k.aT.length:Int))):aB Bool).bind fun l=>if l then some []else(bU b.aF a).bind fun d=>(bU d.aO c).bind fun e=>(bU e.aT g).bind fun f=>some f.aW
def Yi a b c e:OD k (d+1) 163 [cV a,i64 b,i64 c,i64 e]=(Mv a b c e).map (fun h=>kO h):=oe rfl<|bz (kB (bz lm rfl))<|bz (kB rfl)<|be (iy<|bo rg fun i=>bl) fun j=>bz (kB rfl)<|be (iy<|bo rg fun l=>bo rg fun m=>bl) fun n=>iy<|bo rg fun f=>bo rg fun g=>bo rg
def iW1 (b:Y0) (a:YP):aB Int:=
 if a.dH !=4 then some 11 else(if decide (a.pV<0)then some true else(Mv b a.dF a.iE a.iN).bind fun c=>some (decide (a.pV>=(c.length:Int))):aB Bool).bind fun d=>if d then some 2 else some 0
def vE1 b a:OD k (d+2) 162 [cV b,eY a]=(iW1 b a).map i64:=oe rfl<|iy<|be (iy<|bo (Yi d b a.dF a.iE a.iN) fun c=>bl) fun e=>io
def iX1 (a b:Int) (c d:Int):aB YP:=
 some (YP.mk 4 0 b a c d 0)
def vF1 a b c e:OD k (d+1) 164 [i64 a,i64 b,i64 c,i64 e]=(iX1 a b c e).map (fun f=>eY f):=oe rfl<|rfl
def iY1 (b:Y0) (a:YP):aB (YP×Bool):=
 (iW1 b a).bind fun c=>if c !=0 then some (YP.mk 0 0 0 0 0 0 0,false)else(Mv b a.dF a.iE a.iN).bind fun d=>if decide ((bF (a.pV+1))<(d.length:Int))then(iX1 a.dF a.iE a.iN (bF (a.pV+1))).bind fun e=>some (e,true)else(Mv b (bF (a.dF+1)) a.iE a.iN).bind fun f=>if decide ((f.length:Int)>0)then(iX1 (bF (a.dF+1)) a.iE a.iN 0).bind fun g=>some (g,true)else some (YP.mk 0 0 0 0 0 0 0,false)
def vG1 b a:OD k (d+3) 107 [cV b,eY a]=(iY1 b a).map (fun⟨c,e⟩=>.tup [eY c,bv e]):=oe rfl<|bo (vE1 d b a) fun f=>iy<|bo (Yi (d+1) b a.dF a.iE a.iN) fun g=>bl<|io (bo (vF1 (d+1) a.dF a.iE a.iN (bF (a.pV+1))))<|bo (Yi (d+1) b (bF (a.dF+1)) a.iE a.iN) fun h=>bl<|io<|bo (vF1 (d+1) (bF (a.dF+1)) a.iE a.iN 0)
def Gw (a:YE):aB ((aA YY)×(aA YD)×(aA YB)):=
 (nD a.cE).bind fun b=>(nD a.bR).bind fun c=>(nD a.cX).bind fun d=>some (d,c,b)
def iZ1 a:gN (XD k (d+2)) 165 [eS a] [] 60 true=(Gw a).map (fun(⟨b,c,e⟩:(aA YY)×(aA YD)×(aA YB))=>(.agg [i64 a.ID.gJ,i64 a.ID.dE,i64 a.dH,i64 a.Value.Log,i64 a.Value.qR,.own 62,.own 63,i64 a.bD,i64 a.cS,i64 a.dC,.own 64,i64 a.jO,i64 a.jQ],[(64,.lst 97 2 true (I YY.g b)),(63,.lst 110 5 true (I YD.g c)),(62,.lst 75 5 true (I YB.g e))],65)):=by rw[xd (fn:=yB1) rfl];exact bo (uB 207 d 75 5 _ _ 62 rfl rfl rfl (fun _=>rfl)) fun f=>bo (uB 208 d 110 5 _ _ 63 rfl rfl rfl (fun _=>rfl)) fun h=>bo (uB 209 d 97 2 _ _ 64 rfl rfl rfl (fun _=>rfl))
def qN1 (b:Y0) (a:YP):aB (YE×Int):=
 (iW1 b a).bind fun c=>if c !=0 then some (YE.mk (YZ.mk 0 0) 0 (YA.mk 0 0) [] [] 0 0 0 [] 0 0,c)else(Mv b a.dF a.iE a.iN).bind fun e=>(bU e a.pV).bind fun d=>(Gw d).bind fun⟨f,g,h⟩=>some ({d with cE:=h,bR:=g,cX:=f},0)
def gP2 b a:OD k (d+3) 108 [cV b,eY a]=(qN1 b a).map (fun⟨e,f⟩=>.tup [eS e,i64 f]):=oe rfl<|bo (vE1 d b a) fun g=>iy<|bo (Yi (d+1) b a.dF a.iE a.iN) fun h=>bo rg fun c=>bo (iZ1 d c)
def qO1 (a b:YB):aB Bool:=
 some (((a.cA.jP==b.cA.jP)&&((a.cA.iJ==b.cA.iJ)&&((a.cA.eZ==b.cA.eZ)&&true)))!=false)
def gQ2 a b:OD k (d+1) 166 [yP a,yS b]=(qO1 a b).map bv:=oe rfl<|rfl
def Mw (b:aA YB) (c:YB):aB Int:=
 (aS (E:=Int⊕Unit) (fun(a:Int)=>dM b a (fun d=>(qO1 d c).bind fun e=>if e then some (.inr (.inl a))else some (.inl (bF (a+1)))) (some (.inr (.inr ())))) bK 0).bind fun f=>(match f with|.inl x8=>some x8|.inr _=>some (-1))
def qP1 a b:OD k (d+2) 159 [jG a,.fn 166 [] [yS b]]=(Mw a b).map i64:=oe rfl<|bl<|bo (zLo (fun c=>(Q [nJ 0 a,(1,.fn 166 [] [yS b]),cP 7 a,aY 8 c] [])) (Sx 4) (fun c=>ig fun e=>bo (gQ2 d e b) fun f=>io) 0) fun|.inl g=>rfl|.inr _=>rfl
def My (a:aA YB) (b:YB):aB Bool:=
 (Mw a b).bind fun c=>some (decide (c>=0))
def qQ1 a b:OD k (d+3) 101 [jG a,.fn 166 [] [yS b]]=(My a b).map bv:=oe rfl<|bo (qP1 d a b)
def qR1 (d e:YE):aB Bool:=
 if d.dH !=1 then some true else(aS (E:=Unit⊕Unit) (fun(f:Int)=>dM d.cE f (fun g=>(if g.Hj then(if e.dH==1 then(My e.cE g).bind fun h=>some h else some false:aB Bool).bind fun a=>some (!a)else some false:aB Bool).bind fun b=>if b then some (.inr (.inl ()))else some (.inl (bF (f+1)))) (some (.inr (.inr ())))) bK 0).bind fun c=>(match c with|.inl _=>some false|.inr _=>some true)
def gR2 a b:OD k (d+4) 109 [eS a,eS b]=(qR1 a b).map bv:=oe rfl<|iy<|bl<|bo (zLo (fun c=>(Q [bQ 3 1,nJ 11 a.cE,cP 12 a.cE,aY 13 c] [gB 1 b,gB 0 a])) (fun|.inl _=>(rq [(4,bv false)] [gB 1 b,gB 0 a])|.inr _=>(xq 0 [] [gB 1 b,gB 0 a])) (fun c=>ig fun f=>be (io<|be (io<|bo (qQ1 d b.cE f))) fun e=>io) 0) fun|.inl _=>rfl|.inr _=>rfl
def qS1 (d:YP) (b:YE) (c:YK):aB Bool:=
 (iV1 b).bind fun e=>if !e then some false else(iY1 c.s' d).bind fun⟨f,g⟩=>(qN1 c.s' f).bind fun⟨h,j⟩=>(if !g then some true else(qR1 b h).bind fun i=>some (!i):aB Bool).bind fun a=>some a
def gS2 c a b:OD k (d+5) 105 [eY c,eS a,.ip [dJ b]]=(qS1 c a b).map bv:=oe rfl<|bo (vD1 d a) fun g=>iy<|bo (vG1 (d+1) b.s' c) fun⟨e,h⟩=>bo (gP2 (d+1) b.s' e) fun⟨f,i⟩=>be (iy<|bo (gR2 d a f))
def Mz (u:aA YV) (p:Y0) (t:Int):aB (aA YV):=
 (aS (fun(⟨d,m⟩:Int×(aA YV))=>dM p.aF d (fun q=>(aS (fun(⟨e,n⟩:Int×(aA YV))=>dM q.aO e (fun r=>(aS (fun(⟨f,o⟩:Int×(aA YV))=>dM r.aT f (fun s=>(aS (fun(⟨a,b⟩:Int×(aA YV))=>dM s.aW a (fun c=>(qS1 (YP.mk 4 0 e d f a 0) c (YK.mk p t b)).bind fun g=>(mP g c.ID b p t).bind fun h=>some (.inl (bF (a+1),h))) (some (.inr b))) bK (0,o)).bind fun i=>some (.inl (bF (f+1),i))) (some (.inr o))) bK (0,n)).bind fun j=>some (.inl (bF (e+1),j))) (some (.inr n))) bK (0,m)).bind fun k=>some (.inl (bF (d+1),k))) (some (.inr m))) bK (0,u)).bind fun l=>some l
def qT1 w c h:gN (XD k (d+6)) 95 [.ref 1 0,.fn 105 [] [.ref 3 0]] ((3,.box [.ref 1 0])::cL w c h) 4 false=(Mz w c h).map (fun(v:aA YV)=>(.tup [],((3,.box [.ref 1 0])::cL v c h),0)):=by rw[xd (fn:=p95) rfl];exact bl<|bo (zLo (fun⟨b,n⟩=>(Q [bQ 0 1,(1,.fn 105 [] [.ref 3 0]),aX 16 c.aF,cP 17 c.aF,aY 18 b] ((3,.box [.ref 1 0])::cL n c h))) (fun(u:aA YV)=>(xq 0 [] ((3,.box [.ref 1 0])::cL u c h))) (fun⟨b,n⟩=>ig fun a=>bl<|bo (zLo (fun⟨e,o⟩=>(Q [bQ 0 1,(1,.fn 105 [] [.ref 3 0]),aY 4 b,aX 16 c.aF,cP 17 c.aF,aY 18 b,cK 24 a.aO,cP 25 a.aO,aY 26 e] (aV 4 a::(3,.box [.ref 1 0])::cL o c h))) (fun(t:aA YV)=>(xq 2 [bQ 0 1,(1,.fn 105 [] [.ref 3 0]),aX 16 c.aF,cP 17 c.aF,aY 18 b] (aV 4 a::(3,.box [.ref 1 0])::cL t c h))) (fun⟨e,o⟩=>ig fun f=>bl<|bo (zLo (fun⟨i,p⟩=>(Q [bQ 0 1,(1,.fn 105 [] [.ref 3 0]),aY 4 b,aY 6 e,aX 16 c.aF,cP 17 c.aF,aY 18 b,cK 24 a.aO,cP 25 a.aO,aY 26 e,dV 32 f.aT,cP 33 f.aT,aY 34 i] (dQ 5 f::aV 4 a::(3,.box [.ref 1 0])::cL p c h))) (fun(s:aA YV)=>(xq 4 [bQ 0 1,(1,.fn 105 [] [.ref 3 0]),aY 4 b,aX 16 c.aF,cP 17 c.aF,aY 18 b,cK 24 a.aO,cP 25 a.aO,aY 26 e] (dQ 5 f::aV 4 a::(3,.box [.ref 1 0])::cL s c h))) (fun⟨i,p⟩=>ig fun l=>bl<|bo (zLo (fun⟨j,g⟩=>(Q [bQ 0 1,(1,.fn 105 [] [.ref 3 0]),aY 4 b,aY 6 e,aY 8 i,aX 16 c.aF,cP 17 c.aF,aY 18 b,cK 24 a.aO,cP 25 a.aO,aY 26 e,dV 32 f.aT,cP 33 f.aT,aY 34 i,gI 40 l.aW,cP 41 l.aW,aY 42 j] (dI 6 l::dQ 5 f::aV 4 a::(3,.box [.ref 1 0])::cL g c h))) (fun(r:aA YV)=>(xq 6 [bQ 0 1,(1,.fn 105 [] [.ref 3 0]),aY 4 b,aY 6 e,aX 16 c.aF,cP 17 c.aF,aY 18 b,cK 24 a.aO,cP 25 a.aO,aY 26 e,dV 32 f.aT,cP 33 f.aT,aY 34 i] (dI 6 l::dQ 5 f::aV 4 a::(3,.box [.ref 1 0])::cL r c h))) (fun⟨j,g⟩=>ig fun m=>bo (gS2 d (YP.mk 4 0 e b i j 0) m (YK.mk c h g)) fun q=>bo (lG (d+4) q m.ID g c h)) (0,p))) (0,o))) (0,n))) (0,w))
def jA1 (a:aA YV) (b:Y0) (c:Int):aB (aA YV):=
 (Mz a b c).bind fun d=>some d
def gT2 c a b:gN (XD k (d+7)) 53 [.ref 1 0] (cL c a b) 3 false=(jA1 c a b).map (fun(e:aA YV)=>(.tup [],cL e a b,0)):=by rw[xd (fn:=p53) rfl];exact bo (qT1 d c a b)
def qU1 (a:YE) (b:Int):aB Bool:=
 (if decide (b>=(a.cX.length:Int))then some true else(bU a.cX b).bind fun c=>some (((c.qQ==(⟨#[]⟩:ByteArray))&&((c.Cn==0)&&true))!=false):aB Bool).bind fun d=>some d
def gU2 a b:OD k (d+1) 167 [eS a,i64 b]=(qU1 a b).map bv:=oe rfl<|bl<|be (iy<|bo rg)
def Yj (v N T:Int) (U:aA (YP×Bool)) (W:aA YV) (V:Y0) (X:Int):aB (aA (YP×Bool)):=
 (aS (fun(⟨j,n,o,p,q,r,s,t⟩:Int×Int×Int×Int×Int×Int×YY×(aA (YP×Bool)))=>dM V.aF j (fun u=>(if decide (v>=(u.aO.length:Int))then some true else(bU u.aO v).bind fun O=>some (decide (N>=(O.aT.length:Int))):aB Bool).bind fun P=>if P then some (.inl (bF (j+1),n,o,p,q,r,s,t))else(bU u.aO v).bind fun R=>(bU R.aT N).bind fun S=>(aS (fun(⟨a,e,f,g,h,i,b,c⟩:Int×Int×Int×Int×Int×Int×YY×(aA (YP×Bool)))=>dM S.aW a (fun k=>(qU1 k T).bind fun w=>if w then some (.inl (bF (a+1),e,f,g,h,i,b,c))else(bU k.cX T).bind fun d=>(if(b.Cn==1)&&(d.qQ.toList==(⟨#[]⟩:ByteArray).toList)then some (bG1 c (YP.mk e 0 f g h i 0) true)else some c:aB (aA (YP×Bool))).bind fun l=>(if((d.qQ.toList==(⟨#[]⟩:ByteArray).toList)&&(d.Cn==2))&&(b.Cn !=2)then some (bG1 l (YP.mk 4 0 v j N a 0) true)else some l:aB (aA (YP×Bool))).bind fun x=>some (.inl (bF (a+1),4,v,j,N,a,d,x))) (some (.inr (e,f,g,h,i,b,c)))) bK (0,n,o,p,q,r,s,t)).bind fun⟨y,z,A,B,C,D,E⟩=>some (.inl (bF (j+1),y,z,A,B,C,D,E))) (some (.inr (n,o,p,q,r,s,t)))) bK (0,0,0,0,0,0,(YY.mk (⟨#[]⟩:ByteArray) 0),U)).bind fun⟨F,G,H,J,K,L,m⟩=>(if L.Cn==1 then some (bG1 m (YP.mk F 0 G H J K 0) true)else some m:aB (aA (YP×Bool))).bind fun M=>some M
def yM1 (y z O:Int) (Z:aA (YP×Bool)) (A:aA YV) (c:Y0) (B:Int):gN (XD k (d+2)) 110 [.ref 1 0,i64 y,i64 z,i64 O,.map 3] ((3,.mp (I (kS (eA YP.g) bv) Z))::cL A c B) 4 false=(Yj y z O Z A c B).map (fun(Y:aA (YP×Bool))=>(.tup [],((3,.mp (I (kS (eA YP.g) bv) Y))::cL A c B),0)):=by
 rw[xd (fn:=cY2) rfl];refine bl ?_;refine bo (zLo (S:=Int×Int×Int×Int×Int×Int×YY×(aA (YP×Bool))) (fun⟨a,P,R,T,U,V,W,X⟩=>(Q [aY 1 y,aY 2 z,aY 3 O,(4,.map 3),bQ 10 4,bQ 11 5,aX 22 c.aF,cP 23 c.aF,aY 24 a] ((5,.box [i64 P,i64 0,i64 R,i64 T,i64 U,i64 V,i64 0])::fA 4 W::(3,.mp (I (kS (eA YP.g) bv) X))::cL A c B))) (fun(⟨n,o,p,q,r,w,x⟩:Int×Int×Int×Int×Int×YY×(aA (YP×Bool)))=>(xq 0 [(4,.map 3),bQ 10 4,bQ 11 5] ((5,.box [i64 n,i64 0,i64 o,i64 p,i64 q,i64 r,i64 0])::fA 4 w::(3,.mp (I (kS (eA YP.g) bv) x))::cL A c B))) (fun⟨a,P,R,T,U,V,W,X⟩=>?_) (0,0,0,0,0,0,(YY.mk (⟨#[]⟩:ByteArray) 0),Z)) fun⟨n,o,p,q,r,w,x⟩=>?_;refine ig fun C=>?_;refine bl ?_;refine be ?_ fun b5=>?_;refine iy ?_;refine bo rg fun b4=>?_;refine bl ?_;rfl;refine iy ?_;refine bo rg fun b6=>?_;refine bo rg fun s=>?_;refine bl ?_;refine bo (zLo (S:=Int×Int×Int×Int×Int×Int×YY×(aA (YP×Bool))) (fun⟨b,f,h,i,j,l,m,t⟩=>(Q [aY 1 y,aY 2 z,aY 3 O,(4,.map 3),bQ 10 4,bQ 11 5,aY 12 a,aX 22 c.aF,cP 23 c.aF,aY 24 a,gI 54 s.aW,cP 55 s.aW,aY 56 b] (aV 6 C::(5,.box [i64 f,i64 0,i64 h,i64 i,i64 j,i64 l,i64 0])::fA 4 m::(3,.mp (I (kS (eA YP.g) bv) t))::cL A c B))) (fun(⟨F,G,H,J,K,L,M⟩:Int×Int×Int×Int×Int×YY×(aA (YP×Bool)))=>(xq 2 [aY 1 y,aY 2 z,aY 3 O,(4,.map 3),bQ 10 4,bQ 11 5,aX 22 c.aF,cP 23 c.aF,aY 24 a] (aV 6 C::(5,.box [i64 F,i64 0,i64 G,i64 H,i64 J,i64 K,i64 0])::fA 4 L::(3,.mp (I (kS (eA YP.g) bv) M))::cL A c B))) (fun⟨b,f,h,i,j,l,m,t⟩=>?_) (0,P,R,T,U,V,W,X)) fun⟨F,G,H,J,K,L,M⟩=>?_;refine ig fun u=>?_;refine bo (gU2 d u O) fun b0=>?_;refine iy ?_;refine bo rg fun D=>?_;refine bz (jC rfl) ?_;refine bo (e:=(fun(v:aA (YP×Bool))=>(nq [aY 1 y,aY 2 z,aY 3 O,(4,.map 3),bQ 10 4,bQ 11 5,aY 12 a,bQ 16 8,bQ 17 9,aX 22 c.aF,cP 23 c.aF,aY 24 a,gI 54 s.aW,cP 55 s.aW,aY 56 b] (fA 9 D::(8,.box [i64 4,i64 0,i64 y,i64 a,i64 z,i64 b,i64 0])::gB 7 u::aV 6 C::(5,.box [i64 f,i64 0,i64 h,i64 i,i64 j,i64 l,i64 0])::fA 4 m::(3,.mp (I (kS (eA YP.g) bv) v))::cL A c B)))) ?_ fun v=>?_;refine io ?_;refine bz (sF mD bv t (YP.mk f 0 h i j l 0) true) ?_;rfl;refine bz (jC rfl) ?_;refine bz (jC rfl) ?_;refine bo (e:=(fun(E:aA (YP×Bool))=>(nq [aY 1 y,aY 2 z,aY 3 O,(4,.map 3),bQ 10 4,bQ 11 5,aY 12 a,bQ 16 8,bQ 17 9,aX 22 c.aF,cP 23 c.aF,aY 24 a,gI 54 s.aW,cP 55 s.aW,aY 56 b] (fA 9 D::(8,.box [i64 4,i64 0,i64 y,i64 a,i64 z,i64 b,i64 0])::gB 7 u::aV 6 C::(5,.box [i64 f,i64 0,i64 h,i64 i,i64 j,i64 l,i64 0])::fA 4 m::(3,.mp (I (kS (eA YP.g) bv) E))::cL A c B)))) ?_ fun E=>?_;refine io ?_;refine bz (sF mD bv v (YP.mk 4 0 y a z b 0) true) ?_;rfl;rfl;rfl;refine bo (e:=(fun(N:aA (YP×Bool))=>(nq [] ((5,.box [i64 n,i64 0,i64 o,i64 p,i64 q,i64 r,i64 0])::fA 4 w::(3,.mp (I (kS (eA YP.g) bv) N))::cL A c B)))) ?_ fun N=>?_;refine io ?_;refine bz (sF mD bv x (YP.mk n 0 o p q r 0) true) ?_;rfl;rfl
def qV1 (a:YP) (c:YE) (b:aA (YP×Bool)):aB Bool:=
 some (nZ1 b a false)
def gV2 a c b:OD k (d+1) 111 [eY a,eS c,.ip [.im (I (kS (eA YP.g) bv) b)]]=(qV1 a c b).map bv:=oe rfl<|bz (Gl mD bv b a false)
def Na (t:aA (YP×Bool)) (u:aA YV) (s:Y0) (v:Int):aB (aA YV):=
 (aS (fun(⟨d,m⟩:Int×(aA YV))=>dM s.aF d (fun p=>(aS (fun(⟨e,n⟩:Int×(aA YV))=>dM p.aO e (fun q=>(aS (fun(⟨f,o⟩:Int×(aA YV))=>dM q.aT f (fun r=>(aS (fun(⟨a,b⟩:Int×(aA YV))=>dM r.aW a (fun c=>(qV1 (YP.mk 4 0 e d f a 0) c t).bind fun g=>(mP g c.ID b s v).bind fun h=>some (.inl (bF (a+1),h))) (some (.inr b))) bK (0,o)).bind fun i=>some (.inl (bF (f+1),i))) (some (.inr o))) bK (0,n)).bind fun j=>some (.inl (bF (e+1),j))) (some (.inr n))) bK (0,m)).bind fun k=>some (.inl (bF (d+1),k))) (some (.inr m))) bK (0,u)).bind fun l=>some l
def qW1 i y c j:gN (XD k (d+2)) 95 [.ref 1 0,.fn 111 [] [.ref 4 0]] ((4,.box [.map 3])::(3,.mp (I (kS (eA YP.g) bv) i))::cL y c j) 5 false=(Na i y c j).map (fun(x:aA YV)=>(.tup [],((4,.box [.map 3])::(3,.mp (I (kS (eA YP.g) bv) i))::cL x c j),0)):=by rw[xd (fn:=p95) rfl];exact bl<|bo (zLo (fun⟨b,p⟩=>(Q [bQ 0 1,(1,.fn 111 [] [.ref 4 0]),aX 16 c.aF,cP 17 c.aF,aY 18 b] ((4,.box [.map 3])::(3,.mp (I (kS (eA YP.g) bv) i))::cL p c j))) (fun(w:aA YV)=>(xq 0 [] ((4,.box [.map 3])::(3,.mp (I (kS (eA YP.g) bv) i))::cL w c j))) (fun⟨b,p⟩=>ig fun a=>bl<|bo (zLo (fun⟨e,q⟩=>(Q [bQ 0 1,(1,.fn 111 [] [.ref 4 0]),aY 4 b,aX 16 c.aF,cP 17 c.aF,aY 18 b,cK 24 a.aO,cP 25 a.aO,aY 26 e] (aV 5 a::(4,.box [.map 3])::(3,.mp (I (kS (eA YP.g) bv) i))::cL q c j))) (fun(v:aA YV)=>(xq 2 [bQ 0 1,(1,.fn 111 [] [.ref 4 0]),aX 16 c.aF,cP 17 c.aF,aY 18 b] (aV 5 a::(4,.box [.map 3])::(3,.mp (I (kS (eA YP.g) bv) i))::cL v c j))) (fun⟨e,q⟩=>ig fun f=>bl<|bo (zLo (fun⟨h,r⟩=>(Q [bQ 0 1,(1,.fn 111 [] [.ref 4 0]),aY 4 b,aY 6 e,aX 16 c.aF,cP 17 c.aF,aY 18 b,cK 24 a.aO,cP 25 a.aO,aY 26 e,dV 32 f.aT,cP 33 f.aT,aY 34 h] (dQ 6 f::aV 5 a::(4,.box [.map 3])::(3,.mp (I (kS (eA YP.g) bv) i))::cL r c j))) (fun(u:aA YV)=>(xq 4 [bQ 0 1,(1,.fn 111 [] [.ref 4 0]),aY 4 b,aX 16 c.aF,cP 17 c.aF,aY 18 b,cK 24 a.aO,cP 25 a.aO,aY 26 e] (dQ 6 f::aV 5 a::(4,.box [.map 3])::(3,.mp (I (kS (eA YP.g) bv) i))::cL u c j))) (fun⟨h,r⟩=>ig fun n=>bl<|bo (zLo (fun⟨l,m⟩=>(Q [bQ 0 1,(1,.fn 111 [] [.ref 4 0]),aY 4 b,aY 6 e,aY 8 h,aX 16 c.aF,cP 17 c.aF,aY 18 b,cK 24 a.aO,cP 25 a.aO,aY 26 e,dV 32 f.aT,cP 33 f.aT,aY 34 h,gI 40 n.aW,cP 41 n.aW,aY 42 l] (dI 7 n::dQ 6 f::aV 5 a::(4,.box [.map 3])::(3,.mp (I (kS (eA YP.g) bv) i))::cL m c j))) (fun(t:aA YV)=>(xq 6 [bQ 0 1,(1,.fn 111 [] [.ref 4 0]),aY 4 b,aY 6 e,aX 16 c.aF,cP 17 c.aF,aY 18 b,cK 24 a.aO,cP 25 a.aO,aY 26 e,dV 32 f.aT,cP 33 f.aT,aY 34 h] (dI 7 n::dQ 6 f::aV 5 a::(4,.box [.map 3])::(3,.mp (I (kS (eA YP.g) bv) i))::cL t c j))) (fun⟨l,m⟩=>ig fun o=>bo (gV2 d (YP.mk 4 0 e b h l 0) o i) fun s=>bo (lG d s o.ID m c j)) (0,r))) (0,q))) (0,p))) (0,y))
def jB1 (m:aA YV) (g:Y0) (n:Int):aB (aA YV):=
 (F85 g).bind fun o=>(aS (fun(⟨a,d⟩:Int×(aA (YP×Bool)))=>if decide (a<o)then(aS (fun(⟨b,e⟩:Int×(aA (YP×Bool)))=>if decide (b<2)then(aS (fun(⟨c,f⟩:Int×(aA (YP×Bool)))=>if decide (c<4)then(Yj a b c f m g n).bind fun h=>some (.inl (bF (c+1),h))else some (.inr f)) bK (0,e)).bind fun i=>some (.inl (bF (b+1),i))else some (.inr e)) bK (0,d)).bind fun j=>some (.inl (bF (a+1),j))else some (.inr d)) bK (0,[])).bind fun k=>(Na k m g n).bind fun l=>some l
def gW2 (f:aA YV) (c:Y0) (e:Int):gN (XD k (d+3)) 54 [.ref 1 0] (cL f c e) 3 false=(jB1 f c e).map (fun(q:aA YV)=>(.tup [],cL q c e,0)):=by
 rw[xd (fn:=p54) rfl];refine bo (eA2 (d+1) c) fun p=>?_;refine bo (zLo (S:=Int×(aA (YP×Bool))) (fun⟨a,h⟩=>(Q [bQ 0 1,bQ 2 4,aY 13 p,aY 14 a] ((4,.box [.map 3])::(3,.mp (I (kS (eA YP.g) bv) h))::cL f c e))) (fun(m:aA (YP×Bool))=>(xq 0 [bQ 0 1,bQ 2 4] ((4,.box [.map 3])::(3,.mp (I (kS (eA YP.g) bv) m))::cL f c e))) (fun⟨a,h⟩=>?_) (0,[])) fun m=>?_;refine io ?_;refine bo (zLo (S:=Int×(aA (YP×Bool))) (fun⟨b,i⟩=>(Q [bQ 0 1,bQ 2 4,aY 4 a,aY 13 p,aY 14 a,aY 17 b] ((4,.box [.map 3])::(3,.mp (I (kS (eA YP.g) bv) i))::cL f c e))) (fun(o:aA (YP×Bool))=>(xq 2 [bQ 0 1,bQ 2 4,aY 13 p,aY 14 a] ((4,.box [.map 3])::(3,.mp (I (kS (eA YP.g) bv) o))::cL f c e))) (fun⟨b,i⟩=>?_) (0,h)) fun o=>?_;refine io ?_;refine bo (zLo (S:=Int×(aA (YP×Bool))) (fun⟨j,l⟩=>(Q [bQ 0 1,bQ 2 4,aY 4 a,aY 5 b,aY 13 p,aY 14 a,aY 17 b,aY 20 j] ((4,.box [.map 3])::(3,.mp (I (kS (eA YP.g) bv) l))::cL f c e))) (fun(n:aA (YP×Bool))=>(xq 4 [bQ 0 1,bQ 2 4,aY 4 a,aY 13 p,aY 14 a,aY 17 b] ((4,.box [.map 3])::(3,.mp (I (kS (eA YP.g) bv) n))::cL f c e))) (fun⟨j,l⟩=>?_) (0,i)) fun n=>?_;refine io ?_;refine bo (yM1 d a b j l f c e) fun r=>?_;rfl;rfl;rfl;refine bo (qW1 d m f c e) fun s=>?_;rfl
def Dk (a:Y0):aB Unit:=
 some ()
def jC1 a:gN (XD k (d+1)) 137 [.ref 0 0] [aJ 0 a] 4 true=(Dk a).map (fun(_:Unit)=>(.fn 191 [] [.ref 4 0],[(4,.box [.ref 0 0]),aJ 0 a],5)):=by rw[xd (fn:=yA1) rfl];exact rfl
def yZ (d e:Int) (f g:Int) (h i j:Int) (b:YJ) (k:Bool) (c:YP) (a:YZ):aB (Unit⊕Unit):=
 if((b.ID.gJ==a.gJ)&&((b.ID.dE==a.dE)&&true))!=false then some (.inl ())else some (.inr ())
def cP1 c e f g h i j m l b a:Fh (XD k (d+1)) 5 [.agg [i64 c,i64 e,i64 f,i64 g,i64 h,i64 i,i64 j],Ru m] [Ce,(3,.box [bv l]),bM 2 b,dO 1 a] 6=(yZ c e f g h i j m l b a).map (fun|.inl _=>(bv false,[zQ2,(3,.box [bv true]),(2,.box [i64 c,i64 e,i64 f,i64 g,i64 h,i64 i,i64 j]),dO 1 a],0)|.inr _=>(bv true,[Ce,(3,.box [bv l]),bM 2 b,dO 1 a],0)):=by rw[yd];exact bz (okg pP) io
def sJ (d e:Int) (f g:Int) (h i j:Int) (b:YF) (k:Bool) (c:YP) (a:YZ):aB (Unit⊕Unit):=
 if((b.ID.gJ==a.gJ)&&((b.ID.dE==a.dE)&&true))!=false then some (.inl ())else some (.inr ())
def Sb c e f g h i j m l b a:Fh (XD k (d+1)) 5 [.agg [i64 c,i64 e,i64 f,i64 g,i64 h,i64 i,i64 j],Kd m] [Ce,(3,.box [bv l]),bM 2 b,dO 1 a] 6=(sJ c e f g h i j m l b a).map (fun|.inl _=>(bv false,[zQ2,(3,.box [bv true]),(2,.box [i64 c,i64 e,i64 f,i64 g,i64 h,i64 i,i64 j]),dO 1 a],0)|.inr _=>(bv true,[Ce,(3,.box [bv l]),bM 2 b,dO 1 a],0)):=by rw[yd];exact bz (okg pP) io
def sK (d e:Int) (f g:Int) (h i j:Int) (b:YM) (k:Bool) (c:YP) (a:YZ):aB (Unit⊕Unit):=
 if((b.ID.gJ==a.gJ)&&((b.ID.dE==a.dE)&&true))!=false then some (.inl ())else some (.inr ())
def Sc c e f g h i j m l b a:Fh (XD k (d+1)) 5 [.agg [i64 c,i64 e,i64 f,i64 g,i64 h,i64 i,i64 j],mM m] [Ce,(3,.box [bv l]),bM 2 b,dO 1 a] 6=(sK c e f g h i j m l b a).map (fun|.inl _=>(bv false,[zQ2,(3,.box [bv true]),(2,.box [i64 c,i64 e,i64 f,i64 g,i64 h,i64 i,i64 j]),dO 1 a],0)|.inr _=>(bv true,[Ce,(3,.box [bv l]),bM 2 b,dO 1 a],0)):=by rw[yd];exact bz (okg pP) io
def sL (d e:Int) (f g:Int) (h i j:Int) (b:YE) (k:Bool) (c:YP) (a:YZ):aB (Unit⊕Unit):=
 if((b.ID.gJ==a.gJ)&&((b.ID.dE==a.dE)&&true))!=false then some (.inl ())else some (.inr ())
def Sd c e f g h i j m l b a:Fh (XD k (d+1)) 5 [.agg [i64 c,i64 e,i64 f,i64 g,i64 h,i64 i,i64 j],Kc m] [Ce,(3,.box [bv l]),bM 2 b,dO 1 a] 6=(sL c e f g h i j m l b a).map (fun|.inl _=>(bv false,[zQ2,(3,.box [bv true]),(2,.box [i64 c,i64 e,i64 f,i64 g,i64 h,i64 i,i64 j]),dO 1 a],0)|.inr _=>(bv true,[Ce,(3,.box [bv l]),bM 2 b,dO 1 a],0)):=by rw[yd];exact bz (okg pP) io
def sM (d e:Int) (f g:Int) (h i j:Int) (b:YN) (k:Bool) (c:YP) (a:YZ):aB (Unit⊕Unit):=
 if((b.ID.gJ==a.gJ)&&((b.ID.dE==a.dE)&&true))!=false then some (.inl ())else some (.inr ())
def Se c e f g h i j m l b a:Fh (XD k (d+1)) 5 [.agg [i64 c,i64 e,i64 f,i64 g,i64 h,i64 i,i64 j],Cc m] [Ce,(3,.box [bv l]),bM 2 b,dO 1 a] 6=(sM c e f g h i j m l b a).map (fun|.inl _=>(bv false,[zQ2,(3,.box [bv true]),(2,.box [i64 c,i64 e,i64 f,i64 g,i64 h,i64 i,i64 j]),dO 1 a],0)|.inr _=>(bv true,[Ce,(3,.box [bv l]),bM 2 b,dO 1 a],0)):=by rw[yd];exact bz (okg pP) io
def Dl (h:Y0) (v:Bool) (F:YP) (G:YZ):aB (YP⊕Unit):=
 (aS (E:=(Int×Int×Int)⊕Unit) (fun(⟨H,f⟩:Int×Int)=>dM h.aU f (fun J=>(yZ 1 f 0 0 0 0 0 J v F G).bind fun K=>(match K with|.inl _=>some (.inr (.inl (1,f,0)))|.inr _=>(bU h.aU f).bind fun L=>(aS (E:=(Int×Int)⊕Int) (fun(⟨g,i⟩:Int×Int)=>if decide (i<(L.cO.length:Int))then(bU h.aU f).bind fun M=>(bU M.cO i).bind fun N=>(sJ 2 0 g 0 0 0 0 N v F G).bind fun O=>(match O with|.inl _=>some (.inr (.inl (g,g)))|.inr _=>some (.inl (bF (g+1),bF (i+1))))else some (.inr (.inr g))) bK (H,0)).bind fun P=>(match P with|.inl ⟨x33,x34⟩=>some (.inr (.inl (2,0,x34)))|.inr x35=>some (.inl (x35,bF (f+1)))))) (some (.inr (.inr ())))) bK (0,0)).bind fun R=>(match R with|.inl ⟨x37,x38,x39⟩=>some (.inl (YP.mk x37 x38 x39 0 0 0 0))|.inr _=>(aS (E:=(Int×Int×Int×Int×Int)⊕Unit) (fun(a:Int)=>dM h.aF a (fun j=>(sK 3 0 0 a 0 0 0 j v F G).bind fun k=>(match k with|.inl _=>some (.inr (.inl (3,0,a,0,0)))|.inr _=>(bU h.aF a).bind fun l=>(aS (E:=(Int×Int×Int)⊕Unit) (fun(b:Int)=>if decide (b<(l.aO.length:Int))then(bU h.aF a).bind fun m=>(bU m.aO b).bind fun n=>(aS (E:=(Int×Int)⊕Unit) (fun(c:Int)=>if decide (c<(n.aT.length:Int))then(bU h.aF a).bind fun o=>(bU o.aO b).bind fun p=>(bU p.aT c).bind fun q=>(aS (E:=Int⊕Unit) (fun(d:Int)=>if decide (d<(q.aW.length:Int))then(bU h.aF a).bind fun r=>(bU r.aO b).bind fun s=>(bU s.aT c).bind fun t=>(bU t.aW d).bind fun u=>(sL 4 0 b a c d 0 u v F G).bind fun w=>(match w with|.inl _=>some (.inr (.inl d))|.inr _=>some (.inl (bF (d+1))))else some (.inr (.inr ()))) bK 0).bind fun x=>(match x with|.inl x201=>some (.inr (.inl (c,x201)))|.inr _=>some (.inl (bF (c+1))))else some (.inr (.inr ()))) bK 0).bind fun y=>(match y with|.inl ⟨x203,x204⟩=>some (.inr (.inl (b,x203,x204)))|.inr _=>some (.inl (bF (b+1))))else some (.inr (.inr ()))) bK 0).bind fun z=>(match z with|.inl ⟨x206,x207,x208⟩=>some (.inr (.inl (4,x206,a,x207,x208)))|.inr _=>some (.inl (bF (a+1)))))) (some (.inr (.inr ())))) bK 0).bind fun A=>(match A with|.inl ⟨x210,x211,x212,x213,x214⟩=>some (.inl (YP.mk x210 0 x211 x212 x213 x214 0))|.inr _=>(aS (E:=Int⊕Unit) (fun(e:Int)=>dM h.bT e (fun B=>(sM 5 0 0 0 0 0 e B v F G).bind fun C=>(match C with|.inl _=>some (.inr (.inl e))|.inr _=>some (.inl (bF (e+1))))) (some (.inr (.inr ())))) bK 0).bind fun D=>(match D with|.inl x221=>some (.inl (YP.mk 5 0 0 0 0 0 x221))|.inr _=>some (.inr ()))))
def jD1 (c:Y0) (h:Bool) (i:YP) (e:YZ):gN (XD k (d+2)) 191 [.yld 5,.ref 4 0] [Ce,(4,.box [.ref 0 0]),aJ 0 c,(3,.box [bv h]),bM 2 i,dO 1 e] 6 false=(Dl c h i e).map (fun|.inl x223=>(.tup [],[zQ2,(4,.box [.ref 0 0]),aJ 0 c,(3,.box [bv true]),bM 2 x223,dO 1 e],0)|.inr _=>(.tup [],[Ce,(4,.box [.ref 0 0]),aJ 0 c,(3,.box [bv h]),bM 2 i,dO 1 e],0)):=by
 rw[xd (fn:=yC1) rfl];refine bl ?_;refine bo (zLo (S:=Int×Int) (fun⟨A,j⟩=>(Q [(0,.yld 5),bQ 1 4,aY 3 A,cP 15 c.aU,aY 16 j] [Ce,(4,.box [.ref 0 0]),aJ 0 c,(3,.box [bv h]),bM 2 i,dO 1 e])) (fun|.inl ⟨U,V,W⟩=>(rq [(0,.yld 5),bQ 1 4] [zQ2,(4,.box [.ref 0 0]),aJ 0 c,(3,.box [bv true]),(2,.box [i64 U,i64 V,i64 W,i64 0,i64 0,i64 0,i64 0]),dO 1 e])|.inr _=>(xq 0 [(0,.yld 5),bQ 1 4] [Ce,(4,.box [.ref 0 0]),aJ 0 c,(3,.box [bv h]),bM 2 i,dO 1 e])) (fun⟨A,j⟩=>?_) (0,0)) fun b6=>?_;refine ig fun X=>?_;refine bo (cP1 d 1 j 0 0 0 0 0 X h i e) fun Y=>?_;rcases Y with _|_;rfl;refine bo rg fun Z=>?_;refine bl ?_;refine bo (zLo (S:=Int×Int) (fun⟨B,P⟩=>(Q [(0,.yld 5),bQ 1 4,aY 3 B,aY 4 j,cP 15 c.aU,aY 16 j,cP 39 Z.cO,aY 40 P] [Ce,(3,.box [bv h]),bM 2 i,dO 1 e,(4,.box [.ref 0 0]),aJ 0 c])) (fun|.inl ⟨R,T⟩=>(rq [(0,.yld 5),bQ 1 4,aY 3 R,cP 15 c.aU,aY 16 j] [zQ2,(3,.box [bv true]),(2,.box [i64 2,i64 0,i64 T,i64 0,i64 0,i64 0,i64 0]),dO 1 e,(4,.box [.ref 0 0]),aJ 0 c])|.inr x35=>(xq 2 [(0,.yld 5),bQ 1 4,aY 3 x35,cP 15 c.aU,aY 16 j] [Ce,(3,.box [bv h]),bM 2 i,dO 1 e,(4,.box [.ref 0 0]),aJ 0 c])) (fun⟨B,P⟩=>?_) (A,0)) fun b5=>?_;refine ig fun d4=>?_;refine bo rg fun b0=>?_;refine bo (Sb d 2 0 B 0 0 0 0 b0 h i e) fun b4=>?_;rcases b4 with _|_;rfl;rfl;rcases b5 with⟨R,T⟩|x35;rfl;rfl;rcases b6 with⟨U,V,W⟩|_;rfl;refine bl ?_;refine bo (zLo (fun a=>(Q [(0,.yld 5),bQ 1 4,cP 67 c.aF,aY 68 a] [Ce,(4,.box [.ref 0 0]),aJ 0 c,(3,.box [bv h]),bM 2 i,dO 1 e])) (fun|.inl ⟨u,v,w,x,y⟩=>(rq [(0,.yld 5),bQ 1 4] [zQ2,(4,.box [.ref 0 0]),aJ 0 c,(3,.box [bv true]),(2,.box [i64 u,i64 0,i64 v,i64 w,i64 x,i64 y,i64 0]),dO 1 e])|.inr _=>(xq 4 [(0,.yld 5),bQ 1 4] [Ce,(4,.box [.ref 0 0]),aJ 0 c,(3,.box [bv h]),bM 2 i,dO 1 e])) (fun a=>?_) 0) fun L=>?_;refine ig fun C=>?_;refine bo (Sc d 3 0 0 a 0 0 0 C h i e) fun D=>?_;rcases D with _|_;rfl;refine bo rg fun g=>?_;refine bl ?_;refine bo (zLo (fun b=>(Q [(0,.yld 5),bQ 1 4,aY 6 a,cP 67 c.aF,aY 68 a,cP 91 g.aO,aY 92 b] [Ce,(3,.box [bv h]),bM 2 i,dO 1 e,(4,.box [.ref 0 0]),aJ 0 c])) (fun|.inl ⟨r,s,t⟩=>(rq [(0,.yld 5),bQ 1 4,cP 67 c.aF,aY 68 a] [zQ2,(3,.box [bv true]),(2,.box [i64 4,i64 0,i64 r,i64 a,i64 s,i64 t,i64 0]),dO 1 e,(4,.box [.ref 0 0]),aJ 0 c])|.inr _=>(xq 6 [(0,.yld 5),bQ 1 4,cP 67 c.aF,aY 68 a] [Ce,(3,.box [bv h]),bM 2 i,dO 1 e,(4,.box [.ref 0 0]),aJ 0 c])) (fun b=>?_) 0) fun K=>?_;refine ig fun b7=>?_;refine bo rg fun l=>?_;refine bl ?_;refine bo (zLo (fun f=>(Q [(0,.yld 5),bQ 1 4,aY 6 a,aY 7 b,cP 67 c.aF,aY 68 a,cP 91 g.aO,aY 92 b,cP 107 l.aT,aY 108 f] [Ce,(3,.box [bv h]),bM 2 i,dO 1 e,(4,.box [.ref 0 0]),aJ 0 c])) (fun|.inl ⟨p,q⟩=>(rq [(0,.yld 5),bQ 1 4,aY 6 a,cP 67 c.aF,aY 68 a,cP 91 g.aO,aY 92 b] [zQ2,(3,.box [bv true]),(2,.box [i64 4,i64 0,i64 b,i64 a,i64 p,i64 q,i64 0]),dO 1 e,(4,.box [.ref 0 0]),aJ 0 c])|.inr _=>(xq 8 [(0,.yld 5),bQ 1 4,aY 6 a,cP 67 c.aF,aY 68 a,cP 91 g.aO,aY 92 b] [Ce,(3,.box [bv h]),bM 2 i,dO 1 e,(4,.box [.ref 0 0]),aJ 0 c])) (fun f=>?_) 0) fun J=>?_;refine ig fun b8=>?_;refine bo rg fun b9=>?_;refine bo rg fun E=>?_;refine bl ?_;refine bo (zLo (fun m=>(Q [(0,.yld 5),bQ 1 4,aY 6 a,aY 7 b,aY 8 f,cP 67 c.aF,aY 68 a,cP 91 g.aO,aY 92 b,cP 107 l.aT,aY 108 f,cP 127 E.aW,aY 128 m] [Ce,(3,.box [bv h]),bM 2 i,dO 1 e,(4,.box [.ref 0 0]),aJ 0 c])) (fun|.inl o=>(rq [(0,.yld 5),bQ 1 4,aY 6 a,aY 7 b,cP 67 c.aF,aY 68 a,cP 91 g.aO,aY 92 b,cP 107 l.aT,aY 108 f] [zQ2,(3,.box [bv true]),(2,.box [i64 4,i64 0,i64 b,i64 a,i64 f,i64 o,i64 0]),dO 1 e,(4,.box [.ref 0 0]),aJ 0 c])|.inr _=>(xq 10 [(0,.yld 5),bQ 1 4,aY 6 a,aY 7 b,cP 67 c.aF,aY 68 a,cP 91 g.aO,aY 92 b,cP 107 l.aT,aY 108 f] [Ce,(3,.box [bv h]),bM 2 i,dO 1 e,(4,.box [.ref 0 0]),aJ 0 c])) (fun m=>?_) 0) fun H=>?_;refine ig fun d0=>?_;refine bo rg fun d2=>?_;refine bo rg fun d3=>?_;refine bo rg fun F=>?_;refine bo (Sd d 4 0 b a f m 0 F h i e) fun G=>?_;rcases G with _|_;rfl;rfl;rcases H with o|_;rfl;rfl;rcases J with⟨p,q⟩|_;rfl;rfl;rcases K with⟨r,s,t⟩|_;rfl;rfl;rcases L with⟨u,v,w,x,y⟩|_;rfl;refine bl ?_;refine bo (zLo (fun n=>(Q [(0,.yld 5),bQ 1 4,cP 166 c.bT,aY 167 n] [Ce,(4,.box [.ref 0 0]),aJ 0 c,(3,.box [bv h]),bM 2 i,dO 1 e])) (fun|.inl z=>(rq [] [zQ2,(4,.box [.ref 0 0]),aJ 0 c,(3,.box [bv true]),(2,.box [i64 5,i64 0,i64 0,i64 0,i64 0,i64 0,i64 z]),dO 1 e])|.inr _=>(xq 12 [] [Ce,(4,.box [.ref 0 0]),aJ 0 c,(3,.box [bv h]),bM 2 i,dO 1 e])) (fun n=>?_) 0) fun O=>?_;refine ig fun M=>?_;refine bo (Se d 5 0 0 0 0 0 n M h i e) fun N=>?_;rcases N with _|_;rfl;rfl;rcases O with z|_;rfl;rfl
end Go.P
namespace Go.P
open Go.Sim (Ex iV CK)
open K (I Q rq nq xq ck)
variable {k:Bool} (d:Nat)
def qX1 (b:Y0) (a:YZ):aB (YP×Bool):=
 if((a.gJ==0)&&((a.dE==0)&&true))!=false then some (YP.mk 0 0 0 0 0 0 0,false)else(Dk b).bind fun _=>(Dl b false (YP.mk 0 0 0 0 0 0 0) a).bind fun c=>(match c with|.inl x3=>some (x3,true)|.inr _=>some (YP.mk 0 0 0 0 0 0 0,false))
def gX2 a b:OD k (d+3) 210 [cV a,Md b]=(qX1 a b).map (fun⟨c,e⟩=>.tup [eY c,bv e]):=oe rfl<|iy<|bo (jC1 (d+1) a) fun _=>bo (jD1 d a false (YP.mk 0 0 0 0 0 0 0) b) fun|.inl f=>rfl|.inr _=>rfl
def qY1 (c:aA Int):aB (aA Int):=
 (Cb (c.length:Int) (c.length:Int) 0).bind fun k=>(aS (fun(⟨b,a⟩:Int×(aA Int))=>if decide (b<(c.length:Int))then(eE a (bF (b-1))).bind fun d=>(dX a d).bind fun e=>(bU c (bF (b-1))).bind fun f=>(eE a b).bind fun g=>(gR a g (fun j=>(bF (e+f)))).bind fun h=>some (.inl (bF (b+1),h))else some (.inr a)) bK (1,k)).bind fun i=>some i
def gY2 e:OD k (d+1) 234 [oF e]=(qY1 e).map (fun q=>oF q):=oe rfl<|bl<|bo (oK cI _ _ 0) fun p=>bo (zLo (fun⟨j,a⟩=>(Q [uE 0 e,(3,.own 0),aY 4 j] [(0,.lst 3 1 true (I cI a))])) (fun(i:aA Int)=>(xq 0 [(3,.own 0)] [(0,.lst 3 1 true (I cI i))])) (fun⟨j,a⟩=>bl<|io<|bo (bL cI a _) fun l=>bo (cY (A:=Int) (c:=cI) (g:=fun b=>i64 b) (fun _=>rfl) a _) fun b=>bo rg fun h=>bo (bL cI a _) fun n=>bo (cZ (A:=Int) (c:=cI) (m:=1) (f:=fun o=>(bF (b+h))) (fun _=>⟨rfl,rfl⟩) (fK3 rfl) a _)) (1,p))
def qZ1 (b:YO) (c:Int):aB ((aA Int)×Int):=
 (iP1 b c).bind fun⟨d,a⟩=>if a !=0 then some ([],a)else(qY1 d).bind fun e=>some (e,0)
def gZ2 a b:OD k (d+14) 211 [iU a,i64 b]=(qZ1 a b).map (fun⟨e,f⟩=>.tup [oF e,i64 f]):=oe rfl<|bo (vB1 d a b) fun⟨c,g⟩=>iy<|bo (gY2 (d+12) c)
def jE1 (d:YK) (g:YZ):aB (YQ×Bool):=
 (qX1 d.s' g).bind fun⟨a,h⟩=>if(!h)||(a.dH !=4)then some (YQ.mk 0 0 0 0,false)else(bU d.s'.aF a.dF).bind fun e=>(F90 e).bind fun⟨i,l⟩=>(bU e.aO a.iE).bind fun j=>(bU j.aT a.iN).bind fun k=>(qZ1 k i).bind fun⟨b,f⟩=>if decide (a.pV>=(b.length:Int))then some (YQ.mk 0 0 0 0,false)else(bU b a.pV).bind fun c=>some ({a with At:=c},true)
def vH1 a b:OD k (d+15) 168 [dJ a,Md b]=(jE1 a b).map (fun⟨i,j⟩=>.tup [lO i,bv j]):=oe rfl<|bo (gX2 (d+11) a.s' b) fun⟨l,m⟩=>bz (kB rfl)<|iy<|bo rg fun f=>bo (cE1 (d+10) f) fun⟨g,n⟩=>bo rg fun o=>bo rg fun h=>bo (gZ2 d h g) fun⟨c,e⟩=>bl<|iy<|bo rg
def Vi (a b:Int):aB Bool:=
 some ((decide (a>=0))&&(decide (a<=b)))
def Yk a b:OD k (d+1) 235 [i64 a,i64 b]=(Vi a b).map bv:=oe rfl<|bz (jC rfl)
def jF1 (a:YQ):aB Bool:=
 (Vi a.dF 1023).bind fun b=>(if b then(Vi a.At 4398046511104).bind fun c=>some c else some false:aB Bool).bind fun d=>(if d then(Vi a.iE 127).bind fun e=>some e else some false:aB Bool).bind fun f=>(if f then(Vi a.iN 1).bind fun g=>some g else some false:aB Bool).bind fun h=>some h
def vI1 a:OD k (d+2) 212 [lO a]=(jF1 a).map bv:=oe rfl<|bo (Yk d a.dF 1023) fun b=>be (io<|bo (Yk d a.At 4398046511104)) fun c=>be (io<|bo (Yk d a.iE 127)) fun e=>be (io<|bo (Yk d a.iN 1))
def jG1 (a:Int):aB Bool:=
 some ((a==1)||(a==7))
def vJ1 a:OD k (d+1) 213 [i64 a]=(jG1 a).map bv:=oe rfl<|bz (kB rfl)
def jH1 (a:Int):aB Bool:=
 some (a !=a)
def vK1 a:OD k (d+1) 245 [i64 a]=(jH1 a).map bv:=oe rfl<|rfl
def jI1 (a b:Int):aB Int:=
 (jH1 a).bind fun d=>(jH1 b).bind fun c=>if d then if c then some 0 else some (-1)else if c then some 1 else if decide (a<b)then some (-1)else if decide (a>b)then some 1 else some 0
def vL1 a b:OD k (d+2) 237 [i64 a,i64 b]=(jI1 a b).map i64:=oe rfl<|bo (vK1 d a) fun c=>bo (vK1 d b) fun e=>io io<|iy<|iy io
def rA1 (c:aA Int):aB Int:=
 (aS (E:=Int⊕Unit) (fun(a:Int)=>dM c a (fun b=>if b !=0 then some (.inr (.inl b))else some (.inl (bF (a+1)))) (some (.inr (.inr ())))) bK 0).bind fun d=>(match d with|.inl x5=>some x5|.inr _=>some 0)
def hA2 a:OD k (d+1) 236 [oF a]=(rA1 a).map i64:=oe rfl<|bl<|bo (zLo (fun b=>(Q [aY 3 0,uE 6 a,cP 7 a,aY 8 b] [])) (fun|.inl c=>(rq [aY 2 c,aY 3 0] [])|.inr _=>(xq 0 [aY 3 0] [])) (fun b=>ig fun e=>io) 0) fun|.inl c=>rfl|.inr _=>rfl
def Hz (a b:YQ):aB Int:=
 (jI1 a.dF b.dF).bind fun c=>(jI1 a.At b.At).bind fun d=>(rA1 [c,d]).bind fun e=>some e
def Gx a b:OD k (d+3) 214 [lO a,lO b]=(Hz a b).map i64:=oe rfl<|bo (vL1 d a.dF b.dF) fun c=>bo (vL1 d a.At b.At) fun e=>bo (hA2 (d+1) [c,e])
def rB1 (a:YS):aB Int:=
 if(decide (a.dH<1))||(decide (a.dH>7))then some 11 else(jF1 a.jL).bind fun b=>(if !b then some true else(jF1 a.To).bind fun c=>some (!c):aB Bool).bind fun d=>if d then some 2 else(if a.jL.iE !=a.To.iE then some true else(jG1 a.dH).bind fun e=>some (e&&(a.jL.iN !=a.To.iN)):aB Bool).bind fun f=>if f then some 23 else(Hz a.jL a.To).bind fun g=>if decide (g>=0)then some 25 else some 0
def hB2 a:OD k (d+4) 169 [dA a]=(rB1 a).map i64:=oe rfl<|bz (kB rfl)<|iy<|bo (vI1 (d+1) a.jL) fun b=>be (iy<|bo (vI1 (d+1) a.To)) fun c=>iy<|be (iy<|bo (vJ1 (d+2) a.dH) fun e=>bz (jC rfl)) fun f=>iy<|bo (Gx d a.jL a.To) fun g=>io
def Sf (p:aA YV) (h:Y0) (q:Int):aB ((aA Bool)×(aA YS)):=
 (aS (fun(⟨b,c,d⟩:Int×(aA Bool)×(aA YS))=>dM h.bT b (fun a=>(jE1 (YK.mk h q p) a.jL).bind fun⟨e,g⟩=>(jE1 (YK.mk h q p) a.To).bind fun⟨f,i⟩=>(lM false d [{a with jL:=e,To:=f}]).bind fun j=>(if(!g)||(!i)then some true else(rB1 {a with jL:=e,To:=f}).bind fun k=>some (k !=0):aB Bool).bind fun l=>(lM false c [l]).bind fun m=>some (.inl (bF (b+1),m,j))) (some (.inr (c,d)))) bK (0,[],[])).bind fun⟨n,o⟩=>some (n,o)
def jJ1 c b h:gN (XD k (d+16)) 112 [.ref 1 0] (cL c b h) 3 true=(Sf c b h).map (fun(⟨p,q⟩:(aA Bool)×(aA YS))=>(.tup [.own 3,.own 4],((4,.lst 4 1 false (I cB p))::(3,.lst 185 9 false (I YS.g q))::cL c b h),5)):=by rw[xd (fn:=dA2) rfl];exact bl<|bo (zLo (fun⟨i,e,f⟩=>(Q [bQ 0 1,(4,.own 3),(5,.own 4),kH 17 b.bT,cP 18 b.bT,aY 19 i] ((4,.lst 4 1 false (I cB e))::(3,.lst 185 9 false (I YS.g f))::cL c b h))) (fun(⟨n,o⟩:(aA Bool)×(aA YS))=>(xq 0 [(4,.own 3),(5,.own 4)] ((4,.lst 4 1 false (I cB n))::(3,.lst 185 9 false (I YS.g o))::cL c b h))) (fun⟨i,e,f⟩=>ig fun a=>bo (vH1 d (YK.mk b h c) a.jL) fun⟨j,r⟩=>bo (vH1 d (YK.mk b h c) a.To) fun⟨l,s⟩=>bo (dN false YS.g f [{a with jL:=j,To:=l}]) fun t=>bz (kB rfl)<|be (iy<|bo (hB2 (d+11) {a with jL:=j,To:=l})) fun m=>bo (dN false cB e [m])) (0,[],[]))
def jK1 (i:aA YV) (h:Y0) (j:Int):aB (aA YV):=
 (Sf i h j).bind fun⟨k,l⟩=>(aS (fun(⟨a,b⟩:Int×(aA YV))=>dM h.bT a (fun c=>(eE k a).bind fun d=>(dX k d).bind fun e=>(mP e c.ID b h j).bind fun f=>some (.inl (bF (a+1),f))) (some (.inr b))) bK (0,i)).bind fun g=>some g
def hF2 i a f:gN (XD k (d+17)) 55 [.ref 1 0] (cL i a f) 3 false=(jK1 i a f).map (fun(n:aA YV)=>(.tup [],cL n a f,0)):=by rw[xd (fn:=p55) rfl];exact bo (jJ1 d i a f) fun⟨j,o⟩=>bl<|bo (zLo (S:=Int×(aA YV)) (fun⟨h,b⟩=>(Q [bQ 0 1,(3,.own 4),kH 15 a.bT,cP 16 a.bT,aY 17 h] ((4,.lst 4 1 false (I cB j))::(3,.lst 185 9 false (I YS.g o))::cL b a f))) (fun(m:aA YV)=>(xq 0 [] ((4,.lst 4 1 false (I cB j))::(3,.lst 185 9 false (I YS.g o))::cL m a f))) (fun⟨h,b⟩=>ig fun l=>bo (bL cB j _) fun p=>bo (cY (A:=Bool) (c:=cB) (g:=fun e=>bv e) (fun _=>rfl) j _) fun e=>bo (lG (d+15) e l.ID b a f)) (0,i))
def cQ1 (a:Int):aB Int:=
 if(decide (a<1))||(decide (a>7))then some 0 else(bU [1,2,2,4,4,6,7] (bF (a-1))).bind fun b=>some b
def jL1 a:OD k (d+1) 215 [i64 a]=(cQ1 a).map i64:=oe rfl<|bz (kB rfl)<|iy<|bo (sD .i64 [1,2,2,4,4,6,7] (bF (a-1)) rfl)
def rC1 (a b:YS):aB Bool:=
 (cQ1 a.dH).bind fun c=>(if decide (c>0)then(cQ1 a.dH).bind fun d=>(cQ1 b.dH).bind fun e=>some (d==e)else some false:aB Bool).bind fun f=>(if f&&(a.jL.iE==b.jL.iE)then(jG1 a.dH).bind fun g=>some ((!g)||(a.jL.iN==b.jL.iN))else some false:aB Bool).bind fun h=>some h
def hG2 a b:OD k (d+2) 170 [dA a,dA b]=(rC1 a b).map bv:=oe rfl<|bo (jL1 d a.dH) fun c=>be (io<|bo (jL1 d a.dH) fun e=>bo (jL1 d b.dH)) fun f=>bz (jC rfl)<|be (io<|bo (vJ1 d a.dH) fun g=>bz (kB rfl))
def rD1 (a b:YS):aB Bool:=
 (Hz a.To b.jL).bind fun c=>(if decide (c<0)then some true else(Hz b.To a.jL).bind fun d=>some (decide (d<0)):aB Bool).bind fun e=>some e
def hH2 a b:OD k (d+4) 174 [dA a,dA b]=(rD1 a b).map bv:=oe rfl<|bo (Gx d a.To b.jL) fun c=>be (iy<|bo (Gx d b.To a.jL))
def cR1 (a b:YS):aB Bool:=
 (rD1 a b).bind fun c=>some (!c)
def jM1 a b:OD k (d+5) 173 [dA a,dA b]=(cR1 a b).map bv:=oe rfl<|bo (hH2 d a b)
def jN1 (a b:YS):aB Bool:=
 (Hz a.To b.jL).bind fun c=>(if decide (c<=0)then some true else(Hz b.To a.jL).bind fun d=>some (decide (d<=0)):aB Bool).bind fun e=>some e
def vM1 a b:OD k (d+4) 172 [dA a,dA b]=(jN1 a b).map bv:=oe rfl<|bo (Gx d a.To b.jL) fun c=>be (iy<|bo (Gx d b.To a.jL))
def cS1 (a b:YS):aB Bool:=
 (jN1 a b).bind fun c=>some (!c)
def jO1 a b:OD k (d+5) 171 [dA a,dA b]=(cS1 a b).map bv:=oe rfl<|bo (vM1 d a b)
def jP1 (a b:YS):aB Bool:=
 (Hz a.jL b.jL).bind fun c=>(if decide (c>=0)then(Hz a.To b.To).bind fun d=>some (decide (d<=0))else some false:aB Bool).bind fun e=>some e
def vN1 a b:OD k (d+4) 216 [dA a,dA b]=(jP1 a b).map bv:=oe rfl<|bo (Gx d a.jL b.jL) fun c=>be (io<|bo (Gx d a.To b.To))
def rE1 (a b:YS):aB Bool:=
 (jN1 a b).bind fun c=>(if !c then(jP1 a b).bind fun d=>(jP1 b a).bind fun e=>some ((d==e)!=false)else some false:aB Bool).bind fun f=>some f
def hJ2 a b:OD k (d+5) 175 [dA a,dA b]=(rE1 a b).map bv:=oe rfl<|bo (vM1 d a b) fun c=>be (io<|bo (vN1 d a b) fun e=>bo (vN1 d b a))
def rF1 (a b:YS):aB Bool:=
 (rC1 a b).bind fun d=>if !d then some false else if(bF (a.dH-1))==6 then(cR1 a b).bind fun e=>some e else if(bF (a.dH-1))==5 then(cS1 a b).bind fun f=>some f else if(bF (a.dH-1))==4 then(cR1 a b).bind fun g=>some g else if(bF (a.dH-1))==3 then(cR1 a b).bind fun h=>some h else if(bF (a.dH-1))==2 then(cS1 a b).bind fun i=>some i else if(bF (a.dH-1))==1 then(cS1 a b).bind fun j=>some j else if(bF (a.dH-1))==0 then(rE1 a b).bind fun c=>some c else none
def hO2 a b:OD k (d+6) 113 [dA a,dA b]=(rF1 a b).map bv:=oe rfl<|bo (hG2 (d+3) a b) fun c=>iy<|io (bo (jM1 d a b))<|io (bo (jO1 d a b))<|io (bo (jM1 d a b))<|io (bo (jM1 d a b))<|io (bo (jO1 d a b))<|io (bo (jO1 d a b))<|io (bo (hJ2 d a b))
def jQ1 (w:aA YV) (g:Y0) (x:Int):aB (aA YV):=
 (Sf w g x).bind fun⟨e,f⟩=>(aS (fun(⟨a,c⟩:Int×(aA YV))=>dM g.bT a (fun h=>(aS (fun(⟨d,b⟩:Bool×Int)=>(if decide (b<a)then(eE e a).bind fun i=>(dX e i).bind fun j=>some (!j)else some false:aB Bool).bind fun k=>if k&&(!d)then(eE e b).bind fun l=>(dX e l).bind fun m=>(if !m then(eE f b).bind fun n=>(dX f n).bind fun o=>(eE f a).bind fun p=>(dX f p).bind fun q=>(rF1 o q).bind fun r=>some r else some false:aB Bool).bind fun s=>some (.inl (s,bF (b+1)))else some (.inr d)) bK (false,0)).bind fun t=>(mP t h.ID c g x).bind fun u=>some (.inl (bF (a+1),u))) (some (.inr c))) bK (0,w)).bind fun v=>some v
def hQ2 s e i:gN (XD k (d+17)) 56 [.ref 1 0] (cL s e i) 3 false=(jQ1 s e i).map (fun(v:aA YV)=>(.tup [],cL v e i,0)):=by rw[xd (fn:=p56) rfl];exact bo (jJ1 d s e i) fun⟨j,l⟩=>bl<|bo (zLo (S:=Int×(aA YV)) (fun⟨f,h⟩=>(Q [bQ 0 1,(2,.own 3),(3,.own 4),kH 17 e.bT,cP 18 e.bT,aY 19 f] ((4,.lst 4 1 false (I cB j))::(3,.lst 185 9 false (I YS.g l))::cL h e i))) (fun(u:aA YV)=>(xq 0 [] ((4,.lst 4 1 false (I cB j))::(3,.lst 185 9 false (I YS.g l))::cL u e i))) (fun⟨f,h⟩=>ig fun n=>bo (zLo (S:=Bool×Int) (fun⟨p,q⟩=>(Q [bQ 0 1,(2,.own 3),(3,.own 4),aY 4 f,bQ 5 5,(6,bv p),aY 7 q,kH 17 e.bT,cP 18 e.bT,aY 19 f] (yU 5 n::(4,.lst 4 1 false (I cB j))::(3,.lst 185 9 false (I YS.g l))::cL h e i))) (fun(o:Bool)=>(xq 2 [bQ 0 1,(2,.own 3),(3,.own 4),bQ 5 5,(6,bv o),kH 17 e.bT,cP 18 e.bT,aY 19 f] (yU 5 n::(4,.lst 4 1 false (I cB j))::(3,.lst 185 9 false (I YS.g l))::cL h e i))) (fun⟨p,q⟩=>be (io<|bo (bL cB j _) fun w=>bo (cY (A:=Bool) (c:=cB) (g:=fun t=>bv t) (fun _=>rfl) j _)) fun x=>bz (jC rfl)<|io<|bo (bL cB j _) fun y=>bo (cY (A:=Bool) (c:=cB) (g:=fun r=>bv r) (fun _=>rfl) j _) fun r=>be (io<|bo (bL YS.g l _) fun z=>bo (fJ (A:=YS) (c:=YS.g) (m:=9) (g:=fun a=>[i64 a.dH,i64 a.jL.dF,i64 a.jL.At,i64 a.jL.iE,i64 a.jL.iN,i64 a.To.dF,i64 a.To.At,i64 a.To.iE,i64 a.To.iN]) (fun _=>⟨rfl,rfl⟩) (fK3 rfl) l _) fun a=>bo (bL YS.g l _) fun B=>bo (fJ (A:=YS) (c:=YS.g) (m:=9) (g:=fun b=>[i64 b.dH,i64 b.jL.dF,i64 b.jL.At,i64 b.jL.iE,i64 b.jL.iN,i64 b.To.dF,i64 b.To.At,i64 b.To.iE,i64 b.To.iN]) (fun _=>⟨rfl,rfl⟩) (fK3 rfl) l _) fun b=>bo (hO2 (d+10) a b))) (false,0)) fun o=>bo (lG (d+15) o n.ID h e i)) (0,s))
def rG1 (f:Int) (a:YM):aB Bool:=
 (if a.bN !=0 then(Hl a.bN 2 8).bind fun b=>some (!b)else some false:aB Bool).bind fun c=>(if c then some true else(Hl a.bS 0 255).bind fun d=>some (!d):aB Bool).bind fun e=>some e
def hR2 b a:OD k (d+2) 114 [i64 b,eF a]=(rG1 b a).map bv:=oe rfl<|be (io<|bo (uF d a.bN 2 8)) fun c=>be (iy<|bo (uF d a.bS 0 255))
def Nb (h:aA YV) (e:Y0) (i:Int):aB (aA YV):=
 (aS (fun(⟨d,f⟩:Int×(aA YV))=>dM e.aF d (fun g=>(rG1 d g).bind fun a=>(mP a g.ID f e i).bind fun b=>some (.inl (bF (d+1),b))) (some (.inr f))) bK (0,h)).bind fun c=>some c
def rH1 c a b:gN (XD k (d+3)) 86 [.ref 1 0,.fn 114 [] []] (cL c a b) 3 false=(Nb c a b).map (fun(g:aA YV)=>(.tup [],cL g a b,0)):=by rw[xd (fn:=p86) rfl];exact bl<|bo (zLo (fun⟨h,i⟩=>(Q [bQ 0 1,(1,.fn 114 [] []),aX 10 a.aF,cP 11 a.aF,aY 12 h] (cL i a b))) (fun(f:aA YV)=>(xq 0 [] (cL f a b))) (fun⟨h,i⟩=>ig fun j=>bo (hR2 d h j) fun e=>bo (lG (d+1) e j.ID i a b)) (0,c))
def rI1 (a:Int):aB Int:=
 (if decide (a>=4294967296)then(Ux .u64 a 32).bind fun h=>some (h,32)else some (a,0):aB (Int×Int)).bind fun⟨d,f⟩=>(if decide (d>=65536)then(Ux .u64 d 16).bind fun i=>some (i,bF (f+16))else some (d,f):aB (Int×Int)).bind fun⟨e,g⟩=>(if decide (e>=256)then(Ux .u64 e 8).bind fun j=>some (j,bF (g+8))else some (e,g):aB (Int×Int)).bind fun⟨k,b⟩=>(tO (⟨#[0,1,2,2,3,3,3,3,4,4,4,4,4,4,4,4,5,5,5,5,5,5,5,5,5,5,5,5,5,5,5,5,6,6,6,6,6,6,6,6,6,6,6,6,6,6,6,6,6,6,6,6,6,6,6,6,6,6,6,6,6,6,6,6,7,7,7,7,7,7,7,7,7,7,7,7,7,7,7,7,7,7,7,7,7,7,7,7,7,7,7,7,7,7,7,7,7,7,7,7,7,7,7,7,7,7,7,7,7,7,7,7,7,7,7,7,7,7,7,7,7,7,7,7,7,7,7,7,8,8,8,8,8,8,8,8,8,8,8,8,8,8,8,8,8,8,8,8,8,8,8,8,8,8,8,8,8,8,8,8,8,8,8,8,8,8,8,8,8,8,8,8,8,8,8,8,8,8,8,8,8,8,8,8,8,8,8,8,8,8,8,8,8,8,8,8,8,8,8,8,8,8,8,8,8,8,8,8,8,8,8,8,8,8,8,8,8,8,8,8,8,8,8,8,8,8,8,8,8,8,8,8,8,8,8,8,8,8,8,8,8,8,8,8,8,8,8,8,8,8,8,8,8,8,8,8]⟩:ByteArray) (IntKind.wrap .u8 (k))).bind fun c=>some (bF (b+(bF (c))))
def hS2 (b:Int):OD k (d+1) 229 [.v (.int .u64 b)]=(rI1 b).map i64:=oe rfl<|by
 refine bo (e:=(fun(⟨c,f⟩:Int×Int)=>(nq [(0,.v (.int .u64 c)),aY 2 f] []))) ?_ fun⟨c,f⟩=>?_;refine io ?_;refine bo oi fun l=>?_;rfl;refine bo (e:=(fun(⟨g,h⟩:Int×Int)=>(nq [(0,.v (.int .u64 g)),aY 2 h] []))) ?_ fun⟨g,h⟩=>?_;refine io ?_;refine bo oi fun m=>?_;rfl;refine bo (e:=(fun(⟨i,a⟩:Int×Int)=>(nq [(0,.v (.int .u64 i)),aY 2 a] []))) ?_ fun⟨i,a⟩=>?_;refine io ?_;refine bo oi fun n=>?_;rfl;refine bo oi fun j=>?_;rfl
def Sg (a:Int):aB Int:=
 (rI1 a).bind fun b=>some b
def Sh a:OD k (d+2) 189 [.v (.int .u64 a)]=(Sg a).map i64:=oe rfl<|bo (hS2 d a)
def Nc (a:YG):aB Bool:=
 (if decide (a.passes>0)then(nY1 .i64 1 (bF (a.passes-1))).bind fun b=>some (a.ending==b)else some false:aB Bool).bind fun c=>some c
def Ke a:OD k (d+1) 116 [lF a]=(Nc a).map bv:=oe rfl<|be (io<|bo oi)
def rJ1 (a:YG) (b:YM):aB (YG×Bool):=
 if b.cN||(a.body==0)then some (a,false)else if b.bS !=a.ending then if((a.ending !=0)&&(!a.ended))||((Rl .i64 b.bS a.used)!=0)then some (a,false)else(Sg (IntKind.wrap .u64 (b.bS))).bind fun k=>if a.passes==0 then if((Rl .i64 b.bS 1)==0)||(decide ((bF (k-1))>6))then some ({a with used:=Uy .i64 a.used b.bS,ending:=b.bS,ended:=false},false)else if b.bN !=0 then(Nc {a with used:=Uy .i64 a.used b.bS,ending:=b.bS,ended:=false}).bind fun l=>(if l||((a.passes !=0)&&(b.bN !=a.passes))then some true else(Sg (IntKind.wrap .u64 (b.bS))).bind fun m=>some (decide (m>=b.bN)):aB Bool).bind fun n=>if n then some ({a with used:=Uy .i64 a.used b.bS,ending:=b.bS,ended:=false},false)else some (YG.mk a.started a.body (Uy .i64 a.used b.bS) b.bS true b.bN,true)else some ({a with used:=Uy .i64 a.used b.bS,ending:=b.bS,ended:=false},true)else(if decide ((bF (k-1))>=a.passes)then some true else(if(bF (k-1))==(bF (a.passes-1))then(Nc {a with used:=Uy .i64 a.used b.bS,ending:=b.bS,ended:=false}).bind fun o=>(if !o then some true else(nY1 .i64 1 a.passes).bind fun p=>some ((Uy .i64 a.used b.bS)!=(bF (p-1))):aB Bool).bind fun q=>some q else some false:aB Bool).bind fun c=>some c:aB Bool).bind fun d=>if d then some ({a with used:=Uy .i64 a.used b.bS,ending:=b.bS,ended:=false},false)else if b.bN !=0 then(Nc {a with used:=Uy .i64 a.used b.bS,ending:=b.bS,ended:=false}).bind fun e=>(if e||((a.passes !=0)&&(b.bN !=a.passes))then some true else(Sg (IntKind.wrap .u64 (b.bS))).bind fun f=>some (decide (f>=b.bN)):aB Bool).bind fun g=>if g then some ({a with used:=Uy .i64 a.used b.bS,ending:=b.bS,ended:=false},false)else some (YG.mk a.started a.body (Uy .i64 a.used b.bS) b.bS true b.bN,true)else some ({a with used:=Uy .i64 a.used b.bS,ending:=b.bS,ended:=false},true)else if a.ended then some (a,false)else if b.bN !=0 then(Nc a).bind fun h=>(if h||((a.passes !=0)&&(b.bN !=a.passes))then some true else(Sg (IntKind.wrap .u64 (a.ending))).bind fun i=>some (decide (i>=b.bN)):aB Bool).bind fun j=>if j then some (a,false)else some ({a with ended:=true,passes:=b.bN},true)else some (a,true)
def hT2 b a:OD k (d+3) 176 [lF b,eF a]=(rJ1 b a).map (fun⟨i,j⟩=>.tup [lF i,bv j]):=oe rfl<|bz (kB rfl)<|iy<|io (bz (jC rfl)<|bz (kB rfl)<|iy<|bo (Sh d (IntKind.wrap .u64 (a.bS))) fun l=>io (bz (kB rfl)<|iy<|io<|bo (Ke (d+1) {b with used:=Uy .i64 b.used a.bS,ending:=a.bS,ended:=false}) fun m=>bz (kB (bz (jC rfl) rfl))<|be (iy<|bo (Sh d (IntKind.wrap .u64 (a.bS)))) fun n=>io)<|be (iy<|be (io<|bo (Ke (d+1) {b with used:=Uy .i64 b.used a.bS,ending:=a.bS,ended:=false}) fun o=>be (iy<|bo oi))) fun c=>iy<|io<|bo (Ke (d+1) {b with used:=Uy .i64 b.used a.bS,ending:=a.bS,ended:=false}) fun e=>bz (kB (bz (jC rfl) rfl))<|be (iy<|bo (Sh d (IntKind.wrap .u64 (a.bS)))) fun f=>io)<|iy<|io<|bo (Ke (d+1) b) fun g=>bz (kB (bz (jC rfl) rfl))<|be (iy<|bo (Sh d (IntKind.wrap .u64 (b.ending)))) fun h=>io
def rK1 (a:YG) (b:YM):aB (YG×Bool):=
 if b.bS !=0 then(rJ1 a b).bind fun⟨e,f⟩=>some (e,f)else if a.ending !=0 then(Nc a).bind fun g=>if !g then some (a,false)else if b.cN then if false then some (YG.mk false 0 0 0 false 0,false)else(if b.bN !=0 then some (false,0)else some (true,1):aB (Bool×Int)).bind fun⟨h,i⟩=>some (YG.mk h i 0 0 false 0,true)else(if b.bN !=0 then some 0 else some 1:aB Int).bind fun j=>some (YG.mk false j 0 0 false 0,true)else if b.cN then if a.started then some (a,false)else(if b.bN !=0 then some (false,0)else some (true,1):aB (Bool×Int)).bind fun⟨k,c⟩=>some (YG.mk k c 0 0 false 0,true)else(if b.bN !=0 then some (YG.mk false 0 0 0 false 0)else some {a with body:=bF (a.body+1)}:aB YG).bind fun d=>some (d,true)
def hU2 b a:OD k (d+4) 115 [lF b,eF a]=(rK1 b a).map (fun⟨l,m⟩=>.tup [lF l,bv m]):=oe rfl<|io (bo (hT2 d b a))<|io (bo (Ke (d+2) b) fun n=>iy<|io (iy<|bo (e:=(fun(⟨g,h⟩:Bool×Int)=>(nq [bQ 2 0,bQ 4 2] [oG1,aV 1 a,(0,.box [bv g,i64 h,i64 0,i64 0,bv false,i64 0])]))) io)<|bo (e:=(fun(i:Int)=>(nq [bQ 2 0,bQ 4 2] [oG1,aV 1 a,(0,.box [bv false,i64 i,i64 0,i64 0,bv false,i64 0])]))) io)<|io (iy<|bo (e:=(fun(⟨j,c⟩:Bool×Int)=>(nq [bQ 2 0,bQ 4 2] [oG1,aV 1 a,(0,.box [bv j,i64 c,i64 0,i64 0,bv false,i64 0])]))) io)<|bo (e:=(fun(f:YG)=>(nq [bQ 2 0,bQ 4 2] [oG1,aV 1 a,mE 0 f]))) io
def jR1 (o:aA YV) (a:Y0) (n:Int):aB (aA YV):=
 (Nb o a n).bind fun e=>if decide ((e.length:Int)>(o.length:Int))then some e else(aS (E:=(YG×(aA YV))⊕YG) (fun(⟨p,b⟩:Int×YG)=>dM a.aF p (fun c=>(rK1 b c).bind fun⟨d,f⟩=>if !f then(mP true c.ID e a n).bind fun g=>some (.inr (.inl (d,g)))else some (.inl (bF (p+1),d))) (some (.inr (.inr b)))) bK (0,YG.mk false 0 0 0 false 0)).bind fun h=>(match h with|.inl ⟨x15,x16⟩=>some x16|.inr x17=>(if x17.started&&(x17.ending==0)then some true else(if x17.ending !=0 then(Nc x17).bind fun i=>some (!i)else some false:aB Bool).bind fun j=>some j:aB Bool).bind fun k=>(bU a.aF (bF ((a.aF.length:Int)-1))).bind fun l=>(mP k l.ID e a n).bind fun m=>some m)
def hX2 (j:aA YV) (a:Y0) (b:Int):gN (XD k (d+5)) 57 [.ref 1 0] (cL j a b) 3 false=(jR1 j a b).map (fun(o:aA YV)=>(.tup [],cL o a b,0)):=by
 rw[xd (fn:=p57) rfl];refine bz (dG YV.g j) ?_;refine bo (rH1 (d+1) j a b) fun i=>?_;refine bz (dG YV.g i) ?_;refine iy ?_;refine bl ?_;refine bo (zLo (S:=Int×YG) (fun⟨p,c⟩=>(Q [bQ 0 1,bQ 3 3,aX 26 a.aF,cP 27 a.aF,aY 28 p] (mE 3 c::cL i a b))) (fun|.inl ⟨f,h⟩=>(rq [bQ 3 3] (mE 3 f::cL h a b))|.inr x17=>(xq 0 [bQ 0 1,bQ 3 3] (mE 3 x17::cL i a b))) (fun⟨p,c⟩=>?_) (0,YG.mk false 0 0 0 false 0)) fun l=>?_;refine ig fun e=>?_;refine bo (hU2 d c e) fun⟨q,r⟩=>?_;refine io ?_;refine bo (lG (d+3) true e.ID i a b) fun s=>?_;rfl;rcases l with⟨f,h⟩|x17;rfl;refine bz (jC rfl) ?_;refine be ?_ fun m=>?_;refine iy ?_;refine be ?_ fun u=>?_;refine io ?_;refine bo (Ke (d+3) x17) fun t=>?_;rfl;rfl;refine bl ?_;refine bo rg fun n=>?_;refine bo (lG (d+3) m n.ID i a b) fun v=>?_;rfl
def rL1 (a b:YM):aB Bool:=
 some (((b.lU !=0)&&(a.lU !=0))||((Rl .i64 b.fL a.fL)!=0))
def hY2 a b:OD k (d+1) 118 [eF a,mM b]=(rL1 a b).map bv:=oe rfl<|bz (jC rfl)<|bz (kB rfl)
def rM1 (b:aA YM) (c:YM):aB Int:=
 (aS (E:=Int⊕Unit) (fun(a:Int)=>dM b a (fun d=>(rL1 d c).bind fun e=>if e then some (.inr (.inl a))else some (.inl (bF (a+1)))) (some (.inr (.inr ())))) bK 0).bind fun f=>(match f with|.inl x8=>some x8|.inr _=>some (-1))
def hZ2 a b:OD k (d+2) 177 [kC a,.fn 118 [] [mM b]]=(rM1 a b).map i64:=oe rfl<|bl<|bo (zLo (fun c=>(Q [aX 0 a,(1,.fn 118 [] [mM b]),cP 7 a,aY 8 c] [])) (Sx 4) (fun c=>ig fun e=>bo (hY2 d e b) fun f=>io) 0) fun|.inl g=>rfl|.inr _=>rfl
def rN1 (a:aA YM) (b:YM):aB Bool:=
 (rM1 a b).bind fun c=>some (decide (c>=0))
def iA2 a b:OD k (d+3) 119 [kC a,.fn 118 [] [mM b]]=(rN1 a b).map bv:=oe rfl<|bo (hZ2 d a b)
def rO1 (a:YM) (b:Int):aB Bool:=
 some ((Rl .i64 a.fL b)!=0)
def iB2 a b:OD k (d+1) 217 [eF a,.ip [i64 b]]=(rO1 a b).map bv:=oe rfl<|rfl
def Nd (b:aA YM) (c:Int):aB Int:=
 (aS (E:=Int⊕Unit) (fun(a:Int)=>dM b a (fun d=>(rO1 d c).bind fun e=>if e then some (.inr (.inl a))else some (.inl (bF (a+1)))) (some (.inr (.inr ())))) bK 0).bind fun f=>(match f with|.inl x8=>some x8|.inr _=>some (-1))
def rP1 a b:OD k (d+2) 177 [kC a,.fn 217 [] [.ip [i64 b]]]=(Nd a b).map i64:=oe rfl<|bl<|bo (zLo (fun c=>(Q [aX 0 a,(1,.fn 217 [] [.ip [i64 b]]),cP 7 a,aY 8 c] [])) (Sx 4) (fun c=>ig fun e=>bo (iB2 d e b) fun f=>io) 0) fun|.inl g=>rfl|.inr _=>rfl
def cT1 (a:YK) (b:Int):aB Int:=
 (Nd a.s'.aF b).bind fun c=>some c
def jS1 a b:OD k (d+3) 179 [dJ a,i64 b]=(cT1 a b).map i64:=oe rfl<|bo (rP1 d a.s'.aF b)
def cU1 (a:Int) (b:YK) (c:Int):aB Bool:=
 (cT1 b a).bind fun d=>(Hl d 0 c).bind fun e=>some e
def jT1 a b c:OD k (d+4) 178 [i64 a,.ip [dJ b],.ip [i64 c]]=(cU1 a b c).map bv:=oe rfl<|bo (jS1 d b a) fun e=>bo (uF (d+2) e 0 c)
def rQ1 (b:YK) (a f:Int):aB Bool:=
 (if decide (a>=4)then(cU1 1 b f).bind fun g=>some (!g)else some false:aB Bool).bind fun h=>if h then some false else(if a==2 then some (a==2)else some (a==5):aB Bool).bind fun i=>if i then(cU1 4 b f).bind fun j=>some j else(if a==3 then some (a==3)else some (a==6):aB Bool).bind fun k=>if k then(cU1 8 b f).bind fun l=>(if l then(cT1 b 2).bind fun c=>(cT1 b 8).bind fun d=>some (decide (c>d))else some false:aB Bool).bind fun e=>some e else some true
def iC2 a c b:OD k (d+5) 120 [dJ a,i64 c,i64 b]=(rQ1 a c b).map bv:=oe rfl<|be (io<|bo (jT1 d 1 a b)) fun i=>iy<|bo (e:=(fun(f:Bool)=>(nq [bQ 3 0,(7,.fn 178 [] [.ref 0 0,.ref 1 0]),aY 16 c,(17,bv f)] [(1,.box [i64 b]),(0,.box [dJ a])]))) io fun f=>io (bo (jT1 d 4 a b))<|bo (e:=(fun(g:Bool)=>(nq [bQ 3 0,(7,.fn 178 [] [.ref 0 0,.ref 1 0]),(22,bv g)] [(1,.box [i64 b]),(0,.box [dJ a])]))) io fun g=>io<|bo (jT1 d 8 a b) fun j=>be (io<|bo (jS1 (d+1) a 2) fun h=>bo (jS1 (d+1) a 8))
def rR1 (c:Int) (a:YM) (d:YK):aB Bool:=
 (Hl a.lU 0 6).bind fun e=>(if !e then some true else(Hl a.fL 0 15).bind fun f=>some (!f):aB Bool).bind fun g=>if g||(((a.lU !=0)||(a.fL !=0))&&((a.bN !=0)||(a.bS !=0)))then some true else(wM d.s'.aF 0 c).bind fun h=>(rN1 h a).bind fun i=>(if i then some true else(rQ1 d a.lU c).bind fun j=>some (!j):aB Bool).bind fun b=>some b
def iD2 b a c:OD k (d+6) 117 [i64 b,eF a,.ip [dJ c]]=(rR1 b a c).map bv:=oe rfl<|bo (uF (d+4) a.lU 0 6) fun f=>be (iy<|bo (uF (d+4) a.fL 0 15)) fun g=>bz (kB (bz (kB rfl) (bz (jC (bz (kB rfl) rfl)) rfl)))<|iy<|bo (yM _ _ _ _) fun e=>bo (iA2 (d+2) e a) fun h=>be (iy<|bo (iC2 d c a.lU b))
def Nf (i:aA YV) (d:Y0) (g:Int):aB (aA YV):=
 (aS (fun(⟨e,f⟩:Int×(aA YV))=>dM d.aF e (fun h=>(rR1 e h (YK.mk d g f)).bind fun a=>(mP a h.ID f d g).bind fun b=>some (.inl (bF (e+1),b))) (some (.inr f))) bK (0,i)).bind fun c=>some c
def rS1 e a b:gN (XD k (d+7)) 86 [.ref 1 0,.fn 117 [] [.ref 3 0]] ((3,.box [.ref 1 0])::cL e a b) 4 false=(Nf e a b).map (fun(h:aA YV)=>(.tup [],((3,.box [.ref 1 0])::cL h a b),0)):=by rw[xd (fn:=p86) rfl];exact bl<|bo (zLo (fun⟨i,c⟩=>(Q [bQ 0 1,(1,.fn 117 [] [.ref 3 0]),aX 10 a.aF,cP 11 a.aF,aY 12 i] ((3,.box [.ref 1 0])::cL c a b))) (fun(g:aA YV)=>(xq 0 [] ((3,.box [.ref 1 0])::cL g a b))) (fun⟨i,c⟩=>ig fun j=>bo (iD2 d i j (YK.mk a b c)) fun f=>bo (lG (d+5) f j.ID c a b)) (0,e))
def jU1 (a:aA YV) (b:Y0) (c:Int):aB (aA YV):=
 (Nf a b c).bind fun d=>some d
def iE2 c a b:gN (XD k (d+8)) 58 [.ref 1 0] (cL c a b) 3 false=(jU1 c a b).map (fun(e:aA YV)=>(.tup [],cL e a b,0)):=by rw[xd (fn:=p58) rfl];exact bo (rS1 d c a b)
def rT1 (r:Int) (c:YM):aB Bool:=
 (F90 c).bind fun⟨m,s⟩=>(if c.jN !=0 then(Hl c.jN 50 75).bind fun n=>some (!n)else some false:aB Bool).bind fun o=>(if o then some true else(Hl c.jY 0 3).bind fun p=>some (!p):aB Bool).bind fun q=>(aS (fun(⟨d,a⟩:Bool×Int)=>dM c.fR a (fun b=>(if d then some true else(Hl b.At 0 (bF (m-1))).bind fun e=>some (!e):aB Bool).bind fun f=>(if f then some true else(Hl b.Hi 1 60000000).bind fun g=>some (!g):aB Bool).bind fun h=>(if h then some true else(if decide (a>0)then(bU c.fR (bF (a-1))).bind fun i=>some (decide (b.At<=i.At))else some false:aB Bool).bind fun j=>some j:aB Bool).bind fun k=>some (.inl (k,bF (a+1)))) (some (.inr d))) bK (q,0)).bind fun l=>some l
def iF2 (g:Int) (a:YM):OD k (d+5) 121 [i64 g,eF a]=(rT1 g a).map bv:=oe rfl<|by
 refine bo (cE1 d a) fun⟨h,r⟩=>?_;refine be ?_ fun t=>?_;refine io ?_;refine bo (uF (d+3) a.jN 50 75) fun s=>?_;rfl;refine be ?_ fun q=>?_;refine iy ?_;refine bo (uF (d+3) a.jY 0 3) fun u=>?_;rfl;refine bl ?_;refine bo (zLo (S:=Bool×Int) (fun⟨b,c⟩=>(Q [bQ 3 0,aY 5 h,(7,bv b),pR 31 a.fR,cP 32 a.fR,aY 33 c] [aV 0 a])) (fun(f:Bool)=>(xq 0 [(7,bv f)] [aV 0 a])) (fun⟨b,c⟩=>?_) (q,0)) fun f=>?_;refine ig fun e=>?_;refine be ?_ fun j=>?_;refine iy ?_;refine bo (uF (d+3) e.At 0 (bF (h-1))) fun i=>?_;rfl;refine be ?_ fun m=>?_;refine iy ?_;refine bo (uF (d+3) e.Hi 1 60000000) fun l=>?_;rfl;refine be ?_ fun p=>?_;refine iy ?_;refine be ?_ fun o=>?_;refine ig fun n=>?_;rfl;rfl;rfl;rfl
def Ng (h:aA YV) (e:Y0) (i:Int):aB (aA YV):=
 (aS (fun(⟨d,f⟩:Int×(aA YV))=>dM e.aF d (fun g=>(rT1 d g).bind fun a=>(mP a g.ID f e i).bind fun b=>some (.inl (bF (d+1),b))) (some (.inr f))) bK (0,h)).bind fun c=>some c
def rU1 c a b:gN (XD k (d+6)) 86 [.ref 1 0,.fn 121 [] []] (cL c a b) 3 false=(Ng c a b).map (fun(g:aA YV)=>(.tup [],cL g a b,0)):=by rw[xd (fn:=p86) rfl];exact bl<|bo (zLo (S:=Int×(aA YV)) (fun⟨h,i⟩=>(Q [bQ 0 1,(1,.fn 121 [] []),aX 10 a.aF,cP 11 a.aF,aY 12 h] (cL i a b))) (fun(f:aA YV)=>(xq 0 [] (cL f a b))) (fun⟨h,i⟩=>ig fun j=>bo (iF2 d h j) fun e=>bo (lG (d+4) e j.ID i a b)) (0,c))
def jV1 (a:aA YV) (b:Y0) (c:Int):aB (aA YV):=
 (Ng a b c).bind fun d=>some d
def iG2 c a b:gN (XD k (d+7)) 59 [.ref 1 0] (cL c a b) 3 false=(jV1 c a b).map (fun(e:aA YV)=>(.tup [],cL e a b,0)):=by rw[xd (fn:=p59) rfl];exact bo (rU1 d c a b)
def rV1 (b:YP) (f:YE) (c:YK):aB Bool:=
 (iY1 c.s' b).bind fun⟨e,g⟩=>(if !g then some true else(iV1 f).bind fun h=>some (!h):aB Bool).bind fun i=>if i||(e.dF==b.dF)then some false else(bU c.s'.aF b.dF).bind fun a=>(bU c.s'.aF e.dF).bind fun d=>some ((((((a.bN !=0)||(a.lU !=0))||((Rl .i64 a.fL 12)!=0))||(a.bS !=d.bS))||d.cN)||((Rl .i64 d.fL 3)!=0))
def iH2 a b c:OD k (d+5) 122 [eY a,eS b,.ip [dJ c]]=(rV1 a b c).map bv:=oe rfl<|bo (vG1 (d+1) c.s' a) fun⟨e,f⟩=>be (iy<|bo (vD1 d b)) fun g=>bz (kB rfl)<|iy<|bo rg fun h=>bo rg fun i=>bz (kB rfl)<|bz (kB rfl)<|bz (kB rfl)<|bz (kB rfl)<|bz (kB rfl)
def Nh (u:aA YV) (p:Y0) (t:Int):aB (aA YV):=
 (aS (fun(⟨d,m⟩:Int×(aA YV))=>dM p.aF d (fun q=>(aS (fun(⟨e,n⟩:Int×(aA YV))=>dM q.aO e (fun r=>(aS (fun(⟨f,o⟩:Int×(aA YV))=>dM r.aT f (fun s=>(aS (fun(⟨a,b⟩:Int×(aA YV))=>dM s.aW a (fun c=>(rV1 (YP.mk 4 0 e d f a 0) c (YK.mk p t b)).bind fun g=>(mP g c.ID b p t).bind fun h=>some (.inl (bF (a+1),h))) (some (.inr b))) bK (0,o)).bind fun i=>some (.inl (bF (f+1),i))) (some (.inr o))) bK (0,n)).bind fun j=>some (.inl (bF (e+1),j))) (some (.inr n))) bK (0,m)).bind fun k=>some (.inl (bF (d+1),k))) (some (.inr m))) bK (0,u)).bind fun l=>some l
def rW1 w c h:gN (XD k (d+6)) 95 [.ref 1 0,.fn 122 [] [.ref 3 0]] ((3,.box [.ref 1 0])::cL w c h) 4 false=(Nh w c h).map (fun(v:aA YV)=>(.tup [],((3,.box [.ref 1 0])::cL v c h),0)):=by rw[xd (fn:=p95) rfl];exact bl<|bo (zLo (fun⟨b,n⟩=>(Q [bQ 0 1,(1,.fn 122 [] [.ref 3 0]),aX 16 c.aF,cP 17 c.aF,aY 18 b] ((3,.box [.ref 1 0])::cL n c h))) (fun(u:aA YV)=>(xq 0 [] ((3,.box [.ref 1 0])::cL u c h))) (fun⟨b,n⟩=>ig fun a=>bl<|bo (zLo (fun⟨e,o⟩=>(Q [bQ 0 1,(1,.fn 122 [] [.ref 3 0]),aY 4 b,aX 16 c.aF,cP 17 c.aF,aY 18 b,cK 24 a.aO,cP 25 a.aO,aY 26 e] (aV 4 a::(3,.box [.ref 1 0])::cL o c h))) (fun(t:aA YV)=>(xq 2 [bQ 0 1,(1,.fn 122 [] [.ref 3 0]),aX 16 c.aF,cP 17 c.aF,aY 18 b] (aV 4 a::(3,.box [.ref 1 0])::cL t c h))) (fun⟨e,o⟩=>ig fun f=>bl<|bo (zLo (fun⟨i,p⟩=>(Q [bQ 0 1,(1,.fn 122 [] [.ref 3 0]),aY 4 b,aY 6 e,aX 16 c.aF,cP 17 c.aF,aY 18 b,cK 24 a.aO,cP 25 a.aO,aY 26 e,dV 32 f.aT,cP 33 f.aT,aY 34 i] (dQ 5 f::aV 4 a::(3,.box [.ref 1 0])::cL p c h))) (fun(s:aA YV)=>(xq 4 [bQ 0 1,(1,.fn 122 [] [.ref 3 0]),aY 4 b,aX 16 c.aF,cP 17 c.aF,aY 18 b,cK 24 a.aO,cP 25 a.aO,aY 26 e] (dQ 5 f::aV 4 a::(3,.box [.ref 1 0])::cL s c h))) (fun⟨i,p⟩=>ig fun l=>bl<|bo (zLo (fun⟨j,g⟩=>(Q [bQ 0 1,(1,.fn 122 [] [.ref 3 0]),aY 4 b,aY 6 e,aY 8 i,aX 16 c.aF,cP 17 c.aF,aY 18 b,cK 24 a.aO,cP 25 a.aO,aY 26 e,dV 32 f.aT,cP 33 f.aT,aY 34 i,gI 40 l.aW,cP 41 l.aW,aY 42 j] (dI 6 l::dQ 5 f::aV 4 a::(3,.box [.ref 1 0])::cL g c h))) (fun(r:aA YV)=>(xq 6 [bQ 0 1,(1,.fn 122 [] [.ref 3 0]),aY 4 b,aY 6 e,aX 16 c.aF,cP 17 c.aF,aY 18 b,cK 24 a.aO,cP 25 a.aO,aY 26 e,dV 32 f.aT,cP 33 f.aT,aY 34 i] (dI 6 l::dQ 5 f::aV 4 a::(3,.box [.ref 1 0])::cL r c h))) (fun⟨j,g⟩=>ig fun m=>bo (iH2 d (YP.mk 4 0 e b i j 0) m (YK.mk c h g)) fun q=>bo (lG (d+4) q m.ID g c h)) (0,p))) (0,o))) (0,n))) (0,w))
def jW1 (a:aA YV) (b:Y0) (c:Int):aB (aA YV):=
 (Nh a b c).bind fun d=>some d
def iI2 c a b:gN (XD k (d+7)) 60 [.ref 1 0] (cL c a b) 3 false=(jW1 c a b).map (fun(e:aA YV)=>(.tup [],cL e a b,0)):=by rw[xd (fn:=p60) rfl];exact bo (rW1 d c a b)
def F22 (a:Y0):aB (aA YV):=
 (if decide ((([]:aA YV).length:Int)>0)then(if false then some true else(if false then(eE ([]:aA YV) 0).bind fun x2=>(dX ([]:aA YV) x2).bind fun x3=>some (decide (x3.kW<10))else some false:aB Bool).bind fun x4=>some x4:aB Bool).bind fun x5=>some x5 else some false:aB Bool).bind fun x6=>if x6 then some []else(Me [] a 1).bind fun u=>(if decide ((u.length:Int)>0)then(if true then some true else(if false then(eE u 0).bind fun x8=>(dX u x8).bind fun x9=>some (decide (x9.kW<10))else some false:aB Bool).bind fun v=>some v:aB Bool).bind fun w=>some w else some false:aB Bool).bind fun x=>if x then some u else(iD1 u a 2).bind fun b=>(if decide ((b.length:Int)>0)then(if false then some true else(if false then(eE b 0).bind fun y=>(dX b y).bind fun z=>some (decide (z.kW<10))else some false:aB Bool).bind fun A=>some A:aB Bool).bind fun B=>some B else some false:aB Bool).bind fun C=>if C then some b else(cD1 b a 3).bind fun c=>(if decide ((c.length:Int)>0)then(if false then some true else(if false then(eE c 0).bind fun D=>(dX c D).bind fun E=>some (decide (E.kW<10))else some false:aB Bool).bind fun F=>some F:aB Bool).bind fun G=>some G else some false:aB Bool).bind fun H=>if H then some c else(iE1 c a 4).bind fun d=>(if decide ((d.length:Int)>0)then(if false then some true else(if false then(eE d 0).bind fun J=>(dX d J).bind fun K=>some (decide (K.kW<10))else some false:aB Bool).bind fun L=>some L:aB Bool).bind fun M=>some M else some false:aB Bool).bind fun N=>if N then some d else(iF1 d a 5).bind fun e=>(if decide ((e.length:Int)>0)then(if false then some true else(if false then(eE e 0).bind fun O=>(dX e O).bind fun P=>some (decide (P.kW<10))else some false:aB Bool).bind fun R=>some R:aB Bool).bind fun S=>some S else some false:aB Bool).bind fun T=>if T then some e else(iR1 e a 6).bind fun f=>(if decide ((f.length:Int)>0)then(if false then some true else(if false then(eE f 0).bind fun U=>(dX f U).bind fun V=>some (decide (V.kW<10))else some false:aB Bool).bind fun W=>some W:aB Bool).bind fun X=>some X else some false:aB Bool).bind fun Y=>if Y then some f else(iS1 f a 7).bind fun g=>(if decide ((g.length:Int)>0)then(if false then some true else(if false then(eE g 0).bind fun Z=>(dX g Z).bind fun b0=>some (decide (b0.kW<10))else some false:aB Bool).bind fun b4=>some b4:aB Bool).bind fun b5=>some b5 else some false:aB Bool).bind fun b6=>if b6 then some g else(cL1 g a 8).bind fun h=>(if decide ((h.length:Int)>0)then(if false then some true else(if false then(eE h 0).bind fun b7=>(dX h b7).bind fun b8=>some (decide (b8.kW<10))else some false:aB Bool).bind fun b9=>some b9:aB Bool).bind fun d0=>some d0 else some false:aB Bool).bind fun d2=>if d2 then some h else(cO1 h a 9).bind fun i=>(if decide ((i.length:Int)>0)then(if false then some true else(if true then(eE i 0).bind fun d3=>(dX i d3).bind fun d4=>some (decide (d4.kW<10))else some false:aB Bool).bind fun d5=>some d5:aB Bool).bind fun d6=>some d6 else some false:aB Bool).bind fun d7=>if d7 then some i else(jA1 i a 10).bind fun j=>(if decide ((j.length:Int)>0)then(if false then some true else(if true then(eE j 0).bind fun d8=>(dX j d8).bind fun d9=>some (decide (d9.kW<10))else some false:aB Bool).bind fun e0=>some e0:aB Bool).bind fun e1=>some e1 else some false:aB Bool).bind fun e3=>if e3 then some j else(jB1 j a 11).bind fun k=>(if decide ((k.length:Int)>0)then(if false then some true else(if true then(eE k 0).bind fun e4=>(dX k e4).bind fun e5=>some (decide (e5.kW<10))else some false:aB Bool).bind fun e6=>some e6:aB Bool).bind fun e7=>some e7 else some false:aB Bool).bind fun e8=>if e8 then some k else(jK1 k a 12).bind fun l=>(if decide ((l.length:Int)>0)then(if false then some true else(if true then(eE l 0).bind fun e9=>(dX l e9).bind fun f0=>some (decide (f0.kW<10))else some false:aB Bool).bind fun f1=>some f1:aB Bool).bind fun f2=>some f2 else some false:aB Bool).bind fun f4=>if f4 then some l else(jQ1 l a 13).bind fun m=>(if decide ((m.length:Int)>0)then(if false then some true else(if true then(eE m 0).bind fun f5=>(dX m f5).bind fun f6=>some (decide (f6.kW<10))else some false:aB Bool).bind fun f7=>some f7:aB Bool).bind fun f8=>some f8 else some false:aB Bool).bind fun f9=>if f9 then some m else(jR1 m a 14).bind fun n=>(if decide ((n.length:Int)>0)then(if false then some true else(if true then(eE n 0).bind fun g1=>(dX n g1).bind fun g3=>some (decide (g3.kW<10))else some false:aB Bool).bind fun g4=>some g4:aB Bool).bind fun g5=>some g5 else some false:aB Bool).bind fun g6=>if g6 then some n else(jU1 n a 15).bind fun o=>(if decide ((o.length:Int)>0)then(if false then some true else(if true then(eE o 0).bind fun g7=>(dX o g7).bind fun g8=>some (decide (g8.kW<10))else some false:aB Bool).bind fun g9=>some g9:aB Bool).bind fun h0=>some h0 else some false:aB Bool).bind fun h2=>if h2 then some o else(jV1 o a 16).bind fun p=>(if decide ((p.length:Int)>0)then(if false then some true else(if true then(eE p 0).bind fun h3=>(dX p h3).bind fun h4=>some (decide (h4.kW<10))else some false:aB Bool).bind fun q=>some q:aB Bool).bind fun r=>some r else some false:aB Bool).bind fun s=>if s then some p else(jW1 p a 17).bind fun t=>some t
def tD2 (a:Y0):OD k (d+25) 22 [cV a]=(F22 a).map (fun y0=>Hw y0):=oe rfl<|by
 refine bz (dG YV.g ([]:aA YV)) ?_;refine bo (e:=id) ?_ fun x6=>?_;refine io ?_ rfl;refine bo (e:=id) ?_ fun x5=>?_;refine io rfl ?_;refine bo (e:=id) ?_ fun x4=>?_;refine io ?_ rfl;refine bo (bL YV.g ([]:aA YV) _) fun x2=>?_;refine bo (cY (A:=YV) (c:=YV.g) (g:=fun S=>i64 S.kW) (fun _=>rfl) ([]:aA YV) _) fun S=>?_;rfl;rfl;rfl;refine io rfl ?_;refine bo (dW2 (d+19) [] a 1) fun M=>?_;refine bz (dG YV.g M) ?_;refine bo (e:=id) ?_ fun W=>?_;refine io ?_ rfl;refine bo (e:=id) ?_ fun V=>?_;refine io rfl ?_;refine bo (e:=id) ?_ fun U=>?_;refine io ?_ rfl;refine bo (bL YV.g M _) fun x8=>?_;refine bo (cY (A:=YV) (c:=YV.g) (g:=fun T=>i64 T.kW) (fun _=>rfl) M _) fun T=>?_;rfl;rfl;rfl;refine io rfl ?_;refine bo (dZ2 (d+20) M a 2) fun b=>?_;refine bz (dG YV.g b) ?_;refine bo (e:=id) ?_ fun b0=>?_;refine io ?_ rfl;refine bo (e:=id) ?_ fun Z=>?_;refine io rfl ?_;refine bo (e:=id) ?_ fun Y=>?_;refine io ?_ rfl;refine bo (bL YV.g b _) fun X=>?_;refine bo (cY (A:=YV) (c:=YV.g) (g:=fun v=>i64 v.kW) (fun _=>rfl) b _) fun v=>?_;rfl;rfl;rfl;refine io rfl ?_;refine bo (eC2 (d+21) b a 3) fun f=>?_;refine bz (dG YV.g f) ?_;refine bo (e:=id) ?_ fun b7=>?_;refine io ?_ rfl;refine bo (e:=id) ?_ fun b6=>?_;refine io rfl ?_;refine bo (e:=id) ?_ fun b5=>?_;refine io ?_ rfl;refine bo (bL YV.g f _) fun b4=>?_;refine bo (cY (A:=YV) (c:=YV.g) (g:=fun w=>i64 w.kW) (fun _=>rfl) f _) fun w=>?_;rfl;rfl;rfl;refine io rfl ?_;refine bo (eM2 (d+17) f a 4) fun h=>?_;refine bz (dG YV.g h) ?_;refine bo (e:=id) ?_ fun d2=>?_;refine io ?_ rfl;refine bo (e:=id) ?_ fun d0=>?_;refine io rfl ?_;refine bo (e:=id) ?_ fun b9=>?_;refine io ?_ rfl;refine bo (bL YV.g h _) fun b8=>?_;refine bo (cY (A:=YV) (c:=YV.g) (g:=fun x=>i64 x.kW) (fun _=>rfl) h _) fun x=>?_;rfl;rfl;rfl;refine io rfl ?_;refine bo (eO2 (d+17) h a 5) fun i=>?_;refine bz (dG YV.g i) ?_;refine bo (e:=id) ?_ fun d6=>?_;refine io ?_ rfl;refine bo (e:=id) ?_ fun d5=>?_;refine io rfl ?_;refine bo (e:=id) ?_ fun d4=>?_;refine io ?_ rfl;refine bo (bL YV.g i _) fun d3=>?_;refine bo (cY (A:=YV) (c:=YV.g) (g:=fun y=>i64 y.kW) (fun _=>rfl) i _) fun y=>?_;rfl;rfl;rfl;refine io rfl ?_;refine bo (gB2 d i a 6) fun j=>?_;refine bz (dG YV.g j) ?_;refine bo (e:=id) ?_ fun e0=>?_;refine io ?_ rfl;refine bo (e:=id) ?_ fun d9=>?_;refine io rfl ?_;refine bo (e:=id) ?_ fun d8=>?_;refine io ?_ rfl;refine bo (bL YV.g j _) fun d7=>?_;refine bo (cY (A:=YV) (c:=YV.g) (g:=fun z=>i64 z.kW) (fun _=>rfl) j _) fun z=>?_;rfl;rfl;rfl;refine io rfl ?_;refine bo (gC2 d j a 7) fun l=>?_;refine bz (dG YV.g l) ?_;refine bo (e:=id) ?_ fun e5=>?_;refine io ?_ rfl;refine bo (e:=id) ?_ fun e4=>?_;refine io rfl ?_;refine bo (e:=id) ?_ fun e3=>?_;refine io ?_ rfl;refine bo (bL YV.g l _) fun e1=>?_;refine bo (cY (A:=YV) (c:=YV.g) (g:=fun B=>i64 B.kW) (fun _=>rfl) l _) fun B=>?_;rfl;rfl;rfl;refine io rfl ?_;refine bo (gE2 (d+13) l a 8) fun m=>?_;refine bz (dG YV.g m) ?_;refine bo (e:=id) ?_ fun e9=>?_;refine io ?_ rfl;refine bo (e:=id) ?_ fun e8=>?_;refine io rfl ?_;refine bo (e:=id) ?_ fun e7=>?_;refine io ?_ rfl;refine bo (bL YV.g m _) fun e6=>?_;refine bo (cY (A:=YV) (c:=YV.g) (g:=fun C=>i64 C.kW) (fun _=>rfl) m _) fun C=>?_;rfl;rfl;rfl;refine io rfl ?_;refine bo (gN2 (d+13) m a 9) fun n=>?_;refine bz (dG YV.g n) ?_;refine bo (e:=id) ?_ fun f4=>?_;refine io ?_ rfl;refine bo (e:=id) ?_ fun f2=>?_;refine io rfl ?_;refine bo (e:=id) ?_ fun f1=>?_;refine io ?_ rfl;refine bo (bL YV.g n _) fun f0=>?_;refine bo (cY (A:=YV) (c:=YV.g) (g:=fun D=>i64 D.kW) (fun _=>rfl) n _) fun D=>?_;rfl;rfl;rfl;refine io rfl ?_;refine bo (gT2 (d+17) n a 10) fun o=>?_;refine bz (dG YV.g o) ?_;refine bo (e:=id) ?_ fun f8=>?_;refine io ?_ rfl;refine bo (e:=id) ?_ fun f7=>?_;refine io rfl ?_;refine bo (e:=id) ?_ fun f6=>?_;refine io ?_ rfl;refine bo (bL YV.g o _) fun f5=>?_;refine bo (cY (A:=YV) (c:=YV.g) (g:=fun E=>i64 E.kW) (fun _=>rfl) o _) fun E=>?_;rfl;rfl;rfl;refine io rfl ?_;refine bo (gW2 (d+21) o a 11) fun p=>?_;refine bz (dG YV.g p) ?_;refine bo (e:=id) ?_ fun g4=>?_;refine io ?_ rfl;refine bo (e:=id) ?_ fun g3=>?_;refine io rfl ?_;refine bo (e:=id) ?_ fun g1=>?_;refine io ?_ rfl;refine bo (bL YV.g p _) fun f9=>?_;refine bo (cY (A:=YV) (c:=YV.g) (g:=fun F=>i64 F.kW) (fun _=>rfl) p _) fun F=>?_;rfl;rfl;rfl;refine io rfl ?_;refine bo (hF2 (d+7) p a 12) fun q=>?_;refine bz (dG YV.g q) ?_;refine bo (e:=id) ?_ fun g8=>?_;refine io ?_ rfl;refine bo (e:=id) ?_ fun g7=>?_;refine io rfl ?_;refine bo (e:=id) ?_ fun g6=>?_;refine io ?_ rfl;refine bo (bL YV.g q _) fun g5=>?_;refine bo (cY (A:=YV) (c:=YV.g) (g:=fun G=>i64 G.kW) (fun _=>rfl) q _) fun G=>?_;rfl;rfl;rfl;refine io rfl ?_;refine bo (hQ2 (d+7) q a 13) fun r=>?_;refine bz (dG YV.g r) ?_;refine bo (e:=id) ?_ fun h3=>?_;refine io ?_ rfl;refine bo (e:=id) ?_ fun h2=>?_;refine io rfl ?_;refine bo (e:=id) ?_ fun h0=>?_;refine io ?_ rfl;refine bo (bL YV.g r _) fun g9=>?_;refine bo (cY (A:=YV) (c:=YV.g) (g:=fun H=>i64 H.kW) (fun _=>rfl) r _) fun H=>?_;rfl;rfl;rfl;refine io rfl ?_;refine bo (hX2 (d+19) r a 14) fun s=>?_;refine bz (dG YV.g s) ?_;refine bo (e:=id) ?_ fun h7=>?_;refine io ?_ rfl;refine bo (e:=id) ?_ fun h6=>?_;refine io rfl ?_;refine bo (e:=id) ?_ fun h5=>?_;refine io ?_ rfl;refine bo (bL YV.g s _) fun h4=>?_;refine bo (cY (A:=YV) (c:=YV.g) (g:=fun J=>i64 J.kW) (fun _=>rfl) s _) fun J=>?_;rfl;rfl;rfl;refine io rfl ?_;refine bo (iE2 (d+16) s a 15) fun t=>?_;refine bz (dG YV.g t) ?_;refine bo (e:=id) ?_ fun i1=>?_;refine io ?_ rfl;refine bo (e:=id) ?_ fun i0=>?_;refine io rfl ?_;refine bo (e:=id) ?_ fun h9=>?_;refine io ?_ rfl;refine bo (bL YV.g t _) fun h8=>?_;refine bo (cY (A:=YV) (c:=YV.g) (g:=fun K=>i64 K.kW) (fun _=>rfl) t _) fun K=>?_;rfl;rfl;rfl;refine io rfl ?_;refine bo (iG2 (d+17) t a 16) fun u=>?_;refine bz (dG YV.g u) ?_;refine bo (e:=id) ?_ fun P=>?_;refine io ?_ rfl;refine bo (e:=id) ?_ fun O=>?_;refine io rfl ?_;refine bo (e:=id) ?_ fun N=>?_;refine io ?_ rfl;refine bo (bL YV.g u _) fun i2=>?_;refine bo (cY (A:=YV) (c:=YV.g) (g:=fun L=>i64 L.kW) (fun _=>rfl) u _) fun L=>?_;rfl;rfl;rfl;refine io rfl ?_;refine bo (iI2 (d+17) u a 17) fun R=>?_;rfl
end Go.P
namespace Go.P
open Go.Sim (Ex iV CK)
open K (I Q rq nq xq ck)
variable {k:Bool} (d:Nat)
def F8 (a:Y0):aB Bool:=
 (F22 a).bind fun b=>some ((b.length:Int)==0)
def ok8 a:OD k (d+26) 8 [cV a]=(F8 a).map bv:=oe rfl<|bo (tD2 d a) fun b=>bl
def F13 (c:YO):aB Bool:=
 (aS (E:=Unit⊕Unit) (fun(g:Int)=>dM c.aW g (fun b=>if((decide ((b.cE.length:Int)>12))||(decide ((b.bR.length:Int)>12)))||(decide ((b.cX.length:Int)>12))then some (.inr (.inl ()))else(aS (E:=Unit⊕Unit) (fun(a:Int)=>dM b.cX a (fun d=>if decide ((d.qQ.size:Int)>300)then some (.inr (.inl ()))else some (.inl (bF (a+1)))) (some (.inr (.inr ())))) bK 0).bind fun e=>(match e with|.inl _=>some (.inr (.inl ()))|.inr _=>some (.inl (bF (g+1))))) (some (.inr (.inr ())))) bK 0).bind fun f=>(match f with|.inl _=>some false|.inr _=>some ((decide ((c.aW.length:Int)<=20))&&(decide ((c.cT.length:Int)<=6))))
def tE2 (a:YO):OD k (d+1) 13 [iU a]=(F13 a).map bv:=oe rfl<|by
 refine bo (zLo (fun c=>(Q [bQ 1 0,aY 3 c] [dI 0 a])) (fun|.inl _=>(rq [bQ 1 0,(2,bv false)] [dI 0 a])|.inr _=>(xq 0 [bQ 1 0] [dI 0 a])) (fun c=>?_) 0) fun f=>?_;refine bl ?_;refine ig fun g=>?_;refine bl ?_;refine bz (kB (bz lm rfl)) ?_;refine bz (kB (bz lm rfl)) ?_;refine iy ?_;refine bo (zLo (fun b=>(Q [bQ 1 0,aY 3 c,bQ 4 1,aY 5 b] [gB 1 g,dI 0 a])) (fun|.inl _=>(rq [bQ 1 0,(2,bv false),aY 3 c] [gB 1 g,dI 0 a])|.inr _=>(xq 2 [bQ 1 0,aY 3 c] [gB 1 g,dI 0 a])) (fun b=>?_) 0) fun e=>?_;refine bl ?_;refine ig fun h=>?_;refine io;rcases e with _|_;rfl;rfl;rcases f with _|_;rfl;refine bl ?_;refine bz (jC (bz lm rfl)) ?_;rfl
def F14 (e:YO):aB Int:=
 (aS (fun(⟨c,a⟩:Int×Int)=>if decide (a<(e.aW.length:Int))then(aS (fun(⟨d,b⟩:Int×Int)=>(bU e.aW a).bind fun f=>if decide (b<(f.cX.length:Int))then(bU e.aW a).bind fun g=>(bU g.cX b).bind fun h=>some (.inl (bF (d+(h.qQ.size:Int)),bF (b+1)))else some (.inr d)) bK (c,0)).bind fun i=>some (.inl (i,bF (a+1)))else some (.inr c)) bK (0,0)).bind fun j=>some j
def tF2 c:OD k (d+1) 14 [iU c]=(F14 c).map i64:=oe rfl<|bo (zLo (S:=Int×Int) (fun⟨b,a⟩=>(Q [bQ 1 0,aY 3 b,aY 4 a] [dI 0 c])) (fun(h:Int)=>(xq 0 [aY 3 h] [dI 0 c])) (fun⟨b,a⟩=>bl<|io<|bo (zLo (S:=Int×Int) (fun⟨e,f⟩=>(Q [bQ 1 0,aY 3 e,aY 4 a,aY 5 f] [dI 0 c])) (fun(g:Int)=>(xq 2 [bQ 1 0,aY 3 g,aY 4 a] [dI 0 c])) (fun⟨e,f⟩=>bo rg fun i=>bl<|ig fun j=>bo rg) (b,0))) (0,0))
def F4 (j:Y0):aB Bool:=
 (aS (E:=Unit⊕Unit) (fun(y:Int)=>dM j.aU y (fun B=>(if decide ((B.cO.length:Int)>5)then some true else(bU j.aU y).bind fun C=>some (decide ((C.oP.size:Int)>300)):aB Bool).bind fun D=>if D then some (.inr (.inl ()))else some (.inl (bF (y+1)))) (some (.inr (.inr ())))) bK 0).bind fun F=>(match F with|.inl _=>some false|.inr _=>(aS (E:=Unit⊕Unit) (fun(⟨z,A,x⟩:Int×Int×Int)=>dM j.aF x (fun b=>if((decide ((b.aO.length:Int)>5))||(decide ((b.fR.length:Int)>5)))||(decide ((b.cW.size:Int)>300))then some (.inr (.inl ()))else(aS (E:=(Int×Int)⊕(Int×Int)) (fun(⟨f,g,a⟩:Int×Int×Int)=>dM b.aO a (fun k=>(if decide ((k.iI.length:Int)>5)then some true else(bU b.aO a).bind fun l=>some (decide ((l.aT.length:Int)>3)):aB Bool).bind fun m=>if m then some (.inr (.inl (f,g)))else(aS (E:=(Int×Int)⊕(Int×Int)) (fun(⟨c,d,e⟩:Int×Int×Int)=>(bU b.aO a).bind fun n=>if decide (e<(n.aT.length:Int))then(bU b.aO a).bind fun o=>(bU o.aT e).bind fun p=>(F13 p).bind fun q=>if !q then some (.inr (.inl (c,d)))else(bU b.aO a).bind fun r=>(bU r.aT e).bind fun h=>(bU b.aO a).bind fun s=>(bU s.aT e).bind fun t=>(F14 t).bind fun i=>if(decide ((bF (c+(h.aW.length:Int)))>400))||(decide ((bF (d+i))>20000))then some (.inr (.inl (bF (c+(h.aW.length:Int)),bF (d+i))))else some (.inl (bF (c+(h.aW.length:Int)),bF (d+i),bF (e+1)))else some (.inr (.inr (c,d)))) bK (f,g,0)).bind fun u=>(match u with|.inl ⟨x137,x138⟩=>some (.inr (.inl (x137,x138)))|.inr ⟨x139,x140⟩=>some (.inl (x139,x140,bF (a+1))))) (some (.inr (.inr (f,g))))) bK (z,A,0)).bind fun v=>(match v with|.inl ⟨x142,x143⟩=>some (.inr (.inl ()))|.inr ⟨x144,x145⟩=>some (.inl (x144,x145,bF (x+1))))) (some (.inr (.inr ())))) bK (0,0,0)).bind fun w=>(match w with|.inl _=>some false|.inr _=>some (((((decide ((j.aU.length:Int)<=4))&&(decide ((j.aF.length:Int)<=10)))&&(decide ((j.bT.length:Int)<=10)))&&(decide ((j.kI.length:Int)<=5)))&&(decide ((j.jJ.size:Int)<=300)))))
def ok4 (c:Y0):OD k (d+2) 4 [cV c]=(F4 c).map bv:=oe rfl<|by
 refine bo (zLo (fun G=>(Q [bQ 1 0,aY 3 0,aY 4 0,aY 5 G] [aJ 0 c])) (fun|.inl _=>(rq [bQ 1 0,(2,bv false),aY 3 0,aY 4 0] [aJ 0 c])|.inr _=>(xq 0 [bQ 1 0,aY 3 0,aY 4 0] [aJ 0 c])) (fun G=>?_) 0) fun H=>?_;refine bl ?_;refine ig fun J=>?_;refine bl ?_;refine be ?_ fun L=>?_;refine iy ?_;refine bo rg fun K=>?_;rfl;refine io;rcases H with _|_;rfl;refine bo (zLo (S:=Int×Int×Int) (fun⟨p,q,b⟩=>(Q [bQ 1 0,aY 3 p,aY 4 q,aY 6 b] [aJ 0 c])) (fun|.inl _=>(rq [bQ 1 0,(2,bv false)] [aJ 0 c])|.inr _=>(xq 2 [bQ 1 0] [aJ 0 c])) (fun⟨p,q,b⟩=>?_) (0,0,0)) fun v=>?_;refine bl ?_;refine ig fun e=>?_;refine bl ?_;refine bz (kB (bz lm rfl)) ?_;refine bz (kB rfl) ?_;refine iy ?_;refine bo (zLo (S:=Int×Int×Int) (fun⟨f,g,a⟩=>(Q [bQ 1 0,aY 3 f,aY 4 g,aY 6 b,bQ 7 1,aY 8 a] [aV 1 e,aJ 0 c])) (fun|.inl ⟨n,o⟩=>(rq [bQ 1 0,(2,bv false),aY 3 n,aY 4 o,aY 6 b] [aV 1 e,aJ 0 c])|.inr ⟨x144,x145⟩=>(xq 4 [bQ 1 0,aY 3 x144,aY 4 x145,aY 6 b] [aV 1 e,aJ 0 c])) (fun⟨f,g,a⟩=>?_) (p,q,0)) fun u=>?_;refine bl ?_;refine ig fun w=>?_;refine bl ?_;refine be ?_ fun y=>?_;refine iy ?_;refine bo rg fun x=>?_;refine bl ?_;rfl;refine iy ?_;refine bo (zLo (S:=Int×Int×Int) (fun⟨h,i,j⟩=>(Q [bQ 1 0,aY 3 h,aY 4 i,aY 6 b,bQ 7 1,aY 8 a,aY 9 j] [aV 1 e,aJ 0 c])) (fun|.inl ⟨l,m⟩=>(rq [bQ 1 0,(2,bv false),aY 3 l,aY 4 m,aY 6 b,bQ 7 1,aY 8 a] [aV 1 e,aJ 0 c])|.inr ⟨x139,x140⟩=>(xq 6 [bQ 1 0,aY 3 x139,aY 4 x140,aY 6 b,bQ 7 1,aY 8 a] [aV 1 e,aJ 0 c])) (fun⟨h,i,j⟩=>?_) (f,g,0)) fun t=>?_;refine bo rg fun z=>?_;refine bl ?_;refine ig fun A=>?_;refine bo rg fun r=>?_;refine bo (tE2 d r) fun B=>?_;refine iy ?_;refine bo rg fun C=>?_;refine bo rg fun D=>?_;refine bl ?_;refine bo rg fun E=>?_;refine bo rg fun s=>?_;refine bo (tF2 d s) fun F=>?_;refine bz (kB rfl) ?_;refine io;rcases t with⟨l,m⟩|⟨x139,x140⟩
 rfl;rfl;rcases u with⟨n,o⟩|⟨x144,x145⟩
 rfl;rfl;rcases v with _|_;rfl;refine bl ?_;refine bz (jC (bz lm rfl)) ?_;refine bz (jC (bz lm rfl)) ?_;refine bz (jC (bz lm rfl)) ?_;refine bz (jC rfl) ?_;rfl
def F36 (a:YJ):aB YJ:=
 (nD a.cO).bind fun b=>some {a with cO:=b}
def tG2 a:OD k (d+2) 36 [yQ a]=(F36 a).map (fun b=>yQ b):=oe rfl<|bo (pO 69 (d+1) 3 _ _ rfl rfl rfl)
def Yl (p:YO):aB ((aA YU)×(aA YE)):=
 (aS (fun(⟨a,b⟩:Int×(aA YE))=>dM p.aW a (fun c=>(Gw c).bind fun⟨d,e,f⟩=>(gR ([{c with cE:=[],bR:=[],cX:=[]}]) 0 (fun g=>{g with cX:=d})).bind fun h=>(gR h 0 (fun i=>{i with bR:=e})).bind fun j=>(gR j 0 (fun k=>{k with cE:=f})).bind fun l=>(lM true b l).bind fun m=>some (.inl (bF (a+1),m))) (some (.inr b))) bK (0,[])).bind fun n=>(lM false ([]:aA YU) p.cT).bind fun o=>some (o,n)
def yN1 (a:YO):gN (XD k (d+3)) 130 [iU a] [] 54 true=(Yl a).map (fun(⟨u,w⟩:(aA YU)×(aA YE))=>(.agg [.own 57,.own 58],[(58,.lst 276 4 false (I YU.g u)),(57,.tr td0 (I YE.g w) [])],59)):=by
 rw[xd (fn:=xX1) rfl];refine bl ?_;refine bo (zLo (S:=Int×(aA YE)) (fun⟨e,b⟩=>(Q [bQ 1 54,bQ 2 55,bQ 3 56,gI 7 a.aW,cP 8 a.aW,aY 9 e] [(58,.lst 276 4 false (I YU.g [])),(57,.tr td0 (I YE.g b) []),(56,.box [.own 57,.own 58]),(55,.box [.v (.slice none 0 0),.v (.slice none 0 0)]),dI 54 a])) (fun(i:aA YE)=>(xq 0 [bQ 1 54,bQ 2 55,bQ 3 56] [(58,.lst 276 4 false (I YU.g [])),(57,.tr td0 (I YE.g i) []),(56,.box [.own 57,.own 58]),(55,.box [.v (.slice none 0 0),.v (.slice none 0 0)]),dI 54 a])) (fun⟨e,b⟩=>?_) (0,[])) fun i=>?_;refine ig fun h=>?_;refine bo (iZ1 d h) fun⟨j,l,n⟩=>?_;refine bo (cZ (A:=YE) (c:=YE.g) (m:=13) (f:=fun o=>{o with cX:=j}) (fun _=>⟨rfl,rfl⟩) (fK3 rfl) ([{h with cE:=[],bR:=[],cX:=[]}]) _) fun p=>?_;refine bo (cZ (A:=YE) (c:=YE.g) (m:=13) (f:=fun q=>{q with bR:=l}) (fun _=>⟨rfl,rfl⟩) (fK3 rfl) p _) fun r=>?_;refine bo (cZ (A:=YE) (c:=YE.g) (m:=13) (f:=fun s=>{s with cE:=n}) (fun _=>⟨rfl,rfl⟩) (fK3 rfl) r _) fun t=>?_;refine bo (dN true YE.g b t) fun x=>?_;rfl;refine bo (dN false YU.g ([]:aA YU) a.cT) fun y=>?_;rfl
def rX1 (l:YW):aB ((aA YC)×(aA YO)):=
 (nD l.iI).bind fun m=>(aS (fun(⟨a,b⟩:Int×(aA YO))=>dM l.aT a (fun c=>(Yl c).bind fun⟨d,e⟩=>(gR ([YO.mk [] []]) 0 (fun f=>{f with cT:=d})).bind fun g=>(gR g 0 (fun h=>{h with aW:=e})).bind fun i=>(lM true b i).bind fun j=>some (.inl (bF (a+1),j))) (some (.inr b))) bK (0,[])).bind fun k=>some (m,k)
def iK2 b:gN (XD k (d+4)) 71 [uD b] [] 49 true=(rX1 b).map (fun(⟨r,s⟩:(aA YC)×(aA YO))=>(.agg [jU r,.own 52],[(52,.tr Ly (I YO.g s) [])],53)):=by rw[xd (fn:=p71) rfl];exact bo (pO 129 (d+3) 2 _ _ rfl rfl rfl) fun t=>bl<|bo (zLo (fun⟨e,a⟩=>(Q [bQ 2 50,bQ 3 51,dV 11 b.aT,cP 12 b.aT,aY 13 e] [(52,.tr Ly (I YO.g a) []),(51,.box [jU t,.own 52]),(50,.box [.v (.slice none 0 0),.v (.slice none 0 0)]),dQ 49 b])) (fun(q:aA YO)=>(xq 0 [bQ 2 50,bQ 3 51] [(52,.tr Ly (I YO.g q) []),(51,.box [jU t,.own 52]),(50,.box [.v (.slice none 0 0),.v (.slice none 0 0)]),dQ 49 b])) (fun⟨e,a⟩=>ig fun h=>bo (yN1 d h) fun⟨i,j⟩=>bo (cZ (A:=YO) (c:=YO.g) (m:=2) (f:=fun l=>{l with cT:=i}) (fun _=>⟨rfl,rfl⟩) (fK3 rfl) ([YO.mk [] []]) _) fun n=>bo (cZ (A:=YO) (c:=YO.g) (m:=2) (f:=fun o=>{o with aW:=j}) (fun _=>⟨rfl,rfl⟩) (fK3 rfl) n _) fun p=>bo (dN true YO.g a p)) (0,[]))
def rY1 (i:YM):aB ((aA YT)×(aA YW)):=
 (nD i.fR).bind fun k=>(aS (fun(⟨j,a⟩:Int×(aA YW))=>dM i.aO j (fun b=>(rX1 b).bind fun⟨c,d⟩=>(gR ([YW.mk c []]) 0 (fun e=>{e with aT:=d})).bind fun f=>(lM true a f).bind fun g=>some (.inl (bF (j+1),g))) (some (.inr a))) bK (0,[])).bind fun h=>some (k,h)
def iL2 a:gN (XD k (d+5)) 37 [eF a] [] 45 true=(rY1 a).map (fun(⟨o,p⟩:(aA YT)×(aA YW))=>(.agg [i64 a.ID.gJ,i64 a.ID.dE,i64 a.dK.gS,i64 a.dK.Unit,i64 a.dK.bY.c0,i64 a.dK.bY.c1,i64 a.dK.bY.c2,i64 a.dK.bY.c3,i64 a.dK.bY.c4,i64 a.dK.bY.c5,i64 a.gQ,i64 a.eM,bv a.cN,i64 a.bN,i64 a.bS,i64 a.lU,i64 a.fL,i64 a.jN,i64 a.jY,.v (.string a.cW),iS o,.own 47],[(47,.tr Ka (I YW.g p) [])],48)):=by rw[xd (fn:=p37) rfl];exact bo (pO 70 (d+4) 3 _ _ rfl rfl rfl) fun q=>bl<|bo (zLo (fun⟨r,b⟩=>(Q [bQ 1 45,bQ 2 46,cK 13 a.aO,cP 14 a.aO,aY 15 r] [(47,.tr Ka (I YW.g b) []),(46,.box [i64 0,i64 0,i64 0,i64 0,i64 0,i64 0,i64 0,i64 0,i64 0,i64 0,i64 0,i64 0,bv false,i64 0,i64 0,i64 0,i64 0,i64 0,i64 0,.v (.string (⟨#[]⟩:ByteArray)),.v (.slice none 0 0),.v (.slice none 0 0)]),(45,.box [i64 a.ID.gJ,i64 a.ID.dE,i64 a.dK.gS,i64 a.dK.Unit,i64 a.dK.bY.c0,i64 a.dK.bY.c1,i64 a.dK.bY.c2,i64 a.dK.bY.c3,i64 a.dK.bY.c4,i64 a.dK.bY.c5,i64 a.gQ,i64 a.eM,bv a.cN,i64 a.bN,i64 a.bS,i64 a.lU,i64 a.fL,i64 a.jN,i64 a.jY,.v (.string a.cW),iS q,.own 47])])) (fun(n:aA YW)=>(xq 0 [bQ 1 45,bQ 2 46] [(47,.tr Ka (I YW.g n) []),(46,.box [i64 0,i64 0,i64 0,i64 0,i64 0,i64 0,i64 0,i64 0,i64 0,i64 0,i64 0,i64 0,bv false,i64 0,i64 0,i64 0,i64 0,i64 0,i64 0,.v (.string (⟨#[]⟩:ByteArray)),.v (.slice none 0 0),.v (.slice none 0 0)]),(45,.box [i64 a.ID.gJ,i64 a.ID.dE,i64 a.dK.gS,i64 a.dK.Unit,i64 a.dK.bY.c0,i64 a.dK.bY.c1,i64 a.dK.bY.c2,i64 a.dK.bY.c3,i64 a.dK.bY.c4,i64 a.dK.bY.c5,i64 a.gQ,i64 a.eM,bv a.cN,i64 a.bN,i64 a.bS,i64 a.lU,i64 a.fL,i64 a.jN,i64 a.jY,.v (.string a.cW),iS q,.own 47])])) (fun⟨r,b⟩=>ig fun e=>bo (iK2 d e) fun⟨h,i⟩=>bo (cZ (A:=YW) (c:=YW.g) (m:=2) (f:=fun j=>{j with aT:=i}) (fun _=>⟨rfl,rfl⟩) (fK3 rfl) ([YW.mk h []]) _) fun l=>bo (dN true YW.g b l)) (0,[]))
def Si (a:Y0):aB ((aA YN)×(aA YZ)×(aA YM)×(aA YJ)):=
 (bE1 (a.aU.length:Int)).bind fun _=>(aS (fun(⟨n,o⟩:Int×(aA YJ))=>dM a.aU n (fun p=>(F36 p).bind fun q=>(lM true o [q]).bind fun r=>some (.inl (bF (n+1),r))) (some (.inr o))) bK (0,[])).bind fun e=>(bE1 (a.aF.length:Int)).bind fun _=>(aS (fun(⟨b,c⟩:Int×(aA YM))=>dM a.aF b (fun d=>(rY1 d).bind fun⟨f,g⟩=>(gR ([{d with fR:=f,aO:=[]}]) 0 (fun h=>{h with aO:=g})).bind fun i=>(lM true c i).bind fun j=>some (.inl (bF (b+1),j))) (some (.inr c))) bK (0,[])).bind fun k=>(nD a.bT).bind fun l=>(nD a.kI).bind fun m=>some (l,m,k,e)
def Ym (a:Y0):gN (XD k (d+6)) 19 [cV a] [] 40 true=(Si a).map (fun(⟨q,r,s,t⟩:(aA YN)×(aA YZ)×(aA YM)×(aA YJ))=>(.agg (wO a a.cJ 42 43 q r),[(43,.tr sT (I YM.g s) []),(42,.lst 41 6 true (I YJ.g t))],44)):=by
 rw[xd (fn:=p19) rfl];refine bl ?_;refine bo (Jy _ _) fun _=>?_;refine bl ?_;refine bo (zLo (S:=Int×(aA YJ)) (fun⟨v,u⟩=>(Q [bQ 1 40,bQ 2 41,(3,.own 42),jD 14 a.aU,cP 15 a.aU,aY 16 v] [(42,.lst 41 6 true (I YJ.g u)),(41,.box qS),aJ 40 a])) (fun(b:aA YJ)=>(xq 0 [bQ 1 40,bQ 2 41,(3,.own 42)] [(42,.lst 41 6 true (I YJ.g b)),(41,.box qS),aJ 40 a])) (fun⟨v,u⟩=>?_) (0,[])) fun b=>?_;refine ig fun z=>?_;refine bo (tG2 (d+3) z) fun B=>?_;refine bo (dN true YJ.g u [B]) fun C=>?_;rfl;refine bl ?_;refine bo (Jy _ _) fun _=>?_;refine bl ?_;refine bo (zLo (S:=Int×(aA YM)) (fun⟨h,e⟩=>(Q [bQ 1 40,bQ 2 41,(3,.own 42),(6,.own 43),aX 31 a.aF,cP 32 a.aF,aY 33 h] [(43,.tr sT (I YM.g e) []),(42,.lst 41 6 true (I YJ.g b)),(41,.box qS),aJ 40 a])) (fun(j:aA YM)=>(xq 2 [bQ 1 40,bQ 2 41,(3,.own 42),(6,.own 43)] [(43,.tr sT (I YM.g j) []),(42,.lst 41 6 true (I YJ.g b)),(41,.box qS),aJ 40 a])) (fun⟨h,e⟩=>?_) (0,[])) fun j=>?_;refine ig fun i=>?_;refine bo (iL2 d i) fun⟨l,n⟩=>?_;refine bo (cZ (A:=YM) (c:=YM.g) (m:=22) (f:=fun o=>{o with aO:=n}) (fun _=>⟨rfl,rfl⟩) (fK3 rfl) ([{i with fR:=l,aO:=[]}]) _) fun p=>?_;refine bo (dN true YM.g e p) fun w=>?_;rfl;refine bo (pO 38 (d+5) 7 _ _ rfl rfl rfl) fun x=>?_;refine bo (pO 39 (d+5) 2 _ _ rfl rfl rfl) fun y=>?_;rfl
def Vj (a:YL):aB Bool:=
 (F81 a).bind fun b=>some (b !=0)
def vP1 a:OD k (d+2) 184 [eR a]=(Vj a).map bv:=oe rfl<|bo (oJ1 d a)
def iM2 (b:aA YL):aB Int:=
 (aS (E:=Int⊕Unit) (fun(a:Int)=>dM b a (fun c=>(Vj c).bind fun d=>if d then some (.inr (.inl a))else some (.inl (bF (a+1)))) (some (.inr (.inr ())))) bK 0).bind fun e=>(match e with|.inl x7=>some x7|.inr _=>some (-1))
def iN2 a:OD k (d+3) 219 [oL a,.fn 184 [] []]=(iM2 a).map i64:=oe rfl<|bl<|bo (zLo (fun b=>(Q [vP 0 a,(1,.fn 184 [] []),cP 7 a,aY 8 b] [])) (Sx 4) (fun b=>ig fun c=>bo (vP1 d c) fun e=>io) 0) fun|.inl f=>rfl|.inr _=>rfl
def jX1 (p:aA YL):aB (Unit⊕(aA YL)):=
 (iM2 p).bind fun j=>if j==(-1)then some (.inl ())else(aS (fun(⟨b,c,a⟩:Int×Int×(aA YL))=>if decide (c<(a.length:Int))then(eE a c).bind fun f=>(dX a f).bind fun d=>(Vj d).bind fun g=>(if !g then(eE a b).bind fun h=>(gR a h (fun q=>d)).bind fun i=>some (bF (b+1),i)else some (b,a):aB (Int×(aA YL))).bind fun⟨k,l⟩=>some (.inl (k,bF (c+1),l))else some (.inr (b,a))) bK (j,bF (j+1),p)).bind fun⟨e,m⟩=>(hG1 m e (YL.mk 0 0)).bind fun n=>(tZ n e).bind fun o=>some (.inr o)
def yO1 (j:aA YL):gN (XD k (d+4)) 183 [.own 1,.fn 184 [] []] [(1,.lst 38 2 false (I YL.g j))] 2 false=(jX1 j).map (fun|.inl _=>(.own 1,[(1,.lst 38 2 false (I YL.g j))],0)|.inr x26=>(.own 1,[(1,.lst 38 2 true (I YL.g x26))],0)):=by
 rw[xd (fn:=xV1) rfl];refine bo (iN2 d j) fun r=>?_;refine iy ?_;refine bo (zLo (S:=Int×Int×(aA YL)) (fun⟨l,h,a⟩=>(Q [(0,.own 1),(1,.fn 184 [] []),aY 5 l,aY 6 h] [(1,.lst 38 2 false (I YL.g a))])) (fun(⟨i,p⟩:Int×(aA YL))=>(xq 0 [(0,.own 1),aY 5 i] [(1,.lst 38 2 false (I YL.g p))])) (fun⟨l,h,a⟩=>?_) (r,bF (r+1),j)) fun⟨i,p⟩=>?_;refine bz (dG YL.g a) ?_;refine io ?_;refine bo (bL YL.g a _) fun s=>?_;refine bo (fJ (A:=YL) (c:=YL.g) (m:=2) (g:=fun b=>[i64 b.eC,i64 b.bC]) (fun _=>⟨rfl,rfl⟩) (fK3 rfl) a _) fun b=>?_;refine bo (vP1 (d+1) b) fun t=>?_;refine bo (e:=(fun(⟨n,o⟩:Int×(aA YL))=>(nq [(0,.own 1),(1,.fn 184 [] []),aY 5 n,aY 6 h] [cU 2 b,(1,.lst 38 2 false (I YL.g o))]))) ?_ fun⟨n,o⟩=>?_;refine io ?_;refine bo (bL YL.g a _) fun u=>?_;refine bo (cZ (A:=YL) (c:=YL.g) (m:=2) (f:=fun v=>b) (fun _=>⟨rfl,rfl⟩) (fK3 rfl) a _) fun w=>?_;rfl;rfl;refine bo (Rh YL.g _ _ (YL.mk 0 0)) fun q=>?_;refine bo (vO YL.g q i) fun x=>?_;rfl
def rZ1 (a:YL):aB (aA YL):=
 (jX1 [a,{a with eC:=bF (a.eC+1)},{a with eC:=bF (a.eC-1)}]).bind fun b=>(match b with|.inl _=>some [a,{a with eC:=bF (a.eC+1)},{a with eC:=bF (a.eC-1)}]|.inr x2=>some x2)
def iO2 a:OD k (d+5) 127 [eR a]=(rZ1 a).map (fun b=>oL b):=oe rfl<|bo (yO1 d [a,{a with eC:=bF (a.eC+1)},{a with eC:=bF (a.eC-1)}]) fun|.inl _=>rfl|.inr c=>rfl
def F34 (b:Int) (a:YL):aB Int:=
 some (bF ((bF (b+(bF (7*a.bC))))-(bF (12*a.eC))))
def tH2 a b:OD k (d+1) 34 [i64 a,eR b]=(F34 a b).map i64:=oe rfl<|rfl
def jY1 (a:YM) (b:YL):aB Bool:=
 (F34 a.eM b).bind fun c=>(F68 c).bind fun d=>some (d !=0)
def iP2 a b:OD k (d+2) 128 [eF a,oO b]=(jY1 a b).map bv:=oe rfl<|bo (tH2 d a.eM b) fun c=>bo (eN2 d c)
def jZ1 (b:aA YM) (c:YL):aB Int:=
 (aS (E:=Int⊕Unit) (fun(a:Int)=>dM b a (fun d=>(jY1 d c).bind fun e=>if e then some (.inr (.inl a))else some (.inl (bF (a+1)))) (some (.inr (.inr ())))) bK 0).bind fun f=>(match f with|.inl x8=>some x8|.inr _=>some (-1))
def sA1 a b:OD k (d+3) 177 [kC a,.fn 128 [] [oO b]]=(jZ1 a b).map i64:=oe rfl<|bl<|bo (zLo (fun c=>(Q [aX 0 a,(1,.fn 128 [] [oO b]),cP 7 a,aY 8 c] [])) (Sx 4) (fun c=>ig fun e=>bo (iP2 d e b) fun f=>io) 0) fun|.inl g=>rfl|.inr _=>rfl
def Gy (a:aA YM) (b:YL):aB Bool:=
 (jZ1 a b).bind fun c=>some (decide (c>=0))
def sB1 a b:OD k (d+4) 119 [kC a,.fn 128 [] [oO b]]=(Gy a b).map bv:=oe rfl<|bo (sA1 d a b)
def F67 (d:Y0) (e:YL):aB (YL×Int):=
 (rZ1 e).bind fun f=>(aS (E:=YL⊕Unit) (fun(b:Int)=>dM f b (fun c=>(Gy d.aF c).bind fun g=>if !g then some (.inr (.inl c))else some (.inl (bF (b+1)))) (some (.inr (.inr ())))) bK 0).bind fun a=>(match a with|.inl x9=>some (x9,0)|.inr _=>some (YL.mk 0 0,18))
def tI2 a b:OD k (d+6) 67 [cV a,eR b]=(F67 a b).map (fun⟨h,i⟩=>.tup [eR h,i64 i]):=oe rfl<|bo (iO2 d b) fun c=>bl<|bo (zLo (fun e=>(Q [bQ 2 0,bQ 4 2,vP 9 c,cP 10 c,aY 11 e] [bV1,cU 1 b,aJ 0 a])) (fun|.inl f=>(rq [bQ 4 2,aY 5 0] [cU 2 f,cU 1 b,aJ 0 a])|.inr _=>(xq 0 [bQ 4 2] [bV1,cU 1 b,aJ 0 a])) (fun e=>ig fun g=>bo (sB1 (d+1) a.aF g) fun j=>io) 0) fun|.inl f=>rfl|.inr _=>rfl
def F33 (a:Y0) (c:Int):aB (YL×Int):=
 (bU a.aU c).bind fun b=>if a.cJ then some (b.bG,0)else(F67 a b.bG).bind fun⟨d,e⟩=>some (d,e)
def tJ2 a b:OD k (d+7) 33 [cV a,i64 b]=(F33 a b).map (fun⟨e,f⟩=>.tup [eR e,i64 f]):=oe rfl<|bo rg fun c=>iy<|bo (tI2 d a c.bG)
def yP1 (a:Y0) (b:aA YL):aB Unit:=
 some ()
def vQ1 a b:gN (XD k (d+1)) 21 [cV a,.zs 1 2 (I YL.g b)] [] 3 true=(yP1 a b).map (fun(_:Unit)=>(.fn 41 [] [.ref 3 0,.ref 4 0],[(4,.box [.zs 1 2 (I YL.g b)]),aJ 3 a],5)):=by rw[xd (fn:=p21) rfl];exact rfl
def sC1 (a:YH):aB (Int×Int):=
 (qP a).bind fun b=>if b !=0 then some (0,b)else some (bF ((bF (7*a.eZ))+a.jP),0)
def iR2 a:OD k (d+4) 185 [fF a]=(sC1 a).map (fun⟨b,c⟩=>.tup [i64 b,i64 c]):=oe rfl<|bo (iI1 d a) fun e=>io
def cV1 (a:YH):aB (Int×Int×Int):=
 (sC1 a).bind fun⟨b,c⟩=>if c !=0 then some (0,0,18)else(Hx a).bind fun⟨d,e⟩=>some (b,d,e)
def iS2 a:OD k (d+5) 131 [fF a]=(cV1 a).map (fun⟨b,c,e⟩=>.tup [i64 b,i64 c,i64 e]):=oe rfl<|bo (iR2 d a) fun⟨f,g⟩=>iy<|bo (iJ1 d a)
def F72 (d:YH) (a:YL):aB (Int×Int×Int):=
 (cV1 d).bind fun⟨e,f,b⟩=>if b !=0 then some (0,0,b)else(F81 a).bind fun c=>if c !=0 then some (0,0,c)else some (bF (e+a.eC),bF (f+a.bC),0)
def tK2 a b:OD k (d+6) 72 [fF a,eR b]=(F72 a b).map (fun⟨c,e,f⟩=>.tup [i64 c,i64 e,i64 f]):=oe rfl<|bo (iS2 d a) fun⟨g,h,i⟩=>iy<|bo (oJ1 (d+4) b) fun j=>io
def sD1 (c a:Int):aB (Int×Int):=
 (Rk .i64 c a).bind fun d=>(bF1 .i64 c a).bind fun b=>(if decide (b<0)then some (bF (d-1),bF (b+a))else some (d,b):aB (Int×Int)).bind fun⟨e,f⟩=>some (e,f)
def iT2 a b:OD k (d+1) 186 [i64 a,i64 b]=(sD1 a b).map (fun⟨g,h⟩=>.tup [i64 g,i64 h]):=oe rfl<|bo oi fun i=>bo oi fun j=>bo (e:=(fun(⟨c,f⟩:Int×Int)=>(nq [aY 6 c,aY 7 f] []))) io
def Kf (g:Int):aB (Int×(aA YH)):=
 if(decide (g<0))||(decide (g>127))then some (2,[])else(aS (fun(⟨b,e⟩:Int×(aA YH))=>if decide (b>=(-2))then(sD1 (bF (g-b)) 12).bind fun⟨f,h⟩=>(cH1).bind fun a=>(aS (fun(⟨c,d⟩:Int×(aA YH))=>if decide (c<7)then(bU [a.c0,a.c1,a.c2,a.c3,a.c4,a.c5,a.c6] c).bind fun i=>(if i==h then(qP (YH.mk c b (bF (f-1)))).bind fun j=>some (j==0)else some false:aB Bool).bind fun k=>(if k then(lM false d [YH.mk c b (bF (f-1))]).bind fun l=>some l else some d:aB (aA YH)).bind fun m=>some (.inl (bF (c+1),m))else some (.inr d)) bK (0,e)).bind fun n=>some (.inl (bF (b-1),n))else some (.inr e)) bK (2,[])).bind fun o=>some (0,o)
def yQ1 h:gN (XD k (d+4)) 132 [i64 h] [] 0 true=(Kf h).map (fun(⟨p,q⟩:Int×(aA YH))=>(.tup [.own 0,i64 p],[(0,.lst 73 3 false (I YH.g q))],1)):=by rw[xd (fn:=xY1) rfl];exact bz (kB rfl)<|iy<|bo (zLo (fun⟨a,i⟩=>(Q [aY 0 h,(4,.own 0),aY 5 a] [(0,.lst 73 3 false (I YH.g i))])) (fun(o:aA YH)=>(xq 0 [(4,.own 0)] [(0,.lst 73 3 false (I YH.g o))])) (fun⟨a,i⟩=>io<|bo (iT2 (d+2) (bF (h-a)) 12) fun⟨f,l⟩=>bo (uV1 (d+2)) fun b=>bo (zLo (fun⟨c,j⟩=>(Q [aY 0 h,(4,.own 0),aY 5 a,aY 6 f,aY 7 l,(28,Aw b),aY 29 c] [(0,.lst 73 3 false (I YH.g j))])) (fun(n:aA YH)=>(xq 2 [aY 0 h,(4,.own 0),aY 5 a] [(0,.lst 73 3 false (I YH.g n))])) (fun⟨c,j⟩=>io<|bo (sD .i64 [b.c0,b.c1,b.c2,b.c3,b.c4,b.c5,b.c6] c rfl) fun r=>be (io<|bo (iI1 d (YH.mk c a (bF (f-1))))) fun s=>bo (e:=(fun(m:aA YH)=>(nq [aY 0 h,(4,.own 0),aY 5 a,aY 6 f,aY 7 l,(28,Aw b),aY 29 c] [(1,.box [i64 c,i64 a,i64 (bF (f-1))]),(0,.lst 73 3 false (I YH.g m))]))) (io<|bo (dN false YH.g j [YH.mk c a (bF (f-1))]))) (0,i))) (2,[]))
def F75 (a:YH):aB Int:=
 some (bF ((bF (7*a.eZ))+a.jP))
def sF1 a:OD k (d+1) 75 [fF a]=(F75 a).map i64:=oe rfl<|rfl
def yR1 (a b:YH):aB Int:=
 (F75 a).bind fun c=>(F75 b).bind fun d=>some (bF (c-d))
def iU2 a b:OD k (d+2) 134 [fF a,fF b]=(yR1 a b).map i64:=oe rfl<|bo (sF1 d a) fun c=>bo (sF1 d b)
def Yn (u v:Int) (w:aA YH):aB (aA YH):=
 (aS (fun(⟨c,d⟩:Int×(aA YH))=>if decide (c<v)then(aS (fun(⟨b,a⟩:Int×(aA YH))=>(if decide (b>u)then(eE a b).bind fun f=>(dX a f).bind fun g=>(eE a (bF (b-1))).bind fun h=>(dX a h).bind fun i=>(yR1 g i).bind fun j=>some (decide (j<0))else some false:aB Bool).bind fun k=>if k then(eE a (bF (b-1))).bind fun l=>(dX a l).bind fun m=>(eE a b).bind fun n=>(dX a n).bind fun o=>(eE a b).bind fun p=>(gR a p (fun x=>m)).bind fun e=>(eE e (bF (b-1))).bind fun q=>(gR e q (fun y=>o)).bind fun r=>some (.inl (bF (b-1),r))else some (.inr a)) bK (c,d)).bind fun s=>some (.inl (bF (c+1),s))else some (.inr d)) bK (bF (u+1),w)).bind fun t=>some t
def yS1 n o r:gN (XD k (d+3)) 220 [.own 0,i64 n,i64 o,.fn 134 [] []] [(0,.lst 4294967369 3 false (I YH.g r))] 1 false=(Yn n o r).map (fun(u:aA YH)=>(.tup [],[(0,.lst 4294967369 3 false (I YH.g u))],0)):=by rw[xd (fn:=yD1) rfl];exact bo (zLo (fun⟨b,l⟩=>(Q [(0,.own 0),aY 1 n,aY 2 o,(3,.fn 134 [] []),aY 8 b] [(0,.lst 4294967369 3 false (I YH.g l))])) (fun(t:aA YH)=>(xq 0 [] [(0,.lst 4294967369 3 false (I YH.g t))])) (fun⟨b,l⟩=>io<|bo (zLo (fun⟨p,a⟩=>(Q [(0,.own 0),aY 1 n,aY 2 o,(3,.fn 134 [] []),aY 8 b,aY 9 p] [(0,.lst 4294967369 3 false (I YH.g a))])) (fun(s:aA YH)=>(xq 2 [(0,.own 0),aY 1 n,aY 2 o,(3,.fn 134 [] []),aY 8 b] [(0,.lst 4294967369 3 false (I YH.g s))])) (fun⟨p,a⟩=>be (io<|bo (bL YH.g a _) fun v=>bo (fJ (A:=YH) (c:=YH.g) (m:=3) (g:=fun e=>[i64 e.jP,i64 e.iJ,i64 e.eZ]) (fun _=>⟨rfl,rfl⟩) (fK3 rfl) a _) fun e=>bo (bL YH.g a _) fun w=>bo (fJ (A:=YH) (c:=YH.g) (m:=3) (g:=fun h=>[i64 h.jP,i64 h.iJ,i64 h.eZ]) (fun _=>⟨rfl,rfl⟩) (fK3 rfl) a _) fun h=>bo (iU2 d e h)) fun x=>io<|bo (bL YH.g a _) fun y=>bo (fJ (A:=YH) (c:=YH.g) (m:=3) (g:=fun i=>[i64 i.jP,i64 i.iJ,i64 i.eZ]) (fun _=>⟨rfl,rfl⟩) (fK3 rfl) a _) fun i=>bo (bL YH.g a _) fun z=>bo (fJ (A:=YH) (c:=YH.g) (m:=3) (g:=fun j=>[i64 j.jP,i64 j.iJ,i64 j.eZ]) (fun _=>⟨rfl,rfl⟩) (fK3 rfl) a _) fun j=>bo (bL YH.g a _) fun B=>bo (cZ (A:=YH) (c:=YH.g) (m:=3) (f:=fun C=>i) (fun _=>⟨rfl,rfl⟩) (fK3 rfl) a _) fun q=>bo (bL YH.g q _) fun D=>bo (cZ (A:=YH) (c:=YH.g) (m:=3) (f:=fun E=>j) (fun _=>⟨rfl,rfl⟩) (fK3 rfl) q _)) (b,l))) (bF (n+1),r))
def kA1 (a b f:Int) (c:aA YH):aB (aA YH):=
 (aS (fun(_:Unit)=>if decide ((bF (b-a))<=12)then(Yn a b c).bind fun d=>some (.inr d)else none) bK ()).bind fun e=>some e
def yT1 a b e c:gN (XD k (d+4)) 188 [.own 0,i64 a,i64 b,i64 e,.fn 134 [] []] [(0,.lst 4294967369 3 false (I YH.g c))] 1 false=(kA1 a b e c).map (fun(h:aA YH)=>(.tup [],[(0,.lst 4294967369 3 false (I YH.g h))],0)):=by rw[xd (fn:=xW1) rfl];exact bo (zLo (fun _=>(Q [(0,.own 0),aY 1 a,aY 2 b,(4,.fn 134 [] [])] [(0,.lst 4294967369 3 false (I YH.g c))])) (fun(f:aA YH)=>(rq [] [(0,.lst 4294967369 3 false (I YH.g f))])) (fun _=>io (bo (yS1 d a b c))) ())
def Yo (a:aA YH):aB (aA YH):=
 (Sg (IntKind.wrap .u64 (a.length:Int))).bind fun b=>(kA1 0 (a.length:Int) b a).bind fun c=>some c
def yU1 a:gN (XD k (d+5)) 133 [.own 0,.fn 134 [] []] [(0,.lst 4294967369 3 false (I YH.g a))] 1 false=(Yo a).map (fun(c:aA YH)=>(.tup [],[(0,.lst 4294967369 3 false (I YH.g c))],0)):=by rw[xd (fn:=xZ1) rfl];exact bz (dG YH.g a)<|bo (Sh (d+2) (IntKind.wrap .u64 (a.length:Int))) fun b=>bo (yT1 d 0 (a.length:Int) b a)
def F73 (b:Int):aB ((aA YH)×Int):=
 (Kf b).bind fun⟨c,a⟩=>if(c !=0)||((a.length:Int)==0)then some ([],18)else(Yo a).bind fun d=>some (d,0)
def tL2 a:OD k (d+6) 73 [i64 a]=(F73 a).map (fun⟨c,e⟩=>.tup [Au c,i64 e]):=oe rfl<|bo (yQ1 (d+1) a) fun⟨f,b⟩=>bz (kB (bz (dG YH.g b) rfl))<|iy<|bo (yU1 d b)
def F74 (b:YH) (a:Int):aB Int:=
 (F75 b).bind fun c=>(F75 b).bind fun d=>some (if(bF (a-d))>(bF (c-a))then(bF (a-d))else(bF (c-a)))
def iW2 a b:OD k (d+2) 74 [fF a,.ip [i64 b]]=(F74 a b).map i64:=oe rfl<|bo (sF1 d a) fun c=>bo (sF1 d a)
def F77 (b c:YH) (a:Int):aB Int:=
 (F74 b a).bind fun d=>(F74 c a).bind fun e=>some (bF (d-e))
def tM2 b c a:OD k (d+3) 77 [fF b,fF c,.ip [.fn 74 [] [.ip [i64 a]]]]=(F77 b c a).map i64:=oe rfl<|bo (iW2 d b a) fun e=>bo (iW2 d c a)
def F76 (a:aA YH) (i:Int):aB YH:=
 if decide ((a.length:Int)<1)then none else(bU a 0).bind fun j=>(aS (fun(⟨g,h⟩:Int×YH)=>dM a g (fun b=>(F77 b h i).bind fun c=>(if decide (c<0)then(bU a g).bind fun d=>some d else some h:aB YH).bind fun e=>some (.inl (bF (g+1),e))) (some (.inr h))) bK (1,j)).bind fun f=>some f
def tN2 b a:OD k (d+4) 76 [Au b,.fn 77 [] [.ip [.fn 74 [] [.ip [i64 a]]]]]=(F76 b a).map (fun n=>fF n):=oe rfl<|bl<|io rfl<|bo rg fun m=>bo (zLo (fun⟨h,i⟩=>(Q [Gt 0 b,(1,.fn 77 [] [.ip [.fn 74 [] [.ip [i64 a]]]]),bQ 4 0,bQ 5 1,aY 6 h] [pS 1 i,(0,.box [i64 0,i64 0,i64 0])])) (fun(g:YH)=>(xq 0 [bQ 4 0,bQ 5 1] [pS 1 g,(0,.box [i64 0,i64 0,i64 0])])) (fun⟨h,i⟩=>bl<|ig fun c=>bo (tM2 d c i a) fun j=>bo (e:=(fun(f:YH)=>(nq [Gt 0 b,(1,.fn 77 [] [.ip [.fn 74 [] [.ip [i64 a]]]]),bQ 4 0,bQ 5 1,aY 6 h] [pS 1 f,(0,.box [i64 0,i64 0,i64 0])]))) (ig fun l=>rfl)) (1,m))
def Sy (c:YH) (d:YL):aB (YH×Int):=
 (F72 c d).bind fun⟨e,f,a⟩=>if a !=0 then some (YH.mk 0 0 0,a)else(F73 f).bind fun⟨g,b⟩=>if b !=0 then some (YH.mk 0 0 0,b)else(F76 g e).bind fun h=>some (h,0)
def yV1 a b:OD k (d+7) 43 [fF a,eR b]=(Sy a b).map (fun⟨g,h⟩=>.tup [fF g,i64 h]):=oe rfl<|bo (tK2 d a b) fun⟨c,e,i⟩=>iy<|bo (tL2 d e) fun⟨f,j⟩=>iy<|bo (tN2 (d+2) f c)
def F41 (b:Int) (c:YH) (d:Y0) (e:aA YL):aB (YH×Int):=
 (F42 d b).bind fun⟨f,i,j⟩=>(bU e f).bind fun g=>(Sy c g).bind fun⟨h,a⟩=>some (h,a)
def iY2 a b c e:OD k (d+8) 41 [i64 a,fF b,bR1 c,.ip [oL e]]=(F41 a b c e).map (fun⟨g,h⟩=>.tup [fF g,i64 h]):=oe rfl<|bo (gF2 (d+6) c a) fun⟨i,j,l⟩=>bo rg fun f=>bo (yV1 d b f)
def sG1 (g:Int) (d:Nat) (e:aA YB) (f:Int) (h:aA YL) (i:Y0):aB ((aA YB)×Int):=
 (dX e d).bind fun j=>(F41 g j.cA i h).bind fun⟨k,l⟩=>(if f==0 then some l else some f:aB Int).bind fun a=>(gR e d (fun b=>{b with cA:=k})).bind fun c=>some (c,a)
def iZ2 l q b r h i:gN (XD k (d+9)) 40 [i64 l,.el 51 q 0,.ref 6 0,.ref 45 0] [(51,.lst 4294967371 5 true (I YB.g b)),(45,.box [i64 r]),sS,(4,.box [.zs 1 2 (I YL.g h)]),aJ 3 i] 52 false=(sG1 l q b r h i).map (fun(⟨o,p⟩:(aA YB)×Int)=>(.tup [],[(51,.lst 4294967371 5 true (I YB.g o)),(45,.box [i64 p]),sS,(4,.box [.zs 1 2 (I YL.g h)]),aJ 3 i],0)):=by rw[xd (fn:=p40) rfl];exact bo (fJ (A:=YB) (c:=YB.g) (m:=5) (g:=fun j=>[i64 j.cA.jP,i64 j.cA.iJ,i64 j.cA.eZ]) (fun _=>⟨rfl,rfl⟩) (fK3 rfl) b _) fun j=>bo (iY2 d l j.cA i h) fun⟨s,t⟩=>bo (e:=(fun(a:Int)=>(nq [(1,.el 51 q 0),bQ 6 52] [pS 52 s,(51,.lst 4294967371 5 true (I YB.g b)),(45,.box [i64 a]),sS,(4,.box [.zs 1 2 (I YL.g h)]),aJ 3 i]))) io fun a=>bo (cZ (A:=YB) (c:=YB.g) (m:=5) (f:=fun n=>{n with cA:=s}) (fun _=>⟨rfl,rfl⟩) (fK3 rfl) b _)
def Ni (g:Int) (d:Nat) (e:aA YD) (f:Int) (h:aA YL) (i:Y0):aB ((aA YD)×Int):=
 (dX e d).bind fun j=>(F41 g j.cA i h).bind fun⟨k,l⟩=>(if f==0 then some l else some f:aB Int).bind fun a=>(gR e d (fun b=>{b with cA:=k})).bind fun c=>some (c,a)
def sH1 l q b r h i:gN (XD k (d+9)) 40 [i64 l,.el 52 q 0,.ref 6 0,.ref 45 0] [(52,.lst 4294967406 5 true (I YD.g b)),(45,.box [i64 r]),sS,(4,.box [.zs 1 2 (I YL.g h)]),aJ 3 i] 53 false=(Ni l q b r h i).map (fun(⟨o,p⟩:(aA YD)×Int)=>(.tup [],[(52,.lst 4294967406 5 true (I YD.g o)),(45,.box [i64 p]),sS,(4,.box [.zs 1 2 (I YL.g h)]),aJ 3 i],0)):=by rw[xd (fn:=p40) rfl];exact bo (fJ (A:=YD) (c:=YD.g) (m:=5) (g:=fun j=>[i64 j.cA.jP,i64 j.cA.iJ,i64 j.cA.eZ]) (fun _=>⟨rfl,rfl⟩) (fK3 rfl) b _) fun j=>bo (iY2 d l j.cA i h) fun⟨s,t⟩=>bo (e:=(fun(a:Int)=>(nq [(1,.el 52 q 0),bQ 6 53] [pS 53 s,(52,.lst 4294967406 5 true (I YD.g b)),(45,.box [i64 a]),sS,(4,.box [.zs 1 2 (I YL.g h)]),aJ 3 i]))) io fun a=>bo (cZ (A:=YD) (c:=YD.g) (m:=5) (f:=fun n=>{n with cA:=s}) (fun _=>⟨rfl,rfl⟩) (fK3 rfl) b _)
def kB1 (x1:Y0) (x2:aA YL) (x3:Y0):aB (Int⊕((aA YN)×(aA YZ)×(aA YM)×(aA YJ))):=
 (Si x1).bind fun⟨x4,x5,x6,x7⟩=>(aS (fun(⟨g,o,b⟩:Int×Int×(aA YM))=>if decide (g<(x6.length:Int))then(eE b g).bind fun p=>(dX b p).bind fun q=>(aS (fun(⟨a,c,r⟩:Int×(aA YW)×Int)=>if decide (a<(q.aO.length:Int))then(eE c a).bind fun s=>(dX c s).bind fun t=>(aS (fun(⟨h,d,u⟩:Int×(aA YO)×Int)=>if decide (h<(t.aT.length:Int))then(eE d h).bind fun v=>(dX d v).bind fun w=>(aS (fun(⟨i,e,x⟩:Int×(aA YE)×Int)=>if decide (i<(w.aW.length:Int))then(eE e i).bind fun j=>(dX e j).bind fun f=>(aS (fun(⟨k,l,y⟩:Int×(aA YB)×Int)=>if decide (k<(f.cE.length:Int))then(eE l k).bind fun B=>(sG1 a B l y x2 x3).bind fun⟨C,D⟩=>some (.inl (bF (k+1),C,D))else some (.inr (l,y))) bK (0,f.cE,x)).bind fun⟨E,F⟩=>(aS (fun(⟨m,n,z⟩:Int×(aA YD)×Int)=>if decide (m<(f.bR.length:Int))then(eE n m).bind fun G=>(Ni a G n z x2 x3).bind fun⟨H,J⟩=>some (.inl (bF (m+1),H,J))else some (.inr (n,z))) bK (0,f.bR,F)).bind fun⟨K,L⟩=>(gR e j (fun M=>{M with bR:=K})).bind fun N=>(gR N j (fun O=>{O with cE:=E})).bind fun P=>some (.inl (bF (i+1),P,L))else(gR d v (fun R=>{R with aW:=e})).bind fun S=>some (.inr (S,x))) bK (0,w.aW,u)).bind fun⟨T,U⟩=>some (.inl (bF (h+1),T,U))else some (.inr (d,u))) bK (0,t.aT,r)).bind fun⟨V,W⟩=>(gR c s (fun X=>{X with aT:=V})).bind fun Y=>some (.inl (bF (a+1),Y,W))else(gR b p (fun Z=>{Z with aO:=c})).bind fun b0=>some (.inr (r,b0))) bK (0,q.aO,o)).bind fun⟨b4,b5⟩=>some (.inl (bF (g+1),b4,b5))else some (.inr (o,b))) bK (0,0,x6)).bind fun⟨A,b6⟩=>if A !=0 then some (.inl A)else some (.inr (x4,x5,b6,x7))
def vR1 (j:Y0) (x:aA YL) (y:Y0):gN (XD k (d+10)) 20 [cV j,.fn 41 [] [.ref 3 0,.ref 4 0]] [(4,.box [.zs 1 2 (I YL.g x)]),aJ 3 y] 5 true=(kB1 j x y).map (fun|.inl x607=>(.tup [.agg [.v (.string (⟨#[]⟩:ByteArray)),bv false,.own 46,.own 47,.is 7 (I YN.g []),.is 2 (I YZ.g [])],i64 x607],[(47,.tr sT (I YM.g []) []),(46,.lst 41 6 true (I YJ.g [])),(4,.box [.zs 1 2 (I YL.g x)]),aJ 3 y],48)|.inr ⟨x608,x609,x610,x611⟩=>(.tup [.agg (wO j j.cJ 42 43 x608 x609),i64 0],[(43,.tr sT (I YM.g x610) []),(42,.lst 41 6 true (I YJ.g x611)),(4,.box [.zs 1 2 (I YL.g x)]),aJ 3 y],46)):=by
 rw[xd (fn:=p20) rfl];refine bo (Ym (d+3) j) fun⟨F,G,E,H⟩=>?_;refine bz (dG YM.g E) ?_;refine bo (zLo (S:=Int×Int×(aA YM)) (fun⟨l,J,h⟩=>(Q [bQ 4 7,bQ 6 44,bQ 7 45,(8,.fn 40 [] [.ref 6 0,.ref 45 0]),(22,.own 43),cP 23 E,aY 24 l] [(45,.box [i64 J]),(44,.box (wO j j.cJ 42 43 F G)),(43,.tr sT (I YM.g h) []),(42,.lst 41 6 true (I YJ.g H)),(7,.box qS),sS,aJ 5 j,(4,.box [.zs 1 2 (I YL.g x)]),aJ 3 y])) (fun(⟨b5,b6⟩:Int×(aA YM))=>(xq 0 [bQ 4 7,bQ 6 44,bQ 7 45] [(45,.box [i64 b5]),(44,.box (wO j j.cJ 42 43 F G)),(43,.tr sT (I YM.g b6) []),(42,.lst 41 6 true (I YJ.g H)),(7,.box qS),sS,aJ 5 j,(4,.box [.zs 1 2 (I YL.g x)]),aJ 3 y])) (fun⟨l,J,h⟩=>?_) (0,0,E)) fun⟨b5,b6⟩=>?_;refine io ?_;refine bo (bL YM.g h _) fun r=>?_;refine bo (fJ (A:=YM) (c:=YM.g) (m:=22) (g:=fun b=>[i64 b.ID.gJ,i64 b.ID.dE,i64 b.dK.gS,i64 b.dK.Unit,i64 b.dK.bY.c0,i64 b.dK.bY.c1,i64 b.dK.bY.c2,i64 b.dK.bY.c3,i64 b.dK.bY.c4,i64 b.dK.bY.c5,i64 b.gQ,i64 b.eM,bv b.cN,i64 b.bN,i64 b.bS,i64 b.lU,i64 b.fL,i64 b.jN,i64 b.jY,.v (.string b.cW),iS b.fR,mA b.aO]) (fun _=>⟨rfl,rfl⟩) (fK3 rfl) h _) fun b=>?_;refine bz (dG YW.g b.aO) ?_;refine bo (zLo (S:=Int×(aA YW)×Int) (fun⟨e,i,K⟩=>(Q [bQ 4 7,bQ 6 44,bQ 7 45,(8,.fn 40 [] [.ref 6 0,.ref 45 0]),bQ 10 47,(22,.own 43),cP 23 E,aY 24 l,cP 30 b.aO,aY 31 e] [(47,.box (zMr b 46)),(46,.tr Ka (I YW.g i) []),(45,.box [i64 K]),(44,.box (wO j j.cJ 42 43 F G)),(43,.tr sT (I YM.g h) [(21,r,.own 46)]),(42,.lst 41 6 true (I YJ.g H)),(7,.box qS),sS,aJ 5 j,(4,.box [.zs 1 2 (I YL.g x)]),aJ 3 y])) (fun(⟨b0,b4⟩:Int×(aA YM))=>(xq 2 [bQ 4 7,bQ 6 44,bQ 7 45,(8,.fn 40 [] [.ref 6 0,.ref 45 0]),(22,.own 43),cP 23 E,aY 24 l] [(47,.box [.undef,.undef,.undef,.undef,.undef,.undef,.undef,.undef,.undef,.undef,.undef,.undef,.undef,.undef,.undef,.undef,.undef,.undef,.undef,.undef,.undef,.undef]),(46,.lst 0 0 true []),(45,.box [i64 b0]),(44,.box (wO j j.cJ 42 43 F G)),(43,.tr sT (I YM.g b4) []),(42,.lst 41 6 true (I YJ.g H)),(7,.box qS),sS,aJ 5 j,(4,.box [.zs 1 2 (I YL.g x)]),aJ 3 y])) (fun⟨e,i,K⟩=>?_) (0,b.aO,J)) fun⟨b0,b4⟩=>?_;refine io ?_ ?_;refine bo (bL YW.g i _) fun s=>?_;refine bo (cY (A:=YW) (c:=YW.g) (g:=fun n=>lN n.aT) (fun _=>rfl) i _) fun n=>?_;refine bz (dG YO.g n.aT) ?_;refine bo (zLo (S:=Int×(aA YO)×Int) (fun⟨t,o,L⟩=>(Q [bQ 4 7,bQ 6 44,bQ 7 45,(8,.fn 40 [] [.ref 6 0,.ref 45 0]),bQ 10 47,aY 11 e,(22,.own 43),cP 23 E,aY 24 l,cP 30 b.aO,aY 31 e,(39,.own 48),cP 40 n.aT,aY 41 t] [(48,.tr Ly (I YO.g o) []),(47,.box (zMr b 46)),(46,.tr Ka (I YW.g i) [(1,s,.own 48)]),(45,.box [i64 L]),(44,.box (wO j j.cJ 42 43 F G)),(43,.tr sT (I YM.g h) [(21,r,.own 46)]),(42,.lst 41 6 true (I YJ.g H)),(7,.box qS),sS,aJ 5 j,(4,.box [.zs 1 2 (I YL.g x)]),aJ 3 y])) (fun(⟨T,Z⟩:(aA YO)×Int)=>(xq 4 [bQ 4 7,bQ 6 44,bQ 7 45,(8,.fn 40 [] [.ref 6 0,.ref 45 0]),bQ 10 47,(22,.own 43),cP 23 E,aY 24 l,cP 30 b.aO,aY 31 e] [(48,.tr Ly (I YO.g T) []),(47,.box (zMr b 46)),(46,.tr Ka (I YW.g i) [(1,s,.own 48)]),(45,.box [i64 Z]),(44,.box (wO j j.cJ 42 43 F G)),(43,.tr sT (I YM.g h) [(21,r,.own 46)]),(42,.lst 41 6 true (I YJ.g H)),(7,.box qS),sS,aJ 5 j,(4,.box [.zs 1 2 (I YL.g x)]),aJ 3 y])) (fun⟨t,o,L⟩=>?_) (0,n.aT,K)) fun⟨T,Z⟩=>?_;refine io ?_;refine bo (bL YO.g o _) fun z=>?_;refine bo (fJ (A:=YO) (c:=YO.g) (m:=2) (g:=fun p=>[kO p.aW,iK p.cT]) (fun _=>⟨rfl,rfl⟩) (fK3 rfl) o _) fun p=>?_;refine bz (dG YE.g p.aW) ?_;refine bo (zLo (S:=Int×(aA YE)×Int) (fun⟨w,q,M⟩=>(Q [bQ 4 7,bQ 6 44,bQ 7 45,(8,.fn 40 [] [.ref 6 0,.ref 45 0]),bQ 10 47,aY 11 e,(22,.own 43),cP 23 E,aY 24 l,cP 30 b.aO,aY 31 e,(39,.own 48),cP 40 n.aT,aY 41 t,(46,.own 49),cP 47 p.aW,aY 48 w] [bU1,(49,.tr td0 (I YE.g q) []),(48,.tr Ly (I YO.g o) [(0,z,.own 49)]),(47,.box (zMr b 46)),(46,.tr Ka (I YW.g i) [(1,s,.own 48)]),(45,.box [i64 M]),(44,.box (wO j j.cJ 42 43 F G)),(43,.tr sT (I YM.g h) [(21,r,.own 46)]),(42,.lst 41 6 true (I YJ.g H)),(7,.box qS),sS,aJ 5 j,(4,.box [.zs 1 2 (I YL.g x)]),aJ 3 y])) (fun(⟨X,Y⟩:(aA YO)×Int)=>(xq 6 [bQ 4 7,bQ 6 44,bQ 7 45,(8,.fn 40 [] [.ref 6 0,.ref 45 0]),bQ 10 47,aY 11 e,(22,.own 43),cP 23 E,aY 24 l,cP 30 b.aO,aY 31 e,(39,.own 48),cP 40 n.aT,aY 41 t] [bU1,(49,.lst 0 0 true []),(48,.tr Ly (I YO.g X) []),(47,.box (zMr b 46)),(46,.tr Ka (I YW.g i) [(1,s,.own 48)]),(45,.box [i64 Y]),(44,.box (wO j j.cJ 42 43 F G)),(43,.tr sT (I YM.g h) [(21,r,.own 46)]),(42,.lst 41 6 true (I YJ.g H)),(7,.box qS),sS,aJ 5 j,(4,.box [.zs 1 2 (I YL.g x)]),aJ 3 y])) (fun⟨w,q,M⟩=>?_) (0,p.aW,L)) fun⟨X,Y⟩=>?_;refine io ?_ ?_;refine bo (bL YE.g q _) fun u=>?_;refine bo (fJ (A:=YE) (c:=YE.g) (m:=13) (g:=fun a=>[i64 a.ID.gJ,i64 a.ID.dE,i64 a.dH,i64 a.Value.Log,i64 a.Value.qR,jG a.cE,kP a.bR,i64 a.bD,i64 a.cS,i64 a.dC,nE a.cX,i64 a.jO,i64 a.jQ]) (fun _=>⟨rfl,rfl⟩) (fK3 rfl) q _) fun a=>?_;refine bz (dG YB.g a.cE) ?_;refine bo (zLo (S:=Int×(aA YB)×Int) (fun⟨U,C,N⟩=>(Q [bQ 4 7,bQ 6 44,bQ 7 45,(8,.fn 40 [] [.ref 6 0,.ref 45 0]),bQ 10 47,aY 11 e,bQ 15 53,(22,.own 43),cP 23 E,aY 24 l,cP 30 b.aO,aY 31 e,(39,.own 48),cP 40 n.aT,aY 41 t,(46,.own 49),cP 47 p.aW,aY 48 w,cP 54 a.cE,aY 55 U] [(53,.box [i64 a.ID.gJ,i64 a.ID.dE,i64 a.dH,i64 a.Value.Log,i64 a.Value.qR,.own 51,.own 52,i64 a.bD,i64 a.cS,i64 a.dC,.undef,i64 a.jO,i64 a.jQ]),(52,.lst 110 5 true (I YD.g a.bR)),(51,.lst 75 5 true (I YB.g C)),bU1,(49,.tr td0 (I YE.g q) [(6,u,.own 52),(5,u,.own 51)]),(48,.tr Ly (I YO.g o) [(0,z,.own 49)]),(47,.box (zMr b 46)),(46,.tr Ka (I YW.g i) [(1,s,.own 48)]),(45,.box [i64 N]),(44,.box (wO j j.cJ 42 43 F G)),(43,.tr sT (I YM.g h) [(21,r,.own 46)]),(42,.lst 41 6 true (I YJ.g H)),(7,.box qS),sS,aJ 5 j,(4,.box [.zs 1 2 (I YL.g x)]),aJ 3 y])) (fun(⟨B,O⟩:(aA YB)×Int)=>(xq 8 [bQ 4 7,bQ 6 44,bQ 7 45,(8,.fn 40 [] [.ref 6 0,.ref 45 0]),bQ 10 47,aY 11 e,bQ 15 53,(22,.own 43),cP 23 E,aY 24 l,cP 30 b.aO,aY 31 e,(39,.own 48),cP 40 n.aT,aY 41 t,(46,.own 49),cP 47 p.aW,aY 48 w] [(53,.box [i64 a.ID.gJ,i64 a.ID.dE,i64 a.dH,i64 a.Value.Log,i64 a.Value.qR,.own 51,.own 52,i64 a.bD,i64 a.cS,i64 a.dC,.undef,i64 a.jO,i64 a.jQ]),(52,.lst 110 5 true (I YD.g a.bR)),(51,.lst 75 5 true (I YB.g B)),bU1,(49,.tr td0 (I YE.g q) [(6,u,.own 52),(5,u,.own 51)]),(48,.tr Ly (I YO.g o) [(0,z,.own 49)]),(47,.box (zMr b 46)),(46,.tr Ka (I YW.g i) [(1,s,.own 48)]),(45,.box [i64 O]),(44,.box (wO j j.cJ 42 43 F G)),(43,.tr sT (I YM.g h) [(21,r,.own 46)]),(42,.lst 41 6 true (I YJ.g H)),(7,.box qS),sS,aJ 5 j,(4,.box [.zs 1 2 (I YL.g x)]),aJ 3 y])) (fun⟨U,C,N⟩=>?_) (0,a.cE,M)) fun⟨B,O⟩=>?_;refine io ?_;refine bo (bL YB.g C _) fun b7=>?_;refine bo (iZ2 d e b7 C N x y) fun⟨d6,d7⟩=>?_;rfl;refine bz (dG YD.g a.bR) ?_;refine bo (zLo (S:=Int×(aA YD)×Int) (fun⟨V,D,P⟩=>(Q [bQ 4 7,bQ 6 44,bQ 7 45,(8,.fn 40 [] [.ref 6 0,.ref 45 0]),bQ 10 47,aY 11 e,bQ 15 53,(22,.own 43),cP 23 E,aY 24 l,cP 30 b.aO,aY 31 e,(39,.own 48),cP 40 n.aT,aY 41 t,(46,.own 49),cP 47 p.aW,aY 48 w,cP 69 a.bR,aY 70 V] [(53,.box [i64 a.ID.gJ,i64 a.ID.dE,i64 a.dH,i64 a.Value.Log,i64 a.Value.qR,.own 51,.own 52,i64 a.bD,i64 a.cS,i64 a.dC,.undef,i64 a.jO,i64 a.jQ]),(52,.lst 110 5 true (I YD.g D)),(51,.lst 75 5 true (I YB.g B)),bU1,(49,.tr td0 (I YE.g q) [(6,u,.own 52),(5,u,.own 51)]),(48,.tr Ly (I YO.g o) [(0,z,.own 49)]),(47,.box (zMr b 46)),(46,.tr Ka (I YW.g i) [(1,s,.own 48)]),(45,.box [i64 P]),(44,.box (wO j j.cJ 42 43 F G)),(43,.tr sT (I YM.g h) [(21,r,.own 46)]),(42,.lst 41 6 true (I YJ.g H)),(7,.box qS),sS,aJ 5 j,(4,.box [.zs 1 2 (I YL.g x)]),aJ 3 y])) (fun(⟨R,W⟩:(aA YD)×Int)=>(xq 10 [bQ 4 7,bQ 6 44,bQ 7 45,(8,.fn 40 [] [.ref 6 0,.ref 45 0]),bQ 10 47,aY 11 e,(22,.own 43),cP 23 E,aY 24 l,cP 30 b.aO,aY 31 e,(39,.own 48),cP 40 n.aT,aY 41 t,(46,.own 49),cP 47 p.aW,aY 48 w] [(53,.box [i64 a.ID.gJ,i64 a.ID.dE,i64 a.dH,i64 a.Value.Log,i64 a.Value.qR,.own 51,.own 52,i64 a.bD,i64 a.cS,i64 a.dC,.undef,i64 a.jO,i64 a.jQ]),(52,.lst 110 5 true (I YD.g R)),(51,.lst 75 5 true (I YB.g B)),bU1,(49,.tr td0 (I YE.g q) [(6,u,.own 52),(5,u,.own 51)]),(48,.tr Ly (I YO.g o) [(0,z,.own 49)]),(47,.box (zMr b 46)),(46,.tr Ka (I YW.g i) [(1,s,.own 48)]),(45,.box [i64 W]),(44,.box (wO j j.cJ 42 43 F G)),(43,.tr sT (I YM.g h) [(21,r,.own 46)]),(42,.lst 41 6 true (I YJ.g H)),(7,.box qS),sS,aJ 5 j,(4,.box [.zs 1 2 (I YL.g x)]),aJ 3 y])) (fun⟨V,D,P⟩=>?_) (0,a.bR,O)) fun⟨R,W⟩=>?_;refine io ?_;refine bo (bL YD.g D _) fun b8=>?_;refine bo (sH1 d e b8 D P x y) fun⟨d8,d9⟩=>?_;rfl;refine bo (cZ (A:=YE) (c:=YE.g) (m:=13) (f:=fun b9=>{b9 with bR:=R}) (fun _=>⟨rfl,rfl⟩) (fK3 rfl) q _) fun d0=>?_;refine bo (cZ (A:=YE) (c:=YE.g) (m:=13) (f:=fun d2=>{d2 with cE:=B}) (fun _=>⟨rfl,rfl⟩) (fK3 rfl) d0 _) fun e0=>?_;rfl;refine bo (cZ (A:=YO) (c:=YO.g) (m:=2) (f:=fun d3=>{d3 with aW:=q}) (fun _=>⟨rfl,rfl⟩) (fK3 rfl) o _) fun e1=>?_;rfl;rfl;refine bo (cZ (A:=YW) (c:=YW.g) (m:=2) (f:=fun d4=>{d4 with aT:=T}) (fun _=>⟨rfl,rfl⟩) (fK3 rfl) i _) fun e3=>?_;rfl;refine bo (cZ (A:=YM) (c:=YM.g) (m:=22) (f:=fun d5=>{d5 with aO:=i}) (fun _=>⟨rfl,rfl⟩) (fK3 rfl) h _) fun e4=>?_;rfl;rfl;refine io
end Go.P
