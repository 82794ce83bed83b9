import Derived.Test.YtfdbgfhnlgbonaaGreatLpB
import Derived.KernelRfl
import Derived.Test.YtfdbgfhnlgbonaaGreatChecked
/- A text of the proof. -/
set_option linter.all false
set_option maxRecDepth 100000
set_option maxHeartbeats 2000000
namespace Go.P
open Go.Sim (Ex gC CK)
structure YZ where
 kP:Int
 fE:Int
 deriving DecidableEq,Inhabited
def YZ.g (x:YZ):aA PV:=[i64 x.kP,i64 x.fE]
structure YL where
 mJ:Int
 aZ:Int
 deriving DecidableEq,Inhabited
def YL.g (x:YL):aA PV:=[i64 x.mJ,i64 x.aZ]
structure YF where
 ID:YZ
 Uy:Int
 deriving DecidableEq,Inhabited
def YF.g (x:YF):aA PV:=[i64 x.ID.kP,i64 x.ID.fE,i64 x.Uy]
structure YJ where
 ID:YZ
 Br:ByteArray
 aK:YL
 bN:List YF
 deriving Inhabited
def YJ.g (x:YJ):aA PV:=[i64 x.ID.kP,i64 x.ID.fE,.v (.string x.Br),i64 x.aK.mJ,i64 x.aK.aZ,.is 3 (List.map YF.g x.bN)]
structure Y6 where
 c0:Int
 c1:Int
 c2:Int
 c3:Int
 c4:Int
 c5:Int
 deriving DecidableEq,Inhabited
def Y6.g (x:Y6):aA PV:=[i64 x.c0,i64 x.c1,i64 x.c2,i64 x.c3,i64 x.c4,i64 x.c5]
structure YX where
 jC:Int
 Unit:Int
 eY:Y6
 deriving DecidableEq,Inhabited
def YX.g (x:YX):aA PV:=[i64 x.jC,i64 x.Unit,i64 x.eY.c0,i64 x.eY.c1,i64 x.eY.c2,i64 x.eY.c3,i64 x.eY.c4,i64 x.eY.c5]
structure YT where
 At:Int
 Ux:Int
 vU2:Bool
 deriving DecidableEq,Inhabited
def YT.g (x:YT):aA PV:=[i64 x.At,i64 x.Ux,bv x.vU2]
structure YC where
 At:Int
 Uy:Int
 deriving DecidableEq,Inhabited
def YC.g (x:YC):aA PV:=[i64 x.At,i64 x.Uy]
structure YA where
 Log:Int
 pC:Int
 deriving DecidableEq,Inhabited
def YA.g (x:YA):aA PV:=[i64 x.Log,i64 x.pC]
structure YH where
 nJ:Int
 mI:Int
 jB:Int
 deriving DecidableEq,Inhabited
def YH.g (x:YH):aA PV:=[i64 x.nJ,i64 x.mI,i64 x.jB]
structure YB where
 cC:YH
 nW:Bool
 vD:Int
 deriving DecidableEq,Inhabited
def YB.g (x:YB):aA PV:=[i64 x.cC.nJ,i64 x.cC.mI,i64 x.cC.jB,bv x.nW,i64 x.vD]
structure YD where
 cC:YH
 Log:Int
 kN1:Bool
 deriving DecidableEq,Inhabited
def YD.g (x:YD):aA PV:=[i64 x.cC.nJ,i64 x.cC.mI,i64 x.cC.jB,i64 x.Log,bv x.kN1]
structure YY where
 qB:ByteArray
 Bs:Int
 deriving DecidableEq,Inhabited
def YY.g (x:YY):aA PV:=[.v (.string x.qB),i64 x.Bs]
structure YE where
 ID:YZ
 cE:Int
 Value:YA
 cA:List YB
 dX:List YD
 bQ:Int
 dM:Int
 dU:Int
 dA:List YY
 kZ:Int
 kY:Int
 deriving Inhabited
def YE.g (x:YE):aA PV:=[i64 x.ID.kP,i64 x.ID.fE,i64 x.cE,i64 x.Value.Log,i64 x.Value.pC,.is 5 (List.map YB.g x.cA),.is 5 (List.map YD.g x.dX),i64 x.bQ,i64 x.dM,i64 x.dU,.is 2 (List.map YY.g x.dA),i64 x.kZ,i64 x.kY]
structure YU where
 fW:Int
 jC:Int
 iN:Int
 jL:Int
 deriving DecidableEq,Inhabited
def YU.g (x:YU):aA PV:=[i64 x.fW,i64 x.jC,i64 x.iN,i64 x.jL]
structure YO where
 aT:List YE
 dQ:List YU
 deriving Inhabited
def YO.g (x:YO):aA PV:=[.is 13 (List.map YE.g x.aT),.is 4 (List.map YU.g x.dQ)]
structure YW where
 nC:List YC
 aM:List YO
 deriving Inhabited
def YW.g (x:YW):aA PV:=[.is 2 (List.map YC.g x.nC),.is 2 (List.map YO.g x.aM)]
structure YM where
 ID:YZ
 vN:YX
 iX:Int
 Gy:Int
 nB:Bool
 cY:Int
 cU:Int
 Mq:Int
 sB:Int
 Yb:Int
 kM1:Int
 jQ:ByteArray
 nN:List YT
 aQ:List YW
 deriving Inhabited
def YM.g (x:YM):aA PV:=[i64 x.ID.kP,i64 x.ID.fE,i64 x.vN.jC,i64 x.vN.Unit,i64 x.vN.eY.c0,i64 x.vN.eY.c1,i64 x.vN.eY.c2,i64 x.vN.eY.c3,i64 x.vN.eY.c4,i64 x.vN.eY.c5,i64 x.iX,i64 x.Gy,bv x.nB,i64 x.cY,i64 x.cU,i64 x.Mq,i64 x.sB,i64 x.Yb,i64 x.kM1,.v (.string x.jQ),.is 3 (List.map YT.g x.nN),.is 2 (List.map YW.g x.aQ)]
structure YN where
 ID:YZ
 cE:Int
 jM:YZ
 To:YZ
 deriving DecidableEq,Inhabited
def YN.g (x:YN):aA PV:=[i64 x.ID.kP,i64 x.ID.fE,i64 x.cE,i64 x.jM.kP,i64 x.jM.fE,i64 x.To.kP,i64 x.To.fE]
structure Y0 where
 qW:ByteArray
 bV:Bool
 bG:List YJ
 aD:List YM
 cJ:List YN
 nX:List YZ
 deriving Inhabited
def Y0.g (x:Y0):aA PV:=[.v (.string x.qW),bv x.bV,.is 6 (List.map YJ.g x.bG),.is 22 (List.map YM.g x.aD),.is 7 (List.map YN.g x.cJ),.is 2 (List.map YZ.g x.nX)]
structure YV where
 jX:Int
 kO1:YZ
 deriving DecidableEq,Inhabited
def YV.g (x:YV):aA PV:=[i64 x.jX,i64 x.kO1.kP,i64 x.kO1.fE]
structure YI where
 name:ByteArray
 letter:Int
 line:Int
 octaves:Int
 middle:Int
 sharps:Int
 flats:Int
 deriving DecidableEq,Inhabited
def YI.g (x:YI):aA PV:=[.v (.string x.name),.v (.int .u8 x.letter),i64 x.line,i64 x.octaves,i64 x.middle,i64 x.sharps,i64 x.flats]
structure Y9 where
 c0:YI
 c1:YI
 c2:YI
 c3:YI
 c4:YI
 c5:YI
 c6:YI
 c7:YI
 c8:YI
 deriving DecidableEq,Inhabited
def Y9.g (x:Y9):aA PV:=[.v (.string x.c0.name),.v (.int .u8 x.c0.letter),i64 x.c0.line,i64 x.c0.octaves,i64 x.c0.middle,i64 x.c0.sharps,i64 x.c0.flats,.v (.string x.c1.name),.v (.int .u8 x.c1.letter),i64 x.c1.line,i64 x.c1.octaves,i64 x.c1.middle,i64 x.c1.sharps,i64 x.c1.flats,.v (.string x.c2.name),.v (.int .u8 x.c2.letter),i64 x.c2.line,i64 x.c2.octaves,i64 x.c2.middle,i64 x.c2.sharps,i64 x.c2.flats,.v (.string x.c3.name),.v (.int .u8 x.c3.letter),i64 x.c3.line,i64 x.c3.octaves,i64 x.c3.middle,i64 x.c3.sharps,i64 x.c3.flats,.v (.string x.c4.name),.v (.int .u8 x.c4.letter),i64 x.c4.line,i64 x.c4.octaves,i64 x.c4.middle,i64 x.c4.sharps,i64 x.c4.flats,.v (.string x.c5.name),.v (.int .u8 x.c5.letter),i64 x.c5.line,i64 x.c5.octaves,i64 x.c5.middle,i64 x.c5.sharps,i64 x.c5.flats,.v (.string x.c6.name),.v (.int .u8 x.c6.letter),i64 x.c6.line,i64 x.c6.octaves,i64 x.c6.middle,i64 x.c6.sharps,i64 x.c6.flats,.v (.string x.c7.name),.v (.int .u8 x.c7.letter),i64 x.c7.line,i64 x.c7.octaves,i64 x.c7.middle,i64 x.c7.sharps,i64 x.c7.flats,.v (.string x.c8.name),.v (.int .u8 x.c8.letter),i64 x.c8.line,i64 x.c8.octaves,i64 x.c8.middle,i64 x.c8.sharps,i64 x.c8.flats]
structure YK where
 s':Y0
 rule:Int
 list:List YV
 deriving Inhabited
def YK.g (x:YK):aA PV:=[.v (.string x.s'.qW),bv x.s'.bV,.is 6 (List.map YJ.g x.s'.bG),.is 22 (List.map YM.g x.s'.aD),.is 7 (List.map YN.g x.s'.cJ),.is 2 (List.map YZ.g x.s'.nX),i64 x.rule,.is 3 (List.map YV.g x.list)]
structure Ab where
 c0:Int
 c1:Int
 c2:Int
 c3:Int
 c4:Int
 c5:Int
 c6:Int
 deriving DecidableEq,Inhabited
def Ab.g (x:Ab):aA PV:=[i64 x.c0,i64 x.c1,i64 x.c2,i64 x.c3,i64 x.c4,i64 x.c5,i64 x.c6]
structure YP where
 cE:Int
 nI:Int
 cZ:Int
 cV:Int
 dB:Int
 pD:Int
 sZ1:Int
 deriving DecidableEq,Inhabited
def YP.g (x:YP):aA PV:=[i64 x.cE,i64 x.nI,i64 x.cZ,i64 x.cV,i64 x.dB,i64 x.pD,i64 x.sZ1]
structure YQ where
 cV:Int
 At:Int
 cZ:Int
 dB:Int
 deriving DecidableEq,Inhabited
def YQ.g (x:YQ):aA PV:=[i64 x.cV,i64 x.At,i64 x.cZ,i64 x.dB]
structure YS where
 cE:Int
 jM:YQ
 To:YQ
 deriving DecidableEq,Inhabited
def YS.g (x:YS):aA PV:=[i64 x.cE,i64 x.jM.cV,i64 x.jM.At,i64 x.jM.cZ,i64 x.jM.dB,i64 x.To.cV,i64 x.To.At,i64 x.To.cZ,i64 x.To.dB]
structure YG where
 started:Bool
 body:Int
 used:Int
 ending:Int
 ended:Bool
 passes:Int
 deriving DecidableEq,Inhabited
def YG.g (x:YG):aA PV:=[bv x.started,i64 x.body,i64 x.used,i64 x.ending,bv x.ended,i64 x.passes]
structure dW where
 bR1:Int
 iX:Int
 deriving DecidableEq,Inhabited
def dW.g (x:dW):aA PV:=[i64 x.bR1,i64 x.iX]
structure aV where
 nI:Int
 fW:Int
 mH:Int
 cZ:Int
 dB:Int
 deriving DecidableEq,Inhabited
def aV.g (x:aV):aA PV:=[i64 x.nI,i64 x.fW,i64 x.mH,i64 x.cZ,i64 x.dB]
structure bA where
 c:aV
 weight:Int
 deriving DecidableEq,Inhabited
def bA.g (x:bA):aA PV:=[i64 x.c.nI,i64 x.c.fW,i64 x.c.mH,i64 x.c.cZ,i64 x.c.dB,i64 x.weight]
def lC:Qh (eA YP.g) true [.i,.i,.i,.i,.i,.i,.i]:=⟨fun _=>rfl,fun a b=>by
 cases a;cases b
 simp only[zI,eA,YP.g,i64,oQ,xH,YP.mk.injEq,bG3,aN3,and_self,aZ3]
 repeat' (first|rfl|split)
 all_goals simp_all⟩
def Wz:Qh (eA YZ.g) true [.i,.i]:=⟨fun _=>rfl,fun a b=>by
 cases a;cases b
 simp only[zI,eA,YZ.g,i64,oQ,xH,YZ.mk.injEq,bG3,aN3,and_self,aZ3]
 repeat' (first|rfl|split)
 all_goals simp_all⟩
abbrev yV:TD:=(.nd 102 13 [(5,(.nd 135 5 []))])
abbrev uZ:TD:=(.nd 57 2 [(0,(.nd 102 13 [(5,(.nd 135 5 []))])),(1,(.nd 285 4 []))])
end Go.P
namespace Go.P.K
open Go.Sim (Ex gC CK)
abbrev I {A B:Type} (f:A->B) (l:aA A):aA B:=l.map f
abbrev Q (e:fG) (h:aY):Mr:=⟨e,h⟩
abbrev rq (e:fG) (h:aY):Ex×Mr:=(.ret,⟨e,h⟩)
abbrev ck (s:Y0) (r:Int) (l:PV):aA PV:=[.v (.string s.qW),bv s.bV,.is 6 (List.map YJ.g s.bG),.is 22 (List.map YM.g s.aD),.is 7 (List.map YN.g s.cJ),.is 2 (List.map YZ.g s.nX),i64 r,l]
abbrev nq (e:fG) (h:aY):Ex×Mr:=(.normal,⟨e,h⟩)
abbrev xq (n:Nat) (e:fG) (h:aY):Ex×Mr:=(.exit n,⟨e,h⟩)
end Go.P.K
namespace Go.P.K
open Go.Sim (Ex gC CK)
abbrev t (n:Nat):PX:=.t n
abbrev c (n:Int):PX:=.c (.v (.int .i64 n))
abbrev cn:PX:=.c (.v (.slice none 0 0))
abbrev ct:PX:=.c (.v (.bool true))
abbrev cf:PX:=.c (.v (.bool false))
abbrev J (n:Int):Value:=.int .i64 n
abbrev ZS:Value:=.string ⟨#[]⟩
abbrev ZB:Value:=.bool false
abbrev ZN:Value:=.slice none 0 0
abbrev o (d:Nat) (k:gC) (xs:aA PX) (l:aA Nat) (r:jO):jO:=.op d k xs l r
abbrev m (d x:Nat) (r:jO):jO:=.op d .mov [.t x] [] r
abbrev M (d x:Nat) (r:jO):jO:=.op d .mov [.t x] [x] r
abbrev L (d x:Nat) (r:jO):jO:=.op d .loadS [.t x] [x] r
abbrev a (d k x:Nat) (r:jO):jO:=.op d (.fad k) [.t x] [] r
abbrev A (d k x:Nat) (r:jO):jO:=.op d (.fad k) [.t x] [x] r
abbrev b (d:Nat) (k:BinOp) (xs:aA PX) (l:aA Nat) (r:jO):jO:=.op d (.bin k) xs l r
abbrev f (d g:Nat) (xs:aA PX) (l:aA Nat) (r:jO):jO:=.op d (.callF g) xs l r
abbrev e (d k x:Nat) (l:aA Nat) (r:jO):jO:=.op d (.ext k) [.t x] l r
abbrev O (d:Nat) (k:gC) (x:Nat) (r:jO):jO:=.op d k [.t x] [x] r
abbrev B (d:Nat) (k:BinOp) (x:Nat) (n:Int) (r:jO):jO:=.op d (.bin k) [.t x,c n] [x] r
abbrev C (d:Nat) (k:BinOp) (x y:Nat) (r:jO):jO:=.op d (.bin k) [.t x,.t y] [x,y] r
abbrev U (d:Nat) (k:gC) (l:aA Nat) (r:jO):jO:=.op d k (l.map .t) l r
abbrev x (d g:Nat) (w:Bool) (s:jO) (y:PX) (l:aA Nat) (r:jO):jO:=.ifx d g w s y l r
abbrev R (s:jO) (q:PC):PC:=.seq (.reg s) q
abbrev z0:aA Value:=[(J 0),(J 0)]
abbrev z1:aA Value:=[(J 0),(J 0),(J 0),(J 0),(J 0)]
abbrev z2:aA Value:=[(J 0),(J 0),(J 0),(J 0),(J 0),(J 0)]
abbrev z3:aA Value:=[(J 0),(J 0),(J 0),(J 0),(J 0),(J 0),(J 0)]
abbrev z4:aA Value:=[(J 0),(J 0),(J 0),(J 0),(J 0),(J 0),(J 0),(J 0),(J 0),(J 0),(J 0),(J 0),ZB,(J 0),(J 0),(J 0),(J 0),(J 0),(J 0),ZS,ZN,ZN]
abbrev z5:aA Value:=[(J 0),(J 0),(J 0),(J 0),(J 0),ZN,ZN,(J 0),(J 0),(J 0),ZN,(J 0),(J 0)]
abbrev z6:aA Value:=[(J 0),(J 0),ZS,(J 0),(J 0),ZN]
abbrev z7:aA Value:=[ZS,ZB,ZN,ZN,ZN,ZN,(J 0),ZN]
abbrev z8:aA Value:=[ZS,ZB,ZN,ZN,ZN,ZN]
abbrev z9:aA Value:=[(J 0),(J 0),(J 0)]
abbrev z10:aA Value:=[(J 0),(J 0),(J 0),(J 0)]
abbrev z11:aA Value:=[(J 0),(J 0),(J 0),ZB,(J 0)]
abbrev z12:aA Value:=[(.map none)]
abbrev z13:aA Value:=[ZB,(J 0),(J 0),(J 0),ZB,(J 0)]
abbrev z14:aA Value:=[ZS,(.int .u8 0),(J 0),(J 0),(J 0),(J 0),(J 0)]
abbrev z15:aA Value:=[(J 0),(J 0),(J 0),(J 0),(J 0),(J 0),(J 0),(J 0),(J 0)]
abbrev z16:aA Value:=[.nilFunc,.nilFunc,.nilFunc,.nilFunc,.nilFunc,.nilFunc,.nilFunc]
abbrev z17:aA Value:=[(J 0),(J 0),ZB]
abbrev z19:aA Value:=[ZS,(.int .u8 0),(J 0),(J 0),(J 0),(J 0),(J 0),ZS,(.int .u8 0),(J 0),(J 0),(J 0),(J 0),(J 0),ZS,(.int .u8 0),(J 0),(J 0),(J 0),(J 0),(J 0),ZS,(.int .u8 0),(J 0),(J 0),(J 0),(J 0),(J 0),ZS,(.int .u8 0),(J 0),(J 0),(J 0),(J 0),(J 0),ZS,(.int .u8 0),(J 0),(J 0),(J 0),(J 0),(J 0),ZS,(.int .u8 0),(J 0),(J 0),(J 0),(J 0),(J 0),ZS,(.int .u8 0),(J 0),(J 0),(J 0),(J 0),(J 0),ZS,(.int .u8 0),(J 0),(J 0),(J 0),(J 0),(J 0)]
end Go.P.K
namespace Go.P
open Go.Sim (Ex gC CK)
def gB1:aA Nat->Go.Sim.IC->Go.Sim.IC
 |[],c=>c
 |i::p,c=>match c with
  |.seq a b=>gB1 p (bif Nat.beq i 0 then a else b)
  |.cond _ a b=>gB1 p (bif Nat.beq i 0 then a else b)
  |.block _ a=>gB1 p a
  |.loop a=>gB1 p a
  |c=>c
noncomputable def ddf (f:Nat) (p:aA Nat):Go.Sim.IC:=match Go.Proofs.Tryz.prog.funcs[f]? with
 |some fn=>match fn.body with
  |some c=>match Go.Sim.comp Go.Proofs.Tryz.prog c with
   |some ic=>gB1 p ic
   |none=>.skip
  |none=>.skip
 |none=>.skip
noncomputable section
open K
noncomputable abbrev aP (f s:Nat) (z:Bool):cO:=anF Go.Proofs.Tryz.prog f s z
def zg (l:aA cO) (i:Nat):cO:=(l[i]?).getD default
def p3:cO:=⟨100,[.tmp 6],R (O 3 (.box 27 6) 0<|o 6 .mov [cf] [6]<|.nil)<|.seq (R (f 15 5 [] [6]<|O 16 (.un .not) 15<|M 17 16<|x 21 17 false (o 18 (.loadA 6) [t 3] []<|O 19 (.callF 6) 18<|O 20 (.un .not) 19<|.nil) (t 20) [17]<|M 22 21<|x 27 22 false (a 23 2 3<|L 24 23<|O 25 (.len 0) 24<|B 26 .eql 25 0<|.nil) (t 26) [22]<|M 28 27<|x 32 28 false (o 29 (.loadA 6) [t 3] []<|f 30 7 [t 29,c 3] [29]<|B 31 .gtr 30 1000000<|.nil) (t 31) [28]<|.nil)<|.cond (t 32) (R (U 33 (.callF 5) []<|M 6 33<|.nil)<|.ret) (.skip))<|R (M 34 1<|O 35 (.convI .i64) 34<|a 36 2 3<|L 37 36<|O 38 (.len 0) 37<|C 39 .rem 35 38<|m 40 2<|O 41 (.convI .i64) 40<|B 42 .rem 41 6<|b 43 .add [c 1,t 42] [42]<|M 44 2<|O 45 (.convI .i64) 44<|B 46 .quo 45 6<|B 47 .rem 46 8<|b 48 .add [c 1,t 47] [47]<|U 49 (.build z0 [(0,1),(1,1)]) [43,48]<|U 8 (.alloc 32 z0) []<|M 7 39<|.sto (.store 2) [t 8,t 49] [49]<|.nil)<|R (o 51 (.loadA 6) [t 3] []<|m 52 7<|o 53 (.loadA 2) [t 8] []<|U 54 (.callF 8) [51,52,53]<|M 50 54<|e 55 0 50 []<|O 56 (.ext 1) 50<|M 9 55<|M 10 56<|.nil)<|R (o 57 (.loadA 6) [t 3] []<|M 58 7<|O 59 (.loadA 2) 8<|U 60 (.callF 9) [57,58,59]<|M 11 60<|.nil)<|.seq (R (M 61 10<|B 62 .neq 61 0<|M 63 62<|x 69 63 false (m 64 9<|O 65 (.len 0) 64<|m 66 11<|O 67 (.len 0) 66<|C 68 .neq 65 67<|.nil) (t 68) [63]<|.nil)<|.cond (t 69) (R (o 6 .mov [cf] []<|.nil)<|.ret) (.skip))<|.seq (R (o 12 .mov [c 0] []<|.nil)<|.block 0 (.loop [3,9,11,12] [6] (.seq (R (m 70 12<|m 71 9<|O 72 (.len 0) 71<|C 73 .lss 70 72<|.nil)<|.cond (t 73) (.skip) (.exit 0))<|.seq (.block 1 (.seq (.seq (.regD 3 (m 76 9<|m 77 12<|U 78 (.iad 5) [76,77]<|O 79 (.loadA 5) 78<|m 80 11<|m 81 12<|U 82 (.iad 5) [80,81]<|O 83 (.loadA 5) 82<|U 84 (.eqA true [.i,.i,.i,.i,.i]) [79,83]<|.nil) [0,0,3,7,0,0,48,112,255])<|.cond (t 84) (R (o 6 .mov [cf] []<|.nil)<|.ret) (.skip))<|.seq (.regD 3 (o 86 (.loadA 6) [t 3] []<|m 87 9<|m 88 12<|U 89 (.iad 5) [87,88]<|O 90 (.loadA 5) 89<|U 91 (.callF 10) [86,90]<|M 85 91<|e 92 0 85 []<|O 93 (.ext 1) 85<|M 13 92<|M 14 93<|.nil) [0,0,0,6,14,31,63,127,127,255,1023])<|R (M 94 13<|B 95 .lss 94 1<|M 96 95<|x 99 96 false (M 97 14<|B 98 .neq 97 0<|.nil) (t 98) [14,96]<|.nil)<|.cond (t 99) (R (o 6 .mov [cf] []<|.nil)<|.ret) (.skip)))<|.reg<|M 74 12<|B 75 .add 74 1<|M 12 75<|.nil)))<|R (o 6 .mov [ct] []<|.nil)<|.ret,true⟩
def pZ:PC:=.reg<|U 15 (.alloc 39 z1) []<|.sto (.store 5) [t 15,t 45] [45]<|.nil
def qA:PC:=.block 3 (.regD 3 (o 46 .loadS [t 14] []<|o 47 (.loadA 5) [t 15] []<|O 48 (.loadA 6) 3<|O 49 (.loadA 5) 15<|U 50 (.callF 28) [48,49]<|U 51 (.build z2 [(0,5),(5,1)]) [47,50]<|O 52 (.buildSl 75 6 1 z2 [0]) 51<|U 53 (.append 75 6 48 z2 false) [46,52]<|.sto (.store 1) [t 14,t 53] [14,53]<|.nil) [0,0,0,0,12,30,62,127,255])
def rV:PC:=R (M 12 33<|.nil)<|.reg<|M 13 34<|.nil
def rW:PC:=.block 1 (R (U 14 (.alloc 84 [ZN]) []<|.ownc 14 0 75 6 false<|.nil)<|.seq (R (o 35 (.loadA 6) [t 3] []<|L 36 4<|M 37 13<|m 38 12<|A 39 1 5<|L 40 39<|C 41 .sub 38 40<|U 42 .mx [37,41]<|M 43 12<|U 44 (.callF 27) [35,36,42,43]<|.nil)<|.block 2 (.rangeF 69 [3,14] (t 44) [45] pZ qA))<|.seq (R (o 54 .loadS [t 14] []<|O 55 (.len 0) 54<|B 56 .eql 55 0<|.nil)<|.cond (t 56) (.exit 1) (.skip))<|R (L 57 14<|L 58 10<|U 59 (.callF 29) [57,58]<|U 16 (.alloc 75 z2) []<|.sto (.store 6) [t 16,t 59] [59]<|.nil)<|R (a 60 5 16<|L 61 60<|B 62 .gtr 61 0<|.nil)<|.condJ [] (t 62) (.reg<|o 63 .loadS [t 11] []<|A 64 0 16<|O 65 (.loadA 5) 64<|O 66 (.buildSl 39 5 1 z1 [0]) 65<|U 67 (.append 39 5 40 z1 false) [63,66]<|.sto (.store 1) [t 11,t 67] [11,67]<|.nil) (.skip))
def p8:cO:=⟨69,[.tmp 6,.tmp 7],R (O 3 (.box 27 6) 0<|O 4 (.box 3 1) 1<|O 5 (.box 32 2) 2<|o 6 .mov [cn] [6]<|o 7 .mov [c 0] [6,7]<|.nil)<|.seq (R (o 17 (.loadA 6) [t 3] [7]<|o 18 .loadS [t 4] []<|U 19 (.callF 20) [17,18]<|M 8 19<|.nil)<|R (m 20 8<|B 21 .neq 20 0<|.nil)<|.cond (t 21) (R (M 22 8<|o 6 .mov [cn] []<|.lax 6 [some 5]<|M 7 22<|.nil)<|.ret) (.skip))<|.seq (R (o 23 (.loadA 2) [t 5] []<|O 24 (.callF 21) 23<|M 9 24<|.nil)<|R (m 25 9<|B 26 .neq 25 0<|.nil)<|.cond (t 26) (R (M 27 9<|o 6 .mov [cn] []<|.lax 6 [some 5]<|M 7 27<|.nil)<|.ret) (.skip))<|R (U 10 (.alloc 78 [.nilFunc]) []<|.sto (.store 1) [t 10,.c (.fn 22 [] [])] []<|.nil)<|R (U 11 (.alloc 33 [ZN]) []<|.ownc 11 0 39 5 false<|.nil)<|.seq (.seq (.regD 3 (o 28 (.loadA 6) [t 3] []<|o 29 .loadS [t 4] []<|U 30 (.callF 26) [28,29]<|o 31 (.loadA 2) [t 5] []<|U 32 (.callF 25) [30,31]<|.nil) [0,0,3,0,15])<|.block 0 (.rangeF 69 [3,4,5,10,11] (t 32) [33,34] rV rW))<|R (L 68 11<|M 6 68<|o 7 .mov [c 0] []<|.nil)<|.ret,true⟩
def dD:PC:=R (U 6 (.alloc 47 z3) []<|.sto (.store 7) [t 6,t 13] [13]<|.nil)<|.reg<|M 7 14<|.nil
def dE:PC:=.block 1 (.seq (.regD 3 (M 15 7<|O 16 .nilc 15<|O 17 (.loadA 2) 16<|O 18 (.loadA 2) 3<|U 19 (.eqA false [.i,.i]) [17,18]<|.nil) [0,1,3,0,15])<|.cond (t 19) (R (O 20 (.loadA 7) 6<|.sto (.store 7) [t 4,t 20] [4,20]<|.sto (.store 1) [t 5,ct] [5]<|.nil)<|.ret) (.skip))
def p13:cO:=⟨22,[.cellA 4 7,.cellS 5],R (O 2 (.box 27 6) 0<|O 3 (.box 51 2) 1<|U 4 (.alloc 47 z3) []<|U 5 (.alloc 4 [ZB]) []<|.nil)<|.seq (R (o 8 (.loadA 2) [t 3] []<|U 9 (.build z0 []) []<|U 10 (.eqA false [.i,.i]) [8,9]<|.nil)<|.cond (t 10) (R (U 11 (.build z3 []) []<|.sto (.store 7) [t 4,t 11] [11]<|.sto (.store 1) [t 5,cf] []<|.nil)<|.ret) (.skip))<|.seq (R (O 12 (.callF 42) 2<|.nil)<|.block 0 (.rangeF 22 [3,4,5] (t 12) [13,14] dD dE))<|R (U 21 (.build z3 []) []<|.sto (.store 7) [t 4,t 21] [21]<|.sto (.store 1) [t 5,cf] []<|.nil)<|.ret,true⟩
def p29:cO:=⟨33,[.cellA 4 6],R (U 4 (.alloc 75 z2) []<|.nil)<|.seq (R (m 7 0<|O 8 (.len 0) 7<|B 9 .lss 8 1<|.nil)<|.cond (t 9) (.dead (ddf 29 [1,0,1,0])) (.skip))<|R (m 11 0<|o 12 (.iad 6) [t 11,c 0] [11]<|O 13 (.loadA 6) 12<|U 5 (.alloc 75 z2) []<|.sto (.store 6) [t 5,t 13] [13]<|.nil)<|.seq (R (o 6 .mov [c 1] []<|.nil)<|.block 0 (.loop [0,1,4,5,6] [4,5] (.seq (R (m 14 6<|m 15 0<|O 16 (.len 0) 15<|C 17 .lss 14 16<|.nil)<|.cond (t 17) (.skip) (.exit 0))<|.seq (.block 1 (.seq (.regD 3 (m 20 1<|m 21 0<|m 22 6<|U 23 (.iad 6) [21,22]<|O 24 (.loadA 6) 23<|o 25 (.loadA 6) [t 5] []<|U 26 .callV [20,24,25]<|B 27 .gtr 26 0<|.nil) [0,0,0,6,14,0,63,127])<|.condJ [0,1,4,5,6] (t 27) (.reg<|m 28 0<|m 29 6<|U 30 (.iad 6) [28,29]<|O 31 (.loadA 6) 30<|.sto (.store 6) [t 5,t 31] [31]<|.nil) (.skip)))<|.reg<|M 18 6<|B 19 .add 18 1<|M 6 19<|.nil)))<|R (O 32 (.loadA 6) 5<|.sto (.store 6) [t 4,t 32] [32]<|.nil)<|.ret,true⟩
def p76:cO:=⟨86,[],R (U 8 .mkmap []<|M 2 8<|.nil)<|.seq (R (m 9 0<|O 10 .nilc 9<|A 11 0 10<|O 12 (.loadA 6) 11<|O 13 (.callF 108) 12<|o 14 (.len 0) [t 13] []<|o 15 .mov [c 0] []<|.nil)<|.block 0 (.loop [0,2,13,14,15] [0] (R (b 16 .lss [t 15,t 14] []<|.nil)<|.seq (.cond (t 16) (.skip) (.exit 0))<|.seq (.block 1 (R (o 17 (.iad 2) [t 13,t 15] []<|O 18 (.loadA 2) 17<|U 4 (.alloc 51 z0) []<|.sto (.store 2) [t 4,t 18] [18]<|.nil)<|.seq (.regD 3 (m 19 0<|o 20 (.loadA 2) [t 4] []<|O 21 (.callF 109) 20<|O 22 (.un .not) 21<|M 23 22<|x 27 23 false (m 24 2<|o 25 (.loadA 2) [t 4] []<|U 26 (.lookup true [.i,.i] (.v (.bool false)) false) [24,25]<|.nil) (t 26) [23]<|M 28 27<|x 39 28 false (a 29 1 4<|L 30 29<|m 31 0<|O 32 .nilc 31<|A 33 0 32<|O 34 (.loadA 6) 33<|a 35 0 4<|L 36 35<|U 37 (.callF 7) [34,36]<|C 38 .gtr 30 37<|.nil) (t 38) [28]<|o 40 (.loadA 2) [t 4] []<|f 41 104 [t 19,t 39,t 40] [19,39,40,41]<|.nil) [0,0,2,6,14,30,30,126,254,510,1022,2046,1022,5118,13310,29694,1022,66558,259070,524286,1048574,0,4194303])<|.reg<|o 42 .mov [t 2] [41]<|O 43 (.loadA 2) 4<|.sto (.mapup true [.i,.i]) [t 42,t 43,ct] [42,43]<|.nil))<|.reg<|B 44 .add 15 1<|M 15 44<|.nil)))<|R (o 5 .mov [cf] []<|.nil)<|.seq (R (m 45 0<|O 46 .nilc 45<|A 47 0 46<|A 48 5 47<|L 49 48<|o 50 (.len 0) [t 49] []<|o 51 .mov [c 0] []<|.nil)<|.block 2 (.loop [0,5,49,50,51] [0,5] (R (b 52 .lss [t 51,t 50] []<|.nil)<|.seq (.cond (t 52) (.skip) (.exit 2))<|.seq (.block 3 (R (m 53 51<|o 54 (.iad 2) [t 49,t 51] []<|O 55 (.loadA 2) 54<|U 7 (.alloc 51 z0) []<|M 6 53<|.sto (.store 2) [t 7,t 55] [55]<|.nil)<|.regD 3 (M 56 5<|M 57 56<|x 61 57 false (o 58 (.loadA 2) [t 7] []<|O 59 (.callF 109) 58<|O 60 (.un .not) 59<|.nil) (t 60) [57]<|M 62 61<|x 80 62 false (m 63 6<|B 64 .gtr 63 0<|M 65 64<|x 79 65 true (A 66 0 7<|L 67 66<|m 68 0<|O 69 .nilc 68<|A 70 0 69<|A 71 5 70<|L 72 71<|M 73 6<|B 74 .sub 73 1<|U 75 (.iad 2) [72,74]<|A 76 0 75<|L 77 76<|C 78 .leq 67 77<|.nil) (t 78) [6,7,65]<|.nil) (t 79) [6,7,62]<|M 5 80<|.nil) [0,1,3,7,15,31,63,127,255,511,1023,2047,1023,5119,13311,29695,62463,1023,132095,521215,1045503,2094079,4194303,8388607,16777215,33554431]))<|.reg<|B 81 .add 51 1<|M 51 81<|.nil)))<|.reg<|M 82 0<|M 83 5<|U 84 (.build z0 []) []<|f 85 104 [t 82,t 83,t 84] [82,83,84,85]<|.nil,true⟩
def eK:PC:=.reg<|M 5 8<|.nil
def eL:PC:=.block 1 (.regD 3 (o 9 .loadS [t 3] []<|M 10 5<|O 11 .nilc 10<|O 12 (.loadA 2) 11<|O 13 (.buildSl 51 2 1 z0 [0]) 12<|U 14 (.append 51 2 16 z0 false) [9,13]<|.sto (.store 1) [t 3,t 14] [3,14]<|.nil) [0,0,2,6,14,31,63])
def lH2:cO:=⟨16,[.tmp 2],R (O 1 (.box 27 6) 0<|o 2 .mov [cn] [2]<|.nil)<|R (o 3 (.alloc 25 [ZN]) [] [2]<|.ownc 3 0 51 2 false<|.nil)<|.seq (R (O 6 (.callF 42) 1<|.nil)<|.block 0 (.rangeF 16 [3] (t 6) [7,8] eK eL))<|R (L 15 3<|M 2 15<|.nil)<|.ret,true⟩
def lI2:cO:=⟨55,[.tmp 5],R (O 4 (.box 68 22) 1<|o 5 .mov [cf] [5]<|.nil)<|R (o 12 (.loadA 22) [t 4] [5]<|O 13 (.callF 114) 12<|M 11 13<|e 14 0 11 []<|O 15 (.ext 1) 11<|o 6 .mov [t 14] [6,14]<|o 7 .mov [t 15] [6,15]<|.nil)<|R (M 16 7<|B 17 .neq 16 0<|M 18 17<|x 23 18 false (a 19 11 4<|L 20 19<|f 21 106 [t 20,c (-7),c 7] [20]<|O 22 (.un .not) 21<|.nil) (t 22) [18]<|M 8 23<|.nil)<|.seq (R (o 24 .loadS [t 2] []<|O 25 .nilc 24<|A 26 0 25<|A 27 2 26<|L 28 27<|o 29 (.len 0) [t 28] []<|o 30 .mov [c 0] []<|.nil)<|.block 0 (.loop [2,4,8,28,29,30] [8] (R (b 31 .lss [t 30,t 29] []<|.nil)<|.seq (.cond (t 31) (.skip) (.exit 0))<|.seq (.block 1 (R (o 32 (.iad 6) [t 28,t 30] []<|O 33 (.loadA 6) 32<|U 10 (.alloc 109 z6) []<|.sto (.store 6) [t 10,t 33] [33]<|.nil)<|R (o 34 .loadS [t 2] []<|O 35 .nilc 34<|A 36 0 35<|A 37 1 36<|L 38 37<|M 39 38<|x 42 39 true (m 40 8<|O 41 (.un .not) 40<|.nil) (t 41) [39]<|.nil)<|.condJ [2,4,8,28,29,30] (t 42) (R (a 44 11 4<|L 45 44<|A 46 3 10<|O 47 (.loadA 2) 46<|U 48 (.callF 116) [45,47]<|M 43 48<|e 49 0 43 [49]<|e 50 1 43 [43,49]<|M 7 50<|.nil)<|.reg<|M 51 7<|B 52 .neq 51 0<|M 8 52<|.nil) (.skip)))<|.reg<|B 53 .add 30 1<|M 30 53<|.nil)))<|R (M 54 8<|M 5 54<|.nil)<|.ret,true⟩
def bE2:cO:=⟨108,[],R (U 10 (.alloc 166 [ZS,(J 0)]) []<|.nil)<|R (U 11 (.alloc 47 z3) []<|.nil)<|.seq (R (M 18 0<|O 19 .nilc 18<|A 20 0 19<|A 21 3 20<|L 22 21<|o 23 (.len 0) [t 22] []<|o 24 .mov [c 0] []<|.nil)<|.block 0 (.loop [1,2,3,4,10,11,22,23,24] [4,10,11] (R (b 25 .lss [t 24,t 23] []<|.nil)<|.seq (.cond (t 25) (.skip) (.exit 0))<|.seq (.block 1 (R (m 26 24<|o 27 (.iad 22) [t 22,t 24] []<|O 28 (.loadA 22) 27<|U 13 (.alloc 68 z4) []<|M 12 26<|.sto (.store 22) [t 13,t 28] [28]<|.nil)<|.seq (R (m 29 1<|a 30 21 13<|L 31 30<|O 32 (.len 0) 31<|C 33 .geq 29 32<|M 34 33<|x 44 34 false (m 35 2<|a 36 21 13<|L 37 36<|m 38 1<|U 39 (.iad 2) [37,38]<|A 40 1 39<|L 41 40<|O 42 (.len 0) 41<|C 43 .geq 35 42<|.nil) (t 43) [34]<|.nil)<|.cond (t 44) (.exit 1) (.skip))<|R (A 45 21 13<|L 46 45<|m 47 1<|U 48 (.iad 2) [46,47]<|A 49 1 48<|L 50 49<|m 51 2<|U 52 (.iad 2) [50,51]<|A 53 0 52<|L 54 53<|o 55 (.len 0) [t 54] []<|o 56 .mov [c 0] []<|.nil)<|.block 2 (.loop [1,2,3,4,10,11,12,22,23,24,54,55,56] [1,2,3,4,10,11,22,23,24] (R (b 57 .lss [t 56,t 55] []<|.nil)<|.seq (.cond (t 57) (.skip) (.exit 2))<|.seq (.block 3 (R (m 58 56<|o 59 (.iad 13) [t 54,t 56] []<|O 60 (.loadA 13) 59<|U 15 (.alloc 102 z5) []<|M 14 58<|.sto (.store 13) [t 15,t 60] [60]<|.nil)<|.seq (R (o 61 (.loadA 13) [t 15] []<|m 62 3<|U 63 (.callF 189) [61,62]<|.nil)<|.cond (t 63) (.exit 3) (.skip))<|.seq (.regX 3 (m 64 1<|m 65 12<|m 66 2<|M 67 14<|o 68 (.build z3 [(0,1),(2,1),(3,1),(4,1),(5,1)]) [c 4,t 64,t 65,t 66,t 67] [64,65,66,67]<|A 69 10 15<|o 70 .loadS [t 69] []<|m 71 3<|U 72 (.iad 2) [70,71]<|o 73 (.loadA 2) [t 72] []<|U 16 (.alloc 47 z3) []<|U 17 (.alloc 166 [ZS,(J 0)]) []<|.sto (.store 7) [t 16,t 68] [68]<|.sto (.store 2) [t 17,t 73] [73]<|.nil) [0,0,0,0,15,0,32,0,224,480,0,0,3103,8191] [(6,12,69,16),(9,12,72,16)])<|.seq (R (a 74 1 10<|L 75 74<|B 76 .eql 75 1<|M 77 76<|x 81 77 true (a 78 0 17<|L 79 78<|b 80 .eql [t 79,.c (.v (.string ⟨#[]⟩))] [79]<|.nil) (t 80) [77]<|.nil)<|.condJ [1,2,3,4,10,11,12,16,17,22,23,24,54,55,56] (t 81) (.reg<|m 82 4<|o 83 (.loadA 7) [t 11] []<|.sto (.mapup true [.i,.i,.i,.i,.i,.i,.i]) [t 82,t 83,ct] [82,83]<|.nil) (.skip))<|.seq (R (a 84 0 17<|L 85 84<|b 86 .eql [t 85,.c (.v (.string ⟨#[]⟩))] [85]<|M 87 86<|x 91 87 true (a 88 1 17<|L 89 88<|B 90 .eql 89 2<|.nil) (t 90) [87]<|M 92 91<|x 96 92 true (a 93 1 10<|L 94 93<|B 95 .neq 94 2<|.nil) (t 95) [92]<|.nil)<|.condJ [1,2,3,4,10,11,12,16,17,22,23,24,54,55,56] (t 96) (.reg<|m 97 4<|o 98 (.loadA 7) [t 16] []<|.sto (.mapup true [.i,.i,.i,.i,.i,.i,.i]) [t 97,t 98,ct] [97,98]<|.nil) (.skip))<|.regX 3 (O 99 (.loadA 2) 17<|o 100 (.loadA 7) [t 16] []<|.sto (.store 2) [t 10,t 99] [99]<|.sto (.store 7) [t 11,t 100] [100]<|.nil) [0,0,1,7] [(1,2,16,10)]))<|.reg<|B 101 .add 56 1<|M 56 101<|.nil))))<|.reg<|B 102 .add 24 1<|M 24 102<|.nil)))<|R (A 103 1 10<|L 104 103<|B 105 .eql 104 1<|.nil)<|.condJ [] (t 105) (.reg<|M 106 4<|O 107 (.loadA 7) 11<|.sto (.mapup true [.i,.i,.i,.i,.i,.i,.i]) [t 106,t 107,ct] [106,107]<|.nil) (.skip),true⟩
def lJ2:cO:=⟨9,[.tmp 5],R (O 3 (.box 47 7) 0<|o 4 (.box 102 13) [t 1] [1,4]<|o 5 .mov [cf] [4,5]<|.nil)<|R (o 6 .loadS [t 2] [2,5]<|O 7 (.loadA 7) 3<|U 8 (.lookup true [.i,.i,.i,.i,.i,.i,.i] (.v (.bool false)) false) [6,7]<|M 5 8<|.nil)<|.ret,true⟩
def lK2:cO:=⟨33,[.cellA 4 3],R (U 4 (.alloc 133 z9) []<|.nil)<|.seq (R (m 7 0<|O 8 (.len 0) 7<|B 9 .lss 8 1<|.nil)<|.cond (t 9) (.dead (ddf 155 [1,0,1,0])) (.skip))<|R (m 11 0<|o 12 (.iad 3) [t 11,c 0] [11]<|O 13 (.loadA 3) 12<|U 5 (.alloc 133 z9) []<|.sto (.store 3) [t 5,t 13] [13]<|.nil)<|.seq (R (o 6 .mov [c 1] []<|.nil)<|.block 0 (.loop [0,1,4,5,6] [4,5] (.seq (R (m 14 6<|m 15 0<|O 16 (.len 0) 15<|C 17 .lss 14 16<|.nil)<|.cond (t 17) (.skip) (.exit 0))<|.seq (.block 1 (.seq (.regD 3 (m 20 1<|m 21 0<|m 22 6<|U 23 (.iad 3) [21,22]<|O 24 (.loadA 3) 23<|o 25 (.loadA 3) [t 5] []<|U 26 .callV [20,24,25]<|B 27 .lss 26 0<|.nil) [0,0,0,6,14,0,63,127])<|.condJ [0,1,4,5,6] (t 27) (.reg<|m 28 0<|m 29 6<|U 30 (.iad 3) [28,29]<|O 31 (.loadA 3) 30<|.sto (.store 3) [t 5,t 31] [31]<|.nil) (.skip)))<|.reg<|M 18 6<|B 19 .add 18 1<|M 6 19<|.nil)))<|R (O 32 (.loadA 3) 5<|.sto (.store 3) [t 4,t 32] [32]<|.nil)<|.ret,true⟩
def lL2:cO:=⟨73,[.tmp 4],R (O 2 (.box 102 13) 0<|O 3 (.box 102 13) 1<|o 4 .mov [cf] [4]<|.nil)<|R (o 5 (.fad 2) [t 2] [4]<|L 6 5<|a 7 2 3<|L 8 7<|C 9 .eql 6 8<|M 10 9<|x 16 10 true (a 11 3 2<|O 12 (.loadA 2) 11<|a 13 3 3<|O 14 (.loadA 2) 13<|U 15 (.eqA false [.i,.i]) [12,14]<|.nil) (t 15) [10]<|M 17 16<|x 23 17 true (a 18 7 2<|L 19 18<|a 20 7 3<|L 21 20<|C 22 .eql 19 21<|.nil) (t 22) [17]<|M 24 23<|x 30 24 true (a 25 8 2<|L 26 25<|a 27 8 3<|L 28 27<|C 29 .eql 26 28<|.nil) (t 29) [24]<|M 31 30<|x 37 31 true (a 32 9 2<|L 33 32<|a 34 9 3<|L 35 34<|C 36 .eql 33 35<|.nil) (t 36) [31]<|M 38 37<|x 44 38 true (a 39 11 2<|L 40 39<|a 41 11 3<|L 42 41<|C 43 .eql 40 42<|.nil) (t 43) [38]<|M 45 44<|x 51 45 true (a 46 12 2<|L 47 46<|a 48 12 3<|L 49 48<|C 50 .eql 47 49<|.nil) (t 50) [45]<|M 52 51<|x 58 52 true (a 53 5 2<|L 54 53<|a 55 5 3<|L 56 55<|U 57 (.callF 217) [54,56]<|.nil) (t 57) [52]<|M 59 58<|x 65 59 true (a 60 6 2<|L 61 60<|a 62 6 3<|L 63 62<|U 64 (.callF 218) [61,63]<|.nil) (t 64) [59]<|M 66 65<|x 72 66 true (A 67 10 2<|L 68 67<|A 69 10 3<|L 70 69<|U 71 (.callF 219) [68,70]<|.nil) (t 71) [2,3,66]<|M 4 72<|.nil)<|.ret,true⟩
def lM2:cO:=⟨9,[.tmp 3],R (O 2 (.box 135 5) 0<|o 3 .mov [cf] [3]<|.nil)<|R (o 4 (.fad 0) [t 2] [2,3]<|O 5 (.loadA 3) 4<|A 6 0 1<|O 7 (.loadA 3) 6<|U 8 (.eqA false [.i,.i,.i]) [5,7]<|M 3 8<|.nil)<|.ret,true⟩
def lN2:cO:=⟨19,[.tmp 4],R (O 2 (.box 102 13) 0<|o 4 .mov [cf] [4]<|.nil)<|R (o 5 .mov [t 1] [4]<|a 6 10 2<|L 7 6<|O 8 (.len 0) 7<|C 9 .geq 5 8<|M 10 9<|x 18 10 false (A 11 10 2<|L 12 11<|M 13 1<|U 14 (.iad 2) [12,13]<|O 15 (.loadA 2) 14<|U 16 (.build [ZS,(J 0)] []) []<|U 17 (.eqA false [.s,.i]) [15,16]<|.nil) (t 17) [1,2,10]<|M 4 18<|.nil)<|.ret,true⟩
def lO2:cO:=⟨26,[.tmp 4],R (o 4 .mov [cf] [4]<|.nil)<|.seq (R (o 6 .mov [t 0] [4]<|O 7 (.len 0) 6<|m 8 1<|O 9 (.len 0) 8<|C 10 .neq 7 9<|.nil)<|.cond (t 10) (R (o 4 .mov [cf] []<|.nil)<|.ret) (.skip))<|.seq (R (m 11 0<|O 12 (.len 0) 11<|o 13 .mov [c 0] []<|.nil)<|.block 0 (.loop [0,1,12,13] [4] (R (b 14 .lss [t 13,t 12] []<|.nil)<|.seq (.cond (t 14) (.skip) (.exit 0))<|.seq (.block 1 (R (m 15 13<|M 5 15<|.nil)<|.seq (.regD 3 (m 16 0<|m 17 5<|U 18 (.iad 5) [16,17]<|O 19 (.loadA 5) 18<|m 20 1<|M 21 5<|U 22 (.iad 5) [20,21]<|O 23 (.loadA 5) 22<|U 24 (.eqA true [.i,.i,.i,.b,.i]) [19,23]<|.nil) [0,0,3,7,0,0,48,112,255])<|.cond (t 24) (R (o 4 .mov [cf] []<|.nil)<|.ret) (.skip)))<|.reg<|B 25 .add 13 1<|M 13 25<|.nil)))<|R (o 4 .mov [ct] []<|.nil)<|.ret,true⟩
def lP2:cO:=⟨26,[.tmp 4],R (o 4 .mov [cf] [4]<|.nil)<|.seq (R (o 6 .mov [t 0] [4]<|O 7 (.len 0) 6<|m 8 1<|O 9 (.len 0) 8<|C 10 .neq 7 9<|.nil)<|.cond (t 10) (R (o 4 .mov [cf] []<|.nil)<|.ret) (.skip))<|.seq (R (m 11 0<|O 12 (.len 0) 11<|o 13 .mov [c 0] []<|.nil)<|.block 0 (.loop [0,1,12,13] [4] (R (b 14 .lss [t 13,t 12] []<|.nil)<|.seq (.cond (t 14) (.skip) (.exit 0))<|.seq (.block 1 (R (m 15 13<|M 5 15<|.nil)<|.seq (.regD 3 (m 16 0<|m 17 5<|U 18 (.iad 5) [16,17]<|O 19 (.loadA 5) 18<|m 20 1<|M 21 5<|U 22 (.iad 5) [20,21]<|O 23 (.loadA 5) 22<|U 24 (.eqA true [.i,.i,.i,.i,.b]) [19,23]<|.nil) [0,0,3,7,0,0,48,112,255])<|.cond (t 24) (R (o 4 .mov [cf] []<|.nil)<|.ret) (.skip)))<|.reg<|B 25 .add 13 1<|M 13 25<|.nil)))<|R (o 4 .mov [ct] []<|.nil)<|.ret,true⟩
def lQ2:cO:=⟨26,[.tmp 4],R (o 4 .mov [cf] [4]<|.nil)<|.seq (R (o 6 .mov [t 0] [4]<|O 7 (.len 0) 6<|m 8 1<|O 9 (.len 0) 8<|C 10 .neq 7 9<|.nil)<|.cond (t 10) (R (o 4 .mov [cf] []<|.nil)<|.ret) (.skip))<|.seq (R (m 11 0<|O 12 (.len 0) 11<|o 13 .mov [c 0] []<|.nil)<|.block 0 (.loop [0,1,12,13] [4] (R (b 14 .lss [t 13,t 12] []<|.nil)<|.seq (.cond (t 14) (.skip) (.exit 0))<|.seq (.block 1 (R (m 15 13<|M 5 15<|.nil)<|.seq (.regD 3 (m 16 0<|m 17 5<|U 18 (.iad 2) [16,17]<|O 19 (.loadA 2) 18<|m 20 1<|M 21 5<|U 22 (.iad 2) [20,21]<|O 23 (.loadA 2) 22<|U 24 (.eqA true [.s,.i]) [19,23]<|.nil) [0,0,3,7,0,0,48,112,255])<|.cond (t 24) (R (o 4 .mov [cf] []<|.nil)<|.ret) (.skip)))<|.reg<|B 25 .add 13 1<|M 13 25<|.nil)))<|R (o 4 .mov [ct] []<|.nil)<|.ret,true⟩
def lR2:cO:=⟨6,[.tmp 2],R (O 1 (.box 166 2) 0<|o 2 .mov [cf] [2]<|.nil)<|R (o 3 (.loadA 2) [t 1] [1,2]<|U 4 (.build [ZS,(J 0)] []) []<|U 5 (.eqA false [.s,.i]) [3,4]<|M 2 5<|.nil)<|.ret,true⟩
def bF2:cO:=⟨148,[],R (o 10 .mov [ct] [10]<|.nil)<|R (o 11 .mov [ct] [10,11]<|.nil)<|.block 0 (.loop [0,1,2,4] [] (.block 1 (R (m 21 2<|m 22 1<|C 23 .sub 21 22<|M 12 23<|.nil)<|.seq (R (M 24 12<|B 25 .leq 24 12<|.nil)<|.cond (t 25) (R (M 26 0<|M 27 1<|M 28 2<|M 29 4<|f 30 244 [t 26,t 27,t 28,t 29] [26,27,28,29,30]<|.nil)<|.ret) (.skip))<|.dead (ddf 235 [1,1,0,0,0,1,1])))),true⟩
def lS2:cO:=⟨50,[.tmp 2],R (O 1 (.box 64 8) 0<|o 2 .mov [cf] [2]<|.nil)<|.seq (R (o 7 (.fad 2) [t 1] [2]<|O 8 (.loadA 6) 7<|U 9 (.build z2 []) []<|U 10 (.eqA false [.i,.i,.i,.i,.i,.i]) [8,9]<|.nil)<|.cond (t 10) (R (o 2 .mov [ct] []<|.nil)<|.ret) (.skip))<|R (o 3 .mov [c 0] []<|o 4 .mov [c 0] []<|.nil)<|.seq (R (a 11 2 1<|O 12 (.loadA 6) 11<|o 13 .mov [c 0] []<|.nil)<|.block 0 (.loop [1,3,4,12,13] [1,2,3,4] (R (b 14 .lss [t 13,c 6] []<|.nil)<|.seq (.cond (t 14) (.skip) (.exit 0))<|.seq (.block 1 (R (m 15 13<|o 16 (.idxA 6 1 false) [t 12,t 13] []<|M 5 15<|M 6 16<|.nil)<|.block 2 (R (m 18 6<|B 19 .lss 18 0<|M 20 19<|x 23 20 false (m 21 6<|B 22 .gtr 21 64<|.nil) (t 22) [20]<|M 24 23<|x 32 24 false (m 25 6<|B 26 .gtr 25 0<|M 27 26<|x 31 27 true (M 28 5<|m 29 4<|C 30 .neq 28 29<|.nil) (t 30) [5,27]<|.nil) (t 31) [5,24]<|M 17 32<|.nil)<|.cond (t 17) (R (o 2 .mov [cf] []<|.nil)<|.ret) (R (m 34 6<|B 35 .gtr 34 0<|M 33 35<|.nil)<|.condJ [1,3,4,12,13] (t 33) (.reg<|M 36 3<|M 37 6<|C 38 .add 36 37<|M 39 4<|B 40 .add 39 1<|M 3 38<|M 4 40<|.nil) (.skip)))))<|.reg<|B 41 .add 13 1<|M 13 41<|.nil)))<|R (M 42 3<|A 43 0 1<|L 44 43<|C 45 .eql 42 44<|M 46 45<|x 49 46 true (M 47 4<|B 48 .geq 47 2<|.nil) (t 48) [4,46]<|M 2 49<|.nil)<|.ret,true⟩
def Ce:{l:aA cO//l=[aP 6 0x151221125112122121 true,aP 7 0x11111010101d1201000411a191814000142224121 true,aP 9 0x111111111118753151111111110119c12110031d1c1b1a191875311a11101005511001891201000000101c1b1a19187531191d1c1b1a191875311a00011001b1a18753171c1b1a191875311900069120011101110005511111000651101918753161918753160100111000001110071187531500054f7051612461211 true,aP 10 0x1111101010110512542241211 true,aP 18 0x12cb122111145111110451111104511111045111101111111110011025110011111101110101111110111010130011110111010011111010018764321719187643170000111111010185111111010011100643215187643160000111104511111045111105e1201101001110021264314001110011111101018511111101001110043214543140002122121 true,aP 19 0x111121222121 true,aP 20 0x1a2132111115511000114124121 true,aP 21 0x2812211135111103511110351112122121 true,aP 22 0x111111111111101101101412341211 true,aP 23 0x1111110100110003221876340001212212 true,aP 24 0x1110010000100010111011412412 true,aP 25 0x14323241211 true,aP 26 0x1111116f6e221681a22111005511100001000382f2e752174f4e382f2e191875211b00111101011003c12101000071382f2e752170001012b1211612286221101104124121 true,aP 27 0x11876545218121111 true,aP 28 0x111111111013e3d3c2e2d2c1871811114912010002e2d2c743e3d3c2e2d2c18718000113a121010000712e2d2c740001000111110111422241211 true,aP 30 0x1110011000010018119421401110001100351100181218121 true,aP 31 0x1110011100110100111110100611973215018121f18221101106126121 true,aP 32 0x11111111111c1201000311918734000112122121 true,aP 33 0x17b5332111145111786226f62211001110100111035111103511111010651111010551111035111110106511141241211 true,aP 34 0x11111111111011918754111110111000111110001875319187540001100711875300000111110111422241211 true,aP 35 0x1111001141241211 true,aP 42 0x121222121 true,aP 52 0x16d122111145111101111110011111010011100321354314000011110451111104511110291201101001110021231202122121 true,aP 53 0x1111111111111101110101011111010043135431400011100314313002122121 true]}:=by
 apply Subtype.mk
 conv=>rhs;reduce
def p6:cO:=zg Ce.1 0
def p7:cO:=zg Ce.1 1
def p9:cO:=zg Ce.1 2
def p10:cO:=zg Ce.1 3
def p18:cO:=zg Ce.1 4
def p19:cO:=zg Ce.1 5
def p20:cO:=zg Ce.1 6
def p21:cO:=zg Ce.1 7
def p22:cO:=zg Ce.1 8
def p23:cO:=zg Ce.1 9
def p24:cO:=zg Ce.1 10
def p25:cO:=zg Ce.1 11
def p26:cO:=zg Ce.1 12
def p27:cO:=zg Ce.1 13
def p28:cO:=zg Ce.1 14
def p30:cO:=zg Ce.1 15
def p31:cO:=zg Ce.1 16
def p32:cO:=zg Ce.1 17
def p33:cO:=zg Ce.1 18
def p34:cO:=zg Ce.1 19
def p35:cO:=zg Ce.1 20
def p42:cO:=zg Ce.1 21
def p52:cO:=zg Ce.1 22
def p53:cO:=zg Ce.1 23
def Cf:{l:aA cO//l=[aP 54 0x1111111b85f221b81af2210111111111101851111101f51111102e51111110786e221111011100205f5e5d342a100115b594f4d4b493f3d3b392f2d2b291f1d1b29310101010101010101010101010101010101032dc71966114121222121 true,aP 55 0x111212212 true,aP 56 0x1111122d42211100561110100011110000019187420600010 true,aP 57 0x1111111000111100551151254224121 true,aP 58 0x1111111110011110055114124121 true,aP 59 0x111123a182211104611002e12011000010001b1a4321071e1b1a6432101900100001b1a4321070010 true,aP 60 0x17b5332111145111786226f62211001110100111035111103511111010651111010551111035111110106511141241211 true,aP 61 0x11111113ca3c8291d1c6321a191044bd10528f511d1ce022791f3c9171111113bd3bb22111154210245310403ac3a2211014511110045113b392239b3b22110110138d121011002bf2be28c28b39382f2d2c2b29281d1c6322911002fe120111011102bf2be28c28b2f2d2c2b29281d1c6321f111111006511110011101110512cc181101000028c28b2b29281d1c654321c2bf2be28c28b2d2c2b29281d1c6321e0010512bc1811002b92b822121a1d2b8185561d2b81852140512ae18110111011100311010102b29281d1c632181002b29281d1c654321a28c28b2b29281d1c6321a2011002881201111011110150024531040011111100751111111101111001d511101111100311110100011002854329281d1c63270110044bd10528f511d1ce02279028192a0279280520418d121002453104011011891201011111110131110100110691201111011a125a1a1932591922110011107124a72211011105125422412110f true,aP 62 0x11111111011110111002a12101000065431e1d1c140001100001612652254224121 true,aP 63 0x11111113f83ee1d1c1b6321a191044bd10528f511d1ce022791f3ef17111113ed3ec22013eb3e9281f1e1d1c1b64321a1d10528f511d1ce73ea171101113df3de220111100245310403cc392e32111145111100451111110111013ad3aa22011102453104039e38221125110139a120101101001011111101002fa120111025111101011101030111002a281f1e1d1c1b654321c2c2b2a29281f1e1d1c1b64321e0011111111101001b511110021a2a74562a740528f52a6632a812401101029b1201101111010011111101001f1d1c1b6543219281f1e1d1c1b64321a000528f511d1ce11f191a01d1ce01f6621ed12401111110100024531040111111101019511111010651111110111010019c12011101110103011005421d1c1b643270110017912010111111101111011a123591a193258192211001110712497221101110512512044bd10528f511d1ce0227904192a027940520411 true,aP 69 0x112111111110100100002cf2ce104001111011111111211111111011101110111010000010001dc1db1bc1bb18c18b76101a2881ff1dc1db1bc1bb18c18b1876101d001111011101110111010001bc1bb18c18b61071dc1db1bc1bb18c18b76101a001111011101110100018c18b1041bc1bb18c18b6107001111011102111101110100100010218c18b10400111101111111211111111011101001000281f3105584f281f4310180011110111021111011101001000102281f310500111100 true,aP 75 0x2be2bd2bc1df4202ac022111111175111111110751111111110185111111111018511111110011dd69221dd1dc1da1d9421110111111c91a2211114511111045111b9120100018a18918869685f650191ae1ad1ac18a18918869685f6501c0001111111045111110451118d120100069685f650618a18918869685f650190001011111045111106c12010000169685f04000111101592922059584e2d4211111104511111105511110032c12010000129281f0400011110 true,aP 77 0x1a19183211712011110 true,aP 78 0x4a492211113e2b2203e3d3b2f42111110032e12010001c1b1a042b2a291c1b1a07000111f1201000011c1b1a0400011110 true,aP 79 0x43232101 true,aP 80 0x32221 true,aP 81 0x32221 true,aP 82 0x32221 true,aP 83 0x43232101 true,aP 84 0x43232101 true,aP 85 0x4a49483211111113c2c223c3b3a39382f62010001000291e1d42062c291e1d5420180010001e1d204291e1d42060010002021e1d20400111111071200 true,aP 86 0x13d292203d3c3a2e42111110032d121010000029281f305000111101a2221922210110 true,aP 87 0x17c2b227c7b7978421110111011111001100195111100301102511111005511002b2a2965320182b2a2976543201a0002f12101000002b2a293206000111101110110 true,aP 88 0x19f19e7f7e4211111111111111010316c32278322111351110185111103511015b3c225b5a583211101114c121011003f12010003023c3b3a3050001111412412001111111e121e1d220111110 true]}:=by
 apply Subtype.mk
 conv=>rhs;reduce
def p54:cO:=zg Cf.1 0
def p55:cO:=zg Cf.1 1
def p56:cO:=zg Cf.1 2
def p57:cO:=zg Cf.1 3
def p58:cO:=zg Cf.1 4
def p59:cO:=zg Cf.1 5
def p60:cO:=zg Cf.1 6
def p61:cO:=zg Cf.1 7
def p62:cO:=zg Cf.1 8
def p63:cO:=zg Cf.1 9
def p69:cO:=zg Cf.1 10
def p75:cO:=zg Cf.1 11
def p77:cO:=zg Cf.1 12
def p78:cO:=zg Cf.1 13
def p79:cO:=zg Cf.1 14
def p80:cO:=zg Cf.1 15
def p81:cO:=zg Cf.1 16
def p82:cO:=zg Cf.1 17
def p83:cO:=zg Cf.1 18
def p84:cO:=zg Cf.1 19
def p85:cO:=zg Cf.1 20
def p86:cO:=zg Cf.1 21
def p87:cO:=zg Cf.1 22
def p88:cO:=zg Cf.1 23
def Cg:{l:aA cO//l=[aP 89 0x43232101 true,aP 90 0x32221 true,aP 91 0x43232101 true,aP 92 0x11114022412 true,aP 93 0x11121222121 true,aP 94 0x11114022412 true,aP 95 0x161221111451112122121 true,aP 96 0x12d121011111110101101512512011 true,aP 97 0x3b1213a39220111101102b2a2201291e191873211a1910528f511d1ce72817111051c1201000321319187321600010044bd13660528f511d1ce13191a01d1ce036630401 true,aP 98 0x4a121113f120113d1210010111011112c1210010111f1201001115222512011 true,aP 99 0x1111010101131232222121 true,aP 104 0x2d2b2211111111111110030111 true,aP 105 0x17303211111551110212212 true,aP 106 0x11a203211135111612612 true,aP 107 0x2812211135111103511110351112122121 true,aP 109 0x16122111351112122121 true,aP 110 0x1381c220382f2d2942111010032812101000001c1b1a10500011110 true,aP 111 0x11111117a1b227f1b22111145111101a5117812010002c2b2a646d6c6b2c2b2a6700011111111110019511111110651111035111112f1201000612c2b2a6400011111115125121 true,aP 112 0x1111010112022212 true,aP 113 0x118a6221125111111015f1b1a326a1b1a3211111110111a51101e51111101065111110451133f1210100002c2b2a76563b3a392c2b2a197651a000102f12010007622c2b2a76560001101110114124121 true,aP 114 0x110001100001110111411111000011101010110111011131232222121 true,aP 116 0x11111010010101110100101011111111010001110351111035111103511101010101151254224121 true,aP 117 0x65432111 true,aP 118 0x15022112511212212 true]}:=by
 apply Subtype.mk
 conv=>rhs;reduce
def p89:cO:=zg Cg.1 0
def p90:cO:=zg Cg.1 1
def p91:cO:=zg Cg.1 2
def p92:cO:=zg Cg.1 3
def p93:cO:=zg Cg.1 4
def p94:cO:=zg Cg.1 5
def p95:cO:=zg Cg.1 6
def p96:cO:=zg Cg.1 7
def p97:cO:=zg Cg.1 8
def p98:cO:=zg Cg.1 9
def p99:cO:=zg Cg.1 10
def bG2:cO:=zg Cg.1 11
def lZ2:cO:=zg Cg.1 12
def mA2:cO:=zg Cg.1 13
def mB2:cO:=zg Cg.1 14
def mC2:cO:=zg Cg.1 15
def Lk:cO:=zg Cg.1 16
def mD2:cO:=zg Cg.1 17
def mE2:cO:=zg Cg.1 18
def mF2:cO:=zg Cg.1 19
def mG2:cO:=zg Cg.1 20
def mH2:cO:=zg Cg.1 21
def wW1:cO:=zg Cg.1 22
def mI2:cO:=zg Cg.1 23
def Ch:{l:aA cO//l=[aP 119 0x150221113511212212 true,aP 120 0x11111117a5a2207a796f5f421110110000035e1210100004a49483a39382a292864101d5a59584a49483a39382a292818641029000114e1210100003a39382a2928410194a49483a39382a292864101d000113e1210100002a29281053a39382a292841019000112e12101000002a292810500011110 true,aP 121 0x111432241221222022 true,aP 122 0x1111111101101101103110100111110110110301100011110451110000111003001110110100111111011121232121 true,aP 123 0x1691a432111145110105c12015b12106421111114c121111111110642311103818222f1822110011111110300001151251211 true,aP 124 0x1111154221a5221101132223121 true,aP 125 0x11114022412 true,aP 126 0x111131223121 true,aP 127 0x11114022412 true,aP 128 0x111131223121 true,aP 129 0x14918432111145111972203e19223d1201011111113012c1201011111103001151251211 true,aP 130 0x16122111351112122121 true,aP 131 0x6d12006c1211110110011110101101049121111101010001111010100110301a1200110512512011 true,aP 132 0x3a1211111110101015121a474564745547431c12410010110512512011 true,aP 133 0x11002b62212f62211104511101a5110281201000411d1c1b3400011001141241211 true,aP 136 0x11111111116d1c22111351691b22112511111101591201111114b120101110013c12010111002e12010005422b2a295406000111100145051040193ca405131243222212 true,aP 137 0x11111111032a1201110000000011041241211 true,aP 138 0x11e322111145111110451114124121 true,aP 139 0x4c1214b12042211113f3e2201103b12003a1210100102d12002c1210110011011c1210111011512512011 true,aP 140 0x1612211111107511121232121 true,aP 141 0x15f420421111116511110111101000111110351110185111103511102a51111104511115125121 true,aP 142 0x11c21321111116511110351113123121 true,aP 143 0x11114022412 true,aP 144 0x13b322111105511130112e73311011101029287341101001110351101652261211 true]}:=by
 apply Subtype.mk
 conv=>rhs;reduce
def mJ2:cO:=zg Ch.1 0
def Zz:cO:=zg Ch.1 1
def mK2:cO:=zg Ch.1 2
def mL2:cO:=zg Ch.1 3
def mM2:cO:=zg Ch.1 4
def mN2:cO:=zg Ch.1 5
def mO2:cO:=zg Ch.1 6
def mP2:cO:=zg Ch.1 7
def mQ2:cO:=zg Ch.1 8
def mR2:cO:=zg Ch.1 9
def mS2:cO:=zg Ch.1 10
def mT2:cO:=zg Ch.1 11
def mU2:cO:=zg Ch.1 12
def mV2:cO:=zg Ch.1 13
def mW2:cO:=zg Ch.1 14
def bH2:cO:=zg Ch.1 15
def mX2:cO:=zg Ch.1 16
def mY2:cO:=zg Ch.1 17
def mZ2:cO:=zg Ch.1 18
def nA2:cO:=zg Ch.1 19
def nB2:cO:=zg Ch.1 20
def nC2:cO:=zg Ch.1 21
def nD2:cO:=zg Ch.1 22
def nE2:cO:=zg Ch.1 23
def Ci:{l:aA cO//l=[aP 145 0x1111016d1918327819183211111110111a51101e51111104511111010651134d1210100007149483f75360001011111045111110451116121e622110114124121 true,aP 146 0x119c1922111145111025118918221101155111110451111035111018692c29185f2c1f185d2c1d1822c19286a125912000101011101111111103001110105512d42211135111012912010110111512351211 true,aP 147 0x11110111000100041187104001412412 true,aP 148 0x11110111000100041187104001412412 true,aP 149 0x391211112e121001011129120100054231e1d1c425000110512251201 true,aP 150 0x1f121193ec98ff7263ec98ff42181e1b2201d182201c5220100100110501 true,aP 151 0x11111111013100101011010010101111001162226522542241211 true,aP 152 0x12b422488888888882b2a32003253104011103511111101130223222212 true,aP 153 0x11111110131233121 true,aP 154 0x1111112122121 true,aP 156 0x1111111512351211 true,aP 157 0x4c32211251101110011103511110351111035111103511110351112122121 true,aP 158 0x11111110011121232121 true,aP 162 0x15022112511212212 true,aP 163 0x11114022412 true,aP 164 0x1e12111001a120011025113123120 true,aP 165 0x1111010101131232222121 true,aP 166 0x5022112511212212 true,aP 167 0x111862321100001111c12010115125121 true,aP 168 0x11121222121 true,aP 169 0x11114022412 true,aP 170 0x111154225121 true,aP 171 0x11b4324211111551111151235121 true,aP 172 0x111c5221b5221011142224121 true]}:=by
 apply Subtype.mk
 conv=>rhs;reduce
def nF2:cO:=zg Ci.1 0
def nG2:cO:=zg Ci.1 1
def bI2:cO:=zg Ci.1 2
def bJ2:cO:=zg Ci.1 3
def bK2:cO:=zg Ci.1 4
def gC1:cO:=zg Ci.1 5
def nH2:cO:=zg Ci.1 6
def nI2:cO:=zg Ci.1 7
def nJ2:cO:=zg Ci.1 8
def nK2:cO:=zg Ci.1 9
def nL2:cO:=zg Ci.1 10
def bL2:cO:=zg Ci.1 11
def bM2:cO:=zg Ci.1 12
def nM2:cO:=zg Ci.1 13
def nN2:cO:=zg Ci.1 14
def nO2:cO:=zg Ci.1 15
def nP2:cO:=zg Ci.1 16
def nQ2:cO:=zg Ci.1 17
def nR2:cO:=zg Ci.1 18
def nS2:cO:=zg Ci.1 19
def nT2:cO:=zg Ci.1 20
def nU2:cO:=zg Ci.1 21
def nV2:cO:=zg Ci.1 22
def nW2:cO:=zg Ci.1 23
def Cj:{l:aA cO//l=[aP 173 0x1111010110002176530002022212 true,aP 174 0x710321113511412412 true,aP 175 0x15022112511212212 true,aP 177 0x21a274562745527434a1241494822011132211103a3922010321311102c12011010101d12101111045111001 true,aP 178 0x2812211135111103511110351112122121 true,aP 179 0x1111001118124918221101111110101102e1201000212b2a29340001000111000111212212 true,aP 180 0x11003c422111351110110102d5222c5221011101f1201000211c1b1a300010011212212 true,aP 181 0x3a60321111116511011011110101111f12010002021c1b1a0400000011212212 true,aP 182 0x11110111000100041187104001412412 true,aP 183 0x11110111000100041187104001412412 true,aP 184 0x1121222121 true,aP 185 0x1b32321111110101101c511103001141241211 true,aP 186 0x1111111111111111d18531040111111011101001d51110251111111010019511102511111005511181218121 true,aP 187 0x1d12111110 true,aP 190 0x19d1211110111011030189120011011c1207b1c2211011111101111011a182235b1a2211011004e120111011111303d1200111035111012c12010111111512351201 true,aP 191 0x11111100011111101107511101c5111101100011111045111100011110351112122121 true,aP 192 0x13b3232483232111111175111101d511111011075111110110751111412341211 true,aP 193 0x1111422241211 true,aP 194 0x11b32321111116511110141241211 true,aP 195 0x1111422241211 true,aP 196 0x11b32321111116511110141241211 true,aP 197 0x11932321111100751110412341211 true,aP 198 0x1fe121101fc1fb2201101f9121001110111075111110105511101a51103011001be12101001bb12100118e6221111110107511101c51111012b5111003018812107c62211251111001110695f1864106a682205e1200011010311111004c12101111010651111035111001101001e121011103511512512011 true,aP 199 0x11110111000100041187104001412412 true]}:=by
 apply Subtype.mk
 conv=>rhs;reduce
def nX2:cO:=zg Cj.1 0
def nY2:cO:=zg Cj.1 1
def nZ2:cO:=zg Cj.1 2
def oA2:cO:=zg Cj.1 3
def oB2:cO:=zg Cj.1 4
def oC2:cO:=zg Cj.1 5
def oD2:cO:=zg Cj.1 6
def oE2:cO:=zg Cj.1 7
def oF2:cO:=zg Cj.1 8
def oG2:cO:=zg Cj.1 9
def oH2:cO:=zg Cj.1 10
def oI2:cO:=zg Cj.1 11
def oJ2:cO:=zg Cj.1 12
def oK2:cO:=zg Cj.1 13
def oL2:cO:=zg Cj.1 14
def oM2:cO:=zg Cj.1 15
def oN2:cO:=zg Cj.1 16
def oO2:cO:=zg Cj.1 17
def oP2:cO:=zg Cj.1 18
def oQ2:cO:=zg Cj.1 19
def oR2:cO:=zg Cj.1 20
def oS2:cO:=zg Cj.1 21
def oT2:cO:=zg Cj.1 22
def oU2:cO:=zg Cj.1 23
def Ck:{l:aA cO//l=[aP 200 0x1111141223412 true,aP 201 0x111111140224121 true,aP 205 0x1111111110111000011111011412432232222121 true,aP 206 0x1111111111113d3c765407111103511014d1201100111000054033d3c765407000111011100010415403000328d40510400328d205104011025113123222212 true,aP 207 0x1d1c1b18752111101110 true,aP 208 0x111114222341211 true,aP 209 0x11200 true,aP 211 0x11110111000100041187104001412412 true,aP 212 0x1a1210000000000 true,aP 213 0x11110011111101075111103511100011110351112122121 true,aP 214 0x1111121232121 true,aP 215 0x11110111000100041187104001412412 true,aP 216 0x11114531041010076212d12211104511110351101110110522254224121 true,aP 220 0x111001212212 true,aP 221 0x11111111a32219322101112122121 true,aP 222 0x1100011025111025111111011312232222121 true,aP 223 0x5812211135111011003d322111105511101010002122d2c130011000111100011110351112122121 true,aP 225 0x1111145310410101110111522254224121 true,aP 226 0x12c31321111451111004511110045111002122121 true,aP 227 0x15022112511212212 true,aP 228 0x111111111101412341211 true,aP 229 0x11110001102511212212 true,aP 230 0x11b32321111116511110141241211 true,aP 231 0x11202211120222212 true]}:=by
 apply Subtype.mk
 conv=>rhs;reduce
def oV2:cO:=zg Ck.1 0
def oW2:cO:=zg Ck.1 1
def oX2:cO:=zg Ck.1 2
def bN2:cO:=zg Ck.1 3
def bO2:cO:=zg Ck.1 4
def oY2:cO:=zg Ck.1 5
def bP2:cO:=zg Ck.1 6
def oZ2:cO:=zg Ck.1 7
def pA2:cO:=zg Ck.1 8
def pB2:cO:=zg Ck.1 9
def pC2:cO:=zg Ck.1 10
def pD2:cO:=zg Ck.1 11
def pE2:cO:=zg Ck.1 12
def pF2:cO:=zg Ck.1 13
def pG2:cO:=zg Ck.1 14
def pH2:cO:=zg Ck.1 15
def pI2:cO:=zg Ck.1 16
def pJ2:cO:=zg Ck.1 17
def pK2:cO:=zg Ck.1 18
def pL2:cO:=zg Ck.1 19
def pM2:cO:=zg Ck.1 20
def pN2:cO:=zg Ck.1 21
def pO2:cO:=zg Ck.1 22
def pP2:cO:=zg Ck.1 23
def Cl:{l:aA cO//l=[aP 232 0x1111132223121 true,aP 233 0x11111101010101131232222121 true,aP 234 0x111111111117621100111011051235422412 true,aP 237 0x11121222121 true,aP 238 0x1110110111014531040111111453104101011111001111045110014531040111100145310401110251151254224121 true,aP 239 0x1111111111000311876340001212212 true,aP 240 0x1111103b3a22111110011100003011003143030016121212212 true,aP 241 0x1710321113511412412 true,aP 243 0x111111111111120211011111120211001112021100 true,aP 244 0x11111106c6a2216b5e2211100111001000030011111100110001c51100318321051918321060100100018321050110 true,aP 252 0x171221111116511112122121 true,aP 253 0x11012531040117a1a22791a2210111111125310410101110110101110110125310403c422111104511118511111125310410101102b12101000032131f1e1d14000131232222121 true,aP 259 0x11112f2d222e2a29322e28220111101f121010000311b1a1934000117121212212 true,aP 260 0x11111111111453104101011101111011100007543382f2e7050001111011453104101011105125422412 true,aP 261 0x111111111014531040111110110101000185433a3918105001011101145310410102962228622101105125422412 true,aP 263 0x111011110101110351101131232222121 true,aP 264 0x1100111000018e7221101111018511030011101055111110451111104511111001075111103511101045111039121010000412d2c2b6106000011144bd056610400110001102511412412 true,aP 265 0x1111110001101001110111100011025117127622612 true,aP 266 0x111011001111010030107621d1918300111111100011011101111000110030110019187641a1918210601100291201107127622612 true,aP 267 0x1111010101131232222121 true,aP 268 0x111100003d422484221111110101951101d5110311038121110000111011111001a51110321221203121 true,aP 269 0x111112122121 true,aP 270 0x15022112511212212 true,aP 271 0x11111011010000111110110141241211 true]}:=by
 apply Subtype.mk
 conv=>rhs;reduce
def pQ2:cO:=zg Cl.1 0
def pR2:cO:=zg Cl.1 1
def pS2:cO:=zg Cl.1 2
def pT2:cO:=zg Cl.1 3
def pU2:cO:=zg Cl.1 4
def pV2:cO:=zg Cl.1 5
def pW2:cO:=zg Cl.1 6
def pX2:cO:=zg Cl.1 7
def pY2:cO:=zg Cl.1 8
def bQ2:cO:=zg Cl.1 9
def pZ2:cO:=zg Cl.1 10
def qA2:cO:=zg Cl.1 11
def qB2:cO:=zg Cl.1 12
def qC2:cO:=zg Cl.1 13
def qD2:cO:=zg Cl.1 14
def qE2:cO:=zg Cl.1 15
def qF2:cO:=zg Cl.1 16
def qG2:cO:=zg Cl.1 17
def qH2:cO:=zg Cl.1 18
def qI2:cO:=zg Cl.1 19
def bR2:cO:=zg Cl.1 20
def qJ2:cO:=zg Cl.1 21
def qK2:cO:=zg Cl.1 22
def qL2:cO:=zg Cl.1 23
def zA8:{l:aA cO//l=[aP 272 0x111111011111101311000111111110131b1a19541611001e12010005421b1a195416000105125422412 true,aP 273 0x1111110111100411c1b43400111011112122121 true,aP 274 0x119213211111017511104124121 true,aP 275 0x1101111103010011020412 true]}:=by
 apply Subtype.mk
 conv=>rhs;reduce
def qM2:cO:=zg zA8.1 0
def qN2:cO:=zg zA8.1 1
def qO2:cO:=zg zA8.1 2
def qP2:cO:=zg zA8.1 3
end
noncomputable section
def pl:aA (aB cO):=[none,none,none,some p3,none,none,some p6,some p7,some p8,some p9,some p10,none,none,some p13,none,none,none,none,some p18,some p19,some p20,some p21,some p22,some p23,some p24,some p25,some p26,some p27,some p28,some p29,some p30,some p31,some p32,some p33,some p34,some p35,none,none,none,none,none,none,some p42,none,none,none,none,none,none,none,none,none,some p52,some p53,some p54,some p55,some p56,some p57,some p58,some p59,some p60,some p61,some p62,some p63,none,none,none,none,none,some p69,none,none,none,none,none,some p75,some p76,some p77,some p78,some p79,some p80,some p81,some p82,some p83,some p84,some p85,some p86,some p87,some p88,some p89,some p90,some p91,some p92,some p93,some p94,some p95,some p96,some p97,some p98,some p99,none,none,none,none,some bG2,some lZ2,some mA2,some mB2,some lH2,some mC2,some Lk,some mD2,some mE2,some mF2,some mG2,some lI2,some mH2,some wW1,some mI2,some mJ2,some Zz,some mK2,some mL2,some mM2,some mN2,some mO2,some mP2,some mQ2,some mR2,some mS2,some mT2,some mU2,some mV2,some mW2,some bE2,some lJ2,some bH2,some mX2,some mY2,some mZ2,some nA2,some nB2,some nC2,some nD2,some nE2,some nF2,some nG2,some bI2,some bJ2,some bK2,some gC1,some nH2,some nI2,some nJ2,some nK2,some lK2,some nL2,some bL2,some bM2,none,none,none,some nM2,some nN2,some nO2,some nP2,some nQ2,some nR2,some nS2,some nT2,some nU2,some nV2,some nW2,some nX2,some nY2,some nZ2,some lL2,some oA2,some oB2,some oC2,some oD2,some oE2,some oF2,some oG2,some oH2,some oI2,some oJ2,some oK2,some lM2,some lN2,some oL2,some oM2,some oN2,some oO2,some oP2,some oQ2,some oR2,some oS2,some oT2,some oU2,some oV2,some oW2,none,none,none,some oX2,some bN2,some bO2,some oY2,some bP2,none,some oZ2,some pA2,some pB2,some pC2,some pD2,some pE2,some lO2,some lP2,some lQ2,some pF2,some pG2,some pH2,some pI2,some lR2,some pJ2,some pK2,some pL2,some pM2,some pN2,some pO2,some pP2,some pQ2,some pR2,some pS2,some bF2,some lS2,some pT2,some pU2,some pV2,some pW2,some pX2,none,some pY2,some bQ2,none,none,none,none,none,none,none,some pZ2,some qA2,none,none,none,none,none,some qB2,some qC2,some qD2,none,some qE2,some qF2,some qG2,some qH2,some qI2,some bR2,some qJ2,some qK2,some qL2,some qM2,some qN2,some qO2,some qP2]
def Rh:zY:=fun f=>(pl[f]?).join
def mZ (f:Nat):Bool:=wL f [25,27,42,56,59,69,75,76,77,78,79,80,81,82,83,84,85,86,87,88,89,90,91,97,104,110,117,120,134,136,149,150,202,206,207,235,244,268]
def NW1 (f:Nat):Bool:=wL f [25,27,42,97,136,150,202,206]
def Tt (f:Nat):Bool:=wL f [97,150,202]
def clN:Nat->aB (Nat×Nat):=fun f=>bif Nat.beq f 202 then some (135,5)else none
def Gi:NB:=⟨NW1,Tt,yE clN⟩
def gD1 (f e:Nat):Bool:=wL f [203,204]&&Nat.beq e (match f with|203=>5|204=>2|_=>0)
def nE1 (n k l:Int) (h:aA YB):YE:=⟨⟨0,n⟩,k,⟨l,0⟩,h,[],0,0,0,[],0,0⟩
def wX1:aA YB:=[⟨⟨0,0,4⟩,false,0⟩]
def bS2 (n:Int) (a b:YE):YM:=⟨⟨0,n⟩,⟨1,4,⟨0,0,0,0,0,0⟩⟩,0,0,false,0,0,0,0,0,0,⟨#[]⟩,[],[⟨[],[⟨[a],[]⟩]⟩,⟨[],[⟨[b],[]⟩]⟩]⟩
def gE1:Y0:=⟨⟨#[]⟩,false,[⟨⟨0,1⟩,⟨#[]⟩,⟨0,0⟩,[⟨⟨0,2⟩,1⟩]⟩,⟨⟨0,3⟩,⟨#[]⟩,⟨0,0⟩,[⟨⟨0,4⟩,1⟩]⟩],[bS2 5 (nE1 6 3 0 []) (nE1 7 1 2 wX1),bS2 8 (nE1 9 1 2 wX1) (nE1 10 1 2 wX1)],[],[⟨0,10⟩]⟩
def lF {A:Type} (l:aA A):aB (aA A):=bif Nat.ble l.length 1073741824 then some l else none
def B40 (k:Bool):yT:=fun f xs=>match xs with
 |[.is e rows]=>bif gD1 f e&&Nat.ble rows.length 1073741824 then some (.is e rows)else none
 |[]=>bif k&&Nat.beq f 5 then some (bv true)else none
 |_=>none
def okg {k:Bool} {d N:Nat} {ps:aA Nat} {a b:PC} (h:okL mZ N ps a b=true):okG (Xd (B40 k) mZ Gi Rh d).is N ps a b=some ():=by
 unfold okG;rw[show(Xd (B40 k) mZ Gi Rh d).is=mZ from Wu d,aE3 h]
noncomputable abbrev OD (k:Bool) (d:Nat):yT:=Od (B40 k) mZ Gi Rh d
noncomputable abbrev XD (k:Bool) (d:Nat):NX:=Xd (B40 k) mZ Gi Rh d
def od {k:Bool} {f:Nat} {fn:cO} (hn:mZ f=false) (h:Rh f=some fn) (a:fn.frz=true) {d:Nat} {xs:aA PV}:OD k (d+1) f xs=Gb (OD k d) (XD k d) fn xs some:=aV2 hn h a d xs
def oe {k:Bool} {f:Nat} {fn:cO} {d:Nat} {xs:aA PV} {A:Type} {F:aB A} {e:A->PV} (h:(mZ f,Rh f,fn.frz)=(false,some fn,true)) (hb:Gb (OD k d) (XD k d) fn xs some=F.map e):OD k (d+1) f xs=F.map e:=by
 simp only[aW3]at h;rw[od h.1 h.2.1 h.2.2];exact hb
def xd {k:Bool} {f:Nat} {fn:cO} (h:Rh f=some fn) {d:Nat} {xs:aA PV} {hs:aY} {m:Nat} {nw:Bool}:gA (XD k (d+1)) f xs hs m nw=fP1 (OD k d) (XD k d) fn xs hs m (Kt hs nw m):=aW2 h d xs hs m _
def yd {kf:Bool} {k d:Nat} {xs:aA PV} {hs:aY} {m:Nat}:zL (XD kf (d+1)) k xs hs m=mQ1 (OD kf d) (XD kf d) k xs hs m (Kt hs false m):=rfl
def mQ {k:Bool} (f d:Nat) {A:Type} (e:Nat) (c:A->aA PV) (l:aA A) (h1:mZ f=false) (h2:Rh f=none) (a:gD1 f e=true):OD k d f [.is e (l.map c)]=(lF l).map fun l=>.is e (l.map c):=by
 rw[OD,Wv h1 h2];unfold lF;simp only[B40,a,eD3,bW3];cases Nat.ble l.length 1073741824<;>rfl
def gF1 (d:Nat):OD true d 5 []=(some true).map fun y=>bv y:=by
 rw[OD,Wv rfl rfl];rfl
def tQ {kf:Bool} (f d ty e:Nat) {A:Type} (c:A->aA PV) (l:aA A) (m:Nat) (h1:Rh f=none) (h2:clN f=some (ty,e)) (a:Nat.beq e e=true) (b:∀rows,Kt [] true m (.own m) [(m,.lst ty e true rows)] (m+1)=some (.own m,[(m,.lst ty e true rows)],m+1)):gA (XD kf (d+1)) f [.is e (l.map c)] [] m true=(lF l).map fun l=>(.own m,[(m,.lst ty e true (l.map c))],m+1):=by
 show(Xd (B40 kf) mZ Gi Rh (d+1)).run f _ _ _ _=_
 rw[mV1 h1];simp only[Gi,yE,h2,zX2,a,eD3,bW3];unfold lF;cases Nat.ble l.length 1073741824;rfl;exact b _
def gG1:okL mZ 69 [45] pZ qA=true:=by kernel_rfl
def gH1:okL mZ 69 [33,34] rV rW=true:=by kernel_rfl
def qQ:okL mZ 22 [13,14] dD dE=true:=by kernel_rfl
def qR:okL mZ 16 [7,8] eK eL=true:=by kernel_rfl
end
end Go.P
namespace Go.P
open Go.Sim (Ex gC CK)
open K (I Q rq nq xq ck)
abbrev dT {A B:Type} (l:aA A) (i:Int) (t:A->aB B) (e:aB B):aB B:=if decide (i<(l.length:Int))=true then(bM l i).bind t else e
abbrev cL (l:aA YV) (s:Y0) (r:Int):aY:=[(2,.lst 172 3 false (I YV.g l)),(1,.box (ck s r (.own 2)))]
abbrev zLn {A:Type} (l:aA A):PV:=i64 (l.length:Int)
abbrev Bf (l:aA Bool):PV:=.is 1 (List.map cB l)
abbrev Gj (l:aA UInt8):PV:=.is 1 (List.map aY2 l)
abbrev nM (l:aA Int):PV:=.is 1 (List.map cI l)
abbrev mR (l:aA YE):PV:=.is 13 (List.map YE.g l)
abbrev tR (l:aA YW):PV:=.is 2 (List.map YW.g l)
abbrev Gk (l:aA YC):PV:=.is 2 (List.map YC.g l)
abbrev gI1 (l:aA YZ):PV:=.is 2 (List.map YZ.g l)
abbrev jI (l:aA YY):PV:=.is 2 (List.map YY.g l)
abbrev kK (l:aA YO):PV:=.is 2 (List.map YO.g l)
abbrev pN (l:aA YM):PV:=.is 22 (List.map YM.g l)
abbrev Ac (l:aA YH):PV:=.is 3 (List.map YH.g l)
abbrev aA1 (l:aA YF):PV:=.is 3 (List.map YF.g l)
abbrev Hj (l:aA YT):PV:=.is 3 (List.map YT.g l)
abbrev Hk (l:aA YV):PV:=.is 3 (List.map YV.g l)
abbrev lG (l:aA YU):PV:=.is 4 (List.map YU.g l)
abbrev wJ (l:aA aV):PV:=.is 5 (List.map aV.g l)
abbrev kL (l:aA YD):PV:=.is 5 (List.map YD.g l)
abbrev gX (l:aA YB):PV:=.is 5 (List.map YB.g l)
abbrev tS (l:aA bA):PV:=.is 6 (List.map bA.g l)
abbrev yF (l:aA YJ):PV:=.is 6 (List.map YJ.g l)
abbrev Qm (l:aA YN):PV:=.is 7 (List.map YN.g l)
abbrev gJ1 (x:YW):dN:=.box x.g
abbrev Gl (x:YG):dN:=.box x.g
abbrev Tu (x:aV):dN:=.box x.g
abbrev Ll (x:dW):dN:=.box x.g
abbrev Gm (x:bA):dN:=.box x.g
abbrev aB1 (x:YE):dN:=.box x.g
abbrev wY1 (x:YZ):dN:=.box x.g
abbrev Lm (x:YL):dN:=.box x.g
abbrev Qn (x:YM):dN:=.box x.g
abbrev aC1 (x:YX):dN:=.box x.g
abbrev gK1 (x:YJ):dN:=.box x.g
abbrev aD1 (x:YH):dN:=.box x.g
abbrev aE1 (x:Y0):dN:=.box x.g
abbrev Gn (x:YP):dN:=.box x.g
abbrev Qo (x:YN):dN:=.box x.g
abbrev Ln (x:YY):dN:=.box x.g
abbrev Tv (x:YU):dN:=.box x.g
abbrev aF1 (x:YA):dN:=.box x.g
abbrev aG1 (x:YO):dN:=.box x.g
abbrev Jn (x:Y6):PV:=.agg x.g
abbrev Ad (x:Ab):PV:=.agg x.g
abbrev Bm (x:Y9):PV:=.agg x.g
abbrev Qp (x:YW):PV:=.agg x.g
abbrev kE (x:YG):PV:=.agg x.g
abbrev Lo (x:YI):PV:=.agg x.g
abbrev jJ (x:aV):PV:=.agg x.g
abbrev nU (x:dW):PV:=.agg x.g
abbrev oZ (x:bA):PV:=.agg x.g
abbrev eI (x:YE):PV:=.agg x.g
abbrev aH1 (x:YD):PV:=.agg x.g
abbrev yG (x:YB):PV:=.agg x.g
abbrev Lp (x:YZ):PV:=.agg x.g
abbrev hU (x:YL):PV:=.agg x.g
abbrev eW (x:YM):PV:=.agg x.g
abbrev qS (x:YX):PV:=.agg x.g
abbrev fJ (x:YH):PV:=.agg x.g
abbrev cX (x:Y0):PV:=.agg x.g
abbrev eO (x:YP):PV:=.agg x.g
abbrev kM (x:YQ):PV:=.agg x.g
abbrev cR (x:YS):PV:=.agg x.g
abbrev yH (x:YY):PV:=.agg x.g
abbrev pA (x:YU):PV:=.agg x.g
abbrev Ae (x:YA):PV:=.agg x.g
abbrev iB (x:YO):PV:=.agg x.g
abbrev dF (x:YK):PV:=.ip x.g
abbrev Jo (x:YE):PV:=.ip x.g
abbrev yI (x:YB):PV:=.ip x.g
abbrev lN (x:YM):PV:=.ip x.g
abbrev Qq (x:YJ):PV:=.ip x.g
abbrev Bg (x:YN):PV:=.ip x.g
abbrev Jp (x:YF):PV:=.ip x.g
abbrev bE (n k:Nat):Nat×PV:=(n,.ref k 0)
abbrev aU (n:Nat) (x:Int):Nat×PV:=(n,i64 x)
abbrev cQ {A:Type} (n:Nat) (l:aA A):Nat×PV:=(n,zLn l)
abbrev cH (n:Nat) (l:aA YW):Nat×PV:=(n,tR l)
abbrev Bn (n:Nat) (l:aA YC):Nat×PV:=(n,Gk l)
abbrev Bh (n:Nat) (l:aA aV):Nat×PV:=(n,wJ l)
abbrev sG (n:Nat) (l:aA bA):Nat×PV:=(n,tS l)
abbrev eT (n:Nat) (l:aA YE):Nat×PV:=(n,mR l)
abbrev rX (n:Nat) (l:aA YD):Nat×PV:=(n,kL l)
abbrev mS (n:Nat) (l:aA YB):Nat×PV:=(n,gX l)
abbrev Lq (n:Nat) (l:aA YZ):Nat×PV:=(n,gI1 l)
abbrev bB (n:Nat) (l:aA YM):Nat×PV:=(n,pN l)
abbrev kN (n:Nat) (l:aA YJ):Nat×PV:=(n,yF l)
abbrev Gp (n:Nat) (l:aA YH):Nat×PV:=(n,Ac l)
abbrev mD (n:Nat) (l:aA YN):Nat×PV:=(n,Qm l)
abbrev Tw (n:Nat) (l:aA YF):Nat×PV:=(n,aA1 l)
abbrev jP (n:Nat) (l:aA YY):Nat×PV:=(n,jI l)
abbrev Gq (n:Nat) (l:aA YT):Nat×PV:=(n,Hj l)
abbrev kF (n:Nat) (l:aA YU):Nat×PV:=(n,lG l)
abbrev cS (n:Nat) (l:aA YO):Nat×PV:=(n,kK l)
abbrev wZ1 (n:Nat) (l:aA Bool):Nat×PV:=(n,Bf l)
abbrev aI1 (n:Nat) (l:aA UInt8):Nat×PV:=(n,Gj l)
abbrev tT (n:Nat) (l:aA Int):Nat×PV:=(n,nM l)
abbrev cT (n:Nat) (x:YW):Nat×dN:=(n,gJ1 x)
abbrev lD (n:Nat) (x:YG):Nat×dN:=(n,Gl x)
abbrev bL (n:Nat) (x:aV):Nat×dN:=(n,Tu x)
abbrev cM (n:Nat) (x:dW):Nat×dN:=(n,Ll x)
abbrev lE (n:Nat) (x:bA):Nat×dN:=(n,Gm x)
abbrev eG (n:Nat) (x:YE):Nat×dN:=(n,aB1 x)
abbrev dH (n:Nat) (x:YZ):Nat×dN:=(n,wY1 x)
abbrev aR (n:Nat) (x:YL):Nat×dN:=(n,Lm x)
abbrev aW (n:Nat) (x:YM):Nat×dN:=(n,Qn x)
abbrev rY (n:Nat) (x:YX):Nat×dN:=(n,aC1 x)
abbrev Af (n:Nat) (x:YJ):Nat×dN:=(n,gK1 x)
abbrev pB (n:Nat) (x:YH):Nat×dN:=(n,aD1 x)
abbrev aG (n:Nat) (x:Y0):Nat×dN:=(n,aE1 x)
abbrev bP (n:Nat) (x:YP):Nat×dN:=(n,Gn x)
abbrev yJ (n:Nat) (x:YN):Nat×dN:=(n,Qo x)
abbrev eQ (n:Nat) (x:YY):Nat×dN:=(n,Ln x)
abbrev iU (n:Nat) (x:YU):Nat×dN:=(n,Tv x)
abbrev Gr (n:Nat) (x:YA):Nat×dN:=(n,aF1 x)
abbrev cK (n:Nat) (x:YO):Nat×dN:=(n,aG1 x)
abbrev Ri (n:Nat):Int⊕Unit->Ex×Mr:=fun|.inl v=>rq [aU n v] []|.inr _=>xq 0 [] []
abbrev bT2:Nat×dN:=(1,.box [i64 0,i64 0,i64 0,i64 0,i64 0,.v (.slice none 0 0),.v (.slice none 0 0),i64 0,i64 0,i64 0,.v (.slice none 0 0),i64 0,i64 0])
abbrev nF1:Nat×dN:=(2,.box [bv false,i64 0,i64 0,i64 0,bv false,i64 0])
abbrev xA1:Nat×dN:=(0,.box [i64 0,i64 0,i64 0,i64 0,i64 0,i64 0])
abbrev Gs:Nat×PV:=(4,.is 2 (I YO.g []))
abbrev aJ1:Nat×dN:=(11,.box [.own 9,.own 10])
abbrev aK1:Nat×dN:=(10,.box [.own 8,.own 9])
abbrev aL1:Nat×dN:=(6,.box [.own 7,.own 5])
abbrev Bo:Nat×dN:=(3,.box [i64 0,i64 0])
abbrev Tx:Nat×dN:=(3,.box [.fn 22 [] []])
def ig {α A B:Type} {f:A->aA PV} {l:aA A} {i:Int} {b:Bool} {K:aA PV->aB α} {F:A->aB B} {Y:aB α} {FY:aB B} {enc:B->α} (hk:∀y,K (f y)=(F y).map enc) (hy:Y=FY.map enc:=by rfl):Oh b (cF (vX (l.map f) i) K) Y=(if b then(bM l i).bind F else FY).map enc:=io (bo rg hk) hy
variable {k:Bool} (d:Nat)
def gL1 (x1:Int):aB Bool:=
 some ((decide (x1<32))||(x1==127))
def bU2 (x1:Int):OD k (d+1) 162 [.v (.int .u8 x1)]=(gL1 x1).map bv:=oe rfl<|by
 refine bz (gB rfl) ?_;rfl
def nG1 (x1:aA UInt8):aB Int:=
 (bC (E:=Int⊕Unit) (fun(a:Int)=>dT x1 a (fun b=>(gL1 (b.toNat:Int)).bind fun c=>if c then some (.inr (.inl a))else some (.inl (bK (a+1)))) (some (.inr (.inr ())))) bS 0).bind fun d=>(match d with|.inl x7=>some x7|.inr _=>some (-1))
def bV2 (x1:aA UInt8):OD k (d+2) 211 [Gj x1,.fn 162 [] []]=(nG1 x1).map i64:=oe rfl<|by
 refine bz lm ?_;refine bo (aN (S:=Int) (enc:=fun a=>(Q [aI1 0 x1,(1,.fn 162 [] []),cQ 7 x1,aU 8 a] [])) (encE:=Ri 4) (fun a=>?_) bS 0) fun c=>?_;refine ig fun b=>?_;refine bo (bU2 d (b.toNat:Int)) fun e=>?_;refine io rfl rfl;rcases c with f|_;rfl;rfl
def aM1 (x1:aA UInt8):aB Bool:=
 (nG1 x1).bind fun x2=>some (decide (x2>=0))
def bW2 (x1:aA UInt8):OD k (d+3) 163 [Gj x1,.fn 162 [] []]=(aM1 x1).map bv:=oe rfl<|by
 refine bo (bV2 d x1) fun x2=>?_;rfl
def Qr (x1:ByteArray):aB Bool:=
 ((if decide ((x1.size:Int)<=256)then(aM1 x1.data.toList).bind fun x2=>some (!x2)else some false:aB (Bool))).bind fun a=>some a
def gM1 (x1:ByteArray):OD k (d+4) 105 [.v (.string x1)]=(Qr x1).map bv:=oe rfl<|by
 refine bo (e:=id) ?_ fun a=>?_;refine io ?_ rfl;refine bo (bW2 d x1.data.toList) fun x2=>?_;rfl;rfl
def pE (x1 x2 a:Int):aB Bool:=
 some ((decide (x1>=x2))&&(decide (x1<=a)))
def nA (x1 x2 a:Int):OD k (d+1) 106 [i64 x1,i64 x2,i64 a]=(pE x1 x2 a).map bv:=oe rfl<|by
 refine bz (iK rfl) ?_;rfl
def Hl (x1:YL):aB Int:=
 if(((decide (x1.mJ<(-77)))||(decide (x1.mJ>77)))||(decide (x1.aZ<(-140))))||(decide (x1.aZ>140))then some 2 else some 0
def gN1 (x1:YL):OD k (d+1) 107 [hU x1]=(Hl x1).map i64:=oe rfl<|by
 refine bz (gB rfl) ?_;refine bz (gB rfl) ?_;refine bz (gB rfl) ?_;refine io rfl rfl
def iV (x1:Bool) (x2:YZ) (a:aA YV) (e:Y0) (b:Int):aB (aA YV):=
 ((if x1 then(iZ false a [(YV.mk b x2)]).bind fun c=>some c else some a:aB (aA YV))).bind fun d=>some d
def iH (x1:Bool) (x2:YZ) (c:aA YV) (b:Y0) (a:Int):gA (XD k (d+1)) 104 [.ref 1 0,bv x1,Lp x2] (cL c b a) 3 false=(iV x1 x2 c b a).map (fun(h:aA YV)=>((.tup [],(cL h b a),0))):=by
 rw[xd (fn:=bG2) rfl];refine bo (e:=(fun(f:aA YV)=>(nq [] (dH 3 x2::cL f b a)))) ?_ fun f=>?_;refine io ?_ rfl;refine bo (cN false YV.g c [(YV.mk a x2)]) fun i=>?_;rfl;rfl
def Qs (x1:aA YV) (x2:Y0) (s:Int):aB (aA YV):=
 (bC (E:=aA YV) (fun(⟨x11,d⟩:Int×(aA YV))=>dT x2.bG x11 (fun a=>(Qr a.Br).bind fun l=>((if !l then some true else(pE (a.bN.length:Int) 1 4).bind fun m=>some (!m):aB (Bool))).bind fun n=>((if n then some true else(Hl a.aK).bind fun o=>some (o !=0):aB (Bool))).bind fun p=>(iV p a.ID d x2 s).bind fun q=>some (.inl ((bK (x11+1)),q))) (some (.inr d))) bS (0,x1)).bind fun r=>(bC (E:=aA YV) (fun(⟨e,f⟩:Int×(aA YV))=>dT x2.aD e (fun b=>(Qr b.jQ).bind fun t=>(bC (E:=Bool) (fun(⟨g,h⟩:Bool×Int)=>dT b.aQ h (fun c=>(bC (E:=Bool) (fun(⟨i,j⟩:Bool×Int)=>dT c.aM j (fun k=>some (.inl (((i||(decide ((k.aT.length:Int)>128)))||(decide ((k.dQ.length:Int)>16))),(bK (j+1))))) (some (.inr i))) bS (((g||(decide ((c.nC.length:Int)>64)))||(decide ((c.aM.length:Int)>2))),0)).bind fun u=>some (.inl (u,(bK (h+1))))) (some (.inr g))) bS (((!t)||(decide ((b.nN.length:Int)>64))),0)).bind fun v=>(iV v b.ID f x2 s).bind fun w=>some (.inl ((bK (e+1)),w))) (some (.inr f))) bS (0,r)).bind fun x=>(Qr x2.qW).bind fun y=>((if !y then some true else(pE (x2.bG.length:Int) 1 32).bind fun z=>some (!z):aB (Bool))).bind fun A=>((if A then some true else(pE (x2.aD.length:Int) 1 1024).bind fun B=>some (!B):aB (Bool))).bind fun C=>(iV ((C||(decide ((x2.cJ.length:Int)>4096)))||(decide ((x2.nX.length:Int)>100))) (YZ.mk 0 0) x x2 s).bind fun D=>some D
def bX2 (x1:aA YV) (x2:Y0) (c:Int):gA (XD k (d+5)) 75 [.ref 1 0] (cL x1 x2 c) 3 false=(Qs x1 x2 c).map (fun(v:aA YV)=>((.tup [],(cL v x2 c),0))):=by
 rw[xd (fn:=p75) rfl];refine bz lm ?_;refine bo (aN (S:=Int×(aA YV)) (enc:=fun⟨x11,j⟩=>(Q [bE 0 1,kN 15 x2.bG,cQ 16 x2.bG,aU 17 x11] (cL j x2 c))) (encE:=(fun(l:aA YV)=>(xq 0 [bE 0 1] (cL l x2 c)))) (fun⟨x11,j⟩=>?_) bS (0,x1)) fun l=>?_;refine ig fun h=>?_;refine bo (gM1 d h.Br) fun w=>?_;refine bo (e:=id) ?_ fun y=>?_;refine io rfl ?_;refine bz lm ?_;refine bo (nA (d+3) (h.bN.length:Int) 1 4) fun x=>?_;rfl;refine bo (e:=id) ?_ fun s=>?_;refine io rfl ?_;refine bo (gN1 (d+3) h.aK) fun z=>?_;rfl;refine bo (iH (d+3) s h.ID j x2 c) fun A=>?_;rfl;refine bz lm ?_;refine bo (aN (S:=Int×(aA YV)) (enc:=fun⟨f,b⟩=>(Q [bE 0 1,bB 47 x2.aD,cQ 48 x2.aD,aU 49 f] (cL b x2 c))) (encE:=(fun(o:aA YV)=>(xq 2 [bE 0 1] (cL o x2 c)))) (fun⟨f,b⟩=>?_) bS (0,l)) fun o=>?_;refine ig fun a=>?_;refine bo (gM1 d a.jQ) fun t=>?_;refine bz (gB (bz lm rfl)) ?_;refine bz lm ?_;refine bo (aN (S:=Bool×Int) (enc:=fun⟨m,i⟩=>(Q [bE 0 1,bE 5 3,(6,bv m),bB 47 x2.aD,cQ 48 x2.aD,aU 49 f,cH 64 a.aQ,cQ 65 a.aQ,aU 66 i] (aW 3 a::cL b x2 c))) (encE:=(fun(n:Bool)=>(xq 4 [bE 0 1,bE 5 3,(6,bv n),bB 47 x2.aD,cQ 48 x2.aD,aU 49 f] (aW 3 a::cL b x2 c)))) (fun⟨m,i⟩=>?_) bS (((!t)||(decide ((a.nN.length:Int)>64))),0)) fun n=>?_;refine ig fun g=>?_;refine bz (gB (bz lm rfl)) ?_;refine bz (gB (bz lm rfl)) ?_;refine bz lm ?_;refine bo (aN (S:=Bool×Int) (enc:=fun⟨p,q⟩=>(Q [bE 0 1,bE 5 3,(6,bv p),bB 47 x2.aD,cQ 48 x2.aD,aU 49 f,cH 64 a.aQ,cQ 65 a.aQ,aU 66 i,cS 84 g.aM,cQ 85 g.aM,aU 86 q] (cT 4 g::aW 3 a::cL b x2 c))) (encE:=(fun(r:Bool)=>(xq 6 [bE 0 1,bE 5 3,(6,bv r),bB 47 x2.aD,cQ 48 x2.aD,aU 49 f,cH 64 a.aQ,cQ 65 a.aQ,aU 66 i] (cT 4 g::aW 3 a::cL b x2 c)))) (fun⟨p,q⟩=>?_) bS (((m||(decide ((g.nC.length:Int)>64)))||(decide ((g.aM.length:Int)>2))),0)) fun r=>?_;refine ig fun B=>?_;refine bz (gB (bz lm rfl)) ?_;refine bz (gB (bz lm rfl)) ?_;rfl;rfl;refine bo (iH (d+3) n a.ID b x2 c) fun C=>?_;rfl;refine bo (gM1 d x2.qW) fun D=>?_;refine bo (e:=id) ?_ fun F=>?_;refine io rfl ?_;refine bz lm ?_;refine bo (nA (d+3) (x2.bG.length:Int) 1 32) fun E=>?_;rfl;refine bo (e:=id) ?_ fun u=>?_;refine io rfl ?_;refine bz lm ?_;refine bo (nA (d+3) (x2.aD.length:Int) 1 1024) fun G=>?_;rfl;refine bz (gB (bz lm rfl)) ?_;refine bz (gB (bz lm rfl)) ?_;refine bo (iH (d+3) ((u||(decide ((x2.cJ.length:Int)>4096)))||(decide ((x2.nX.length:Int)>100))) (YZ.mk 0 0) o x2 c) fun H=>?_;rfl
def nH1 (x1:Y0):aB Unit:=
 some ()
def bY2 (x1:Y0):gA (XD k (d+1)) 42 [.ref 0 0] [aG 0 x1] 3 true=(nH1 x1).map (fun(_:Unit)=>((.fn 69 [] [.ref 3 0],[(3,.box [.ref 0 0]),aG 0 x1],4))):=by
 rw[xd (fn:=p42) rfl];rfl
def Cm (x1 x2:Int) (d e:Int) (f g h:Int) (b:YJ) (c:aA YZ):aB (aA YZ):=
 (iZ false c [b.ID]).bind fun a=>some a
def gO1 (x1 x2:Int) (c e:Int) (f h i:Int) (a:YJ) (b:aA YZ):zL (XD k (d+1)) 4 [.agg [i64 x1,i64 x2,i64 c,i64 e,i64 f,i64 h,i64 i],Qq a] [(4,.loop 16 [bE 3 1] [7,8] eK eL false none),(2,.lst 51 2 false (I YZ.g b)),(1,.box [.own 2])] 5=(Cm x1 x2 c e f h i a b).map (fun(x11:aA YZ)=>((bv true,[(4,.loop 16 [bE 3 1] [7,8] eK eL false none),(2,.lst 51 2 false (I YZ.g x11)),(1,.box [.own 2])],0))):=by
 rw[yd];refine bz (okg qR) ?_;refine bo (cN false YZ.g b [a.ID]) fun j=>?_;rfl
def uM (x1 x2:Int) (d e:Int) (f g h:Int) (b:YF) (c:aA YZ):aB (aA YZ):=
 (iZ false c [b.ID]).bind fun a=>some a
def Ty (x1 x2:Int) (c e:Int) (f h i:Int) (a:YF) (b:aA YZ):zL (XD k (d+1)) 4 [.agg [i64 x1,i64 x2,i64 c,i64 e,i64 f,i64 h,i64 i],Jp a] [(4,.loop 16 [bE 3 1] [7,8] eK eL false none),(2,.lst 51 2 false (I YZ.g b)),(1,.box [.own 2])] 5=(uM x1 x2 c e f h i a b).map (fun(x11:aA YZ)=>((bv true,[(4,.loop 16 [bE 3 1] [7,8] eK eL false none),(2,.lst 51 2 false (I YZ.g x11)),(1,.box [.own 2])],0))):=by
 rw[yd];refine bz (okg qR) ?_;refine bo (cN false YZ.g b [a.ID]) fun j=>?_;rfl
def uN (x1 x2:Int) (d e:Int) (f g h:Int) (b:YM) (c:aA YZ):aB (aA YZ):=
 (iZ false c [b.ID]).bind fun a=>some a
def Tz (x1 x2:Int) (c e:Int) (f h i:Int) (a:YM) (b:aA YZ):zL (XD k (d+1)) 4 [.agg [i64 x1,i64 x2,i64 c,i64 e,i64 f,i64 h,i64 i],lN a] [(4,.loop 16 [bE 3 1] [7,8] eK eL false none),(2,.lst 51 2 false (I YZ.g b)),(1,.box [.own 2])] 5=(uN x1 x2 c e f h i a b).map (fun(x11:aA YZ)=>((bv true,[(4,.loop 16 [bE 3 1] [7,8] eK eL false none),(2,.lst 51 2 false (I YZ.g x11)),(1,.box [.own 2])],0))):=by
 rw[yd];refine bz (okg qR) ?_;refine bo (cN false YZ.g b [a.ID]) fun j=>?_;rfl
def uO (x1 x2:Int) (d e:Int) (f g h:Int) (b:YE) (c:aA YZ):aB (aA YZ):=
 (iZ false c [b.ID]).bind fun a=>some a
def Ua (x1 x2:Int) (c e:Int) (f h i:Int) (a:YE) (b:aA YZ):zL (XD k (d+1)) 4 [.agg [i64 x1,i64 x2,i64 c,i64 e,i64 f,i64 h,i64 i],Jo a] [(4,.loop 16 [bE 3 1] [7,8] eK eL false none),(2,.lst 51 2 false (I YZ.g b)),(1,.box [.own 2])] 5=(uO x1 x2 c e f h i a b).map (fun(x11:aA YZ)=>((bv true,[(4,.loop 16 [bE 3 1] [7,8] eK eL false none),(2,.lst 51 2 false (I YZ.g x11)),(1,.box [.own 2])],0))):=by
 rw[yd];refine bz (okg qR) ?_;refine bo (cN false YZ.g b [a.ID]) fun j=>?_;rfl
def uP (x1 x2:Int) (d e:Int) (f g h:Int) (b:YN) (c:aA YZ):aB (aA YZ):=
 (iZ false c [b.ID]).bind fun a=>some a
def Ub (x1 x2:Int) (c e:Int) (f h i:Int) (a:YN) (b:aA YZ):zL (XD k (d+1)) 4 [.agg [i64 x1,i64 x2,i64 c,i64 e,i64 f,i64 h,i64 i],Bg a] [(4,.loop 16 [bE 3 1] [7,8] eK eL false none),(2,.lst 51 2 false (I YZ.g b)),(1,.box [.own 2])] 5=(uP x1 x2 c e f h i a b).map (fun(x11:aA YZ)=>((bv true,[(4,.loop 16 [bE 3 1] [7,8] eK eL false none),(2,.lst 51 2 false (I YZ.g x11)),(1,.box [.own 2])],0))):=by
 rw[yd];refine bz (okg qR) ?_;refine bo (cN false YZ.g b [a.ID]) fun j=>?_;rfl
def nI1 (x1:Y0) (x2:aA YZ):aB (aA YZ):=
 (bC (E:=aA YZ) (fun(⟨K,e,w⟩:Int×Int×(aA YZ))=>dT x1.bG e (fun L=>(Cm 1 e 0 0 0 0 0 L w).bind fun M=>(bM x1.bG e).bind fun N=>(bC (E:=Int×(aA YZ)) (fun(⟨l,m,J⟩:Int×Int×(aA YZ))=>if decide (m<(N.bN.length:Int))then(bM x1.bG e).bind fun O=>(bM O.bN m).bind fun P=>(uM 2 0 l 0 0 0 0 P J).bind fun R=>some (.inl ((bK (l+1)),(bK (m+1)),R))else some (.inr (l,J))) bS (K,0,M)).bind fun⟨S,T⟩=>some (.inl (S,(bK (e+1)),T))) (some (.inr w))) bS (0,0,x2)).bind fun U=>(bC (E:=aA YZ) (fun(⟨a,g⟩:Int×(aA YZ))=>dT x1.aD a (fun n=>(uN 3 0 0 a 0 0 0 n g).bind fun o=>(bM x1.aD a).bind fun p=>(bC (E:=aA YZ) (fun(⟨b,h⟩:Int×(aA YZ))=>if decide (b<(p.aQ.length:Int))then(bM x1.aD a).bind fun q=>(bM q.aQ b).bind fun r=>(bC (E:=aA YZ) (fun(⟨c,i⟩:Int×(aA YZ))=>if decide (c<(r.aM.length:Int))then(bM x1.aD a).bind fun s=>(bM s.aQ b).bind fun t=>(bM t.aM c).bind fun u=>(bC (E:=aA YZ) (fun(⟨d,j⟩:Int×(aA YZ))=>if decide (d<(u.aT.length:Int))then(bM x1.aD a).bind fun v=>(bM v.aQ b).bind fun x=>(bM x.aM c).bind fun x191=>(bM x191.aT d).bind fun y=>(uO 4 0 b a c d 0 y j).bind fun z=>some (.inl ((bK (d+1)),z))else some (.inr j)) bS (0,i)).bind fun A=>some (.inl ((bK (c+1)),A))else some (.inr i)) bS (0,h)).bind fun B=>some (.inl ((bK (b+1)),B))else some (.inr h)) bS (0,o)).bind fun C=>some (.inl ((bK (a+1)),C))) (some (.inr g))) bS (0,U)).bind fun D=>(bC (E:=aA YZ) (fun(⟨f,k⟩:Int×(aA YZ))=>dT x1.cJ f (fun F=>(uP 5 0 0 0 0 0 f F k).bind fun G=>some (.inl ((bK (f+1)),G))) (some (.inr k))) bS (0,D)).bind fun H=>some H
def bZ2 (x1:Y0) (x2:aA YZ):gA (XD k (d+2)) 69 [.yld 4,.ref 3 0] [(4,.loop 16 [bE 3 1] [7,8] eK eL false none),(3,.box [.ref 0 0]),aG 0 x1,(2,.lst 51 2 false (I YZ.g x2)),(1,.box [.own 2])] 5 false=(nI1 x1 x2).map (fun(F:aA YZ)=>((.tup [],[(4,.loop 16 [bE 3 1] [7,8] eK eL false none),(3,.box [.ref 0 0]),aG 0 x1,(2,.lst 51 2 false (I YZ.g F)),(1,.box [.own 2])],0))):=by
 rw[xd (fn:=p69) rfl];refine bz lm ?_;refine bo (aN (S:=Int×Int×(aA YZ)) (enc:=fun⟨v,f,w⟩=>(Q [(0,.yld 4),bE 1 3,aU 3 v,cQ 15 x1.bG,aU 16 f] [(4,.loop 16 [bE 3 1] [7,8] eK eL false none),(3,.box [.ref 0 0]),aG 0 x1,(2,.lst 51 2 false (I YZ.g w)),(1,.box [.own 2])])) (encE:=(fun(z:aA YZ)=>(xq 0 [(0,.yld 4),bE 1 3] [(4,.loop 16 [bE 3 1] [7,8] eK eL false none),(3,.box [.ref 0 0]),aG 0 x1,(2,.lst 51 2 false (I YZ.g z)),(1,.box [.own 2])]))) (fun⟨v,f,w⟩=>?_) bS (0,0,x2)) fun z=>?_;refine ig fun K=>?_;refine bo (gO1 d 1 f 0 0 0 0 0 K w) fun L=>?_;refine bo rg fun M=>?_;refine bz lm ?_;refine bo (aN (S:=Int×Int×(aA YZ)) (enc:=fun⟨x,G,y⟩=>(Q [(0,.yld 4),bE 1 3,aU 3 x,aU 4 f,cQ 15 x1.bG,aU 16 f,cQ 39 M.bN,aU 40 G] [(4,.loop 16 [bE 3 1] [7,8] eK eL false none),(2,.lst 51 2 false (I YZ.g y)),(1,.box [.own 2]),(3,.box [.ref 0 0]),aG 0 x1])) (encE:=(fun(⟨H,J⟩:Int×(aA YZ))=>(xq 2 [(0,.yld 4),bE 1 3,aU 3 H,cQ 15 x1.bG,aU 16 f] [(4,.loop 16 [bE 3 1] [7,8] eK eL false none),(2,.lst 51 2 false (I YZ.g J)),(1,.box [.own 2]),(3,.box [.ref 0 0]),aG 0 x1]))) (fun⟨x,G,y⟩=>?_) bS (v,0,L)) fun⟨H,J⟩=>?_;refine ig fun X=>?_;refine bo rg fun N=>?_;refine bo (Ty d 2 0 x 0 0 0 0 N y) fun Y=>?_;rfl;rfl;refine bz lm ?_;refine bo (aN (S:=Int×(aA YZ)) (enc:=fun⟨a,h⟩=>(Q [(0,.yld 4),bE 1 3,cQ 67 x1.aD,aU 68 a] [(4,.loop 16 [bE 3 1] [7,8] eK eL false none),(3,.box [.ref 0 0]),aG 0 x1,(2,.lst 51 2 false (I YZ.g h)),(1,.box [.own 2])])) (encE:=(fun(o:aA YZ)=>(xq 4 [(0,.yld 4),bE 1 3] [(4,.loop 16 [bE 3 1] [7,8] eK eL false none),(3,.box [.ref 0 0]),aG 0 x1,(2,.lst 51 2 false (I YZ.g o)),(1,.box [.own 2])]))) (fun⟨a,h⟩=>?_) bS (0,z)) fun o=>?_;refine ig fun A=>?_;refine bo (Tz d 3 0 0 a 0 0 0 A h) fun B=>?_;refine bo rg fun e=>?_;refine bz lm ?_;refine bo (aN (S:=Int×(aA YZ)) (enc:=fun⟨b,i⟩=>(Q [(0,.yld 4),bE 1 3,aU 6 a,cQ 67 x1.aD,aU 68 a,cQ 91 e.aQ,aU 92 b] [(4,.loop 16 [bE 3 1] [7,8] eK eL false none),(2,.lst 51 2 false (I YZ.g i)),(1,.box [.own 2]),(3,.box [.ref 0 0]),aG 0 x1])) (encE:=(fun(t:aA YZ)=>(xq 6 [(0,.yld 4),bE 1 3,cQ 67 x1.aD,aU 68 a] [(4,.loop 16 [bE 3 1] [7,8] eK eL false none),(2,.lst 51 2 false (I YZ.g t)),(1,.box [.own 2]),(3,.box [.ref 0 0]),aG 0 x1]))) (fun⟨b,i⟩=>?_) bS (0,B)) fun t=>?_;refine ig fun O=>?_;refine bo rg fun j=>?_;refine bz lm ?_;refine bo (aN (S:=Int×(aA YZ)) (enc:=fun⟨c,l⟩=>(Q [(0,.yld 4),bE 1 3,aU 6 a,aU 7 b,cQ 67 x1.aD,aU 68 a,cQ 91 e.aQ,aU 92 b,cQ 107 j.aM,aU 108 c] [(4,.loop 16 [bE 3 1] [7,8] eK eL false none),(2,.lst 51 2 false (I YZ.g l)),(1,.box [.own 2]),(3,.box [.ref 0 0]),aG 0 x1])) (encE:=(fun(s:aA YZ)=>(xq 8 [(0,.yld 4),bE 1 3,aU 6 a,cQ 67 x1.aD,aU 68 a,cQ 91 e.aQ,aU 92 b] [(4,.loop 16 [bE 3 1] [7,8] eK eL false none),(2,.lst 51 2 false (I YZ.g s)),(1,.box [.own 2]),(3,.box [.ref 0 0]),aG 0 x1]))) (fun⟨c,l⟩=>?_) bS (0,i)) fun s=>?_;refine ig fun P=>?_;refine bo rg fun R=>?_;refine bo rg fun C=>?_;refine bz lm ?_;refine bo (aN (S:=Int×(aA YZ)) (enc:=fun⟨m,n⟩=>(Q [(0,.yld 4),bE 1 3,aU 6 a,aU 7 b,aU 8 c,cQ 67 x1.aD,aU 68 a,cQ 91 e.aQ,aU 92 b,cQ 107 j.aM,aU 108 c,cQ 127 C.aT,aU 128 m] [(4,.loop 16 [bE 3 1] [7,8] eK eL false none),(2,.lst 51 2 false (I YZ.g n)),(1,.box [.own 2]),(3,.box [.ref 0 0]),aG 0 x1])) (encE:=(fun(r:aA YZ)=>(xq 10 [(0,.yld 4),bE 1 3,aU 6 a,aU 7 b,cQ 67 x1.aD,aU 68 a,cQ 91 e.aQ,aU 92 b,cQ 107 j.aM,aU 108 c] [(4,.loop 16 [bE 3 1] [7,8] eK eL false none),(2,.lst 51 2 false (I YZ.g r)),(1,.box [.own 2]),(3,.box [.ref 0 0]),aG 0 x1]))) (fun⟨m,n⟩=>?_) bS (0,l)) fun r=>?_;refine ig fun T=>?_;refine bo rg fun U=>?_;refine bo rg fun x191=>?_;refine bo rg fun D=>?_;refine bo (Ua d 4 0 b a c m 0 D n) fun V=>?_;rfl;rfl;rfl;rfl;refine bz lm ?_;refine bo (aN (S:=Int×(aA YZ)) (enc:=fun⟨p,q⟩=>(Q [(0,.yld 4),bE 1 3,cQ 166 x1.cJ,aU 167 p] [(4,.loop 16 [bE 3 1] [7,8] eK eL false none),(3,.box [.ref 0 0]),aG 0 x1,(2,.lst 51 2 false (I YZ.g q)),(1,.box [.own 2])])) (encE:=(fun(u:aA YZ)=>(xq 12 [] [(4,.loop 16 [bE 3 1] [7,8] eK eL false none),(3,.box [.ref 0 0]),aG 0 x1,(2,.lst 51 2 false (I YZ.g u)),(1,.box [.own 2])]))) (fun⟨p,q⟩=>?_) bS (0,o)) fun u=>?_;refine ig fun E=>?_;refine bo (Ub d 5 0 0 0 0 0 p E q) fun W=>?_;rfl;rfl
def nJ1 (x1:Y0):aB (aA YZ):=
 (nH1 x1).bind fun _=>(nI1 x1 []).bind fun x2=>some x2
def cA2 (x1:Y0):OD k (d+3) 108 [cX x1]=(nJ1 x1).map (fun a=>gI1 a):=oe rfl<|by
 refine bo (bY2 (d+1) x1) fun _=>?_;refine bo (bZ2 d x1 []) fun x2=>?_;rfl
def gP1 (x1:YZ):aB Bool:=
 (pE x1.kP 0 99).bind fun x2=>((if x2 then(pE x1.fE 1 1073741824).bind fun a=>some a else some false:aB (Bool))).bind fun b=>some b
def tV1 (x1:YZ):OD k (d+2) 109 [Lp x1]=(gP1 x1).map bv:=oe rfl<|by
 refine bo (nA d x1.kP 0 99) fun x2=>?_;refine bo (e:=id) ?_ fun b=>?_;refine io ?_ rfl;refine bo (nA d x1.fE 1 1073741824) fun a=>?_;rfl;rfl
def F7 (x1:Y0) (x2:Int):aB Int:=
 (bC (E:=Int⊕Unit) (fun(a:Int)=>dT x1.nX a (fun b=>if b.kP==x2 then some (.inr (.inl b.fE))else some (.inl (bK (a+1)))) (some (.inr (.inr ())))) bS 0).bind fun c=>(match c with|.inl x6=>some x6|.inr _=>some 0)
def ok7 (x1:Y0) (x2:Int):OD k (d+1) 7 [cX x1,i64 x2]=(F7 x1 x2).map i64:=oe rfl<|by
 refine bz lm ?_;refine bo (aN (S:=Int) (enc:=fun a=>(Q [aU 1 x2,Lq 8 x1.nX,cQ 9 x1.nX,aU 10 a] [aG 0 x1])) (encE:=(fun|.inl b=>(rq [aU 4 b] [aG 0 x1])|.inr _=>(xq 0 [] [aG 0 x1]))) (fun a=>?_) bS 0) fun c=>?_;refine ig fun e=>?_;refine io rfl rfl;rcases c with b|_;rfl;rfl
def gQ1 (x1:aA YV) (x2:Y0) (s:Int):aB (aA YV):=
 (nJ1 x2).bind fun u=>(bC (E:=(aA (YZ×Bool))×(aA YV)) (fun(⟨c,x11,d⟩:Int×(aA (YZ×Bool))×(aA YV))=>dT u c (fun a=>(gP1 a).bind fun g=>((if(!g)||(mY1 x11 a false)then some true else(F7 x2 a.kP).bind fun h=>some (decide (a.fE>h)):aB (Bool))).bind fun i=>(iV i a d x2 s).bind fun j=>some (.inl ((bK (c+1)),(Zw x11 a true),j))) (some (.inr (x11,d)))) bS (0,[],x1)).bind fun⟨t,k⟩=>(bC (E:=Bool) (fun(⟨e,b⟩:Bool×Int)=>dT x2.nX b (fun f=>((if e then some true else(gP1 f).bind fun l=>some (!l):aB (Bool))).bind fun m=>((if m then some true else((if decide (b>0)then(bM x2.nX (bK (b-1))).bind fun n=>some (decide (f.kP<=n.kP))else some false:aB (Bool))).bind fun o=>some o:aB (Bool))).bind fun p=>some (.inl (p,(bK (b+1))))) (some (.inr e))) bS (false,0)).bind fun q=>(iV q (YZ.mk 0 0) k x2 s).bind fun r=>some r
def cB2 (x1:aA YV) (x2:Y0) (f:Int):gA (XD k (d+4)) 76 [.ref 1 0] (cL x1 x2 f) 3 false=(gQ1 x1 x2 f).map (fun(p:aA YV)=>((.tup [],(cL p x2 f),0))):=by
 rw[xd (fn:=p76) rfl];refine bo (cA2 d x2) fun q=>?_;refine bz lm ?_;refine bo (aN (S:=Int×(aA (YZ×Bool))×(aA YV)) (enc:=fun⟨j,x11,h⟩=>(Q [bE 0 1,(2,.map 3),Lq 13 q,cQ 14 q,aU 15 j] ((3,.mp (I (jS (eA YZ.g) bv) x11))::cL h x2 f))) (encE:=(fun(⟨c,b⟩:(aA (YZ×Bool))×(aA YV))=>(xq 0 [bE 0 1] ((3,.mp (I (jS (eA YZ.g) bv) c))::cL b x2 f)))) (fun⟨j,x11,h⟩=>?_) bS (0,[],x1)) fun⟨c,b⟩=>?_;refine ig fun a=>?_;refine bo (tV1 (d+1) a) fun r=>?_;refine bz (gB (bz (Gf Wz bv x11 a false) rfl)) ?_;refine bo (e:=id) ?_ fun n=>?_;refine io rfl ?_;refine bo (ok7 (d+2) x2 a.kP) fun s=>?_;rfl;refine bo (iH (d+2) n a h x2 f) fun t=>?_;refine bz (rT Wz bv x11 a true) ?_;rfl;refine bz lm ?_;refine bo (aN (S:=Bool×Int) (enc:=fun⟨l,m⟩=>(Q [bE 0 1,(5,bv l),Lq 49 x2.nX,cQ 50 x2.nX,aU 51 m] ((3,.mp (I (jS (eA YZ.g) bv) c))::cL b x2 f))) (encE:=(fun(i:Bool)=>(xq 2 [bE 0 1,(5,bv i)] ((3,.mp (I (jS (eA YZ.g) bv) c))::cL b x2 f)))) (fun⟨l,m⟩=>?_) bS (false,0)) fun i=>?_;refine ig fun o=>?_;refine bo (e:=id) ?_ fun v=>?_;refine io rfl ?_;refine bo (tV1 (d+1) o) fun u=>?_;rfl;refine bo (e:=id) ?_ fun y=>?_;refine io rfl ?_;refine bo (e:=id) ?_ fun x=>?_;refine ig fun w=>?_;rfl;rfl;rfl;refine bo (iH (d+2) i (YZ.mk 0 0) b x2 f) fun z=>?_;rfl
def F32 (x1:Y0):aB Int:=
 (bC (E:=Int) (fun(⟨a,b⟩:Int×Int)=>dT x1.bG b (fun c=>some (.inl ((bK (a+(c.bN.length:Int))),(bK (b+1))))) (some (.inr a))) bS (0,0)).bind fun d=>some d
def nK1 (x1:Y0):OD k (d+1) 32 [cX x1]=(F32 x1).map i64:=oe rfl<|by
 refine bz lm ?_;refine bo (aN (S:=Int×Int) (enc:=fun⟨a,b⟩=>(Q [aU 3 a,kN 7 x1.bG,cQ 8 x1.bG,aU 9 b] [aG 0 x1])) (encE:=(fun(c:Int)=>(xq 0 [aU 3 c] [aG 0 x1]))) (fun⟨a,b⟩=>?_) bS (0,0)) fun c=>?_;refine ig fun e=>?_;refine bz lm ?_;rfl;rfl
def aN1 (x1:Int) (x2:YM) (m:Int):aB Bool:=
 (bC (E:=Bool) (fun(⟨b,c⟩:Bool×Int)=>dT x2.aQ c (fun a=>((if b||((a.aM.length:Int)==0)then some true else(bM a.aM 0).bind fun g=>some ((g.aT.length:Int)==0):aB (Bool))).bind fun h=>((if h then some true else(bM a.aM (bK ((a.aM.length:Int)-1))).bind fun i=>some ((i.aT.length:Int)==0):aB (Bool))).bind fun j=>(bC (E:=Bool) (fun(⟨d,e⟩:Bool×Int)=>dT a.aM e (fun f=>some (.inl ((d||(((f.aT.length:Int)==0)&&(decide ((f.dQ.length:Int)>0)))),(bK (e+1))))) (some (.inr d))) bS (j,0)).bind fun k=>some (.inl (k,(bK (c+1))))) (some (.inr b))) bS (((x2.aQ.length:Int)!=m),0)).bind fun l=>some l
def cC2 (x1:Int) (x2:YM) (l:Int):OD k (d+1) 111 [i64 x1,eW x2,.ip [i64 l]]=(aN1 x1 x2 l).map bv:=oe rfl<|by
 refine bz lm ?_;refine bz lm ?_;refine bo (aN (S:=Bool×Int) (enc:=fun⟨c,a⟩=>(Q [(6,bv c),cH 18 x2.aQ,cQ 19 x2.aQ,aU 20 a] [aW 0 x2])) (encE:=(fun(i:Bool)=>(xq 0 [(6,bv i)] [aW 0 x2]))) (fun⟨c,a⟩=>?_) bS (((x2.aQ.length:Int)!=l),0)) fun i=>?_;refine ig fun b=>?_;refine bz (gB (bz lm rfl)) ?_;refine bo (e:=id) ?_ fun n=>?_;refine io rfl ?_;refine bo rg fun m=>?_;refine bz lm ?_;rfl;refine bo (e:=id) ?_ fun j=>?_;refine io rfl ?_;refine bz lm ?_;refine bo rg fun o=>?_;refine bz lm ?_;rfl;refine bz lm ?_;refine bo (aN (S:=Bool×Int) (enc:=fun⟨f,g⟩=>(Q [(6,bv f),cH 18 x2.aQ,cQ 19 x2.aQ,aU 20 a,cS 51 b.aM,cQ 52 b.aM,aU 53 g] [cT 1 b,aW 0 x2])) (encE:=(fun(h:Bool)=>(xq 2 [(6,bv h),cH 18 x2.aQ,cQ 19 x2.aQ,aU 20 a] [cT 1 b,aW 0 x2]))) (fun⟨f,g⟩=>?_) bS (j,0)) fun h=>?_;refine ig fun p=>?_;refine bz (gB (bz lm (bz (iK (bz lm rfl)) rfl))) ?_;rfl;rfl;rfl
def Jq (x1:Int) (x2:aA YV) (e:Y0) (g:Int):aB (aA YV):=
 (bC (E:=aA YV) (fun(⟨d,f⟩:Int×(aA YV))=>dT e.aD d (fun a=>(aN1 d a x1).bind fun x11=>(iV x11 a.ID f e g).bind fun b=>some (.inl ((bK (d+1)),b))) (some (.inr f))) bS (0,x2)).bind fun c=>some c
def xB1 (x1:Int) (x2:aA YV) (a:Y0) (b:Int):gA (XD k (d+2)) 110 [.ref 1 0,.fn 111 [] [.ref 3 0]] ((3,.box [i64 x1])::cL x2 a b) 4 false=(Jq x1 x2 a b).map (fun(f:aA YV)=>((.tup [],((3,.box [i64 x1])::cL f a b),0))):=by
 rw[xd (fn:=Lk) rfl];refine bz lm ?_;refine bo (aN (S:=Int×(aA YV)) (enc:=fun⟨g,h⟩=>(Q [bE 0 1,(1,.fn 111 [] [.ref 3 0]),bB 10 a.aD,cQ 11 a.aD,aU 12 g] ((3,.box [i64 x1])::cL h a b))) (encE:=(fun(e:aA YV)=>(xq 0 [] ((3,.box [i64 x1])::cL e a b)))) (fun⟨g,h⟩=>?_) bS (0,x2)) fun e=>?_;refine ig fun c=>?_;refine bo (cC2 d g c x1) fun x11=>?_;refine bo (iH d x11 c.ID h a b) fun i=>?_;rfl;rfl
def aO1 (x1:aA YV) (x2:Y0) (a:Int):aB (aA YV):=
 (F32 x2).bind fun b=>(Jq b x1 x2 a).bind fun c=>some c
def cD2 (x1:aA YV) (x2:Y0) (a:Int):gA (XD k (d+3)) 77 [.ref 1 0] (cL x1 x2 a) 3 false=(aO1 x1 x2 a).map (fun(c:aA YV)=>((.tup [],(cL c x2 a),0))):=by
 rw[xd (fn:=p77) rfl];refine bo (nK1 (d+1) x2) fun b=>?_;refine bo (xB1 d b x1 x2 a) fun e=>?_;rfl
def nL1:aB Y9:=
 some (Y9.mk (YI.mk (⟨#[116,114,101,98,108,101]⟩:ByteArray) 71 (-2) 0 34 (-1) (-3)) (YI.mk (⟨#[98,97,115,115]⟩:ByteArray) 70 2 0 22 (-3) (-5)) (YI.mk (⟨#[97,108,116,111]⟩:ByteArray) 67 0 0 28 (-2) (-4)) (YI.mk (⟨#[116,101,110,111,114]⟩:ByteArray) 67 2 0 26 (-2) (-2)) (YI.mk (⟨#[115,111,112,114,97,110,111]⟩:ByteArray) 67 (-4) 0 32 (-2) (-3)) (YI.mk (⟨#[109,101,122,122,111,115,111,112,114,97,110,111]⟩:ByteArray) 67 (-2) 0 30 (-2) (-3)) (YI.mk (⟨#[98,97,114,105,116,111,110,101]⟩:ByteArray) 70 0 0 24 (-2) (-3)) (YI.mk (⟨#[116,114,101,98,108,101,56]⟩:ByteArray) 71 (-2) (-1) 27 (-1) (-3)) (YI.mk (⟨#[98,97,115,115,56]⟩:ByteArray) 70 2 (-1) 15 (-3) (-5)))
def cE2:OD k (d+1) 212 []=(nL1).map (fun a=>Bm a):=oe rfl<|by
 rfl
def nM1 (x1:Int):aB (YI×Int):=
 if(decide (x1<1))||(decide (x1>9))then some ((YI.mk (⟨#[]⟩:ByteArray) 0 0 0 0 0 0),11)else(nL1).bind fun x2=>(bM [x2.c0,x2.c1,x2.c2,x2.c3,x2.c4,x2.c5,x2.c6,x2.c7,x2.c8] (bK (x1-1))).bind fun a=>some (a,0)
def cF2 (x1:Int):OD k (d+2) 164 [i64 x1]=(nM1 x1).map (fun⟨a,b⟩=>.tup [Lo a,i64 b]):=oe rfl<|by
 refine bz (gB rfl) ?_;refine io rfl ?_;refine bo (cE2 d) fun x2=>?_;refine bo (Qf (A:=YI) YI.g [x2.c0,x2.c1,x2.c2,x2.c3,x2.c4,x2.c5,x2.c6,x2.c7,x2.c8] (bK (x1-1)) rfl (fun _=>rfl) rfl) fun c=>?_;rfl
def gR1 (x1:Int):aB Int:=
 (nM1 x1).bind fun⟨x2,a⟩=>some a
def tW1 (x1:Int):OD k (d+3) 112 [i64 x1]=(gR1 x1).map i64:=oe rfl<|by
 refine bo (cF2 d x1) fun⟨x2,a⟩=>?_;rfl
def nN1 (x1:YX):aB Bool:=
 if((x1.eY.c0==0)&&((x1.eY.c1==0)&&((x1.eY.c2==0)&&((x1.eY.c3==0)&&((x1.eY.c4==0)&&((x1.eY.c5==0)&&true))))))!=false then some true else(bC (E:=(Int×Int)⊕(Int×Int)) (fun(⟨c,a,d⟩:Int×Int×Int)=>if decide (d<6)then(bM [x1.eY.c0,x1.eY.c1,x1.eY.c2,x1.eY.c3,x1.eY.c4,x1.eY.c5] d).bind fun b=>if((decide (b<0))||(decide (b>64)))||((decide (b>0))&&(d !=a))then some (.inr (.inl (c,a)))else((if decide (b>0)then some ((bK (c+b)),(bK (a+1)))else some (c,a):aB (Int×Int))).bind fun⟨g,e⟩=>some (.inl (g,e,(bK (d+1))))else some (.inr (.inr (c,a)))) bS (0,0,0)).bind fun f=>(match f with|.inl ⟨x11,x12⟩=>some false|.inr ⟨x13,x14⟩=>some ((x13==x1.jC)&&(decide (x14>=2))))
def cG2 (x1:YX):OD k (d+1) 236 [qS x1]=(nN1 x1).map bv:=oe rfl<|by
 refine io rfl ?_;refine bo (aN (S:=Int×Int×Int) (enc:=fun⟨g,h,c⟩=>(Q [bE 1 0,aU 3 g,aU 4 h,(12,Jn x1.eY),aU 13 c] [rY 0 x1])) (encE:=(fun|.inl ⟨x11,b⟩=>(rq [bE 1 0,(2,bv false),aU 3 x11,aU 4 b] [rY 0 x1])|.inr ⟨x13,x14⟩=>(xq 0 [bE 1 0,aU 3 x13,aU 4 x14] [rY 0 x1]))) (fun⟨g,h,c⟩=>?_) bS (0,0,0)) fun f=>?_;refine io ?_ rfl;refine bo (rS .i64 [x1.eY.c0,x1.eY.c1,x1.eY.c2,x1.eY.c3,x1.eY.c4,x1.eY.c5] c rfl) fun j=>?_;refine bz (gB rfl) ?_;refine bz (gB (bz (iK rfl) rfl)) ?_;refine io rfl ?_;refine bo (e:=(fun(⟨i,a⟩:Int×Int)=>(nq [bE 1 0,aU 3 i,aU 4 a,(12,Jn x1.eY),aU 13 c] [rY 0 x1]))) ?_ fun⟨i,a⟩=>?_;refine io rfl rfl;rfl;rcases f with⟨x11,b⟩|⟨x13,x14⟩
 rfl;refine bz (iK rfl) ?_;rfl
def nO1 (x1:YX):aB Int:=
 if(decide (x1.jC<1))||(decide (x1.jC>64))then some 2 else if((decide (x1.Unit<1))||(decide (x1.Unit>64)))||((Qg .i64 x1.Unit (bK (x1.Unit-1)))!=0)then some 17 else(nN1 x1).bind fun x2=>if !x2 then some 19 else some 0
def cH2 (x1:YX):OD k (d+2) 213 [qS x1]=(nO1 x1).map i64:=oe rfl<|by
 refine bz (gB rfl) ?_;refine io rfl ?_;refine bz (gB rfl) ?_;refine bz (gB rfl) ?_;refine io rfl ?_;refine bo (cG2 d x1) fun x2=>?_;refine io rfl rfl
def nP1 (x1:YX):aB Int:=
 (Li .i64 1935360 x1.Unit).bind fun x2=>some x2
def cI2 (x1:YX):OD k (d+1) 237 [qS x1]=(nP1 x1).map i64:=oe rfl<|by
 refine bo oi fun x2=>?_;rfl
def nQ1 (x1:YX):aB Int:=
 (nP1 x1).bind fun x2=>some (bK (x1.jC*x2))
def cJ2 (x1:YX):OD k (d+2) 214 [qS x1]=(nQ1 x1).map i64:=oe rfl<|by
 refine bo (cI2 d x1) fun x2=>?_;rfl
def nR1 (x1:YX):aB (Int×Int):=
 (nO1 x1).bind fun x2=>if x2 !=0 then some (0,x2)else(nQ1 x1).bind fun a=>some (a,0)
def cK2 (x1:YX):OD k (d+3) 165 [qS x1]=(nR1 x1).map (fun⟨a,b⟩=>.tup [i64 a,i64 b]):=oe rfl<|by
 refine bo (cH2 d x1) fun x2=>?_;refine io rfl ?_;refine bo (cJ2 d x1) fun c=>?_;rfl
def Lr (x1:YM):aB (Int×Int):=
 (nR1 x1.vN).bind fun⟨x2,b⟩=>if b !=0 then some (0,b)else if decide (x1.iX<0)then some (0,2)else((if decide (x1.iX>0)then some x1.iX else some x2:aB (Int))).bind fun a=>(Lj .i64 a 7560).bind fun c=>if c !=0 then some (0,16)else if decide (a>15482880)then some (0,5)else some (a,0)
def Jr (x1:YM):OD k (d+4) 114 [eW x1]=(Lr x1).map (fun⟨b,c⟩=>.tup [i64 b,i64 c]):=oe rfl<|by
 refine bo (cK2 d x1.vN) fun⟨x2,f⟩=>?_;refine io rfl ?_;refine io rfl ?_;refine bo (e:=(fun(a:Int)=>(nq [aU 4 a] [aW 0 x1]))) ?_ fun a=>?_;refine io rfl rfl;refine bo oi fun g=>?_;refine io rfl ?_;refine io rfl rfl
def nS1 (x1:Int) (x2:YM):aB Bool:=
 (Lr x2).bind fun⟨p,q⟩=>(bC (E:=Bool) (fun(⟨c,d⟩:Bool×Int)=>dT x2.aQ d (fun e=>(bC (E:=Bool) (fun(⟨f,a⟩:Bool×Int)=>dT e.nC a (fun b=>((if f then some true else(gR1 b.Uy).bind fun g=>some (g !=0):aB (Bool))).bind fun h=>((if h then some true else(pE b.At 0 (bK (p-1))).bind fun i=>some (!i):aB (Bool))).bind fun j=>((if j then some true else((if decide (a>0)then(bM e.nC (bK (a-1))).bind fun k=>some (decide (b.At<=k.At))else some false:aB (Bool))).bind fun l=>some l:aB (Bool))).bind fun m=>some (.inl (m,(bK (a+1))))) (some (.inr f))) bS (c,0)).bind fun n=>some (.inl (n,(bK (d+1))))) (some (.inr c))) bS (false,0)).bind fun o=>some (o&&(q==0))
def cL2 (x1:Int) (x2:YM):OD k (d+5) 113 [i64 x1,eW x2]=(nS1 x1 x2).map bv:=oe rfl<|by
 refine bo (Jr d x2) fun⟨l,m⟩=>?_;refine bz lm ?_;refine bo (aN (S:=Bool×Int) (enc:=fun⟨c,a⟩=>(Q [aU 5 l,aU 6 m,(7,bv c),cH 18 x2.aQ,cQ 19 x2.aQ,aU 20 a] [aW 0 x2])) (encE:=(fun(j:Bool)=>(xq 0 [aU 6 m,(7,bv j)] [aW 0 x2]))) (fun⟨c,a⟩=>?_) bS (false,0)) fun j=>?_;refine ig fun b=>?_;refine bz lm ?_;refine bo (aN (S:=Bool×Int) (enc:=fun⟨f,g⟩=>(Q [aU 5 l,aU 6 m,(7,bv f),bE 9 1,cH 18 x2.aQ,cQ 19 x2.aQ,aU 20 a,Bn 25 b.nC,cQ 26 b.nC,aU 27 g] [cT 1 b,aW 0 x2])) (encE:=(fun(i:Bool)=>(xq 2 [aU 5 l,aU 6 m,(7,bv i),cH 18 x2.aQ,cQ 19 x2.aQ,aU 20 a] [cT 1 b,aW 0 x2]))) (fun⟨f,g⟩=>?_) bS (c,0)) fun i=>?_;refine ig fun h=>?_;refine bo (e:=id) ?_ fun o=>?_;refine io rfl ?_;refine bo (tW1 (d+1) h.Uy) fun n=>?_;rfl;refine bo (e:=id) ?_ fun q=>?_;refine io rfl ?_;refine bo (nA (d+3) h.At 0 (bK (l-1))) fun p=>?_;rfl;refine bo (e:=id) ?_ fun t=>?_;refine io rfl ?_;refine bo (e:=id) ?_ fun s=>?_;refine ig fun r=>?_;rfl;rfl;rfl;rfl;refine bz (iK rfl) ?_;rfl
def Cn (x1:aA YV) (x2:Y0) (f:Int):aB (aA YV):=
 (bC (E:=aA YV) (fun(⟨c,d⟩:Int×(aA YV))=>dT x2.aD c (fun e=>(nS1 c e).bind fun a=>(iV a e.ID d x2 f).bind fun x11=>some (.inl ((bK (c+1)),x11))) (some (.inr d))) bS (0,x1)).bind fun b=>some b
def gS1 (x1:aA YV) (x2:Y0) (a:Int):gA (XD k (d+6)) 110 [.ref 1 0,.fn 113 [] []] (cL x1 x2 a) 3 false=(Cn x1 x2 a).map (fun(e:aA YV)=>((.tup [],(cL e x2 a),0))):=by
 rw[xd (fn:=Lk) rfl];refine bz lm ?_;refine bo (aN (S:=Int×(aA YV)) (enc:=fun⟨f,g⟩=>(Q [bE 0 1,(1,.fn 113 [] []),bB 10 x2.aD,cQ 11 x2.aD,aU 12 f] (cL g x2 a))) (encE:=(fun(b:aA YV)=>(xq 0 [] (cL b x2 a)))) (fun⟨f,g⟩=>?_) bS (0,x1)) fun b=>?_;refine ig fun h=>?_;refine bo (cL2 d f h) fun c=>?_;refine bo (iH (d+4) c h.ID g x2 a) fun x11=>?_;rfl;rfl
def gT1 (x1:aA YV) (x2:Y0) (l:Int):aB (aA YV):=
 (bC (E:=aA YV) (fun(⟨a,b⟩:Int×(aA YV))=>dT x2.bG a (fun f=>(bC (E:=aA YV) (fun(⟨c,d⟩:Int×(aA YV))=>dT f.bN c (fun e=>(gR1 e.Uy).bind fun g=>(iV (g !=0) e.ID d x2 l).bind fun h=>some (.inl ((bK (c+1)),h))) (some (.inr d))) bS (0,b)).bind fun i=>some (.inl ((bK (a+1)),i))) (some (.inr b))) bS (0,x1)).bind fun j=>(Cn j x2 l).bind fun k=>some k
def cM2 (x1:aA YV) (x2:Y0) (c:Int):gA (XD k (d+7)) 78 [.ref 1 0] (cL x1 x2 c) 3 false=(gT1 x1 x2 c).map (fun(m:aA YV)=>((.tup [],(cL m x2 c),0))):=by
 rw[xd (fn:=p78) rfl];refine bz lm ?_;refine bo (aN (S:=Int×(aA YV)) (enc:=fun⟨a,e⟩=>(Q [bE 0 1,kN 10 x2.bG,cQ 11 x2.bG,aU 12 a] (cL e x2 c))) (encE:=(fun(g:aA YV)=>(xq 0 [bE 0 1] (cL g x2 c)))) (fun⟨a,e⟩=>?_) bS (0,x1)) fun g=>?_;refine ig fun b=>?_;refine bz lm ?_;refine bo (aN (S:=Int×(aA YV)) (enc:=fun⟨h,f⟩=>(Q [bE 0 1,kN 10 x2.bG,cQ 11 x2.bG,aU 12 a,Tw 17 b.bN,cQ 18 b.bN,aU 19 h] (Af 3 b::cL f x2 c))) (encE:=(fun(j:aA YV)=>(xq 2 [bE 0 1,kN 10 x2.bG,cQ 11 x2.bG,aU 12 a] (Af 3 b::cL j x2 c)))) (fun⟨h,f⟩=>?_) bS (0,e)) fun j=>?_;refine ig fun i=>?_;refine bo (tW1 (d+3) i.Uy) fun l=>?_;refine bo (iH (d+5) (l !=0) i.ID f x2 c) fun n=>?_;rfl;rfl;refine bo (gS1 d g x2 c) fun o=>?_;rfl
def nT1 (x1:Int):aB Int:=
 if(decide (x1<(-7)))||(decide (x1>7))then some 2 else some 0
def cN2 (x1:Int):OD k (d+1) 166 [i64 x1]=(nT1 x1).map i64:=oe rfl<|by
 refine bz (gB rfl) ?_;refine io rfl rfl
def nU1 (x1:Int) (x2:YL):aB (Int×Int):=
 (nT1 x1).bind fun c=>if c !=0 then some (0,c)else if(((decide (x2.mJ<(-77)))||(decide (x2.mJ>77)))||(decide (x2.aZ<(-140))))||(decide (x2.aZ>140))then some (0,2)else(bC (E:=Int) (fun(a:Int)=>if decide (a>7)then some (.inl (bK (a-12)))else some (.inr a)) bS (bK (x1+(bK ((bK (7*x2.aZ))-(bK (12*x2.mJ))))))).bind fun d=>(bC (E:=Int) (fun(b:Int)=>if decide (b<(-7))then some (.inl (bK (b+12)))else some (.inr b)) bS d).bind fun e=>some (e,0)
def cO2 (x1:Int) (x2:YL):OD k (d+2) 116 [i64 x1,hU x2]=(nU1 x1 x2).map (fun⟨f,g⟩=>.tup [i64 f,i64 g]):=oe rfl<|by
 refine bo (cN2 d x1) fun h=>?_;refine io rfl ?_;refine bz (gB rfl) ?_;refine bz (gB rfl) ?_;refine bz (gB rfl) ?_;refine io rfl ?_;refine bo (aN (S:=Int) (enc:=fun b=>(Q [aU 0 b] [aR 0 x2])) (encE:=(fun(a:Int)=>(xq 0 [aU 0 a] [aR 0 x2]))) (fun b=>?_) bS (bK (x1+(bK ((bK (7*x2.aZ))-(bK (12*x2.mJ))))))) fun a=>?_;refine io rfl rfl;refine bo (aN (S:=Int) (enc:=fun c=>(Q [aU 0 c] [aR 0 x2])) (encE:=(fun(e:Int)=>(xq 2 [aU 0 e] [aR 0 x2]))) (fun c=>?_) bS a) fun e=>?_;refine io rfl rfl;rfl
def nV1 (x1:Int) (x2:YM) (g:YK):aB Bool:=
 (Lr x2).bind fun⟨l,i⟩=>((if i !=0 then some true else(pE x2.Gy (-7) 7).bind fun j=>some (!j):aB (Bool))).bind fun k=>(bC (E:=Bool) (fun(⟨a,b⟩:Bool×Int)=>dT g.s'.bG b (fun c=>((if g.s'.bV&&(!a)then(nU1 x2.Gy c.aK).bind fun⟨h,d⟩=>some (d !=0)else some a:aB (Bool))).bind fun e=>some (.inl (e,(bK (b+1))))) (some (.inr a))) bS (k,0)).bind fun f=>some f
def cP2 (x1:Int) (x2:YM) (a:YK):OD k (d+5) 115 [i64 x1,eW x2,.ip [dF a]]=(nV1 x1 x2 a).map bv:=oe rfl<|by
 refine bo (Jr d x2) fun⟨m,n⟩=>?_;refine bo (e:=id) ?_ fun l=>?_;refine io rfl ?_;refine bo (nA (d+3) x2.Gy (-7) 7) fun o=>?_;rfl;refine bz lm ?_;refine bo (aN (S:=Bool×Int) (enc:=fun⟨c,b⟩=>(Q [(2,.ip [dF a]),bE 4 0,(8,bv c),kN 28 a.s'.bG,cQ 29 a.s'.bG,aU 30 b] [aW 0 x2])) (encE:=(fun(h:Bool)=>(xq 0 [(8,bv h)] [aW 0 x2]))) (fun⟨c,b⟩=>?_) bS (l,0)) fun h=>?_;refine ig fun f=>?_;refine bz (iK rfl) ?_;refine bo (e:=(fun(g:Bool)=>(nq [(2,.ip [dF a]),bE 4 0,(8,bv g),kN 28 a.s'.bG,cQ 29 a.s'.bG,aU 30 b] [Af 1 f,aW 0 x2]))) ?_ fun g=>?_;refine io ?_ rfl;refine bo (cO2 (d+2) x2.Gy f.aK) fun⟨i,j⟩=>?_;rfl;rfl;rfl
def Co (x1:aA YV) (x2:Y0) (e:Int):aB (aA YV):=
 (bC (E:=aA YV) (fun(⟨c,d⟩:Int×(aA YV))=>dT x2.aD c (fun f=>(nV1 c f (YK.mk x2 e d)).bind fun a=>(iV a f.ID d x2 e).bind fun x11=>some (.inl ((bK (c+1)),x11))) (some (.inr d))) bS (0,x1)).bind fun b=>some b
def gU1 (x1:aA YV) (x2:Y0) (a:Int):gA (XD k (d+6)) 110 [.ref 1 0,.fn 115 [] [.ref 3 0]] ((3,.box [.ref 1 0])::cL x1 x2 a) 4 false=(Co x1 x2 a).map (fun(f:aA YV)=>((.tup [],((3,.box [.ref 1 0])::cL f x2 a),0))):=by
 rw[xd (fn:=Lk) rfl];refine bz lm ?_;refine bo (aN (S:=Int×(aA YV)) (enc:=fun⟨g,c⟩=>(Q [bE 0 1,(1,.fn 115 [] [.ref 3 0]),bB 10 x2.aD,cQ 11 x2.aD,aU 12 g] ((3,.box [.ref 1 0])::cL c x2 a))) (encE:=(fun(b:aA YV)=>(xq 0 [] ((3,.box [.ref 1 0])::cL b x2 a)))) (fun⟨g,c⟩=>?_) bS (0,x1)) fun b=>?_;refine ig fun h=>?_;refine bo (cP2 d g h (YK.mk x2 a c)) fun e=>?_;refine bo (iH (d+4) e h.ID c x2 a) fun x11=>?_;rfl;rfl
def gV1 (x1:aA YV) (x2:Y0) (a:Int):aB (aA YV):=
 (Co x1 x2 a).bind fun b=>some b
def cQ2 (x1:aA YV) (x2:Y0) (a:Int):gA (XD k (d+7)) 79 [.ref 1 0] (cL x1 x2 a) 3 false=(gV1 x1 x2 a).map (fun(b:aA YV)=>((.tup [],(cL b x2 a),0))):=by
 rw[xd (fn:=p79) rfl];refine bo (gU1 d x1 x2 a) fun c=>?_;rfl
def vA (x1 x2:Int):aB Int:=
 if(decide (x1<0))||(decide (x1>x2))then some 2 else some 0
def qT (x1 x2:Int):OD k (d+1) 174 [i64 x1,i64 x2]=(vA x1 x2).map i64:=oe rfl<|by
 refine bz (gB rfl) ?_;refine io rfl rfl
def Gt (x1:aA Int):aB Int:=
 (bC (E:=Int⊕Unit) (fun(a:Int)=>dT x1 a (fun b=>if b !=0 then some (.inr (.inl b))else some (.inl (bK (a+1)))) (some (.inr (.inr ())))) bS 0).bind fun c=>(match c with|.inl x5=>some x5|.inr _=>some 0)
def Qt (x1:aA Int):OD k (d+1) 173 [nM x1]=(Gt x1).map i64:=oe rfl<|by
 refine bz lm ?_;refine bo (aN (S:=Int) (enc:=fun a=>(Q [tT 5 x1,cQ 6 x1,aU 7 a] [])) (encE:=Ri 2) (fun a=>?_) bS 0) fun b=>?_;refine ig fun c=>?_;refine io rfl rfl;rcases b with e|_;rfl;rfl
def gW1 (x1:Int):aB Bool:=
 some ((decide (x1>=1))&&(decide (x1<=4)))
def tX1 (x1:Int):OD k (d+1) 175 [i64 x1]=(gW1 x1).map bv:=oe rfl<|by
 refine bz (iK rfl) ?_;rfl
def nW1 (x1:Int):aB Int:=
 if decide (x1<0)then some 0 else some (Qg .i64 x1 16)
def cR2 (x1:Int):OD k (d+1) 220 [i64 x1]=(nW1 x1).map i64:=oe rfl<|by
 refine io rfl rfl
def gX1 (x1:YE):aB YE:=
 ((if x1.cE==1 then some true else(gW1 x1.cE).bind fun x2=>some (!x2):aB (Bool))).bind fun a=>if a then some x1 else((if x1.cE !=3 then some x1.Value else some (YA.mk 0 0):aB (YA))).bind fun b=>((if x1.cE !=4 then(nW1 x1.bQ).bind fun c=>some c else some 0:aB (Int))).bind fun d=>some (YE.mk x1.ID x1.cE b [] [] d 0 x1.dU [] 0 0)
def cS2 (x1:YE):OD k (d+2) 177 [eI x1]=(gX1 x1).map (fun c=>eI c):=oe rfl<|by
 refine bo (e:=id) ?_ fun f=>?_;refine io rfl ?_;refine bo (tX1 d x1.cE) fun x2=>?_;rfl;refine io rfl ?_;refine bo (e:=(fun(a:YA)=>(nq [bE 1 0,bE 2 1,bE 3 2] [(2,.box [i64 x1.ID.kP,i64 x1.ID.fE,i64 x1.cE,i64 a.Log,i64 a.pC,.v (.slice none 0 0),.v (.slice none 0 0),i64 0,i64 0,i64 x1.dU,.v (.slice none 0 0),i64 0,i64 0]),bT2,eG 0 x1]))) ?_ fun a=>?_;refine io rfl rfl;refine bo (e:=(fun(b:Int)=>(nq [bE 2 1,bE 3 2] [(2,.box [i64 x1.ID.kP,i64 x1.ID.fE,i64 x1.cE,i64 a.Log,i64 a.pC,.v (.slice none 0 0),.v (.slice none 0 0),i64 b,i64 0,i64 x1.dU,.v (.slice none 0 0),i64 0,i64 0]),bT2,eG 0 x1]))) ?_ fun b=>?_;refine io ?_ rfl;refine bo (cR2 d x1.bQ) fun g=>?_;rfl;rfl
def aP1 (x1 x2:aA YB):aB Bool:=
 if(x1.length:Int)!=(x2.length:Int)then some false else(bC (E:=Unit⊕Unit) (fun(c:Int)=>dT x1 c (fun a=>(bM x2 c).bind fun b=>if((a.cC.nJ==b.cC.nJ)&&((a.cC.mI==b.cC.mI)&&((a.cC.jB==b.cC.jB)&&((a.nW==b.nW)&&((a.vD==b.vD)&&true)))))!=true then some (.inr (.inl ()))else some (.inl (bK (c+1)))) (some (.inr (.inr ())))) bS 0).bind fun d=>(match d with|.inl _=>some false|.inr _=>some true)
def cT2 (x1 x2:aA YB):OD k (d+1) 217 [gX x1,gX x2]=(aP1 x1 x2).map bv:=oe rfl<|by
 refine bz lm ?_;refine bz lm ?_;refine io rfl ?_;refine bz lm ?_;refine bo (aN (S:=Int) (enc:=fun a=>(Q [mS 0 x1,mS 1 x2,cQ 12 x1,aU 13 a] [])) (encE:=(fun|.inl _=>(rq [(4,bv false)] [])|.inr _=>(xq 0 [] []))) (fun a=>?_) bS 0) fun b=>?_;refine ig fun c=>?_;refine bo rg fun e=>?_;refine io rfl rfl;rcases b with _|_;rfl;rfl
def nX1 (x1 x2:aA YD):aB Bool:=
 if(x1.length:Int)!=(x2.length:Int)then some false else(bC (E:=Unit⊕Unit) (fun(c:Int)=>dT x1 c (fun a=>(bM x2 c).bind fun b=>if((a.cC.nJ==b.cC.nJ)&&((a.cC.mI==b.cC.mI)&&((a.cC.jB==b.cC.jB)&&((a.Log==b.Log)&&((a.kN1==b.kN1)&&true)))))!=true then some (.inr (.inl ()))else some (.inl (bK (c+1)))) (some (.inr (.inr ())))) bS 0).bind fun d=>(match d with|.inl _=>some false|.inr _=>some true)
def cU2 (x1 x2:aA YD):OD k (d+1) 218 [kL x1,kL x2]=(nX1 x1 x2).map bv:=oe rfl<|by
 refine bz lm ?_;refine bz lm ?_;refine io rfl ?_;refine bz lm ?_;refine bo (aN (S:=Int) (enc:=fun a=>(Q [rX 0 x1,rX 1 x2,cQ 12 x1,aU 13 a] [])) (encE:=(fun|.inl _=>(rq [(4,bv false)] [])|.inr _=>(xq 0 [] []))) (fun a=>?_) bS 0) fun b=>?_;refine ig fun c=>?_;refine bo rg fun e=>?_;refine io rfl rfl;rcases b with _|_;rfl;rfl
end Go.P
namespace Go.P
open Go.Sim (Ex gC CK)
open K (I Q rq nq xq ck)
variable {k:Bool} (d:Nat)
def nY1 (x1 x2:aA YY):aB Bool:=
 if(x1.length:Int)!=(x2.length:Int)then some false else(bC (E:=Unit⊕Unit) (fun(a:Int)=>dT x1 a (fun b=>(bM x2 a).bind fun c=>if((b.qB==c.qB)&&((b.Bs==c.Bs)&&true))!=true then some (.inr (.inl ()))else some (.inl (bK (a+1)))) (some (.inr (.inr ())))) bS 0).bind fun d=>(match d with|.inl _=>some false|.inr _=>some true)
def cV2 (x1 x2:aA YY):OD k (d+1) 219 [jI x1,jI x2]=(nY1 x1 x2).map bv:=oe rfl<|by
 refine bz lm ?_;refine bz lm ?_;refine io rfl ?_;refine bz lm ?_;refine bo (aN (S:=Int) (enc:=fun a=>(Q [jP 0 x1,jP 1 x2,cQ 12 x1,aU 13 a] [])) (encE:=(fun|.inl _=>(rq [(4,bv false)] [])|.inr _=>(xq 0 [] []))) (fun a=>?_) bS 0) fun b=>?_;refine ig fun c=>?_;refine bo rg fun e=>?_;refine io rfl rfl;rcases b with _|_;rfl;rfl
def gY1 (x1 x2:YE):aB Bool:=
 ((if((((((x1.cE==x2.cE)&&(((x1.Value.Log==x2.Value.Log)&&((x1.Value.pC==x2.Value.pC)&&true))!=false))&&(x1.bQ==x2.bQ))&&(x1.dM==x2.dM))&&(x1.dU==x2.dU))&&(x1.kZ==x2.kZ))&&(x1.kY==x2.kY)then(aP1 x1.cA x2.cA).bind fun a=>some a else some false:aB (Bool))).bind fun b=>((if b then(nX1 x1.dX x2.dX).bind fun c=>some c else some false:aB (Bool))).bind fun d=>((if d then(nY1 x1.dA x2.dA).bind fun e=>some e else some false:aB (Bool))).bind fun f=>some f
def cW2 (x1 x2:YE):OD k (d+2) 176 [eI x1,eI x2]=(gY1 x1 x2).map bv:=oe rfl<|by
 refine bz (iK rfl) ?_;refine bz (iK rfl) ?_;refine bz (iK rfl) ?_;refine bz (iK rfl) ?_;refine bz (iK rfl) ?_;refine bz (iK rfl) ?_;refine bo (e:=id) ?_ fun b=>?_;refine io ?_ rfl;refine bo (cT2 d x1.cA x2.cA) fun a=>?_;rfl;refine bo (e:=id) ?_ fun f=>?_;refine io ?_ rfl;refine bo (cU2 d x1.dX x2.dX) fun c=>?_;rfl;refine bo (e:=id) ?_ fun h=>?_;refine io ?_ rfl;refine bo (cV2 d x1.dA x2.dA) fun g=>?_;rfl;rfl
def gZ1 (x1:YA):aB Int:=
 if(((decide (x1.Log<(-1)))||(decide (x1.Log>8)))||(decide (x1.pC<0)))||(decide (x1.pC>3))then some 17 else some 0
def tY1 (x1:YA):OD k (d+1) 178 [Ae x1]=(gZ1 x1).map i64:=oe rfl<|by
 refine bz (gB rfl) ?_;refine bz (gB rfl) ?_;refine bz (gB rfl) ?_;refine io rfl rfl
def aQ1:aB Ab:=
 some (Ab.mk 0 2 4 5 7 9 11)
def tZ1:OD k (d+1) 209 []=(aQ1).map (fun a=>Ad a):=oe rfl<|by
 rfl
def hA1 (x1:YH):aB Int:=
 (aQ1).bind fun x2=>(bM [x2.c0,x2.c1,x2.c2,x2.c3,x2.c4,x2.c5,x2.c6] x1.nJ).bind fun a=>some (bK ((bK ((bK (12*(bK (x1.jB+1))))+a))+x1.mI))
def uA1 (x1:YH):OD k (d+2) 158 [fJ x1]=(hA1 x1).map i64:=oe rfl<|by
 refine bo (tZ1 d) fun x2=>?_;refine bo (rS .i64 [x2.c0,x2.c1,x2.c2,x2.c3,x2.c4,x2.c5,x2.c6] x1.nJ rfl) fun a=>?_;rfl
def nH (x1:YH):aB Int:=
 if(((((decide (x1.nJ<0))||(decide (x1.nJ>6)))||(decide (x1.mI<(-2))))||(decide (x1.mI>2)))||(decide (x1.jB<(-1))))||(decide (x1.jB>9))then some 18 else(hA1 x1).bind fun x2=>if(decide (x2<0))||(decide (x2>127))then some 18 else some 0
def hB1 (x1:YH):OD k (d+3) 157 [fJ x1]=(nH x1).map i64:=oe rfl<|by
 refine bz (gB rfl) ?_;refine bz (gB rfl) ?_;refine bz (gB rfl) ?_;refine bz (gB rfl) ?_;refine bz (gB rfl) ?_;refine io rfl ?_;refine bo (uA1 d x1) fun x2=>?_;refine bz (gB rfl) ?_;refine io rfl rfl
def Ms (x1:YH):aB (Int×Int):=
 (nH x1).bind fun x2=>if x2 !=0 then some (0,x2)else(hA1 x1).bind fun a=>some (a,0)
def Uc (x1:YH):OD k (d+4) 99 [fJ x1]=(Ms x1).map (fun⟨a,b⟩=>.tup [i64 a,i64 b]):=oe rfl<|by
 refine bo (hB1 d x1) fun x2=>?_;refine io rfl ?_;refine bo (uA1 (d+1) x1) fun c=>?_;rfl
def Qu (x1:YH):aB (Int×Int):=
 (Ms x1).bind fun⟨x2,a⟩=>if((a !=0)||(decide (x2<0)))||(decide (x2>127))then some (0,18)else some (x2,0)
def hD1 (x1:YH):OD k (d+5) 222 [fJ x1]=(Qu x1).map (fun⟨a,b⟩=>.tup [i64 a,i64 b]):=oe rfl<|by
 refine bo (Uc d x1) fun⟨x2,c⟩=>?_;refine bz (gB rfl) ?_;refine bz (gB rfl) ?_;refine io rfl rfl
def Ud (x1:YB):aB Int:=
 (Qu x1.cC).bind fun⟨x2,a⟩=>(vA x1.vD 2).bind fun b=>(Gt [a,b]).bind fun c=>some c
def cX2 (x1:YB):OD k (d+6) 221 [yG x1]=(Ud x1).map i64:=oe rfl<|by
 refine bo (hD1 d x1.cC) fun⟨x2,a⟩=>?_;refine bo (qT (d+4) x1.vD 2) fun b=>?_;refine bo (Qt (d+4) [a,b]) fun c=>?_;rfl
def aR1 (x1:aA YB):aB Int:=
 if(x1.length:Int)==0 then some 4 else if decide ((x1.length:Int)>10)then some 9 else(bC (E:=Int⊕Unit) (fun(⟨f,c⟩:Int×Int)=>dT x1 c (fun d=>(Ud d).bind fun e=>if e !=0 then some (.inr (.inl e))else(Qu d.cC).bind fun⟨a,x11⟩=>if decide (a<=f)then some (.inr (.inl 25))else some (.inl (a,(bK (c+1))))) (some (.inr (.inr ())))) bS ((-1),0)).bind fun b=>(match b with|.inl x12=>some x12|.inr _=>some 0)
def cY2 (x1:aA YB):OD k (d+7) 179 [gX x1]=(aR1 x1).map i64:=oe rfl<|by
 refine bz lm ?_;refine io rfl ?_;refine bz lm ?_;refine io rfl ?_;refine bz lm ?_;refine bo (aN (S:=Int×Int) (enc:=fun⟨c,e⟩=>(Q [aU 3 c,mS 17 x1,cQ 18 x1,aU 19 e] [])) (encE:=(fun|.inl a=>(rq [aU 2 a] [])|.inr _=>(xq 1 [] []))) (fun⟨c,e⟩=>?_) bS ((-1),0)) fun b=>?_;refine ig fun f=>?_;refine bo (cX2 d f) fun h=>?_;refine io rfl ?_;refine bo (hD1 (d+1) f.cC) fun⟨g,x11⟩=>?_;refine io rfl rfl;rcases b with a|_;rfl;rfl
def nZ1 (x1:aA YD):aB Int:=
 if decide ((x1.length:Int)>8)then some 9 else(bC (E:=Int⊕Unit) (fun(c:Int)=>dT x1 c (fun b=>(Qu b.cC).bind fun⟨e,d⟩=>if d !=0 then some (.inr (.inl d))else if(decide (b.Log<1))||(decide (b.Log>6))then some (.inr (.inl 2))else some (.inl (bK (c+1)))) (some (.inr (.inr ())))) bS 0).bind fun a=>(match a with|.inl x9=>some x9|.inr _=>some 0)
def cZ2 (x1:aA YD):OD k (d+6) 180 [kL x1]=(nZ1 x1).map i64:=oe rfl<|by
 refine bz lm ?_;refine io rfl ?_;refine bz lm ?_;refine bo (aN (S:=Int) (enc:=fun b=>(Q [rX 10 x1,cQ 11 x1,aU 12 b] [])) (encE:=Ri 2) (fun b=>?_) bS 0) fun a=>?_;refine ig fun c=>?_;refine bo (hD1 d c.cC) fun⟨e,f⟩=>?_;refine io rfl ?_;refine bz (gB rfl) ?_;refine io rfl rfl;rcases a with g|_;rfl;rfl
def oA1 (x1:YY):aB Int:=
 if(decide (x1.Bs<0))||(decide (x1.Bs>2))then some 2 else if decide ((x1.qB.size:Int)>256)then some 5 else(bC (E:=Unit⊕Unit) (fun(a:Int)=>if decide (a<(x1.qB.size:Int))then(tE x1.qB a).bind fun b=>((if decide (b<32)then some true else(tE x1.qB a).bind fun c=>some (c==127):aB (Bool))).bind fun d=>if d then some (.inr (.inl ()))else some (.inl (bK (a+1)))else some (.inr (.inr ()))) bS 0).bind fun e=>(match e with|.inl _=>some 6|.inr _=>if(x1.qB.toList==(⟨#[]⟩:ByteArray).toList)&&(x1.Bs==1)then some 3 else some 0)
def dA2 (x1:YY):OD k (d+1) 223 [yH x1]=(oA1 x1).map i64:=oe rfl<|by
 refine bz (gB rfl) ?_;refine io rfl ?_;refine io rfl ?_;refine bo (aN (S:=Int) (enc:=fun a=>(Q [bE 1 0,(20,i64 (x1.qB.size:Int)),aU 21 a] [eQ 0 x1])) (encE:=(fun|.inl _=>(rq [bE 1 0,aU 2 6] [eQ 0 x1])|.inr _=>(xq 1 [bE 1 0] [eQ 0 x1]))) (fun a=>?_) bS 0) fun b=>?_;refine io ?_ rfl;refine bo oi fun c=>?_;refine bo (e:=id) ?_ fun g=>?_;refine io rfl ?_;refine bo oi fun f=>?_;rfl;refine io rfl rfl;rcases b with _|_;rfl;refine bz (iK rfl) ?_;refine io rfl rfl
def oB1 (x1:YY):aB Bool:=
 some (((x1.qB==(⟨#[]⟩:ByteArray))&&((x1.Bs==0)&&true))!=false)
def dB2 (x1:YY):OD k (d+1) 224 [yH x1]=(oB1 x1).map bv:=oe rfl<|by
 rfl
def oC1 (x1:aA YY):aB Int:=
 if decide ((x1.length:Int)>4)then some 9 else(bC (E:=Int⊕Unit) (fun(b:Int)=>dT x1 b (fun d=>(oA1 d).bind fun c=>if c !=0 then some (.inr (.inl c))else some (.inl (bK (b+1)))) (some (.inr (.inr ())))) bS 0).bind fun e=>(match e with|.inl x7=>some x7|.inr _=>((if decide ((x1.length:Int)>0)then(bM x1 (bK ((x1.length:Int)-1))).bind fun f=>(oB1 f).bind fun a=>some a else some false:aB (Bool))).bind fun x11=>if x11 then some 3 else some 0)
def dC2 (x1:aA YY):OD k (d+2) 181 [jI x1]=(oC1 x1).map i64:=oe rfl<|by
 refine bz lm ?_;refine io rfl ?_;refine bz lm ?_;refine bo (aN (S:=Int) (enc:=fun a=>(Q [jP 0 x1,jP 10 x1,cQ 11 x1,aU 12 a] [])) (encE:=(fun|.inl b=>(rq [jP 0 x1,aU 2 b] [])|.inr _=>(xq 0 [jP 0 x1] []))) (fun a=>?_) bS 0) fun g=>?_;refine ig fun f=>?_;refine bo (dA2 d f) fun i=>?_;refine io rfl rfl;rcases g with b|_;rfl;refine bz lm ?_;refine bo (e:=id) ?_ fun x11=>?_;refine ig fun h=>?_;refine bo (dB2 d h) fun c=>?_;rfl;refine io rfl rfl
def yK (x1:YE):aB Int:=
 (vA x1.ID.kP 99).bind fun x2=>(vA x1.ID.fE 1073741824).bind fun q=>(Gt [x2,q]).bind fun p=>if p !=0 then some p else(gW1 x1.cE).bind fun r=>if !r then some 11 else(gX1 x1).bind fun s=>(gY1 x1 s).bind fun t=>if !t then some 3 else((if x1.cE !=3 then(gZ1 x1.Value).bind fun u=>some (u !=0)else some false:aB (Bool))).bind fun v=>if v then some 17 else if x1.cE==1 then(aR1 x1.cA).bind fun b=>(nZ1 x1.dX).bind fun x11=>(oC1 x1.dA).bind fun c=>(Gt [b,x11,c]).bind fun a=>if a !=0 then some a else(vA x1.bQ 31).bind fun d=>(vA x1.dM 4).bind fun e=>(vA x1.dU 9).bind fun f=>(vA x1.kZ 2).bind fun g=>(vA x1.kY 2).bind fun h=>(Gt [d,e,f,g,h]).bind fun i=>some i else(vA x1.bQ 31).bind fun j=>(vA x1.dM 4).bind fun k=>(vA x1.dU 9).bind fun l=>(vA x1.kZ 2).bind fun m=>(vA x1.kY 2).bind fun n=>(Gt [j,k,l,m,n]).bind fun o=>some o
def Js (x1:YE):OD k (d+8) 122 [eI x1]=(yK x1).map i64:=oe rfl<|by
 refine bo (qT (d+6) x1.ID.kP 99) fun x2=>?_;refine bo (qT (d+6) x1.ID.fE 1073741824) fun s=>?_;refine bo (Qt (d+6) [x2,s]) fun u=>?_;refine io rfl ?_;refine bo (tX1 (d+6) x1.cE) fun v=>?_;refine io rfl ?_;refine bo (cS2 (d+5) x1) fun t=>?_;refine bo (cW2 (d+5) x1 t) fun w=>?_;refine io rfl ?_;refine bo (e:=id) ?_ fun y=>?_;refine io ?_ rfl;refine bo (tY1 (d+6) x1.Value) fun x=>?_;rfl;refine io rfl ?_;refine io ?_ ?_;refine bo (cY2 d x1.cA) fun a=>?_;refine bo (cZ2 (d+1) x1.dX) fun x11=>?_;refine bo (dC2 (d+5) x1.dA) fun b=>?_;refine bo (Qt (d+6) [a,x11,b]) fun p=>?_;refine io rfl ?_;refine bo (qT (d+6) x1.bQ 31) fun c=>?_;refine bo (qT (d+6) x1.dM 4) fun f=>?_;refine bo (qT (d+6) x1.dU 9) fun g=>?_;refine bo (qT (d+6) x1.kZ 2) fun h=>?_;refine bo (qT (d+6) x1.kY 2) fun i=>?_;refine bo (Qt (d+6) [c,f,g,h,i]) fun q=>?_;rfl;refine bo (qT (d+6) x1.bQ 31) fun j=>?_;refine bo (qT (d+6) x1.dM 4) fun l=>?_;refine bo (qT (d+6) x1.dU 9) fun m=>?_;refine bo (qT (d+6) x1.kZ 2) fun n=>?_;refine bo (qT (d+6) x1.kY 2) fun o=>?_;refine bo (Qt (d+6) [j,l,m,n,o]) fun r=>?_;rfl
def oD1 (x1:YE):aB Bool:=
 (yK x1).bind fun x2=>some (x2 !=0)
def dD2 (x1:YE):OD k (d+9) 168 [eI x1]=(oD1 x1).map bv:=oe rfl<|by
 refine bo (Js d x1) fun x2=>?_;rfl
def oE1 (x1:aA YE):aB Int:=
 (bC (E:=Int⊕Unit) (fun(a:Int)=>dT x1 a (fun b=>(oD1 b).bind fun c=>if c then some (.inr (.inl a))else some (.inl (bK (a+1)))) (some (.inr (.inr ())))) bS 0).bind fun d=>(match d with|.inl x7=>some x7|.inr _=>some (-1))
def dE2 (x1:aA YE):OD k (d+10) 148 [mR x1,.fn 168 [] []]=(oE1 x1).map i64:=oe rfl<|by
 refine bz lm ?_;refine bo (aN (S:=Int) (enc:=fun a=>(Q [eT 0 x1,(1,.fn 168 [] []),cQ 7 x1,aU 8 a] [])) (encE:=Ri 4) (fun a=>?_) bS 0) fun c=>?_;refine ig fun b=>?_;refine bo (dD2 d b) fun e=>?_;refine io rfl rfl;rcases c with f|_;rfl;rfl
def F94 (x1:aA YE):aB Bool:=
 (oE1 x1).bind fun x2=>some (decide (x2>=0))
def dG2 (x1:aA YE):OD k (d+11) 94 [mR x1,.fn 168 [] []]=(F94 x1).map bv:=oe rfl<|by
 refine bo (dE2 d x1) fun x2=>?_;rfl
def oF1 (x1:YO):aB Bool:=
 ((if decide ((x1.aT.length:Int)>0)then(bM x1.aT 0).bind fun x2=>some (x2.cE==3)else some false:aB (Bool))).bind fun a=>some a
def dH2 (x1:YO):OD k (d+1) 252 [iB x1]=(oF1 x1).map bv:=oe rfl<|by
 refine bz lm ?_;refine bo (e:=id) ?_ fun a=>?_;refine ig fun x2=>?_;rfl;rfl
def oG1 (x1:YA):aB Int:=
 (Tn .i64 3870720 (bK (x1.Log+1))).bind fun x2=>(bC (E:=Int) (fun(⟨d,a,b⟩:Int×Int×Int)=>if decide (b<x1.pC)then(Li .i64 d 2).bind fun c=>some (.inl (c,(bK (a+c)),(bK (b+1))))else some (.inr a)) bS (x2,x2,0)).bind fun e=>some e
def dI2 (x1:YA):OD k (d+1) 273 [Ae x1]=(oG1 x1).map i64:=oe rfl<|by
 refine bo oi fun x2=>?_;refine bo (aN (S:=Int×Int×Int) (enc:=fun⟨a,b,c⟩=>(Q [aU 3 a,aU 4 b,(11,i64 x1.pC),aU 12 c] [Gr 0 x1])) (encE:=(fun(e:Int)=>(xq 0 [aU 4 e] [Gr 0 x1]))) (fun⟨a,b,c⟩=>?_) bS (x2,x2,0)) fun e=>?_;refine io ?_ rfl;refine bo oi fun f=>?_;rfl;rfl
def oH1 (x1:YA):aB (Int×Int):=
 (gZ1 x1).bind fun x2=>if x2 !=0 then some (0,x2)else(oG1 x1).bind fun a=>some (a,0)
def dJ2 (x1:YA):OD k (d+2) 267 [Ae x1]=(oH1 x1).map (fun⟨a,b⟩=>.tup [i64 a,i64 b]):=oe rfl<|by
 refine bo (tY1 d x1) fun x2=>?_;refine io rfl ?_;refine bo (dI2 d x1) fun c=>?_;rfl
def oI1 (x1:YE):aB (Int×Int):=
 (yK x1).bind fun x2=>if(x2 !=0)||(x1.cE==3)then some (0,x2)else(oH1 x1.Value).bind fun⟨a,b⟩=>some (a,b)
def dK2 (x1:YE):OD k (d+9) 263 [eI x1]=(oI1 x1).map (fun⟨a,b⟩=>.tup [i64 a,i64 b]):=oe rfl<|by
 refine bo (Js d x1) fun x2=>?_;refine bz (gB rfl) ?_;refine io rfl ?_;refine bo (dJ2 (d+6) x1.Value) fun⟨c,e⟩=>?_;rfl
def oJ1 (x1:aA YE):aB (aA Int):=
 (vL (x1.length:Int) (x1.length:Int) 0).bind fun x2=>(bC (E:=aA Int) (fun(⟨f,a⟩:Int×(aA Int))=>dT x1 f (fun x11=>(oI1 x11).bind fun⟨b,g⟩=>(gM a f).bind fun c=>(iG a c (fun h=>b)).bind fun d=>some (.inl ((bK (f+1)),d))) (some (.inr a))) bS (0,x2)).bind fun e=>some e
def dL2 (x1:aA YE):OD k (d+10) 259 [mR x1]=(oJ1 x1).map (fun n=>nM n):=oe rfl<|by
 refine bz lm ?_;refine bo (mB cI _ _ 0) fun x2=>?_;refine bz lm ?_;refine bo (aN (S:=Int×(aA Int)) (enc:=fun⟨g,a⟩=>(Q [(3,.own 0),eT 9 x1,cQ 10 x1,aU 11 g] [(0,.lst 3 1 true (I cI a))])) (encE:=(fun(b:aA Int)=>(xq 0 [(3,.own 0)] [(0,.lst 3 1 true (I cI b))]))) (fun⟨g,a⟩=>?_) bS (0,x2)) fun b=>?_;refine ig fun x11=>?_;refine bo (dK2 d x11) fun⟨e,h⟩=>?_;refine bo (bZ cI a _) fun i=>?_;refine bo (dO (A:=Int) (c:=cI) (m:=1) (f:=fun j=>e) (fun _=>⟨rfl,rfl⟩) (aI3 rfl) a _) fun l=>?_;rfl;rfl
def hF1 (x1:Int):aB Bool:=
 some ((decide (x1>=1))&&(decide (x1<=32)))
def uB1 (x1:Int):OD k (d+1) 270 [i64 x1]=(hF1 x1).map bv:=oe rfl<|by
 refine bz (iK rfl) ?_;rfl
def oK1 (x1 x2:YU):aB Int:=
 if x1.fW !=x2.fW then if decide (x1.fW<x2.fW)then some (-1)else some 1 else if x1.jC !=x2.jC then if decide (x1.jC>x2.jC)then some (-1)else some 1 else some 0
def dM2 (x1 x2:YU):OD k (d+1) 271 [pA x1,pA x2]=(oK1 x1 x2).map i64:=oe rfl<|by
 refine io ?_ ?_;refine io rfl rfl;refine io ?_ rfl;refine io rfl rfl
def Ue (x1:YU):aB Int:=
 some (bK (x1.fW+x1.jC))
def Xa (x1:YU):OD k (d+1) 269 [pA x1]=(Ue x1).map i64:=oe rfl<|by
 rfl
def Xb (x1:YU) (x2:aA YU):aB (Bool×(aA YU)):=
 (bC (E:=aA YU) (fun(b:aA YU)=>((if decide ((b.length:Int)>0)then(gM b (bK ((b.length:Int)-1))).bind fun m=>(fQ b m).bind fun c=>(Ue c).bind fun x11=>some (decide (x11<=x1.fW))else some false:aB (Bool))).bind fun d=>if d then(Gd b (bK ((b.length:Int)-1))).bind fun e=>some (.inl e)else some (.inr b)) bS x2).bind fun a=>((if(a.length:Int)==3 then some true else((if decide ((a.length:Int)>0)then(Ue x1).bind fun f=>(gM a (bK ((a.length:Int)-1))).bind fun g=>(fQ a g).bind fun h=>(Ue h).bind fun i=>some (decide (f>i))else some false:aB (Bool))).bind fun j=>some j:aB (Bool))).bind fun k=>if k then some (false,a)else(iZ true a [x1]).bind fun l=>some (true,l)
def xC1 (x1:YU) (x2:aA YU):gA (XD k (d+2)) 268 [pA x1,.ref 0 0] [(1,.lst 285 4 true (I YU.g x2)),(0,.box [.own 1])] 2 false=(Xb x1 x2).map (fun(⟨i,j⟩:Bool×(aA YU))=>((bv i,[(1,.lst 285 4 true (I YU.g j)),(0,.box [.own 1])],0))):=by
 rw[xd (fn:=bR2) rfl];refine bo (aN (S:=aA YU) (enc:=fun h=>(Q [bE 1 0,bE 2 2] [iU 2 x1,(1,.lst 285 4 true (I YU.g h)),(0,.box [.own 1])])) (encE:=(fun(b:aA YU)=>(xq 0 [bE 1 0,bE 2 2] [iU 2 x1,(1,.lst 285 4 true (I YU.g b)),(0,.box [.own 1])]))) (fun h=>?_) bS x2) fun b=>?_;refine bz (dV YU.g h) ?_;refine bo (e:=id) ?_ fun l=>?_;refine io ?_ rfl;refine bz (dV YU.g h) ?_;refine bo (bZ YU.g h _) fun u=>?_;refine bo (gG (A:=YU) (c:=YU.g) (m:=4) (g:=fun a=>[i64 a.fW,i64 a.jC,i64 a.iN,i64 a.jL]) (fun _=>⟨rfl,rfl⟩) (aI3 rfl) h _) fun a=>?_;refine bo (Xa d a) fun x11=>?_;rfl;refine io ?_ rfl;refine bz (dV YU.g h) ?_;refine bo (Hi YU.g h (bK ((h.length:Int)-1))) fun n=>?_;rfl;refine bz (dV YU.g b) ?_;refine bo (e:=id) ?_ fun s=>?_;refine io rfl ?_;refine bo (e:=id) ?_ fun r=>?_;refine io ?_ rfl;refine bo (Xa d x1) fun o=>?_;refine bo (bZ YU.g b _) fun p=>?_;refine bo (gG (A:=YU) (c:=YU.g) (m:=4) (g:=fun f=>[i64 f.fW,i64 f.jC,i64 f.iN,i64 f.jL]) (fun _=>⟨rfl,rfl⟩) (aI3 rfl) b _) fun f=>?_;refine bo (Xa d f) fun q=>?_;rfl;rfl;refine io rfl ?_;refine bo (cN true YU.g b [x1]) fun t=>?_;rfl
def oL1 (x1:aA YU) (x2:Int):aB Int:=
 if(decide (x2<0))||(decide (x2>128))then some 2 else if decide ((x1.length:Int)>16)then some 9 else(bC (E:=(Int×(aA YU))⊕(aA YU)) (fun(⟨b,c⟩:Int×(aA YU))=>dT x1 b (fun a=>((if(((decide (a.jC<1))||(decide (a.jC>x2)))||(decide (a.fW<0)))||(decide (a.fW>(bK (x2-a.jC))))then some true else(hF1 a.iN).bind fun e=>some (!e):aB (Bool))).bind fun f=>((if f then some true else(hF1 a.jL).bind fun g=>some (!g):aB (Bool))).bind fun h=>if h||(a.iN==a.jL)then some (.inr (.inl (2,c)))else((if decide (b>0)then(bM x1 (bK (b-1))).bind fun i=>(oK1 i a).bind fun j=>some (decide (j>0))else some false:aB (Bool))).bind fun k=>if k then some (.inr (.inl (25,c)))else(Xb a c).bind fun⟨l,d⟩=>if !l then some (.inr (.inl (21,d)))else some (.inl ((bK (b+1)),d))) (some (.inr (.inr c)))) bS (0,[])).bind fun m=>(match m with|.inl ⟨x25,x26⟩=>some x25|.inr x27=>some 0)
def dN2 (x1:aA YU) (x2:Int):OD k (d+3) 264 [lG x1,i64 x2]=(oL1 x1 x2).map i64:=oe rfl<|by
 refine bz (gB rfl) ?_;refine io rfl ?_;refine bz lm ?_;refine io rfl ?_;refine bz lm ?_;refine bo (aN (S:=Int×(aA YU)) (enc:=fun⟨c,b⟩=>(Q [kF 0 x1,aU 1 x2,(6,.fn 268 [] [.ref 0 0]),kF 19 x1,cQ 20 x1,aU 21 c] [(1,.lst 285 4 true (I YU.g b)),(0,.box [.own 1])])) (encE:=(fun|.inl ⟨f,h⟩=>(rq [aU 4 f] [(1,.lst 285 4 true (I YU.g h)),(0,.box [.own 1])])|.inr x27=>(xq 0 [] [(1,.lst 285 4 true (I YU.g x27)),(0,.box [.own 1])]))) (fun⟨c,b⟩=>?_) bS (0,[])) fun j=>?_;refine ig fun a=>?_;refine bz (gB rfl) ?_;refine bz (gB rfl) ?_;refine bz (gB rfl) ?_;refine bo (e:=id) ?_ fun m=>?_;refine io rfl ?_;refine bo (uB1 (d+1) a.iN) fun l=>?_;rfl;refine bo (e:=id) ?_ fun o=>?_;refine io rfl ?_;refine bo (uB1 (d+1) a.jL) fun n=>?_;rfl;refine bz (gB rfl) ?_;refine io rfl ?_;refine bo (e:=id) ?_ fun q=>?_;refine ig fun i=>?_;refine bo (dM2 (d+1) i a) fun p=>?_;rfl;refine io rfl ?_;refine bo (xC1 d a b) fun⟨r,s⟩=>?_;refine io rfl rfl;rcases j with⟨f,h⟩|x27;rfl;rfl
def oM1 (x1:YU) (x2:Int):aB Bool:=
 some ((decide (x2>=x1.fW))&&(decide ((bK (x2-x1.fW))<x1.jC)))
def dO2 (x1:YU) (x2:Int):OD k (d+1) 274 [pA x1,i64 x2]=(oM1 x1 x2).map bv:=oe rfl<|by
 refine bz (iK rfl) ?_;rfl
def oN1 (x1 x2:Int):aB Int:=
 (bC (E:=Int) (fun(⟨b,a⟩:Int×Int)=>if decide (a>0)then(Lj .i64 b a).bind fun c=>some (.inl (a,c))else some (.inr b)) bS (x1,x2)).bind fun d=>some d
def dP2 (x1 x2:Int):OD k (d+1) 275 [i64 x1,i64 x2]=(oN1 x1 x2).map i64:=oe rfl<|by
 refine bo (aN (S:=Int×Int) (enc:=fun⟨a,b⟩=>(Q [aU 0 a,aU 1 b] [])) (encE:=(fun(c:Int)=>(xq 0 [aU 0 c] []))) (fun⟨a,b⟩=>?_) bS (x1,x2)) fun c=>?_;refine io ?_ rfl;refine bo oi fun e=>?_;rfl;rfl
def oO1 (x1:aA YU) (x2:Int):aB (Int×Int):=
 (bC (E:=Int×Int) (fun(⟨b,x11,c⟩:Int×Int×Int)=>dT x1 c (fun a=>(oM1 a x2).bind fun e=>((if e then(oN1 (bK (b*a.jL)) (bK (x11*a.iN))).bind fun d=>(Li .i64 (bK (b*a.jL)) d).bind fun f=>(Li .i64 (bK (x11*a.iN)) d).bind fun g=>some (f,g)else some (b,x11):aB (Int×Int))).bind fun⟨h,i⟩=>some (.inl (h,i,(bK (c+1))))) (some (.inr (b,x11)))) bS (1,1,0)).bind fun⟨j,k⟩=>some (j,k)
def dQ2 (x1:aA YU) (x2:Int):OD k (d+2) 272 [lG x1,i64 x2]=(oO1 x1 x2).map (fun⟨o,p⟩=>.tup [i64 o,i64 p]):=oe rfl<|by
 refine bz lm ?_;refine bo (aN (S:=Int×Int×Int) (enc:=fun⟨b,x11,c⟩=>(Q [aU 1 x2,aU 4 b,aU 5 x11,kF 9 x1,cQ 10 x1,aU 11 c] [])) (encE:=(fun(⟨h,i⟩:Int×Int)=>(xq 0 [aU 4 h,aU 5 i] []))) (fun⟨b,x11,c⟩=>?_) bS (1,1,0)) fun⟨h,i⟩=>?_;refine ig fun a=>?_;refine bo (dO2 d a x2) fun j=>?_;refine bo (e:=(fun(⟨f,g⟩:Int×Int)=>(nq [aU 1 x2,aU 4 f,aU 5 g,kF 9 x1,cQ 10 x1,aU 11 c] [iU 0 a]))) ?_ fun⟨f,g⟩=>?_;refine io ?_ rfl;refine bo (dP2 d (bK (b*a.jL)) (bK (x11*a.iN))) fun l=>?_;refine bo oi fun m=>?_;refine bo oi fun n=>?_;rfl;rfl;rfl
def hG1 (x1:aA YU) (x2 a:Int):aB (Int×Int):=
 if(decide (a<0))||(decide (a>7741440))then some (0,2)else(oO1 x1 x2).bind fun⟨b,c⟩=>(Lj .i64 (bK (a*b)) c).bind fun d=>if d !=0 then some (0,16)else(Li .i64 (bK (a*b)) c).bind fun e=>some (e,0)
def uC1 (x1:aA YU) (x2 a:Int):OD k (d+3) 265 [lG x1,i64 x2,i64 a]=(hG1 x1 x2 a).map (fun⟨b,c⟩=>.tup [i64 b,i64 c]):=oe rfl<|by
 refine bz (gB rfl) ?_;refine io rfl ?_;refine bo (dQ2 d x1 x2) fun⟨e,f⟩=>?_;refine bo oi fun g=>?_;refine io rfl ?_;refine bo oi fun h=>?_;rfl
def hH1 (x1:aA YU) (x2:aA Int):aB ((aA Int)×Int):=
 (oL1 x1 (x2.length:Int)).bind fun g=>if g !=0 then some ([],g)else(vL 0 (x2.length:Int) 0).bind fun h=>(bC (E:=(Int×(aA Int))⊕(aA Int)) (fun(⟨f,a⟩:Int×(aA Int))=>dT x2 f (fun x11=>(hG1 x1 f x11).bind fun⟨c,b⟩=>if b !=0 then some (.inr (.inl (b,a)))else(iZ true a [c]).bind fun d=>some (.inl ((bK (f+1)),d))) (some (.inr (.inr a)))) bS (0,h)).bind fun e=>(match e with|.inl ⟨x15,x16⟩=>some ([],x15)|.inr x17=>some (x17,0))
def uD1 (x1:aA YU) (x2:aA Int):OD k (d+4) 260 [lG x1,nM x2]=(hH1 x1 x2).map (fun⟨l,m⟩=>.tup [nM l,i64 m]):=oe rfl<|by
 refine bz lm ?_;refine bo (dN2 d x1 (x2.length:Int)) fun n=>?_;refine io rfl ?_;refine bz lm ?_;refine bo (mB cI _ _ 0) fun j=>?_;refine bz lm ?_;refine bo (aN (S:=Int×(aA Int)) (enc:=fun⟨g,a⟩=>(Q [kF 0 x1,(7,.own 0),tT 22 x2,cQ 23 x2,aU 24 g] [(0,.lst 3 1 true (I cI a))])) (encE:=(fun|.inl ⟨b,c⟩=>(rq [(4,.is 1 (I cI [])),aU 5 b,(7,.own 0)] [(0,.lst 3 1 true (I cI c))])|.inr x17=>(xq 0 [(7,.own 0)] [(0,.lst 3 1 true (I cI x17))]))) (fun⟨g,a⟩=>?_) bS (0,j)) fun f=>?_;refine ig fun x11=>?_;refine bo (uC1 d x1 g x11) fun⟨e,h⟩=>?_;refine io rfl ?_;refine bo (cN true cI a [e]) fun i=>?_;rfl;rcases f with⟨b,c⟩|x17;rfl;rfl
def oP1 (x1:aA YU) (x2:Int) (l:aA Int):aB (Int×Bool):=
 (bM x1 x2).bind fun k=>(bC (E:=Int⊕Int) (fun(⟨b,x11⟩:Int×Int)=>(Ue k).bind fun c=>if decide (x11<c)then(nG x1 (bK (x2+1)) ((x1).length)).bind fun d=>(bM l x11).bind fun e=>(hG1 d x11 e).bind fun⟨f,g⟩=>if g !=0 then some (.inr (.inl b))else some (.inl ((bK (b+f)),(bK (x11+1))))else some (.inr (.inr b))) bS (0,k.fW)).bind fun h=>(match h with|.inl x17=>some (0,false)|.inr x18=>(bC (E:=Int⊕Unit) (fun(a:Int)=>if decide (a<=8)then(Tn .i64 3870720 (bK (a+1))).bind fun i=>if x18==(bK (k.iN*i))then some (.inr (.inl a))else some (.inl (bK (a+1)))else some (.inr (.inr ()))) bS (-1)).bind fun j=>(match j with|.inl x23=>some (x23,true)|.inr _=>some (0,false)))
def dR2 (x1:aA YU) (x2:Int) (l:aA Int):OD k (d+4) 266 [lG x1,i64 x2,nM l]=(oP1 x1 x2 l).map (fun⟨q,r⟩=>.tup [i64 q,bv r]):=oe rfl<|by
 refine bo rg fun a=>?_;refine bo (aN (S:=Int×Int) (enc:=fun⟨b,x11⟩=>(Q [kF 0 x1,aU 1 x2,tT 2 l,bE 8 0,aU 9 b,aU 10 x11] [iU 0 a])) (encE:=(fun|.inl c=>(rq [aU 6 0,(7,bv false),bE 8 0,aU 9 c] [iU 0 a])|.inr x18=>(xq 0 [bE 8 0,aU 9 x18] [iU 0 a]))) (fun⟨b,x11⟩=>?_) bS (0,a.fW)) fun i=>?_;refine bo (Xa (d+2) a) fun m=>?_;refine io ?_ rfl;refine bo (Hh _ _ _) fun g=>?_;refine bo rg fun h=>?_;refine bo (uC1 d g x11 h) fun⟨n,o⟩=>?_;refine io rfl rfl;rcases i with c|x18;rfl;refine bo (aN (S:=Int) (enc:=fun e=>(Q [bE 8 0,aU 9 x18,aU 13 e] [iU 0 a])) (encE:=(fun|.inl f=>(rq [aU 6 f,(7,bv true)] [iU 0 a])|.inr _=>(xq 2 [] [iU 0 a]))) (fun e=>?_) bS (-1)) fun j=>?_;refine io ?_ rfl;refine bo oi fun p=>?_;refine io rfl rfl;rcases j with f|_;rfl;rfl
def oQ1 (x1:aA YU) (x2:aA Int):aB ((aA Int)×Int):=
 (hH1 x1 x2).bind fun⟨h,f⟩=>if f !=0 then some ([],f)else(vL 0 (x1.length:Int) 0).bind fun g=>(bC (E:=(aA Int)⊕(aA Int)) (fun(⟨e,a⟩:Int×(aA Int))=>if decide (e<(x1.length:Int))then(oP1 x1 e x2).bind fun⟨x11,b⟩=>if !b then some (.inr (.inl a))else(iZ true a [x11]).bind fun c=>some (.inl ((bK (e+1)),c))else some (.inr (.inr a))) bS (0,g)).bind fun d=>(match d with|.inl x14=>some ([],21)|.inr x15=>some (x15,0))
def dS2 (x1:aA YU) (x2:aA Int):OD k (d+5) 261 [lG x1,nM x2]=(oQ1 x1 x2).map (fun⟨i,j⟩=>.tup [nM i,i64 j]):=oe rfl<|by
 refine bo (uD1 d x1 x2) fun⟨l,m⟩=>?_;refine io rfl ?_;refine bz lm ?_;refine bo (mB cI _ _ 0) fun h=>?_;refine bz lm ?_;refine bo (aN (S:=Int×(aA Int)) (enc:=fun⟨e,a⟩=>(Q [kF 0 x1,tT 1 x2,(8,.own 0),cQ 25 x1,aU 26 e] [(0,.lst 3 1 true (I cI a))])) (encE:=(fun|.inl b=>(rq [(4,.is 1 (I cI [])),aU 5 21,(8,.own 0)] [(0,.lst 3 1 true (I cI b))])|.inr x15=>(xq 0 [(8,.own 0)] [(0,.lst 3 1 true (I cI x15))]))) (fun⟨e,a⟩=>?_) bS (0,h)) fun c=>?_;refine io ?_ rfl;refine bo (dR2 d x1 e x2) fun⟨x11,f⟩=>?_;refine io rfl ?_;refine bo (cN true cI a [x11]) fun g=>?_;rfl;rcases c with b|x15;rfl;rfl
def oR1 (x1:YO):aB ((aA Int)×Int):=
 (bC (E:=Int⊕Unit) (fun(c:Int)=>dT x1.aT c (fun d=>(yK d).bind fun e=>if e !=0 then some (.inr (.inl e))else if(d.cE==3)&&((decide (c>0))||(decide ((x1.aT.length:Int)>1)))then some (.inr (.inl 11))else some (.inl (bK (c+1)))) (some (.inr (.inr ())))) bS 0).bind fun h=>(match h with|.inl x7=>some ([],x7)|.inr _=>(oJ1 x1.aT).bind fun f=>(hH1 x1.dQ f).bind fun⟨a,x11⟩=>if x11 !=0 then some ([],x11)else(oQ1 x1.dQ f).bind fun⟨g,b⟩=>if b !=0 then some ([],21)else some (a,0))
def dT2 (x1:YO):OD k (d+11) 253 [iB x1]=(oR1 x1).map (fun⟨j,l⟩=>.tup [nM j,i64 l]):=oe rfl<|by
 refine bz lm ?_;refine bo (aN (S:=Int) (enc:=fun a=>(Q [bE 1 0,eT 13 x1.aT,cQ 14 x1.aT,aU 15 a] [cK 0 x1])) (encE:=(fun|.inl b=>(rq [bE 1 0,(2,.is 1 (I cI [])),aU 3 b] [cK 0 x1])|.inr _=>(xq 0 [bE 1 0] [cK 0 x1]))) (fun a=>?_) bS 0) fun i=>?_;refine ig fun h=>?_;refine bo (Js (d+2) h) fun m=>?_;refine io rfl ?_;refine bz (iK (bz (gB (bz lm rfl)) rfl)) ?_;refine io rfl rfl;rcases i with b|_;rfl;refine bo (dL2 d x1.aT) fun c=>?_;refine bo (uD1 (d+6) x1.dQ c) fun⟨e,x11⟩=>?_;refine io rfl ?_;refine bo (dS2 (d+5) x1.dQ c) fun⟨f,g⟩=>?_;refine io rfl rfl
def oS1 (x1:YO) (x2:Int):aB ((aA Int)×Int):=
 if(decide (x2<1))||(decide (x2>15482880))then some ([],2)else if decide ((x1.aT.length:Int)>128)then some ([],9)else(oF1 x1).bind fun b=>if b&&((x1.aT.length:Int)==1)then(bM x1.aT 0).bind fun c=>(yK c).bind fun a=>if a !=0 then some ([],a)else if decide ((x1.dQ.length:Int)>0)then some ([],21)else some ([x2],0)else(oR1 x1).bind fun⟨d,e⟩=>some (d,e)
def dU2 (x1:YO) (x2:Int):OD k (d+12) 238 [iB x1,i64 x2]=(oS1 x1 x2).map (fun⟨b,c⟩=>.tup [nM b,i64 c]):=oe rfl<|by
 refine bz (gB rfl) ?_;refine io rfl ?_;refine bz lm ?_;refine io rfl ?_;refine bo (dH2 (d+10) x1) fun e=>?_;refine bz (iK (bz lm rfl)) ?_;refine io ?_ ?_;refine bo rg fun a=>?_;refine bo (Js (d+3) a) fun f=>?_;refine io rfl ?_;refine bz lm ?_;refine io rfl rfl;refine bo (dT2 d x1) fun⟨g,h⟩=>?_;rfl
def oT1 (x1:aA Int):aB Int:=
 (bC (E:=Int) (fun(⟨a,b⟩:Int×Int)=>dT x1 b (fun c=>some (.inl ((bK (a+c)),(bK (b+1))))) (some (.inr a))) bS (0,0)).bind fun d=>some d
def dV2 (x1:aA Int):OD k (d+1) 239 [nM x1]=(oT1 x1).map i64:=oe rfl<|by
 refine bz lm ?_;refine bo (aN (S:=Int×Int) (enc:=fun⟨a,b⟩=>(Q [aU 3 a,tT 6 x1,cQ 7 x1,aU 8 b] [])) (encE:=(fun(c:Int)=>(xq 0 [aU 3 c] []))) (fun⟨a,b⟩=>?_) bS (0,0)) fun c=>?_;refine ig fun e=>?_;rfl;rfl
def hJ1 (x1:YO) (x2:Int):aB ((aA Int)×Int):=
 (oS1 x1 x2).bind fun⟨a,b⟩=>((if(b==0)&&(decide ((a.length:Int)>0))then(oT1 a).bind fun d=>some (d !=x2)else some false:aB (Bool))).bind fun e=>((if e then some 20 else some b:aB (Int))).bind fun c=>if c !=0 then some ([],c)else some (a,0)
def uE1 (x1:YO) (x2:Int):OD k (d+13) 216 [iB x1,i64 x2]=(hJ1 x1 x2).map (fun⟨c,f⟩=>.tup [nM c,i64 f]):=oe rfl<|by
 refine bo (dU2 d x1 x2) fun⟨a,g⟩=>?_;refine bz (iK (bz lm rfl)) ?_;refine bo (e:=id) ?_ fun i=>?_;refine io ?_ rfl;refine bo (dV2 (d+11) a) fun h=>?_;rfl;refine bo (e:=(fun(b:Int)=>(nq [tT 6 a,aU 7 b] [cK 0 x1]))) ?_ fun b=>?_;refine io rfl rfl;refine io rfl rfl
def hK1 (x1:YO) (x2:Int):aB Int:=
 (hJ1 x1 x2).bind fun⟨b,a⟩=>some a
def uF1 (x1:YO) (x2:Int):OD k (d+14) 172 [iB x1,i64 x2]=(hK1 x1 x2).map i64:=oe rfl<|by
 refine bo (uE1 d x1 x2) fun⟨a,b⟩=>?_;rfl
def hL1 (x1:Int):aB Bool:=
 some ((x1==11)||(x1==20))
def uG1 (x1:Int):OD k (d+1) 118 [i64 x1]=(hL1 x1).map bv:=oe rfl<|by
 refine bz (gB rfl) ?_;rfl
def oU1 (x1:YO) (x2:Int):aB Bool:=
 (F94 x1.aT).bind fun a=>((if !a then(hK1 x1 x2).bind fun b=>(hL1 b).bind fun c=>some c else some false:aB (Bool))).bind fun d=>some d
def dW2 (x1:YO) (x2:Int):OD k (d+15) 171 [iB x1,.ip [.fn 168 [] []],.ip [.fn 118 [] []],.ip [i64 x2]]=(oU1 x1 x2).map bv:=oe rfl<|by
 refine bo (dG2 (d+3) x1.aT) fun b=>?_;refine bo (e:=id) ?_ fun f=>?_;refine io ?_ rfl;refine bo (uF1 d x1 x2) fun a=>?_;refine bo (uG1 (d+13) a) fun c=>?_;rfl;rfl
def oV1 (x1:aA YO) (x2:Int):aB Int:=
 (bC (E:=Int⊕Unit) (fun(a:Int)=>dT x1 a (fun b=>(oU1 b x2).bind fun c=>if c then some (.inr (.inl a))else some (.inl (bK (a+1)))) (some (.inr (.inr ())))) bS 0).bind fun d=>(match d with|.inl x8=>some x8|.inr _=>some (-1))
def dX2 (x1:aA YO) (x2:Int):OD k (d+16) 147 [kK x1,.fn 171 [] [.ip [.fn 168 [] []],.ip [.fn 118 [] []],.ip [i64 x2]]]=(oV1 x1 x2).map i64:=oe rfl<|by
 refine bz lm ?_;refine bo (aN (S:=Int) (enc:=fun a=>(Q [cS 0 x1,(1,.fn 171 [] [.ip [.fn 168 [] []],.ip [.fn 118 [] []],.ip [i64 x2]]),cQ 7 x1,aU 8 a] [])) (encE:=Ri 4) (fun a=>?_) bS 0) fun c=>?_;refine ig fun b=>?_;refine bo (dW2 d b x2) fun e=>?_;refine io rfl rfl;rcases c with f|_;rfl;rfl
def F92 (x1:aA YO) (x2:Int):aB Bool:=
 (oV1 x1 x2).bind fun a=>some (decide (a>=0))
def qQ2 (x1:aA YO) (x2:Int):OD k (d+17) 92 [kK x1,.fn 171 [] [.ip [.fn 168 [] []],.ip [.fn 118 [] []],.ip [i64 x2]]]=(F92 x1 x2).map bv:=oe rfl<|by
 refine bo (dX2 d x1 x2) fun a=>?_;rfl
def oW1 (x1:YW) (x2:Int):aB Bool:=
 (F92 x1.aM x2).bind fun a=>some a
def dY2 (x1:YW) (x2:Int):OD k (d+18) 170 [Qp x1,.ip [.fn 168 [] []],.ip [.fn 118 [] []],.ip [i64 x2]]=(oW1 x1 x2).map bv:=oe rfl<|by
 refine bo (qQ2 d x1.aM x2) fun a=>?_;rfl
def oX1 (x1:aA YW) (x2:Int):aB Int:=
 (bC (E:=Int⊕Unit) (fun(a:Int)=>dT x1 a (fun b=>(oW1 b x2).bind fun c=>if c then some (.inr (.inl a))else some (.inl (bK (a+1)))) (some (.inr (.inr ())))) bS 0).bind fun d=>(match d with|.inl x8=>some x8|.inr _=>some (-1))
def dZ2 (x1:aA YW) (x2:Int):OD k (d+19) 215 [tR x1,.fn 170 [] [.ip [.fn 168 [] []],.ip [.fn 118 [] []],.ip [i64 x2]]]=(oX1 x1 x2).map i64:=oe rfl<|by
 refine bz lm ?_;refine bo (aN (S:=Int) (enc:=fun a=>(Q [cH 0 x1,(1,.fn 170 [] [.ip [.fn 168 [] []],.ip [.fn 118 [] []],.ip [i64 x2]]),cQ 7 x1,aU 8 a] [])) (encE:=Ri 4) (fun a=>?_) bS 0) fun c=>?_;refine ig fun b=>?_;refine bo (dY2 d b x2) fun e=>?_;refine io rfl rfl;rcases c with f|_;rfl;rfl
def oY1 (x1:aA YW) (x2:Int):aB Bool:=
 (oX1 x1 x2).bind fun a=>some (decide (a>=0))
def eA2 (x1:aA YW) (x2:Int):OD k (d+20) 169 [tR x1,.fn 170 [] [.ip [.fn 168 [] []],.ip [.fn 118 [] []],.ip [i64 x2]]]=(oY1 x1 x2).map bv:=oe rfl<|by
 refine bo (dZ2 d x1 x2) fun a=>?_;rfl
def oZ1 (x1:Int) (x2:YM):aB Bool:=
 (Lr x2).bind fun⟨a,b⟩=>if b !=0 then some false else(oY1 x2.aQ a).bind fun c=>some c
def eB2 (x1:Int) (x2:YM):OD k (d+21) 167 [i64 x1,eW x2,.ip [.fn 118 [] []]]=(oZ1 x1 x2).map bv:=oe rfl<|by
 refine bo (Jr (d+16) x2) fun⟨a,b⟩=>?_;refine io rfl ?_;refine bo (eA2 d x2.aQ a) fun c=>?_;rfl
def Cp (x1:aA YV) (x2:Y0) (f:Int):aB (aA YV):=
 (bC (E:=aA YV) (fun(⟨c,d⟩:Int×(aA YV))=>dT x2.aD c (fun e=>(oZ1 c e).bind fun a=>(iV a e.ID d x2 f).bind fun x11=>some (.inl ((bK (c+1)),x11))) (some (.inr d))) bS (0,x1)).bind fun b=>some b
def hO1 (x1:aA YV) (x2:Y0) (a:Int):gA (XD k (d+22)) 110 [.ref 1 0,.fn 167 [] [.ref 3 0]] ((3,.box [.fn 118 [] []])::cL x1 x2 a) 4 false=(Cp x1 x2 a).map (fun(e:aA YV)=>((.tup [],((3,.box [.fn 118 [] []])::cL e x2 a),0))):=by
 rw[xd (fn:=Lk) rfl];refine bz lm ?_;refine bo (aN (S:=Int×(aA YV)) (enc:=fun⟨f,g⟩=>(Q [bE 0 1,(1,.fn 167 [] [.ref 3 0]),bB 10 x2.aD,cQ 11 x2.aD,aU 12 f] ((3,.box [.fn 118 [] []])::cL g x2 a))) (encE:=(fun(b:aA YV)=>(xq 0 [] ((3,.box [.fn 118 [] []])::cL b x2 a)))) (fun⟨f,g⟩=>?_) bS (0,x1)) fun b=>?_;refine ig fun h=>?_;refine bo (eB2 d f h) fun c=>?_;refine bo (iH (d+20) c h.ID g x2 a) fun x11=>?_;rfl;rfl
def Xc (x1:aA YV) (x2:Y0) (a:Int):aB (aA YV):=
 (Cp x1 x2 a).bind fun b=>some b
def xD1 (x1:aA YV) (x2:Y0) (a:Int):gA (XD k (d+23)) 117 [.ref 1 0,.fn 118 [] []] (cL x1 x2 a) 3 false=(Xc x1 x2 a).map (fun(b:aA YV)=>((.tup [],(cL b x2 a),0))):=by
 rw[xd (fn:=wW1) rfl];refine bo (hO1 d x1 x2 a) fun c=>?_;rfl
def hP1 (x1:aA YV) (x2:Y0) (a:Int):aB (aA YV):=
 (Xc x1 x2 a).bind fun b=>some b
def eC2 (x1:aA YV) (x2:Y0) (a:Int):gA (XD k (d+24)) 80 [.ref 1 0] (cL x1 x2 a) 3 false=(hP1 x1 x2 a).map (fun(b:aA YV)=>((.tup [],(cL b x2 a),0))):=by
 rw[xd (fn:=p80) rfl];refine bo (xD1 d x1 x2 a) fun c=>?_;rfl
def pA1 (x1:Int):aB Bool:=
 ((if x1 !=0 then(hL1 x1).bind fun x2=>some (!x2)else some false:aB (Bool))).bind fun a=>some a
def eD2 (x1:Int):OD k (d+2) 119 [i64 x1]=(pA1 x1).map bv:=oe rfl<|by
 refine bo (e:=id) ?_ fun a=>?_;refine io ?_ rfl;refine bo (uG1 d x1) fun x2=>?_;rfl;rfl
def Ls (x1:YO) (x2:Int):aB Bool:=
 (F94 x1.aT).bind fun a=>((if !a then(hK1 x1 x2).bind fun b=>(pA1 b).bind fun c=>some c else some false:aB (Bool))).bind fun d=>some d
def pB1 (x1:YO) (x2:Int):OD k (d+15) 171 [iB x1,.ip [.fn 168 [] []],.ip [.fn 119 [] []],.ip [i64 x2]]=(Ls x1 x2).map bv:=oe rfl<|by
 refine bo (dG2 (d+3) x1.aT) fun b=>?_;refine bo (e:=id) ?_ fun f=>?_;refine io ?_ rfl;refine bo (uF1 d x1 x2) fun a=>?_;refine bo (eD2 (d+12) a) fun c=>?_;rfl;rfl
def Lt (x1:aA YO) (x2:Int):aB Int:=
 (bC (E:=Int⊕Unit) (fun(a:Int)=>dT x1 a (fun b=>(Ls b x2).bind fun c=>if c then some (.inr (.inl a))else some (.inl (bK (a+1)))) (some (.inr (.inr ())))) bS 0).bind fun d=>(match d with|.inl x8=>some x8|.inr _=>some (-1))
def pC1 (x1:aA YO) (x2:Int):OD k (d+16) 147 [kK x1,.fn 171 [] [.ip [.fn 168 [] []],.ip [.fn 119 [] []],.ip [i64 x2]]]=(Lt x1 x2).map i64:=oe rfl<|by
 refine bz lm ?_;refine bo (aN (S:=Int) (enc:=fun a=>(Q [cS 0 x1,(1,.fn 171 [] [.ip [.fn 168 [] []],.ip [.fn 119 [] []],.ip [i64 x2]]),cQ 7 x1,aU 8 a] [])) (encE:=Ri 4) (fun a=>?_) bS 0) fun c=>?_;refine ig fun b=>?_;refine bo (pB1 d b x2) fun e=>?_;refine io rfl rfl;rcases c with f|_;rfl;rfl
def Xe (x1:aA YO) (x2:Int):aB Bool:=
 (Lt x1 x2).bind fun a=>some (decide (a>=0))
def xE1 (x1:aA YO) (x2:Int):OD k (d+17) 92 [kK x1,.fn 171 [] [.ip [.fn 168 [] []],.ip [.fn 119 [] []],.ip [i64 x2]]]=(Xe x1 x2).map bv:=oe rfl<|by
 refine bo (pC1 d x1 x2) fun a=>?_;rfl
def Lu (x1:YW) (x2:Int):aB Bool:=
 (Xe x1.aM x2).bind fun a=>some a
def pD1 (x1:YW) (x2:Int):OD k (d+18) 170 [Qp x1,.ip [.fn 168 [] []],.ip [.fn 119 [] []],.ip [i64 x2]]=(Lu x1 x2).map bv:=oe rfl<|by
 refine bo (xE1 d x1.aM x2) fun a=>?_;rfl
def Lv (x1:aA YW) (x2:Int):aB Int:=
 (bC (E:=Int⊕Unit) (fun(a:Int)=>dT x1 a (fun b=>(Lu b x2).bind fun c=>if c then some (.inr (.inl a))else some (.inl (bK (a+1)))) (some (.inr (.inr ())))) bS 0).bind fun d=>(match d with|.inl x8=>some x8|.inr _=>some (-1))
def pE1 (x1:aA YW) (x2:Int):OD k (d+19) 215 [tR x1,.fn 170 [] [.ip [.fn 168 [] []],.ip [.fn 119 [] []],.ip [i64 x2]]]=(Lv x1 x2).map i64:=oe rfl<|by
 refine bz lm ?_;refine bo (aN (S:=Int) (enc:=fun a=>(Q [cH 0 x1,(1,.fn 170 [] [.ip [.fn 168 [] []],.ip [.fn 119 [] []],.ip [i64 x2]]),cQ 7 x1,aU 8 a] [])) (encE:=Ri 4) (fun a=>?_) bS 0) fun c=>?_;refine ig fun b=>?_;refine bo (pD1 d b x2) fun e=>?_;refine io rfl rfl;rcases c with f|_;rfl;rfl
def Lw (x1:aA YW) (x2:Int):aB Bool:=
 (Lv x1 x2).bind fun a=>some (decide (a>=0))
def pF1 (x1:aA YW) (x2:Int):OD k (d+20) 169 [tR x1,.fn 170 [] [.ip [.fn 168 [] []],.ip [.fn 119 [] []],.ip [i64 x2]]]=(Lw x1 x2).map bv:=oe rfl<|by
 refine bo (pE1 d x1 x2) fun a=>?_;rfl
def Lx (x1:Int) (x2:YM):aB Bool:=
 (Lr x2).bind fun⟨a,b⟩=>if b !=0 then some false else(Lw x2.aQ a).bind fun c=>some c
def pG1 (x1:Int) (x2:YM):OD k (d+21) 167 [i64 x1,eW x2,.ip [.fn 119 [] []]]=(Lx x1 x2).map bv:=oe rfl<|by
 refine bo (Jr (d+16) x2) fun⟨a,b⟩=>?_;refine io rfl ?_;refine bo (pF1 d x2.aQ a) fun c=>?_;rfl
def Cq (x1:aA YV) (x2:Y0) (f:Int):aB (aA YV):=
 (bC (E:=aA YV) (fun(⟨c,d⟩:Int×(aA YV))=>dT x2.aD c (fun e=>(Lx c e).bind fun a=>(iV a e.ID d x2 f).bind fun x11=>some (.inl ((bK (c+1)),x11))) (some (.inr d))) bS (0,x1)).bind fun b=>some b
def hQ1 (x1:aA YV) (x2:Y0) (a:Int):gA (XD k (d+22)) 110 [.ref 1 0,.fn 167 [] [.ref 3 0]] ((3,.box [.fn 119 [] []])::cL x1 x2 a) 4 false=(Cq x1 x2 a).map (fun(e:aA YV)=>((.tup [],((3,.box [.fn 119 [] []])::cL e x2 a),0))):=by
 rw[xd (fn:=Lk) rfl];refine bz lm ?_;refine bo (aN (S:=Int×(aA YV)) (enc:=fun⟨f,g⟩=>(Q [bE 0 1,(1,.fn 167 [] [.ref 3 0]),bB 10 x2.aD,cQ 11 x2.aD,aU 12 f] ((3,.box [.fn 119 [] []])::cL g x2 a))) (encE:=(fun(b:aA YV)=>(xq 0 [] ((3,.box [.fn 119 [] []])::cL b x2 a)))) (fun⟨f,g⟩=>?_) bS (0,x1)) fun b=>?_;refine ig fun h=>?_;refine bo (pG1 d f h) fun c=>?_;refine bo (iH (d+20) c h.ID g x2 a) fun x11=>?_;rfl;rfl
def Cr (x1:aA YV) (x2:Y0) (a:Int):aB (aA YV):=
 (Cq x1 x2 a).bind fun b=>some b
def hR1 (x1:aA YV) (x2:Y0) (a:Int):gA (XD k (d+23)) 117 [.ref 1 0,.fn 119 [] []] (cL x1 x2 a) 3 false=(Cr x1 x2 a).map (fun(b:aA YV)=>((.tup [],(cL b x2 a),0))):=by
 rw[xd (fn:=wW1) rfl];refine bo (hQ1 d x1 x2 a) fun c=>?_;rfl
def hS1 (x1:aA YV) (x2:Y0) (a:Int):aB (aA YV):=
 (Cr x1 x2 a).bind fun b=>some b
def eE2 (x1:aA YV) (x2:Y0) (a:Int):gA (XD k (d+24)) 81 [.ref 1 0] (cL x1 x2 a) 3 false=(hS1 x1 x2 a).map (fun(b:aA YV)=>((.tup [],(cL b x2 a),0))):=by
 rw[xd (fn:=p81) rfl];refine bo (hR1 d x1 x2 a) fun c=>?_;rfl
def Hm (x1:YP) (x2:YE):aB Bool:=
 (yK x2).bind fun a=>some (a !=0)
def eF2 (x1:YP) (x2:YE):OD k (d+9) 121 [eO x1,eI x2]=(Hm x1 x2).map bv:=oe rfl<|by
 refine bo (Js d x2) fun a=>?_;rfl
def Jt (x1:aA YV) (x2:Y0) (s:Int):aB (aA YV):=
 (bC (E:=aA YV) (fun(⟨d,m⟩:Int×(aA YV))=>dT x2.aD d (fun p=>(bC (E:=aA YV) (fun(⟨e,n⟩:Int×(aA YV))=>dT p.aQ e (fun q=>(bC (E:=aA YV) (fun(⟨f,o⟩:Int×(aA YV))=>dT q.aM f (fun r=>(bC (E:=aA YV) (fun(⟨a,b⟩:Int×(aA YV))=>dT r.aT a (fun c=>(Hm (YP.mk 4 0 e d f a 0) c).bind fun g=>(iV g c.ID b x2 s).bind fun h=>some (.inl ((bK (a+1)),h))) (some (.inr b))) bS (0,o)).bind fun i=>some (.inl ((bK (f+1)),i))) (some (.inr o))) bS (0,n)).bind fun j=>some (.inl ((bK (e+1)),j))) (some (.inr n))) bS (0,m)).bind fun k=>some (.inl ((bK (d+1)),k))) (some (.inr m))) bS (0,x1)).bind fun l=>some l
def xF1 (x1:aA YV) (x2:Y0) (g:Int):gA (XD k (d+10)) 120 [.ref 1 0,.fn 121 [] []] (cL x1 x2 g) 3 false=(Jt x1 x2 g).map (fun(u:aA YV)=>((.tup [],(cL u x2 g),0))):=by
 rw[xd (fn:=Zz) rfl];refine bz lm ?_;refine bo (aN (S:=Int×(aA YV)) (enc:=fun⟨b,q⟩=>(Q [bE 0 1,(1,.fn 121 [] []),bB 16 x2.aD,cQ 17 x2.aD,aU 18 b] (cL q x2 g))) (encE:=(fun(p:aA YV)=>(xq 0 [] (cL p x2 g)))) (fun⟨b,q⟩=>?_) bS (0,x1)) fun p=>?_;refine ig fun a=>?_;refine bz lm ?_;refine bo (aN (S:=Int×(aA YV)) (enc:=fun⟨c,r⟩=>(Q [bE 0 1,(1,.fn 121 [] []),aU 4 b,bB 16 x2.aD,cQ 17 x2.aD,aU 18 b,cH 24 a.aQ,cQ 25 a.aQ,aU 26 c] (aW 3 a::cL r x2 g))) (encE:=(fun(o:aA YV)=>(xq 2 [bE 0 1,(1,.fn 121 [] []),bB 16 x2.aD,cQ 17 x2.aD,aU 18 b] (aW 3 a::cL o x2 g)))) (fun⟨c,r⟩=>?_) bS (0,q)) fun o=>?_;refine ig fun e=>?_;refine bz lm ?_;refine bo (aN (S:=Int×(aA YV)) (enc:=fun⟨f,s⟩=>(Q [bE 0 1,(1,.fn 121 [] []),aU 4 b,aU 6 c,bB 16 x2.aD,cQ 17 x2.aD,aU 18 b,cH 24 a.aQ,cQ 25 a.aQ,aU 26 c,cS 32 e.aM,cQ 33 e.aM,aU 34 f] (cT 4 e::aW 3 a::cL s x2 g))) (encE:=(fun(n:aA YV)=>(xq 4 [bE 0 1,(1,.fn 121 [] []),aU 4 b,bB 16 x2.aD,cQ 17 x2.aD,aU 18 b,cH 24 a.aQ,cQ 25 a.aQ,aU 26 c] (cT 4 e::aW 3 a::cL n x2 g)))) (fun⟨f,s⟩=>?_) bS (0,r)) fun n=>?_;refine ig fun j=>?_;refine bz lm ?_;refine bo (aN (S:=Int×(aA YV)) (enc:=fun⟨h,i⟩=>(Q [bE 0 1,(1,.fn 121 [] []),aU 4 b,aU 6 c,aU 8 f,bB 16 x2.aD,cQ 17 x2.aD,aU 18 b,cH 24 a.aQ,cQ 25 a.aQ,aU 26 c,cS 32 e.aM,cQ 33 e.aM,aU 34 f,eT 40 j.aT,cQ 41 j.aT,aU 42 h] (cK 5 j::cT 4 e::aW 3 a::cL i x2 g))) (encE:=(fun(m:aA YV)=>(xq 6 [bE 0 1,(1,.fn 121 [] []),aU 4 b,aU 6 c,bB 16 x2.aD,cQ 17 x2.aD,aU 18 b,cH 24 a.aQ,cQ 25 a.aQ,aU 26 c,cS 32 e.aM,cQ 33 e.aM,aU 34 f] (cK 5 j::cT 4 e::aW 3 a::cL m x2 g)))) (fun⟨h,i⟩=>?_) bS (0,s)) fun m=>?_;refine ig fun l=>?_;refine bo (eF2 d (YP.mk 4 0 c b f h 0) l) fun t=>?_;refine bo (iH (d+8) t l.ID i x2 g) fun v=>?_;rfl;rfl;rfl;rfl;rfl
def aS1 (x1:aA YV) (x2:Y0) (a:Int):aB (aA YV):=
 (Jt x1 x2 a).bind fun b=>some b
def eG2 (x1:aA YV) (x2:Y0) (a:Int):gA (XD k (d+11)) 82 [.ref 1 0] (cL x1 x2 a) 3 false=(aS1 x1 x2 a).map (fun(b:aA YV)=>((.tup [],(cL b x2 a),0))):=by
 rw[xd (fn:=p82) rfl];refine bo (xF1 d x1 x2 a) fun c=>?_;rfl
end Go.P
namespace Go.P
open Go.Sim (Ex gC CK)
open K (I Q rq nq xq ck)
variable {k:Bool} (d:Nat)
def F62 (x1:Y0) (x2:Int):aB (Int×Int×Int):=
 if decide (x2<0)then some (0,0,2)else(bC (E:=(Int×Int)⊕Unit) (fun(⟨a,b⟩:Int×Int)=>dT x1.bG b (fun c=>if decide (a<(c.bN.length:Int))then some (.inr (.inl (b,a)))else some (.inl ((bK (a-(c.bN.length:Int))),(bK (b+1))))) (some (.inr (.inr ())))) bS (x2,0)).bind fun d=>(match d with|.inl ⟨x7,x8⟩=>some (x7,x8,0)|.inr _=>some (0,0,2))
def hT1 (x1:Y0) (x2:Int):OD k (d+1) 62 [cX x1,i64 x2]=(F62 x1 x2).map (fun⟨g,h,i⟩=>.tup [i64 g,i64 h,i64 i]):=oe rfl<|by
 refine io rfl ?_;refine bz lm ?_;refine bo (aN (S:=Int×Int) (enc:=fun⟨a,b⟩=>(Q [aU 1 a,kN 12 x1.bG,cQ 13 x1.bG,aU 14 b] [aG 0 x1])) (encE:=(fun|.inl ⟨c,e⟩=>(rq [aU 4 c,aU 5 e,aU 6 0] [aG 0 x1])|.inr _=>(xq 0 [] [aG 0 x1]))) (fun⟨a,b⟩=>?_) bS (x2,0)) fun f=>?_;refine ig fun j=>?_;refine bz lm ?_;refine io rfl ?_;refine bz lm ?_;rfl;rcases f with⟨c,e⟩|_;rfl;rfl
def hU1 (x1:YH) (x2:Int):aB Bool:=
 (Ms x1).bind fun⟨a,c⟩=>(pE (bK (a+x2)) 0 127).bind fun b=>some (!b)
def uH1 (x1:YH) (x2:Int):OD k (d+5) 124 [fJ x1,.ip [i64 x2]]=(hU1 x1 x2).map bv:=oe rfl<|by
 refine bo (Uc d x1) fun⟨a,b⟩=>?_;refine bo (nA (d+3) (bK (a+x2)) 0 127) fun c=>?_;rfl
def pH1 (x1:YB) (x2:Int):aB Bool:=
 (hU1 x1.cC x2).bind fun a=>some a
def eH2 (x1:YB) (x2:Int):OD k (d+6) 126 [yG x1,.ip [.fn 124 [] [.ip [i64 x2]]]]=(pH1 x1 x2).map bv:=oe rfl<|by
 refine bo (uH1 d x1.cC x2) fun a=>?_;rfl
def pI1 (x1:aA YB) (x2:Int):aB Int:=
 (bC (E:=Int⊕Unit) (fun(a:Int)=>dT x1 a (fun b=>(pH1 b x2).bind fun c=>if c then some (.inr (.inl a))else some (.inl (bK (a+1)))) (some (.inr (.inr ())))) bS 0).bind fun d=>(match d with|.inl x8=>some x8|.inr _=>some (-1))
def eI2 (x1:aA YB) (x2:Int):OD k (d+7) 182 [gX x1,.fn 126 [] [.ip [.fn 124 [] [.ip [i64 x2]]]]]=(pI1 x1 x2).map i64:=oe rfl<|by
 refine bz lm ?_;refine bo (aN (S:=Int) (enc:=fun a=>(Q [mS 0 x1,(1,.fn 126 [] [.ip [.fn 124 [] [.ip [i64 x2]]]]),cQ 7 x1,aU 8 a] [])) (encE:=Ri 4) (fun a=>?_) bS 0) fun c=>?_;refine ig fun b=>?_;refine bo (eH2 d b x2) fun e=>?_;refine io rfl rfl;rcases c with f|_;rfl;rfl
def pJ1 (x1:aA YB) (x2:Int):aB Bool:=
 (pI1 x1 x2).bind fun a=>some (decide (a>=0))
def eJ2 (x1:aA YB) (x2:Int):OD k (d+8) 125 [gX x1,.fn 126 [] [.ip [.fn 124 [] [.ip [i64 x2]]]]]=(pJ1 x1 x2).map bv:=oe rfl<|by
 refine bo (eI2 d x1 x2) fun a=>?_;rfl
def pK1 (x1:YD) (x2:Int):aB Bool:=
 (hU1 x1.cC x2).bind fun a=>some a
def eK2 (x1:YD) (x2:Int):OD k (d+6) 128 [aH1 x1,.ip [.fn 124 [] [.ip [i64 x2]]]]=(pK1 x1 x2).map bv:=oe rfl<|by
 refine bo (uH1 d x1.cC x2) fun a=>?_;rfl
def pL1 (x1:aA YD) (x2:Int):aB Int:=
 (bC (E:=Int⊕Unit) (fun(a:Int)=>dT x1 a (fun b=>(pK1 b x2).bind fun c=>if c then some (.inr (.inl a))else some (.inl (bK (a+1)))) (some (.inr (.inr ())))) bS 0).bind fun d=>(match d with|.inl x8=>some x8|.inr _=>some (-1))
def eL2 (x1:aA YD) (x2:Int):OD k (d+7) 183 [kL x1,.fn 128 [] [.ip [.fn 124 [] [.ip [i64 x2]]]]]=(pL1 x1 x2).map i64:=oe rfl<|by
 refine bz lm ?_;refine bo (aN (S:=Int) (enc:=fun a=>(Q [rX 0 x1,(1,.fn 128 [] [.ip [.fn 124 [] [.ip [i64 x2]]]]),cQ 7 x1,aU 8 a] [])) (encE:=Ri 4) (fun a=>?_) bS 0) fun c=>?_;refine ig fun b=>?_;refine bo (eK2 d b x2) fun e=>?_;refine io rfl rfl;rcases c with f|_;rfl;rfl
def pM1 (x1:aA YD) (x2:Int):aB Bool:=
 (pL1 x1 x2).bind fun a=>some (decide (a>=0))
def eM2 (x1:aA YD) (x2:Int):OD k (d+8) 127 [kL x1,.fn 128 [] [.ip [.fn 124 [] [.ip [i64 x2]]]]]=(pM1 x1 x2).map bv:=oe rfl<|by
 refine bo (eL2 d x1 x2) fun a=>?_;rfl
def pN1 (x1:YP) (x2:YE) (d:YK):aB Bool:=
 (yK x2).bind fun f=>if f !=0 then some false else(F62 d.s' x1.cZ).bind fun⟨g,j,h⟩=>((if h==0 then(bM d.s'.bG g).bind fun i=>some i.aK.aZ else some 0:aB (Int))).bind fun e=>((if d.s'.bV then some (bK (0-e))else some e:aB (Int))).bind fun a=>(pJ1 x2.cA a).bind fun x11=>((if x11 then some true else(pM1 x2.dX a).bind fun b=>some b:aB (Bool))).bind fun c=>some c
def eN2 (x1:YP) (x2:YE) (b:YK):OD k (d+9) 123 [eO x1,eI x2,.ip [dF b]]=(pN1 x1 x2 b).map bv:=oe rfl<|by
 refine bo (Js d x2) fun h=>?_;refine io rfl ?_;refine bo (hT1 (d+7) b.s' x1.cZ) fun⟨i,j,l⟩=>?_;refine bo (e:=(fun(c:Int)=>(nq [(2,.ip [dF b]),bE 4 1,bE 6 2] [(2,.box [i64 c]),eG 1 x2,bP 0 x1]))) ?_ fun c=>?_;refine ig fun m=>?_;rfl;refine bo (e:=(fun(a:Int)=>(nq [bE 4 1,bE 6 2] [(2,.box [i64 a]),eG 1 x2,bP 0 x1]))) ?_ fun a=>?_;refine io rfl rfl;refine bo (eJ2 d x2.cA a) fun x11=>?_;refine bo (e:=id) ?_ fun g=>?_;refine io rfl ?_;refine bo (eM2 d x2.dX a) fun f=>?_;rfl;rfl
def Ct (x1:aA YV) (x2:Y0) (s:Int):aB (aA YV):=
 (bC (E:=aA YV) (fun(⟨d,m⟩:Int×(aA YV))=>dT x2.aD d (fun p=>(bC (E:=aA YV) (fun(⟨e,n⟩:Int×(aA YV))=>dT p.aQ e (fun q=>(bC (E:=aA YV) (fun(⟨f,o⟩:Int×(aA YV))=>dT q.aM f (fun r=>(bC (E:=aA YV) (fun(⟨a,b⟩:Int×(aA YV))=>dT r.aT a (fun c=>(pN1 (YP.mk 4 0 e d f a 0) c (YK.mk x2 s b)).bind fun g=>(iV g c.ID b x2 s).bind fun h=>some (.inl ((bK (a+1)),h))) (some (.inr b))) bS (0,o)).bind fun i=>some (.inl ((bK (f+1)),i))) (some (.inr o))) bS (0,n)).bind fun j=>some (.inl ((bK (e+1)),j))) (some (.inr n))) bS (0,m)).bind fun k=>some (.inl ((bK (d+1)),k))) (some (.inr m))) bS (0,x1)).bind fun l=>some l
def hV1 (x1:aA YV) (x2:Y0) (g:Int):gA (XD k (d+10)) 120 [.ref 1 0,.fn 123 [] [.ref 3 0]] ((3,.box [.ref 1 0])::cL x1 x2 g) 4 false=(Ct x1 x2 g).map (fun(u:aA YV)=>((.tup [],((3,.box [.ref 1 0])::cL u x2 g),0))):=by
 rw[xd (fn:=Zz) rfl];refine bz lm ?_;refine bo (aN (S:=Int×(aA YV)) (enc:=fun⟨b,q⟩=>(Q [bE 0 1,(1,.fn 123 [] [.ref 3 0]),bB 16 x2.aD,cQ 17 x2.aD,aU 18 b] ((3,.box [.ref 1 0])::cL q x2 g))) (encE:=(fun(p:aA YV)=>(xq 0 [] ((3,.box [.ref 1 0])::cL p x2 g)))) (fun⟨b,q⟩=>?_) bS (0,x1)) fun p=>?_;refine ig fun a=>?_;refine bz lm ?_;refine bo (aN (S:=Int×(aA YV)) (enc:=fun⟨c,r⟩=>(Q [bE 0 1,(1,.fn 123 [] [.ref 3 0]),aU 4 b,bB 16 x2.aD,cQ 17 x2.aD,aU 18 b,cH 24 a.aQ,cQ 25 a.aQ,aU 26 c] (aW 4 a::(3,.box [.ref 1 0])::cL r x2 g))) (encE:=(fun(o:aA YV)=>(xq 2 [bE 0 1,(1,.fn 123 [] [.ref 3 0]),bB 16 x2.aD,cQ 17 x2.aD,aU 18 b] (aW 4 a::(3,.box [.ref 1 0])::cL o x2 g)))) (fun⟨c,r⟩=>?_) bS (0,q)) fun o=>?_;refine ig fun e=>?_;refine bz lm ?_;refine bo (aN (S:=Int×(aA YV)) (enc:=fun⟨h,s⟩=>(Q [bE 0 1,(1,.fn 123 [] [.ref 3 0]),aU 4 b,aU 6 c,bB 16 x2.aD,cQ 17 x2.aD,aU 18 b,cH 24 a.aQ,cQ 25 a.aQ,aU 26 c,cS 32 e.aM,cQ 33 e.aM,aU 34 h] (cT 5 e::aW 4 a::(3,.box [.ref 1 0])::cL s x2 g))) (encE:=(fun(n:aA YV)=>(xq 4 [bE 0 1,(1,.fn 123 [] [.ref 3 0]),aU 4 b,bB 16 x2.aD,cQ 17 x2.aD,aU 18 b,cH 24 a.aQ,cQ 25 a.aQ,aU 26 c] (cT 5 e::aW 4 a::(3,.box [.ref 1 0])::cL n x2 g)))) (fun⟨h,s⟩=>?_) bS (0,r)) fun n=>?_;refine ig fun j=>?_;refine bz lm ?_;refine bo (aN (S:=Int×(aA YV)) (enc:=fun⟨i,f⟩=>(Q [bE 0 1,(1,.fn 123 [] [.ref 3 0]),aU 4 b,aU 6 c,aU 8 h,bB 16 x2.aD,cQ 17 x2.aD,aU 18 b,cH 24 a.aQ,cQ 25 a.aQ,aU 26 c,cS 32 e.aM,cQ 33 e.aM,aU 34 h,eT 40 j.aT,cQ 41 j.aT,aU 42 i] (cK 6 j::cT 5 e::aW 4 a::(3,.box [.ref 1 0])::cL f x2 g))) (encE:=(fun(m:aA YV)=>(xq 6 [bE 0 1,(1,.fn 123 [] [.ref 3 0]),aU 4 b,aU 6 c,bB 16 x2.aD,cQ 17 x2.aD,aU 18 b,cH 24 a.aQ,cQ 25 a.aQ,aU 26 c,cS 32 e.aM,cQ 33 e.aM,aU 34 h] (cK 6 j::cT 5 e::aW 4 a::(3,.box [.ref 1 0])::cL m x2 g)))) (fun⟨i,f⟩=>?_) bS (0,s)) fun m=>?_;refine ig fun l=>?_;refine bo (eN2 d (YP.mk 4 0 c b h i 0) l (YK.mk x2 g f)) fun t=>?_;refine bo (iH (d+8) t l.ID f x2 g) fun v=>?_;rfl;rfl;rfl;rfl;rfl
def hW1 (x1:aA YV) (x2:Y0) (a:Int):aB (aA YV):=
 (Ct x1 x2 a).bind fun b=>some b
def eO2 (x1:aA YV) (x2:Y0) (a:Int):gA (XD k (d+11)) 83 [.ref 1 0] (cL x1 x2 a) 3 false=(hW1 x1 x2 a).map (fun(b:aA YV)=>((.tup [],(cL b x2 a),0))):=by
 rw[xd (fn:=p83) rfl];refine bo (hV1 d x1 x2 a) fun c=>?_;rfl
def pO1 (x1:YB):aB Bool:=
 some x1.nW
def eP2 (x1:YB):OD k (d+1) 184 [yG x1]=(pO1 x1).map bv:=oe rfl<|by
 rfl
def Ly (x1:aA YB):aB Int:=
 (bC (E:=Int⊕Unit) (fun(a:Int)=>dT x1 a (fun b=>(pO1 b).bind fun c=>if c then some (.inr (.inl a))else some (.inl (bK (a+1)))) (some (.inr (.inr ())))) bS 0).bind fun d=>(match d with|.inl x7=>some x7|.inr _=>some (-1))
def pP1 (x1:aA YB):OD k (d+2) 182 [gX x1,.fn 184 [] []]=(Ly x1).map i64:=oe rfl<|by
 refine bz lm ?_;refine bo (aN (S:=Int) (enc:=fun a=>(Q [mS 0 x1,(1,.fn 184 [] []),cQ 7 x1,aU 8 a] [])) (encE:=Ri 4) (fun a=>?_) bS 0) fun c=>?_;refine ig fun b=>?_;refine bo (eP2 d b) fun e=>?_;refine io rfl rfl;rcases c with f|_;rfl;rfl
def Lz (x1:aA YB):aB Bool:=
 (Ly x1).bind fun x2=>some (decide (x2>=0))
def pQ1 (x1:aA YB):OD k (d+3) 125 [gX x1,.fn 184 [] []]=(Lz x1).map bv:=oe rfl<|by
 refine bo (pP1 d x1) fun x2=>?_;rfl
def hY1 (x1:YE):aB Bool:=
 ((if x1.cE==1 then(Lz x1.cA).bind fun x2=>some x2 else some false:aB (Bool))).bind fun a=>some a
def uI1 (x1:YE):OD k (d+4) 130 [eI x1]=(hY1 x1).map bv:=oe rfl<|by
 refine bo (e:=id) ?_ fun a=>?_;refine io ?_ rfl;refine bo (pQ1 d x1.cA) fun x2=>?_;rfl;rfl
def Ma (x1:Y0) (x2 a d:Int):aB (aA YE):=
 ((if((decide (x2<0))||(decide (x2>=(x1.aD.length:Int))))||(decide (a<0))then some true else(bM x1.aD x2).bind fun e=>some (decide (a>=(e.aQ.length:Int))):aB (Bool))).bind fun f=>((if f||(decide (d<0))then some true else(bM x1.aD x2).bind fun g=>(bM g.aQ a).bind fun h=>some (decide (d>=(h.aM.length:Int))):aB (Bool))).bind fun i=>if i then some []else(bM x1.aD x2).bind fun b=>(bM b.aQ a).bind fun x11=>(bM x11.aM d).bind fun c=>some c.aT
def Xf (x1:Y0) (x2 a b:Int):OD k (d+1) 186 [cX x1,i64 x2,i64 a,i64 b]=(Ma x1 x2 a b).map (fun g=>mR g):=oe rfl<|by
 refine bz (gB (bz lm rfl)) ?_;refine bz (gB rfl) ?_;refine bo (e:=id) ?_ fun i=>?_;refine io rfl ?_;refine bo rg fun h=>?_;refine bz lm ?_;rfl;refine bz (gB rfl) ?_;refine bo (e:=id) ?_ fun m=>?_;refine io rfl ?_;refine bo rg fun j=>?_;refine bo rg fun l=>?_;refine bz lm ?_;rfl;refine io rfl ?_;refine bo rg fun c=>?_;refine bo rg fun x11=>?_;refine bo rg fun f=>?_;rfl
def hZ1 (x1:Y0) (x2:YP):aB Int:=
 if x2.cE !=4 then some 11 else((if decide (x2.pD<0)then some true else(Ma x1 x2.cV x2.cZ x2.dB).bind fun a=>some (decide (x2.pD>=(a.length:Int))):aB (Bool))).bind fun b=>if b then some 2 else some 0
def uJ1 (x1:Y0) (x2:YP):OD k (d+2) 185 [cX x1,eO x2]=(hZ1 x1 x2).map i64:=oe rfl<|by
 refine io rfl ?_;refine bo (e:=id) ?_ fun b=>?_;refine io rfl ?_;refine bo (Xf d x1 x2.cV x2.cZ x2.dB) fun a=>?_;refine bz lm ?_;rfl;refine io rfl rfl
def iA1 (x1 x2:Int) (a b:Int):aB YP:=
 some (YP.mk 4 0 x2 x1 a b 0)
def uK1 (x1 x2:Int) (a b:Int):OD k (d+1) 187 [i64 x1,i64 x2,i64 a,i64 b]=(iA1 x1 x2 a b).map (fun c=>eO c):=oe rfl<|by
 rfl
def iB1 (x1:Y0) (x2:YP):aB (YP×Bool):=
 (hZ1 x1 x2).bind fun a=>if a !=0 then some ((YP.mk 0 0 0 0 0 0 0),false)else(Ma x1 x2.cV x2.cZ x2.dB).bind fun b=>if decide ((bK (x2.pD+1))<(b.length:Int))then(iA1 x2.cV x2.cZ x2.dB (bK (x2.pD+1))).bind fun c=>some (c,true)else(Ma x1 (bK (x2.cV+1)) x2.cZ x2.dB).bind fun d=>if decide ((d.length:Int)>0)then(iA1 (bK (x2.cV+1)) x2.cZ x2.dB 0).bind fun e=>some (e,true)else some ((YP.mk 0 0 0 0 0 0 0),false)
def uL1 (x1:Y0) (x2:YP):OD k (d+3) 131 [cX x1,eO x2]=(iB1 x1 x2).map (fun⟨a,b⟩=>.tup [eO a,bv b]):=oe rfl<|by
 refine bo (uJ1 d x1 x2) fun c=>?_;refine io rfl ?_;refine bo (Xf (d+1) x1 x2.cV x2.cZ x2.dB) fun e=>?_;refine bz lm ?_;refine io ?_ ?_;refine bo (uK1 (d+1) x2.cV x2.cZ x2.dB (bK (x2.pD+1))) fun f=>?_;rfl;refine bo (Xf (d+1) x1 (bK (x2.cV+1)) x2.cZ x2.dB) fun g=>?_;refine bz lm ?_;refine io ?_ rfl;refine bo (uK1 (d+1) (bK (x2.cV+1)) x2.cZ x2.dB 0) fun h=>?_;rfl
def Xg (x1:YE):aB ((aA YD)×(aA YY)×(aA YB)):=
 (lF x1.cA).bind fun x2=>(lF x1.dX).bind fun a=>(lF x1.dA).bind fun b=>some (a,b,x2)
def xG1 (x1:YE):gA (XD k (d+2)) 150 [eI x1] [] 3 true=(Xg x1).map (fun(⟨a,b,c⟩:(aA YD)×(aA YY)×(aA YB))=>((.agg [i64 x1.ID.kP,i64 x1.ID.fE,i64 x1.cE,i64 x1.Value.Log,i64 x1.Value.pC,.own 5,kL a,i64 x1.bQ,i64 x1.dM,i64 x1.dU,jI b,i64 x1.kZ,i64 x1.kY],[(5,.lst 135 5 true (I YB.g c))],6))):=by
 rw[xd (fn:=gC1) rfl];refine bo (tQ 202 d 135 5 _ _ 5 rfl rfl rfl (fun _=>rfl)) fun x2=>?_;refine bo (mQ 203 (d+1) 5 _ _ rfl rfl rfl) fun e=>?_;refine bo (mQ 204 (d+1) 2 _ _ rfl rfl rfl) fun f=>?_;rfl
def pR1 (x1:Y0) (x2:YP):aB (YE×Int):=
 (hZ1 x1 x2).bind fun b=>if b !=0 then some ((YE.mk (YZ.mk 0 0) 0 (YA.mk 0 0) [] [] 0 0 0 [] 0 0),b)else(Ma x1 x2.cV x2.cZ x2.dB).bind fun c=>(bM c x2.pD).bind fun a=>(Xg a).bind fun⟨d,e,f⟩=>some ((YE.mk a.ID a.cE a.Value f d a.bQ a.dM a.dU e a.kZ a.kY),0)
def eQ2 (x1:Y0) (x2:YP):OD k (d+3) 132 [cX x1,eO x2]=(pR1 x1 x2).map (fun⟨b,c⟩=>.tup [eI b,i64 c]):=oe rfl<|by
 refine bo (uJ1 d x1 x2) fun e=>?_;refine io rfl ?_;refine bo (Xf (d+1) x1 x2.cV x2.cZ x2.dB) fun f=>?_;refine bo rg fun a=>?_;refine bo (xG1 d a) fun⟨g,h,i⟩=>?_;rfl
def pS1 (x1 x2:YB):aB Bool:=
 some (((x1.cC.nJ==x2.cC.nJ)&&((x1.cC.mI==x2.cC.mI)&&((x1.cC.jB==x2.cC.jB)&&true)))!=false)
def eR2 (x1 x2:YB):OD k (d+1) 188 [yG x1,yI x2]=(pS1 x1 x2).map bv:=oe rfl<|by
 rfl
def Mb (x1:aA YB) (x2:YB):aB Int:=
 (bC (E:=Int⊕Unit) (fun(a:Int)=>dT x1 a (fun b=>(pS1 b x2).bind fun c=>if c then some (.inr (.inl a))else some (.inl (bK (a+1)))) (some (.inr (.inr ())))) bS 0).bind fun d=>(match d with|.inl x8=>some x8|.inr _=>some (-1))
def pT1 (x1:aA YB) (x2:YB):OD k (d+2) 182 [gX x1,.fn 188 [] [yI x2]]=(Mb x1 x2).map i64:=oe rfl<|by
 refine bz lm ?_;refine bo (aN (S:=Int) (enc:=fun a=>(Q [mS 0 x1,(1,.fn 188 [] [yI x2]),cQ 7 x1,aU 8 a] [])) (encE:=Ri 4) (fun a=>?_) bS 0) fun c=>?_;refine ig fun b=>?_;refine bo (eR2 d b x2) fun e=>?_;refine io rfl rfl;rcases c with f|_;rfl;rfl
def Mc (x1:aA YB) (x2:YB):aB Bool:=
 (Mb x1 x2).bind fun a=>some (decide (a>=0))
def pU1 (x1:aA YB) (x2:YB):OD k (d+3) 125 [gX x1,.fn 188 [] [yI x2]]=(Mc x1 x2).map bv:=oe rfl<|by
 refine bo (pT1 d x1 x2) fun a=>?_;rfl
def pV1 (x1 x2:YE):aB Bool:=
 if x1.cE !=1 then some true else(bC (E:=Unit⊕Unit) (fun(c:Int)=>dT x1.cA c (fun d=>((if d.nW then((if x2.cE==1 then(Mc x2.cA d).bind fun e=>some e else some false:aB (Bool))).bind fun a=>some (!a)else some false:aB (Bool))).bind fun x11=>if x11 then some (.inr (.inl ()))else some (.inl (bK (c+1)))) (some (.inr (.inr ())))) bS 0).bind fun b=>(match b with|.inl _=>some false|.inr _=>some true)
def eS2 (x1 x2:YE):OD k (d+4) 133 [eI x1,eI x2]=(pV1 x1 x2).map bv:=oe rfl<|by
 refine io rfl ?_;refine bz lm ?_;refine bo (aN (S:=Int) (enc:=fun b=>(Q [bE 3 1,mS 11 x1.cA,cQ 12 x1.cA,aU 13 b] [eG 1 x2,eG 0 x1])) (encE:=(fun|.inl _=>(rq [(4,bv false)] [eG 1 x2,eG 0 x1])|.inr _=>(xq 0 [] [eG 1 x2,eG 0 x1]))) (fun b=>?_) bS 0) fun a=>?_;refine ig fun f=>?_;refine bo (e:=id) ?_ fun x11=>?_;refine io ?_ rfl;refine bo (e:=id) ?_ fun c=>?_;refine io ?_ rfl;refine bo (pU1 d x2.cA f) fun g=>?_;rfl;rfl;refine io rfl rfl;rcases a with _|_;rfl;rfl
def pW1 (x1:YP) (x2:YE) (b:YK):aB Bool:=
 (hY1 x2).bind fun c=>if !c then some false else(iB1 b.s' x1).bind fun⟨d,e⟩=>(pR1 b.s' d).bind fun⟨f,h⟩=>((if !e then some true else(pV1 x2 f).bind fun g=>some (!g):aB (Bool))).bind fun a=>some a
def eT2 (x1:YP) (x2:YE) (a:YK):OD k (d+5) 129 [eO x1,eI x2,.ip [dF a]]=(pW1 x1 x2 a).map bv:=oe rfl<|by
 refine bo (uI1 d x2) fun g=>?_;refine io rfl ?_;refine bo (uL1 (d+1) a.s' x1) fun⟨c,h⟩=>?_;refine bo (eQ2 (d+1) a.s' c) fun⟨f,i⟩=>?_;refine bo (e:=id) ?_ fun b=>?_;refine io rfl ?_;refine bo (eS2 d x2 f) fun j=>?_;rfl;rfl
def Cu (x1:aA YV) (x2:Y0) (s:Int):aB (aA YV):=
 (bC (E:=aA YV) (fun(⟨d,m⟩:Int×(aA YV))=>dT x2.aD d (fun p=>(bC (E:=aA YV) (fun(⟨e,n⟩:Int×(aA YV))=>dT p.aQ e (fun q=>(bC (E:=aA YV) (fun(⟨f,o⟩:Int×(aA YV))=>dT q.aM f (fun r=>(bC (E:=aA YV) (fun(⟨a,b⟩:Int×(aA YV))=>dT r.aT a (fun c=>(pW1 (YP.mk 4 0 e d f a 0) c (YK.mk x2 s b)).bind fun g=>(iV g c.ID b x2 s).bind fun h=>some (.inl ((bK (a+1)),h))) (some (.inr b))) bS (0,o)).bind fun i=>some (.inl ((bK (f+1)),i))) (some (.inr o))) bS (0,n)).bind fun j=>some (.inl ((bK (e+1)),j))) (some (.inr n))) bS (0,m)).bind fun k=>some (.inl ((bK (d+1)),k))) (some (.inr m))) bS (0,x1)).bind fun l=>some l
def iC1 (x1:aA YV) (x2:Y0) (g:Int):gA (XD k (d+6)) 120 [.ref 1 0,.fn 129 [] [.ref 3 0]] ((3,.box [.ref 1 0])::cL x1 x2 g) 4 false=(Cu x1 x2 g).map (fun(u:aA YV)=>((.tup [],((3,.box [.ref 1 0])::cL u x2 g),0))):=by
 rw[xd (fn:=Zz) rfl];refine bz lm ?_;refine bo (aN (S:=Int×(aA YV)) (enc:=fun⟨b,q⟩=>(Q [bE 0 1,(1,.fn 129 [] [.ref 3 0]),bB 16 x2.aD,cQ 17 x2.aD,aU 18 b] ((3,.box [.ref 1 0])::cL q x2 g))) (encE:=(fun(p:aA YV)=>(xq 0 [] ((3,.box [.ref 1 0])::cL p x2 g)))) (fun⟨b,q⟩=>?_) bS (0,x1)) fun p=>?_;refine ig fun a=>?_;refine bz lm ?_;refine bo (aN (S:=Int×(aA YV)) (enc:=fun⟨c,r⟩=>(Q [bE 0 1,(1,.fn 129 [] [.ref 3 0]),aU 4 b,bB 16 x2.aD,cQ 17 x2.aD,aU 18 b,cH 24 a.aQ,cQ 25 a.aQ,aU 26 c] (aW 4 a::(3,.box [.ref 1 0])::cL r x2 g))) (encE:=(fun(o:aA YV)=>(xq 2 [bE 0 1,(1,.fn 129 [] [.ref 3 0]),bB 16 x2.aD,cQ 17 x2.aD,aU 18 b] (aW 4 a::(3,.box [.ref 1 0])::cL o x2 g)))) (fun⟨c,r⟩=>?_) bS (0,q)) fun o=>?_;refine ig fun e=>?_;refine bz lm ?_;refine bo (aN (S:=Int×(aA YV)) (enc:=fun⟨h,s⟩=>(Q [bE 0 1,(1,.fn 129 [] [.ref 3 0]),aU 4 b,aU 6 c,bB 16 x2.aD,cQ 17 x2.aD,aU 18 b,cH 24 a.aQ,cQ 25 a.aQ,aU 26 c,cS 32 e.aM,cQ 33 e.aM,aU 34 h] (cT 5 e::aW 4 a::(3,.box [.ref 1 0])::cL s x2 g))) (encE:=(fun(n:aA YV)=>(xq 4 [bE 0 1,(1,.fn 129 [] [.ref 3 0]),aU 4 b,bB 16 x2.aD,cQ 17 x2.aD,aU 18 b,cH 24 a.aQ,cQ 25 a.aQ,aU 26 c] (cT 5 e::aW 4 a::(3,.box [.ref 1 0])::cL n x2 g)))) (fun⟨h,s⟩=>?_) bS (0,r)) fun n=>?_;refine ig fun j=>?_;refine bz lm ?_;refine bo (aN (S:=Int×(aA YV)) (enc:=fun⟨i,f⟩=>(Q [bE 0 1,(1,.fn 129 [] [.ref 3 0]),aU 4 b,aU 6 c,aU 8 h,bB 16 x2.aD,cQ 17 x2.aD,aU 18 b,cH 24 a.aQ,cQ 25 a.aQ,aU 26 c,cS 32 e.aM,cQ 33 e.aM,aU 34 h,eT 40 j.aT,cQ 41 j.aT,aU 42 i] (cK 6 j::cT 5 e::aW 4 a::(3,.box [.ref 1 0])::cL f x2 g))) (encE:=(fun(m:aA YV)=>(xq 6 [bE 0 1,(1,.fn 129 [] [.ref 3 0]),aU 4 b,aU 6 c,bB 16 x2.aD,cQ 17 x2.aD,aU 18 b,cH 24 a.aQ,cQ 25 a.aQ,aU 26 c,cS 32 e.aM,cQ 33 e.aM,aU 34 h] (cK 6 j::cT 5 e::aW 4 a::(3,.box [.ref 1 0])::cL m x2 g)))) (fun⟨i,f⟩=>?_) bS (0,s)) fun m=>?_;refine ig fun l=>?_;refine bo (eT2 d (YP.mk 4 0 c b h i 0) l (YK.mk x2 g f)) fun t=>?_;refine bo (iH (d+4) t l.ID f x2 g) fun v=>?_;rfl;rfl;rfl;rfl;rfl
def iD1 (x1:aA YV) (x2:Y0) (a:Int):aB (aA YV):=
 (Cu x1 x2 a).bind fun b=>some b
def eU2 (x1:aA YV) (x2:Y0) (a:Int):gA (XD k (d+7)) 84 [.ref 1 0] (cL x1 x2 a) 3 false=(iD1 x1 x2 a).map (fun(b:aA YV)=>((.tup [],(cL b x2 a),0))):=by
 rw[xd (fn:=p84) rfl];refine bo (iC1 d x1 x2 a) fun c=>?_;rfl
def pX1 (x1:YE) (x2:Int):aB Bool:=
 ((if decide (x2>=(x1.dA.length:Int))then some true else(bM x1.dA x2).bind fun a=>some (((a.qB==(⟨#[]⟩:ByteArray))&&((a.Bs==0)&&true))!=false):aB (Bool))).bind fun b=>some b
def eV2 (x1:YE) (x2:Int):OD k (d+1) 189 [eI x1,i64 x2]=(pX1 x1 x2).map bv:=oe rfl<|by
 refine bz lm ?_;refine bo (e:=id) ?_ fun b=>?_;refine io rfl ?_;refine bo rg fun a=>?_;rfl;rfl
def Xh (x1 x2 S:Int) (T:aA (YP×Bool)) (V:aA YV) (U:Y0) (W:Int):aB (aA (YP×Bool)):=
 (bC (E:=Int×Int×Int×Int×Int×YY×(aA (YP×Bool))) (fun(⟨j,n,o,p,q,r,s,t⟩:Int×Int×Int×Int×Int×Int×YY×(aA (YP×Bool)))=>dT U.aD j (fun u=>((if decide (x1>=(u.aQ.length:Int))then some true else(bM u.aQ x1).bind fun N=>some (decide (x2>=(N.aM.length:Int))):aB (Bool))).bind fun O=>if O then some (.inl ((bK (j+1)),n,o,p,q,r,s,t))else(bM u.aQ x1).bind fun P=>(bM P.aM x2).bind fun R=>(bC (E:=Int×Int×Int×Int×Int×YY×(aA (YP×Bool))) (fun(⟨a,e,f,g,h,i,b,c⟩:Int×Int×Int×Int×Int×Int×YY×(aA (YP×Bool)))=>dT R.aT a (fun k=>(pX1 k S).bind fun v=>if v then some (.inl ((bK (a+1)),e,f,g,h,i,b,c))else(bM k.dA S).bind fun d=>((if(b.Bs==1)&&(d.qB.toList==(⟨#[]⟩:ByteArray).toList)then some (Zw c (YP.mk e 0 f g h i 0) true)else some c:aB (aA (YP×Bool)))).bind fun l=>((if((d.qB.toList==(⟨#[]⟩:ByteArray).toList)&&(d.Bs==2))&&(b.Bs !=2)then some (Zw l (YP.mk 4 0 x1 j x2 a 0) true)else some l:aB (aA (YP×Bool)))).bind fun w=>some (.inl ((bK (a+1)),4,x1,j,x2,a,d,w))) (some (.inr (e,f,g,h,i,b,c)))) bS (0,n,o,p,q,r,s,t)).bind fun⟨x,y,z,A,B,C,D⟩=>some (.inl ((bK (j+1)),x,y,z,A,B,C,D))) (some (.inr (n,o,p,q,r,s,t)))) bS (0,0,0,0,0,0,(YY.mk (⟨#[]⟩:ByteArray) 0),T)).bind fun⟨F,G,H,J,K,L,m⟩=>((if L.Bs==1 then some (Zw m (YP.mk F 0 G H J K 0) true)else some m:aB (aA (YP×Bool)))).bind fun M=>some M
def xH1 (x1 x2 M:Int) (X:aA (YP×Bool)) (y:aA YV) (c:Y0) (z:Int):gA (XD k (d+2)) 134 [.ref 1 0,i64 x1,i64 x2,i64 M,.map 3] ((3,.mp (I (jS (eA YP.g) bv) X))::cL y c z) 4 false=(Xh x1 x2 M X y c z).map (fun(W:aA (YP×Bool))=>((.tup [],((3,.mp (I (jS (eA YP.g) bv) W))::cL y c z),0))):=by
 rw[xd (fn:=bE2) rfl];refine bz lm ?_;refine bo (aN (S:=Int×Int×Int×Int×Int×Int×YY×(aA (YP×Bool))) (enc:=fun⟨a,N,O,P,R,T,U,V⟩=>(Q [aU 1 x1,aU 2 x2,aU 3 M,(4,.map 3),bE 10 4,bE 11 5,bB 22 c.aD,cQ 23 c.aD,aU 24 a] ((5,.box [i64 N,i64 0,i64 O,i64 P,i64 R,i64 T,i64 0])::eQ 4 U::(3,.mp (I (jS (eA YP.g) bv) V))::cL y c z))) (encE:=(fun(⟨n,o,p,q,r,w,x⟩:Int×Int×Int×Int×Int×YY×(aA (YP×Bool)))=>(xq 0 [(4,.map 3),bE 10 4,bE 11 5] ((5,.box [i64 n,i64 0,i64 o,i64 p,i64 q,i64 r,i64 0])::eQ 4 w::(3,.mp (I (jS (eA YP.g) bv) x))::cL y c z)))) (fun⟨a,N,O,P,R,T,U,V⟩=>?_) bS (0,0,0,0,0,0,(YY.mk (⟨#[]⟩:ByteArray) 0),X)) fun⟨n,o,p,q,r,w,x⟩=>?_;refine ig fun A=>?_;refine bz lm ?_;refine bo (e:=id) ?_ fun a0=>?_;refine io rfl ?_;refine bo rg fun Z=>?_;refine bz lm ?_;rfl;refine io rfl ?_;refine bo rg fun b0=>?_;refine bo rg fun s=>?_;refine bz lm ?_;refine bo (aN (S:=Int×Int×Int×Int×Int×Int×YY×(aA (YP×Bool))) (enc:=fun⟨b,f,h,i,j,l,m,t⟩=>(Q [aU 1 x1,aU 2 x2,aU 3 M,(4,.map 3),bE 10 4,bE 11 5,aU 12 a,bB 22 c.aD,cQ 23 c.aD,aU 24 a,eT 54 s.aT,cQ 55 s.aT,aU 56 b] (aW 6 A::(5,.box [i64 f,i64 0,i64 h,i64 i,i64 j,i64 l,i64 0])::eQ 4 m::(3,.mp (I (jS (eA YP.g) bv) t))::cL y c z))) (encE:=(fun(⟨D,E,F,G,H,J,K⟩:Int×Int×Int×Int×Int×YY×(aA (YP×Bool)))=>(xq 2 [aU 1 x1,aU 2 x2,aU 3 M,(4,.map 3),bE 10 4,bE 11 5,bB 22 c.aD,cQ 23 c.aD,aU 24 a] (aW 6 A::(5,.box [i64 D,i64 0,i64 E,i64 F,i64 G,i64 H,i64 0])::eQ 4 J::(3,.mp (I (jS (eA YP.g) bv) K))::cL y c z)))) (fun⟨b,f,h,i,j,l,m,t⟩=>?_) bS (0,N,O,P,R,T,U,V)) fun⟨D,E,F,G,H,J,K⟩=>?_;refine ig fun u=>?_;refine bo (eV2 d u M) fun Y=>?_;refine io rfl ?_;refine bo rg fun B=>?_;refine bz (iK rfl) ?_;refine bo (e:=(fun(v:aA (YP×Bool))=>(nq [aU 1 x1,aU 2 x2,aU 3 M,(4,.map 3),bE 10 4,bE 11 5,aU 12 a,bE 16 8,bE 17 9,bB 22 c.aD,cQ 23 c.aD,aU 24 a,eT 54 s.aT,cQ 55 s.aT,aU 56 b] (eQ 9 B::(8,.box [i64 4,i64 0,i64 x1,i64 a,i64 x2,i64 b,i64 0])::eG 7 u::aW 6 A::(5,.box [i64 f,i64 0,i64 h,i64 i,i64 j,i64 l,i64 0])::eQ 4 m::(3,.mp (I (jS (eA YP.g) bv) v))::cL y c z)))) ?_ fun v=>?_;refine io ?_ rfl;refine bz (rT lC bv t (YP.mk f 0 h i j l 0) true) ?_;rfl;refine bz (iK rfl) ?_;refine bz (iK rfl) ?_;refine bo (e:=(fun(C:aA (YP×Bool))=>(nq [aU 1 x1,aU 2 x2,aU 3 M,(4,.map 3),bE 10 4,bE 11 5,aU 12 a,bE 16 8,bE 17 9,bB 22 c.aD,cQ 23 c.aD,aU 24 a,eT 54 s.aT,cQ 55 s.aT,aU 56 b] (eQ 9 B::(8,.box [i64 4,i64 0,i64 x1,i64 a,i64 x2,i64 b,i64 0])::eG 7 u::aW 6 A::(5,.box [i64 f,i64 0,i64 h,i64 i,i64 j,i64 l,i64 0])::eQ 4 m::(3,.mp (I (jS (eA YP.g) bv) C))::cL y c z)))) ?_ fun C=>?_;refine io ?_ rfl;refine bz (rT lC bv v (YP.mk 4 0 x1 a x2 b 0) true) ?_;rfl;rfl;rfl;refine bo (e:=(fun(L:aA (YP×Bool))=>(nq [] ((5,.box [i64 n,i64 0,i64 o,i64 p,i64 q,i64 r,i64 0])::eQ 4 w::(3,.mp (I (jS (eA YP.g) bv) L))::cL y c z)))) ?_ fun L=>?_;refine io ?_ rfl;refine bz (rT lC bv x (YP.mk n 0 o p q r 0) true) ?_;rfl;rfl
def pY1 (x1:YP) (x2:YE) (a:aA (YP×Bool)):aB Bool:=
 some (mY1 a x1 false)
def eW2 (x1:YP) (x2:YE) (a:aA (YP×Bool)):OD k (d+1) 135 [eO x1,eI x2,.ip [.im (I (jS (eA YP.g) bv) a)]]=(pY1 x1 x2 a).map bv:=oe rfl<|by
 refine bz (Gf lC bv a x1 false) ?_;rfl
def Cv (x1:aA (YP×Bool)) (x2:aA YV) (s:Y0) (t:Int):aB (aA YV):=
 (bC (E:=aA YV) (fun(⟨d,m⟩:Int×(aA YV))=>dT s.aD d (fun p=>(bC (E:=aA YV) (fun(⟨e,n⟩:Int×(aA YV))=>dT p.aQ e (fun q=>(bC (E:=aA YV) (fun(⟨f,o⟩:Int×(aA YV))=>dT q.aM f (fun r=>(bC (E:=aA YV) (fun(⟨a,b⟩:Int×(aA YV))=>dT r.aT a (fun c=>(pY1 (YP.mk 4 0 e d f a 0) c x1).bind fun g=>(iV g c.ID b s t).bind fun h=>some (.inl ((bK (a+1)),h))) (some (.inr b))) bS (0,o)).bind fun i=>some (.inl ((bK (f+1)),i))) (some (.inr o))) bS (0,n)).bind fun j=>some (.inl ((bK (e+1)),j))) (some (.inr n))) bS (0,m)).bind fun k=>some (.inl ((bK (d+1)),k))) (some (.inr m))) bS (0,x2)).bind fun l=>some l
def iE1 (x1:aA (YP×Bool)) (x2:aA YV) (c:Y0) (i:Int):gA (XD k (d+2)) 120 [.ref 1 0,.fn 135 [] [.ref 4 0]] ((4,.box [.map 3])::(3,.mp (I (jS (eA YP.g) bv) x1))::cL x2 c i) 5 false=(Cv x1 x2 c i).map (fun(w:aA YV)=>((.tup [],((4,.box [.map 3])::(3,.mp (I (jS (eA YP.g) bv) x1))::cL w c i),0))):=by
 rw[xd (fn:=Zz) rfl];refine bz lm ?_;refine bo (aN (S:=Int×(aA YV)) (enc:=fun⟨b,s⟩=>(Q [bE 0 1,(1,.fn 135 [] [.ref 4 0]),bB 16 c.aD,cQ 17 c.aD,aU 18 b] ((4,.box [.map 3])::(3,.mp (I (jS (eA YP.g) bv) x1))::cL s c i))) (encE:=(fun(r:aA YV)=>(xq 0 [] ((4,.box [.map 3])::(3,.mp (I (jS (eA YP.g) bv) x1))::cL r c i)))) (fun⟨b,s⟩=>?_) bS (0,x2)) fun r=>?_;refine ig fun a=>?_;refine bz lm ?_;refine bo (aN (S:=Int×(aA YV)) (enc:=fun⟨e,t⟩=>(Q [bE 0 1,(1,.fn 135 [] [.ref 4 0]),aU 4 b,bB 16 c.aD,cQ 17 c.aD,aU 18 b,cH 24 a.aQ,cQ 25 a.aQ,aU 26 e] (aW 5 a::(4,.box [.map 3])::(3,.mp (I (jS (eA YP.g) bv) x1))::cL t c i))) (encE:=(fun(q:aA YV)=>(xq 2 [bE 0 1,(1,.fn 135 [] [.ref 4 0]),bB 16 c.aD,cQ 17 c.aD,aU 18 b] (aW 5 a::(4,.box [.map 3])::(3,.mp (I (jS (eA YP.g) bv) x1))::cL q c i)))) (fun⟨e,t⟩=>?_) bS (0,s)) fun q=>?_;refine ig fun f=>?_;refine bz lm ?_;refine bo (aN (S:=Int×(aA YV)) (enc:=fun⟨h,u⟩=>(Q [bE 0 1,(1,.fn 135 [] [.ref 4 0]),aU 4 b,aU 6 e,bB 16 c.aD,cQ 17 c.aD,aU 18 b,cH 24 a.aQ,cQ 25 a.aQ,aU 26 e,cS 32 f.aM,cQ 33 f.aM,aU 34 h] (cT 6 f::aW 5 a::(4,.box [.map 3])::(3,.mp (I (jS (eA YP.g) bv) x1))::cL u c i))) (encE:=(fun(p:aA YV)=>(xq 4 [bE 0 1,(1,.fn 135 [] [.ref 4 0]),aU 4 b,bB 16 c.aD,cQ 17 c.aD,aU 18 b,cH 24 a.aQ,cQ 25 a.aQ,aU 26 e] (cT 6 f::aW 5 a::(4,.box [.map 3])::(3,.mp (I (jS (eA YP.g) bv) x1))::cL p c i)))) (fun⟨h,u⟩=>?_) bS (0,t)) fun p=>?_;refine ig fun m=>?_;refine bz lm ?_;refine bo (aN (S:=Int×(aA YV)) (enc:=fun⟨j,l⟩=>(Q [bE 0 1,(1,.fn 135 [] [.ref 4 0]),aU 4 b,aU 6 e,aU 8 h,bB 16 c.aD,cQ 17 c.aD,aU 18 b,cH 24 a.aQ,cQ 25 a.aQ,aU 26 e,cS 32 f.aM,cQ 33 f.aM,aU 34 h,eT 40 m.aT,cQ 41 m.aT,aU 42 j] (cK 7 m::cT 6 f::aW 5 a::(4,.box [.map 3])::(3,.mp (I (jS (eA YP.g) bv) x1))::cL l c i))) (encE:=(fun(o:aA YV)=>(xq 6 [bE 0 1,(1,.fn 135 [] [.ref 4 0]),aU 4 b,aU 6 e,bB 16 c.aD,cQ 17 c.aD,aU 18 b,cH 24 a.aQ,cQ 25 a.aQ,aU 26 e,cS 32 f.aM,cQ 33 f.aM,aU 34 h] (cK 7 m::cT 6 f::aW 5 a::(4,.box [.map 3])::(3,.mp (I (jS (eA YP.g) bv) x1))::cL o c i)))) (fun⟨j,l⟩=>?_) bS (0,u)) fun o=>?_;refine ig fun n=>?_;refine bo (eW2 d (YP.mk 4 0 e b h j 0) n x1) fun v=>?_;refine bo (iH d v n.ID l c i) fun x=>?_;rfl;rfl;rfl;rfl;rfl
def iF1 (x1:aA YV) (x2:Y0) (l:Int):aB (aA YV):=
 (F32 x2).bind fun m=>(bC (E:=aA (YP×Bool)) (fun(⟨a,d⟩:Int×(aA (YP×Bool)))=>if decide (a<m)then(bC (E:=aA (YP×Bool)) (fun(⟨b,e⟩:Int×(aA (YP×Bool)))=>if decide (b<2)then(bC (E:=aA (YP×Bool)) (fun(⟨c,f⟩:Int×(aA (YP×Bool)))=>if decide (c<4)then(Xh a b c f x1 x2 l).bind fun g=>some (.inl ((bK (c+1)),g))else some (.inr f)) bS (0,e)).bind fun h=>some (.inl ((bK (b+1)),h))else some (.inr e)) bS (0,d)).bind fun i=>some (.inl ((bK (a+1)),i))else some (.inr d)) bS (0,[])).bind fun j=>(Cv j x1 x2 l).bind fun k=>some k
def eX2 (x1:aA YV) (x2:Y0) (c:Int):gA (XD k (d+3)) 85 [.ref 1 0] (cL x1 x2 c) 3 false=(iF1 x1 x2 c).map (fun(o:aA YV)=>((.tup [],(cL o x2 c),0))):=by
 rw[xd (fn:=p85) rfl];refine bo (nK1 (d+1) x2) fun n=>?_;refine bo (aN (S:=Int×(aA (YP×Bool))) (enc:=fun⟨a,e⟩=>(Q [bE 0 1,bE 2 4,aU 13 n,aU 14 a] ((4,.box [.map 3])::(3,.mp (I (jS (eA YP.g) bv) e))::cL x1 x2 c))) (encE:=(fun(j:aA (YP×Bool))=>(xq 0 [bE 0 1,bE 2 4] ((4,.box [.map 3])::(3,.mp (I (jS (eA YP.g) bv) j))::cL x1 x2 c)))) (fun⟨a,e⟩=>?_) bS (0,[])) fun j=>?_;refine io ?_ rfl;refine bo (aN (S:=Int×(aA (YP×Bool))) (enc:=fun⟨b,f⟩=>(Q [bE 0 1,bE 2 4,aU 4 a,aU 13 n,aU 14 a,aU 17 b] ((4,.box [.map 3])::(3,.mp (I (jS (eA YP.g) bv) f))::cL x1 x2 c))) (encE:=(fun(m:aA (YP×Bool))=>(xq 2 [bE 0 1,bE 2 4,aU 13 n,aU 14 a] ((4,.box [.map 3])::(3,.mp (I (jS (eA YP.g) bv) m))::cL x1 x2 c)))) (fun⟨b,f⟩=>?_) bS (0,e)) fun m=>?_;refine io ?_ rfl;refine bo (aN (S:=Int×(aA (YP×Bool))) (enc:=fun⟨h,i⟩=>(Q [bE 0 1,bE 2 4,aU 4 a,aU 5 b,aU 13 n,aU 14 a,aU 17 b,aU 20 h] ((4,.box [.map 3])::(3,.mp (I (jS (eA YP.g) bv) i))::cL x1 x2 c))) (encE:=(fun(l:aA (YP×Bool))=>(xq 4 [bE 0 1,bE 2 4,aU 4 a,aU 13 n,aU 14 a,aU 17 b] ((4,.box [.map 3])::(3,.mp (I (jS (eA YP.g) bv) l))::cL x1 x2 c)))) (fun⟨h,i⟩=>?_) bS (0,f)) fun l=>?_;refine io ?_ rfl;refine bo (xH1 d a b h i x1 x2 c) fun p=>?_;rfl;rfl;rfl;refine bo (iE1 d j x1 x2 c) fun q=>?_;rfl
def Md (x1:Y0):aB Unit:=
 some ()
def pZ1 (x1:Y0):gA (XD k (d+1)) 42 [.ref 0 0] [aG 0 x1] 4 true=(Md x1).map (fun(_:Unit)=>((.fn 69 [] [.ref 4 0],[(4,.box [.ref 0 0]),aG 0 x1],5))):=by
 rw[xd (fn:=p42) rfl];rfl
def Cw (x1 x2:Int) (c d:Int) (e f g:Int) (a:YJ) (h:Bool) (b:YP) (x11:YZ):aB (Unit⊕Unit):=
 if((a.ID.kP==x11.kP)&&((a.ID.fE==x11.fE)&&true))!=false then some (.inl ())else some (.inr ())
def iG1 (x1 x2:Int) (b c:Int) (e f g:Int) (i:YJ) (h:Bool) (a:YP) (x11:YZ):zL (XD k (d+1)) 5 [.agg [i64 x1,i64 x2,i64 b,i64 c,i64 e,i64 f,i64 g],Qq i] [(5,.loop 22 [bE 3 1,bE 4 2,bE 5 3] [13,14] dD dE false none),(3,.box [bv h]),bP 2 a,dH 1 x11] 6=(Cw x1 x2 b c e f g i h a x11).map (fun|.inl _=>((bv false,[(5,.loop 22 [bE 3 1,bE 4 2,bE 5 3] [13,14] dD dE false (some .ret)),(3,.box [bv true]),(2,.box [i64 x1,i64 x2,i64 b,i64 c,i64 e,i64 f,i64 g]),dH 1 x11],0))|.inr _=>((bv true,[(5,.loop 22 [bE 3 1,bE 4 2,bE 5 3] [13,14] dD dE false none),(3,.box [bv h]),bP 2 a,dH 1 x11],0))):=by
 rw[yd];refine bz (okg qQ) ?_;refine io rfl rfl
def uQ (x1 x2:Int) (c d:Int) (e f g:Int) (a:YF) (h:Bool) (b:YP) (x11:YZ):aB (Unit⊕Unit):=
 if((a.ID.kP==x11.kP)&&((a.ID.fE==x11.fE)&&true))!=false then some (.inl ())else some (.inr ())
def Uf (x1 x2:Int) (b c:Int) (e f g:Int) (i:YF) (h:Bool) (a:YP) (x11:YZ):zL (XD k (d+1)) 5 [.agg [i64 x1,i64 x2,i64 b,i64 c,i64 e,i64 f,i64 g],Jp i] [(5,.loop 22 [bE 3 1,bE 4 2,bE 5 3] [13,14] dD dE false none),(3,.box [bv h]),bP 2 a,dH 1 x11] 6=(uQ x1 x2 b c e f g i h a x11).map (fun|.inl _=>((bv false,[(5,.loop 22 [bE 3 1,bE 4 2,bE 5 3] [13,14] dD dE false (some .ret)),(3,.box [bv true]),(2,.box [i64 x1,i64 x2,i64 b,i64 c,i64 e,i64 f,i64 g]),dH 1 x11],0))|.inr _=>((bv true,[(5,.loop 22 [bE 3 1,bE 4 2,bE 5 3] [13,14] dD dE false none),(3,.box [bv h]),bP 2 a,dH 1 x11],0))):=by
 rw[yd];refine bz (okg qQ) ?_;refine io rfl rfl
def uR (x1 x2:Int) (c d:Int) (e f g:Int) (a:YM) (h:Bool) (b:YP) (x11:YZ):aB (Unit⊕Unit):=
 if((a.ID.kP==x11.kP)&&((a.ID.fE==x11.fE)&&true))!=false then some (.inl ())else some (.inr ())
def Ug (x1 x2:Int) (b c:Int) (e f g:Int) (i:YM) (h:Bool) (a:YP) (x11:YZ):zL (XD k (d+1)) 5 [.agg [i64 x1,i64 x2,i64 b,i64 c,i64 e,i64 f,i64 g],lN i] [(5,.loop 22 [bE 3 1,bE 4 2,bE 5 3] [13,14] dD dE false none),(3,.box [bv h]),bP 2 a,dH 1 x11] 6=(uR x1 x2 b c e f g i h a x11).map (fun|.inl _=>((bv false,[(5,.loop 22 [bE 3 1,bE 4 2,bE 5 3] [13,14] dD dE false (some .ret)),(3,.box [bv true]),(2,.box [i64 x1,i64 x2,i64 b,i64 c,i64 e,i64 f,i64 g]),dH 1 x11],0))|.inr _=>((bv true,[(5,.loop 22 [bE 3 1,bE 4 2,bE 5 3] [13,14] dD dE false none),(3,.box [bv h]),bP 2 a,dH 1 x11],0))):=by
 rw[yd];refine bz (okg qQ) ?_;refine io rfl rfl
def uS (x1 x2:Int) (c d:Int) (e f g:Int) (a:YE) (h:Bool) (b:YP) (x11:YZ):aB (Unit⊕Unit):=
 if((a.ID.kP==x11.kP)&&((a.ID.fE==x11.fE)&&true))!=false then some (.inl ())else some (.inr ())
def Uh (x1 x2:Int) (b c:Int) (e f g:Int) (i:YE) (h:Bool) (a:YP) (x11:YZ):zL (XD k (d+1)) 5 [.agg [i64 x1,i64 x2,i64 b,i64 c,i64 e,i64 f,i64 g],Jo i] [(5,.loop 22 [bE 3 1,bE 4 2,bE 5 3] [13,14] dD dE false none),(3,.box [bv h]),bP 2 a,dH 1 x11] 6=(uS x1 x2 b c e f g i h a x11).map (fun|.inl _=>((bv false,[(5,.loop 22 [bE 3 1,bE 4 2,bE 5 3] [13,14] dD dE false (some .ret)),(3,.box [bv true]),(2,.box [i64 x1,i64 x2,i64 b,i64 c,i64 e,i64 f,i64 g]),dH 1 x11],0))|.inr _=>((bv true,[(5,.loop 22 [bE 3 1,bE 4 2,bE 5 3] [13,14] dD dE false none),(3,.box [bv h]),bP 2 a,dH 1 x11],0))):=by
 rw[yd];refine bz (okg qQ) ?_;refine io rfl rfl
def uT (x1 x2:Int) (c d:Int) (e f g:Int) (a:YN) (h:Bool) (b:YP) (x11:YZ):aB (Unit⊕Unit):=
 if((a.ID.kP==x11.kP)&&((a.ID.fE==x11.fE)&&true))!=false then some (.inl ())else some (.inr ())
def Ui (x1 x2:Int) (b c:Int) (e f g:Int) (i:YN) (h:Bool) (a:YP) (x11:YZ):zL (XD k (d+1)) 5 [.agg [i64 x1,i64 x2,i64 b,i64 c,i64 e,i64 f,i64 g],Bg i] [(5,.loop 22 [bE 3 1,bE 4 2,bE 5 3] [13,14] dD dE false none),(3,.box [bv h]),bP 2 a,dH 1 x11] 6=(uT x1 x2 b c e f g i h a x11).map (fun|.inl _=>((bv false,[(5,.loop 22 [bE 3 1,bE 4 2,bE 5 3] [13,14] dD dE false (some .ret)),(3,.box [bv true]),(2,.box [i64 x1,i64 x2,i64 b,i64 c,i64 e,i64 f,i64 g]),dH 1 x11],0))|.inr _=>((bv true,[(5,.loop 22 [bE 3 1,bE 4 2,bE 5 3] [13,14] dD dE false none),(3,.box [bv h]),bP 2 a,dH 1 x11],0))):=by
 rw[yd];refine bz (okg qQ) ?_;refine io rfl rfl
def Me (x1:Y0) (x2:Bool) (C:YP) (D:YZ):aB (YP⊕Unit):=
 (bC (E:=(Int×Int×Int)⊕Unit) (fun(⟨F,f⟩:Int×Int)=>dT x1.bG f (fun G=>(Cw 1 f 0 0 0 0 0 G x2 C D).bind fun H=>(match H with|.inl _=>some (.inr (.inl (1,f,0)))|.inr _=>(bM x1.bG f).bind fun J=>(bC (E:=(Int×Int)⊕Int) (fun(⟨g,h⟩:Int×Int)=>if decide (h<(J.bN.length:Int))then(bM x1.bG f).bind fun K=>(bM K.bN h).bind fun L=>(uQ 2 0 g 0 0 0 0 L x2 C D).bind fun M=>(match M with|.inl _=>some (.inr (.inl (g,g)))|.inr _=>some (.inl ((bK (g+1)),(bK (h+1)))))else some (.inr (.inr g))) bS (F,0)).bind fun N=>(match N with|.inl ⟨x33,x34⟩=>some (.inr (.inl (2,0,x34)))|.inr x35=>some (.inl (x35,(bK (f+1))))))) (some (.inr (.inr ())))) bS (0,0)).bind fun O=>(match O with|.inl ⟨x37,x38,x39⟩=>some (.inl (YP.mk x37 x38 x39 0 0 0 0))|.inr _=>(bC (E:=(Int×Int×Int×Int×Int)⊕Unit) (fun(a:Int)=>dT x1.aD a (fun i=>(uR 3 0 0 a 0 0 0 i x2 C D).bind fun j=>(match j with|.inl _=>some (.inr (.inl (3,0,a,0,0)))|.inr _=>(bM x1.aD a).bind fun k=>(bC (E:=(Int×Int×Int)⊕Unit) (fun(b:Int)=>if decide (b<(k.aQ.length:Int))then(bM x1.aD a).bind fun l=>(bM l.aQ b).bind fun m=>(bC (E:=(Int×Int)⊕Unit) (fun(c:Int)=>if decide (c<(m.aM.length:Int))then(bM x1.aD a).bind fun n=>(bM n.aQ b).bind fun o=>(bM o.aM c).bind fun p=>(bC (E:=Int⊕Unit) (fun(d:Int)=>if decide (d<(p.aT.length:Int))then(bM x1.aD a).bind fun q=>(bM q.aQ b).bind fun r=>(bM r.aM c).bind fun s=>(bM s.aT d).bind fun t=>(uS 4 0 b a c d 0 t x2 C D).bind fun u=>(match u with|.inl _=>some (.inr (.inl d))|.inr _=>some (.inl (bK (d+1))))else some (.inr (.inr ()))) bS 0).bind fun v=>(match v with|.inl x201=>some (.inr (.inl (c,x201)))|.inr _=>some (.inl (bK (c+1))))else some (.inr (.inr ()))) bS 0).bind fun w=>(match w with|.inl ⟨x203,x204⟩=>some (.inr (.inl (b,x203,x204)))|.inr _=>some (.inl (bK (b+1))))else some (.inr (.inr ()))) bS 0).bind fun x=>(match x with|.inl ⟨x206,x207,x208⟩=>some (.inr (.inl (4,x206,a,x207,x208)))|.inr _=>some (.inl (bK (a+1)))))) (some (.inr (.inr ())))) bS 0).bind fun y=>(match y with|.inl ⟨x210,x211,x212,x213,x214⟩=>some (.inl (YP.mk x210 0 x211 x212 x213 x214 0))|.inr _=>(bC (E:=Int⊕Unit) (fun(e:Int)=>dT x1.cJ e (fun z=>(uT 5 0 0 0 0 0 e z x2 C D).bind fun A=>(match A with|.inl _=>some (.inr (.inl e))|.inr _=>some (.inl (bK (e+1))))) (some (.inr (.inr ())))) bS 0).bind fun B=>(match B with|.inl x221=>some (.inl (YP.mk 5 0 0 0 0 0 x221))|.inr _=>some (.inr ()))))
def qA1 (x1:Y0) (x2:Bool) (g:YP) (c:YZ):gA (XD k (d+2)) 69 [.yld 5,.ref 4 0] [(5,.loop 22 [bE 3 1,bE 4 2,bE 5 3] [13,14] dD dE false none),(4,.box [.ref 0 0]),aG 0 x1,(3,.box [bv x2]),bP 2 g,dH 1 c] 6 false=(Me x1 x2 g c).map (fun|.inl x223=>((.tup [],[(5,.loop 22 [bE 3 1,bE 4 2,bE 5 3] [13,14] dD dE false (some .ret)),(4,.box [.ref 0 0]),aG 0 x1,(3,.box [bv true]),bP 2 x223,dH 1 c],0))|.inr _=>((.tup [],[(5,.loop 22 [bE 3 1,bE 4 2,bE 5 3] [13,14] dD dE false none),(4,.box [.ref 0 0]),aG 0 x1,(3,.box [bv x2]),bP 2 g,dH 1 c],0))):=by
 rw[xd (fn:=p69) rfl];refine bz lm ?_;refine bo (aN (S:=Int×Int) (enc:=fun⟨y,h⟩=>(Q [(0,.yld 5),bE 1 4,aU 3 y,cQ 15 x1.bG,aU 16 h] [(5,.loop 22 [bE 3 1,bE 4 2,bE 5 3] [13,14] dD dE false none),(4,.box [.ref 0 0]),aG 0 x1,(3,.box [bv x2]),bP 2 g,dH 1 c])) (encE:=(fun|.inl ⟨R,T,U⟩=>(rq [(0,.yld 5),bE 1 4] [(5,.loop 22 [bE 3 1,bE 4 2,bE 5 3] [13,14] dD dE false (some .ret)),(4,.box [.ref 0 0]),aG 0 x1,(3,.box [bv true]),(2,.box [i64 R,i64 T,i64 U,i64 0,i64 0,i64 0,i64 0]),dH 1 c])|.inr _=>(xq 0 [(0,.yld 5),bE 1 4] [(5,.loop 22 [bE 3 1,bE 4 2,bE 5 3] [13,14] dD dE false none),(4,.box [.ref 0 0]),aG 0 x1,(3,.box [bv x2]),bP 2 g,dH 1 c]))) (fun⟨y,h⟩=>?_) bS (0,0)) fun b0=>?_;refine ig fun V=>?_;refine bo (iG1 d 1 h 0 0 0 0 0 V x2 g c) fun W=>?_;rcases W with _|_;rfl;refine bo rg fun X=>?_;refine bz lm ?_;refine bo (aN (S:=Int×Int) (enc:=fun⟨z,N⟩=>(Q [(0,.yld 5),bE 1 4,aU 3 z,aU 4 h,cQ 15 x1.bG,aU 16 h,cQ 39 X.bN,aU 40 N] [(5,.loop 22 [bE 3 1,bE 4 2,bE 5 3] [13,14] dD dE false none),(3,.box [bv x2]),bP 2 g,dH 1 c,(4,.box [.ref 0 0]),aG 0 x1])) (encE:=(fun|.inl ⟨O,P⟩=>(rq [(0,.yld 5),bE 1 4,aU 3 O,cQ 15 x1.bG,aU 16 h] [(5,.loop 22 [bE 3 1,bE 4 2,bE 5 3] [13,14] dD dE false (some .ret)),(3,.box [bv true]),(2,.box [i64 2,i64 0,i64 P,i64 0,i64 0,i64 0,i64 0]),dH 1 c,(4,.box [.ref 0 0]),aG 0 x1])|.inr x35=>(xq 2 [(0,.yld 5),bE 1 4,aU 3 x35,cQ 15 x1.bG,aU 16 h] [(5,.loop 22 [bE 3 1,bE 4 2,bE 5 3] [13,14] dD dE false none),(3,.box [bv x2]),bP 2 g,dH 1 c,(4,.box [.ref 0 0]),aG 0 x1]))) (fun⟨z,N⟩=>?_) bS (y,0)) fun a0=>?_;refine ig fun d0=>?_;refine bo rg fun Y=>?_;refine bo (Uf d 2 0 z 0 0 0 0 Y x2 g c) fun Z=>?_;rcases Z with _|_;rfl;rfl;rcases a0 with⟨O,P⟩|x35;rfl;rfl;rcases b0 with⟨R,T,U⟩|_;rfl;refine bz lm ?_;refine bo (aN (S:=Int) (enc:=fun a=>(Q [(0,.yld 5),bE 1 4,cQ 67 x1.aD,aU 68 a] [(5,.loop 22 [bE 3 1,bE 4 2,bE 5 3] [13,14] dD dE false none),(4,.box [.ref 0 0]),aG 0 x1,(3,.box [bv x2]),bP 2 g,dH 1 c])) (encE:=(fun|.inl ⟨s,t,u,v,w⟩=>(rq [(0,.yld 5),bE 1 4] [(5,.loop 22 [bE 3 1,bE 4 2,bE 5 3] [13,14] dD dE false (some .ret)),(4,.box [.ref 0 0]),aG 0 x1,(3,.box [bv true]),(2,.box [i64 s,i64 0,i64 t,i64 u,i64 v,i64 w,i64 0]),dH 1 c])|.inr _=>(xq 4 [(0,.yld 5),bE 1 4] [(5,.loop 22 [bE 3 1,bE 4 2,bE 5 3] [13,14] dD dE false none),(4,.box [.ref 0 0]),aG 0 x1,(3,.box [bv x2]),bP 2 g,dH 1 c]))) (fun a=>?_) bS 0) fun J=>?_;refine ig fun A=>?_;refine bo (Ug d 3 0 0 a 0 0 0 A x2 g c) fun B=>?_;rcases B with _|_;rfl;refine bo rg fun f=>?_;refine bz lm ?_;refine bo (aN (S:=Int) (enc:=fun b=>(Q [(0,.yld 5),bE 1 4,aU 6 a,cQ 67 x1.aD,aU 68 a,cQ 91 f.aQ,aU 92 b] [(5,.loop 22 [bE 3 1,bE 4 2,bE 5 3] [13,14] dD dE false none),(3,.box [bv x2]),bP 2 g,dH 1 c,(4,.box [.ref 0 0]),aG 0 x1])) (encE:=(fun|.inl ⟨p,q,r⟩=>(rq [(0,.yld 5),bE 1 4,cQ 67 x1.aD,aU 68 a] [(5,.loop 22 [bE 3 1,bE 4 2,bE 5 3] [13,14] dD dE false (some .ret)),(3,.box [bv true]),(2,.box [i64 4,i64 0,i64 p,i64 a,i64 q,i64 r,i64 0]),dH 1 c,(4,.box [.ref 0 0]),aG 0 x1])|.inr _=>(xq 6 [(0,.yld 5),bE 1 4,cQ 67 x1.aD,aU 68 a] [(5,.loop 22 [bE 3 1,bE 4 2,bE 5 3] [13,14] dD dE false none),(3,.box [bv x2]),bP 2 g,dH 1 c,(4,.box [.ref 0 0]),aG 0 x1]))) (fun b=>?_) bS 0) fun H=>?_;refine ig fun b4=>?_;refine bo rg fun i=>?_;refine bz lm ?_;refine bo (aN (S:=Int) (enc:=fun e=>(Q [(0,.yld 5),bE 1 4,aU 6 a,aU 7 b,cQ 67 x1.aD,aU 68 a,cQ 91 f.aQ,aU 92 b,cQ 107 i.aM,aU 108 e] [(5,.loop 22 [bE 3 1,bE 4 2,bE 5 3] [13,14] dD dE false none),(3,.box [bv x2]),bP 2 g,dH 1 c,(4,.box [.ref 0 0]),aG 0 x1])) (encE:=(fun|.inl ⟨n,o⟩=>(rq [(0,.yld 5),bE 1 4,aU 6 a,cQ 67 x1.aD,aU 68 a,cQ 91 f.aQ,aU 92 b] [(5,.loop 22 [bE 3 1,bE 4 2,bE 5 3] [13,14] dD dE false (some .ret)),(3,.box [bv true]),(2,.box [i64 4,i64 0,i64 b,i64 a,i64 n,i64 o,i64 0]),dH 1 c,(4,.box [.ref 0 0]),aG 0 x1])|.inr _=>(xq 8 [(0,.yld 5),bE 1 4,aU 6 a,cQ 67 x1.aD,aU 68 a,cQ 91 f.aQ,aU 92 b] [(5,.loop 22 [bE 3 1,bE 4 2,bE 5 3] [13,14] dD dE false none),(3,.box [bv x2]),bP 2 g,dH 1 c,(4,.box [.ref 0 0]),aG 0 x1]))) (fun e=>?_) bS 0) fun G=>?_;refine ig fun b5=>?_;refine bo rg fun b6=>?_;refine bo rg fun C=>?_;refine bz lm ?_;refine bo (aN (S:=Int) (enc:=fun j=>(Q [(0,.yld 5),bE 1 4,aU 6 a,aU 7 b,aU 8 e,cQ 67 x1.aD,aU 68 a,cQ 91 f.aQ,aU 92 b,cQ 107 i.aM,aU 108 e,cQ 127 C.aT,aU 128 j] [(5,.loop 22 [bE 3 1,bE 4 2,bE 5 3] [13,14] dD dE false none),(3,.box [bv x2]),bP 2 g,dH 1 c,(4,.box [.ref 0 0]),aG 0 x1])) (encE:=(fun|.inl m=>(rq [(0,.yld 5),bE 1 4,aU 6 a,aU 7 b,cQ 67 x1.aD,aU 68 a,cQ 91 f.aQ,aU 92 b,cQ 107 i.aM,aU 108 e] [(5,.loop 22 [bE 3 1,bE 4 2,bE 5 3] [13,14] dD dE false (some .ret)),(3,.box [bv true]),(2,.box [i64 4,i64 0,i64 b,i64 a,i64 e,i64 m,i64 0]),dH 1 c,(4,.box [.ref 0 0]),aG 0 x1])|.inr _=>(xq 10 [(0,.yld 5),bE 1 4,aU 6 a,aU 7 b,cQ 67 x1.aD,aU 68 a,cQ 91 f.aQ,aU 92 b,cQ 107 i.aM,aU 108 e] [(5,.loop 22 [bE 3 1,bE 4 2,bE 5 3] [13,14] dD dE false none),(3,.box [bv x2]),bP 2 g,dH 1 c,(4,.box [.ref 0 0]),aG 0 x1]))) (fun j=>?_) bS 0) fun F=>?_;refine ig fun b7=>?_;refine bo rg fun b8=>?_;refine bo rg fun b9=>?_;refine bo rg fun D=>?_;refine bo (Uh d 4 0 b a e j 0 D x2 g c) fun E=>?_;rcases E with _|_;rfl;rfl;rcases F with m|_;rfl;rfl;rcases G with⟨n,o⟩|_;rfl;rfl;rcases H with⟨p,q,r⟩|_;rfl;rfl;rcases J with⟨s,t,u,v,w⟩|_;rfl;refine bz lm ?_;refine bo (aN (S:=Int) (enc:=fun l=>(Q [(0,.yld 5),bE 1 4,cQ 166 x1.cJ,aU 167 l] [(5,.loop 22 [bE 3 1,bE 4 2,bE 5 3] [13,14] dD dE false none),(4,.box [.ref 0 0]),aG 0 x1,(3,.box [bv x2]),bP 2 g,dH 1 c])) (encE:=(fun|.inl x=>(rq [] [(5,.loop 22 [bE 3 1,bE 4 2,bE 5 3] [13,14] dD dE false (some .ret)),(4,.box [.ref 0 0]),aG 0 x1,(3,.box [bv true]),(2,.box [i64 5,i64 0,i64 0,i64 0,i64 0,i64 0,i64 x]),dH 1 c])|.inr _=>(xq 12 [] [(5,.loop 22 [bE 3 1,bE 4 2,bE 5 3] [13,14] dD dE false none),(4,.box [.ref 0 0]),aG 0 x1,(3,.box [bv x2]),bP 2 g,dH 1 c]))) (fun l=>?_) bS 0) fun M=>?_;refine ig fun K=>?_;refine bo (Ui d 5 0 0 0 0 0 l K x2 g c) fun L=>?_;rcases L with _|_;rfl;rfl;rcases M with x|_;rfl;rfl
end Go.P
namespace Go.P
open Go.Sim (Ex gC CK)
open K (I Q rq nq xq ck)
variable {k:Bool} (d:Nat)
def F13 (x1:Y0) (x2:YZ):aB (YP×Bool):=
 if((x2.kP==0)&&((x2.fE==0)&&true))!=false then some ((YP.mk 0 0 0 0 0 0 0),false)else(Md x1).bind fun _=>(Me x1 false (YP.mk 0 0 0 0 0 0 0) x2).bind fun a=>(match a with|.inl x3=>some (x3,true)|.inr _=>some ((YP.mk 0 0 0 0 0 0 0),false))
def qR2 (x1:Y0) (x2:YZ):OD k (d+3) 13 [cX x1,Lp x2]=(F13 x1 x2).map (fun⟨b,c⟩=>.tup [eO b,bv c]):=oe rfl<|by
 refine io rfl ?_;refine bo (pZ1 (d+1) x1) fun _=>?_;refine bo (qA1 d x1 false (YP.mk 0 0 0 0 0 0 0) x2) fun a=>?_;rcases a with e|_;rfl;rfl
def qB1 (x1:aA Int):aB (aA Int):=
 (vL (x1.length:Int) (x1.length:Int) 0).bind fun x2=>(bC (E:=aA Int) (fun(⟨b,a⟩:Int×(aA Int))=>if decide (b<(x1.length:Int))then(gM a (bK (b-1))).bind fun x11=>(fQ a x11).bind fun c=>(bM x1 (bK (b-1))).bind fun d=>(gM a b).bind fun e=>(iG a e (fun h=>(bK (c+d)))).bind fun f=>some (.inl ((bK (b+1)),f))else some (.inr a)) bS (1,x2)).bind fun g=>some g
def eY2 (x1:aA Int):OD k (d+1) 240 [nM x1]=(qB1 x1).map (fun o=>nM o):=oe rfl<|by
 refine bz lm ?_;refine bo (mB cI _ _ 0) fun x2=>?_;refine bo (aN (S:=Int×(aA Int)) (enc:=fun⟨i,a⟩=>(Q [tT 0 x1,(3,.own 0),aU 4 i] [(0,.lst 3 1 true (I cI a))])) (encE:=(fun(e:aA Int)=>(xq 0 [(3,.own 0)] [(0,.lst 3 1 true (I cI e))]))) (fun⟨i,a⟩=>?_) bS (1,x2)) fun e=>?_;refine bz lm ?_;refine io ?_ rfl;refine bo (bZ cI a _) fun x11=>?_;refine bo (cW (A:=Int) (c:=cI) (g:=fun b=>i64 b) (fun _=>rfl) a _) fun b=>?_;refine bo rg fun h=>?_;refine bo (bZ cI a _) fun j=>?_;refine bo (dO (A:=Int) (c:=cI) (m:=1) (f:=fun l=>(bK (b+h))) (fun _=>⟨rfl,rfl⟩) (aI3 rfl) a _) fun n=>?_;rfl;rfl
def qC1 (x1:YO) (x2:Int):aB ((aA Int)×Int):=
 (hJ1 x1 x2).bind fun⟨b,a⟩=>if a !=0 then some ([],a)else(qB1 b).bind fun c=>some (c,0)
def eZ2 (x1:YO) (x2:Int):OD k (d+14) 225 [iB x1,i64 x2]=(qC1 x1 x2).map (fun⟨b,c⟩=>.tup [nM b,i64 c]):=oe rfl<|by
 refine bo (uE1 d x1 x2) fun⟨a,e⟩=>?_;refine io rfl ?_;refine bo (eY2 (d+12) a) fun f=>?_;rfl
def iH1 (x1:YK) (x2:YZ):aB (YQ×Bool):=
 (F13 x1.s' x2).bind fun⟨a,e⟩=>if(!e)||(a.cE !=4)then some ((YQ.mk 0 0 0 0),false)else(bM x1.s'.aD a.cV).bind fun d=>(Lr d).bind fun⟨f,i⟩=>(bM d.aQ a.cZ).bind fun g=>(bM g.aM a.dB).bind fun h=>(qC1 h f).bind fun⟨b,x11⟩=>if decide (a.pD>=(b.length:Int))then some ((YQ.mk 0 0 0 0),false)else(bM b a.pD).bind fun c=>some ((YQ.mk a.cV c a.cZ a.dB),true)
def uM1 (x1:YK) (x2:YZ):OD k (d+15) 190 [dF x1,Lp x2]=(iH1 x1 x2).map (fun⟨g,h⟩=>.tup [kM g,bv h]):=oe rfl<|by
 refine bo (qR2 (d+11) x1.s' x2) fun⟨i,j⟩=>?_;refine bz (gB rfl) ?_;refine io rfl ?_;refine bo rg fun c=>?_;refine bo (Jr (d+10) c) fun⟨e,l⟩=>?_;refine bo rg fun m=>?_;refine bo rg fun f=>?_;refine bo (eZ2 d f e) fun⟨a,x11⟩=>?_;refine bz lm ?_;refine io rfl ?_;refine bo rg fun b=>?_;rfl
def Uj (x1 x2:Int):aB Bool:=
 some ((decide (x1>=0))&&(decide (x1<=x2)))
def Xi (x1 x2:Int):OD k (d+1) 241 [i64 x1,i64 x2]=(Uj x1 x2).map bv:=oe rfl<|by
 refine bz (iK rfl) ?_;rfl
def iI1 (x1:YQ):aB Bool:=
 (Uj x1.cV 1023).bind fun x2=>((if x2 then(Uj x1.At 4398046511104).bind fun a=>some a else some false:aB (Bool))).bind fun b=>((if b then(Uj x1.cZ 127).bind fun c=>some c else some false:aB (Bool))).bind fun d=>((if d then(Uj x1.dB 1).bind fun e=>some e else some false:aB (Bool))).bind fun f=>some f
def uN1 (x1:YQ):OD k (d+2) 226 [kM x1]=(iI1 x1).map bv:=oe rfl<|by
 refine bo (Xi d x1.cV 1023) fun x2=>?_;refine bo (e:=id) ?_ fun b=>?_;refine io ?_ rfl;refine bo (Xi d x1.At 4398046511104) fun a=>?_;rfl;refine bo (e:=id) ?_ fun f=>?_;refine io ?_ rfl;refine bo (Xi d x1.cZ 127) fun c=>?_;rfl;refine bo (e:=id) ?_ fun h=>?_;refine io ?_ rfl;refine bo (Xi d x1.dB 1) fun g=>?_;rfl;rfl
def iJ1 (x1:Int):aB Bool:=
 some ((x1==1)||(x1==7))
def uO1 (x1:Int):OD k (d+1) 227 [i64 x1]=(iJ1 x1).map bv:=oe rfl<|by
 refine bz (gB rfl) ?_;rfl
def F55 (x1:Int):aB Bool:=
 some (x1 !=x1)
def fA2 (x1:Int):OD k (d+1) 55 [i64 x1]=(F55 x1).map bv:=oe rfl<|by
 rfl
def F24 (x1 x2:Int):aB Int:=
 (F55 x1).bind fun b=>(F55 x2).bind fun a=>if b then if a then some 0 else some (-1)else if a then some 1 else if decide (x1<x2)then some (-1)else if decide (x1>x2)then some 1 else some 0
def iK1 (x1 x2:Int):OD k (d+2) 24 [i64 x1,i64 x2]=(F24 x1 x2).map i64:=oe rfl<|by
 refine bo (fA2 d x1) fun a=>?_;refine bo (fA2 d x2) fun b=>?_;refine io ?_ ?_;refine io rfl rfl;refine io rfl ?_;refine io rfl ?_;refine io rfl rfl
def F23 (x1:aA Int):aB Int:=
 (bC (E:=Int⊕Unit) (fun(a:Int)=>dT x1 a (fun b=>if b !=0 then some (.inr (.inl b))else some (.inl (bK (a+1)))) (some (.inr (.inr ())))) bS 0).bind fun c=>(match c with|.inl x5=>some x5|.inr _=>some 0)
def fB2 (x1:aA Int):OD k (d+1) 23 [nM x1]=(F23 x1).map i64:=oe rfl<|by
 refine bz lm ?_;refine bo (aN (S:=Int) (enc:=fun a=>(Q [aU 3 0,tT 6 x1,cQ 7 x1,aU 8 a] [])) (encE:=(fun|.inl b=>(rq [aU 2 b,aU 3 0] [])|.inr _=>(xq 0 [aU 3 0] []))) (fun a=>?_) bS 0) fun c=>?_;refine ig fun e=>?_;refine io rfl rfl;rcases c with b|_;rfl;rfl
def Hn (x1 x2:YQ):aB Int:=
 (F24 x1.cV x2.cV).bind fun a=>(F24 x1.At x2.At).bind fun b=>(F23 [a,b]).bind fun c=>some c
def Gu (x1 x2:YQ):OD k (d+3) 228 [kM x1,kM x2]=(Hn x1 x2).map i64:=oe rfl<|by
 refine bo (iK1 d x1.cV x2.cV) fun a=>?_;refine bo (iK1 d x1.At x2.At) fun b=>?_;refine bo (fB2 (d+1) [a,b]) fun c=>?_;rfl
def qD1 (x1:YS):aB Int:=
 if(decide (x1.cE<1))||(decide (x1.cE>7))then some 11 else(iI1 x1.jM).bind fun x2=>((if !x2 then some true else(iI1 x1.To).bind fun a=>some (!a):aB (Bool))).bind fun b=>if b then some 2 else((if x1.jM.cZ !=x1.To.cZ then some true else(iJ1 x1.cE).bind fun c=>some (c&&(x1.jM.dB !=x1.To.dB)):aB (Bool))).bind fun d=>if d then some 23 else(Hn x1.jM x1.To).bind fun e=>if decide (e>=0)then some 25 else some 0
def fC2 (x1:YS):OD k (d+4) 191 [cR x1]=(qD1 x1).map i64:=oe rfl<|by
 refine bz (gB rfl) ?_;refine io rfl ?_;refine bo (uN1 (d+1) x1.jM) fun x2=>?_;refine bo (e:=id) ?_ fun b=>?_;refine io rfl ?_;refine bo (uN1 (d+1) x1.To) fun a=>?_;rfl;refine io rfl ?_;refine bo (e:=id) ?_ fun f=>?_;refine io rfl ?_;refine bo (uO1 (d+2) x1.cE) fun c=>?_;refine bz (iK rfl) ?_;rfl;refine io rfl ?_;refine bo (Gu d x1.jM x1.To) fun g=>?_;refine io rfl rfl
def Qv (x1:aA YV) (x2:Y0) (o:Int):aB ((aA Bool)×(aA YS)):=
 (bC (E:=(aA Bool)×(aA YS)) (fun(⟨b,c,d⟩:Int×(aA Bool)×(aA YS))=>dT x2.cJ b (fun a=>(iH1 (YK.mk x2 o x1) a.jM).bind fun⟨e,g⟩=>(iH1 (YK.mk x2 o x1) a.To).bind fun⟨f,h⟩=>(iZ false d [(YS.mk a.cE e f)]).bind fun i=>((if(!g)||(!h)then some true else(qD1 (YS.mk a.cE e f)).bind fun j=>some (j !=0):aB (Bool))).bind fun k=>(iZ false c [k]).bind fun l=>some (.inl ((bK (b+1)),l,i))) (some (.inr (c,d)))) bS (0,[],[])).bind fun⟨m,n⟩=>some (m,n)
def iL1 (x1:aA YV) (x2:Y0) (f:Int):gA (XD k (d+16)) 136 [.ref 1 0] (cL x1 x2 f) 3 true=(Qv x1 x2 f).map (fun(⟨o,p⟩:(aA Bool)×(aA YS))=>((.tup [.own 3,.own 4],((4,.lst 4 1 false (I cB o))::(3,.lst 226 9 false (I YS.g p))::cL x1 x2 f),5))):=by
 rw[xd (fn:=bH2) rfl];refine bz lm ?_;refine bo (aN (S:=Int×(aA Bool)×(aA YS)) (enc:=fun⟨h,b,c⟩=>(Q [bE 0 1,(4,.own 3),(5,.own 4),mD 17 x2.cJ,cQ 18 x2.cJ,aU 19 h] ((4,.lst 4 1 false (I cB b))::(3,.lst 226 9 false (I YS.g c))::cL x1 x2 f))) (encE:=(fun(⟨l,m⟩:(aA Bool)×(aA YS))=>(xq 0 [(4,.own 3),(5,.own 4)] ((4,.lst 4 1 false (I cB l))::(3,.lst 226 9 false (I YS.g m))::cL x1 x2 f)))) (fun⟨h,b,c⟩=>?_) bS (0,[],[])) fun⟨l,m⟩=>?_;refine ig fun a=>?_;refine bo (uM1 d (YK.mk x2 f x1) a.jM) fun⟨i,q⟩=>?_;refine bo (uM1 d (YK.mk x2 f x1) a.To) fun⟨j,r⟩=>?_;refine bo (cN false YS.g c [(YS.mk a.cE i j)]) fun s=>?_;refine bz (gB rfl) ?_;refine bo (e:=id) ?_ fun n=>?_;refine io rfl ?_;refine bo (fC2 (d+11) (YS.mk a.cE i j)) fun t=>?_;rfl;refine bo (cN false cB b [n]) fun u=>?_;rfl;rfl
def iM1 (x1:aA YV) (x2:Y0) (g:Int):aB (aA YV):=
 (Qv x1 x2 g).bind fun⟨h,i⟩=>(bC (E:=aA YV) (fun(⟨a,x11⟩:Int×(aA YV))=>dT x2.cJ a (fun b=>(gM h a).bind fun c=>(fQ h c).bind fun d=>(iV d b.ID x11 x2 g).bind fun e=>some (.inl ((bK (a+1)),e))) (some (.inr x11))) bS (0,x1)).bind fun f=>some f
def fD2 (x1:aA YV) (x2:Y0) (b:Int):gA (XD k (d+17)) 86 [.ref 1 0] (cL x1 x2 b) 3 false=(iM1 x1 x2 b).map (fun(j:aA YV)=>((.tup [],(cL j x2 b),0))):=by
 rw[xd (fn:=p86) rfl];refine bo (iL1 d x1 x2 b) fun⟨h,l⟩=>?_;refine bz lm ?_;refine bo (aN (S:=Int×(aA YV)) (enc:=fun⟨e,x11⟩=>(Q [bE 0 1,(3,.own 4),mD 15 x2.cJ,cQ 16 x2.cJ,aU 17 e] ((4,.lst 4 1 false (I cB h))::(3,.lst 226 9 false (I YS.g l))::cL x11 x2 b))) (encE:=(fun(f:aA YV)=>(xq 0 [] ((4,.lst 4 1 false (I cB h))::(3,.lst 226 9 false (I YS.g l))::cL f x2 b)))) (fun⟨e,x11⟩=>?_) bS (0,x1)) fun f=>?_;refine ig fun i=>?_;refine bo (bZ cB h _) fun m=>?_;refine bo (cW (A:=Bool) (c:=cB) (g:=fun a=>bv a) (fun _=>rfl) h _) fun a=>?_;refine bo (iH (d+15) a i.ID x11 x2 b) fun n=>?_;rfl;rfl
def aT1 (x1:Int):aB Int:=
 if(decide (x1<1))||(decide (x1>7))then some 0 else(bM [1,2,2,4,4,6,7] (bK (x1-1))).bind fun x2=>some x2
def iN1 (x1:Int):OD k (d+1) 229 [i64 x1]=(aT1 x1).map i64:=oe rfl<|by
 refine bz (gB rfl) ?_;refine io rfl ?_;refine bo (rS .i64 [1,2,2,4,4,6,7] (bK (x1-1)) rfl) fun x2=>?_;rfl
def qE1 (x1 x2:YS):aB Bool:=
 (aT1 x1.cE).bind fun a=>((if decide (a>0)then(aT1 x1.cE).bind fun b=>(aT1 x2.cE).bind fun c=>some (b==c)else some false:aB (Bool))).bind fun d=>((if d&&(x1.jM.cZ==x2.jM.cZ)then(iJ1 x1.cE).bind fun e=>some ((!e)||(x1.jM.dB==x2.jM.dB))else some false:aB (Bool))).bind fun f=>some f
def fE2 (x1 x2:YS):OD k (d+2) 192 [cR x1,cR x2]=(qE1 x1 x2).map bv:=oe rfl<|by
 refine bo (iN1 d x1.cE) fun a=>?_;refine bo (e:=id) ?_ fun f=>?_;refine io ?_ rfl;refine bo (iN1 d x1.cE) fun b=>?_;refine bo (iN1 d x2.cE) fun c=>?_;rfl;refine bz (iK rfl) ?_;refine bo (e:=id) ?_ fun h=>?_;refine io ?_ rfl;refine bo (uO1 d x1.cE) fun g=>?_;refine bz (gB rfl) ?_;rfl;rfl
def qF1 (x1 x2:YS):aB Bool:=
 (Hn x1.To x2.jM).bind fun a=>((if decide (a<0)then some true else(Hn x2.To x1.jM).bind fun b=>some (decide (b<0)):aB (Bool))).bind fun c=>some c
def fF2 (x1 x2:YS):OD k (d+4) 196 [cR x1,cR x2]=(qF1 x1 x2).map bv:=oe rfl<|by
 refine bo (Gu d x1.To x2.jM) fun a=>?_;refine bo (e:=id) ?_ fun c=>?_;refine io rfl ?_;refine bo (Gu d x2.To x1.jM) fun b=>?_;rfl;rfl
def aU1 (x1 x2:YS):aB Bool:=
 (qF1 x1 x2).bind fun a=>some (!a)
def iO1 (x1 x2:YS):OD k (d+5) 195 [cR x1,cR x2]=(aU1 x1 x2).map bv:=oe rfl<|by
 refine bo (fF2 d x1 x2) fun a=>?_;rfl
def iP1 (x1 x2:YS):aB Bool:=
 (Hn x1.To x2.jM).bind fun a=>((if decide (a<=0)then some true else(Hn x2.To x1.jM).bind fun b=>some (decide (b<=0)):aB (Bool))).bind fun c=>some c
def uP1 (x1 x2:YS):OD k (d+4) 194 [cR x1,cR x2]=(iP1 x1 x2).map bv:=oe rfl<|by
 refine bo (Gu d x1.To x2.jM) fun a=>?_;refine bo (e:=id) ?_ fun c=>?_;refine io rfl ?_;refine bo (Gu d x2.To x1.jM) fun b=>?_;rfl;rfl
def aV1 (x1 x2:YS):aB Bool:=
 (iP1 x1 x2).bind fun a=>some (!a)
def iQ1 (x1 x2:YS):OD k (d+5) 193 [cR x1,cR x2]=(aV1 x1 x2).map bv:=oe rfl<|by
 refine bo (uP1 d x1 x2) fun a=>?_;rfl
def iR1 (x1 x2:YS):aB Bool:=
 (Hn x1.jM x2.jM).bind fun a=>((if decide (a>=0)then(Hn x1.To x2.To).bind fun b=>some (decide (b<=0))else some false:aB (Bool))).bind fun c=>some c
def uQ1 (x1 x2:YS):OD k (d+4) 230 [cR x1,cR x2]=(iR1 x1 x2).map bv:=oe rfl<|by
 refine bo (Gu d x1.jM x2.jM) fun a=>?_;refine bo (e:=id) ?_ fun c=>?_;refine io ?_ rfl;refine bo (Gu d x1.To x2.To) fun b=>?_;rfl;rfl
def qG1 (x1 x2:YS):aB Bool:=
 (iP1 x1 x2).bind fun a=>((if !a then(iR1 x1 x2).bind fun b=>(iR1 x2 x1).bind fun c=>some ((b==c)!=false)else some false:aB (Bool))).bind fun d=>some d
def fG2 (x1 x2:YS):OD k (d+5) 197 [cR x1,cR x2]=(qG1 x1 x2).map bv:=oe rfl<|by
 refine bo (uP1 d x1 x2) fun a=>?_;refine bo (e:=id) ?_ fun f=>?_;refine io ?_ rfl;refine bo (uQ1 d x1 x2) fun b=>?_;refine bo (uQ1 d x2 x1) fun c=>?_;rfl;rfl
def qH1 (x1 x2:YS):aB Bool:=
 (qE1 x1 x2).bind fun b=>if !b then some false else if(bK (x1.cE-1))==6 then(aU1 x1 x2).bind fun c=>some c else if(bK (x1.cE-1))==5 then(aV1 x1 x2).bind fun d=>some d else if(bK (x1.cE-1))==4 then(aU1 x1 x2).bind fun e=>some e else if(bK (x1.cE-1))==3 then(aU1 x1 x2).bind fun f=>some f else if(bK (x1.cE-1))==2 then(aV1 x1 x2).bind fun g=>some g else if(bK (x1.cE-1))==1 then(aV1 x1 x2).bind fun h=>some h else if(bK (x1.cE-1))==0 then(qG1 x1 x2).bind fun a=>some a else none
def fH2 (x1 x2:YS):OD k (d+6) 137 [cR x1,cR x2]=(qH1 x1 x2).map bv:=oe rfl<|by
 refine bo (fE2 (d+3) x1 x2) fun b=>?_;refine io rfl ?_;refine io ?_ ?_;refine bo (iO1 d x1 x2) fun c=>?_;rfl;refine io ?_ ?_;refine bo (iQ1 d x1 x2) fun e=>?_;rfl;refine io ?_ ?_;refine bo (iO1 d x1 x2) fun f=>?_;rfl;refine io ?_ ?_;refine bo (iO1 d x1 x2) fun g=>?_;rfl;refine io ?_ ?_;refine bo (iQ1 d x1 x2) fun h=>?_;rfl;refine io ?_ ?_;refine bo (iQ1 d x1 x2) fun i=>?_;rfl;refine io ?_ ?_;refine bo (fG2 d x1 x2) fun a=>?_;rfl;rfl
def iS1 (x1:aA YV) (x2:Y0) (v:Int):aB (aA YV):=
 (Qv x1 x2 v).bind fun⟨e,f⟩=>(bC (E:=aA YV) (fun(⟨a,c⟩:Int×(aA YV))=>dT x2.cJ a (fun g=>(bC (E:=Bool) (fun(⟨d,b⟩:Bool×Int)=>((if decide (b<a)then(gM e a).bind fun h=>(fQ e h).bind fun i=>some (!i)else some false:aB (Bool))).bind fun j=>if j&&(!d)then(gM e b).bind fun k=>(fQ e k).bind fun l=>((if !l then(gM f b).bind fun m=>(fQ f m).bind fun n=>(gM f a).bind fun o=>(fQ f o).bind fun p=>(qH1 n p).bind fun q=>some q else some false:aB (Bool))).bind fun r=>some (.inl (r,(bK (b+1))))else some (.inr d)) bS (false,0)).bind fun s=>(iV s g.ID c x2 v).bind fun t=>some (.inl ((bK (a+1)),t))) (some (.inr c))) bS (0,x1)).bind fun u=>some u
def fI2 (x1:aA YV) (x2:Y0) (i:Int):gA (XD k (d+17)) 87 [.ref 1 0] (cL x1 x2 i) 3 false=(iS1 x1 x2 i).map (fun(u:aA YV)=>((.tup [],(cL u x2 i),0))):=by
 rw[xd (fn:=p87) rfl];refine bo (iL1 d x1 x2 i) fun⟨j,l⟩=>?_;refine bz lm ?_;refine bo (aN (S:=Int×(aA YV)) (enc:=fun⟨f,h⟩=>(Q [bE 0 1,(2,.own 3),(3,.own 4),mD 17 x2.cJ,cQ 18 x2.cJ,aU 19 f] ((4,.lst 4 1 false (I cB j))::(3,.lst 226 9 false (I YS.g l))::cL h x2 i))) (encE:=(fun(t:aA YV)=>(xq 0 [] ((4,.lst 4 1 false (I cB j))::(3,.lst 226 9 false (I YS.g l))::cL t x2 i)))) (fun⟨f,h⟩=>?_) bS (0,x1)) fun t=>?_;refine ig fun n=>?_;refine bo (aN (S:=Bool×Int) (enc:=fun⟨p,q⟩=>(Q [bE 0 1,(2,.own 3),(3,.own 4),aU 4 f,bE 5 5,(6,bv p),aU 7 q,mD 17 x2.cJ,cQ 18 x2.cJ,aU 19 f] (yJ 5 n::(4,.lst 4 1 false (I cB j))::(3,.lst 226 9 false (I YS.g l))::cL h x2 i))) (encE:=(fun(o:Bool)=>(xq 2 [bE 0 1,(2,.own 3),(3,.own 4),bE 5 5,(6,bv o),mD 17 x2.cJ,cQ 18 x2.cJ,aU 19 f] (yJ 5 n::(4,.lst 4 1 false (I cB j))::(3,.lst 226 9 false (I YS.g l))::cL h x2 i)))) (fun⟨p,q⟩=>?_) bS (false,0)) fun o=>?_;refine bo (e:=id) ?_ fun w=>?_;refine io ?_ rfl;refine bo (bZ cB j _) fun v=>?_;refine bo (cW (A:=Bool) (c:=cB) (g:=fun r=>bv r) (fun _=>rfl) j _) fun r=>?_;rfl;refine bz (iK rfl) ?_;refine io ?_ rfl;refine bo (bZ cB j _) fun x=>?_;refine bo (cW (A:=Bool) (c:=cB) (g:=fun s=>bv s) (fun _=>rfl) j _) fun s=>?_;refine bo (e:=id) ?_ fun C=>?_;refine io ?_ rfl;refine bo (bZ YS.g l _) fun y=>?_;refine bo (gG (A:=YS) (c:=YS.g) (m:=9) (g:=fun a=>[i64 a.cE,i64 a.jM.cV,i64 a.jM.At,i64 a.jM.cZ,i64 a.jM.dB,i64 a.To.cV,i64 a.To.At,i64 a.To.cZ,i64 a.To.dB]) (fun _=>⟨rfl,rfl⟩) (aI3 rfl) l _) fun a=>?_;refine bo (bZ YS.g l _) fun z=>?_;refine bo (gG (A:=YS) (c:=YS.g) (m:=9) (g:=fun b=>[i64 b.cE,i64 b.jM.cV,i64 b.jM.At,i64 b.jM.cZ,i64 b.jM.dB,i64 b.To.cV,i64 b.To.At,i64 b.To.cZ,i64 b.To.dB]) (fun _=>⟨rfl,rfl⟩) (aI3 rfl) l _) fun b=>?_;refine bo (fH2 (d+10) a b) fun B=>?_;rfl;rfl;refine bo (iH (d+15) o n.ID h x2 i) fun D=>?_;rfl;rfl
def qI1 (x1:Int) (x2:YM):aB Bool:=
 ((if x2.cY !=0 then(pE x2.cY 2 8).bind fun a=>some (!a)else some false:aB (Bool))).bind fun b=>((if b then some true else(pE x2.cU 0 255).bind fun c=>some (!c):aB (Bool))).bind fun d=>some d
def fJ2 (x1:Int) (x2:YM):OD k (d+2) 138 [i64 x1,eW x2]=(qI1 x1 x2).map bv:=oe rfl<|by
 refine bo (e:=id) ?_ fun b=>?_;refine io ?_ rfl;refine bo (nA d x2.cY 2 8) fun a=>?_;rfl;refine bo (e:=id) ?_ fun f=>?_;refine io rfl ?_;refine bo (nA d x2.cU 0 255) fun c=>?_;rfl;rfl
def Cy (x1:aA YV) (x2:Y0) (f:Int):aB (aA YV):=
 (bC (E:=aA YV) (fun(⟨c,d⟩:Int×(aA YV))=>dT x2.aD c (fun e=>(qI1 c e).bind fun a=>(iV a e.ID d x2 f).bind fun x11=>some (.inl ((bK (c+1)),x11))) (some (.inr d))) bS (0,x1)).bind fun b=>some b
def iT1 (x1:aA YV) (x2:Y0) (a:Int):gA (XD k (d+3)) 110 [.ref 1 0,.fn 138 [] []] (cL x1 x2 a) 3 false=(Cy x1 x2 a).map (fun(e:aA YV)=>((.tup [],(cL e x2 a),0))):=by
 rw[xd (fn:=Lk) rfl];refine bz lm ?_;refine bo (aN (S:=Int×(aA YV)) (enc:=fun⟨f,g⟩=>(Q [bE 0 1,(1,.fn 138 [] []),bB 10 x2.aD,cQ 11 x2.aD,aU 12 f] (cL g x2 a))) (encE:=(fun(b:aA YV)=>(xq 0 [] (cL b x2 a)))) (fun⟨f,g⟩=>?_) bS (0,x1)) fun b=>?_;refine ig fun h=>?_;refine bo (fJ2 d f h) fun c=>?_;refine bo (iH (d+1) c h.ID g x2 a) fun x11=>?_;rfl;rfl
def qJ1 (x1:Int):aB Int:=
 ((if decide (x1>=4294967296)then(Tn .u64 x1 32).bind fun x2=>some (x2,32)else some (x1,0):aB (Int×Int))).bind fun⟨b,d⟩=>((if decide (b>=65536)then(Tn .u64 b 16).bind fun f=>some (f,(bK (d+16)))else some (b,d):aB (Int×Int))).bind fun⟨c,e⟩=>((if decide (c>=256)then(Tn .u64 c 8).bind fun g=>some (g,(bK (e+8)))else some (c,e):aB (Int×Int))).bind fun⟨h,a⟩=>(tE (⟨#[0,1,2,2,3,3,3,3,4,4,4,4,4,4,4,4,5,5,5,5,5,5,5,5,5,5,5,5,5,5,5,5,6,6,6,6,6,6,6,6,6,6,6,6,6,6,6,6,6,6,6,6,6,6,6,6,6,6,6,6,6,6,6,6,7,7,7,7,7,7,7,7,7,7,7,7,7,7,7,7,7,7,7,7,7,7,7,7,7,7,7,7,7,7,7,7,7,7,7,7,7,7,7,7,7,7,7,7,7,7,7,7,7,7,7,7,7,7,7,7,7,7,7,7,7,7,7,7,8,8,8,8,8,8,8,8,8,8,8,8,8,8,8,8,8,8,8,8,8,8,8,8,8,8,8,8,8,8,8,8,8,8,8,8,8,8,8,8,8,8,8,8,8,8,8,8,8,8,8,8,8,8,8,8,8,8,8,8,8,8,8,8,8,8,8,8,8,8,8,8,8,8,8,8,8,8,8,8,8,8,8,8,8,8,8,8,8,8,8,8,8,8,8,8,8,8,8,8,8,8,8,8,8,8,8,8,8,8,8,8,8,8,8,8,8,8,8,8,8,8,8,8,8,8,8,8]⟩:ByteArray) (IntKind.wrap .u8 (h))).bind fun x11=>some (bK (a+(bK (x11))))
def fK2 (x1:Int):OD k (d+1) 243 [.v (.int .u64 x1)]=(qJ1 x1).map i64:=oe rfl<|by
 refine bo (e:=(fun(⟨b,c⟩:Int×Int)=>(nq [(0,.v (.int .u64 b)),aU 2 c] []))) ?_ fun⟨b,c⟩=>?_;refine io ?_ rfl;refine bo oi fun x2=>?_;rfl;refine bo (e:=(fun(⟨f,g⟩:Int×Int)=>(nq [(0,.v (.int .u64 f)),aU 2 g] []))) ?_ fun⟨f,g⟩=>?_;refine io ?_ rfl;refine bo oi fun i=>?_;rfl;refine bo (e:=(fun(⟨h,a⟩:Int×Int)=>(nq [(0,.v (.int .u64 h)),aU 2 a] []))) ?_ fun⟨h,a⟩=>?_;refine io ?_ rfl;refine bo oi fun j=>?_;rfl;refine bo oi fun x11=>?_;rfl
def Qw (x1:Int):aB Int:=
 (qJ1 x1).bind fun x2=>some x2
def Qx (x1:Int):OD k (d+2) 231 [.v (.int .u64 x1)]=(Qw x1).map i64:=oe rfl<|by
 refine bo (fK2 d x1) fun x2=>?_;rfl
def Mf (x1:YG):aB Bool:=
 ((if decide (x1.passes>0)then(mX1 .i64 1 (bK (x1.passes-1))).bind fun x2=>some (x1.ending==x2)else some false:aB (Bool))).bind fun a=>some a
def Ju (x1:YG):OD k (d+1) 140 [kE x1]=(Mf x1).map bv:=oe rfl<|by
 refine bo (e:=id) ?_ fun a=>?_;refine io ?_ rfl;refine bo oi fun x2=>?_;rfl;rfl
def qK1 (x1:YG) (x2:YM):aB (YG×Bool):=
 if x2.nB||(x1.body==0)then some (x1,false)else if x2.cU !=x1.ending then if((x1.ending !=0)&&(!x1.ended))||((Qg .i64 x2.cU x1.used)!=0)then some (x1,false)else(Qw (IntKind.wrap .u64 (x2.cU))).bind fun h=>if x1.passes==0 then if((Qg .i64 x2.cU 1)==0)||(decide ((bK (h-1))>6))then some ((YG.mk x1.started x1.body (Tp .i64 x1.used x2.cU) x2.cU false x1.passes),false)else if x2.cY !=0 then(Mf (YG.mk x1.started x1.body (Tp .i64 x1.used x2.cU) x2.cU false x1.passes)).bind fun i=>((if i||((x1.passes !=0)&&(x2.cY !=x1.passes))then some true else(Qw (IntKind.wrap .u64 (x2.cU))).bind fun j=>some (decide (j>=x2.cY)):aB (Bool))).bind fun k=>if k then some ((YG.mk x1.started x1.body (Tp .i64 x1.used x2.cU) x2.cU false x1.passes),false)else some ((YG.mk x1.started x1.body (Tp .i64 x1.used x2.cU) x2.cU true x2.cY),true)else some ((YG.mk x1.started x1.body (Tp .i64 x1.used x2.cU) x2.cU false x1.passes),true)else((if decide ((bK (h-1))>=x1.passes)then some true else((if(bK (h-1))==(bK (x1.passes-1))then(Mf (YG.mk x1.started x1.body (Tp .i64 x1.used x2.cU) x2.cU false x1.passes)).bind fun l=>((if !l then some true else(mX1 .i64 1 x1.passes).bind fun m=>some ((Tp .i64 x1.used x2.cU)!=(bK (m-1))):aB (Bool))).bind fun n=>some n else some false:aB (Bool))).bind fun a=>some a:aB (Bool))).bind fun x11=>if x11 then some ((YG.mk x1.started x1.body (Tp .i64 x1.used x2.cU) x2.cU false x1.passes),false)else if x2.cY !=0 then(Mf (YG.mk x1.started x1.body (Tp .i64 x1.used x2.cU) x2.cU false x1.passes)).bind fun b=>((if b||((x1.passes !=0)&&(x2.cY !=x1.passes))then some true else(Qw (IntKind.wrap .u64 (x2.cU))).bind fun c=>some (decide (c>=x2.cY)):aB (Bool))).bind fun d=>if d then some ((YG.mk x1.started x1.body (Tp .i64 x1.used x2.cU) x2.cU false x1.passes),false)else some ((YG.mk x1.started x1.body (Tp .i64 x1.used x2.cU) x2.cU true x2.cY),true)else some ((YG.mk x1.started x1.body (Tp .i64 x1.used x2.cU) x2.cU false x1.passes),true)else if x1.ended then some (x1,false)else if x2.cY !=0 then(Mf x1).bind fun e=>((if e||((x1.passes !=0)&&(x2.cY !=x1.passes))then some true else(Qw (IntKind.wrap .u64 (x1.ending))).bind fun f=>some (decide (f>=x2.cY)):aB (Bool))).bind fun g=>if g then some (x1,false)else some ((YG.mk x1.started x1.body x1.used x1.ending true x2.cY),true)else some (x1,true)
def fL2 (x1:YG) (x2:YM):OD k (d+3) 198 [kE x1,eW x2]=(qK1 x1 x2).map (fun⟨j,l⟩=>.tup [kE j,bv l]):=oe rfl<|by
 refine bz (gB rfl) ?_;refine io rfl ?_;refine io ?_ ?_;refine bz (iK rfl) ?_;refine bz (gB rfl) ?_;refine io rfl ?_;refine bo (Qx d (IntKind.wrap .u64 (x2.cU))) fun m=>?_;refine io ?_ ?_;refine bz (gB rfl) ?_;refine io rfl ?_;refine io ?_ rfl;refine bo (Ju (d+1) (YG.mk x1.started x1.body (Tp .i64 x1.used x2.cU) x2.cU false x1.passes)) fun n=>?_;refine bz (gB (bz (iK rfl) rfl)) ?_;refine bo (e:=id) ?_ fun p=>?_;refine io rfl ?_;refine bo (Qx d (IntKind.wrap .u64 (x2.cU))) fun o=>?_;rfl;refine io rfl rfl;refine bo (e:=id) ?_ fun x11=>?_;refine io rfl ?_;refine bo (e:=id) ?_ fun a=>?_;refine io ?_ rfl;refine bo (Ju (d+1) (YG.mk x1.started x1.body (Tp .i64 x1.used x2.cU) x2.cU false x1.passes)) fun q=>?_;refine bo (e:=id) ?_ fun s=>?_;refine io rfl ?_;refine bo oi fun r=>?_;rfl;rfl;rfl;refine io rfl ?_;refine io ?_ rfl;refine bo (Ju (d+1) (YG.mk x1.started x1.body (Tp .i64 x1.used x2.cU) x2.cU false x1.passes)) fun b=>?_;refine bz (gB (bz (iK rfl) rfl)) ?_;refine bo (e:=id) ?_ fun f=>?_;refine io rfl ?_;refine bo (Qx d (IntKind.wrap .u64 (x2.cU))) fun c=>?_;rfl;refine io rfl rfl;refine io rfl ?_;refine io ?_ rfl;refine bo (Ju (d+1) x1) fun g=>?_;refine bz (gB (bz (iK rfl) rfl)) ?_;refine bo (e:=id) ?_ fun i=>?_;refine io rfl ?_;refine bo (Qx d (IntKind.wrap .u64 (x1.ending))) fun h=>?_;rfl;refine io rfl rfl
def qL1 (x1:YG) (x2:YM):aB (YG×Bool):=
 if x2.cU !=0 then(qK1 x1 x2).bind fun⟨b,c⟩=>some (b,c)else if x1.ending !=0 then(Mf x1).bind fun d=>if !d then some (x1,false)else if x2.nB then if false then some ((YG.mk false 0 0 0 false 0),false)else((if x2.cY !=0 then some (false,0)else some (true,1):aB (Bool×Int))).bind fun⟨e,f⟩=>some ((YG.mk e f 0 0 false 0),true)else((if x2.cY !=0 then some 0 else some 1:aB (Int))).bind fun g=>some ((YG.mk false g 0 0 false 0),true)else if x2.nB then if x1.started then some (x1,false)else((if x2.cY !=0 then some (false,0)else some (true,1):aB (Bool×Int))).bind fun⟨h,a⟩=>some ((YG.mk h a 0 0 false 0),true)else((if x2.cY !=0 then some (YG.mk false 0 0 0 false 0)else some (YG.mk x1.started (bK (x1.body+1)) x1.used x1.ending x1.ended x1.passes):aB (YG))).bind fun x11=>some (x11,true)
def fM2 (x1:YG) (x2:YM):OD k (d+4) 139 [kE x1,eW x2]=(qL1 x1 x2).map (fun⟨h,i⟩=>.tup [kE h,bv i]):=oe rfl<|by
 refine io ?_ ?_;refine bo (fL2 d x1 x2) fun⟨j,l⟩=>?_;rfl;refine io ?_ ?_;refine bo (Ju (d+2) x1) fun m=>?_;refine io rfl ?_;refine io ?_ ?_;refine io rfl ?_;refine bo (e:=(fun(⟨b,c⟩:Bool×Int)=>(nq [bE 2 0,bE 4 2] [nF1,aW 1 x2,(0,.box [bv b,i64 c,i64 0,i64 0,bv false,i64 0])]))) ?_ fun⟨b,c⟩=>?_;refine io rfl rfl;rfl;refine bo (e:=(fun(f:Int)=>(nq [bE 2 0,bE 4 2] [nF1,aW 1 x2,(0,.box [bv false,i64 f,i64 0,i64 0,bv false,i64 0])]))) ?_ fun f=>?_;refine io rfl rfl;rfl;refine io ?_ ?_;refine io rfl ?_;refine bo (e:=(fun(⟨g,a⟩:Bool×Int)=>(nq [bE 2 0,bE 4 2] [nF1,aW 1 x2,(0,.box [bv g,i64 a,i64 0,i64 0,bv false,i64 0])]))) ?_ fun⟨g,a⟩=>?_;refine io rfl rfl;rfl;refine bo (e:=(fun(x11:YG)=>(nq [bE 2 0,bE 4 2] [nF1,aW 1 x2,lD 0 x11]))) ?_ fun x11=>?_;refine io rfl rfl;rfl
def iU1 (x1:aA YV) (x2:Y0) (l:Int):aB (aA YV):=
 (Cy x1 x2 l).bind fun c=>if decide ((c.length:Int)>(x1.length:Int))then some c else(bC (E:=(YG×(aA YV))⊕YG) (fun(⟨m,a⟩:Int×YG)=>dT x2.aD m (fun x11=>(qL1 a x11).bind fun⟨b,d⟩=>if !d then(iV true x11.ID c x2 l).bind fun e=>some (.inr (.inl (b,e)))else some (.inl ((bK (m+1)),b))) (some (.inr (.inr a)))) bS (0,(YG.mk false 0 0 0 false 0))).bind fun f=>(match f with|.inl ⟨x15,x16⟩=>some x16|.inr x17=>((if x17.started&&(x17.ending==0)then some true else((if x17.ending !=0 then(Mf x17).bind fun g=>some (!g)else some false:aB (Bool))).bind fun h=>some h:aB (Bool))).bind fun i=>(bM x2.aD (bK ((x2.aD.length:Int)-1))).bind fun j=>(iV i j.ID c x2 l).bind fun k=>some k)
def fN2 (x1:aA YV) (x2:Y0) (a:Int):gA (XD k (d+5)) 88 [.ref 1 0] (cL x1 x2 a) 3 false=(iU1 x1 x2 a).map (fun(m:aA YV)=>((.tup [],(cL m x2 a),0))):=by
 rw[xd (fn:=p88) rfl];refine bz (dV YV.g x1) ?_;refine bo (iT1 (d+1) x1 x2 a) fun h=>?_;refine bz (dV YV.g h) ?_;refine io rfl ?_;refine bz lm ?_;refine bo (aN (S:=Int×YG) (enc:=fun⟨n,b⟩=>(Q [bE 0 1,bE 3 3,bB 26 x2.aD,cQ 27 x2.aD,aU 28 n] (lD 3 b::cL h x2 a))) (encE:=(fun|.inl ⟨c,f⟩=>(rq [bE 3 3] (lD 3 c::cL f x2 a))|.inr x17=>(xq 0 [bE 0 1,bE 3 3] (lD 3 x17::cL h x2 a)))) (fun⟨n,b⟩=>?_) bS (0,(YG.mk false 0 0 0 false 0))) fun i=>?_;refine ig fun x11=>?_;refine bo (fM2 d b x11) fun⟨o,p⟩=>?_;refine io ?_ rfl;refine bo (iH (d+3) true x11.ID h x2 a) fun q=>?_;rfl;rcases i with⟨c,f⟩|x17;rfl;refine bz (iK rfl) ?_;refine bo (e:=id) ?_ fun j=>?_;refine io rfl ?_;refine bo (e:=id) ?_ fun s=>?_;refine io ?_ rfl;refine bo (Ju (d+3) x17) fun r=>?_;rfl;rfl;refine bz lm ?_;refine bo rg fun l=>?_;refine bo (iH (d+3) j l.ID h x2 a) fun t=>?_;rfl
def qM1 (x1 x2:YM):aB Bool:=
 some (((x2.Mq !=0)&&(x1.Mq !=0))||((Qg .i64 x2.sB x1.sB)!=0))
def fO2 (x1 x2:YM):OD k (d+1) 142 [eW x1,lN x2]=(qM1 x1 x2).map bv:=oe rfl<|by
 refine bz (iK rfl) ?_;refine bz (gB rfl) ?_;rfl
def qN1 (x1:aA YM) (x2:YM):aB Int:=
 (bC (E:=Int⊕Unit) (fun(a:Int)=>dT x1 a (fun b=>(qM1 b x2).bind fun c=>if c then some (.inr (.inl a))else some (.inl (bK (a+1)))) (some (.inr (.inr ())))) bS 0).bind fun d=>(match d with|.inl x8=>some x8|.inr _=>some (-1))
def fP2 (x1:aA YM) (x2:YM):OD k (d+2) 199 [pN x1,.fn 142 [] [lN x2]]=(qN1 x1 x2).map i64:=oe rfl<|by
 refine bz lm ?_;refine bo (aN (S:=Int) (enc:=fun a=>(Q [bB 0 x1,(1,.fn 142 [] [lN x2]),cQ 7 x1,aU 8 a] [])) (encE:=Ri 4) (fun a=>?_) bS 0) fun c=>?_;refine ig fun b=>?_;refine bo (fO2 d b x2) fun e=>?_;refine io rfl rfl;rcases c with f|_;rfl;rfl
def qO1 (x1:aA YM) (x2:YM):aB Bool:=
 (qN1 x1 x2).bind fun a=>some (decide (a>=0))
def fQ2 (x1:aA YM) (x2:YM):OD k (d+3) 143 [pN x1,.fn 142 [] [lN x2]]=(qO1 x1 x2).map bv:=oe rfl<|by
 refine bo (fP2 d x1 x2) fun a=>?_;rfl
def qP1 (x1:YM) (x2:Int):aB Bool:=
 some ((Qg .i64 x1.sB x2)!=0)
def fR2 (x1:YM) (x2:Int):OD k (d+1) 232 [eW x1,.ip [i64 x2]]=(qP1 x1 x2).map bv:=oe rfl<|by
 rfl
def Mg (x1:aA YM) (x2:Int):aB Int:=
 (bC (E:=Int⊕Unit) (fun(a:Int)=>dT x1 a (fun b=>(qP1 b x2).bind fun c=>if c then some (.inr (.inl a))else some (.inl (bK (a+1)))) (some (.inr (.inr ())))) bS 0).bind fun d=>(match d with|.inl x8=>some x8|.inr _=>some (-1))
def qQ1 (x1:aA YM) (x2:Int):OD k (d+2) 199 [pN x1,.fn 232 [] [.ip [i64 x2]]]=(Mg x1 x2).map i64:=oe rfl<|by
 refine bz lm ?_;refine bo (aN (S:=Int) (enc:=fun a=>(Q [bB 0 x1,(1,.fn 232 [] [.ip [i64 x2]]),cQ 7 x1,aU 8 a] [])) (encE:=Ri 4) (fun a=>?_) bS 0) fun c=>?_;refine ig fun b=>?_;refine bo (fR2 d b x2) fun e=>?_;refine io rfl rfl;rcases c with f|_;rfl;rfl
def aW1 (x1:YK) (x2:Int):aB Int:=
 (Mg x1.s'.aD x2).bind fun a=>some a
def iV1 (x1:YK) (x2:Int):OD k (d+3) 201 [dF x1,i64 x2]=(aW1 x1 x2).map i64:=oe rfl<|by
 refine bo (qQ1 d x1.s'.aD x2) fun a=>?_;rfl
def aX1 (x1:Int) (x2:YK) (a:Int):aB Bool:=
 (aW1 x2 x1).bind fun b=>(pE b 0 a).bind fun c=>some c
def iW1 (x1:Int) (x2:YK) (a:Int):OD k (d+4) 200 [i64 x1,.ip [dF x2],.ip [i64 a]]=(aX1 x1 x2 a).map bv:=oe rfl<|by
 refine bo (iV1 d x2 x1) fun b=>?_;refine bo (nA (d+2) b 0 a) fun c=>?_;rfl
def qR1 (x1:YK) (x2 c:Int):aB Bool:=
 ((if decide (x2>=4)then(aX1 1 x1 c).bind fun d=>some (!d)else some false:aB (Bool))).bind fun e=>if e then some false else((if x2==2 then some (x2==2)else some (x2==5):aB (Bool))).bind fun f=>if f then(aX1 4 x1 c).bind fun g=>some g else((if x2==3 then some (x2==3)else some (x2==6):aB (Bool))).bind fun h=>if h then(aX1 8 x1 c).bind fun i=>((if i then(aW1 x1 2).bind fun a=>(aW1 x1 8).bind fun x11=>some (decide (a>x11))else some false:aB (Bool))).bind fun b=>some b else some true
def fS2 (x1:YK) (x2 a:Int):OD k (d+5) 144 [dF x1,i64 x2,i64 a]=(qR1 x1 x2 a).map bv:=oe rfl<|by
 refine bo (e:=id) ?_ fun i=>?_;refine io ?_ rfl;refine bo (iW1 d 1 x1 a) fun h=>?_;rfl;refine io rfl ?_;refine bo (e:=(fun(b:Bool)=>(nq [bE 3 0,(7,.fn 200 [] [.ref 0 0,.ref 1 0]),aU 16 x2,(17,bv b)] [(1,.box [i64 a]),(0,.box [dF x1])]))) ?_ fun b=>?_;refine io rfl rfl;refine io ?_ ?_;refine bo (iW1 d 4 x1 a) fun j=>?_;rfl;refine bo (e:=(fun(c:Bool)=>(nq [bE 3 0,(7,.fn 200 [] [.ref 0 0,.ref 1 0]),(22,bv c)] [(1,.box [i64 a]),(0,.box [dF x1])]))) ?_ fun c=>?_;refine io rfl rfl;refine io ?_ rfl;refine bo (iW1 d 8 x1 a) fun l=>?_;refine bo (e:=id) ?_ fun g=>?_;refine io ?_ rfl;refine bo (iV1 (d+1) x1 2) fun f=>?_;refine bo (iV1 (d+1) x1 8) fun x11=>?_;rfl;rfl
def qS1 (x1:Int) (x2:YM) (b:YK):aB Bool:=
 (pE x2.Mq 0 6).bind fun c=>((if !c then some true else(pE x2.sB 0 15).bind fun d=>some (!d):aB (Bool))).bind fun e=>if e||(((x2.Mq !=0)||(x2.sB !=0))&&((x2.cY !=0)||(x2.cU !=0)))then some true else(nG b.s'.aD 0 x1).bind fun f=>(qO1 f x2).bind fun g=>((if g then some true else(qR1 b x2.Mq x1).bind fun h=>some (!h):aB (Bool))).bind fun a=>some a
def fT2 (x1:Int) (x2:YM) (a:YK):OD k (d+6) 141 [i64 x1,eW x2,.ip [dF a]]=(qS1 x1 x2 a).map bv:=oe rfl<|by
 refine bo (nA (d+4) x2.Mq 0 6) fun f=>?_;refine bo (e:=id) ?_ fun h=>?_;refine io rfl ?_;refine bo (nA (d+4) x2.sB 0 15) fun g=>?_;rfl;refine bz (gB (bz (gB rfl) (bz (iK (bz (gB rfl) rfl)) rfl))) ?_;refine io rfl ?_;refine bo (rR _ _ _ _) fun c=>?_;refine bo (fQ2 (d+2) c x2) fun i=>?_;refine bo (e:=id) ?_ fun b=>?_;refine io rfl ?_;refine bo (fS2 d a x2.Mq x1) fun j=>?_;rfl;rfl
def Cz (x1:aA YV) (x2:Y0) (e:Int):aB (aA YV):=
 (bC (E:=aA YV) (fun(⟨c,d⟩:Int×(aA YV))=>dT x2.aD c (fun f=>(qS1 c f (YK.mk x2 e d)).bind fun a=>(iV a f.ID d x2 e).bind fun x11=>some (.inl ((bK (c+1)),x11))) (some (.inr d))) bS (0,x1)).bind fun b=>some b
def iX1 (x1:aA YV) (x2:Y0) (a:Int):gA (XD k (d+7)) 110 [.ref 1 0,.fn 141 [] [.ref 3 0]] ((3,.box [.ref 1 0])::cL x1 x2 a) 4 false=(Cz x1 x2 a).map (fun(f:aA YV)=>((.tup [],((3,.box [.ref 1 0])::cL f x2 a),0))):=by
 rw[xd (fn:=Lk) rfl];refine bz lm ?_;refine bo (aN (S:=Int×(aA YV)) (enc:=fun⟨g,c⟩=>(Q [bE 0 1,(1,.fn 141 [] [.ref 3 0]),bB 10 x2.aD,cQ 11 x2.aD,aU 12 g] ((3,.box [.ref 1 0])::cL c x2 a))) (encE:=(fun(b:aA YV)=>(xq 0 [] ((3,.box [.ref 1 0])::cL b x2 a)))) (fun⟨g,c⟩=>?_) bS (0,x1)) fun b=>?_;refine ig fun h=>?_;refine bo (fT2 d g h (YK.mk x2 a c)) fun e=>?_;refine bo (iH (d+5) e h.ID c x2 a) fun x11=>?_;rfl;rfl
def iY1 (x1:aA YV) (x2:Y0) (a:Int):aB (aA YV):=
 (Cz x1 x2 a).bind fun b=>some b
def fU2 (x1:aA YV) (x2:Y0) (a:Int):gA (XD k (d+8)) 89 [.ref 1 0] (cL x1 x2 a) 3 false=(iY1 x1 x2 a).map (fun(b:aA YV)=>((.tup [],(cL b x2 a),0))):=by
 rw[xd (fn:=p89) rfl];refine bo (iX1 d x1 x2 a) fun c=>?_;rfl
def qT1 (x1:Int) (x2:YM):aB Bool:=
 (Lr x2).bind fun⟨l,q⟩=>((if x2.Yb !=0 then(pE x2.Yb 50 75).bind fun m=>some (!m)else some false:aB (Bool))).bind fun n=>((if n then some true else(pE x2.kM1 0 3).bind fun o=>some (!o):aB (Bool))).bind fun p=>(bC (E:=Bool) (fun(⟨c,a⟩:Bool×Int)=>dT x2.nN a (fun b=>((if c then some true else(pE b.At 0 (bK (l-1))).bind fun d=>some (!d):aB (Bool))).bind fun e=>((if e then some true else(pE b.Ux 1 60000000).bind fun f=>some (!f):aB (Bool))).bind fun g=>((if g then some true else((if decide (a>0)then(bM x2.nN (bK (a-1))).bind fun h=>some (decide (b.At<=h.At))else some false:aB (Bool))).bind fun i=>some i:aB (Bool))).bind fun j=>some (.inl (j,(bK (a+1))))) (some (.inr c))) bS (p,0)).bind fun k=>some k
def fV2 (x1:Int) (x2:YM):OD k (d+5) 145 [i64 x1,eW x2]=(qT1 x1 x2).map bv:=oe rfl<|by
 refine bo (Jr d x2) fun⟨g,q⟩=>?_;refine bo (e:=id) ?_ fun s=>?_;refine io ?_ rfl;refine bo (nA (d+3) x2.Yb 50 75) fun r=>?_;rfl;refine bo (e:=id) ?_ fun p=>?_;refine io rfl ?_;refine bo (nA (d+3) x2.kM1 0 3) fun t=>?_;rfl;refine bz lm ?_;refine bo (aN (S:=Bool×Int) (enc:=fun⟨a,b⟩=>(Q [bE 3 0,aU 5 g,(7,bv a),Gq 31 x2.nN,cQ 32 x2.nN,aU 33 b] [aW 0 x2])) (encE:=(fun(f:Bool)=>(xq 0 [(7,bv f)] [aW 0 x2]))) (fun⟨a,b⟩=>?_) bS (p,0)) fun f=>?_;refine ig fun c=>?_;refine bo (e:=id) ?_ fun i=>?_;refine io rfl ?_;refine bo (nA (d+3) c.At 0 (bK (g-1))) fun h=>?_;rfl;refine bo (e:=id) ?_ fun l=>?_;refine io rfl ?_;refine bo (nA (d+3) c.Ux 1 60000000) fun j=>?_;rfl;refine bo (e:=id) ?_ fun o=>?_;refine io rfl ?_;refine bo (e:=id) ?_ fun n=>?_;refine ig fun m=>?_;rfl;rfl;rfl;rfl
def Da (x1:aA YV) (x2:Y0) (f:Int):aB (aA YV):=
 (bC (E:=aA YV) (fun(⟨c,d⟩:Int×(aA YV))=>dT x2.aD c (fun e=>(qT1 c e).bind fun a=>(iV a e.ID d x2 f).bind fun x11=>some (.inl ((bK (c+1)),x11))) (some (.inr d))) bS (0,x1)).bind fun b=>some b
def iZ1 (x1:aA YV) (x2:Y0) (a:Int):gA (XD k (d+6)) 110 [.ref 1 0,.fn 145 [] []] (cL x1 x2 a) 3 false=(Da x1 x2 a).map (fun(e:aA YV)=>((.tup [],(cL e x2 a),0))):=by
 rw[xd (fn:=Lk) rfl];refine bz lm ?_;refine bo (aN (S:=Int×(aA YV)) (enc:=fun⟨f,g⟩=>(Q [bE 0 1,(1,.fn 145 [] []),bB 10 x2.aD,cQ 11 x2.aD,aU 12 f] (cL g x2 a))) (encE:=(fun(b:aA YV)=>(xq 0 [] (cL b x2 a)))) (fun⟨f,g⟩=>?_) bS (0,x1)) fun b=>?_;refine ig fun h=>?_;refine bo (fV2 d f h) fun c=>?_;refine bo (iH (d+4) c h.ID g x2 a) fun x11=>?_;rfl;rfl
def jA1 (x1:aA YV) (x2:Y0) (a:Int):aB (aA YV):=
 (Da x1 x2 a).bind fun b=>some b
def fW2 (x1:aA YV) (x2:Y0) (a:Int):gA (XD k (d+7)) 90 [.ref 1 0] (cL x1 x2 a) 3 false=(jA1 x1 x2 a).map (fun(b:aA YV)=>((.tup [],(cL b x2 a),0))):=by
 rw[xd (fn:=p90) rfl];refine bo (iZ1 d x1 x2 a) fun c=>?_;rfl
def qU1 (x1:YP) (x2:YE) (b:YK):aB Bool:=
 (iB1 b.s' x1).bind fun⟨d,e⟩=>((if !e then some true else(hY1 x2).bind fun f=>some (!f):aB (Bool))).bind fun g=>if g||(d.cV==x1.cV)then some false else(bM b.s'.aD x1.cV).bind fun a=>(bM b.s'.aD d.cV).bind fun c=>some ((((((a.cY !=0)||(a.Mq !=0))||((Qg .i64 a.sB 12)!=0))||(a.cU !=c.cU))||c.nB)||((Qg .i64 c.sB 3)!=0))
def fX2 (x1:YP) (x2:YE) (a:YK):OD k (d+5) 146 [eO x1,eI x2,.ip [dF a]]=(qU1 x1 x2 a).map bv:=oe rfl<|by
 refine bo (uL1 (d+1) a.s' x1) fun⟨b,c⟩=>?_;refine bo (e:=id) ?_ fun g=>?_;refine io rfl ?_;refine bo (uI1 d x2) fun f=>?_;rfl;refine bz (gB rfl) ?_;refine io rfl ?_;refine bo rg fun h=>?_;refine bo rg fun i=>?_;refine bz (gB rfl) ?_;refine bz (gB rfl) ?_;refine bz (gB rfl) ?_;refine bz (gB rfl) ?_;refine bz (gB rfl) ?_;rfl
def Db (x1:aA YV) (x2:Y0) (s:Int):aB (aA YV):=
 (bC (E:=aA YV) (fun(⟨d,m⟩:Int×(aA YV))=>dT x2.aD d (fun p=>(bC (E:=aA YV) (fun(⟨e,n⟩:Int×(aA YV))=>dT p.aQ e (fun q=>(bC (E:=aA YV) (fun(⟨f,o⟩:Int×(aA YV))=>dT q.aM f (fun r=>(bC (E:=aA YV) (fun(⟨a,b⟩:Int×(aA YV))=>dT r.aT a (fun c=>(qU1 (YP.mk 4 0 e d f a 0) c (YK.mk x2 s b)).bind fun g=>(iV g c.ID b x2 s).bind fun h=>some (.inl ((bK (a+1)),h))) (some (.inr b))) bS (0,o)).bind fun i=>some (.inl ((bK (f+1)),i))) (some (.inr o))) bS (0,n)).bind fun j=>some (.inl ((bK (e+1)),j))) (some (.inr n))) bS (0,m)).bind fun k=>some (.inl ((bK (d+1)),k))) (some (.inr m))) bS (0,x1)).bind fun l=>some l
def jB1 (x1:aA YV) (x2:Y0) (g:Int):gA (XD k (d+6)) 120 [.ref 1 0,.fn 146 [] [.ref 3 0]] ((3,.box [.ref 1 0])::cL x1 x2 g) 4 false=(Db x1 x2 g).map (fun(u:aA YV)=>((.tup [],((3,.box [.ref 1 0])::cL u x2 g),0))):=by
 rw[xd (fn:=Zz) rfl];refine bz lm ?_;refine bo (aN (S:=Int×(aA YV)) (enc:=fun⟨b,q⟩=>(Q [bE 0 1,(1,.fn 146 [] [.ref 3 0]),bB 16 x2.aD,cQ 17 x2.aD,aU 18 b] ((3,.box [.ref 1 0])::cL q x2 g))) (encE:=(fun(p:aA YV)=>(xq 0 [] ((3,.box [.ref 1 0])::cL p x2 g)))) (fun⟨b,q⟩=>?_) bS (0,x1)) fun p=>?_;refine ig fun a=>?_;refine bz lm ?_;refine bo (aN (S:=Int×(aA YV)) (enc:=fun⟨c,r⟩=>(Q [bE 0 1,(1,.fn 146 [] [.ref 3 0]),aU 4 b,bB 16 x2.aD,cQ 17 x2.aD,aU 18 b,cH 24 a.aQ,cQ 25 a.aQ,aU 26 c] (aW 4 a::(3,.box [.ref 1 0])::cL r x2 g))) (encE:=(fun(o:aA YV)=>(xq 2 [bE 0 1,(1,.fn 146 [] [.ref 3 0]),bB 16 x2.aD,cQ 17 x2.aD,aU 18 b] (aW 4 a::(3,.box [.ref 1 0])::cL o x2 g)))) (fun⟨c,r⟩=>?_) bS (0,q)) fun o=>?_;refine ig fun e=>?_;refine bz lm ?_;refine bo (aN (S:=Int×(aA YV)) (enc:=fun⟨h,s⟩=>(Q [bE 0 1,(1,.fn 146 [] [.ref 3 0]),aU 4 b,aU 6 c,bB 16 x2.aD,cQ 17 x2.aD,aU 18 b,cH 24 a.aQ,cQ 25 a.aQ,aU 26 c,cS 32 e.aM,cQ 33 e.aM,aU 34 h] (cT 5 e::aW 4 a::(3,.box [.ref 1 0])::cL s x2 g))) (encE:=(fun(n:aA YV)=>(xq 4 [bE 0 1,(1,.fn 146 [] [.ref 3 0]),aU 4 b,bB 16 x2.aD,cQ 17 x2.aD,aU 18 b,cH 24 a.aQ,cQ 25 a.aQ,aU 26 c] (cT 5 e::aW 4 a::(3,.box [.ref 1 0])::cL n x2 g)))) (fun⟨h,s⟩=>?_) bS (0,r)) fun n=>?_;refine ig fun j=>?_;refine bz lm ?_;refine bo (aN (S:=Int×(aA YV)) (enc:=fun⟨i,f⟩=>(Q [bE 0 1,(1,.fn 146 [] [.ref 3 0]),aU 4 b,aU 6 c,aU 8 h,bB 16 x2.aD,cQ 17 x2.aD,aU 18 b,cH 24 a.aQ,cQ 25 a.aQ,aU 26 c,cS 32 e.aM,cQ 33 e.aM,aU 34 h,eT 40 j.aT,cQ 41 j.aT,aU 42 i] (cK 6 j::cT 5 e::aW 4 a::(3,.box [.ref 1 0])::cL f x2 g))) (encE:=(fun(m:aA YV)=>(xq 6 [bE 0 1,(1,.fn 146 [] [.ref 3 0]),aU 4 b,aU 6 c,bB 16 x2.aD,cQ 17 x2.aD,aU 18 b,cH 24 a.aQ,cQ 25 a.aQ,aU 26 c,cS 32 e.aM,cQ 33 e.aM,aU 34 h] (cK 6 j::cT 5 e::aW 4 a::(3,.box [.ref 1 0])::cL m x2 g)))) (fun⟨i,f⟩=>?_) bS (0,s)) fun m=>?_;refine ig fun l=>?_;refine bo (fX2 d (YP.mk 4 0 c b h i 0) l (YK.mk x2 g f)) fun t=>?_;refine bo (iH (d+4) t l.ID f x2 g) fun v=>?_;rfl;rfl;rfl;rfl;rfl
def jC1 (x1:aA YV) (x2:Y0) (a:Int):aB (aA YV):=
 (Db x1 x2 a).bind fun b=>some b
def fY2 (x1:aA YV) (x2:Y0) (a:Int):gA (XD k (d+7)) 91 [.ref 1 0] (cL x1 x2 a) 3 false=(jC1 x1 x2 a).map (fun(b:aA YV)=>((.tup [],(cL b x2 a),0))):=by
 rw[xd (fn:=p91) rfl];refine bo (jB1 d x1 x2 a) fun c=>?_;rfl
def F54 (x1:Y0):aB (aA YV):=
 ((if decide ((([]:aA YV).length:Int)>0)then((if false then some true else((if false then(gM ([]:aA YV) 0).bind fun x2=>(fQ ([]:aA YV) x2).bind fun x3=>some (decide (x3.jX<10))else some false:aB (Bool))).bind fun x4=>some x4:aB (Bool))).bind fun x5=>some x5 else some false:aB (Bool))).bind fun x6=>if x6 then some []else(Qs [] x1 1).bind fun s=>((if decide ((s.length:Int)>0)then((if true then some true else((if false then(gM s 0).bind fun x8=>(fQ s x8).bind fun x9=>some (decide (x9.jX<10))else some false:aB (Bool))).bind fun t=>some t:aB (Bool))).bind fun x11=>some x11 else some false:aB (Bool))).bind fun u=>if u then some s else(gQ1 s x1 2).bind fun a=>((if decide ((a.length:Int)>0)then((if false then some true else((if false then(gM a 0).bind fun v=>(fQ a v).bind fun w=>some (decide (w.jX<10))else some false:aB (Bool))).bind fun x=>some x:aB (Bool))).bind fun y=>some y else some false:aB (Bool))).bind fun z=>if z then some a else(aO1 a x1 3).bind fun b=>((if decide ((b.length:Int)>0)then((if false then some true else((if false then(gM b 0).bind fun A=>(fQ b A).bind fun B=>some (decide (B.jX<10))else some false:aB (Bool))).bind fun C=>some C:aB (Bool))).bind fun D=>some D else some false:aB (Bool))).bind fun E=>if E then some b else(gT1 b x1 4).bind fun c=>((if decide ((c.length:Int)>0)then((if false then some true else((if false then(gM c 0).bind fun F=>(fQ c F).bind fun G=>some (decide (G.jX<10))else some false:aB (Bool))).bind fun H=>some H:aB (Bool))).bind fun J=>some J else some false:aB (Bool))).bind fun K=>if K then some c else(gV1 c x1 5).bind fun d=>((if decide ((d.length:Int)>0)then((if false then some true else((if false then(gM d 0).bind fun L=>(fQ d L).bind fun M=>some (decide (M.jX<10))else some false:aB (Bool))).bind fun N=>some N:aB (Bool))).bind fun O=>some O else some false:aB (Bool))).bind fun P=>if P then some d else(hP1 d x1 6).bind fun e=>((if decide ((e.length:Int)>0)then((if false then some true else((if false then(gM e 0).bind fun R=>(fQ e R).bind fun S=>some (decide (S.jX<10))else some false:aB (Bool))).bind fun T=>some T:aB (Bool))).bind fun U=>some U else some false:aB (Bool))).bind fun V=>if V then some e else(hS1 e x1 7).bind fun f=>((if decide ((f.length:Int)>0)then((if false then some true else((if false then(gM f 0).bind fun W=>(fQ f W).bind fun X=>some (decide (X.jX<10))else some false:aB (Bool))).bind fun Y=>some Y:aB (Bool))).bind fun Z=>some Z else some false:aB (Bool))).bind fun a0=>if a0 then some f else(aS1 f x1 8).bind fun g=>((if decide ((g.length:Int)>0)then((if false then some true else((if false then(gM g 0).bind fun b0=>(fQ g b0).bind fun b4=>some (decide (b4.jX<10))else some false:aB (Bool))).bind fun b5=>some b5:aB (Bool))).bind fun b6=>some b6 else some false:aB (Bool))).bind fun b7=>if b7 then some g else(hW1 g x1 9).bind fun h=>((if decide ((h.length:Int)>0)then((if false then some true else((if true then(gM h 0).bind fun b8=>(fQ h b8).bind fun b9=>some (decide (b9.jX<10))else some false:aB (Bool))).bind fun d0=>some d0:aB (Bool))).bind fun d2=>some d2 else some false:aB (Bool))).bind fun d3=>if d3 then some h else(iD1 h x1 10).bind fun i=>((if decide ((i.length:Int)>0)then((if false then some true else((if true then(gM i 0).bind fun d4=>(fQ i d4).bind fun d5=>some (decide (d5.jX<10))else some false:aB (Bool))).bind fun d6=>some d6:aB (Bool))).bind fun d7=>some d7 else some false:aB (Bool))).bind fun d8=>if d8 then some i else(iF1 i x1 11).bind fun j=>((if decide ((j.length:Int)>0)then((if false then some true else((if true then(gM j 0).bind fun d9=>(fQ j d9).bind fun e0=>some (decide (e0.jX<10))else some false:aB (Bool))).bind fun e1=>some e1:aB (Bool))).bind fun e3=>some e3 else some false:aB (Bool))).bind fun e4=>if e4 then some j else(iM1 j x1 12).bind fun k=>((if decide ((k.length:Int)>0)then((if false then some true else((if true then(gM k 0).bind fun e5=>(fQ k e5).bind fun e6=>some (decide (e6.jX<10))else some false:aB (Bool))).bind fun e7=>some e7:aB (Bool))).bind fun e8=>some e8 else some false:aB (Bool))).bind fun e9=>if e9 then some k else(iS1 k x1 13).bind fun l=>((if decide ((l.length:Int)>0)then((if false then some true else((if true then(gM l 0).bind fun f0=>(fQ l f0).bind fun f1=>some (decide (f1.jX<10))else some false:aB (Bool))).bind fun f2=>some f2:aB (Bool))).bind fun f4=>some f4 else some false:aB (Bool))).bind fun f5=>if f5 then some l else(iU1 l x1 14).bind fun m=>((if decide ((m.length:Int)>0)then((if false then some true else((if true then(gM m 0).bind fun f6=>(fQ m f6).bind fun f7=>some (decide (f7.jX<10))else some false:aB (Bool))).bind fun f8=>some f8:aB (Bool))).bind fun f9=>some f9 else some false:aB (Bool))).bind fun g1=>if g1 then some m else(iY1 m x1 15).bind fun n=>((if decide ((n.length:Int)>0)then((if false then some true else((if true then(gM n 0).bind fun g3=>(fQ n g3).bind fun g4=>some (decide (g4.jX<10))else some false:aB (Bool))).bind fun g5=>some g5:aB (Bool))).bind fun g6=>some g6 else some false:aB (Bool))).bind fun g7=>if g7 then some n else(jA1 n x1 16).bind fun o=>((if decide ((o.length:Int)>0)then((if false then some true else((if true then(gM o 0).bind fun g8=>(fQ o g8).bind fun g9=>some (decide (g9.jX<10))else some false:aB (Bool))).bind fun x100=>some x100:aB (Bool))).bind fun p=>some p else some false:aB (Bool))).bind fun q=>if q then some o else(jC1 o x1 17).bind fun r=>some r
def qS2 (x1:Y0):OD k (d+25) 54 [cX x1]=(F54 x1).map (fun y0=>Hk y0):=oe rfl<|by
 refine bz (dV YV.g ([]:aA YV)) ?_;refine bo (e:=id) ?_ fun x6=>?_;refine io ?_ rfl;refine bo (e:=id) ?_ fun x5=>?_;refine io rfl ?_;refine bo (e:=id) ?_ fun x4=>?_;refine io ?_ rfl;refine bo (bZ YV.g ([]:aA YV) _) fun x2=>?_;refine bo (cW (A:=YV) (c:=YV.g) (g:=fun P=>i64 P.jX) (fun _=>rfl) ([]:aA YV) _) fun P=>?_;rfl;rfl;rfl;refine io rfl ?_;refine bo (bX2 (d+19) [] x1 1) fun L=>?_;refine bz (dV YV.g L) ?_;refine bo (e:=id) ?_ fun T=>?_;refine io ?_ rfl;refine bo (e:=id) ?_ fun x11=>?_;refine io rfl ?_;refine bo (e:=id) ?_ fun S=>?_;refine io ?_ rfl;refine bo (bZ YV.g L _) fun x8=>?_;refine bo (cW (A:=YV) (c:=YV.g) (g:=fun R=>i64 R.jX) (fun _=>rfl) L _) fun R=>?_;rfl;rfl;rfl;refine io rfl ?_;refine bo (cB2 (d+20) L x1 2) fun a=>?_;refine bz (dV YV.g a) ?_;refine bo (e:=id) ?_ fun X=>?_;refine io ?_ rfl;refine bo (e:=id) ?_ fun W=>?_;refine io rfl ?_;refine bo (e:=id) ?_ fun V=>?_;refine io ?_ rfl;refine bo (bZ YV.g a _) fun U=>?_;refine bo (cW (A:=YV) (c:=YV.g) (g:=fun u=>i64 u.jX) (fun _=>rfl) a _) fun u=>?_;rfl;rfl;rfl;refine io rfl ?_;refine bo (cD2 (d+21) a x1 3) fun b=>?_;refine bz (dV YV.g b) ?_;refine bo (e:=id) ?_ fun b0=>?_;refine io ?_ rfl;refine bo (e:=id) ?_ fun a0=>?_;refine io rfl ?_;refine bo (e:=id) ?_ fun Z=>?_;refine io ?_ rfl;refine bo (bZ YV.g b _) fun Y=>?_;refine bo (cW (A:=YV) (c:=YV.g) (g:=fun v=>i64 v.jX) (fun _=>rfl) b _) fun v=>?_;rfl;rfl;rfl;refine io rfl ?_;refine bo (cM2 (d+17) b x1 4) fun f=>?_;refine bz (dV YV.g f) ?_;refine bo (e:=id) ?_ fun b7=>?_;refine io ?_ rfl;refine bo (e:=id) ?_ fun b6=>?_;refine io rfl ?_;refine bo (e:=id) ?_ fun b5=>?_;refine io ?_ rfl;refine bo (bZ YV.g f _) fun b4=>?_;refine bo (cW (A:=YV) (c:=YV.g) (g:=fun w=>i64 w.jX) (fun _=>rfl) f _) fun w=>?_;rfl;rfl;rfl;refine io rfl ?_;refine bo (cQ2 (d+17) f x1 5) fun h=>?_;refine bz (dV YV.g h) ?_;refine bo (e:=id) ?_ fun d2=>?_;refine io ?_ rfl;refine bo (e:=id) ?_ fun d0=>?_;refine io rfl ?_;refine bo (e:=id) ?_ fun b9=>?_;refine io ?_ rfl;refine bo (bZ YV.g h _) fun b8=>?_;refine bo (cW (A:=YV) (c:=YV.g) (g:=fun x=>i64 x.jX) (fun _=>rfl) h _) fun x=>?_;rfl;rfl;rfl;refine io rfl ?_;refine bo (eC2 d h x1 6) fun i=>?_;refine bz (dV YV.g i) ?_;refine bo (e:=id) ?_ fun d6=>?_;refine io ?_ rfl;refine bo (e:=id) ?_ fun d5=>?_;refine io rfl ?_;refine bo (e:=id) ?_ fun d4=>?_;refine io ?_ rfl;refine bo (bZ YV.g i _) fun d3=>?_;refine bo (cW (A:=YV) (c:=YV.g) (g:=fun y=>i64 y.jX) (fun _=>rfl) i _) fun y=>?_;rfl;rfl;rfl;refine io rfl ?_;refine bo (eE2 d i x1 7) fun j=>?_;refine bz (dV YV.g j) ?_;refine bo (e:=id) ?_ fun e0=>?_;refine io ?_ rfl;refine bo (e:=id) ?_ fun d9=>?_;refine io rfl ?_;refine bo (e:=id) ?_ fun d8=>?_;refine io ?_ rfl;refine bo (bZ YV.g j _) fun d7=>?_;refine bo (cW (A:=YV) (c:=YV.g) (g:=fun z=>i64 z.jX) (fun _=>rfl) j _) fun z=>?_;rfl;rfl;rfl;refine io rfl ?_;refine bo (eG2 (d+13) j x1 8) fun l=>?_;refine bz (dV YV.g l) ?_;refine bo (e:=id) ?_ fun e5=>?_;refine io ?_ rfl;refine bo (e:=id) ?_ fun e4=>?_;refine io rfl ?_;refine bo (e:=id) ?_ fun e3=>?_;refine io ?_ rfl;refine bo (bZ YV.g l _) fun e1=>?_;refine bo (cW (A:=YV) (c:=YV.g) (g:=fun B=>i64 B.jX) (fun _=>rfl) l _) fun B=>?_;rfl;rfl;rfl;refine io rfl ?_;refine bo (eO2 (d+13) l x1 9) fun m=>?_;refine bz (dV YV.g m) ?_;refine bo (e:=id) ?_ fun e9=>?_;refine io ?_ rfl;refine bo (e:=id) ?_ fun e8=>?_;refine io rfl ?_;refine bo (e:=id) ?_ fun e7=>?_;refine io ?_ rfl;refine bo (bZ YV.g m _) fun e6=>?_;refine bo (cW (A:=YV) (c:=YV.g) (g:=fun C=>i64 C.jX) (fun _=>rfl) m _) fun C=>?_;rfl;rfl;rfl;refine io rfl ?_;refine bo (eU2 (d+17) m x1 10) fun n=>?_;refine bz (dV YV.g n) ?_;refine bo (e:=id) ?_ fun f4=>?_;refine io ?_ rfl;refine bo (e:=id) ?_ fun f2=>?_;refine io rfl ?_;refine bo (e:=id) ?_ fun f1=>?_;refine io ?_ rfl;refine bo (bZ YV.g n _) fun f0=>?_;refine bo (cW (A:=YV) (c:=YV.g) (g:=fun D=>i64 D.jX) (fun _=>rfl) n _) fun D=>?_;rfl;rfl;rfl;refine io rfl ?_;refine bo (eX2 (d+21) n x1 11) fun o=>?_;refine bz (dV YV.g o) ?_;refine bo (e:=id) ?_ fun f8=>?_;refine io ?_ rfl;refine bo (e:=id) ?_ fun f7=>?_;refine io rfl ?_;refine bo (e:=id) ?_ fun f6=>?_;refine io ?_ rfl;refine bo (bZ YV.g o _) fun f5=>?_;refine bo (cW (A:=YV) (c:=YV.g) (g:=fun E=>i64 E.jX) (fun _=>rfl) o _) fun E=>?_;rfl;rfl;rfl;refine io rfl ?_;refine bo (fD2 (d+7) o x1 12) fun p=>?_;refine bz (dV YV.g p) ?_;refine bo (e:=id) ?_ fun g4=>?_;refine io ?_ rfl;refine bo (e:=id) ?_ fun g3=>?_;refine io rfl ?_;refine bo (e:=id) ?_ fun g1=>?_;refine io ?_ rfl;refine bo (bZ YV.g p _) fun f9=>?_;refine bo (cW (A:=YV) (c:=YV.g) (g:=fun F=>i64 F.jX) (fun _=>rfl) p _) fun F=>?_;rfl;rfl;rfl;refine io rfl ?_;refine bo (fI2 (d+7) p x1 13) fun q=>?_;refine bz (dV YV.g q) ?_;refine bo (e:=id) ?_ fun g8=>?_;refine io ?_ rfl;refine bo (e:=id) ?_ fun g7=>?_;refine io rfl ?_;refine bo (e:=id) ?_ fun g6=>?_;refine io ?_ rfl;refine bo (bZ YV.g q _) fun g5=>?_;refine bo (cW (A:=YV) (c:=YV.g) (g:=fun G=>i64 G.jX) (fun _=>rfl) q _) fun G=>?_;rfl;rfl;rfl;refine io rfl ?_;refine bo (fN2 (d+19) q x1 14) fun r=>?_;refine bz (dV YV.g r) ?_;refine bo (e:=id) ?_ fun h3=>?_;refine io ?_ rfl;refine bo (e:=id) ?_ fun h2=>?_;refine io rfl ?_;refine bo (e:=id) ?_ fun h0=>?_;refine io ?_ rfl;refine bo (bZ YV.g r _) fun g9=>?_;refine bo (cW (A:=YV) (c:=YV.g) (g:=fun H=>i64 H.jX) (fun _=>rfl) r _) fun H=>?_;rfl;rfl;rfl;refine io rfl ?_;refine bo (fU2 (d+16) r x1 15) fun s=>?_;refine bz (dV YV.g s) ?_;refine bo (e:=id) ?_ fun h7=>?_;refine io ?_ rfl;refine bo (e:=id) ?_ fun h6=>?_;refine io rfl ?_;refine bo (e:=id) ?_ fun h5=>?_;refine io ?_ rfl;refine bo (bZ YV.g s _) fun h4=>?_;refine bo (cW (A:=YV) (c:=YV.g) (g:=fun J=>i64 J.jX) (fun _=>rfl) s _) fun J=>?_;rfl;rfl;rfl;refine io rfl ?_;refine bo (fW2 (d+17) s x1 16) fun t=>?_;refine bz (dV YV.g t) ?_;refine bo (e:=id) ?_ fun N=>?_;refine io ?_ rfl;refine bo (e:=id) ?_ fun M=>?_;refine io rfl ?_;refine bo (e:=id) ?_ fun x100=>?_;refine io ?_ rfl;refine bo (bZ YV.g t _) fun h8=>?_;refine bo (cW (A:=YV) (c:=YV.g) (g:=fun K=>i64 K.jX) (fun _=>rfl) t _) fun K=>?_;rfl;rfl;rfl;refine io rfl ?_;refine bo (fY2 (d+17) t x1 17) fun O=>?_;rfl
end Go.P
namespace Go.P
open Go.Sim (Ex gC CK)
open K (I Q rq nq xq ck)
variable {k:Bool} (d:Nat)
def Ho (x1:Y0):aB Bool:=
 (F54 x1).bind fun x2=>some ((x2.length:Int)==0)
def qV1 (x1:Y0):OD k (d+26) 19 [cX x1]=(Ho x1).map bv:=oe rfl<|by
 refine bo (qS2 d x1) fun x2=>?_;refine bz lm ?_;rfl
def F52 (x1:YO):aB Bool:=
 (bC (E:=Unit⊕Unit) (fun(e:Int)=>dT x1.aT e (fun b=>if((decide ((b.cA.length:Int)>12))||(decide ((b.dX.length:Int)>12)))||(decide ((b.dA.length:Int)>12))then some (.inr (.inl ()))else(bC (E:=Unit⊕Unit) (fun(a:Int)=>dT b.dA a (fun x11=>if decide ((x11.qB.size:Int)>300)then some (.inr (.inl ()))else some (.inl (bK (a+1)))) (some (.inr (.inr ())))) bS 0).bind fun c=>(match c with|.inl _=>some (.inr (.inl ()))|.inr _=>some (.inl (bK (e+1))))) (some (.inr (.inr ())))) bS 0).bind fun d=>(match d with|.inl _=>some false|.inr _=>some ((decide ((x1.aT.length:Int)<=20))&&(decide ((x1.dQ.length:Int)<=6))))
def qT2 (x1:YO):OD k (d+1) 52 [iB x1]=(F52 x1).map bv:=oe rfl<|by
 refine bo (aN (S:=Int) (enc:=fun b=>(Q [bE 1 0,aU 3 b] [cK 0 x1])) (encE:=(fun|.inl _=>(rq [bE 1 0,(2,bv false)] [cK 0 x1])|.inr _=>(xq 0 [bE 1 0] [cK 0 x1]))) (fun b=>?_) bS 0) fun e=>?_;refine bz lm ?_;refine ig fun f=>?_;refine bz lm ?_;refine bz (gB (bz lm rfl)) ?_;refine bz (gB (bz lm rfl)) ?_;refine io rfl ?_;refine bo (aN (S:=Int) (enc:=fun a=>(Q [bE 1 0,aU 3 b,bE 4 1,aU 5 a] [eG 1 f,cK 0 x1])) (encE:=(fun|.inl _=>(rq [bE 1 0,(2,bv false),aU 3 b] [eG 1 f,cK 0 x1])|.inr _=>(xq 2 [bE 1 0,aU 3 b] [eG 1 f,cK 0 x1]))) (fun a=>?_) bS 0) fun c=>?_;refine bz lm ?_;refine ig fun x11=>?_;refine io rfl rfl;rcases c with _|_;rfl;rfl;rcases e with _|_;rfl;refine bz lm ?_;refine bz (iK (bz lm rfl)) ?_;rfl
def F53 (x1:YO):aB Int:=
 (bC (E:=Int) (fun(⟨x11,a⟩:Int×Int)=>if decide (a<(x1.aT.length:Int))then(bC (E:=Int) (fun(⟨c,b⟩:Int×Int)=>(bM x1.aT a).bind fun d=>if decide (b<(d.dA.length:Int))then(bM x1.aT a).bind fun e=>(bM e.dA b).bind fun f=>some (.inl ((bK (c+(f.qB.size:Int))),(bK (b+1))))else some (.inr c)) bS (x11,0)).bind fun g=>some (.inl (g,(bK (a+1))))else some (.inr x11)) bS (0,0)).bind fun h=>some h
def qU2 (x1:YO):OD k (d+1) 53 [iB x1]=(F53 x1).map i64:=oe rfl<|by
 refine bo (aN (S:=Int×Int) (enc:=fun⟨x11,a⟩=>(Q [bE 1 0,aU 3 x11,aU 4 a] [cK 0 x1])) (encE:=(fun(f:Int)=>(xq 0 [aU 3 f] [cK 0 x1]))) (fun⟨x11,a⟩=>?_) bS (0,0)) fun f=>?_;refine bz lm ?_;refine io ?_ rfl;refine bo (aN (S:=Int×Int) (enc:=fun⟨b,c⟩=>(Q [bE 1 0,aU 3 b,aU 4 a,aU 5 c] [cK 0 x1])) (encE:=(fun(e:Int)=>(xq 2 [bE 1 0,aU 3 e,aU 4 a] [cK 0 x1]))) (fun⟨b,c⟩=>?_) bS (x11,0)) fun e=>?_;refine bo rg fun g=>?_;refine bz lm ?_;refine ig fun h=>?_;refine bo rg fun i=>?_;rfl;rfl;rfl
def F18 (x1:Y0):aB Bool:=
 (bC (E:=Unit⊕Unit) (fun(x:Int)=>dT x1.bG x (fun A=>((if decide ((A.bN.length:Int)>5)then some true else(bM x1.bG x).bind fun B=>some (decide ((B.Br.size:Int)>300)):aB (Bool))).bind fun C=>if C then some (.inr (.inl ()))else some (.inl (bK (x+1)))) (some (.inr (.inr ())))) bS 0).bind fun D=>(match D with|.inl _=>some false|.inr _=>(bC (E:=Unit⊕Unit) (fun(⟨y,z,w⟩:Int×Int×Int)=>dT x1.aD w (fun b=>if((decide ((b.aQ.length:Int)>5))||(decide ((b.nN.length:Int)>5)))||(decide ((b.jQ.size:Int)>300))then some (.inr (.inl ()))else(bC (E:=(Int×Int)⊕(Int×Int)) (fun(⟨f,g,a⟩:Int×Int×Int)=>dT b.aQ a (fun j=>((if decide ((j.nC.length:Int)>5)then some true else(bM b.aQ a).bind fun k=>some (decide ((k.aM.length:Int)>3)):aB (Bool))).bind fun l=>if l then some (.inr (.inl (f,g)))else(bC (E:=(Int×Int)⊕(Int×Int)) (fun(⟨c,d,e⟩:Int×Int×Int)=>(bM b.aQ a).bind fun m=>if decide (e<(m.aM.length:Int))then(bM b.aQ a).bind fun n=>(bM n.aM e).bind fun o=>(F52 o).bind fun p=>if !p then some (.inr (.inl (c,d)))else(bM b.aQ a).bind fun q=>(bM q.aM e).bind fun h=>(bM b.aQ a).bind fun r=>(bM r.aM e).bind fun s=>(F53 s).bind fun i=>if(decide ((bK (c+(h.aT.length:Int)))>400))||(decide ((bK (d+i))>20000))then some (.inr (.inl ((bK (c+(h.aT.length:Int))),(bK (d+i)))))else some (.inl ((bK (c+(h.aT.length:Int))),(bK (d+i)),(bK (e+1))))else some (.inr (.inr (c,d)))) bS (f,g,0)).bind fun t=>(match t with|.inl ⟨x137,x138⟩=>some (.inr (.inl (x137,x138)))|.inr ⟨x139,x140⟩=>some (.inl (x139,x140,(bK (a+1)))))) (some (.inr (.inr (f,g))))) bS (y,z,0)).bind fun u=>(match u with|.inl ⟨x142,x143⟩=>some (.inr (.inl ()))|.inr ⟨x144,x145⟩=>some (.inl (x144,x145,(bK (w+1)))))) (some (.inr (.inr ())))) bS (0,0,0)).bind fun v=>(match v with|.inl _=>some false|.inr _=>some (((((decide ((x1.bG.length:Int)<=4))&&(decide ((x1.aD.length:Int)<=10)))&&(decide ((x1.cJ.length:Int)<=10)))&&(decide ((x1.nX.length:Int)<=5)))&&(decide ((x1.qW.size:Int)<=300)))))
def qV2 (x1:Y0):OD k (d+2) 18 [cX x1]=(F18 x1).map bv:=oe rfl<|by
 refine bo (aN (S:=Int) (enc:=fun G=>(Q [bE 1 0,aU 3 0,aU 4 0,aU 5 G] [aG 0 x1])) (encE:=(fun|.inl _=>(rq [bE 1 0,(2,bv false),aU 3 0,aU 4 0] [aG 0 x1])|.inr _=>(xq 0 [bE 1 0,aU 3 0,aU 4 0] [aG 0 x1]))) (fun G=>?_) bS 0) fun H=>?_;refine bz lm ?_;refine ig fun J=>?_;refine bz lm ?_;refine bo (e:=id) ?_ fun L=>?_;refine io rfl ?_;refine bo rg fun K=>?_;rfl;refine io rfl rfl;rcases H with _|_;rfl;refine bo (aN (S:=Int×Int×Int) (enc:=fun⟨p,q,b⟩=>(Q [bE 1 0,aU 3 p,aU 4 q,aU 6 b] [aG 0 x1])) (encE:=(fun|.inl _=>(rq [bE 1 0,(2,bv false)] [aG 0 x1])|.inr _=>(xq 2 [bE 1 0] [aG 0 x1]))) (fun⟨p,q,b⟩=>?_) bS (0,0,0)) fun v=>?_;refine bz lm ?_;refine ig fun c=>?_;refine bz lm ?_;refine bz (gB (bz lm rfl)) ?_;refine bz (gB rfl) ?_;refine io rfl ?_;refine bo (aN (S:=Int×Int×Int) (enc:=fun⟨f,g,a⟩=>(Q [bE 1 0,aU 3 f,aU 4 g,aU 6 b,bE 7 1,aU 8 a] [aW 1 c,aG 0 x1])) (encE:=(fun|.inl ⟨n,o⟩=>(rq [bE 1 0,(2,bv false),aU 3 n,aU 4 o,aU 6 b] [aW 1 c,aG 0 x1])|.inr ⟨x144,x145⟩=>(xq 4 [bE 1 0,aU 3 x144,aU 4 x145,aU 6 b] [aW 1 c,aG 0 x1]))) (fun⟨f,g,a⟩=>?_) bS (p,q,0)) fun u=>?_;refine bz lm ?_;refine ig fun w=>?_;refine bz lm ?_;refine bo (e:=id) ?_ fun y=>?_;refine io rfl ?_;refine bo rg fun x=>?_;refine bz lm ?_;rfl;refine io rfl ?_;refine bo (aN (S:=Int×Int×Int) (enc:=fun⟨h,i,j⟩=>(Q [bE 1 0,aU 3 h,aU 4 i,aU 6 b,bE 7 1,aU 8 a,aU 9 j] [aW 1 c,aG 0 x1])) (encE:=(fun|.inl ⟨l,m⟩=>(rq [bE 1 0,(2,bv false),aU 3 l,aU 4 m,aU 6 b,bE 7 1,aU 8 a] [aW 1 c,aG 0 x1])|.inr ⟨x139,x140⟩=>(xq 6 [bE 1 0,aU 3 x139,aU 4 x140,aU 6 b,bE 7 1,aU 8 a] [aW 1 c,aG 0 x1]))) (fun⟨h,i,j⟩=>?_) bS (f,g,0)) fun t=>?_;refine bo rg fun z=>?_;refine bz lm ?_;refine ig fun A=>?_;refine bo rg fun r=>?_;refine bo (qT2 d r) fun B=>?_;refine io rfl ?_;refine bo rg fun C=>?_;refine bo rg fun D=>?_;refine bz lm ?_;refine bo rg fun E=>?_;refine bo rg fun s=>?_;refine bo (qU2 d s) fun F=>?_;refine bz (gB rfl) ?_;refine io rfl rfl;rcases t with⟨l,m⟩|⟨x139,x140⟩
 rfl;rfl;rcases u with⟨n,o⟩|⟨x144,x145⟩
 rfl;rfl;rcases v with _|_;rfl;refine bz lm ?_;refine bz (iK (bz lm rfl)) ?_;refine bz (iK (bz lm rfl)) ?_;refine bz (iK (bz lm rfl)) ?_;refine bz (iK rfl) ?_;rfl
def F6 (x1:Y0):aB Bool:=
 (F18 x1).bind fun x2=>((if x2 then(Ho x1).bind fun a=>some a else some false:aB (Bool))).bind fun b=>some b
def ok6 (x1:Y0):OD k (d+27) 6 [cX x1]=(F6 x1).map bv:=oe rfl<|by
 refine bo (qV2 (d+24) x1) fun x2=>?_;refine bo (e:=id) ?_ fun b=>?_;refine io ?_ rfl;refine bo (qV1 d x1) fun a=>?_;rfl;rfl
def F20 (x1:Y0) (x2:Int):aB Int:=
 (Ho x1).bind fun a=>if !a then some 24 else if(decide (x2<0))||(decide (x2>=(x1.bG.length:Int)))then some 2 else some 0
def qW2 (x1:Y0) (x2:Int):OD k (d+27) 20 [cX x1,i64 x2]=(F20 x1 x2).map i64:=oe rfl<|by
 refine bo (qV1 d x1) fun a=>?_;refine io rfl ?_;refine bz (gB (bz lm rfl)) ?_;refine io rfl rfl
def F21 (x1:dW):aB Int:=
 if(((decide (x1.bR1<1))||(decide (x1.bR1>1000)))||(decide (x1.iX<1)))||(decide (x1.iX>8))then some 2 else some 0
def qX2 (x1:dW):OD k (d+1) 21 [nU x1]=(F21 x1).map i64:=oe rfl<|by
 refine bz (gB rfl) ?_;refine bz (gB rfl) ?_;refine bz (gB rfl) ?_;refine io rfl rfl
def Xj (x1:ByteArray) (x2:Bool) (c:aA YJ):aB Int:=
 (bC (E:=Int) (fun(⟨a,b⟩:Int×Int)=>dT c b (fun d=>some (.inl ((bK (a+(d.bN.length:Int))),(bK (b+1))))) (some (.inr a))) bS (0,0)).bind fun e=>some e
def xK1 (x1:ByteArray) (x2:Bool) (a:aA YJ):OD k (d+1) 32 [.agg [.v (.string x1),bv x2,yF a,.v (.slice none 0 0),.v (.slice none 0 0),.v (.slice none 0 0)]]=(Xj x1 x2 a).map i64:=oe rfl<|by
 refine bz lm ?_;refine bo (aN (S:=Int×Int) (enc:=fun⟨b,c⟩=>(Q [aU 3 b,kN 7 a,cQ 8 a,aU 9 c] [(0,.box [.v (.string x1),bv x2,yF a,.v (.slice none 0 0),.v (.slice none 0 0),.v (.slice none 0 0)])])) (encE:=(fun(e:Int)=>(xq 0 [aU 3 e] [(0,.box [.v (.string x1),bv x2,yF a,.v (.slice none 0 0),.v (.slice none 0 0),.v (.slice none 0 0)])]))) (fun⟨b,c⟩=>?_) bS (0,0)) fun e=>?_;refine ig fun f=>?_;refine bz lm ?_;rfl;rfl
def Rj (x1:Y0) (x2:Int):aB (Int×Int):=
 if(decide (x2<0))||(decide (x2>=(x1.bG.length:Int)))then some (0,2)else(nG x1.bG 0 x2).bind fun a=>(Xj (⟨#[]⟩:ByteArray) false a).bind fun b=>some (b,0)
def qW1 (x1:Y0) (x2:Int):OD k (d+2) 57 [cX x1,i64 x2]=(Rj x1 x2).map (fun⟨b,c⟩=>.tup [i64 b,i64 c]):=oe rfl<|by
 refine bz (gB (bz lm rfl)) ?_;refine io rfl ?_;refine bo (rR _ _ _ _) fun a=>?_;refine bo (xK1 d (⟨#[]⟩:ByteArray) false a) fun e=>?_;rfl
def F95 (x1:YE):aB Bool:=
 some ((x1.cE==1)&&(decide ((x1.cA.length:Int)>0)))
def qZ2 (x1:YE):OD k (d+1) 95 [eI x1]=(F95 x1).map bv:=oe rfl<|by
 refine bz (iK (bz lm rfl)) ?_;rfl
def Uk (x1:aA YE):aB Int:=
 (bC (E:=Int⊕Unit) (fun(a:Int)=>dT x1 a (fun b=>(F95 b).bind fun c=>if c then some (.inr (.inl a))else some (.inl (bK (a+1)))) (some (.inr (.inr ())))) bS 0).bind fun d=>(match d with|.inl x7=>some x7|.inr _=>some (-1))
def qX1 (x1:aA YE):OD k (d+2) 148 [mR x1,.fn 95 [] []]=(Uk x1).map i64:=oe rfl<|by
 refine bz lm ?_;refine bo (aN (S:=Int) (enc:=fun a=>(Q [eT 0 x1,(1,.fn 95 [] []),cQ 7 x1,aU 8 a] [])) (encE:=Ri 4) (fun a=>?_) bS 0) fun c=>?_;refine ig fun b=>?_;refine bo (qZ2 d b) fun e=>?_;refine io rfl rfl;rcases c with f|_;rfl;rfl
def jD1 (x1:aA YE):aB Bool:=
 (Uk x1).bind fun x2=>some (decide (x2>=0))
def xL1 (x1:aA YE):OD k (d+3) 94 [mR x1,.fn 95 [] []]=(jD1 x1).map bv:=oe rfl<|by
 refine bo (qX1 d x1) fun x2=>?_;rfl
def F93 (x1:YO):aB Bool:=
 (jD1 x1.aT).bind fun x2=>some x2
def rA2 (x1:YO):OD k (d+4) 93 [iB x1]=(F93 x1).map bv:=oe rfl<|by
 refine bo (xL1 d x1.aT) fun x2=>?_;rfl
def Ul (x1:aA YO):aB Int:=
 (bC (E:=Int⊕Unit) (fun(a:Int)=>dT x1 a (fun b=>(F93 b).bind fun c=>if c then some (.inr (.inl a))else some (.inl (bK (a+1)))) (some (.inr (.inr ())))) bS 0).bind fun d=>(match d with|.inl x7=>some x7|.inr _=>some (-1))
def qY1 (x1:aA YO):OD k (d+5) 147 [kK x1,.fn 93 [] []]=(Ul x1).map i64:=oe rfl<|by
 refine bz lm ?_;refine bo (aN (S:=Int) (enc:=fun a=>(Q [cS 0 x1,(1,.fn 93 [] []),cQ 7 x1,aU 8 a] [])) (encE:=Ri 4) (fun a=>?_) bS 0) fun c=>?_;refine ig fun b=>?_;refine bo (rA2 d b) fun e=>?_;refine io rfl rfl;rcases c with f|_;rfl;rfl
def jE1 (x1:aA YO):aB Bool:=
 (Ul x1).bind fun x2=>some (decide (x2>=0))
def xM1 (x1:aA YO):OD k (d+6) 92 [kK x1,.fn 93 [] []]=(jE1 x1).map bv:=oe rfl<|by
 refine bo (qY1 d x1) fun x2=>?_;rfl
def F58 (x1:YM) (x2:Int):aB Bool:=
 if(decide (x2<0))||(decide (x2>=(x1.aQ.length:Int)))then some true else(bM x1.aQ x2).bind fun a=>(jE1 a.aM).bind fun b=>some (!b)
def gA2 (x1:YM) (x2:Int):OD k (d+7) 58 [eW x1,i64 x2]=(F58 x1 x2).map bv:=oe rfl<|by
 refine bz (gB (bz lm rfl)) ?_;refine io rfl ?_;refine bo rg fun a=>?_;refine bo (xM1 d a.aM) fun b=>?_;rfl
def F26 (x1:Y0) (x2:Int):aB (aA Bool):=
 (Rj x1 x2).bind fun⟨q,u⟩=>(vL (x1.aD.length:Int) (x1.aD.length:Int) false).bind fun t=>(bC (E:=aA Bool) (fun(⟨a,c⟩:Int×(aA Bool))=>dT x1.aD a (fun e=>(gM c a).bind fun f=>(iG c f (fun r=>true)).bind fun g=>(bM x1.bG x2).bind fun h=>(bC (E:=aA Bool) (fun(⟨d,b⟩:Int×(aA Bool))=>if decide (d<(h.bN.length:Int))then(gM b a).bind fun i=>(fQ b i).bind fun j=>((if j then(F58 e (bK (q+d))).bind fun k=>some k else some false:aB (Bool))).bind fun l=>(gM b a).bind fun m=>(iG b m (fun s=>l)).bind fun n=>some (.inl ((bK (d+1)),n))else some (.inr b)) bS (0,g)).bind fun o=>some (.inl ((bK (a+1)),o))) (some (.inr c))) bS (0,t)).bind fun p=>some p
def rB2 (x1:Y0) (x2:Int):OD k (d+8) 26 [cX x1,i64 x2]=(F26 x1 x2).map (fun C=>Bf C):=oe rfl<|by
 refine bo (qW1 (d+5) x1 x2) fun⟨p,D⟩=>?_;refine bz lm ?_;refine bo (mB cB _ _ false) fun z=>?_;refine bz lm ?_;refine bo (aN (S:=Int×(aA Bool)) (enc:=fun⟨b,h⟩=>(Q [aU 1 x2,bE 2 0,aU 5 p,(7,.own 1),bB 22 x1.aD,cQ 23 x1.aD,aU 24 b] [(1,.lst 4 1 true (I cB h)),aG 0 x1])) (encE:=(fun(o:aA Bool)=>(xq 0 [(7,.own 1)] [(1,.lst 4 1 true (I cB o)),aG 0 x1]))) (fun⟨b,h⟩=>?_) bS (0,z)) fun o=>?_;refine ig fun i=>?_;refine bo (bZ cB h _) fun t=>?_;refine bo (dO (A:=Bool) (c:=cB) (m:=1) (f:=fun u=>true) (fun _=>⟨rfl,rfl⟩) (aI3 rfl) h _) fun q=>?_;refine bo rg fun r=>?_;refine bz lm ?_;refine bo (aN (S:=Int×(aA Bool)) (enc:=fun⟨j,a⟩=>(Q [aU 1 x2,bE 2 0,aU 5 p,(7,.own 1),aU 8 b,bE 9 2,bB 22 x1.aD,cQ 23 x1.aD,aU 24 b,cQ 38 r.bN,aU 39 j] [aW 2 i,(1,.lst 4 1 true (I cB a)),aG 0 x1])) (encE:=(fun(n:aA Bool)=>(xq 2 [aU 1 x2,bE 2 0,aU 5 p,(7,.own 1),bB 22 x1.aD,cQ 23 x1.aD,aU 24 b] [aW 2 i,(1,.lst 4 1 true (I cB n)),aG 0 x1]))) (fun⟨j,a⟩=>?_) bS (0,q)) fun n=>?_;refine io ?_ rfl;refine bo (bZ cB a _) fun v=>?_;refine bo (cW (A:=Bool) (c:=cB) (g:=fun l=>bv l) (fun _=>rfl) a _) fun l=>?_;refine bo (e:=id) ?_ fun s=>?_;refine io ?_ rfl;refine bo (gA2 d i (bK (p+j))) fun w=>?_;rfl;refine bo (bZ cB a _) fun x=>?_;refine bo (dO (A:=Bool) (c:=cB) (m:=1) (f:=fun y=>s) (fun _=>⟨rfl,rfl⟩) (aI3 rfl) a _) fun B=>?_;rfl;rfl;rfl
def xO1 (x1:aA Bool) (x2:dW):aB Unit:=
 some ()
def gB2 (x1:aA Bool) (x2:dW):gA (XD k (d+1)) 25 [Bf x1,nU x2] [] 6 true=(xO1 x1 x2).map (fun(_:Unit)=>((.fn 56 [] [.ref 6 0,.ref 7 0],[cM 7 x2,(6,.box [Bf x1])],8))):=by
 rw[xd (fn:=p25) rfl];rfl
def xP1 (x1:Y0) (x2 a b:Int):aB Unit:=
 some ()
def gC2 (x1:Y0) (x2 a b:Int):gA (XD k (d+1)) 27 [cX x1,i64 x2,i64 a,i64 b] [] 11 true=(xP1 x1 x2 a b).map (fun(_:Unit)=>((.fn 59 [] [.ref 11 0,.ref 12 0,.ref 13 0,.ref 14 0],[(14,.box [i64 b]),(13,.box [i64 a]),(12,.box [i64 x2]),aG 11 x1],15))):=by
 rw[xd (fn:=p27) rfl];rfl
def F60 (x1:Y0) (x2:aV):aB Bool:=
 if((((((decide (x2.nI<0))||(decide (x2.nI>=(x1.bG.length:Int))))||(decide (x2.fW<0)))||(decide (x2.fW>=x2.mH)))||(decide (x2.mH>(x1.aD.length:Int))))||(decide (x2.dB<0)))||(decide (x2.dB>=2))then some false else(F62 x1 x2.cZ).bind fun⟨a,c,b⟩=>some ((b==0)&&(a !=x2.nI))
def gD2 (x1:Y0) (x2:aV):OD k (d+2) 60 [cX x1,jJ x2]=(F60 x1 x2).map bv:=oe rfl<|by
 refine bz (gB (bz lm rfl)) ?_;refine bz (gB rfl) ?_;refine bz (gB rfl) ?_;refine bz (gB (bz lm rfl)) ?_;refine bz (gB rfl) ?_;refine bz (gB rfl) ?_;refine io rfl ?_;refine bo (hT1 d x1 x2.cZ) fun⟨a,b,c⟩=>?_;refine bz (iK rfl) ?_;rfl
def jG1 (x1:YL) (x2:aA YL):aB (YL×Int×(aA YL)):=
 (iZ false x2 [x1]).bind fun b=>(bC (E:=Int⊕Unit) (fun(d:Int)=>if decide (d<(b.length:Int))then(gM b d).bind fun e=>(fQ b e).bind fun f=>(Hl f).bind fun a=>if a !=0 then some (.inr (.inl a))else some (.inl (bK (d+1)))else some (.inr (.inr ()))) bS 0).bind fun c=>(match c with|.inl x11=>some ((YL.mk 0 0),x11,b)|.inr _=>some (x1,0,b))
def xQ1 (x1:YL) (x2:aA YL):gA (XD k (d+2)) 149 [hU x1,.own 3] [(3,.lst 106 2 false (I YL.g x2))] 4 false=(jG1 x1 x2).map (fun(⟨f,h,i⟩:YL×Int×(aA YL))=>((.tup [hU f,i64 h],[(3,.lst 106 2 false (I YL.g i))],0))):=by
 rw[xd (fn:=bK2) rfl];refine bo (cN false YL.g x2 [x1]) fun a=>?_;refine bz (dV YL.g a) ?_;refine bo (aN (S:=Int) (enc:=fun j=>(Q [bE 2 4,bE 4 5,(12,.own 3),cQ 13 a,aU 14 j] [(6,.lst 106 2 false (I YL.g [x1])),(5,.box [i64 0,i64 0]),aR 4 x1,(3,.lst 106 2 false (I YL.g a))])) (encE:=(fun|.inl x11=>(rq [bE 2 4,bE 4 5,aU 5 x11] [(6,.lst 106 2 false (I YL.g [x1])),(5,.box [i64 0,i64 0]),aR 4 x1,(3,.lst 106 2 false (I YL.g a))])|.inr _=>(xq 0 [bE 2 4,bE 4 5] [(6,.lst 106 2 false (I YL.g [x1])),(5,.box [i64 0,i64 0]),aR 4 x1,(3,.lst 106 2 false (I YL.g a))]))) (fun j=>?_) bS 0) fun e=>?_;refine io ?_ rfl;refine bo (bZ YL.g a _) fun n=>?_;refine bo (gG (A:=YL) (c:=YL.g) (m:=2) (g:=fun b=>[i64 b.mJ,i64 b.aZ]) (fun _=>⟨rfl,rfl⟩) (aI3 rfl) a _) fun b=>?_;refine bo (gN1 d b) fun l=>?_;refine io rfl rfl;rcases e with x11|_;rfl;rfl
def F96 (x1 x2:YL):aB (YL×Int):=
 (jG1 (YL.mk (bK (x1.mJ-x2.mJ)) (bK (x1.aZ-x2.aZ))) [x1,x2]).bind fun⟨a,b,c⟩=>some (a,b)
def gE2 (x1 x2:YL):OD k (d+3) 96 [hU x1,hU x2]=(F96 x1 x2).map (fun⟨a,b⟩=>.tup [hU a,i64 b]):=oe rfl<|by
 refine bo (xQ1 d (YL.mk (bK (x1.mJ-x2.mJ)) (bK (x1.aZ-x2.aZ))) [x1,x2]) fun⟨c,e,f⟩=>?_;rfl
def Dc (x1:YE):aB ((aA YD)×(aA YY)×(aA YB)):=
 (lF x1.cA).bind fun x2=>(lF x1.dX).bind fun a=>(lF x1.dA).bind fun b=>some (a,b,x2)
def jH1 (x1:YE):gA (XD k (d+2)) 150 [eI x1] [] 12 true=(Dc x1).map (fun(⟨a,b,c⟩:(aA YD)×(aA YY)×(aA YB))=>((.agg [i64 x1.ID.kP,i64 x1.ID.fE,i64 x1.cE,i64 x1.Value.Log,i64 x1.Value.pC,.own 14,kL a,i64 x1.bQ,i64 x1.dM,i64 x1.dU,jI b,i64 x1.kZ,i64 x1.kY],[(14,.lst 135 5 true (I YB.g c))],15))):=by
 rw[xd (fn:=gC1) rfl];refine bo (tQ 202 d 135 5 _ _ 14 rfl rfl rfl (fun _=>rfl)) fun x2=>?_;refine bo (mQ 203 (d+1) 5 _ _ rfl rfl rfl) fun e=>?_;refine bo (mQ 204 (d+1) 2 _ _ rfl rfl rfl) fun f=>?_;rfl
def jI1 (x1:YO):aB ((aA YU)×(aA YE)):=
 (bC (E:=aA YE) (fun(⟨j,b⟩:Int×(aA YE))=>dT x1.aT j (fun x11=>(Dc x11).bind fun⟨c,d,e⟩=>(iG ([(YE.mk x11.ID x11.cE x11.Value [] c x11.bQ x11.dM x11.dU d x11.kZ x11.kY)]) 0 (fun a=>(YE.mk a.ID a.cE a.Value e a.dX a.bQ a.dM a.dU a.dA a.kZ a.kY))).bind fun f=>(iZ true b f).bind fun g=>some (.inl ((bK (j+1)),g))) (some (.inr b))) bS (0,[])).bind fun h=>(iZ false ([]:aA YU) x1.dQ).bind fun i=>some (i,h)
def gF2 (x1:YO):gA (XD k (d+3)) 97 [iB x1] [] 6 true=(jI1 x1).map (fun(⟨n,o⟩:(aA YU)×(aA YE))=>((.agg [.own 9,.own 10],[(10,.lst 285 4 false (I YU.g n)),(9,.tr yV (I YE.g o) [])],11))):=by
 rw[xd (fn:=p97) rfl];refine bz lm ?_;refine bo (aN (S:=Int×(aA YE)) (enc:=fun⟨p,b⟩=>(Q [bE 1 6,bE 2 7,bE 3 8,eT 7 x1.aT,cQ 8 x1.aT,aU 9 p] [(10,.lst 285 4 false (I YU.g [])),(9,.tr yV (I YE.g b) []),(8,.box [.own 9,.own 10]),(7,.box [.v (.slice none 0 0),.v (.slice none 0 0)]),cK 6 x1])) (encE:=(fun(e:aA YE)=>(xq 0 [bE 1 6,bE 2 7,bE 3 8] [(10,.lst 285 4 false (I YU.g [])),(9,.tr yV (I YE.g e) []),(8,.box [.own 9,.own 10]),(7,.box [.v (.slice none 0 0),.v (.slice none 0 0)]),cK 6 x1]))) (fun⟨p,b⟩=>?_) bS (0,[])) fun e=>?_;refine ig fun x11=>?_;refine bo (jH1 d x11) fun⟨h,i,j⟩=>?_;refine bo (dO (A:=YE) (c:=YE.g) (m:=13) (f:=fun a=>(YE.mk a.ID a.cE a.Value j a.dX a.bQ a.dM a.dU a.dA a.kZ a.kY)) (fun _=>⟨rfl,rfl⟩) (aI3 rfl) ([(YE.mk x11.ID x11.cE x11.Value [] h x11.bQ x11.dM x11.dU i x11.kZ x11.kY)]) _) fun l=>?_;refine bo (cN true YE.g b l) fun q=>?_;rfl;refine bo (cN false YU.g ([]:aA YU) x1.dQ) fun r=>?_;rfl
def xS1 (x1:YH):aB (Int×Int):=
 (nH x1).bind fun x2=>if x2 !=0 then some (0,x2)else some ((bK ((bK (7*x1.jB))+x1.nJ)),0)
def gG2 (x1:YH):OD k (d+4) 233 [fJ x1]=(xS1 x1).map (fun⟨a,b⟩=>.tup [i64 a,i64 b]):=oe rfl<|by
 refine bo (hB1 d x1) fun x2=>?_;refine io rfl rfl
def xT1 (x1:YH):aB (Int×Int×Int):=
 (xS1 x1).bind fun⟨x2,a⟩=>if a !=0 then some (0,0,18)else(Ms x1).bind fun⟨b,c⟩=>some (x2,b,c)
def gH2 (x1:YH):OD k (d+5) 205 [fJ x1]=(xT1 x1).map (fun⟨a,b,c⟩=>.tup [i64 a,i64 b,i64 c]):=oe rfl<|by
 refine bo (gG2 d x1) fun⟨x2,e⟩=>?_;refine io rfl ?_;refine bo (Uc d x1) fun⟨f,g⟩=>?_;rfl
def xU1 (x1:YH) (x2:YL):aB (Int×Int×Int):=
 (xT1 x1).bind fun⟨c,d,a⟩=>if a !=0 then some (0,0,a)else(Hl x2).bind fun b=>if b !=0 then some (0,0,b)else some ((bK (c+x2.mJ)),(bK (d+x2.aZ)),0)
def gI2 (x1:YH) (x2:YL):OD k (d+6) 151 [fJ x1,hU x2]=(xU1 x1 x2).map (fun⟨a,b,c⟩=>.tup [i64 a,i64 b,i64 c]):=oe rfl<|by
 refine bo (gH2 d x1) fun⟨e,f,g⟩=>?_;refine io rfl ?_;refine bo (gN1 (d+4) x2) fun h=>?_;refine io rfl rfl
def qZ1 (x1 x2:Int):aB (Int×Int):=
 (Li .i64 x1 x2).bind fun b=>(Lj .i64 x1 x2).bind fun a=>((if decide (a<0)then some ((bK (b-1)),(bK (a+x2)))else some (b,a):aB (Int×Int))).bind fun⟨c,d⟩=>some (c,d)
def gJ2 (x1 x2:Int):OD k (d+1) 234 [i64 x1,i64 x2]=(qZ1 x1 x2).map (fun⟨c,f⟩=>.tup [i64 c,i64 f]):=oe rfl<|by
 refine bo oi fun g=>?_;refine bo oi fun h=>?_;refine bo (e:=(fun(⟨a,b⟩:Int×Int)=>(nq [aU 6 a,aU 7 b] []))) ?_ fun⟨a,b⟩=>?_;refine io rfl rfl;rfl
def Xk (x1:Int):aB (Int×(aA YH)):=
 if(decide (x1<0))||(decide (x1>127))then some (2,[])else(bC (E:=aA YH) (fun(⟨b,e⟩:Int×(aA YH))=>if decide (b>=(-2))then(qZ1 (bK (x1-b)) 12).bind fun⟨f,g⟩=>(aQ1).bind fun a=>(bC (E:=aA YH) (fun(⟨c,d⟩:Int×(aA YH))=>if decide (c<7)then(bM [a.c0,a.c1,a.c2,a.c3,a.c4,a.c5,a.c6] c).bind fun h=>((if h==g then(nH (YH.mk c b (bK (f-1)))).bind fun i=>some (i==0)else some false:aB (Bool))).bind fun j=>((if j then(iZ false d [(YH.mk c b (bK (f-1)))]).bind fun k=>some k else some d:aB (aA YH))).bind fun l=>some (.inl ((bK (c+1)),l))else some (.inr d)) bS (0,e)).bind fun m=>some (.inl ((bK (b-1)),m))else some (.inr e)) bS (2,[])).bind fun n=>some (0,n)
def xV1 (x1:Int):gA (XD k (d+4)) 206 [i64 x1] [] 0 true=(Xk x1).map (fun(⟨o,p⟩:Int×(aA YH))=>((.tup [.own 0,i64 o],[(0,.lst 133 3 false (I YH.g p))],1))):=by
 rw[xd (fn:=bN2) rfl];refine bz (gB rfl) ?_;refine io rfl ?_;refine bo (aN (S:=Int×(aA YH)) (enc:=fun⟨a,h⟩=>(Q [aU 0 x1,(4,.own 0),aU 5 a] [(0,.lst 133 3 false (I YH.g h))])) (encE:=(fun(n:aA YH)=>(xq 0 [(4,.own 0)] [(0,.lst 133 3 false (I YH.g n))]))) (fun⟨a,h⟩=>?_) bS (2,[])) fun n=>?_;refine io ?_ rfl;refine bo (gJ2 (d+2) (bK (x1-a)) 12) fun⟨f,j⟩=>?_;refine bo (tZ1 (d+2)) fun b=>?_;refine bo (aN (S:=Int×(aA YH)) (enc:=fun⟨c,i⟩=>(Q [aU 0 x1,(4,.own 0),aU 5 a,aU 6 f,aU 7 j,(28,Ad b),aU 29 c] [(0,.lst 133 3 false (I YH.g i))])) (encE:=(fun(m:aA YH)=>(xq 2 [aU 0 x1,(4,.own 0),aU 5 a] [(0,.lst 133 3 false (I YH.g m))]))) (fun⟨c,i⟩=>?_) bS (0,h)) fun m=>?_;refine io ?_ rfl;refine bo (rS .i64 [b.c0,b.c1,b.c2,b.c3,b.c4,b.c5,b.c6] c rfl) fun q=>?_;refine bo (e:=id) ?_ fun s=>?_;refine io ?_ rfl;refine bo (hB1 d (YH.mk c a (bK (f-1)))) fun r=>?_;rfl;refine bo (e:=(fun(l:aA YH)=>(nq [aU 0 x1,(4,.own 0),aU 5 a,aU 6 f,aU 7 j,(28,Ad b),aU 29 c] [(1,.box [i64 c,i64 a,i64 (bK (f-1))]),(0,.lst 133 3 false (I YH.g l))]))) ?_ fun l=>?_;refine io ?_ rfl;refine bo (cN false YH.g i [(YH.mk c a (bK (f-1)))]) fun t=>?_;rfl;rfl;rfl;rfl
def jJ1 (x1:YH):aB Int:=
 some (bK ((bK (7*x1.jB))+x1.nJ))
def Xl (x1:YH):OD k (d+1) 154 [fJ x1]=(jJ1 x1).map i64:=oe rfl<|by
 rfl
def gK2 (x1 x2:YH):aB Int:=
 (jJ1 x1).bind fun a=>(jJ1 x2).bind fun b=>some (bK (a-b))
def gL2 (x1 x2:YH):OD k (d+2) 208 [fJ x1,fJ x2]=(gK2 x1 x2).map i64:=oe rfl<|by
 refine bo (Xl d x1) fun a=>?_;refine bo (Xl d x2) fun b=>?_;rfl
def Xm (x1 x2:Int) (u:aA YH):aB (aA YH):=
 (bC (E:=aA YH) (fun(⟨c,d⟩:Int×(aA YH))=>if decide (c<x2)then(bC (E:=aA YH) (fun(⟨b,a⟩:Int×(aA YH))=>((if decide (b>x1)then(gM a b).bind fun f=>(fQ a f).bind fun g=>(gM a (bK (b-1))).bind fun h=>(fQ a h).bind fun i=>(gK2 g i).bind fun j=>some (decide (j<0))else some false:aB (Bool))).bind fun k=>if k then(gM a (bK (b-1))).bind fun l=>(fQ a l).bind fun m=>(gM a b).bind fun n=>(fQ a n).bind fun o=>(gM a b).bind fun p=>(iG a p (fun v=>m)).bind fun e=>(gM e (bK (b-1))).bind fun q=>(iG e q (fun w=>o)).bind fun r=>some (.inl ((bK (b-1)),r))else some (.inr a)) bS (c,d)).bind fun s=>some (.inl ((bK (c+1)),s))else some (.inr d)) bS ((bK (x1+1)),u)).bind fun t=>some t
def xW1 (x1 x2:Int) (s:aA YH):gA (XD k (d+3)) 244 [.own 0,i64 x1,i64 x2,.fn 208 [] []] [(0,.lst 4294967429 3 false (I YH.g s))] 1 false=(Xm x1 x2 s).map (fun(t:aA YH)=>((.tup [],[(0,.lst 4294967429 3 false (I YH.g t))],0))):=by
 rw[xd (fn:=bQ2) rfl];refine bo (aN (S:=Int×(aA YH)) (enc:=fun⟨b,n⟩=>(Q [(0,.own 0),aU 1 x1,aU 2 x2,(3,.fn 208 [] []),aU 8 b] [(0,.lst 4294967429 3 false (I YH.g n))])) (encE:=(fun(r:aA YH)=>(xq 0 [] [(0,.lst 4294967429 3 false (I YH.g r))]))) (fun⟨b,n⟩=>?_) bS ((bK (x1+1)),s)) fun r=>?_;refine io ?_ rfl;refine bo (aN (S:=Int×(aA YH)) (enc:=fun⟨o,a⟩=>(Q [(0,.own 0),aU 1 x1,aU 2 x2,(3,.fn 208 [] []),aU 8 b,aU 9 o] [(0,.lst 4294967429 3 false (I YH.g a))])) (encE:=(fun(q:aA YH)=>(xq 2 [(0,.own 0),aU 1 x1,aU 2 x2,(3,.fn 208 [] []),aU 8 b] [(0,.lst 4294967429 3 false (I YH.g q))]))) (fun⟨o,a⟩=>?_) bS (b,n)) fun q=>?_;refine bo (e:=id) ?_ fun x=>?_;refine io ?_ rfl;refine bo (bZ YH.g a _) fun u=>?_;refine bo (gG (A:=YH) (c:=YH.g) (m:=3) (g:=fun h=>[i64 h.nJ,i64 h.mI,i64 h.jB]) (fun _=>⟨rfl,rfl⟩) (aI3 rfl) a _) fun h=>?_;refine bo (bZ YH.g a _) fun v=>?_;refine bo (gG (A:=YH) (c:=YH.g) (m:=3) (g:=fun i=>[i64 i.nJ,i64 i.mI,i64 i.jB]) (fun _=>⟨rfl,rfl⟩) (aI3 rfl) a _) fun i=>?_;refine bo (gL2 d h i) fun w=>?_;rfl;refine io ?_ rfl;refine bo (bZ YH.g a _) fun y=>?_;refine bo (gG (A:=YH) (c:=YH.g) (m:=3) (g:=fun j=>[i64 j.nJ,i64 j.mI,i64 j.jB]) (fun _=>⟨rfl,rfl⟩) (aI3 rfl) a _) fun j=>?_;refine bo (bZ YH.g a _) fun z=>?_;refine bo (gG (A:=YH) (c:=YH.g) (m:=3) (g:=fun l=>[i64 l.nJ,i64 l.mI,i64 l.jB]) (fun _=>⟨rfl,rfl⟩) (aI3 rfl) a _) fun l=>?_;refine bo (bZ YH.g a _) fun B=>?_;refine bo (dO (A:=YH) (c:=YH.g) (m:=3) (f:=fun C=>j) (fun _=>⟨rfl,rfl⟩) (aI3 rfl) a _) fun p=>?_;refine bo (bZ YH.g p _) fun D=>?_;refine bo (dO (A:=YH) (c:=YH.g) (m:=3) (f:=fun E=>l) (fun _=>⟨rfl,rfl⟩) (aI3 rfl) p _) fun F=>?_;rfl;rfl;rfl
def jK1 (x1 x2 d:Int) (a:aA YH):aB (aA YH):=
 (bC (E:=aA YH) (fun(_:Unit)=>if decide ((bK (x2-x1))<=12)then(Xm x1 x2 a).bind fun b=>some (.inr b)else none) bS ()).bind fun c=>some c
def xX1 (x1 x2 b:Int) (a:aA YH):gA (XD k (d+4)) 235 [.own 0,i64 x1,i64 x2,i64 b,.fn 208 [] []] [(0,.lst 4294967429 3 false (I YH.g a))] 1 false=(jK1 x1 x2 b a).map (fun(e:aA YH)=>((.tup [],[(0,.lst 4294967429 3 false (I YH.g e))],0))):=by
 rw[xd (fn:=bF2) rfl];refine bo (aN (S:=Unit) (enc:=fun _=>(Q [(0,.own 0),aU 1 x1,aU 2 x2,(4,.fn 208 [] [])] [(0,.lst 4294967429 3 false (I YH.g a))])) (encE:=(fun(c:aA YH)=>(rq [] [(0,.lst 4294967429 3 false (I YH.g c))]))) (fun _=>?_) bS ()) fun c=>?_;refine io ?_ ?_;refine bo (xW1 d x1 x2 a) fun f=>?_;rfl;rfl;rfl
def Xn (x1:aA YH):aB (aA YH):=
 (Qw (IntKind.wrap .u64 ((x1.length:Int)))).bind fun x2=>(jK1 0 (x1.length:Int) x2 x1).bind fun a=>some a
def xY1 (x1:aA YH):gA (XD k (d+5)) 207 [.own 0,.fn 208 [] []] [(0,.lst 4294967429 3 false (I YH.g x1))] 1 false=(Xn x1).map (fun(a:aA YH)=>((.tup [],[(0,.lst 4294967429 3 false (I YH.g a))],0))):=by
 rw[xd (fn:=bO2) rfl];refine bz (dV YH.g x1) ?_;refine bo (Qx (d+2) (IntKind.wrap .u64 ((x1.length:Int)))) fun x2=>?_;refine bo (xX1 d 0 (x1.length:Int) x2 x1) fun b=>?_;rfl
def rA1 (x1:Int):aB ((aA YH)×Int):=
 (Xk x1).bind fun⟨x2,a⟩=>if(x2 !=0)||((a.length:Int)==0)then some ([],18)else(Xn a).bind fun b=>some (b,0)
def gM2 (x1:Int):OD k (d+6) 152 [i64 x1]=(rA1 x1).map (fun⟨b,c⟩=>.tup [Ac b,i64 c]):=oe rfl<|by
 refine bo (xV1 (d+1) x1) fun⟨x2,a⟩=>?_;refine bz (gB (bz (dV YH.g a) rfl)) ?_;refine io rfl ?_;refine bo (xY1 d a) fun e=>?_;rfl
def xZ1 (x1:YH) (x2:Int):aB Int:=
 (jJ1 x1).bind fun a=>(jJ1 x1).bind fun b=>some (if(bK (x2-b))>(bK (a-x2))then(bK (x2-b))else(bK (a-x2)))
def uS1 (x1:YH) (x2:Int):OD k (d+2) 153 [fJ x1,.ip [i64 x2]]=(xZ1 x1 x2).map i64:=oe rfl<|by
 refine bo (Xl d x1) fun a=>?_;refine bo (Xl d x1) fun b=>?_;rfl
def yA1 (x1 x2:YH) (a:Int):aB Int:=
 (xZ1 x1 a).bind fun b=>(xZ1 x2 a).bind fun c=>some (bK (b-c))
def gN2 (x1 x2:YH) (a:Int):OD k (d+3) 156 [fJ x1,fJ x2,.ip [.fn 153 [] [.ip [i64 a]]]]=(yA1 x1 x2 a).map i64:=oe rfl<|by
 refine bo (uS1 d x1 a) fun b=>?_;refine bo (uS1 d x2 a) fun c=>?_;rfl
def rB1 (x1:aA YH) (x2:Int):aB YH:=
 if decide ((x1.length:Int)<1)then none else(bM x1 0).bind fun g=>(bC (E:=YH) (fun(⟨e,f⟩:Int×YH)=>dT x1 e (fun a=>(yA1 a f x2).bind fun x11=>((if decide (x11<0)then(bM x1 e).bind fun b=>some b else some f:aB (YH))).bind fun c=>some (.inl ((bK (e+1)),c))) (some (.inr f))) bS (1,g)).bind fun d=>some d
def gO2 (x1:aA YH) (x2:Int):OD k (d+4) 155 [Ac x1,.fn 156 [] [.ip [.fn 153 [] [.ip [i64 x2]]]]]=(rB1 x1 x2).map (fun j=>fJ j):=oe rfl<|by
 refine bz lm ?_;refine io ?_ ?_;rfl;refine bo rg fun i=>?_;refine bo (aN (S:=Int×YH) (enc:=fun⟨f,g⟩=>(Q [Gp 0 x1,(1,.fn 156 [] [.ip [.fn 153 [] [.ip [i64 x2]]]]),bE 4 0,bE 5 1,aU 6 f] [pB 1 g,(0,.box [i64 0,i64 0,i64 0])])) (encE:=(fun(b:YH)=>(xq 0 [bE 4 0,bE 5 1] [pB 1 b,(0,.box [i64 0,i64 0,i64 0])]))) (fun⟨f,g⟩=>?_) bS (1,i)) fun b=>?_;refine bz lm ?_;refine ig fun c=>?_;refine bo (gN2 d c g x2) fun x11=>?_;refine bo (e:=(fun(a:YH)=>(nq [Gp 0 x1,(1,.fn 156 [] [.ip [.fn 153 [] [.ip [i64 x2]]]]),bE 4 0,bE 5 1,aU 6 f] [pB 1 a,(0,.box [i64 0,i64 0,i64 0])]))) ?_ fun a=>?_;refine ig fun h=>?_;rfl;rfl;rfl
def Xo (x1:YH) (x2:YL):aB (YH×Int):=
 (xU1 x1 x2).bind fun⟨c,d,a⟩=>if a !=0 then some ((YH.mk 0 0 0),a)else(rA1 d).bind fun⟨e,b⟩=>if b !=0 then some ((YH.mk 0 0 0),b)else(rB1 e c).bind fun f=>some (f,0)
def yB1 (x1:YH) (x2:YL):OD k (d+7) 98 [fJ x1,hU x2]=(Xo x1 x2).map (fun⟨e,f⟩=>.tup [fJ e,i64 f]):=oe rfl<|by
 refine bo (gI2 d x1 x2) fun⟨a,b,g⟩=>?_;refine io rfl ?_;refine bo (gM2 d b) fun⟨c,h⟩=>?_;refine io rfl ?_;refine bo (gO2 (d+2) c a) fun i=>?_;rfl
def Xp (x1:YE):aB ((aA YD)×(aA YY)×(aA YB)):=
 (lF x1.cA).bind fun x2=>(lF x1.dX).bind fun a=>(lF x1.dA).bind fun b=>some (a,b,x2)
def jL1 (x1:YE):gA (XD k (d+2)) 150 [eI x1] [] 11 true=(Xp x1).map (fun(⟨a,b,c⟩:(aA YD)×(aA YY)×(aA YB))=>((.agg [i64 x1.ID.kP,i64 x1.ID.fE,i64 x1.cE,i64 x1.Value.Log,i64 x1.Value.pC,.own 13,kL a,i64 x1.bQ,i64 x1.dM,i64 x1.dU,jI b,i64 x1.kZ,i64 x1.kY],[(13,.lst 135 5 true (I YB.g c))],14))):=by
 rw[xd (fn:=gC1) rfl];refine bo (tQ 202 d 135 5 _ _ 13 rfl rfl rfl (fun _=>rfl)) fun x2=>?_;refine bo (mQ 203 (d+1) 5 _ _ rfl rfl rfl) fun e=>?_;refine bo (mQ 204 (d+1) 2 _ _ rfl rfl rfl) fun f=>?_;rfl
def jM1 (x1:YO):aB ((aA YU)×(aA YE)):=
 (bC (E:=aA YE) (fun(⟨j,b⟩:Int×(aA YE))=>dT x1.aT j (fun x11=>(Xp x11).bind fun⟨c,d,e⟩=>(iG ([(YE.mk x11.ID x11.cE x11.Value [] c x11.bQ x11.dM x11.dU d x11.kZ x11.kY)]) 0 (fun a=>(YE.mk a.ID a.cE a.Value e a.dX a.bQ a.dM a.dU a.dA a.kZ a.kY))).bind fun f=>(iZ true b f).bind fun g=>some (.inl ((bK (j+1)),g))) (some (.inr b))) bS (0,[])).bind fun h=>(iZ false ([]:aA YU) x1.dQ).bind fun i=>some (i,h)
def rC1 (x1:YO):gA (XD k (d+3)) 97 [iB x1] [] 5 true=(jM1 x1).map (fun(⟨n,o⟩:(aA YU)×(aA YE))=>((.agg [.own 8,.own 9],[(9,.lst 285 4 false (I YU.g n)),(8,.tr yV (I YE.g o) [])],10))):=by
 rw[xd (fn:=p97) rfl];refine bz lm ?_;refine bo (aN (S:=Int×(aA YE)) (enc:=fun⟨p,b⟩=>(Q [bE 1 5,bE 2 6,bE 3 7,eT 7 x1.aT,cQ 8 x1.aT,aU 9 p] [(9,.lst 285 4 false (I YU.g [])),(8,.tr yV (I YE.g b) []),(7,.box [.own 8,.own 9]),(6,.box [.v (.slice none 0 0),.v (.slice none 0 0)]),cK 5 x1])) (encE:=(fun(e:aA YE)=>(xq 0 [bE 1 5,bE 2 6,bE 3 7] [(9,.lst 285 4 false (I YU.g [])),(8,.tr yV (I YE.g e) []),(7,.box [.own 8,.own 9]),(6,.box [.v (.slice none 0 0),.v (.slice none 0 0)]),cK 5 x1]))) (fun⟨p,b⟩=>?_) bS (0,[])) fun e=>?_;refine ig fun x11=>?_;refine bo (jL1 d x11) fun⟨h,i,j⟩=>?_;refine bo (dO (A:=YE) (c:=YE.g) (m:=13) (f:=fun a=>(YE.mk a.ID a.cE a.Value j a.dX a.bQ a.dM a.dU a.dA a.kZ a.kY)) (fun _=>⟨rfl,rfl⟩) (aI3 rfl) ([(YE.mk x11.ID x11.cE x11.Value [] h x11.bQ x11.dM x11.dU i x11.kZ x11.kY)]) _) fun l=>?_;refine bo (cN true YE.g b l) fun q=>?_;rfl;refine bo (cN false YU.g ([]:aA YU) x1.dQ) fun r=>?_;rfl
def F61 (x1:Y0) (x2:aV):aB ((aA YO)×Bool):=
 (Rj x1 x2.nI).bind fun⟨x3,x4⟩=>(F62 x1 x2.cZ).bind fun⟨x5,x6,x7⟩=>(bM x1.bG x2.nI).bind fun x8=>if x1.bV then(bM x1.bG x5).bind fun x9=>(F96 x8.aK x9.aK).bind fun⟨h5,x11⟩=>if x11 !=0 then some ([],false)else(bC (E:=(aA YO)⊕((aA YO)⊕(aA YO))) (fun(⟨k,l⟩:Int×(aA YO))=>if decide (k<x2.mH)then(bM x1.aD k).bind fun m=>(bM m.aQ x2.cZ).bind fun V=>((if decide ((V.aM.length:Int)<=x2.dB)then some true else(bM m.aQ x2.cZ).bind fun W=>(bM W.aM x2.dB).bind fun X=>some ((X.aT.length:Int)==0):aB (Bool))).bind fun Y=>((if Y then some true else(bM m.aQ x3).bind fun Z=>some ((Z.aM.length:Int)!=1):aB (Bool))).bind fun a0=>if a0 then some (.inr (.inl l))else(bM m.aQ x2.cZ).bind fun b0=>(bM b0.aM x2.dB).bind fun b4=>(jI1 b4).bind fun⟨b5,A⟩=>(bC (E:=(aA YE)⊕(aA YE)) (fun(⟨n,g⟩:Int×(aA YE))=>if decide (n<(A.length:Int))then(gM g n).bind fun e=>(fQ g e).bind fun b6=>(fQ g e).bind fun b7=>(fQ g e).bind fun B=>(iG g e (fun h6=>(YE.mk (YZ.mk 0 0) b6.cE b7.Value [] [] 0 0 0 [] 0 0))).bind fun i=>(fQ i e).bind fun h7=>(bC (E:=(aA YE)⊕(aA YB)) (fun(⟨u,v⟩:Int×(aA YB))=>if decide (u<(B.cA.length:Int))then(fQ i e).bind fun h8=>(gM v u).bind fun o=>(iG v o (fun C=>(YB.mk C.cC C.nW 0))).bind fun D=>((if(k==(bK (x2.mH-1)))&&(n==(bK ((i.length:Int)-1)))then(iG D o (fun F=>(YB.mk F.cC false F.vD))).bind fun b8=>some b8 else some D:aB (aA YB))).bind fun w=>(fQ w o).bind fun G=>((if x1.bV then(Xo G.cC h5).bind fun⟨b9,d0⟩=>some (d0,b9)else some (0,G.cC):aB (Int×YH))).bind fun⟨d2,H⟩=>(Ms H).bind fun⟨J,h9⟩=>if((d2 !=0)||(decide ((bK (J+(bK (0-x8.aK.aZ))))<0)))||(decide ((bK (J+(bK (0-x8.aK.aZ))))>127))then(iG i e (fun a=>(YE.mk a.ID a.cE a.Value w a.dX a.bQ a.dM a.dU a.dA a.kZ a.kY))).bind fun d3=>some (.inr (.inl d3))else(iG w o (fun K=>(YB.mk H K.nW K.vD))).bind fun d4=>some (.inl ((bK (u+1)),d4))else some (.inr (.inr v))) bS (0,B.cA)).bind fun d5=>(match d5 with|.inl x243=>some (.inr (.inl x243))|.inr x244=>(iG i e (fun b=>(YE.mk b.ID b.cE b.Value x244 b.dX b.bQ b.dM b.dU b.dA b.kZ b.kY))).bind fun d6=>some (.inl ((bK (n+1)),d6)))else some (.inr (.inr g))) bS (0,A)).bind fun d7=>(match d7 with|.inl x248=>some (.inr (.inr (.inl l)))|.inr x249=>(iG ([(YO.mk [] [])]) 0 (fun d8=>(YO.mk d8.aT b5))).bind fun d9=>(iG d9 0 (fun e0=>(YO.mk x249 e0.dQ))).bind fun e1=>(iZ true l e1).bind fun e3=>some (.inl ((bK (k+1)),e3)))else some (.inr (.inr (.inr l)))) bS (x2.fW,[])).bind fun e4=>(match e4 with|.inl x256=>some ([],false)|.inr (.inl x257)=>some ([],false)|.inr (.inr x258)=>some (x258,true))else(bC (E:=(aA YO)⊕((aA YO)⊕(aA YO))) (fun(⟨p,q⟩:Int×(aA YO))=>if decide (p<x2.mH)then(bM x1.aD p).bind fun r=>(bM r.aQ x2.cZ).bind fun e5=>((if decide ((e5.aM.length:Int)<=x2.dB)then some true else(bM r.aQ x2.cZ).bind fun e6=>(bM e6.aM x2.dB).bind fun e7=>some ((e7.aT.length:Int)==0):aB (Bool))).bind fun e8=>((if e8 then some true else(bM r.aQ x3).bind fun e9=>some ((e9.aM.length:Int)!=1):aB (Bool))).bind fun f0=>if f0 then some (.inr (.inl q))else(bM r.aQ x2.cZ).bind fun f1=>(bM f1.aM x2.dB).bind fun f2=>(jM1 f2).bind fun⟨f4,L⟩=>(bC (E:=(aA YE)⊕(aA YE)) (fun(⟨s,h⟩:Int×(aA YE))=>if decide (s<(L.length:Int))then(gM h s).bind fun f=>(fQ h f).bind fun f5=>(fQ h f).bind fun f6=>(fQ h f).bind fun M=>(iG h f (fun i0=>(YE.mk (YZ.mk 0 0) f5.cE f6.Value [] [] 0 0 0 [] 0 0))).bind fun j=>(fQ j f).bind fun i1=>(bC (E:=(aA YE)⊕(aA YB)) (fun(⟨x,y⟩:Int×(aA YB))=>if decide (x<(M.cA.length:Int))then(fQ j f).bind fun i2=>(gM y x).bind fun t=>(iG y t (fun N=>(YB.mk N.cC N.nW 0))).bind fun O=>((if(p==(bK (x2.mH-1)))&&(s==(bK ((j.length:Int)-1)))then(iG O t (fun P=>(YB.mk P.cC false P.vD))).bind fun f7=>some f7 else some O:aB (aA YB))).bind fun z=>(fQ z t).bind fun R=>((if x1.bV then(Xo R.cC (YL.mk 0 0)).bind fun⟨f8,f9⟩=>some (f9,f8)else some (0,R.cC):aB (Int×YH))).bind fun⟨g1,S⟩=>(Ms S).bind fun⟨T,i3⟩=>if((g1 !=0)||(decide ((bK (T+x8.aK.aZ))<0)))||(decide ((bK (T+x8.aK.aZ))>127))then(iG j f (fun c=>(YE.mk c.ID c.cE c.Value z c.dX c.bQ c.dM c.dU c.dA c.kZ c.kY))).bind fun g3=>some (.inr (.inl g3))else(iG z t (fun U=>(YB.mk S U.nW U.vD))).bind fun g4=>some (.inl ((bK (x+1)),g4))else some (.inr (.inr y))) bS (0,M.cA)).bind fun g5=>(match g5 with|.inl x491=>some (.inr (.inl x491))|.inr x492=>(iG j f (fun d=>(YE.mk d.ID d.cE d.Value x492 d.dX d.bQ d.dM d.dU d.dA d.kZ d.kY))).bind fun g6=>some (.inl ((bK (s+1)),g6)))else some (.inr (.inr h))) bS (0,L)).bind fun g7=>(match g7 with|.inl x496=>some (.inr (.inr (.inl q)))|.inr x497=>(iG ([(YO.mk [] [])]) 0 (fun g8=>(YO.mk g8.aT f4))).bind fun g9=>(iG g9 0 (fun h0=>(YO.mk x497 h0.dQ))).bind fun h2=>(iZ true q h2).bind fun h3=>some (.inl ((bK (p+1)),h3)))else some (.inr (.inr (.inr q)))) bS (x2.fW,[])).bind fun h4=>(match h4 with|.inl x504=>some ([],false)|.inr (.inl x505)=>some ([],false)|.inr (.inr x506)=>some (x506,true))
def rC2 (x1:Y0) (x2:aV):OD k (d+8) 61 [cX x1,jJ x2]=(F61 x1 x2).map (fun⟨y0,y1⟩=>.tup [kK y0,bv y1]):=oe rfl<|by
 refine bo (qW1 (d+5) x1 x2.nI) fun⟨P,x4⟩=>?_;refine bo (hT1 (d+6) x1 x2.cZ) fun⟨x5,x6,x7⟩=>?_;refine bo rg fun b=>?_;refine io ?_ ?_;refine bo rg fun x9=>?_;refine bo (gE2 (d+4) b.aK x9.aK) fun⟨a,x11⟩=>?_;refine io rfl ?_;refine bo (aN (S:=Int×(aA YO)) (enc:=fun⟨v,h⟩=>(Q [bE 2 0,bE 3 1,aU 6 P,(12,i64 (bK (0-b.aK.aZ))),bE 13 3,(16,.own 5),aU 17 v] [(5,.tr uZ (I YO.g h) []),aR 4 a,aR 3 a,aR 2 b.aK,bL 1 x2,aG 0 x1])) (encE:=(fun|.inl b9=>(rq [Gs,(5,bv false),(16,.own 5)] [(5,.tr uZ (I YO.g b9) []),aR 4 a,aR 3 a,aR 2 b.aK,bL 1 x2,aG 0 x1])|.inr (.inl x257)=>(rq [Gs,(5,bv false)] [(5,.tr uZ (I YO.g x257) []),aR 4 a,aR 3 a,aR 2 b.aK,bL 1 x2,aG 0 x1])|.inr (.inr x258)=>(xq 0 [(16,.own 5)] [(5,.tr uZ (I YO.g x258) []),aR 4 a,aR 3 a,aR 2 b.aK,bL 1 x2,aG 0 x1]))) (fun⟨v,h⟩=>?_) bS (x2.fW,[])) fun e7=>?_;refine ig fun f8=>?_;refine bo rg fun f9=>?_;refine bz lm ?_;refine bo (e:=id) ?_ fun g4=>?_;refine io rfl ?_;refine bo rg fun g1=>?_;refine bo rg fun g3=>?_;refine bz lm ?_;rfl;refine bo (e:=id) ?_ fun g6=>?_;refine io rfl ?_;refine bo rg fun g5=>?_;refine bz lm ?_;rfl;refine io rfl ?_;refine bo rg fun g7=>?_;refine bo rg fun d8=>?_;refine bo (gF2 (d+4) d8) fun⟨p,x⟩=>?_;refine bz (dV YE.g x) ?_;refine bo (aN (S:=Int×(aA YE)) (enc:=fun⟨q,y⟩=>(Q [bE 2 0,bE 3 1,aU 6 P,(12,i64 (bK (0-b.aK.aZ))),bE 13 3,(16,.own 5),aU 17 v,bE 19 11,cQ 131 x,aU 132 q] [aJ1,(10,.lst 285 4 false (I YU.g p)),(9,.tr yV (I YE.g y) []),(5,.tr uZ (I YO.g h) []),aR 4 a,aR 3 a,aR 2 b.aK,bL 1 x2,aG 0 x1])) (encE:=(fun|.inl b8=>(rq [Gs,(5,bv false)] [(11,.box [.undef,.undef]),(10,.lst 285 4 false (I YU.g p)),(9,.tr yV (I YE.g b8) []),(5,.tr uZ (I YO.g h) []),aR 4 a,aR 3 a,aR 2 b.aK,bL 1 x2,aG 0 x1])|.inr x249=>(xq 2 [bE 2 0,bE 3 1,aU 6 P,(12,i64 (bK (0-b.aK.aZ))),bE 13 3,(16,.own 5),aU 17 v,bE 19 11] [aJ1,(10,.lst 285 4 false (I YU.g p)),(9,.tr yV (I YE.g x249) []),(5,.tr uZ (I YO.g h) []),aR 4 a,aR 3 a,aR 2 b.aK,bL 1 x2,aG 0 x1]))) (fun⟨q,y⟩=>?_) bS (0,x)) fun e1=>?_;refine io ?_ rfl;refine bo (bZ YE.g y _) fun z=>?_;refine bo (cW (A:=YE) (c:=YE.g) (g:=fun W=>i64 W.cE) (fun _=>rfl) y _) fun W=>?_;refine bo (gG (A:=YE) (c:=YE.g) (m:=13) (g:=fun L=>[i64 L.Value.Log,i64 L.Value.pC]) (fun _=>⟨rfl,rfl⟩) (aI3 rfl) y _) fun L=>?_;refine bo (cW (A:=YE) (c:=YE.g) (g:=fun B=>gX B.cA) (fun _=>rfl) y _) fun B=>?_;refine bz (mP _) ?_;refine bo (dO (A:=YE) (c:=YE.g) (m:=13) (f:=fun g8=>(YE.mk (YZ.mk 0 0) W.cE L.Value [] [] 0 0 0 [] 0 0)) (fun _=>⟨rfl,rfl⟩) (aI3 rfl) y _) fun r=>?_;refine bo (cW (A:=YE) (c:=YE.g) (g:=fun Y=>gX Y.cA) (fun _=>rfl) r _) fun Y=>?_;refine bz (mP _) ?_;refine bz (dV YB.g B.cA) ?_;refine bo (aN (S:=Int×(aA YB)) (enc:=fun⟨M,N⟩=>(Q [bE 2 0,bE 3 1,aU 6 P,(12,i64 (bK (0-b.aK.aZ))),bE 13 3,(16,.own 5),aU 17 v,bE 19 11,aU 20 q,(21,.el 9 z 0),cQ 131 x,aU 132 q,cQ 158 B.cA,aU 159 M] [(12,.lst 135 5 true (I YB.g N)),aJ1,(10,.lst 285 4 false (I YU.g p)),(9,.tr yV (I YE.g r) [(5,z,.own 12)]),(5,.tr uZ (I YO.g h) []),aR 4 a,aR 3 a,aR 2 b.aK,bL 1 x2,aG 0 x1])) (encE:=(fun|.inl b7=>(rq [Gs,(5,bv false)] [(12,.lst 0 0 true []),(11,.box [.undef,.undef]),(10,.lst 285 4 false (I YU.g p)),(9,.tr yV (I YE.g b7) []),(5,.tr uZ (I YO.g h) []),aR 4 a,aR 3 a,aR 2 b.aK,bL 1 x2,aG 0 x1])|.inr x244=>(xq 4 [bE 2 0,bE 3 1,aU 6 P,(12,i64 (bK (0-b.aK.aZ))),bE 13 3,(16,.own 5),aU 17 v,bE 19 11,cQ 131 x,aU 132 q] [(12,.lst 135 5 true (I YB.g x244)),aJ1,(10,.lst 285 4 false (I YU.g p)),(9,.tr yV (I YE.g r) [(5,z,.own 12)]),(5,.tr uZ (I YO.g h) []),aR 4 a,aR 3 a,aR 2 b.aK,bL 1 x2,aG 0 x1]))) (fun⟨M,N⟩=>?_) bS (0,B.cA)) fun e0=>?_;refine io ?_ rfl;refine bo (cW (A:=YE) (c:=YE.g) (g:=fun Z=>gX Z.cA) (fun _=>rfl) r _) fun Z=>?_;refine bz (mP _) ?_;refine bo (bZ YB.g N _) fun a0=>?_;refine bo (dO (A:=YB) (c:=YB.g) (m:=5) (f:=fun b0=>(YB.mk b0.cC b0.nW 0)) (fun _=>⟨rfl,rfl⟩) (aI3 rfl) N _) fun d9=>?_;refine bz (iK (bz (dV YE.g r) rfl)) ?_;refine bo (e:=(fun(G:aA YB)=>(nq [bE 2 0,bE 3 1,aU 6 P,(12,i64 (bK (0-b.aK.aZ))),bE 13 3,(16,.own 5),aU 17 v,bE 19 11,aU 20 q,(21,.el 9 z 0),(23,.el 12 a0 0),cQ 131 x,aU 132 q,cQ 158 B.cA,aU 159 M] [(12,.lst 135 5 true (I YB.g G)),aJ1,(10,.lst 285 4 false (I YU.g p)),(9,.tr yV (I YE.g r) [(5,z,.own 12)]),(5,.tr uZ (I YO.g h) []),aR 4 a,aR 3 a,aR 2 b.aK,bL 1 x2,aG 0 x1]))) ?_ fun G=>?_;refine io ?_ rfl;refine bo (dO (A:=YB) (c:=YB.g) (m:=5) (f:=fun b4=>(YB.mk b4.cC false b4.vD)) (fun _=>⟨rfl,rfl⟩) (aI3 rfl) d9 _) fun g9=>?_;rfl;refine bo (gG (A:=YB) (c:=YB.g) (m:=5) (g:=fun J=>[i64 J.cC.nJ,i64 J.cC.mI,i64 J.cC.jB]) (fun _=>⟨rfl,rfl⟩) (aI3 rfl) G _) fun J=>?_;refine bo (e:=(fun(⟨b5,O⟩:Int×YH)=>(nq [bE 2 0,bE 3 1,aU 6 P,(12,i64 (bK (0-b.aK.aZ))),bE 13 3,(16,.own 5),aU 17 v,bE 19 11,aU 20 q,(21,.el 9 z 0),(23,.el 12 a0 0),bE 24 13,aU 25 b5,cQ 131 x,aU 132 q,cQ 158 B.cA,aU 159 M] [pB 13 O,(12,.lst 135 5 true (I YB.g G)),aJ1,(10,.lst 285 4 false (I YU.g p)),(9,.tr yV (I YE.g r) [(5,z,.own 12)]),(5,.tr uZ (I YO.g h) []),aR 4 a,aR 3 a,aR 2 b.aK,bL 1 x2,aG 0 x1]))) ?_ fun⟨b5,O⟩=>?_;refine io ?_ rfl;refine bo (yB1 d J.cC a) fun⟨h0,h2⟩=>?_;rfl;refine bo (Uc (d+3) O) fun⟨h3,h4⟩=>?_;refine bz (gB rfl) ?_;refine bz (gB rfl) ?_;refine io ?_ ?_;refine bo (dO (A:=YE) (c:=YE.g) (m:=13) (f:=fun j=>(YE.mk j.ID j.cE j.Value G j.dX j.bQ j.dM j.dU j.dA j.kZ j.kY)) (fun _=>⟨rfl,rfl⟩) (aI3 rfl) r _) fun h5=>?_;rfl;refine bo (dO (A:=YB) (c:=YB.g) (m:=5) (f:=fun b6=>(YB.mk O b6.nW b6.vD)) (fun _=>⟨rfl,rfl⟩) (aI3 rfl) G _) fun h6=>?_;rfl;rcases e0 with b7|x244;rfl;refine bo (dO (A:=YE) (c:=YE.g) (m:=13) (f:=fun l=>(YE.mk l.ID l.cE l.Value x244 l.dX l.bQ l.dM l.dU l.dA l.kZ l.kY)) (fun _=>⟨rfl,rfl⟩) (aI3 rfl) r _) fun h7=>?_;rfl;rcases e1 with b8|x249;rfl;refine bo (dO (A:=YO) (c:=YO.g) (m:=2) (f:=fun e3=>(YO.mk e3.aT p)) (fun _=>⟨rfl,rfl⟩) (aI3 rfl) ([(YO.mk [] [])]) _) fun e4=>?_;refine bo (dO (A:=YO) (c:=YO.g) (m:=2) (f:=fun e5=>(YO.mk x249 e5.dQ)) (fun _=>⟨rfl,rfl⟩) (aI3 rfl) e4 _) fun e6=>?_;refine bo (cN true YO.g h e6) fun h8=>?_;rfl;rcases e7 with b9|x257|x258;rfl;rfl;rfl;refine bo (aN (S:=Int×(aA YO)) (enc:=fun⟨w,i⟩=>(Q [bE 2 0,bE 3 1,aU 6 P,(12,i64 b.aK.aZ),bE 13 3,(16,.own 4),aU 17 w] [(4,.tr uZ (I YO.g i) []),Bo,aR 2 b.aK,bL 1 x2,aG 0 x1])) (encE:=(fun|.inl x504=>(rq [Gs,(5,bv false),(16,.own 4)] [(4,.tr uZ (I YO.g x504) []),Bo,aR 2 b.aK,bL 1 x2,aG 0 x1])|.inr (.inl x505)=>(rq [Gs,(5,bv false)] [(4,.tr uZ (I YO.g x505) []),Bo,aR 2 b.aK,bL 1 x2,aG 0 x1])|.inr (.inr x506)=>(xq 0 [(16,.own 4)] [(4,.tr uZ (I YO.g x506) []),Bo,aR 2 b.aK,bL 1 x2,aG 0 x1]))) (fun⟨w,i⟩=>?_) bS (x2.fW,[])) fun f7=>?_;refine ig fun h9=>?_;refine bo rg fun i0=>?_;refine bz lm ?_;refine bo (e:=id) ?_ fun i3=>?_;refine io rfl ?_;refine bo rg fun i1=>?_;refine bo rg fun i2=>?_;refine bz lm ?_;rfl;refine bo (e:=id) ?_ fun i5=>?_;refine io rfl ?_;refine bo rg fun i4=>?_;refine bz lm ?_;rfl;refine io rfl ?_;refine bo rg fun i6=>?_;refine bo rg fun e8=>?_;refine bo (rC1 (d+4) e8) fun⟨s,C⟩=>?_;refine bz (dV YE.g C) ?_;refine bo (aN (S:=Int×(aA YE)) (enc:=fun⟨t,D⟩=>(Q [bE 2 0,bE 3 1,aU 6 P,(12,i64 b.aK.aZ),bE 13 3,(16,.own 4),aU 17 w,bE 19 10,cQ 131 C,aU 132 t] [aK1,(9,.lst 285 4 false (I YU.g s)),(8,.tr yV (I YE.g D) []),(4,.tr uZ (I YO.g i) []),Bo,aR 2 b.aK,bL 1 x2,aG 0 x1])) (encE:=(fun|.inl x496=>(rq [Gs,(5,bv false)] [(10,.box [.undef,.undef]),(9,.lst 285 4 false (I YU.g s)),(8,.tr yV (I YE.g x496) []),(4,.tr uZ (I YO.g i) []),Bo,aR 2 b.aK,bL 1 x2,aG 0 x1])|.inr x497=>(xq 2 [bE 2 0,bE 3 1,aU 6 P,(12,i64 b.aK.aZ),bE 13 3,(16,.own 4),aU 17 w,bE 19 10] [aK1,(9,.lst 285 4 false (I YU.g s)),(8,.tr yV (I YE.g x497) []),(4,.tr uZ (I YO.g i) []),Bo,aR 2 b.aK,bL 1 x2,aG 0 x1]))) (fun⟨t,D⟩=>?_) bS (0,C)) fun f1=>?_;refine io ?_ rfl;refine bo (bZ YE.g D _) fun E=>?_;refine bo (cW (A:=YE) (c:=YE.g) (g:=fun X=>i64 X.cE) (fun _=>rfl) D _) fun X=>?_;refine bo (gG (A:=YE) (c:=YE.g) (m:=13) (g:=fun R=>[i64 R.Value.Log,i64 R.Value.pC]) (fun _=>⟨rfl,rfl⟩) (aI3 rfl) D _) fun R=>?_;refine bo (cW (A:=YE) (c:=YE.g) (g:=fun F=>gX F.cA) (fun _=>rfl) D _) fun F=>?_;refine bz (mP _) ?_;refine bo (dO (A:=YE) (c:=YE.g) (m:=13) (f:=fun i7=>(YE.mk (YZ.mk 0 0) X.cE R.Value [] [] 0 0 0 [] 0 0)) (fun _=>⟨rfl,rfl⟩) (aI3 rfl) D _) fun u=>?_;refine bo (cW (A:=YE) (c:=YE.g) (g:=fun d0=>gX d0.cA) (fun _=>rfl) u _) fun d0=>?_;refine bz (mP _) ?_;refine bz (dV YB.g F.cA) ?_;refine bo (aN (S:=Int×(aA YB)) (enc:=fun⟨T,U⟩=>(Q [bE 2 0,bE 3 1,aU 6 P,(12,i64 b.aK.aZ),bE 13 3,(16,.own 4),aU 17 w,bE 19 10,aU 20 t,(21,.el 8 E 0),cQ 131 C,aU 132 t,cQ 158 F.cA,aU 159 T] [(11,.lst 135 5 true (I YB.g U)),aK1,(9,.lst 285 4 false (I YU.g s)),(8,.tr yV (I YE.g u) [(5,E,.own 11)]),(4,.tr uZ (I YO.g i) []),Bo,aR 2 b.aK,bL 1 x2,aG 0 x1])) (encE:=(fun|.inl x491=>(rq [Gs,(5,bv false)] [(11,.lst 0 0 true []),(10,.box [.undef,.undef]),(9,.lst 285 4 false (I YU.g s)),(8,.tr yV (I YE.g x491) []),(4,.tr uZ (I YO.g i) []),Bo,aR 2 b.aK,bL 1 x2,aG 0 x1])|.inr x492=>(xq 4 [bE 2 0,bE 3 1,aU 6 P,(12,i64 b.aK.aZ),bE 13 3,(16,.own 4),aU 17 w,bE 19 10,cQ 131 C,aU 132 t] [(11,.lst 135 5 true (I YB.g x492)),aK1,(9,.lst 285 4 false (I YU.g s)),(8,.tr yV (I YE.g u) [(5,E,.own 11)]),(4,.tr uZ (I YO.g i) []),Bo,aR 2 b.aK,bL 1 x2,aG 0 x1]))) (fun⟨T,U⟩=>?_) bS (0,F.cA)) fun f0=>?_;refine io ?_ rfl;refine bo (cW (A:=YE) (c:=YE.g) (g:=fun d2=>gX d2.cA) (fun _=>rfl) u _) fun d2=>?_;refine bz (mP _) ?_;refine bo (bZ YB.g U _) fun d3=>?_;refine bo (dO (A:=YB) (c:=YB.g) (m:=5) (f:=fun d4=>(YB.mk d4.cC d4.nW 0)) (fun _=>⟨rfl,rfl⟩) (aI3 rfl) U _) fun e9=>?_;refine bz (iK (bz (dV YE.g u) rfl)) ?_;refine bo (e:=(fun(H:aA YB)=>(nq [bE 2 0,bE 3 1,aU 6 P,(12,i64 b.aK.aZ),bE 13 3,(16,.own 4),aU 17 w,bE 19 10,aU 20 t,(21,.el 8 E 0),(23,.el 11 d3 0),cQ 131 C,aU 132 t,cQ 158 F.cA,aU 159 T] [(11,.lst 135 5 true (I YB.g H)),aK1,(9,.lst 285 4 false (I YU.g s)),(8,.tr yV (I YE.g u) [(5,E,.own 11)]),(4,.tr uZ (I YO.g i) []),Bo,aR 2 b.aK,bL 1 x2,aG 0 x1]))) ?_ fun H=>?_;refine io ?_ rfl;refine bo (dO (A:=YB) (c:=YB.g) (m:=5) (f:=fun d5=>(YB.mk d5.cC false d5.vD)) (fun _=>⟨rfl,rfl⟩) (aI3 rfl) e9 _) fun i9=>?_;rfl;refine bo (gG (A:=YB) (c:=YB.g) (m:=5) (g:=fun K=>[i64 K.cC.nJ,i64 K.cC.mI,i64 K.cC.jB]) (fun _=>⟨rfl,rfl⟩) (aI3 rfl) H _) fun K=>?_;refine bo (e:=(fun(⟨d6,V⟩:Int×YH)=>(nq [bE 2 0,bE 3 1,aU 6 P,(12,i64 b.aK.aZ),bE 13 3,(16,.own 4),aU 17 w,bE 19 10,aU 20 t,(21,.el 8 E 0),(23,.el 11 d3 0),bE 24 12,aU 25 d6,cQ 131 C,aU 132 t,cQ 158 F.cA,aU 159 T] [pB 12 V,(11,.lst 135 5 true (I YB.g H)),aK1,(9,.lst 285 4 false (I YU.g s)),(8,.tr yV (I YE.g u) [(5,E,.own 11)]),(4,.tr uZ (I YO.g i) []),Bo,aR 2 b.aK,bL 1 x2,aG 0 x1]))) ?_ fun⟨d6,V⟩=>?_;refine io ?_ rfl;refine bo (yB1 d K.cC (YL.mk 0 0)) fun⟨j0,j2⟩=>?_;rfl;refine bo (Uc (d+3) V) fun⟨j3,j4⟩=>?_;refine bz (gB rfl) ?_;refine bz (gB rfl) ?_;refine io ?_ ?_;refine bo (dO (A:=YE) (c:=YE.g) (m:=13) (f:=fun n=>(YE.mk n.ID n.cE n.Value H n.dX n.bQ n.dM n.dU n.dA n.kZ n.kY)) (fun _=>⟨rfl,rfl⟩) (aI3 rfl) u _) fun j5=>?_;rfl;refine bo (dO (A:=YB) (c:=YB.g) (m:=5) (f:=fun d7=>(YB.mk V d7.nW d7.vD)) (fun _=>⟨rfl,rfl⟩) (aI3 rfl) H _) fun j6=>?_;rfl;rcases f0 with x491|x492;rfl;refine bo (dO (A:=YE) (c:=YE.g) (m:=13) (f:=fun o=>(YE.mk o.ID o.cE o.Value x492 o.dX o.bQ o.dM o.dU o.dA o.kZ o.kY)) (fun _=>⟨rfl,rfl⟩) (aI3 rfl) u _) fun j7=>?_;rfl;rcases f1 with x496|x497;rfl;refine bo (dO (A:=YO) (c:=YO.g) (m:=2) (f:=fun f2=>(YO.mk f2.aT s)) (fun _=>⟨rfl,rfl⟩) (aI3 rfl) ([(YO.mk [] [])]) _) fun f4=>?_;refine bo (dO (A:=YO) (c:=YO.g) (m:=2) (f:=fun f5=>(YO.mk x497 f5.dQ)) (fun _=>⟨rfl,rfl⟩) (aI3 rfl) f4 _) fun f6=>?_;refine bo (cN true YO.g i f6) fun j8=>?_;rfl;rcases f7 with x504|x505|x506;rfl;rfl;rfl
end Go.P
