import Derived.Test.YtfdbgfhnlgbonaaGreatLpC
import Derived.KernelRfl
import Derived.Test.YtfdbgfhnlgbonaaGreatChecked
/- A text of the proof. -/
set_option linter.all false
set_option maxRecDepth 100000
set_option maxHeartbeats 2000000
namespace Go.P
open Go.Sim (Ex gC CK)
structure YZ where
 eC:Int
 bU:Int
 deriving DecidableEq,Inhabited
def YZ.g (x:YZ):aA PV:=[i64 x.eC,i64 x.bU]
structure YL where
 nO:Int
 fK:Int
 deriving DecidableEq,Inhabited
def YL.g (x:YL):aA PV:=[i64 x.nO,i64 x.fK]
structure YF where
 ID:YZ
 Gy:Int
 deriving DecidableEq,Inhabited
def YF.g (x:YF):aA PV:=[i64 x.ID.eC,i64 x.ID.bU,i64 x.Gy]
structure YJ where
 ID:YZ
 vG:ByteArray
 gG:YL
 dN:List YF
 deriving Inhabited
def YJ.g (x:YJ):aA PV:=[i64 x.ID.eC,i64 x.ID.bU,.v (.string x.vG),i64 x.gG.nO,i64 x.gG.fK,.is 3 (List.map YF.g x.dN)]
structure Y6 where
 c0:Int
 c1:Int
 c2:Int
 c3:Int
 c4:Int
 c5:Int
 deriving DecidableEq,Inhabited
def Y6.g (x:Y6):aA PV:=[i64 x.c0,i64 x.c1,i64 x.c2,i64 x.c3,i64 x.c4,i64 x.c5]
structure YX where
 fJ:Int
 Unit:Int
 aX:Y6
 deriving DecidableEq,Inhabited
def YX.g (x:YX):aA PV:=[i64 x.fJ,i64 x.Unit,i64 x.aX.c0,i64 x.aX.c1,i64 x.aX.c2,i64 x.aX.c3,i64 x.aX.c4,i64 x.aX.c5]
structure YT where
 At:Int
 Gz:Int
 wY1:Bool
 deriving DecidableEq,Inhabited
def YT.g (x:YT):aA PV:=[i64 x.At,i64 x.Gz,bv x.wY1]
structure YC where
 At:Int
 Gy:Int
 deriving DecidableEq,Inhabited
def YC.g (x:YC):aA PV:=[i64 x.At,i64 x.Gy]
structure YA where
 Log:Int
 wS:Int
 deriving DecidableEq,Inhabited
def YA.g (x:YA):aA PV:=[i64 x.Log,i64 x.wS]
structure YH where
 tY:Int
 sN:Int
 nK:Int
 deriving DecidableEq,Inhabited
def YH.g (x:YH):aA PV:=[i64 x.tY,i64 x.sN,i64 x.nK]
structure YB where
 gP:YH
 iV1:Bool
 iS1:Int
 deriving DecidableEq,Inhabited
def YB.g (x:YB):aA PV:=[i64 x.gP.tY,i64 x.gP.sN,i64 x.gP.nK,bv x.iV1,i64 x.iS1]
structure YD where
 gP:YH
 Log:Int
 iU1:Bool
 deriving DecidableEq,Inhabited
def YD.g (x:YD):aA PV:=[i64 x.gP.tY,i64 x.gP.sN,i64 x.gP.nK,i64 x.Log,bv x.iU1]
structure YY where
 qE:ByteArray
 Ca:Int
 deriving DecidableEq,Inhabited
def YY.g (x:YY):aA PV:=[.v (.string x.qE),i64 x.Ca]
structure YE where
 ID:YZ
 eM:Int
 Value:YA
 gO:List YB
 hZ:List YD
 gL:Int
 pJ:Int
 mY:Int
 eD:List YY
 Uv:Int
 Uw:Int
 deriving Inhabited
def YE.g (x:YE):aA PV:=[i64 x.ID.eC,i64 x.ID.bU,i64 x.eM,i64 x.Value.Log,i64 x.Value.wS,.is 5 (List.map YB.g x.gO),.is 5 (List.map YD.g x.hZ),i64 x.gL,i64 x.pJ,i64 x.mY,.is 2 (List.map YY.g x.eD),i64 x.Uv,i64 x.Uw]
structure YU where
 kQ:Int
 fJ:Int
 hY:Int
 iW:Int
 deriving DecidableEq,Inhabited
def YU.g (x:YU):aA PV:=[i64 x.kQ,i64 x.fJ,i64 x.hY,i64 x.iW]
structure YO where
 aU:List YE
 fO:List YU
 deriving Inhabited
def YO.g (x:YO):aA PV:=[.is 13 (List.map YE.g x.aU),.is 4 (List.map YU.g x.fO)]
structure YW where
 iB:List YC
 aK:List YO
 deriving Inhabited
def YW.g (x:YW):aA PV:=[.is 2 (List.map YC.g x.iB),.is 2 (List.map YO.g x.aK)]
structure YM where
 ID:YZ
 dE:YX
 kP:Int
 kB:Int
 dK:Bool
 bL:Int
 bM:Int
 pK:Int
 iM:Int
 nF:Int
 nP:Int
 dJ:ByteArray
 fW:List YT
 aI:List YW
 deriving Inhabited
def YM.g (x:YM):aA PV:=[i64 x.ID.eC,i64 x.ID.bU,i64 x.dE.fJ,i64 x.dE.Unit,i64 x.dE.aX.c0,i64 x.dE.aX.c1,i64 x.dE.aX.c2,i64 x.dE.aX.c3,i64 x.dE.aX.c4,i64 x.dE.aX.c5,i64 x.kP,i64 x.kB,bv x.dK,i64 x.bL,i64 x.bM,i64 x.pK,i64 x.iM,i64 x.nF,i64 x.nP,.v (.string x.dJ),.is 3 (List.map YT.g x.fW),.is 2 (List.map YW.g x.aI)]
structure YN where
 ID:YZ
 eM:Int
 gV:YZ
 To:YZ
 deriving DecidableEq,Inhabited
def YN.g (x:YN):aA PV:=[i64 x.ID.eC,i64 x.ID.bU,i64 x.eM,i64 x.gV.eC,i64 x.gV.bU,i64 x.To.eC,i64 x.To.bU]
structure Y0 where
 fL:ByteArray
 dT:Bool
 bQ:List YJ
 aE:List YM
 bD:List YN
 jV:List YZ
 deriving Inhabited
def Y0.g (x:Y0):aA PV:=[.v (.string x.fL),bv x.dT,.is 6 (List.map YJ.g x.bQ),.is 22 (List.map YM.g x.aE),.is 7 (List.map YN.g x.bD),.is 2 (List.map YZ.g x.jV)]
structure YV where
 kC:Int
 iT1:YZ
 deriving DecidableEq,Inhabited
def YV.g (x:YV):aA PV:=[i64 x.kC,i64 x.iT1.eC,i64 x.iT1.bU]
structure YI where
 name:ByteArray
 letter:Int
 line:Int
 octaves:Int
 middle:Int
 sharps:Int
 flats:Int
 deriving DecidableEq,Inhabited
def YI.g (x:YI):aA PV:=[.v (.string x.name),.v (.int .u8 x.letter),i64 x.line,i64 x.octaves,i64 x.middle,i64 x.sharps,i64 x.flats]
structure Y9 where
 c0:YI
 c1:YI
 c2:YI
 c3:YI
 c4:YI
 c5:YI
 c6:YI
 c7:YI
 c8:YI
 deriving DecidableEq,Inhabited
def Y9.g (x:Y9):aA PV:=[.v (.string x.c0.name),.v (.int .u8 x.c0.letter),i64 x.c0.line,i64 x.c0.octaves,i64 x.c0.middle,i64 x.c0.sharps,i64 x.c0.flats,.v (.string x.c1.name),.v (.int .u8 x.c1.letter),i64 x.c1.line,i64 x.c1.octaves,i64 x.c1.middle,i64 x.c1.sharps,i64 x.c1.flats,.v (.string x.c2.name),.v (.int .u8 x.c2.letter),i64 x.c2.line,i64 x.c2.octaves,i64 x.c2.middle,i64 x.c2.sharps,i64 x.c2.flats,.v (.string x.c3.name),.v (.int .u8 x.c3.letter),i64 x.c3.line,i64 x.c3.octaves,i64 x.c3.middle,i64 x.c3.sharps,i64 x.c3.flats,.v (.string x.c4.name),.v (.int .u8 x.c4.letter),i64 x.c4.line,i64 x.c4.octaves,i64 x.c4.middle,i64 x.c4.sharps,i64 x.c4.flats,.v (.string x.c5.name),.v (.int .u8 x.c5.letter),i64 x.c5.line,i64 x.c5.octaves,i64 x.c5.middle,i64 x.c5.sharps,i64 x.c5.flats,.v (.string x.c6.name),.v (.int .u8 x.c6.letter),i64 x.c6.line,i64 x.c6.octaves,i64 x.c6.middle,i64 x.c6.sharps,i64 x.c6.flats,.v (.string x.c7.name),.v (.int .u8 x.c7.letter),i64 x.c7.line,i64 x.c7.octaves,i64 x.c7.middle,i64 x.c7.sharps,i64 x.c7.flats,.v (.string x.c8.name),.v (.int .u8 x.c8.letter),i64 x.c8.line,i64 x.c8.octaves,i64 x.c8.middle,i64 x.c8.sharps,i64 x.c8.flats]
structure YK where
 s':Y0
 rule:Int
 list:List YV
 deriving Inhabited
def YK.g (x:YK):aA PV:=[.v (.string x.s'.fL),bv x.s'.dT,.is 6 (List.map YJ.g x.s'.bQ),.is 22 (List.map YM.g x.s'.aE),.is 7 (List.map YN.g x.s'.bD),.is 2 (List.map YZ.g x.s'.jV),i64 x.rule,.is 3 (List.map YV.g x.list)]
structure Gr where
 c0:Int
 c1:Int
 c2:Int
 c3:Int
 c4:Int
 c5:Int
 c6:Int
 deriving DecidableEq,Inhabited
def Gr.g (x:Gr):aA PV:=[i64 x.c0,i64 x.c1,i64 x.c2,i64 x.c3,i64 x.c4,i64 x.c5,i64 x.c6]
structure YP where
 eM:Int
 uD2:Int
 eW:Int
 bV:Int
 fU:Int
 pI:Int
 rE1:Int
 deriving DecidableEq,Inhabited
def YP.g (x:YP):aA PV:=[i64 x.eM,i64 x.uD2,i64 x.eW,i64 x.bV,i64 x.fU,i64 x.pI,i64 x.rE1]
structure YQ where
 bV:Int
 At:Int
 eW:Int
 fU:Int
 deriving DecidableEq,Inhabited
def YQ.g (x:YQ):aA PV:=[i64 x.bV,i64 x.At,i64 x.eW,i64 x.fU]
structure YS where
 eM:Int
 gV:YQ
 To:YQ
 deriving DecidableEq,Inhabited
def YS.g (x:YS):aA PV:=[i64 x.eM,i64 x.gV.bV,i64 x.gV.At,i64 x.gV.eW,i64 x.gV.fU,i64 x.To.bV,i64 x.To.At,i64 x.To.eW,i64 x.To.fU]
structure YG where
 started:Bool
 body:Int
 used:Int
 ending:Int
 ended:Bool
 passes:Int
 deriving DecidableEq,Inhabited
def YG.g (x:YG):aA PV:=[bv x.started,i64 x.body,i64 x.used,i64 x.ending,bv x.ended,i64 x.passes]
structure lH where
 id:YZ
 metre:YX
 length:Int
 fifths:Int
 start:Bool
 end':Int
 endings:Int
 jump:Int
 labels:Int
 swing:Int
 lineBreaking:Int
 rehearsal:ByteArray
 deriving DecidableEq,Inhabited
def lH.g (x:lH):aA PV:=[i64 x.id.eC,i64 x.id.bU,i64 x.metre.fJ,i64 x.metre.Unit,i64 x.metre.aX.c0,i64 x.metre.aX.c1,i64 x.metre.aX.c2,i64 x.metre.aX.c3,i64 x.metre.aX.c4,i64 x.metre.aX.c5,i64 x.length,i64 x.fifths,bv x.start,i64 x.end',i64 x.endings,i64 x.jump,i64 x.labels,i64 x.swing,i64 x.lineBreaking,.v (.string x.rehearsal)]
def lK:Qs (eA YP.g) true [.i,.i,.i,.i,.i,.i,.i]:=⟨fun _=>rfl,fun a b=>by
 cases a;cases b
 simp only[zT,eA,YP.g,i64,oU,xR,YP.mk.injEq,zZ2,zJ2,and_self,zT2]
 repeat' (first|rfl|split)
 all_goals simp_all⟩
def mI:Qs (eA YZ.g) true [.i,.i]:=⟨fun _=>rfl,fun a b=>by
 cases a;cases b
 simp only[zT,eA,YZ.g,i64,oU,xR,YZ.mk.injEq,zZ2,zJ2,and_self,zT2]
 repeat' (first|rfl|split)
 all_goals simp_all⟩
abbrev Mw:TD:=(.nd 68 22 [(21,.nd 61 2 [])])
end Go.P
namespace Go.P.K
open Go.Sim (Ex gC CK)
abbrev I {A B:Type} (f:A->B) (l:aA A):aA B:=l.map f
abbrev Q (e:eQ) (h:aJ):Mt:=⟨e,h⟩
abbrev rq (e:eQ) (h:aJ):Ex×Mt:=(.ret,⟨e,h⟩)
abbrev ck (s:Y0) (r:Int) (l:PV):aA PV:=[.v (.string s.fL),bv s.dT,.is 6 (List.map YJ.g s.bQ),.is 22 (List.map YM.g s.aE),.is 7 (List.map YN.g s.bD),.is 2 (List.map YZ.g s.jV),i64 r,l]
abbrev nq (e:eQ) (h:aJ):Ex×Mt:=(.normal,⟨e,h⟩)
abbrev xq (n:Nat) (e:eQ) (h:aJ):Ex×Mt:=(.exit n,⟨e,h⟩)
end Go.P.K
namespace Go.P.K
open Go.Sim (Ex gC CK)
abbrev t (n:Nat):PX:=.t n
abbrev c (n:Int):PX:=.c (.v (.int .i64 n))
abbrev cn:PX:=.c (.v (.slice none 0 0))
abbrev ct:PX:=.c (.v (.bool true))
abbrev cf:PX:=.c (.v (.bool false))
abbrev J (n:Int):Value:=.int .i64 n
abbrev ZS:Value:=.string ⟨#[]⟩
abbrev ZB:Value:=.bool false
abbrev ZN:Value:=.slice none 0 0
abbrev o (d:Nat) (k:gC) (xs:aA PX) (l:aA Nat) (r:jJ):jJ:=.op d k xs l r
abbrev m (d x:Nat) (r:jJ):jJ:=.op d .mov [.t x] [] r
abbrev M (d x:Nat) (r:jJ):jJ:=.op d .mov [.t x] [x] r
abbrev L (d x:Nat) (r:jJ):jJ:=.op d .loadS [.t x] [x] r
abbrev a (d k x:Nat) (r:jJ):jJ:=.op d (.fad k) [.t x] [] r
abbrev A (d k x:Nat) (r:jJ):jJ:=.op d (.fad k) [.t x] [x] r
abbrev b (d:Nat) (k:BinOp) (xs:aA PX) (l:aA Nat) (r:jJ):jJ:=.op d (.bin k) xs l r
abbrev f (d g:Nat) (xs:aA PX) (l:aA Nat) (r:jJ):jJ:=.op d (.callF g) xs l r
abbrev e (d k x:Nat) (l:aA Nat) (r:jJ):jJ:=.op d (.ext k) [.t x] l r
abbrev O (d:Nat) (k:gC) (x:Nat) (r:jJ):jJ:=.op d k [.t x] [x] r
abbrev B (d:Nat) (k:BinOp) (x:Nat) (n:Int) (r:jJ):jJ:=.op d (.bin k) [.t x,c n] [x] r
abbrev C (d:Nat) (k:BinOp) (x y:Nat) (r:jJ):jJ:=.op d (.bin k) [.t x,.t y] [x,y] r
abbrev U (d:Nat) (k:gC) (l:aA Nat) (r:jJ):jJ:=.op d k (l.map .t) l r
abbrev x (d g:Nat) (w:Bool) (s:jJ) (y:PX) (l:aA Nat) (r:jJ):jJ:=.ifx d g w s y l r
abbrev R (s:jJ) (q:PC):PC:=.seq (.reg s) q
abbrev z0:aA Value:=[ZS,ZB,ZN,ZN,ZN,ZN]
abbrev z1:aA Value:=[J 0,J 0,J 0,J 0,J 0,J 0,J 0]
abbrev z2:aA Value:=[J 0,J 0]
abbrev z3:aA Value:=[J 0,J 0,J 0,J 0,J 0,ZN,ZN,J 0,J 0,J 0,ZN,J 0,J 0]
abbrev z4:aA Value:=[J 0,J 0,ZS,J 0,J 0,ZN]
abbrev z5:aA Value:=[J 0,J 0,J 0,J 0,J 0,J 0,J 0,J 0,J 0,J 0,J 0,J 0,ZB,J 0,J 0,J 0,J 0,J 0,J 0,ZS,ZN,ZN]
abbrev z6:aA Value:=[.map none]
abbrev z7:aA Value:=[ZS,ZB,ZN,ZN,ZN,ZN,J 0,ZN]
abbrev z8:aA Value:=[J 0,J 0,J 0,J 0,J 0,J 0,J 0,J 0,J 0,J 0,J 0,J 0,ZB,J 0,J 0,J 0,J 0,J 0,J 0,ZS]
abbrev z9:aA Value:=[J 0,J 0,J 0]
abbrev z10:aA Value:=[ZB,J 0,J 0,J 0,ZB,J 0]
abbrev z11:aA Value:=[J 0,J 0,J 0,J 0]
abbrev z12:aA Value:=[ZS,.int .u8 0,J 0,J 0,J 0,J 0,J 0]
abbrev z13:aA Value:=[J 0,J 0,J 0,ZB,J 0]
abbrev z14:aA Value:=[J 0,J 0,J 0,J 0,J 0,J 0,J 0,J 0,J 0]
abbrev z15:aA Value:=[.nilFunc,.nilFunc,.nilFunc,.nilFunc,.nilFunc,.nilFunc,.nilFunc]
abbrev z16:aA Value:=[J 0,J 0,ZB]
abbrev z17:aA Value:=[J 0,J 0,J 0,J 0,ZB]
abbrev z19:aA Value:=[J 0,J 0,J 0,J 0,J 0,J 0]
end Go.P.K
namespace Go.P
open Go.Sim (Ex gC CK)
noncomputable section
open K
noncomputable abbrev aP (f s:Nat) (z:Bool):cE:=anF Go.Proofs.Tryz.prog f s z
def zg (l:aA cE) (i:Nat):cE:=(l[i]?).getD default
def p11:cE:=⟨92,[.cellA 4 6,.tmp 5],R (O 2 (.box 27 6) 0<|U 4 (.alloc 27 z0) []<|o 5 .mov [c 0] [5]<|.nil)<|.seq (R (o 16 (.loadA 6) [t 2] [5]<|O 17 (.callF 19) 16<|O 18 (.un .not) 17<|.nil)<|.cond (t 18) (R (U 19 (.build z0 []) []<|.sto (.store 6) [t 4,t 19] [19]<|.laxc 4 2 6<|.laxc 4 3 22<|.laxc 4 4 7<|.laxc 4 5 2<|o 5 .mov [c 24] []<|.nil)<|.ret) (.skip))<|R (U 20 .mkmap []<|M 6 20<|.nil)<|.seq (R (m 21 1<|o 22 (.len 0) [t 21] []<|o 23 .mov [c 0] []<|.nil)<|.block 0 (.loop [1,2,4,6,21,22,23] [1,2,4,6] (R (b 24 .lss [t 23,t 22] []<|.nil)<|.seq (.cond (t 24) (.skip) (.exit 0))<|.seq (.block 1 (R (o 25 (.iad 2) [t 21,t 23] []<|O 26 (.loadA 2) 25<|U 8 (.alloc 51 z2) []<|.sto (.store 2) [t 8,t 26] [26]<|.nil)<|.reg<|m 27 6<|O 28 (.loadA 2) 8<|.sto (.mapup true [.i,.i]) [t 27,t 28,ct] [27,28]<|.nil))<|.reg<|B 29 .add 23 1<|M 23 29<|.nil)))<|R (o 30 (.loadA 6) [t 2] []<|.up 40<|O 31 (.callF 12) 30<|U 9 (.alloc 27 z0) []<|.sto (.store 6) [t 9,t 31] [31]<|.nil)<|.seq (R (M 32 1<|o 33 (.len 0) [t 32] []<|o 34 .mov [c 0] []<|.nil)<|.block 2 (.loop [2,4,6,9,32,33,34] [4,5,9] (.seq (R (b 35 .lss [t 34,t 33] []<|.nil)<|.seq (.cond (t 35) (.skip) (.seq (.reg<|.gc [4,9] .nil)<|.exit 2))<|.seq (.block 3 (R (o 36 (.iad 2) [t 32,t 34] []<|O 37 (.loadA 2) 36<|U 11 (.alloc 51 z2) []<|.sto (.store 2) [t 11,t 37] [37]<|.nil)<|R (o 39 (.loadA 6) [t 2] []<|O 40 (.loadA 2) 11<|U 41 (.callF 13) [39,40]<|M 38 41<|e 42 0 38 []<|O 43 (.ext 1) 38<|U 12 (.alloc 47 z1) []<|.sto (.store 7) [t 12,t 42] [42]<|M 13 43<|.nil)<|.seq (R (M 44 13<|O 45 (.un .not) 44<|M 46 45<|x 50 46 false (a 47 0 12<|L 48 47<|B 49 .neq 48 4<|.nil) (t 49) [46]<|.nil)<|.cond (t 50) (R (U 51 (.build z0 []) []<|.sto (.store 6) [t 4,t 51] [51]<|.laxc 4 2 6<|.laxc 4 3 22<|.laxc 4 4 7<|.laxc 4 5 2<|o 5 .mov [c 8] []<|.nil)<|.seq (.reg<|.gc [4,5] .nil)<|.ret) (.skip))<|.seq (R (a 52 4 12<|L 53 52<|B 54 .neq 53 1<|.nil)<|.cond (t 54) (R (U 55 (.build z0 []) []<|.sto (.store 6) [t 4,t 55] [55]<|.laxc 4 2 6<|.laxc 4 3 22<|.laxc 4 4 7<|.laxc 4 5 2<|o 5 .mov [c 10] []<|.nil)<|.seq (.reg<|.gc [4,5] .nil)<|.ret) (.skip))<|.seq (.seq (.regD 3 (a 56 3 2<|L 57 56<|a 58 3 12<|L 59 58<|U 60 (.iad 22) [57,59]<|A 61 21 60<|L 62 61<|a 63 2 12<|L 64 63<|U 65 (.iad 2) [62,64]<|A 66 1 65<|L 67 66<|o 68 (.iad 2) [t 67,c 1] [67]<|A 69 0 68<|L 70 69<|o 71 (.len 0) [t 70] []<|o 72 .mov [c 0] []<|.nil) [0,1,0,4,15,31,63,0,128,511,1023,2047,4095,8191,16383,32767,0])<|.block 4 (.loop [2,4,6,9,12,32,33,34,70,71,72] [2,4,5,6,9,12,32,33,34] (R (b 73 .lss [t 72,t 71] []<|.nil)<|.seq (.cond (t 73) (.skip) (.exit 4))<|.seq (.block 5 (R (o 74 (.iad 13) [t 70,t 72] []<|O 75 (.loadA 13) 74<|U 15 (.alloc 102 z3) []<|.sto (.store 13) [t 15,t 75] [75]<|.nil)<|R (m 76 6<|A 77 0 15<|O 78 (.loadA 2) 77<|U 79 (.lookup true [.i,.i] (.v (.bool false)) false) [76,78]<|O 80 (.un .not) 79<|.nil)<|.cond (t 80) (R (U 81 (.build z0 []) []<|.sto (.store 6) [t 4,t 81] [81]<|.laxc 4 2 6<|.laxc 4 3 22<|.laxc 4 4 7<|.laxc 4 5 2<|o 5 .mov [c 10] []<|.nil)<|.seq (.reg<|.gc [4,5] .nil)<|.ret) (.skip)))<|.reg<|B 82 .add 72 1<|M 72 82<|.nil)))<|.reg<|o 83 (.loadA 6) [t 9] []<|a 84 3 12<|L 85 84<|A 86 2 12<|L 87 86<|f 88 36 [t 83,t 85,t 87,.c (.fn 37 [] [])] [83,85,87]<|.sto (.store 6) [t 9,t 88] [88]<|.nil))<|.reg<|B 89 .add 34 1<|M 34 89<|.nil) (.reg<|.gc [2,4,6,9,32,33,34] .nil))))<|R (O 90 (.loadA 6) 9<|.fz 90 (some 2)<|.fz 90 (some 3)<|.fz 90 (some 4)<|.up 80<|O 91 (.callF 16) 90<|.sto (.store 6) [t 4,t 91] [91]<|o 5 .mov [c 0] []<|.nil)<|.ret,true⟩
def Cn:PC:=R (U 6 (.alloc 47 z1) []<|.sto (.store 7) [t 6,t 13] [13]<|.nil)<|.reg<|M 7 14<|.nil
def Co:PC:=.block 1 (.seq (.regD 3 (M 15 7<|O 16 .nilc 15<|O 17 (.loadA 2) 16<|O 18 (.loadA 2) 3<|U 19 (.eqA false [.i,.i]) [17,18]<|.nil) [0,1,3,0,15])<|.cond (t 19) (R (O 20 (.loadA 7) 6<|.sto (.store 7) [t 4,t 20] [4,20]<|.sto (.store 1) [t 5,ct] [5]<|.nil)<|.ret) (.skip))
def p13:cE:=⟨22,[.cellA 4 7,.cellS 5],R (O 2 (.box 27 6) 0<|O 3 (.box 51 2) 1<|U 4 (.alloc 47 z1) []<|U 5 (.alloc 4 [ZB]) []<|.nil)<|.seq (R (o 8 (.loadA 2) [t 3] []<|U 9 (.build z2 []) []<|U 10 (.eqA false [.i,.i]) [8,9]<|.nil)<|.cond (t 10) (R (U 11 (.build z1 []) []<|.sto (.store 7) [t 4,t 11] [11]<|.sto (.store 1) [t 5,cf] []<|.nil)<|.ret) (.skip))<|.seq (R (O 12 (.callF 42) 2<|.nil)<|.block 0 (.rangeF 22 [3,4,5] (t 12) [13,14] Cn Co))<|R (U 21 (.build z1 []) []<|.sto (.store 7) [t 4,t 21] [21]<|.sto (.store 1) [t 5,cf] []<|.nil)<|.ret,true⟩
def p15:cE:=⟨37,[.tmp 4],R (O 2 (.box 57 2) 0<|o 4 .mov [cf] [4]<|.nil)<|.seq (R (o 5 .mov [c 0] [4]<|.nil)<|.block 0 (.loop [1,2,5] [4] (.seq (R (m 8 5<|a 9 0 2<|L 10 9<|O 11 (.len 0) 10<|C 12 .lss 8 11<|.nil)<|.cond (t 12) (.skip) (.exit 0))<|.seq (.block 1 (R (o 6 .mov [cf] []<|.nil)<|.seq (R (o 7 .mov [c 0] []<|.nil)<|.block 2 (.loop [1,2,5,6,7] [1,2,5,6] (.seq (R (m 15 7<|m 16 1<|O 17 (.len 0) 16<|C 18 .lss 15 17<|.nil)<|.cond (t 18) (.skip) (.exit 2))<|.seq (.block 3 (.regD 3 (M 21 6<|M 22 21<|x 34 22 false (m 23 1<|m 24 7<|U 25 (.iad 2) [23,24]<|O 26 (.loadA 2) 25<|a 27 0 2<|L 28 27<|m 29 5<|U 30 (.iad 13) [28,29]<|A 31 0 30<|O 32 (.loadA 2) 31<|U 33 (.eqA false [.i,.i]) [26,32]<|.nil) (t 33) [22]<|M 6 34<|.nil) [0,1,3,3,15,31,3,67,3,451,963,1987,4095,8191,16383]))<|.reg<|M 19 7<|B 20 .add 19 1<|M 7 20<|.nil)))<|R (M 35 6<|O 36 (.un .not) 35<|.nil)<|.cond (t 36) (R (o 4 .mov [cf] []<|.nil)<|.ret) (.skip)))<|.reg<|M 13 5<|B 14 .add 13 1<|M 5 14<|.nil)))<|R (o 4 .mov [ct] []<|.nil)<|.ret,true⟩
def Cp:PC:=R (U 5 (.alloc 47 z1) []<|.sto (.store 7) [t 5,t 11] [11]<|.nil)<|.reg<|M 6 12<|.nil
def Cq:PC:=.block 1 (R (A 13 0 5<|L 14 13<|B 15 .eql 14 4<|.nil)<|.condJ [] (t 15) (.regD 3 (L 16 4<|M 17 6<|O 18 .nilc 17<|O 19 (.loadA 2) 18<|.sto (.mapup true [.i,.i]) [t 16,t 19,ct] [16,19]<|.nil) [0,0,2,6,15]) (.skip))
def p16:cE:=⟨26,[.cellA 2 6],R (O 1 (.box 27 6) 0<|U 2 (.alloc 27 z0) []<|.nil)<|R (O 7 (.loadA 6) 1<|O 8 (.callF 12) 7<|.fz 8 (some 2)<|.fz 8 (some 3)<|U 3 (.alloc 27 z0) []<|.sto (.store 6) [t 3,t 8] [8]<|.nil)<|R (U 9 .mkmap []<|U 4 (.alloc 95 z6) []<|.sto (.store 1) [t 4,t 9] [9]<|.nil)<|.seq (R (f 10 42 [t 3] []<|.nil)<|.block 0 (.rangeF 26 [4] (t 10) [11,12] Cp Cq))<|R (a 20 4 3<|L 21 20<|O 22 (.mkfn (.func 51) 0) 4<|U 23 (.callF 50) [21,22]<|a 24 4 3<|.sto (.store 1) [t 24,t 23] [23,24]<|.nil)<|R (O 25 (.loadA 6) 3<|.sto (.store 6) [t 2,t 25] [25]<|.nil)<|.ret,true⟩
def p43:cE:=⟨31,[.tmp 4],R (O 2 (.box 109 6) 0<|O 3 (.box 109 6) 1<|o 4 .mov [cf] [4]<|.nil)<|R (o 5 (.fad 0) [t 2] [4]<|O 6 (.loadA 2) 5<|a 7 0 3<|O 8 (.loadA 2) 7<|U 9 (.eqA false [.i,.i]) [6,8]<|M 10 9<|x 16 10 true (a 11 2 2<|L 12 11<|a 13 2 3<|L 14 13<|C 15 .eql 12 14<|.nil) (t 15) [10]<|M 17 16<|x 23 17 true (a 18 3 2<|O 19 (.loadA 2) 18<|a 20 3 3<|O 21 (.loadA 2) 20<|U 22 (.eqA false [.i,.i]) [19,21]<|.nil) (t 22) [17]<|M 24 23<|x 30 24 true (A 25 5 2<|L 26 25<|A 27 5 3<|L 28 27<|U 29 (.callF 44) [26,28]<|.nil) (t 29) [2,3,24]<|M 4 30<|.nil)<|.ret,true⟩
def p44:cE:=⟨26,[.tmp 4],R (o 4 .mov [cf] [4]<|.nil)<|.seq (R (o 6 .mov [t 0] [4]<|O 7 (.len 0) 6<|m 8 1<|O 9 (.len 0) 8<|C 10 .neq 7 9<|.nil)<|.cond (t 10) (R (o 4 .mov [cf] []<|.nil)<|.ret) (.skip))<|.seq (R (m 11 0<|O 12 (.len 0) 11<|o 13 .mov [c 0] []<|.nil)<|.block 0 (.loop [0,1,12,13] [4] (R (b 14 .lss [t 13,t 12] []<|.nil)<|.seq (.cond (t 14) (.skip) (.exit 0))<|.seq (.block 1 (R (m 15 13<|M 5 15<|.nil)<|.seq (.regD 3 (m 16 0<|m 17 5<|U 18 (.iad 3) [16,17]<|O 19 (.loadA 3) 18<|m 20 1<|M 21 5<|U 22 (.iad 3) [20,21]<|O 23 (.loadA 3) 22<|U 24 (.eqA true [.i,.i,.i]) [19,23]<|.nil) [0,0,3,7,0,0,48,112,255])<|.cond (t 24) (R (o 4 .mov [cf] []<|.nil)<|.ret) (.skip)))<|.reg<|B 25 .add 13 1<|M 13 25<|.nil)))<|R (o 4 .mov [ct] []<|.nil)<|.ret,true⟩
def p47:cE:=⟨24,[.tmp 4],R (O 2 (.box 68 22) 0<|O 3 (.box 68 22) 1<|o 4 .mov [cf] [4]<|.nil)<|.seq (.regD 3 (o 5 (.loadA 22) [t 2] [4]<|O 6 (.callF 70) 5<|o 7 (.loadA 22) [t 3] []<|O 8 (.callF 70) 7<|U 9 (.eqA false [.i,.i,.i,.i,.i,.i,.i,.i,.i,.i,.i,.i,.b,.i,.i,.i,.i,.i,.i,.s]) [6,8]<|M 10 9<|x 16 10 true (a 11 20 2<|L 12 11<|a 13 20 3<|L 14 13<|U 15 (.callF 71) [12,14]<|.nil) (t 15) [10]<|M 17 16<|x 23 17 true (A 18 21 2<|L 19 18<|A 20 21 3<|L 21 20<|f 22 72 [t 19,t 21,.c (.fn 73 [] [])] [19,21]<|.nil) (t 22) [2,3,17]<|M 4 23<|.nil) [0,1,0,7,15,31,63,127,63,319,1023,2047,4095,8191,16383,8191,40959,131071,262143,524287])<|.ret,true⟩
def p48:cE:=⟨26,[.tmp 4],R (o 4 .mov [cf] [4]<|.nil)<|.seq (R (o 6 .mov [t 0] [4]<|O 7 (.len 0) 6<|m 8 1<|O 9 (.len 0) 8<|C 10 .neq 7 9<|.nil)<|.cond (t 10) (R (o 4 .mov [cf] []<|.nil)<|.ret) (.skip))<|.seq (R (m 11 0<|O 12 (.len 0) 11<|o 13 .mov [c 0] []<|.nil)<|.block 0 (.loop [0,1,12,13] [4] (R (b 14 .lss [t 13,t 12] []<|.nil)<|.seq (.cond (t 14) (.skip) (.exit 0))<|.seq (.block 1 (R (m 15 13<|M 5 15<|.nil)<|.seq (.regD 3 (m 16 0<|m 17 5<|U 18 (.iad 7) [16,17]<|O 19 (.loadA 7) 18<|m 20 1<|M 21 5<|U 22 (.iad 7) [20,21]<|O 23 (.loadA 7) 22<|U 24 (.eqA true [.i,.i,.i,.i,.i,.i,.i]) [19,23]<|.nil) [0,0,3,7,0,0,48,112,255])<|.cond (t 24) (R (o 4 .mov [cf] []<|.nil)<|.ret) (.skip)))<|.reg<|B 25 .add 13 1<|M 13 25<|.nil)))<|R (o 4 .mov [ct] []<|.nil)<|.ret,true⟩
def p49:cE:=⟨26,[.tmp 4],R (o 4 .mov [cf] [4]<|.nil)<|.seq (R (o 6 .mov [t 0] [4]<|O 7 (.len 0) 6<|m 8 1<|O 9 (.len 0) 8<|C 10 .neq 7 9<|.nil)<|.cond (t 10) (R (o 4 .mov [cf] []<|.nil)<|.ret) (.skip))<|.seq (R (m 11 0<|O 12 (.len 0) 11<|o 13 .mov [c 0] []<|.nil)<|.block 0 (.loop [0,1,12,13] [4] (R (b 14 .lss [t 13,t 12] []<|.nil)<|.seq (.cond (t 14) (.skip) (.exit 0))<|.seq (.block 1 (R (m 15 13<|M 5 15<|.nil)<|.seq (.regD 3 (m 16 0<|m 17 5<|U 18 (.iad 2) [16,17]<|O 19 (.loadA 2) 18<|m 20 1<|M 21 5<|U 22 (.iad 2) [20,21]<|O 23 (.loadA 2) 22<|U 24 (.eqA true [.i,.i]) [19,23]<|.nil) [0,0,3,7,0,0,48,112,255])<|.cond (t 24) (R (o 4 .mov [cf] []<|.nil)<|.ret) (.skip)))<|.reg<|B 25 .add 13 1<|M 13 25<|.nil)))<|R (o 4 .mov [ct] []<|.nil)<|.ret,true⟩
def p50:cE:=⟨42,[.tmp 4],R (o 4 .mov [cn] [4]<|.nil)<|R (o 8 .mov [t 0] [4]<|m 9 1<|U 10 (.callF 74) [8,9]<|M 5 10<|.nil)<|.seq (R (m 11 5<|B 12 .eql 11 (-1)<|.nil)<|.cond (t 12) (R (M 13 0<|M 4 13<|.nil)<|.ret) (.skip))<|.seq (R (m 14 5<|B 15 .add 14 1<|M 6 15<|.nil)<|.block 0 (.loop [0,1,5,6] [0,5] (.seq (R (m 16 6<|m 17 0<|O 18 (.len 0) 17<|C 19 .lss 16 18<|.nil)<|.cond (t 19) (.skip) (.exit 0))<|.seq (.block 1 (R (m 22 0<|m 23 6<|U 24 (.iad 7) [22,23]<|O 25 (.loadA 7) 24<|U 7 (.alloc 114 z1) []<|.sto (.store 7) [t 7,t 25] [25]<|.nil)<|R (m 26 1<|o 27 (.loadA 7) [t 7] []<|U 28 .callV [26,27]<|O 29 (.un .not) 28<|.nil)<|.condJ [0,1,5,6] (t 29) (R (m 30 0<|m 31 5<|O 32 (.loadA 7) 7<|U 33 (.iad 7) [30,31]<|.sto (.store 7) [t 33,t 32] [32,33]<|.nil)<|.reg<|M 34 5<|B 35 .add 34 1<|M 5 35<|.nil) (.skip)))<|.reg<|M 20 6<|B 21 .add 20 1<|M 6 21<|.nil)))<|R (m 36 0<|m 37 5<|.clr 38 7 z1 (t 36) (t 37) [36,37,38]<|.nil)<|R (M 39 0<|M 40 5<|U 41 (.slc 7 false true false) [39,40]<|M 4 41<|.nil)<|.ret,true⟩
def p51:cE:=⟨16,[.tmp 3],R (O 2 (.box 114 7) 0<|o 3 .mov [cf] [3]<|.nil)<|R (o 4 .loadS [t 1] [3]<|a 5 3 2<|O 6 (.loadA 2) 5<|U 7 (.lookup true [.i,.i] (.v (.bool false)) false) [4,6]<|O 8 (.un .not) 7<|M 9 8<|x 15 9 false (L 10 1<|A 11 5 2<|O 12 (.loadA 2) 11<|U 13 (.lookup true [.i,.i] (.v (.bool false)) false) [10,12]<|O 14 (.un .not) 13<|.nil) (t 14) [1,2,9]<|M 3 15<|.nil)<|.ret,true⟩
def p71:cE:=⟨26,[.tmp 4],R (o 4 .mov [cf] [4]<|.nil)<|.seq (R (o 6 .mov [t 0] [4]<|O 7 (.len 0) 6<|m 8 1<|O 9 (.len 0) 8<|C 10 .neq 7 9<|.nil)<|.cond (t 10) (R (o 4 .mov [cf] []<|.nil)<|.ret) (.skip))<|.seq (R (m 11 0<|O 12 (.len 0) 11<|o 13 .mov [c 0] []<|.nil)<|.block 0 (.loop [0,1,12,13] [4] (R (b 14 .lss [t 13,t 12] []<|.nil)<|.seq (.cond (t 14) (.skip) (.exit 0))<|.seq (.block 1 (R (m 15 13<|M 5 15<|.nil)<|.seq (.regD 3 (m 16 0<|m 17 5<|U 18 (.iad 3) [16,17]<|O 19 (.loadA 3) 18<|m 20 1<|M 21 5<|U 22 (.iad 3) [20,21]<|O 23 (.loadA 3) 22<|U 24 (.eqA true [.i,.i,.b]) [19,23]<|.nil) [0,0,3,7,0,0,48,112,255])<|.cond (t 24) (R (o 4 .mov [cf] []<|.nil)<|.ret) (.skip)))<|.reg<|B 25 .add 13 1<|M 13 25<|.nil)))<|R (o 4 .mov [ct] []<|.nil)<|.ret,true⟩
def p76:cE:=⟨86,[],R (U 8 .mkmap []<|M 2 8<|.nil)<|.seq (R (m 9 0<|O 10 .nilc 9<|A 11 0 10<|O 12 (.loadA 6) 11<|O 13 (.callF 108) 12<|o 14 (.len 0) [t 13] []<|o 15 .mov [c 0] []<|.nil)<|.block 0 (.loop [0,2,13,14,15] [0] (R (b 16 .lss [t 15,t 14] []<|.nil)<|.seq (.cond (t 16) (.skip) (.exit 0))<|.seq (.block 1 (R (o 17 (.iad 2) [t 13,t 15] []<|O 18 (.loadA 2) 17<|U 4 (.alloc 51 z2) []<|.sto (.store 2) [t 4,t 18] [18]<|.nil)<|.seq (.regD 3 (m 19 0<|o 20 (.loadA 2) [t 4] []<|O 21 (.callF 109) 20<|O 22 (.un .not) 21<|M 23 22<|x 27 23 false (m 24 2<|o 25 (.loadA 2) [t 4] []<|U 26 (.lookup true [.i,.i] (.v (.bool false)) false) [24,25]<|.nil) (t 26) [23]<|M 28 27<|x 39 28 false (a 29 1 4<|L 30 29<|m 31 0<|O 32 .nilc 31<|A 33 0 32<|O 34 (.loadA 6) 33<|a 35 0 4<|L 36 35<|U 37 (.callF 7) [34,36]<|C 38 .gtr 30 37<|.nil) (t 38) [28]<|o 40 (.loadA 2) [t 4] []<|f 41 104 [t 19,t 39,t 40] [19,39,40,41]<|.nil) [0,0,2,6,14,30,30,126,254,510,1022,2046,1022,5118,13310,29694,1022,66558,259070,524286,1048574,0,4194303])<|.reg<|o 42 .mov [t 2] [41]<|O 43 (.loadA 2) 4<|.sto (.mapup true [.i,.i]) [t 42,t 43,ct] [42,43]<|.nil))<|.reg<|B 44 .add 15 1<|M 15 44<|.nil)))<|R (o 5 .mov [cf] []<|.nil)<|.seq (R (m 45 0<|O 46 .nilc 45<|A 47 0 46<|A 48 5 47<|L 49 48<|o 50 (.len 0) [t 49] []<|o 51 .mov [c 0] []<|.nil)<|.block 2 (.loop [0,5,49,50,51] [0,5] (R (b 52 .lss [t 51,t 50] []<|.nil)<|.seq (.cond (t 52) (.skip) (.exit 2))<|.seq (.block 3 (R (m 53 51<|o 54 (.iad 2) [t 49,t 51] []<|O 55 (.loadA 2) 54<|U 7 (.alloc 51 z2) []<|M 6 53<|.sto (.store 2) [t 7,t 55] [55]<|.nil)<|.regD 3 (M 56 5<|M 57 56<|x 61 57 false (o 58 (.loadA 2) [t 7] []<|O 59 (.callF 109) 58<|O 60 (.un .not) 59<|.nil) (t 60) [57]<|M 62 61<|x 80 62 false (m 63 6<|B 64 .gtr 63 0<|M 65 64<|x 79 65 true (A 66 0 7<|L 67 66<|m 68 0<|O 69 .nilc 68<|A 70 0 69<|A 71 5 70<|L 72 71<|M 73 6<|B 74 .sub 73 1<|U 75 (.iad 2) [72,74]<|A 76 0 75<|L 77 76<|C 78 .leq 67 77<|.nil) (t 78) [6,7,65]<|.nil) (t 79) [6,7,62]<|M 5 80<|.nil) [0,1,3,7,15,31,63,127,255,511,1023,2047,1023,5119,13311,29695,62463,1023,132095,521215,1045503,2094079,4194303,8388607,16777215,33554431]))<|.reg<|B 81 .add 51 1<|M 51 81<|.nil)))<|.reg<|M 82 0<|M 83 5<|U 84 (.build z2 []) []<|f 85 104 [t 82,t 83,t 84] [82,83,84,85]<|.nil,true⟩
def iU2:cE:=⟨26,[.tmp 4],R (o 4 .mov [cf] [4]<|.nil)<|.seq (R (o 6 .mov [t 0] [4]<|O 7 (.len 0) 6<|m 8 1<|O 9 (.len 0) 8<|C 10 .neq 7 9<|.nil)<|.cond (t 10) (R (o 4 .mov [cf] []<|.nil)<|.ret) (.skip))<|.seq (R (m 11 0<|O 12 (.len 0) 11<|o 13 .mov [c 0] []<|.nil)<|.block 0 (.loop [0,1,12,13] [4] (R (b 14 .lss [t 13,t 12] []<|.nil)<|.seq (.cond (t 14) (.skip) (.exit 0))<|.seq (.block 1 (R (m 15 13<|M 5 15<|.nil)<|.seq (.regD 3 (m 16 0<|m 17 5<|U 18 (.iad 2) [16,17]<|O 19 (.loadA 2) 18<|m 20 1<|M 21 5<|U 22 (.iad 2) [20,21]<|O 23 (.loadA 2) 22<|U 24 (.eqA true [.i,.i]) [19,23]<|.nil) [0,0,3,7,0,0,48,112,255])<|.cond (t 24) (R (o 4 .mov [cf] []<|.nil)<|.ret) (.skip)))<|.reg<|B 25 .add 13 1<|M 13 25<|.nil)))<|R (o 4 .mov [ct] []<|.nil)<|.ret,true⟩
def Lo:PC:=.reg<|M 5 8<|.nil
def Lp:PC:=.block 1 (.regD 3 (o 9 .loadS [t 3] []<|M 10 5<|O 11 .nilc 10<|O 12 (.loadA 2) 11<|O 13 (.buildSl 51 2 1 z2 [0]) 12<|U 14 (.append 51 2 16 z2 false) [9,13]<|.sto (.store 1) [t 3,t 14] [3,14]<|.nil) [0,0,2,6,14,31,63])
def iV2:cE:=⟨16,[.tmp 2],R (O 1 (.box 27 6) 0<|o 2 .mov [cn] [2]<|.nil)<|R (o 3 (.alloc 25 [ZN]) [] [2]<|.ownc 3 0 51 2 false<|.nil)<|.seq (R (O 6 (.callF 42) 1<|.nil)<|.block 0 (.rangeF 16 [3] (t 6) [7,8] Lo Lp))<|R (L 15 3<|M 2 15<|.nil)<|.ret,true⟩
def iW2:cE:=⟨55,[.tmp 5],R (O 4 (.box 68 22) 1<|o 5 .mov [cf] [5]<|.nil)<|R (o 12 (.loadA 22) [t 4] [5]<|O 13 (.callF 114) 12<|M 11 13<|e 14 0 11 []<|O 15 (.ext 1) 11<|o 6 .mov [t 14] [6,14]<|o 7 .mov [t 15] [6,15]<|.nil)<|R (M 16 7<|B 17 .neq 16 0<|M 18 17<|x 23 18 false (a 19 11 4<|L 20 19<|f 21 106 [t 20,c (-7),c 7] [20]<|O 22 (.un .not) 21<|.nil) (t 22) [18]<|M 8 23<|.nil)<|.seq (R (o 24 .loadS [t 2] []<|O 25 .nilc 24<|A 26 0 25<|A 27 2 26<|L 28 27<|o 29 (.len 0) [t 28] []<|o 30 .mov [c 0] []<|.nil)<|.block 0 (.loop [2,4,8,28,29,30] [8] (R (b 31 .lss [t 30,t 29] []<|.nil)<|.seq (.cond (t 31) (.skip) (.exit 0))<|.seq (.block 1 (R (o 32 (.iad 6) [t 28,t 30] []<|O 33 (.loadA 6) 32<|U 10 (.alloc 109 z4) []<|.sto (.store 6) [t 10,t 33] [33]<|.nil)<|R (o 34 .loadS [t 2] []<|O 35 .nilc 34<|A 36 0 35<|A 37 1 36<|L 38 37<|M 39 38<|x 42 39 true (m 40 8<|O 41 (.un .not) 40<|.nil) (t 41) [39]<|.nil)<|.condJ [2,4,8,28,29,30] (t 42) (R (a 44 11 4<|L 45 44<|A 46 3 10<|O 47 (.loadA 2) 46<|U 48 (.callF 116) [45,47]<|M 43 48<|e 49 0 43 [49]<|e 50 1 43 [43,49]<|M 7 50<|.nil)<|.reg<|M 51 7<|B 52 .neq 51 0<|M 8 52<|.nil) (.skip)))<|.reg<|B 53 .add 30 1<|M 30 53<|.nil)))<|R (M 54 8<|M 5 54<|.nil)<|.ret,true⟩
def yO1:cE:=⟨108,[],R (U 10 (.alloc 166 [ZS,J 0]) []<|.nil)<|R (U 11 (.alloc 47 z1) []<|.nil)<|.seq (R (M 18 0<|O 19 .nilc 18<|A 20 0 19<|A 21 3 20<|L 22 21<|o 23 (.len 0) [t 22] []<|o 24 .mov [c 0] []<|.nil)<|.block 0 (.loop [1,2,3,4,10,11,22,23,24] [4,10,11] (R (b 25 .lss [t 24,t 23] []<|.nil)<|.seq (.cond (t 25) (.skip) (.exit 0))<|.seq (.block 1 (R (m 26 24<|o 27 (.iad 22) [t 22,t 24] []<|O 28 (.loadA 22) 27<|U 13 (.alloc 68 z5) []<|M 12 26<|.sto (.store 22) [t 13,t 28] [28]<|.nil)<|.seq (R (m 29 1<|a 30 21 13<|L 31 30<|O 32 (.len 0) 31<|C 33 .geq 29 32<|M 34 33<|x 44 34 false (m 35 2<|a 36 21 13<|L 37 36<|m 38 1<|U 39 (.iad 2) [37,38]<|A 40 1 39<|L 41 40<|O 42 (.len 0) 41<|C 43 .geq 35 42<|.nil) (t 43) [34]<|.nil)<|.cond (t 44) (.exit 1) (.skip))<|R (A 45 21 13<|L 46 45<|m 47 1<|U 48 (.iad 2) [46,47]<|A 49 1 48<|L 50 49<|m 51 2<|U 52 (.iad 2) [50,51]<|A 53 0 52<|L 54 53<|o 55 (.len 0) [t 54] []<|o 56 .mov [c 0] []<|.nil)<|.block 2 (.loop [1,2,3,4,10,11,12,22,23,24,54,55,56] [1,2,3,4,10,11,22,23,24] (R (b 57 .lss [t 56,t 55] []<|.nil)<|.seq (.cond (t 57) (.skip) (.exit 2))<|.seq (.block 3 (R (m 58 56<|o 59 (.iad 13) [t 54,t 56] []<|O 60 (.loadA 13) 59<|U 15 (.alloc 102 z3) []<|M 14 58<|.sto (.store 13) [t 15,t 60] [60]<|.nil)<|.seq (R (o 61 (.loadA 13) [t 15] []<|m 62 3<|U 63 (.callF 189) [61,62]<|.nil)<|.cond (t 63) (.exit 3) (.skip))<|.seq (.regX 3 (m 64 1<|m 65 12<|m 66 2<|M 67 14<|o 68 (.build z1 [(0,1),(2,1),(3,1),(4,1),(5,1)]) [c 4,t 64,t 65,t 66,t 67] [64,65,66,67]<|A 69 10 15<|o 70 .loadS [t 69] []<|m 71 3<|U 72 (.iad 2) [70,71]<|o 73 (.loadA 2) [t 72] []<|U 16 (.alloc 47 z1) []<|U 17 (.alloc 166 [ZS,J 0]) []<|.sto (.store 7) [t 16,t 68] [68]<|.sto (.store 2) [t 17,t 73] [73]<|.nil) [0,0,0,0,15,0,32,0,224,480,0,0,3103,8191] [(6,12,69,16),(9,12,72,16)])<|.seq (R (a 74 1 10<|L 75 74<|B 76 .eql 75 1<|M 77 76<|x 81 77 true (a 78 0 17<|L 79 78<|b 80 .eql [t 79,.c (.v (.string ⟨#[]⟩))] [79]<|.nil) (t 80) [77]<|.nil)<|.condJ [1,2,3,4,10,11,12,16,17,22,23,24,54,55,56] (t 81) (.reg<|m 82 4<|o 83 (.loadA 7) [t 11] []<|.sto (.mapup true [.i,.i,.i,.i,.i,.i,.i]) [t 82,t 83,ct] [82,83]<|.nil) (.skip))<|.seq (R (a 84 0 17<|L 85 84<|b 86 .eql [t 85,.c (.v (.string ⟨#[]⟩))] [85]<|M 87 86<|x 91 87 true (a 88 1 17<|L 89 88<|B 90 .eql 89 2<|.nil) (t 90) [87]<|M 92 91<|x 96 92 true (a 93 1 10<|L 94 93<|B 95 .neq 94 2<|.nil) (t 95) [92]<|.nil)<|.condJ [1,2,3,4,10,11,12,16,17,22,23,24,54,55,56] (t 96) (.reg<|m 97 4<|o 98 (.loadA 7) [t 16] []<|.sto (.mapup true [.i,.i,.i,.i,.i,.i,.i]) [t 97,t 98,ct] [97,98]<|.nil) (.skip))<|.regX 3 (O 99 (.loadA 2) 17<|o 100 (.loadA 7) [t 16] []<|.sto (.store 2) [t 10,t 99] [99]<|.sto (.store 7) [t 11,t 100] [100]<|.nil) [0,0,1,7] [(1,2,16,10)]))<|.reg<|B 101 .add 56 1<|M 56 101<|.nil))))<|.reg<|B 102 .add 24 1<|M 24 102<|.nil)))<|R (A 103 1 10<|L 104 103<|B 105 .eql 104 1<|.nil)<|.condJ [] (t 105) (.reg<|M 106 4<|O 107 (.loadA 7) 11<|.sto (.mapup true [.i,.i,.i,.i,.i,.i,.i]) [t 106,t 107,ct] [106,107]<|.nil) (.skip),true⟩
def iX2:cE:=⟨9,[.tmp 5],R (O 3 (.box 47 7) 0<|o 4 (.box 102 13) [t 1] [1,4]<|o 5 .mov [cf] [4,5]<|.nil)<|R (o 6 .loadS [t 2] [2,5]<|O 7 (.loadA 7) 3<|U 8 (.lookup true [.i,.i,.i,.i,.i,.i,.i] (.v (.bool false)) false) [6,7]<|M 5 8<|.nil)<|.ret,true⟩
def iY2:cE:=⟨15,[.tmp 4],R (O 2 (.box 102 13) 0<|O 3 (.box 102 13) 1<|o 4 .mov [cf] [4]<|.nil)<|R (o 5 (.fad 0) [t 2] [4]<|O 6 (.loadA 2) 5<|a 7 0 3<|O 8 (.loadA 2) 7<|U 9 (.eqA false [.i,.i]) [6,8]<|M 10 9<|x 14 10 true (O 11 (.loadA 13) 2<|O 12 (.loadA 13) 3<|U 13 (.callF 176) [11,12]<|.nil) (t 13) [2,3,10]<|M 4 14<|.nil)<|.ret,true⟩
def iZ2:cE:=⟨73,[.tmp 4],R (O 2 (.box 102 13) 0<|O 3 (.box 102 13) 1<|o 4 .mov [cf] [4]<|.nil)<|R (o 5 (.fad 2) [t 2] [4]<|L 6 5<|a 7 2 3<|L 8 7<|C 9 .eql 6 8<|M 10 9<|x 16 10 true (a 11 3 2<|O 12 (.loadA 2) 11<|a 13 3 3<|O 14 (.loadA 2) 13<|U 15 (.eqA false [.i,.i]) [12,14]<|.nil) (t 15) [10]<|M 17 16<|x 23 17 true (a 18 7 2<|L 19 18<|a 20 7 3<|L 21 20<|C 22 .eql 19 21<|.nil) (t 22) [17]<|M 24 23<|x 30 24 true (a 25 8 2<|L 26 25<|a 27 8 3<|L 28 27<|C 29 .eql 26 28<|.nil) (t 29) [24]<|M 31 30<|x 37 31 true (a 32 9 2<|L 33 32<|a 34 9 3<|L 35 34<|C 36 .eql 33 35<|.nil) (t 36) [31]<|M 38 37<|x 44 38 true (a 39 11 2<|L 40 39<|a 41 11 3<|L 42 41<|C 43 .eql 40 42<|.nil) (t 43) [38]<|M 45 44<|x 51 45 true (a 46 12 2<|L 47 46<|a 48 12 3<|L 49 48<|C 50 .eql 47 49<|.nil) (t 50) [45]<|M 52 51<|x 58 52 true (a 53 5 2<|L 54 53<|a 55 5 3<|L 56 55<|U 57 (.callF 217) [54,56]<|.nil) (t 57) [52]<|M 59 58<|x 65 59 true (a 60 6 2<|L 61 60<|a 62 6 3<|L 63 62<|U 64 (.callF 218) [61,63]<|.nil) (t 64) [59]<|M 66 65<|x 72 66 true (A 67 10 2<|L 68 67<|A 69 10 3<|L 70 69<|U 71 (.callF 219) [68,70]<|.nil) (t 71) [2,3,66]<|M 4 72<|.nil)<|.ret,true⟩
def jA2:cE:=⟨9,[.tmp 3],R (O 2 (.box 135 5) 0<|o 3 .mov [cf] [3]<|.nil)<|R (o 4 (.fad 0) [t 2] [2,3]<|O 5 (.loadA 3) 4<|A 6 0 1<|O 7 (.loadA 3) 6<|U 8 (.eqA false [.i,.i,.i]) [5,7]<|M 3 8<|.nil)<|.ret,true⟩
def jB2:cE:=⟨19,[.tmp 4],R (O 2 (.box 102 13) 0<|o 4 .mov [cf] [4]<|.nil)<|R (o 5 .mov [t 1] [4]<|a 6 10 2<|L 7 6<|O 8 (.len 0) 7<|C 9 .geq 5 8<|M 10 9<|x 18 10 false (A 11 10 2<|L 12 11<|M 13 1<|U 14 (.iad 2) [12,13]<|O 15 (.loadA 2) 14<|U 16 (.build [ZS,J 0] []) []<|U 17 (.eqA false [.s,.i]) [15,16]<|.nil) (t 17) [1,2,10]<|M 4 18<|.nil)<|.ret,true⟩
def jC2:cE:=⟨26,[.tmp 4],R (o 4 .mov [cf] [4]<|.nil)<|.seq (R (o 6 .mov [t 0] [4]<|O 7 (.len 0) 6<|m 8 1<|O 9 (.len 0) 8<|C 10 .neq 7 9<|.nil)<|.cond (t 10) (R (o 4 .mov [cf] []<|.nil)<|.ret) (.skip))<|.seq (R (m 11 0<|O 12 (.len 0) 11<|o 13 .mov [c 0] []<|.nil)<|.block 0 (.loop [0,1,12,13] [4] (R (b 14 .lss [t 13,t 12] []<|.nil)<|.seq (.cond (t 14) (.skip) (.exit 0))<|.seq (.block 1 (R (m 15 13<|M 5 15<|.nil)<|.seq (.regD 3 (m 16 0<|m 17 5<|U 18 (.iad 4) [16,17]<|O 19 (.loadA 4) 18<|m 20 1<|M 21 5<|U 22 (.iad 4) [20,21]<|O 23 (.loadA 4) 22<|U 24 (.eqA true [.i,.i,.i,.i]) [19,23]<|.nil) [0,0,3,7,0,0,48,112,255])<|.cond (t 24) (R (o 4 .mov [cf] []<|.nil)<|.ret) (.skip)))<|.reg<|B 25 .add 13 1<|M 13 25<|.nil)))<|R (o 4 .mov [ct] []<|.nil)<|.ret,true⟩
def jD2:cE:=⟨26,[.tmp 4],R (o 4 .mov [cf] [4]<|.nil)<|.seq (R (o 6 .mov [t 0] [4]<|O 7 (.len 0) 6<|m 8 1<|O 9 (.len 0) 8<|C 10 .neq 7 9<|.nil)<|.cond (t 10) (R (o 4 .mov [cf] []<|.nil)<|.ret) (.skip))<|.seq (R (m 11 0<|O 12 (.len 0) 11<|o 13 .mov [c 0] []<|.nil)<|.block 0 (.loop [0,1,12,13] [4] (R (b 14 .lss [t 13,t 12] []<|.nil)<|.seq (.cond (t 14) (.skip) (.exit 0))<|.seq (.block 1 (R (m 15 13<|M 5 15<|.nil)<|.seq (.regD 3 (m 16 0<|m 17 5<|U 18 (.iad 5) [16,17]<|O 19 (.loadA 5) 18<|m 20 1<|M 21 5<|U 22 (.iad 5) [20,21]<|O 23 (.loadA 5) 22<|U 24 (.eqA true [.i,.i,.i,.b,.i]) [19,23]<|.nil) [0,0,3,7,0,0,48,112,255])<|.cond (t 24) (R (o 4 .mov [cf] []<|.nil)<|.ret) (.skip)))<|.reg<|B 25 .add 13 1<|M 13 25<|.nil)))<|R (o 4 .mov [ct] []<|.nil)<|.ret,true⟩
def jE2:cE:=⟨26,[.tmp 4],R (o 4 .mov [cf] [4]<|.nil)<|.seq (R (o 6 .mov [t 0] [4]<|O 7 (.len 0) 6<|m 8 1<|O 9 (.len 0) 8<|C 10 .neq 7 9<|.nil)<|.cond (t 10) (R (o 4 .mov [cf] []<|.nil)<|.ret) (.skip))<|.seq (R (m 11 0<|O 12 (.len 0) 11<|o 13 .mov [c 0] []<|.nil)<|.block 0 (.loop [0,1,12,13] [4] (R (b 14 .lss [t 13,t 12] []<|.nil)<|.seq (.cond (t 14) (.skip) (.exit 0))<|.seq (.block 1 (R (m 15 13<|M 5 15<|.nil)<|.seq (.regD 3 (m 16 0<|m 17 5<|U 18 (.iad 5) [16,17]<|O 19 (.loadA 5) 18<|m 20 1<|M 21 5<|U 22 (.iad 5) [20,21]<|O 23 (.loadA 5) 22<|U 24 (.eqA true [.i,.i,.i,.i,.b]) [19,23]<|.nil) [0,0,3,7,0,0,48,112,255])<|.cond (t 24) (R (o 4 .mov [cf] []<|.nil)<|.ret) (.skip)))<|.reg<|B 25 .add 13 1<|M 13 25<|.nil)))<|R (o 4 .mov [ct] []<|.nil)<|.ret,true⟩
def jF2:cE:=⟨26,[.tmp 4],R (o 4 .mov [cf] [4]<|.nil)<|.seq (R (o 6 .mov [t 0] [4]<|O 7 (.len 0) 6<|m 8 1<|O 9 (.len 0) 8<|C 10 .neq 7 9<|.nil)<|.cond (t 10) (R (o 4 .mov [cf] []<|.nil)<|.ret) (.skip))<|.seq (R (m 11 0<|O 12 (.len 0) 11<|o 13 .mov [c 0] []<|.nil)<|.block 0 (.loop [0,1,12,13] [4] (R (b 14 .lss [t 13,t 12] []<|.nil)<|.seq (.cond (t 14) (.skip) (.exit 0))<|.seq (.block 1 (R (m 15 13<|M 5 15<|.nil)<|.seq (.regD 3 (m 16 0<|m 17 5<|U 18 (.iad 2) [16,17]<|O 19 (.loadA 2) 18<|m 20 1<|M 21 5<|U 22 (.iad 2) [20,21]<|O 23 (.loadA 2) 22<|U 24 (.eqA true [.s,.i]) [19,23]<|.nil) [0,0,3,7,0,0,48,112,255])<|.cond (t 24) (R (o 4 .mov [cf] []<|.nil)<|.ret) (.skip)))<|.reg<|B 25 .add 13 1<|M 13 25<|.nil)))<|R (o 4 .mov [ct] []<|.nil)<|.ret,true⟩
def jG2:cE:=⟨6,[.tmp 2],R (O 1 (.box 166 2) 0<|o 2 .mov [cf] [2]<|.nil)<|R (o 3 (.loadA 2) [t 1] [1,2]<|U 4 (.build [ZS,J 0] []) []<|U 5 (.eqA false [.s,.i]) [3,4]<|M 2 5<|.nil)<|.ret,true⟩
def jH2:cE:=⟨50,[.tmp 2],R (O 1 (.box 64 8) 0<|o 2 .mov [cf] [2]<|.nil)<|.seq (R (o 7 (.fad 2) [t 1] [2]<|O 8 (.loadA 6) 7<|U 9 (.build z19 []) []<|U 10 (.eqA false [.i,.i,.i,.i,.i,.i]) [8,9]<|.nil)<|.cond (t 10) (R (o 2 .mov [ct] []<|.nil)<|.ret) (.skip))<|R (o 3 .mov [c 0] []<|o 4 .mov [c 0] []<|.nil)<|.seq (R (a 11 2 1<|O 12 (.loadA 6) 11<|o 13 .mov [c 0] []<|.nil)<|.block 0 (.loop [1,3,4,12,13] [1,2,3,4] (R (b 14 .lss [t 13,c 6] []<|.nil)<|.seq (.cond (t 14) (.skip) (.exit 0))<|.seq (.block 1 (R (m 15 13<|o 16 (.idxA 6 1 false) [t 12,t 13] []<|M 5 15<|M 6 16<|.nil)<|.block 2 (R (m 18 6<|B 19 .lss 18 0<|M 20 19<|x 23 20 false (m 21 6<|B 22 .gtr 21 64<|.nil) (t 22) [20]<|M 24 23<|x 32 24 false (m 25 6<|B 26 .gtr 25 0<|M 27 26<|x 31 27 true (M 28 5<|m 29 4<|C 30 .neq 28 29<|.nil) (t 30) [5,27]<|.nil) (t 31) [5,24]<|M 17 32<|.nil)<|.cond (t 17) (R (o 2 .mov [cf] []<|.nil)<|.ret) (R (m 34 6<|B 35 .gtr 34 0<|M 33 35<|.nil)<|.condJ [1,3,4,12,13] (t 33) (.reg<|M 36 3<|M 37 6<|C 38 .add 36 37<|M 39 4<|B 40 .add 39 1<|M 3 38<|M 4 40<|.nil) (.skip)))))<|.reg<|B 41 .add 13 1<|M 13 41<|.nil)))<|R (M 42 3<|A 43 0 1<|L 44 43<|C 45 .eql 42 44<|M 46 45<|x 49 46 true (M 47 4<|B 48 .geq 47 2<|.nil) (t 48) [4,46]<|M 2 49<|.nil)<|.ret,true⟩
def Cr:{l:aA cE//l=[aP 4 0x11ed7532111a81b241ef2331ef2321ef234141461113ec998d1111ea1e822111111101876521611111100111102d11c818111010341111ae52212561b81857461b81852e361b81856261b8185404136111001110111111011110102951110341117952212567b1857467b1852e367b1856267b1854041361110111035111015e12010111100037653101100765441876521620481201581b210413d120101100010011103511110351141241210f true,aP 6 0x151221125112122121 true,aP 7 0x11111010101d1201000411a191814000142224121 true,aP 12 0x6f121683ec98ff6446e6a2206d5f2206c5c2206b5b220100110113ec998d1111584d49483f3211a191027d2d12e18c74f171114c12010006321449483f63217000101027d2d12e18c03d191a114110111111112b12010003213281f1e3216000101111001 true,aP 14 0x1583232111115511110105511110105512a5221110106511110105511101041241211 true,aP 18 0x12cb122111145111110451111104511111045111101111111110011025110011111101110101111110111010130011110111010011111010018764321719187643170000111111010185111111010011100643215187643160000111104511111045111105e1201101001110021264314001110011111101018511111101001110043214543140002122121 true,aP 19 0x111121222121 true,aP 23 0x1111110100110003221876340001212212 true,aP 24 0x1110010000100010111011412412 true,aP 32 0x11111111111c1201000311918734000112122121 true,aP 36 0x5f12105e5d2211102d15a1811110304d4b221114a1212d14918110100103ec998d3938220112d122d2c2212b1202b1843211a711411002d11e181101001 true,aP 37 0x1972211111110 true,aP 38 0x71216522011001 true,aP 39 0x3b121110393822011111032a12010002121f1e1d2150001027d2d1c6610401b1a22011011001 true,aP 42 0x121222121 true,aP 45 0x1100111103912011102d1210100006129281f2150001001101612612 true,aP 46 0x1100111103912011102d1210100006129281f2150001001101612612 true,aP 52 0x16d122111145111101111110011111010011100321354314000011110451111104511110291201101001110021231202122121 true,aP 53 0x1111111111111101110101011111010043135431400011100314313002122121 true,aP 54 0x1111111b85f221b81af2210111111111101851111101f51111102e51111110786e221111011100205f5e5d342a100115b594f4d4b493f3d3b392f2d2b291f1d1b29310101010101010101010101010101010101032dc71966114121222121 true,aP 55 0x111212212 true,aP 62 0x11111111011110111002a12101000065431e1d1c140001100001612652254224121 true,aP 64 0x391211102f2e22011111032812010003221d1c1b32500011027913661191240111001 true,aP 69 0x1121488888888882eb2dc2da421111110100100002cf2ce10400111101111111121488888888882bb29828b42111111011101110111010000010001dc1db1bc1bb18c18b76101a2881ff1dc1db1bc1bb18c18b1876101d001111011101110111010001bc1bb18c18b61071dc1db1bc1bb18c18b76101a001111011101110100018c18b1041bc1bb18c18b61070011110111021488888888881a819918f421101110100100010218c18b104001111011111112148888888888785d5b42111111011101001000281f3105584f281f4310180011110111021488888888883c2d2b4211011101001000102281f310500111100 true]}:=by
 apply Subtype.mk
 conv=>rhs;reduce
def p4:cE:=zg Cr.1 0
def p6:cE:=zg Cr.1 1
def p7:cE:=zg Cr.1 2
def p12:cE:=zg Cr.1 3
def p14:cE:=zg Cr.1 4
def p18:cE:=zg Cr.1 5
def p19:cE:=zg Cr.1 6
def p23:cE:=zg Cr.1 7
def p24:cE:=zg Cr.1 8
def p32:cE:=zg Cr.1 9
def p36:cE:=zg Cr.1 10
def p37:cE:=zg Cr.1 11
def p38:cE:=zg Cr.1 12
def p39:cE:=zg Cr.1 13
def p42:cE:=zg Cr.1 14
def p45:cE:=zg Cr.1 15
def p46:cE:=zg Cr.1 16
def p52:cE:=zg Cr.1 17
def p53:cE:=zg Cr.1 18
def p54:cE:=zg Cr.1 19
def p55:cE:=zg Cr.1 20
def p62:cE:=zg Cr.1 21
def p64:cE:=zg Cr.1 22
def p69:cE:=zg Cr.1 23
def Ct:{l:aA cE//l=[aP 70 0x3b12111101010101010101010101001 true,aP 72 0x1100111103912011102d1210100006129281f2150001001101612612 true,aP 73 0x11a323211111551110141241211 true,aP 74 0x11110111000100041187104001412412 true,aP 75 0x2be2bd2bc1df4202ac022111111175111111110751111111110185111111111018511111110011dd69221dd1dc1da1d9421110111111c91a2211114511111045111b9120100018a18918869685f650191ae1ad1ac18a18918869685f6501c0001111111045111110451118d120100069685f650618a18918869685f650190001011111045111106c12010000169685f04000111101592922059584e2d4211111104511111105511110032c12010000129281f0400011110 true,aP 77 0x1a19183211712011110 true,aP 78 0x4a492211113e2b2203e3d3b2f42111110032e12010001c1b1a042b2a291c1b1a07000111f1201000011c1b1a0400011110 true,aP 79 0x43232101 true,aP 80 0x32221 true,aP 81 0x32221 true,aP 82 0x32221 true,aP 83 0x43232101 true,aP 84 0x43232101 true,aP 85 0x4a49483211111113c2c223c3b3a39382f62010001000291e1d42062c291e1d5420180010001e1d204291e1d42060010002021e1d20400111111071200 true,aP 86 0x13d292203d3c3a2e42111110032d121010000029281f305000111101a2221922210110 true,aP 87 0x17c2b227c7b7978421110111011111001100195111100301102511111005511002b2a2965320182b2a2976543201a0002f12101000002b2a293206000111101110110 true,aP 88 0x19f19e7f7e4211111111111111010316c32278322111351110185111103511015b3c225b5a583211101114c121011003f12010003023c3b3a3050001111412412001111111e121e1d220111110 true,aP 89 0x43232101 true,aP 90 0x32221 true,aP 91 0x43232101 true,aP 92 0x11114022412 true,aP 94 0x11114022412 true,aP 97 0x3b1213a39220111101102b2a22011111031c1201000321319187321600010044bd136601d1ce036620401 true,aP 99 0x1111010101131232222121 true]}:=by
 apply Subtype.mk
 conv=>rhs;reduce
def p70:cE:=zg Ct.1 0
def p72:cE:=zg Ct.1 1
def p73:cE:=zg Ct.1 2
def p74:cE:=zg Ct.1 3
def p75:cE:=zg Ct.1 4
def p77:cE:=zg Ct.1 5
def p78:cE:=zg Ct.1 6
def p79:cE:=zg Ct.1 7
def p80:cE:=zg Ct.1 8
def p81:cE:=zg Ct.1 9
def p82:cE:=zg Ct.1 10
def p83:cE:=zg Ct.1 11
def p84:cE:=zg Ct.1 12
def p85:cE:=zg Ct.1 13
def p86:cE:=zg Ct.1 14
def p87:cE:=zg Ct.1 15
def p88:cE:=zg Ct.1 16
def p89:cE:=zg Ct.1 17
def p90:cE:=zg Ct.1 18
def p91:cE:=zg Ct.1 19
def p92:cE:=zg Ct.1 20
def p94:cE:=zg Ct.1 21
def p97:cE:=zg Ct.1 22
def p99:cE:=zg Ct.1 23
def Cu:{l:aA cE//l=[aP 102 0x1100111103912011102d1210100006129281f2150001001101612612 true,aP 103 0x11a323211111551110141241211 true,aP 104 0x2d2b2211111111111110030111 true,aP 105 0x17303211111551110212212 true,aP 106 0x11a203211135111612612 true,aP 107 0x2812211135111103511110351112122121 true,aP 109 0x16122111351112122121 true,aP 110 0x1381c220382f2d2942111010032812101000001c1b1a10500011110 true,aP 111 0x11111117a1b227f1b22111145111101a5117812010002c2b2a646d6c6b2c2b2a6700011111111110019511111110651111035111112f1201000612c2b2a6400011111115125121 true,aP 112 0x1111010112022212 true,aP 113 0x118a6221125111111015f1b1a326a1b1a3211111110111a51101e51111101065111110451133f1210100002c2b2a76563b3a392c2b2a197651a000102f12010007622c2b2a76560001101110114124121 true,aP 114 0x110001100001110111411111000011101010110111011131232222121 true,aP 116 0x11111010010101110100101011111111010001110351111035111103511101010101151254224121 true,aP 117 0x65432111 true,aP 118 0x15022112511212212 true,aP 119 0x150221113511212212 true,aP 120 0x11111117a5a2207a796f5f421110110000035e1210100004a49483a39382a292864101d5a59584a49483a39382a292818641029000114e1210100003a39382a2928410194a49483a39382a292864101d000113e1210100002a29281053a39382a292841019000112e12101000002a292810500011110 true,aP 121 0x111432241221222022 true,aP 122 0x1111111101101101103110100111110110110301100011110451110000111003001110110100111111011121232121 true,aP 123 0x1691a432111145110105c12015b12106421111114c121111111110642311103818222f1822110011111110300001151251211 true,aP 124 0x1111154221a5221101132223121 true,aP 125 0x11114022412 true,aP 126 0x111131223121 true,aP 127 0x11114022412 true]}:=by
 apply Subtype.mk
 conv=>rhs;reduce
def jK2:cE:=zg Cu.1 0
def jL2:cE:=zg Cu.1 1
def yP1:cE:=zg Cu.1 2
def jM2:cE:=zg Cu.1 3
def jN2:cE:=zg Cu.1 4
def jO2:cE:=zg Cu.1 5
def jP2:cE:=zg Cu.1 6
def Lq:cE:=zg Cu.1 7
def jQ2:cE:=zg Cu.1 8
def jR2:cE:=zg Cu.1 9
def jS2:cE:=zg Cu.1 10
def jT2:cE:=zg Cu.1 11
def jU2:cE:=zg Cu.1 12
def vC1:cE:=zg Cu.1 13
def jV2:cE:=zg Cu.1 14
def jW2:cE:=zg Cu.1 15
def Zl:cE:=zg Cu.1 16
def jX2:cE:=zg Cu.1 17
def jY2:cE:=zg Cu.1 18
def jZ2:cE:=zg Cu.1 19
def kA2:cE:=zg Cu.1 20
def kB2:cE:=zg Cu.1 21
def kC2:cE:=zg Cu.1 22
def kD2:cE:=zg Cu.1 23
def Cv:{l:aA cE//l=[aP 128 0x111131223121 true,aP 129 0x14918432111145111972203e19223d1201011111113012c1201011111103001151251211 true,aP 130 0x16122111351112122121 true,aP 131 0x6d12006c1211110110011110101101049121111101010001111010100110301a1200110512512011 true,aP 132 0x3a1211111110101013121a474564745547431c12410010110512512011 true,aP 133 0x11002b62212f62211104511101a5110281201000411d1c1b3400011001141241211 true,aP 136 0x11111111116d1c22111351691b22112511111101591201111114b120101110013c12010111002e12010005422b2a295406000111100145051040193ca405131243222212 true,aP 137 0x11111111032a1201110000000011041241211 true,aP 138 0x11e322111145111110451114124121 true,aP 139 0x4c1214b12042211113f3e2201103b12003a1210100102d12002c1210110011011c1210111011512512011 true,aP 140 0x1612211111107511121232121 true,aP 141 0x15f420421111116511110111101000111110351110185111103511102a51111104511115125121 true,aP 142 0x11c21321111116511110351113123121 true,aP 143 0x11114022412 true,aP 144 0x13b322111105511130112e73311011101029287341101001110351101652261211 true,aP 145 0x1111016d1918327819183211111110111a51101e51111104511111010651134d1210100007149483f75360001011111045111110451116121e622110114124121 true,aP 146 0x119c1922111145111025118918221101155111110451111035111018692c29185f2c1f185d2c1d1822c19286a125912000101011101111111103001110105512d42211135111012912010110111512351211 true,aP 147 0x11110111000100041187104001412412 true,aP 148 0x11110111000100041187104001412412 true,aP 150 0x1f12101e1b2201d182201c5220110110110301 true,aP 157 0x4c32211251101110011103511110351111035111103511110351112122121 true,aP 158 0x11111110011121232121 true,aP 159 0x1100111103912011102d1210100006129281f2150001001101612612 true,aP 161 0x1114022412 true]}:=by
 apply Subtype.mk
 conv=>rhs;reduce
def kE2:cE:=zg Cv.1 0
def kF2:cE:=zg Cv.1 1
def kG2:cE:=zg Cv.1 2
def kH2:cE:=zg Cv.1 3
def kI2:cE:=zg Cv.1 4
def kJ2:cE:=zg Cv.1 5
def yQ1:cE:=zg Cv.1 6
def kK2:cE:=zg Cv.1 7
def kL2:cE:=zg Cv.1 8
def kM2:cE:=zg Cv.1 9
def kN2:cE:=zg Cv.1 10
def kO2:cE:=zg Cv.1 11
def kP2:cE:=zg Cv.1 12
def kQ2:cE:=zg Cv.1 13
def kR2:cE:=zg Cv.1 14
def kS2:cE:=zg Cv.1 15
def kT2:cE:=zg Cv.1 16
def yR1:cE:=zg Cv.1 17
def yS1:cE:=zg Cv.1 18
def yT1:cE:=zg Cv.1 19
def yU1:cE:=zg Cv.1 20
def yV1:cE:=zg Cv.1 21
def kU2:cE:=zg Cv.1 22
def kV2:cE:=zg Cv.1 23
def Cw:{l:aA cE//l=[aP 162 0x15022112511212212 true,aP 163 0x11114022412 true,aP 164 0x1e12111001a120011025113123120 true,aP 165 0x1111010101131232222121 true,aP 166 0x5022112511212212 true,aP 167 0x111862321100001111c12010115125121 true,aP 168 0x11121222121 true,aP 169 0x11114022412 true,aP 170 0x111154225121 true,aP 171 0x11b4324211111551111151235121 true,aP 172 0x111c5221b5221011142224121 true,aP 173 0x1111010110002176530002022212 true,aP 174 0x710321113511412412 true,aP 175 0x15022112511212212 true,aP 177 0x21a274562745527434a1241494822011132211103a3922010321311102c12011010101d12101111045111001 true,aP 178 0x2812211135111103511110351112122121 true,aP 179 0x1111001118124918221101111110101102e1201000212b2a29340001000111000111212212 true,aP 180 0x11003c422111351110110102d5222c5221011101f1201000211c1b1a300010011212212 true,aP 181 0x3a60321111116511011011110101111f12010002021c1b1a0400000011212212 true,aP 182 0x11110111000100041187104001412412 true,aP 183 0x11110111000100041187104001412412 true,aP 184 0x1121222121 true,aP 185 0x1b32321111110101101c511103001141241211 true,aP 186 0x1111111111111111d18531040111111011101001d51110251111111010019511102511111005511181218121 true]}:=by
 apply Subtype.mk
 conv=>rhs;reduce
def kW2:cE:=zg Cw.1 0
def kX2:cE:=zg Cw.1 1
def kY2:cE:=zg Cw.1 2
def kZ2:cE:=zg Cw.1 3
def lA2:cE:=zg Cw.1 4
def lB2:cE:=zg Cw.1 5
def lC2:cE:=zg Cw.1 6
def lD2:cE:=zg Cw.1 7
def lE2:cE:=zg Cw.1 8
def lF2:cE:=zg Cw.1 9
def lG2:cE:=zg Cw.1 10
def lH2:cE:=zg Cw.1 11
def lI2:cE:=zg Cw.1 12
def lJ2:cE:=zg Cw.1 13
def lK2:cE:=zg Cw.1 14
def lL2:cE:=zg Cw.1 15
def lM2:cE:=zg Cw.1 16
def lN2:cE:=zg Cw.1 17
def lO2:cE:=zg Cw.1 18
def lP2:cE:=zg Cw.1 19
def lQ2:cE:=zg Cw.1 20
def lR2:cE:=zg Cw.1 21
def lS2:cE:=zg Cw.1 22
def lT2:cE:=zg Cw.1 23
def Cy:{l:aA cE//l=[aP 187 0x1d12111110 true,aP 190 0x19d1211110111011030189120011011c1207b1c2211011111101111011a182235b1a2211011004e120111011111303d1200111035111012c12010111111512351201 true,aP 191 0x11111100011111101107511101c5111101100011111045111100011110351112122121 true,aP 192 0x13b3232483232111111175111101d511111011075111110110751111412341211 true,aP 193 0x1111422241211 true,aP 194 0x11b32321111116511110141241211 true,aP 195 0x1111422241211 true,aP 196 0x11b32321111116511110141241211 true,aP 197 0x11932321111100751110412341211 true,aP 198 0x1fe121101fc1fb2201101f9121001110111075111110105511101a51103011001be12101001bb12100118e6221111110107511101c51111012b5111003018812107c62211251111001110695f1864106a682205e1200011010311111004c12101111010651111035111001101001e121011103511512512011 true,aP 199 0x11110111000100041187104001412412 true,aP 200 0x1111141223412 true,aP 201 0x111111140224121 true,aP 209 0x11200 true,aP 211 0x11110111000100041187104001412412 true,aP 212 0x1a1210000000000 true,aP 213 0x11110011111101075111103511100011110351112122121 true,aP 214 0x1111121232121 true,aP 215 0x11110111000100041187104001412412 true,aP 216 0x11114531041010076212d12211104511110351101110110522254224121 true,aP 220 0x111001212212 true,aP 221 0x11111111a32219322101112122121 true,aP 222 0x1100011025111025111111011312232222121 true,aP 223 0x5812211135111011003d322111105511101010002122d2c130011000111100011110351112122121 true]}:=by
 apply Subtype.mk
 conv=>rhs;reduce
def lU2:cE:=zg Cy.1 0
def lV2:cE:=zg Cy.1 1
def lW2:cE:=zg Cy.1 2
def lX2:cE:=zg Cy.1 3
def lY2:cE:=zg Cy.1 4
def lZ2:cE:=zg Cy.1 5
def mA2:cE:=zg Cy.1 6
def mB2:cE:=zg Cy.1 7
def mC2:cE:=zg Cy.1 8
def mD2:cE:=zg Cy.1 9
def mE2:cE:=zg Cy.1 10
def mF2:cE:=zg Cy.1 11
def mG2:cE:=zg Cy.1 12
def yW1:cE:=zg Cy.1 13
def mH2:cE:=zg Cy.1 14
def mI2:cE:=zg Cy.1 15
def mJ2:cE:=zg Cy.1 16
def mK2:cE:=zg Cy.1 17
def mL2:cE:=zg Cy.1 18
def mM2:cE:=zg Cy.1 19
def mN2:cE:=zg Cy.1 20
def mO2:cE:=zg Cy.1 21
def mP2:cE:=zg Cy.1 22
def mQ2:cE:=zg Cy.1 23
def Cz:{l:aA cE//l=[aP 225 0x1111145310410101110111522254224121 true,aP 226 0x12c31321111451111004511110045111002122121 true,aP 227 0x15022112511212212 true,aP 228 0x111111111101412341211 true,aP 229 0x11110001102511212212 true,aP 230 0x11b32321111116511110141241211 true,aP 231 0x11202211120222212 true,aP 232 0x1111132223121 true,aP 237 0x11121222121 true,aP 238 0x1110110111014531040111111453104101011111001111045110014531040111100145310401110251151254224121 true,aP 239 0x1111111111000311876340001212212 true,aP 240 0x1111103b3a22111110011100003011003143030016121212212 true,aP 241 0x1710321113511412412 true,aP 243 0x111111111111120211011111120211001112021100 true,aP 252 0x171221111116511112122121 true,aP 253 0x11012531040117a1a22791a2210111111125310410101110110101110110125310403c422111104511118511111125310410101102b12101000032131f1e1d14000131232222121 true,aP 259 0x11112f2d222e2a29322e28220111101f121010000311b1a1934000117121212212 true,aP 260 0x11111111111453104101011101111011100007543382f2e7050001111011453104101011105125422412 true,aP 261 0x111111111014531040111110110101000185433a3918105001011101145310410102962228622101105125422412 true,aP 263 0x111011110101110351101131232222121 true,aP 264 0x1100111000018e7221101111018511030011101055111110451111104511111001075111103511101045111039121010000412d2c2b6106000011144bd056610400110001102511412412 true,aP 265 0x1111110001101001110111100011025117127622612 true,aP 266 0x111011001111010030107621d1918300111111100011011101111000110030110019187641a1918210601100291201107127622612 true,aP 267 0x1111010101131232222121 true]}:=by
 apply Subtype.mk
 conv=>rhs;reduce
def mR2:cE:=zg Cz.1 0
def mS2:cE:=zg Cz.1 1
def mT2:cE:=zg Cz.1 2
def mU2:cE:=zg Cz.1 3
def mV2:cE:=zg Cz.1 4
def mW2:cE:=zg Cz.1 5
def mX2:cE:=zg Cz.1 6
def mY2:cE:=zg Cz.1 7
def mZ2:cE:=zg Cz.1 8
def nA2:cE:=zg Cz.1 9
def nB2:cE:=zg Cz.1 10
def nC2:cE:=zg Cz.1 11
def nD2:cE:=zg Cz.1 12
def nE2:cE:=zg Cz.1 13
def nF2:cE:=zg Cz.1 14
def nG2:cE:=zg Cz.1 15
def nH2:cE:=zg Cz.1 16
def nI2:cE:=zg Cz.1 17
def nJ2:cE:=zg Cz.1 18
def nK2:cE:=zg Cz.1 19
def nL2:cE:=zg Cz.1 20
def nM2:cE:=zg Cz.1 21
def nN2:cE:=zg Cz.1 22
def nO2:cE:=zg Cz.1 23
def zA7:{l:aA cE//l=[aP 268 0x111100003d422484221111110101951101d5110311038121110000111011111001a51110321221203121 true,aP 269 0x111112122121 true,aP 270 0x15022112511212212 true,aP 271 0x11111011010000111110110141241211 true,aP 272 0x111111011111101311000111111110131b1a19541611001e12010005421b1a195416000105125422412 true,aP 273 0x1111110111100411c1b43400111011112122121 true,aP 274 0x119213211111017511104124121 true,aP 275 0x1101111103010011020412 true]}:=by
 apply Subtype.mk
 conv=>rhs;reduce
def yX1:cE:=zg zA7.1 0
def nP2:cE:=zg zA7.1 1
def nQ2:cE:=zg zA7.1 2
def nR2:cE:=zg zA7.1 3
def nS2:cE:=zg zA7.1 4
def nT2:cE:=zg zA7.1 5
def nU2:cE:=zg zA7.1 6
def nV2:cE:=zg zA7.1 7
end
noncomputable section
def pl:aA (aB cE):=[none,none,none,none,some p4,none,some p6,some p7,none,none,none,some p11,some p12,some p13,some p14,some p15,some p16,none,some p18,some p19,none,none,none,some p23,some p24,none,none,none,none,none,none,none,some p32,none,none,none,some p36,some p37,some p38,some p39,none,none,some p42,some p43,some p44,some p45,some p46,some p47,some p48,some p49,some p50,some p51,some p52,some p53,some p54,some p55,none,none,none,none,none,none,some p62,none,some p64,none,none,none,none,some p69,some p70,some p71,some p72,some p73,some p74,some p75,some p76,some p77,some p78,some p79,some p80,some p81,some p82,some p83,some p84,some p85,some p86,some p87,some p88,some p89,some p90,some p91,some p92,none,some p94,none,none,some p97,none,some p99,none,some iU2,some jK2,some jL2,some yP1,some jM2,some jN2,some jO2,some iV2,some jP2,some Lq,some jQ2,some jR2,some jS2,some jT2,some iW2,some jU2,some vC1,some jV2,some jW2,some Zl,some jX2,some jY2,some jZ2,some kA2,some kB2,some kC2,some kD2,some kE2,some kF2,some kG2,some kH2,some kI2,some kJ2,some yO1,some iX2,some yQ1,some kK2,some kL2,some kM2,some kN2,some kO2,some kP2,some kQ2,some kR2,some kS2,some kT2,some yR1,some yS1,none,some yT1,none,none,none,none,none,none,some yU1,some yV1,some kU2,some iY2,some kV2,some kW2,some kX2,some kY2,some kZ2,some lA2,some lB2,some lC2,some lD2,some lE2,some lF2,some lG2,some lH2,some lI2,some lJ2,some iZ2,some lK2,some lL2,some lM2,some lN2,some lO2,some lP2,some lQ2,some lR2,some lS2,some lT2,some lU2,some jA2,some jB2,some lV2,some lW2,some lX2,some lY2,some lZ2,some mA2,some mB2,some mC2,some mD2,some mE2,some mF2,some mG2,none,none,none,none,none,none,none,some yW1,some jC2,some mH2,some mI2,some mJ2,some mK2,some mL2,some mM2,some jD2,some jE2,some jF2,some mN2,some mO2,some mP2,some mQ2,some jG2,some mR2,some mS2,some mT2,some mU2,some mV2,some mW2,some mX2,some mY2,none,none,none,some jH2,some mZ2,some nA2,some nB2,some nC2,some nD2,none,some nE2,none,none,none,none,none,none,none,none,some nF2,some nG2,none,none,none,none,none,some nH2,some nI2,some nJ2,none,some nK2,some nL2,some nM2,some nN2,some nO2,some yX1,some nP2,some nQ2,some nR2,some nS2,some nT2,some nU2,some nV2]
def Jm:wL:=fun f=>(pl[f]?).join
def mQ (f:Nat):Bool:=vB f [12,16,36,37,39,40,42,50,65,66,69,75,76,77,78,79,80,81,82,83,84,85,86,87,88,89,90,91,104,110,117,120,134,136,268]
def NW1 (f:Nat):Bool:=vB f [12,16,36,39,40,42,65,66,136]
def Hj (f:Nat):Bool:=vB f [12,16,39,40,65,66]
def clN:Nat->aB (Nat×Nat):=fun f=>bif Nat.beq f 40 then some (114,7)else bif Nat.beq f 65 then some (68,22)else bif Nat.beq f 66 then some (61,2)else none
def wO:NB:=⟨NW1,Hj,Jl (qW clN) (oE clN)⟩
def fL1 (f e:Nat):Bool:=vB f [41,67,68,100,202,203,204]&&Nat.beq e (match f with|41=>2|67=>3|68=>3|100=>2|202=>5|203=>5|204=>2|_=>0)
def lS1 (n k l:Int) (h:aA YB):YE:=⟨⟨0,n⟩,k,⟨l,0⟩,h,[],0,0,0,[],0,0⟩
def vD1:aA YB:=[⟨⟨0,0,4⟩,false,0⟩]
def yY1 (n:Int) (a b:YE):YM:=⟨⟨0,n⟩,⟨1,4,⟨0,0,0,0,0,0⟩⟩,0,0,false,0,0,0,0,0,0,⟨#[]⟩,[],[⟨[],[⟨[a],[]⟩]⟩,⟨[],[⟨[b],[]⟩]⟩]⟩
def fM1:Y0:=⟨⟨#[]⟩,false,[⟨⟨0,1⟩,⟨#[]⟩,⟨0,0⟩,[⟨⟨0,2⟩,1⟩]⟩,⟨⟨0,3⟩,⟨#[]⟩,⟨0,0⟩,[⟨⟨0,4⟩,1⟩]⟩],[yY1 5 (lS1 6 3 0 []) (lS1 7 1 2 vD1),yY1 8 (lS1 9 1 2 vD1) (lS1 10 1 2 vD1)],[],[⟨0,10⟩]⟩
def iG {A:Type} (l:aA A):aB (aA A):=bif Nat.ble l.length 1073741824 then some l else none
def Wx (k:Bool):zE:=fun f xs=>match xs with
 |[.is e rows]=>bif fL1 f e&&Nat.ble rows.length 1073741824 then some (.is e rows)else none
 |[]=>bif k&&Nat.beq f 5 then some (bv true)else none
 |_=>none
def Tv {k:Bool} {d N:Nat} {ps:aA Nat} {a b:PC} (h:okL mQ N ps a b=true):okG (Xd (Wx k) mQ wO Jm d).is N ps a b=some ():=by
 unfold okG;rw[show(Xd (Wx k) mQ wO Jm d).is=mQ from Wt d,yY2 h]
noncomputable abbrev OD (k:Bool) (d:Nat):zE:=Od (Wx k) mQ wO Jm d
noncomputable abbrev XD (k:Bool) (d:Nat):NX:=Xd (Wx k) mQ wO Jm d
def od {k:Bool} {f:Nat} {fn:cE} (hn:mQ f=false) (h:Jm f=some fn) (a:fn.frz=true) {d:Nat} {xs:aA PV}:OD k (d+1) f xs=Gm (OD k d) (XD k d) fn xs some:=yE1 hn h a d xs
def oe {k:Bool} {f:Nat} {fn:cE} {d:Nat} {xs:aA PV} {A:Type} {F:aB A} {e:A->PV} (h:(mQ f,Jm f,fn.frz)=(false,some fn,true)) (hb:Gm (OD k d) (XD k d) fn xs some=F.map e):OD k (d+1) f xs=F.map e:=by
 simp only[zU2]at h;rw[od h.1 h.2.1 h.2.2];exact hb
def xd {k:Bool} {f:Nat} {fn:cE} (h:Jm f=some fn) {d:Nat} {xs:aA PV} {hs:aJ} {m:Nat} {nw:Bool}:gJ (XD k (d+1)) f xs hs m nw=eZ1 (OD k d) (XD k d) fn xs hs m (Fe hs nw m):=yF1 h d xs hs m _
def yd {kf:Bool} {k d:Nat} {xs:aA PV} {hs:aJ} {m:Nat}:vD (XD kf (d+1)) k xs hs m=lE1 (OD kf d) (XD kf d) k xs hs m (Fe hs false m):=rfl
def jS {k:Bool} (f d:Nat) {A:Type} (e:Nat) (c:A->aA PV) (l:aA A) (h1:mQ f=false) (h2:Jm f=none) (a:fL1 f e=true):OD k d f [.is e (l.map c)]=(iG l).map fun l=>.is e (l.map c):=by
 rw[OD,Wu h1 h2];unfold iG;simp only[Wx,a,cU3,bI3];cases Nat.ble l.length 1073741824<;>rfl
def fN1 (d:Nat):OD true d 5 []=(some true).map fun y=>bv y:=by
 rw[OD,Wu rfl rfl];rfl
def Qx {kf:Bool} (f d ty e:Nat) {A:Type} (c:A->aA PV) (l:aA A) (m:Nat) (h1:Jm f=none) (h2:clN f=some (ty,e)) (a:Nat.beq e e=true) (b:∀rows,Fe [] true m (.own m) [(m,.lst ty e true rows)] (m+1)=some (.own m,[(m,.lst ty e true rows)],m+1)):gJ (XD kf (d+1)) f [.is e (l.map c)] [] m true=(iG l).map fun l=>(.own m,[(m,.lst ty e true (l.map c))],m+1):=by
 show(Xd (Wx kf) mQ wO Jm (d+1)).run f _ _ _ _=_
 rw[Ln h1];simp only[wO,Jl,qW,oE,h2,yU2,a,cU3,bI3];unfold iG;cases Nat.ble l.length 1073741824;rfl;exact b _
def Qy {kf:Bool} (f d ty e:Nat) (ks:aA (Nat×TD)) {A:Type} (c:A->aA PV) (l:aA A) (m k:Nat) (h1:Jm f=none) (h2:clN f=some (ty,e)) (a:(Nat.beq k k&&(Nat.beq ty ty&&Nat.beq e e))=true) (b:∀rows,Fe [(k,.tr (.nd ty e ks) rows [])] true m (.own k) [(k,.tr (.nd ty e ks) rows [])] m=some (.own k,[(k,.tr (.nd ty e ks) rows [])],m)):gJ (XD kf (d+1)) f [.own k] [(k,.tr (.nd ty e ks) (l.map c) [])] m true=(iG l).map fun l=>(.own k,[(k,.tr (.nd ty e ks) (l.map c) [])],m):=by
 show(Xd (Wx kf) mQ wO Jm (d+1)).run f _ _ _ _=_
 rw[Ln h1];simp only[yS2]at a;simp only[wO,Jl,qW,oE,h2,yU2,a.1,a.2.1,a.2.2,cU3,bI3];unfold iG;cases Nat.ble l.length 1073741824;rfl;exact b _
def Bp {kf:Bool} (f d ty e:Nat) {A:Type} (c:A->aA PV) (l:aA A) (m:Nat) (h1:Jm f=none) (h2:clN f=some (ty,e)) (a:Nat.beq e e=true) (b:∀rows,Fe [] true m (.own m) [(m,.lst ty e true rows)] (m+1)=some (.own m,[(m,.lst ty e true rows)],m+1)):gJ (XD kf (d+1)) f [.zs 1 e (l.map c)] [] m true=(iG l).map fun l=>(.own m,[(m,.lst ty e true (l.map c))],m+1):=by
 show(Xd (Wx kf) mQ wO Jm (d+1)).run f _ _ _ _=_
 rw[Ln h1];simp only[wO,Jl,qW,oE,h2,yU2,a,cU3,bI3];unfold iG;cases Nat.ble l.length 1073741824;rfl;exact b _
def qY:okL mQ 22 [13,14] Cn Co=true:=by kernel_rfl
def qZ:okL mQ 26 [11,12] Cp Cq=true:=by kernel_rfl
def rA:okL mQ 16 [7,8] Lo Lp=true:=by kernel_rfl
end
end Go.P
namespace Go.P
open Go.Sim (Ex gC CK)
open K (I Q rq nq xq ck)
abbrev cT {A B:Type} (l:aA A) (i:Int) (t:A->aB B) (e:aB B):aB B:=if decide (i<(l.length:Int))=true then(bE l i).bind t else e
abbrev cL (l:aA YV) (s:Y0) (r:Int):aJ:=[(2,.lst 172 3 false (I YV.g l)),(1,.box (ck s r (.own 2)))]
abbrev zLn {A:Type} (l:aA A):PV:=i64 (l.length:Int)
abbrev Gs (l:aA UInt8):PV:=.is 1 (List.map yH1 l)
abbrev nN (l:aA Int):PV:=.is 1 (List.map cI l)
abbrev mR (l:aA YE):PV:=.is 13 (List.map YE.g l)
abbrev kN (l:aA YW):PV:=.is 2 (List.map YW.g l)
abbrev iH (l:aA YC):PV:=.is 2 (List.map YC.g l)
abbrev dH (l:aA YZ):PV:=.is 2 (List.map YZ.g l)
abbrev nY (l:aA YY):PV:=.is 2 (List.map YY.g l)
abbrev jF (l:aA YO):PV:=.is 2 (List.map YO.g l)
abbrev lS (l:aA YM):PV:=.is 22 (List.map YM.g l)
abbrev uN (l:aA YF):PV:=.is 3 (List.map YF.g l)
abbrev eU (l:aA YT):PV:=.is 3 (List.map YT.g l)
abbrev Hk (l:aA YV):PV:=.is 3 (List.map YV.g l)
abbrev iI (l:aA YU):PV:=.is 4 (List.map YU.g l)
abbrev oF (l:aA YD):PV:=.is 5 (List.map YD.g l)
abbrev lI (l:aA YB):PV:=.is 5 (List.map YB.g l)
abbrev Gt (l:aA YJ):PV:=.is 6 (List.map YJ.g l)
abbrev pR (l:aA YN):PV:=.is 7 (List.map YN.g l)
abbrev fO1 (x:YW):cS:=.box x.g
abbrev Gu (x:YG):cS:=.box x.g
abbrev Zm (x:YE):cS:=.box x.g
abbrev vE1 (x:YZ):cS:=.box x.g
abbrev Lr (x:YL):cS:=.box x.g
abbrev Qz (x:YM):cS:=.box x.g
abbrev Zn (x:YX):cS:=.box x.g
abbrev fP1 (x:YJ):cS:=.box x.g
abbrev Zo (x:Y0):cS:=.box x.g
abbrev Gv (x:YP):cS:=.box x.g
abbrev Ra (x:YN):cS:=.box x.g
abbrev Ls (x:YY):cS:=.box x.g
abbrev Tw (x:YU):cS:=.box x.g
abbrev Zp (x:YA):cS:=.box x.g
abbrev Zq (x:YO):cS:=.box x.g
abbrev Jn (x:Y6):PV:=.agg x.g
abbrev Zr (x:Gr):PV:=.agg x.g
abbrev Bz (x:Y9):PV:=.agg x.g
abbrev rB (x:YW):PV:=.agg x.g
abbrev kO (x:YG):PV:=.agg x.g
abbrev Lt (x:YI):PV:=.agg x.g
abbrev dV (x:YE):PV:=.agg x.g
abbrev Zs (x:YD):PV:=.agg x.g
abbrev yS (x:YB):PV:=.agg x.g
abbrev Lu (x:YZ):PV:=.agg x.g
abbrev yT (x:YL):PV:=.agg x.g
abbrev dR (x:YM):PV:=.agg x.g
abbrev Am (x:lH):PV:=.agg x.g
abbrev rC (x:YX):PV:=.agg x.g
abbrev yU (x:YJ):PV:=.agg x.g
abbrev rD (x:YH):PV:=.agg x.g
abbrev eJ (x:Y0):PV:=.agg x.g
abbrev eB (x:YP):PV:=.agg x.g
abbrev Rb (x:YN):PV:=.agg x.g
abbrev kV (x:YQ):PV:=.agg x.g
abbrev cF (x:YS):PV:=.agg x.g
abbrev yV (x:YY):PV:=.agg x.g
abbrev pG (x:YU):PV:=.agg x.g
abbrev An (x:YA):PV:=.agg x.g
abbrev gF (x:YO):PV:=.agg x.g
abbrev cO (x:YK):PV:=.ip x.g
abbrev Ao (x:YE):PV:=.ip x.g
abbrev yW (x:YB):PV:=.ip x.g
abbrev lT (x:YM):PV:=.ip x.g
abbrev Rc (x:YJ):PV:=.ip x.g
abbrev Bq (x:YN):PV:=.ip x.g
abbrev Ap (x:YF):PV:=.ip x.g
abbrev bO (n k:Nat):Nat×PV:=(n,.ref k 0)
abbrev aT (n:Nat) (x:Int):Nat×PV:=(n,i64 x)
abbrev bX {A:Type} (n:Nat) (l:aA A):Nat×PV:=(n,zLn l)
abbrev bS (n:Nat) (l:aA YW):Nat×PV:=(n,kN l)
abbrev nJ (n:Nat) (l:aA YC):Nat×PV:=(n,iH l)
abbrev fF (n:Nat) (l:aA YE):Nat×PV:=(n,mR l)
abbrev sF (n:Nat) (l:aA YD):Nat×PV:=(n,oF l)
abbrev mS (n:Nat) (l:aA YB):Nat×PV:=(n,lI l)
abbrev iZ (n:Nat) (l:aA YZ):Nat×PV:=(n,dH l)
abbrev aR (n:Nat) (l:aA YM):Nat×PV:=(n,lS l)
abbrev jG (n:Nat) (l:aA YJ):Nat×PV:=(n,Gt l)
abbrev iR (n:Nat) (l:aA YN):Nat×PV:=(n,pR l)
abbrev wP (n:Nat) (l:aA YF):Nat×PV:=(n,uN l)
abbrev jY (n:Nat) (l:aA YY):Nat×PV:=(n,nY l)
abbrev pH (n:Nat) (l:aA YT):Nat×PV:=(n,eU l)
abbrev iS (n:Nat) (l:aA YU):Nat×PV:=(n,iI l)
abbrev dC (n:Nat) (l:aA YO):Nat×PV:=(n,jF l)
abbrev Zt (n:Nat) (l:aA UInt8):Nat×PV:=(n,Gs l)
abbrev tT (n:Nat) (l:aA Int):Nat×PV:=(n,nN l)
abbrev cP (n:Nat) (x:YW):Nat×cS:=(n,fO1 x)
abbrev lL (n:Nat) (x:YG):Nat×cS:=(n,Gu x)
abbrev fG (n:Nat) (x:YE):Nat×cS:=(n,Zm x)
abbrev cN (n:Nat) (x:YZ):Nat×cS:=(n,vE1 x)
abbrev mW (n:Nat) (x:YL):Nat×cS:=(n,Lr x)
abbrev aO (n:Nat) (x:YM):Nat×cS:=(n,Qz x)
abbrev sG (n:Nat) (x:YX):Nat×cS:=(n,Zn x)
abbrev Aq (n:Nat) (x:YJ):Nat×cS:=(n,fP1 x)
abbrev aM (n:Nat) (x:Y0):Nat×cS:=(n,Zo x)
abbrev aV (n:Nat) (x:YP):Nat×cS:=(n,Gv x)
abbrev sH (n:Nat) (x:YN):Nat×cS:=(n,Ra x)
abbrev eE (n:Nat) (x:YY):Nat×cS:=(n,Ls x)
abbrev iT (n:Nat) (x:YU):Nat×cS:=(n,Tw x)
abbrev Gw (n:Nat) (x:YA):Nat×cS:=(n,Zp x)
abbrev bZ (n:Nat) (x:YO):Nat×cS:=(n,Zq x)
abbrev Tx (n:Nat):Int⊕Unit->Ex×Mt:=fun|.inl v=>rq [aT n v] []|.inr _=>xq 0 [] []
abbrev Wy:aA PV:=[.v (.string (⟨#[]⟩:ByteArray)),bv false,.v (.slice none 0 0),.v (.slice none 0 0),.v (.slice none 0 0),.v (.slice none 0 0)]
noncomputable abbrev Br:Nat×cS:=(4,.loop 16 [bO 3 1] [7,8] Lo Lp false none)
noncomputable abbrev Bs:Nat×cS:=(5,.loop 22 [bO 3 1,bO 4 2,bO 5 3] [13,14] Cn Co false none)
noncomputable abbrev Bt:Nat×cS:=(91,.loop 26 [bO 4 89] [11,12] Cp Cq false none)
noncomputable abbrev Zu:Nat×cS:=(5,.loop 22 [bO 3 1,bO 4 2,bO 5 3] [13,14] Cn Co false (some .ret))
noncomputable abbrev zQ4:Nat×cS:=(91,.loop 26 [bO 4 89] [11,12] Cp Cq true none)
abbrev zB1:Nat×cS:=(1,.box [i64 0,i64 0,i64 0,i64 0,i64 0,.v (.slice none 0 0),.v (.slice none 0 0),i64 0,i64 0,i64 0,.v (.slice none 0 0),i64 0,i64 0])
abbrev vF1:Nat×cS:=(45,.box [.undef,.undef,.undef,.undef,.undef,.undef])
abbrev lT1:Nat×cS:=(2,.box [bv false,i64 0,i64 0,i64 0,bv false,i64 0])
abbrev lU1:Nat×cS:=(1,.box [.v (.slice none 0 0),.v (.slice none 0 0)])
def ig {α A B:Type} {f:A->aA PV} {l:aA A} {i:Int} {b:Bool} {K:aA PV->aB α} {F:A->aB B} {Y:aB α} {FY:aB B} {enc:B->α} (hk:∀y,K (f y)=(F y).map enc) (hy:Y=FY.map enc:=by rfl):Ms b (bP (mM (l.map f) i) K) Y=(if b then(bE l i).bind F else FY).map enc:=io (bo rg hk) hy
variable {k:Bool} (d:Nat)
def fQ1 (a:Int):aB Bool:=
 some ((decide (a<32))||(a==127))
def zC1 a:OD k (d+1) 162 [.v (.int .u8 a)]=(fQ1 a).map bv:=oe rfl<|bz (jH rfl)
def lV1 (b:aA UInt8):aB Int:=
 (aQ (E:=Int⊕Unit) (fun(a:Int)=>cT b a (fun c=>(fQ1 (c.toNat:Int)).bind fun d=>if d then some (.inr (.inl a))else some (.inl (bN (a+1)))) (some (.inr (.inr ())))) cQ 0).bind fun e=>(match e with|.inl x7=>some x7|.inr _=>some (-1))
def zD1 a:OD k (d+2) 211 [Gs a,.fn 162 [] []]=(lV1 a).map i64:=oe rfl<|bl<|bo (dX (fun b=>(Q [Zt 0 a,(1,.fn 162 [] []),bX 7 a,aT 8 b] [])) (Tx 4) (fun b=>ig fun c=>bo (zC1 d (c.toNat:Int)) fun e=>io) 0) fun|.inl f=>rfl|.inr _=>rfl
def Zv (a:aA UInt8):aB Bool:=
 (lV1 a).bind fun b=>some (decide (b>=0))
def zF1 a:OD k (d+3) 163 [Gs a,.fn 162 [] []]=(Zv a).map bv:=oe rfl<|bo (zD1 d a)
def Re (a:ByteArray):aB Bool:=
 (if decide ((a.size:Int)<=256)then(Zv a.data.toList).bind fun b=>some (!b)else some false:aB Bool).bind fun c=>some c
def fR1 a:OD k (d+4) 105 [.v (.string a)]=(Re a).map bv:=oe rfl<|be (io<|bo (zF1 d a.data.toList))
def qD (a b c:Int):aB Bool:=
 some ((decide (a>=b))&&(decide (a<=c)))
def nE a b c:OD k (d+1) 106 [i64 a,i64 b,i64 c]=(qD a b c).map bv:=oe rfl<|bz (jD rfl)
def Zw (a:YL):aB Int:=
 if(((decide (a.nO<(-77)))||(decide (a.nO>77)))||(decide (a.fK<(-140))))||(decide (a.fK>140))then some 2 else some 0
def zG1 a:OD k (d+1) 107 [yT a]=(Zw a).map i64:=oe rfl<|bz (jH rfl)<|bz (jH rfl)<|bz (jH rfl) io
def iU (b:Bool) (c:YZ) (a:aA YV) (g:Y0) (d:Int):aB (aA YV):=
 (if b then(mK false a [YV.mk d c]).bind fun e=>some e else some a:aB (aA YV)).bind fun f=>some f
def iJ h b f c a:gJ (XD k (d+1)) 104 [.ref 1 0,bv h,Lu b] (cL f c a) 3 false=(iU h b f c a).map (fun(j:aA YV)=>(.tup [],cL j c a,0)):=by rw[xd (fn:=yP1) rfl];exact bo (e:=(fun(i:aA YV)=>(nq [] (cN 3 b::cL i c a)))) (io<|bo (dA false YV.g f [YV.mk a b]))
def Rf (G:aA YV) (a:Y0) (u:Int):aB (aA YV):=
 (aQ (fun(⟨e,f⟩:Int×(aA YV))=>cT a.bQ e (fun b=>(Re b.vG).bind fun n=>(if !n then some true else(qD (b.dN.length:Int) 1 4).bind fun o=>some (!o):aB Bool).bind fun p=>(if p then some true else(Zw b.gG).bind fun q=>some (q !=0):aB Bool).bind fun r=>(iU r b.ID f a u).bind fun s=>some (.inl (bN (e+1),s))) (some (.inr f))) cQ (0,G)).bind fun t=>(aQ (fun(⟨g,h⟩:Int×(aA YV))=>cT a.aE g (fun c=>(Re c.dJ).bind fun v=>(aQ (fun(⟨i,j⟩:Bool×Int)=>cT c.aI j (fun d=>(aQ (fun(⟨k,l⟩:Bool×Int)=>cT d.aK l (fun m=>some (.inl (((k||(decide ((m.aU.length:Int)>128)))||(decide ((m.fO.length:Int)>16))),bN (l+1)))) (some (.inr k))) cQ (((i||(decide ((d.iB.length:Int)>64)))||(decide ((d.aK.length:Int)>2))),0)).bind fun w=>some (.inl (w,bN (j+1)))) (some (.inr i))) cQ (((!v)||(decide ((c.fW.length:Int)>64))),0)).bind fun x=>(iU x c.ID h a u).bind fun y=>some (.inl (bN (g+1),y))) (some (.inr h))) cQ (0,t)).bind fun z=>(Re a.fL).bind fun A=>(if !A then some true else(qD (a.bQ.length:Int) 1 32).bind fun B=>some (!B):aB Bool).bind fun C=>(if C then some true else(qD (a.aE.length:Int) 1 1024).bind fun D=>some (!D):aB Bool).bind fun E=>(iU ((E||(decide ((a.bD.length:Int)>4096)))||(decide ((a.jV.length:Int)>100))) (YZ.mk 0 0) z a u).bind fun F=>some F
def zH1 (t:aA YV) (a:Y0) (e:Int):gJ (XD k (d+5)) 75 [.ref 1 0] (cL t a e) 3 false=(Rf t a e).map (fun(x:aA YV)=>(.tup [],cL x a e,0)):=by
 rw[xd (fn:=p75) rfl];refine bl ?_;refine bo (dX (S:=Int×(aA YV)) (fun⟨p,j⟩=>(Q [bO 0 1,jG 15 a.bQ,bX 16 a.bQ,aT 17 p] (cL j a e))) (fun(l:aA YV)=>(xq 0 [bO 0 1] (cL l a e))) (fun⟨p,j⟩=>?_) (0,t)) fun l=>?_;refine ig fun h=>?_;refine bo (fR1 d h.vG) fun y=>?_;refine be ?_ fun A=>?_;refine iy ?_;refine bl ?_;refine bo (nE (d+3) (h.dN.length:Int) 1 4) fun z=>?_;rfl;refine be ?_ fun u=>?_;refine iy ?_;refine bo (zG1 (d+3) h.gG) fun B=>?_;rfl;refine bo (iJ (d+3) u h.ID j a e) fun C=>?_;rfl;refine bl ?_;refine bo (dX (S:=Int×(aA YV)) (fun⟨f,c⟩=>(Q [bO 0 1,aR 47 a.aE,bX 48 a.aE,aT 49 f] (cL c a e))) (fun(o:aA YV)=>(xq 2 [bO 0 1] (cL o a e))) (fun⟨f,c⟩=>?_) (0,l)) fun o=>?_;refine ig fun b=>?_;refine bo (fR1 d b.dJ) fun v=>?_;refine bz (jH (bz lm rfl)) ?_;refine bl ?_;refine bo (dX (S:=Bool×Int) (fun⟨m,i⟩=>(Q [bO 0 1,bO 5 3,(6,bv m),aR 47 a.aE,bX 48 a.aE,aT 49 f,bS 64 b.aI,bX 65 b.aI,aT 66 i] (aO 3 b::cL c a e))) (fun(n:Bool)=>(xq 4 [bO 0 1,bO 5 3,(6,bv n),aR 47 a.aE,bX 48 a.aE,aT 49 f] (aO 3 b::cL c a e))) (fun⟨m,i⟩=>?_) (((!v)||(decide ((b.fW.length:Int)>64))),0)) fun n=>?_;refine ig fun g=>?_;refine bz (jH (bz lm rfl)) ?_;refine bz (jH (bz lm rfl)) ?_;refine bl ?_;refine bo (dX (S:=Bool×Int) (fun⟨q,r⟩=>(Q [bO 0 1,bO 5 3,(6,bv q),aR 47 a.aE,bX 48 a.aE,aT 49 f,bS 64 b.aI,bX 65 b.aI,aT 66 i,dC 84 g.aK,bX 85 g.aK,aT 86 r] (cP 4 g::aO 3 b::cL c a e))) (fun(s:Bool)=>(xq 6 [bO 0 1,bO 5 3,(6,bv s),aR 47 a.aE,bX 48 a.aE,aT 49 f,bS 64 b.aI,bX 65 b.aI,aT 66 i] (cP 4 g::aO 3 b::cL c a e))) (fun⟨q,r⟩=>?_) (((m||(decide ((g.iB.length:Int)>64)))||(decide ((g.aK.length:Int)>2))),0)) fun s=>?_;refine ig fun D=>?_;refine bz (jH (bz lm rfl)) ?_;refine bz (jH (bz lm rfl)) ?_;rfl;rfl;refine bo (iJ (d+3) n b.ID c a e) fun E=>?_;rfl;refine bo (fR1 d a.fL) fun F=>?_;refine be ?_ fun H=>?_;refine iy ?_;refine bl ?_;refine bo (nE (d+3) (a.bQ.length:Int) 1 32) fun G=>?_;rfl;refine be ?_ fun w=>?_;refine iy ?_;refine bl ?_;refine bo (nE (d+3) (a.aE.length:Int) 1 1024) fun J=>?_;rfl;refine bz (jH (bz lm rfl)) ?_;refine bz (jH (bz lm rfl)) ?_;refine bo (iJ (d+3) ((w||(decide ((a.bD.length:Int)>4096)))||(decide ((a.jV.length:Int)>100))) (YZ.mk 0 0) o a e) fun K=>?_;rfl
def lW1 (a:Y0):aB Unit:=
 some ()
def zI1 a:gJ (XD k (d+1)) 42 [.ref 0 0] [aM 0 a] 3 true=(lW1 a).map (fun(_:Unit)=>(.fn 69 [] [.ref 3 0],[(3,.box [.ref 0 0]),aM 0 a],4)):=by rw[xd (fn:=p42) rfl];exact rfl
def Da (d e:Int) (f g:Int) (h i j:Int) (b:YJ) (c:aA YZ):aB (aA YZ):=
 (mK false c [b.ID]).bind fun a=>some a
def fS1 e f h i j l m b c:vD (XD k (d+1)) 4 [.agg [i64 e,i64 f,i64 h,i64 i,i64 j,i64 l,i64 m],Rc b] [Br,(2,.lst 51 2 false (I YZ.g c)),(1,.box [.own 2])] 5=(Da e f h i j l m b c).map (fun(a:aA YZ)=>(bv true,[Br,(2,.lst 51 2 false (I YZ.g a)),(1,.box [.own 2])],0)):=by rw[yd];exact bz (Tv rA)<|bo (dA false YZ.g c [b.ID])
def uO (d e:Int) (f g:Int) (h i j:Int) (b:YF) (c:aA YZ):aB (aA YZ):=
 (mK false c [b.ID]).bind fun a=>some a
def Ty e f h i j l m b c:vD (XD k (d+1)) 4 [.agg [i64 e,i64 f,i64 h,i64 i,i64 j,i64 l,i64 m],Ap b] [Br,(2,.lst 51 2 false (I YZ.g c)),(1,.box [.own 2])] 5=(uO e f h i j l m b c).map (fun(a:aA YZ)=>(bv true,[Br,(2,.lst 51 2 false (I YZ.g a)),(1,.box [.own 2])],0)):=by rw[yd];exact bz (Tv rA)<|bo (dA false YZ.g c [b.ID])
def uP (d e:Int) (f g:Int) (h i j:Int) (b:YM) (c:aA YZ):aB (aA YZ):=
 (mK false c [b.ID]).bind fun a=>some a
def Tz e f h i j l m b c:vD (XD k (d+1)) 4 [.agg [i64 e,i64 f,i64 h,i64 i,i64 j,i64 l,i64 m],lT b] [Br,(2,.lst 51 2 false (I YZ.g c)),(1,.box [.own 2])] 5=(uP e f h i j l m b c).map (fun(a:aA YZ)=>(bv true,[Br,(2,.lst 51 2 false (I YZ.g a)),(1,.box [.own 2])],0)):=by rw[yd];exact bz (Tv rA)<|bo (dA false YZ.g c [b.ID])
def uQ (d e:Int) (f g:Int) (h i j:Int) (b:YE) (c:aA YZ):aB (aA YZ):=
 (mK false c [b.ID]).bind fun a=>some a
def Ua e f h i j l m b c:vD (XD k (d+1)) 4 [.agg [i64 e,i64 f,i64 h,i64 i,i64 j,i64 l,i64 m],Ao b] [Br,(2,.lst 51 2 false (I YZ.g c)),(1,.box [.own 2])] 5=(uQ e f h i j l m b c).map (fun(a:aA YZ)=>(bv true,[Br,(2,.lst 51 2 false (I YZ.g a)),(1,.box [.own 2])],0)):=by rw[yd];exact bz (Tv rA)<|bo (dA false YZ.g c [b.ID])
def uR (d e:Int) (f g:Int) (h i j:Int) (b:YN) (c:aA YZ):aB (aA YZ):=
 (mK false c [b.ID]).bind fun a=>some a
def Ub e f h i j l m b c:vD (XD k (d+1)) 4 [.agg [i64 e,i64 f,i64 h,i64 i,i64 j,i64 l,i64 m],Bq b] [Br,(2,.lst 51 2 false (I YZ.g c)),(1,.box [.own 2])] 5=(uR e f h i j l m b c).map (fun(a:aA YZ)=>(bv true,[Br,(2,.lst 51 2 false (I YZ.g a)),(1,.box [.own 2])],0)):=by rw[yd];exact bz (Tv rA)<|bo (dA false YZ.g c [b.ID])
def lX1 (g:Y0) (W:aA YZ):aB (aA YZ):=
 (aQ (fun(⟨L,e,x⟩:Int×Int×(aA YZ))=>cT g.bQ e (fun M=>(Da 1 e 0 0 0 0 0 M x).bind fun N=>(bE g.bQ e).bind fun O=>(aQ (fun(⟨m,n,K⟩:Int×Int×(aA YZ))=>if decide (n<(O.dN.length:Int))then(bE g.bQ e).bind fun P=>(bE P.dN n).bind fun R=>(uO 2 0 m 0 0 0 0 R K).bind fun S=>some (.inl (bN (m+1),bN (n+1),S))else some (.inr (m,K))) cQ (L,0,N)).bind fun⟨T,U⟩=>some (.inl (T,bN (e+1),U))) (some (.inr x))) cQ (0,0,W)).bind fun V=>(aQ (fun(⟨a,h⟩:Int×(aA YZ))=>cT g.aE a (fun o=>(uP 3 0 0 a 0 0 0 o h).bind fun p=>(bE g.aE a).bind fun q=>(aQ (fun(⟨b,i⟩:Int×(aA YZ))=>if decide (b<(q.aI.length:Int))then(bE g.aE a).bind fun r=>(bE r.aI b).bind fun s=>(aQ (fun(⟨c,j⟩:Int×(aA YZ))=>if decide (c<(s.aK.length:Int))then(bE g.aE a).bind fun t=>(bE t.aI b).bind fun u=>(bE u.aK c).bind fun v=>(aQ (fun(⟨d,k⟩:Int×(aA YZ))=>if decide (d<(v.aU.length:Int))then(bE g.aE a).bind fun w=>(bE w.aI b).bind fun y=>(bE y.aK c).bind fun z=>(bE z.aU d).bind fun A=>(uQ 4 0 b a c d 0 A k).bind fun B=>some (.inl (bN (d+1),B))else some (.inr k)) cQ (0,j)).bind fun C=>some (.inl (bN (c+1),C))else some (.inr j)) cQ (0,i)).bind fun D=>some (.inl (bN (b+1),D))else some (.inr i)) cQ (0,p)).bind fun E=>some (.inl (bN (a+1),E))) (some (.inr h))) cQ (0,V)).bind fun F=>(aQ (fun(⟨f,l⟩:Int×(aA YZ))=>cT g.bD f (fun G=>(uR 5 0 0 0 0 0 f G l).bind fun H=>some (.inl (bN (f+1),H))) (some (.inr l))) cQ (0,F)).bind fun J=>some J
def zJ1 (c:Y0) (L:aA YZ):gJ (XD k (d+2)) 69 [.yld 4,.ref 3 0] [Br,(3,.box [.ref 0 0]),aM 0 c,(2,.lst 51 2 false (I YZ.g L)),(1,.box [.own 2])] 5 false=(lX1 c L).map (fun(G:aA YZ)=>(.tup [],[Br,(3,.box [.ref 0 0]),aM 0 c,(2,.lst 51 2 false (I YZ.g G)),(1,.box [.own 2])],0)):=by
 rw[xd (fn:=p69) rfl];refine bl ?_;refine bo (dX (S:=Int×Int×(aA YZ)) (fun⟨w,h,x⟩=>(Q [(0,.yld 4),bO 1 3,aT 3 w,bX 15 c.bQ,aT 16 h] [Br,(3,.box [.ref 0 0]),aM 0 c,(2,.lst 51 2 false (I YZ.g x)),(1,.box [.own 2])])) (fun(A:aA YZ)=>(xq 0 [(0,.yld 4),bO 1 3] [Br,(3,.box [.ref 0 0]),aM 0 c,(2,.lst 51 2 false (I YZ.g A)),(1,.box [.own 2])])) (fun⟨w,h,x⟩=>?_) (0,0,L)) fun A=>?_;refine ig fun M=>?_;refine bo (fS1 d 1 h 0 0 0 0 0 M x) fun N=>?_;refine bo rg fun O=>?_;refine bl ?_;refine bo (dX (S:=Int×Int×(aA YZ)) (fun⟨y,H,z⟩=>(Q [(0,.yld 4),bO 1 3,aT 3 y,aT 4 h,bX 15 c.bQ,aT 16 h,bX 39 O.dN,aT 40 H] [Br,(2,.lst 51 2 false (I YZ.g z)),(1,.box [.own 2]),(3,.box [.ref 0 0]),aM 0 c])) (fun(⟨J,K⟩:Int×(aA YZ))=>(xq 2 [(0,.yld 4),bO 1 3,aT 3 J,bX 15 c.bQ,aT 16 h] [Br,(2,.lst 51 2 false (I YZ.g K)),(1,.box [.own 2]),(3,.box [.ref 0 0]),aM 0 c])) (fun⟨y,H,z⟩=>?_) (w,0,N)) fun⟨J,K⟩=>?_;refine ig fun a0=>?_;refine bo rg fun P=>?_;refine bo (Ty d 2 0 y 0 0 0 0 P z) fun b0=>?_;rfl;rfl;refine bl ?_;refine bo (dX (S:=Int×(aA YZ)) (fun⟨a,i⟩=>(Q [(0,.yld 4),bO 1 3,bX 67 c.aE,aT 68 a] [Br,(3,.box [.ref 0 0]),aM 0 c,(2,.lst 51 2 false (I YZ.g i)),(1,.box [.own 2])])) (fun(p:aA YZ)=>(xq 4 [(0,.yld 4),bO 1 3] [Br,(3,.box [.ref 0 0]),aM 0 c,(2,.lst 51 2 false (I YZ.g p)),(1,.box [.own 2])])) (fun⟨a,i⟩=>?_) (0,A)) fun p=>?_;refine ig fun B=>?_;refine bo (Tz d 3 0 0 a 0 0 0 B i) fun C=>?_;refine bo rg fun f=>?_;refine bl ?_;refine bo (dX (S:=Int×(aA YZ)) (fun⟨b,j⟩=>(Q [(0,.yld 4),bO 1 3,aT 6 a,bX 67 c.aE,aT 68 a,bX 91 f.aI,aT 92 b] [Br,(2,.lst 51 2 false (I YZ.g j)),(1,.box [.own 2]),(3,.box [.ref 0 0]),aM 0 c])) (fun(u:aA YZ)=>(xq 6 [(0,.yld 4),bO 1 3,bX 67 c.aE,aT 68 a] [Br,(2,.lst 51 2 false (I YZ.g u)),(1,.box [.own 2]),(3,.box [.ref 0 0]),aM 0 c])) (fun⟨b,j⟩=>?_) (0,C)) fun u=>?_;refine ig fun R=>?_;refine bo rg fun l=>?_;refine bl ?_;refine bo (dX (S:=Int×(aA YZ)) (fun⟨e,m⟩=>(Q [(0,.yld 4),bO 1 3,aT 6 a,aT 7 b,bX 67 c.aE,aT 68 a,bX 91 f.aI,aT 92 b,bX 107 l.aK,aT 108 e] [Br,(2,.lst 51 2 false (I YZ.g m)),(1,.box [.own 2]),(3,.box [.ref 0 0]),aM 0 c])) (fun(t:aA YZ)=>(xq 8 [(0,.yld 4),bO 1 3,aT 6 a,bX 67 c.aE,aT 68 a,bX 91 f.aI,aT 92 b] [Br,(2,.lst 51 2 false (I YZ.g t)),(1,.box [.own 2]),(3,.box [.ref 0 0]),aM 0 c])) (fun⟨e,m⟩=>?_) (0,j)) fun t=>?_;refine ig fun T=>?_;refine bo rg fun U=>?_;refine bo rg fun D=>?_;refine bl ?_;refine bo (dX (S:=Int×(aA YZ)) (fun⟨n,o⟩=>(Q [(0,.yld 4),bO 1 3,aT 6 a,aT 7 b,aT 8 e,bX 67 c.aE,aT 68 a,bX 91 f.aI,aT 92 b,bX 107 l.aK,aT 108 e,bX 127 D.aU,aT 128 n] [Br,(2,.lst 51 2 false (I YZ.g o)),(1,.box [.own 2]),(3,.box [.ref 0 0]),aM 0 c])) (fun(s:aA YZ)=>(xq 10 [(0,.yld 4),bO 1 3,aT 6 a,aT 7 b,bX 67 c.aE,aT 68 a,bX 91 f.aI,aT 92 b,bX 107 l.aK,aT 108 e] [Br,(2,.lst 51 2 false (I YZ.g s)),(1,.box [.own 2]),(3,.box [.ref 0 0]),aM 0 c])) (fun⟨n,o⟩=>?_) (0,m)) fun s=>?_;refine ig fun V=>?_;refine bo rg fun W=>?_;refine bo rg fun X=>?_;refine bo rg fun E=>?_;refine bo (Ua d 4 0 b a e n 0 E o) fun Y=>?_;rfl;rfl;rfl;rfl;refine bl ?_;refine bo (dX (S:=Int×(aA YZ)) (fun⟨q,r⟩=>(Q [(0,.yld 4),bO 1 3,bX 166 c.bD,aT 167 q] [Br,(3,.box [.ref 0 0]),aM 0 c,(2,.lst 51 2 false (I YZ.g r)),(1,.box [.own 2])])) (fun(v:aA YZ)=>(xq 12 [] [Br,(3,.box [.ref 0 0]),aM 0 c,(2,.lst 51 2 false (I YZ.g v)),(1,.box [.own 2])])) (fun⟨q,r⟩=>?_) (0,p)) fun v=>?_;refine ig fun F=>?_;refine bo (Ub d 5 0 0 0 0 0 q F r) fun Z=>?_;rfl;rfl
def lY1 (a:Y0):aB (aA YZ):=
 (lW1 a).bind fun _=>(lX1 a []).bind fun b=>some b
def zK1 a:OD k (d+3) 108 [eJ a]=(lY1 a).map (fun b=>dH b):=oe rfl<|bo (zI1 (d+1) a) fun _=>bo (zJ1 d a [])
def fT1 (a:YZ):aB Bool:=
 (qD a.eC 0 99).bind fun b=>(if b then(qD a.bU 1 1073741824).bind fun c=>some c else some false:aB Bool).bind fun d=>some d
def sC1 a:OD k (d+2) 109 [Lu a]=(fT1 a).map bv:=oe rfl<|bo (nE d a.eC 0 99) fun b=>be (io<|bo (nE d a.bU 1 1073741824))
def F7 (c:Y0) (d:Int):aB Int:=
 (aQ (E:=Int⊕Unit) (fun(a:Int)=>cT c.jV a (fun b=>if b.eC==d then some (.inr (.inl b.bU))else some (.inl (bN (a+1)))) (some (.inr (.inr ())))) cQ 0).bind fun e=>(match e with|.inl x6=>some x6|.inr _=>some 0)
def ok7 a b:OD k (d+1) 7 [eJ a,i64 b]=(F7 a b).map i64:=oe rfl<|bl<|bo (dX (fun c=>(Q [aT 1 b,iZ 8 a.jV,bX 9 a.jV,aT 10 c] [aM 0 a])) (fun|.inl e=>(rq [aT 4 e] [aM 0 a])|.inr _=>(xq 0 [] [aM 0 a])) (fun c=>ig fun f=>io) 0) fun|.inl e=>rfl|.inr _=>rfl
def fU1 (v:aA YV) (d:Y0) (u:Int):aB (aA YV):=
 (lY1 d).bind fun x=>(aQ (fun(⟨e,c,f⟩:Int×(aA (YZ×Bool))×(aA YV))=>cT x e (fun a=>(fT1 a).bind fun i=>(if(!i)||(sR c a false)then some true else(F7 d a.eC).bind fun j=>some (decide (a.bU>j)):aB Bool).bind fun k=>(iU k a f d u).bind fun l=>some (.inl (bN (e+1),tS c a true,l))) (some (.inr (c,f)))) cQ (0,[],v)).bind fun⟨w,m⟩=>(aQ (fun(⟨g,b⟩:Bool×Int)=>cT d.jV b (fun h=>(if g then some true else(fT1 h).bind fun n=>some (!n):aB Bool).bind fun o=>(if o then some true else(if decide (b>0)then(bE d.jV (bN (b-1))).bind fun p=>some (decide (h.eC<=p.eC))else some false:aB Bool).bind fun q=>some q:aB Bool).bind fun r=>some (.inl (r,bN (b+1)))) (some (.inr g))) cQ (false,0)).bind fun s=>(iU s (YZ.mk 0 0) m d u).bind fun t=>some t
def zL1 (o:aA YV) (a:Y0) (h:Int):gJ (XD k (d+4)) 76 [.ref 1 0] (cL o a h) 3 false=(fU1 o a h).map (fun(r:aA YV)=>(.tup [],cL r a h,0)):=by
 rw[xd (fn:=p76) rfl];refine bo (zK1 d a) fun s=>?_;refine bl ?_;refine bo (dX (S:=Int×(aA (YZ×Bool))×(aA YV)) (fun⟨l,e,i⟩=>(Q [bO 0 1,(2,.map 3),iZ 13 s,bX 14 s,aT 15 l] ((3,.mp (I (dL (eA YZ.g) bv) e))::cL i a h))) (fun(⟨f,c⟩:(aA (YZ×Bool))×(aA YV))=>(xq 0 [bO 0 1] ((3,.mp (I (dL (eA YZ.g) bv) f))::cL c a h))) (fun⟨l,e,i⟩=>?_) (0,[],o)) fun⟨f,c⟩=>?_;refine ig fun b=>?_;refine bo (sC1 (d+1) b) fun t=>?_;refine bz (jH (bz (pE mI bv e b false) rfl)) ?_;refine be ?_ fun p=>?_;refine iy ?_;refine bo (ok7 (d+2) a b.eC) fun u=>?_;rfl;refine bo (iJ (d+2) p b i a h) fun v=>?_;refine bz (iV mI bv e b true) ?_;rfl;refine bl ?_;refine bo (dX (S:=Bool×Int) (fun⟨m,n⟩=>(Q [bO 0 1,(5,bv m),iZ 49 a.jV,bX 50 a.jV,aT 51 n] ((3,.mp (I (dL (eA YZ.g) bv) f))::cL c a h))) (fun(j:Bool)=>(xq 2 [bO 0 1,(5,bv j)] ((3,.mp (I (dL (eA YZ.g) bv) f))::cL c a h))) (fun⟨m,n⟩=>?_) (false,0)) fun j=>?_;refine ig fun q=>?_;refine be ?_ fun x=>?_;refine iy ?_;refine bo (sC1 (d+1) q) fun w=>?_;rfl;refine be ?_ fun A=>?_;refine iy ?_;refine be ?_ fun z=>?_;refine ig fun y=>?_;rfl;rfl;rfl;refine bo (iJ (d+2) j (YZ.mk 0 0) c a h) fun B=>?_;rfl
def F32 (c:Y0):aB Int:=
 (aQ (fun(⟨a,b⟩:Int×Int)=>cT c.bQ b (fun d=>some (.inl (bN (a+(d.dN.length:Int)),bN (b+1)))) (some (.inr a))) cQ (0,0)).bind fun e=>some e
def zN1 a:OD k (d+1) 32 [eJ a]=(F32 a).map i64:=oe rfl<|bl<|bo (dX (fun⟨b,c⟩=>(Q [aT 3 b,jG 7 a.bQ,bX 8 a.bQ,aT 9 c] [aM 0 a])) (fun(e:Int)=>(xq 0 [aT 3 e] [aM 0 a])) (fun⟨b,c⟩=>ig fun f=>bl) (0,0))
def lZ1 (o:Int) (m:YM) (n:Int):aB Bool:=
 (aQ (fun(⟨b,c⟩:Bool×Int)=>cT m.aI c (fun a=>(if b||((a.aK.length:Int)==0)then some true else(bE a.aK 0).bind fun g=>some ((g.aU.length:Int)==0):aB Bool).bind fun h=>(if h then some true else(bE a.aK (bN ((a.aK.length:Int)-1))).bind fun i=>some ((i.aU.length:Int)==0):aB Bool).bind fun j=>(aQ (fun(⟨d,e⟩:Bool×Int)=>cT a.aK e (fun f=>some (.inl ((d||(((f.aU.length:Int)==0)&&(decide ((f.fO.length:Int)>0)))),bN (e+1)))) (some (.inr d))) cQ (j,0)).bind fun k=>some (.inl (k,bN (c+1)))) (some (.inr b))) cQ (((m.aI.length:Int)!=n),0)).bind fun l=>some l
def zO1 m a l:OD k (d+1) 111 [i64 m,dR a,.ip [i64 l]]=(lZ1 m a l).map bv:=oe rfl<|bl<|bl<|bo (dX (S:=Bool×Int) (fun⟨e,b⟩=>(Q [(6,bv e),bS 18 a.aI,bX 19 a.aI,aT 20 b] [aO 0 a])) (fun(j:Bool)=>(xq 0 [(6,bv j)] [aO 0 a])) (fun⟨e,b⟩=>ig fun c=>bz (jH (bz lm rfl))<|be (iy<|bo rg fun n=>bl) fun o=>be (iy<|bl<|bo rg fun p=>bl) fun h=>bl<|bo (dX (S:=Bool×Int) (fun⟨f,g⟩=>(Q [(6,bv f),bS 18 a.aI,bX 19 a.aI,aT 20 b,dC 51 c.aK,bX 52 c.aK,aT 53 g] [cP 1 c,aO 0 a])) (fun(i:Bool)=>(xq 2 [(6,bv i),bS 18 a.aI,bX 19 a.aI,aT 20 b] [cP 1 c,aO 0 a])) (fun⟨f,g⟩=>ig fun q=>bz (jH (bz lm (bz (jD (bz lm rfl)) rfl)))) (h,0))) (((a.aI.length:Int)!=l),0))
def Wz (h:Int) (i:aA YV) (f:Y0) (j:Int):aB (aA YV):=
 (aQ (fun(⟨e,g⟩:Int×(aA YV))=>cT f.aE e (fun a=>(lZ1 e a h).bind fun b=>(iU b a.ID g f j).bind fun c=>some (.inl (bN (e+1),c))) (some (.inr g))) cQ (0,i)).bind fun d=>some d
def vG1 b i a c:gJ (XD k (d+2)) 110 [.ref 1 0,.fn 111 [] [.ref 3 0]] ((3,.box [i64 b])::cL i a c) 4 false=(Wz b i a c).map (fun(h:aA YV)=>(.tup [],((3,.box [i64 b])::cL h a c),0)):=by rw[xd (fn:=Lq) rfl];exact bl<|bo (dX (fun⟨j,l⟩=>(Q [bO 0 1,(1,.fn 111 [] [.ref 3 0]),aR 10 a.aE,bX 11 a.aE,aT 12 j] ((3,.box [i64 b])::cL l a c))) (fun(g:aA YV)=>(xq 0 [] ((3,.box [i64 b])::cL g a c))) (fun⟨j,l⟩=>ig fun e=>bo (zO1 d j e b) fun f=>bo (iJ d f e.ID l a c)) (0,i))
def fV1 (b:aA YV) (a:Y0) (c:Int):aB (aA YV):=
 (F32 a).bind fun d=>(Wz d b a c).bind fun e=>some e
def zP1 c a b:gJ (XD k (d+3)) 77 [.ref 1 0] (cL c a b) 3 false=(fV1 c a b).map (fun(f:aA YV)=>(.tup [],cL f a b,0)):=by rw[xd (fn:=p77) rfl];exact bo (zN1 (d+1) a) fun e=>bo (vG1 d e c a b)
def mA1:aB Y9:=
 some (Y9.mk (YI.mk (⟨#[116,114,101,98,108,101]⟩:ByteArray) 71 (-2) 0 34 (-1) (-3)) (YI.mk (⟨#[98,97,115,115]⟩:ByteArray) 70 2 0 22 (-3) (-5)) (YI.mk (⟨#[97,108,116,111]⟩:ByteArray) 67 0 0 28 (-2) (-4)) (YI.mk (⟨#[116,101,110,111,114]⟩:ByteArray) 67 2 0 26 (-2) (-2)) (YI.mk (⟨#[115,111,112,114,97,110,111]⟩:ByteArray) 67 (-4) 0 32 (-2) (-3)) (YI.mk (⟨#[109,101,122,122,111,115,111,112,114,97,110,111]⟩:ByteArray) 67 (-2) 0 30 (-2) (-3)) (YI.mk (⟨#[98,97,114,105,116,111,110,101]⟩:ByteArray) 70 0 0 24 (-2) (-3)) (YI.mk (⟨#[116,114,101,98,108,101,56]⟩:ByteArray) 71 (-2) (-1) 27 (-1) (-3)) (YI.mk (⟨#[98,97,115,115,56]⟩:ByteArray) 70 2 (-1) 15 (-3) (-5)))
def zR1:OD k (d+1) 212 []=(mA1).map (fun a=>Bz a):=oe rfl<|rfl
def mB1 (b:Int):aB (YI×Int):=
 if(decide (b<1))||(decide (b>9))then some ((YI.mk (⟨#[]⟩:ByteArray) 0 0 0 0 0 0),11)else(mA1).bind fun a=>(bE [a.c0,a.c1,a.c2,a.c3,a.c4,a.c5,a.c6,a.c7,a.c8] (bN (b-1))).bind fun c=>some (c,0)
def zS1 b:OD k (d+2) 164 [i64 b]=(mB1 b).map (fun⟨c,e⟩=>.tup [Lt c,i64 e]):=oe rfl<|bz (jH rfl)<|iy<|bo (zR1 d) fun a=>bo (Qq (A:=YI) YI.g [a.c0,a.c1,a.c2,a.c3,a.c4,a.c5,a.c6,a.c7,a.c8] (bN (b-1)) rfl (fun _=>rfl) rfl)
def fW1 (a:Int):aB Int:=
 (mB1 a).bind fun⟨c,b⟩=>some b
def sD1 a:OD k (d+3) 112 [i64 a]=(fW1 a).map i64:=oe rfl<|bo (zS1 d a)
def mC1 (a:YX):aB Bool:=
 if((a.aX.c0==0)&&((a.aX.c1==0)&&((a.aX.c2==0)&&((a.aX.c3==0)&&((a.aX.c4==0)&&((a.aX.c5==0)&&true))))))!=false then some true else(aQ (E:=(Int×Int)⊕(Int×Int)) (fun(⟨d,b,e⟩:Int×Int×Int)=>if decide (e<6)then(bE [a.aX.c0,a.aX.c1,a.aX.c2,a.aX.c3,a.aX.c4,a.aX.c5] e).bind fun c=>if((decide (c<0))||(decide (c>64)))||((decide (c>0))&&(e !=b))then some (.inr (.inl (d,b)))else(if decide (c>0)then some (bN (d+c),bN (b+1))else some (d,b):aB (Int×Int)).bind fun⟨h,f⟩=>some (.inl (h,f,bN (e+1)))else some (.inr (.inr (d,b)))) cQ (0,0,0)).bind fun g=>(match g with|.inl ⟨x11,x12⟩=>some false|.inr ⟨x13,x14⟩=>some ((x13==a.fJ)&&(decide (x14>=2))))
def zT1 (a:YX):OD k (d+1) 236 [rC a]=(mC1 a).map bv:=oe rfl<|by
 refine iy ?_;refine bo (dX (S:=Int×Int×Int) (fun⟨i,j,g⟩=>(Q [bO 1 0,aT 3 i,aT 4 j,(12,Jn a.aX),aT 13 g] [sG 0 a])) (fun|.inl ⟨c,f⟩=>(rq [bO 1 0,(2,bv false),aT 3 c,aT 4 f] [sG 0 a])|.inr ⟨x13,x14⟩=>(xq 0 [bO 1 0,aT 3 x13,aT 4 x14] [sG 0 a])) (fun⟨i,j,g⟩=>?_) (0,0,0)) fun h=>?_;refine io ?_;refine bo (wM .i64 [a.aX.c0,a.aX.c1,a.aX.c2,a.aX.c3,a.aX.c4,a.aX.c5] g rfl) fun m=>?_;refine bz (jH rfl) ?_;refine bz (jH (bz (jD rfl) rfl)) ?_;refine iy ?_;refine bo (e:=(fun(⟨l,b⟩:Int×Int)=>(nq [bO 1 0,aT 3 l,aT 4 b,(12,Jn a.aX),aT 13 g] [sG 0 a]))) ?_ fun⟨l,b⟩=>?_;refine io;rfl;rcases h with⟨c,f⟩|⟨x13,x14⟩
 rfl;refine bz (jD rfl) ?_;rfl
def mD1 (a:YX):aB Int:=
 if(decide (a.fJ<1))||(decide (a.fJ>64))then some 2 else if((decide (a.Unit<1))||(decide (a.Unit>64)))||((Qr .i64 a.Unit (bN (a.Unit-1)))!=0)then some 17 else(mC1 a).bind fun b=>if !b then some 19 else some 0
def zU1 a:OD k (d+2) 213 [rC a]=(mD1 a).map i64:=oe rfl<|bz (jH rfl)<|iy<|bz (jH rfl)<|bz (jH rfl)<|iy<|bo (zT1 d a) fun b=>io
def mE1 (a:YX):aB Int:=
 (Tq .i64 1935360 a.Unit).bind fun b=>some b
def zV1 a:OD k (d+1) 237 [rC a]=(mE1 a).map i64:=oe rfl<|bo oi
def mF1 (a:YX):aB Int:=
 (mE1 a).bind fun b=>some (bN (a.fJ*b))
def zW1 a:OD k (d+2) 214 [rC a]=(mF1 a).map i64:=oe rfl<|bo (zV1 d a)
def mG1 (a:YX):aB (Int×Int):=
 (mD1 a).bind fun b=>if b !=0 then some (0,b)else(mF1 a).bind fun c=>some (c,0)
def zX1 a:OD k (d+3) 165 [rC a]=(mG1 a).map (fun⟨b,c⟩=>.tup [i64 b,i64 c]):=oe rfl<|bo (zU1 d a) fun e=>iy<|bo (zW1 d a)
def Lv (a:YM):aB (Int×Int):=
 (mG1 a.dE).bind fun⟨d,c⟩=>if c !=0 then some (0,c)else if decide (a.kP<0)then some (0,2)else(if decide (a.kP>0)then some a.kP else some d:aB Int).bind fun b=>(fC1 .i64 b 7560).bind fun e=>if e !=0 then some (0,16)else if decide (b>15482880)then some (0,5)else some (b,0)
def Jo a:OD k (d+4) 114 [dR a]=(Lv a).map (fun⟨c,f⟩=>.tup [i64 c,i64 f]):=oe rfl<|bo (zX1 d a.dE) fun⟨g,h⟩=>iy<|iy<|bo (e:=(fun(b:Int)=>(nq [aT 4 b] [aO 0 a]))) io fun b=>bo oi fun i=>iy io
def mH1 (s:Int) (p:YM):aB Bool:=
 (Lv p).bind fun⟨q,r⟩=>(aQ (fun(⟨c,d⟩:Bool×Int)=>cT p.aI d (fun e=>(aQ (fun(⟨f,a⟩:Bool×Int)=>cT e.iB a (fun b=>(if f then some true else(fW1 b.Gy).bind fun g=>some (g !=0):aB Bool).bind fun h=>(if h then some true else(qD b.At 0 (bN (q-1))).bind fun i=>some (!i):aB Bool).bind fun j=>(if j then some true else(if decide (a>0)then(bE e.iB (bN (a-1))).bind fun k=>some (decide (b.At<=k.At))else some false:aB Bool).bind fun l=>some l:aB Bool).bind fun m=>some (.inl (m,bN (a+1)))) (some (.inr f))) cQ (c,0)).bind fun n=>some (.inl (n,bN (d+1)))) (some (.inr c))) cQ (false,0)).bind fun o=>some (o&&(r==0))
def zY1 (n:Int) (a:YM):OD k (d+5) 113 [i64 n,dR a]=(mH1 n a).map bv:=oe rfl<|by
 refine bo (Jo d a) fun⟨l,m⟩=>?_;refine bl ?_;refine bo (dX (S:=Bool×Int) (fun⟨e,b⟩=>(Q [aT 5 l,aT 6 m,(7,bv e),bS 18 a.aI,bX 19 a.aI,aT 20 b] [aO 0 a])) (fun(j:Bool)=>(xq 0 [aT 6 m,(7,bv j)] [aO 0 a])) (fun⟨e,b⟩=>?_) (false,0)) fun j=>?_;refine ig fun c=>?_;refine bl ?_;refine bo (dX (S:=Bool×Int) (fun⟨f,g⟩=>(Q [aT 5 l,aT 6 m,(7,bv f),bO 9 1,bS 18 a.aI,bX 19 a.aI,aT 20 b,nJ 25 c.iB,bX 26 c.iB,aT 27 g] [cP 1 c,aO 0 a])) (fun(i:Bool)=>(xq 2 [aT 5 l,aT 6 m,(7,bv i),bS 18 a.aI,bX 19 a.aI,aT 20 b] [cP 1 c,aO 0 a])) (fun⟨f,g⟩=>?_) (e,0)) fun i=>?_;refine ig fun h=>?_;refine be ?_ fun p=>?_;refine iy ?_;refine bo (sD1 (d+1) h.Gy) fun o=>?_;rfl;refine be ?_ fun r=>?_;refine iy ?_;refine bo (nE (d+3) h.At 0 (bN (l-1))) fun q=>?_;rfl;refine be ?_ fun u=>?_;refine iy ?_;refine be ?_ fun t=>?_;refine ig fun s=>?_;rfl;rfl;rfl;rfl;refine bz (jD rfl) ?_;rfl
def Db (h:aA YV) (e:Y0) (i:Int):aB (aA YV):=
 (aQ (fun(⟨d,f⟩:Int×(aA YV))=>cT e.aE d (fun g=>(mH1 d g).bind fun a=>(iU a g.ID f e i).bind fun b=>some (.inl (bN (d+1),b))) (some (.inr f))) cQ (0,h)).bind fun c=>some c
def fX1 c a b:gJ (XD k (d+6)) 110 [.ref 1 0,.fn 113 [] []] (cL c a b) 3 false=(Db c a b).map (fun(g:aA YV)=>(.tup [],cL g a b,0)):=by rw[xd (fn:=Lq) rfl];exact bl<|bo (dX (S:=Int×(aA YV)) (fun⟨h,i⟩=>(Q [bO 0 1,(1,.fn 113 [] []),aR 10 a.aE,bX 11 a.aE,aT 12 h] (cL i a b))) (fun(f:aA YV)=>(xq 0 [] (cL f a b))) (fun⟨h,i⟩=>ig fun j=>bo (zY1 d h j) fun e=>bo (iJ (d+4) e j.ID i a b)) (0,c))
def fY1 (n:aA YV) (g:Y0) (m:Int):aB (aA YV):=
 (aQ (fun(⟨a,b⟩:Int×(aA YV))=>cT g.bQ a (fun f=>(aQ (fun(⟨c,d⟩:Int×(aA YV))=>cT f.dN c (fun e=>(fW1 e.Gy).bind fun h=>(iU (h !=0) e.ID d g m).bind fun i=>some (.inl (bN (c+1),i))) (some (.inr d))) cQ (0,b)).bind fun j=>some (.inl (bN (a+1),j))) (some (.inr b))) cQ (0,n)).bind fun k=>(Db k g m).bind fun l=>some l
def zZ1 (m:aA YV) (a:Y0) (e:Int):gJ (XD k (d+7)) 78 [.ref 1 0] (cL m a e) 3 false=(fY1 m a e).map (fun(o:aA YV)=>(.tup [],cL o a e,0)):=by
 rw[xd (fn:=p78) rfl];refine bl ?_;refine bo (dX (S:=Int×(aA YV)) (fun⟨b,f⟩=>(Q [bO 0 1,jG 10 a.bQ,bX 11 a.bQ,aT 12 b] (cL f a e))) (fun(h:aA YV)=>(xq 0 [bO 0 1] (cL h a e))) (fun⟨b,f⟩=>?_) (0,m)) fun h=>?_;refine ig fun c=>?_;refine bl ?_;refine bo (dX (S:=Int×(aA YV)) (fun⟨i,g⟩=>(Q [bO 0 1,jG 10 a.bQ,bX 11 a.bQ,aT 12 b,wP 17 c.dN,bX 18 c.dN,aT 19 i] (Aq 3 c::cL g a e))) (fun(l:aA YV)=>(xq 2 [bO 0 1,jG 10 a.bQ,bX 11 a.bQ,aT 12 b] (Aq 3 c::cL l a e))) (fun⟨i,g⟩=>?_) (0,f)) fun l=>?_;refine ig fun j=>?_;refine bo (sD1 (d+3) j.Gy) fun n=>?_;refine bo (iJ (d+5) (n !=0) j.ID g a e) fun p=>?_;rfl;rfl;refine bo (fX1 d h a e) fun q=>?_;rfl
def mI1 (a:Int):aB Int:=
 if(decide (a<(-7)))||(decide (a>7))then some 2 else some 0
def aA2 a:OD k (d+1) 166 [i64 a]=(mI1 a).map i64:=oe rfl<|bz (jH rfl) io
def mJ1 (d:Int) (a:YL):aB (Int×Int):=
 (mI1 d).bind fun e=>if e !=0 then some (0,e)else if(((decide (a.nO<(-77)))||(decide (a.nO>77)))||(decide (a.fK<(-140))))||(decide (a.fK>140))then some (0,2)else(aQ (fun(b:Int)=>if decide (b>7)then some (.inl (bN (b-12)))else some (.inr b)) cQ (bN (d+(bN ((bN (7*a.fK))-(bN (12*a.nO))))))).bind fun f=>(aQ (fun(c:Int)=>if decide (c<(-7))then some (.inl (bN (c+12)))else some (.inr c)) cQ f).bind fun g=>some (g,0)
def aB2 b a:OD k (d+2) 116 [i64 b,yT a]=(mJ1 b a).map (fun⟨h,i⟩=>.tup [i64 h,i64 i]):=oe rfl<|bo (aA2 d b) fun j=>iy<|bz (jH rfl)<|bz (jH rfl)<|bz (jH rfl)<|iy<|bo (dX (fun e=>(Q [aT 0 e] [mW 0 a])) (fun(c:Int)=>(xq 0 [aT 0 c] [mW 0 a])) (fun e=>io) (bN (b+(bN ((bN (7*a.fK))-(bN (12*a.nO))))))) fun c=>bo (dX (fun f=>(Q [aT 0 f] [mW 0 a])) (fun(g:Int)=>(xq 2 [aT 0 g] [mW 0 a])) (fun f=>io) c)
def mK1 (m:Int) (g:YM) (h:YK):aB Bool:=
 (Lv g).bind fun⟨n,j⟩=>(if j !=0 then some true else(qD g.kB (-7) 7).bind fun k=>some (!k):aB Bool).bind fun l=>(aQ (fun(⟨a,b⟩:Bool×Int)=>cT h.s'.bQ b (fun c=>(if h.s'.dT&&(!a)then(mJ1 g.kB c.gG).bind fun⟨i,d⟩=>some (d !=0)else some a:aB Bool).bind fun e=>some (.inl (e,bN (b+1)))) (some (.inr a))) cQ (l,0)).bind fun f=>some f
def aC2 j a b:OD k (d+5) 115 [i64 j,dR a,.ip [cO b]]=(mK1 j a b).map bv:=oe rfl<|bo (Jo d a) fun⟨m,n⟩=>be (iy<|bo (nE (d+3) a.kB (-7) 7)) fun l=>bl<|bo (dX (fun⟨f,c⟩=>(Q [(2,.ip [cO b]),bO 4 0,(8,bv f),jG 28 b.s'.bQ,bX 29 b.s'.bQ,aT 30 c] [aO 0 a])) (fun(i:Bool)=>(xq 0 [(8,bv i)] [aO 0 a])) (fun⟨f,c⟩=>ig fun g=>bz (jD rfl)<|bo (e:=(fun(h:Bool)=>(nq [(2,.ip [cO b]),bO 4 0,(8,bv h),jG 28 b.s'.bQ,bX 29 b.s'.bQ,aT 30 c] [Aq 1 g,aO 0 a]))) (io<|bo (aB2 (d+2) a.kB g.gG))) (l,0))
def Dc (i:aA YV) (d:Y0) (g:Int):aB (aA YV):=
 (aQ (fun(⟨e,f⟩:Int×(aA YV))=>cT d.aE e (fun h=>(mK1 e h (YK.mk d g f)).bind fun a=>(iU a h.ID f d g).bind fun b=>some (.inl (bN (e+1),b))) (some (.inr f))) cQ (0,i)).bind fun c=>some c
def fZ1 e a b:gJ (XD k (d+6)) 110 [.ref 1 0,.fn 115 [] [.ref 3 0]] ((3,.box [.ref 1 0])::cL e a b) 4 false=(Dc e a b).map (fun(h:aA YV)=>(.tup [],((3,.box [.ref 1 0])::cL h a b),0)):=by rw[xd (fn:=Lq) rfl];exact bl<|bo (dX (fun⟨i,c⟩=>(Q [bO 0 1,(1,.fn 115 [] [.ref 3 0]),aR 10 a.aE,bX 11 a.aE,aT 12 i] ((3,.box [.ref 1 0])::cL c a b))) (fun(g:aA YV)=>(xq 0 [] ((3,.box [.ref 1 0])::cL g a b))) (fun⟨i,c⟩=>ig fun j=>bo (aC2 d i j (YK.mk a b c)) fun f=>bo (iJ (d+4) f j.ID c a b)) (0,e))
def gA1 (a:aA YV) (b:Y0) (c:Int):aB (aA YV):=
 (Dc a b c).bind fun d=>some d
def aD2 c a b:gJ (XD k (d+7)) 79 [.ref 1 0] (cL c a b) 3 false=(gA1 c a b).map (fun(e:aA YV)=>(.tup [],cL e a b,0)):=by rw[xd (fn:=p79) rfl];exact bo (fZ1 d c a b)
def vE (a b:Int):aB Int:=
 if(decide (a<0))||(decide (a>b))then some 2 else some 0
def rE a b:OD k (d+1) 174 [i64 a,i64 b]=(vE a b).map i64:=oe rfl<|bz (jH rfl) io
def Rg (c:aA Int):aB Int:=
 (aQ (E:=Int⊕Unit) (fun(a:Int)=>cT c a (fun b=>if b !=0 then some (.inr (.inl b))else some (.inl (bN (a+1)))) (some (.inr (.inr ())))) cQ 0).bind fun d=>(match d with|.inl x5=>some x5|.inr _=>some 0)
def Rh a:OD k (d+1) 173 [nN a]=(Rg a).map i64:=oe rfl<|bl<|bo (dX (fun b=>(Q [tT 5 a,bX 6 a,aT 7 b] [])) (Tx 2) (fun b=>ig fun c=>io) 0) fun|.inl e=>rfl|.inr _=>rfl
def gB1 (a:Int):aB Bool:=
 some ((decide (a>=1))&&(decide (a<=4)))
def sE1 a:OD k (d+1) 175 [i64 a]=(gB1 a).map bv:=oe rfl<|bz (jD rfl)
def mL1 (a:Int):aB Int:=
 if decide (a<0)then some 0 else some (Qr .i64 a 16)
def aE2 a:OD k (d+1) 220 [i64 a]=(mL1 a).map i64:=oe rfl<|io
def mM1 (a:YE):aB YE:=
 (if a.eM==1 then some true else(gB1 a.eM).bind fun b=>some (!b):aB Bool).bind fun c=>if c then some a else(if a.eM !=3 then some a.Value else some (YA.mk 0 0):aB YA).bind fun d=>(if a.eM !=4 then(mL1 a.gL).bind fun e=>some e else some 0:aB Int).bind fun f=>some (YE.mk a.ID a.eM d [] [] f 0 a.mY [] 0 0)
def aF2 a:OD k (d+2) 177 [dV a]=(mM1 a).map (fun f=>dV f):=oe rfl<|be (iy<|bo (sE1 d a.eM)) fun g=>iy<|bo (e:=(fun(b:YA)=>(nq [bO 1 0,bO 2 1,bO 3 2] [(2,.box [i64 a.ID.eC,i64 a.ID.bU,i64 a.eM,i64 b.Log,i64 b.wS,.v (.slice none 0 0),.v (.slice none 0 0),i64 0,i64 0,i64 a.mY,.v (.slice none 0 0),i64 0,i64 0]),zB1,fG 0 a]))) io fun b=>bo (e:=(fun(c:Int)=>(nq [bO 2 1,bO 3 2] [(2,.box [i64 a.ID.eC,i64 a.ID.bU,i64 a.eM,i64 b.Log,i64 b.wS,.v (.slice none 0 0),.v (.slice none 0 0),i64 c,i64 0,i64 a.mY,.v (.slice none 0 0),i64 0,i64 0]),zB1,fG 0 a]))) (io<|bo (aE2 d a.gL))
def Zx (d e:aA YB):aB Bool:=
 if(d.length:Int)!=(e.length:Int)then some false else(aQ (E:=Unit⊕Unit) (fun(c:Int)=>cT d c (fun a=>(bE e c).bind fun b=>if((a.gP.tY==b.gP.tY)&&((a.gP.sN==b.gP.sN)&&((a.gP.nK==b.gP.nK)&&((a.iV1==b.iV1)&&((a.iS1==b.iS1)&&true)))))!=true then some (.inr (.inl ()))else some (.inl (bN (c+1)))) (some (.inr (.inr ())))) cQ 0).bind fun f=>(match f with|.inl _=>some false|.inr _=>some true)
def aG2 a b:OD k (d+1) 217 [lI a,lI b]=(Zx a b).map bv:=oe rfl<|bl<|bl<|iy<|bl<|bo (dX (fun c=>(Q [mS 0 a,mS 1 b,bX 12 a,aT 13 c] [])) (fun|.inl _=>(rq [(4,bv false)] [])|.inr _=>(xq 0 [] [])) (fun c=>ig fun e=>bo rg fun f=>io) 0) fun|.inl _=>rfl|.inr _=>rfl
def Zy (d e:aA YD):aB Bool:=
 if(d.length:Int)!=(e.length:Int)then some false else(aQ (E:=Unit⊕Unit) (fun(c:Int)=>cT d c (fun a=>(bE e c).bind fun b=>if((a.gP.tY==b.gP.tY)&&((a.gP.sN==b.gP.sN)&&((a.gP.nK==b.gP.nK)&&((a.Log==b.Log)&&((a.iU1==b.iU1)&&true)))))!=true then some (.inr (.inl ()))else some (.inl (bN (c+1)))) (some (.inr (.inr ())))) cQ 0).bind fun f=>(match f with|.inl _=>some false|.inr _=>some true)
def aH2 a b:OD k (d+1) 218 [oF a,oF b]=(Zy a b).map bv:=oe rfl<|bl<|bl<|iy<|bl<|bo (dX (fun c=>(Q [sF 0 a,sF 1 b,bX 12 a,aT 13 c] [])) (fun|.inl _=>(rq [(4,bv false)] [])|.inr _=>(xq 0 [] [])) (fun c=>ig fun e=>bo rg fun f=>io) 0) fun|.inl _=>rfl|.inr _=>rfl
end Go.P
namespace Go.P
open Go.Sim (Ex gC CK)
open K (I Q rq nq xq ck)
variable {k:Bool} (d:Nat)
def Zz (b c:aA YY):aB Bool:=
 if(b.length:Int)!=(c.length:Int)then some false else(aQ (E:=Unit⊕Unit) (fun(a:Int)=>cT b a (fun d=>(bE c a).bind fun e=>if((d.qE==e.qE)&&((d.Ca==e.Ca)&&true))!=true then some (.inr (.inl ()))else some (.inl (bN (a+1)))) (some (.inr (.inr ())))) cQ 0).bind fun f=>(match f with|.inl _=>some false|.inr _=>some true)
def aI2 a b:OD k (d+1) 219 [nY a,nY b]=(Zz a b).map bv:=oe rfl<|bl<|bl<|iy<|bl<|bo (dX (fun c=>(Q [jY 0 a,jY 1 b,bX 12 a,aT 13 c] [])) (fun|.inl _=>(rq [(4,bv false)] [])|.inr _=>(xq 0 [] [])) (fun c=>ig fun e=>bo rg fun f=>io) 0) fun|.inl _=>rfl|.inr _=>rfl
def aA1 (a b:YE):aB Bool:=
 (if((((((a.eM==b.eM)&&(((a.Value.Log==b.Value.Log)&&((a.Value.wS==b.Value.wS)&&true))!=false))&&(a.gL==b.gL))&&(a.pJ==b.pJ))&&(a.mY==b.mY))&&(a.Uv==b.Uv))&&(a.Uw==b.Uw)then(Zx a.gO b.gO).bind fun c=>some c else some false:aB Bool).bind fun d=>(if d then(Zy a.hZ b.hZ).bind fun e=>some e else some false:aB Bool).bind fun f=>(if f then(Zz a.eD b.eD).bind fun g=>some g else some false:aB Bool).bind fun h=>some h
def sF1 a b:OD k (d+2) 176 [dV a,dV b]=(aA1 a b).map bv:=oe rfl<|bz (jD rfl)<|bz (jD rfl)<|bz (jD rfl)<|bz (jD rfl)<|bz (jD rfl)<|bz (jD rfl)<|be (io<|bo (aG2 d a.gO b.gO)) fun c=>be (io<|bo (aH2 d a.hZ b.hZ)) fun e=>be (io<|bo (aI2 d a.eD b.eD))
def gC1 (a:YA):aB Int:=
 if(((decide (a.Log<(-1)))||(decide (a.Log>8)))||(decide (a.wS<0)))||(decide (a.wS>3))then some 17 else some 0
def sG1 a:OD k (d+1) 178 [An a]=(gC1 a).map i64:=oe rfl<|bz (jH rfl)<|bz (jH rfl)<|bz (jH rfl) io
def mN1:aB Gr:=
 some (Gr.mk 0 2 4 5 7 9 11)
def aJ2:OD k (d+1) 209 []=(mN1).map (fun a=>Zr a):=oe rfl<|rfl
def gD1 (b:YH):aB Int:=
 (mN1).bind fun a=>(bE [a.c0,a.c1,a.c2,a.c3,a.c4,a.c5,a.c6] b.tY).bind fun c=>some (bN ((bN ((bN (12*(bN (b.nK+1))))+c))+b.sN))
def sH1 b:OD k (d+2) 158 [rD b]=(gD1 b).map i64:=oe rfl<|bo (aJ2 d) fun a=>bo (wM .i64 [a.c0,a.c1,a.c2,a.c3,a.c4,a.c5,a.c6] b.tY rfl)
def mO1 (a:YH):aB Int:=
 if(((((decide (a.tY<0))||(decide (a.tY>6)))||(decide (a.sN<(-2))))||(decide (a.sN>2)))||(decide (a.nK<(-1))))||(decide (a.nK>9))then some 18 else(gD1 a).bind fun b=>if(decide (b<0))||(decide (b>127))then some 18 else some 0
def aK2 a:OD k (d+3) 157 [rD a]=(mO1 a).map i64:=oe rfl<|bz (jH rfl)<|bz (jH rfl)<|bz (jH rfl)<|bz (jH rfl)<|bz (jH rfl)<|iy<|bo (sH1 d a) fun b=>bz (jH rfl) io
def F99 (a:YH):aB (Int×Int):=
 (mO1 a).bind fun b=>if b !=0 then some (0,b)else(gD1 a).bind fun c=>some (c,0)
def aM2 a:OD k (d+4) 99 [rD a]=(F99 a).map (fun⟨b,c⟩=>.tup [i64 b,i64 c]):=oe rfl<|bo (aK2 d a) fun e=>iy<|bo (sH1 (d+1) a)
def aB1 (b:YH):aB (Int×Int):=
 (F99 b).bind fun⟨a,c⟩=>if((c !=0)||(decide (a<0)))||(decide (a>127))then some (0,18)else some (a,0)
def gE1 a:OD k (d+5) 222 [rD a]=(aB1 a).map (fun⟨b,c⟩=>.tup [i64 b,i64 c]):=oe rfl<|bo (aM2 d a) fun⟨e,f⟩=>bz (jH rfl)<|bz (jH rfl) io
def mP1 (a:YB):aB Int:=
 (aB1 a.gP).bind fun⟨e,b⟩=>(vE a.iS1 2).bind fun c=>(Rg [b,c]).bind fun d=>some d
def aN2 a:OD k (d+6) 221 [yS a]=(mP1 a).map i64:=oe rfl<|bo (gE1 d a.gP) fun⟨e,b⟩=>bo (rE (d+4) a.iS1 2) fun c=>bo (Rh (d+4) [b,c])
def mQ1 (b:aA YB):aB Int:=
 if(b.length:Int)==0 then some 4 else if decide ((b.length:Int)>10)then some 9 else(aQ (E:=Int⊕Unit) (fun(⟨h,d⟩:Int×Int)=>cT b d (fun e=>(mP1 e).bind fun f=>if f !=0 then some (.inr (.inl f))else(aB1 e.gP).bind fun⟨a,g⟩=>if decide (a<=h)then some (.inr (.inl 25))else some (.inl (a,bN (d+1)))) (some (.inr (.inr ())))) cQ (-1,0)).bind fun c=>(match c with|.inl x12=>some x12|.inr _=>some 0)
def aO2 b:OD k (d+7) 179 [lI b]=(mQ1 b).map i64:=oe rfl<|bl<|iy<|bl<|iy<|bl<|bo (dX (S:=Int×Int) (fun⟨c,e⟩=>(Q [aT 3 c,mS 17 b,bX 18 b,aT 19 e] [])) (fun|.inl a=>(rq [aT 2 a] [])|.inr _=>(xq 1 [] [])) (fun⟨c,e⟩=>ig fun f=>bo (aN2 d f) fun i=>iy<|bo (gE1 (d+1) f.gP) fun⟨g,h⟩=>io) (-1,0)) fun|.inl a=>rfl|.inr _=>rfl
def mR1 (c:aA YD):aB Int:=
 if decide ((c.length:Int)>8)then some 9 else(aQ (E:=Int⊕Unit) (fun(d:Int)=>cT c d (fun b=>(aB1 b.gP).bind fun⟨f,e⟩=>if e !=0 then some (.inr (.inl e))else if(decide (b.Log<1))||(decide (b.Log>6))then some (.inr (.inl 2))else some (.inl (bN (d+1)))) (some (.inr (.inr ())))) cQ 0).bind fun a=>(match a with|.inl x9=>some x9|.inr _=>some 0)
def aP2 a:OD k (d+6) 180 [oF a]=(mR1 a).map i64:=oe rfl<|bl<|iy<|bl<|bo (dX (fun b=>(Q [sF 10 a,bX 11 a,aT 12 b] [])) (Tx 2) (fun b=>ig fun c=>bo (gE1 d c.gP) fun⟨e,f⟩=>iy<|bz (jH rfl) io) 0) fun|.inl g=>rfl|.inr _=>rfl
def mS1 (a:YY):aB Int:=
 if(decide (a.Ca<0))||(decide (a.Ca>2))then some 2 else if decide ((a.qE.size:Int)>256)then some 5 else(aQ (E:=Unit⊕Unit) (fun(b:Int)=>if decide (b<(a.qE.size:Int))then(tJ a.qE b).bind fun c=>(if decide (c<32)then some true else(tJ a.qE b).bind fun d=>some (d==127):aB Bool).bind fun e=>if e then some (.inr (.inl ()))else some (.inl (bN (b+1)))else some (.inr (.inr ()))) cQ 0).bind fun f=>(match f with|.inl _=>some 6|.inr _=>if(a.qE.toList==(⟨#[]⟩:ByteArray).toList)&&(a.Ca==1)then some 3 else some 0)
def aQ2 (a:YY):OD k (d+1) 223 [yV a]=(mS1 a).map i64:=oe rfl<|by
 refine bz (jH rfl) ?_;refine iy ?_;refine iy ?_;refine bo (dX (fun b=>(Q [bO 1 0,(20,i64 (a.qE.size:Int)),aT 21 b] [eE 0 a])) (fun|.inl _=>(rq [bO 1 0,aT 2 6] [eE 0 a])|.inr _=>(xq 1 [bO 1 0] [eE 0 a])) (fun b=>?_) 0) fun c=>?_;refine io ?_;refine bo oi fun e=>?_;refine be ?_ fun g=>?_;refine iy ?_;refine bo oi fun f=>?_;rfl;refine io;rcases c with _|_;rfl;refine bz (jD rfl) ?_;refine io
def mT1 (a:YY):aB Bool:=
 some (((a.qE==(⟨#[]⟩:ByteArray))&&((a.Ca==0)&&true))!=false)
def aR2 a:OD k (d+1) 224 [yV a]=(mT1 a).map bv:=oe rfl<|rfl
def mU1 (a:aA YY):aB Int:=
 if decide ((a.length:Int)>4)then some 9 else(aQ (E:=Int⊕Unit) (fun(d:Int)=>cT a d (fun f=>(mS1 f).bind fun e=>if e !=0 then some (.inr (.inl e))else some (.inl (bN (d+1)))) (some (.inr (.inr ())))) cQ 0).bind fun g=>(match g with|.inl x7=>some x7|.inr _=>(if decide ((a.length:Int)>0)then(bE a (bN ((a.length:Int)-1))).bind fun h=>(mT1 h).bind fun b=>some b else some false:aB Bool).bind fun c=>if c then some 3 else some 0)
def aS2 (a:aA YY):OD k (d+2) 181 [nY a]=(mU1 a).map i64:=oe rfl<|by
 refine bl ?_;refine iy ?_;refine bl ?_;refine bo (dX (fun b=>(Q [jY 0 a,jY 10 a,bX 11 a,aT 12 b] [])) (fun|.inl c=>(rq [jY 0 a,aT 2 c] [])|.inr _=>(xq 0 [jY 0 a] [])) (fun b=>?_) 0) fun h=>?_;refine ig fun g=>?_;refine bo (aQ2 d g) fun j=>?_;refine io;rcases h with c|_;rfl;refine bl ?_;refine be ?_ fun f=>?_;refine ig fun i=>?_;refine bo (aR2 d i) fun e=>?_;rfl;refine io
def Lw (a:YE):aB Int:=
 (vE a.ID.eC 99).bind fun s=>(vE a.ID.bU 1073741824).bind fun t=>(Rg [s,t]).bind fun r=>if r !=0 then some r else(gB1 a.eM).bind fun u=>if !u then some 11 else(mM1 a).bind fun v=>(aA1 a v).bind fun w=>if !w then some 3 else(if a.eM !=3 then(gC1 a.Value).bind fun x=>some (x !=0)else some false:aB Bool).bind fun y=>if y then some 17 else if a.eM==1 then(mQ1 a.gO).bind fun c=>(mR1 a.hZ).bind fun d=>(mU1 a.eD).bind fun e=>(Rg [c,d,e]).bind fun b=>if b !=0 then some b else(vE a.gL 31).bind fun f=>(vE a.pJ 4).bind fun g=>(vE a.mY 9).bind fun h=>(vE a.Uv 2).bind fun i=>(vE a.Uw 2).bind fun j=>(Rg [f,g,h,i,j]).bind fun k=>some k else(vE a.gL 31).bind fun l=>(vE a.pJ 4).bind fun m=>(vE a.mY 9).bind fun n=>(vE a.Uv 2).bind fun o=>(vE a.Uw 2).bind fun p=>(Rg [l,m,n,o,p]).bind fun q=>some q
def Jp a:OD k (d+8) 122 [dV a]=(Lw a).map i64:=oe rfl<|bo (rE (d+6) a.ID.eC 99) fun r=>bo (rE (d+6) a.ID.bU 1073741824) fun s=>bo (Rh (d+6) [r,s]) fun u=>iy<|bo (sE1 (d+6) a.eM) fun v=>iy<|bo (aF2 (d+5) a) fun t=>bo (sF1 (d+5) a t) fun w=>iy<|be (io<|bo (sG1 (d+6) a.Value)) fun x=>iy<|io (bo (aO2 d a.gO) fun b=>bo (aP2 (d+1) a.hZ) fun c=>bo (aS2 (d+5) a.eD) fun e=>bo (Rh (d+6) [b,c,e]) fun q=>iy<|bo (rE (d+6) a.gL 31) fun f=>bo (rE (d+6) a.pJ 4) fun g=>bo (rE (d+6) a.mY 9) fun h=>bo (rE (d+6) a.Uv 2) fun i=>bo (rE (d+6) a.Uw 2) fun j=>bo (Rh (d+6) [f,g,h,i,j]))<|bo (rE (d+6) a.gL 31) fun l=>bo (rE (d+6) a.pJ 4) fun m=>bo (rE (d+6) a.mY 9) fun n=>bo (rE (d+6) a.Uv 2) fun o=>bo (rE (d+6) a.Uw 2) fun p=>bo (Rh (d+6) [l,m,n,o,p])
def mV1 (a:YE):aB Bool:=
 (Lw a).bind fun b=>some (b !=0)
def aT2 a:OD k (d+9) 168 [dV a]=(mV1 a).map bv:=oe rfl<|bo (Jp d a)
def mW1 (b:aA YE):aB Int:=
 (aQ (E:=Int⊕Unit) (fun(a:Int)=>cT b a (fun c=>(mV1 c).bind fun d=>if d then some (.inr (.inl a))else some (.inl (bN (a+1)))) (some (.inr (.inr ())))) cQ 0).bind fun e=>(match e with|.inl x7=>some x7|.inr _=>some (-1))
def aU2 a:OD k (d+10) 148 [mR a,.fn 168 [] []]=(mW1 a).map i64:=oe rfl<|bl<|bo (dX (fun b=>(Q [fF 0 a,(1,.fn 168 [] []),bX 7 a,aT 8 b] [])) (Tx 4) (fun b=>ig fun c=>bo (aT2 d c) fun e=>io) 0) fun|.inl f=>rfl|.inr _=>rfl
def F94 (a:aA YE):aB Bool:=
 (mW1 a).bind fun b=>some (decide (b>=0))
def aW2 a:OD k (d+11) 94 [mR a,.fn 168 [] []]=(F94 a).map bv:=oe rfl<|bo (aU2 d a)
def mX1 (a:YO):aB Bool:=
 (if decide ((a.aU.length:Int)>0)then(bE a.aU 0).bind fun b=>some (b.eM==3)else some false:aB Bool).bind fun c=>some c
def aX2 a:OD k (d+1) 252 [gF a]=(mX1 a).map bv:=oe rfl<|bl<|be (ig fun b=>rfl)
def mY1 (a:YA):aB Int:=
 (Tp .i64 3870720 (bN (a.Log+1))).bind fun b=>(aQ (fun(⟨f,c,d⟩:Int×Int×Int)=>if decide (d<a.wS)then(Tq .i64 f 2).bind fun e=>some (.inl (e,bN (c+e),bN (d+1)))else some (.inr c)) cQ (b,b,0)).bind fun g=>some g
def aY2 a:OD k (d+1) 273 [An a]=(mY1 a).map i64:=oe rfl<|bo oi fun b=>bo (dX (fun⟨c,e,f⟩=>(Q [aT 3 c,aT 4 e,(11,i64 a.wS),aT 12 f] [Gw 0 a])) (fun(g:Int)=>(xq 0 [aT 4 g] [Gw 0 a])) (fun⟨c,e,f⟩=>io<|bo oi) (b,b,0))
def mZ1 (a:YA):aB (Int×Int):=
 (gC1 a).bind fun b=>if b !=0 then some (0,b)else(mY1 a).bind fun c=>some (c,0)
def aZ2 a:OD k (d+2) 267 [An a]=(mZ1 a).map (fun⟨b,c⟩=>.tup [i64 b,i64 c]):=oe rfl<|bo (sG1 d a) fun e=>iy<|bo (aY2 d a)
def nA1 (a:YE):aB (Int×Int):=
 (Lw a).bind fun b=>if(b !=0)||(a.eM==3)then some (0,b)else(mZ1 a.Value).bind fun⟨c,d⟩=>some (c,d)
def bA2 a:OD k (d+9) 263 [dV a]=(nA1 a).map (fun⟨b,c⟩=>.tup [i64 b,i64 c]):=oe rfl<|bo (Jp d a) fun e=>bz (jH rfl)<|iy<|bo (aZ2 (d+6) a.Value)
def nB1 (b:aA YE):aB (aA Int):=
 (Bo (b.length:Int) (b.length:Int) 0).bind fun k=>(aQ (fun(⟨h,a⟩:Int×(aA Int))=>cT b h (fun c=>(nA1 c).bind fun⟨d,i⟩=>(gU a h).bind fun e=>(nV a e (fun j=>d)).bind fun f=>some (.inl (bN (h+1),f))) (some (.inr a))) cQ (0,k)).bind fun g=>some g
def bB2 b:OD k (d+10) 259 [mR b]=(nB1 b).map (fun p=>nN p):=oe rfl<|bl<|bo (nX cI _ _ 0) fun o=>bl<|bo (dX (fun⟨i,a⟩=>(Q [(3,.own 0),fF 9 b,bX 10 b,aT 11 i] [(0,.lst 3 1 true (I cI a))])) (fun(h:aA Int)=>(xq 0 [(3,.own 0)] [(0,.lst 3 1 true (I cI h))])) (fun⟨i,a⟩=>ig fun e=>bo (bA2 d e) fun⟨g,j⟩=>bo (bR cI a _) fun l=>bo (jE (A:=Int) (c:=cI) (m:=1) (f:=fun n=>g) (fun _=>⟨rfl,rfl⟩) (zH2 rfl) a _)) (0,o))
def gF1 (a:Int):aB Bool:=
 some ((decide (a>=1))&&(decide (a<=32)))
def sI1 a:OD k (d+1) 270 [i64 a]=(gF1 a).map bv:=oe rfl<|bz (jD rfl)
def nC1 (a b:YU):aB Int:=
 if a.kQ !=b.kQ then if decide (a.kQ<b.kQ)then some (-1)else some 1 else if a.fJ !=b.fJ then if decide (a.fJ>b.fJ)then some (-1)else some 1 else some 0
def bC2 a b:OD k (d+1) 271 [pG a,pG b]=(nC1 a b).map i64:=oe rfl<|io io<|io io
def Uc (a:YU):aB Int:=
 some (bN (a.kQ+a.fJ))
def Xa a:OD k (d+1) 269 [pG a]=(Uc a).map i64:=oe rfl<|rfl
def Xb (c:YU) (o:aA YU):aB (Bool×(aA YU)):=
 (aQ (fun(b:aA YU)=>(if decide ((b.length:Int)>0)then(gU b (bN ((b.length:Int)-1))).bind fun p=>(fZ b p).bind fun d=>(Uc d).bind fun e=>some (decide (e<=c.kQ))else some false:aB Bool).bind fun f=>if f then(Ak b (bN ((b.length:Int)-1))).bind fun g=>some (.inl g)else some (.inr b)) cQ o).bind fun a=>(if(a.length:Int)==3 then some true else(if decide ((a.length:Int)>0)then(Uc c).bind fun h=>(gU a (bN ((a.length:Int)-1))).bind fun i=>(fZ a i).bind fun j=>(Uc j).bind fun k=>some (decide (h>k))else some false:aB Bool).bind fun l=>some l:aB Bool).bind fun m=>if m then some (false,a)else(mK true a [c]).bind fun n=>some (true,n)
def vH1 h i:gJ (XD k (d+2)) 268 [pG h,.ref 0 0] [(1,.lst 285 4 true (I YU.g i)),(0,.box [.own 1])] 2 false=(Xb h i).map (fun(⟨j,l⟩:Bool×(aA YU))=>(bv j,[(1,.lst 285 4 true (I YU.g l)),(0,.box [.own 1])],0)):=by rw[xd (fn:=yX1) rfl];exact bo (dX (fun f=>(Q [bO 1 0,bO 2 2] [iT 2 h,(1,.lst 285 4 true (I YU.g f)),(0,.box [.own 1])])) (fun(b:aA YU)=>(xq 0 [bO 1 0,bO 2 2] [iT 2 h,(1,.lst 285 4 true (I YU.g b)),(0,.box [.own 1])])) (fun f=>bz (eP YU.g f)<|be (io<|bz (eP YU.g f)<|bo (bR YU.g f _) fun r=>bo (lM (A:=YU) (c:=YU.g) (m:=4) (g:=fun a=>[i64 a.kQ,i64 a.fJ,i64 a.hY,i64 a.iW]) (fun _=>⟨rfl,rfl⟩) (zH2 rfl) f _) fun a=>bo (Xa d a)) fun n=>io<|bz (eP YU.g f)<|bo (vN YU.g f (bN ((f.length:Int)-1)))) i) fun b=>bz (eP YU.g b)<|be (iy<|be (io<|bo (Xa d h) fun o=>bo (bR YU.g b _) fun p=>bo (lM (A:=YU) (c:=YU.g) (m:=4) (g:=fun e=>[i64 e.kQ,i64 e.fJ,i64 e.hY,i64 e.iW]) (fun _=>⟨rfl,rfl⟩) (zH2 rfl) b _) fun e=>bo (Xa d e))) fun q=>iy<|bo (dA true YU.g b [h])
def nD1 (f:aA YU) (e:Int):aB Int:=
 if(decide (e<0))||(decide (e>128))then some 2 else if decide ((f.length:Int)>16)then some 9 else(aQ (E:=(Int×(aA YU))⊕(aA YU)) (fun(⟨b,c⟩:Int×(aA YU))=>cT f b (fun a=>(if(((decide (a.fJ<1))||(decide (a.fJ>e)))||(decide (a.kQ<0)))||(decide (a.kQ>(bN (e-a.fJ))))then some true else(gF1 a.hY).bind fun g=>some (!g):aB Bool).bind fun h=>(if h then some true else(gF1 a.iW).bind fun i=>some (!i):aB Bool).bind fun j=>if j||(a.hY==a.iW)then some (.inr (.inl (2,c)))else(if decide (b>0)then(bE f (bN (b-1))).bind fun k=>(nC1 k a).bind fun l=>some (decide (l>0))else some false:aB Bool).bind fun m=>if m then some (.inr (.inl (25,c)))else(Xb a c).bind fun⟨n,d⟩=>if !n then some (.inr (.inl (21,d)))else some (.inl (bN (b+1),d))) (some (.inr (.inr c)))) cQ (0,[])).bind fun o=>(match o with|.inl ⟨x25,x26⟩=>some x25|.inr x27=>some 0)
def bD2 (c:aA YU) (i:Int):OD k (d+3) 264 [iI c,i64 i]=(nD1 c i).map i64:=oe rfl<|by
 refine bz (jH rfl) ?_;refine iy ?_;refine bl ?_;refine iy ?_;refine bl ?_;refine bo (dX (S:=Int×(aA YU)) (fun⟨e,b⟩=>(Q [iS 0 c,aT 1 i,(6,.fn 268 [] [.ref 0 0]),iS 19 c,bX 20 c,aT 21 e] [(1,.lst 285 4 true (I YU.g b)),(0,.box [.own 1])])) (fun|.inl ⟨f,h⟩=>(rq [aT 4 f] [(1,.lst 285 4 true (I YU.g h)),(0,.box [.own 1])])|.inr x27=>(xq 0 [] [(1,.lst 285 4 true (I YU.g x27)),(0,.box [.own 1])])) (fun⟨e,b⟩=>?_) (0,[])) fun l=>?_;refine ig fun a=>?_;refine bz (jH rfl) ?_;refine bz (jH rfl) ?_;refine bz (jH rfl) ?_;refine be ?_ fun n=>?_;refine iy ?_;refine bo (sI1 (d+1) a.hY) fun m=>?_;rfl;refine be ?_ fun p=>?_;refine iy ?_;refine bo (sI1 (d+1) a.iW) fun o=>?_;rfl;refine bz (jH rfl) ?_;refine iy ?_;refine be ?_ fun r=>?_;refine ig fun j=>?_;refine bo (bC2 (d+1) j a) fun q=>?_;rfl;refine iy ?_;refine bo (vH1 d a b) fun⟨s,t⟩=>?_;refine io;rcases l with⟨f,h⟩|x27;rfl;rfl
def nE1 (a:YU) (b:Int):aB Bool:=
 some ((decide (b>=a.kQ))&&(decide ((bN (b-a.kQ))<a.fJ)))
def bE2 a b:OD k (d+1) 274 [pG a,i64 b]=(nE1 a b).map bv:=oe rfl<|bz (jD rfl)
def nF1 (c d:Int):aB Int:=
 (aQ (fun(⟨b,a⟩:Int×Int)=>if decide (a>0)then(fC1 .i64 b a).bind fun e=>some (.inl (a,e))else some (.inr b)) cQ (c,d)).bind fun f=>some f
def bF2 a b:OD k (d+1) 275 [i64 a,i64 b]=(nF1 a b).map i64:=oe rfl<|bo (dX (fun⟨c,e⟩=>(Q [aT 0 c,aT 1 e] [])) (fun(f:Int)=>(xq 0 [aT 0 f] [])) (fun⟨c,e⟩=>io<|bo oi) (a,b))
def nG1 (m:aA YU) (n:Int):aB (Int×Int):=
 (aQ (fun(⟨b,c,d⟩:Int×Int×Int)=>cT m d (fun a=>(nE1 a n).bind fun f=>(if f then(nF1 (bN (b*a.iW)) (bN (c*a.hY))).bind fun e=>(Tq .i64 (bN (b*a.iW)) e).bind fun g=>(Tq .i64 (bN (c*a.hY)) e).bind fun h=>some (g,h)else some (b,c):aB (Int×Int)).bind fun⟨i,j⟩=>some (.inl (i,j,bN (d+1)))) (some (.inr (b,c)))) cQ (1,1,0)).bind fun⟨k,l⟩=>some (k,l)
def bG2 (g:aA YU) (j:Int):OD k (d+2) 272 [iI g,i64 j]=(nG1 g j).map (fun⟨r,s⟩=>.tup [i64 r,i64 s]):=oe rfl<|by
 refine bl ?_;refine bo (dX (S:=Int×Int×Int) (fun⟨b,c,f⟩=>(Q [aT 1 j,aT 4 b,aT 5 c,iS 9 g,bX 10 g,aT 11 f] [])) (fun(⟨l,m⟩:Int×Int)=>(xq 0 [aT 4 l,aT 5 m] [])) (fun⟨b,c,f⟩=>?_) (1,1,0)) fun⟨l,m⟩=>?_;refine ig fun a=>?_;refine bo (bE2 d a j) fun n=>?_;refine bo (e:=(fun(⟨h,i⟩:Int×Int)=>(nq [aT 1 j,aT 4 h,aT 5 i,iS 9 g,bX 10 g,aT 11 f] [iT 0 a]))) ?_ fun⟨h,i⟩=>?_;refine io ?_;refine bo (bF2 d (bN (b*a.iW)) (bN (c*a.hY))) fun o=>?_;refine bo oi fun p=>?_;refine bo oi fun q=>?_;rfl;rfl;rfl
def gG1 (d:aA YU) (e a:Int):aB (Int×Int):=
 if(decide (a<0))||(decide (a>7741440))then some (0,2)else(nG1 d e).bind fun⟨b,c⟩=>(fC1 .i64 (bN (a*b)) c).bind fun f=>if f !=0 then some (0,16)else(Tq .i64 (bN (a*b)) c).bind fun g=>some (g,0)
def sJ1 a b c:OD k (d+3) 265 [iI a,i64 b,i64 c]=(gG1 a b c).map (fun⟨e,f⟩=>.tup [i64 e,i64 f]):=oe rfl<|bz (jH rfl)<|iy<|bo (bG2 d a b) fun⟨g,h⟩=>bo oi fun i=>iy<|bo oi
def gH1 (i:aA YU) (g:aA Int):aB ((aA Int)×Int):=
 (nD1 i (g.length:Int)).bind fun j=>if j !=0 then some ([],j)else(Bo 0 (g.length:Int) 0).bind fun k=>(aQ (E:=(Int×(aA Int))⊕(aA Int)) (fun(⟨h,a⟩:Int×(aA Int))=>cT g h (fun c=>(gG1 i h c).bind fun⟨d,b⟩=>if b !=0 then some (.inr (.inl (b,a)))else(mK true a [d]).bind fun e=>some (.inl (bN (h+1),e))) (some (.inr (.inr a)))) cQ (0,k)).bind fun f=>(match f with|.inl ⟨x15,x16⟩=>some ([],x15)|.inr x17=>some (x17,0))
def sK1 (b:aA YU) (f:aA Int):OD k (d+4) 260 [iI b,nN f]=(gH1 b f).map (fun⟨o,p⟩=>.tup [nN o,i64 p]):=oe rfl<|by
 refine bl ?_;refine bo (bD2 d b (f.length:Int)) fun q=>?_;refine iy ?_;refine bl ?_;refine bo (nX cI _ _ 0) fun n=>?_;refine bl ?_;refine bo (dX (S:=Int×(aA Int)) (fun⟨j,a⟩=>(Q [iS 0 b,(7,.own 0),tT 22 f,bX 23 f,aT 24 j] [(0,.lst 3 1 true (I cI a))])) (fun|.inl ⟨c,e⟩=>(rq [(4,.is 1 (I cI [])),aT 5 c,(7,.own 0)] [(0,.lst 3 1 true (I cI e))])|.inr x17=>(xq 0 [(7,.own 0)] [(0,.lst 3 1 true (I cI x17))])) (fun⟨j,a⟩=>?_) (0,n)) fun i=>?_;refine ig fun g=>?_;refine bo (sJ1 d b j g) fun⟨h,l⟩=>?_;refine iy ?_;refine bo (dA true cI a [h]) fun m=>?_;rfl;rcases i with⟨c,e⟩|x17;rfl;rfl
def nH1 (d:aA YU) (n:Int) (o:aA Int):aB (Int×Bool):=
 (bE d n).bind fun m=>(aQ (E:=Int⊕Int) (fun(⟨c,a⟩:Int×Int)=>(Uc m).bind fun e=>if decide (a<e)then(mG d (bN (n+1)) ((d).length)).bind fun f=>(bE o a).bind fun g=>(gG1 f a g).bind fun⟨h,i⟩=>if i !=0 then some (.inr (.inl c))else some (.inl (bN (c+h),bN (a+1)))else some (.inr (.inr c))) cQ (0,m.kQ)).bind fun j=>(match j with|.inl x17=>some (0,false)|.inr x18=>(aQ (E:=Int⊕Unit) (fun(b:Int)=>if decide (b<=8)then(Tp .i64 3870720 (bN (b+1))).bind fun k=>if x18==(bN (m.hY*k))then some (.inr (.inl b))else some (.inl (bN (b+1)))else some (.inr (.inr ()))) cQ (-1)).bind fun l=>(match l with|.inl x23=>some (x23,true)|.inr _=>some (0,false)))
def bH2 (h:aA YU) (m:Int) (o:aA Int):OD k (d+4) 266 [iI h,i64 m,nN o]=(nH1 h m o).map (fun⟨t,u⟩=>.tup [i64 t,bv u]):=oe rfl<|by
 refine bo rg fun a=>?_;refine bo (dX (S:=Int×Int) (fun⟨c,b⟩=>(Q [iS 0 h,aT 1 m,tT 2 o,bO 8 0,aT 9 c,aT 10 b] [iT 0 a])) (fun|.inl e=>(rq [aT 6 0,(7,bv false),bO 8 0,aT 9 e] [iT 0 a])|.inr x18=>(xq 0 [bO 8 0,aT 9 x18] [iT 0 a])) (fun⟨c,b⟩=>?_) (0,a.kQ)) fun l=>?_;refine bo (Xa (d+2) a) fun p=>?_;refine io ?_;refine bo (Hi _ _ _) fun i=>?_;refine bo rg fun j=>?_;refine bo (sJ1 d i b j) fun⟨q,r⟩=>?_;refine io;rcases l with e|x18;rfl;refine bo (dX (fun f=>(Q [bO 8 0,aT 9 x18,aT 13 f] [iT 0 a])) (fun|.inl g=>(rq [aT 6 g,(7,bv true)] [iT 0 a])|.inr _=>(xq 2 [] [iT 0 a])) (fun f=>?_) (-1)) fun n=>?_;refine io ?_;refine bo oi fun s=>?_;refine io;rcases n with g|_;rfl;rfl
def nI1 (b:aA YU) (h:aA Int):aB ((aA Int)×Int):=
 (gH1 b h).bind fun⟨k,i⟩=>if i !=0 then some ([],i)else(Bo 0 (b.length:Int) 0).bind fun j=>(aQ (E:=(aA Int)⊕(aA Int)) (fun(⟨g,a⟩:Int×(aA Int))=>if decide (g<(b.length:Int))then(nH1 b g h).bind fun⟨c,d⟩=>if !d then some (.inr (.inl a))else(mK true a [c]).bind fun e=>some (.inl (bN (g+1),e))else some (.inr (.inr a))) cQ (0,j)).bind fun f=>(match f with|.inl x14=>some ([],21)|.inr x15=>some (x15,0))
def bI2 b f:OD k (d+5) 261 [iI b,nN f]=(nI1 b f).map (fun⟨l,m⟩=>.tup [nN l,i64 m]):=oe rfl<|bo (sK1 d b f) fun⟨n,o⟩=>iy<|bl<|bo (nX cI _ _ 0) fun j=>bl<|bo (dX (fun⟨h,a⟩=>(Q [iS 0 b,tT 1 f,(8,.own 0),bX 25 b,aT 26 h] [(0,.lst 3 1 true (I cI a))])) (fun|.inl c=>(rq [(4,.is 1 (I cI [])),aT 5 21,(8,.own 0)] [(0,.lst 3 1 true (I cI c))])|.inr e=>(xq 0 [(8,.own 0)] [(0,.lst 3 1 true (I cI e))])) (fun⟨h,a⟩=>io<|bo (bH2 d b h f) fun⟨g,i⟩=>iy<|bo (dA true cI a [g])) (0,j)) fun|.inl c=>rfl|.inr e=>rfl
def nJ1 (a:YO):aB ((aA Int)×Int):=
 (aQ (E:=Int⊕Unit) (fun(e:Int)=>cT a.aU e (fun f=>(Lw f).bind fun g=>if g !=0 then some (.inr (.inl g))else if(f.eM==3)&&((decide (e>0))||(decide ((a.aU.length:Int)>1)))then some (.inr (.inl 11))else some (.inl (bN (e+1)))) (some (.inr (.inr ())))) cQ 0).bind fun j=>(match j with|.inl x7=>some ([],x7)|.inr _=>(nB1 a.aU).bind fun h=>(gH1 a.fO h).bind fun⟨c,b⟩=>if b !=0 then some ([],b)else(nI1 a.fO h).bind fun⟨i,d⟩=>if d !=0 then some ([],21)else some (c,0))
def bJ2 a:OD k (d+11) 253 [gF a]=(nJ1 a).map (fun⟨l,m⟩=>.tup [nN l,i64 m]):=oe rfl<|bl<|bo (dX (fun b=>(Q [bO 1 0,fF 13 a.aU,bX 14 a.aU,aT 15 b] [bZ 0 a])) (fun|.inl c=>(rq [bO 1 0,(2,.is 1 (I cI [])),aT 3 c] [bZ 0 a])|.inr _=>(xq 0 [bO 1 0] [bZ 0 a])) (fun b=>ig fun j=>bo (Jp (d+2) j) fun n=>iy<|bz (jD (bz (jH (bz lm rfl)) rfl)) io) 0) fun|.inl c=>rfl|.inr _=>bo (bB2 d a.aU) fun e=>bo (sK1 (d+6) a.fO e) fun⟨f,g⟩=>iy<|bo (bI2 (d+5) a.fO e) fun⟨h,i⟩=>io
def nK1 (a:YO) (b:Int):aB ((aA Int)×Int):=
 if(decide (b<1))||(decide (b>15482880))then some ([],2)else if decide ((a.aU.length:Int)>128)then some ([],9)else(mX1 a).bind fun d=>if d&&((a.aU.length:Int)==1)then(bE a.aU 0).bind fun e=>(Lw e).bind fun c=>if c !=0 then some ([],c)else if decide ((a.fO.length:Int)>0)then some ([],21)else some ([b],0)else(nJ1 a).bind fun⟨f,g⟩=>some (f,g)
def bK2 a b:OD k (d+12) 238 [gF a,i64 b]=(nK1 a b).map (fun⟨e,f⟩=>.tup [nN e,i64 f]):=oe rfl<|bz (jH rfl)<|iy<|bl<|iy<|bo (aX2 (d+10) a) fun g=>bz (jD (bz lm rfl))<|io (bo rg fun c=>bo (Jp (d+3) c) fun h=>iy<|bl io)<|bo (bJ2 d a)
def nL1 (c:aA Int):aB Int:=
 (aQ (fun(⟨a,b⟩:Int×Int)=>cT c b (fun d=>some (.inl (bN (a+d),bN (b+1)))) (some (.inr a))) cQ (0,0)).bind fun e=>some e
def bL2 a:OD k (d+1) 239 [nN a]=(nL1 a).map i64:=oe rfl<|bl<|bo (dX (fun⟨b,c⟩=>(Q [aT 3 b,tT 6 a,bX 7 a,aT 8 c] [])) (fun(e:Int)=>(xq 0 [aT 3 e] [])) (fun⟨b,c⟩=>ig fun f=>rfl) (0,0))
def gI1 (e:YO) (b:Int):aB ((aA Int)×Int):=
 (nK1 e b).bind fun⟨a,c⟩=>(if(c==0)&&(decide ((a.length:Int)>0))then(nL1 a).bind fun f=>some (f !=b)else some false:aB Bool).bind fun g=>(if g then some 20 else some c:aB Int).bind fun d=>if d !=0 then some ([],d)else some (a,0)
def sL1 a b:OD k (d+13) 216 [gF a,i64 b]=(gI1 a b).map (fun⟨g,h⟩=>.tup [nN g,i64 h]):=oe rfl<|bo (bK2 d a b) fun⟨c,i⟩=>bz (jD (bz lm rfl))<|be (io<|bo (bL2 (d+11) c)) fun j=>bo (e:=(fun(f:Int)=>(nq [tT 6 c,aT 7 f] [bZ 0 a]))) io fun f=>io
def gJ1 (a:YO) (b:Int):aB Int:=
 (gI1 a b).bind fun⟨d,c⟩=>some c
def sM1 a b:OD k (d+14) 172 [gF a,i64 b]=(gJ1 a b).map i64:=oe rfl<|bo (sL1 d a b)
def gK1 (a:Int):aB Bool:=
 some ((a==11)||(a==20))
def sN1 a:OD k (d+1) 118 [i64 a]=(gK1 a).map bv:=oe rfl<|bz (jH rfl)
def nM1 (a:YO) (b:Int):aB Bool:=
 (F94 a.aU).bind fun c=>(if !c then(gJ1 a b).bind fun d=>(gK1 d).bind fun e=>some e else some false:aB Bool).bind fun f=>some f
def bM2 a b:OD k (d+15) 171 [gF a,.ip [.fn 168 [] []],.ip [.fn 118 [] []],.ip [i64 b]]=(nM1 a b).map bv:=oe rfl<|bo (aW2 (d+3) a.aU) fun e=>be (io<|bo (sM1 d a b) fun c=>bo (sN1 (d+13) c))
def nN1 (b:aA YO) (c:Int):aB Int:=
 (aQ (E:=Int⊕Unit) (fun(a:Int)=>cT b a (fun d=>(nM1 d c).bind fun e=>if e then some (.inr (.inl a))else some (.inl (bN (a+1)))) (some (.inr (.inr ())))) cQ 0).bind fun f=>(match f with|.inl x8=>some x8|.inr _=>some (-1))
def bN2 a b:OD k (d+16) 147 [jF a,.fn 171 [] [.ip [.fn 168 [] []],.ip [.fn 118 [] []],.ip [i64 b]]]=(nN1 a b).map i64:=oe rfl<|bl<|bo (dX (fun c=>(Q [dC 0 a,(1,.fn 171 [] [.ip [.fn 168 [] []],.ip [.fn 118 [] []],.ip [i64 b]]),bX 7 a,aT 8 c] [])) (Tx 4) (fun c=>ig fun e=>bo (bM2 d e b) fun f=>io) 0) fun|.inl g=>rfl|.inr _=>rfl
def F92 (a:aA YO) (b:Int):aB Bool:=
 (nN1 a b).bind fun c=>some (decide (c>=0))
def nW2 a b:OD k (d+17) 92 [jF a,.fn 171 [] [.ip [.fn 168 [] []],.ip [.fn 118 [] []],.ip [i64 b]]]=(F92 a b).map bv:=oe rfl<|bo (bN2 d a b)
def nO1 (a:YW) (b:Int):aB Bool:=
 (F92 a.aK b).bind fun c=>some c
def bO2 a b:OD k (d+18) 170 [rB a,.ip [.fn 168 [] []],.ip [.fn 118 [] []],.ip [i64 b]]=(nO1 a b).map bv:=oe rfl<|bo (nW2 d a.aK b)
def nP1 (b:aA YW) (c:Int):aB Int:=
 (aQ (E:=Int⊕Unit) (fun(a:Int)=>cT b a (fun d=>(nO1 d c).bind fun e=>if e then some (.inr (.inl a))else some (.inl (bN (a+1)))) (some (.inr (.inr ())))) cQ 0).bind fun f=>(match f with|.inl x8=>some x8|.inr _=>some (-1))
def bP2 a b:OD k (d+19) 215 [kN a,.fn 170 [] [.ip [.fn 168 [] []],.ip [.fn 118 [] []],.ip [i64 b]]]=(nP1 a b).map i64:=oe rfl<|bl<|bo (dX (fun c=>(Q [bS 0 a,(1,.fn 170 [] [.ip [.fn 168 [] []],.ip [.fn 118 [] []],.ip [i64 b]]),bX 7 a,aT 8 c] [])) (Tx 4) (fun c=>ig fun e=>bo (bO2 d e b) fun f=>io) 0) fun|.inl g=>rfl|.inr _=>rfl
def nQ1 (a:aA YW) (b:Int):aB Bool:=
 (nP1 a b).bind fun c=>some (decide (c>=0))
def bQ2 a b:OD k (d+20) 169 [kN a,.fn 170 [] [.ip [.fn 168 [] []],.ip [.fn 118 [] []],.ip [i64 b]]]=(nQ1 a b).map bv:=oe rfl<|bo (bP2 d a b)
def nR1 (e:Int) (a:YM):aB Bool:=
 (Lv a).bind fun⟨b,c⟩=>if c !=0 then some false else(nQ1 a.aI b).bind fun d=>some d
def bR2 b a:OD k (d+21) 167 [i64 b,dR a,.ip [.fn 118 [] []]]=(nR1 b a).map bv:=oe rfl<|bo (Jo (d+16) a) fun⟨c,e⟩=>iy<|bo (bQ2 d a.aI c)
def Dd (h:aA YV) (e:Y0) (i:Int):aB (aA YV):=
 (aQ (fun(⟨d,f⟩:Int×(aA YV))=>cT e.aE d (fun g=>(nR1 d g).bind fun a=>(iU a g.ID f e i).bind fun b=>some (.inl (bN (d+1),b))) (some (.inr f))) cQ (0,h)).bind fun c=>some c
def gL1 c a b:gJ (XD k (d+22)) 110 [.ref 1 0,.fn 167 [] [.ref 3 0]] ((3,.box [.fn 118 [] []])::cL c a b) 4 false=(Dd c a b).map (fun(g:aA YV)=>(.tup [],((3,.box [.fn 118 [] []])::cL g a b),0)):=by rw[xd (fn:=Lq) rfl];exact bl<|bo (dX (fun⟨h,i⟩=>(Q [bO 0 1,(1,.fn 167 [] [.ref 3 0]),aR 10 a.aE,bX 11 a.aE,aT 12 h] ((3,.box [.fn 118 [] []])::cL i a b))) (fun(f:aA YV)=>(xq 0 [] ((3,.box [.fn 118 [] []])::cL f a b))) (fun⟨h,i⟩=>ig fun j=>bo (bR2 d h j) fun e=>bo (iJ (d+20) e j.ID i a b)) (0,c))
def Xc (a:aA YV) (b:Y0) (c:Int):aB (aA YV):=
 (Dd a b c).bind fun d=>some d
def vI1 c a b:gJ (XD k (d+23)) 117 [.ref 1 0,.fn 118 [] []] (cL c a b) 3 false=(Xc c a b).map (fun(e:aA YV)=>(.tup [],cL e a b,0)):=by rw[xd (fn:=vC1) rfl];exact bo (gL1 d c a b)
def gM1 (a:aA YV) (b:Y0) (c:Int):aB (aA YV):=
 (Xc a b c).bind fun d=>some d
def bS2 c a b:gJ (XD k (d+24)) 80 [.ref 1 0] (cL c a b) 3 false=(gM1 c a b).map (fun(e:aA YV)=>(.tup [],cL e a b,0)):=by rw[xd (fn:=p80) rfl];exact bo (vI1 d c a b)
def nS1 (a:Int):aB Bool:=
 (if a !=0 then(gK1 a).bind fun b=>some (!b)else some false:aB Bool).bind fun c=>some c
def bT2 a:OD k (d+2) 119 [i64 a]=(nS1 a).map bv:=oe rfl<|be (io<|bo (sN1 d a))
def Lx (a:YO) (b:Int):aB Bool:=
 (F94 a.aU).bind fun c=>(if !c then(gJ1 a b).bind fun d=>(nS1 d).bind fun e=>some e else some false:aB Bool).bind fun f=>some f
def nT1 a b:OD k (d+15) 171 [gF a,.ip [.fn 168 [] []],.ip [.fn 119 [] []],.ip [i64 b]]=(Lx a b).map bv:=oe rfl<|bo (aW2 (d+3) a.aU) fun e=>be (io<|bo (sM1 d a b) fun c=>bo (bT2 (d+12) c))
def Ly (b:aA YO) (c:Int):aB Int:=
 (aQ (E:=Int⊕Unit) (fun(a:Int)=>cT b a (fun d=>(Lx d c).bind fun e=>if e then some (.inr (.inl a))else some (.inl (bN (a+1)))) (some (.inr (.inr ())))) cQ 0).bind fun f=>(match f with|.inl x8=>some x8|.inr _=>some (-1))
def nU1 a b:OD k (d+16) 147 [jF a,.fn 171 [] [.ip [.fn 168 [] []],.ip [.fn 119 [] []],.ip [i64 b]]]=(Ly a b).map i64:=oe rfl<|bl<|bo (dX (fun c=>(Q [dC 0 a,(1,.fn 171 [] [.ip [.fn 168 [] []],.ip [.fn 119 [] []],.ip [i64 b]]),bX 7 a,aT 8 c] [])) (Tx 4) (fun c=>ig fun e=>bo (nT1 d e b) fun f=>io) 0) fun|.inl g=>rfl|.inr _=>rfl
def Xe (a:aA YO) (b:Int):aB Bool:=
 (Ly a b).bind fun c=>some (decide (c>=0))
def vJ1 a b:OD k (d+17) 92 [jF a,.fn 171 [] [.ip [.fn 168 [] []],.ip [.fn 119 [] []],.ip [i64 b]]]=(Xe a b).map bv:=oe rfl<|bo (nU1 d a b)
def Lz (a:YW) (b:Int):aB Bool:=
 (Xe a.aK b).bind fun c=>some c
def nV1 a b:OD k (d+18) 170 [rB a,.ip [.fn 168 [] []],.ip [.fn 119 [] []],.ip [i64 b]]=(Lz a b).map bv:=oe rfl<|bo (vJ1 d a.aK b)
def Ma (b:aA YW) (c:Int):aB Int:=
 (aQ (E:=Int⊕Unit) (fun(a:Int)=>cT b a (fun d=>(Lz d c).bind fun e=>if e then some (.inr (.inl a))else some (.inl (bN (a+1)))) (some (.inr (.inr ())))) cQ 0).bind fun f=>(match f with|.inl x8=>some x8|.inr _=>some (-1))
def nW1 a b:OD k (d+19) 215 [kN a,.fn 170 [] [.ip [.fn 168 [] []],.ip [.fn 119 [] []],.ip [i64 b]]]=(Ma a b).map i64:=oe rfl<|bl<|bo (dX (fun c=>(Q [bS 0 a,(1,.fn 170 [] [.ip [.fn 168 [] []],.ip [.fn 119 [] []],.ip [i64 b]]),bX 7 a,aT 8 c] [])) (Tx 4) (fun c=>ig fun e=>bo (nV1 d e b) fun f=>io) 0) fun|.inl g=>rfl|.inr _=>rfl
def Mb (a:aA YW) (b:Int):aB Bool:=
 (Ma a b).bind fun c=>some (decide (c>=0))
def nX1 a b:OD k (d+20) 169 [kN a,.fn 170 [] [.ip [.fn 168 [] []],.ip [.fn 119 [] []],.ip [i64 b]]]=(Mb a b).map bv:=oe rfl<|bo (nW1 d a b)
def Mc (e:Int) (a:YM):aB Bool:=
 (Lv a).bind fun⟨b,c⟩=>if c !=0 then some false else(Mb a.aI b).bind fun d=>some d
def nY1 b a:OD k (d+21) 167 [i64 b,dR a,.ip [.fn 119 [] []]]=(Mc b a).map bv:=oe rfl<|bo (Jo (d+16) a) fun⟨c,e⟩=>iy<|bo (nX1 d a.aI c)
def De (h:aA YV) (e:Y0) (i:Int):aB (aA YV):=
 (aQ (fun(⟨d,f⟩:Int×(aA YV))=>cT e.aE d (fun g=>(Mc d g).bind fun a=>(iU a g.ID f e i).bind fun b=>some (.inl (bN (d+1),b))) (some (.inr f))) cQ (0,h)).bind fun c=>some c
def gN1 c a b:gJ (XD k (d+22)) 110 [.ref 1 0,.fn 167 [] [.ref 3 0]] ((3,.box [.fn 119 [] []])::cL c a b) 4 false=(De c a b).map (fun(g:aA YV)=>(.tup [],((3,.box [.fn 119 [] []])::cL g a b),0)):=by rw[xd (fn:=Lq) rfl];exact bl<|bo (dX (fun⟨h,i⟩=>(Q [bO 0 1,(1,.fn 167 [] [.ref 3 0]),aR 10 a.aE,bX 11 a.aE,aT 12 h] ((3,.box [.fn 119 [] []])::cL i a b))) (fun(f:aA YV)=>(xq 0 [] ((3,.box [.fn 119 [] []])::cL f a b))) (fun⟨h,i⟩=>ig fun j=>bo (nY1 d h j) fun e=>bo (iJ (d+20) e j.ID i a b)) (0,c))
def Df (a:aA YV) (b:Y0) (c:Int):aB (aA YV):=
 (De a b c).bind fun d=>some d
def gO1 c a b:gJ (XD k (d+23)) 117 [.ref 1 0,.fn 119 [] []] (cL c a b) 3 false=(Df c a b).map (fun(e:aA YV)=>(.tup [],cL e a b,0)):=by rw[xd (fn:=vC1) rfl];exact bo (gN1 d c a b)
def gP1 (a:aA YV) (b:Y0) (c:Int):aB (aA YV):=
 (Df a b c).bind fun d=>some d
def bU2 c a b:gJ (XD k (d+24)) 81 [.ref 1 0] (cL c a b) 3 false=(gP1 c a b).map (fun(e:aA YV)=>(.tup [],cL e a b,0)):=by rw[xd (fn:=p81) rfl];exact bo (gO1 d c a b)
def nZ1 (c:YP) (a:YE):aB Bool:=
 (Lw a).bind fun b=>some (b !=0)
def bV2 b a:OD k (d+9) 121 [eB b,dV a]=(nZ1 b a).map bv:=oe rfl<|bo (Jp d a)
def Xf (t:aA YV) (s:Y0) (u:Int):aB (aA YV):=
 (aQ (fun(⟨d,m⟩:Int×(aA YV))=>cT s.aE d (fun p=>(aQ (fun(⟨e,n⟩:Int×(aA YV))=>cT p.aI e (fun q=>(aQ (fun(⟨f,o⟩:Int×(aA YV))=>cT q.aK f (fun r=>(aQ (fun(⟨a,b⟩:Int×(aA YV))=>cT r.aU a (fun c=>(nZ1 (YP.mk 4 0 e d f a 0) c).bind fun g=>(iU g c.ID b s u).bind fun h=>some (.inl (bN (a+1),h))) (some (.inr b))) cQ (0,o)).bind fun i=>some (.inl (bN (f+1),i))) (some (.inr o))) cQ (0,n)).bind fun j=>some (.inl (bN (e+1),j))) (some (.inr n))) cQ (0,m)).bind fun k=>some (.inl (bN (d+1),k))) (some (.inr m))) cQ (0,t)).bind fun l=>some l
def vK1 w c h:gJ (XD k (d+10)) 120 [.ref 1 0,.fn 121 [] []] (cL w c h) 3 false=(Xf w c h).map (fun(v:aA YV)=>(.tup [],cL v c h,0)):=by rw[xd (fn:=Zl) rfl];exact bl<|bo (dX (fun⟨b,n⟩=>(Q [bO 0 1,(1,.fn 121 [] []),aR 16 c.aE,bX 17 c.aE,aT 18 b] (cL n c h))) (fun(u:aA YV)=>(xq 0 [] (cL u c h))) (fun⟨b,n⟩=>ig fun a=>bl<|bo (dX (fun⟨e,o⟩=>(Q [bO 0 1,(1,.fn 121 [] []),aT 4 b,aR 16 c.aE,bX 17 c.aE,aT 18 b,bS 24 a.aI,bX 25 a.aI,aT 26 e] (aO 3 a::cL o c h))) (fun(t:aA YV)=>(xq 2 [bO 0 1,(1,.fn 121 [] []),aR 16 c.aE,bX 17 c.aE,aT 18 b] (aO 3 a::cL t c h))) (fun⟨e,o⟩=>ig fun f=>bl<|bo (dX (fun⟨g,p⟩=>(Q [bO 0 1,(1,.fn 121 [] []),aT 4 b,aT 6 e,aR 16 c.aE,bX 17 c.aE,aT 18 b,bS 24 a.aI,bX 25 a.aI,aT 26 e,dC 32 f.aK,bX 33 f.aK,aT 34 g] (cP 4 f::aO 3 a::cL p c h))) (fun(s:aA YV)=>(xq 4 [bO 0 1,(1,.fn 121 [] []),aT 4 b,aR 16 c.aE,bX 17 c.aE,aT 18 b,bS 24 a.aI,bX 25 a.aI,aT 26 e] (cP 4 f::aO 3 a::cL s c h))) (fun⟨g,p⟩=>ig fun l=>bl<|bo (dX (fun⟨i,j⟩=>(Q [bO 0 1,(1,.fn 121 [] []),aT 4 b,aT 6 e,aT 8 g,aR 16 c.aE,bX 17 c.aE,aT 18 b,bS 24 a.aI,bX 25 a.aI,aT 26 e,dC 32 f.aK,bX 33 f.aK,aT 34 g,fF 40 l.aU,bX 41 l.aU,aT 42 i] (bZ 5 l::cP 4 f::aO 3 a::cL j c h))) (fun(r:aA YV)=>(xq 6 [bO 0 1,(1,.fn 121 [] []),aT 4 b,aT 6 e,aR 16 c.aE,bX 17 c.aE,aT 18 b,bS 24 a.aI,bX 25 a.aI,aT 26 e,dC 32 f.aK,bX 33 f.aK,aT 34 g] (bZ 5 l::cP 4 f::aO 3 a::cL r c h))) (fun⟨i,j⟩=>ig fun m=>bo (bV2 d (YP.mk 4 0 e b g i 0) m) fun q=>bo (iJ (d+8) q m.ID j c h)) (0,p))) (0,o))) (0,n))) (0,w))
def gQ1 (a:aA YV) (b:Y0) (c:Int):aB (aA YV):=
 (Xf a b c).bind fun d=>some d
def bW2 c a b:gJ (XD k (d+11)) 82 [.ref 1 0] (cL c a b) 3 false=(gQ1 c a b).map (fun(e:aA YV)=>(.tup [],cL e a b,0)):=by rw[xd (fn:=p82) rfl];exact bo (vK1 d c a b)
end Go.P
namespace Go.P
open Go.Sim (Ex gC CK)
open K (I Q rq nq xq ck)
variable {k:Bool} (d:Nat)
def F62 (e:Y0) (c:Int):aB (Int×Int×Int):=
 if decide (c<0)then some (0,0,2)else(aQ (E:=(Int×Int)⊕Unit) (fun(⟨a,b⟩:Int×Int)=>cT e.bQ b (fun d=>if decide (a<(d.dN.length:Int))then some (.inr (.inl (b,a)))else some (.inl (bN (a-(d.dN.length:Int)),bN (b+1)))) (some (.inr (.inr ())))) cQ (c,0)).bind fun f=>(match f with|.inl ⟨x7,x8⟩=>some (x7,x8,0)|.inr _=>some (0,0,2))
def nX2 a b:OD k (d+1) 62 [eJ a,i64 b]=(F62 a b).map (fun⟨h,i,j⟩=>.tup [i64 h,i64 i,i64 j]):=oe rfl<|iy<|bl<|bo (dX (S:=Int×Int) (fun⟨c,e⟩=>(Q [aT 1 c,jG 12 a.bQ,bX 13 a.bQ,aT 14 e] [aM 0 a])) (fun|.inl ⟨f,g⟩=>(rq [aT 4 f,aT 5 g,aT 6 0] [aM 0 a])|.inr _=>(xq 0 [] [aM 0 a])) (fun⟨c,e⟩=>ig fun l=>bl<|iy bl) (b,0)) fun|.inl ⟨f,g⟩=>rfl|.inr _=>rfl
def gR1 (a:YH) (b:Int):aB Bool:=
 (F99 a).bind fun⟨c,e⟩=>(qD (bN (c+b)) 0 127).bind fun d=>some (!d)
def sO1 a b:OD k (d+5) 124 [rD a,.ip [i64 b]]=(gR1 a b).map bv:=oe rfl<|bo (aM2 d a) fun⟨c,e⟩=>bo (nE (d+3) (bN (c+b)) 0 127)
def oA1 (a:YB) (b:Int):aB Bool:=
 (gR1 a.gP b).bind fun c=>some c
def bX2 a b:OD k (d+6) 126 [yS a,.ip [.fn 124 [] [.ip [i64 b]]]]=(oA1 a b).map bv:=oe rfl<|bo (sO1 d a.gP b)
def oB1 (b:aA YB) (c:Int):aB Int:=
 (aQ (E:=Int⊕Unit) (fun(a:Int)=>cT b a (fun d=>(oA1 d c).bind fun e=>if e then some (.inr (.inl a))else some (.inl (bN (a+1)))) (some (.inr (.inr ())))) cQ 0).bind fun f=>(match f with|.inl x8=>some x8|.inr _=>some (-1))
def bY2 a b:OD k (d+7) 182 [lI a,.fn 126 [] [.ip [.fn 124 [] [.ip [i64 b]]]]]=(oB1 a b).map i64:=oe rfl<|bl<|bo (dX (fun c=>(Q [mS 0 a,(1,.fn 126 [] [.ip [.fn 124 [] [.ip [i64 b]]]]),bX 7 a,aT 8 c] [])) (Tx 4) (fun c=>ig fun e=>bo (bX2 d e b) fun f=>io) 0) fun|.inl g=>rfl|.inr _=>rfl
def oC1 (a:aA YB) (b:Int):aB Bool:=
 (oB1 a b).bind fun c=>some (decide (c>=0))
def bZ2 a b:OD k (d+8) 125 [lI a,.fn 126 [] [.ip [.fn 124 [] [.ip [i64 b]]]]]=(oC1 a b).map bv:=oe rfl<|bo (bY2 d a b)
def oD1 (a:YD) (b:Int):aB Bool:=
 (gR1 a.gP b).bind fun c=>some c
def cA2 a b:OD k (d+6) 128 [Zs a,.ip [.fn 124 [] [.ip [i64 b]]]]=(oD1 a b).map bv:=oe rfl<|bo (sO1 d a.gP b)
def oE1 (b:aA YD) (c:Int):aB Int:=
 (aQ (E:=Int⊕Unit) (fun(a:Int)=>cT b a (fun d=>(oD1 d c).bind fun e=>if e then some (.inr (.inl a))else some (.inl (bN (a+1)))) (some (.inr (.inr ())))) cQ 0).bind fun f=>(match f with|.inl x8=>some x8|.inr _=>some (-1))
def cB2 a b:OD k (d+7) 183 [oF a,.fn 128 [] [.ip [.fn 124 [] [.ip [i64 b]]]]]=(oE1 a b).map i64:=oe rfl<|bl<|bo (dX (fun c=>(Q [sF 0 a,(1,.fn 128 [] [.ip [.fn 124 [] [.ip [i64 b]]]]),bX 7 a,aT 8 c] [])) (Tx 4) (fun c=>ig fun e=>bo (cA2 d e b) fun f=>io) 0) fun|.inl g=>rfl|.inr _=>rfl
def oF1 (a:aA YD) (b:Int):aB Bool:=
 (oE1 a b).bind fun c=>some (decide (c>=0))
def cC2 a b:OD k (d+8) 127 [oF a,.fn 128 [] [.ip [.fn 124 [] [.ip [i64 b]]]]]=(oF1 a b).map bv:=oe rfl<|bo (cB2 d a b)
def oG1 (h:YP) (e:YE) (f:YK):aB Bool:=
 (Lw e).bind fun i=>if i !=0 then some false else(F62 f.s' h.eW).bind fun⟨j,m,k⟩=>(if k==0 then(bE f.s'.bQ j).bind fun l=>some l.gG.fK else some 0:aB Int).bind fun g=>(if f.s'.dT then some (bN (0-g))else some g:aB Int).bind fun a=>(oC1 e.gO a).bind fun b=>(if b then some true else(oF1 e.hZ a).bind fun c=>some c:aB Bool).bind fun d=>some d
def cD2 c b f:OD k (d+9) 123 [eB c,dV b,.ip [cO f]]=(oG1 c b f).map bv:=oe rfl<|bo (Jp d b) fun i=>iy<|bo (nX2 (d+7) f.s' c.eW) fun⟨j,l,m⟩=>bo (e:=(fun(g:Int)=>(nq [(2,.ip [cO f]),bO 4 1,bO 6 2] [(2,.box [i64 g]),fG 1 b,aV 0 c]))) (ig fun n=>rfl) fun g=>bo (e:=(fun(a:Int)=>(nq [bO 4 1,bO 6 2] [(2,.box [i64 a]),fG 1 b,aV 0 c]))) io fun a=>bo (bZ2 d b.gO a) fun h=>be (iy<|bo (cC2 d b.hZ a))
def Dg (u:aA YV) (p:Y0) (t:Int):aB (aA YV):=
 (aQ (fun(⟨d,m⟩:Int×(aA YV))=>cT p.aE d (fun q=>(aQ (fun(⟨e,n⟩:Int×(aA YV))=>cT q.aI e (fun r=>(aQ (fun(⟨f,o⟩:Int×(aA YV))=>cT r.aK f (fun s=>(aQ (fun(⟨a,b⟩:Int×(aA YV))=>cT s.aU a (fun c=>(oG1 (YP.mk 4 0 e d f a 0) c (YK.mk p t b)).bind fun g=>(iU g c.ID b p t).bind fun h=>some (.inl (bN (a+1),h))) (some (.inr b))) cQ (0,o)).bind fun i=>some (.inl (bN (f+1),i))) (some (.inr o))) cQ (0,n)).bind fun j=>some (.inl (bN (e+1),j))) (some (.inr n))) cQ (0,m)).bind fun k=>some (.inl (bN (d+1),k))) (some (.inr m))) cQ (0,u)).bind fun l=>some l
def gS1 w c h:gJ (XD k (d+10)) 120 [.ref 1 0,.fn 123 [] [.ref 3 0]] ((3,.box [.ref 1 0])::cL w c h) 4 false=(Dg w c h).map (fun(v:aA YV)=>(.tup [],((3,.box [.ref 1 0])::cL v c h),0)):=by rw[xd (fn:=Zl) rfl];exact bl<|bo (dX (fun⟨b,n⟩=>(Q [bO 0 1,(1,.fn 123 [] [.ref 3 0]),aR 16 c.aE,bX 17 c.aE,aT 18 b] ((3,.box [.ref 1 0])::cL n c h))) (fun(u:aA YV)=>(xq 0 [] ((3,.box [.ref 1 0])::cL u c h))) (fun⟨b,n⟩=>ig fun a=>bl<|bo (dX (fun⟨e,o⟩=>(Q [bO 0 1,(1,.fn 123 [] [.ref 3 0]),aT 4 b,aR 16 c.aE,bX 17 c.aE,aT 18 b,bS 24 a.aI,bX 25 a.aI,aT 26 e] (aO 4 a::(3,.box [.ref 1 0])::cL o c h))) (fun(t:aA YV)=>(xq 2 [bO 0 1,(1,.fn 123 [] [.ref 3 0]),aR 16 c.aE,bX 17 c.aE,aT 18 b] (aO 4 a::(3,.box [.ref 1 0])::cL t c h))) (fun⟨e,o⟩=>ig fun f=>bl<|bo (dX (fun⟨i,p⟩=>(Q [bO 0 1,(1,.fn 123 [] [.ref 3 0]),aT 4 b,aT 6 e,aR 16 c.aE,bX 17 c.aE,aT 18 b,bS 24 a.aI,bX 25 a.aI,aT 26 e,dC 32 f.aK,bX 33 f.aK,aT 34 i] (cP 5 f::aO 4 a::(3,.box [.ref 1 0])::cL p c h))) (fun(s:aA YV)=>(xq 4 [bO 0 1,(1,.fn 123 [] [.ref 3 0]),aT 4 b,aR 16 c.aE,bX 17 c.aE,aT 18 b,bS 24 a.aI,bX 25 a.aI,aT 26 e] (cP 5 f::aO 4 a::(3,.box [.ref 1 0])::cL s c h))) (fun⟨i,p⟩=>ig fun l=>bl<|bo (dX (fun⟨j,g⟩=>(Q [bO 0 1,(1,.fn 123 [] [.ref 3 0]),aT 4 b,aT 6 e,aT 8 i,aR 16 c.aE,bX 17 c.aE,aT 18 b,bS 24 a.aI,bX 25 a.aI,aT 26 e,dC 32 f.aK,bX 33 f.aK,aT 34 i,fF 40 l.aU,bX 41 l.aU,aT 42 j] (bZ 6 l::cP 5 f::aO 4 a::(3,.box [.ref 1 0])::cL g c h))) (fun(r:aA YV)=>(xq 6 [bO 0 1,(1,.fn 123 [] [.ref 3 0]),aT 4 b,aT 6 e,aR 16 c.aE,bX 17 c.aE,aT 18 b,bS 24 a.aI,bX 25 a.aI,aT 26 e,dC 32 f.aK,bX 33 f.aK,aT 34 i] (bZ 6 l::cP 5 f::aO 4 a::(3,.box [.ref 1 0])::cL r c h))) (fun⟨j,g⟩=>ig fun m=>bo (cD2 d (YP.mk 4 0 e b i j 0) m (YK.mk c h g)) fun q=>bo (iJ (d+8) q m.ID g c h)) (0,p))) (0,o))) (0,n))) (0,w))
def gT1 (a:aA YV) (b:Y0) (c:Int):aB (aA YV):=
 (Dg a b c).bind fun d=>some d
def cE2 c a b:gJ (XD k (d+11)) 83 [.ref 1 0] (cL c a b) 3 false=(gT1 c a b).map (fun(e:aA YV)=>(.tup [],cL e a b,0)):=by rw[xd (fn:=p83) rfl];exact bo (gS1 d c a b)
def oH1 (a:YB):aB Bool:=
 some a.iV1
def cF2 a:OD k (d+1) 184 [yS a]=(oH1 a).map bv:=oe rfl<|rfl
def Md (b:aA YB):aB Int:=
 (aQ (E:=Int⊕Unit) (fun(a:Int)=>cT b a (fun c=>(oH1 c).bind fun d=>if d then some (.inr (.inl a))else some (.inl (bN (a+1)))) (some (.inr (.inr ())))) cQ 0).bind fun e=>(match e with|.inl x7=>some x7|.inr _=>some (-1))
def oI1 a:OD k (d+2) 182 [lI a,.fn 184 [] []]=(Md a).map i64:=oe rfl<|bl<|bo (dX (fun b=>(Q [mS 0 a,(1,.fn 184 [] []),bX 7 a,aT 8 b] [])) (Tx 4) (fun b=>ig fun c=>bo (cF2 d c) fun e=>io) 0) fun|.inl f=>rfl|.inr _=>rfl
def Me (a:aA YB):aB Bool:=
 (Md a).bind fun b=>some (decide (b>=0))
def oJ1 a:OD k (d+3) 125 [lI a,.fn 184 [] []]=(Me a).map bv:=oe rfl<|bo (oI1 d a)
def gU1 (a:YE):aB Bool:=
 (if a.eM==1 then(Me a.gO).bind fun b=>some b else some false:aB Bool).bind fun c=>some c
def sP1 a:OD k (d+4) 130 [dV a]=(gU1 a).map bv:=oe rfl<|be (io<|bo (oJ1 d a.gO))
def Mf (b:Y0) (a c g:Int):aB (aA YE):=
 (if((decide (a<0))||(decide (a>=(b.aE.length:Int))))||(decide (c<0))then some true else(bE b.aE a).bind fun h=>some (decide (c>=(h.aI.length:Int))):aB Bool).bind fun i=>(if i||(decide (g<0))then some true else(bE b.aE a).bind fun j=>(bE j.aI c).bind fun k=>some (decide (g>=(k.aK.length:Int))):aB Bool).bind fun l=>if l then some []else(bE b.aE a).bind fun d=>(bE d.aI c).bind fun e=>(bE e.aK g).bind fun f=>some f.aU
def Xg a b c e:OD k (d+1) 186 [eJ a,i64 b,i64 c,i64 e]=(Mf a b c e).map (fun h=>mR h):=oe rfl<|bz (jH (bz lm rfl))<|bz (jH rfl)<|be (iy<|bo rg fun i=>bl) fun j=>bz (jH rfl)<|be (iy<|bo rg fun l=>bo rg fun m=>bl) fun n=>iy<|bo rg fun f=>bo rg fun g=>bo rg
def gV1 (b:Y0) (a:YP):aB Int:=
 if a.eM !=4 then some 11 else(if decide (a.pI<0)then some true else(Mf b a.bV a.eW a.fU).bind fun c=>some (decide (a.pI>=(c.length:Int))):aB Bool).bind fun d=>if d then some 2 else some 0
def sQ1 b a:OD k (d+2) 185 [eJ b,eB a]=(gV1 b a).map i64:=oe rfl<|iy<|be (iy<|bo (Xg d b a.bV a.eW a.fU) fun c=>bl) fun e=>io
def gW1 (a b:Int) (c d:Int):aB YP:=
 some (YP.mk 4 0 b a c d 0)
def sR1 a b c e:OD k (d+1) 187 [i64 a,i64 b,i64 c,i64 e]=(gW1 a b c e).map (fun f=>eB f):=oe rfl<|rfl
def gX1 (b:Y0) (a:YP):aB (YP×Bool):=
 (gV1 b a).bind fun c=>if c !=0 then some (YP.mk 0 0 0 0 0 0 0,false)else(Mf b a.bV a.eW a.fU).bind fun d=>if decide ((bN (a.pI+1))<(d.length:Int))then(gW1 a.bV a.eW a.fU (bN (a.pI+1))).bind fun e=>some (e,true)else(Mf b (bN (a.bV+1)) a.eW a.fU).bind fun f=>if decide ((f.length:Int)>0)then(gW1 (bN (a.bV+1)) a.eW a.fU 0).bind fun g=>some (g,true)else some (YP.mk 0 0 0 0 0 0 0,false)
def sS1 b a:OD k (d+3) 131 [eJ b,eB a]=(gX1 b a).map (fun⟨c,e⟩=>.tup [eB c,bv e]):=oe rfl<|bo (sQ1 d b a) fun f=>iy<|bo (Xg (d+1) b a.bV a.eW a.fU) fun g=>bl<|io (bo (sR1 (d+1) a.bV a.eW a.fU (bN (a.pI+1))))<|bo (Xg (d+1) b (bN (a.bV+1)) a.eW a.fU) fun h=>bl<|io<|bo (sR1 (d+1) (bN (a.bV+1)) a.eW a.fU 0)
def Ud (a:YE):aB YE:=
 (iG a.gO).bind fun b=>(iG a.hZ).bind fun c=>(iG a.eD).bind fun d=>some {a with gO:=b,hZ:=c,eD:=d}
def sT1 a:OD k (d+2) 150 [dV a]=(Ud a).map (fun b=>dV b):=oe rfl<|bo (jS 202 (d+1) 5 _ _ rfl rfl rfl) fun c=>bo (jS 203 (d+1) 5 _ _ rfl rfl rfl) fun e=>bo (jS 204 (d+1) 2 _ _ rfl rfl rfl)
def oK1 (b:Y0) (a:YP):aB (YE×Int):=
 (gV1 b a).bind fun c=>if c !=0 then some (YE.mk (YZ.mk 0 0) 0 (YA.mk 0 0) [] [] 0 0 0 [] 0 0,c)else(Mf b a.bV a.eW a.fU).bind fun d=>(bE d a.pI).bind fun e=>(Ud e).bind fun f=>some (f,0)
def cG2 b a:OD k (d+3) 132 [eJ b,eB a]=(oK1 b a).map (fun⟨e,f⟩=>.tup [dV e,i64 f]):=oe rfl<|bo (sQ1 d b a) fun g=>iy<|bo (Xg (d+1) b a.bV a.eW a.fU) fun h=>bo rg fun c=>bo (sT1 d c)
def oL1 (a b:YB):aB Bool:=
 some (((a.gP.tY==b.gP.tY)&&((a.gP.sN==b.gP.sN)&&((a.gP.nK==b.gP.nK)&&true)))!=false)
def cH2 a b:OD k (d+1) 188 [yS a,yW b]=(oL1 a b).map bv:=oe rfl<|rfl
def Mg (b:aA YB) (c:YB):aB Int:=
 (aQ (E:=Int⊕Unit) (fun(a:Int)=>cT b a (fun d=>(oL1 d c).bind fun e=>if e then some (.inr (.inl a))else some (.inl (bN (a+1)))) (some (.inr (.inr ())))) cQ 0).bind fun f=>(match f with|.inl x8=>some x8|.inr _=>some (-1))
def oM1 a b:OD k (d+2) 182 [lI a,.fn 188 [] [yW b]]=(Mg a b).map i64:=oe rfl<|bl<|bo (dX (fun c=>(Q [mS 0 a,(1,.fn 188 [] [yW b]),bX 7 a,aT 8 c] [])) (Tx 4) (fun c=>ig fun e=>bo (cH2 d e b) fun f=>io) 0) fun|.inl g=>rfl|.inr _=>rfl
def Mh (a:aA YB) (b:YB):aB Bool:=
 (Mg a b).bind fun c=>some (decide (c>=0))
def oN1 a b:OD k (d+3) 125 [lI a,.fn 188 [] [yW b]]=(Mh a b).map bv:=oe rfl<|bo (oM1 d a b)
def oO1 (d e:YE):aB Bool:=
 if d.eM !=1 then some true else(aQ (E:=Unit⊕Unit) (fun(f:Int)=>cT d.gO f (fun g=>(if g.iV1 then(if e.eM==1 then(Mh e.gO g).bind fun h=>some h else some false:aB Bool).bind fun a=>some (!a)else some false:aB Bool).bind fun b=>if b then some (.inr (.inl ()))else some (.inl (bN (f+1)))) (some (.inr (.inr ())))) cQ 0).bind fun c=>(match c with|.inl _=>some false|.inr _=>some true)
def cI2 a b:OD k (d+4) 133 [dV a,dV b]=(oO1 a b).map bv:=oe rfl<|iy<|bl<|bo (dX (fun c=>(Q [bO 3 1,mS 11 a.gO,bX 12 a.gO,aT 13 c] [fG 1 b,fG 0 a])) (fun|.inl _=>(rq [(4,bv false)] [fG 1 b,fG 0 a])|.inr _=>(xq 0 [] [fG 1 b,fG 0 a])) (fun c=>ig fun f=>be (io<|be (io<|bo (oN1 d b.gO f))) fun e=>io) 0) fun|.inl _=>rfl|.inr _=>rfl
def oP1 (d:YP) (b:YE) (c:YK):aB Bool:=
 (gU1 b).bind fun e=>if !e then some false else(gX1 c.s' d).bind fun⟨f,g⟩=>(oK1 c.s' f).bind fun⟨h,j⟩=>(if !g then some true else(oO1 b h).bind fun i=>some (!i):aB Bool).bind fun a=>some a
def cJ2 c a b:OD k (d+5) 129 [eB c,dV a,.ip [cO b]]=(oP1 c a b).map bv:=oe rfl<|bo (sP1 d a) fun g=>iy<|bo (sS1 (d+1) b.s' c) fun⟨e,h⟩=>bo (cG2 (d+1) b.s' e) fun⟨f,i⟩=>be (iy<|bo (cI2 d a f))
def Dh (u:aA YV) (p:Y0) (t:Int):aB (aA YV):=
 (aQ (fun(⟨d,m⟩:Int×(aA YV))=>cT p.aE d (fun q=>(aQ (fun(⟨e,n⟩:Int×(aA YV))=>cT q.aI e (fun r=>(aQ (fun(⟨f,o⟩:Int×(aA YV))=>cT r.aK f (fun s=>(aQ (fun(⟨a,b⟩:Int×(aA YV))=>cT s.aU a (fun c=>(oP1 (YP.mk 4 0 e d f a 0) c (YK.mk p t b)).bind fun g=>(iU g c.ID b p t).bind fun h=>some (.inl (bN (a+1),h))) (some (.inr b))) cQ (0,o)).bind fun i=>some (.inl (bN (f+1),i))) (some (.inr o))) cQ (0,n)).bind fun j=>some (.inl (bN (e+1),j))) (some (.inr n))) cQ (0,m)).bind fun k=>some (.inl (bN (d+1),k))) (some (.inr m))) cQ (0,u)).bind fun l=>some l
def gY1 w c h:gJ (XD k (d+6)) 120 [.ref 1 0,.fn 129 [] [.ref 3 0]] ((3,.box [.ref 1 0])::cL w c h) 4 false=(Dh w c h).map (fun(v:aA YV)=>(.tup [],((3,.box [.ref 1 0])::cL v c h),0)):=by rw[xd (fn:=Zl) rfl];exact bl<|bo (dX (fun⟨b,n⟩=>(Q [bO 0 1,(1,.fn 129 [] [.ref 3 0]),aR 16 c.aE,bX 17 c.aE,aT 18 b] ((3,.box [.ref 1 0])::cL n c h))) (fun(u:aA YV)=>(xq 0 [] ((3,.box [.ref 1 0])::cL u c h))) (fun⟨b,n⟩=>ig fun a=>bl<|bo (dX (fun⟨e,o⟩=>(Q [bO 0 1,(1,.fn 129 [] [.ref 3 0]),aT 4 b,aR 16 c.aE,bX 17 c.aE,aT 18 b,bS 24 a.aI,bX 25 a.aI,aT 26 e] (aO 4 a::(3,.box [.ref 1 0])::cL o c h))) (fun(t:aA YV)=>(xq 2 [bO 0 1,(1,.fn 129 [] [.ref 3 0]),aR 16 c.aE,bX 17 c.aE,aT 18 b] (aO 4 a::(3,.box [.ref 1 0])::cL t c h))) (fun⟨e,o⟩=>ig fun f=>bl<|bo (dX (fun⟨i,p⟩=>(Q [bO 0 1,(1,.fn 129 [] [.ref 3 0]),aT 4 b,aT 6 e,aR 16 c.aE,bX 17 c.aE,aT 18 b,bS 24 a.aI,bX 25 a.aI,aT 26 e,dC 32 f.aK,bX 33 f.aK,aT 34 i] (cP 5 f::aO 4 a::(3,.box [.ref 1 0])::cL p c h))) (fun(s:aA YV)=>(xq 4 [bO 0 1,(1,.fn 129 [] [.ref 3 0]),aT 4 b,aR 16 c.aE,bX 17 c.aE,aT 18 b,bS 24 a.aI,bX 25 a.aI,aT 26 e] (cP 5 f::aO 4 a::(3,.box [.ref 1 0])::cL s c h))) (fun⟨i,p⟩=>ig fun l=>bl<|bo (dX (fun⟨j,g⟩=>(Q [bO 0 1,(1,.fn 129 [] [.ref 3 0]),aT 4 b,aT 6 e,aT 8 i,aR 16 c.aE,bX 17 c.aE,aT 18 b,bS 24 a.aI,bX 25 a.aI,aT 26 e,dC 32 f.aK,bX 33 f.aK,aT 34 i,fF 40 l.aU,bX 41 l.aU,aT 42 j] (bZ 6 l::cP 5 f::aO 4 a::(3,.box [.ref 1 0])::cL g c h))) (fun(r:aA YV)=>(xq 6 [bO 0 1,(1,.fn 129 [] [.ref 3 0]),aT 4 b,aT 6 e,aR 16 c.aE,bX 17 c.aE,aT 18 b,bS 24 a.aI,bX 25 a.aI,aT 26 e,dC 32 f.aK,bX 33 f.aK,aT 34 i] (bZ 6 l::cP 5 f::aO 4 a::(3,.box [.ref 1 0])::cL r c h))) (fun⟨j,g⟩=>ig fun m=>bo (cJ2 d (YP.mk 4 0 e b i j 0) m (YK.mk c h g)) fun q=>bo (iJ (d+4) q m.ID g c h)) (0,p))) (0,o))) (0,n))) (0,w))
def gZ1 (a:aA YV) (b:Y0) (c:Int):aB (aA YV):=
 (Dh a b c).bind fun d=>some d
def cK2 c a b:gJ (XD k (d+7)) 84 [.ref 1 0] (cL c a b) 3 false=(gZ1 c a b).map (fun(e:aA YV)=>(.tup [],cL e a b,0)):=by rw[xd (fn:=p84) rfl];exact bo (gY1 d c a b)
def oQ1 (a:YE) (b:Int):aB Bool:=
 (if decide (b>=(a.eD.length:Int))then some true else(bE a.eD b).bind fun c=>some (((c.qE==(⟨#[]⟩:ByteArray))&&((c.Ca==0)&&true))!=false):aB Bool).bind fun d=>some d
def cL2 a b:OD k (d+1) 189 [dV a,i64 b]=(oQ1 a b).map bv:=oe rfl<|bl<|be (iy<|bo rg)
def Xh (v N T:Int) (U:aA (YP×Bool)) (W:aA YV) (V:Y0) (X:Int):aB (aA (YP×Bool)):=
 (aQ (fun(⟨j,n,o,p,q,r,s,t⟩:Int×Int×Int×Int×Int×Int×YY×(aA (YP×Bool)))=>cT V.aE j (fun u=>(if decide (v>=(u.aI.length:Int))then some true else(bE u.aI v).bind fun O=>some (decide (N>=(O.aK.length:Int))):aB Bool).bind fun P=>if P then some (.inl (bN (j+1),n,o,p,q,r,s,t))else(bE u.aI v).bind fun R=>(bE R.aK N).bind fun S=>(aQ (fun(⟨a,e,f,g,h,i,b,c⟩:Int×Int×Int×Int×Int×Int×YY×(aA (YP×Bool)))=>cT S.aU a (fun k=>(oQ1 k T).bind fun w=>if w then some (.inl (bN (a+1),e,f,g,h,i,b,c))else(bE k.eD T).bind fun d=>(if(b.Ca==1)&&(d.qE.toList==(⟨#[]⟩:ByteArray).toList)then some (tS c (YP.mk e 0 f g h i 0) true)else some c:aB (aA (YP×Bool))).bind fun l=>(if((d.qE.toList==(⟨#[]⟩:ByteArray).toList)&&(d.Ca==2))&&(b.Ca !=2)then some (tS l (YP.mk 4 0 v j N a 0) true)else some l:aB (aA (YP×Bool))).bind fun x=>some (.inl (bN (a+1),4,v,j,N,a,d,x))) (some (.inr (e,f,g,h,i,b,c)))) cQ (0,n,o,p,q,r,s,t)).bind fun⟨y,z,A,B,C,D,E⟩=>some (.inl (bN (j+1),y,z,A,B,C,D,E))) (some (.inr (n,o,p,q,r,s,t)))) cQ (0,0,0,0,0,0,(YY.mk (⟨#[]⟩:ByteArray) 0),U)).bind fun⟨F,G,H,J,K,L,m⟩=>(if L.Ca==1 then some (tS m (YP.mk F 0 G H J K 0) true)else some m:aB (aA (YP×Bool))).bind fun M=>some M
def vL1 (y z O:Int) (Z:aA (YP×Bool)) (A:aA YV) (c:Y0) (B:Int):gJ (XD k (d+2)) 134 [.ref 1 0,i64 y,i64 z,i64 O,.map 3] ((3,.mp (I (dL (eA YP.g) bv) Z))::cL A c B) 4 false=(Xh y z O Z A c B).map (fun(Y:aA (YP×Bool))=>(.tup [],((3,.mp (I (dL (eA YP.g) bv) Y))::cL A c B),0)):=by
 rw[xd (fn:=yO1) rfl];refine bl ?_;refine bo (dX (S:=Int×Int×Int×Int×Int×Int×YY×(aA (YP×Bool))) (fun⟨a,P,R,T,U,V,W,X⟩=>(Q [aT 1 y,aT 2 z,aT 3 O,(4,.map 3),bO 10 4,bO 11 5,aR 22 c.aE,bX 23 c.aE,aT 24 a] ((5,.box [i64 P,i64 0,i64 R,i64 T,i64 U,i64 V,i64 0])::eE 4 W::(3,.mp (I (dL (eA YP.g) bv) X))::cL A c B))) (fun(⟨n,o,p,q,r,w,x⟩:Int×Int×Int×Int×Int×YY×(aA (YP×Bool)))=>(xq 0 [(4,.map 3),bO 10 4,bO 11 5] ((5,.box [i64 n,i64 0,i64 o,i64 p,i64 q,i64 r,i64 0])::eE 4 w::(3,.mp (I (dL (eA YP.g) bv) x))::cL A c B))) (fun⟨a,P,R,T,U,V,W,X⟩=>?_) (0,0,0,0,0,0,(YY.mk (⟨#[]⟩:ByteArray) 0),Z)) fun⟨n,o,p,q,r,w,x⟩=>?_;refine ig fun C=>?_;refine bl ?_;refine be ?_ fun b4=>?_;refine iy ?_;refine bo rg fun b0=>?_;refine bl ?_;rfl;refine iy ?_;refine bo rg fun b5=>?_;refine bo rg fun s=>?_;refine bl ?_;refine bo (dX (S:=Int×Int×Int×Int×Int×Int×YY×(aA (YP×Bool))) (fun⟨b,f,h,i,j,l,m,t⟩=>(Q [aT 1 y,aT 2 z,aT 3 O,(4,.map 3),bO 10 4,bO 11 5,aT 12 a,aR 22 c.aE,bX 23 c.aE,aT 24 a,fF 54 s.aU,bX 55 s.aU,aT 56 b] (aO 6 C::(5,.box [i64 f,i64 0,i64 h,i64 i,i64 j,i64 l,i64 0])::eE 4 m::(3,.mp (I (dL (eA YP.g) bv) t))::cL A c B))) (fun(⟨F,G,H,J,K,L,M⟩:Int×Int×Int×Int×Int×YY×(aA (YP×Bool)))=>(xq 2 [aT 1 y,aT 2 z,aT 3 O,(4,.map 3),bO 10 4,bO 11 5,aR 22 c.aE,bX 23 c.aE,aT 24 a] (aO 6 C::(5,.box [i64 F,i64 0,i64 G,i64 H,i64 J,i64 K,i64 0])::eE 4 L::(3,.mp (I (dL (eA YP.g) bv) M))::cL A c B))) (fun⟨b,f,h,i,j,l,m,t⟩=>?_) (0,P,R,T,U,V,W,X)) fun⟨F,G,H,J,K,L,M⟩=>?_;refine ig fun u=>?_;refine bo (cL2 d u O) fun a0=>?_;refine iy ?_;refine bo rg fun D=>?_;refine bz (jD rfl) ?_;refine bo (e:=(fun(v:aA (YP×Bool))=>(nq [aT 1 y,aT 2 z,aT 3 O,(4,.map 3),bO 10 4,bO 11 5,aT 12 a,bO 16 8,bO 17 9,aR 22 c.aE,bX 23 c.aE,aT 24 a,fF 54 s.aU,bX 55 s.aU,aT 56 b] (eE 9 D::(8,.box [i64 4,i64 0,i64 y,i64 a,i64 z,i64 b,i64 0])::fG 7 u::aO 6 C::(5,.box [i64 f,i64 0,i64 h,i64 i,i64 j,i64 l,i64 0])::eE 4 m::(3,.mp (I (dL (eA YP.g) bv) v))::cL A c B)))) ?_ fun v=>?_;refine io ?_;refine bz (iV lK bv t (YP.mk f 0 h i j l 0) true) ?_;rfl;refine bz (jD rfl) ?_;refine bz (jD rfl) ?_;refine bo (e:=(fun(E:aA (YP×Bool))=>(nq [aT 1 y,aT 2 z,aT 3 O,(4,.map 3),bO 10 4,bO 11 5,aT 12 a,bO 16 8,bO 17 9,aR 22 c.aE,bX 23 c.aE,aT 24 a,fF 54 s.aU,bX 55 s.aU,aT 56 b] (eE 9 D::(8,.box [i64 4,i64 0,i64 y,i64 a,i64 z,i64 b,i64 0])::fG 7 u::aO 6 C::(5,.box [i64 f,i64 0,i64 h,i64 i,i64 j,i64 l,i64 0])::eE 4 m::(3,.mp (I (dL (eA YP.g) bv) E))::cL A c B)))) ?_ fun E=>?_;refine io ?_;refine bz (iV lK bv v (YP.mk 4 0 y a z b 0) true) ?_;rfl;rfl;rfl;refine bo (e:=(fun(N:aA (YP×Bool))=>(nq [] ((5,.box [i64 n,i64 0,i64 o,i64 p,i64 q,i64 r,i64 0])::eE 4 w::(3,.mp (I (dL (eA YP.g) bv) N))::cL A c B)))) ?_ fun N=>?_;refine io ?_;refine bz (iV lK bv x (YP.mk n 0 o p q r 0) true) ?_;rfl;rfl
def oR1 (a:YP) (c:YE) (b:aA (YP×Bool)):aB Bool:=
 some (sR b a false)
def cM2 a c b:OD k (d+1) 135 [eB a,dV c,.ip [.im (I (dL (eA YP.g) bv) b)]]=(oR1 a c b).map bv:=oe rfl<|bz (pE lK bv b a false)
def Di (t:aA (YP×Bool)) (u:aA YV) (s:Y0) (v:Int):aB (aA YV):=
 (aQ (fun(⟨d,m⟩:Int×(aA YV))=>cT s.aE d (fun p=>(aQ (fun(⟨e,n⟩:Int×(aA YV))=>cT p.aI e (fun q=>(aQ (fun(⟨f,o⟩:Int×(aA YV))=>cT q.aK f (fun r=>(aQ (fun(⟨a,b⟩:Int×(aA YV))=>cT r.aU a (fun c=>(oR1 (YP.mk 4 0 e d f a 0) c t).bind fun g=>(iU g c.ID b s v).bind fun h=>some (.inl (bN (a+1),h))) (some (.inr b))) cQ (0,o)).bind fun i=>some (.inl (bN (f+1),i))) (some (.inr o))) cQ (0,n)).bind fun j=>some (.inl (bN (e+1),j))) (some (.inr n))) cQ (0,m)).bind fun k=>some (.inl (bN (d+1),k))) (some (.inr m))) cQ (0,u)).bind fun l=>some l
def hA1 i y c j:gJ (XD k (d+2)) 120 [.ref 1 0,.fn 135 [] [.ref 4 0]] ((4,.box [.map 3])::(3,.mp (I (dL (eA YP.g) bv) i))::cL y c j) 5 false=(Di i y c j).map (fun(x:aA YV)=>(.tup [],((4,.box [.map 3])::(3,.mp (I (dL (eA YP.g) bv) i))::cL x c j),0)):=by rw[xd (fn:=Zl) rfl];exact bl<|bo (dX (fun⟨b,p⟩=>(Q [bO 0 1,(1,.fn 135 [] [.ref 4 0]),aR 16 c.aE,bX 17 c.aE,aT 18 b] ((4,.box [.map 3])::(3,.mp (I (dL (eA YP.g) bv) i))::cL p c j))) (fun(w:aA YV)=>(xq 0 [] ((4,.box [.map 3])::(3,.mp (I (dL (eA YP.g) bv) i))::cL w c j))) (fun⟨b,p⟩=>ig fun a=>bl<|bo (dX (fun⟨e,q⟩=>(Q [bO 0 1,(1,.fn 135 [] [.ref 4 0]),aT 4 b,aR 16 c.aE,bX 17 c.aE,aT 18 b,bS 24 a.aI,bX 25 a.aI,aT 26 e] (aO 5 a::(4,.box [.map 3])::(3,.mp (I (dL (eA YP.g) bv) i))::cL q c j))) (fun(v:aA YV)=>(xq 2 [bO 0 1,(1,.fn 135 [] [.ref 4 0]),aR 16 c.aE,bX 17 c.aE,aT 18 b] (aO 5 a::(4,.box [.map 3])::(3,.mp (I (dL (eA YP.g) bv) i))::cL v c j))) (fun⟨e,q⟩=>ig fun f=>bl<|bo (dX (fun⟨h,r⟩=>(Q [bO 0 1,(1,.fn 135 [] [.ref 4 0]),aT 4 b,aT 6 e,aR 16 c.aE,bX 17 c.aE,aT 18 b,bS 24 a.aI,bX 25 a.aI,aT 26 e,dC 32 f.aK,bX 33 f.aK,aT 34 h] (cP 6 f::aO 5 a::(4,.box [.map 3])::(3,.mp (I (dL (eA YP.g) bv) i))::cL r c j))) (fun(u:aA YV)=>(xq 4 [bO 0 1,(1,.fn 135 [] [.ref 4 0]),aT 4 b,aR 16 c.aE,bX 17 c.aE,aT 18 b,bS 24 a.aI,bX 25 a.aI,aT 26 e] (cP 6 f::aO 5 a::(4,.box [.map 3])::(3,.mp (I (dL (eA YP.g) bv) i))::cL u c j))) (fun⟨h,r⟩=>ig fun n=>bl<|bo (dX (fun⟨l,m⟩=>(Q [bO 0 1,(1,.fn 135 [] [.ref 4 0]),aT 4 b,aT 6 e,aT 8 h,aR 16 c.aE,bX 17 c.aE,aT 18 b,bS 24 a.aI,bX 25 a.aI,aT 26 e,dC 32 f.aK,bX 33 f.aK,aT 34 h,fF 40 n.aU,bX 41 n.aU,aT 42 l] (bZ 7 n::cP 6 f::aO 5 a::(4,.box [.map 3])::(3,.mp (I (dL (eA YP.g) bv) i))::cL m c j))) (fun(t:aA YV)=>(xq 6 [bO 0 1,(1,.fn 135 [] [.ref 4 0]),aT 4 b,aT 6 e,aR 16 c.aE,bX 17 c.aE,aT 18 b,bS 24 a.aI,bX 25 a.aI,aT 26 e,dC 32 f.aK,bX 33 f.aK,aT 34 h] (bZ 7 n::cP 6 f::aO 5 a::(4,.box [.map 3])::(3,.mp (I (dL (eA YP.g) bv) i))::cL t c j))) (fun⟨l,m⟩=>ig fun o=>bo (cM2 d (YP.mk 4 0 e b h l 0) o i) fun s=>bo (iJ d s o.ID m c j)) (0,r))) (0,q))) (0,p))) (0,y))
def hB1 (m:aA YV) (g:Y0) (n:Int):aB (aA YV):=
 (F32 g).bind fun o=>(aQ (fun(⟨a,d⟩:Int×(aA (YP×Bool)))=>if decide (a<o)then(aQ (fun(⟨b,e⟩:Int×(aA (YP×Bool)))=>if decide (b<2)then(aQ (fun(⟨c,f⟩:Int×(aA (YP×Bool)))=>if decide (c<4)then(Xh a b c f m g n).bind fun h=>some (.inl (bN (c+1),h))else some (.inr f)) cQ (0,e)).bind fun i=>some (.inl (bN (b+1),i))else some (.inr e)) cQ (0,d)).bind fun j=>some (.inl (bN (a+1),j))else some (.inr d)) cQ (0,[])).bind fun k=>(Di k m g n).bind fun l=>some l
def cN2 (f:aA YV) (c:Y0) (e:Int):gJ (XD k (d+3)) 85 [.ref 1 0] (cL f c e) 3 false=(hB1 f c e).map (fun(q:aA YV)=>(.tup [],cL q c e,0)):=by
 rw[xd (fn:=p85) rfl];refine bo (zN1 (d+1) c) fun p=>?_;refine bo (dX (S:=Int×(aA (YP×Bool))) (fun⟨a,h⟩=>(Q [bO 0 1,bO 2 4,aT 13 p,aT 14 a] ((4,.box [.map 3])::(3,.mp (I (dL (eA YP.g) bv) h))::cL f c e))) (fun(m:aA (YP×Bool))=>(xq 0 [bO 0 1,bO 2 4] ((4,.box [.map 3])::(3,.mp (I (dL (eA YP.g) bv) m))::cL f c e))) (fun⟨a,h⟩=>?_) (0,[])) fun m=>?_;refine io ?_;refine bo (dX (S:=Int×(aA (YP×Bool))) (fun⟨b,i⟩=>(Q [bO 0 1,bO 2 4,aT 4 a,aT 13 p,aT 14 a,aT 17 b] ((4,.box [.map 3])::(3,.mp (I (dL (eA YP.g) bv) i))::cL f c e))) (fun(o:aA (YP×Bool))=>(xq 2 [bO 0 1,bO 2 4,aT 13 p,aT 14 a] ((4,.box [.map 3])::(3,.mp (I (dL (eA YP.g) bv) o))::cL f c e))) (fun⟨b,i⟩=>?_) (0,h)) fun o=>?_;refine io ?_;refine bo (dX (S:=Int×(aA (YP×Bool))) (fun⟨j,l⟩=>(Q [bO 0 1,bO 2 4,aT 4 a,aT 5 b,aT 13 p,aT 14 a,aT 17 b,aT 20 j] ((4,.box [.map 3])::(3,.mp (I (dL (eA YP.g) bv) l))::cL f c e))) (fun(n:aA (YP×Bool))=>(xq 4 [bO 0 1,bO 2 4,aT 4 a,aT 13 p,aT 14 a,aT 17 b] ((4,.box [.map 3])::(3,.mp (I (dL (eA YP.g) bv) n))::cL f c e))) (fun⟨j,l⟩=>?_) (0,i)) fun n=>?_;refine io ?_;refine bo (vL1 d a b j l f c e) fun r=>?_;rfl;rfl;rfl;refine bo (hA1 d m f c e) fun s=>?_;rfl
def Mi (a:Y0):aB Unit:=
 some ()
def oS1 a:gJ (XD k (d+1)) 42 [.ref 0 0] [aM 0 a] 4 true=(Mi a).map (fun(_:Unit)=>(.fn 69 [] [.ref 4 0],[(4,.box [.ref 0 0]),aM 0 a],5)):=by rw[xd (fn:=p42) rfl];exact rfl
def Dj (d e:Int) (f g:Int) (h i j:Int) (b:YJ) (k:Bool) (c:YP) (a:YZ):aB (Unit⊕Unit):=
 if((b.ID.eC==a.eC)&&((b.ID.bU==a.bU)&&true))!=false then some (.inl ())else some (.inr ())
def hD1 c e f g h i j m l b a:vD (XD k (d+1)) 5 [.agg [i64 c,i64 e,i64 f,i64 g,i64 h,i64 i,i64 j],Rc m] [Bs,(3,.box [bv l]),aV 2 b,cN 1 a] 6=(Dj c e f g h i j m l b a).map (fun|.inl _=>(bv false,[Zu,(3,.box [bv true]),(2,.box [i64 c,i64 e,i64 f,i64 g,i64 h,i64 i,i64 j]),cN 1 a],0)|.inr _=>(bv true,[Bs,(3,.box [bv l]),aV 2 b,cN 1 a],0)):=by rw[yd];exact bz (Tv qY) io
def uS (d e:Int) (f g:Int) (h i j:Int) (b:YF) (k:Bool) (c:YP) (a:YZ):aB (Unit⊕Unit):=
 if((b.ID.eC==a.eC)&&((b.ID.bU==a.bU)&&true))!=false then some (.inl ())else some (.inr ())
def Ue c e f g h i j m l b a:vD (XD k (d+1)) 5 [.agg [i64 c,i64 e,i64 f,i64 g,i64 h,i64 i,i64 j],Ap m] [Bs,(3,.box [bv l]),aV 2 b,cN 1 a] 6=(uS c e f g h i j m l b a).map (fun|.inl _=>(bv false,[Zu,(3,.box [bv true]),(2,.box [i64 c,i64 e,i64 f,i64 g,i64 h,i64 i,i64 j]),cN 1 a],0)|.inr _=>(bv true,[Bs,(3,.box [bv l]),aV 2 b,cN 1 a],0)):=by rw[yd];exact bz (Tv qY) io
def uT (d e:Int) (f g:Int) (h i j:Int) (b:YM) (k:Bool) (c:YP) (a:YZ):aB (Unit⊕Unit):=
 if((b.ID.eC==a.eC)&&((b.ID.bU==a.bU)&&true))!=false then some (.inl ())else some (.inr ())
def Uf c e f g h i j m l b a:vD (XD k (d+1)) 5 [.agg [i64 c,i64 e,i64 f,i64 g,i64 h,i64 i,i64 j],lT m] [Bs,(3,.box [bv l]),aV 2 b,cN 1 a] 6=(uT c e f g h i j m l b a).map (fun|.inl _=>(bv false,[Zu,(3,.box [bv true]),(2,.box [i64 c,i64 e,i64 f,i64 g,i64 h,i64 i,i64 j]),cN 1 a],0)|.inr _=>(bv true,[Bs,(3,.box [bv l]),aV 2 b,cN 1 a],0)):=by rw[yd];exact bz (Tv qY) io
def uU (d e:Int) (f g:Int) (h i j:Int) (b:YE) (k:Bool) (c:YP) (a:YZ):aB (Unit⊕Unit):=
 if((b.ID.eC==a.eC)&&((b.ID.bU==a.bU)&&true))!=false then some (.inl ())else some (.inr ())
def Ug c e f g h i j m l b a:vD (XD k (d+1)) 5 [.agg [i64 c,i64 e,i64 f,i64 g,i64 h,i64 i,i64 j],Ao m] [Bs,(3,.box [bv l]),aV 2 b,cN 1 a] 6=(uU c e f g h i j m l b a).map (fun|.inl _=>(bv false,[Zu,(3,.box [bv true]),(2,.box [i64 c,i64 e,i64 f,i64 g,i64 h,i64 i,i64 j]),cN 1 a],0)|.inr _=>(bv true,[Bs,(3,.box [bv l]),aV 2 b,cN 1 a],0)):=by rw[yd];exact bz (Tv qY) io
def uW (d e:Int) (f g:Int) (h i j:Int) (b:YN) (k:Bool) (c:YP) (a:YZ):aB (Unit⊕Unit):=
 if((b.ID.eC==a.eC)&&((b.ID.bU==a.bU)&&true))!=false then some (.inl ())else some (.inr ())
def Uh c e f g h i j m l b a:vD (XD k (d+1)) 5 [.agg [i64 c,i64 e,i64 f,i64 g,i64 h,i64 i,i64 j],Bq m] [Bs,(3,.box [bv l]),aV 2 b,cN 1 a] 6=(uW c e f g h i j m l b a).map (fun|.inl _=>(bv false,[Zu,(3,.box [bv true]),(2,.box [i64 c,i64 e,i64 f,i64 g,i64 h,i64 i,i64 j]),cN 1 a],0)|.inr _=>(bv true,[Bs,(3,.box [bv l]),aV 2 b,cN 1 a],0)):=by rw[yd];exact bz (Tv qY) io
def Mj (h:Y0) (v:Bool) (F:YP) (G:YZ):aB (YP⊕Unit):=
 (aQ (E:=(Int×Int×Int)⊕Unit) (fun(⟨H,f⟩:Int×Int)=>cT h.bQ f (fun J=>(Dj 1 f 0 0 0 0 0 J v F G).bind fun K=>(match K with|.inl _=>some (.inr (.inl (1,f,0)))|.inr _=>(bE h.bQ f).bind fun L=>(aQ (E:=(Int×Int)⊕Int) (fun(⟨g,i⟩:Int×Int)=>if decide (i<(L.dN.length:Int))then(bE h.bQ f).bind fun M=>(bE M.dN i).bind fun N=>(uS 2 0 g 0 0 0 0 N v F G).bind fun O=>(match O with|.inl _=>some (.inr (.inl (g,g)))|.inr _=>some (.inl (bN (g+1),bN (i+1))))else some (.inr (.inr g))) cQ (H,0)).bind fun P=>(match P with|.inl ⟨x33,x34⟩=>some (.inr (.inl (2,0,x34)))|.inr x35=>some (.inl (x35,bN (f+1)))))) (some (.inr (.inr ())))) cQ (0,0)).bind fun R=>(match R with|.inl ⟨x37,x38,x39⟩=>some (.inl (YP.mk x37 x38 x39 0 0 0 0))|.inr _=>(aQ (E:=(Int×Int×Int×Int×Int)⊕Unit) (fun(a:Int)=>cT h.aE a (fun j=>(uT 3 0 0 a 0 0 0 j v F G).bind fun k=>(match k with|.inl _=>some (.inr (.inl (3,0,a,0,0)))|.inr _=>(bE h.aE a).bind fun l=>(aQ (E:=(Int×Int×Int)⊕Unit) (fun(b:Int)=>if decide (b<(l.aI.length:Int))then(bE h.aE a).bind fun m=>(bE m.aI b).bind fun n=>(aQ (E:=(Int×Int)⊕Unit) (fun(c:Int)=>if decide (c<(n.aK.length:Int))then(bE h.aE a).bind fun o=>(bE o.aI b).bind fun p=>(bE p.aK c).bind fun q=>(aQ (E:=Int⊕Unit) (fun(d:Int)=>if decide (d<(q.aU.length:Int))then(bE h.aE a).bind fun r=>(bE r.aI b).bind fun s=>(bE s.aK c).bind fun t=>(bE t.aU d).bind fun u=>(uU 4 0 b a c d 0 u v F G).bind fun w=>(match w with|.inl _=>some (.inr (.inl d))|.inr _=>some (.inl (bN (d+1))))else some (.inr (.inr ()))) cQ 0).bind fun x=>(match x with|.inl x201=>some (.inr (.inl (c,x201)))|.inr _=>some (.inl (bN (c+1))))else some (.inr (.inr ()))) cQ 0).bind fun y=>(match y with|.inl ⟨x203,x204⟩=>some (.inr (.inl (b,x203,x204)))|.inr _=>some (.inl (bN (b+1))))else some (.inr (.inr ()))) cQ 0).bind fun z=>(match z with|.inl ⟨x206,x207,x208⟩=>some (.inr (.inl (4,x206,a,x207,x208)))|.inr _=>some (.inl (bN (a+1)))))) (some (.inr (.inr ())))) cQ 0).bind fun A=>(match A with|.inl ⟨x210,x211,x212,x213,x214⟩=>some (.inl (YP.mk x210 0 x211 x212 x213 x214 0))|.inr _=>(aQ (E:=Int⊕Unit) (fun(e:Int)=>cT h.bD e (fun B=>(uW 5 0 0 0 0 0 e B v F G).bind fun C=>(match C with|.inl _=>some (.inr (.inl e))|.inr _=>some (.inl (bN (e+1))))) (some (.inr (.inr ())))) cQ 0).bind fun D=>(match D with|.inl x221=>some (.inl (YP.mk 5 0 0 0 0 0 x221))|.inr _=>some (.inr ()))))
def oT1 (c:Y0) (h:Bool) (i:YP) (e:YZ):gJ (XD k (d+2)) 69 [.yld 5,.ref 4 0] [Bs,(4,.box [.ref 0 0]),aM 0 c,(3,.box [bv h]),aV 2 i,cN 1 e] 6 false=(Mj c h i e).map (fun|.inl x223=>(.tup [],[Zu,(4,.box [.ref 0 0]),aM 0 c,(3,.box [bv true]),aV 2 x223,cN 1 e],0)|.inr _=>(.tup [],[Bs,(4,.box [.ref 0 0]),aM 0 c,(3,.box [bv h]),aV 2 i,cN 1 e],0)):=by
 rw[xd (fn:=p69) rfl];refine bl ?_;refine bo (dX (S:=Int×Int) (fun⟨A,j⟩=>(Q [(0,.yld 5),bO 1 4,aT 3 A,bX 15 c.bQ,aT 16 j] [Bs,(4,.box [.ref 0 0]),aM 0 c,(3,.box [bv h]),aV 2 i,cN 1 e])) (fun|.inl ⟨U,V,W⟩=>(rq [(0,.yld 5),bO 1 4] [Zu,(4,.box [.ref 0 0]),aM 0 c,(3,.box [bv true]),(2,.box [i64 U,i64 V,i64 W,i64 0,i64 0,i64 0,i64 0]),cN 1 e])|.inr _=>(xq 0 [(0,.yld 5),bO 1 4] [Bs,(4,.box [.ref 0 0]),aM 0 c,(3,.box [bv h]),aV 2 i,cN 1 e])) (fun⟨A,j⟩=>?_) (0,0)) fun b5=>?_;refine ig fun X=>?_;refine bo (hD1 d 1 j 0 0 0 0 0 X h i e) fun Y=>?_;rcases Y with _|_;rfl;refine bo rg fun Z=>?_;refine bl ?_;refine bo (dX (S:=Int×Int) (fun⟨B,P⟩=>(Q [(0,.yld 5),bO 1 4,aT 3 B,aT 4 j,bX 15 c.bQ,aT 16 j,bX 39 Z.dN,aT 40 P] [Bs,(3,.box [bv h]),aV 2 i,cN 1 e,(4,.box [.ref 0 0]),aM 0 c])) (fun|.inl ⟨R,T⟩=>(rq [(0,.yld 5),bO 1 4,aT 3 R,bX 15 c.bQ,aT 16 j] [Zu,(3,.box [bv true]),(2,.box [i64 2,i64 0,i64 T,i64 0,i64 0,i64 0,i64 0]),cN 1 e,(4,.box [.ref 0 0]),aM 0 c])|.inr x35=>(xq 2 [(0,.yld 5),bO 1 4,aT 3 x35,bX 15 c.bQ,aT 16 j] [Bs,(3,.box [bv h]),aV 2 i,cN 1 e,(4,.box [.ref 0 0]),aM 0 c])) (fun⟨B,P⟩=>?_) (A,0)) fun b4=>?_;refine ig fun d3=>?_;refine bo rg fun a0=>?_;refine bo (Ue d 2 0 B 0 0 0 0 a0 h i e) fun b0=>?_;rcases b0 with _|_;rfl;rfl;rcases b4 with⟨R,T⟩|x35;rfl;rfl;rcases b5 with⟨U,V,W⟩|_;rfl;refine bl ?_;refine bo (dX (fun a=>(Q [(0,.yld 5),bO 1 4,bX 67 c.aE,aT 68 a] [Bs,(4,.box [.ref 0 0]),aM 0 c,(3,.box [bv h]),aV 2 i,cN 1 e])) (fun|.inl ⟨u,v,w,x,y⟩=>(rq [(0,.yld 5),bO 1 4] [Zu,(4,.box [.ref 0 0]),aM 0 c,(3,.box [bv true]),(2,.box [i64 u,i64 0,i64 v,i64 w,i64 x,i64 y,i64 0]),cN 1 e])|.inr _=>(xq 4 [(0,.yld 5),bO 1 4] [Bs,(4,.box [.ref 0 0]),aM 0 c,(3,.box [bv h]),aV 2 i,cN 1 e])) (fun a=>?_) 0) fun L=>?_;refine ig fun C=>?_;refine bo (Uf d 3 0 0 a 0 0 0 C h i e) fun D=>?_;rcases D with _|_;rfl;refine bo rg fun g=>?_;refine bl ?_;refine bo (dX (fun b=>(Q [(0,.yld 5),bO 1 4,aT 6 a,bX 67 c.aE,aT 68 a,bX 91 g.aI,aT 92 b] [Bs,(3,.box [bv h]),aV 2 i,cN 1 e,(4,.box [.ref 0 0]),aM 0 c])) (fun|.inl ⟨r,s,t⟩=>(rq [(0,.yld 5),bO 1 4,bX 67 c.aE,aT 68 a] [Zu,(3,.box [bv true]),(2,.box [i64 4,i64 0,i64 r,i64 a,i64 s,i64 t,i64 0]),cN 1 e,(4,.box [.ref 0 0]),aM 0 c])|.inr _=>(xq 6 [(0,.yld 5),bO 1 4,bX 67 c.aE,aT 68 a] [Bs,(3,.box [bv h]),aV 2 i,cN 1 e,(4,.box [.ref 0 0]),aM 0 c])) (fun b=>?_) 0) fun K=>?_;refine ig fun b6=>?_;refine bo rg fun l=>?_;refine bl ?_;refine bo (dX (fun f=>(Q [(0,.yld 5),bO 1 4,aT 6 a,aT 7 b,bX 67 c.aE,aT 68 a,bX 91 g.aI,aT 92 b,bX 107 l.aK,aT 108 f] [Bs,(3,.box [bv h]),aV 2 i,cN 1 e,(4,.box [.ref 0 0]),aM 0 c])) (fun|.inl ⟨p,q⟩=>(rq [(0,.yld 5),bO 1 4,aT 6 a,bX 67 c.aE,aT 68 a,bX 91 g.aI,aT 92 b] [Zu,(3,.box [bv true]),(2,.box [i64 4,i64 0,i64 b,i64 a,i64 p,i64 q,i64 0]),cN 1 e,(4,.box [.ref 0 0]),aM 0 c])|.inr _=>(xq 8 [(0,.yld 5),bO 1 4,aT 6 a,bX 67 c.aE,aT 68 a,bX 91 g.aI,aT 92 b] [Bs,(3,.box [bv h]),aV 2 i,cN 1 e,(4,.box [.ref 0 0]),aM 0 c])) (fun f=>?_) 0) fun J=>?_;refine ig fun b7=>?_;refine bo rg fun b8=>?_;refine bo rg fun E=>?_;refine bl ?_;refine bo (dX (fun m=>(Q [(0,.yld 5),bO 1 4,aT 6 a,aT 7 b,aT 8 f,bX 67 c.aE,aT 68 a,bX 91 g.aI,aT 92 b,bX 107 l.aK,aT 108 f,bX 127 E.aU,aT 128 m] [Bs,(3,.box [bv h]),aV 2 i,cN 1 e,(4,.box [.ref 0 0]),aM 0 c])) (fun|.inl o=>(rq [(0,.yld 5),bO 1 4,aT 6 a,aT 7 b,bX 67 c.aE,aT 68 a,bX 91 g.aI,aT 92 b,bX 107 l.aK,aT 108 f] [Zu,(3,.box [bv true]),(2,.box [i64 4,i64 0,i64 b,i64 a,i64 f,i64 o,i64 0]),cN 1 e,(4,.box [.ref 0 0]),aM 0 c])|.inr _=>(xq 10 [(0,.yld 5),bO 1 4,aT 6 a,aT 7 b,bX 67 c.aE,aT 68 a,bX 91 g.aI,aT 92 b,bX 107 l.aK,aT 108 f] [Bs,(3,.box [bv h]),aV 2 i,cN 1 e,(4,.box [.ref 0 0]),aM 0 c])) (fun m=>?_) 0) fun H=>?_;refine ig fun b9=>?_;refine bo rg fun d0=>?_;refine bo rg fun d2=>?_;refine bo rg fun F=>?_;refine bo (Ug d 4 0 b a f m 0 F h i e) fun G=>?_;rcases G with _|_;rfl;rfl;rcases H with o|_;rfl;rfl;rcases J with⟨p,q⟩|_;rfl;rfl;rcases K with⟨r,s,t⟩|_;rfl;rfl;rcases L with⟨u,v,w,x,y⟩|_;rfl;refine bl ?_;refine bo (dX (fun n=>(Q [(0,.yld 5),bO 1 4,bX 166 c.bD,aT 167 n] [Bs,(4,.box [.ref 0 0]),aM 0 c,(3,.box [bv h]),aV 2 i,cN 1 e])) (fun|.inl z=>(rq [] [Zu,(4,.box [.ref 0 0]),aM 0 c,(3,.box [bv true]),(2,.box [i64 5,i64 0,i64 0,i64 0,i64 0,i64 0,i64 z]),cN 1 e])|.inr _=>(xq 12 [] [Bs,(4,.box [.ref 0 0]),aM 0 c,(3,.box [bv h]),aV 2 i,cN 1 e])) (fun n=>?_) 0) fun O=>?_;refine ig fun M=>?_;refine bo (Uh d 5 0 0 0 0 0 n M h i e) fun N=>?_;rcases N with _|_;rfl;rfl;rcases O with z|_;rfl;rfl
end Go.P
namespace Go.P
open Go.Sim (Ex gC CK)
open K (I Q rq nq xq ck)
variable {k:Bool} (d:Nat)
def F13 (b:Y0) (a:YZ):aB (YP×Bool):=
 if((a.eC==0)&&((a.bU==0)&&true))!=false then some (YP.mk 0 0 0 0 0 0 0,false)else(Mi b).bind fun _=>(Mj b false (YP.mk 0 0 0 0 0 0 0) a).bind fun c=>(match c with|.inl x3=>some (x3,true)|.inr _=>some (YP.mk 0 0 0 0 0 0 0,false))
def vM1 a b:OD k (d+3) 13 [eJ a,Lu b]=(F13 a b).map (fun⟨c,e⟩=>.tup [eB c,bv e]):=oe rfl<|iy<|bo (oS1 (d+1) a) fun _=>bo (oT1 d a false (YP.mk 0 0 0 0 0 0 0) b) fun|.inl f=>rfl|.inr _=>rfl
def oU1 (c:aA Int):aB (aA Int):=
 (Bo (c.length:Int) (c.length:Int) 0).bind fun k=>(aQ (fun(⟨b,a⟩:Int×(aA Int))=>if decide (b<(c.length:Int))then(gU a (bN (b-1))).bind fun d=>(fZ a d).bind fun e=>(bE c (bN (b-1))).bind fun f=>(gU a b).bind fun g=>(nV a g (fun j=>(bN (e+f)))).bind fun h=>some (.inl (bN (b+1),h))else some (.inr a)) cQ (1,k)).bind fun i=>some i
def cO2 e:OD k (d+1) 240 [nN e]=(oU1 e).map (fun q=>nN q):=oe rfl<|bl<|bo (nX cI _ _ 0) fun p=>bo (dX (fun⟨j,a⟩=>(Q [tT 0 e,(3,.own 0),aT 4 j] [(0,.lst 3 1 true (I cI a))])) (fun(i:aA Int)=>(xq 0 [(3,.own 0)] [(0,.lst 3 1 true (I cI i))])) (fun⟨j,a⟩=>bl<|io<|bo (bR cI a _) fun l=>bo (cV (A:=Int) (c:=cI) (g:=fun b=>i64 b) (fun _=>rfl) a _) fun b=>bo rg fun h=>bo (bR cI a _) fun n=>bo (jE (A:=Int) (c:=cI) (m:=1) (f:=fun o=>(bN (b+h))) (fun _=>⟨rfl,rfl⟩) (zH2 rfl) a _)) (1,p))
def oV1 (b:YO) (c:Int):aB ((aA Int)×Int):=
 (gI1 b c).bind fun⟨d,a⟩=>if a !=0 then some ([],a)else(oU1 d).bind fun e=>some (e,0)
def cP2 a b:OD k (d+14) 225 [gF a,i64 b]=(oV1 a b).map (fun⟨e,f⟩=>.tup [nN e,i64 f]):=oe rfl<|bo (sL1 d a b) fun⟨c,g⟩=>iy<|bo (cO2 (d+12) c)
def hF1 (d:YK) (g:YZ):aB (YQ×Bool):=
 (F13 d.s' g).bind fun⟨a,h⟩=>if(!h)||(a.eM !=4)then some (YQ.mk 0 0 0 0,false)else(bE d.s'.aE a.bV).bind fun e=>(Lv e).bind fun⟨i,l⟩=>(bE e.aI a.eW).bind fun j=>(bE j.aK a.fU).bind fun k=>(oV1 k i).bind fun⟨b,f⟩=>if decide (a.pI>=(b.length:Int))then some (YQ.mk 0 0 0 0,false)else(bE b a.pI).bind fun c=>some ({a with At:=c},true)
def sV1 a b:OD k (d+15) 190 [cO a,Lu b]=(hF1 a b).map (fun⟨i,j⟩=>.tup [kV i,bv j]):=oe rfl<|bo (vM1 (d+11) a.s' b) fun⟨l,m⟩=>bz (jH rfl)<|iy<|bo rg fun f=>bo (Jo (d+10) f) fun⟨g,n⟩=>bo rg fun o=>bo rg fun h=>bo (cP2 d h g) fun⟨c,e⟩=>bl<|iy<|bo rg
def Ui (a b:Int):aB Bool:=
 some ((decide (a>=0))&&(decide (a<=b)))
def Xi a b:OD k (d+1) 241 [i64 a,i64 b]=(Ui a b).map bv:=oe rfl<|bz (jD rfl)
def hG1 (a:YQ):aB Bool:=
 (Ui a.bV 1023).bind fun b=>(if b then(Ui a.At 4398046511104).bind fun c=>some c else some false:aB Bool).bind fun d=>(if d then(Ui a.eW 127).bind fun e=>some e else some false:aB Bool).bind fun f=>(if f then(Ui a.fU 1).bind fun g=>some g else some false:aB Bool).bind fun h=>some h
def sW1 a:OD k (d+2) 226 [kV a]=(hG1 a).map bv:=oe rfl<|bo (Xi d a.bV 1023) fun b=>be (io<|bo (Xi d a.At 4398046511104)) fun c=>be (io<|bo (Xi d a.eW 127)) fun e=>be (io<|bo (Xi d a.fU 1))
def hH1 (a:Int):aB Bool:=
 some ((a==1)||(a==7))
def sX1 a:OD k (d+1) 227 [i64 a]=(hH1 a).map bv:=oe rfl<|bz (jH rfl)
def F55 (a:Int):aB Bool:=
 some (a !=a)
def cR2 a:OD k (d+1) 55 [i64 a]=(F55 a).map bv:=oe rfl<|rfl
def F24 (a b:Int):aB Int:=
 (F55 a).bind fun d=>(F55 b).bind fun c=>if d then if c then some 0 else some (-1)else if c then some 1 else if decide (a<b)then some (-1)else if decide (a>b)then some 1 else some 0
def cT2 a b:OD k (d+2) 24 [i64 a,i64 b]=(F24 a b).map i64:=oe rfl<|bo (cR2 d a) fun c=>bo (cR2 d b) fun e=>io io<|iy<|iy io
def F23 (c:aA Int):aB Int:=
 (aQ (E:=Int⊕Unit) (fun(a:Int)=>cT c a (fun b=>if b !=0 then some (.inr (.inl b))else some (.inl (bN (a+1)))) (some (.inr (.inr ())))) cQ 0).bind fun d=>(match d with|.inl x5=>some x5|.inr _=>some 0)
def nY2 a:OD k (d+1) 23 [nN a]=(F23 a).map i64:=oe rfl<|bl<|bo (dX (fun b=>(Q [aT 3 0,tT 6 a,bX 7 a,aT 8 b] [])) (fun|.inl c=>(rq [aT 2 c,aT 3 0] [])|.inr _=>(xq 0 [aT 3 0] [])) (fun b=>ig fun e=>io) 0) fun|.inl c=>rfl|.inr _=>rfl
def Hl (a b:YQ):aB Int:=
 (F24 a.bV b.bV).bind fun c=>(F24 a.At b.At).bind fun d=>(F23 [c,d]).bind fun e=>some e
def Gx a b:OD k (d+3) 228 [kV a,kV b]=(Hl a b).map i64:=oe rfl<|bo (cT2 d a.bV b.bV) fun c=>bo (cT2 d a.At b.At) fun e=>bo (nY2 (d+1) [c,e])
def oW1 (a:YS):aB Int:=
 if(decide (a.eM<1))||(decide (a.eM>7))then some 11 else(hG1 a.gV).bind fun b=>(if !b then some true else(hG1 a.To).bind fun c=>some (!c):aB Bool).bind fun d=>if d then some 2 else(if a.gV.eW !=a.To.eW then some true else(hH1 a.eM).bind fun e=>some (e&&(a.gV.fU !=a.To.fU)):aB Bool).bind fun f=>if f then some 23 else(Hl a.gV a.To).bind fun g=>if decide (g>=0)then some 25 else some 0
def cU2 a:OD k (d+4) 191 [cF a]=(oW1 a).map i64:=oe rfl<|bz (jH rfl)<|iy<|bo (sW1 (d+1) a.gV) fun b=>be (iy<|bo (sW1 (d+1) a.To)) fun c=>iy<|be (iy<|bo (sX1 (d+2) a.eM) fun e=>bz (jD rfl)) fun f=>iy<|bo (Gx d a.gV a.To) fun g=>io
def Ri (p:aA YV) (h:Y0) (q:Int):aB ((aA Bool)×(aA YS)):=
 (aQ (fun(⟨b,c,d⟩:Int×(aA Bool)×(aA YS))=>cT h.bD b (fun a=>(hF1 (YK.mk h q p) a.gV).bind fun⟨e,g⟩=>(hF1 (YK.mk h q p) a.To).bind fun⟨f,i⟩=>(mK false d [{a with gV:=e,To:=f}]).bind fun j=>(if(!g)||(!i)then some true else(oW1 {a with gV:=e,To:=f}).bind fun k=>some (k !=0):aB Bool).bind fun l=>(mK false c [l]).bind fun m=>some (.inl (bN (b+1),m,j))) (some (.inr (c,d)))) cQ (0,[],[])).bind fun⟨n,o⟩=>some (n,o)
def hJ1 c b h:gJ (XD k (d+16)) 136 [.ref 1 0] (cL c b h) 3 true=(Ri c b h).map (fun(⟨p,q⟩:(aA Bool)×(aA YS))=>(.tup [.own 3,.own 4],((4,.lst 4 1 false (I cB p))::(3,.lst 226 9 false (I YS.g q))::cL c b h),5)):=by rw[xd (fn:=yQ1) rfl];exact bl<|bo (dX (fun⟨i,e,f⟩=>(Q [bO 0 1,(4,.own 3),(5,.own 4),iR 17 b.bD,bX 18 b.bD,aT 19 i] ((4,.lst 4 1 false (I cB e))::(3,.lst 226 9 false (I YS.g f))::cL c b h))) (fun(⟨n,o⟩:(aA Bool)×(aA YS))=>(xq 0 [(4,.own 3),(5,.own 4)] ((4,.lst 4 1 false (I cB n))::(3,.lst 226 9 false (I YS.g o))::cL c b h))) (fun⟨i,e,f⟩=>ig fun a=>bo (sV1 d (YK.mk b h c) a.gV) fun⟨j,r⟩=>bo (sV1 d (YK.mk b h c) a.To) fun⟨l,s⟩=>bo (dA false YS.g f [{a with gV:=j,To:=l}]) fun t=>bz (jH rfl)<|be (iy<|bo (cU2 (d+11) {a with gV:=j,To:=l})) fun m=>bo (dA false cB e [m])) (0,[],[]))
def hK1 (i:aA YV) (h:Y0) (j:Int):aB (aA YV):=
 (Ri i h j).bind fun⟨k,l⟩=>(aQ (fun(⟨a,b⟩:Int×(aA YV))=>cT h.bD a (fun c=>(gU k a).bind fun d=>(fZ k d).bind fun e=>(iU e c.ID b h j).bind fun f=>some (.inl (bN (a+1),f))) (some (.inr b))) cQ (0,i)).bind fun g=>some g
def cV2 i a f:gJ (XD k (d+17)) 86 [.ref 1 0] (cL i a f) 3 false=(hK1 i a f).map (fun(n:aA YV)=>(.tup [],cL n a f,0)):=by rw[xd (fn:=p86) rfl];exact bo (hJ1 d i a f) fun⟨j,o⟩=>bl<|bo (dX (S:=Int×(aA YV)) (fun⟨h,b⟩=>(Q [bO 0 1,(3,.own 4),iR 15 a.bD,bX 16 a.bD,aT 17 h] ((4,.lst 4 1 false (I cB j))::(3,.lst 226 9 false (I YS.g o))::cL b a f))) (fun(m:aA YV)=>(xq 0 [] ((4,.lst 4 1 false (I cB j))::(3,.lst 226 9 false (I YS.g o))::cL m a f))) (fun⟨h,b⟩=>ig fun l=>bo (bR cB j _) fun p=>bo (cV (A:=Bool) (c:=cB) (g:=fun e=>bv e) (fun _=>rfl) j _) fun e=>bo (iJ (d+15) e l.ID b a f)) (0,i))
def aC1 (a:Int):aB Int:=
 if(decide (a<1))||(decide (a>7))then some 0 else(bE [1,2,2,4,4,6,7] (bN (a-1))).bind fun b=>some b
def hO1 a:OD k (d+1) 229 [i64 a]=(aC1 a).map i64:=oe rfl<|bz (jH rfl)<|iy<|bo (wM .i64 [1,2,2,4,4,6,7] (bN (a-1)) rfl)
def oX1 (a b:YS):aB Bool:=
 (aC1 a.eM).bind fun c=>(if decide (c>0)then(aC1 a.eM).bind fun d=>(aC1 b.eM).bind fun e=>some (d==e)else some false:aB Bool).bind fun f=>(if f&&(a.gV.eW==b.gV.eW)then(hH1 a.eM).bind fun g=>some ((!g)||(a.gV.fU==b.gV.fU))else some false:aB Bool).bind fun h=>some h
def cW2 a b:OD k (d+2) 192 [cF a,cF b]=(oX1 a b).map bv:=oe rfl<|bo (hO1 d a.eM) fun c=>be (io<|bo (hO1 d a.eM) fun e=>bo (hO1 d b.eM)) fun f=>bz (jD rfl)<|be (io<|bo (sX1 d a.eM) fun g=>bz (jH rfl))
def oY1 (a b:YS):aB Bool:=
 (Hl a.To b.gV).bind fun c=>(if decide (c<0)then some true else(Hl b.To a.gV).bind fun d=>some (decide (d<0)):aB Bool).bind fun e=>some e
def cX2 a b:OD k (d+4) 196 [cF a,cF b]=(oY1 a b).map bv:=oe rfl<|bo (Gx d a.To b.gV) fun c=>be (iy<|bo (Gx d b.To a.gV))
def aD1 (a b:YS):aB Bool:=
 (oY1 a b).bind fun c=>some (!c)
def hP1 a b:OD k (d+5) 195 [cF a,cF b]=(aD1 a b).map bv:=oe rfl<|bo (cX2 d a b)
def hQ1 (a b:YS):aB Bool:=
 (Hl a.To b.gV).bind fun c=>(if decide (c<=0)then some true else(Hl b.To a.gV).bind fun d=>some (decide (d<=0)):aB Bool).bind fun e=>some e
def sY1 a b:OD k (d+4) 194 [cF a,cF b]=(hQ1 a b).map bv:=oe rfl<|bo (Gx d a.To b.gV) fun c=>be (iy<|bo (Gx d b.To a.gV))
def aE1 (a b:YS):aB Bool:=
 (hQ1 a b).bind fun c=>some (!c)
def hR1 a b:OD k (d+5) 193 [cF a,cF b]=(aE1 a b).map bv:=oe rfl<|bo (sY1 d a b)
def hS1 (a b:YS):aB Bool:=
 (Hl a.gV b.gV).bind fun c=>(if decide (c>=0)then(Hl a.To b.To).bind fun d=>some (decide (d<=0))else some false:aB Bool).bind fun e=>some e
def sZ1 a b:OD k (d+4) 230 [cF a,cF b]=(hS1 a b).map bv:=oe rfl<|bo (Gx d a.gV b.gV) fun c=>be (io<|bo (Gx d a.To b.To))
def oZ1 (a b:YS):aB Bool:=
 (hQ1 a b).bind fun c=>(if !c then(hS1 a b).bind fun d=>(hS1 b a).bind fun e=>some ((d==e)!=false)else some false:aB Bool).bind fun f=>some f
def cY2 a b:OD k (d+5) 197 [cF a,cF b]=(oZ1 a b).map bv:=oe rfl<|bo (sY1 d a b) fun c=>be (io<|bo (sZ1 d a b) fun e=>bo (sZ1 d b a))
def pA1 (a b:YS):aB Bool:=
 (oX1 a b).bind fun d=>if !d then some false else if(bN (a.eM-1))==6 then(aD1 a b).bind fun e=>some e else if(bN (a.eM-1))==5 then(aE1 a b).bind fun f=>some f else if(bN (a.eM-1))==4 then(aD1 a b).bind fun g=>some g else if(bN (a.eM-1))==3 then(aD1 a b).bind fun h=>some h else if(bN (a.eM-1))==2 then(aE1 a b).bind fun i=>some i else if(bN (a.eM-1))==1 then(aE1 a b).bind fun j=>some j else if(bN (a.eM-1))==0 then(oZ1 a b).bind fun c=>some c else none
def cZ2 a b:OD k (d+6) 137 [cF a,cF b]=(pA1 a b).map bv:=oe rfl<|bo (cW2 (d+3) a b) fun c=>iy<|io (bo (hP1 d a b))<|io (bo (hR1 d a b))<|io (bo (hP1 d a b))<|io (bo (hP1 d a b))<|io (bo (hR1 d a b))<|io (bo (hR1 d a b))<|io (bo (cY2 d a b))
def hT1 (w:aA YV) (g:Y0) (x:Int):aB (aA YV):=
 (Ri w g x).bind fun⟨e,f⟩=>(aQ (fun(⟨a,c⟩:Int×(aA YV))=>cT g.bD a (fun h=>(aQ (fun(⟨d,b⟩:Bool×Int)=>(if decide (b<a)then(gU e a).bind fun i=>(fZ e i).bind fun j=>some (!j)else some false:aB Bool).bind fun k=>if k&&(!d)then(gU e b).bind fun l=>(fZ e l).bind fun m=>(if !m then(gU f b).bind fun n=>(fZ f n).bind fun o=>(gU f a).bind fun p=>(fZ f p).bind fun q=>(pA1 o q).bind fun r=>some r else some false:aB Bool).bind fun s=>some (.inl (s,bN (b+1)))else some (.inr d)) cQ (false,0)).bind fun t=>(iU t h.ID c g x).bind fun u=>some (.inl (bN (a+1),u))) (some (.inr c))) cQ (0,w)).bind fun v=>some v
def dA2 s e i:gJ (XD k (d+17)) 87 [.ref 1 0] (cL s e i) 3 false=(hT1 s e i).map (fun(v:aA YV)=>(.tup [],cL v e i,0)):=by rw[xd (fn:=p87) rfl];exact bo (hJ1 d s e i) fun⟨j,l⟩=>bl<|bo (dX (S:=Int×(aA YV)) (fun⟨f,h⟩=>(Q [bO 0 1,(2,.own 3),(3,.own 4),iR 17 e.bD,bX 18 e.bD,aT 19 f] ((4,.lst 4 1 false (I cB j))::(3,.lst 226 9 false (I YS.g l))::cL h e i))) (fun(u:aA YV)=>(xq 0 [] ((4,.lst 4 1 false (I cB j))::(3,.lst 226 9 false (I YS.g l))::cL u e i))) (fun⟨f,h⟩=>ig fun n=>bo (dX (S:=Bool×Int) (fun⟨p,q⟩=>(Q [bO 0 1,(2,.own 3),(3,.own 4),aT 4 f,bO 5 5,(6,bv p),aT 7 q,iR 17 e.bD,bX 18 e.bD,aT 19 f] (sH 5 n::(4,.lst 4 1 false (I cB j))::(3,.lst 226 9 false (I YS.g l))::cL h e i))) (fun(o:Bool)=>(xq 2 [bO 0 1,(2,.own 3),(3,.own 4),bO 5 5,(6,bv o),iR 17 e.bD,bX 18 e.bD,aT 19 f] (sH 5 n::(4,.lst 4 1 false (I cB j))::(3,.lst 226 9 false (I YS.g l))::cL h e i))) (fun⟨p,q⟩=>be (io<|bo (bR cB j _) fun w=>bo (cV (A:=Bool) (c:=cB) (g:=fun t=>bv t) (fun _=>rfl) j _)) fun x=>bz (jD rfl)<|io<|bo (bR cB j _) fun y=>bo (cV (A:=Bool) (c:=cB) (g:=fun r=>bv r) (fun _=>rfl) j _) fun r=>be (io<|bo (bR YS.g l _) fun z=>bo (lM (A:=YS) (c:=YS.g) (m:=9) (g:=fun a=>[i64 a.eM,i64 a.gV.bV,i64 a.gV.At,i64 a.gV.eW,i64 a.gV.fU,i64 a.To.bV,i64 a.To.At,i64 a.To.eW,i64 a.To.fU]) (fun _=>⟨rfl,rfl⟩) (zH2 rfl) l _) fun a=>bo (bR YS.g l _) fun B=>bo (lM (A:=YS) (c:=YS.g) (m:=9) (g:=fun b=>[i64 b.eM,i64 b.gV.bV,i64 b.gV.At,i64 b.gV.eW,i64 b.gV.fU,i64 b.To.bV,i64 b.To.At,i64 b.To.eW,i64 b.To.fU]) (fun _=>⟨rfl,rfl⟩) (zH2 rfl) l _) fun b=>bo (cZ2 (d+10) a b))) (false,0)) fun o=>bo (iJ (d+15) o n.ID h e i)) (0,s))
def pB1 (f:Int) (a:YM):aB Bool:=
 (if a.bL !=0 then(qD a.bL 2 8).bind fun b=>some (!b)else some false:aB Bool).bind fun c=>(if c then some true else(qD a.bM 0 255).bind fun d=>some (!d):aB Bool).bind fun e=>some e
def dB2 b a:OD k (d+2) 138 [i64 b,dR a]=(pB1 b a).map bv:=oe rfl<|be (io<|bo (nE d a.bL 2 8)) fun c=>be (iy<|bo (nE d a.bM 0 255))
def Dk (h:aA YV) (e:Y0) (i:Int):aB (aA YV):=
 (aQ (fun(⟨d,f⟩:Int×(aA YV))=>cT e.aE d (fun g=>(pB1 d g).bind fun a=>(iU a g.ID f e i).bind fun b=>some (.inl (bN (d+1),b))) (some (.inr f))) cQ (0,h)).bind fun c=>some c
def hU1 c a b:gJ (XD k (d+3)) 110 [.ref 1 0,.fn 138 [] []] (cL c a b) 3 false=(Dk c a b).map (fun(g:aA YV)=>(.tup [],cL g a b,0)):=by rw[xd (fn:=Lq) rfl];exact bl<|bo (dX (fun⟨h,i⟩=>(Q [bO 0 1,(1,.fn 138 [] []),aR 10 a.aE,bX 11 a.aE,aT 12 h] (cL i a b))) (fun(f:aA YV)=>(xq 0 [] (cL f a b))) (fun⟨h,i⟩=>ig fun j=>bo (dB2 d h j) fun e=>bo (iJ (d+1) e j.ID i a b)) (0,c))
def pC1 (a:Int):aB Int:=
 (if decide (a>=4294967296)then(Tp .u64 a 32).bind fun h=>some (h,32)else some (a,0):aB (Int×Int)).bind fun⟨d,f⟩=>(if decide (d>=65536)then(Tp .u64 d 16).bind fun i=>some (i,bN (f+16))else some (d,f):aB (Int×Int)).bind fun⟨e,g⟩=>(if decide (e>=256)then(Tp .u64 e 8).bind fun j=>some (j,bN (g+8))else some (e,g):aB (Int×Int)).bind fun⟨k,b⟩=>(tJ (⟨#[0,1,2,2,3,3,3,3,4,4,4,4,4,4,4,4,5,5,5,5,5,5,5,5,5,5,5,5,5,5,5,5,6,6,6,6,6,6,6,6,6,6,6,6,6,6,6,6,6,6,6,6,6,6,6,6,6,6,6,6,6,6,6,6,7,7,7,7,7,7,7,7,7,7,7,7,7,7,7,7,7,7,7,7,7,7,7,7,7,7,7,7,7,7,7,7,7,7,7,7,7,7,7,7,7,7,7,7,7,7,7,7,7,7,7,7,7,7,7,7,7,7,7,7,7,7,7,7,8,8,8,8,8,8,8,8,8,8,8,8,8,8,8,8,8,8,8,8,8,8,8,8,8,8,8,8,8,8,8,8,8,8,8,8,8,8,8,8,8,8,8,8,8,8,8,8,8,8,8,8,8,8,8,8,8,8,8,8,8,8,8,8,8,8,8,8,8,8,8,8,8,8,8,8,8,8,8,8,8,8,8,8,8,8,8,8,8,8,8,8,8,8,8,8,8,8,8,8,8,8,8,8,8,8,8,8,8,8,8,8,8,8,8,8,8,8,8,8,8,8,8,8,8,8,8,8]⟩:ByteArray) (IntKind.wrap .u8 (k))).bind fun c=>some (bN (b+(bN (c))))
def dC2 (b:Int):OD k (d+1) 243 [.v (.int .u64 b)]=(pC1 b).map i64:=oe rfl<|by
 refine bo (e:=(fun(⟨c,f⟩:Int×Int)=>(nq [(0,.v (.int .u64 c)),aT 2 f] []))) ?_ fun⟨c,f⟩=>?_;refine io ?_;refine bo oi fun l=>?_;rfl;refine bo (e:=(fun(⟨g,h⟩:Int×Int)=>(nq [(0,.v (.int .u64 g)),aT 2 h] []))) ?_ fun⟨g,h⟩=>?_;refine io ?_;refine bo oi fun m=>?_;rfl;refine bo (e:=(fun(⟨i,a⟩:Int×Int)=>(nq [(0,.v (.int .u64 i)),aT 2 a] []))) ?_ fun⟨i,a⟩=>?_;refine io ?_;refine bo oi fun n=>?_;rfl;refine bo oi fun j=>?_;rfl
def Uj (a:Int):aB Int:=
 (pC1 a).bind fun b=>some b
def Xj a:OD k (d+2) 231 [.v (.int .u64 a)]=(Uj a).map i64:=oe rfl<|bo (dC2 d a)
def Mk (a:YG):aB Bool:=
 (if decide (a.passes>0)then(lL1 .i64 1 (bN (a.passes-1))).bind fun b=>some (a.ending==b)else some false:aB Bool).bind fun c=>some c
def Jq a:OD k (d+1) 140 [kO a]=(Mk a).map bv:=oe rfl<|be (io<|bo oi)
def pD1 (a:YG) (b:YM):aB (YG×Bool):=
 if b.dK||(a.body==0)then some (a,false)else if b.bM !=a.ending then if((a.ending !=0)&&(!a.ended))||((Qr .i64 b.bM a.used)!=0)then some (a,false)else(Uj (IntKind.wrap .u64 (b.bM))).bind fun k=>if a.passes==0 then if((Qr .i64 b.bM 1)==0)||(decide ((bN (k-1))>6))then some ({a with used:=Ts .i64 a.used b.bM,ending:=b.bM,ended:=false},false)else if b.bL !=0 then(Mk {a with used:=Ts .i64 a.used b.bM,ending:=b.bM,ended:=false}).bind fun l=>(if l||((a.passes !=0)&&(b.bL !=a.passes))then some true else(Uj (IntKind.wrap .u64 (b.bM))).bind fun m=>some (decide (m>=b.bL)):aB Bool).bind fun n=>if n then some ({a with used:=Ts .i64 a.used b.bM,ending:=b.bM,ended:=false},false)else some (YG.mk a.started a.body (Ts .i64 a.used b.bM) b.bM true b.bL,true)else some ({a with used:=Ts .i64 a.used b.bM,ending:=b.bM,ended:=false},true)else(if decide ((bN (k-1))>=a.passes)then some true else(if(bN (k-1))==(bN (a.passes-1))then(Mk {a with used:=Ts .i64 a.used b.bM,ending:=b.bM,ended:=false}).bind fun o=>(if !o then some true else(lL1 .i64 1 a.passes).bind fun p=>some ((Ts .i64 a.used b.bM)!=(bN (p-1))):aB Bool).bind fun q=>some q else some false:aB Bool).bind fun c=>some c:aB Bool).bind fun d=>if d then some ({a with used:=Ts .i64 a.used b.bM,ending:=b.bM,ended:=false},false)else if b.bL !=0 then(Mk {a with used:=Ts .i64 a.used b.bM,ending:=b.bM,ended:=false}).bind fun e=>(if e||((a.passes !=0)&&(b.bL !=a.passes))then some true else(Uj (IntKind.wrap .u64 (b.bM))).bind fun f=>some (decide (f>=b.bL)):aB Bool).bind fun g=>if g then some ({a with used:=Ts .i64 a.used b.bM,ending:=b.bM,ended:=false},false)else some (YG.mk a.started a.body (Ts .i64 a.used b.bM) b.bM true b.bL,true)else some ({a with used:=Ts .i64 a.used b.bM,ending:=b.bM,ended:=false},true)else if a.ended then some (a,false)else if b.bL !=0 then(Mk a).bind fun h=>(if h||((a.passes !=0)&&(b.bL !=a.passes))then some true else(Uj (IntKind.wrap .u64 (a.ending))).bind fun i=>some (decide (i>=b.bL)):aB Bool).bind fun j=>if j then some (a,false)else some ({a with ended:=true,passes:=b.bL},true)else some (a,true)
def dD2 b a:OD k (d+3) 198 [kO b,dR a]=(pD1 b a).map (fun⟨i,j⟩=>.tup [kO i,bv j]):=oe rfl<|bz (jH rfl)<|iy<|io (bz (jD rfl)<|bz (jH rfl)<|iy<|bo (Xj d (IntKind.wrap .u64 (a.bM))) fun l=>io (bz (jH rfl)<|iy<|io<|bo (Jq (d+1) {b with used:=Ts .i64 b.used a.bM,ending:=a.bM,ended:=false}) fun m=>bz (jH (bz (jD rfl) rfl))<|be (iy<|bo (Xj d (IntKind.wrap .u64 (a.bM)))) fun n=>io)<|be (iy<|be (io<|bo (Jq (d+1) {b with used:=Ts .i64 b.used a.bM,ending:=a.bM,ended:=false}) fun o=>be (iy<|bo oi))) fun c=>iy<|io<|bo (Jq (d+1) {b with used:=Ts .i64 b.used a.bM,ending:=a.bM,ended:=false}) fun e=>bz (jH (bz (jD rfl) rfl))<|be (iy<|bo (Xj d (IntKind.wrap .u64 (a.bM)))) fun f=>io)<|iy<|io<|bo (Jq (d+1) b) fun g=>bz (jH (bz (jD rfl) rfl))<|be (iy<|bo (Xj d (IntKind.wrap .u64 (b.ending)))) fun h=>io
def pE1 (a:YG) (b:YM):aB (YG×Bool):=
 if b.bM !=0 then(pD1 a b).bind fun⟨e,f⟩=>some (e,f)else if a.ending !=0 then(Mk a).bind fun g=>if !g then some (a,false)else if b.dK then if false then some (YG.mk false 0 0 0 false 0,false)else(if b.bL !=0 then some (false,0)else some (true,1):aB (Bool×Int)).bind fun⟨h,i⟩=>some (YG.mk h i 0 0 false 0,true)else(if b.bL !=0 then some 0 else some 1:aB Int).bind fun j=>some (YG.mk false j 0 0 false 0,true)else if b.dK then if a.started then some (a,false)else(if b.bL !=0 then some (false,0)else some (true,1):aB (Bool×Int)).bind fun⟨k,c⟩=>some (YG.mk k c 0 0 false 0,true)else(if b.bL !=0 then some (YG.mk false 0 0 0 false 0)else some {a with body:=bN (a.body+1)}:aB YG).bind fun d=>some (d,true)
def dE2 b a:OD k (d+4) 139 [kO b,dR a]=(pE1 b a).map (fun⟨l,m⟩=>.tup [kO l,bv m]):=oe rfl<|io (bo (dD2 d b a))<|io (bo (Jq (d+2) b) fun n=>iy<|io (iy<|bo (e:=(fun(⟨g,h⟩:Bool×Int)=>(nq [bO 2 0,bO 4 2] [lT1,aO 1 a,(0,.box [bv g,i64 h,i64 0,i64 0,bv false,i64 0])]))) io)<|bo (e:=(fun(i:Int)=>(nq [bO 2 0,bO 4 2] [lT1,aO 1 a,(0,.box [bv false,i64 i,i64 0,i64 0,bv false,i64 0])]))) io)<|io (iy<|bo (e:=(fun(⟨j,c⟩:Bool×Int)=>(nq [bO 2 0,bO 4 2] [lT1,aO 1 a,(0,.box [bv j,i64 c,i64 0,i64 0,bv false,i64 0])]))) io)<|bo (e:=(fun(f:YG)=>(nq [bO 2 0,bO 4 2] [lT1,aO 1 a,lL 0 f]))) io
def hV1 (o:aA YV) (a:Y0) (n:Int):aB (aA YV):=
 (Dk o a n).bind fun e=>if decide ((e.length:Int)>(o.length:Int))then some e else(aQ (E:=(YG×(aA YV))⊕YG) (fun(⟨p,b⟩:Int×YG)=>cT a.aE p (fun c=>(pE1 b c).bind fun⟨d,f⟩=>if !f then(iU true c.ID e a n).bind fun g=>some (.inr (.inl (d,g)))else some (.inl (bN (p+1),d))) (some (.inr (.inr b)))) cQ (0,YG.mk false 0 0 0 false 0)).bind fun h=>(match h with|.inl ⟨x15,x16⟩=>some x16|.inr x17=>(if x17.started&&(x17.ending==0)then some true else(if x17.ending !=0 then(Mk x17).bind fun i=>some (!i)else some false:aB Bool).bind fun j=>some j:aB Bool).bind fun k=>(bE a.aE (bN ((a.aE.length:Int)-1))).bind fun l=>(iU k l.ID e a n).bind fun m=>some m)
def dF2 (j:aA YV) (a:Y0) (b:Int):gJ (XD k (d+5)) 88 [.ref 1 0] (cL j a b) 3 false=(hV1 j a b).map (fun(o:aA YV)=>(.tup [],cL o a b,0)):=by
 rw[xd (fn:=p88) rfl];refine bz (eP YV.g j) ?_;refine bo (hU1 (d+1) j a b) fun i=>?_;refine bz (eP YV.g i) ?_;refine iy ?_;refine bl ?_;refine bo (dX (S:=Int×YG) (fun⟨p,c⟩=>(Q [bO 0 1,bO 3 3,aR 26 a.aE,bX 27 a.aE,aT 28 p] (lL 3 c::cL i a b))) (fun|.inl ⟨f,h⟩=>(rq [bO 3 3] (lL 3 f::cL h a b))|.inr x17=>(xq 0 [bO 0 1,bO 3 3] (lL 3 x17::cL i a b))) (fun⟨p,c⟩=>?_) (0,YG.mk false 0 0 0 false 0)) fun l=>?_;refine ig fun e=>?_;refine bo (dE2 d c e) fun⟨q,r⟩=>?_;refine io ?_;refine bo (iJ (d+3) true e.ID i a b) fun s=>?_;rfl;rcases l with⟨f,h⟩|x17;rfl;refine bz (jD rfl) ?_;refine be ?_ fun m=>?_;refine iy ?_;refine be ?_ fun u=>?_;refine io ?_;refine bo (Jq (d+3) x17) fun t=>?_;rfl;rfl;refine bl ?_;refine bo rg fun n=>?_;refine bo (iJ (d+3) m n.ID i a b) fun v=>?_;rfl
def pF1 (a b:YM):aB Bool:=
 some (((b.pK !=0)&&(a.pK !=0))||((Qr .i64 b.iM a.iM)!=0))
def dG2 a b:OD k (d+1) 142 [dR a,lT b]=(pF1 a b).map bv:=oe rfl<|bz (jD rfl)<|bz (jH rfl)
def pG1 (b:aA YM) (c:YM):aB Int:=
 (aQ (E:=Int⊕Unit) (fun(a:Int)=>cT b a (fun d=>(pF1 d c).bind fun e=>if e then some (.inr (.inl a))else some (.inl (bN (a+1)))) (some (.inr (.inr ())))) cQ 0).bind fun f=>(match f with|.inl x8=>some x8|.inr _=>some (-1))
def dH2 a b:OD k (d+2) 199 [lS a,.fn 142 [] [lT b]]=(pG1 a b).map i64:=oe rfl<|bl<|bo (dX (fun c=>(Q [aR 0 a,(1,.fn 142 [] [lT b]),bX 7 a,aT 8 c] [])) (Tx 4) (fun c=>ig fun e=>bo (dG2 d e b) fun f=>io) 0) fun|.inl g=>rfl|.inr _=>rfl
def pH1 (a:aA YM) (b:YM):aB Bool:=
 (pG1 a b).bind fun c=>some (decide (c>=0))
def dI2 a b:OD k (d+3) 143 [lS a,.fn 142 [] [lT b]]=(pH1 a b).map bv:=oe rfl<|bo (dH2 d a b)
def pI1 (a:YM) (b:Int):aB Bool:=
 some ((Qr .i64 a.iM b)!=0)
def dJ2 a b:OD k (d+1) 232 [dR a,.ip [i64 b]]=(pI1 a b).map bv:=oe rfl<|rfl
def Ml (b:aA YM) (c:Int):aB Int:=
 (aQ (E:=Int⊕Unit) (fun(a:Int)=>cT b a (fun d=>(pI1 d c).bind fun e=>if e then some (.inr (.inl a))else some (.inl (bN (a+1)))) (some (.inr (.inr ())))) cQ 0).bind fun f=>(match f with|.inl x8=>some x8|.inr _=>some (-1))
def pJ1 a b:OD k (d+2) 199 [lS a,.fn 232 [] [.ip [i64 b]]]=(Ml a b).map i64:=oe rfl<|bl<|bo (dX (fun c=>(Q [aR 0 a,(1,.fn 232 [] [.ip [i64 b]]),bX 7 a,aT 8 c] [])) (Tx 4) (fun c=>ig fun e=>bo (dJ2 d e b) fun f=>io) 0) fun|.inl g=>rfl|.inr _=>rfl
def aF1 (a:YK) (b:Int):aB Int:=
 (Ml a.s'.aE b).bind fun c=>some c
def hW1 a b:OD k (d+3) 201 [cO a,i64 b]=(aF1 a b).map i64:=oe rfl<|bo (pJ1 d a.s'.aE b)
def aG1 (a:Int) (b:YK) (c:Int):aB Bool:=
 (aF1 b a).bind fun d=>(qD d 0 c).bind fun e=>some e
def hY1 a b c:OD k (d+4) 200 [i64 a,.ip [cO b],.ip [i64 c]]=(aG1 a b c).map bv:=oe rfl<|bo (hW1 d b a) fun e=>bo (nE (d+2) e 0 c)
def pK1 (b:YK) (a f:Int):aB Bool:=
 (if decide (a>=4)then(aG1 1 b f).bind fun g=>some (!g)else some false:aB Bool).bind fun h=>if h then some false else(if a==2 then some (a==2)else some (a==5):aB Bool).bind fun i=>if i then(aG1 4 b f).bind fun j=>some j else(if a==3 then some (a==3)else some (a==6):aB Bool).bind fun k=>if k then(aG1 8 b f).bind fun l=>(if l then(aF1 b 2).bind fun c=>(aF1 b 8).bind fun d=>some (decide (c>d))else some false:aB Bool).bind fun e=>some e else some true
def dK2 a c b:OD k (d+5) 144 [cO a,i64 c,i64 b]=(pK1 a c b).map bv:=oe rfl<|be (io<|bo (hY1 d 1 a b)) fun i=>iy<|bo (e:=(fun(f:Bool)=>(nq [bO 3 0,(7,.fn 200 [] [.ref 0 0,.ref 1 0]),aT 16 c,(17,bv f)] [(1,.box [i64 b]),(0,.box [cO a])]))) io fun f=>io (bo (hY1 d 4 a b))<|bo (e:=(fun(g:Bool)=>(nq [bO 3 0,(7,.fn 200 [] [.ref 0 0,.ref 1 0]),(22,bv g)] [(1,.box [i64 b]),(0,.box [cO a])]))) io fun g=>io<|bo (hY1 d 8 a b) fun j=>be (io<|bo (hW1 (d+1) a 2) fun h=>bo (hW1 (d+1) a 8))
def pL1 (c:Int) (a:YM) (d:YK):aB Bool:=
 (qD a.pK 0 6).bind fun e=>(if !e then some true else(qD a.iM 0 15).bind fun f=>some (!f):aB Bool).bind fun g=>if g||(((a.pK !=0)||(a.iM !=0))&&((a.bL !=0)||(a.bM !=0)))then some true else(mG d.s'.aE 0 c).bind fun h=>(pH1 h a).bind fun i=>(if i then some true else(pK1 d a.pK c).bind fun j=>some (!j):aB Bool).bind fun b=>some b
def dL2 b a c:OD k (d+6) 141 [i64 b,dR a,.ip [cO c]]=(pL1 b a c).map bv:=oe rfl<|bo (nE (d+4) a.pK 0 6) fun f=>be (iy<|bo (nE (d+4) a.iM 0 15)) fun g=>bz (jH (bz (jH rfl) (bz (jD (bz (jH rfl) rfl)) rfl)))<|iy<|bo (nW _ _ _ _) fun e=>bo (dI2 (d+2) e a) fun h=>be (iy<|bo (dK2 d c a.pK b))
def Dl (i:aA YV) (d:Y0) (g:Int):aB (aA YV):=
 (aQ (fun(⟨e,f⟩:Int×(aA YV))=>cT d.aE e (fun h=>(pL1 e h (YK.mk d g f)).bind fun a=>(iU a h.ID f d g).bind fun b=>some (.inl (bN (e+1),b))) (some (.inr f))) cQ (0,i)).bind fun c=>some c
def hZ1 e a b:gJ (XD k (d+7)) 110 [.ref 1 0,.fn 141 [] [.ref 3 0]] ((3,.box [.ref 1 0])::cL e a b) 4 false=(Dl e a b).map (fun(h:aA YV)=>(.tup [],((3,.box [.ref 1 0])::cL h a b),0)):=by rw[xd (fn:=Lq) rfl];exact bl<|bo (dX (fun⟨i,c⟩=>(Q [bO 0 1,(1,.fn 141 [] [.ref 3 0]),aR 10 a.aE,bX 11 a.aE,aT 12 i] ((3,.box [.ref 1 0])::cL c a b))) (fun(g:aA YV)=>(xq 0 [] ((3,.box [.ref 1 0])::cL g a b))) (fun⟨i,c⟩=>ig fun j=>bo (dL2 d i j (YK.mk a b c)) fun f=>bo (iJ (d+5) f j.ID c a b)) (0,e))
def iA1 (a:aA YV) (b:Y0) (c:Int):aB (aA YV):=
 (Dl a b c).bind fun d=>some d
def dM2 c a b:gJ (XD k (d+8)) 89 [.ref 1 0] (cL c a b) 3 false=(iA1 c a b).map (fun(e:aA YV)=>(.tup [],cL e a b,0)):=by rw[xd (fn:=p89) rfl];exact bo (hZ1 d c a b)
def pM1 (r:Int) (c:YM):aB Bool:=
 (Lv c).bind fun⟨m,s⟩=>(if c.nF !=0 then(qD c.nF 50 75).bind fun n=>some (!n)else some false:aB Bool).bind fun o=>(if o then some true else(qD c.nP 0 3).bind fun p=>some (!p):aB Bool).bind fun q=>(aQ (fun(⟨d,a⟩:Bool×Int)=>cT c.fW a (fun b=>(if d then some true else(qD b.At 0 (bN (m-1))).bind fun e=>some (!e):aB Bool).bind fun f=>(if f then some true else(qD b.Gz 1 60000000).bind fun g=>some (!g):aB Bool).bind fun h=>(if h then some true else(if decide (a>0)then(bE c.fW (bN (a-1))).bind fun i=>some (decide (b.At<=i.At))else some false:aB Bool).bind fun j=>some j:aB Bool).bind fun k=>some (.inl (k,bN (a+1)))) (some (.inr d))) cQ (q,0)).bind fun l=>some l
def dN2 (g:Int) (a:YM):OD k (d+5) 145 [i64 g,dR a]=(pM1 g a).map bv:=oe rfl<|by
 refine bo (Jo d a) fun⟨h,r⟩=>?_;refine be ?_ fun t=>?_;refine io ?_;refine bo (nE (d+3) a.nF 50 75) fun s=>?_;rfl;refine be ?_ fun q=>?_;refine iy ?_;refine bo (nE (d+3) a.nP 0 3) fun u=>?_;rfl;refine bl ?_;refine bo (dX (S:=Bool×Int) (fun⟨b,c⟩=>(Q [bO 3 0,aT 5 h,(7,bv b),pH 31 a.fW,bX 32 a.fW,aT 33 c] [aO 0 a])) (fun(f:Bool)=>(xq 0 [(7,bv f)] [aO 0 a])) (fun⟨b,c⟩=>?_) (q,0)) fun f=>?_;refine ig fun e=>?_;refine be ?_ fun j=>?_;refine iy ?_;refine bo (nE (d+3) e.At 0 (bN (h-1))) fun i=>?_;rfl;refine be ?_ fun m=>?_;refine iy ?_;refine bo (nE (d+3) e.Gz 1 60000000) fun l=>?_;rfl;refine be ?_ fun p=>?_;refine iy ?_;refine be ?_ fun o=>?_;refine ig fun n=>?_;rfl;rfl;rfl;rfl
def Dm (h:aA YV) (e:Y0) (i:Int):aB (aA YV):=
 (aQ (fun(⟨d,f⟩:Int×(aA YV))=>cT e.aE d (fun g=>(pM1 d g).bind fun a=>(iU a g.ID f e i).bind fun b=>some (.inl (bN (d+1),b))) (some (.inr f))) cQ (0,h)).bind fun c=>some c
def iB1 c a b:gJ (XD k (d+6)) 110 [.ref 1 0,.fn 145 [] []] (cL c a b) 3 false=(Dm c a b).map (fun(g:aA YV)=>(.tup [],cL g a b,0)):=by rw[xd (fn:=Lq) rfl];exact bl<|bo (dX (S:=Int×(aA YV)) (fun⟨h,i⟩=>(Q [bO 0 1,(1,.fn 145 [] []),aR 10 a.aE,bX 11 a.aE,aT 12 h] (cL i a b))) (fun(f:aA YV)=>(xq 0 [] (cL f a b))) (fun⟨h,i⟩=>ig fun j=>bo (dN2 d h j) fun e=>bo (iJ (d+4) e j.ID i a b)) (0,c))
def iC1 (a:aA YV) (b:Y0) (c:Int):aB (aA YV):=
 (Dm a b c).bind fun d=>some d
def dO2 c a b:gJ (XD k (d+7)) 90 [.ref 1 0] (cL c a b) 3 false=(iC1 c a b).map (fun(e:aA YV)=>(.tup [],cL e a b,0)):=by rw[xd (fn:=p90) rfl];exact bo (iB1 d c a b)
def pN1 (b:YP) (f:YE) (c:YK):aB Bool:=
 (gX1 c.s' b).bind fun⟨e,g⟩=>(if !g then some true else(gU1 f).bind fun h=>some (!h):aB Bool).bind fun i=>if i||(e.bV==b.bV)then some false else(bE c.s'.aE b.bV).bind fun a=>(bE c.s'.aE e.bV).bind fun d=>some ((((((a.bL !=0)||(a.pK !=0))||((Qr .i64 a.iM 12)!=0))||(a.bM !=d.bM))||d.dK)||((Qr .i64 d.iM 3)!=0))
def dP2 a b c:OD k (d+5) 146 [eB a,dV b,.ip [cO c]]=(pN1 a b c).map bv:=oe rfl<|bo (sS1 (d+1) c.s' a) fun⟨e,f⟩=>be (iy<|bo (sP1 d b)) fun g=>bz (jH rfl)<|iy<|bo rg fun h=>bo rg fun i=>bz (jH rfl)<|bz (jH rfl)<|bz (jH rfl)<|bz (jH rfl)<|bz (jH rfl)
def Dn (u:aA YV) (p:Y0) (t:Int):aB (aA YV):=
 (aQ (fun(⟨d,m⟩:Int×(aA YV))=>cT p.aE d (fun q=>(aQ (fun(⟨e,n⟩:Int×(aA YV))=>cT q.aI e (fun r=>(aQ (fun(⟨f,o⟩:Int×(aA YV))=>cT r.aK f (fun s=>(aQ (fun(⟨a,b⟩:Int×(aA YV))=>cT s.aU a (fun c=>(pN1 (YP.mk 4 0 e d f a 0) c (YK.mk p t b)).bind fun g=>(iU g c.ID b p t).bind fun h=>some (.inl (bN (a+1),h))) (some (.inr b))) cQ (0,o)).bind fun i=>some (.inl (bN (f+1),i))) (some (.inr o))) cQ (0,n)).bind fun j=>some (.inl (bN (e+1),j))) (some (.inr n))) cQ (0,m)).bind fun k=>some (.inl (bN (d+1),k))) (some (.inr m))) cQ (0,u)).bind fun l=>some l
def iD1 w c h:gJ (XD k (d+6)) 120 [.ref 1 0,.fn 146 [] [.ref 3 0]] ((3,.box [.ref 1 0])::cL w c h) 4 false=(Dn w c h).map (fun(v:aA YV)=>(.tup [],((3,.box [.ref 1 0])::cL v c h),0)):=by rw[xd (fn:=Zl) rfl];exact bl<|bo (dX (fun⟨b,n⟩=>(Q [bO 0 1,(1,.fn 146 [] [.ref 3 0]),aR 16 c.aE,bX 17 c.aE,aT 18 b] ((3,.box [.ref 1 0])::cL n c h))) (fun(u:aA YV)=>(xq 0 [] ((3,.box [.ref 1 0])::cL u c h))) (fun⟨b,n⟩=>ig fun a=>bl<|bo (dX (fun⟨e,o⟩=>(Q [bO 0 1,(1,.fn 146 [] [.ref 3 0]),aT 4 b,aR 16 c.aE,bX 17 c.aE,aT 18 b,bS 24 a.aI,bX 25 a.aI,aT 26 e] (aO 4 a::(3,.box [.ref 1 0])::cL o c h))) (fun(t:aA YV)=>(xq 2 [bO 0 1,(1,.fn 146 [] [.ref 3 0]),aR 16 c.aE,bX 17 c.aE,aT 18 b] (aO 4 a::(3,.box [.ref 1 0])::cL t c h))) (fun⟨e,o⟩=>ig fun f=>bl<|bo (dX (fun⟨i,p⟩=>(Q [bO 0 1,(1,.fn 146 [] [.ref 3 0]),aT 4 b,aT 6 e,aR 16 c.aE,bX 17 c.aE,aT 18 b,bS 24 a.aI,bX 25 a.aI,aT 26 e,dC 32 f.aK,bX 33 f.aK,aT 34 i] (cP 5 f::aO 4 a::(3,.box [.ref 1 0])::cL p c h))) (fun(s:aA YV)=>(xq 4 [bO 0 1,(1,.fn 146 [] [.ref 3 0]),aT 4 b,aR 16 c.aE,bX 17 c.aE,aT 18 b,bS 24 a.aI,bX 25 a.aI,aT 26 e] (cP 5 f::aO 4 a::(3,.box [.ref 1 0])::cL s c h))) (fun⟨i,p⟩=>ig fun l=>bl<|bo (dX (fun⟨j,g⟩=>(Q [bO 0 1,(1,.fn 146 [] [.ref 3 0]),aT 4 b,aT 6 e,aT 8 i,aR 16 c.aE,bX 17 c.aE,aT 18 b,bS 24 a.aI,bX 25 a.aI,aT 26 e,dC 32 f.aK,bX 33 f.aK,aT 34 i,fF 40 l.aU,bX 41 l.aU,aT 42 j] (bZ 6 l::cP 5 f::aO 4 a::(3,.box [.ref 1 0])::cL g c h))) (fun(r:aA YV)=>(xq 6 [bO 0 1,(1,.fn 146 [] [.ref 3 0]),aT 4 b,aT 6 e,aR 16 c.aE,bX 17 c.aE,aT 18 b,bS 24 a.aI,bX 25 a.aI,aT 26 e,dC 32 f.aK,bX 33 f.aK,aT 34 i] (bZ 6 l::cP 5 f::aO 4 a::(3,.box [.ref 1 0])::cL r c h))) (fun⟨j,g⟩=>ig fun m=>bo (dP2 d (YP.mk 4 0 e b i j 0) m (YK.mk c h g)) fun q=>bo (iJ (d+4) q m.ID g c h)) (0,p))) (0,o))) (0,n))) (0,w))
def iE1 (a:aA YV) (b:Y0) (c:Int):aB (aA YV):=
 (Dn a b c).bind fun d=>some d
def dQ2 c a b:gJ (XD k (d+7)) 91 [.ref 1 0] (cL c a b) 3 false=(iE1 c a b).map (fun(e:aA YV)=>(.tup [],cL e a b,0)):=by rw[xd (fn:=p91) rfl];exact bo (iD1 d c a b)
def F54 (a:Y0):aB (aA YV):=
 (if decide ((([]:aA YV).length:Int)>0)then(if false then some true else(if false then(gU ([]:aA YV) 0).bind fun x2=>(fZ ([]:aA YV) x2).bind fun x3=>some (decide (x3.kC<10))else some false:aB Bool).bind fun x4=>some x4:aB Bool).bind fun x5=>some x5 else some false:aB Bool).bind fun x6=>if x6 then some []else(Rf [] a 1).bind fun u=>(if decide ((u.length:Int)>0)then(if true then some true else(if false then(gU u 0).bind fun x8=>(fZ u x8).bind fun x9=>some (decide (x9.kC<10))else some false:aB Bool).bind fun v=>some v:aB Bool).bind fun w=>some w else some false:aB Bool).bind fun x=>if x then some u else(fU1 u a 2).bind fun b=>(if decide ((b.length:Int)>0)then(if false then some true else(if false then(gU b 0).bind fun y=>(fZ b y).bind fun z=>some (decide (z.kC<10))else some false:aB Bool).bind fun A=>some A:aB Bool).bind fun B=>some B else some false:aB Bool).bind fun C=>if C then some b else(fV1 b a 3).bind fun c=>(if decide ((c.length:Int)>0)then(if false then some true else(if false then(gU c 0).bind fun D=>(fZ c D).bind fun E=>some (decide (E.kC<10))else some false:aB Bool).bind fun F=>some F:aB Bool).bind fun G=>some G else some false:aB Bool).bind fun H=>if H then some c else(fY1 c a 4).bind fun d=>(if decide ((d.length:Int)>0)then(if false then some true else(if false then(gU d 0).bind fun J=>(fZ d J).bind fun K=>some (decide (K.kC<10))else some false:aB Bool).bind fun L=>some L:aB Bool).bind fun M=>some M else some false:aB Bool).bind fun N=>if N then some d else(gA1 d a 5).bind fun e=>(if decide ((e.length:Int)>0)then(if false then some true else(if false then(gU e 0).bind fun O=>(fZ e O).bind fun P=>some (decide (P.kC<10))else some false:aB Bool).bind fun R=>some R:aB Bool).bind fun S=>some S else some false:aB Bool).bind fun T=>if T then some e else(gM1 e a 6).bind fun f=>(if decide ((f.length:Int)>0)then(if false then some true else(if false then(gU f 0).bind fun U=>(fZ f U).bind fun V=>some (decide (V.kC<10))else some false:aB Bool).bind fun W=>some W:aB Bool).bind fun X=>some X else some false:aB Bool).bind fun Y=>if Y then some f else(gP1 f a 7).bind fun g=>(if decide ((g.length:Int)>0)then(if false then some true else(if false then(gU g 0).bind fun Z=>(fZ g Z).bind fun a0=>some (decide (a0.kC<10))else some false:aB Bool).bind fun b0=>some b0:aB Bool).bind fun b4=>some b4 else some false:aB Bool).bind fun b5=>if b5 then some g else(gQ1 g a 8).bind fun h=>(if decide ((h.length:Int)>0)then(if false then some true else(if false then(gU h 0).bind fun b6=>(fZ h b6).bind fun b7=>some (decide (b7.kC<10))else some false:aB Bool).bind fun b8=>some b8:aB Bool).bind fun b9=>some b9 else some false:aB Bool).bind fun d0=>if d0 then some h else(gT1 h a 9).bind fun i=>(if decide ((i.length:Int)>0)then(if false then some true else(if true then(gU i 0).bind fun d2=>(fZ i d2).bind fun d3=>some (decide (d3.kC<10))else some false:aB Bool).bind fun d4=>some d4:aB Bool).bind fun d5=>some d5 else some false:aB Bool).bind fun d6=>if d6 then some i else(gZ1 i a 10).bind fun j=>(if decide ((j.length:Int)>0)then(if false then some true else(if true then(gU j 0).bind fun d7=>(fZ j d7).bind fun d8=>some (decide (d8.kC<10))else some false:aB Bool).bind fun d9=>some d9:aB Bool).bind fun e0=>some e0 else some false:aB Bool).bind fun e1=>if e1 then some j else(hB1 j a 11).bind fun k=>(if decide ((k.length:Int)>0)then(if false then some true else(if true then(gU k 0).bind fun e3=>(fZ k e3).bind fun e4=>some (decide (e4.kC<10))else some false:aB Bool).bind fun e5=>some e5:aB Bool).bind fun e6=>some e6 else some false:aB Bool).bind fun e7=>if e7 then some k else(hK1 k a 12).bind fun l=>(if decide ((l.length:Int)>0)then(if false then some true else(if true then(gU l 0).bind fun e8=>(fZ l e8).bind fun e9=>some (decide (e9.kC<10))else some false:aB Bool).bind fun f0=>some f0:aB Bool).bind fun f1=>some f1 else some false:aB Bool).bind fun f2=>if f2 then some l else(hT1 l a 13).bind fun m=>(if decide ((m.length:Int)>0)then(if false then some true else(if true then(gU m 0).bind fun f3=>(fZ m f3).bind fun f5=>some (decide (f5.kC<10))else some false:aB Bool).bind fun f6=>some f6:aB Bool).bind fun f7=>some f7 else some false:aB Bool).bind fun f8=>if f8 then some m else(hV1 m a 14).bind fun n=>(if decide ((n.length:Int)>0)then(if false then some true else(if true then(gU n 0).bind fun f9=>(fZ n f9).bind fun g1=>some (decide (g1.kC<10))else some false:aB Bool).bind fun g3=>some g3:aB Bool).bind fun g4=>some g4 else some false:aB Bool).bind fun g5=>if g5 then some n else(iA1 n a 15).bind fun o=>(if decide ((o.length:Int)>0)then(if false then some true else(if true then(gU o 0).bind fun g6=>(fZ o g6).bind fun g7=>some (decide (g7.kC<10))else some false:aB Bool).bind fun g8=>some g8:aB Bool).bind fun g9=>some g9 else some false:aB Bool).bind fun h0=>if h0 then some o else(iC1 o a 16).bind fun p=>(if decide ((p.length:Int)>0)then(if false then some true else(if true then(gU p 0).bind fun h2=>(fZ p h2).bind fun h3=>some (decide (h3.kC<10))else some false:aB Bool).bind fun q=>some q:aB Bool).bind fun r=>some r else some false:aB Bool).bind fun s=>if s then some p else(iE1 p a 17).bind fun t=>some t
def nZ2 (a:Y0):OD k (d+25) 54 [eJ a]=(F54 a).map (fun y0=>Hk y0):=oe rfl<|by
 refine bz (eP YV.g ([]:aA YV)) ?_;refine bo (e:=id) ?_ fun x6=>?_;refine io ?_ rfl;refine bo (e:=id) ?_ fun x5=>?_;refine io rfl ?_;refine bo (e:=id) ?_ fun x4=>?_;refine io ?_ rfl;refine bo (bR YV.g ([]:aA YV) _) fun x2=>?_;refine bo (cV (A:=YV) (c:=YV.g) (g:=fun S=>i64 S.kC) (fun _=>rfl) ([]:aA YV) _) fun S=>?_;rfl;rfl;rfl;refine io rfl ?_;refine bo (zH1 (d+19) [] a 1) fun M=>?_;refine bz (eP YV.g M) ?_;refine bo (e:=id) ?_ fun W=>?_;refine io ?_ rfl;refine bo (e:=id) ?_ fun V=>?_;refine io rfl ?_;refine bo (e:=id) ?_ fun U=>?_;refine io ?_ rfl;refine bo (bR YV.g M _) fun x8=>?_;refine bo (cV (A:=YV) (c:=YV.g) (g:=fun T=>i64 T.kC) (fun _=>rfl) M _) fun T=>?_;rfl;rfl;rfl;refine io rfl ?_;refine bo (zL1 (d+20) M a 2) fun b=>?_;refine bz (eP YV.g b) ?_;refine bo (e:=id) ?_ fun a0=>?_;refine io ?_ rfl;refine bo (e:=id) ?_ fun Z=>?_;refine io rfl ?_;refine bo (e:=id) ?_ fun Y=>?_;refine io ?_ rfl;refine bo (bR YV.g b _) fun X=>?_;refine bo (cV (A:=YV) (c:=YV.g) (g:=fun v=>i64 v.kC) (fun _=>rfl) b _) fun v=>?_;rfl;rfl;rfl;refine io rfl ?_;refine bo (zP1 (d+21) b a 3) fun f=>?_;refine bz (eP YV.g f) ?_;refine bo (e:=id) ?_ fun b6=>?_;refine io ?_ rfl;refine bo (e:=id) ?_ fun b5=>?_;refine io rfl ?_;refine bo (e:=id) ?_ fun b4=>?_;refine io ?_ rfl;refine bo (bR YV.g f _) fun b0=>?_;refine bo (cV (A:=YV) (c:=YV.g) (g:=fun w=>i64 w.kC) (fun _=>rfl) f _) fun w=>?_;rfl;rfl;rfl;refine io rfl ?_;refine bo (zZ1 (d+17) f a 4) fun h=>?_;refine bz (eP YV.g h) ?_;refine bo (e:=id) ?_ fun d0=>?_;refine io ?_ rfl;refine bo (e:=id) ?_ fun b9=>?_;refine io rfl ?_;refine bo (e:=id) ?_ fun b8=>?_;refine io ?_ rfl;refine bo (bR YV.g h _) fun b7=>?_;refine bo (cV (A:=YV) (c:=YV.g) (g:=fun x=>i64 x.kC) (fun _=>rfl) h _) fun x=>?_;rfl;rfl;rfl;refine io rfl ?_;refine bo (aD2 (d+17) h a 5) fun i=>?_;refine bz (eP YV.g i) ?_;refine bo (e:=id) ?_ fun d5=>?_;refine io ?_ rfl;refine bo (e:=id) ?_ fun d4=>?_;refine io rfl ?_;refine bo (e:=id) ?_ fun d3=>?_;refine io ?_ rfl;refine bo (bR YV.g i _) fun d2=>?_;refine bo (cV (A:=YV) (c:=YV.g) (g:=fun y=>i64 y.kC) (fun _=>rfl) i _) fun y=>?_;rfl;rfl;rfl;refine io rfl ?_;refine bo (bS2 d i a 6) fun j=>?_;refine bz (eP YV.g j) ?_;refine bo (e:=id) ?_ fun d9=>?_;refine io ?_ rfl;refine bo (e:=id) ?_ fun d8=>?_;refine io rfl ?_;refine bo (e:=id) ?_ fun d7=>?_;refine io ?_ rfl;refine bo (bR YV.g j _) fun d6=>?_;refine bo (cV (A:=YV) (c:=YV.g) (g:=fun z=>i64 z.kC) (fun _=>rfl) j _) fun z=>?_;rfl;rfl;rfl;refine io rfl ?_;refine bo (bU2 d j a 7) fun l=>?_;refine bz (eP YV.g l) ?_;refine bo (e:=id) ?_ fun e4=>?_;refine io ?_ rfl;refine bo (e:=id) ?_ fun e3=>?_;refine io rfl ?_;refine bo (e:=id) ?_ fun e1=>?_;refine io ?_ rfl;refine bo (bR YV.g l _) fun e0=>?_;refine bo (cV (A:=YV) (c:=YV.g) (g:=fun B=>i64 B.kC) (fun _=>rfl) l _) fun B=>?_;rfl;rfl;rfl;refine io rfl ?_;refine bo (bW2 (d+13) l a 8) fun m=>?_;refine bz (eP YV.g m) ?_;refine bo (e:=id) ?_ fun e8=>?_;refine io ?_ rfl;refine bo (e:=id) ?_ fun e7=>?_;refine io rfl ?_;refine bo (e:=id) ?_ fun e6=>?_;refine io ?_ rfl;refine bo (bR YV.g m _) fun e5=>?_;refine bo (cV (A:=YV) (c:=YV.g) (g:=fun C=>i64 C.kC) (fun _=>rfl) m _) fun C=>?_;rfl;rfl;rfl;refine io rfl ?_;refine bo (cE2 (d+13) m a 9) fun n=>?_;refine bz (eP YV.g n) ?_;refine bo (e:=id) ?_ fun f2=>?_;refine io ?_ rfl;refine bo (e:=id) ?_ fun f1=>?_;refine io rfl ?_;refine bo (e:=id) ?_ fun f0=>?_;refine io ?_ rfl;refine bo (bR YV.g n _) fun e9=>?_;refine bo (cV (A:=YV) (c:=YV.g) (g:=fun D=>i64 D.kC) (fun _=>rfl) n _) fun D=>?_;rfl;rfl;rfl;refine io rfl ?_;refine bo (cK2 (d+17) n a 10) fun o=>?_;refine bz (eP YV.g o) ?_;refine bo (e:=id) ?_ fun f7=>?_;refine io ?_ rfl;refine bo (e:=id) ?_ fun f6=>?_;refine io rfl ?_;refine bo (e:=id) ?_ fun f5=>?_;refine io ?_ rfl;refine bo (bR YV.g o _) fun f3=>?_;refine bo (cV (A:=YV) (c:=YV.g) (g:=fun E=>i64 E.kC) (fun _=>rfl) o _) fun E=>?_;rfl;rfl;rfl;refine io rfl ?_;refine bo (cN2 (d+21) o a 11) fun p=>?_;refine bz (eP YV.g p) ?_;refine bo (e:=id) ?_ fun g3=>?_;refine io ?_ rfl;refine bo (e:=id) ?_ fun g1=>?_;refine io rfl ?_;refine bo (e:=id) ?_ fun f9=>?_;refine io ?_ rfl;refine bo (bR YV.g p _) fun f8=>?_;refine bo (cV (A:=YV) (c:=YV.g) (g:=fun F=>i64 F.kC) (fun _=>rfl) p _) fun F=>?_;rfl;rfl;rfl;refine io rfl ?_;refine bo (cV2 (d+7) p a 12) fun q=>?_;refine bz (eP YV.g q) ?_;refine bo (e:=id) ?_ fun g7=>?_;refine io ?_ rfl;refine bo (e:=id) ?_ fun g6=>?_;refine io rfl ?_;refine bo (e:=id) ?_ fun g5=>?_;refine io ?_ rfl;refine bo (bR YV.g q _) fun g4=>?_;refine bo (cV (A:=YV) (c:=YV.g) (g:=fun G=>i64 G.kC) (fun _=>rfl) q _) fun G=>?_;rfl;rfl;rfl;refine io rfl ?_;refine bo (dA2 (d+7) q a 13) fun r=>?_;refine bz (eP YV.g r) ?_;refine bo (e:=id) ?_ fun h2=>?_;refine io ?_ rfl;refine bo (e:=id) ?_ fun h0=>?_;refine io rfl ?_;refine bo (e:=id) ?_ fun g9=>?_;refine io ?_ rfl;refine bo (bR YV.g r _) fun g8=>?_;refine bo (cV (A:=YV) (c:=YV.g) (g:=fun H=>i64 H.kC) (fun _=>rfl) r _) fun H=>?_;rfl;rfl;rfl;refine io rfl ?_;refine bo (dF2 (d+19) r a 14) fun s=>?_;refine bz (eP YV.g s) ?_;refine bo (e:=id) ?_ fun h6=>?_;refine io ?_ rfl;refine bo (e:=id) ?_ fun h5=>?_;refine io rfl ?_;refine bo (e:=id) ?_ fun h4=>?_;refine io ?_ rfl;refine bo (bR YV.g s _) fun h3=>?_;refine bo (cV (A:=YV) (c:=YV.g) (g:=fun J=>i64 J.kC) (fun _=>rfl) s _) fun J=>?_;rfl;rfl;rfl;refine io rfl ?_;refine bo (dM2 (d+16) s a 15) fun t=>?_;refine bz (eP YV.g t) ?_;refine bo (e:=id) ?_ fun i0=>?_;refine io ?_ rfl;refine bo (e:=id) ?_ fun h9=>?_;refine io rfl ?_;refine bo (e:=id) ?_ fun h8=>?_;refine io ?_ rfl;refine bo (bR YV.g t _) fun h7=>?_;refine bo (cV (A:=YV) (c:=YV.g) (g:=fun K=>i64 K.kC) (fun _=>rfl) t _) fun K=>?_;rfl;rfl;rfl;refine io rfl ?_;refine bo (dO2 (d+17) t a 16) fun u=>?_;refine bz (eP YV.g u) ?_;refine bo (e:=id) ?_ fun P=>?_;refine io ?_ rfl;refine bo (e:=id) ?_ fun O=>?_;refine io rfl ?_;refine bo (e:=id) ?_ fun N=>?_;refine io ?_ rfl;refine bo (bR YV.g u _) fun i1=>?_;refine bo (cV (A:=YV) (c:=YV.g) (g:=fun L=>i64 L.kC) (fun _=>rfl) u _) fun L=>?_;rfl;rfl;rfl;refine io rfl ?_;refine bo (dQ2 (d+17) u a 17) fun R=>?_;rfl
end Go.P
namespace Go.P
open Go.Sim (Ex gC CK)
open K (I Q rq nq xq ck)
variable {k:Bool} (d:Nat)
def F19 (a:Y0):aB Bool:=
 (F54 a).bind fun b=>some ((b.length:Int)==0)
def vO1 a:OD k (d+26) 19 [eJ a]=(F19 a).map bv:=oe rfl<|bo (nZ2 d a) fun b=>bl
def F52 (c:YO):aB Bool:=
 (aQ (E:=Unit⊕Unit) (fun(g:Int)=>cT c.aU g (fun b=>if((decide ((b.gO.length:Int)>12))||(decide ((b.hZ.length:Int)>12)))||(decide ((b.eD.length:Int)>12))then some (.inr (.inl ()))else(aQ (E:=Unit⊕Unit) (fun(a:Int)=>cT b.eD a (fun d=>if decide ((d.qE.size:Int)>300)then some (.inr (.inl ()))else some (.inl (bN (a+1)))) (some (.inr (.inr ())))) cQ 0).bind fun e=>(match e with|.inl _=>some (.inr (.inl ()))|.inr _=>some (.inl (bN (g+1))))) (some (.inr (.inr ())))) cQ 0).bind fun f=>(match f with|.inl _=>some false|.inr _=>some ((decide ((c.aU.length:Int)<=20))&&(decide ((c.fO.length:Int)<=6))))
def oA2 (a:YO):OD k (d+1) 52 [gF a]=(F52 a).map bv:=oe rfl<|by
 refine bo (dX (fun c=>(Q [bO 1 0,aT 3 c] [bZ 0 a])) (fun|.inl _=>(rq [bO 1 0,(2,bv false)] [bZ 0 a])|.inr _=>(xq 0 [bO 1 0] [bZ 0 a])) (fun c=>?_) 0) fun f=>?_;refine bl ?_;refine ig fun g=>?_;refine bl ?_;refine bz (jH (bz lm rfl)) ?_;refine bz (jH (bz lm rfl)) ?_;refine iy ?_;refine bo (dX (fun b=>(Q [bO 1 0,aT 3 c,bO 4 1,aT 5 b] [fG 1 g,bZ 0 a])) (fun|.inl _=>(rq [bO 1 0,(2,bv false),aT 3 c] [fG 1 g,bZ 0 a])|.inr _=>(xq 2 [bO 1 0,aT 3 c] [fG 1 g,bZ 0 a])) (fun b=>?_) 0) fun e=>?_;refine bl ?_;refine ig fun h=>?_;refine io;rcases e with _|_;rfl;rfl;rcases f with _|_;rfl;refine bl ?_;refine bz (jD (bz lm rfl)) ?_;rfl
def F53 (e:YO):aB Int:=
 (aQ (fun(⟨c,a⟩:Int×Int)=>if decide (a<(e.aU.length:Int))then(aQ (fun(⟨d,b⟩:Int×Int)=>(bE e.aU a).bind fun f=>if decide (b<(f.eD.length:Int))then(bE e.aU a).bind fun g=>(bE g.eD b).bind fun h=>some (.inl (bN (d+(h.qE.size:Int)),bN (b+1)))else some (.inr d)) cQ (c,0)).bind fun i=>some (.inl (i,bN (a+1)))else some (.inr c)) cQ (0,0)).bind fun j=>some j
def oB2 c:OD k (d+1) 53 [gF c]=(F53 c).map i64:=oe rfl<|bo (dX (S:=Int×Int) (fun⟨b,a⟩=>(Q [bO 1 0,aT 3 b,aT 4 a] [bZ 0 c])) (fun(h:Int)=>(xq 0 [aT 3 h] [bZ 0 c])) (fun⟨b,a⟩=>bl<|io<|bo (dX (S:=Int×Int) (fun⟨e,f⟩=>(Q [bO 1 0,aT 3 e,aT 4 a,aT 5 f] [bZ 0 c])) (fun(g:Int)=>(xq 2 [bO 1 0,aT 3 g,aT 4 a] [bZ 0 c])) (fun⟨e,f⟩=>bo rg fun i=>bl<|ig fun j=>bo rg) (b,0))) (0,0))
def F18 (j:Y0):aB Bool:=
 (aQ (E:=Unit⊕Unit) (fun(y:Int)=>cT j.bQ y (fun B=>(if decide ((B.dN.length:Int)>5)then some true else(bE j.bQ y).bind fun C=>some (decide ((C.vG.size:Int)>300)):aB Bool).bind fun D=>if D then some (.inr (.inl ()))else some (.inl (bN (y+1)))) (some (.inr (.inr ())))) cQ 0).bind fun F=>(match F with|.inl _=>some false|.inr _=>(aQ (E:=Unit⊕Unit) (fun(⟨z,A,x⟩:Int×Int×Int)=>cT j.aE x (fun b=>if((decide ((b.aI.length:Int)>5))||(decide ((b.fW.length:Int)>5)))||(decide ((b.dJ.size:Int)>300))then some (.inr (.inl ()))else(aQ (E:=(Int×Int)⊕(Int×Int)) (fun(⟨f,g,a⟩:Int×Int×Int)=>cT b.aI a (fun k=>(if decide ((k.iB.length:Int)>5)then some true else(bE b.aI a).bind fun l=>some (decide ((l.aK.length:Int)>3)):aB Bool).bind fun m=>if m then some (.inr (.inl (f,g)))else(aQ (E:=(Int×Int)⊕(Int×Int)) (fun(⟨c,d,e⟩:Int×Int×Int)=>(bE b.aI a).bind fun n=>if decide (e<(n.aK.length:Int))then(bE b.aI a).bind fun o=>(bE o.aK e).bind fun p=>(F52 p).bind fun q=>if !q then some (.inr (.inl (c,d)))else(bE b.aI a).bind fun r=>(bE r.aK e).bind fun h=>(bE b.aI a).bind fun s=>(bE s.aK e).bind fun t=>(F53 t).bind fun i=>if(decide ((bN (c+(h.aU.length:Int)))>400))||(decide ((bN (d+i))>20000))then some (.inr (.inl (bN (c+(h.aU.length:Int)),bN (d+i))))else some (.inl (bN (c+(h.aU.length:Int)),bN (d+i),bN (e+1)))else some (.inr (.inr (c,d)))) cQ (f,g,0)).bind fun u=>(match u with|.inl ⟨x137,x138⟩=>some (.inr (.inl (x137,x138)))|.inr ⟨x139,x140⟩=>some (.inl (x139,x140,bN (a+1))))) (some (.inr (.inr (f,g))))) cQ (z,A,0)).bind fun v=>(match v with|.inl ⟨x142,x143⟩=>some (.inr (.inl ()))|.inr ⟨x144,x145⟩=>some (.inl (x144,x145,bN (x+1))))) (some (.inr (.inr ())))) cQ (0,0,0)).bind fun w=>(match w with|.inl _=>some false|.inr _=>some (((((decide ((j.bQ.length:Int)<=4))&&(decide ((j.aE.length:Int)<=10)))&&(decide ((j.bD.length:Int)<=10)))&&(decide ((j.jV.length:Int)<=5)))&&(decide ((j.fL.size:Int)<=300)))))
def oC2 (c:Y0):OD k (d+2) 18 [eJ c]=(F18 c).map bv:=oe rfl<|by
 refine bo (dX (fun G=>(Q [bO 1 0,aT 3 0,aT 4 0,aT 5 G] [aM 0 c])) (fun|.inl _=>(rq [bO 1 0,(2,bv false),aT 3 0,aT 4 0] [aM 0 c])|.inr _=>(xq 0 [bO 1 0,aT 3 0,aT 4 0] [aM 0 c])) (fun G=>?_) 0) fun H=>?_;refine bl ?_;refine ig fun J=>?_;refine bl ?_;refine be ?_ fun L=>?_;refine iy ?_;refine bo rg fun K=>?_;rfl;refine io;rcases H with _|_;rfl;refine bo (dX (S:=Int×Int×Int) (fun⟨p,q,b⟩=>(Q [bO 1 0,aT 3 p,aT 4 q,aT 6 b] [aM 0 c])) (fun|.inl _=>(rq [bO 1 0,(2,bv false)] [aM 0 c])|.inr _=>(xq 2 [bO 1 0] [aM 0 c])) (fun⟨p,q,b⟩=>?_) (0,0,0)) fun v=>?_;refine bl ?_;refine ig fun e=>?_;refine bl ?_;refine bz (jH (bz lm rfl)) ?_;refine bz (jH rfl) ?_;refine iy ?_;refine bo (dX (S:=Int×Int×Int) (fun⟨f,g,a⟩=>(Q [bO 1 0,aT 3 f,aT 4 g,aT 6 b,bO 7 1,aT 8 a] [aO 1 e,aM 0 c])) (fun|.inl ⟨n,o⟩=>(rq [bO 1 0,(2,bv false),aT 3 n,aT 4 o,aT 6 b] [aO 1 e,aM 0 c])|.inr ⟨x144,x145⟩=>(xq 4 [bO 1 0,aT 3 x144,aT 4 x145,aT 6 b] [aO 1 e,aM 0 c])) (fun⟨f,g,a⟩=>?_) (p,q,0)) fun u=>?_;refine bl ?_;refine ig fun w=>?_;refine bl ?_;refine be ?_ fun y=>?_;refine iy ?_;refine bo rg fun x=>?_;refine bl ?_;rfl;refine iy ?_;refine bo (dX (S:=Int×Int×Int) (fun⟨h,i,j⟩=>(Q [bO 1 0,aT 3 h,aT 4 i,aT 6 b,bO 7 1,aT 8 a,aT 9 j] [aO 1 e,aM 0 c])) (fun|.inl ⟨l,m⟩=>(rq [bO 1 0,(2,bv false),aT 3 l,aT 4 m,aT 6 b,bO 7 1,aT 8 a] [aO 1 e,aM 0 c])|.inr ⟨x139,x140⟩=>(xq 6 [bO 1 0,aT 3 x139,aT 4 x140,aT 6 b,bO 7 1,aT 8 a] [aO 1 e,aM 0 c])) (fun⟨h,i,j⟩=>?_) (f,g,0)) fun t=>?_;refine bo rg fun z=>?_;refine bl ?_;refine ig fun A=>?_;refine bo rg fun r=>?_;refine bo (oA2 d r) fun B=>?_;refine iy ?_;refine bo rg fun C=>?_;refine bo rg fun D=>?_;refine bl ?_;refine bo rg fun E=>?_;refine bo rg fun s=>?_;refine bo (oB2 d s) fun F=>?_;refine bz (jH rfl) ?_;refine io;rcases t with⟨l,m⟩|⟨x139,x140⟩
 rfl;rfl;rcases u with⟨n,o⟩|⟨x144,x145⟩
 rfl;rfl;rcases v with _|_;rfl;refine bl ?_;refine bz (jD (bz lm rfl)) ?_;refine bz (jD (bz lm rfl)) ?_;refine bz (jD (bz lm rfl)) ?_;refine bz (jD rfl) ?_;rfl
def F6 (a:Y0):aB Bool:=
 (F18 a).bind fun b=>(if b then(F19 a).bind fun c=>some c else some false:aB Bool).bind fun d=>some d
def ok6 a:OD k (d+27) 6 [eJ a]=(F6 a).map bv:=oe rfl<|bo (oC2 (d+24) a) fun b=>be (io<|bo (vO1 d a))
def F38 (a:YJ):aB YJ:=
 (iG a.dN).bind fun b=>some {a with dN:=b}
def dS2 a:OD k (d+2) 38 [yU a]=(F38 a).map (fun b=>yU b):=oe rfl<|bo (jS 67 (d+1) 3 _ _ rfl rfl rfl)
def F97 (c:YO):aB YO:=
 (aQ (fun(⟨d,e⟩:Int×(aA YE))=>cT c.aU d (fun f=>(Ud f).bind fun g=>(mK false e [g]).bind fun h=>some (.inl (bN (d+1),h))) (some (.inr e))) cQ (0,[])).bind fun a=>(mK false ([]:aA YU) c.fO).bind fun b=>some (YO.mk a b)
def oD2 (a:YO):OD k (d+3) 97 [gF a]=(F97 a).map (fun j=>gF j):=oe rfl<|by
 refine bl ?_;refine bo (dX (S:=Int×(aA YE)) (fun⟨e,c⟩=>(Q [bO 1 0,bO 2 1,bO 3 2,fF 7 a.aU,bX 8 a.aU,aT 9 e] [(4,.lst 285 4 false (I YU.g [])),(3,.lst 102 13 false (I YE.g c)),(2,.box [.own 3,.own 4]),lU1,bZ 0 a])) (fun(b:aA YE)=>(xq 0 [bO 1 0,bO 2 1,bO 3 2] [(4,.lst 285 4 false (I YU.g [])),(3,.lst 102 13 false (I YE.g b)),(2,.box [.own 3,.own 4]),lU1,bZ 0 a])) (fun⟨e,c⟩=>?_) (0,[])) fun b=>?_;refine ig fun h=>?_;refine bo (sT1 d h) fun i=>?_;refine bo (dA false YE.g c [i]) fun l=>?_;rfl;refine bo (dA false YU.g ([]:aA YU) a.fO) fun f=>?_;rfl
def F64 (c:YW):aB YW:=
 (iG c.iB).bind fun f=>(aQ (fun(⟨d,e⟩:Int×(aA YO))=>cT c.aK d (fun g=>(F97 g).bind fun h=>(mK false e [h]).bind fun a=>some (.inl (bN (d+1),a))) (some (.inr e))) cQ (0,[])).bind fun b=>some (YW.mk f b)
def vP1 a:OD k (d+4) 64 [rB a]=(F64 a).map (fun j=>rB j):=oe rfl<|bo (jS 100 (d+3) 2 _ _ rfl rfl rfl) fun e=>bl<|bo (dX (fun⟨f,c⟩=>(Q [bO 2 1,bO 3 2,dC 11 a.aK,bX 12 a.aK,aT 13 f] [(3,.lst 57 2 false (I YO.g c)),(2,.box [iH e,.own 3]),lU1,cP 0 a])) (fun(b:aA YO)=>(xq 0 [bO 2 1,bO 3 2] [(3,.lst 57 2 false (I YO.g b)),(2,.box [iH e,.own 3]),lU1,cP 0 a])) (fun⟨f,c⟩=>ig fun h=>bo (oD2 d h) fun i=>bo (dA false YO.g c [i])) (0,[]))
def pO1 (c:YM):aB ((aA YT)×(aA YW)):=
 (iG c.fW).bind fun f=>(aQ (fun(⟨d,e⟩:Int×(aA YW))=>cT c.aI d (fun g=>(F64 g).bind fun h=>(mK false e [h]).bind fun a=>some (.inl (bN (d+1),a))) (some (.inr e))) cQ (0,[])).bind fun b=>some (f,b)
def dT2 a:gJ (XD k (d+5)) 39 [dR a] [] 45 true=(pO1 a).map (fun(⟨c,e⟩:(aA YT)×(aA YW))=>(.agg [i64 a.ID.eC,i64 a.ID.bU,i64 a.dE.fJ,i64 a.dE.Unit,i64 a.dE.aX.c0,i64 a.dE.aX.c1,i64 a.dE.aX.c2,i64 a.dE.aX.c3,i64 a.dE.aX.c4,i64 a.dE.aX.c5,i64 a.kP,i64 a.kB,bv a.dK,i64 a.bL,i64 a.bM,i64 a.pK,i64 a.iM,i64 a.nF,i64 a.nP,.v (.string a.dJ),eU c,.own 47],[(47,.lst 61 2 false (I YW.g e))],48)):=by rw[xd (fn:=p39) rfl];exact bo (jS 68 (d+4) 3 _ _ rfl rfl rfl) fun h=>bl<|bo (dX (fun⟨i,f⟩=>(Q [bO 1 45,bO 2 46,bS 13 a.aI,bX 14 a.aI,aT 15 i] [(47,.lst 61 2 false (I YW.g f)),(46,.box [i64 0,i64 0,i64 0,i64 0,i64 0,i64 0,i64 0,i64 0,i64 0,i64 0,i64 0,i64 0,bv false,i64 0,i64 0,i64 0,i64 0,i64 0,i64 0,.v (.string (⟨#[]⟩:ByteArray)),.v (.slice none 0 0),.v (.slice none 0 0)]),(45,.box [i64 a.ID.eC,i64 a.ID.bU,i64 a.dE.fJ,i64 a.dE.Unit,i64 a.dE.aX.c0,i64 a.dE.aX.c1,i64 a.dE.aX.c2,i64 a.dE.aX.c3,i64 a.dE.aX.c4,i64 a.dE.aX.c5,i64 a.kP,i64 a.kB,bv a.dK,i64 a.bL,i64 a.bM,i64 a.pK,i64 a.iM,i64 a.nF,i64 a.nP,.v (.string a.dJ),eU h,.own 47])])) (fun(b:aA YW)=>(xq 0 [bO 1 45,bO 2 46] [(47,.lst 61 2 false (I YW.g b)),(46,.box [i64 0,i64 0,i64 0,i64 0,i64 0,i64 0,i64 0,i64 0,i64 0,i64 0,i64 0,i64 0,bv false,i64 0,i64 0,i64 0,i64 0,i64 0,i64 0,.v (.string (⟨#[]⟩:ByteArray)),.v (.slice none 0 0),.v (.slice none 0 0)]),(45,.box [i64 a.ID.eC,i64 a.ID.bU,i64 a.dE.fJ,i64 a.dE.Unit,i64 a.dE.aX.c0,i64 a.dE.aX.c1,i64 a.dE.aX.c2,i64 a.dE.aX.c3,i64 a.dE.aX.c4,i64 a.dE.aX.c5,i64 a.kP,i64 a.kB,bv a.dK,i64 a.bL,i64 a.bM,i64 a.pK,i64 a.iM,i64 a.nF,i64 a.nP,.v (.string a.dJ),eU h,.own 47])])) (fun⟨i,f⟩=>ig fun j=>bo (vP1 d j) fun l=>bo (dA false YW.g f [l])) (0,[]))
def iF1 (a:Y0):aB ((aA YZ)×(aA YN)×(aA YM)×(aA YJ)):=
 (Qn (a.bQ.length:Int)).bind fun _=>(aQ (fun(⟨n,o⟩:Int×(aA YJ))=>cT a.bQ n (fun p=>(F38 p).bind fun q=>(mK true o [q]).bind fun r=>some (.inl (bN (n+1),r))) (some (.inr o))) cQ (0,[])).bind fun e=>(Qn (a.aE.length:Int)).bind fun _=>(aQ (fun(⟨b,c⟩:Int×(aA YM))=>cT a.aE b (fun d=>(pO1 d).bind fun⟨f,g⟩=>(nV ([{d with fW:=f,aI:=[]}]) 0 (fun h=>{h with aI:=g})).bind fun i=>(mK true c i).bind fun j=>some (.inl (bN (b+1),j))) (some (.inr c))) cQ (0,[])).bind fun k=>(iG a.bD).bind fun l=>(iG a.jV).bind fun m=>some (m,l,k,e)
def tA1 (a:Y0):gJ (XD k (d+6)) 12 [eJ a] [] 40 true=(iF1 a).map (fun(⟨q,r,s,t⟩:(aA YZ)×(aA YN)×(aA YM)×(aA YJ))=>(.agg [.v (.string a.fL),bv a.dT,.own 42,.own 43,.own 44,dH q],[(44,.lst 114 7 true (I YN.g r)),(43,.tr Mw (I YM.g s) []),(42,.lst 109 6 true (I YJ.g t))],45)):=by
 rw[xd (fn:=p12) rfl];refine bl ?_;refine bo (uM _ _) fun _=>?_;refine bl ?_;refine bo (dX (S:=Int×(aA YJ)) (fun⟨w,u⟩=>(Q [bO 1 40,bO 2 41,(3,.own 42),jG 14 a.bQ,bX 15 a.bQ,aT 16 w] [(42,.lst 109 6 true (I YJ.g u)),(41,.box Wy),aM 40 a])) (fun(b:aA YJ)=>(xq 0 [bO 1 40,bO 2 41,(3,.own 42)] [(42,.lst 109 6 true (I YJ.g b)),(41,.box Wy),aM 40 a])) (fun⟨w,u⟩=>?_) (0,[])) fun b=>?_;refine ig fun B=>?_;refine bo (dS2 (d+3) B) fun C=>?_;refine bo (dA true YJ.g u [C]) fun D=>?_;rfl;refine bl ?_;refine bo (uM _ _) fun _=>?_;refine bl ?_;refine bo (dX (S:=Int×(aA YM)) (fun⟨h,e⟩=>(Q [bO 1 40,bO 2 41,(3,.own 42),(6,.own 43),aR 31 a.aE,bX 32 a.aE,aT 33 h] [(43,.tr Mw (I YM.g e) []),(42,.lst 109 6 true (I YJ.g b)),(41,.box Wy),aM 40 a])) (fun(j:aA YM)=>(xq 2 [bO 1 40,bO 2 41,(3,.own 42),(6,.own 43)] [(43,.tr Mw (I YM.g j) []),(42,.lst 109 6 true (I YJ.g b)),(41,.box Wy),aM 40 a])) (fun⟨h,e⟩=>?_) (0,[])) fun j=>?_;refine ig fun i=>?_;refine bo (dT2 d i) fun⟨l,n⟩=>?_;refine bo (jE (A:=YM) (c:=YM.g) (m:=22) (f:=fun o=>{o with aI:=n}) (fun _=>⟨rfl,rfl⟩) (zH2 rfl) ([{i with fW:=l,aI:=[]}]) _) fun p=>?_;refine bo (dA true YM.g e p) fun x=>?_;rfl;refine bo (Qx 40 (d+4) 114 7 _ _ 44 rfl rfl rfl (fun _=>rfl)) fun y=>?_;refine bo (jS 41 (d+5) 2 _ _ rfl rfl rfl) fun z=>?_;rfl
def pP1 (a:YW):aB (aA YO):=
 (mG a.aK 0 1).bind fun b=>some b
def dU2 a:gJ (XD k (d+1)) 37 [.ref 51 0] [cP 51 a] 52 false=(pP1 a).map (fun(b:aA YO)=>(.tup [],[(51,.box [iH a.iB,jF b])],0)):=by rw[xd (fn:=p37) rfl];exact bo (nW _ _ _ _)
def iG1 (v:ByteArray) (w:Bool) (x:aA YZ) (q r:Int) (y:aA YN) (p:aA YM) (z:aA YJ):aB ((aA YW)×(aA YM)×Nat):=
 (gU p q).bind fun s=>(fZ p s).bind fun b=>(gU b.aI r).bind fun g=>(fZ b.aI g).bind fun h=>(F64 h).bind fun d=>(nV p s (fun i=>{i with aI:=b.aI})).bind fun j=>(pP1 d).bind fun k=>(iG j).bind fun c=>(gU c q).bind fun a=>(fZ c a).bind fun l=>(iG l.aI).bind fun e=>(nV c a (fun m=>{m with aI:=[]})).bind fun f=>(fZ f a).bind fun t=>(gU e r).bind fun n=>(nV e n (fun u=>{d with aK:=k})).bind fun o=>some (o,f,a)
def dV2 r u B E F C q D:gJ (XD k (d+5)) 36 [.agg [.v (.string r),bv u,.own 42,.own 43,.own 44,dH B],i64 E,i64 F,.fn 37 [] []] [(44,.lst 114 7 true (I YN.g C)),(43,.tr Mw (I YM.g q) []),(42,.lst 109 6 true (I YJ.g D))] 48 true=(iG1 r u B E F C q D).map (fun(⟨x,y,z⟩:(aA YW)×(aA YM)×Nat)=>(.agg [.v (.string r),bv u,.own 42,.own 43,.own 44,dH B],[(53,.lst 61 2 true (I YW.g x)),(43,.tr Mw (I YM.g y) [(21,z,.own 53)]),(44,.lst 114 7 true (I YN.g C)),(42,.lst 109 6 true (I YJ.g D))],54)):=by rw[xd (fn:=p36) rfl];exact bo (bR YM.g q _) fun M=>bo (cV (A:=YM) (c:=YM.g) (g:=fun a=>kN a.aI) (fun _=>rfl) q _) fun a=>bo (bR YW.g a.aI _) fun G=>bo (lM (A:=YW) (c:=YW.g) (m:=2) (g:=fun b=>[iH b.iB,jF b.aK]) (fun _=>⟨rfl,rfl⟩) (zH2 rfl) a.aI _) fun b=>bo (vP1 d b) fun j=>bo (jE (A:=YM) (c:=YM.g) (m:=22) (f:=fun s=>{s with aI:=a.aI}) (fun _=>⟨rfl,rfl⟩) (zH2 rfl) q _) fun H=>bo (dU2 (d+3) j) fun t=>bo (Qy 65 (d+3) 68 22 _ YM.g _ 52 43 rfl rfl rfl (fun _=>rfl)) fun e=>boE (bR YM.g e _) fun J h=>bo (cV (A:=YM) (c:=YM.g) (g:=fun l=>kN l.aI) (fun _=>rfl) e _) fun l=>bo (Bp 66 (d+3) 61 2 _ _ 53 rfl rfl rfl (fun _=>rfl)) fun n=>bz (ixE (bR YM.g e _) h)<|bz (Gp _)<|boE (jE (A:=YM) (c:=YM.g) (m:=22) (f:=fun w=>{w with aI:=[]}) (fun _=>⟨rfl,rfl⟩) (zH2 rfl) e _) fun o i=>bz (ixE (bR YM.g o _) (ixP h i))<|bo (cV (A:=YM) (c:=YM.g) (g:=fun p=>kN p.aI) (fun _=>rfl) o _) fun p=>bz (Gp _)<|bo (bR YW.g n _) fun K=>bo (jE (A:=YW) (c:=YW.g) (m:=2) (f:=fun L=>{j with aK:=t}) (fun _=>⟨rfl,rfl⟩) (zH2 rfl) n _)
def iH1 (m:YZ) (n:YX) (o p:Int) (q:Bool) (r s:Int) (t u:Int) (j k:Int) (l:ByteArray) (c:aA YT) (d:aA YW):aB ((aA YT)×(aA YW)):=
 (iG c).bind fun e=>(aQ (fun(⟨a,b⟩:Int×(aA YW))=>cT d a (fun f=>(F64 f).bind fun g=>(mK false b [g]).bind fun h=>some (.inl (bN (a+1),h))) (some (.inr b))) cQ (0,[])).bind fun i=>some (e,i)
def pQ1 f a n o p q r s t b c e j h:gJ (XD k (d+5)) 39 [.agg [i64 f.eC,i64 f.bU,i64 a.fJ,i64 a.Unit,i64 a.aX.c0,i64 a.aX.c1,i64 a.aX.c2,i64 a.aX.c3,i64 a.aX.c4,i64 a.aX.c5,i64 n,i64 o,bv p,i64 q,i64 r,i64 s,i64 t,i64 b,i64 c,.v (.string e),eU j,.zs 1 2 (I YW.g h)]] [] 87 true=(iH1 f a n o p q r s t b c e j h).map (fun(⟨y,z⟩:(aA YT)×(aA YW))=>(.agg [i64 f.eC,i64 f.bU,i64 a.fJ,i64 a.Unit,i64 a.aX.c0,i64 a.aX.c1,i64 a.aX.c2,i64 a.aX.c3,i64 a.aX.c4,i64 a.aX.c5,i64 n,i64 o,bv p,i64 q,i64 r,i64 s,i64 t,i64 b,i64 c,.v (.string e),eU y,.own 89],[(89,.lst 61 2 false (I YW.g z))],90)):=by rw[xd (fn:=p39) rfl];exact bo (jS 68 (d+4) 3 _ _ rfl rfl rfl) fun l=>bl<|bo (dX (fun⟨m,i⟩=>(Q [bO 1 87,bO 2 88,(13,.zs 1 2 (I YW.g h)),bX 14 h,aT 15 m] [(89,.lst 61 2 false (I YW.g i)),(88,.box [i64 0,i64 0,i64 0,i64 0,i64 0,i64 0,i64 0,i64 0,i64 0,i64 0,i64 0,i64 0,bv false,i64 0,i64 0,i64 0,i64 0,i64 0,i64 0,.v (.string (⟨#[]⟩:ByteArray)),.v (.slice none 0 0),.v (.slice none 0 0)]),(87,.box [i64 f.eC,i64 f.bU,i64 a.fJ,i64 a.Unit,i64 a.aX.c0,i64 a.aX.c1,i64 a.aX.c2,i64 a.aX.c3,i64 a.aX.c4,i64 a.aX.c5,i64 n,i64 o,bv p,i64 q,i64 r,i64 s,i64 t,i64 b,i64 c,.v (.string e),eU l,.own 89])])) (fun(x:aA YW)=>(xq 0 [bO 1 87,bO 2 88] [(89,.lst 61 2 false (I YW.g x)),(88,.box [i64 0,i64 0,i64 0,i64 0,i64 0,i64 0,i64 0,i64 0,i64 0,i64 0,i64 0,i64 0,bv false,i64 0,i64 0,i64 0,i64 0,i64 0,i64 0,.v (.string (⟨#[]⟩:ByteArray)),.v (.slice none 0 0),.v (.slice none 0 0)]),(87,.box [i64 f.eC,i64 f.bU,i64 a.fJ,i64 a.Unit,i64 a.aX.c0,i64 a.aX.c1,i64 a.aX.c2,i64 a.aX.c3,i64 a.aX.c4,i64 a.aX.c5,i64 n,i64 o,bv p,i64 q,i64 r,i64 s,i64 t,i64 b,i64 c,.v (.string e),eU l,.own 89])])) (fun⟨m,i⟩=>ig fun u=>bo (vP1 d u) fun w=>bo (dA false YW.g i [w])) (0,[]))
def Uk (v:ByteArray) (w:Bool) (r:aA YJ) (s:aA YM) (t:aA YN) (u:aA YZ):aB ((aA YZ)×(aA YN)×(aA YM)×(aA YJ)):=
 (Qn (r.length:Int)).bind fun _=>(aQ (fun(⟨b,c⟩:Int×(aA YJ))=>cT r b (fun f=>(F38 f).bind fun g=>(mK true c [g]).bind fun h=>some (.inl (bN (b+1),h))) (some (.inr c))) cQ (0,[])).bind fun i=>(Qn (s.length:Int)).bind fun _=>(aQ (fun(⟨d,e⟩:Int×(aA YM))=>cT s d (fun a=>(iH1 a.ID a.dE a.kP a.kB a.dK a.bL a.bM a.pK a.iM a.nF a.nP a.dJ a.fW a.aI).bind fun⟨j,k⟩=>(nV ([{a with fW:=j,aI:=[]}]) 0 (fun l=>{l with aI:=k})).bind fun m=>(mK true e m).bind fun n=>some (.inl (bN (d+1),n))) (some (.inr e))) cQ (0,[])).bind fun o=>(iG t).bind fun p=>(iG u).bind fun q=>some (q,p,o,i)
def pR1 (i:ByteArray) (l:Bool) (e:aA YJ) (h:aA YM) (o:aA YN) (p:aA YZ):gJ (XD k (d+6)) 12 [.agg [.v (.string i),bv l,.zs 1 6 (I YJ.g e),.zt 21 22 (I YM.g h),.zs 1 7 (I YN.g o),dH p]] [] 82 true=(Uk i l e h o p).map (fun(⟨B,C,D,E⟩:(aA YZ)×(aA YN)×(aA YM)×(aA YJ))=>(.agg [.v (.string i),bv l,.own 84,.own 85,.own 86,dH B],[(86,.lst 114 7 true (I YN.g C)),(85,.tr Mw (I YM.g D) []),(84,.lst 109 6 true (I YJ.g E))],87)):=by
 rw[xd (fn:=p12) rfl];refine bl ?_;refine bo (uM _ _) fun _=>?_;refine bl ?_;refine bo (dX (S:=Int×(aA YJ)) (fun⟨q,j⟩=>(Q [bO 1 82,bO 2 83,(3,.own 84),(14,.zs 1 6 (I YJ.g e)),bX 15 e,aT 16 q] [(84,.lst 109 6 true (I YJ.g j)),(83,.box Wy),(82,.box [.v (.string i),bv l,.zs 1 6 (I YJ.g e),.zt 21 22 (I YM.g h),.zs 1 7 (I YN.g o),dH p])])) (fun(b:aA YJ)=>(xq 0 [bO 1 82,bO 2 83,(3,.own 84)] [(84,.lst 109 6 true (I YJ.g b)),(83,.box Wy),(82,.box [.v (.string i),bv l,.zs 1 6 (I YJ.g e),.zt 21 22 (I YM.g h),.zs 1 7 (I YN.g o),dH p])])) (fun⟨q,j⟩=>?_) (0,[])) fun b=>?_;refine ig fun t=>?_;refine bo (dS2 (d+3) t) fun u=>?_;refine bo (dA true YJ.g j [u]) fun F=>?_;rfl;refine bl ?_;refine bo (uM _ _) fun _=>?_;refine bl ?_;refine bo (dX (S:=Int×(aA YM)) (fun⟨r,n⟩=>(Q [bO 1 82,bO 2 83,(3,.own 84),(6,.own 85),(31,.zt 21 22 (I YM.g h)),bX 32 h,aT 33 r] [(85,.tr Mw (I YM.g n) []),(84,.lst 109 6 true (I YJ.g b)),(83,.box Wy),(82,.box [.v (.string i),bv l,.zs 1 6 (I YJ.g e),.zt 21 22 (I YM.g h),.zs 1 7 (I YN.g o),dH p])])) (fun(s:aA YM)=>(xq 2 [bO 1 82,bO 2 83,(3,.own 84),(6,.own 85)] [(85,.tr Mw (I YM.g s) []),(84,.lst 109 6 true (I YJ.g b)),(83,.box Wy),(82,.box [.v (.string i),bv l,.zs 1 6 (I YJ.g e),.zt 21 22 (I YM.g h),.zs 1 7 (I YN.g o),dH p])])) (fun⟨r,n⟩=>?_) (0,[])) fun s=>?_;refine ig fun a=>?_;refine bo (pQ1 d a.ID a.dE a.kP a.kB a.dK a.bL a.bM a.pK a.iM a.nF a.nP a.dJ a.fW a.aI) fun⟨w,x⟩=>?_;refine bo (jE (A:=YM) (c:=YM.g) (m:=22) (f:=fun y=>{y with aI:=x}) (fun _=>⟨rfl,rfl⟩) (zH2 rfl) ([{a with fW:=w,aI:=[]}]) _) fun z=>?_;refine bo (dA true YM.g n z) fun G=>?_;rfl;refine bo (Bp 40 (d+4) 114 7 _ _ 86 rfl rfl rfl (fun _=>rfl)) fun H=>?_;refine bo (jS 41 (d+5) 2 _ _ rfl rfl rfl) fun J=>?_;rfl
def iI1 (a:ByteArray) (b:Bool) (c:aA YJ) (d:aA YM) (e:aA YZ) (f:aA YN):aB Unit:=
 some ()
def pS1 a b c e f h:gJ (XD k (d+1)) 42 [.ref 87 0] [(87,.box [.v (.string a),bv b,.zs 1 6 (I YJ.g c),.zt 21 22 (I YM.g e),.own 86,dH f]),(86,.lst 114 7 true (I YN.g h))] 90 true=(iI1 a b c e f h).map (fun(_:Unit)=>(.fn 69 [] [.ref 90 0],[(90,.box [.ref 87 0]),(87,.box [.v (.string a),bv b,.zs 1 6 (I YJ.g c),.zt 21 22 (I YM.g e),.own 86,dH f]),(86,.lst 114 7 true (I YN.g h))],91)):=by rw[xd (fn:=p42) rfl];exact rfl
def Xk (c j:Int) (k l:Int) (m n:Int) (o h i:Int) (d:ByteArray) (e f:Int) (g:aA YF) (a:aA (YZ×Bool)):aB (aA (YZ×Bool)):=
 (if c==4 then some (tS a (YZ.mk h i) true)else some a:aB (aA (YZ×Bool))).bind fun b=>some b
def iJ1 i m n o p q r s t b c f h a:vD (XD k (d+1)) 91 [.agg [i64 i,i64 m,i64 n,i64 o,i64 p,i64 q,i64 r],.zp [i64 s,i64 t,.v (.string b),i64 c,i64 f,uN h]] [Bt,(89,.box [.map 88]),(88,.mp (I (dL (eA YZ.g) bv) a))] 92=(Xk i m n o p q r s t b c f h a).map (fun(l:aA (YZ×Bool))=>(bv true,[Bt,(89,.box [.map 88]),(88,.mp (I (dL (eA YZ.g) bv) l))],0)):=by rw[yd];exact bz (Tv qZ)<|bo (e:=(fun(j:aA (YZ×Bool))=>(nq [] [(92,.box [i64 i,i64 m,i64 n,i64 o,i64 p,i64 q,i64 r]),zQ4,(89,.box [.map 88]),(88,.mp (I (dL (eA YZ.g) bv) j))]))) (io<|bz (iV mI bv a (YZ.mk s t) true))
def Jr (c e:Int) (f g:Int) (h i j:Int) (d:YF) (b:aA (YZ×Bool)):aB (aA (YZ×Bool)):=
 (if c==4 then some (tS b d.ID true)else some b:aB (aA (YZ×Bool))).bind fun a=>some a
def Ul a f h i j l m n o:vD (XD k (d+1)) 91 [.agg [i64 a,i64 f,i64 h,i64 i,i64 j,i64 l,i64 m],Ap n] [Bt,(89,.box [.map 88]),(88,.mp (I (dL (eA YZ.g) bv) o))] 92=(Jr a f h i j l m n o).map (fun(c:aA (YZ×Bool))=>(bv true,[Bt,(89,.box [.map 88]),(88,.mp (I (dL (eA YZ.g) bv) c))],0)):=by rw[yd];exact bz (Tv qZ)<|bo (e:=(fun(b:aA (YZ×Bool))=>(nq [] [(92,.box [i64 a,i64 f,i64 h,i64 i,i64 j,i64 l,i64 m]),zQ4,(89,.box [.map 88]),(88,.mp (I (dL (eA YZ.g) bv) b))]))) (io<|bz (iV mI bv o n.ID true))
def Js (c z:Int) (A B:Int) (C D:Int) (E x:Int) (y d:Int) (e f:Int) (g h:Int) (i j:Int) (k l m:Int) (n:Bool) (o p:Int) (q r:Int) (s t:Int) (u:ByteArray) (v:aA YT) (w:aA YW) (a:aA (YZ×Bool)):aB (aA (YZ×Bool)):=
 (if c==4 then some (tS a (YZ.mk x y) true)else some a:aB (aA (YZ×Bool))).bind fun b=>some b
def Um A B C F G H J K L b c f h i j l m n o p q r s t u w x y z a:vD (XD k (d+1)) 91 [.agg [i64 A,i64 B,i64 C,i64 F,i64 G,i64 H,i64 J],.zp [i64 K,i64 L,i64 b,i64 c,i64 f,i64 h,i64 i,i64 j,i64 l,i64 m,i64 n,i64 o,bv p,i64 q,i64 r,i64 s,i64 t,i64 u,i64 w,.v (.string x),eU y,.zs 1 2 (I YW.g z)]] [Bt,(89,.box [.map 88]),(88,.mp (I (dL (eA YZ.g) bv) a))] 92=(Js A B C F G H J K L b c f h i j l m n o p q r s t u w x y z a).map (fun(E:aA (YZ×Bool))=>(bv true,[Bt,(89,.box [.map 88]),(88,.mp (I (dL (eA YZ.g) bv) E))],0)):=by rw[yd];exact bz (Tv qZ)<|bo (e:=(fun(D:aA (YZ×Bool))=>(nq [] [(92,.box [i64 A,i64 B,i64 C,i64 F,i64 G,i64 H,i64 J]),zQ4,(89,.box [.map 88]),(88,.mp (I (dL (eA YZ.g) bv) D))]))) (io<|bz (iV mI bv a (YZ.mk K L) true))
def Jt (c e:Int) (f g:Int) (h i j:Int) (d:YE) (b:aA (YZ×Bool)):aB (aA (YZ×Bool)):=
 (if c==4 then some (tS b d.ID true)else some b:aB (aA (YZ×Bool))).bind fun a=>some a
def Un a f h i j l m n o:vD (XD k (d+1)) 91 [.agg [i64 a,i64 f,i64 h,i64 i,i64 j,i64 l,i64 m],Ao n] [Bt,(89,.box [.map 88]),(88,.mp (I (dL (eA YZ.g) bv) o))] 92=(Jt a f h i j l m n o).map (fun(c:aA (YZ×Bool))=>(bv true,[Bt,(89,.box [.map 88]),(88,.mp (I (dL (eA YZ.g) bv) c))],0)):=by rw[yd];exact bz (Tv qZ)<|bo (e:=(fun(b:aA (YZ×Bool))=>(nq [] [(92,.box [i64 a,i64 f,i64 h,i64 i,i64 j,i64 l,i64 m]),zQ4,(89,.box [.map 88]),(88,.mp (I (dL (eA YZ.g) bv) b))]))) (io<|bz (iV mI bv o n.ID true))
def Ju (d g:Int) (h i:Int) (j k l:Int) (e:Nat) (f:aA YN) (a:aA (YZ×Bool)):aB (aA (YZ×Bool)):=
 (if d==4 then(fZ f e).bind fun b=>some (tS a b.ID true)else some a:aB (aA (YZ×Bool))).bind fun c=>some c
def Uo h l n o p q r s f b:vD (XD k (d+1)) 91 [.agg [i64 h,i64 l,i64 n,i64 o,i64 p,i64 q,i64 r],.el 86 s 0] [Bt,(86,.lst 4294967410 7 true (I YN.g f)),(89,.box [.map 88]),(88,.mp (I (dL (eA YZ.g) bv) b))] 92=(Ju h l n o p q r s f b).map (fun(j:aA (YZ×Bool))=>(bv true,[Bt,(86,.lst 4294967410 7 true (I YN.g f)),(89,.box [.map 88]),(88,.mp (I (dL (eA YZ.g) bv) j))],0)):=by rw[yd];exact bz (Tv qZ)<|bo (e:=(fun(i:aA (YZ×Bool))=>(nq [] [(92,.box [i64 h,i64 l,i64 n,i64 o,i64 p,i64 q,i64 r]),zQ4,(86,.lst 4294967410 7 true (I YN.g f)),(89,.box [.map 88]),(88,.mp (I (dL (eA YZ.g) bv) i))]))) (io<|bo (lM (A:=YN) (c:=YN.g) (m:=7) (g:=fun a=>[i64 a.ID.eC,i64 a.ID.bU]) (fun _=>⟨rfl,rfl⟩) (zH2 rfl) f _) fun a=>bz (iV mI bv b a.ID true))
def Mn (Z:ByteArray) (x2:Bool) (P:aA YJ) (L:aA YM) (x5:aA YZ) (X:aA YN) (Y:aA (YZ×Bool)):aB (aA (YZ×Bool)):=
 (aQ (fun(⟨M,h,J⟩:Int×Int×(aA (YZ×Bool)))=>cT P h (fun g=>(Xk 1 h 0 0 0 0 0 g.ID.eC g.ID.bU g.vG g.gG.nO g.gG.fK g.dN J).bind fun N=>(bE P h).bind fun O=>(aQ (fun(⟨n,o,K⟩:Int×Int×(aA (YZ×Bool)))=>if decide (o<(O.dN.length:Int))then(bE P h).bind fun R=>(bE R.dN o).bind fun S=>(Jr 2 0 n 0 0 0 0 S K).bind fun T=>some (.inl (bN (n+1),bN (o+1),T))else some (.inr (n,K))) cQ (M,0,N)).bind fun⟨U,V⟩=>some (.inl (U,bN (h+1),V))) (some (.inr J))) cQ (0,0,Y)).bind fun W=>(aQ (fun(⟨b,i⟩:Int×(aA (YZ×Bool)))=>cT L b (fun a=>(Js 3 0 0 b 0 0 0 a.ID.eC a.ID.bU a.dE.fJ a.dE.Unit a.dE.aX.c0 a.dE.aX.c1 a.dE.aX.c2 a.dE.aX.c3 a.dE.aX.c4 a.dE.aX.c5 a.kP a.kB a.dK a.bL a.bM a.pK a.iM a.nF a.nP a.dJ a.fW a.aI i).bind fun p=>(bE L b).bind fun q=>(aQ (fun(⟨c,j⟩:Int×(aA (YZ×Bool)))=>if decide (c<(q.aI.length:Int))then(bE L b).bind fun r=>(bE r.aI c).bind fun s=>(aQ (fun(⟨d,k⟩:Int×(aA (YZ×Bool)))=>if decide (d<(s.aK.length:Int))then(bE L b).bind fun t=>(bE t.aI c).bind fun u=>(bE u.aK d).bind fun v=>(aQ (fun(⟨e,l⟩:Int×(aA (YZ×Bool)))=>if decide (e<(v.aU.length:Int))then(bE L b).bind fun w=>(bE w.aI c).bind fun x=>(bE x.aK d).bind fun y=>(bE y.aU e).bind fun z=>(Jt 4 0 c b d e 0 z l).bind fun A=>some (.inl (bN (e+1),A))else some (.inr l)) cQ (0,k)).bind fun B=>some (.inl (bN (d+1),B))else some (.inr k)) cQ (0,j)).bind fun C=>some (.inl (bN (c+1),C))else some (.inr j)) cQ (0,p)).bind fun D=>some (.inl (bN (b+1),D))) (some (.inr i))) cQ (0,W)).bind fun E=>(aQ (fun(⟨f,m⟩:Int×(aA (YZ×Bool)))=>if decide (f<(X.length:Int))then(gU X f).bind fun F=>(Ju 5 0 0 0 0 0 f F X m).bind fun G=>some (.inl (bN (f+1),G))else some (.inr m)) cQ (0,E)).bind fun H=>some H
def pT1 (j:ByteArray) (m:Bool) (i:aA YJ) (e:aA YM) (n:aA YZ) (f:aA YN) (X:aA (YZ×Bool)):gJ (XD k (d+2)) 69 [.yld 91,.ref 90 0] [Bt,(90,.box [.ref 87 0]),(87,.box [.v (.string j),bv m,.zs 1 6 (I YJ.g i),.zt 21 22 (I YM.g e),.own 86,dH n]),(86,.lst 114 7 true (I YN.g f)),(89,.box [.map 88]),(88,.mp (I (dL (eA YZ.g) bv) X))] 92 false=(Mn j m i e n f X).map (fun(O:aA (YZ×Bool))=>(.tup [],[Bt,(90,.box [.ref 87 0]),(87,.box [.v (.string j),bv m,.zs 1 6 (I YJ.g i),.zt 21 22 (I YM.g e),.own 86,dH n]),(86,.lst 114 7 true (I YN.g f)),(89,.box [.map 88]),(88,.mp (I (dL (eA YZ.g) bv) O))],0)):=by
 rw[xd (fn:=p69) rfl];refine bl ?_;refine bo (dX (S:=Int×Int×(aA (YZ×Bool))) (fun⟨E,o,F⟩=>(Q [(0,.yld 91),bO 1 90,aT 3 E,bX 15 i,aT 16 o] [Bt,(90,.box [.ref 87 0]),(87,.box [.v (.string j),bv m,.zs 1 6 (I YJ.g i),.zt 21 22 (I YM.g e),.own 86,dH n]),(86,.lst 114 7 true (I YN.g f)),(89,.box [.map 88]),(88,.mp (I (dL (eA YZ.g) bv) F))])) (fun(J:aA (YZ×Bool))=>(xq 0 [(0,.yld 91),bO 1 90] [Bt,(90,.box [.ref 87 0]),(87,.box [.v (.string j),bv m,.zs 1 6 (I YJ.g i),.zt 21 22 (I YM.g e),.own 86,dH n]),(86,.lst 114 7 true (I YN.g f)),(89,.box [.map 88]),(88,.mp (I (dL (eA YZ.g) bv) J))])) (fun⟨E,o,F⟩=>?_) (0,0,X)) fun J=>?_;refine ig fun p=>?_;refine bo (iJ1 d 1 o 0 0 0 0 0 p.ID.eC p.ID.bU p.vG p.gG.nO p.gG.fK p.dN F) fun U=>?_;refine bo rg fun V=>?_;refine bl ?_;refine bo (dX (S:=Int×Int×(aA (YZ×Bool))) (fun⟨G,P,H⟩=>(Q [(0,.yld 91),bO 1 90,aT 3 G,aT 4 o,bX 15 i,aT 16 o,bX 39 V.dN,aT 40 P] [Bt,(89,.box [.map 88]),(88,.mp (I (dL (eA YZ.g) bv) H)),(90,.box [.ref 87 0]),(87,.box [.v (.string j),bv m,.zs 1 6 (I YJ.g i),.zt 21 22 (I YM.g e),.own 86,dH n]),(86,.lst 114 7 true (I YN.g f))])) (fun(⟨R,T⟩:Int×(aA (YZ×Bool)))=>(xq 2 [(0,.yld 91),bO 1 90,aT 3 R,bX 15 i,aT 16 o] [Bt,(89,.box [.map 88]),(88,.mp (I (dL (eA YZ.g) bv) T)),(90,.box [.ref 87 0]),(87,.box [.v (.string j),bv m,.zs 1 6 (I YJ.g i),.zt 21 22 (I YM.g e),.own 86,dH n]),(86,.lst 114 7 true (I YN.g f))])) (fun⟨G,P,H⟩=>?_) (E,0,U)) fun⟨R,T⟩=>?_;refine ig fun b8=>?_;refine bo rg fun W=>?_;refine bo (Ul d 2 0 G 0 0 0 0 W H) fun b9=>?_;rfl;rfl;refine bl ?_;refine bo (dX (S:=Int×(aA (YZ×Bool))) (fun⟨b,q⟩=>(Q [(0,.yld 91),bO 1 90,bX 67 e,aT 68 b] [Bt,(90,.box [.ref 87 0]),(87,.box [.v (.string j),bv m,.zs 1 6 (I YJ.g i),.zt 21 22 (I YM.g e),.own 86,dH n]),(86,.lst 114 7 true (I YN.g f)),(89,.box [.map 88]),(88,.mp (I (dL (eA YZ.g) bv) q))])) (fun(x:aA (YZ×Bool))=>(xq 4 [(0,.yld 91),bO 1 90] [Bt,(90,.box [.ref 87 0]),(87,.box [.v (.string j),bv m,.zs 1 6 (I YJ.g i),.zt 21 22 (I YM.g e),.own 86,dH n]),(86,.lst 114 7 true (I YN.g f)),(89,.box [.map 88]),(88,.mp (I (dL (eA YZ.g) bv) x))])) (fun⟨b,q⟩=>?_) (0,J)) fun x=>?_;refine ig fun a=>?_;refine bo (Um d 3 0 0 b 0 0 0 a.ID.eC a.ID.bU a.dE.fJ a.dE.Unit a.dE.aX.c0 a.dE.aX.c1 a.dE.aX.c2 a.dE.aX.c3 a.dE.aX.c4 a.dE.aX.c5 a.kP a.kB a.dK a.bL a.bM a.pK a.iM a.nF a.nP a.dJ a.fW a.aI q) fun K=>?_;refine bo rg fun l=>?_;refine bl ?_;refine bo (dX (S:=Int×(aA (YZ×Bool))) (fun⟨c,r⟩=>(Q [(0,.yld 91),bO 1 90,aT 6 b,bX 67 e,aT 68 b,bX 91 l.aI,aT 92 c] [Bt,(89,.box [.map 88]),(88,.mp (I (dL (eA YZ.g) bv) r)),(90,.box [.ref 87 0]),(87,.box [.v (.string j),bv m,.zs 1 6 (I YJ.g i),.zt 21 22 (I YM.g e),.own 86,dH n]),(86,.lst 114 7 true (I YN.g f))])) (fun(C:aA (YZ×Bool))=>(xq 6 [(0,.yld 91),bO 1 90,bX 67 e,aT 68 b] [Bt,(89,.box [.map 88]),(88,.mp (I (dL (eA YZ.g) bv) C)),(90,.box [.ref 87 0]),(87,.box [.v (.string j),bv m,.zs 1 6 (I YJ.g i),.zt 21 22 (I YM.g e),.own 86,dH n]),(86,.lst 114 7 true (I YN.g f))])) (fun⟨c,r⟩=>?_) (0,K)) fun C=>?_;refine ig fun Y=>?_;refine bo rg fun s=>?_;refine bl ?_;refine bo (dX (S:=Int×(aA (YZ×Bool))) (fun⟨h,t⟩=>(Q [(0,.yld 91),bO 1 90,aT 6 b,aT 7 c,bX 67 e,aT 68 b,bX 91 l.aI,aT 92 c,bX 107 s.aK,aT 108 h] [Bt,(89,.box [.map 88]),(88,.mp (I (dL (eA YZ.g) bv) t)),(90,.box [.ref 87 0]),(87,.box [.v (.string j),bv m,.zs 1 6 (I YJ.g i),.zt 21 22 (I YM.g e),.own 86,dH n]),(86,.lst 114 7 true (I YN.g f))])) (fun(B:aA (YZ×Bool))=>(xq 8 [(0,.yld 91),bO 1 90,aT 6 b,bX 67 e,aT 68 b,bX 91 l.aI,aT 92 c] [Bt,(89,.box [.map 88]),(88,.mp (I (dL (eA YZ.g) bv) B)),(90,.box [.ref 87 0]),(87,.box [.v (.string j),bv m,.zs 1 6 (I YJ.g i),.zt 21 22 (I YM.g e),.own 86,dH n]),(86,.lst 114 7 true (I YN.g f))])) (fun⟨h,t⟩=>?_) (0,r)) fun B=>?_;refine ig fun Z=>?_;refine bo rg fun a0=>?_;refine bo rg fun L=>?_;refine bl ?_;refine bo (dX (S:=Int×(aA (YZ×Bool))) (fun⟨u,w⟩=>(Q [(0,.yld 91),bO 1 90,aT 6 b,aT 7 c,aT 8 h,bX 67 e,aT 68 b,bX 91 l.aI,aT 92 c,bX 107 s.aK,aT 108 h,bX 127 L.aU,aT 128 u] [Bt,(89,.box [.map 88]),(88,.mp (I (dL (eA YZ.g) bv) w)),(90,.box [.ref 87 0]),(87,.box [.v (.string j),bv m,.zs 1 6 (I YJ.g i),.zt 21 22 (I YM.g e),.own 86,dH n]),(86,.lst 114 7 true (I YN.g f))])) (fun(A:aA (YZ×Bool))=>(xq 10 [(0,.yld 91),bO 1 90,aT 6 b,aT 7 c,bX 67 e,aT 68 b,bX 91 l.aI,aT 92 c,bX 107 s.aK,aT 108 h] [Bt,(89,.box [.map 88]),(88,.mp (I (dL (eA YZ.g) bv) A)),(90,.box [.ref 87 0]),(87,.box [.v (.string j),bv m,.zs 1 6 (I YJ.g i),.zt 21 22 (I YM.g e),.own 86,dH n]),(86,.lst 114 7 true (I YN.g f))])) (fun⟨u,w⟩=>?_) (0,t)) fun A=>?_;refine ig fun b0=>?_;refine bo rg fun b4=>?_;refine bo rg fun b5=>?_;refine bo rg fun M=>?_;refine bo (Un d 4 0 c b h u 0 M w) fun b6=>?_;rfl;rfl;rfl;rfl;refine bz (eP YN.g f) ?_;refine bo (dX (S:=Int×(aA (YZ×Bool))) (fun⟨y,z⟩=>(Q [(0,.yld 91),bO 1 90,bX 166 f,aT 167 y] [Bt,(90,.box [.ref 87 0]),(87,.box [.v (.string j),bv m,.zs 1 6 (I YJ.g i),.zt 21 22 (I YM.g e),.own 86,dH n]),(86,.lst 114 7 true (I YN.g f)),(89,.box [.map 88]),(88,.mp (I (dL (eA YZ.g) bv) z))])) (fun(D:aA (YZ×Bool))=>(xq 12 [] [Bt,(90,.box [.ref 87 0]),(87,.box [.v (.string j),bv m,.zs 1 6 (I YJ.g i),.zt 21 22 (I YM.g e),.own 86,dH n]),(86,.lst 114 7 true (I YN.g f)),(89,.box [.map 88]),(88,.mp (I (dL (eA YZ.g) bv) D))])) (fun⟨y,z⟩=>?_) (0,x)) fun D=>?_;refine io ?_;refine bo (bR YN.g f _) fun N=>?_;refine bo (Uo d 5 0 0 0 0 0 y N f z) fun b7=>?_;rfl;rfl
def F51 (a:YN) (b:aA (YZ×Bool)):aB Bool:=
 some ((!(sR b a.gV false))||(!(sR b a.To false)))
def dW2 a b:OD k (d+1) 51 [Rb a,.ip [.im (I (dL (eA YZ.g) bv) b)]]=(F51 a b).map bv:=oe rfl<|bz (pE mI bv b a.gV false)<|bz (jH (bz (pE mI bv b a.To false) rfl))
def F74 (b:aA YN) (c:aA (YZ×Bool)):aB Int:=
 (aQ (E:=Int⊕Unit) (fun(a:Int)=>cT b a (fun d=>(F51 d c).bind fun e=>if e then some (.inr (.inl a))else some (.inl (bN (a+1)))) (some (.inr (.inr ())))) cQ 0).bind fun f=>(match f with|.inl x8=>some x8|.inr _=>some (-1))
def oF2 a b:OD k (d+2) 74 [pR a,.fn 51 [] [.ip [.im (I (dL (eA YZ.g) bv) b)]]]=(F74 a b).map i64:=oe rfl<|bl<|bo (dX (fun c=>(Q [iR 0 a,(1,.fn 51 [] [.ip [.im (I (dL (eA YZ.g) bv) b)]]),bX 7 a,aT 8 c] [])) (Tx 4) (fun c=>ig fun e=>bo (dW2 d e b) fun f=>io) 0) fun|.inl h=>rfl|.inr _=>rfl
def pU1 (f:aA YN) (q:aA (YZ×Bool)):aB (aA YN):=
 (F74 f q).bind fun p=>if p==(-1)then some f else(aQ (fun(⟨b,c,a⟩:Int×Int×(aA YN))=>if decide (c<(a.length:Int))then(gU a c).bind fun g=>(fZ a g).bind fun d=>(F51 d q).bind fun h=>(if !h then(gU a b).bind fun i=>(nV a i (fun r=>d)).bind fun j=>some (bN (b+1),j)else some (b,a):aB (Int×(aA YN))).bind fun⟨k,l⟩=>some (.inl (k,bN (c+1),l))else some (.inr (b,a))) cQ (p,bN (p+1),f)).bind fun⟨e,m⟩=>(lK1 m e (YN.mk (YZ.mk 0 0) 0 (YZ.mk 0 0) (YZ.mk 0 0))).bind fun n=>(Ak n e).bind fun o=>some o
def dX2 (q:aA YN) (h:aA (YZ×Bool)):gJ (XD k (d+3)) 50 [.own 86,.fn 51 [] [.ref 89 0]] [(86,.lst 114 7 true (I YN.g q)),(89,.box [.map 88]),(88,.mp (I (dL (eA YZ.g) bv) h))] 90 false=(pU1 q h).map (fun(s:aA YN)=>(.own 86,[(86,.lst 114 7 true (I YN.g s)),(89,.box [.map 88]),(88,.mp (I (dL (eA YZ.g) bv) h))],0)):=by
 rw[xd (fn:=p50) rfl];refine bo (oF2 d q h) fun t=>?_;refine iy ?_;refine bo (dX (S:=Int×Int×(aA YN)) (fun⟨l,i,b⟩=>(Q [(0,.own 86),(1,.fn 51 [] [.ref 89 0]),aT 5 l,aT 6 i] [(86,.lst 114 7 true (I YN.g b)),(89,.box [.map 88]),(88,.mp (I (dL (eA YZ.g) bv) h))])) (fun(⟨j,p⟩:Int×(aA YN))=>(xq 0 [(0,.own 86),aT 5 j] [(86,.lst 114 7 true (I YN.g p)),(89,.box [.map 88]),(88,.mp (I (dL (eA YZ.g) bv) h))])) (fun⟨l,i,b⟩=>?_) (t,bN (t+1),q)) fun⟨j,p⟩=>?_;refine bz (eP YN.g b) ?_;refine io ?_;refine bo (bR YN.g b _) fun u=>?_;refine bo (lM (A:=YN) (c:=YN.g) (m:=7) (g:=fun a=>[i64 a.ID.eC,i64 a.ID.bU,i64 a.eM,i64 a.gV.eC,i64 a.gV.bU,i64 a.To.eC,i64 a.To.bU]) (fun _=>⟨rfl,rfl⟩) (zH2 rfl) b _) fun a=>?_;refine bo (dW2 (d+1) a h) fun v=>?_;refine bo (e:=(fun(⟨n,o⟩:Int×(aA YN))=>(nq [(0,.own 86),(1,.fn 51 [] [.ref 89 0]),aT 5 n,aT 6 i] [sH 90 a,(86,.lst 114 7 true (I YN.g o)),(89,.box [.map 88]),(88,.mp (I (dL (eA YZ.g) bv) h))]))) ?_ fun⟨n,o⟩=>?_;refine io ?_;refine bo (bR YN.g b _) fun w=>?_;refine bo (jE (A:=YN) (c:=YN.g) (m:=7) (f:=fun x=>a) (fun _=>⟨rfl,rfl⟩) (zH2 rfl) b _) fun y=>?_;rfl;rfl;refine bo (Qo YN.g _ _ (YN.mk (YZ.mk 0 0) 0 (YZ.mk 0 0) (YZ.mk 0 0))) fun r=>?_;refine bo (vN YN.g r j) fun z=>?_;rfl
end Go.P
namespace Go.P
open Go.Sim (Ex gC CK)
open K (I Q rq nq xq ck)
variable {k:Bool} (d:Nat)
def aH1 (b:ByteArray) (e:Bool) (i:aA YJ) (j:aA YM) (k:aA YN) (l:aA YZ):aB ((aA YJ)×(aA YM)×(aA YZ)×(aA YN)):=
 (Uk b e i j k l).bind fun⟨f,g,h,a⟩=>(iI1 b e a h f g).bind fun _=>(Mn b e a h f g []).bind fun c=>(pU1 g c).bind fun d=>some (a,h,f,d)
def tB1 a b l m n o:gJ (XD k (d+7)) 16 [.agg [.v (.string a),bv b,.zs 1 6 (I YJ.g l),.zt 21 22 (I YM.g m),.zs 1 7 (I YN.g n),dH o]] [] 80 true=(aH1 a b l m n o).map (fun(⟨f,h,i,j⟩:(aA YJ)×(aA YM)×(aA YZ)×(aA YN))=>(.agg [.v (.string a),bv b,.zs 1 6 (I YJ.g f),.zt 21 22 (I YM.g h),.own 86,dH i],[(86,.lst 114 7 true (I YN.g j))],92)):=by rw[xd (fn:=p16) rfl];exact bo (pR1 d a b l m n o) fun⟨q,p,r,c⟩=>bo (pS1 (d+5) a b c r q p) fun _=>bo (pT1 (d+4) a b c r q p []) fun e=>bo (dX2 (d+3) p e)
def F11 (c:Y0) (z:aA YZ):aB (Y0×Int):=
 (F19 c).bind fun D=>if !D then some ((Y0.mk (⟨#[]⟩:ByteArray) false [] [] [] []),24)else(aQ (fun(⟨A,B⟩:Int×(aA (YZ×Bool)))=>cT z A (fun F=>some (.inl (bN (A+1),tS B F true))) (some (.inr B))) cQ (0,[])).bind fun G=>(iF1 c).bind fun⟨C,d,h,e⟩=>(aQ (E:=(Int×(aA YM))⊕(aA YM)) (fun(⟨f,b⟩:Int×(aA YM))=>cT z f (fun i=>(F13 c i).bind fun⟨a,j⟩=>if(!j)||(a.eM !=4)then some (.inr (.inl (8,b)))else if a.fU !=1 then some (.inr (.inl (10,b)))else(bE c.aE a.bV).bind fun k=>(bE k.aI a.eW).bind fun l=>(bE l.aK 1).bind fun m=>(aQ (E:=Unit⊕Unit) (fun(g:Int)=>cT m.aU g (fun n=>if !(sR G n.ID false)then some (.inr (.inl ()))else some (.inl (bN (g+1)))) (some (.inr (.inr ())))) cQ 0).bind fun o=>(match o with|.inl _=>some (.inr (.inl (10,b)))|.inr _=>(iG1 c.fL c.dT C a.bV a.eW d b e).bind fun⟨p,q,r⟩=>(nV q r (fun s=>{s with aI:=p})).bind fun t=>some (.inl (bN (f+1),t)))) (some (.inr (.inr b)))) cQ (0,h)).bind fun u=>(match u with|.inl ⟨x45,x46⟩=>some ((Y0.mk (⟨#[]⟩:ByteArray) false [] [] [] []),x45)|.inr x47=>(aH1 c.fL c.dT e x47 d C).bind fun⟨v,w,x,y⟩=>some (Y0.mk c.fL c.dT v w y x,0))
def oG2 (a:Y0) (i:aA YZ):OD k (d+27) 11 [eJ a,dH i]=(F11 a i).map (fun⟨R,T⟩=>.tup [eJ R,i64 T]):=oe rfl<|by
 refine bo (vO1 d a) fun U=>?_;refine iy ?_;refine bl ?_;refine bo (dX (S:=Int×(aA (YZ×Bool))) (fun⟨E,D⟩=>(Q [iZ 1 i,bO 2 0,bO 4 1,(6,.map 2),iZ 21 i,bX 22 i,aT 23 E] [(2,.mp (I (dL (eA YZ.g) bv) D)),(1,.box Wy),aM 0 a])) (fun(o:aA (YZ×Bool))=>(xq 0 [iZ 1 i,bO 2 0,bO 4 1,(6,.map 2)] [(2,.mp (I (dL (eA YZ.g) bv) o)),(1,.box Wy),aM 0 a])) (fun⟨E,D⟩=>?_) (0,[])) fun o=>?_;refine ig fun P=>?_;refine bz (iV mI bv D P true) ?_;rfl;refine bo (tA1 (d+20) a) fun⟨p,b,u,e⟩=>?_;refine bl ?_;refine bo (dX (S:=Int×(aA YM)) (fun⟨l,h⟩=>(Q [bO 2 0,bO 4 1,(6,.map 2),bO 9 45,iZ 32 i,bX 33 i,aT 34 l] [(45,.box [.v (.string a.fL),bv a.dT,.own 42,.own 43,.own 44,dH p]),(44,.lst 114 7 true (I YN.g b)),(43,.tr Mw (I YM.g h) []),(42,.lst 109 6 true (I YJ.g e)),(2,.mp (I (dL (eA YZ.g) bv) o)),(1,.box Wy),aM 0 a])) (fun|.inl ⟨s,t⟩=>(rq [bO 4 1,aT 5 s] [vF1,(44,.lst 114 7 true (I YN.g b)),(43,.tr Mw (I YM.g t) []),(42,.lst 109 6 true (I YJ.g e)),(2,.mp (I (dL (eA YZ.g) bv) o)),(1,.box [.v (.string (⟨#[]⟩:ByteArray)),bv false,.is 6 (I YJ.g []),.is 22 (I YM.g []),.is 7 (I YN.g []),.is 2 (I YZ.g [])]),aM 0 a])|.inr x47=>(xq 2 [bO 4 1,bO 9 45] [(45,.box [.v (.string a.fL),bv a.dT,.own 42,.own 43,.own 44,dH p]),(44,.lst 114 7 true (I YN.g b)),(43,.tr Mw (I YM.g x47) []),(42,.lst 109 6 true (I YJ.g e)),(2,.mp (I (dL (eA YZ.g) bv) o)),(1,.box Wy),aM 0 a])) (fun⟨l,h⟩=>?_) (0,u)) fun C=>?_;refine ig fun n=>?_;refine bo (vM1 (d+23) a n) fun⟨j,F⟩=>?_;refine bz (jH rfl) ?_;refine iy ?_;refine iy ?_;refine bo rg fun G=>?_;refine bo rg fun H=>?_;refine bo rg fun q=>?_;refine bl ?_;refine bo (dX (fun r=>(Q [bO 2 0,bO 4 1,(6,.map 2),bO 9 45,bO 12 47,iZ 32 i,bX 33 i,aT 34 l,fF 70 q.aU,bX 71 q.aU,aT 72 r] [aV 47 j,cN 46 n,(45,.box [.v (.string a.fL),bv a.dT,.own 42,.own 43,.own 44,dH p]),(44,.lst 114 7 true (I YN.g b)),(43,.tr Mw (I YM.g h) []),(42,.lst 109 6 true (I YJ.g e)),(2,.mp (I (dL (eA YZ.g) bv) o)),(1,.box Wy),aM 0 a])) (fun|.inl _=>(rq [bO 4 1,aT 5 10] [aV 47 j,cN 46 n,vF1,(44,.lst 114 7 true (I YN.g b)),(43,.tr Mw (I YM.g h) []),(42,.lst 109 6 true (I YJ.g e)),(2,.mp (I (dL (eA YZ.g) bv) o)),(1,.box [.v (.string (⟨#[]⟩:ByteArray)),bv false,.is 6 (I YJ.g []),.is 22 (I YM.g []),.is 7 (I YN.g []),.is 2 (I YZ.g [])]),aM 0 a])|.inr _=>(xq 4 [bO 2 0,bO 4 1,(6,.map 2),bO 9 45,bO 12 47,iZ 32 i,bX 33 i,aT 34 l] [aV 47 j,cN 46 n,(45,.box [.v (.string a.fL),bv a.dT,.own 42,.own 43,.own 44,dH p]),(44,.lst 114 7 true (I YN.g b)),(43,.tr Mw (I YM.g h) []),(42,.lst 109 6 true (I YJ.g e)),(2,.mp (I (dL (eA YZ.g) bv) o)),(1,.box Wy),aM 0 a])) (fun r=>?_) 0) fun x=>?_;refine ig fun w=>?_;refine bz (pE mI bv o w.ID false) ?_;refine io;rcases x with _|_;rfl;refine bo (dV2 (d+21) a.fL a.dT p j.bV j.eW b h e) fun⟨y,z,J⟩=>?_;refine bo (jE (A:=YM) (c:=YM.g) (m:=22) (f:=fun B=>{B with aI:=y}) (fun _=>⟨rfl,rfl⟩) (zH2 rfl) z _) fun K=>?_;rfl;rcases C with⟨s,t⟩|x47;rfl;refine bo (tB1 (d+19) a.fL a.dT e x47 b p) fun⟨L,M,N,O⟩=>?_;rfl
def F44 (d e:aA YF):aB Bool:=
 if(d.length:Int)!=(e.length:Int)then some false else(aQ (E:=Unit⊕Unit) (fun(a:Int)=>cT d a (fun b=>(bE e a).bind fun c=>if((b.ID.eC==c.ID.eC)&&((b.ID.bU==c.ID.bU)&&((b.Gy==c.Gy)&&true)))!=true then some (.inr (.inl ()))else some (.inl (bN (a+1)))) (some (.inr (.inr ())))) cQ 0).bind fun f=>(match f with|.inl _=>some false|.inr _=>some true)
def oH2 a b:OD k (d+1) 44 [uN a,uN b]=(F44 a b).map bv:=oe rfl<|bl<|bl<|iy<|bl<|bo (dX (fun c=>(Q [wP 0 a,wP 1 b,bX 12 a,aT 13 c] [])) (fun|.inl _=>(rq [(4,bv false)] [])|.inr _=>(xq 0 [] [])) (fun c=>ig fun e=>bo rg fun f=>io) 0) fun|.inl _=>rfl|.inr _=>rfl
def F43 (a b:YJ):aB Bool:=
 (if((((a.ID.eC==b.ID.eC)&&((a.ID.bU==b.ID.bU)&&true))!=false)&&(a.vG.toList==b.vG.toList))&&(((a.gG.nO==b.gG.nO)&&((a.gG.fK==b.gG.fK)&&true))!=false)then(F44 a.dN b.dN).bind fun c=>some c else some false:aB Bool).bind fun d=>some d
def oI2 a b:OD k (d+2) 43 [yU a,yU b]=(F43 a b).map bv:=oe rfl<|bz (jD rfl)<|bz (jD rfl)<|be (io<|bo (oH2 d a.dN b.dN))
def F45 (c d:aA YJ):aB Bool:=
 if(c.length:Int)!=(d.length:Int)then some false else(aQ (E:=Unit⊕Unit) (fun(b:Int)=>cT c b (fun e=>(bE d b).bind fun f=>(F43 e f).bind fun g=>if !g then some (.inr (.inl ()))else some (.inl (bN (b+1)))) (some (.inr (.inr ())))) cQ 0).bind fun a=>(match a with|.inl _=>some false|.inr _=>some true)
def oJ2 a b:OD k (d+3) 45 [Gt a,Gt b,.fn 43 [] []]=(F45 a b).map bv:=oe rfl<|bl<|bl<|iy<|bl<|bo (dX (fun c=>(Q [jG 1 b,(2,.fn 43 [] []),jG 15 a,bX 16 a,aT 17 c] [])) (fun|.inl _=>(rq [(6,bv false)] [])|.inr _=>(xq 0 [] [])) (fun c=>ig fun e=>bo rg fun f=>bo (oI2 d e f) fun g=>io) 0) fun|.inl _=>rfl|.inr _=>rfl
def F70 (a:YM):aB lH:=
 some (lH.mk a.ID a.dE a.kP a.kB a.dK a.bL a.bM a.pK a.iM a.nF a.nP a.dJ)
def dY2 a:OD k (d+1) 70 [dR a]=(F70 a).map (fun b=>Am b):=oe rfl<|rfl
def F71 (d e:aA YT):aB Bool:=
 if(d.length:Int)!=(e.length:Int)then some false else(aQ (E:=Unit⊕Unit) (fun(a:Int)=>cT d a (fun b=>(bE e a).bind fun c=>if((b.At==c.At)&&((b.Gz==c.Gz)&&((b.wY1==c.wY1)&&true)))!=true then some (.inr (.inl ()))else some (.inl (bN (a+1)))) (some (.inr (.inr ())))) cQ 0).bind fun f=>(match f with|.inl _=>some false|.inr _=>some true)
def oK2 a b:OD k (d+1) 71 [eU a,eU b]=(F71 a b).map bv:=oe rfl<|bl<|bl<|iy<|bl<|bo (dX (fun c=>(Q [pH 0 a,pH 1 b,bX 12 a,aT 13 c] [])) (fun|.inl _=>(rq [(4,bv false)] [])|.inr _=>(xq 0 [] [])) (fun c=>ig fun e=>bo rg fun f=>io) 0) fun|.inl _=>rfl|.inr _=>rfl
def pV1 (b c:aA YC):aB Bool:=
 if(b.length:Int)!=(c.length:Int)then some false else(aQ (E:=Unit⊕Unit) (fun(a:Int)=>cT b a (fun d=>(bE c a).bind fun e=>if((d.At==e.At)&&((d.Gy==e.Gy)&&true))!=true then some (.inr (.inl ()))else some (.inl (bN (a+1)))) (some (.inr (.inr ())))) cQ 0).bind fun f=>(match f with|.inl _=>some false|.inr _=>some true)
def dZ2 a b:OD k (d+1) 101 [iH a,iH b]=(pV1 a b).map bv:=oe rfl<|bl<|bl<|iy<|bl<|bo (dX (fun c=>(Q [nJ 0 a,nJ 1 b,bX 12 a,aT 13 c] [])) (fun|.inl _=>(rq [(4,bv false)] [])|.inr _=>(xq 0 [] [])) (fun c=>ig fun e=>bo rg fun f=>io) 0) fun|.inl _=>rfl|.inr _=>rfl
def pW1 (a b:YE):aB Bool:=
 (if((a.ID.eC==b.ID.eC)&&((a.ID.bU==b.ID.bU)&&true))!=false then(aA1 a b).bind fun c=>some c else some false:aB Bool).bind fun d=>some d
def eA2 a b:OD k (d+3) 160 [dV a,dV b]=(pW1 a b).map bv:=oe rfl<|be (io<|bo (sF1 d a b))
def pX1 (c d:aA YE):aB Bool:=
 if(c.length:Int)!=(d.length:Int)then some false else(aQ (E:=Unit⊕Unit) (fun(b:Int)=>cT c b (fun e=>(bE d b).bind fun f=>(pW1 e f).bind fun g=>if !g then some (.inr (.inl ()))else some (.inl (bN (b+1)))) (some (.inr (.inr ())))) cQ 0).bind fun a=>(match a with|.inl _=>some false|.inr _=>some true)
def eB2 a b:OD k (d+4) 159 [mR a,mR b,.fn 160 [] []]=(pX1 a b).map bv:=oe rfl<|bl<|bl<|iy<|bl<|bo (dX (fun c=>(Q [fF 1 b,(2,.fn 160 [] []),fF 15 a,bX 16 a,aT 17 c] [])) (fun|.inl _=>(rq [(6,bv false)] [])|.inr _=>(xq 0 [] [])) (fun c=>ig fun e=>bo rg fun f=>bo (eA2 d e f) fun g=>io) 0) fun|.inl _=>rfl|.inr _=>rfl
def pY1 (d e:aA YU):aB Bool:=
 if(d.length:Int)!=(e.length:Int)then some false else(aQ (E:=Unit⊕Unit) (fun(c:Int)=>cT d c (fun a=>(bE e c).bind fun b=>if((a.kQ==b.kQ)&&((a.fJ==b.fJ)&&((a.hY==b.hY)&&((a.iW==b.iW)&&true))))!=true then some (.inr (.inl ()))else some (.inl (bN (c+1)))) (some (.inr (.inr ())))) cQ 0).bind fun f=>(match f with|.inl _=>some false|.inr _=>some true)
def eC2 a b:OD k (d+1) 210 [iI a,iI b]=(pY1 a b).map bv:=oe rfl<|bl<|bl<|iy<|bl<|bo (dX (fun c=>(Q [iS 0 a,iS 1 b,bX 12 a,aT 13 c] [])) (fun|.inl _=>(rq [(4,bv false)] [])|.inr _=>(xq 0 [] [])) (fun c=>ig fun e=>bo rg fun f=>io) 0) fun|.inl _=>rfl|.inr _=>rfl
def pZ1 (a b:aA YU):aB Bool:=
 (pY1 a b).bind fun c=>some c
def eD2 a b:OD k (d+2) 161 [iI a,iI b]=(pZ1 a b).map bv:=oe rfl<|bo (eC2 d a b)
def qA1 (a b:YO):aB Bool:=
 (pX1 a.aU b.aU).bind fun c=>(if c then(pZ1 a.fO b.fO).bind fun d=>some d else some false:aB Bool).bind fun e=>some e
def eE2 a b:OD k (d+5) 103 [gF a,gF b]=(qA1 a b).map bv:=oe rfl<|bo (eB2 d a.aU b.aU) fun c=>be (io<|bo (eD2 (d+2) a.fO b.fO))
def qB1 (c d:aA YO):aB Bool:=
 if(c.length:Int)!=(d.length:Int)then some false else(aQ (E:=Unit⊕Unit) (fun(b:Int)=>cT c b (fun e=>(bE d b).bind fun f=>(qA1 e f).bind fun g=>if !g then some (.inr (.inl ()))else some (.inl (bN (b+1)))) (some (.inr (.inr ())))) cQ 0).bind fun a=>(match a with|.inl _=>some false|.inr _=>some true)
def eF2 a b:OD k (d+6) 102 [jF a,jF b,.fn 103 [] []]=(qB1 a b).map bv:=oe rfl<|bl<|bl<|iy<|bl<|bo (dX (fun c=>(Q [dC 1 b,(2,.fn 103 [] []),dC 15 a,bX 16 a,aT 17 c] [])) (fun|.inl _=>(rq [(6,bv false)] [])|.inr _=>(xq 0 [] [])) (fun c=>ig fun e=>bo rg fun f=>bo (eE2 d e f) fun g=>io) 0) fun|.inl _=>rfl|.inr _=>rfl
def F73 (a b:YW):aB Bool:=
 (pV1 a.iB b.iB).bind fun c=>(if c then(qB1 a.aK b.aK).bind fun d=>some d else some false:aB Bool).bind fun e=>some e
def oL2 a b:OD k (d+7) 73 [rB a,rB b]=(F73 a b).map bv:=oe rfl<|bo (dZ2 (d+5) a.iB b.iB) fun c=>be (io<|bo (eF2 d a.aK b.aK))
def F72 (c d:aA YW):aB Bool:=
 if(c.length:Int)!=(d.length:Int)then some false else(aQ (E:=Unit⊕Unit) (fun(b:Int)=>cT c b (fun e=>(bE d b).bind fun f=>(F73 e f).bind fun g=>if !g then some (.inr (.inl ()))else some (.inl (bN (b+1)))) (some (.inr (.inr ())))) cQ 0).bind fun a=>(match a with|.inl _=>some false|.inr _=>some true)
def oM2 a b:OD k (d+8) 72 [kN a,kN b,.fn 73 [] []]=(F72 a b).map bv:=oe rfl<|bl<|bl<|iy<|bl<|bo (dX (fun c=>(Q [bS 1 b,(2,.fn 73 [] []),bS 15 a,bX 16 a,aT 17 c] [])) (fun|.inl _=>(rq [(6,bv false)] [])|.inr _=>(xq 0 [] [])) (fun c=>ig fun e=>bo rg fun f=>bo (oL2 d e f) fun g=>io) 0) fun|.inl _=>rfl|.inr _=>rfl
def F47 (c d:YM):aB Bool:=
 (F70 c).bind fun a=>(F70 d).bind fun b=>(if((a.id.eC==b.id.eC)&&((a.id.bU==b.id.bU)&&((a.metre.fJ==b.metre.fJ)&&((a.metre.Unit==b.metre.Unit)&&((a.metre.aX.c0==b.metre.aX.c0)&&((a.metre.aX.c1==b.metre.aX.c1)&&((a.metre.aX.c2==b.metre.aX.c2)&&((a.metre.aX.c3==b.metre.aX.c3)&&((a.metre.aX.c4==b.metre.aX.c4)&&((a.metre.aX.c5==b.metre.aX.c5)&&((a.length==b.length)&&((a.fifths==b.fifths)&&((a.start==b.start)&&((a.end'==b.end')&&((a.endings==b.endings)&&((a.jump==b.jump)&&((a.labels==b.labels)&&((a.swing==b.swing)&&((a.lineBreaking==b.lineBreaking)&&((a.rehearsal==b.rehearsal)&&true))))))))))))))))))))!=false then(F71 c.fW d.fW).bind fun e=>some e else some false:aB Bool).bind fun f=>(if f then(F72 c.aI d.aI).bind fun g=>some g else some false:aB Bool).bind fun h=>some h
def oN2 a b:OD k (d+9) 47 [dR a,dR b]=(F47 a b).map bv:=oe rfl<|bo (dY2 (d+7) a) fun c=>bo (dY2 (d+7) b) fun e=>be (io<|bo (oK2 (d+7) a.fW b.fW)) fun f=>be (io<|bo (oM2 d a.aI b.aI))
def F46 (c d:aA YM):aB Bool:=
 if(c.length:Int)!=(d.length:Int)then some false else(aQ (E:=Unit⊕Unit) (fun(b:Int)=>cT c b (fun e=>(bE d b).bind fun f=>(F47 e f).bind fun g=>if !g then some (.inr (.inl ()))else some (.inl (bN (b+1)))) (some (.inr (.inr ())))) cQ 0).bind fun a=>(match a with|.inl _=>some false|.inr _=>some true)
def oO2 a b:OD k (d+10) 46 [lS a,lS b,.fn 47 [] []]=(F46 a b).map bv:=oe rfl<|bl<|bl<|iy<|bl<|bo (dX (fun c=>(Q [aR 1 b,(2,.fn 47 [] []),aR 15 a,bX 16 a,aT 17 c] [])) (fun|.inl _=>(rq [(6,bv false)] [])|.inr _=>(xq 0 [] [])) (fun c=>ig fun e=>bo rg fun f=>bo (oN2 d e f) fun g=>io) 0) fun|.inl _=>rfl|.inr _=>rfl
def F48 (d e:aA YN):aB Bool:=
 if(d.length:Int)!=(e.length:Int)then some false else(aQ (E:=Unit⊕Unit) (fun(c:Int)=>cT d c (fun a=>(bE e c).bind fun b=>if((a.ID.eC==b.ID.eC)&&((a.ID.bU==b.ID.bU)&&((a.eM==b.eM)&&((a.gV.eC==b.gV.eC)&&((a.gV.bU==b.gV.bU)&&((a.To.eC==b.To.eC)&&((a.To.bU==b.To.bU)&&true)))))))!=true then some (.inr (.inl ()))else some (.inl (bN (c+1)))) (some (.inr (.inr ())))) cQ 0).bind fun f=>(match f with|.inl _=>some false|.inr _=>some true)
def oP2 a b:OD k (d+1) 48 [pR a,pR b]=(F48 a b).map bv:=oe rfl<|bl<|bl<|iy<|bl<|bo (dX (fun c=>(Q [iR 0 a,iR 1 b,bX 12 a,aT 13 c] [])) (fun|.inl _=>(rq [(4,bv false)] [])|.inr _=>(xq 0 [] [])) (fun c=>ig fun e=>bo rg fun f=>io) 0) fun|.inl _=>rfl|.inr _=>rfl
def F49 (b c:aA YZ):aB Bool:=
 if(b.length:Int)!=(c.length:Int)then some false else(aQ (E:=Unit⊕Unit) (fun(a:Int)=>cT b a (fun d=>(bE c a).bind fun e=>if((d.eC==e.eC)&&((d.bU==e.bU)&&true))!=true then some (.inr (.inl ()))else some (.inl (bN (a+1)))) (some (.inr (.inr ())))) cQ 0).bind fun f=>(match f with|.inl _=>some false|.inr _=>some true)
def oQ2 a b:OD k (d+1) 49 [dH a,dH b]=(F49 a b).map bv:=oe rfl<|bl<|bl<|iy<|bl<|bo (dX (fun c=>(Q [iZ 0 a,iZ 1 b,bX 12 a,aT 13 c] [])) (fun|.inl _=>(rq [(4,bv false)] [])|.inr _=>(xq 0 [] [])) (fun c=>ig fun e=>bo rg fun f=>io) 0) fun|.inl _=>rfl|.inr _=>rfl
def F14 (a b:Y0):aB Bool:=
 (if(a.fL.toList==b.fL.toList)&&((a.dT==b.dT)!=false)then(F45 a.bQ b.bQ).bind fun d=>some d else some false:aB Bool).bind fun e=>(if e then(F46 a.aE b.aE).bind fun f=>some f else some false:aB Bool).bind fun g=>(if g then(F48 a.bD b.bD).bind fun h=>some h else some false:aB Bool).bind fun i=>(if i then(F49 a.jV b.jV).bind fun j=>some j else some false:aB Bool).bind fun c=>some c
def vQ1 a b:OD k (d+11) 14 [eJ a,eJ b]=(F14 a b).map bv:=oe rfl<|bz (jD rfl)<|be (io<|bo (oJ2 (d+7) a.bQ b.bQ)) fun c=>be (io<|bo (oO2 d a.aE b.aE)) fun e=>be (io<|bo (oP2 (d+9) a.bD b.bD)) fun f=>be (io<|bo (oQ2 (d+9) a.jV b.jV))
def F15 (i:YO) (j:aA YZ):aB Bool:=
 (aQ (E:=Unit⊕Unit) (fun(a:Int)=>if decide (a<(i.aU.length:Int))then(aQ (fun(⟨c,b⟩:Bool×Int)=>if decide (b<(j.length:Int))then(if c then some true else(bE j b).bind fun d=>(bE i.aU a).bind fun e=>some (((d.eC==e.ID.eC)&&((d.bU==e.ID.bU)&&true))!=false):aB Bool).bind fun f=>some (.inl (f,bN (b+1)))else some (.inr c)) cQ (false,0)).bind fun g=>if !g then some (.inr (.inl ()))else some (.inl (bN (a+1)))else some (.inr (.inr ()))) cQ 0).bind fun h=>(match h with|.inl _=>some false|.inr _=>some true)
def oR2 b f:OD k (d+1) 15 [gF b,dH f]=(F15 b f).map bv:=oe rfl<|bo (dX (fun a=>(Q [iZ 1 f,bO 2 0,aT 5 a] [bZ 0 b])) (fun|.inl _=>(rq [(4,bv false)] [bZ 0 b])|.inr _=>(xq 0 [] [bZ 0 b])) (fun a=>bl<|io<|bo (dX (S:=Bool×Int) (fun⟨c,e⟩=>(Q [iZ 1 f,bO 2 0,aT 5 a,(6,bv c),aT 7 e] [bZ 0 b])) (fun(g:Bool)=>(xq 2 [iZ 1 f,bO 2 0,aT 5 a,(6,bv g)] [bZ 0 b])) (fun⟨c,e⟩=>bl<|io<|be (iy<|bo rg fun h=>bo rg)) (false,0)) fun g=>io) 0) fun|.inl _=>rfl|.inr _=>rfl
def F4 (d:Y0) (h:aA YZ):aB Bool:=
 (some true).bind fun M=>(if !M then some true else(F6 d).bind fun N=>some (!N):aB Bool).bind fun O=>if O||(decide ((h.length:Int)>20))then(some true).bind fun P=>some P else(F11 d h).bind fun⟨K,L⟩=>(iF1 d).bind fun⟨R,i,j,k⟩=>(aQ (E:=(Bool×(aA YM))⊕(aA YM)) (fun(⟨f,a⟩:Int×(aA YM))=>cT h f (fun l=>(F13 d l).bind fun⟨b,m⟩=>if(!m)||(b.eM !=4)then if L==8 then(F14 K (Y0.mk (⟨#[]⟩:ByteArray) false [] [] [] [])).bind fun n=>some (.inr (.inl (n,a)))else some (.inr (.inl (false,a)))else(if b.fU !=1 then some true else(bE d.aE b.bV).bind fun o=>(bE o.aI b.eW).bind fun p=>(bE p.aK 1).bind fun q=>(F15 q h).bind fun r=>some (!r):aB Bool).bind fun s=>if s then if L==10 then(F14 K (Y0.mk (⟨#[]⟩:ByteArray) false [] [] [] [])).bind fun t=>some (.inr (.inl (t,a)))else some (.inr (.inl (false,a)))else(gU a b.bV).bind fun g=>(fZ a g).bind fun c=>(gU c.aI b.eW).bind fun e=>(fZ c.aI e).bind fun u=>(if(u.aK.length:Int)==2 then(fZ c.aI e).bind fun v=>(mG v.aK 0 1).bind fun w=>(nV c.aI e (fun x=>{x with aK:=w})).bind fun y=>some y else some c.aI:aB (aA YW)).bind fun z=>(nV a g (fun A=>{A with aI:=z})).bind fun B=>some (.inl (bN (f+1),B))) (some (.inr (.inr a)))) cQ (0,j)).bind fun C=>(match C with|.inl ⟨x57,x58⟩=>some x57|.inr x59=>if L==0 then(aH1 d.fL d.dT k x59 i R).bind fun⟨D,F,G,H⟩=>(F14 K (Y0.mk d.fL d.dT D F H G)).bind fun J=>some J else some false)
def ok4 (a:Y0) (o:aA YZ):OD true (d+28) 4 [eJ a,dH o]=(F4 a o).map bv:=oe rfl<|by
 refine bo (fN1 (d+27)) fun Y=>?_;refine be ?_ fun x5=>?_;refine iy ?_;refine bo (ok6 d a) fun Z=>?_;rfl;refine bz (jH (bz lm rfl)) ?_;refine io ?_ ?_;refine bo (fN1 (d+27)) fun x6=>?_;rfl;refine bo (oG2 d a o) fun⟨n,K⟩=>?_;refine bo (tA1 (d+21) a) fun⟨t,i,u,j⟩=>?_;refine bo (dX (S:=Int×(aA YM)) (fun⟨k,b⟩=>(Q [iZ 1 o,bO 2 0,bO 5 1,aT 6 K,bO 7 45,aT 8 k] [(45,.box [.v (.string a.fL),bv a.dT,.own 42,.own 43,.own 44,dH t]),(44,.lst 114 7 true (I YN.g i)),(43,.tr Mw (I YM.g b) []),(42,.lst 109 6 true (I YJ.g j)),aM 1 n,aM 0 a])) (fun|.inl ⟨r,s⟩=>(rq [(4,bv r)] [vF1,(44,.lst 114 7 true (I YN.g i)),(43,.tr Mw (I YM.g s) []),(42,.lst 109 6 true (I YJ.g j)),aM 1 n,aM 0 a])|.inr x59=>(xq 0 [bO 5 1,aT 6 K,bO 7 45] [(45,.box [.v (.string a.fL),bv a.dT,.own 42,.own 43,.own 44,dH t]),(44,.lst 114 7 true (I YN.g i)),(43,.tr Mw (I YM.g x59) []),(42,.lst 109 6 true (I YJ.g j)),aM 1 n,aM 0 a])) (fun⟨k,b⟩=>?_) (0,u)) fun E=>?_;refine bl ?_;refine ig fun w=>?_;refine bo (vM1 (d+24) a w) fun⟨x,L⟩=>?_;refine bz (jH rfl) ?_;refine io ?_ ?_;refine io ?_;refine bo (vQ1 (d+16) n (Y0.mk (⟨#[]⟩:ByteArray) false [] [] [] [])) fun M=>?_;rfl;refine be ?_ fun R=>?_;refine iy ?_;refine bo rg fun N=>?_;refine bo rg fun O=>?_;refine bo rg fun y=>?_;refine bo (oR2 (d+26) y o) fun P=>?_;rfl;refine io ?_ ?_;refine io ?_;refine bo (vQ1 (d+16) n (Y0.mk (⟨#[]⟩:ByteArray) false [] [] [] [])) fun T=>?_;rfl;refine bo (bR YM.g b _) fun z=>?_;refine bo (cV (A:=YM) (c:=YM.g) (g:=fun h=>kN h.aI) (fun _=>rfl) b _) fun h=>?_;refine bo (bR YW.g h.aI _) fun U=>?_;refine bo (cV (A:=YW) (c:=YW.g) (g:=fun p=>jF p.aK) (fun _=>rfl) h.aI _) fun p=>?_;refine bl ?_;refine bo (e:=(fun(l:aA YW)=>(nq [iZ 1 o,bO 2 0,bO 5 1,aT 6 K,bO 7 45,aT 8 k] [(47,.lst 61 2 true (I YW.g l)),aV 46 x,(45,.box [.v (.string a.fL),bv a.dT,.own 42,.own 43,.own 44,dH t]),(44,.lst 114 7 true (I YN.g i)),(43,.tr Mw (I YM.g b) [(21,z,.own 47)]),(42,.lst 109 6 true (I YJ.g j)),aM 1 n,aM 0 a]))) ?_ fun l=>?_;refine io ?_;refine bo (cV (A:=YW) (c:=YW.g) (g:=fun q=>jF q.aK) (fun _=>rfl) h.aI _) fun q=>?_;refine bo (nW _ _ _ _) fun B=>?_;refine bo (jE (A:=YW) (c:=YW.g) (m:=2) (f:=fun C=>{C with aK:=B}) (fun _=>⟨rfl,rfl⟩) (zH2 rfl) h.aI _) fun V=>?_;rfl;refine bo (jE (A:=YM) (c:=YM.g) (m:=22) (f:=fun D=>{D with aI:=l}) (fun _=>⟨rfl,rfl⟩) (zH2 rfl) b _) fun W=>?_;rfl;rcases E with⟨r,s⟩|x59;rfl;refine io ?_;refine bo (tB1 (d+20) a.fL a.dT j x59 i t) fun⟨F,G,H,J⟩=>?_;refine bo (vQ1 (d+16) n (Y0.mk a.fL a.dT F G J H)) fun X=>?_;rfl
end Go.P
