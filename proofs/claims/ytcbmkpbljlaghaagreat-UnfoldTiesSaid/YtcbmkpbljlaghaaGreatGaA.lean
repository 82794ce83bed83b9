import Derived.Test.YtcbmkpbljlaghaaGreatLpB
import Derived.KernelRfl
import Derived.Test.YtcbmkpbljlaghaaGreatChecked
/- A text of the proof. -/
set_option linter.all false
set_option maxRecDepth 100000
set_option maxHeartbeats 2000000
namespace Go.P
open Go.Sim (Ex fC CK)
structure YZ where
 dH:Int
 bG:Int
 deriving DecidableEq,Inhabited
def YZ.g (x:YZ):aA PV:=[i64 x.dH,i64 x.bG]
structure YL where
 pV:Int
 fG:Int
 deriving DecidableEq,Inhabited
def YL.g (x:YL):aA PV:=[i64 x.pV,i64 x.fG]
structure YF where
 ID:YZ
 Rv:Int
 deriving DecidableEq,Inhabited
def YF.g (x:YF):aA PV:=[i64 x.ID.dH,i64 x.ID.bG,i64 x.Rv]
structure YJ where
 ID:YZ
 Dv:ByteArray
 jY:YL
 dZ:List YF
 deriving Inhabited
def YJ.g (x:YJ):aA PV:=[i64 x.ID.dH,i64 x.ID.bG,.v (.string x.Dv),i64 x.jY.pV,i64 x.jY.fG,.is 3 (List.map YF.g x.dZ)]
structure Y6 where
 c0:Int
 c1:Int
 c2:Int
 c3:Int
 c4:Int
 c5:Int
 deriving DecidableEq,Inhabited
def Y6.g (x:Y6):aA PV:=[i64 x.c0,i64 x.c1,i64 x.c2,i64 x.c3,i64 x.c4,i64 x.c5]
structure YX where
 gO:Int
 Unit:Int
 dV:Y6
 deriving DecidableEq,Inhabited
def YX.g (x:YX):aA PV:=[i64 x.gO,i64 x.Unit,i64 x.dV.c0,i64 x.dV.c1,i64 x.dV.c2,i64 x.dV.c3,i64 x.dV.c4,i64 x.dV.c5]
structure YT where
 At:Int
 Rw:Int
 qA2:Bool
 deriving DecidableEq,Inhabited
def YT.g (x:YT):aA PV:=[i64 x.At,i64 x.Rw,bv x.qA2]
structure YC where
 At:Int
 Rv:Int
 deriving DecidableEq,Inhabited
def YC.g (x:YC):aA PV:=[i64 x.At,i64 x.Rv]
structure YA where
 Log:Int
 rK:Int
 deriving DecidableEq,Inhabited
def YA.g (x:YA):aA PV:=[i64 x.Log,i64 x.rK]
structure YH where
 rL:Int
 pT:Int
 lR:Int
 deriving DecidableEq,Inhabited
def YH.g (x:YH):aA PV:=[i64 x.rL,i64 x.pT,i64 x.lR]
structure YB where
 dW:YH
 tU:Bool
 gM1:Int
 deriving DecidableEq,Inhabited
def YB.g (x:YB):aA PV:=[i64 x.dW.rL,i64 x.dW.pT,i64 x.dW.lR,bv x.tU,i64 x.gM1]
structure YD where
 dW:YH
 Log:Int
 gK1:Bool
 deriving DecidableEq,Inhabited
def YD.g (x:YD):aA PV:=[i64 x.dW.rL,i64 x.dW.pT,i64 x.dW.lR,i64 x.Log,bv x.gK1]
structure YY where
 nZ:ByteArray
 yW:Int
 deriving DecidableEq,Inhabited
def YY.g (x:YY):aA PV:=[.v (.string x.nZ),i64 x.yW]
structure YE where
 ID:YZ
 dD:Int
 Value:YA
 cW:List YB
 gN:List YD
 dI:Int
 jK:Int
 iZ:Int
 dP:List YY
 Ew:Int
 Eu:Int
 deriving Inhabited
def YE.g (x:YE):aA PV:=[i64 x.ID.dH,i64 x.ID.bG,i64 x.dD,i64 x.Value.Log,i64 x.Value.rK,.is 5 (List.map YB.g x.cW),.is 5 (List.map YD.g x.gN),i64 x.dI,i64 x.jK,i64 x.iZ,.is 2 (List.map YY.g x.dP),i64 x.Ew,i64 x.Eu]
structure YU where
 jJ:Int
 gO:Int
 eG:Int
 eT:Int
 deriving DecidableEq,Inhabited
def YU.g (x:YU):aA PV:=[i64 x.jJ,i64 x.gO,i64 x.eG,i64 x.eT]
structure YO where
 aT:List YE
 gJ:List YU
 deriving Inhabited
def YO.g (x:YO):aA PV:=[.is 13 (List.map YE.g x.aT),.is 4 (List.map YU.g x.gJ)]
structure YW where
 kQ:List YC
 aQ:List YO
 deriving Inhabited
def YW.g (x:YW):aA PV:=[.is 2 (List.map YC.g x.kQ),.is 2 (List.map YO.g x.aQ)]
structure YM where
 ID:YZ
 pU:YX
 Kb:Int
 Du:Int
 dG:Bool
 aW:Int
 aN:Int
 hU:Int
 cZ:Int
 Oa:Int
 gJ1:Int
 iY:ByteArray
 kW:List YT
 aR:List YW
 deriving Inhabited
def YM.g (x:YM):aA PV:=[i64 x.ID.dH,i64 x.ID.bG,i64 x.pU.gO,i64 x.pU.Unit,i64 x.pU.dV.c0,i64 x.pU.dV.c1,i64 x.pU.dV.c2,i64 x.pU.dV.c3,i64 x.pU.dV.c4,i64 x.pU.dV.c5,i64 x.Kb,i64 x.Du,bv x.dG,i64 x.aW,i64 x.aN,i64 x.hU,i64 x.cZ,i64 x.Oa,i64 x.gJ1,.v (.string x.iY),.is 3 (List.map YT.g x.kW),.is 2 (List.map YW.g x.aR)]
structure YN where
 ID:YZ
 dD:Int
 gZ:YZ
 To:YZ
 deriving DecidableEq,Inhabited
def YN.g (x:YN):aA PV:=[i64 x.ID.dH,i64 x.ID.bG,i64 x.dD,i64 x.gZ.dH,i64 x.gZ.bG,i64 x.To.dH,i64 x.To.bG]
structure Y0 where
 pS:ByteArray
 sB:Bool
 bV:List YJ
 aD:List YM
 bY:List YN
 kZ:List YZ
 deriving Inhabited
def Y0.g (x:Y0):aA PV:=[.v (.string x.pS),bv x.sB,.is 6 (List.map YJ.g x.bV),.is 22 (List.map YM.g x.aD),.is 7 (List.map YN.g x.bY),.is 2 (List.map YZ.g x.kZ)]
structure YV where
 iF:Int
 gI1:YZ
 deriving DecidableEq,Inhabited
def YV.g (x:YV):aA PV:=[i64 x.iF,i64 x.gI1.dH,i64 x.gI1.bG]
structure YI where
 name:ByteArray
 letter:Int
 line:Int
 octaves:Int
 middle:Int
 sharps:Int
 flats:Int
 deriving DecidableEq,Inhabited
def YI.g (x:YI):aA PV:=[.v (.string x.name),.v (.int .u8 x.letter),i64 x.line,i64 x.octaves,i64 x.middle,i64 x.sharps,i64 x.flats]
structure Y9 where
 c0:YI
 c1:YI
 c2:YI
 c3:YI
 c4:YI
 c5:YI
 c6:YI
 c7:YI
 c8:YI
 deriving DecidableEq,Inhabited
def Y9.g (x:Y9):aA PV:=[.v (.string x.c0.name),.v (.int .u8 x.c0.letter),i64 x.c0.line,i64 x.c0.octaves,i64 x.c0.middle,i64 x.c0.sharps,i64 x.c0.flats,.v (.string x.c1.name),.v (.int .u8 x.c1.letter),i64 x.c1.line,i64 x.c1.octaves,i64 x.c1.middle,i64 x.c1.sharps,i64 x.c1.flats,.v (.string x.c2.name),.v (.int .u8 x.c2.letter),i64 x.c2.line,i64 x.c2.octaves,i64 x.c2.middle,i64 x.c2.sharps,i64 x.c2.flats,.v (.string x.c3.name),.v (.int .u8 x.c3.letter),i64 x.c3.line,i64 x.c3.octaves,i64 x.c3.middle,i64 x.c3.sharps,i64 x.c3.flats,.v (.string x.c4.name),.v (.int .u8 x.c4.letter),i64 x.c4.line,i64 x.c4.octaves,i64 x.c4.middle,i64 x.c4.sharps,i64 x.c4.flats,.v (.string x.c5.name),.v (.int .u8 x.c5.letter),i64 x.c5.line,i64 x.c5.octaves,i64 x.c5.middle,i64 x.c5.sharps,i64 x.c5.flats,.v (.string x.c6.name),.v (.int .u8 x.c6.letter),i64 x.c6.line,i64 x.c6.octaves,i64 x.c6.middle,i64 x.c6.sharps,i64 x.c6.flats,.v (.string x.c7.name),.v (.int .u8 x.c7.letter),i64 x.c7.line,i64 x.c7.octaves,i64 x.c7.middle,i64 x.c7.sharps,i64 x.c7.flats,.v (.string x.c8.name),.v (.int .u8 x.c8.letter),i64 x.c8.line,i64 x.c8.octaves,i64 x.c8.middle,i64 x.c8.sharps,i64 x.c8.flats]
structure YK where
 s':Y0
 rule:Int
 list:List YV
 deriving Inhabited
def YK.g (x:YK):aA PV:=[.v (.string x.s'.pS),bv x.s'.sB,.is 6 (List.map YJ.g x.s'.bV),.is 22 (List.map YM.g x.s'.aD),.is 7 (List.map YN.g x.s'.bY),.is 2 (List.map YZ.g x.s'.kZ),i64 x.rule,.is 3 (List.map YV.g x.list)]
structure Ct where
 c0:Int
 c1:Int
 c2:Int
 c3:Int
 c4:Int
 c5:Int
 c6:Int
 deriving DecidableEq,Inhabited
def Ct.g (x:Ct):aA PV:=[i64 x.c0,i64 x.c1,i64 x.c2,i64 x.c3,i64 x.c4,i64 x.c5,i64 x.c6]
structure YP where
 dD:Int
 eS:Int
 bS:Int
 aY:Int
 bU:Int
 bP:Int
 oD1:Int
 deriving DecidableEq,Inhabited
def YP.g (x:YP):aA PV:=[i64 x.dD,i64 x.eS,i64 x.bS,i64 x.aY,i64 x.bU,i64 x.bP,i64 x.oD1]
structure YQ where
 aY:Int
 At:Int
 bS:Int
 bU:Int
 deriving DecidableEq,Inhabited
def YQ.g (x:YQ):aA PV:=[i64 x.aY,i64 x.At,i64 x.bS,i64 x.bU]
structure YS where
 dD:Int
 gZ:YQ
 To:YQ
 deriving DecidableEq,Inhabited
def YS.g (x:YS):aA PV:=[i64 x.dD,i64 x.gZ.aY,i64 x.gZ.At,i64 x.gZ.bS,i64 x.gZ.bU,i64 x.To.aY,i64 x.To.At,i64 x.To.bS,i64 x.To.bU]
structure YG where
 started:Bool
 body:Int
 used:Int
 ending:Int
 ended:Bool
 passes:Int
 deriving DecidableEq,Inhabited
def YG.g (x:YG):aA PV:=[bv x.started,i64 x.body,i64 x.used,i64 x.ending,bv x.ended,i64 x.passes]
structure bH where
 first:Int
 end':Int
 deriving DecidableEq,Inhabited
def bH.g (x:bH):aA PV:=[i64 x.first,i64 x.end']
structure bE where
 span:bH
 bits:Int
 deriving DecidableEq,Inhabited
def bE.g (x:bE):aA PV:=[i64 x.span.first,i64 x.span.end',i64 x.bits]
structure aJ where
 body:bH
 endings:List bE
 passes:Int
 deriving Inhabited
def aJ.g (x:aJ):aA PV:=[i64 x.body.first,i64 x.body.end',.is 3 (List.map bE.g x.endings),i64 x.passes]
structure bJ where
 aY:Int
 gL1:Int
 deriving DecidableEq,Inhabited
def bJ.g (x:bJ):aA PV:=[i64 x.aY,i64 x.gL1]
structure aI where
 On:Int
 Off:Int
 bG:Int
 eS:Int
 bS:Int
 bU:Int
 bP:YZ
 fL:Int
 deriving DecidableEq,Inhabited
def aI.g (x:aI):aA PV:=[i64 x.On,i64 x.Off,i64 x.bG,i64 x.eS,i64 x.bS,i64 x.bU,i64 x.bP.dH,i64 x.bP.bG,i64 x.fL]
structure aX where
 bS:Int
 bU:Int
 bP:Int
 On:Int
 Off:Int
 deriving DecidableEq,Inhabited
def aX.g (x:aX):aA PV:=[i64 x.bS,i64 x.bU,i64 x.bP,i64 x.On,i64 x.Off]
theorem Tw:yQ (eA YZ.g) true [.i,.i]:=⟨fun _=>rfl,fun a b=>by
 cases a;cases b
 simp only[qV,eA,YZ.g,i64,kH,pA,YZ.mk.injEq,xR2,wW2,and_self,xM2]
 repeat' (first|rfl|split)
 all_goals simp_all⟩
theorem jM:yQ (eA YP.g) true [.i,.i,.i,.i,.i,.i,.i]:=⟨fun _=>rfl,fun a b=>by
 cases a;cases b
 simp only[qV,eA,YP.g,i64,kH,pA,YP.mk.injEq,xR2,wW2,and_self,xM2]
 repeat' (first|rfl|split)
 all_goals simp_all⟩
theorem Cu:yQ (eA YH.g) true [.i,.i,.i]:=⟨fun _=>rfl,fun a b=>by
 cases a;cases b
 simp only[qV,eA,YH.g,i64,kH,pA,YH.mk.injEq,xR2,wW2,and_self,xM2]
 repeat' (first|rfl|split)
 all_goals simp_all⟩
theorem nH:yQ i64 false [.i]:=⟨fun _=>rfl,fun a b=>by
 unfold qV
 simp only[wU2,xQ2,kH,pA,i64,xM2]
 cases hb:(a==b)with
 |true=>rw[xX2 (by simpa using hb)]
 |false=>rw[yC2 (by simpa using hb)]⟩
end Go.P
namespace Go.P.K
open Go.Sim (Ex fC CK)
abbrev I {A B:Type} (f:A->B) (l:aA A):aA B:=l.map f
abbrev Q (e:fH) (h:bC):Lr:=⟨e,h⟩
abbrev rq (e:fH) (h:bC):Ex×Lr:=(.ret,⟨e,h⟩)
abbrev ck (s:Y0) (r:Int) (l:PV):aA PV:=[.v (.string s.pS),bv s.sB,.is 6 (List.map YJ.g s.bV),.is 22 (List.map YM.g s.aD),.is 7 (List.map YN.g s.bY),.is 2 (List.map YZ.g s.kZ),i64 r,l]
abbrev nq (e:fH) (h:bC):Ex×Lr:=(.normal,⟨e,h⟩)
abbrev xq (n:Nat) (e:fH) (h:bC):Ex×Lr:=(.exit n,⟨e,h⟩)
end Go.P.K
namespace Go.P.K
open Go.Sim (Ex fC CK)
abbrev t (n:Nat):PX:=.t n
abbrev c (n:Int):PX:=.c (.v (.int .i64 n))
abbrev cn:PX:=.c (.v (.slice none 0 0))
abbrev ct:PX:=.c (.v (.bool true))
abbrev cf:PX:=.c (.v (.bool false))
abbrev J (n:Int):Value:=.int .i64 n
abbrev ZS:Value:=.string ⟨#[]⟩
abbrev ZB:Value:=.bool false
abbrev ZN:Value:=.slice none 0 0
abbrev o (d:Nat) (k:fC) (xs:aA PX) (l:aA Nat) (r:iT):iT:=.op d k xs l r
abbrev m (d x:Nat) (r:iT):iT:=.op d .mov [.t x] [] r
abbrev M (d x:Nat) (r:iT):iT:=.op d .mov [.t x] [x] r
abbrev L (d x:Nat) (r:iT):iT:=.op d .loadS [.t x] [x] r
abbrev a (d k x:Nat) (r:iT):iT:=.op d (.fad k) [.t x] [] r
abbrev A (d k x:Nat) (r:iT):iT:=.op d (.fad k) [.t x] [x] r
abbrev b (d:Nat) (k:BinOp) (xs:aA PX) (l:aA Nat) (r:iT):iT:=.op d (.bin k) xs l r
abbrev f (d g:Nat) (xs:aA PX) (l:aA Nat) (r:iT):iT:=.op d (.callF g) xs l r
abbrev e (d k x:Nat) (l:aA Nat) (r:iT):iT:=.op d (.ext k) [.t x] l r
abbrev O (d:Nat) (k:fC) (x:Nat) (r:iT):iT:=.op d k [.t x] [x] r
abbrev B (d:Nat) (k:BinOp) (x:Nat) (n:Int) (r:iT):iT:=.op d (.bin k) [.t x,c n] [x] r
abbrev C (d:Nat) (k:BinOp) (x y:Nat) (r:iT):iT:=.op d (.bin k) [.t x,.t y] [x,y] r
abbrev U (d:Nat) (k:fC) (l:aA Nat) (r:iT):iT:=.op d k (l.map .t) l r
abbrev x (d g:Nat) (w:Bool) (s:iT) (y:PX) (l:aA Nat) (r:iT):iT:=.ifx d g w s y l r
abbrev R (s:iT) (q:PC):PC:=.seq (.reg s) q
abbrev z0:aA Value:=[(J 0),(J 0),(J 0),(J 0),(J 0),(J 0),(J 0),(J 0),(J 0)]
abbrev z1:aA Value:=[(J 0),(J 0),(J 0),(J 0),(J 0),(J 0),(J 0),(J 0),(J 0),(J 0),(J 0),(J 0),ZB,(J 0),(J 0),(J 0),(J 0),(J 0),(J 0),ZS,ZN,ZN]
abbrev z2:aA Value:=[(J 0),(J 0)]
abbrev z3:aA Value:=[(.map none)]
abbrev z4:aA Value:=[(.pointer none),(.map none),(J 0),(J 0),(J 0),(J 0),(J 0),(J 0),(J 0),(J 0),(J 0),(J 0)]
abbrev z5:aA Value:=[(J 0),(J 0),(J 0),(J 0),(J 0),ZN,ZN,(J 0),(J 0),(J 0),ZN,(J 0),(J 0)]
abbrev z6:aA Value:=[ZS,ZB,ZN,ZN,ZN,ZN,(J 0),ZN]
abbrev z7:aA Value:=[(J 0),(J 0),ZS,(J 0),(J 0),ZN]
abbrev z8:aA Value:=[(J 0),(J 0),(J 0),(J 0),(J 0)]
abbrev z9:aA Value:=[(J 0),(J 0),(J 0)]
abbrev z10:aA Value:=[(J 0),(J 0),(J 0),(J 0),(J 0),(J 0),(J 0)]
abbrev z11:aA Value:=[ZB,(J 0),(J 0),(J 0),ZB,(J 0)]
abbrev z12:aA Value:=[(J 0),(J 0),ZN,(J 0)]
abbrev z13:aA Value:=[(J 0),(J 0),(J 0),ZB,(J 0)]
abbrev z14:aA Value:=[ZS,(.int .u8 0),(J 0),(J 0),(J 0),(J 0),(J 0)]
abbrev z15:aA Value:=[(J 0),(J 0),(J 0),(J 0)]
abbrev z16:aA Value:=[.nilFunc,.nilFunc,.nilFunc,.nilFunc,.nilFunc,.nilFunc,.nilFunc]
abbrev z17:aA Value:=[(J 0),(J 0),ZB]
abbrev z19:aA Value:=[(J 0),(J 0),(J 0),(J 0),(J 0),(J 0)]
end Go.P.K
namespace Go.P
open Go.Sim (Ex fC CK)
noncomputable section
open K
noncomputable abbrev aP (f s:Nat) (z:Bool):cD:=anF Go.Proofs.Tryz.prog f s z
def zg (l:aA cD) (i:Nat):cD:=(l[i]?).getD default
def zH:PC:=.reg<|M 6 13<|.nil
def zI:PC:=.block 1 (.seq (R (o 14 .loadS [t 4] []<|O 15 (.len 0) 14<|B 16 .eql 15 8192<|.nil)<|.cond (t 16) (R (.sto (.store 1) [t 2,cn] []<|.laxc 2 0 2<|.sto (.store 1) [t 3,c 9] [3]<|.nil)<|.ret) (.skip))<|R (o 17 .loadS [t 4] []<|m 18 6<|o 19 .loadS [t 5] []<|m 20 6<|U 21 (.lookup false [.i] (.v (.int .i64 0)) false) [19,20]<|U 22 (.build z2 [(0,1),(1,1)]) [18,21]<|O 23 (.buildSl 51 2 1 z2 [0]) 22<|U 24 (.append 51 2 16 z2 false) [17,23]<|.sto (.store 1) [t 4,t 24] [4,24]<|.nil)<|.reg<|L 25 5<|M 26 6<|o 27 (.lookup false [.i] (.v (.int .i64 0)) false) [t 25,t 26] []<|B 28 .add 27 1<|.sto (.mapup false [.i]) [t 25,t 26,t 28] [25,26,28]<|.nil)
def p12:cD:=⟨30,[.cellS 2,.cellS 3],R (O 1 (.box 27 6) 0<|U 2 (.alloc 28 [ZN]) []<|.laxc 2 0 2<|U 3 (.alloc 33 [(J 0)]) []<|.nil)<|.seq (R (o 7 (.loadA 6) [t 1] []<|O 8 (.callF 11) 7<|O 9 (.un .not) 8<|.nil)<|.cond (t 9) (R (.sto (.store 1) [t 2,cn] []<|.laxc 2 0 2<|.sto (.store 1) [t 3,c 24] []<|.nil)<|.ret) (.skip))<|R (U 4 (.alloc 28 [ZN]) []<|.ownc 4 0 51 2 false<|.nil)<|R (U 10 .mkmap []<|U 5 (.alloc 79 z3) []<|.sto (.store 1) [t 5,t 10] [10]<|.nil)<|.seq (R (O 11 (.loadA 6) 1<|O 12 (.callF 22) 11<|.nil)<|.block 0 (.rangeF 30 [2,3,4,5] (t 12) [13] zH zI))<|R (L 29 4<|.sto (.store 1) [t 2,t 29] [29]<|.sto (.store 1) [t 3,c 0] []<|.nil)<|.ret,false⟩
def p33:cD:=⟨86,[],R (U 8 .mkmap []<|M 2 8<|.nil)<|.seq (R (m 9 0<|O 10 .nilc 9<|A 11 0 10<|O 12 (.loadA 6) 11<|O 13 (.callF 65) 12<|o 14 (.len 0) [t 13] []<|o 15 .mov [c 0] []<|.nil)<|.block 0 (.loop [0,2,13,14,15] [0] (R (b 16 .lss [t 15,t 14] []<|.nil)<|.seq (.cond (t 16) (.skip) (.exit 0))<|.seq (.block 1 (R (o 17 (.iad 2) [t 13,t 15] []<|O 18 (.loadA 2) 17<|U 4 (.alloc 39 z2) []<|.sto (.store 2) [t 4,t 18] [18]<|.nil)<|.seq (.regD 3 (m 19 0<|o 20 (.loadA 2) [t 4] []<|O 21 (.callF 66) 20<|O 22 (.un .not) 21<|M 23 22<|x 27 23 false (m 24 2<|o 25 (.loadA 2) [t 4] []<|U 26 (.lookup true [.i,.i] (.v (.bool false)) false) [24,25]<|.nil) (t 26) [23]<|M 28 27<|x 39 28 false (a 29 1 4<|L 30 29<|m 31 0<|O 32 .nilc 31<|A 33 0 32<|O 34 (.loadA 6) 33<|a 35 0 4<|L 36 35<|U 37 (.callF 67) [34,36]<|C 38 .gtr 30 37<|.nil) (t 38) [28]<|o 40 (.loadA 2) [t 4] []<|f 41 61 [t 19,t 39,t 40] [19,39,40,41]<|.nil) [0,0,2,6,14,30,30,126,254,510,1022,2046,1022,5118,13310,29694,1022,66558,259070,524286,1048574,0,4194303])<|.reg<|o 42 .mov [t 2] [41]<|O 43 (.loadA 2) 4<|.sto (.mapup true [.i,.i]) [t 42,t 43,ct] [42,43]<|.nil))<|.reg<|B 44 .add 15 1<|M 15 44<|.nil)))<|R (o 5 .mov [cf] []<|.nil)<|.seq (R (m 45 0<|O 46 .nilc 45<|A 47 0 46<|A 48 5 47<|L 49 48<|o 50 (.len 0) [t 49] []<|o 51 .mov [c 0] []<|.nil)<|.block 2 (.loop [0,5,49,50,51] [0,5] (R (b 52 .lss [t 51,t 50] []<|.nil)<|.seq (.cond (t 52) (.skip) (.exit 2))<|.seq (.block 3 (R (m 53 51<|o 54 (.iad 2) [t 49,t 51] []<|O 55 (.loadA 2) 54<|U 7 (.alloc 39 z2) []<|M 6 53<|.sto (.store 2) [t 7,t 55] [55]<|.nil)<|.regD 3 (M 56 5<|M 57 56<|x 61 57 false (o 58 (.loadA 2) [t 7] []<|O 59 (.callF 66) 58<|O 60 (.un .not) 59<|.nil) (t 60) [57]<|M 62 61<|x 80 62 false (m 63 6<|B 64 .gtr 63 0<|M 65 64<|x 79 65 true (A 66 0 7<|L 67 66<|m 68 0<|O 69 .nilc 68<|A 70 0 69<|A 71 5 70<|L 72 71<|M 73 6<|B 74 .sub 73 1<|U 75 (.iad 2) [72,74]<|A 76 0 75<|L 77 76<|C 78 .leq 67 77<|.nil) (t 78) [6,7,65]<|.nil) (t 79) [6,7,62]<|M 5 80<|.nil) [0,1,3,7,15,31,63,127,255,511,1023,2047,1023,5119,13311,29695,62463,1023,132095,521215,1045503,2094079,4194303,8388607,16777215,33554431]))<|.reg<|B 81 .add 51 1<|M 51 81<|.nil)))<|.reg<|M 82 0<|M 83 5<|U 84 (.build z2 []) []<|f 85 61 [t 82,t 83,t 84] [82,83,84,85]<|.nil,true⟩
def zJ:PC:=R (M 6 19<|.nil)<|.reg<|M 7 20<|.nil
def zK:PC:=.block 3 (.seq (R (o 21 .loadS [t 2] []<|m 22 6<|U 23 .callV [21,22]<|O 24 (.un .not) 23<|.nil)<|.condL (t 24) (.ret) (.skip))<|R (a 25 3 1<|L 26 25<|M 27 6<|U 28 (.iad 22) [26,27]<|A 29 15 28<|L 30 29<|M 8 30<|.nil)<|R (m 31 8<|B 32 .neq 31 0<|M 33 32<|x 35 33 true (M 34 7<|.nil) (t 34) [7,33]<|.nil)<|.cond (t 35) (.seq (.regD 4 (O 36 (.loadA 6) 1<|L 37 3<|M 38 8<|U 39 (.callF 52) [36,37,38]<|L 40 2<|o 41 .callV [t 39,t 40] [39,40,41]<|.nil) [0,0,0,7,0,31])<|.ret) (.skip))
def p49:cD:=⟨43,[],R (O 2 (.box 117 1) 0<|.nil)<|R (o 9 (.loadA 6) [t 1] []<|O 10 (.callF 50) 9<|U 3 (.alloc 118 [ZN]) []<|.sto (.store 1) [t 3,t 10] [10]<|.nil)<|R (o 11 .loadS [t 3] []<|o 12 (.len 0) [t 11] []<|o 13 .mov [c 0] []<|.nil)<|.block 0 (.loop [1,2,3,11,12,13] [] (R (b 14 .lss [t 13,t 12] []<|.nil)<|.seq (.cond (t 14) (.skip) (.exit 0))<|.seq (.block 1 (R (o 15 (.iad 4) [t 11,t 13] []<|O 16 (.loadA 4) 15<|U 5 (.alloc 124 z12) []<|.sto (.store 4) [t 5,t 16] [16]<|.nil)<|R (O 17 (.loadA 4) 5<|O 18 (.callF 51) 17<|.nil)<|.block 2 (.rangeF 43 [1,2,3] (t 18) [19,20] zJ zK)))<|.reg<|B 42 .add 13 1<|M 13 42<|.nil)),true⟩
def p55:cD:=⟨103,[],R (O 5 (.box 101 13) 1<|.nil)<|R (U 16 .mkmap []<|M 8 16<|.nil)<|.seq (R (a 17 5 5<|L 18 17<|o 19 (.len 0) [t 18] []<|o 20 .mov [c 0] []<|.nil)<|.block 0 (.loop [0,2,3,5,8,18,19,20] [0,8] (R (b 21 .lss [t 20,t 19] []<|.nil)<|.seq (.cond (t 21) (.skip) (.exit 0))<|.seq (.block 1 (R (m 22 20<|o 23 (.iad 5) [t 18,t 20] []<|O 24 (.loadA 5) 23<|U 10 (.alloc 168 z13) []<|M 9 22<|.sto (.store 5) [t 10,t 24] [24]<|.nil)<|.seq (.regD 3 (m 26 0<|O 27 .nilc 26<|A 28 1 27<|L 29 28<|a 30 0 10<|O 31 (.loadA 3) 30<|U 32 (.lookup true [.i,.i,.i] (.v (.int .i64 0)) true) [29,31]<|M 25 32<|e 33 0 25 []<|O 34 (.ext 1) 25<|M 11 33<|M 12 34<|.nil) [0,1,3,7,0,16,63,127,255,255,511,2047])<|.seq (R (M 35 12<|O 36 (.un .not) 35<|.nil)<|.condJ [0,2,3,5,8,10,11,18,19,20] (t 36) (R (a 38 0 10<|O 39 (.loadA 3) 38<|O 40 (.callF 82) 39<|M 37 40<|e 41 0 37 []<|O 42 (.ext 1) 37<|M 13 41<|o 14 .mov [t 42] [14,42]<|.nil)<|R (o 43 .mov [t 0] [14]<|O 44 .nilc 43<|A 45 2 44<|O 46 (.loadA 9) 45<|U 15 (.alloc 41 z0) []<|.sto (.store 9) [t 15,t 46] [46]<|.nil)<|.seq (.regX 3 (m 47 2<|M 48 13<|m 49 0<|O 50 .nilc 49<|A 51 11 50<|o 52 .loadS [t 51] []<|C 53 .sub 48 52<|a 54 0 5<|o 55 (.loadA 2) [t 54] []<|M 56 9<|a 57 0 15<|.sto (.store 1) [t 57,t 47] [47]<|a 58 2 15<|.sto (.store 1) [t 58,t 53] [53]<|a 59 6 15<|.sto (.store 2) [t 59,t 55] [55,59]<|a 60 8 15<|.sto (.store 1) [t 60,t 56] [56,60]<|.nil) [0,0,0,4,12,28,62,0,128,0,1,1025,3199,7295,15871,32255,65535,131071] [(5,11,51,57),(8,11,54,57),(8,13,54,58)])<|R (m 61 0<|O 62 .nilc 61<|A 63 0 62<|L 64 63<|O 65 .nilc 64<|L 66 65<|O 67 (.len 0) 66<|M 11 67<|.nil)<|.regX 3 (m 68 0<|O 69 .nilc 68<|A 70 0 69<|o 71 .loadS [t 70] []<|m 72 0<|O 73 .nilc 72<|A 74 0 73<|L 75 74<|O 76 .nilc 75<|L 77 76<|O 78 (.loadA 9) 15<|O 79 (.buildSl 41 9 1 z0 [0]) 78<|U 80 (.append 41 9 72 z0 false) [77,79]<|O 81 .nilc 71<|.sto (.store 1) [t 81,t 80] [81]<|.nil) [0,1,3,7,0,16,48,112,240,496,0,1024,4080,8191,16383] [(3,12,70,80)]) (.skip))<|R (m 82 0<|O 83 .nilc 82<|A 84 0 83<|L 85 84<|O 86 .nilc 85<|L 87 86<|m 88 11<|m 89 3<|U 90 (.iad 9) [87,88]<|A 91 1 90<|.sto (.store 1) [t 91,t 89] [89,91]<|.nil)<|R (a 92 3 10<|L 93 92<|.nil)<|.condJ [0,2,3,5,8,18,19,20] (t 93) (.reg<|m 94 8<|A 95 0 10<|O 96 (.loadA 3) 95<|M 97 11<|.sto (.mapup true [.i,.i,.i]) [t 94,t 96,t 97] [94,96,97]<|.nil) (.skip)))<|.reg<|B 98 .add 20 1<|M 20 98<|.nil)))<|.reg<|M 99 0<|M 100 8<|.fz 100 none<|O 101 .nilc 99<|A 102 1 101<|.sto (.store 1) [t 102,t 100] [100,102]<|.nil,true⟩
def Ql:PC:=.reg<|M 5 8<|.nil
def Qm:PC:=.block 1 (.regD 3 (o 9 .loadS [t 3] []<|M 10 5<|O 11 .nilc 10<|O 12 (.loadA 2) 11<|O 13 (.buildSl 39 2 1 z2 [0]) 12<|U 14 (.append 39 2 16 z2 false) [9,13]<|.sto (.store 1) [t 3,t 14] [3,14]<|.nil) [0,0,2,6,14,31,63])
def p65:cD:=⟨16,[.tmp 2],R (O 1 (.box 27 6) 0<|o 2 .mov [cn] [2]<|.nil)<|R (o 3 (.alloc 25 [ZN]) [] [2]<|.ownc 3 0 39 2 false<|.nil)<|.seq (R (O 6 (.callF 119) 1<|.nil)<|.block 0 (.rangeF 16 [3] (t 6) [7,8] Ql Qm))<|R (L 15 3<|M 2 15<|.nil)<|.ret,true⟩
def p72:cD:=⟨55,[.tmp 5],R (O 4 (.box 63 22) 1<|o 5 .mov [cf] [5]<|.nil)<|R (o 12 (.loadA 22) [t 4] [5]<|O 13 (.callF 24) 12<|M 11 13<|e 14 0 11 []<|O 15 (.ext 1) 11<|o 6 .mov [t 14] [6,14]<|o 7 .mov [t 15] [6,15]<|.nil)<|R (M 16 7<|B 17 .neq 16 0<|M 18 17<|x 23 18 false (a 19 11 4<|L 20 19<|f 21 63 [t 20,c (-7),c 7] [20]<|O 22 (.un .not) 21<|.nil) (t 22) [18]<|M 8 23<|.nil)<|.seq (R (o 24 .loadS [t 2] []<|O 25 .nilc 24<|A 26 0 25<|A 27 2 26<|L 28 27<|o 29 (.len 0) [t 28] []<|o 30 .mov [c 0] []<|.nil)<|.block 0 (.loop [2,4,8,28,29,30] [8] (R (b 31 .lss [t 30,t 29] []<|.nil)<|.seq (.cond (t 31) (.skip) (.exit 0))<|.seq (.block 1 (R (o 32 (.iad 6) [t 28,t 30] []<|O 33 (.loadA 6) 32<|U 10 (.alloc 56 z7) []<|.sto (.store 6) [t 10,t 33] [33]<|.nil)<|R (o 34 .loadS [t 2] []<|O 35 .nilc 34<|A 36 0 35<|A 37 1 36<|L 38 37<|M 39 38<|x 42 39 true (m 40 8<|O 41 (.un .not) 40<|.nil) (t 41) [39]<|.nil)<|.condJ [2,4,8,28,29,30] (t 42) (R (a 44 11 4<|L 45 44<|A 46 3 10<|O 47 (.loadA 2) 46<|U 48 (.callF 73) [45,47]<|M 43 48<|e 49 0 43 [49]<|e 50 1 43 [43,49]<|M 7 50<|.nil)<|.reg<|M 51 7<|B 52 .neq 51 0<|M 8 52<|.nil) (.skip)))<|.reg<|B 53 .add 30 1<|M 30 53<|.nil)))<|R (M 54 8<|M 5 54<|.nil)<|.ret,true⟩
def p92:cD:=⟨108,[],R (U 10 (.alloc 103 [ZS,(J 0)]) []<|.nil)<|R (U 11 (.alloc 159 z10) []<|.nil)<|.seq (R (M 18 0<|O 19 .nilc 18<|A 20 0 19<|A 21 3 20<|L 22 21<|o 23 (.len 0) [t 22] []<|o 24 .mov [c 0] []<|.nil)<|.block 0 (.loop [1,2,3,4,10,11,22,23,24] [4,10,11] (R (b 25 .lss [t 24,t 23] []<|.nil)<|.seq (.cond (t 25) (.skip) (.exit 0))<|.seq (.block 1 (R (m 26 24<|o 27 (.iad 22) [t 22,t 24] []<|O 28 (.loadA 22) 27<|U 13 (.alloc 63 z1) []<|M 12 26<|.sto (.store 22) [t 13,t 28] [28]<|.nil)<|.seq (R (m 29 1<|a 30 21 13<|L 31 30<|O 32 (.len 0) 31<|C 33 .geq 29 32<|M 34 33<|x 44 34 false (m 35 2<|a 36 21 13<|L 37 36<|m 38 1<|U 39 (.iad 2) [37,38]<|A 40 1 39<|L 41 40<|O 42 (.len 0) 41<|C 43 .geq 35 42<|.nil) (t 43) [34]<|.nil)<|.cond (t 44) (.exit 1) (.skip))<|R (A 45 21 13<|L 46 45<|m 47 1<|U 48 (.iad 2) [46,47]<|A 49 1 48<|L 50 49<|m 51 2<|U 52 (.iad 2) [50,51]<|A 53 0 52<|L 54 53<|o 55 (.len 0) [t 54] []<|o 56 .mov [c 0] []<|.nil)<|.block 2 (.loop [1,2,3,4,10,11,12,22,23,24,54,55,56] [1,2,3,4,10,11,22,23,24] (R (b 57 .lss [t 56,t 55] []<|.nil)<|.seq (.cond (t 57) (.skip) (.exit 2))<|.seq (.block 3 (R (m 58 56<|o 59 (.iad 13) [t 54,t 56] []<|O 60 (.loadA 13) 59<|U 15 (.alloc 101 z5) []<|M 14 58<|.sto (.store 13) [t 15,t 60] [60]<|.nil)<|.seq (R (o 61 (.loadA 13) [t 15] []<|m 62 3<|U 63 (.callF 149) [61,62]<|.nil)<|.cond (t 63) (.exit 3) (.skip))<|.seq (.regX 3 (m 64 1<|m 65 12<|m 66 2<|M 67 14<|o 68 (.build z10 [(0,1),(2,1),(3,1),(4,1),(5,1)]) [c 4,t 64,t 65,t 66,t 67] [64,65,66,67]<|A 69 10 15<|o 70 .loadS [t 69] []<|m 71 3<|U 72 (.iad 2) [70,71]<|o 73 (.loadA 2) [t 72] []<|U 16 (.alloc 159 z10) []<|U 17 (.alloc 103 [ZS,(J 0)]) []<|.sto (.store 7) [t 16,t 68] [68]<|.sto (.store 2) [t 17,t 73] [73]<|.nil) [0,0,0,0,15,0,32,0,224,480,0,0,3103,8191] [(6,12,69,16),(9,12,72,16)])<|.seq (R (a 74 1 10<|L 75 74<|B 76 .eql 75 1<|M 77 76<|x 81 77 true (a 78 0 17<|L 79 78<|b 80 .eql [t 79,.c (.v (.string ⟨#[]⟩))] [79]<|.nil) (t 80) [77]<|.nil)<|.condJ [1,2,3,4,10,11,12,16,17,22,23,24,54,55,56] (t 81) (.reg<|m 82 4<|o 83 (.loadA 7) [t 11] []<|.sto (.mapup true [.i,.i,.i,.i,.i,.i,.i]) [t 82,t 83,ct] [82,83]<|.nil) (.skip))<|.seq (R (a 84 0 17<|L 85 84<|b 86 .eql [t 85,.c (.v (.string ⟨#[]⟩))] [85]<|M 87 86<|x 91 87 true (a 88 1 17<|L 89 88<|B 90 .eql 89 2<|.nil) (t 90) [87]<|M 92 91<|x 96 92 true (a 93 1 10<|L 94 93<|B 95 .neq 94 2<|.nil) (t 95) [92]<|.nil)<|.condJ [1,2,3,4,10,11,12,16,17,22,23,24,54,55,56] (t 96) (.reg<|m 97 4<|o 98 (.loadA 7) [t 16] []<|.sto (.mapup true [.i,.i,.i,.i,.i,.i,.i]) [t 97,t 98,ct] [97,98]<|.nil) (.skip))<|.regX 3 (O 99 (.loadA 2) 17<|o 100 (.loadA 7) [t 16] []<|.sto (.store 2) [t 10,t 99] [99]<|.sto (.store 7) [t 11,t 100] [100]<|.nil) [0,0,1,7] [(1,2,16,10)]))<|.reg<|B 101 .add 56 1<|M 56 101<|.nil))))<|.reg<|B 102 .add 24 1<|M 24 102<|.nil)))<|R (A 103 1 10<|L 104 103<|B 105 .eql 104 1<|.nil)<|.condJ [] (t 105) (.reg<|M 106 4<|O 107 (.loadA 7) 11<|.sto (.mapup true [.i,.i,.i,.i,.i,.i,.i]) [t 106,t 107,ct] [106,107]<|.nil) (.skip),true⟩
def p93:cD:=⟨9,[.tmp 5],R (O 3 (.box 159 7) 0<|o 4 (.box 101 13) [t 1] [1,4]<|o 5 .mov [cf] [4,5]<|.nil)<|R (o 6 .loadS [t 2] [2,5]<|O 7 (.loadA 7) 3<|U 8 (.lookup true [.i,.i,.i,.i,.i,.i,.i] (.v (.bool false)) false) [6,7]<|M 5 8<|.nil)<|.ret,true⟩
def Io:PC:=.reg<|U 5 (.alloc 41 z0) []<|.sto (.store 9) [t 5,t 7] [7]<|.nil
def Ip:PC:=.block 1 (.reg<|o 8 .loadS [t 2] []<|O 9 (.loadA 9) 5<|O 10 (.buildSl 41 9 1 z0 [0]) 9<|U 11 (.append 41 9 72 z0 false) [8,10]<|.sto (.store 1) [t 2,t 11] [2,11]<|.nil)
def wU1:cD:=⟨13,[.tmp 4],R (O 2 (.box 32 1) 0<|.ownc 2 0 41 9 false<|o 4 .mov [cn] [4]<|.nil)<|.seq (R (o 6 .mov [t 1] [1,4]<|.nil)<|.block 0 (.rangeF 13 [2] (t 6) [7] Io Ip))<|R (L 12 2<|M 4 12<|.nil)<|.ret,true⟩
def gE2:cD:=⟨73,[.tmp 4],R (O 2 (.box 101 13) 0<|O 3 (.box 101 13) 1<|o 4 .mov [cf] [4]<|.nil)<|R (o 5 (.fad 2) [t 2] [4]<|L 6 5<|a 7 2 3<|L 8 7<|C 9 .eql 6 8<|M 10 9<|x 16 10 true (a 11 3 2<|O 12 (.loadA 2) 11<|a 13 3 3<|O 14 (.loadA 2) 13<|U 15 (.eqA false [.i,.i]) [12,14]<|.nil) (t 15) [10]<|M 17 16<|x 23 17 true (a 18 7 2<|L 19 18<|a 20 7 3<|L 21 20<|C 22 .eql 19 21<|.nil) (t 22) [17]<|M 24 23<|x 30 24 true (a 25 8 2<|L 26 25<|a 27 8 3<|L 28 27<|C 29 .eql 26 28<|.nil) (t 29) [24]<|M 31 30<|x 37 31 true (a 32 9 2<|L 33 32<|a 34 9 3<|L 35 34<|C 36 .eql 33 35<|.nil) (t 36) [31]<|M 38 37<|x 44 38 true (a 39 11 2<|L 40 39<|a 41 11 3<|L 42 41<|C 43 .eql 40 42<|.nil) (t 43) [38]<|M 45 44<|x 51 45 true (a 46 12 2<|L 47 46<|a 48 12 3<|L 49 48<|C 50 .eql 47 49<|.nil) (t 50) [45]<|M 52 51<|x 58 52 true (a 53 5 2<|L 54 53<|a 55 5 3<|L 56 55<|U 57 (.callF 177) [54,56]<|.nil) (t 57) [52]<|M 59 58<|x 65 59 true (a 60 6 2<|L 61 60<|a 62 6 3<|L 63 62<|U 64 (.callF 178) [61,63]<|.nil) (t 64) [59]<|M 66 65<|x 72 66 true (A 67 10 2<|L 68 67<|A 69 10 3<|L 70 69<|U 71 (.callF 179) [68,70]<|.nil) (t 71) [2,3,66]<|M 4 72<|.nil)<|.ret,true⟩
def gF2:cD:=⟨9,[.tmp 3],R (O 2 (.box 168 5) 0<|o 3 .mov [cf] [3]<|.nil)<|R (o 4 (.fad 0) [t 2] [2,3]<|O 5 (.loadA 3) 4<|A 6 0 1<|O 7 (.loadA 3) 6<|U 8 (.eqA false [.i,.i,.i]) [5,7]<|M 3 8<|.nil)<|.ret,true⟩
def gG2:cD:=⟨19,[.tmp 4],R (O 2 (.box 101 13) 0<|o 4 .mov [cf] [4]<|.nil)<|R (o 5 .mov [t 1] [4]<|a 6 10 2<|L 7 6<|O 8 (.len 0) 7<|C 9 .geq 5 8<|M 10 9<|x 18 10 false (A 11 10 2<|L 12 11<|M 13 1<|U 14 (.iad 2) [12,13]<|O 15 (.loadA 2) 14<|U 16 (.build [ZS,(J 0)] []) []<|U 17 (.eqA false [.s,.i]) [15,16]<|.nil) (t 17) [1,2,10]<|M 4 18<|.nil)<|.ret,true⟩
def gH2:cD:=⟨50,[.tmp 2],R (O 1 (.box 59 8) 0<|o 2 .mov [cf] [2]<|.nil)<|.seq (R (o 7 (.fad 2) [t 1] [2]<|O 8 (.loadA 6) 7<|U 9 (.build z19 []) []<|U 10 (.eqA false [.i,.i,.i,.i,.i,.i]) [8,9]<|.nil)<|.cond (t 10) (R (o 2 .mov [ct] []<|.nil)<|.ret) (.skip))<|R (o 3 .mov [c 0] []<|o 4 .mov [c 0] []<|.nil)<|.seq (R (a 11 2 1<|O 12 (.loadA 6) 11<|o 13 .mov [c 0] []<|.nil)<|.block 0 (.loop [1,3,4,12,13] [1,2,3,4] (R (b 14 .lss [t 13,c 6] []<|.nil)<|.seq (.cond (t 14) (.skip) (.exit 0))<|.seq (.block 1 (R (m 15 13<|o 16 (.idxA 6 1 false) [t 12,t 13] []<|M 5 15<|M 6 16<|.nil)<|.block 2 (R (m 18 6<|B 19 .lss 18 0<|M 20 19<|x 23 20 false (m 21 6<|B 22 .gtr 21 64<|.nil) (t 22) [20]<|M 24 23<|x 32 24 false (m 25 6<|B 26 .gtr 25 0<|M 27 26<|x 31 27 true (M 28 5<|m 29 4<|C 30 .neq 28 29<|.nil) (t 30) [5,27]<|.nil) (t 31) [5,24]<|M 17 32<|.nil)<|.cond (t 17) (R (o 2 .mov [cf] []<|.nil)<|.ret) (R (m 34 6<|B 35 .gtr 34 0<|M 33 35<|.nil)<|.condJ [1,3,4,12,13] (t 33) (.reg<|M 36 3<|M 37 6<|C 38 .add 36 37<|M 39 4<|B 40 .add 39 1<|M 3 38<|M 4 40<|.nil) (.skip)))))<|.reg<|B 41 .add 13 1<|M 13 41<|.nil)))<|R (M 42 3<|A 43 0 1<|L 44 43<|C 45 .eql 42 44<|M 46 45<|x 49 46 true (M 47 4<|B 48 .geq 47 2<|.nil) (t 48) [4,46]<|M 2 49<|.nil)<|.ret,true⟩
def gI2:cD:=⟨26,[.tmp 4],R (o 4 .mov [cf] [4]<|.nil)<|.seq (R (o 6 .mov [t 0] [4]<|O 7 (.len 0) 6<|m 8 1<|O 9 (.len 0) 8<|C 10 .neq 7 9<|.nil)<|.cond (t 10) (R (o 4 .mov [cf] []<|.nil)<|.ret) (.skip))<|.seq (R (m 11 0<|O 12 (.len 0) 11<|o 13 .mov [c 0] []<|.nil)<|.block 0 (.loop [0,1,12,13] [4] (R (b 14 .lss [t 13,t 12] []<|.nil)<|.seq (.cond (t 14) (.skip) (.exit 0))<|.seq (.block 1 (R (m 15 13<|M 5 15<|.nil)<|.seq (.regD 3 (m 16 0<|m 17 5<|U 18 (.iad 5) [16,17]<|O 19 (.loadA 5) 18<|m 20 1<|M 21 5<|U 22 (.iad 5) [20,21]<|O 23 (.loadA 5) 22<|U 24 (.eqA true [.i,.i,.i,.b,.i]) [19,23]<|.nil) [0,0,3,7,0,0,48,112,255])<|.cond (t 24) (R (o 4 .mov [cf] []<|.nil)<|.ret) (.skip)))<|.reg<|B 25 .add 13 1<|M 13 25<|.nil)))<|R (o 4 .mov [ct] []<|.nil)<|.ret,true⟩
def gJ2:cD:=⟨26,[.tmp 4],R (o 4 .mov [cf] [4]<|.nil)<|.seq (R (o 6 .mov [t 0] [4]<|O 7 (.len 0) 6<|m 8 1<|O 9 (.len 0) 8<|C 10 .neq 7 9<|.nil)<|.cond (t 10) (R (o 4 .mov [cf] []<|.nil)<|.ret) (.skip))<|.seq (R (m 11 0<|O 12 (.len 0) 11<|o 13 .mov [c 0] []<|.nil)<|.block 0 (.loop [0,1,12,13] [4] (R (b 14 .lss [t 13,t 12] []<|.nil)<|.seq (.cond (t 14) (.skip) (.exit 0))<|.seq (.block 1 (R (m 15 13<|M 5 15<|.nil)<|.seq (.regD 3 (m 16 0<|m 17 5<|U 18 (.iad 5) [16,17]<|O 19 (.loadA 5) 18<|m 20 1<|M 21 5<|U 22 (.iad 5) [20,21]<|O 23 (.loadA 5) 22<|U 24 (.eqA true [.i,.i,.i,.i,.b]) [19,23]<|.nil) [0,0,3,7,0,0,48,112,255])<|.cond (t 24) (R (o 4 .mov [cf] []<|.nil)<|.ret) (.skip)))<|.reg<|B 25 .add 13 1<|M 13 25<|.nil)))<|R (o 4 .mov [ct] []<|.nil)<|.ret,true⟩
def gK2:cD:=⟨26,[.tmp 4],R (o 4 .mov [cf] [4]<|.nil)<|.seq (R (o 6 .mov [t 0] [4]<|O 7 (.len 0) 6<|m 8 1<|O 9 (.len 0) 8<|C 10 .neq 7 9<|.nil)<|.cond (t 10) (R (o 4 .mov [cf] []<|.nil)<|.ret) (.skip))<|.seq (R (m 11 0<|O 12 (.len 0) 11<|o 13 .mov [c 0] []<|.nil)<|.block 0 (.loop [0,1,12,13] [4] (R (b 14 .lss [t 13,t 12] []<|.nil)<|.seq (.cond (t 14) (.skip) (.exit 0))<|.seq (.block 1 (R (m 15 13<|M 5 15<|.nil)<|.seq (.regD 3 (m 16 0<|m 17 5<|U 18 (.iad 2) [16,17]<|O 19 (.loadA 2) 18<|m 20 1<|M 21 5<|U 22 (.iad 2) [20,21]<|O 23 (.loadA 2) 22<|U 24 (.eqA true [.s,.i]) [19,23]<|.nil) [0,0,3,7,0,0,48,112,255])<|.cond (t 24) (R (o 4 .mov [cf] []<|.nil)<|.ret) (.skip)))<|.reg<|B 25 .add 13 1<|M 13 25<|.nil)))<|R (o 4 .mov [ct] []<|.nil)<|.ret,true⟩
def gL2:cD:=⟨6,[.tmp 2],R (O 1 (.box 103 2) 0<|o 2 .mov [cf] [2]<|.nil)<|R (o 3 (.loadA 2) [t 1] [1,2]<|U 4 (.build [ZS,(J 0)] []) []<|U 5 (.eqA false [.s,.i]) [3,4]<|M 2 5<|.nil)<|.ret,true⟩
def vL:PC:=R (U 6 (.alloc 159 z10) []<|.sto (.store 7) [t 6,t 13] [13]<|.nil)<|.reg<|M 7 14<|.nil
def vM:PC:=.block 1 (.seq (.regD 3 (M 15 7<|O 16 .nilc 15<|O 17 (.loadA 2) 16<|O 18 (.loadA 2) 3<|U 19 (.eqA false [.i,.i]) [17,18]<|.nil) [0,1,3,0,15])<|.cond (t 19) (R (O 20 (.loadA 7) 6<|.sto (.store 7) [t 4,t 20] [4,20]<|.sto (.store 1) [t 5,ct] [5]<|.nil)<|.ret) (.skip))
def gM2:cD:=⟨22,[.cellA 4 7,.cellS 5],R (O 2 (.box 27 6) 0<|O 3 (.box 39 2) 1<|U 4 (.alloc 159 z10) []<|U 5 (.alloc 4 [ZB]) []<|.nil)<|.seq (R (o 8 (.loadA 2) [t 3] []<|U 9 (.build z2 []) []<|U 10 (.eqA false [.i,.i]) [8,9]<|.nil)<|.cond (t 10) (R (U 11 (.build z10 []) []<|.sto (.store 7) [t 4,t 11] [11]<|.sto (.store 1) [t 5,cf] []<|.nil)<|.ret) (.skip))<|.seq (R (O 12 (.callF 119) 2<|.nil)<|.block 0 (.rangeF 22 [3,4,5] (t 12) [13,14] vL vM))<|R (U 21 (.build z10 []) []<|.sto (.store 7) [t 4,t 21] [21]<|.sto (.store 1) [t 5,cf] []<|.nil)<|.ret,true⟩
def zL:{l:aA cD//l=[aP 4 0x111110001111011110019511101028512ad2a221110011751111110010185111110010328a12010001f1b193251ff1fe1fd281f1b19318000011110001100211f1b193400110001cf1e2211110011185111031cb12010001b193241c81bf1be1b197370001001ad122111111075111110106511991c221125118d1a22112511891822112517d622112511111101101110110111011001110110011101101001110351110251112122121 true,aP 6 0x12cb122111145111110451111104511111045111101111111110011025110011111101110101111110111010130011110111010011111010018764321719187643170000111111010185111111010011100643215187643160000111104511111045111105e1201101001110021264314001110011111101018511111101001110043214543140002122121 true,aP 8 0x1111111111111bc1ba2201bb1ae2201110101001111100110036a69685b5a591c1b1a191861c10111111001019511111001036d12010005b5a591a1918676a69685b5a591c1b1a191861c00005f1210100001a15b5a591a1918670001019591a05104119453104101011101111194531041010111011011945310410101110110512542201959405141241 true,aP 11 0x111121222121 true,aP 13 0x111111111111101145310410101110111111103912101000075432d2c2b72500011011453104101011051254224121 true,aP 14 0x1110125310401131232222121 true,aP 15 0x1111111118b6e22018b18a1891887c7b620011101037a121010000592e2d1a18765411a6e6d6c592e2d1c1b1a18765411f00010116a43114685f220100010002e2d5415592e2d1a18765411a00111110102e2d1a18765411911019123f19221110011001000412e2d5415001011001959046610401925310401131232222121 true,aP 16 0x16d122111145111101111110011111010011100321354314000011110451111104511110291201101001110021231202122121 true,aP 17 0x1111111111111101110101011111010043135431400011100314313002122121 true,aP 19 0x1112022212 true,aP 21 0x1111111b85f221b81af2210111111111101851111101f51111102e51111110786e221111011100205f5e5d342a100115b594f4d4b493f3d3b392f2d2b291f1d1b29310101010101010101010101010101010101031ec71966114121222121 true,aP 22 0x121222121 true,aP 23 0x111101100011100100011110106511102c12010004129281f5250001100011000114124121 true,aP 24 0x110001100001110111411111000011101010110111011131232222121 true,aP 25 0x11111111111117122d72211011128121010000311c1b1a340001112122121 true,aP 26 0x11111111111c1201000311918734000112122121 true,aP 27 0x11111111011110111002a12101000065431e1d1c140001100001612652254224121 true,aP 28 0x118943104111011117b2e2207b7a6e6a4c5211101100111011101110100302e2d2c1c643201911101045110103912010001c022e2d2c1c643201900011b122b1b221101101 true,aP 29 0x11a522488888888881a19184210114022412 true,aP 30 0x121222121 true,aP 31 0x111111111110110111011011010110101101011010110101101412341211 true,aP 32 0x2be2bd2bc1df4202ac022111111175111111110751111111110185111111111018511111110011dd69221dd1dc1da1d9421110111111c91a2211114511111045111b9120100018a18918869685f650191ae1ad1ac18a18918869685f6501c0001111111045111110451118d120100069685f650618a18918869685f650190001011111045111106c12010000169685f04000111101592922059584e2d4211111104511111105511110032c12010000129281f0400011110 true,aP 34 0x1a19183211712011110 true,aP 35 0x4a492211113e2b2203e3d3b2f42111110032e12010001c1b1a042b2a291c1b1a07000111f1201000011c1b1a0400011110 true]}:=by
 apply Subtype.mk
 conv=>rhs;reduce
def p4:cD:=zg zL.1 0
def p6:cD:=zg zL.1 1
def p8:cD:=zg zL.1 2
def p11:cD:=zg zL.1 3
def p13:cD:=zg zL.1 4
def p14:cD:=zg zL.1 5
def p15:cD:=zg zL.1 6
def p16:cD:=zg zL.1 7
def p17:cD:=zg zL.1 8
def p19:cD:=zg zL.1 9
def p21:cD:=zg zL.1 10
def p22:cD:=zg zL.1 11
def p23:cD:=zg zL.1 12
def p24:cD:=zg zL.1 13
def p25:cD:=zg zL.1 14
def p26:cD:=zg zL.1 15
def p27:cD:=zg zL.1 16
def p28:cD:=zg zL.1 17
def p29:cD:=zg zL.1 18
def p30:cD:=zg zL.1 19
def p31:cD:=zg zL.1 20
def p32:cD:=zg zL.1 21
def p34:cD:=zg zL.1 22
def p35:cD:=zg zL.1 23
def zM:{l:aA cD//l=[aP 36 0x43232101 true,aP 37 0x32221 true,aP 38 0x32221 true,aP 39 0x32221 true,aP 40 0x43232101 true,aP 41 0x43232101 true,aP 42 0x4a49483211111113c2c223c3b3a39382f62010001000291e1d42062c291e1d5420180010001e1d204291e1d42060010002021e1d20400111111071200 true,aP 43 0x13d292203d3c3a2e42111110032d121010000029281f305000111101a2221922210110 true,aP 44 0x17c2b227c7b7978421110111011111001100195111100301102511111005511002b2a2965320182b2a2976543201a0002f12101000002b2a293206000111101110110 true,aP 45 0x19f19e7f7e4211111111111111010316c32278322111351110185111103511015b3c225b5a583211101114c121011003f12010003023c3b3a3050001111412412001111111e121e1d220111110 true,aP 46 0x43232101 true,aP 47 0x32221 true,aP 48 0x43232101 true,aP 50 0x111113242ad1851141111113111110011111011132428d18511411110115431411110111101113241ec185114101154314111100351101111011121ca2311411c81bf2201111111111011ad1ac2201101019f19d22101110001110111110101b5111101103191873151918731506d12011111101000111110107511110018753151875315000339b276613d1240110154314111102d1201101001110043135431400004888888888c1fc305121242121 false,aP 51 0x121222121 true,aP 52 0x1654342612111 true,aP 53 0x1111010101131232222121 true,aP 54 0x1115253104101011111111111110011111006b6a693f3e3d2f2e2d1e1d1c1b1976542a1110101011100003f3e3d2f2e2d76541a6b6a693f3e3d2f2e2d1b1976541f000001011101101b1a221b1201100104b1210100002f2e2d65463f3e3d2f2e2d76541a000113b1210100006522f2e2d6546000110528e60510411101131232222121 true,aP 56 0x112022212 true,aP 57 0x18764421110 true,aP 58 0x11211101a12010000765040001 true,aP 59 0x1111110100110003221876340001212212 true,aP 60 0x1110010000100010111011412412 true,aP 61 0x2d2b2211111111111110030111 true]}:=by
 apply Subtype.mk
 conv=>rhs;reduce
def p36:cD:=zg zM.1 0
def p37:cD:=zg zM.1 1
def p38:cD:=zg zM.1 2
def p39:cD:=zg zM.1 3
def p40:cD:=zg zM.1 4
def p41:cD:=zg zM.1 5
def p42:cD:=zg zM.1 6
def p43:cD:=zg zM.1 7
def p44:cD:=zg zM.1 8
def p45:cD:=zg zM.1 9
def p46:cD:=zg zM.1 10
def p47:cD:=zg zM.1 11
def p48:cD:=zg zM.1 12
def p50:cD:=zg zM.1 13
def p51:cD:=zg zM.1 14
def p52:cD:=zg zM.1 15
def p53:cD:=zg zM.1 16
def p54:cD:=zg zM.1 17
def p56:cD:=zg zM.1 18
def p57:cD:=zg zM.1 19
def p58:cD:=zg zM.1 20
def p59:cD:=zg zM.1 21
def p60:cD:=zg zM.1 22
def p61:cD:=zg zM.1 23
def zN:{l:aA cD//l=[aP 62 0x17303211111551110212212 true,aP 63 0x11a203211135111612612 true,aP 64 0x2812211135111103511110351112122121 true,aP 66 0x16122111351112122121 true,aP 67 0x11111010101d1201000411a191814000142224121 true,aP 68 0x1381c220382f2d2942111010032812101000001c1b1a10500011110 true,aP 69 0x11111117a1b227f1b22111145111101a5117812010002c2b2a646d6c6b2c2b2a6700011111111110019511111110651111035111112f1201000612c2b2a6400011111115125121 true,aP 70 0x1111010112022212 true,aP 71 0x118a6221125111111015f1b1a326a1b1a3211111110111a51101e51111101065111110451133f1210100002c2b2a76563b3a392c2b2a197651a000102f12010007622c2b2a76560001101110114124121 true,aP 73 0x11111010010101110100101011111111010001110351111035111103511101010101151254224121 true,aP 74 0x65432111 true,aP 75 0x15022112511212212 true,aP 76 0x150221113511212212 true,aP 77 0x11111117a5a2207a796f5f421110110000035e1210100004a49483a39382a292864101d5a59584a49483a39382a292818641029000114e1210100003a39382a2928410194a49483a39382a292864101d000113e1210100002a29281053a39382a292841019000112e12101000002a292810500011110 true,aP 78 0x111432241221222022 true,aP 79 0x1111111101101101103110100111110110110301100011110451110000111003001110110100111111011121232121 true,aP 80 0x1691a432111145110105c12015b12106421111114c121111111110642311103818222f1822110011111110300001151251211 true,aP 81 0x1111154221a5221101132223121 true,aP 82 0x1111010101131232222121 true,aP 83 0x11114022412 true,aP 84 0x111131223121 true,aP 85 0x11114022412 true,aP 86 0x111131223121 true,aP 87 0x14918432111145111972203e19223d1201011111113012c1201011111103001151251211 true]}:=by
 apply Subtype.mk
 conv=>rhs;reduce
def p62:cD:=zg zN.1 0
def p63:cD:=zg zN.1 1
def p64:cD:=zg zN.1 2
def p66:cD:=zg zN.1 3
def p67:cD:=zg zN.1 4
def p68:cD:=zg zN.1 5
def p69:cD:=zg zN.1 6
def p70:cD:=zg zN.1 7
def p71:cD:=zg zN.1 8
def p73:cD:=zg zN.1 9
def p74:cD:=zg zN.1 10
def p75:cD:=zg zN.1 11
def p76:cD:=zg zN.1 12
def p77:cD:=zg zN.1 13
def p78:cD:=zg zN.1 14
def p79:cD:=zg zN.1 15
def p80:cD:=zg zN.1 16
def p81:cD:=zg zN.1 17
def p82:cD:=zg zN.1 18
def p83:cD:=zg zN.1 19
def p84:cD:=zg zN.1 20
def p85:cD:=zg zN.1 21
def p86:cD:=zg zN.1 22
def p87:cD:=zg zN.1 23
def zO:{l:aA cD//l=[aP 88 0x16122111351112122121 true,aP 89 0x6d12006c1211110110011110101101049121111101010001111010100110301a1200110512512011 true,aP 90 0x3a1211111110101013121a474564745547431c12410010110512512011 true,aP 91 0x11002b62212f62211104511101a5110281201000411d1c1b3400011001141241211 true,aP 94 0x11111111116d1c22111351691b22112511111101591201111114b120101110013c12010111002e12010005422b2a29540600011110014505104019388405131243222212 true,aP 95 0x11111111032a1201110000000011041241211 true,aP 96 0x11e322111145111110451114124121 true,aP 97 0x4c1214b12042211113f3e2201103b12003a1210100102d12002c1210110011011c1210111011512512011 true,aP 98 0x1612211111107511121232121 true,aP 99 0x15f420421111116511110111101000111110351110185111103511102a51111104511115125121 true,aP 100 0x11c21321111116511110351113123121 true,aP 101 0x11114022412 true,aP 102 0x13b322111105511130112e73311011101029287341101001110351101652261211 true,aP 103 0x1111016d1918327819183211111110111a51101e51111104511111010651134d1210100007149483f75360001011111045111110451116121e622110114124121 true,aP 104 0x119c1922111145111025118918221101155111110451111035111018692c29185f2c1f185d2c1d1822c19286a125912000101011101111111103001110105512d42211135111012912010110111512351211 true,aP 105 0x11202211120222212 true,aP 106 0x11111112111110000011004f4e4d1c1b310184f4e4d1c1b19183101a01105a12010001c1b1044f4e4d1c1b310180001111111112d2c2b1c1b43101911110103812010001c1b431062d2c2b1c1b431019000101110100001c1b1040010 true,aP 107 0x11111107532051111102511065111110111102511065111104a1201101021100010001110007532050111106532051100111 true,aP 108 0x11111111110001111010651111002b2a291c1b1a53182b2a291c1b1a1876531b011102f1210100001c1b1a342b2a291c1b1a5318000101f1201000311c1b1a3400011212212 true,aP 109 0x1111422241211 true,aP 110 0x11110011111101075111103511100011110351112122121 true,aP 111 0x1111121232121 true,aP 112 0x111121222121 true,aP 113 0x1111145310410101110111522254224121 true]}:=by
 apply Subtype.mk
 conv=>rhs;reduce
def p88:cD:=zg zO.1 0
def p89:cD:=zg zO.1 1
def p90:cD:=zg zO.1 2
def p91:cD:=zg zO.1 3
def p94:cD:=zg zO.1 4
def p95:cD:=zg zO.1 5
def p96:cD:=zg zO.1 6
def p97:cD:=zg zO.1 7
def p98:cD:=zg zO.1 8
def p99:cD:=zg zO.1 9
def gR2:cD:=zg zO.1 10
def gS2:cD:=zg zO.1 11
def gT2:cD:=zg zO.1 12
def gU2:cD:=zg zO.1 13
def gV2:cD:=zg zO.1 14
def gW2:cD:=zg zO.1 15
def rY1:cD:=zg zO.1 16
def wV1:cD:=zg zO.1 17
def wW1:cD:=zg zO.1 18
def gX2:cD:=zg zO.1 19
def gY2:cD:=zg zO.1 20
def gZ2:cD:=zg zO.1 21
def hA2:cD:=zg zO.1 22
def hB2:cD:=zg zO.1 23
def zP:{l:aA cD//l=[aP 115 0x117c6227c7b7a79786f620011062104110011001110115b125b5a59584d4c62001010001007621051876210601010010006210403b3a39382f520010110112a122a29281f1e52001001007621051876210601000 true,aP 116 0x111212212 true,aP 117 0x15022112511212212 true,aP 118 0x11114022412 true,aP 119 0x121222121 true,aP 120 0x1e12111001a120011025113123120 true,aP 121 0x5022112511212212 true,aP 122 0x111862321100001111c12010115125121 true,aP 123 0x11121222121 true,aP 124 0x11114022412 true,aP 125 0x111154225121 true,aP 126 0x11114022412 true,aP 127 0x11b4324211111551111151235121 true,aP 128 0x11114022412 true,aP 129 0x111c5221b5221011142224121 true,aP 130 0x1111010110002176530002022212 true,aP 131 0x710321113511412412 true,aP 132 0x15022112511212212 true,aP 134 0x21a274562745527434a1241494822011132211103a3922010321311102c12011010101d12101111045111001 true,aP 135 0x2812211135111103511110351112122121 true,aP 136 0x1111001118124918221101111110101102e1201000212b2a29340001000111000111212212 true,aP 137 0x11003c422111351110110102d5222c5221011101f1201000211c1b1a300010011212212 true,aP 138 0x3a60321111116511011011110101111f12010002021c1b1a0400000011212212 true,aP 139 0x4c32211251101110011103511110351111035111103511110351112122121 true]}:=by
 apply Subtype.mk
 conv=>rhs;reduce
def wX1:cD:=zg zP.1 0
def hF2:cD:=zg zP.1 1
def hG2:cD:=zg zP.1 2
def hH2:cD:=zg zP.1 3
def rZ1:cD:=zg zP.1 4
def hJ2:cD:=zg zP.1 5
def hN2:cD:=zg zP.1 6
def hO2:cD:=zg zP.1 7
def hP2:cD:=zg zP.1 8
def hQ2:cD:=zg zP.1 9
def hR2:cD:=zg zP.1 10
def hS2:cD:=zg zP.1 11
def hT2:cD:=zg zP.1 12
def hU2:cD:=zg zP.1 13
def hX2:cD:=zg zP.1 14
def hY2:cD:=zg zP.1 15
def hZ2:cD:=zg zP.1 16
def iA2:cD:=zg zP.1 17
def iB2:cD:=zg zP.1 18
def iC2:cD:=zg zP.1 19
def iD2:cD:=zg zP.1 20
def iE2:cD:=zg zP.1 21
def iF2:cD:=zg zP.1 22
def iG2:cD:=zg zP.1 23
def zQ:{l:aA cD//l=[aP 140 0x11111110011121232121 true,aP 141 0x11110111000100041187104001412412 true,aP 142 0x11110111000100041187104001412412 true,aP 143 0x1121222121 true,aP 144 0x1b32321111110101101c511103001141241211 true,aP 145 0x1111111111111111d18531040111111011101001d51110251111111010019511102511111005511181218121 true,aP 146 0x1d12111110 true,aP 147 0x1f12101e1b2201d182201c5220110110110301 true,aP 150 0x19d1211110111011030189120011011c1207b1c2211011111101111011a182235b1a2211011004e120111011111303d1200111035111012c12010111111512351201 true,aP 151 0x11111100011111101107511101c5111101100011111045111100011110351112122121 true,aP 152 0x13b3232483232111111175111101d511111011075111110110751111412341211 true,aP 153 0x1111422241211 true,aP 154 0x11b32321111116511110141241211 true,aP 155 0x1111422241211 true,aP 156 0x11b32321111116511110141241211 true,aP 157 0x11932321111100751110412341211 true,aP 158 0x1fe121101fc1fb2201101f9121001110111075111110105511101a51103011001be12101001bb12100118e6221111110107511101c51111012b5111003018812107c62211251111001110695f1864106a682205e1200011010311111004c12101111010651111035111001101001e121011103511512512011 true,aP 159 0x11110111000100041187104001412412 true,aP 160 0x1111141223412 true,aP 161 0x111111140224121 true,aP 163 0x11111111011110111101111101111110111111212212 true,aP 164 0x1111132223121 true,aP 166 0x11121222121 true,aP 167 0x11114531041010076212d12211104511110351101110110522254224121 true]}:=by
 apply Subtype.mk
 conv=>rhs;reduce
def iH2:cD:=zg zQ.1 0
def iI2:cD:=zg zQ.1 1
def iJ2:cD:=zg zQ.1 2
def iK2:cD:=zg zQ.1 3
def iL2:cD:=zg zQ.1 4
def iM2:cD:=zg zQ.1 5
def iN2:cD:=zg zQ.1 6
def iO2:cD:=zg zQ.1 7
def iP2:cD:=zg zQ.1 8
def iQ2:cD:=zg zQ.1 9
def iR2:cD:=zg zQ.1 10
def iS2:cD:=zg zQ.1 11
def iT2:cD:=zg zQ.1 12
def iU2:cD:=zg zQ.1 13
def iV2:cD:=zg zQ.1 14
def iW2:cD:=zg zQ.1 15
def iX2:cD:=zg zQ.1 16
def iY2:cD:=zg zQ.1 17
def iZ2:cD:=zg zQ.1 18
def jA2:cD:=zg zQ.1 19
def jB2:cD:=zg zQ.1 20
def jC2:cD:=zg zQ.1 21
def jD2:cD:=zg zQ.1 22
def jE2:cD:=zg zQ.1 23
def zR:{l:aA cD//l=[aP 168 0x1111103b3a22111110011100003011003143030016121212212 true,aP 169 0x11111106c6a2216b5e2211100111001000030011111100110001c51100318321051918321060100100018321050110 true,aP 170 0x3bb3ba3b93b83af3ae62111110111003511039d1239d39c39b39a3993986200110382a430511100351102ff122ff2fe2fd2fc2fb2fa6200100382c2a43107111003511001101111112e2d2c2b2a432101a10111110011100003111110001002c2b2a43210182e2d2c2b2a432101a011010101011002d2c2b2a43210191102d122d2c222c121100111110011102881fe2211ff1fa22111001110010000301000291e03011111111f1e4205101111100110003111110001001e2031f1e42050101101100111019c19a22119b18e2211100111001000030110001d1a03011111111b1a410510111100110003111110001001a1031b1a41050111101100 true,aP 171 0x11110111000100041187104001412412 true,aP 172 0x112111111110100100002cf2ce104001111011111111211111111011101110111010000010001dc1db1bc1bb18c18b76101a2881ff1dc1db1bc1bb18c18b1876101d001111011101110111010001bc1bb18c18b61071dc1db1bc1bb18c18b76101a001111011101110100018c18b1041bc1bb18c18b6107001111011102111101110100100010218c18b10400111101111111211111111011101001000281f3105584f281f4310180011110111021111011101001000102281f310500111100 true,aP 173 0x1a1210000000000 true,aP 174 0x11110111000100041187104001412412 true,aP 175 0x11110111000100041187104001412412 true,aP 176 0x11110111000100041187104001412412 true,aP 180 0x111001212212 true,aP 181 0x11111111a32219322101112122121 true,aP 182 0x1100011025111025111111011312232222121 true,aP 183 0x5812211135111011003d322111105511101010002122d2c130011000111100011110351112122121 true,aP 185 0x11200 true,aP 190 0x12c31321111451111004511110045111002122121 true,aP 191 0x15022112511212212 true,aP 192 0x111111111101412341211 true,aP 193 0x11110001102511212212 true,aP 194 0x11b32321111116511110141241211 true,aP 195 0x11202211120222212 true,aP 196 0x1111132223121 true,aP 197 0x1110110111014531040111111453104101011111001111045110014531040111100145310401110251151254224121 true,aP 198 0x1111111111000311876340001212212 true,aP 199 0x79786f6e6d6a6211110011105e1b225e5d5c5b4e4b62001010010001103f1a223f3e3d3c3b386200010001b1a4205110001001a42041b1a4205011011110 true]}:=by
 apply Subtype.mk
 conv=>rhs;reduce
def jF2:cD:=zg zR.1 0
def wY1:cD:=zg zR.1 1
def sA1:cD:=zg zR.1 2
def jG2:cD:=zg zR.1 3
def sB1:cD:=zg zR.1 4
def jH2:cD:=zg zR.1 5
def jI2:cD:=zg zR.1 6
def jJ2:cD:=zg zR.1 7
def jK2:cD:=zg zR.1 8
def jL2:cD:=zg zR.1 9
def jM2:cD:=zg zR.1 10
def jN2:cD:=zg zR.1 11
def jO2:cD:=zg zR.1 12
def jP2:cD:=zg zR.1 13
def jQ2:cD:=zg zR.1 14
def jR2:cD:=zg zR.1 15
def jS2:cD:=zg zR.1 16
def jT2:cD:=zg zR.1 17
def jU2:cD:=zg zR.1 18
def jV2:cD:=zg zR.1 19
def jW2:cD:=zg zR.1 20
def jX2:cD:=zg zR.1 21
def jY2:cD:=zg zR.1 22
def wZ1:cD:=zg zR.1 23
def Em:{l:aA cD//l=[aP 200 0x1710321113511412412 true,aP 202 0x111111111111120211011111120211001112021100 true,aP 203 0x171221111116511112122121 true,aP 204 0x11012531040117a1a22791a2210111111125310410101110110101110110125310403c422111104511118511111125310410101102b12101000032131f1e1d14000131232222121 true,aP 205 0x11104d4b2214c3d221111000111000100010003010001a3210500 true,aP 206 0x11112f2d222e2a29322e28220111101f121010000311b1a1934000117121212212 true,aP 207 0x11111111111453104101011101111011100007543382f2e7050001111011453104101011105125422412 true,aP 208 0x111111111014531040111110110101000185433a3918105001011101145310410102962228622101105125422412 true,aP 209 0x111011110101110351101131232222121 true,aP 210 0x1100111000018e7221101111018511030011101055111110451111104511111001075111103511101045111039121010000412d2c2b6106000011144ce056610400110001102511412412 true,aP 211 0x1111110001101001110111100011025117127622612 true,aP 212 0x111011001111010030107621d1918300111111100011011101111000110030110019187641a1918210601100291201107127622612 true,aP 213 0x1111010101131232222121 true,aP 214 0x111100003d422484221111110101951101d5110311038121110000111011111001a51110321221203121 true,aP 215 0x111112122121 true,aP 216 0x15022112511212212 true,aP 217 0x11111011010000111110110141241211 true,aP 218 0x111111011111101311000111111110131b1a19541611001e12010005421b1a195416000105125422412 true,aP 219 0x1111110111100411c1b43400111011112122121 true,aP 220 0x119213211111017511104124121 true,aP 221 0x1101111103010011020412 true]}:=by
 apply Subtype.mk
 conv=>rhs;reduce
def jZ2:cD:=zg Em.1 0
def kA2:cD:=zg Em.1 1
def kB2:cD:=zg Em.1 2
def kC2:cD:=zg Em.1 3
def xA1:cD:=zg Em.1 4
def kD2:cD:=zg Em.1 5
def kE2:cD:=zg Em.1 6
def kF2:cD:=zg Em.1 7
def kG2:cD:=zg Em.1 8
def kH2:cD:=zg Em.1 9
def kI2:cD:=zg Em.1 10
def kJ2:cD:=zg Em.1 11
def kK2:cD:=zg Em.1 12
def xB1:cD:=zg Em.1 13
def kL2:cD:=zg Em.1 14
def kM2:cD:=zg Em.1 15
def kN2:cD:=zg Em.1 16
def kO2:cD:=zg Em.1 17
def kP2:cD:=zg Em.1 18
def kQ2:cD:=zg Em.1 19
def kR2:cD:=zg Em.1 20
end
noncomputable section
def pl:aA (aB cD):=[none,none,none,none,some p4,none,some p6,none,some p8,none,none,some p11,some p12,some p13,some p14,some p15,some p16,some p17,none,some p19,none,some p21,some p22,some p23,some p24,some p25,some p26,some p27,some p28,some p29,some p30,some p31,some p32,some p33,some p34,some p35,some p36,some p37,some p38,some p39,some p40,some p41,some p42,some p43,some p44,some p45,some p46,some p47,some p48,some p49,some p50,some p51,some p52,some p53,some p54,some p55,some p56,some p57,some p58,some p59,some p60,some p61,some p62,some p63,some p64,some p65,some p66,some p67,some p68,some p69,some p70,some p71,some p72,some p73,some p74,some p75,some p76,some p77,some p78,some p79,some p80,some p81,some p82,some p83,some p84,some p85,some p86,some p87,some p88,some p89,some p90,some p91,some p92,some p93,some p94,some p95,some p96,some p97,some p98,some p99,some gR2,some gS2,some gT2,some gU2,some gV2,some gW2,some rY1,some wV1,some wW1,some gX2,some gY2,some gZ2,some hA2,some hB2,some wU1,some wX1,some hF2,some hG2,some hH2,some rZ1,some hJ2,some hN2,some hO2,some hP2,some hQ2,some hR2,some hS2,some hT2,some hU2,some hX2,some hY2,some hZ2,some iA2,some gE2,some iB2,some iC2,some iD2,some iE2,some iF2,some iG2,some iH2,some iI2,some iJ2,some iK2,some iL2,some iM2,some iN2,some iO2,some gF2,some gG2,some iP2,some iQ2,some iR2,some iS2,some iT2,some iU2,some iV2,some iW2,some iX2,some iY2,some iZ2,some jA2,none,some jB2,some jC2,some gH2,some jD2,some jE2,some jF2,some wY1,some sA1,some jG2,some sB1,some jH2,some jI2,some jJ2,some jK2,some gI2,some gJ2,some gK2,some jL2,some jM2,some jN2,some jO2,some gL2,some jP2,none,none,none,some gM2,some jQ2,some jR2,some jS2,some jT2,some jU2,some jV2,some jW2,some jX2,some jY2,some wZ1,some jZ2,none,some kA2,some kB2,some kC2,some xA1,some kD2,some kE2,some kF2,some kG2,some kH2,some kI2,some kJ2,some kK2,some xB1,some kL2,some kM2,some kN2,some kO2,some kP2,some kQ2,some kR2]
def Iq:sF:=fun f=>bif Nat.beq f 170 then none else(pl[f]?).join
def kA (f:Nat):Bool:=Eg f [19,22,28,29,30,32,33,34,35,36,37,38,39,40,41,42,43,44,45,46,47,48,49,51,55,56,57,58,61,68,74,77,92,94,106,107,108,114,115,119,169,170,172,199,205,214]
def NW1 (f:Nat):Bool:=Eg f [19,22,29,30,51,56,94,108,114,119]
def clN:Nat->aB (Nat×Nat):=fun f=>none
structure Rc where
 G:Int->Int->Int->List aI->Option (List aI)
def RD [Inhabited Rc]:Rc:=default
abbrev RA:=Int×Int×Int×(aA aI)
def rxs (q:RA):aA PV:=[.own 5,i64 q.1,i64 q.2.1,i64 q.2.2.1,.fn 31 [] []]
def rhp (q:RA):bC:=[(5,.lst 4294967337 9 false (List.map aI.g q.2.2.2))]
def rhr (q:RA) (a:aA aI):bC:=[(5,.lst 4294967337 9 false (List.map aI.g a))]
theorem kS2 (a b:RA) (h1:rxs a=rxs b) (h2:rhp a=rhp b):a=b:=by
 obtain⟨c,a1,a2,a3⟩:=a;obtain⟨d,b1,b2,b3⟩:=b;simp only[rxs,i64,aC3,PV.v.injEq,Value.int.injEq,true_and,and_true]at h1;simp only[rhp,aC3,xC2,fQ.lst.injEq,true_and,and_true]at h2
 have h3:=(List.map_inj_right (fun x y h=>by
  obtain⟨_,_,_,_,_,_,⟨_,_⟩,_⟩:=x;obtain⟨_,_,_,_,_,_,⟨_,_⟩,_⟩:=y;simp[aI.g,i64]at h;simp[h])).1 h2
 simp[h1,h3]
def yT [Inhabited Rc]:NB:=⟨NW1,Ts (rC clN) (xA 170 6 rxs rhp rhr fun q=>RD.G q.1 q.2.1 q.2.2.1 q.2.2.2)⟩
def cI1 (f e:Nat):Bool:=Eg f [186,187,188]&&Nat.beq e (match f with|186=>5|187=>5|188=>2|_=>0)
def kT2 (n:Int):YE:=⟨⟨0,n⟩,3,⟨0,0⟩,[],[],0,0,0,[],0,0⟩
def jA1 (n:Int) (b:Bool) (r:Int):YM:=⟨⟨0,n⟩,⟨4,4,⟨0,0,0,0,0,0⟩⟩,0,0,b,r,0,0,0,0,0,⟨#[]⟩,[],[⟨[],[⟨[kT2 (n+1)],[]⟩]⟩]⟩
def cJ1:Y0:=⟨⟨#[]⟩,false,[⟨⟨0,1⟩,⟨#[]⟩,⟨0,0⟩,[⟨⟨0,2⟩,1⟩]⟩],[jA1 3 true 0,jA1 5 false 0,jA1 7 false 2,jA1 9 false 0],[],[⟨0,10⟩]⟩
def tM {A:Type} (l:aA A):aB (aA A):=bif Nat.ble l.length 1073741824 then some l else none
def Yr (k:Bool):tW:=fun f xs=>match xs with
 |[.is e rows]=>bif cI1 f e&&Nat.ble rows.length 1073741824 then some (.is e rows)else none
 |[]=>bif k&&Nat.beq f 7 then some (bv true)else none
 |_=>none
theorem Wu [Inhabited Rc] {k:Bool} {d N:Nat} {ps:aA Nat} {a b:PC} (h:okL kA N ps a b=true):okG (Xd (Yr k) kA yT Iq d).is N ps a b=some ():=by
 unfold okG;rw[show(Xd (Yr k) kA yT Iq d).is=kA from Ms d,wO2 h]
noncomputable abbrev OD [Inhabited Rc] (k:Bool) (d:Nat):tW:=Od (Yr k) kA yT Iq d
noncomputable abbrev XD [Inhabited Rc] (k:Bool) (d:Nat):NX:=Xd (Yr k) kA yT Iq d
theorem od [Inhabited Rc] {k:Bool} {f:Nat} {fn:cD} (a:kA f=false) (h:Iq f=some fn) (b:fn.frz=true) {d:Nat} {xs:aA PV}:OD k (d+1) f xs=sO (OD k d) (XD k d) fn xs some:=wM1 a h b d xs
theorem oe [Inhabited Rc] {k:Bool} {f:Nat} {fn:cD} {d:Nat} {xs:aA PV} {A:Type} {F:aB A} {e:A->PV} (h:(kA f,Iq f,fn.frz)=(false,some fn,true)) (hb:sO (OD k d) (XD k d) fn xs some=F.map e):OD k (d+1) f xs=F.map e:=by
 simp only[xC2]at h;rw[od h.1 h.2.1 h.2.2];exact hb
theorem od2 [Inhabited Rc] {k:Bool} {f:Nat} {fn:cD} (a:kA f=false) (h:Iq f=some fn) (b:fn.frz=false) {d:Nat} {xs:aA PV} {A:Type} {F:aB A} {enc:A->PV} (hg:∀y,tC 4 (enc y)=false) (hb:sO (OD k d) (XD k d) fn xs some=F.map enc):OD k (d+1) f xs=F.map enc:=rW1 a h b d xs hg hb
theorem xd [Inhabited Rc] {k:Bool} {f:Nat} {fn:cD} (h:Iq f=some fn) {d:Nat} {xs:aA PV} {hs:bC} {m:Nat} {nw:Bool}:eD (XD k (d+1)) f xs hs m nw=Qh (OD k d) (XD k d) fn xs hs m (Eh hs nw m):=wN1 h d xs hs m _
theorem yd [Inhabited Rc] {a:Bool} {k d:Nat} {xs:aA PV} {hs:bC} {m:Nat}:uY (XD a (d+1)) k xs hs m=iN1 (OD a d) (XD a d) k xs hs m (Eh hs false m):=rfl
theorem tN [Inhabited Rc] {k:Bool} (f d:Nat) {A:Type} (e:Nat) (c:A->aA PV) (l:aA A) (h1:kA f=false) (h2:Iq f=none) (h3:cI1 f e=true):OD k d f [.is e (l.map c)]=(tM l).map fun l=>.is e (l.map c):=by
 rw[OD,Tq h1 h2];unfold tM;simp only[Yr,h3,Bool.true_and,zG2];cases Nat.ble l.length 1073741824<;>rfl
theorem cK1 [Inhabited Rc] (d:Nat):OD true d 7 []=(some true).map fun y=>bv y:=by
 rw[OD,Tq rfl rfl];rfl
theorem Wv:okL kA 30 [13] zH zI=true:=by kernel_rfl
theorem Ww:okL kA 43 [19,20] zJ zK=true:=by kernel_rfl
theorem rD:okL kA 16 [7,8] Ql Qm=true:=by kernel_rfl
theorem Wx:okL kA 13 [7] Io Ip=true:=by kernel_rfl
theorem mT:okL kA 22 [13,14] vL vM=true:=by kernel_rfl
end
end Go.P
namespace Go.P
open Go.Sim (Ex fC CK)
open K (I Q rq nq xq ck)
abbrev cL (l:aA YV) (s:Y0) (r:Int):bC:=[(2,.lst 116 3 false (I YV.g l)),(1,.box (ck s r (.own 2)))]
abbrev xF1:Nat×fQ:=(1,.box [i64 0,i64 0,i64 0,i64 0,i64 0,.v (.slice none 0 0),.v (.slice none 0 0),i64 0,i64 0,i64 0,.v (.slice none 0 0),i64 0,i64 0])
abbrev En:Nat×fQ:=(8,.loop 30 [(2,.ref 1 0),(3,.ref 2 0),(4,.ref 3 0),(5,.ref 6 0)] [13] zH zI false (some .ret))
abbrev jG:Nat×fQ:=(8,.loop 30 [(2,.ref 1 0),(3,.ref 2 0),(4,.ref 3 0),(5,.ref 6 0)] [13] zH zI false none)
abbrev xC:Nat×fQ:=(5,.loop 22 [(3,.ref 1 0),(4,.ref 2 0),(5,.ref 3 0)] [13,14] vL vM false (some .ret))
abbrev Eo:Nat×fQ:=(13,.loop 43 [(1,.ref 7 0),(2,.ref 9 0),(3,.ref 10 0)] [19,20] zJ zK false (some .ret))
abbrev lG:Nat×fQ:=(5,.loop 22 [(3,.ref 1 0),(4,.ref 2 0),(5,.ref 3 0)] [13,14] vL vM false none)
abbrev xD:Nat×fQ:=(13,.loop 43 [(1,.ref 7 0),(2,.ref 9 0),(3,.ref 10 0)] [19,20] zJ zK false none)
abbrev lH:Nat×fQ:=(4,.loop 16 [(3,.ref 1 0)] [7,8] Ql Qm false none)
abbrev Wy:Nat×fQ:=(6,.loop 13 [(2,.ref 4 0)] [7] Io Ip false none)
abbrev jB1:Nat×fQ:=(2,.box [bv false,i64 0,i64 0,i64 0,bv false,i64 0])
abbrev Nb:Nat×fQ:=(1,.lst 41 9 false (I aI.g []))
abbrev sP:Nat×fQ:=(1,.box [.is 2 (I bJ.g [])])
abbrev Tx:aA (Nat×PV):=[(2,.ref 0 0),(4,.ref 2 0)]
abbrev IR:=Inhabited Rc
theorem ig {α A B:Type} {f:A->aA PV} {l:aA A} {i:Int} {b:Bool} {K:aA PV->aB α} {F:A->aB B} {Y:aB α} {FY:aB B} {enc:B->α} (hk:∀y,K (f y)=(F y).map enc) (hy:Y=FY.map enc:=by rfl):Lj b (cQ (tA (l.map f) i) K) Y=(if b then(bB l i).bind F else FY).map enc:=io (bo rg hk) hy
def cL1 (x1:Int):aB Bool:=
 some ((decide (x1<32))||(x1==127))
theorem xG1 [IR] {k} (d) (x1:Int):OD k (d+1) 117 [.v (.int .u8 x1)]=(cL1 x1).map bv:=by
 refine oe rfl ?_;refine bz (gM rfl) ?_;rfl
def jC1 (x1:aA UInt8):aB Int:=
 (aZ (E:=Int⊕Unit) (fun(x4:Int)=>if decide (x4<(x1.length:Int))then(bB x1 x4).bind fun a=>(cL1 (a.toNat:Int)).bind fun b=>if b then some (.inr (.inl x4))else some (.inl (bF (x4+1)))else some (.inr (.inr ()))) bN 0).bind fun c=>(match c with|.inl x7=>some x7|.inr _=>some (-1))
theorem xH1 [IR] {k} (d) (x1:aA UInt8):OD k (d+2) 171 [.is 1 (I bY1 x1),.fn 117 [] []]=(jC1 x1).map i64:=by
 refine oe rfl ?_;refine bz lm ?_;refine bo (aL (S:=Int) (enc:=fun x4=>(Q [(0,.is 1 (I bY1 x1)),(1,.fn 117 [] []),(7,i64 (x1.length:Int)),(8,i64 x4)] [])) (encE:=(fun|.inl a=>(rq [(4,i64 a)] [])|.inr _=>(xq 0 [] []))) (fun x4=>?_) bN 0) fun c=>?_;refine ig fun b=>?_;refine bo (xG1 d (b.toNat:Int)) fun e=>?_;refine io rfl rfl;rcases c with a|_;rfl;rfl
def Wz (x1:aA UInt8):aB Bool:=
 (jC1 x1).bind fun x2=>some (decide (x2>=0))
theorem xI1 [IR] {k} (d) (x1:aA UInt8):OD k (d+3) 118 [.is 1 (I bY1 x1),.fn 117 [] []]=(Wz x1).map bv:=by
 refine oe rfl ?_;refine bo (xH1 d x1) fun x2=>?_;rfl
def F62 (x1:ByteArray):aB Bool:=
 ((if decide ((x1.size:Int)<=256)then(Wz x1.data.toList).bind fun x2=>some (!x2)else some false:aB (Bool))).bind fun x3=>some x3
theorem sC1 [IR] {k} (d) (x1:ByteArray):OD k (d+4) 62 [.v (.string x1)]=(F62 x1).map bv:=by
 refine oe rfl ?_;refine bo (e:=id) ?_ fun x3=>?_;refine io ?_ rfl;refine bo (xI1 d x1.data.toList) fun x2=>?_;rfl;rfl
def zS (x1:Int) (x2:Int) (x3:Int):aB Bool:=
 some ((decide (x1>=x2))&&(decide (x1<=x3)))
theorem rE [IR] {k} (d) (x1:Int) (x2:Int) (x3:Int):OD k (d+1) 63 [i64 x1,i64 x2,i64 x3]=(zS x1 x2 x3).map bv:=by
 refine oe rfl ?_;refine bz (fW rfl) ?_;rfl
def F64 (x1:YL):aB Int:=
 if(((decide (x1.pV<(-77)))||(decide (x1.pV>77)))||(decide (x1.fG<(-140))))||(decide (x1.fG>140))then some 2 else some 0
theorem kU2 [IR] {k} (d) (x1:YL):OD k (d+1) 64 [.agg (YL.g x1)]=(F64 x1).map i64:=by
 refine oe rfl ?_;refine bz (gM rfl) ?_;refine bz (gM rfl) ?_;refine bz (gM rfl) ?_;refine io rfl rfl
def kO (x1:Bool) (x2:YZ) (x3:aA YV) (x4:Y0) (a:Int):aB (aA YV):=
 ((if x1 then(iP false x3 [(YV.mk a x2)]).bind fun b=>some b else some x3:aB (aA YV))).bind fun c=>some c
theorem iS [IR] {k} (d) (x1:Bool) (x2:YZ) (x3:aA YV) (x4:Y0) (a:Int):eD (XD k (d+1)) 61 [.ref 1 0,bv x1,.agg (YZ.g x2)] (cL x3 x4 a) 3 false=(kO x1 x2 x3 x4 a).map (fun(c:aA YV)=>((.tup [],(cL c x4 a),0))):=by
 rw[xd (fn:=p61) rfl];refine bo (e:=(fun(b:aA YV)=>(nq [] ((3,.box (YZ.g x2))::cL b x4 a)))) ?_ fun b=>?_;refine io ?_ rfl;refine bo (cG false YV.g x3 [(YV.mk a x2)]) fun f=>?_;rfl;rfl
def Qn (x1:aA YV) (x2:Y0) (x3:Int):aB (aA YV):=
 (aZ (E:=aA YV) (fun(⟨d,h⟩:Int×(aA YV))=>if decide (d<(x2.bV.length:Int))then(bB x2.bV d).bind fun b=>(F62 b.Dv).bind fun m=>((if !m then some true else(zS (b.dZ.length:Int) 1 4).bind fun n=>some (!n):aB (Bool))).bind fun o=>((if o then some true else(F64 b.jY).bind fun p=>some (p !=0):aB (Bool))).bind fun q=>(kO q b.ID h x2 x3).bind fun r=>some (.inl ((bF (d+1)),r))else some (.inr h)) bN (0,x1)).bind fun s=>(aZ (E:=aA YV) (fun(⟨e,i⟩:Int×(aA YV))=>if decide (e<(x2.aD.length:Int))then(bB x2.aD e).bind fun a=>(F62 a.iY).bind fun t=>(aZ (E:=Bool) (fun(⟨j,f⟩:Bool×Int)=>if decide (f<(a.aR.length:Int))then(bB a.aR f).bind fun c=>(aZ (E:=Bool) (fun(⟨k,g⟩:Bool×Int)=>if decide (g<(c.aQ.length:Int))then(bB c.aQ g).bind fun l=>some (.inl (((k||(decide ((l.aT.length:Int)>128)))||(decide ((l.gJ.length:Int)>16))),(bF (g+1))))else some (.inr k)) bN (((j||(decide ((c.kQ.length:Int)>64)))||(decide ((c.aQ.length:Int)>2))),0)).bind fun u=>some (.inl (u,(bF (f+1))))else some (.inr j)) bN (((!t)||(decide ((a.kW.length:Int)>64))),0)).bind fun v=>(kO v a.ID i x2 x3).bind fun w=>some (.inl ((bF (e+1)),w))else some (.inr i)) bN (0,s)).bind fun x=>(F62 x2.pS).bind fun y=>((if !y then some true else(zS (x2.bV.length:Int) 1 32).bind fun z=>some (!z):aB (Bool))).bind fun A=>((if A then some true else(zS (x2.aD.length:Int) 1 1024).bind fun B=>some (!B):aB (Bool))).bind fun C=>(kO ((C||(decide ((x2.bY.length:Int)>4096)))||(decide ((x2.kZ.length:Int)>100))) (YZ.mk 0 0) x x2 x3).bind fun D=>some D
theorem xJ1 [IR] {k} (d) (x1:aA YV) (x2:Y0) (x3:Int):eD (XD k (d+5)) 32 [.ref 1 0] (cL x1 x2 x3) 3 false=(Qn x1 x2 x3).map (fun(w:aA YV)=>((.tup [],(cL w x2 x3),0))):=by
 rw[xd (fn:=p32) rfl];refine bz lm ?_;refine bo (aL (S:=Int×(aA YV)) (enc:=fun⟨p,j⟩=>(Q [(0,.ref 1 0),(15,.is 6 (I YJ.g x2.bV)),(16,i64 (x2.bV.length:Int)),(17,i64 p)] (cL j x2 x3))) (encE:=(fun(l:aA YV)=>(xq 0 [(0,.ref 1 0)] (cL l x2 x3)))) (fun⟨p,j⟩=>?_) bN (0,x1)) fun l=>?_;refine ig fun h=>?_;refine bo (sC1 d h.Dv) fun x=>?_;refine bo (e:=id) ?_ fun z=>?_;refine io rfl ?_;refine bz lm ?_;refine bo (rE (d+3) (h.dZ.length:Int) 1 4) fun y=>?_;rfl;refine bo (e:=id) ?_ fun t=>?_;refine io rfl ?_;refine bo (kU2 (d+3) h.jY) fun A=>?_;rfl;refine bo (iS (d+3) t h.ID j x2 x3) fun B=>?_;rfl;refine bz lm ?_;refine bo (aL (S:=Int×(aA YV)) (enc:=fun⟨c,b⟩=>(Q [(0,.ref 1 0),(47,.is 22 (I YM.g x2.aD)),(48,i64 (x2.aD.length:Int)),(49,i64 c)] (cL b x2 x3))) (encE:=(fun(o:aA YV)=>(xq 2 [(0,.ref 1 0)] (cL o x2 x3)))) (fun⟨c,b⟩=>?_) bN (0,l)) fun o=>?_;refine ig fun a=>?_;refine bo (sC1 d a.iY) fun u=>?_;refine bz (gM (bz lm rfl)) ?_;refine bz lm ?_;refine bo (aL (S:=Bool×Int) (enc:=fun⟨m,i⟩=>(Q [(0,.ref 1 0),(5,.ref 3 0),(6,bv m),(47,.is 22 (I YM.g x2.aD)),(48,i64 (x2.aD.length:Int)),(49,i64 c),(64,.is 2 (I YW.g a.aR)),(65,i64 (a.aR.length:Int)),(66,i64 i)] ((3,.box (YM.g a))::cL b x2 x3))) (encE:=(fun(n:Bool)=>(xq 4 [(0,.ref 1 0),(5,.ref 3 0),(6,bv n),(47,.is 22 (I YM.g x2.aD)),(48,i64 (x2.aD.length:Int)),(49,i64 c)] ((3,.box (YM.g a))::cL b x2 x3)))) (fun⟨m,i⟩=>?_) bN (((!u)||(decide ((a.kW.length:Int)>64))),0)) fun n=>?_;refine ig fun f=>?_;refine bz (gM (bz lm rfl)) ?_;refine bz (gM (bz lm rfl)) ?_;refine bz lm ?_;refine bo (aL (S:=Bool×Int) (enc:=fun⟨q,r⟩=>(Q [(0,.ref 1 0),(5,.ref 3 0),(6,bv q),(47,.is 22 (I YM.g x2.aD)),(48,i64 (x2.aD.length:Int)),(49,i64 c),(64,.is 2 (I YW.g a.aR)),(65,i64 (a.aR.length:Int)),(66,i64 i),(84,.is 2 (I YO.g f.aQ)),(85,i64 (f.aQ.length:Int)),(86,i64 r)] ((4,.box (YW.g f))::(3,.box (YM.g a))::cL b x2 x3))) (encE:=(fun(s:Bool)=>(xq 6 [(0,.ref 1 0),(5,.ref 3 0),(6,bv s),(47,.is 22 (I YM.g x2.aD)),(48,i64 (x2.aD.length:Int)),(49,i64 c),(64,.is 2 (I YW.g a.aR)),(65,i64 (a.aR.length:Int)),(66,i64 i)] ((4,.box (YW.g f))::(3,.box (YM.g a))::cL b x2 x3)))) (fun⟨q,r⟩=>?_) bN (((m||(decide ((f.kQ.length:Int)>64)))||(decide ((f.aQ.length:Int)>2))),0)) fun s=>?_;refine ig fun C=>?_;refine bz (gM (bz lm rfl)) ?_;refine bz (gM (bz lm rfl)) ?_;rfl;rfl;refine bo (iS (d+3) n a.ID b x2 x3) fun D=>?_;rfl;refine bo (sC1 d x2.pS) fun E=>?_;refine bo (e:=id) ?_ fun G=>?_;refine io rfl ?_;refine bz lm ?_;refine bo (rE (d+3) (x2.bV.length:Int) 1 32) fun F=>?_;rfl;refine bo (e:=id) ?_ fun v=>?_;refine io rfl ?_;refine bz lm ?_;refine bo (rE (d+3) (x2.aD.length:Int) 1 1024) fun H=>?_;rfl;refine bz (gM (bz lm rfl)) ?_;refine bz (gM (bz lm rfl)) ?_;refine bo (iS (d+3) ((v||(decide ((x2.bY.length:Int)>4096)))||(decide ((x2.kZ.length:Int)>100))) (YZ.mk 0 0) o x2 x3) fun J=>?_;rfl
def Ty (x1:Y0):aB Unit:=
 some ()
theorem sD1 [IR] {k} (d) (x1:Y0):eD (XD k (d+1)) 119 [.ref 0 0] [(0,.box (Y0.g x1))] 3 true=(Ty x1).map (fun(_:Unit)=>((.fn 172 [] [.ref 3 0],[(3,.box [.ref 0 0]),(0,.box (Y0.g x1))],4))):=by
 rw[xd (fn:=rZ1) rfl];rfl
def Ir (x1:Int) (x2:Int) (x3:Int) (x4:Int) (d:Int) (e:Int) (f:Int) (b:YJ) (c:aA YZ):aB (aA YZ):=
 (iP false c [b.ID]).bind fun a=>some a
theorem jD1 [IR] {k} (d) (x1:Int) (x2:Int) (x3:Int) (x4:Int) (e:Int) (f:Int) (h:Int) (b:YJ) (c:aA YZ):uY (XD k (d+1)) 4 [.agg [i64 x1,i64 x2,i64 x3,i64 x4,i64 e,i64 f,i64 h],.ip (YJ.g b)] [lH,(2,.lst 39 2 false (I YZ.g c)),(1,.box [.own 2])] 5=(Ir x1 x2 x3 x4 e f h b c).map (fun(a:aA YZ)=>((bv true,[lH,(2,.lst 39 2 false (I YZ.g a)),(1,.box [.own 2])],0))):=by
 rw[yd];refine bz (Wu rD) ?_;refine bo (cG false YZ.g c [b.ID]) fun i=>?_;rfl
def vN (x1:Int) (x2:Int) (x3:Int) (x4:Int) (d:Int) (e:Int) (f:Int) (b:YF) (c:aA YZ):aB (aA YZ):=
 (iP false c [b.ID]).bind fun a=>some a
theorem Xa [IR] {k} (d) (x1:Int) (x2:Int) (x3:Int) (x4:Int) (e:Int) (f:Int) (h:Int) (b:YF) (c:aA YZ):uY (XD k (d+1)) 4 [.agg [i64 x1,i64 x2,i64 x3,i64 x4,i64 e,i64 f,i64 h],.ip (YF.g b)] [lH,(2,.lst 39 2 false (I YZ.g c)),(1,.box [.own 2])] 5=(vN x1 x2 x3 x4 e f h b c).map (fun(a:aA YZ)=>((bv true,[lH,(2,.lst 39 2 false (I YZ.g a)),(1,.box [.own 2])],0))):=by
 rw[yd];refine bz (Wu rD) ?_;refine bo (cG false YZ.g c [b.ID]) fun i=>?_;rfl
def vO (x1:Int) (x2:Int) (x3:Int) (x4:Int) (d:Int) (e:Int) (f:Int) (b:YM) (c:aA YZ):aB (aA YZ):=
 (iP false c [b.ID]).bind fun a=>some a
theorem Xb [IR] {k} (d) (x1:Int) (x2:Int) (x3:Int) (x4:Int) (e:Int) (f:Int) (h:Int) (b:YM) (c:aA YZ):uY (XD k (d+1)) 4 [.agg [i64 x1,i64 x2,i64 x3,i64 x4,i64 e,i64 f,i64 h],.ip (YM.g b)] [lH,(2,.lst 39 2 false (I YZ.g c)),(1,.box [.own 2])] 5=(vO x1 x2 x3 x4 e f h b c).map (fun(a:aA YZ)=>((bv true,[lH,(2,.lst 39 2 false (I YZ.g a)),(1,.box [.own 2])],0))):=by
 rw[yd];refine bz (Wu rD) ?_;refine bo (cG false YZ.g c [b.ID]) fun i=>?_;rfl
def vP (x1:Int) (x2:Int) (x3:Int) (x4:Int) (d:Int) (e:Int) (f:Int) (b:YE) (c:aA YZ):aB (aA YZ):=
 (iP false c [b.ID]).bind fun a=>some a
theorem Xc [IR] {k} (d) (x1:Int) (x2:Int) (x3:Int) (x4:Int) (e:Int) (f:Int) (h:Int) (b:YE) (c:aA YZ):uY (XD k (d+1)) 4 [.agg [i64 x1,i64 x2,i64 x3,i64 x4,i64 e,i64 f,i64 h],.ip (YE.g b)] [lH,(2,.lst 39 2 false (I YZ.g c)),(1,.box [.own 2])] 5=(vP x1 x2 x3 x4 e f h b c).map (fun(a:aA YZ)=>((bv true,[lH,(2,.lst 39 2 false (I YZ.g a)),(1,.box [.own 2])],0))):=by
 rw[yd];refine bz (Wu rD) ?_;refine bo (cG false YZ.g c [b.ID]) fun i=>?_;rfl
def vQ (x1:Int) (x2:Int) (x3:Int) (x4:Int) (d:Int) (e:Int) (f:Int) (b:YN) (c:aA YZ):aB (aA YZ):=
 (iP false c [b.ID]).bind fun a=>some a
theorem Xe [IR] {k} (d) (x1:Int) (x2:Int) (x3:Int) (x4:Int) (e:Int) (f:Int) (h:Int) (b:YN) (c:aA YZ):uY (XD k (d+1)) 4 [.agg [i64 x1,i64 x2,i64 x3,i64 x4,i64 e,i64 f,i64 h],.ip (YN.g b)] [lH,(2,.lst 39 2 false (I YZ.g c)),(1,.box [.own 2])] 5=(vQ x1 x2 x3 x4 e f h b c).map (fun(a:aA YZ)=>((bv true,[lH,(2,.lst 39 2 false (I YZ.g a)),(1,.box [.own 2])],0))):=by
 rw[yd];refine bz (Wu rD) ?_;refine bo (cG false YZ.g c [b.ID]) fun i=>?_;rfl
def Tz (x1:Y0) (x2:aA YZ):aB (aA YZ):=
 (aZ (E:=aA YZ) (fun(⟨L,f,w⟩:Int×Int×(aA YZ))=>if decide (f<(x1.bV.length:Int))then(bB x1.bV f).bind fun M=>(Ir 1 f 0 0 0 0 0 M w).bind fun N=>(bB x1.bV f).bind fun O=>(aZ (E:=Int×(aA YZ)) (fun(⟨l,m,K⟩:Int×Int×(aA YZ))=>if decide (m<(O.dZ.length:Int))then(bB x1.bV f).bind fun P=>(bB P.dZ m).bind fun R=>(vN 2 0 l 0 0 0 0 R K).bind fun S=>some (.inl ((bF (l+1)),(bF (m+1)),S))else some (.inr (l,K))) bN (L,0,N)).bind fun⟨T,U⟩=>some (.inl (T,(bF (f+1)),U))else some (.inr w)) bN (0,0,x2)).bind fun V=>(aZ (E:=aA YZ) (fun(⟨a,g⟩:Int×(aA YZ))=>if decide (a<(x1.aD.length:Int))then(bB x1.aD a).bind fun n=>(vO 3 0 0 a 0 0 0 n g).bind fun o=>(bB x1.aD a).bind fun p=>(aZ (E:=aA YZ) (fun(⟨b,h⟩:Int×(aA YZ))=>if decide (b<(p.aR.length:Int))then(bB x1.aD a).bind fun q=>(bB q.aR b).bind fun r=>(aZ (E:=aA YZ) (fun(⟨c,i⟩:Int×(aA YZ))=>if decide (c<(r.aQ.length:Int))then(bB x1.aD a).bind fun s=>(bB s.aR b).bind fun t=>(bB t.aQ c).bind fun u=>(aZ (E:=aA YZ) (fun(⟨d,j⟩:Int×(aA YZ))=>if decide (d<(u.aT.length:Int))then(bB x1.aD a).bind fun v=>(bB v.aR b).bind fun x=>(bB x.aQ c).bind fun y=>(bB y.aT d).bind fun z=>(vP 4 0 b a c d 0 z j).bind fun A=>some (.inl ((bF (d+1)),A))else some (.inr j)) bN (0,i)).bind fun B=>some (.inl ((bF (c+1)),B))else some (.inr i)) bN (0,h)).bind fun C=>some (.inl ((bF (b+1)),C))else some (.inr h)) bN (0,o)).bind fun D=>some (.inl ((bF (a+1)),D))else some (.inr g)) bN (0,V)).bind fun F=>(aZ (E:=aA YZ) (fun(⟨e,k⟩:Int×(aA YZ))=>if decide (e<(x1.bY.length:Int))then(bB x1.bY e).bind fun G=>(vQ 5 0 0 0 0 0 e G k).bind fun H=>some (.inl ((bF (e+1)),H))else some (.inr k)) bN (0,F)).bind fun J=>some J
theorem sE1 [IR] {k} (d) (x1:Y0) (x2:aA YZ):eD (XD k (d+2)) 172 [.yld 4,.ref 3 0] [lH,(3,.box [.ref 0 0]),(0,.box (Y0.g x1)),(2,.lst 39 2 false (I YZ.g x2)),(1,.box [.own 2])] 5 false=(Tz x1 x2).map (fun(F:aA YZ)=>((.tup [],[lH,(3,.box [.ref 0 0]),(0,.box (Y0.g x1)),(2,.lst 39 2 false (I YZ.g F)),(1,.box [.own 2])],0))):=by
 rw[xd (fn:=sB1) rfl];refine bz lm ?_;refine bo (aL (S:=Int×Int×(aA YZ)) (enc:=fun⟨v,f,w⟩=>(Q [(0,.yld 4),(1,.ref 3 0),(3,i64 v),(15,i64 (x1.bV.length:Int)),(16,i64 f)] [lH,(3,.box [.ref 0 0]),(0,.box (Y0.g x1)),(2,.lst 39 2 false (I YZ.g w)),(1,.box [.own 2])])) (encE:=(fun(z:aA YZ)=>(xq 0 [(0,.yld 4),(1,.ref 3 0)] [lH,(3,.box [.ref 0 0]),(0,.box (Y0.g x1)),(2,.lst 39 2 false (I YZ.g z)),(1,.box [.own 2])]))) (fun⟨v,f,w⟩=>?_) bN (0,0,x2)) fun z=>?_;refine ig fun K=>?_;refine bo (jD1 d 1 f 0 0 0 0 0 K w) fun L=>?_;refine bo rg fun M=>?_;refine bz lm ?_;refine bo (aL (S:=Int×Int×(aA YZ)) (enc:=fun⟨x,G,y⟩=>(Q [(0,.yld 4),(1,.ref 3 0),(3,i64 x),(4,i64 f),(15,i64 (x1.bV.length:Int)),(16,i64 f),(39,i64 (M.dZ.length:Int)),(40,i64 G)] [lH,(2,.lst 39 2 false (I YZ.g y)),(1,.box [.own 2]),(3,.box [.ref 0 0]),(0,.box (Y0.g x1))])) (encE:=(fun(⟨H,J⟩:Int×(aA YZ))=>(xq 2 [(0,.yld 4),(1,.ref 3 0),(3,i64 H),(15,i64 (x1.bV.length:Int)),(16,i64 f)] [lH,(2,.lst 39 2 false (I YZ.g J)),(1,.box [.own 2]),(3,.box [.ref 0 0]),(0,.box (Y0.g x1))]))) (fun⟨x,G,y⟩=>?_) bN (v,0,L)) fun⟨H,J⟩=>?_;refine ig fun Y=>?_;refine bo rg fun N=>?_;refine bo (Xa d 2 0 x 0 0 0 0 N y) fun Z=>?_;rfl;rfl;refine bz lm ?_;refine bo (aL (S:=Int×(aA YZ)) (enc:=fun⟨a,h⟩=>(Q [(0,.yld 4),(1,.ref 3 0),(67,i64 (x1.aD.length:Int)),(68,i64 a)] [lH,(3,.box [.ref 0 0]),(0,.box (Y0.g x1)),(2,.lst 39 2 false (I YZ.g h)),(1,.box [.own 2])])) (encE:=(fun(o:aA YZ)=>(xq 4 [(0,.yld 4),(1,.ref 3 0)] [lH,(3,.box [.ref 0 0]),(0,.box (Y0.g x1)),(2,.lst 39 2 false (I YZ.g o)),(1,.box [.own 2])]))) (fun⟨a,h⟩=>?_) bN (0,z)) fun o=>?_;refine ig fun A=>?_;refine bo (Xb d 3 0 0 a 0 0 0 A h) fun B=>?_;refine bo rg fun e=>?_;refine bz lm ?_;refine bo (aL (S:=Int×(aA YZ)) (enc:=fun⟨b,i⟩=>(Q [(0,.yld 4),(1,.ref 3 0),(6,i64 a),(67,i64 (x1.aD.length:Int)),(68,i64 a),(91,i64 (e.aR.length:Int)),(92,i64 b)] [lH,(2,.lst 39 2 false (I YZ.g i)),(1,.box [.own 2]),(3,.box [.ref 0 0]),(0,.box (Y0.g x1))])) (encE:=(fun(t:aA YZ)=>(xq 6 [(0,.yld 4),(1,.ref 3 0),(67,i64 (x1.aD.length:Int)),(68,i64 a)] [lH,(2,.lst 39 2 false (I YZ.g t)),(1,.box [.own 2]),(3,.box [.ref 0 0]),(0,.box (Y0.g x1))]))) (fun⟨b,i⟩=>?_) bN (0,B)) fun t=>?_;refine ig fun O=>?_;refine bo rg fun j=>?_;refine bz lm ?_;refine bo (aL (S:=Int×(aA YZ)) (enc:=fun⟨c,l⟩=>(Q [(0,.yld 4),(1,.ref 3 0),(6,i64 a),(7,i64 b),(67,i64 (x1.aD.length:Int)),(68,i64 a),(91,i64 (e.aR.length:Int)),(92,i64 b),(107,i64 (j.aQ.length:Int)),(108,i64 c)] [lH,(2,.lst 39 2 false (I YZ.g l)),(1,.box [.own 2]),(3,.box [.ref 0 0]),(0,.box (Y0.g x1))])) (encE:=(fun(s:aA YZ)=>(xq 8 [(0,.yld 4),(1,.ref 3 0),(6,i64 a),(67,i64 (x1.aD.length:Int)),(68,i64 a),(91,i64 (e.aR.length:Int)),(92,i64 b)] [lH,(2,.lst 39 2 false (I YZ.g s)),(1,.box [.own 2]),(3,.box [.ref 0 0]),(0,.box (Y0.g x1))]))) (fun⟨c,l⟩=>?_) bN (0,i)) fun s=>?_;refine ig fun P=>?_;refine bo rg fun R=>?_;refine bo rg fun C=>?_;refine bz lm ?_;refine bo (aL (S:=Int×(aA YZ)) (enc:=fun⟨m,n⟩=>(Q [(0,.yld 4),(1,.ref 3 0),(6,i64 a),(7,i64 b),(8,i64 c),(67,i64 (x1.aD.length:Int)),(68,i64 a),(91,i64 (e.aR.length:Int)),(92,i64 b),(107,i64 (j.aQ.length:Int)),(108,i64 c),(127,i64 (C.aT.length:Int)),(128,i64 m)] [lH,(2,.lst 39 2 false (I YZ.g n)),(1,.box [.own 2]),(3,.box [.ref 0 0]),(0,.box (Y0.g x1))])) (encE:=(fun(r:aA YZ)=>(xq 10 [(0,.yld 4),(1,.ref 3 0),(6,i64 a),(7,i64 b),(67,i64 (x1.aD.length:Int)),(68,i64 a),(91,i64 (e.aR.length:Int)),(92,i64 b),(107,i64 (j.aQ.length:Int)),(108,i64 c)] [lH,(2,.lst 39 2 false (I YZ.g r)),(1,.box [.own 2]),(3,.box [.ref 0 0]),(0,.box (Y0.g x1))]))) (fun⟨m,n⟩=>?_) bN (0,l)) fun r=>?_;refine ig fun T=>?_;refine bo rg fun U=>?_;refine bo rg fun V=>?_;refine bo rg fun D=>?_;refine bo (Xc d 4 0 b a c m 0 D n) fun W=>?_;rfl;rfl;rfl;rfl;refine bz lm ?_;refine bo (aL (S:=Int×(aA YZ)) (enc:=fun⟨p,q⟩=>(Q [(0,.yld 4),(1,.ref 3 0),(166,i64 (x1.bY.length:Int)),(167,i64 p)] [lH,(3,.box [.ref 0 0]),(0,.box (Y0.g x1)),(2,.lst 39 2 false (I YZ.g q)),(1,.box [.own 2])])) (encE:=(fun(u:aA YZ)=>(xq 12 [] [lH,(3,.box [.ref 0 0]),(0,.box (Y0.g x1)),(2,.lst 39 2 false (I YZ.g u)),(1,.box [.own 2])]))) (fun⟨p,q⟩=>?_) bN (0,o)) fun u=>?_;refine ig fun E=>?_;refine bo (Xe d 5 0 0 0 0 0 p E q) fun X=>?_;rfl;rfl
def F65 (x1:Y0):aB (aA YZ):=
 (Ty x1).bind fun _=>(Tz x1 []).bind fun x2=>some x2
theorem kV2 [IR] {k} (d) (x1:Y0):OD k (d+3) 65 [.agg (Y0.g x1)]=(F65 x1).map (fun a=>.is 2 (I YZ.g a)):=by
 refine oe rfl ?_;refine bo (sD1 (d+1) x1) fun _=>?_;refine bo (sE1 d x1 []) fun x2=>?_;rfl
def F66 (x1:YZ):aB Bool:=
 (zS x1.dH 0 99).bind fun x2=>((if x2 then(zS x1.bG 1 1073741824).bind fun x3=>some x3 else some false:aB (Bool))).bind fun x4=>some x4
theorem xL1 [IR] {k} (d) (x1:YZ):OD k (d+2) 66 [.agg (YZ.g x1)]=(F66 x1).map bv:=by
 refine oe rfl ?_;refine bo (rE d x1.dH 0 99) fun x2=>?_;refine bo (e:=id) ?_ fun x4=>?_;refine io ?_ rfl;refine bo (rE d x1.bG 1 1073741824) fun x3=>?_;rfl;rfl
def F67 (x1:Y0) (x2:Int):aB Int:=
 (aZ (E:=Int⊕Unit) (fun(x4:Int)=>if decide (x4<(x1.kZ.length:Int))then(bB x1.kZ x4).bind fun a=>if a.dH==x2 then some (.inr (.inl a.bG))else some (.inl (bF (x4+1)))else some (.inr (.inr ()))) bN 0).bind fun b=>(match b with|.inl x6=>some x6|.inr _=>some 0)
theorem kW2 [IR] {k} (d) (x1:Y0) (x2:Int):OD k (d+1) 67 [.agg (Y0.g x1),i64 x2]=(F67 x1 x2).map i64:=by
 refine oe rfl ?_;refine bz lm ?_;refine bo (aL (S:=Int) (enc:=fun x4=>(Q [(1,i64 x2),(8,.is 2 (I YZ.g x1.kZ)),(9,i64 (x1.kZ.length:Int)),(10,i64 x4)] [(0,.box (Y0.g x1))])) (encE:=(fun|.inl a=>(rq [(4,i64 a)] [(0,.box (Y0.g x1))])|.inr _=>(xq 0 [] [(0,.box (Y0.g x1))]))) (fun x4=>?_) bN 0) fun b=>?_;refine ig fun c=>?_;refine io rfl rfl;rcases b with a|_;rfl;rfl
def cM1 (x1:aA YV) (x2:Y0) (x3:Int):aB (aA YV):=
 (F65 x2).bind fun x4=>(aZ (E:=(aA (YZ×Bool))×(aA YV)) (fun(⟨c,d,e⟩:Int×(aA (YZ×Bool))×(aA YV))=>if decide (c<(x4.length:Int))then(bB x4 c).bind fun a=>(F66 a).bind fun h=>((if(!h)||(fJ d a false)then some true else(F67 x2 a.dH).bind fun i=>some (decide (a.bG>i)):aB (Bool))).bind fun j=>(kO j a e x2 x3).bind fun k=>some (.inl ((bF (c+1)),(kM d a true),k))else some (.inr (d,e))) bN (0,[],x1)).bind fun⟨t,l⟩=>(aZ (E:=Bool) (fun(⟨f,b⟩:Bool×Int)=>if decide (b<(x2.kZ.length:Int))then(bB x2.kZ b).bind fun g=>((if f then some true else(F66 g).bind fun m=>some (!m):aB (Bool))).bind fun n=>((if n then some true else((if decide (b>0)then(bB x2.kZ (bF (b-1))).bind fun o=>some (decide (g.dH<=o.dH))else some false:aB (Bool))).bind fun p=>some p:aB (Bool))).bind fun q=>some (.inl (q,(bF (b+1))))else some (.inr f)) bN (false,0)).bind fun r=>(kO r (YZ.mk 0 0) l x2 x3).bind fun s=>some s
theorem xM1 [IR] {k} (d) (x1:aA YV) (x2:Y0) (x3:Int):eD (XD k (d+4)) 33 [.ref 1 0] (cL x1 x2 x3) 3 false=(cM1 x1 x2 x3).map (fun(p:aA YV)=>((.tup [],(cL p x2 x3),0))):=by
 rw[xd (fn:=p33) rfl];refine bo (kV2 d x2) fun x4=>?_;refine bz lm ?_;refine bo (aL (S:=Int×(aA (YZ×Bool))×(aA YV)) (enc:=fun⟨j,c,h⟩=>(Q [(0,.ref 1 0),(2,.map 3),(13,.is 2 (I YZ.g x4)),(14,i64 (x4.length:Int)),(15,i64 j)] ((3,.mp (I (cF (eA YZ.g) bv) c))::cL h x2 x3))) (encE:=(fun(⟨f,b⟩:(aA (YZ×Bool))×(aA YV))=>(xq 0 [(0,.ref 1 0)] ((3,.mp (I (cF (eA YZ.g) bv) f))::cL b x2 x3)))) (fun⟨j,c,h⟩=>?_) bN (0,[],x1)) fun⟨f,b⟩=>?_;refine ig fun a=>?_;refine bo (xL1 (d+1) a) fun q=>?_;refine bz (gM (bz (jR Tw bv c a false) rfl)) ?_;refine bo (e:=id) ?_ fun n=>?_;refine io rfl ?_;refine bo (kW2 (d+2) x2 a.dH) fun r=>?_;rfl;refine bo (iS (d+2) n a h x2 x3) fun s=>?_;refine bz (iQ Tw bv c a true) ?_;rfl;refine bz lm ?_;refine bo (aL (S:=Bool×Int) (enc:=fun⟨l,m⟩=>(Q [(0,.ref 1 0),(5,bv l),(49,.is 2 (I YZ.g x2.kZ)),(50,i64 (x2.kZ.length:Int)),(51,i64 m)] ((3,.mp (I (cF (eA YZ.g) bv) f))::cL b x2 x3))) (encE:=(fun(i:Bool)=>(xq 2 [(0,.ref 1 0),(5,bv i)] ((3,.mp (I (cF (eA YZ.g) bv) f))::cL b x2 x3)))) (fun⟨l,m⟩=>?_) bN (false,0)) fun i=>?_;refine ig fun o=>?_;refine bo (e:=id) ?_ fun u=>?_;refine io rfl ?_;refine bo (xL1 (d+1) o) fun t=>?_;rfl;refine bo (e:=id) ?_ fun x=>?_;refine io rfl ?_;refine bo (e:=id) ?_ fun w=>?_;refine ig fun v=>?_;rfl;rfl;rfl;refine bo (iS (d+2) i (YZ.mk 0 0) b x2 x3) fun y=>?_;rfl
def F26 (x1:Y0):aB Int:=
 (aZ (E:=Int) (fun(⟨x3,x4⟩:Int×Int)=>if decide (x4<(x1.bV.length:Int))then(bB x1.bV x4).bind fun a=>some (.inl ((bF (x3+(a.dZ.length:Int))),(bF (x4+1))))else some (.inr x3)) bN (0,0)).bind fun b=>some b
theorem sF1 [IR] {k} (d) (x1:Y0):OD k (d+1) 26 [.agg (Y0.g x1)]=(F26 x1).map i64:=by
 refine oe rfl ?_;refine bz lm ?_;refine bo (aL (S:=Int×Int) (enc:=fun⟨x3,x4⟩=>(Q [(3,i64 x3),(7,.is 6 (I YJ.g x1.bV)),(8,i64 (x1.bV.length:Int)),(9,i64 x4)] [(0,.box (Y0.g x1))])) (encE:=(fun(a:Int)=>(xq 0 [(3,i64 a)] [(0,.box (Y0.g x1))]))) (fun⟨x3,x4⟩=>?_) bN (0,0)) fun a=>?_;refine ig fun b=>?_;refine bz lm ?_;rfl;rfl
def F69 (x1:Int) (x2:YM) (x3:Int):aB Bool:=
 (aZ (E:=Bool) (fun(⟨d,b⟩:Bool×Int)=>if decide (b<(x2.aR.length:Int))then(bB x2.aR b).bind fun a=>((if d||((a.aQ.length:Int)==0)then some true else(bB a.aQ 0).bind fun g=>some ((g.aT.length:Int)==0):aB (Bool))).bind fun h=>((if h then some true else(bB a.aQ (bF ((a.aQ.length:Int)-1))).bind fun i=>some ((i.aT.length:Int)==0):aB (Bool))).bind fun j=>(aZ (E:=Bool) (fun(⟨e,c⟩:Bool×Int)=>if decide (c<(a.aQ.length:Int))then(bB a.aQ c).bind fun f=>some (.inl ((e||(((f.aT.length:Int)==0)&&(decide ((f.gJ.length:Int)>0)))),(bF (c+1))))else some (.inr e)) bN (j,0)).bind fun k=>some (.inl (k,(bF (b+1))))else some (.inr d)) bN (((x2.aR.length:Int)!=x3),0)).bind fun l=>some l
theorem kX2 [IR] {k} (d) (x1:Int) (x2:YM) (x3:Int):OD k (d+1) 69 [i64 x1,.agg (YM.g x2),.ip [i64 x3]]=(F69 x1 x2 x3).map bv:=by
 refine oe rfl ?_;refine bz lm ?_;refine bz lm ?_;refine bo (aL (S:=Bool×Int) (enc:=fun⟨c,a⟩=>(Q [(6,bv c),(18,.is 2 (I YW.g x2.aR)),(19,i64 (x2.aR.length:Int)),(20,i64 a)] [(0,.box (YM.g x2))])) (encE:=(fun(j:Bool)=>(xq 0 [(6,bv j)] [(0,.box (YM.g x2))]))) (fun⟨c,a⟩=>?_) bN (((x2.aR.length:Int)!=x3),0)) fun j=>?_;refine ig fun b=>?_;refine bz (gM (bz lm rfl)) ?_;refine bo (e:=id) ?_ fun n=>?_;refine io rfl ?_;refine bo rg fun m=>?_;refine bz lm ?_;rfl;refine bo (e:=id) ?_ fun l=>?_;refine io rfl ?_;refine bz lm ?_;refine bo rg fun o=>?_;refine bz lm ?_;rfl;refine bz lm ?_;refine bo (aL (S:=Bool×Int) (enc:=fun⟨f,h⟩=>(Q [(6,bv f),(18,.is 2 (I YW.g x2.aR)),(19,i64 (x2.aR.length:Int)),(20,i64 a),(51,.is 2 (I YO.g b.aQ)),(52,i64 (b.aQ.length:Int)),(53,i64 h)] [(1,.box (YW.g b)),(0,.box (YM.g x2))])) (encE:=(fun(i:Bool)=>(xq 2 [(6,bv i),(18,.is 2 (I YW.g x2.aR)),(19,i64 (x2.aR.length:Int)),(20,i64 a)] [(1,.box (YW.g b)),(0,.box (YM.g x2))]))) (fun⟨f,h⟩=>?_) bN (l,0)) fun i=>?_;refine ig fun p=>?_;refine bz (gM (bz lm (bz (fW (bz lm rfl)) rfl))) ?_;rfl;rfl;rfl
def jE1 (x1:Int) (x2:aA YV) (x3:Y0) (x4:Int):aB (aA YV):=
 (aZ (E:=aA YV) (fun(⟨b,f⟩:Int×(aA YV))=>if decide (b<(x3.aD.length:Int))then(bB x3.aD b).bind fun a=>(F69 b a x1).bind fun c=>(kO c a.ID f x3 x4).bind fun d=>some (.inl ((bF (b+1)),d))else some (.inr f)) bN (0,x2)).bind fun e=>some e
theorem xN1 [IR] {k} (d) (x1:Int) (x2:aA YV) (x3:Y0) (x4:Int):eD (XD k (d+2)) 68 [.ref 1 0,.fn 69 [] [.ref 3 0]] ((3,.box [i64 x1])::cL x2 x3 x4) 4 false=(jE1 x1 x2 x3 x4).map (fun(e:aA YV)=>((.tup [],((3,.box [i64 x1])::cL e x3 x4),0))):=by
 rw[xd (fn:=p68) rfl];refine bz lm ?_;refine bo (aL (S:=Int×(aA YV)) (enc:=fun⟨f,h⟩=>(Q [(0,.ref 1 0),(1,.fn 69 [] [.ref 3 0]),(10,.is 22 (I YM.g x3.aD)),(11,i64 (x3.aD.length:Int)),(12,i64 f)] ((3,.box [i64 x1])::cL h x3 x4))) (encE:=(fun(b:aA YV)=>(xq 0 [] ((3,.box [i64 x1])::cL b x3 x4)))) (fun⟨f,h⟩=>?_) bN (0,x2)) fun b=>?_;refine ig fun a=>?_;refine bo (kX2 d f a x1) fun c=>?_;refine bo (iS d c a.ID h x3 x4) fun i=>?_;rfl;rfl
def cN1 (x1:aA YV) (x2:Y0) (x3:Int):aB (aA YV):=
 (F26 x2).bind fun x4=>(jE1 x4 x1 x2 x3).bind fun a=>some a
theorem xO1 [IR] {k} (d) (x1:aA YV) (x2:Y0) (x3:Int):eD (XD k (d+3)) 34 [.ref 1 0] (cL x1 x2 x3) 3 false=(cN1 x1 x2 x3).map (fun(a:aA YV)=>((.tup [],(cL a x2 x3),0))):=by
 rw[xd (fn:=p34) rfl];refine bo (sF1 (d+1) x2) fun x4=>?_;refine bo (xN1 d x4 x1 x2 x3) fun b=>?_;rfl
def jF1:aB Y9:=
 some (Y9.mk (YI.mk (⟨#[116,114,101,98,108,101]⟩:ByteArray) 71 (-2) 0 34 (-1) (-3)) (YI.mk (⟨#[98,97,115,115]⟩:ByteArray) 70 2 0 22 (-3) (-5)) (YI.mk (⟨#[97,108,116,111]⟩:ByteArray) 67 0 0 28 (-2) (-4)) (YI.mk (⟨#[116,101,110,111,114]⟩:ByteArray) 67 2 0 26 (-2) (-2)) (YI.mk (⟨#[115,111,112,114,97,110,111]⟩:ByteArray) 67 (-4) 0 32 (-2) (-3)) (YI.mk (⟨#[109,101,122,122,111,115,111,112,114,97,110,111]⟩:ByteArray) 67 (-2) 0 30 (-2) (-3)) (YI.mk (⟨#[98,97,114,105,116,111,110,101]⟩:ByteArray) 70 0 0 24 (-2) (-3)) (YI.mk (⟨#[116,114,101,98,108,101,56]⟩:ByteArray) 71 (-2) (-1) 27 (-1) (-3)) (YI.mk (⟨#[98,97,115,115,56]⟩:ByteArray) 70 2 (-1) 15 (-3) (-5)))
theorem xP1 [IR] {k} (d):OD k (d+1) 173 []=(jF1).map (fun a=>.agg (Y9.g a)):=by
 refine oe rfl ?_;rfl
def jG1 (x1:Int):aB (YI×Int):=
 if(decide (x1<1))||(decide (x1>9))then some ((YI.mk (⟨#[]⟩:ByteArray) 0 0 0 0 0 0),11)else(jF1).bind fun x2=>(bB [x2.c0,x2.c1,x2.c2,x2.c3,x2.c4,x2.c5,x2.c6,x2.c7,x2.c8] (bF (x1-1))).bind fun x3=>some (x3,0)
theorem xQ1 [IR] {k} (d) (x1:Int):OD k (d+2) 120 [i64 x1]=(jG1 x1).map (fun⟨a,b⟩=>.tup [.agg (YI.g a),i64 b]):=by
 refine oe rfl ?_;refine bz (gM rfl) ?_;refine io rfl ?_;refine bo (xP1 d) fun x2=>?_;refine bo (Mu (A:=YI) YI.g [x2.c0,x2.c1,x2.c2,x2.c3,x2.c4,x2.c5,x2.c6,x2.c7,x2.c8] (bF (x1-1)) rfl (fun _=>rfl) rfl) fun x3=>?_;rfl
def F70 (x1:Int):aB Int:=
 (jG1 x1).bind fun⟨x2,x3⟩=>some x3
theorem xS1 [IR] {k} (d) (x1:Int):OD k (d+3) 70 [i64 x1]=(F70 x1).map i64:=by
 refine oe rfl ?_;refine bo (xQ1 d x1) fun⟨x2,x3⟩=>?_;rfl
def jH1 (x1:YX):aB Bool:=
 if((x1.dV.c0==0)&&((x1.dV.c1==0)&&((x1.dV.c2==0)&&((x1.dV.c3==0)&&((x1.dV.c4==0)&&((x1.dV.c5==0)&&true))))))!=false then some true else(aZ (E:=(Int×Int)⊕(Int×Int)) (fun(⟨c,a,d⟩:Int×Int×Int)=>if decide (d<6)then(bB [x1.dV.c0,x1.dV.c1,x1.dV.c2,x1.dV.c3,x1.dV.c4,x1.dV.c5] d).bind fun b=>if((decide (b<0))||(decide (b>64)))||((decide (b>0))&&(d !=a))then some (.inr (.inl (c,a)))else((if decide (b>0)then some ((bF (c+b)),(bF (a+1)))else some (c,a):aB (Int×Int))).bind fun⟨g,e⟩=>some (.inl (g,e,(bF (d+1))))else some (.inr (.inr (c,a)))) bN (0,0,0)).bind fun f=>(match f with|.inl ⟨x11,x12⟩=>some false|.inr ⟨x13,x14⟩=>some ((x13==x1.gO)&&(decide (x14>=2))))
theorem xT1 [IR] {k} (d) (x1:YX):OD k (d+1) 165 [.agg (YX.g x1)]=(jH1 x1).map bv:=by
 refine oe rfl ?_;refine io rfl ?_;refine bo (aL (S:=Int×Int×Int) (enc:=fun⟨i,j,f⟩=>(Q [(1,.ref 0 0),(3,i64 i),(4,i64 j),(12,.agg (Y6.g x1.dV)),(13,i64 f)] [(0,.box (YX.g x1))])) (encE:=(fun|.inl ⟨b,c⟩=>(rq [(1,.ref 0 0),(2,bv false),(3,i64 b),(4,i64 c)] [(0,.box (YX.g x1))])|.inr ⟨x13,x14⟩=>(xq 0 [(1,.ref 0 0),(3,i64 x13),(4,i64 x14)] [(0,.box (YX.g x1))]))) (fun⟨i,j,f⟩=>?_) bN (0,0,0)) fun h=>?_;refine io ?_ rfl;refine bo (tL .i64 [x1.dV.c0,x1.dV.c1,x1.dV.c2,x1.dV.c3,x1.dV.c4,x1.dV.c5] f rfl) fun m=>?_;refine bz (gM rfl) ?_;refine bz (gM (bz (fW rfl) rfl)) ?_;refine io rfl ?_;refine bo (e:=(fun(⟨l,a⟩:Int×Int)=>(nq [(1,.ref 0 0),(3,i64 l),(4,i64 a),(12,.agg (Y6.g x1.dV)),(13,i64 f)] [(0,.box (YX.g x1))]))) ?_ fun⟨l,a⟩=>?_;refine io rfl rfl;rfl;rcases h with⟨b,c⟩|⟨x13,x14⟩
 rfl;refine bz (fW rfl) ?_;rfl
def cO1 (x1:YX):aB Int:=
 if(decide (x1.gO<1))||(decide (x1.gO>64))then some 2 else if((decide (x1.Unit<1))||(decide (x1.Unit>64)))||((dU .i64 x1.Unit (bF (x1.Unit-1)))!=0)then some 17 else(jH1 x1).bind fun x2=>if !x2 then some 19 else some 0
theorem xU1 [IR] {k} (d) (x1:YX):OD k (d+2) 110 [.agg (YX.g x1)]=(cO1 x1).map i64:=by
 refine oe rfl ?_;refine bz (gM rfl) ?_;refine io rfl ?_;refine bz (gM rfl) ?_;refine bz (gM rfl) ?_;refine io rfl ?_;refine bo (xT1 d x1) fun x2=>?_;refine io rfl rfl
def cP1 (x1:YX):aB Int:=
 (Mv .i64 1935360 x1.Unit).bind fun x2=>some x2
theorem xV1 [IR] {k} (d) (x1:YX):OD k (d+1) 166 [.agg (YX.g x1)]=(cP1 x1).map i64:=by
 refine oe rfl ?_;refine bo oi fun x2=>?_;rfl
def cQ1 (x1:YX):aB Int:=
 (cP1 x1).bind fun x2=>some (bF (x1.gO*x2))
theorem xW1 [IR] {k} (d) (x1:YX):OD k (d+2) 111 [.agg (YX.g x1)]=(cQ1 x1).map i64:=by
 refine oe rfl ?_;refine bo (xV1 d x1) fun x2=>?_;rfl
def F53 (x1:YX):aB (Int×Int):=
 (cO1 x1).bind fun x2=>if x2 !=0 then some (0,x2)else(cQ1 x1).bind fun x3=>some (x3,0)
theorem kY2 [IR] {k} (d) (x1:YX):OD k (d+3) 53 [.agg (YX.g x1)]=(F53 x1).map (fun⟨a,b⟩=>.tup [i64 a,i64 b]):=by
 refine oe rfl ?_;refine bo (xU1 d x1) fun x2=>?_;refine io rfl ?_;refine bo (xW1 d x1) fun x3=>?_;rfl
def Dy (x1:YM):aB (Int×Int):=
 (F53 x1.pU).bind fun⟨x2,x3⟩=>if x3 !=0 then some (0,x3)else if decide (x1.Kb<0)then some (0,2)else((if decide (x1.Kb>0)then some x1.Kb else some x2:aB (Int))).bind fun x4=>(cA1 .i64 x4 7560).bind fun a=>if a !=0 then some (0,16)else if decide (x4>15482880)then some (0,5)else some (x4,0)
theorem Is [IR] {k} (d) (x1:YM):OD k (d+4) 24 [.agg (YM.g x1)]=(Dy x1).map (fun⟨a,b⟩=>.tup [i64 a,i64 b]):=by
 refine oe rfl ?_;refine bo (kY2 d x1.pU) fun⟨x2,x3⟩=>?_;refine io rfl ?_;refine io rfl ?_;refine bo (e:=(fun(x4:Int)=>(nq [(4,i64 x4)] [(0,.box (YM.g x1))]))) ?_ fun x4=>?_;refine io rfl rfl;refine bo oi fun c=>?_;refine io rfl ?_;refine io rfl rfl
def F71 (x1:Int) (x2:YM):aB Bool:=
 (Dy x2).bind fun⟨x3,x4⟩=>(aZ (E:=Bool) (fun(⟨e,b⟩:Bool×Int)=>if decide (b<(x2.aR.length:Int))then(bB x2.aR b).bind fun c=>(aZ (E:=Bool) (fun(⟨f,a⟩:Bool×Int)=>if decide (a<(c.kQ.length:Int))then(bB c.kQ a).bind fun d=>((if f then some true else(F70 d.Rv).bind fun g=>some (g !=0):aB (Bool))).bind fun h=>((if h then some true else(zS d.At 0 (bF (x3-1))).bind fun i=>some (!i):aB (Bool))).bind fun j=>((if j then some true else((if decide (a>0)then(bB c.kQ (bF (a-1))).bind fun k=>some (decide (d.At<=k.At))else some false:aB (Bool))).bind fun l=>some l:aB (Bool))).bind fun m=>some (.inl (m,(bF (a+1))))else some (.inr f)) bN (e,0)).bind fun n=>some (.inl (n,(bF (b+1))))else some (.inr e)) bN (false,0)).bind fun o=>some (o&&(x4==0))
theorem kZ2 [IR] {k} (d) (x1:Int) (x2:YM):OD k (d+5) 71 [i64 x1,.agg (YM.g x2)]=(F71 x1 x2).map bv:=by
 refine oe rfl ?_;refine bo (Is d x2) fun⟨x3,x4⟩=>?_;refine bz lm ?_;refine bo (aL (S:=Bool×Int) (enc:=fun⟨c,a⟩=>(Q [(5,i64 x3),(6,i64 x4),(7,bv c),(18,.is 2 (I YW.g x2.aR)),(19,i64 (x2.aR.length:Int)),(20,i64 a)] [(0,.box (YM.g x2))])) (encE:=(fun(l:Bool)=>(xq 0 [(6,i64 x4),(7,bv l)] [(0,.box (YM.g x2))]))) (fun⟨c,a⟩=>?_) bN (false,0)) fun l=>?_;refine ig fun b=>?_;refine bz lm ?_;refine bo (aL (S:=Bool×Int) (enc:=fun⟨f,h⟩=>(Q [(5,i64 x3),(6,i64 x4),(7,bv f),(9,.ref 1 0),(18,.is 2 (I YW.g x2.aR)),(19,i64 (x2.aR.length:Int)),(20,i64 a),(25,.is 2 (I YC.g b.kQ)),(26,i64 (b.kQ.length:Int)),(27,i64 h)] [(1,.box (YW.g b)),(0,.box (YM.g x2))])) (encE:=(fun(j:Bool)=>(xq 2 [(5,i64 x3),(6,i64 x4),(7,bv j),(18,.is 2 (I YW.g x2.aR)),(19,i64 (x2.aR.length:Int)),(20,i64 a)] [(1,.box (YW.g b)),(0,.box (YM.g x2))]))) (fun⟨f,h⟩=>?_) bN (c,0)) fun j=>?_;refine ig fun i=>?_;refine bo (e:=id) ?_ fun n=>?_;refine io rfl ?_;refine bo (xS1 (d+1) i.Rv) fun m=>?_;rfl;refine bo (e:=id) ?_ fun p=>?_;refine io rfl ?_;refine bo (rE (d+3) i.At 0 (bF (x3-1))) fun o=>?_;rfl;refine bo (e:=id) ?_ fun s=>?_;refine io rfl ?_;refine bo (e:=id) ?_ fun r=>?_;refine ig fun q=>?_;rfl;rfl;rfl;rfl;refine bz (fW rfl) ?_;rfl
def It (x1:aA YV) (x2:Y0) (x3:Int):aB (aA YV):=
 (aZ (E:=aA YV) (fun(⟨a,e⟩:Int×(aA YV))=>if decide (a<(x2.aD.length:Int))then(bB x2.aD a).bind fun f=>(F71 a f).bind fun b=>(kO b f.ID e x2 x3).bind fun c=>some (.inl ((bF (a+1)),c))else some (.inr e)) bN (0,x1)).bind fun d=>some d
theorem jI1 [IR] {k} (d) (x1:aA YV) (x2:Y0) (x3:Int):eD (XD k (d+6)) 68 [.ref 1 0,.fn 71 [] []] (cL x1 x2 x3) 3 false=(It x1 x2 x3).map (fun(c:aA YV)=>((.tup [],(cL c x2 x3),0))):=by
 rw[xd (fn:=p68) rfl];refine bz lm ?_;refine bo (aL (S:=Int×(aA YV)) (enc:=fun⟨e,f⟩=>(Q [(0,.ref 1 0),(1,.fn 71 [] []),(10,.is 22 (I YM.g x2.aD)),(11,i64 (x2.aD.length:Int)),(12,i64 e)] (cL f x2 x3))) (encE:=(fun(a:aA YV)=>(xq 0 [] (cL a x2 x3)))) (fun⟨e,f⟩=>?_) bN (0,x1)) fun a=>?_;refine ig fun h=>?_;refine bo (kZ2 d e h) fun b=>?_;refine bo (iS (d+4) b h.ID f x2 x3) fun i=>?_;rfl;rfl
def cR1 (x1:aA YV) (x2:Y0) (x3:Int):aB (aA YV):=
 (aZ (E:=aA YV) (fun(⟨a,c⟩:Int×(aA YV))=>if decide (a<(x2.bV.length:Int))then(bB x2.bV a).bind fun d=>(aZ (E:=aA YV) (fun(⟨b,e⟩:Int×(aA YV))=>if decide (b<(d.dZ.length:Int))then(bB d.dZ b).bind fun f=>(F70 f.Rv).bind fun g=>(kO (g !=0) f.ID e x2 x3).bind fun h=>some (.inl ((bF (b+1)),h))else some (.inr e)) bN (0,c)).bind fun i=>some (.inl ((bF (a+1)),i))else some (.inr c)) bN (0,x1)).bind fun j=>(It j x2 x3).bind fun k=>some k
theorem xY1 [IR] {k} (d) (x1:aA YV) (x2:Y0) (x3:Int):eD (XD k (d+7)) 35 [.ref 1 0] (cL x1 x2 x3) 3 false=(cR1 x1 x2 x3).map (fun(m:aA YV)=>((.tup [],(cL m x2 x3),0))):=by
 rw[xd (fn:=p35) rfl];refine bz lm ?_;refine bo (aL (S:=Int×(aA YV)) (enc:=fun⟨a,c⟩=>(Q [(0,.ref 1 0),(10,.is 6 (I YJ.g x2.bV)),(11,i64 (x2.bV.length:Int)),(12,i64 a)] (cL c x2 x3))) (encE:=(fun(f:aA YV)=>(xq 0 [(0,.ref 1 0)] (cL f x2 x3)))) (fun⟨a,c⟩=>?_) bN (0,x1)) fun f=>?_;refine ig fun b=>?_;refine bz lm ?_;refine bo (aL (S:=Int×(aA YV)) (enc:=fun⟨h,e⟩=>(Q [(0,.ref 1 0),(10,.is 6 (I YJ.g x2.bV)),(11,i64 (x2.bV.length:Int)),(12,i64 a),(17,.is 3 (I YF.g b.dZ)),(18,i64 (b.dZ.length:Int)),(19,i64 h)] ((3,.box (YJ.g b))::cL e x2 x3))) (encE:=(fun(j:aA YV)=>(xq 2 [(0,.ref 1 0),(10,.is 6 (I YJ.g x2.bV)),(11,i64 (x2.bV.length:Int)),(12,i64 a)] ((3,.box (YJ.g b))::cL j x2 x3)))) (fun⟨h,e⟩=>?_) bN (0,c)) fun j=>?_;refine ig fun i=>?_;refine bo (xS1 (d+3) i.Rv) fun l=>?_;refine bo (iS (d+5) (l !=0) i.ID e x2 x3) fun n=>?_;rfl;rfl;refine bo (jI1 d f x2 x3) fun o=>?_;rfl
def jJ1 (x1:Int):aB Int:=
 if(decide (x1<(-7)))||(decide (x1>7))then some 2 else some 0
theorem xZ1 [IR] {k} (d) (x1:Int):OD k (d+1) 121 [i64 x1]=(jJ1 x1).map i64:=by
 refine oe rfl ?_;refine bz (gM rfl) ?_;refine io rfl rfl
def F73 (x1:Int) (x2:YL):aB (Int×Int):=
 (jJ1 x1).bind fun x3=>if x3 !=0 then some (0,x3)else if(((decide (x2.pV<(-77)))||(decide (x2.pV>77)))||(decide (x2.fG<(-140))))||(decide (x2.fG>140))then some (0,2)else(aZ (E:=Int) (fun(x4:Int)=>if decide (x4>7)then some (.inl (bF (x4-12)))else some (.inr x4)) bN (bF (x1+(bF ((bF (7*x2.fG))-(bF (12*x2.pV))))))).bind fun b=>(aZ (E:=Int) (fun(a:Int)=>if decide (a<(-7))then some (.inl (bF (a+12)))else some (.inr a)) bN b).bind fun c=>some (c,0)
theorem lA2 [IR] {k} (d) (x1:Int) (x2:YL):OD k (d+2) 73 [i64 x1,.agg (YL.g x2)]=(F73 x1 x2).map (fun⟨e,f⟩=>.tup [i64 e,i64 f]):=by
 refine oe rfl ?_;refine bo (xZ1 d x1) fun x3=>?_;refine io rfl ?_;refine bz (gM rfl) ?_;refine bz (gM rfl) ?_;refine bz (gM rfl) ?_;refine io rfl ?_;refine bo (aL (S:=Int) (enc:=fun x4=>(Q [(0,i64 x4)] [(0,.box (YL.g x2))])) (encE:=(fun(a:Int)=>(xq 0 [(0,i64 a)] [(0,.box (YL.g x2))]))) (fun x4=>?_) bN (bF (x1+(bF ((bF (7*x2.fG))-(bF (12*x2.pV))))))) fun a=>?_;refine io rfl rfl;refine bo (aL (S:=Int) (enc:=fun b=>(Q [(0,i64 b)] [(0,.box (YL.g x2))])) (encE:=(fun(c:Int)=>(xq 2 [(0,i64 c)] [(0,.box (YL.g x2))]))) (fun b=>?_) bN a) fun c=>?_;refine io rfl rfl;rfl
def F72 (x1:Int) (x2:YM) (x3:YK):aB Bool:=
 (Dy x2).bind fun⟨x4,h⟩=>((if h !=0 then some true else(zS x2.Du (-7) 7).bind fun i=>some (!i):aB (Bool))).bind fun j=>(aZ (E:=Bool) (fun(⟨a,b⟩:Bool×Int)=>if decide (b<(x3.s'.bV.length:Int))then(bB x3.s'.bV b).bind fun c=>((if x3.s'.sB&&(!a)then(F73 x2.Du c.jY).bind fun⟨g,d⟩=>some (d !=0)else some a:aB (Bool))).bind fun e=>some (.inl (e,(bF (b+1))))else some (.inr a)) bN (j,0)).bind fun f=>some f
theorem lB2 [IR] {k} (d) (x1:Int) (x2:YM) (x3:YK):OD k (d+5) 72 [i64 x1,.agg (YM.g x2),.ip [.ip (YK.g x3)]]=(F72 x1 x2 x3).map bv:=by
 refine oe rfl ?_;refine bo (Is d x2) fun⟨x4,m⟩=>?_;refine bo (e:=id) ?_ fun l=>?_;refine io rfl ?_;refine bo (rE (d+3) x2.Du (-7) 7) fun n=>?_;rfl;refine bz lm ?_;refine bo (aL (S:=Bool×Int) (enc:=fun⟨b,a⟩=>(Q [(2,.ip [.ip (YK.g x3)]),(4,.ref 0 0),(8,bv b),(28,.is 6 (I YJ.g x3.s'.bV)),(29,i64 (x3.s'.bV.length:Int)),(30,i64 a)] [(0,.box (YM.g x2))])) (encE:=(fun(h:Bool)=>(xq 0 [(8,bv h)] [(0,.box (YM.g x2))]))) (fun⟨b,a⟩=>?_) bN (l,0)) fun h=>?_;refine ig fun c=>?_;refine bz (fW rfl) ?_;refine bo (e:=(fun(f:Bool)=>(nq [(2,.ip [.ip (YK.g x3)]),(4,.ref 0 0),(8,bv f),(28,.is 6 (I YJ.g x3.s'.bV)),(29,i64 (x3.s'.bV.length:Int)),(30,i64 a)] [(1,.box (YJ.g c)),(0,.box (YM.g x2))]))) ?_ fun f=>?_;refine io ?_ rfl;refine bo (lA2 (d+2) x2.Du c.jY) fun⟨i,j⟩=>?_;rfl;rfl;rfl
def xE (x1:aA YV) (x2:Y0) (x3:Int):aB (aA YV):=
 (aZ (E:=aA YV) (fun(⟨a,e⟩:Int×(aA YV))=>if decide (a<(x2.aD.length:Int))then(bB x2.aD a).bind fun f=>(F72 a f (YK.mk x2 x3 e)).bind fun b=>(kO b f.ID e x2 x3).bind fun c=>some (.inl ((bF (a+1)),c))else some (.inr e)) bN (0,x1)).bind fun d=>some d
theorem jK1 [IR] {k} (d) (x1:aA YV) (x2:Y0) (x3:Int):eD (XD k (d+6)) 68 [.ref 1 0,.fn 72 [] [.ref 3 0]] ((3,.box [.ref 1 0])::cL x1 x2 x3) 4 false=(xE x1 x2 x3).map (fun(e:aA YV)=>((.tup [],((3,.box [.ref 1 0])::cL e x2 x3),0))):=by
 rw[xd (fn:=p68) rfl];refine bz lm ?_;refine bo (aL (S:=Int×(aA YV)) (enc:=fun⟨f,b⟩=>(Q [(0,.ref 1 0),(1,.fn 72 [] [.ref 3 0]),(10,.is 22 (I YM.g x2.aD)),(11,i64 (x2.aD.length:Int)),(12,i64 f)] ((3,.box [.ref 1 0])::cL b x2 x3))) (encE:=(fun(a:aA YV)=>(xq 0 [] ((3,.box [.ref 1 0])::cL a x2 x3)))) (fun⟨f,b⟩=>?_) bN (0,x1)) fun a=>?_;refine ig fun h=>?_;refine bo (lB2 d f h (YK.mk x2 x3 b)) fun c=>?_;refine bo (iS (d+4) c h.ID b x2 x3) fun i=>?_;rfl;rfl
def Xf (x1:aA YV) (x2:Y0) (x3:Int):aB (aA YV):=
 (xE x1 x2 x3).bind fun x4=>some x4
theorem yA1 [IR] {k} (d) (x1:aA YV) (x2:Y0) (x3:Int):eD (XD k (d+7)) 36 [.ref 1 0] (cL x1 x2 x3) 3 false=(Xf x1 x2 x3).map (fun(a:aA YV)=>((.tup [],(cL a x2 x3),0))):=by
 rw[xd (fn:=p36) rfl];refine bo (jK1 d x1 x2 x3) fun x4=>?_;rfl
def sG (x1:Int) (x2:Int):aB Int:=
 if(decide (x1<0))||(decide (x1>x2))then some 2 else some 0
theorem oM [IR] {k} (d) (x1:Int) (x2:Int):OD k (d+1) 131 [i64 x1,i64 x2]=(sG x1 x2).map i64:=by
 refine oe rfl ?_;refine bz (gM rfl) ?_;refine io rfl rfl
def Nc (x1:aA Int):aB Int:=
 (aZ (E:=Int⊕Unit) (fun(x3:Int)=>if decide (x3<(x1.length:Int))then(bB x1 x3).bind fun x4=>if x4 !=0 then some (.inr (.inl x4))else some (.inl (bF (x3+1)))else some (.inr (.inr ()))) bN 0).bind fun a=>(match a with|.inl x5=>some x5|.inr _=>some 0)
theorem Nd [IR] {k} (d) (x1:aA Int):OD k (d+1) 130 [.is 1 (I cI x1)]=(Nc x1).map i64:=by
 refine oe rfl ?_;refine bz lm ?_;refine bo (aL (S:=Int) (enc:=fun x3=>(Q [(5,.is 1 (I cI x1)),(6,i64 (x1.length:Int)),(7,i64 x3)] [])) (encE:=(fun|.inl a=>(rq [(2,i64 a)] [])|.inr _=>(xq 0 [] []))) (fun x3=>?_) bN 0) fun b=>?_;refine ig fun x4=>?_;refine io rfl rfl;rcases b with a|_;rfl;rfl
def cS1 (x1:Int):aB Bool:=
 some ((decide (x1>=1))&&(decide (x1<=4)))
theorem pA1 [IR] {k} (d) (x1:Int):OD k (d+1) 132 [i64 x1]=(cS1 x1).map bv:=by
 refine oe rfl ?_;refine bz (fW rfl) ?_;rfl
def jL1 (x1:Int):aB Int:=
 if decide (x1<0)then some 0 else some (dU .i64 x1 16)
theorem yB1 [IR] {k} (d) (x1:Int):OD k (d+1) 180 [i64 x1]=(jL1 x1).map i64:=by
 refine oe rfl ?_;refine io rfl rfl
def cT1 (x1:YE):aB YE:=
 ((if x1.dD==1 then some true else(cS1 x1.dD).bind fun x2=>some (!x2):aB (Bool))).bind fun x3=>if x3 then some x1 else((if x1.dD !=3 then some x1.Value else some (YA.mk 0 0):aB (YA))).bind fun x4=>((if x1.dD !=4 then(jL1 x1.dI).bind fun a=>some a else some 0:aB (Int))).bind fun b=>some (YE.mk x1.ID x1.dD x4 [] [] b 0 x1.iZ [] 0 0)
theorem yC1 [IR] {k} (d) (x1:YE):OD k (d+2) 134 [.agg (YE.g x1)]=(cT1 x1).map (fun b=>.agg (YE.g b)):=by
 refine oe rfl ?_;refine bo (e:=id) ?_ fun x3=>?_;refine io rfl ?_;refine bo (pA1 d x1.dD) fun x2=>?_;rfl;refine io rfl ?_;refine bo (e:=(fun(x4:YA)=>(nq [(1,.ref 0 0),(2,.ref 1 0),(3,.ref 2 0)] [(2,.box [i64 x1.ID.dH,i64 x1.ID.bG,i64 x1.dD,i64 x4.Log,i64 x4.rK,.v (.slice none 0 0),.v (.slice none 0 0),i64 0,i64 0,i64 x1.iZ,.v (.slice none 0 0),i64 0,i64 0]),xF1,(0,.box (YE.g x1))]))) ?_ fun x4=>?_;refine io rfl rfl;refine bo (e:=(fun(a:Int)=>(nq [(2,.ref 1 0),(3,.ref 2 0)] [(2,.box [i64 x1.ID.dH,i64 x1.ID.bG,i64 x1.dD,i64 x4.Log,i64 x4.rK,.v (.slice none 0 0),.v (.slice none 0 0),i64 a,i64 0,i64 x1.iZ,.v (.slice none 0 0),i64 0,i64 0]),xF1,(0,.box (YE.g x1))]))) ?_ fun a=>?_;refine io ?_ rfl;refine bo (yB1 d x1.dI) fun c=>?_;rfl;rfl
def Xg (x1 x2:aA YB):aB Bool:=
 if(x1.length:Int)!=(x2.length:Int)then some false else(aZ (E:=Unit⊕Unit) (fun(c:Int)=>if decide (c<(x1.length:Int))then(bB x1 c).bind fun a=>(bB x2 c).bind fun b=>if((a.dW.rL==b.dW.rL)&&((a.dW.pT==b.dW.pT)&&((a.dW.lR==b.dW.lR)&&((a.tU==b.tU)&&((a.gM1==b.gM1)&&true)))))!=true then some (.inr (.inl ()))else some (.inl (bF (c+1)))else some (.inr (.inr ()))) bN 0).bind fun d=>(match d with|.inl _=>some false|.inr _=>some true)
theorem yD1 [IR] {k} (d) (x1 x2:aA YB):OD k (d+1) 177 [.is 5 (I YB.g x1),.is 5 (I YB.g x2)]=(Xg x1 x2).map bv:=by
 refine oe rfl ?_;refine bz lm ?_;refine bz lm ?_;refine io rfl ?_;refine bz lm ?_;refine bo (aL (S:=Int) (enc:=fun a=>(Q [(0,.is 5 (I YB.g x1)),(1,.is 5 (I YB.g x2)),(12,i64 (x1.length:Int)),(13,i64 a)] [])) (encE:=(fun|.inl _=>(rq [(4,bv false)] [])|.inr _=>(xq 0 [] []))) (fun a=>?_) bN 0) fun b=>?_;refine ig fun c=>?_;refine bo rg fun e=>?_;refine io rfl rfl;rcases b with _|_;rfl;rfl
def jM1 (x1 x2:aA YD):aB Bool:=
 if(x1.length:Int)!=(x2.length:Int)then some false else(aZ (E:=Unit⊕Unit) (fun(c:Int)=>if decide (c<(x1.length:Int))then(bB x1 c).bind fun a=>(bB x2 c).bind fun b=>if((a.dW.rL==b.dW.rL)&&((a.dW.pT==b.dW.pT)&&((a.dW.lR==b.dW.lR)&&((a.Log==b.Log)&&((a.gK1==b.gK1)&&true)))))!=true then some (.inr (.inl ()))else some (.inl (bF (c+1)))else some (.inr (.inr ()))) bN 0).bind fun d=>(match d with|.inl _=>some false|.inr _=>some true)
theorem yE1 [IR] {k} (d) (x1 x2:aA YD):OD k (d+1) 178 [.is 5 (I YD.g x1),.is 5 (I YD.g x2)]=(jM1 x1 x2).map bv:=by
 refine oe rfl ?_;refine bz lm ?_;refine bz lm ?_;refine io rfl ?_;refine bz lm ?_;refine bo (aL (S:=Int) (enc:=fun a=>(Q [(0,.is 5 (I YD.g x1)),(1,.is 5 (I YD.g x2)),(12,i64 (x1.length:Int)),(13,i64 a)] [])) (encE:=(fun|.inl _=>(rq [(4,bv false)] [])|.inr _=>(xq 0 [] []))) (fun a=>?_) bN 0) fun b=>?_;refine ig fun c=>?_;refine bo rg fun e=>?_;refine io rfl rfl;rcases b with _|_;rfl;rfl
end Go.P
namespace Go.P
open Go.Sim (Ex fC CK)
open K (I Q rq nq xq ck)
def jN1 (x1 x2:aA YY):aB Bool:=
 if(x1.length:Int)!=(x2.length:Int)then some false else(aZ (E:=Unit⊕Unit) (fun(a:Int)=>if decide (a<(x1.length:Int))then(bB x1 a).bind fun b=>(bB x2 a).bind fun c=>if((b.nZ==c.nZ)&&((b.yW==c.yW)&&true))!=true then some (.inr (.inl ()))else some (.inl (bF (a+1)))else some (.inr (.inr ()))) bN 0).bind fun d=>(match d with|.inl _=>some false|.inr _=>some true)
theorem yF1 [IR] {k} (d) (x1 x2:aA YY):OD k (d+1) 179 [.is 2 (I YY.g x1),.is 2 (I YY.g x2)]=(jN1 x1 x2).map bv:=by
 refine oe rfl ?_;refine bz lm ?_;refine bz lm ?_;refine io rfl ?_;refine bz lm ?_;refine bo (aL (S:=Int) (enc:=fun a=>(Q [(0,.is 2 (I YY.g x1)),(1,.is 2 (I YY.g x2)),(12,i64 (x1.length:Int)),(13,i64 a)] [])) (encE:=(fun|.inl _=>(rq [(4,bv false)] [])|.inr _=>(xq 0 [] []))) (fun a=>?_) bN 0) fun b=>?_;refine ig fun c=>?_;refine bo rg fun e=>?_;refine io rfl rfl;rcases b with _|_;rfl;rfl
def cU1 (x1 x2:YE):aB Bool:=
 ((if((((((x1.dD==x2.dD)&&(((x1.Value.Log==x2.Value.Log)&&((x1.Value.rK==x2.Value.rK)&&true))!=false))&&(x1.dI==x2.dI))&&(x1.jK==x2.jK))&&(x1.iZ==x2.iZ))&&(x1.Ew==x2.Ew))&&(x1.Eu==x2.Eu)then(Xg x1.cW x2.cW).bind fun x3=>some x3 else some false:aB (Bool))).bind fun x4=>((if x4 then(jM1 x1.gN x2.gN).bind fun a=>some a else some false:aB (Bool))).bind fun b=>((if b then(jN1 x1.dP x2.dP).bind fun c=>some c else some false:aB (Bool))).bind fun d=>some d
theorem yG1 [IR] {k} (d) (x1 x2:YE):OD k (d+2) 133 [.agg (YE.g x1),.agg (YE.g x2)]=(cU1 x1 x2).map bv:=by
 refine oe rfl ?_;refine bz (fW rfl) ?_;refine bz (fW rfl) ?_;refine bz (fW rfl) ?_;refine bz (fW rfl) ?_;refine bz (fW rfl) ?_;refine bz (fW rfl) ?_;refine bo (e:=id) ?_ fun x4=>?_;refine io ?_ rfl;refine bo (yD1 d x1.cW x2.cW) fun x3=>?_;rfl;refine bo (e:=id) ?_ fun b=>?_;refine io ?_ rfl;refine bo (yE1 d x1.gN x2.gN) fun a=>?_;rfl;refine bo (e:=id) ?_ fun f=>?_;refine io ?_ rfl;refine bo (yF1 d x1.dP x2.dP) fun c=>?_;rfl;rfl
def cV1 (x1:YA):aB Int:=
 if(((decide (x1.Log<(-1)))||(decide (x1.Log>8)))||(decide (x1.rK<0)))||(decide (x1.rK>3))then some 17 else some 0
theorem pB1 [IR] {k} (d) (x1:YA):OD k (d+1) 135 [.agg (YA.g x1)]=(cV1 x1).map i64:=by
 refine oe rfl ?_;refine bz (gM rfl) ?_;refine bz (gM rfl) ?_;refine bz (gM rfl) ?_;refine io rfl rfl
def jO1:aB Ct:=
 some (Ct.mk 0 2 4 5 7 9 11)
theorem yH1 [IR] {k} (d):OD k (d+1) 185 []=(jO1).map (fun a=>.agg (Ct.g a)):=by
 refine oe rfl ?_;rfl
def cW1 (x1:YH):aB Int:=
 (jO1).bind fun x2=>(bB [x2.c0,x2.c1,x2.c2,x2.c3,x2.c4,x2.c5,x2.c6] x1.rL).bind fun x3=>some (bF ((bF ((bF (12*(bF (x1.lR+1))))+x3))+x1.pT))
theorem pC1 [IR] {k} (d) (x1:YH):OD k (d+2) 140 [.agg (YH.g x1)]=(cW1 x1).map i64:=by
 refine oe rfl ?_;refine bo (yH1 d) fun x2=>?_;refine bo (tL .i64 [x2.c0,x2.c1,x2.c2,x2.c3,x2.c4,x2.c5,x2.c6] x1.rL rfl) fun x3=>?_;rfl
def jP1 (x1:YH):aB Int:=
 if(((((decide (x1.rL<0))||(decide (x1.rL>6)))||(decide (x1.pT<(-2))))||(decide (x1.pT>2)))||(decide (x1.lR<(-1))))||(decide (x1.lR>9))then some 18 else(cW1 x1).bind fun x2=>if(decide (x2<0))||(decide (x2>127))then some 18 else some 0
theorem yI1 [IR] {k} (d) (x1:YH):OD k (d+3) 139 [.agg (YH.g x1)]=(jP1 x1).map i64:=by
 refine oe rfl ?_;refine bz (gM rfl) ?_;refine bz (gM rfl) ?_;refine bz (gM rfl) ?_;refine bz (gM rfl) ?_;refine bz (gM rfl) ?_;refine io rfl ?_;refine bo (pC1 d x1) fun x2=>?_;refine bz (gM rfl) ?_;refine io rfl rfl
def F82 (x1:YH):aB (Int×Int):=
 (jP1 x1).bind fun x2=>if x2 !=0 then some (0,x2)else(cW1 x1).bind fun x3=>some (x3,0)
theorem sG1 [IR] {k} (d) (x1:YH):OD k (d+4) 82 [.agg (YH.g x1)]=(F82 x1).map (fun⟨a,b⟩=>.tup [i64 a,i64 b]):=by
 refine oe rfl ?_;refine bo (yI1 d x1) fun x2=>?_;refine io rfl ?_;refine bo (pC1 (d+1) x1) fun x3=>?_;rfl
def Xh (x1:YH):aB (Int×Int):=
 (F82 x1).bind fun⟨x2,x3⟩=>if((x3 !=0)||(decide (x2<0)))||(decide (x2>127))then some (0,18)else some (x2,0)
theorem cX1 [IR] {k} (d) (x1:YH):OD k (d+5) 182 [.agg (YH.g x1)]=(Xh x1).map (fun⟨a,b⟩=>.tup [i64 a,i64 b]):=by
 refine oe rfl ?_;refine bo (sG1 d x1) fun⟨x2,x3⟩=>?_;refine bz (gM rfl) ?_;refine bz (gM rfl) ?_;refine io rfl rfl
def jQ1 (x1:YB):aB Int:=
 (Xh x1.dW).bind fun⟨x2,x3⟩=>(sG x1.gM1 2).bind fun x4=>(Nc [x3,x4]).bind fun a=>some a
theorem yJ1 [IR] {k} (d) (x1:YB):OD k (d+6) 181 [.agg (YB.g x1)]=(jQ1 x1).map i64:=by
 refine oe rfl ?_;refine bo (cX1 d x1.dW) fun⟨x2,x3⟩=>?_;refine bo (oM (d+4) x1.gM1 2) fun x4=>?_;refine bo (Nd (d+4) [x3,x4]) fun a=>?_;rfl
def jR1 (x1:aA YB):aB Int:=
 if(x1.length:Int)==0 then some 4 else if decide ((x1.length:Int)>10)then some 9 else(aZ (E:=Int⊕Unit) (fun(⟨g,c⟩:Int×Int)=>if decide (c<(x1.length:Int))then(bB x1 c).bind fun d=>(jQ1 d).bind fun e=>if e !=0 then some (.inr (.inl e))else(Xh d.dW).bind fun⟨a,f⟩=>if decide (a<=g)then some (.inr (.inl 25))else some (.inl (a,(bF (c+1))))else some (.inr (.inr ()))) bN ((-1),0)).bind fun b=>(match b with|.inl x12=>some x12|.inr _=>some 0)
theorem yK1 [IR] {k} (d) (x1:aA YB):OD k (d+7) 136 [.is 5 (I YB.g x1)]=(jR1 x1).map i64:=by
 refine oe rfl ?_;refine bz lm ?_;refine io rfl ?_;refine bz lm ?_;refine io rfl ?_;refine bz lm ?_;refine bo (aL (S:=Int×Int) (enc:=fun⟨c,e⟩=>(Q [(3,i64 c),(17,.is 5 (I YB.g x1)),(18,i64 (x1.length:Int)),(19,i64 e)] [])) (encE:=(fun|.inl a=>(rq [(2,i64 a)] [])|.inr _=>(xq 1 [] []))) (fun⟨c,e⟩=>?_) bN ((-1),0)) fun b=>?_;refine ig fun f=>?_;refine bo (yJ1 d f) fun j=>?_;refine io rfl ?_;refine bo (cX1 (d+1) f.dW) fun⟨h,i⟩=>?_;refine io rfl rfl;rcases b with a|_;rfl;rfl
def jS1 (x1:aA YD):aB Int:=
 if decide ((x1.length:Int)>8)then some 9 else(aZ (E:=Int⊕Unit) (fun(b:Int)=>if decide (b<(x1.length:Int))then(bB x1 b).bind fun c=>(Xh c.dW).bind fun⟨e,d⟩=>if d !=0 then some (.inr (.inl d))else if(decide (c.Log<1))||(decide (c.Log>6))then some (.inr (.inl 2))else some (.inl (bF (b+1)))else some (.inr (.inr ()))) bN 0).bind fun a=>(match a with|.inl x9=>some x9|.inr _=>some 0)
theorem yL1 [IR] {k} (d) (x1:aA YD):OD k (d+6) 137 [.is 5 (I YD.g x1)]=(jS1 x1).map i64:=by
 refine oe rfl ?_;refine bz lm ?_;refine io rfl ?_;refine bz lm ?_;refine bo (aL (S:=Int) (enc:=fun b=>(Q [(10,.is 5 (I YD.g x1)),(11,i64 (x1.length:Int)),(12,i64 b)] [])) (encE:=(fun|.inl c=>(rq [(2,i64 c)] [])|.inr _=>(xq 0 [] []))) (fun b=>?_) bN 0) fun a=>?_;refine ig fun e=>?_;refine bo (cX1 d e.dW) fun⟨f,h⟩=>?_;refine io rfl ?_;refine bz (gM rfl) ?_;refine io rfl rfl;rcases a with c|_;rfl;rfl
def jT1 (x1:YY):aB Int:=
 if(decide (x1.yW<0))||(decide (x1.yW>2))then some 2 else if decide ((x1.nZ.size:Int)>256)then some 5 else(aZ (E:=Unit⊕Unit) (fun(a:Int)=>if decide (a<(x1.nZ.size:Int))then(qS x1.nZ a).bind fun b=>((if decide (b<32)then some true else(qS x1.nZ a).bind fun c=>some (c==127):aB (Bool))).bind fun d=>if d then some (.inr (.inl ()))else some (.inl (bF (a+1)))else some (.inr (.inr ()))) bN 0).bind fun e=>(match e with|.inl _=>some 6|.inr _=>if(x1.nZ.toList==(⟨#[]⟩:ByteArray).toList)&&(x1.yW==1)then some 3 else some 0)
theorem yM1 [IR] {k} (d) (x1:YY):OD k (d+1) 183 [.agg (YY.g x1)]=(jT1 x1).map i64:=by
 refine oe rfl ?_;refine bz (gM rfl) ?_;refine io rfl ?_;refine io rfl ?_;refine bo (aL (S:=Int) (enc:=fun a=>(Q [(1,.ref 0 0),(20,i64 (x1.nZ.size:Int)),(21,i64 a)] [(0,.box (YY.g x1))])) (encE:=(fun|.inl _=>(rq [(1,.ref 0 0),(2,i64 6)] [(0,.box (YY.g x1))])|.inr _=>(xq 1 [(1,.ref 0 0)] [(0,.box (YY.g x1))]))) (fun a=>?_) bN 0) fun b=>?_;refine io ?_ rfl;refine bo oi fun c=>?_;refine bo (e:=id) ?_ fun h=>?_;refine io rfl ?_;refine bo oi fun f=>?_;rfl;refine io rfl rfl;rcases b with _|_;rfl;refine bz (fW rfl) ?_;refine io rfl rfl
def jU1 (x1:YY):aB Bool:=
 some (((x1.nZ==(⟨#[]⟩:ByteArray))&&((x1.yW==0)&&true))!=false)
theorem yN1 [IR] {k} (d) (x1:YY):OD k (d+1) 184 [.agg (YY.g x1)]=(jU1 x1).map bv:=by
 refine oe rfl ?_;rfl
def jV1 (x1:aA YY):aB Int:=
 if decide ((x1.length:Int)>4)then some 9 else(aZ (E:=Int⊕Unit) (fun(x4:Int)=>if decide (x4<(x1.length:Int))then(bB x1 x4).bind fun d=>(jT1 d).bind fun c=>if c !=0 then some (.inr (.inl c))else some (.inl (bF (x4+1)))else some (.inr (.inr ()))) bN 0).bind fun e=>(match e with|.inl x7=>some x7|.inr _=>((if decide ((x1.length:Int)>0)then(bB x1 (bF ((x1.length:Int)-1))).bind fun f=>(jU1 f).bind fun a=>some a else some false:aB (Bool))).bind fun b=>if b then some 3 else some 0)
theorem yO1 [IR] {k} (d) (x1:aA YY):OD k (d+2) 138 [.is 2 (I YY.g x1)]=(jV1 x1).map i64:=by
 refine oe rfl ?_;refine bz lm ?_;refine io rfl ?_;refine bz lm ?_;refine bo (aL (S:=Int) (enc:=fun x4=>(Q [(0,.is 2 (I YY.g x1)),(10,.is 2 (I YY.g x1)),(11,i64 (x1.length:Int)),(12,i64 x4)] [])) (encE:=(fun|.inl a=>(rq [(0,.is 2 (I YY.g x1)),(2,i64 a)] [])|.inr _=>(xq 0 [(0,.is 2 (I YY.g x1))] []))) (fun x4=>?_) bN 0) fun h=>?_;refine ig fun f=>?_;refine bo (yM1 d f) fun j=>?_;refine io rfl rfl;rcases h with a|_;rfl;refine bz lm ?_;refine bo (e:=id) ?_ fun c=>?_;refine ig fun i=>?_;refine bo (yN1 d i) fun b=>?_;rfl;refine io rfl rfl
def Xi (x1:YE):aB Int:=
 (sG x1.ID.dH 99).bind fun x2=>(sG x1.ID.bG 1073741824).bind fun x3=>(Nc [x2,x3]).bind fun x4=>if x4 !=0 then some x4 else(cS1 x1.dD).bind fun q=>if !q then some 11 else(cT1 x1).bind fun r=>(cU1 x1 r).bind fun s=>if !s then some 3 else((if x1.dD !=3 then(cV1 x1.Value).bind fun t=>some (t !=0)else some false:aB (Bool))).bind fun u=>if u then some 17 else if x1.dD==1 then(jR1 x1.cW).bind fun b=>(jS1 x1.gN).bind fun c=>(jV1 x1.dP).bind fun d=>(Nc [b,c,d]).bind fun a=>if a !=0 then some a else(sG x1.dI 31).bind fun e=>(sG x1.jK 4).bind fun f=>(sG x1.iZ 9).bind fun g=>(sG x1.Ew 2).bind fun h=>(sG x1.Eu 2).bind fun i=>(Nc [e,f,g,h,i]).bind fun j=>some j else(sG x1.dI 31).bind fun k=>(sG x1.jK 4).bind fun l=>(sG x1.iZ 9).bind fun m=>(sG x1.Ew 2).bind fun n=>(sG x1.Eu 2).bind fun o=>(Nc [k,l,m,n,o]).bind fun p=>some p
theorem Xj [IR] {k} (d) (x1:YE):OD k (d+8) 79 [.agg (YE.g x1)]=(Xi x1).map i64:=by
 refine oe rfl ?_;refine bo (oM (d+6) x1.ID.dH 99) fun x2=>?_;refine bo (oM (d+6) x1.ID.bG 1073741824) fun x3=>?_;refine bo (Nd (d+6) [x2,x3]) fun x4=>?_;refine io rfl ?_;refine bo (pA1 (d+6) x1.dD) fun v=>?_;refine io rfl ?_;refine bo (yC1 (d+5) x1) fun u=>?_;refine bo (yG1 (d+5) x1 u) fun w=>?_;refine io rfl ?_;refine bo (e:=id) ?_ fun y=>?_;refine io ?_ rfl;refine bo (pB1 (d+6) x1.Value) fun x=>?_;rfl;refine io rfl ?_;refine io ?_ ?_;refine bo (yK1 d x1.cW) fun a=>?_;refine bo (yL1 (d+1) x1.gN) fun b=>?_;refine bo (yO1 (d+5) x1.dP) fun c=>?_;refine bo (Nd (d+6) [a,b,c]) fun r=>?_;refine io rfl ?_;refine bo (oM (d+6) x1.dI 31) fun f=>?_;refine bo (oM (d+6) x1.jK 4) fun h=>?_;refine bo (oM (d+6) x1.iZ 9) fun i=>?_;refine bo (oM (d+6) x1.Ew 2) fun j=>?_;refine bo (oM (d+6) x1.Eu 2) fun l=>?_;refine bo (Nd (d+6) [f,h,i,j,l]) fun s=>?_;rfl;refine bo (oM (d+6) x1.dI 31) fun m=>?_;refine bo (oM (d+6) x1.jK 4) fun n=>?_;refine bo (oM (d+6) x1.iZ 9) fun o=>?_;refine bo (oM (d+6) x1.Ew 2) fun p=>?_;refine bo (oM (d+6) x1.Eu 2) fun q=>?_;refine bo (Nd (d+6) [m,n,o,p,q]) fun t=>?_;rfl
def jW1 (x1:YE):aB Bool:=
 (Xi x1).bind fun x2=>some (x2 !=0)
theorem yP1 [IR] {k} (d) (x1:YE):OD k (d+9) 123 [.agg (YE.g x1)]=(jW1 x1).map bv:=by
 refine oe rfl ?_;refine bo (Xj d x1) fun x2=>?_;rfl
def jX1 (x1:aA YE):aB Int:=
 (aZ (E:=Int⊕Unit) (fun(x4:Int)=>if decide (x4<(x1.length:Int))then(bB x1 x4).bind fun a=>(jW1 a).bind fun b=>if b then some (.inr (.inl x4))else some (.inl (bF (x4+1)))else some (.inr (.inr ()))) bN 0).bind fun c=>(match c with|.inl x7=>some x7|.inr _=>some (-1))
theorem yQ1 [IR] {k} (d) (x1:aA YE):OD k (d+10) 176 [.is 13 (I YE.g x1),.fn 123 [] []]=(jX1 x1).map i64:=by
 refine oe rfl ?_;refine bz lm ?_;refine bo (aL (S:=Int) (enc:=fun x4=>(Q [(0,.is 13 (I YE.g x1)),(1,.fn 123 [] []),(7,i64 (x1.length:Int)),(8,i64 x4)] [])) (encE:=(fun|.inl a=>(rq [(4,i64 a)] [])|.inr _=>(xq 0 [] []))) (fun x4=>?_) bN 0) fun c=>?_;refine ig fun b=>?_;refine bo (yP1 d b) fun e=>?_;refine io rfl rfl;rcases c with a|_;rfl;rfl
def cY1 (x1:aA YE):aB Bool:=
 (jX1 x1).bind fun x2=>some (decide (x2>=0))
theorem pD1 [IR] {k} (d) (x1:aA YE):OD k (d+11) 128 [.is 13 (I YE.g x1),.fn 123 [] []]=(cY1 x1).map bv:=by
 refine oe rfl ?_;refine bo (yQ1 d x1) fun x2=>?_;rfl
def jY1 (x1:YO):aB Bool:=
 ((if decide ((x1.aT.length:Int)>0)then(bB x1.aT 0).bind fun x2=>some (x2.dD==3)else some false:aB (Bool))).bind fun x3=>some x3
theorem yR1 [IR] {k} (d) (x1:YO):OD k (d+1) 203 [.agg (YO.g x1)]=(jY1 x1).map bv:=by
 refine oe rfl ?_;refine bz lm ?_;refine bo (e:=id) ?_ fun x3=>?_;refine ig fun x2=>?_;rfl;rfl
def jZ1 (x1:YA):aB Int:=
 (mB .i64 3870720 (bF (x1.Log+1))).bind fun x2=>(aZ (E:=Int) (fun(⟨x4,a,b⟩:Int×Int×Int)=>if decide (b<x1.rK)then(Mv .i64 x4 2).bind fun c=>some (.inl (c,(bF (a+c)),(bF (b+1))))else some (.inr a)) bN (x2,x2,0)).bind fun d=>some d
theorem yS1 [IR] {k} (d) (x1:YA):OD k (d+1) 219 [.agg (YA.g x1)]=(jZ1 x1).map i64:=by
 refine oe rfl ?_;refine bo oi fun x2=>?_;refine bo (aL (S:=Int×Int×Int) (enc:=fun⟨x4,a,b⟩=>(Q [(3,i64 x4),(4,i64 a),(11,i64 x1.rK),(12,i64 b)] [(0,.box (YA.g x1))])) (encE:=(fun(c:Int)=>(xq 0 [(4,i64 c)] [(0,.box (YA.g x1))]))) (fun⟨x4,a,b⟩=>?_) bN (x2,x2,0)) fun c=>?_;refine io ?_ rfl;refine bo oi fun e=>?_;rfl;rfl
def kA1 (x1:YA):aB (Int×Int):=
 (cV1 x1).bind fun x2=>if x2 !=0 then some (0,x2)else(jZ1 x1).bind fun x3=>some (x3,0)
theorem yT1 [IR] {k} (d) (x1:YA):OD k (d+2) 213 [.agg (YA.g x1)]=(kA1 x1).map (fun⟨a,b⟩=>.tup [i64 a,i64 b]):=by
 refine oe rfl ?_;refine bo (pB1 d x1) fun x2=>?_;refine io rfl ?_;refine bo (yS1 d x1) fun x3=>?_;rfl
def kB1 (x1:YE):aB (Int×Int):=
 (Xi x1).bind fun x2=>if(x2 !=0)||(x1.dD==3)then some (0,x2)else(kA1 x1.Value).bind fun⟨x3,x4⟩=>some (x3,x4)
theorem yU1 [IR] {k} (d) (x1:YE):OD k (d+9) 209 [.agg (YE.g x1)]=(kB1 x1).map (fun⟨a,b⟩=>.tup [i64 a,i64 b]):=by
 refine oe rfl ?_;refine bo (Xj d x1) fun x2=>?_;refine bz (gM rfl) ?_;refine io rfl ?_;refine bo (yT1 (d+6) x1.Value) fun⟨x3,x4⟩=>?_;rfl
def Xk (x1:aA YE):aB (aA Int):=
 (yP (x1.length:Int) (x1.length:Int) 0).bind fun x2=>(aZ (E:=aA Int) (fun(⟨b,a⟩:Int×(aA Int))=>if decide (b<(x1.length:Int))then(bB x1 b).bind fun c=>(kB1 c).bind fun⟨d,h⟩=>(dA a b).bind fun e=>(lP a e (fun i=>d)).bind fun f=>some (.inl ((bF (b+1)),f))else some (.inr a)) bN (0,x2)).bind fun g=>some g
theorem yV1 [IR] {k} (d) (x1:aA YE):OD k (d+10) 206 [.is 13 (I YE.g x1)]=(Xk x1).map (fun p=>.is 1 (I cI p)):=by
 refine oe rfl ?_;refine bz lm ?_;refine bo (mA cI _ _ 0) fun x2=>?_;refine bz lm ?_;refine bo (aL (S:=Int×(aA Int)) (enc:=fun⟨i,a⟩=>(Q [(3,.own 0),(9,.is 13 (I YE.g x1)),(10,i64 (x1.length:Int)),(11,i64 i)] [(0,.lst 3 1 true (I cI a))])) (encE:=(fun(b:aA Int)=>(xq 0 [(3,.own 0)] [(0,.lst 3 1 true (I cI b))]))) (fun⟨i,a⟩=>?_) bN (0,x2)) fun b=>?_;refine ig fun e=>?_;refine bo (yU1 d e) fun⟨h,j⟩=>?_;refine bo (bM cI a _) fun l=>?_;refine bo (gV (A:=Int) (c:=cI) (m:=1) (f:=fun n=>h) (fun _=>⟨rfl,rfl⟩) (wV2 rfl) a _) fun o=>?_;rfl;rfl
def cZ1 (x1:Int):aB Bool:=
 some ((decide (x1>=1))&&(decide (x1<=32)))
theorem pE1 [IR] {k} (d) (x1:Int):OD k (d+1) 216 [i64 x1]=(cZ1 x1).map bv:=by
 refine oe rfl ?_;refine bz (fW rfl) ?_;rfl
def kC1 (x1 x2:YU):aB Int:=
 if x1.jJ !=x2.jJ then if decide (x1.jJ<x2.jJ)then some (-1)else some 1 else if x1.gO !=x2.gO then if decide (x1.gO>x2.gO)then some (-1)else some 1 else some 0
theorem yW1 [IR] {k} (d) (x1 x2:YU):OD k (d+1) 217 [.agg (YU.g x1),.agg (YU.g x2)]=(kC1 x1 x2).map i64:=by
 refine oe rfl ?_;refine io ?_ ?_;refine io rfl rfl;refine io ?_ rfl;refine io rfl rfl
def Qo (x1:YU):aB Int:=
 some (bF (x1.jJ+x1.gO))
theorem Ua [IR] {k} (d) (x1:YU):OD k (d+1) 215 [.agg (YU.g x1)]=(Qo x1).map i64:=by
 refine oe rfl ?_;rfl
def Ub (x1:YU) (x2:aA YU):aB (Bool×(aA YU)):=
 (aZ (E:=aA YU) (fun(b:aA YU)=>((if decide ((b.length:Int)>0)then(dA b (bF ((b.length:Int)-1))).bind fun n=>(eL b n).bind fun c=>(Qo c).bind fun d=>some (decide (d<=x1.jJ))else some false:aB (Bool))).bind fun e=>if e then(Cp b (bF ((b.length:Int)-1))).bind fun f=>some (.inl f)else some (.inr b)) bN x2).bind fun a=>((if(a.length:Int)==3 then some true else((if decide ((a.length:Int)>0)then(Qo x1).bind fun g=>(dA a (bF ((a.length:Int)-1))).bind fun h=>(eL a h).bind fun i=>(Qo i).bind fun j=>some (decide (g>j))else some false:aB (Bool))).bind fun k=>some k:aB (Bool))).bind fun l=>if l then some (false,a)else(iP true a [x1]).bind fun m=>some (true,m)
theorem sH1 [IR] {k} (d) (x1:YU) (x2:aA YU):eD (XD k (d+2)) 214 [.agg (YU.g x1),.ref 0 0] [(1,.lst 294 4 true (I YU.g x2)),(0,.box [.own 1])] 2 false=(Ub x1 x2).map (fun(⟨i,j⟩:Bool×(aA YU))=>((bv i,[(1,.lst 294 4 true (I YU.g j)),(0,.box [.own 1])],0))):=by
 rw[xd (fn:=xB1) rfl];refine bo (aL (S:=aA YU) (enc:=fun h=>(Q [(1,.ref 0 0),(2,.ref 2 0)] [(2,.box (YU.g x1)),(1,.lst 294 4 true (I YU.g h)),(0,.box [.own 1])])) (encE:=(fun(b:aA YU)=>(xq 0 [(1,.ref 0 0),(2,.ref 2 0)] [(2,.box (YU.g x1)),(1,.lst 294 4 true (I YU.g b)),(0,.box [.own 1])]))) (fun h=>?_) bN x2) fun b=>?_;refine bz (dE YU.g h) ?_;refine bo (e:=id) ?_ fun n=>?_;refine io ?_ rfl;refine bz (dE YU.g h) ?_;refine bo (bM YU.g h _) fun v=>?_;refine bo (cS (A:=YU) (c:=YU.g) (m:=4) (g:=fun a=>[i64 a.jJ,i64 a.gO,i64 a.eG,i64 a.eT]) (fun _=>⟨rfl,rfl⟩) (wV2 rfl) h _) fun a=>?_;refine bo (Ua d a) fun l=>?_;rfl;refine io ?_ rfl;refine bz (dE YU.g h) ?_;refine bo (El YU.g h (bF ((h.length:Int)-1))) fun o=>?_;rfl;refine bz (dE YU.g b) ?_;refine bo (e:=id) ?_ fun t=>?_;refine io rfl ?_;refine bo (e:=id) ?_ fun s=>?_;refine io ?_ rfl;refine bo (Ua d x1) fun p=>?_;refine bo (bM YU.g b _) fun q=>?_;refine bo (cS (A:=YU) (c:=YU.g) (m:=4) (g:=fun f=>[i64 f.jJ,i64 f.gO,i64 f.eG,i64 f.eT]) (fun _=>⟨rfl,rfl⟩) (wV2 rfl) b _) fun f=>?_;refine bo (Ua d f) fun r=>?_;rfl;rfl;refine io rfl ?_;refine bo (cG true YU.g b [x1]) fun u=>?_;rfl
def kD1 (x1:aA YU) (x2:Int):aB Int:=
 if(decide (x2<0))||(decide (x2>128))then some 2 else if decide ((x1.length:Int)>16)then some 9 else(aZ (E:=(Int×(aA YU))⊕(aA YU)) (fun(⟨b,c⟩:Int×(aA YU))=>if decide (b<(x1.length:Int))then(bB x1 b).bind fun a=>((if(((decide (a.gO<1))||(decide (a.gO>x2)))||(decide (a.jJ<0)))||(decide (a.jJ>(bF (x2-a.gO))))then some true else(cZ1 a.eG).bind fun e=>some (!e):aB (Bool))).bind fun f=>((if f then some true else(cZ1 a.eT).bind fun g=>some (!g):aB (Bool))).bind fun h=>if h||(a.eG==a.eT)then some (.inr (.inl (2,c)))else((if decide (b>0)then(bB x1 (bF (b-1))).bind fun i=>(kC1 i a).bind fun j=>some (decide (j>0))else some false:aB (Bool))).bind fun k=>if k then some (.inr (.inl (25,c)))else(Ub a c).bind fun⟨l,d⟩=>if !l then some (.inr (.inl (21,d)))else some (.inl ((bF (b+1)),d))else some (.inr (.inr c))) bN (0,[])).bind fun m=>(match m with|.inl ⟨x25,x26⟩=>some x25|.inr x27=>some 0)
theorem yX1 [IR] {k} (d) (x1:aA YU) (x2:Int):OD k (d+3) 210 [.is 4 (I YU.g x1),i64 x2]=(kD1 x1 x2).map i64:=by
 refine oe rfl ?_;refine bz (gM rfl) ?_;refine io rfl ?_;refine bz lm ?_;refine io rfl ?_;refine bz lm ?_;refine bo (aL (S:=Int×(aA YU)) (enc:=fun⟨c,b⟩=>(Q [(0,.is 4 (I YU.g x1)),(1,i64 x2),(6,.fn 214 [] [.ref 0 0]),(19,.is 4 (I YU.g x1)),(20,i64 (x1.length:Int)),(21,i64 c)] [(1,.lst 294 4 true (I YU.g b)),(0,.box [.own 1])])) (encE:=(fun|.inl ⟨f,h⟩=>(rq [(4,i64 f)] [(1,.lst 294 4 true (I YU.g h)),(0,.box [.own 1])])|.inr x27=>(xq 0 [] [(1,.lst 294 4 true (I YU.g x27)),(0,.box [.own 1])]))) (fun⟨c,b⟩=>?_) bN (0,[])) fun j=>?_;refine ig fun a=>?_;refine bz (gM rfl) ?_;refine bz (gM rfl) ?_;refine bz (gM rfl) ?_;refine bo (e:=id) ?_ fun m=>?_;refine io rfl ?_;refine bo (pE1 (d+1) a.eG) fun l=>?_;rfl;refine bo (e:=id) ?_ fun o=>?_;refine io rfl ?_;refine bo (pE1 (d+1) a.eT) fun n=>?_;rfl;refine bz (gM rfl) ?_;refine io rfl ?_;refine bo (e:=id) ?_ fun q=>?_;refine ig fun i=>?_;refine bo (yW1 (d+1) i a) fun p=>?_;rfl;refine io rfl ?_;refine bo (sH1 d a b) fun⟨r,s⟩=>?_;refine io rfl rfl;rcases j with⟨f,h⟩|x27;rfl;rfl
def kE1 (x1:YU) (x2:Int):aB Bool:=
 some ((decide (x2>=x1.jJ))&&(decide ((bF (x2-x1.jJ))<x1.gO)))
theorem yY1 [IR] {k} (d) (x1:YU) (x2:Int):OD k (d+1) 220 [.agg (YU.g x1),i64 x2]=(kE1 x1 x2).map bv:=by
 refine oe rfl ?_;refine bz (fW rfl) ?_;rfl
def kF1 (x1:Int) (x2:Int):aB Int:=
 (aZ (E:=Int) (fun(⟨x4,a⟩:Int×Int)=>if decide (a>0)then(cA1 .i64 x4 a).bind fun b=>some (.inl (a,b))else some (.inr x4)) bN (x1,x2)).bind fun c=>some c
theorem yZ1 [IR] {k} (d) (x1:Int) (x2:Int):OD k (d+1) 221 [i64 x1,i64 x2]=(kF1 x1 x2).map i64:=by
 refine oe rfl ?_;refine bo (aL (S:=Int×Int) (enc:=fun⟨x4,a⟩=>(Q [(0,i64 x4),(1,i64 a)] [])) (encE:=(fun(b:Int)=>(xq 0 [(0,i64 b)] []))) (fun⟨x4,a⟩=>?_) bN (x1,x2)) fun b=>?_;refine io ?_ rfl;refine bo oi fun c=>?_;rfl;rfl
def Xl (x1:aA YU) (x2:Int):aB (Int×Int):=
 (aZ (E:=Int×Int) (fun(⟨b,c,d⟩:Int×Int×Int)=>if decide (d<(x1.length:Int))then(bB x1 d).bind fun a=>(kE1 a x2).bind fun f=>((if f then(kF1 (bF (b*a.eT)) (bF (c*a.eG))).bind fun e=>(Mv .i64 (bF (b*a.eT)) e).bind fun g=>(Mv .i64 (bF (c*a.eG)) e).bind fun h=>some (g,h)else some (b,c):aB (Int×Int))).bind fun⟨i,j⟩=>some (.inl (i,j,(bF (d+1))))else some (.inr (b,c))) bN (1,1,0)).bind fun⟨k,l⟩=>some (k,l)
theorem zB1 [IR] {k} (d) (x1:aA YU) (x2:Int):OD k (d+2) 218 [.is 4 (I YU.g x1),i64 x2]=(Xl x1 x2).map (fun⟨q,r⟩=>.tup [i64 q,i64 r]):=by
 refine oe rfl ?_;refine bz lm ?_;refine bo (aL (S:=Int×Int×Int) (enc:=fun⟨b,c,f⟩=>(Q [(1,i64 x2),(4,i64 b),(5,i64 c),(9,.is 4 (I YU.g x1)),(10,i64 (x1.length:Int)),(11,i64 f)] [])) (encE:=(fun(⟨j,l⟩:Int×Int)=>(xq 0 [(4,i64 j),(5,i64 l)] []))) (fun⟨b,c,f⟩=>?_) bN (1,1,0)) fun⟨j,l⟩=>?_;refine ig fun a=>?_;refine bo (yY1 d a x2) fun m=>?_;refine bo (e:=(fun(⟨h,i⟩:Int×Int)=>(nq [(1,i64 x2),(4,i64 h),(5,i64 i),(9,.is 4 (I YU.g x1)),(10,i64 (x1.length:Int)),(11,i64 f)] [(0,.box (YU.g a))]))) ?_ fun⟨h,i⟩=>?_;refine io ?_ rfl;refine bo (yZ1 d (bF (b*a.eT)) (bF (c*a.eG))) fun n=>?_;refine bo oi fun o=>?_;refine bo oi fun p=>?_;rfl;rfl;rfl
def Qp (x1:aA YU) (x2:Int) (x3:Int):aB (Int×Int):=
 if(decide (x3<0))||(decide (x3>7741440))then some (0,2)else(Xl x1 x2).bind fun⟨x4,a⟩=>(cA1 .i64 (bF (x3*x4)) a).bind fun b=>if b !=0 then some (0,16)else(Mv .i64 (bF (x3*x4)) a).bind fun c=>some (c,0)
theorem pF1 [IR] {k} (d) (x1:aA YU) (x2:Int) (x3:Int):OD k (d+3) 211 [.is 4 (I YU.g x1),i64 x2,i64 x3]=(Qp x1 x2 x3).map (fun⟨a,b⟩=>.tup [i64 a,i64 b]):=by
 refine oe rfl ?_;refine bz (gM rfl) ?_;refine io rfl ?_;refine bo (zB1 d x1 x2) fun⟨x4,c⟩=>?_;refine bo oi fun e=>?_;refine io rfl ?_;refine bo oi fun f=>?_;rfl
def Qq (x1:aA YU) (x2:aA Int):aB ((aA Int)×Int):=
 (kD1 x1 (x2.length:Int)).bind fun x3=>if x3 !=0 then some ([],x3)else(yP 0 (x2.length:Int) 0).bind fun x4=>(aZ (E:=(Int×(aA Int))⊕(aA Int)) (fun(⟨c,a⟩:Int×(aA Int))=>if decide (c<(x2.length:Int))then(bB x2 c).bind fun d=>(Qp x1 c d).bind fun⟨e,b⟩=>if b !=0 then some (.inr (.inl (b,a)))else(iP true a [e]).bind fun f=>some (.inl ((bF (c+1)),f))else some (.inr (.inr a))) bN (0,x4)).bind fun g=>(match g with|.inl ⟨x15,x16⟩=>some ([],x15)|.inr x17=>some (x17,0))
theorem pG1 [IR] {k} (d) (x1:aA YU) (x2:aA Int):OD k (d+4) 207 [.is 4 (I YU.g x1),.is 1 (I cI x2)]=(Qq x1 x2).map (fun⟨m,n⟩=>.tup [.is 1 (I cI m),i64 n]):=by
 refine oe rfl ?_;refine bz lm ?_;refine bo (yX1 d x1 (x2.length:Int)) fun x3=>?_;refine io rfl ?_;refine bz lm ?_;refine bo (mA cI _ _ 0) fun x4=>?_;refine bz lm ?_;refine bo (aL (S:=Int×(aA Int)) (enc:=fun⟨i,a⟩=>(Q [(0,.is 4 (I YU.g x1)),(7,.own 0),(22,.is 1 (I cI x2)),(23,i64 (x2.length:Int)),(24,i64 i)] [(0,.lst 3 1 true (I cI a))])) (encE:=(fun|.inl ⟨b,c⟩=>(rq [(4,.is 1 (I cI [])),(5,i64 b),(7,.own 0)] [(0,.lst 3 1 true (I cI c))])|.inr x17=>(xq 0 [(7,.own 0)] [(0,.lst 3 1 true (I cI x17))]))) (fun⟨i,a⟩=>?_) bN (0,x4)) fun h=>?_;refine ig fun e=>?_;refine bo (pF1 d x1 i e) fun⟨f,j⟩=>?_;refine io rfl ?_;refine bo (cG true cI a [f]) fun l=>?_;rfl;rcases h with⟨b,c⟩|x17;rfl;rfl
def kG1 (x1:aA YU) (x2:Int) (x3:aA Int):aB (Int×Bool):=
 (bB x1 x2).bind fun x4=>(aZ (E:=Int⊕Int) (fun(⟨c,a⟩:Int×Int)=>(Qo x4).bind fun d=>if decide (a<d)then(pI x1 (bF (x2+1)) ((x1).length)).bind fun e=>(bB x3 a).bind fun f=>(Qp e a f).bind fun⟨g,h⟩=>if h !=0 then some (.inr (.inl c))else some (.inl ((bF (c+g)),(bF (a+1))))else some (.inr (.inr c))) bN (0,x4.jJ)).bind fun i=>(match i with|.inl x17=>some (0,false)|.inr x18=>(aZ (E:=Int⊕Unit) (fun(b:Int)=>if decide (b<=8)then(mB .i64 3870720 (bF (b+1))).bind fun j=>if x18==(bF (x4.eG*j))then some (.inr (.inl b))else some (.inl (bF (b+1)))else some (.inr (.inr ()))) bN (-1)).bind fun k=>(match k with|.inl x23=>some (x23,true)|.inr _=>some (0,false)))
theorem zC1 [IR] {k} (d) (x1:aA YU) (x2:Int) (x3:aA Int):OD k (d+4) 212 [.is 4 (I YU.g x1),i64 x2,.is 1 (I cI x3)]=(kG1 x1 x2 x3).map (fun⟨q,r⟩=>.tup [i64 q,bv r]):=by
 refine oe rfl ?_;refine bo rg fun x4=>?_;refine bo (aL (S:=Int×Int) (enc:=fun⟨b,a⟩=>(Q [(0,.is 4 (I YU.g x1)),(1,i64 x2),(2,.is 1 (I cI x3)),(8,.ref 0 0),(9,i64 b),(10,i64 a)] [(0,.box (YU.g x4))])) (encE:=(fun|.inl c=>(rq [(6,i64 0),(7,bv false),(8,.ref 0 0),(9,i64 c)] [(0,.box (YU.g x4))])|.inr x18=>(xq 0 [(8,.ref 0 0),(9,i64 x18)] [(0,.box (YU.g x4))]))) (fun⟨b,a⟩=>?_) bN (0,x4.jJ)) fun j=>?_;refine bo (Ua (d+2) x4) fun m=>?_;refine io ?_ rfl;refine bo (Ek _ _ _) fun h=>?_;refine bo rg fun i=>?_;refine bo (pF1 d h a i) fun⟨n,o⟩=>?_;refine io rfl rfl;rcases j with c|x18;rfl;refine bo (aL (S:=Int) (enc:=fun e=>(Q [(8,.ref 0 0),(9,i64 x18),(13,i64 e)] [(0,.box (YU.g x4))])) (encE:=(fun|.inl f=>(rq [(6,i64 f),(7,bv true)] [(0,.box (YU.g x4))])|.inr _=>(xq 2 [] [(0,.box (YU.g x4))]))) (fun e=>?_) bN (-1)) fun l=>?_;refine io ?_ rfl;refine bo oi fun p=>?_;refine io rfl rfl;rcases l with f|_;rfl;rfl
def kH1 (x1:aA YU) (x2:aA Int):aB ((aA Int)×Int):=
 (Qq x1 x2).bind fun⟨x3,x4⟩=>if x4 !=0 then some ([],x4)else(yP 0 (x1.length:Int) 0).bind fun g=>(aZ (E:=(aA Int)⊕(aA Int)) (fun(⟨f,a⟩:Int×(aA Int))=>if decide (f<(x1.length:Int))then(kG1 x1 f x2).bind fun⟨b,c⟩=>if !c then some (.inr (.inl a))else(iP true a [b]).bind fun d=>some (.inl ((bF (f+1)),d))else some (.inr (.inr a))) bN (0,g)).bind fun e=>(match e with|.inl x14=>some ([],21)|.inr x15=>some (x15,0))
theorem zD1 [IR] {k} (d) (x1:aA YU) (x2:aA Int):OD k (d+5) 208 [.is 4 (I YU.g x1),.is 1 (I cI x2)]=(kH1 x1 x2).map (fun⟨l,m⟩=>.tup [.is 1 (I cI l),i64 m]):=by
 refine oe rfl ?_;refine bo (pG1 d x1 x2) fun⟨x3,x4⟩=>?_;refine io rfl ?_;refine bz lm ?_;refine bo (mA cI _ _ 0) fun j=>?_;refine bz lm ?_;refine bo (aL (S:=Int×(aA Int)) (enc:=fun⟨f,a⟩=>(Q [(0,.is 4 (I YU.g x1)),(1,.is 1 (I cI x2)),(8,.own 0),(25,i64 (x1.length:Int)),(26,i64 f)] [(0,.lst 3 1 true (I cI a))])) (encE:=(fun|.inl b=>(rq [(4,.is 1 (I cI [])),(5,i64 21),(8,.own 0)] [(0,.lst 3 1 true (I cI b))])|.inr x15=>(xq 0 [(8,.own 0)] [(0,.lst 3 1 true (I cI x15))]))) (fun⟨f,a⟩=>?_) bN (0,j)) fun e=>?_;refine io ?_ rfl;refine bo (zC1 d x1 f x2) fun⟨c,h⟩=>?_;refine io rfl ?_;refine bo (cG true cI a [c]) fun i=>?_;rfl;rcases e with b|x15;rfl;rfl
def Xm (x1:YO):aB ((aA Int)×Int):=
 (aZ (E:=Int⊕Unit) (fun(x4:Int)=>if decide (x4<(x1.aT.length:Int))then(bB x1.aT x4).bind fun d=>(Xi d).bind fun e=>if e !=0 then some (.inr (.inl e))else if(d.dD==3)&&((decide (x4>0))||(decide ((x1.aT.length:Int)>1)))then some (.inr (.inl 11))else some (.inl (bF (x4+1)))else some (.inr (.inr ()))) bN 0).bind fun h=>(match h with|.inl x7=>some ([],x7)|.inr _=>(Xk x1.aT).bind fun f=>(Qq x1.gJ f).bind fun⟨b,a⟩=>if a !=0 then some ([],a)else(kH1 x1.gJ f).bind fun⟨g,c⟩=>if c !=0 then some ([],21)else some (b,0))
theorem zE1 [IR] {k} (d) (x1:YO):OD k (d+11) 204 [.agg (YO.g x1)]=(Xm x1).map (fun⟨l,m⟩=>.tup [.is 1 (I cI l),i64 m]):=by
 refine oe rfl ?_;refine bz lm ?_;refine bo (aL (S:=Int) (enc:=fun x4=>(Q [(1,.ref 0 0),(13,.is 13 (I YE.g x1.aT)),(14,i64 (x1.aT.length:Int)),(15,i64 x4)] [(0,.box (YO.g x1))])) (encE:=(fun|.inl a=>(rq [(1,.ref 0 0),(2,.is 1 (I cI [])),(3,i64 a)] [(0,.box (YO.g x1))])|.inr _=>(xq 0 [(1,.ref 0 0)] [(0,.box (YO.g x1))]))) (fun x4=>?_) bN 0) fun j=>?_;refine ig fun i=>?_;refine bo (Xj (d+2) i) fun n=>?_;refine io rfl ?_;refine bz (fW (bz (gM (bz lm rfl)) rfl)) ?_;refine io rfl rfl;rcases j with a|_;rfl;refine bo (yV1 d x1.aT) fun b=>?_;refine bo (pG1 (d+6) x1.gJ b) fun⟨c,e⟩=>?_;refine io rfl ?_;refine bo (zD1 (d+5) x1.gJ b) fun⟨f,h⟩=>?_;refine io rfl rfl
def Xn (x1:YO) (x2:Int):aB ((aA Int)×Int):=
 if(decide (x2<1))||(decide (x2>15482880))then some ([],2)else if decide ((x1.aT.length:Int)>128)then some ([],9)else(jY1 x1).bind fun x3=>if x3&&((x1.aT.length:Int)==1)then(bB x1.aT 0).bind fun x4=>(Xi x4).bind fun a=>if a !=0 then some ([],a)else if decide ((x1.gJ.length:Int)>0)then some ([],21)else some ([x2],0)else(Xm x1).bind fun⟨b,c⟩=>some (b,c)
theorem zF1 [IR] {k} (d) (x1:YO) (x2:Int):OD k (d+12) 197 [.agg (YO.g x1),i64 x2]=(Xn x1 x2).map (fun⟨a,b⟩=>.tup [.is 1 (I cI a),i64 b]):=by
 refine oe rfl ?_;refine bz (gM rfl) ?_;refine io rfl ?_;refine bz lm ?_;refine io rfl ?_;refine bo (yR1 (d+10) x1) fun x3=>?_;refine bz (fW (bz lm rfl)) ?_;refine io ?_ ?_;refine bo rg fun x4=>?_;refine bo (Xj (d+3) x4) fun c=>?_;refine io rfl ?_;refine bz lm ?_;refine io rfl rfl;refine bo (zE1 d x1) fun⟨e,f⟩=>?_;rfl
def Xo (x1:aA Int):aB Int:=
 (aZ (E:=Int) (fun(⟨x3,x4⟩:Int×Int)=>if decide (x4<(x1.length:Int))then(bB x1 x4).bind fun a=>some (.inl ((bF (x3+a)),(bF (x4+1))))else some (.inr x3)) bN (0,0)).bind fun b=>some b
theorem zG1 [IR] {k} (d) (x1:aA Int):OD k (d+1) 198 [.is 1 (I cI x1)]=(Xo x1).map i64:=by
 refine oe rfl ?_;refine bz lm ?_;refine bo (aL (S:=Int×Int) (enc:=fun⟨x3,x4⟩=>(Q [(3,i64 x3),(6,.is 1 (I cI x1)),(7,i64 (x1.length:Int)),(8,i64 x4)] [])) (encE:=(fun(a:Int)=>(xq 0 [(3,i64 a)] []))) (fun⟨x3,x4⟩=>?_) bN (0,0)) fun a=>?_;refine ig fun b=>?_;rfl;rfl
def Qr (x1:YO) (x2:Int):aB ((aA Int)×Int):=
 (Xn x1 x2).bind fun⟨x3,x4⟩=>((if(x4==0)&&(decide ((x3.length:Int)>0))then(Xo x3).bind fun b=>some (b !=x2)else some false:aB (Bool))).bind fun c=>((if c then some 20 else some x4:aB (Int))).bind fun a=>if a !=0 then some ([],a)else some (x3,0)
theorem pH1 [IR] {k} (d) (x1:YO) (x2:Int):OD k (d+13) 167 [.agg (YO.g x1),i64 x2]=(Qr x1 x2).map (fun⟨b,c⟩=>.tup [.is 1 (I cI b),i64 c]):=by
 refine oe rfl ?_;refine bo (zF1 d x1 x2) fun⟨x3,x4⟩=>?_;refine bz (fW (bz lm rfl)) ?_;refine bo (e:=id) ?_ fun h=>?_;refine io ?_ rfl;refine bo (zG1 (d+11) x3) fun f=>?_;rfl;refine bo (e:=(fun(a:Int)=>(nq [(6,.is 1 (I cI x3)),(7,i64 a)] [(0,.box (YO.g x1))]))) ?_ fun a=>?_;refine io rfl rfl;refine io rfl rfl
def dA1 (x1:YO) (x2:Int):aB Int:=
 (Qr x1 x2).bind fun⟨x3,x4⟩=>some x4
theorem pI1 [IR] {k} (d) (x1:YO) (x2:Int):OD k (d+14) 129 [.agg (YO.g x1),i64 x2]=(dA1 x1 x2).map i64:=by
 refine oe rfl ?_;refine bo (pH1 d x1 x2) fun⟨x3,x4⟩=>?_;rfl
def F75 (x1:Int):aB Bool:=
 some ((x1==11)||(x1==20))
theorem zI1 [IR] {k} (d) (x1:Int):OD k (d+1) 75 [i64 x1]=(F75 x1).map bv:=by
 refine oe rfl ?_;refine bz (gM rfl) ?_;rfl
def kI1 (x1:YO) (x2:Int):aB Bool:=
 (cY1 x1.aT).bind fun x3=>((if !x3 then(dA1 x1 x2).bind fun x4=>(F75 x4).bind fun a=>some a else some false:aB (Bool))).bind fun b=>some b
theorem zJ1 [IR] {k} (d) (x1:YO) (x2:Int):OD k (d+15) 127 [.agg (YO.g x1),.ip [.fn 123 [] []],.ip [.fn 75 [] []],.ip [i64 x2]]=(kI1 x1 x2).map bv:=by
 refine oe rfl ?_;refine bo (pD1 (d+3) x1.aT) fun x3=>?_;refine bo (e:=id) ?_ fun b=>?_;refine io ?_ rfl;refine bo (pI1 d x1 x2) fun x4=>?_;refine bo (zI1 (d+13) x4) fun a=>?_;rfl;rfl
def kJ1 (x1:aA YO) (x2:Int):aB Int:=
 (aZ (E:=Int⊕Unit) (fun(a:Int)=>if decide (a<(x1.length:Int))then(bB x1 a).bind fun b=>(kI1 b x2).bind fun c=>if c then some (.inr (.inl a))else some (.inl (bF (a+1)))else some (.inr (.inr ()))) bN 0).bind fun d=>(match d with|.inl x8=>some x8|.inr _=>some (-1))
theorem zK1 [IR] {k} (d) (x1:aA YO) (x2:Int):OD k (d+16) 175 [.is 2 (I YO.g x1),.fn 127 [] [.ip [.fn 123 [] []],.ip [.fn 75 [] []],.ip [i64 x2]]]=(kJ1 x1 x2).map i64:=by
 refine oe rfl ?_;refine bz lm ?_;refine bo (aL (S:=Int) (enc:=fun a=>(Q [(0,.is 2 (I YO.g x1)),(1,.fn 127 [] [.ip [.fn 123 [] []],.ip [.fn 75 [] []],.ip [i64 x2]]),(7,i64 (x1.length:Int)),(8,i64 a)] [])) (encE:=(fun|.inl b=>(rq [(4,i64 b)] [])|.inr _=>(xq 0 [] []))) (fun a=>?_) bN 0) fun e=>?_;refine ig fun c=>?_;refine bo (zJ1 d c x2) fun f=>?_;refine io rfl rfl;rcases e with b|_;rfl;rfl
def kK1 (x1:aA YO) (x2:Int):aB Bool:=
 (kJ1 x1 x2).bind fun x3=>some (decide (x3>=0))
theorem zL1 [IR] {k} (d) (x1:aA YO) (x2:Int):OD k (d+17) 126 [.is 2 (I YO.g x1),.fn 127 [] [.ip [.fn 123 [] []],.ip [.fn 75 [] []],.ip [i64 x2]]]=(kK1 x1 x2).map bv:=by
 refine oe rfl ?_;refine bo (zK1 d x1 x2) fun x3=>?_;rfl
def kL1 (x1:YW) (x2:Int):aB Bool:=
 (kK1 x1.aQ x2).bind fun x3=>some x3
theorem zM1 [IR] {k} (d) (x1:YW) (x2:Int):OD k (d+18) 125 [.agg (YW.g x1),.ip [.fn 123 [] []],.ip [.fn 75 [] []],.ip [i64 x2]]=(kL1 x1 x2).map bv:=by
 refine oe rfl ?_;refine bo (zL1 d x1.aQ x2) fun x3=>?_;rfl
def kM1 (x1:aA YW) (x2:Int):aB Int:=
 (aZ (E:=Int⊕Unit) (fun(a:Int)=>if decide (a<(x1.length:Int))then(bB x1 a).bind fun b=>(kL1 b x2).bind fun c=>if c then some (.inr (.inl a))else some (.inl (bF (a+1)))else some (.inr (.inr ()))) bN 0).bind fun d=>(match d with|.inl x8=>some x8|.inr _=>some (-1))
theorem zN1 [IR] {k} (d) (x1:aA YW) (x2:Int):OD k (d+19) 174 [.is 2 (I YW.g x1),.fn 125 [] [.ip [.fn 123 [] []],.ip [.fn 75 [] []],.ip [i64 x2]]]=(kM1 x1 x2).map i64:=by
 refine oe rfl ?_;refine bz lm ?_;refine bo (aL (S:=Int) (enc:=fun a=>(Q [(0,.is 2 (I YW.g x1)),(1,.fn 125 [] [.ip [.fn 123 [] []],.ip [.fn 75 [] []],.ip [i64 x2]]),(7,i64 (x1.length:Int)),(8,i64 a)] [])) (encE:=(fun|.inl b=>(rq [(4,i64 b)] [])|.inr _=>(xq 0 [] []))) (fun a=>?_) bN 0) fun e=>?_;refine ig fun c=>?_;refine bo (zM1 d c x2) fun f=>?_;refine io rfl rfl;rcases e with b|_;rfl;rfl
def kN1 (x1:aA YW) (x2:Int):aB Bool:=
 (kM1 x1 x2).bind fun x3=>some (decide (x3>=0))
theorem zO1 [IR] {k} (d) (x1:aA YW) (x2:Int):OD k (d+20) 124 [.is 2 (I YW.g x1),.fn 125 [] [.ip [.fn 123 [] []],.ip [.fn 75 [] []],.ip [i64 x2]]]=(kN1 x1 x2).map bv:=by
 refine oe rfl ?_;refine bo (zN1 d x1 x2) fun x3=>?_;rfl
def kO1 (x1:Int) (x2:YM):aB Bool:=
 (Dy x2).bind fun⟨x3,x4⟩=>if x4 !=0 then some false else(kN1 x2.aR x3).bind fun a=>some a
theorem zP1 [IR] {k} (d) (x1:Int) (x2:YM):OD k (d+21) 122 [i64 x1,.agg (YM.g x2),.ip [.fn 75 [] []]]=(kO1 x1 x2).map bv:=by
 refine oe rfl ?_;refine bo (Is (d+16) x2) fun⟨x3,x4⟩=>?_;refine io rfl ?_;refine bo (zO1 d x2.aR x3) fun a=>?_;rfl
def Iu (x1:aA YV) (x2:Y0) (x3:Int):aB (aA YV):=
 (aZ (E:=aA YV) (fun(⟨a,e⟩:Int×(aA YV))=>if decide (a<(x2.aD.length:Int))then(bB x2.aD a).bind fun f=>(kO1 a f).bind fun b=>(kO b f.ID e x2 x3).bind fun c=>some (.inl ((bF (a+1)),c))else some (.inr e)) bN (0,x1)).bind fun d=>some d
theorem kP1 [IR] {k} (d) (x1:aA YV) (x2:Y0) (x3:Int):eD (XD k (d+22)) 68 [.ref 1 0,.fn 122 [] [.ref 3 0]] ((3,.box [.fn 75 [] []])::cL x1 x2 x3) 4 false=(Iu x1 x2 x3).map (fun(c:aA YV)=>((.tup [],((3,.box [.fn 75 [] []])::cL c x2 x3),0))):=by
 rw[xd (fn:=p68) rfl];refine bz lm ?_;refine bo (aL (S:=Int×(aA YV)) (enc:=fun⟨e,f⟩=>(Q [(0,.ref 1 0),(1,.fn 122 [] [.ref 3 0]),(10,.is 22 (I YM.g x2.aD)),(11,i64 (x2.aD.length:Int)),(12,i64 e)] ((3,.box [.fn 75 [] []])::cL f x2 x3))) (encE:=(fun(a:aA YV)=>(xq 0 [] ((3,.box [.fn 75 [] []])::cL a x2 x3)))) (fun⟨e,f⟩=>?_) bN (0,x1)) fun a=>?_;refine ig fun h=>?_;refine bo (zP1 d e h) fun b=>?_;refine bo (iS (d+20) b h.ID f x2 x3) fun i=>?_;rfl;rfl
def kQ1 (x1:aA YV) (x2:Y0) (x3:Int):aB (aA YV):=
 (Iu x1 x2 x3).bind fun x4=>some x4
theorem zQ1 [IR] {k} (d) (x1:aA YV) (x2:Y0) (x3:Int):eD (XD k (d+23)) 74 [.ref 1 0,.fn 75 [] []] (cL x1 x2 x3) 3 false=(kQ1 x1 x2 x3).map (fun(a:aA YV)=>((.tup [],(cL a x2 x3),0))):=by
 rw[xd (fn:=p74) rfl];refine bo (kP1 d x1 x2 x3) fun x4=>?_;rfl
def dB1 (x1:aA YV) (x2:Y0) (x3:Int):aB (aA YV):=
 (kQ1 x1 x2 x3).bind fun x4=>some x4
theorem zR1 [IR] {k} (d) (x1:aA YV) (x2:Y0) (x3:Int):eD (XD k (d+24)) 37 [.ref 1 0] (cL x1 x2 x3) 3 false=(dB1 x1 x2 x3).map (fun(a:aA YV)=>((.tup [],(cL a x2 x3),0))):=by
 rw[xd (fn:=p37) rfl];refine bo (zQ1 d x1 x2 x3) fun x4=>?_;rfl
def F76 (x1:Int):aB Bool:=
 ((if x1 !=0 then(F75 x1).bind fun x2=>some (!x2)else some false:aB (Bool))).bind fun x3=>some x3
theorem lC2 [IR] {k} (d) (x1:Int):OD k (d+2) 76 [i64 x1]=(F76 x1).map bv:=by
 refine oe rfl ?_;refine bo (e:=id) ?_ fun x3=>?_;refine io ?_ rfl;refine bo (zI1 d x1) fun x2=>?_;rfl;rfl
def Iv (x1:YO) (x2:Int):aB Bool:=
 (cY1 x1.aT).bind fun x3=>((if !x3 then(dA1 x1 x2).bind fun x4=>(F76 x4).bind fun a=>some a else some false:aB (Bool))).bind fun b=>some b
theorem kR1 [IR] {k} (d) (x1:YO) (x2:Int):OD k (d+15) 127 [.agg (YO.g x1),.ip [.fn 123 [] []],.ip [.fn 76 [] []],.ip [i64 x2]]=(Iv x1 x2).map bv:=by
 refine oe rfl ?_;refine bo (pD1 (d+3) x1.aT) fun x3=>?_;refine bo (e:=id) ?_ fun b=>?_;refine io ?_ rfl;refine bo (pI1 d x1 x2) fun x4=>?_;refine bo (lC2 (d+12) x4) fun a=>?_;rfl;rfl
def Iw (x1:aA YO) (x2:Int):aB Int:=
 (aZ (E:=Int⊕Unit) (fun(a:Int)=>if decide (a<(x1.length:Int))then(bB x1 a).bind fun b=>(Iv b x2).bind fun c=>if c then some (.inr (.inl a))else some (.inl (bF (a+1)))else some (.inr (.inr ()))) bN 0).bind fun d=>(match d with|.inl x8=>some x8|.inr _=>some (-1))
theorem kS1 [IR] {k} (d) (x1:aA YO) (x2:Int):OD k (d+16) 175 [.is 2 (I YO.g x1),.fn 127 [] [.ip [.fn 123 [] []],.ip [.fn 76 [] []],.ip [i64 x2]]]=(Iw x1 x2).map i64:=by
 refine oe rfl ?_;refine bz lm ?_;refine bo (aL (S:=Int) (enc:=fun a=>(Q [(0,.is 2 (I YO.g x1)),(1,.fn 127 [] [.ip [.fn 123 [] []],.ip [.fn 76 [] []],.ip [i64 x2]]),(7,i64 (x1.length:Int)),(8,i64 a)] [])) (encE:=(fun|.inl b=>(rq [(4,i64 b)] [])|.inr _=>(xq 0 [] []))) (fun a=>?_) bN 0) fun e=>?_;refine ig fun c=>?_;refine bo (kR1 d c x2) fun f=>?_;refine io rfl rfl;rcases e with b|_;rfl;rfl
def Ix (x1:aA YO) (x2:Int):aB Bool:=
 (Iw x1 x2).bind fun x3=>some (decide (x3>=0))
theorem kT1 [IR] {k} (d) (x1:aA YO) (x2:Int):OD k (d+17) 126 [.is 2 (I YO.g x1),.fn 127 [] [.ip [.fn 123 [] []],.ip [.fn 76 [] []],.ip [i64 x2]]]=(Ix x1 x2).map bv:=by
 refine oe rfl ?_;refine bo (kS1 d x1 x2) fun x3=>?_;rfl
def Iy (x1:YW) (x2:Int):aB Bool:=
 (Ix x1.aQ x2).bind fun x3=>some x3
theorem kU1 [IR] {k} (d) (x1:YW) (x2:Int):OD k (d+18) 125 [.agg (YW.g x1),.ip [.fn 123 [] []],.ip [.fn 76 [] []],.ip [i64 x2]]=(Iy x1 x2).map bv:=by
 refine oe rfl ?_;refine bo (kT1 d x1.aQ x2) fun x3=>?_;rfl
def Iz (x1:aA YW) (x2:Int):aB Int:=
 (aZ (E:=Int⊕Unit) (fun(a:Int)=>if decide (a<(x1.length:Int))then(bB x1 a).bind fun b=>(Iy b x2).bind fun c=>if c then some (.inr (.inl a))else some (.inl (bF (a+1)))else some (.inr (.inr ()))) bN 0).bind fun d=>(match d with|.inl x8=>some x8|.inr _=>some (-1))
theorem kV1 [IR] {k} (d) (x1:aA YW) (x2:Int):OD k (d+19) 174 [.is 2 (I YW.g x1),.fn 125 [] [.ip [.fn 123 [] []],.ip [.fn 76 [] []],.ip [i64 x2]]]=(Iz x1 x2).map i64:=by
 refine oe rfl ?_;refine bz lm ?_;refine bo (aL (S:=Int) (enc:=fun a=>(Q [(0,.is 2 (I YW.g x1)),(1,.fn 125 [] [.ip [.fn 123 [] []],.ip [.fn 76 [] []],.ip [i64 x2]]),(7,i64 (x1.length:Int)),(8,i64 a)] [])) (encE:=(fun|.inl b=>(rq [(4,i64 b)] [])|.inr _=>(xq 0 [] []))) (fun a=>?_) bN 0) fun e=>?_;refine ig fun c=>?_;refine bo (kU1 d c x2) fun f=>?_;refine io rfl rfl;rcases e with b|_;rfl;rfl
def Ja (x1:aA YW) (x2:Int):aB Bool:=
 (Iz x1 x2).bind fun x3=>some (decide (x3>=0))
theorem kW1 [IR] {k} (d) (x1:aA YW) (x2:Int):OD k (d+20) 124 [.is 2 (I YW.g x1),.fn 125 [] [.ip [.fn 123 [] []],.ip [.fn 76 [] []],.ip [i64 x2]]]=(Ja x1 x2).map bv:=by
 refine oe rfl ?_;refine bo (kV1 d x1 x2) fun x3=>?_;rfl
def Jb (x1:Int) (x2:YM):aB Bool:=
 (Dy x2).bind fun⟨x3,x4⟩=>if x4 !=0 then some false else(Ja x2.aR x3).bind fun a=>some a
theorem kX1 [IR] {k} (d) (x1:Int) (x2:YM):OD k (d+21) 122 [i64 x1,.agg (YM.g x2),.ip [.fn 76 [] []]]=(Jb x1 x2).map bv:=by
 refine oe rfl ?_;refine bo (Is (d+16) x2) fun⟨x3,x4⟩=>?_;refine io rfl ?_;refine bo (kW1 d x2.aR x3) fun a=>?_;rfl
def Jc (x1:aA YV) (x2:Y0) (x3:Int):aB (aA YV):=
 (aZ (E:=aA YV) (fun(⟨a,e⟩:Int×(aA YV))=>if decide (a<(x2.aD.length:Int))then(bB x2.aD a).bind fun f=>(Jb a f).bind fun b=>(kO b f.ID e x2 x3).bind fun c=>some (.inl ((bF (a+1)),c))else some (.inr e)) bN (0,x1)).bind fun d=>some d
theorem kY1 [IR] {k} (d) (x1:aA YV) (x2:Y0) (x3:Int):eD (XD k (d+22)) 68 [.ref 1 0,.fn 122 [] [.ref 3 0]] ((3,.box [.fn 76 [] []])::cL x1 x2 x3) 4 false=(Jc x1 x2 x3).map (fun(c:aA YV)=>((.tup [],((3,.box [.fn 76 [] []])::cL c x2 x3),0))):=by
 rw[xd (fn:=p68) rfl];refine bz lm ?_;refine bo (aL (S:=Int×(aA YV)) (enc:=fun⟨e,f⟩=>(Q [(0,.ref 1 0),(1,.fn 122 [] [.ref 3 0]),(10,.is 22 (I YM.g x2.aD)),(11,i64 (x2.aD.length:Int)),(12,i64 e)] ((3,.box [.fn 76 [] []])::cL f x2 x3))) (encE:=(fun(a:aA YV)=>(xq 0 [] ((3,.box [.fn 76 [] []])::cL a x2 x3)))) (fun⟨e,f⟩=>?_) bN (0,x1)) fun a=>?_;refine ig fun h=>?_;refine bo (kX1 d e h) fun b=>?_;refine bo (iS (d+20) b h.ID f x2 x3) fun i=>?_;rfl;rfl
def Jd (x1:aA YV) (x2:Y0) (x3:Int):aB (aA YV):=
 (Jc x1 x2 x3).bind fun x4=>some x4
theorem kZ1 [IR] {k} (d) (x1:aA YV) (x2:Y0) (x3:Int):eD (XD k (d+23)) 74 [.ref 1 0,.fn 76 [] []] (cL x1 x2 x3) 3 false=(Jd x1 x2 x3).map (fun(a:aA YV)=>((.tup [],(cL a x2 x3),0))):=by
 rw[xd (fn:=p74) rfl];refine bo (kY1 d x1 x2 x3) fun x4=>?_;rfl
def dC1 (x1:aA YV) (x2:Y0) (x3:Int):aB (aA YV):=
 (Jd x1 x2 x3).bind fun x4=>some x4
theorem zS1 [IR] {k} (d) (x1:aA YV) (x2:Y0) (x3:Int):eD (XD k (d+24)) 38 [.ref 1 0] (cL x1 x2 x3) 3 false=(dC1 x1 x2 x3).map (fun(a:aA YV)=>((.tup [],(cL a x2 x3),0))):=by
 rw[xd (fn:=p38) rfl];refine bo (kZ1 d x1 x2 x3) fun x4=>?_;rfl
def F78 (x1:YP) (x2:YE):aB Bool:=
 (Xi x2).bind fun x3=>some (x3 !=0)
theorem lD2 [IR] {k} (d) (x1:YP) (x2:YE):OD k (d+9) 78 [.agg (YP.g x1),.agg (YE.g x2)]=(F78 x1 x2).map bv:=by
 refine oe rfl ?_;refine bo (Xj d x2) fun x3=>?_;rfl
def Xp (x1:aA YV) (x2:Y0) (x3:Int):aB (aA YV):=
 (aZ (E:=aA YV) (fun(⟨b,m⟩:Int×(aA YV))=>if decide (b<(x2.aD.length:Int))then(bB x2.aD b).bind fun n=>(aZ (E:=aA YV) (fun(⟨c,o⟩:Int×(aA YV))=>if decide (c<(n.aR.length:Int))then(bB n.aR c).bind fun p=>(aZ (E:=aA YV) (fun(⟨d,q⟩:Int×(aA YV))=>if decide (d<(p.aQ.length:Int))then(bB p.aQ d).bind fun r=>(aZ (E:=aA YV) (fun(⟨a,e⟩:Int×(aA YV))=>if decide (a<(r.aT.length:Int))then(bB r.aT a).bind fun f=>(F78 (YP.mk 4 0 c b d a 0) f).bind fun g=>(kO g f.ID e x2 x3).bind fun h=>some (.inl ((bF (a+1)),h))else some (.inr e)) bN (0,q)).bind fun i=>some (.inl ((bF (d+1)),i))else some (.inr q)) bN (0,o)).bind fun j=>some (.inl ((bF (c+1)),j))else some (.inr o)) bN (0,m)).bind fun k=>some (.inl ((bF (b+1)),k))else some (.inr m)) bN (0,x1)).bind fun l=>some l
theorem zT1 [IR] {k} (d) (x1:aA YV) (x2:Y0) (x3:Int):eD (XD k (d+10)) 77 [.ref 1 0,.fn 78 [] []] (cL x1 x2 x3) 3 false=(Xp x1 x2 x3).map (fun(u:aA YV)=>((.tup [],(cL u x2 x3),0))):=by
 rw[xd (fn:=p77) rfl];refine bz lm ?_;refine bo (aL (S:=Int×(aA YV)) (enc:=fun⟨b,q⟩=>(Q [(0,.ref 1 0),(1,.fn 78 [] []),(16,.is 22 (I YM.g x2.aD)),(17,i64 (x2.aD.length:Int)),(18,i64 b)] (cL q x2 x3))) (encE:=(fun(p:aA YV)=>(xq 0 [] (cL p x2 x3)))) (fun⟨b,q⟩=>?_) bN (0,x1)) fun p=>?_;refine ig fun a=>?_;refine bz lm ?_;refine bo (aL (S:=Int×(aA YV)) (enc:=fun⟨c,r⟩=>(Q [(0,.ref 1 0),(1,.fn 78 [] []),(4,i64 b),(16,.is 22 (I YM.g x2.aD)),(17,i64 (x2.aD.length:Int)),(18,i64 b),(24,.is 2 (I YW.g a.aR)),(25,i64 (a.aR.length:Int)),(26,i64 c)] ((3,.box (YM.g a))::cL r x2 x3))) (encE:=(fun(o:aA YV)=>(xq 2 [(0,.ref 1 0),(1,.fn 78 [] []),(16,.is 22 (I YM.g x2.aD)),(17,i64 (x2.aD.length:Int)),(18,i64 b)] ((3,.box (YM.g a))::cL o x2 x3)))) (fun⟨c,r⟩=>?_) bN (0,q)) fun o=>?_;refine ig fun e=>?_;refine bz lm ?_;refine bo (aL (S:=Int×(aA YV)) (enc:=fun⟨f,s⟩=>(Q [(0,.ref 1 0),(1,.fn 78 [] []),(4,i64 b),(6,i64 c),(16,.is 22 (I YM.g x2.aD)),(17,i64 (x2.aD.length:Int)),(18,i64 b),(24,.is 2 (I YW.g a.aR)),(25,i64 (a.aR.length:Int)),(26,i64 c),(32,.is 2 (I YO.g e.aQ)),(33,i64 (e.aQ.length:Int)),(34,i64 f)] ((4,.box (YW.g e))::(3,.box (YM.g a))::cL s x2 x3))) (encE:=(fun(n:aA YV)=>(xq 4 [(0,.ref 1 0),(1,.fn 78 [] []),(4,i64 b),(16,.is 22 (I YM.g x2.aD)),(17,i64 (x2.aD.length:Int)),(18,i64 b),(24,.is 2 (I YW.g a.aR)),(25,i64 (a.aR.length:Int)),(26,i64 c)] ((4,.box (YW.g e))::(3,.box (YM.g a))::cL n x2 x3)))) (fun⟨f,s⟩=>?_) bN (0,r)) fun n=>?_;refine ig fun j=>?_;refine bz lm ?_;refine bo (aL (S:=Int×(aA YV)) (enc:=fun⟨h,i⟩=>(Q [(0,.ref 1 0),(1,.fn 78 [] []),(4,i64 b),(6,i64 c),(8,i64 f),(16,.is 22 (I YM.g x2.aD)),(17,i64 (x2.aD.length:Int)),(18,i64 b),(24,.is 2 (I YW.g a.aR)),(25,i64 (a.aR.length:Int)),(26,i64 c),(32,.is 2 (I YO.g e.aQ)),(33,i64 (e.aQ.length:Int)),(34,i64 f),(40,.is 13 (I YE.g j.aT)),(41,i64 (j.aT.length:Int)),(42,i64 h)] ((5,.box (YO.g j))::(4,.box (YW.g e))::(3,.box (YM.g a))::cL i x2 x3))) (encE:=(fun(m:aA YV)=>(xq 6 [(0,.ref 1 0),(1,.fn 78 [] []),(4,i64 b),(6,i64 c),(16,.is 22 (I YM.g x2.aD)),(17,i64 (x2.aD.length:Int)),(18,i64 b),(24,.is 2 (I YW.g a.aR)),(25,i64 (a.aR.length:Int)),(26,i64 c),(32,.is 2 (I YO.g e.aQ)),(33,i64 (e.aQ.length:Int)),(34,i64 f)] ((5,.box (YO.g j))::(4,.box (YW.g e))::(3,.box (YM.g a))::cL m x2 x3)))) (fun⟨h,i⟩=>?_) bN (0,s)) fun m=>?_;refine ig fun l=>?_;refine bo (lD2 d (YP.mk 4 0 c b f h 0) l) fun t=>?_;refine bo (iS (d+8) t l.ID i x2 x3) fun v=>?_;rfl;rfl;rfl;rfl;rfl
end Go.P
namespace Go.P
open Go.Sim (Ex fC CK)
open K (I Q rq nq xq ck)
def Xq (x1:aA YV) (x2:Y0) (x3:Int):aB (aA YV):=
 (Xp x1 x2 x3).bind fun x4=>some x4
theorem zU1 [IR] {k} (d) (x1:aA YV) (x2:Y0) (x3:Int):eD (XD k (d+11)) 39 [.ref 1 0] (cL x1 x2 x3) 3 false=(Xq x1 x2 x3).map (fun(a:aA YV)=>((.tup [],(cL a x2 x3),0))):=by
 rw[xd (fn:=p39) rfl];refine bo (zT1 d x1 x2 x3) fun x4=>?_;rfl
def F27 (x1:Y0) (x2:Int):aB (Int×Int×Int):=
 if decide (x2<0)then some (0,0,2)else(aZ (E:=(Int×Int)⊕Unit) (fun(⟨x4,a⟩:Int×Int)=>if decide (a<(x1.bV.length:Int))then(bB x1.bV a).bind fun b=>if decide (x4<(b.dZ.length:Int))then some (.inr (.inl (a,x4)))else some (.inl ((bF (x4-(b.dZ.length:Int))),(bF (a+1))))else some (.inr (.inr ()))) bN (x2,0)).bind fun c=>(match c with|.inl ⟨x7,x8⟩=>some (x7,x8,0)|.inr _=>some (0,0,2))
theorem zV1 [IR] {k} (d) (x1:Y0) (x2:Int):OD k (d+1) 27 [.agg (Y0.g x1),i64 x2]=(F27 x1 x2).map (fun⟨f,h,i⟩=>.tup [i64 f,i64 h,i64 i]):=by
 refine oe rfl ?_;refine io rfl ?_;refine bz lm ?_;refine bo (aL (S:=Int×Int) (enc:=fun⟨x4,a⟩=>(Q [(1,i64 x4),(12,.is 6 (I YJ.g x1.bV)),(13,i64 (x1.bV.length:Int)),(14,i64 a)] [(0,.box (Y0.g x1))])) (encE:=(fun|.inl ⟨b,c⟩=>(rq [(4,i64 b),(5,i64 c),(6,i64 0)] [(0,.box (Y0.g x1))])|.inr _=>(xq 0 [] [(0,.box (Y0.g x1))]))) (fun⟨x4,a⟩=>?_) bN (x2,0)) fun e=>?_;refine ig fun j=>?_;refine bz lm ?_;refine io rfl ?_;refine bz lm ?_;rfl;rcases e with⟨b,c⟩|_;rfl;rfl
def F81 (x1:YH) (x2:Int):aB Bool:=
 (F82 x1).bind fun⟨x3,x4⟩=>(zS (bF (x3+x2)) 0 127).bind fun a=>some (!a)
theorem zX1 [IR] {k} (d) (x1:YH) (x2:Int):OD k (d+5) 81 [.agg (YH.g x1),.ip [i64 x2]]=(F81 x1 x2).map bv:=by
 refine oe rfl ?_;refine bo (sG1 d x1) fun⟨x3,x4⟩=>?_;refine bo (rE (d+3) (bF (x3+x2)) 0 127) fun a=>?_;rfl
def F84 (x1:YB) (x2:Int):aB Bool:=
 (F81 x1.dW x2).bind fun x3=>some x3
theorem lE2 [IR] {k} (d) (x1:YB) (x2:Int):OD k (d+6) 84 [.agg (YB.g x1),.ip [.fn 81 [] [.ip [i64 x2]]]]=(F84 x1 x2).map bv:=by
 refine oe rfl ?_;refine bo (zX1 d x1.dW x2) fun x3=>?_;rfl
def lA1 (x1:aA YB) (x2:Int):aB Int:=
 (aZ (E:=Int⊕Unit) (fun(a:Int)=>if decide (a<(x1.length:Int))then(bB x1 a).bind fun b=>(F84 b x2).bind fun c=>if c then some (.inr (.inl a))else some (.inl (bF (a+1)))else some (.inr (.inr ()))) bN 0).bind fun d=>(match d with|.inl x8=>some x8|.inr _=>some (-1))
theorem zY1 [IR] {k} (d) (x1:aA YB) (x2:Int):OD k (d+7) 141 [.is 5 (I YB.g x1),.fn 84 [] [.ip [.fn 81 [] [.ip [i64 x2]]]]]=(lA1 x1 x2).map i64:=by
 refine oe rfl ?_;refine bz lm ?_;refine bo (aL (S:=Int) (enc:=fun a=>(Q [(0,.is 5 (I YB.g x1)),(1,.fn 84 [] [.ip [.fn 81 [] [.ip [i64 x2]]]]),(7,i64 (x1.length:Int)),(8,i64 a)] [])) (encE:=(fun|.inl b=>(rq [(4,i64 b)] [])|.inr _=>(xq 0 [] []))) (fun a=>?_) bN 0) fun e=>?_;refine ig fun c=>?_;refine bo (lE2 d c x2) fun f=>?_;refine io rfl rfl;rcases e with b|_;rfl;rfl
def F83 (x1:aA YB) (x2:Int):aB Bool:=
 (lA1 x1 x2).bind fun x3=>some (decide (x3>=0))
theorem lF2 [IR] {k} (d) (x1:aA YB) (x2:Int):OD k (d+8) 83 [.is 5 (I YB.g x1),.fn 84 [] [.ip [.fn 81 [] [.ip [i64 x2]]]]]=(F83 x1 x2).map bv:=by
 refine oe rfl ?_;refine bo (zY1 d x1 x2) fun x3=>?_;rfl
def F86 (x1:YD) (x2:Int):aB Bool:=
 (F81 x1.dW x2).bind fun x3=>some x3
theorem lG2 [IR] {k} (d) (x1:YD) (x2:Int):OD k (d+6) 86 [.agg (YD.g x1),.ip [.fn 81 [] [.ip [i64 x2]]]]=(F86 x1 x2).map bv:=by
 refine oe rfl ?_;refine bo (zX1 d x1.dW x2) fun x3=>?_;rfl
def lB1 (x1:aA YD) (x2:Int):aB Int:=
 (aZ (E:=Int⊕Unit) (fun(a:Int)=>if decide (a<(x1.length:Int))then(bB x1 a).bind fun b=>(F86 b x2).bind fun c=>if c then some (.inr (.inl a))else some (.inl (bF (a+1)))else some (.inr (.inr ()))) bN 0).bind fun d=>(match d with|.inl x8=>some x8|.inr _=>some (-1))
theorem zZ1 [IR] {k} (d) (x1:aA YD) (x2:Int):OD k (d+7) 142 [.is 5 (I YD.g x1),.fn 86 [] [.ip [.fn 81 [] [.ip [i64 x2]]]]]=(lB1 x1 x2).map i64:=by
 refine oe rfl ?_;refine bz lm ?_;refine bo (aL (S:=Int) (enc:=fun a=>(Q [(0,.is 5 (I YD.g x1)),(1,.fn 86 [] [.ip [.fn 81 [] [.ip [i64 x2]]]]),(7,i64 (x1.length:Int)),(8,i64 a)] [])) (encE:=(fun|.inl b=>(rq [(4,i64 b)] [])|.inr _=>(xq 0 [] []))) (fun a=>?_) bN 0) fun e=>?_;refine ig fun c=>?_;refine bo (lG2 d c x2) fun f=>?_;refine io rfl rfl;rcases e with b|_;rfl;rfl
def F85 (x1:aA YD) (x2:Int):aB Bool:=
 (lB1 x1 x2).bind fun x3=>some (decide (x3>=0))
theorem lH2 [IR] {k} (d) (x1:aA YD) (x2:Int):OD k (d+8) 85 [.is 5 (I YD.g x1),.fn 86 [] [.ip [.fn 81 [] [.ip [i64 x2]]]]]=(F85 x1 x2).map bv:=by
 refine oe rfl ?_;refine bo (zZ1 d x1 x2) fun x3=>?_;rfl
def F80 (x1:YP) (x2:YE) (x3:YK):aB Bool:=
 (Xi x2).bind fun x4=>if x4 !=0 then some false else(F27 x3.s' x1.bS).bind fun⟨f,i,g⟩=>((if g==0 then(bB x3.s'.bV f).bind fun h=>some h.jY.fG else some 0:aB (Int))).bind fun e=>((if x3.s'.sB then some (bF (0-e))else some e:aB (Int))).bind fun a=>(F83 x2.cW a).bind fun b=>((if b then some true else(F85 x2.gN a).bind fun c=>some c:aB (Bool))).bind fun d=>some d
theorem lI2 [IR] {k} (d) (x1:YP) (x2:YE) (x3:YK):OD k (d+9) 80 [.agg (YP.g x1),.agg (YE.g x2),.ip [.ip (YK.g x3)]]=(F80 x1 x2 x3).map bv:=by
 refine oe rfl ?_;refine bo (Xj d x2) fun x4=>?_;refine io rfl ?_;refine bo (zV1 (d+7) x3.s' x1.bS) fun⟨i,j,l⟩=>?_;refine bo (e:=(fun(b:Int)=>(nq [(2,.ip [.ip (YK.g x3)]),(4,.ref 1 0),(6,.ref 2 0)] [(2,.box [i64 b]),(1,.box (YE.g x2)),(0,.box (YP.g x1))]))) ?_ fun b=>?_;refine ig fun m=>?_;rfl;refine bo (e:=(fun(a:Int)=>(nq [(4,.ref 1 0),(6,.ref 2 0)] [(2,.box [i64 a]),(1,.box (YE.g x2)),(0,.box (YP.g x1))]))) ?_ fun a=>?_;refine io rfl rfl;refine bo (lF2 d x2.cW a) fun c=>?_;refine bo (e:=id) ?_ fun h=>?_;refine io rfl ?_;refine bo (lH2 d x2.gN a) fun f=>?_;rfl;rfl
def Je (x1:aA YV) (x2:Y0) (x3:Int):aB (aA YV):=
 (aZ (E:=aA YV) (fun(⟨c,m⟩:Int×(aA YV))=>if decide (c<(x2.aD.length:Int))then(bB x2.aD c).bind fun n=>(aZ (E:=aA YV) (fun(⟨d,o⟩:Int×(aA YV))=>if decide (d<(n.aR.length:Int))then(bB n.aR d).bind fun p=>(aZ (E:=aA YV) (fun(⟨e,q⟩:Int×(aA YV))=>if decide (e<(p.aQ.length:Int))then(bB p.aQ e).bind fun r=>(aZ (E:=aA YV) (fun(⟨a,b⟩:Int×(aA YV))=>if decide (a<(r.aT.length:Int))then(bB r.aT a).bind fun f=>(F80 (YP.mk 4 0 d c e a 0) f (YK.mk x2 x3 b)).bind fun g=>(kO g f.ID b x2 x3).bind fun h=>some (.inl ((bF (a+1)),h))else some (.inr b)) bN (0,q)).bind fun i=>some (.inl ((bF (e+1)),i))else some (.inr q)) bN (0,o)).bind fun j=>some (.inl ((bF (d+1)),j))else some (.inr o)) bN (0,m)).bind fun k=>some (.inl ((bF (c+1)),k))else some (.inr m)) bN (0,x1)).bind fun l=>some l
theorem lC1 [IR] {k} (d) (x1:aA YV) (x2:Y0) (x3:Int):eD (XD k (d+10)) 77 [.ref 1 0,.fn 80 [] [.ref 3 0]] ((3,.box [.ref 1 0])::cL x1 x2 x3) 4 false=(Je x1 x2 x3).map (fun(u:aA YV)=>((.tup [],((3,.box [.ref 1 0])::cL u x2 x3),0))):=by
 rw[xd (fn:=p77) rfl];refine bz lm ?_;refine bo (aL (S:=Int×(aA YV)) (enc:=fun⟨b,q⟩=>(Q [(0,.ref 1 0),(1,.fn 80 [] [.ref 3 0]),(16,.is 22 (I YM.g x2.aD)),(17,i64 (x2.aD.length:Int)),(18,i64 b)] ((3,.box [.ref 1 0])::cL q x2 x3))) (encE:=(fun(p:aA YV)=>(xq 0 [] ((3,.box [.ref 1 0])::cL p x2 x3)))) (fun⟨b,q⟩=>?_) bN (0,x1)) fun p=>?_;refine ig fun a=>?_;refine bz lm ?_;refine bo (aL (S:=Int×(aA YV)) (enc:=fun⟨c,r⟩=>(Q [(0,.ref 1 0),(1,.fn 80 [] [.ref 3 0]),(4,i64 b),(16,.is 22 (I YM.g x2.aD)),(17,i64 (x2.aD.length:Int)),(18,i64 b),(24,.is 2 (I YW.g a.aR)),(25,i64 (a.aR.length:Int)),(26,i64 c)] ((4,.box (YM.g a))::(3,.box [.ref 1 0])::cL r x2 x3))) (encE:=(fun(o:aA YV)=>(xq 2 [(0,.ref 1 0),(1,.fn 80 [] [.ref 3 0]),(16,.is 22 (I YM.g x2.aD)),(17,i64 (x2.aD.length:Int)),(18,i64 b)] ((4,.box (YM.g a))::(3,.box [.ref 1 0])::cL o x2 x3)))) (fun⟨c,r⟩=>?_) bN (0,q)) fun o=>?_;refine ig fun e=>?_;refine bz lm ?_;refine bo (aL (S:=Int×(aA YV)) (enc:=fun⟨h,s⟩=>(Q [(0,.ref 1 0),(1,.fn 80 [] [.ref 3 0]),(4,i64 b),(6,i64 c),(16,.is 22 (I YM.g x2.aD)),(17,i64 (x2.aD.length:Int)),(18,i64 b),(24,.is 2 (I YW.g a.aR)),(25,i64 (a.aR.length:Int)),(26,i64 c),(32,.is 2 (I YO.g e.aQ)),(33,i64 (e.aQ.length:Int)),(34,i64 h)] ((5,.box (YW.g e))::(4,.box (YM.g a))::(3,.box [.ref 1 0])::cL s x2 x3))) (encE:=(fun(n:aA YV)=>(xq 4 [(0,.ref 1 0),(1,.fn 80 [] [.ref 3 0]),(4,i64 b),(16,.is 22 (I YM.g x2.aD)),(17,i64 (x2.aD.length:Int)),(18,i64 b),(24,.is 2 (I YW.g a.aR)),(25,i64 (a.aR.length:Int)),(26,i64 c)] ((5,.box (YW.g e))::(4,.box (YM.g a))::(3,.box [.ref 1 0])::cL n x2 x3)))) (fun⟨h,s⟩=>?_) bN (0,r)) fun n=>?_;refine ig fun j=>?_;refine bz lm ?_;refine bo (aL (S:=Int×(aA YV)) (enc:=fun⟨i,f⟩=>(Q [(0,.ref 1 0),(1,.fn 80 [] [.ref 3 0]),(4,i64 b),(6,i64 c),(8,i64 h),(16,.is 22 (I YM.g x2.aD)),(17,i64 (x2.aD.length:Int)),(18,i64 b),(24,.is 2 (I YW.g a.aR)),(25,i64 (a.aR.length:Int)),(26,i64 c),(32,.is 2 (I YO.g e.aQ)),(33,i64 (e.aQ.length:Int)),(34,i64 h),(40,.is 13 (I YE.g j.aT)),(41,i64 (j.aT.length:Int)),(42,i64 i)] ((6,.box (YO.g j))::(5,.box (YW.g e))::(4,.box (YM.g a))::(3,.box [.ref 1 0])::cL f x2 x3))) (encE:=(fun(m:aA YV)=>(xq 6 [(0,.ref 1 0),(1,.fn 80 [] [.ref 3 0]),(4,i64 b),(6,i64 c),(16,.is 22 (I YM.g x2.aD)),(17,i64 (x2.aD.length:Int)),(18,i64 b),(24,.is 2 (I YW.g a.aR)),(25,i64 (a.aR.length:Int)),(26,i64 c),(32,.is 2 (I YO.g e.aQ)),(33,i64 (e.aQ.length:Int)),(34,i64 h)] ((6,.box (YO.g j))::(5,.box (YW.g e))::(4,.box (YM.g a))::(3,.box [.ref 1 0])::cL m x2 x3)))) (fun⟨i,f⟩=>?_) bN (0,s)) fun m=>?_;refine ig fun l=>?_;refine bo (lI2 d (YP.mk 4 0 c b h i 0) l (YK.mk x2 x3 f)) fun t=>?_;refine bo (iS (d+8) t l.ID f x2 x3) fun v=>?_;rfl;rfl;rfl;rfl;rfl
def dE1 (x1:aA YV) (x2:Y0) (x3:Int):aB (aA YV):=
 (Je x1 x2 x3).bind fun x4=>some x4
theorem aA2 [IR] {k} (d) (x1:aA YV) (x2:Y0) (x3:Int):eD (XD k (d+11)) 40 [.ref 1 0] (cL x1 x2 x3) 3 false=(dE1 x1 x2 x3).map (fun(a:aA YV)=>((.tup [],(cL a x2 x3),0))):=by
 rw[xd (fn:=p40) rfl];refine bo (lC1 d x1 x2 x3) fun x4=>?_;rfl
def dF1 (x1:YB):aB Bool:=
 some x1.tU
theorem aB2 [IR] {k} (d) (x1:YB):OD k (d+1) 143 [.agg (YB.g x1)]=(dF1 x1).map bv:=by
 refine oe rfl ?_;rfl
def Jf (x1:aA YB):aB Int:=
 (aZ (E:=Int⊕Unit) (fun(x4:Int)=>if decide (x4<(x1.length:Int))then(bB x1 x4).bind fun a=>(dF1 a).bind fun b=>if b then some (.inr (.inl x4))else some (.inl (bF (x4+1)))else some (.inr (.inr ()))) bN 0).bind fun c=>(match c with|.inl x7=>some x7|.inr _=>some (-1))
theorem lD1 [IR] {k} (d) (x1:aA YB):OD k (d+2) 141 [.is 5 (I YB.g x1),.fn 143 [] []]=(Jf x1).map i64:=by
 refine oe rfl ?_;refine bz lm ?_;refine bo (aL (S:=Int) (enc:=fun x4=>(Q [(0,.is 5 (I YB.g x1)),(1,.fn 143 [] []),(7,i64 (x1.length:Int)),(8,i64 x4)] [])) (encE:=(fun|.inl a=>(rq [(4,i64 a)] [])|.inr _=>(xq 0 [] []))) (fun x4=>?_) bN 0) fun c=>?_;refine ig fun b=>?_;refine bo (aB2 d b) fun e=>?_;refine io rfl rfl;rcases c with a|_;rfl;rfl
def Nf (x1:aA YB):aB Bool:=
 (Jf x1).bind fun x2=>some (decide (x2>=0))
theorem sJ1 [IR] {k} (d) (x1:aA YB):OD k (d+3) 83 [.is 5 (I YB.g x1),.fn 143 [] []]=(Nf x1).map bv:=by
 refine oe rfl ?_;refine bo (lD1 d x1) fun x2=>?_;rfl
def F88 (x1:YE):aB Bool:=
 ((if x1.dD==1 then(Nf x1.cW).bind fun x2=>some x2 else some false:aB (Bool))).bind fun x3=>some x3
theorem aC2 [IR] {k} (d) (x1:YE):OD k (d+4) 88 [.agg (YE.g x1)]=(F88 x1).map bv:=by
 refine oe rfl ?_;refine bo (e:=id) ?_ fun x3=>?_;refine io ?_ rfl;refine bo (sJ1 d x1.cW) fun x2=>?_;rfl;rfl
def Cv (x1:Y0) (x2:Int) (x3:Int) (x4:Int):aB (aA YE):=
 ((if((decide (x2<0))||(decide (x2>=(x1.aD.length:Int))))||(decide (x3<0))then some true else(bB x1.aD x2).bind fun d=>some (decide (x3>=(d.aR.length:Int))):aB (Bool))).bind fun e=>((if e||(decide (x4<0))then some true else(bB x1.aD x2).bind fun f=>(bB f.aR x3).bind fun g=>some (decide (x4>=(g.aQ.length:Int))):aB (Bool))).bind fun h=>if h then some []else(bB x1.aD x2).bind fun a=>(bB a.aR x3).bind fun b=>(bB b.aQ x4).bind fun c=>some c.aT
theorem Uc [IR] {k} (d) (x1:Y0) (x2:Int) (x3:Int) (x4:Int):OD k (d+1) 145 [.agg (Y0.g x1),i64 x2,i64 x3,i64 x4]=(Cv x1 x2 x3 x4).map (fun f=>.is 13 (I YE.g f)):=by
 refine oe rfl ?_;refine bz (gM (bz lm rfl)) ?_;refine bz (gM rfl) ?_;refine bo (e:=id) ?_ fun i=>?_;refine io rfl ?_;refine bo rg fun h=>?_;refine bz lm ?_;rfl;refine bz (gM rfl) ?_;refine bo (e:=id) ?_ fun m=>?_;refine io rfl ?_;refine bo rg fun j=>?_;refine bo rg fun l=>?_;refine bz lm ?_;rfl;refine io rfl ?_;refine bo rg fun a=>?_;refine bo rg fun b=>?_;refine bo rg fun c=>?_;rfl
def Qs (x1:Y0) (x2:YP):aB Int:=
 if x2.dD !=4 then some 11 else((if decide (x2.bP<0)then some true else(Cv x1 x2.aY x2.bS x2.bU).bind fun x3=>some (decide (x2.bP>=(x3.length:Int))):aB (Bool))).bind fun x4=>if x4 then some 2 else some 0
theorem pK1 [IR] {k} (d) (x1:Y0) (x2:YP):OD k (d+2) 144 [.agg (Y0.g x1),.agg (YP.g x2)]=(Qs x1 x2).map i64:=by
 refine oe rfl ?_;refine io rfl ?_;refine bo (e:=id) ?_ fun x4=>?_;refine io rfl ?_;refine bo (Uc d x1 x2.aY x2.bS x2.bU) fun x3=>?_;refine bz lm ?_;rfl;refine io rfl rfl
def dG1 (x1:Int) (x2:Int) (x3:Int) (x4:Int):aB YP:=
 some (YP.mk 4 0 x2 x1 x3 x4 0)
theorem pL1 [IR] {k} (d) (x1:Int) (x2:Int) (x3:Int) (x4:Int):OD k (d+1) 146 [i64 x1,i64 x2,i64 x3,i64 x4]=(dG1 x1 x2 x3 x4).map (fun a=>.agg (YP.g a)):=by
 refine oe rfl ?_;rfl
def F89 (x1:Y0) (x2:YP):aB (YP×Bool):=
 (Qs x1 x2).bind fun x3=>if x3 !=0 then some ((YP.mk 0 0 0 0 0 0 0),false)else(Cv x1 x2.aY x2.bS x2.bU).bind fun x4=>if decide ((bF (x2.bP+1))<(x4.length:Int))then(dG1 x2.aY x2.bS x2.bU (bF (x2.bP+1))).bind fun a=>some (a,true)else(Cv x1 (bF (x2.aY+1)) x2.bS x2.bU).bind fun b=>if decide ((b.length:Int)>0)then(dG1 (bF (x2.aY+1)) x2.bS x2.bU 0).bind fun c=>some (c,true)else some ((YP.mk 0 0 0 0 0 0 0),false)
theorem aD2 [IR] {k} (d) (x1:Y0) (x2:YP):OD k (d+3) 89 [.agg (Y0.g x1),.agg (YP.g x2)]=(F89 x1 x2).map (fun⟨a,b⟩=>.tup [.agg (YP.g a),bv b]):=by
 refine oe rfl ?_;refine bo (pK1 d x1 x2) fun x3=>?_;refine io rfl ?_;refine bo (Uc (d+1) x1 x2.aY x2.bS x2.bU) fun x4=>?_;refine bz lm ?_;refine io ?_ ?_;refine bo (pL1 (d+1) x2.aY x2.bS x2.bU (bF (x2.bP+1))) fun c=>?_;rfl;refine bo (Uc (d+1) x1 (bF (x2.aY+1)) x2.bS x2.bU) fun e=>?_;refine bz lm ?_;refine io ?_ rfl;refine bo (pL1 (d+1) (bF (x2.aY+1)) x2.bS x2.bU 0) fun f=>?_;rfl
def lE1 (x1:YE):aB YE:=
 (tM x1.cW).bind fun x2=>(tM x1.gN).bind fun x3=>(tM x1.dP).bind fun x4=>some (YE.mk x1.ID x1.dD x1.Value x2 x3 x1.dI x1.jK x1.iZ x4 x1.Ew x1.Eu)
theorem aE2 [IR] {k} (d) (x1:YE):OD k (d+2) 147 [.agg (YE.g x1)]=(lE1 x1).map (fun a=>.agg (YE.g a)):=by
 refine oe rfl ?_;refine bo (tN 186 (d+1) 5 _ _ rfl rfl rfl) fun x2=>?_;refine bo (tN 187 (d+1) 5 _ _ rfl rfl rfl) fun x3=>?_;refine bo (tN 188 (d+1) 2 _ _ rfl rfl rfl) fun x4=>?_;rfl
def F90 (x1:Y0) (x2:YP):aB (YE×Int):=
 (Qs x1 x2).bind fun x3=>if x3 !=0 then some ((YE.mk (YZ.mk 0 0) 0 (YA.mk 0 0) [] [] 0 0 0 [] 0 0),x3)else(Cv x1 x2.aY x2.bS x2.bU).bind fun x4=>(bB x4 x2.bP).bind fun a=>(lE1 a).bind fun b=>some (b,0)
theorem lJ2 [IR] {k} (d) (x1:Y0) (x2:YP):OD k (d+3) 90 [.agg (Y0.g x1),.agg (YP.g x2)]=(F90 x1 x2).map (fun⟨b,c⟩=>.tup [.agg (YE.g b),i64 c]):=by
 refine oe rfl ?_;refine bo (pK1 d x1 x2) fun x3=>?_;refine io rfl ?_;refine bo (Uc (d+1) x1 x2.aY x2.bS x2.bU) fun x4=>?_;refine bo rg fun a=>?_;refine bo (aE2 d a) fun e=>?_;rfl
def lF1 (x1 x2:YB):aB Bool:=
 some (((x1.dW.rL==x2.dW.rL)&&((x1.dW.pT==x2.dW.pT)&&((x1.dW.lR==x2.dW.lR)&&true)))!=false)
theorem aF2 [IR] {k} (d) (x1 x2:YB):OD k (d+1) 148 [.agg (YB.g x1),.ip (YB.g x2)]=(lF1 x1 x2).map bv:=by
 refine oe rfl ?_;rfl
def Jg (x1:aA YB) (x2:YB):aB Int:=
 (aZ (E:=Int⊕Unit) (fun(a:Int)=>if decide (a<(x1.length:Int))then(bB x1 a).bind fun b=>(lF1 b x2).bind fun c=>if c then some (.inr (.inl a))else some (.inl (bF (a+1)))else some (.inr (.inr ()))) bN 0).bind fun d=>(match d with|.inl x8=>some x8|.inr _=>some (-1))
theorem lG1 [IR] {k} (d) (x1:aA YB) (x2:YB):OD k (d+2) 141 [.is 5 (I YB.g x1),.fn 148 [] [.ip (YB.g x2)]]=(Jg x1 x2).map i64:=by
 refine oe rfl ?_;refine bz lm ?_;refine bo (aL (S:=Int) (enc:=fun a=>(Q [(0,.is 5 (I YB.g x1)),(1,.fn 148 [] [.ip (YB.g x2)]),(7,i64 (x1.length:Int)),(8,i64 a)] [])) (encE:=(fun|.inl b=>(rq [(4,i64 b)] [])|.inr _=>(xq 0 [] []))) (fun a=>?_) bN 0) fun e=>?_;refine ig fun c=>?_;refine bo (aF2 d c x2) fun f=>?_;refine io rfl rfl;rcases e with b|_;rfl;rfl
def Ud (x1:aA YB) (x2:YB):aB Bool:=
 (Jg x1 x2).bind fun x3=>some (decide (x3>=0))
theorem sL1 [IR] {k} (d) (x1:aA YB) (x2:YB):OD k (d+3) 83 [.is 5 (I YB.g x1),.fn 148 [] [.ip (YB.g x2)]]=(Ud x1 x2).map bv:=by
 refine oe rfl ?_;refine bo (lG1 d x1 x2) fun x3=>?_;rfl
def F91 (x1 x2:YE):aB Bool:=
 if x1.dD !=1 then some true else(aZ (E:=Unit⊕Unit) (fun(d:Int)=>if decide (d<(x1.cW.length:Int))then(bB x1.cW d).bind fun e=>((if e.tU then((if x2.dD==1 then(Ud x2.cW e).bind fun f=>some f else some false:aB (Bool))).bind fun a=>some (!a)else some false:aB (Bool))).bind fun b=>if b then some (.inr (.inl ()))else some (.inl (bF (d+1)))else some (.inr (.inr ()))) bN 0).bind fun c=>(match c with|.inl _=>some false|.inr _=>some true)
theorem lK2 [IR] {k} (d) (x1 x2:YE):OD k (d+4) 91 [.agg (YE.g x1),.agg (YE.g x2)]=(F91 x1 x2).map bv:=by
 refine oe rfl ?_;refine io rfl ?_;refine bz lm ?_;refine bo (aL (S:=Int) (enc:=fun b=>(Q [(3,.ref 1 0),(11,.is 5 (I YB.g x1.cW)),(12,i64 (x1.cW.length:Int)),(13,i64 b)] [(1,.box (YE.g x2)),(0,.box (YE.g x1))])) (encE:=(fun|.inl _=>(rq [(4,bv false)] [(1,.box (YE.g x2)),(0,.box (YE.g x1))])|.inr _=>(xq 0 [] [(1,.box (YE.g x2)),(0,.box (YE.g x1))]))) (fun b=>?_) bN 0) fun a=>?_;refine ig fun h=>?_;refine bo (e:=id) ?_ fun f=>?_;refine io ?_ rfl;refine bo (e:=id) ?_ fun c=>?_;refine io ?_ rfl;refine bo (sL1 d x2.cW h) fun i=>?_;rfl;rfl;refine io rfl rfl;rcases a with _|_;rfl;rfl
def F87 (x1:YP) (x2:YE) (x3:YK):aB Bool:=
 (F88 x2).bind fun x4=>if !x4 then some false else(F89 x3.s' x1).bind fun⟨b,c⟩=>(F90 x3.s' b).bind fun⟨d,f⟩=>((if !c then some true else(F91 x2 d).bind fun e=>some (!e):aB (Bool))).bind fun a=>some a
theorem lL2 [IR] {k} (d) (x1:YP) (x2:YE) (x3:YK):OD k (d+5) 87 [.agg (YP.g x1),.agg (YE.g x2),.ip [.ip (YK.g x3)]]=(F87 x1 x2 x3).map bv:=by
 refine oe rfl ?_;refine bo (aC2 d x2) fun x4=>?_;refine io rfl ?_;refine bo (aD2 (d+1) x3.s' x1) fun⟨b,f⟩=>?_;refine bo (lJ2 (d+1) x3.s' b) fun⟨c,h⟩=>?_;refine bo (e:=id) ?_ fun a=>?_;refine io rfl ?_;refine bo (lK2 d x2 c) fun i=>?_;rfl;rfl
def xF (x1:aA YV) (x2:Y0) (x3:Int):aB (aA YV):=
 (aZ (E:=aA YV) (fun(⟨c,m⟩:Int×(aA YV))=>if decide (c<(x2.aD.length:Int))then(bB x2.aD c).bind fun n=>(aZ (E:=aA YV) (fun(⟨d,o⟩:Int×(aA YV))=>if decide (d<(n.aR.length:Int))then(bB n.aR d).bind fun p=>(aZ (E:=aA YV) (fun(⟨e,q⟩:Int×(aA YV))=>if decide (e<(p.aQ.length:Int))then(bB p.aQ e).bind fun r=>(aZ (E:=aA YV) (fun(⟨a,b⟩:Int×(aA YV))=>if decide (a<(r.aT.length:Int))then(bB r.aT a).bind fun f=>(F87 (YP.mk 4 0 d c e a 0) f (YK.mk x2 x3 b)).bind fun g=>(kO g f.ID b x2 x3).bind fun h=>some (.inl ((bF (a+1)),h))else some (.inr b)) bN (0,q)).bind fun i=>some (.inl ((bF (e+1)),i))else some (.inr q)) bN (0,o)).bind fun j=>some (.inl ((bF (d+1)),j))else some (.inr o)) bN (0,m)).bind fun k=>some (.inl ((bF (c+1)),k))else some (.inr m)) bN (0,x1)).bind fun l=>some l
theorem lH1 [IR] {k} (d) (x1:aA YV) (x2:Y0) (x3:Int):eD (XD k (d+6)) 77 [.ref 1 0,.fn 87 [] [.ref 3 0]] ((3,.box [.ref 1 0])::cL x1 x2 x3) 4 false=(xF x1 x2 x3).map (fun(u:aA YV)=>((.tup [],((3,.box [.ref 1 0])::cL u x2 x3),0))):=by
 rw[xd (fn:=p77) rfl];refine bz lm ?_;refine bo (aL (S:=Int×(aA YV)) (enc:=fun⟨b,q⟩=>(Q [(0,.ref 1 0),(1,.fn 87 [] [.ref 3 0]),(16,.is 22 (I YM.g x2.aD)),(17,i64 (x2.aD.length:Int)),(18,i64 b)] ((3,.box [.ref 1 0])::cL q x2 x3))) (encE:=(fun(p:aA YV)=>(xq 0 [] ((3,.box [.ref 1 0])::cL p x2 x3)))) (fun⟨b,q⟩=>?_) bN (0,x1)) fun p=>?_;refine ig fun a=>?_;refine bz lm ?_;refine bo (aL (S:=Int×(aA YV)) (enc:=fun⟨c,r⟩=>(Q [(0,.ref 1 0),(1,.fn 87 [] [.ref 3 0]),(4,i64 b),(16,.is 22 (I YM.g x2.aD)),(17,i64 (x2.aD.length:Int)),(18,i64 b),(24,.is 2 (I YW.g a.aR)),(25,i64 (a.aR.length:Int)),(26,i64 c)] ((4,.box (YM.g a))::(3,.box [.ref 1 0])::cL r x2 x3))) (encE:=(fun(o:aA YV)=>(xq 2 [(0,.ref 1 0),(1,.fn 87 [] [.ref 3 0]),(16,.is 22 (I YM.g x2.aD)),(17,i64 (x2.aD.length:Int)),(18,i64 b)] ((4,.box (YM.g a))::(3,.box [.ref 1 0])::cL o x2 x3)))) (fun⟨c,r⟩=>?_) bN (0,q)) fun o=>?_;refine ig fun e=>?_;refine bz lm ?_;refine bo (aL (S:=Int×(aA YV)) (enc:=fun⟨h,s⟩=>(Q [(0,.ref 1 0),(1,.fn 87 [] [.ref 3 0]),(4,i64 b),(6,i64 c),(16,.is 22 (I YM.g x2.aD)),(17,i64 (x2.aD.length:Int)),(18,i64 b),(24,.is 2 (I YW.g a.aR)),(25,i64 (a.aR.length:Int)),(26,i64 c),(32,.is 2 (I YO.g e.aQ)),(33,i64 (e.aQ.length:Int)),(34,i64 h)] ((5,.box (YW.g e))::(4,.box (YM.g a))::(3,.box [.ref 1 0])::cL s x2 x3))) (encE:=(fun(n:aA YV)=>(xq 4 [(0,.ref 1 0),(1,.fn 87 [] [.ref 3 0]),(4,i64 b),(16,.is 22 (I YM.g x2.aD)),(17,i64 (x2.aD.length:Int)),(18,i64 b),(24,.is 2 (I YW.g a.aR)),(25,i64 (a.aR.length:Int)),(26,i64 c)] ((5,.box (YW.g e))::(4,.box (YM.g a))::(3,.box [.ref 1 0])::cL n x2 x3)))) (fun⟨h,s⟩=>?_) bN (0,r)) fun n=>?_;refine ig fun j=>?_;refine bz lm ?_;refine bo (aL (S:=Int×(aA YV)) (enc:=fun⟨i,f⟩=>(Q [(0,.ref 1 0),(1,.fn 87 [] [.ref 3 0]),(4,i64 b),(6,i64 c),(8,i64 h),(16,.is 22 (I YM.g x2.aD)),(17,i64 (x2.aD.length:Int)),(18,i64 b),(24,.is 2 (I YW.g a.aR)),(25,i64 (a.aR.length:Int)),(26,i64 c),(32,.is 2 (I YO.g e.aQ)),(33,i64 (e.aQ.length:Int)),(34,i64 h),(40,.is 13 (I YE.g j.aT)),(41,i64 (j.aT.length:Int)),(42,i64 i)] ((6,.box (YO.g j))::(5,.box (YW.g e))::(4,.box (YM.g a))::(3,.box [.ref 1 0])::cL f x2 x3))) (encE:=(fun(m:aA YV)=>(xq 6 [(0,.ref 1 0),(1,.fn 87 [] [.ref 3 0]),(4,i64 b),(6,i64 c),(16,.is 22 (I YM.g x2.aD)),(17,i64 (x2.aD.length:Int)),(18,i64 b),(24,.is 2 (I YW.g a.aR)),(25,i64 (a.aR.length:Int)),(26,i64 c),(32,.is 2 (I YO.g e.aQ)),(33,i64 (e.aQ.length:Int)),(34,i64 h)] ((6,.box (YO.g j))::(5,.box (YW.g e))::(4,.box (YM.g a))::(3,.box [.ref 1 0])::cL m x2 x3)))) (fun⟨i,f⟩=>?_) bN (0,s)) fun m=>?_;refine ig fun l=>?_;refine bo (lL2 d (YP.mk 4 0 c b h i 0) l (YK.mk x2 x3 f)) fun t=>?_;refine bo (iS (d+4) t l.ID f x2 x3) fun v=>?_;rfl;rfl;rfl;rfl;rfl
def Xr (x1:aA YV) (x2:Y0) (x3:Int):aB (aA YV):=
 (xF x1 x2 x3).bind fun x4=>some x4
theorem aG2 [IR] {k} (d) (x1:aA YV) (x2:Y0) (x3:Int):eD (XD k (d+7)) 41 [.ref 1 0] (cL x1 x2 x3) 3 false=(Xr x1 x2 x3).map (fun(a:aA YV)=>((.tup [],(cL a x2 x3),0))):=by
 rw[xd (fn:=p41) rfl];refine bo (lH1 d x1 x2 x3) fun x4=>?_;rfl
def lI1 (x1:YE) (x2:Int):aB Bool:=
 ((if decide (x2>=(x1.dP.length:Int))then some true else(bB x1.dP x2).bind fun x3=>some (((x3.nZ==(⟨#[]⟩:ByteArray))&&((x3.yW==0)&&true))!=false):aB (Bool))).bind fun x4=>some x4
theorem aH2 [IR] {k} (d) (x1:YE) (x2:Int):OD k (d+1) 149 [.agg (YE.g x1),i64 x2]=(lI1 x1 x2).map bv:=by
 refine oe rfl ?_;refine bz lm ?_;refine bo (e:=id) ?_ fun x4=>?_;refine io rfl ?_;refine bo rg fun x3=>?_;rfl;rfl
def lJ1 (x1:Int) (x2:Int) (x3:Int) (x4:aA (YP×Bool)) (T:aA YV) (S:Y0) (U:Int):aB (aA (YP×Bool)):=
 (aZ (E:=Int×Int×Int×Int×Int×YY×(aA (YP×Bool))) (fun(⟨e,n,o,p,q,r,s,t⟩:Int×Int×Int×Int×Int×Int×YY×(aA (YP×Bool)))=>if decide (e<(S.aD.length:Int))then(bB S.aD e).bind fun u=>((if decide (x1>=(u.aR.length:Int))then some true else(bB u.aR x1).bind fun O=>some (decide (x2>=(O.aQ.length:Int))):aB (Bool))).bind fun P=>if P then some (.inl ((bF (e+1)),n,o,p,q,r,s,t))else(bB u.aR x1).bind fun R=>(bB R.aQ x2).bind fun N=>(aZ (E:=Int×Int×Int×Int×Int×YY×(aA (YP×Bool))) (fun(⟨a,f,g,h,i,j,b,c⟩:Int×Int×Int×Int×Int×Int×YY×(aA (YP×Bool)))=>if decide (a<(N.aT.length:Int))then(bB N.aT a).bind fun k=>(lI1 k x3).bind fun v=>if v then some (.inl ((bF (a+1)),f,g,h,i,j,b,c))else(bB k.dP x3).bind fun d=>((if(b.yW==1)&&(d.nZ.toList==(⟨#[]⟩:ByteArray).toList)then some (kM c (YP.mk f 0 g h i j 0) true)else some c:aB (aA (YP×Bool)))).bind fun l=>((if((d.nZ.toList==(⟨#[]⟩:ByteArray).toList)&&(d.yW==2))&&(b.yW !=2)then some (kM l (YP.mk 4 0 x1 e x2 a 0) true)else some l:aB (aA (YP×Bool)))).bind fun w=>some (.inl ((bF (a+1)),4,x1,e,x2,a,d,w))else some (.inr (f,g,h,i,j,b,c))) bN (0,n,o,p,q,r,s,t)).bind fun⟨x,y,z,A,B,C,D⟩=>some (.inl ((bF (e+1)),x,y,z,A,B,C,D))else some (.inr (n,o,p,q,r,s,t))) bN (0,0,0,0,0,0,(YY.mk (⟨#[]⟩:ByteArray) 0),x4)).bind fun⟨F,G,H,J,K,L,m⟩=>((if L.yW==1 then some (kM m (YP.mk F 0 G H J K 0) true)else some m:aB (aA (YP×Bool)))).bind fun M=>some M
theorem aI2 [IR] {k} (d) (x1:Int) (x2:Int) (x3:Int) (x4:aA (YP×Bool)) (y:aA YV) (c:Y0) (z:Int):eD (XD k (d+2)) 92 [.ref 1 0,i64 x1,i64 x2,i64 x3,.map 3] ((3,.mp (I (cF (eA YP.g) bv) x4))::cL y c z) 4 false=(lJ1 x1 x2 x3 x4 y c z).map (fun(V:aA (YP×Bool))=>((.tup [],((3,.mp (I (cF (eA YP.g) bv) V))::cL y c z),0))):=by
 rw[xd (fn:=p92) rfl];refine bz lm ?_;refine bo (aL (S:=Int×Int×Int×Int×Int×Int×YY×(aA (YP×Bool))) (enc:=fun⟨a,M,N,O,P,R,T,U⟩=>(Q [(1,i64 x1),(2,i64 x2),(3,i64 x3),(4,.map 3),(10,.ref 4 0),(11,.ref 5 0),(22,.is 22 (I YM.g c.aD)),(23,i64 (c.aD.length:Int)),(24,i64 a)] ((5,.box [i64 M,i64 0,i64 N,i64 O,i64 P,i64 R,i64 0])::(4,.box (YY.g T))::(3,.mp (I (cF (eA YP.g) bv) U))::cL y c z))) (encE:=(fun(⟨n,o,p,q,r,w,x⟩:Int×Int×Int×Int×Int×YY×(aA (YP×Bool)))=>(xq 0 [(4,.map 3),(10,.ref 4 0),(11,.ref 5 0)] ((5,.box [i64 n,i64 0,i64 o,i64 p,i64 q,i64 r,i64 0])::(4,.box (YY.g w))::(3,.mp (I (cF (eA YP.g) bv) x))::cL y c z)))) (fun⟨a,M,N,O,P,R,T,U⟩=>?_) bN (0,0,0,0,0,0,(YY.mk (⟨#[]⟩:ByteArray) 0),x4)) fun⟨n,o,p,q,r,w,x⟩=>?_;refine ig fun A=>?_;refine bz lm ?_;refine bo (e:=id) ?_ fun Y=>?_;refine io rfl ?_;refine bo rg fun X=>?_;refine bz lm ?_;rfl;refine io rfl ?_;refine bo rg fun Z=>?_;refine bo rg fun s=>?_;refine bz lm ?_;refine bo (aL (S:=Int×Int×Int×Int×Int×Int×YY×(aA (YP×Bool))) (enc:=fun⟨b,f,h,i,j,l,m,t⟩=>(Q [(1,i64 x1),(2,i64 x2),(3,i64 x3),(4,.map 3),(10,.ref 4 0),(11,.ref 5 0),(12,i64 a),(22,.is 22 (I YM.g c.aD)),(23,i64 (c.aD.length:Int)),(24,i64 a),(54,.is 13 (I YE.g s.aT)),(55,i64 (s.aT.length:Int)),(56,i64 b)] ((6,.box (YM.g A))::(5,.box [i64 f,i64 0,i64 h,i64 i,i64 j,i64 l,i64 0])::(4,.box (YY.g m))::(3,.mp (I (cF (eA YP.g) bv) t))::cL y c z))) (encE:=(fun(⟨D,E,F,G,H,J,K⟩:Int×Int×Int×Int×Int×YY×(aA (YP×Bool)))=>(xq 2 [(1,i64 x1),(2,i64 x2),(3,i64 x3),(4,.map 3),(10,.ref 4 0),(11,.ref 5 0),(22,.is 22 (I YM.g c.aD)),(23,i64 (c.aD.length:Int)),(24,i64 a)] ((6,.box (YM.g A))::(5,.box [i64 D,i64 0,i64 E,i64 F,i64 G,i64 H,i64 0])::(4,.box (YY.g J))::(3,.mp (I (cF (eA YP.g) bv) K))::cL y c z)))) (fun⟨b,f,h,i,j,l,m,t⟩=>?_) bN (0,M,N,O,P,R,T,U)) fun⟨D,E,F,G,H,J,K⟩=>?_;refine ig fun u=>?_;refine bo (aH2 d u x3) fun W=>?_;refine io rfl ?_;refine bo rg fun B=>?_;refine bz (fW rfl) ?_;refine bo (e:=(fun(v:aA (YP×Bool))=>(nq [(1,i64 x1),(2,i64 x2),(3,i64 x3),(4,.map 3),(10,.ref 4 0),(11,.ref 5 0),(12,i64 a),(16,.ref 8 0),(17,.ref 9 0),(22,.is 22 (I YM.g c.aD)),(23,i64 (c.aD.length:Int)),(24,i64 a),(54,.is 13 (I YE.g s.aT)),(55,i64 (s.aT.length:Int)),(56,i64 b)] ((9,.box (YY.g B))::(8,.box [i64 4,i64 0,i64 x1,i64 a,i64 x2,i64 b,i64 0])::(7,.box (YE.g u))::(6,.box (YM.g A))::(5,.box [i64 f,i64 0,i64 h,i64 i,i64 j,i64 l,i64 0])::(4,.box (YY.g m))::(3,.mp (I (cF (eA YP.g) bv) v))::cL y c z)))) ?_ fun v=>?_;refine io ?_ rfl;refine bz (iQ jM bv t (YP.mk f 0 h i j l 0) true) ?_;rfl;refine bz (fW rfl) ?_;refine bz (fW rfl) ?_;refine bo (e:=(fun(C:aA (YP×Bool))=>(nq [(1,i64 x1),(2,i64 x2),(3,i64 x3),(4,.map 3),(10,.ref 4 0),(11,.ref 5 0),(12,i64 a),(16,.ref 8 0),(17,.ref 9 0),(22,.is 22 (I YM.g c.aD)),(23,i64 (c.aD.length:Int)),(24,i64 a),(54,.is 13 (I YE.g s.aT)),(55,i64 (s.aT.length:Int)),(56,i64 b)] ((9,.box (YY.g B))::(8,.box [i64 4,i64 0,i64 x1,i64 a,i64 x2,i64 b,i64 0])::(7,.box (YE.g u))::(6,.box (YM.g A))::(5,.box [i64 f,i64 0,i64 h,i64 i,i64 j,i64 l,i64 0])::(4,.box (YY.g m))::(3,.mp (I (cF (eA YP.g) bv) C))::cL y c z)))) ?_ fun C=>?_;refine io ?_ rfl;refine bz (iQ jM bv v (YP.mk 4 0 x1 a x2 b 0) true) ?_;rfl;rfl;rfl;refine bo (e:=(fun(L:aA (YP×Bool))=>(nq [] ((5,.box [i64 n,i64 0,i64 o,i64 p,i64 q,i64 r,i64 0])::(4,.box (YY.g w))::(3,.mp (I (cF (eA YP.g) bv) L))::cL y c z)))) ?_ fun L=>?_;refine io ?_ rfl;refine bz (iQ jM bv x (YP.mk n 0 o p q r 0) true) ?_;rfl;rfl
def F93 (x1:YP) (x2:YE) (x3:aA (YP×Bool)):aB Bool:=
 some (fJ x3 x1 false)
theorem lM2 [IR] {k} (d) (x1:YP) (x2:YE) (x3:aA (YP×Bool)):OD k (d+1) 93 [.agg (YP.g x1),.agg (YE.g x2),.ip [.im (I (cF (eA YP.g) bv) x3)]]=(F93 x1 x2 x3).map bv:=by
 refine oe rfl ?_;refine bz (jR jM bv x3 x1 false) ?_;rfl
def Jh (x1:aA (YP×Bool)) (x2:aA YV) (x3:Y0) (x4:Int):aB (aA YV):=
 (aZ (E:=aA YV) (fun(⟨b,m⟩:Int×(aA YV))=>if decide (b<(x3.aD.length:Int))then(bB x3.aD b).bind fun n=>(aZ (E:=aA YV) (fun(⟨c,o⟩:Int×(aA YV))=>if decide (c<(n.aR.length:Int))then(bB n.aR c).bind fun p=>(aZ (E:=aA YV) (fun(⟨d,q⟩:Int×(aA YV))=>if decide (d<(p.aQ.length:Int))then(bB p.aQ d).bind fun r=>(aZ (E:=aA YV) (fun(⟨a,e⟩:Int×(aA YV))=>if decide (a<(r.aT.length:Int))then(bB r.aT a).bind fun f=>(F93 (YP.mk 4 0 c b d a 0) f x1).bind fun g=>(kO g f.ID e x3 x4).bind fun h=>some (.inl ((bF (a+1)),h))else some (.inr e)) bN (0,q)).bind fun i=>some (.inl ((bF (d+1)),i))else some (.inr q)) bN (0,o)).bind fun j=>some (.inl ((bF (c+1)),j))else some (.inr o)) bN (0,m)).bind fun k=>some (.inl ((bF (b+1)),k))else some (.inr m)) bN (0,x2)).bind fun l=>some l
theorem lK1 [IR] {k} (d) (x1:aA (YP×Bool)) (x2:aA YV) (x3:Y0) (x4:Int):eD (XD k (d+2)) 77 [.ref 1 0,.fn 93 [] [.ref 4 0]] ((4,.box [.map 3])::(3,.mp (I (cF (eA YP.g) bv) x1))::cL x2 x3 x4) 5 false=(Jh x1 x2 x3 x4).map (fun(u:aA YV)=>((.tup [],((4,.box [.map 3])::(3,.mp (I (cF (eA YP.g) bv) x1))::cL u x3 x4),0))):=by
 rw[xd (fn:=p77) rfl];refine bz lm ?_;refine bo (aL (S:=Int×(aA YV)) (enc:=fun⟨b,q⟩=>(Q [(0,.ref 1 0),(1,.fn 93 [] [.ref 4 0]),(16,.is 22 (I YM.g x3.aD)),(17,i64 (x3.aD.length:Int)),(18,i64 b)] ((4,.box [.map 3])::(3,.mp (I (cF (eA YP.g) bv) x1))::cL q x3 x4))) (encE:=(fun(p:aA YV)=>(xq 0 [] ((4,.box [.map 3])::(3,.mp (I (cF (eA YP.g) bv) x1))::cL p x3 x4)))) (fun⟨b,q⟩=>?_) bN (0,x2)) fun p=>?_;refine ig fun a=>?_;refine bz lm ?_;refine bo (aL (S:=Int×(aA YV)) (enc:=fun⟨c,r⟩=>(Q [(0,.ref 1 0),(1,.fn 93 [] [.ref 4 0]),(4,i64 b),(16,.is 22 (I YM.g x3.aD)),(17,i64 (x3.aD.length:Int)),(18,i64 b),(24,.is 2 (I YW.g a.aR)),(25,i64 (a.aR.length:Int)),(26,i64 c)] ((5,.box (YM.g a))::(4,.box [.map 3])::(3,.mp (I (cF (eA YP.g) bv) x1))::cL r x3 x4))) (encE:=(fun(o:aA YV)=>(xq 2 [(0,.ref 1 0),(1,.fn 93 [] [.ref 4 0]),(16,.is 22 (I YM.g x3.aD)),(17,i64 (x3.aD.length:Int)),(18,i64 b)] ((5,.box (YM.g a))::(4,.box [.map 3])::(3,.mp (I (cF (eA YP.g) bv) x1))::cL o x3 x4)))) (fun⟨c,r⟩=>?_) bN (0,q)) fun o=>?_;refine ig fun e=>?_;refine bz lm ?_;refine bo (aL (S:=Int×(aA YV)) (enc:=fun⟨f,s⟩=>(Q [(0,.ref 1 0),(1,.fn 93 [] [.ref 4 0]),(4,i64 b),(6,i64 c),(16,.is 22 (I YM.g x3.aD)),(17,i64 (x3.aD.length:Int)),(18,i64 b),(24,.is 2 (I YW.g a.aR)),(25,i64 (a.aR.length:Int)),(26,i64 c),(32,.is 2 (I YO.g e.aQ)),(33,i64 (e.aQ.length:Int)),(34,i64 f)] ((6,.box (YW.g e))::(5,.box (YM.g a))::(4,.box [.map 3])::(3,.mp (I (cF (eA YP.g) bv) x1))::cL s x3 x4))) (encE:=(fun(n:aA YV)=>(xq 4 [(0,.ref 1 0),(1,.fn 93 [] [.ref 4 0]),(4,i64 b),(16,.is 22 (I YM.g x3.aD)),(17,i64 (x3.aD.length:Int)),(18,i64 b),(24,.is 2 (I YW.g a.aR)),(25,i64 (a.aR.length:Int)),(26,i64 c)] ((6,.box (YW.g e))::(5,.box (YM.g a))::(4,.box [.map 3])::(3,.mp (I (cF (eA YP.g) bv) x1))::cL n x3 x4)))) (fun⟨f,s⟩=>?_) bN (0,r)) fun n=>?_;refine ig fun j=>?_;refine bz lm ?_;refine bo (aL (S:=Int×(aA YV)) (enc:=fun⟨h,i⟩=>(Q [(0,.ref 1 0),(1,.fn 93 [] [.ref 4 0]),(4,i64 b),(6,i64 c),(8,i64 f),(16,.is 22 (I YM.g x3.aD)),(17,i64 (x3.aD.length:Int)),(18,i64 b),(24,.is 2 (I YW.g a.aR)),(25,i64 (a.aR.length:Int)),(26,i64 c),(32,.is 2 (I YO.g e.aQ)),(33,i64 (e.aQ.length:Int)),(34,i64 f),(40,.is 13 (I YE.g j.aT)),(41,i64 (j.aT.length:Int)),(42,i64 h)] ((7,.box (YO.g j))::(6,.box (YW.g e))::(5,.box (YM.g a))::(4,.box [.map 3])::(3,.mp (I (cF (eA YP.g) bv) x1))::cL i x3 x4))) (encE:=(fun(m:aA YV)=>(xq 6 [(0,.ref 1 0),(1,.fn 93 [] [.ref 4 0]),(4,i64 b),(6,i64 c),(16,.is 22 (I YM.g x3.aD)),(17,i64 (x3.aD.length:Int)),(18,i64 b),(24,.is 2 (I YW.g a.aR)),(25,i64 (a.aR.length:Int)),(26,i64 c),(32,.is 2 (I YO.g e.aQ)),(33,i64 (e.aQ.length:Int)),(34,i64 f)] ((7,.box (YO.g j))::(6,.box (YW.g e))::(5,.box (YM.g a))::(4,.box [.map 3])::(3,.mp (I (cF (eA YP.g) bv) x1))::cL m x3 x4)))) (fun⟨h,i⟩=>?_) bN (0,s)) fun m=>?_;refine ig fun l=>?_;refine bo (lM2 d (YP.mk 4 0 c b f h 0) l x1) fun t=>?_;refine bo (iS d t l.ID i x3 x4) fun v=>?_;rfl;rfl;rfl;rfl;rfl
def dI1 (x1:aA YV) (x2:Y0) (x3:Int):aB (aA YV):=
 (F26 x2).bind fun x4=>(aZ (E:=aA (YP×Bool)) (fun(⟨a,d⟩:Int×(aA (YP×Bool)))=>if decide (a<x4)then(aZ (E:=aA (YP×Bool)) (fun(⟨b,e⟩:Int×(aA (YP×Bool)))=>if decide (b<2)then(aZ (E:=aA (YP×Bool)) (fun(⟨c,f⟩:Int×(aA (YP×Bool)))=>if decide (c<4)then(lJ1 a b c f x1 x2 x3).bind fun g=>some (.inl ((bF (c+1)),g))else some (.inr f)) bN (0,e)).bind fun h=>some (.inl ((bF (b+1)),h))else some (.inr e)) bN (0,d)).bind fun i=>some (.inl ((bF (a+1)),i))else some (.inr d)) bN (0,[])).bind fun j=>(Jh j x1 x2 x3).bind fun k=>some k
theorem aJ2 [IR] {k} (d) (x1:aA YV) (x2:Y0) (x3:Int):eD (XD k (d+3)) 42 [.ref 1 0] (cL x1 x2 x3) 3 false=(dI1 x1 x2 x3).map (fun(m:aA YV)=>((.tup [],(cL m x2 x3),0))):=by
 rw[xd (fn:=p42) rfl];refine bo (sF1 (d+1) x2) fun x4=>?_;refine bo (aL (S:=Int×(aA (YP×Bool))) (enc:=fun⟨a,c⟩=>(Q [(0,.ref 1 0),(2,.ref 4 0),(13,i64 x4),(14,i64 a)] ((4,.box [.map 3])::(3,.mp (I (cF (eA YP.g) bv) c))::cL x1 x2 x3))) (encE:=(fun(i:aA (YP×Bool))=>(xq 0 [(0,.ref 1 0),(2,.ref 4 0)] ((4,.box [.map 3])::(3,.mp (I (cF (eA YP.g) bv) i))::cL x1 x2 x3)))) (fun⟨a,c⟩=>?_) bN (0,[])) fun i=>?_;refine io ?_ rfl;refine bo (aL (S:=Int×(aA (YP×Bool))) (enc:=fun⟨b,e⟩=>(Q [(0,.ref 1 0),(2,.ref 4 0),(4,i64 a),(13,i64 x4),(14,i64 a),(17,i64 b)] ((4,.box [.map 3])::(3,.mp (I (cF (eA YP.g) bv) e))::cL x1 x2 x3))) (encE:=(fun(l:aA (YP×Bool))=>(xq 2 [(0,.ref 1 0),(2,.ref 4 0),(13,i64 x4),(14,i64 a)] ((4,.box [.map 3])::(3,.mp (I (cF (eA YP.g) bv) l))::cL x1 x2 x3)))) (fun⟨b,e⟩=>?_) bN (0,c)) fun l=>?_;refine io ?_ rfl;refine bo (aL (S:=Int×(aA (YP×Bool))) (enc:=fun⟨f,h⟩=>(Q [(0,.ref 1 0),(2,.ref 4 0),(4,i64 a),(5,i64 b),(13,i64 x4),(14,i64 a),(17,i64 b),(20,i64 f)] ((4,.box [.map 3])::(3,.mp (I (cF (eA YP.g) bv) h))::cL x1 x2 x3))) (encE:=(fun(j:aA (YP×Bool))=>(xq 4 [(0,.ref 1 0),(2,.ref 4 0),(4,i64 a),(13,i64 x4),(14,i64 a),(17,i64 b)] ((4,.box [.map 3])::(3,.mp (I (cF (eA YP.g) bv) j))::cL x1 x2 x3)))) (fun⟨f,h⟩=>?_) bN (0,e)) fun j=>?_;refine io ?_ rfl;refine bo (aI2 d a b f h x1 x2 x3) fun n=>?_;rfl;rfl;rfl;refine bo (lK1 d i x1 x2 x3) fun o=>?_;rfl
def zT (x1:Y0):aB Unit:=
 some ()
theorem dJ1 [IR] {k} (d) (x1:Y0):eD (XD k (d+1)) 119 [.ref 0 0] [(0,.box (Y0.g x1))] 4 true=(zT x1).map (fun(_:Unit)=>((.fn 172 [] [.ref 4 0],[(4,.box [.ref 0 0]),(0,.box (Y0.g x1))],5))):=by
 rw[xd (fn:=rZ1) rfl];rfl
def vR (x1:Int) (x2:Int) (x3:Int) (x4:Int) (d:Int) (e:Int) (f:Int) (b:YJ) (g:Bool) (c:YP) (a:YZ):aB (Unit⊕Unit):=
 if((b.ID.dH==a.dH)&&((b.ID.bG==a.bG)&&true))!=false then some (.inl ())else some (.inr ())
theorem Xt [IR] {k} (d) (x1:Int) (x2:Int) (x3:Int) (x4:Int) (c:Int) (e:Int) (f:Int) (i:YJ) (h:Bool) (b:YP) (a:YZ):uY (XD k (d+1)) 5 [.agg [i64 x1,i64 x2,i64 x3,i64 x4,i64 c,i64 e,i64 f],.ip (YJ.g i)] [lG,(3,.box [bv h]),(2,.box (YP.g b)),(1,.box (YZ.g a))] 6=(vR x1 x2 x3 x4 c e f i h b a).map (fun|.inl _=>((bv false,[xC,(3,.box [bv true]),(2,.box [i64 x1,i64 x2,i64 x3,i64 x4,i64 c,i64 e,i64 f]),(1,.box (YZ.g a))],0))|.inr _=>((bv true,[lG,(3,.box [bv h]),(2,.box (YP.g b)),(1,.box (YZ.g a))],0))):=by
 rw[yd];refine bz (Wu mT) ?_;refine io rfl rfl
def pJ (x1:Int) (x2:Int) (x3:Int) (x4:Int) (d:Int) (e:Int) (f:Int) (b:YF) (g:Bool) (c:YP) (a:YZ):aB (Unit⊕Unit):=
 if((b.ID.dH==a.dH)&&((b.ID.bG==a.bG)&&true))!=false then some (.inl ())else some (.inr ())
theorem Ng [IR] {k} (d) (x1:Int) (x2:Int) (x3:Int) (x4:Int) (c:Int) (e:Int) (f:Int) (i:YF) (h:Bool) (b:YP) (a:YZ):uY (XD k (d+1)) 5 [.agg [i64 x1,i64 x2,i64 x3,i64 x4,i64 c,i64 e,i64 f],.ip (YF.g i)] [lG,(3,.box [bv h]),(2,.box (YP.g b)),(1,.box (YZ.g a))] 6=(pJ x1 x2 x3 x4 c e f i h b a).map (fun|.inl _=>((bv false,[xC,(3,.box [bv true]),(2,.box [i64 x1,i64 x2,i64 x3,i64 x4,i64 c,i64 e,i64 f]),(1,.box (YZ.g a))],0))|.inr _=>((bv true,[lG,(3,.box [bv h]),(2,.box (YP.g b)),(1,.box (YZ.g a))],0))):=by
 rw[yd];refine bz (Wu mT) ?_;refine io rfl rfl
def pK (x1:Int) (x2:Int) (x3:Int) (x4:Int) (d:Int) (e:Int) (f:Int) (b:YM) (g:Bool) (c:YP) (a:YZ):aB (Unit⊕Unit):=
 if((b.ID.dH==a.dH)&&((b.ID.bG==a.bG)&&true))!=false then some (.inl ())else some (.inr ())
theorem Nh [IR] {k} (d) (x1:Int) (x2:Int) (x3:Int) (x4:Int) (c:Int) (e:Int) (f:Int) (i:YM) (h:Bool) (b:YP) (a:YZ):uY (XD k (d+1)) 5 [.agg [i64 x1,i64 x2,i64 x3,i64 x4,i64 c,i64 e,i64 f],.ip (YM.g i)] [lG,(3,.box [bv h]),(2,.box (YP.g b)),(1,.box (YZ.g a))] 6=(pK x1 x2 x3 x4 c e f i h b a).map (fun|.inl _=>((bv false,[xC,(3,.box [bv true]),(2,.box [i64 x1,i64 x2,i64 x3,i64 x4,i64 c,i64 e,i64 f]),(1,.box (YZ.g a))],0))|.inr _=>((bv true,[lG,(3,.box [bv h]),(2,.box (YP.g b)),(1,.box (YZ.g a))],0))):=by
 rw[yd];refine bz (Wu mT) ?_;refine io rfl rfl
def pL (x1:Int) (x2:Int) (x3:Int) (x4:Int) (d:Int) (e:Int) (f:Int) (b:YE) (g:Bool) (c:YP) (a:YZ):aB (Unit⊕Unit):=
 if((b.ID.dH==a.dH)&&((b.ID.bG==a.bG)&&true))!=false then some (.inl ())else some (.inr ())
theorem Ni [IR] {k} (d) (x1:Int) (x2:Int) (x3:Int) (x4:Int) (c:Int) (e:Int) (f:Int) (i:YE) (h:Bool) (b:YP) (a:YZ):uY (XD k (d+1)) 5 [.agg [i64 x1,i64 x2,i64 x3,i64 x4,i64 c,i64 e,i64 f],.ip (YE.g i)] [lG,(3,.box [bv h]),(2,.box (YP.g b)),(1,.box (YZ.g a))] 6=(pL x1 x2 x3 x4 c e f i h b a).map (fun|.inl _=>((bv false,[xC,(3,.box [bv true]),(2,.box [i64 x1,i64 x2,i64 x3,i64 x4,i64 c,i64 e,i64 f]),(1,.box (YZ.g a))],0))|.inr _=>((bv true,[lG,(3,.box [bv h]),(2,.box (YP.g b)),(1,.box (YZ.g a))],0))):=by
 rw[yd];refine bz (Wu mT) ?_;refine io rfl rfl
def pM (x1:Int) (x2:Int) (x3:Int) (x4:Int) (d:Int) (e:Int) (f:Int) (b:YN) (g:Bool) (c:YP) (a:YZ):aB (Unit⊕Unit):=
 if((b.ID.dH==a.dH)&&((b.ID.bG==a.bG)&&true))!=false then some (.inl ())else some (.inr ())
theorem Nj [IR] {k} (d) (x1:Int) (x2:Int) (x3:Int) (x4:Int) (c:Int) (e:Int) (f:Int) (i:YN) (h:Bool) (b:YP) (a:YZ):uY (XD k (d+1)) 5 [.agg [i64 x1,i64 x2,i64 x3,i64 x4,i64 c,i64 e,i64 f],.ip (YN.g i)] [lG,(3,.box [bv h]),(2,.box (YP.g b)),(1,.box (YZ.g a))] 6=(pM x1 x2 x3 x4 c e f i h b a).map (fun|.inl _=>((bv false,[xC,(3,.box [bv true]),(2,.box [i64 x1,i64 x2,i64 x3,i64 x4,i64 c,i64 e,i64 f]),(1,.box (YZ.g a))],0))|.inr _=>((bv true,[lG,(3,.box [bv h]),(2,.box (YP.g b)),(1,.box (YZ.g a))],0))):=by
 rw[yd];refine bz (Wu mT) ?_;refine io rfl rfl
def zU (x1:Y0) (x2:Bool) (x3:YP) (x4:YZ):aB (YP⊕Unit):=
 (aZ (E:=(Int×Int×Int)⊕Unit) (fun(⟨C,f⟩:Int×Int)=>if decide (f<(x1.bV.length:Int))then(bB x1.bV f).bind fun D=>(vR 1 f 0 0 0 0 0 D x2 x3 x4).bind fun F=>(match F with|.inl _=>some (.inr (.inl (1,f,0)))|.inr _=>(bB x1.bV f).bind fun G=>(aZ (E:=(Int×Int)⊕Int) (fun(⟨g,h⟩:Int×Int)=>if decide (h<(G.dZ.length:Int))then(bB x1.bV f).bind fun H=>(bB H.dZ h).bind fun J=>(pJ 2 0 g 0 0 0 0 J x2 x3 x4).bind fun K=>(match K with|.inl _=>some (.inr (.inl (g,g)))|.inr _=>some (.inl ((bF (g+1)),(bF (h+1)))))else some (.inr (.inr g))) bN (C,0)).bind fun L=>(match L with|.inl ⟨x33,x34⟩=>some (.inr (.inl (2,0,x34)))|.inr x35=>some (.inl (x35,(bF (f+1))))))else some (.inr (.inr ()))) bN (0,0)).bind fun M=>(match M with|.inl ⟨x37,x38,x39⟩=>some (.inl (YP.mk x37 x38 x39 0 0 0 0))|.inr _=>(aZ (E:=(Int×Int×Int×Int×Int)⊕Unit) (fun(a:Int)=>if decide (a<(x1.aD.length:Int))then(bB x1.aD a).bind fun i=>(pK 3 0 0 a 0 0 0 i x2 x3 x4).bind fun j=>(match j with|.inl _=>some (.inr (.inl (3,0,a,0,0)))|.inr _=>(bB x1.aD a).bind fun k=>(aZ (E:=(Int×Int×Int)⊕Unit) (fun(b:Int)=>if decide (b<(k.aR.length:Int))then(bB x1.aD a).bind fun l=>(bB l.aR b).bind fun m=>(aZ (E:=(Int×Int)⊕Unit) (fun(c:Int)=>if decide (c<(m.aQ.length:Int))then(bB x1.aD a).bind fun n=>(bB n.aR b).bind fun o=>(bB o.aQ c).bind fun p=>(aZ (E:=Int⊕Unit) (fun(d:Int)=>if decide (d<(p.aT.length:Int))then(bB x1.aD a).bind fun q=>(bB q.aR b).bind fun r=>(bB r.aQ c).bind fun s=>(bB s.aT d).bind fun t=>(pL 4 0 b a c d 0 t x2 x3 x4).bind fun u=>(match u with|.inl _=>some (.inr (.inl d))|.inr _=>some (.inl (bF (d+1))))else some (.inr (.inr ()))) bN 0).bind fun v=>(match v with|.inl x201=>some (.inr (.inl (c,x201)))|.inr _=>some (.inl (bF (c+1))))else some (.inr (.inr ()))) bN 0).bind fun w=>(match w with|.inl ⟨x203,x204⟩=>some (.inr (.inl (b,x203,x204)))|.inr _=>some (.inl (bF (b+1))))else some (.inr (.inr ()))) bN 0).bind fun x=>(match x with|.inl ⟨x206,x207,x208⟩=>some (.inr (.inl (4,x206,a,x207,x208)))|.inr _=>some (.inl (bF (a+1)))))else some (.inr (.inr ()))) bN 0).bind fun y=>(match y with|.inl ⟨x210,x211,x212,x213,x214⟩=>some (.inl (YP.mk x210 0 x211 x212 x213 x214 0))|.inr _=>(aZ (E:=Int⊕Unit) (fun(e:Int)=>if decide (e<(x1.bY.length:Int))then(bB x1.bY e).bind fun z=>(pM 5 0 0 0 0 0 e z x2 x3 x4).bind fun A=>(match A with|.inl _=>some (.inr (.inl e))|.inr _=>some (.inl (bF (e+1))))else some (.inr (.inr ()))) bN 0).bind fun B=>(match B with|.inl x221=>some (.inl (YP.mk 5 0 0 0 0 0 x221))|.inr _=>some (.inr ()))))
theorem dK1 [IR] {k} (d) (x1:Y0) (x2:Bool) (x3:YP) (x4:YZ):eD (XD k (d+2)) 172 [.yld 5,.ref 4 0] [lG,(4,.box [.ref 0 0]),(0,.box (Y0.g x1)),(3,.box [bv x2]),(2,.box (YP.g x3)),(1,.box (YZ.g x4))] 6 false=(zU x1 x2 x3 x4).map (fun|.inl x223=>((.tup [],[xC,(4,.box [.ref 0 0]),(0,.box (Y0.g x1)),(3,.box [bv true]),(2,.box (YP.g x223)),(1,.box (YZ.g x4))],0))|.inr _=>((.tup [],[lG,(4,.box [.ref 0 0]),(0,.box (Y0.g x1)),(3,.box [bv x2]),(2,.box (YP.g x3)),(1,.box (YZ.g x4))],0))):=by
 rw[xd (fn:=sB1) rfl];refine bz lm ?_;refine bo (aL (S:=Int×Int) (enc:=fun⟨x,f⟩=>(Q [(0,.yld 5),(1,.ref 4 0),(3,i64 x),(15,i64 (x1.bV.length:Int)),(16,i64 f)] [lG,(4,.box [.ref 0 0]),(0,.box (Y0.g x1)),(3,.box [bv x2]),(2,.box (YP.g x3)),(1,.box (YZ.g x4))])) (encE:=(fun|.inl ⟨P,R,T⟩=>(rq [(0,.yld 5),(1,.ref 4 0)] [xC,(4,.box [.ref 0 0]),(0,.box (Y0.g x1)),(3,.box [bv true]),(2,.box [i64 P,i64 R,i64 T,i64 0,i64 0,i64 0,i64 0]),(1,.box (YZ.g x4))])|.inr _=>(xq 0 [(0,.yld 5),(1,.ref 4 0)] [lG,(4,.box [.ref 0 0]),(0,.box (Y0.g x1)),(3,.box [bv x2]),(2,.box (YP.g x3)),(1,.box (YZ.g x4))]))) (fun⟨x,f⟩=>?_) bN (0,0)) fun a0=>?_;refine ig fun U=>?_;refine bo (Xt d 1 f 0 0 0 0 0 U x2 x3 x4) fun V=>?_;rcases V with _|_;rfl;refine bo rg fun W=>?_;refine bz lm ?_;refine bo (aL (S:=Int×Int) (enc:=fun⟨y,M⟩=>(Q [(0,.yld 5),(1,.ref 4 0),(3,i64 y),(4,i64 f),(15,i64 (x1.bV.length:Int)),(16,i64 f),(39,i64 (W.dZ.length:Int)),(40,i64 M)] [lG,(3,.box [bv x2]),(2,.box (YP.g x3)),(1,.box (YZ.g x4)),(4,.box [.ref 0 0]),(0,.box (Y0.g x1))])) (encE:=(fun|.inl ⟨N,O⟩=>(rq [(0,.yld 5),(1,.ref 4 0),(3,i64 N),(15,i64 (x1.bV.length:Int)),(16,i64 f)] [xC,(3,.box [bv true]),(2,.box [i64 2,i64 0,i64 O,i64 0,i64 0,i64 0,i64 0]),(1,.box (YZ.g x4)),(4,.box [.ref 0 0]),(0,.box (Y0.g x1))])|.inr x35=>(xq 2 [(0,.yld 5),(1,.ref 4 0),(3,i64 x35),(15,i64 (x1.bV.length:Int)),(16,i64 f)] [lG,(3,.box [bv x2]),(2,.box (YP.g x3)),(1,.box (YZ.g x4)),(4,.box [.ref 0 0]),(0,.box (Y0.g x1))]))) (fun⟨y,M⟩=>?_) bN (x,0)) fun Z=>?_;refine ig fun b9=>?_;refine bo rg fun X=>?_;refine bo (Ng d 2 0 y 0 0 0 0 X x2 x3 x4) fun Y=>?_;rcases Y with _|_;rfl;rfl;rcases Z with⟨N,O⟩|x35;rfl;rfl;rcases a0 with⟨P,R,T⟩|_;rfl;refine bz lm ?_;refine bo (aL (S:=Int) (enc:=fun a=>(Q [(0,.yld 5),(1,.ref 4 0),(67,i64 (x1.aD.length:Int)),(68,i64 a)] [lG,(4,.box [.ref 0 0]),(0,.box (Y0.g x1)),(3,.box [bv x2]),(2,.box (YP.g x3)),(1,.box (YZ.g x4))])) (encE:=(fun|.inl ⟨r,s,t,u,v⟩=>(rq [(0,.yld 5),(1,.ref 4 0)] [xC,(4,.box [.ref 0 0]),(0,.box (Y0.g x1)),(3,.box [bv true]),(2,.box [i64 r,i64 0,i64 s,i64 t,i64 u,i64 v,i64 0]),(1,.box (YZ.g x4))])|.inr _=>(xq 4 [(0,.yld 5),(1,.ref 4 0)] [lG,(4,.box [.ref 0 0]),(0,.box (Y0.g x1)),(3,.box [bv x2]),(2,.box (YP.g x3)),(1,.box (YZ.g x4))]))) (fun a=>?_) bN 0) fun H=>?_;refine ig fun z=>?_;refine bo (Nh d 3 0 0 a 0 0 0 z x2 x3 x4) fun A=>?_;rcases A with _|_;rfl;refine bo rg fun e=>?_;refine bz lm ?_;refine bo (aL (S:=Int) (enc:=fun b=>(Q [(0,.yld 5),(1,.ref 4 0),(6,i64 a),(67,i64 (x1.aD.length:Int)),(68,i64 a),(91,i64 (e.aR.length:Int)),(92,i64 b)] [lG,(3,.box [bv x2]),(2,.box (YP.g x3)),(1,.box (YZ.g x4)),(4,.box [.ref 0 0]),(0,.box (Y0.g x1))])) (encE:=(fun|.inl ⟨o,p,q⟩=>(rq [(0,.yld 5),(1,.ref 4 0),(67,i64 (x1.aD.length:Int)),(68,i64 a)] [xC,(3,.box [bv true]),(2,.box [i64 4,i64 0,i64 o,i64 a,i64 p,i64 q,i64 0]),(1,.box (YZ.g x4)),(4,.box [.ref 0 0]),(0,.box (Y0.g x1))])|.inr _=>(xq 6 [(0,.yld 5),(1,.ref 4 0),(67,i64 (x1.aD.length:Int)),(68,i64 a)] [lG,(3,.box [bv x2]),(2,.box (YP.g x3)),(1,.box (YZ.g x4)),(4,.box [.ref 0 0]),(0,.box (Y0.g x1))]))) (fun b=>?_) bN 0) fun G=>?_;refine ig fun b0=>?_;refine bo rg fun h=>?_;refine bz lm ?_;refine bo (aL (S:=Int) (enc:=fun c=>(Q [(0,.yld 5),(1,.ref 4 0),(6,i64 a),(7,i64 b),(67,i64 (x1.aD.length:Int)),(68,i64 a),(91,i64 (e.aR.length:Int)),(92,i64 b),(107,i64 (h.aQ.length:Int)),(108,i64 c)] [lG,(3,.box [bv x2]),(2,.box (YP.g x3)),(1,.box (YZ.g x4)),(4,.box [.ref 0 0]),(0,.box (Y0.g x1))])) (encE:=(fun|.inl ⟨m,n⟩=>(rq [(0,.yld 5),(1,.ref 4 0),(6,i64 a),(67,i64 (x1.aD.length:Int)),(68,i64 a),(91,i64 (e.aR.length:Int)),(92,i64 b)] [xC,(3,.box [bv true]),(2,.box [i64 4,i64 0,i64 b,i64 a,i64 m,i64 n,i64 0]),(1,.box (YZ.g x4)),(4,.box [.ref 0 0]),(0,.box (Y0.g x1))])|.inr _=>(xq 8 [(0,.yld 5),(1,.ref 4 0),(6,i64 a),(67,i64 (x1.aD.length:Int)),(68,i64 a),(91,i64 (e.aR.length:Int)),(92,i64 b)] [lG,(3,.box [bv x2]),(2,.box (YP.g x3)),(1,.box (YZ.g x4)),(4,.box [.ref 0 0]),(0,.box (Y0.g x1))]))) (fun c=>?_) bN 0) fun F=>?_;refine ig fun b4=>?_;refine bo rg fun b5=>?_;refine bo rg fun B=>?_;refine bz lm ?_;refine bo (aL (S:=Int) (enc:=fun i=>(Q [(0,.yld 5),(1,.ref 4 0),(6,i64 a),(7,i64 b),(8,i64 c),(67,i64 (x1.aD.length:Int)),(68,i64 a),(91,i64 (e.aR.length:Int)),(92,i64 b),(107,i64 (h.aQ.length:Int)),(108,i64 c),(127,i64 (B.aT.length:Int)),(128,i64 i)] [lG,(3,.box [bv x2]),(2,.box (YP.g x3)),(1,.box (YZ.g x4)),(4,.box [.ref 0 0]),(0,.box (Y0.g x1))])) (encE:=(fun|.inl l=>(rq [(0,.yld 5),(1,.ref 4 0),(6,i64 a),(7,i64 b),(67,i64 (x1.aD.length:Int)),(68,i64 a),(91,i64 (e.aR.length:Int)),(92,i64 b),(107,i64 (h.aQ.length:Int)),(108,i64 c)] [xC,(3,.box [bv true]),(2,.box [i64 4,i64 0,i64 b,i64 a,i64 c,i64 l,i64 0]),(1,.box (YZ.g x4)),(4,.box [.ref 0 0]),(0,.box (Y0.g x1))])|.inr _=>(xq 10 [(0,.yld 5),(1,.ref 4 0),(6,i64 a),(7,i64 b),(67,i64 (x1.aD.length:Int)),(68,i64 a),(91,i64 (e.aR.length:Int)),(92,i64 b),(107,i64 (h.aQ.length:Int)),(108,i64 c)] [lG,(3,.box [bv x2]),(2,.box (YP.g x3)),(1,.box (YZ.g x4)),(4,.box [.ref 0 0]),(0,.box (Y0.g x1))]))) (fun i=>?_) bN 0) fun E=>?_;refine ig fun b6=>?_;refine bo rg fun b7=>?_;refine bo rg fun b8=>?_;refine bo rg fun C=>?_;refine bo (Ni d 4 0 b a c i 0 C x2 x3 x4) fun D=>?_;rcases D with _|_;rfl;rfl;rcases E with l|_;rfl;rfl;rcases F with⟨m,n⟩|_;rfl;rfl;rcases G with⟨o,p,q⟩|_;rfl;rfl;rcases H with⟨r,s,t,u,v⟩|_;rfl;refine bz lm ?_;refine bo (aL (S:=Int) (enc:=fun j=>(Q [(0,.yld 5),(1,.ref 4 0),(166,i64 (x1.bY.length:Int)),(167,i64 j)] [lG,(4,.box [.ref 0 0]),(0,.box (Y0.g x1)),(3,.box [bv x2]),(2,.box (YP.g x3)),(1,.box (YZ.g x4))])) (encE:=(fun|.inl w=>(rq [] [xC,(4,.box [.ref 0 0]),(0,.box (Y0.g x1)),(3,.box [bv true]),(2,.box [i64 5,i64 0,i64 0,i64 0,i64 0,i64 0,i64 w]),(1,.box (YZ.g x4))])|.inr _=>(xq 12 [] [lG,(4,.box [.ref 0 0]),(0,.box (Y0.g x1)),(3,.box [bv x2]),(2,.box (YP.g x3)),(1,.box (YZ.g x4))]))) (fun j=>?_) bN 0) fun L=>?_;refine ig fun J=>?_;refine bo (Nj d 5 0 0 0 0 0 j J x2 x3 x4) fun K=>?_;rcases K with _|_;rfl;rfl;rcases L with w|_;rfl;rfl
end Go.P
namespace Go.P
open Go.Sim (Ex fC CK)
open K (I Q rq nq xq ck)
def lL1 (x1:Y0) (x2:YZ):aB (YP×Bool):=
 if((x2.dH==0)&&((x2.bG==0)&&true))!=false then some ((YP.mk 0 0 0 0 0 0 0),false)else(zT x1).bind fun _=>(zU x1 false (YP.mk 0 0 0 0 0 0 0) x2).bind fun x4=>(match x4 with|.inl x3=>some (x3,true)|.inr _=>some ((YP.mk 0 0 0 0 0 0 0),false))
theorem aK2 [IR] {k} (d) (x1:Y0) (x2:YZ):OD k (d+3) 189 [.agg (Y0.g x1),.agg (YZ.g x2)]=(lL1 x1 x2).map (fun⟨a,b⟩=>.tup [.agg (YP.g a),bv b]):=by
 refine oe rfl ?_;refine io rfl ?_;refine bo (dJ1 (d+1) x1) fun _=>?_;refine bo (dK1 d x1 false (YP.mk 0 0 0 0 0 0 0) x2) fun x4=>?_;rcases x4 with x3|_;rfl;rfl
def Xu (x1:aA Int):aB (aA Int):=
 (yP (x1.length:Int) (x1.length:Int) 0).bind fun x2=>(aZ (E:=aA Int) (fun(⟨b,a⟩:Int×(aA Int))=>if decide (b<(x1.length:Int))then(dA a (bF (b-1))).bind fun c=>(eL a c).bind fun d=>(bB x1 (bF (b-1))).bind fun e=>(dA a b).bind fun f=>(lP a f (fun i=>(bF (d+e)))).bind fun g=>some (.inl ((bF (b+1)),g))else some (.inr a)) bN (1,x2)).bind fun h=>some h
theorem aL2 [IR] {k} (d) (x1:aA Int):OD k (d+1) 168 [.is 1 (I cI x1)]=(Xu x1).map (fun p=>.is 1 (I cI p)):=by
 refine oe rfl ?_;refine bz lm ?_;refine bo (mA cI _ _ 0) fun x2=>?_;refine bo (aL (S:=Int×(aA Int)) (enc:=fun⟨i,a⟩=>(Q [(0,.is 1 (I cI x1)),(3,.own 0),(4,i64 i)] [(0,.lst 3 1 true (I cI a))])) (encE:=(fun(e:aA Int)=>(xq 0 [(3,.own 0)] [(0,.lst 3 1 true (I cI e))]))) (fun⟨i,a⟩=>?_) bN (1,x2)) fun e=>?_;refine bz lm ?_;refine io ?_ rfl;refine bo (bM cI a _) fun j=>?_;refine bo (cV (A:=Int) (c:=cI) (g:=fun b=>i64 b) (fun _=>rfl) a _) fun b=>?_;refine bo rg fun h=>?_;refine bo (bM cI a _) fun l=>?_;refine bo (gV (A:=Int) (c:=cI) (m:=1) (f:=fun n=>(bF (b+h))) (fun _=>⟨rfl,rfl⟩) (wV2 rfl) a _) fun o=>?_;rfl;rfl
def Qt (x1:YO) (x2:Int):aB ((aA Int)×Int):=
 (Qr x1 x2).bind fun⟨x3,x4⟩=>if x4 !=0 then some ([],x4)else(Xu x3).bind fun a=>some (a,0)
theorem pM1 [IR] {k} (d) (x1:YO) (x2:Int):OD k (d+14) 113 [.agg (YO.g x1),i64 x2]=(Qt x1 x2).map (fun⟨a,b⟩=>.tup [.is 1 (I cI a),i64 b]):=by
 refine oe rfl ?_;refine bo (pH1 d x1 x2) fun⟨x3,x4⟩=>?_;refine io rfl ?_;refine bo (aL2 (d+12) x3) fun c=>?_;rfl
def dL1 (x1:YK) (x2:YZ):aB (YQ×Bool):=
 (lL1 x1.s' x2).bind fun⟨x3,x4⟩=>if(!x4)||(x3.dD !=4)then some ((YQ.mk 0 0 0 0),false)else(bB x1.s'.aD x3.aY).bind fun c=>(Dy c).bind fun⟨e,h⟩=>(bB c.aR x3.bS).bind fun f=>(bB f.aQ x3.bU).bind fun g=>(Qt g e).bind fun⟨a,d⟩=>if decide (x3.bP>=(a.length:Int))then some ((YQ.mk 0 0 0 0),false)else(bB a x3.bP).bind fun b=>some ((YQ.mk x3.aY b x3.bS x3.bU),true)
theorem pN1 [IR] {k} (d) (x1:YK) (x2:YZ):OD k (d+15) 150 [.ip (YK.g x1),.agg (YZ.g x2)]=(dL1 x1 x2).map (fun⟨i,j⟩=>.tup [.agg (YQ.g i),bv j]):=by
 refine oe rfl ?_;refine bo (aK2 (d+11) x1.s' x2) fun⟨x3,x4⟩=>?_;refine bz (gM rfl) ?_;refine io rfl ?_;refine bo rg fun e=>?_;refine bo (Is (d+10) e) fun⟨f,l⟩=>?_;refine bo rg fun m=>?_;refine bo rg fun h=>?_;refine bo (pM1 d h f) fun⟨a,b⟩=>?_;refine bz lm ?_;refine io rfl ?_;refine bo rg fun c=>?_;rfl
def Qu (x1:Int) (x2:Int):aB Bool:=
 some ((decide (x1>=0))&&(decide (x1<=x2)))
theorem Ue [IR] {k} (d) (x1:Int) (x2:Int):OD k (d+1) 200 [i64 x1,i64 x2]=(Qu x1 x2).map bv:=by
 refine oe rfl ?_;refine bz (fW rfl) ?_;rfl
def dM1 (x1:YQ):aB Bool:=
 (Qu x1.aY 1023).bind fun x2=>((if x2 then(Qu x1.At 4398046511104).bind fun x3=>some x3 else some false:aB (Bool))).bind fun x4=>((if x4 then(Qu x1.bS 127).bind fun a=>some a else some false:aB (Bool))).bind fun b=>((if b then(Qu x1.bU 1).bind fun c=>some c else some false:aB (Bool))).bind fun d=>some d
theorem pO1 [IR] {k} (d) (x1:YQ):OD k (d+2) 190 [.agg (YQ.g x1)]=(dM1 x1).map bv:=by
 refine oe rfl ?_;refine bo (Ue d x1.aY 1023) fun x2=>?_;refine bo (e:=id) ?_ fun x4=>?_;refine io ?_ rfl;refine bo (Ue d x1.At 4398046511104) fun x3=>?_;rfl;refine bo (e:=id) ?_ fun b=>?_;refine io ?_ rfl;refine bo (Ue d x1.bS 127) fun a=>?_;rfl;refine bo (e:=id) ?_ fun f=>?_;refine io ?_ rfl;refine bo (Ue d x1.bU 1) fun c=>?_;rfl;rfl
def dN1 (x1:Int):aB Bool:=
 some ((x1==1)||(x1==7))
theorem pP1 [IR] {k} (d) (x1:Int):OD k (d+1) 191 [i64 x1]=(dN1 x1).map bv:=by
 refine oe rfl ?_;refine bz (gM rfl) ?_;rfl
def Xv (x1:Int):aB Bool:=
 some (x1 !=x1)
theorem pQ1 [IR] {k} (d) (x1:Int):OD k (d+1) 116 [i64 x1]=(Xv x1).map bv:=by
 refine oe rfl ?_;rfl
def Og (x1:Int) (x2:Int):aB Int:=
 (Xv x1).bind fun x3=>(Xv x2).bind fun x4=>if x3 then if x4 then some 0 else some (-1)else if x4 then some 1 else if decide (x1<x2)then some (-1)else if decide (x1>x2)then some 1 else some 0
theorem Cw [IR] {k} (d) (x1:Int) (x2:Int):OD k (d+2) 60 [i64 x1,i64 x2]=(Og x1 x2).map i64:=by
 refine oe rfl ?_;refine bo (pQ1 d x1) fun x3=>?_;refine bo (pQ1 d x2) fun x4=>?_;refine io ?_ ?_;refine io rfl rfl;refine io rfl ?_;refine io rfl ?_;refine io rfl rfl
def F59 (x1:aA Int):aB Int:=
 (aZ (E:=Int⊕Unit) (fun(x3:Int)=>if decide (x3<(x1.length:Int))then(bB x1 x3).bind fun x4=>if x4 !=0 then some (.inr (.inl x4))else some (.inl (bF (x3+1)))else some (.inr (.inr ()))) bN 0).bind fun a=>(match a with|.inl x5=>some x5|.inr _=>some 0)
theorem aM2 [IR] {k} (d) (x1:aA Int):OD k (d+1) 59 [.is 1 (I cI x1)]=(F59 x1).map i64:=by
 refine oe rfl ?_;refine bz lm ?_;refine bo (aL (S:=Int) (enc:=fun x3=>(Q [(3,i64 0),(6,.is 1 (I cI x1)),(7,i64 (x1.length:Int)),(8,i64 x3)] [])) (encE:=(fun|.inl a=>(rq [(2,i64 a),(3,i64 0)] [])|.inr _=>(xq 0 [(3,i64 0)] []))) (fun x3=>?_) bN 0) fun b=>?_;refine ig fun x4=>?_;refine io rfl rfl;rcases b with a|_;rfl;rfl
def Ep (x1 x2:YQ):aB Int:=
 (Og x1.aY x2.aY).bind fun x3=>(Og x1.At x2.At).bind fun x4=>(F59 [x3,x4]).bind fun a=>some a
theorem Cy [IR] {k} (d) (x1 x2:YQ):OD k (d+3) 192 [.agg (YQ.g x1),.agg (YQ.g x2)]=(Ep x1 x2).map i64:=by
 refine oe rfl ?_;refine bo (Cw d x1.aY x2.aY) fun x3=>?_;refine bo (Cw d x1.At x2.At) fun x4=>?_;refine bo (aM2 (d+1) [x3,x4]) fun a=>?_;rfl
def lM1 (x1:YS):aB Int:=
 if(decide (x1.dD<1))||(decide (x1.dD>7))then some 11 else(dM1 x1.gZ).bind fun x2=>((if !x2 then some true else(dM1 x1.To).bind fun x3=>some (!x3):aB (Bool))).bind fun x4=>if x4 then some 2 else((if x1.gZ.bS !=x1.To.bS then some true else(dN1 x1.dD).bind fun a=>some (a&&(x1.gZ.bU !=x1.To.bU)):aB (Bool))).bind fun b=>if b then some 23 else(Ep x1.gZ x1.To).bind fun c=>if decide (c>=0)then some 25 else some 0
theorem aN2 [IR] {k} (d) (x1:YS):OD k (d+4) 151 [.agg (YS.g x1)]=(lM1 x1).map i64:=by
 refine oe rfl ?_;refine bz (gM rfl) ?_;refine io rfl ?_;refine bo (pO1 (d+1) x1.gZ) fun x2=>?_;refine bo (e:=id) ?_ fun x4=>?_;refine io rfl ?_;refine bo (pO1 (d+1) x1.To) fun x3=>?_;rfl;refine io rfl ?_;refine bo (e:=id) ?_ fun b=>?_;refine io rfl ?_;refine bo (pP1 (d+2) x1.dD) fun a=>?_;refine bz (fW rfl) ?_;rfl;refine io rfl ?_;refine bo (Cy d x1.gZ x1.To) fun c=>?_;refine io rfl rfl
def dO1 (x1:aA YV) (x2:Y0) (x3:Int):aB ((aA Bool)×(aA YS)):=
 (aZ (E:=(aA Bool)×(aA YS)) (fun(⟨b,c,d⟩:Int×(aA Bool)×(aA YS))=>if decide (b<(x2.bY.length:Int))then(bB x2.bY b).bind fun a=>(dL1 (YK.mk x2 x3 x1) a.gZ).bind fun⟨e,g⟩=>(dL1 (YK.mk x2 x3 x1) a.To).bind fun⟨f,h⟩=>(iP false d [(YS.mk a.dD e f)]).bind fun i=>((if(!g)||(!h)then some true else(lM1 (YS.mk a.dD e f)).bind fun j=>some (j !=0):aB (Bool))).bind fun k=>(iP false c [k]).bind fun l=>some (.inl ((bF (b+1)),l,i))else some (.inr (c,d))) bN (0,[],[])).bind fun⟨m,n⟩=>some (m,n)
theorem pR1 [IR] {k} (d) (x1:aA YV) (x2:Y0) (x3:Int):eD (XD k (d+16)) 94 [.ref 1 0] (cL x1 x2 x3) 3 true=(dO1 x1 x2 x3).map (fun(⟨n,o⟩:(aA Bool)×(aA YS))=>((.tup [.own 3,.own 4],((4,.lst 4 1 false (I cB n))::(3,.lst 192 9 false (I YS.g o))::cL x1 x2 x3),5))):=by
 rw[xd (fn:=p94) rfl];refine bz lm ?_;refine bo (aL (S:=Int×(aA Bool)×(aA YS)) (enc:=fun⟨f,b,c⟩=>(Q [(0,.ref 1 0),(4,.own 3),(5,.own 4),(17,.is 7 (I YN.g x2.bY)),(18,i64 (x2.bY.length:Int)),(19,i64 f)] ((4,.lst 4 1 false (I cB b))::(3,.lst 192 9 false (I YS.g c))::cL x1 x2 x3))) (encE:=(fun(⟨j,l⟩:(aA Bool)×(aA YS))=>(xq 0 [(4,.own 3),(5,.own 4)] ((4,.lst 4 1 false (I cB j))::(3,.lst 192 9 false (I YS.g l))::cL x1 x2 x3)))) (fun⟨f,b,c⟩=>?_) bN (0,[],[])) fun⟨j,l⟩=>?_;refine ig fun a=>?_;refine bo (pN1 d (YK.mk x2 x3 x1) a.gZ) fun⟨h,p⟩=>?_;refine bo (pN1 d (YK.mk x2 x3 x1) a.To) fun⟨i,q⟩=>?_;refine bo (cG false YS.g c [(YS.mk a.dD h i)]) fun r=>?_;refine bz (gM rfl) ?_;refine bo (e:=id) ?_ fun m=>?_;refine io rfl ?_;refine bo (aN2 (d+11) (YS.mk a.dD h i)) fun s=>?_;rfl;refine bo (cG false cB b [m]) fun t=>?_;rfl;rfl
def dP1 (x1:aA YV) (x2:Y0) (x3:Int):aB (aA YV):=
 (dO1 x1 x2 x3).bind fun⟨x4,h⟩=>(aZ (E:=aA YV) (fun(⟨a,b⟩:Int×(aA YV))=>if decide (a<(x2.bY.length:Int))then(bB x2.bY a).bind fun c=>(dA x4 a).bind fun d=>(eL x4 d).bind fun e=>(kO e c.ID b x2 x3).bind fun f=>some (.inl ((bF (a+1)),f))else some (.inr b)) bN (0,x1)).bind fun g=>some g
theorem aO2 [IR] {k} (d) (x1:aA YV) (x2:Y0) (x3:Int):eD (XD k (d+17)) 43 [.ref 1 0] (cL x1 x2 x3) 3 false=(dP1 x1 x2 x3).map (fun(i:aA YV)=>((.tup [],(cL i x2 x3),0))):=by
 rw[xd (fn:=p43) rfl];refine bo (pR1 d x1 x2 x3) fun⟨x4,j⟩=>?_;refine bz lm ?_;refine bo (aL (S:=Int×(aA YV)) (enc:=fun⟨e,a⟩=>(Q [(0,.ref 1 0),(3,.own 4),(15,.is 7 (I YN.g x2.bY)),(16,i64 (x2.bY.length:Int)),(17,i64 e)] ((4,.lst 4 1 false (I cB x4))::(3,.lst 192 9 false (I YS.g j))::cL a x2 x3))) (encE:=(fun(f:aA YV)=>(xq 0 [] ((4,.lst 4 1 false (I cB x4))::(3,.lst 192 9 false (I YS.g j))::cL f x2 x3)))) (fun⟨e,a⟩=>?_) bN (0,x1)) fun f=>?_;refine ig fun h=>?_;refine bo (bM cB x4 _) fun l=>?_;refine bo (cV (A:=Bool) (c:=cB) (g:=fun b=>bv b) (fun _=>rfl) x4 _) fun b=>?_;refine bo (iS (d+15) b h.ID a x2 x3) fun m=>?_;rfl;rfl
def Xw (x1:Int):aB Int:=
 if(decide (x1<1))||(decide (x1>7))then some 0 else(bB [1,2,2,4,4,6,7] (bF (x1-1))).bind fun x2=>some x2
theorem dQ1 [IR] {k} (d) (x1:Int):OD k (d+1) 193 [i64 x1]=(Xw x1).map i64:=by
 refine oe rfl ?_;refine bz (gM rfl) ?_;refine io rfl ?_;refine bo (tL .i64 [1,2,2,4,4,6,7] (bF (x1-1)) rfl) fun x2=>?_;rfl
def lN1 (x1 x2:YS):aB Bool:=
 (Xw x1.dD).bind fun x3=>((if decide (x3>0)then(Xw x1.dD).bind fun x4=>(Xw x2.dD).bind fun a=>some (x4==a)else some false:aB (Bool))).bind fun b=>((if b&&(x1.gZ.bS==x2.gZ.bS)then(dN1 x1.dD).bind fun c=>some ((!c)||(x1.gZ.bU==x2.gZ.bU))else some false:aB (Bool))).bind fun d=>some d
theorem aP2 [IR] {k} (d) (x1 x2:YS):OD k (d+2) 152 [.agg (YS.g x1),.agg (YS.g x2)]=(lN1 x1 x2).map bv:=by
 refine oe rfl ?_;refine bo (dQ1 d x1.dD) fun x3=>?_;refine bo (e:=id) ?_ fun b=>?_;refine io ?_ rfl;refine bo (dQ1 d x1.dD) fun x4=>?_;refine bo (dQ1 d x2.dD) fun a=>?_;rfl;refine bz (fW rfl) ?_;refine bo (e:=id) ?_ fun f=>?_;refine io ?_ rfl;refine bo (pP1 d x1.dD) fun c=>?_;refine bz (gM rfl) ?_;rfl;rfl
def lO1 (x1 x2:YS):aB Bool:=
 (Ep x1.To x2.gZ).bind fun x3=>((if decide (x3<0)then some true else(Ep x2.To x1.gZ).bind fun x4=>some (decide (x4<0)):aB (Bool))).bind fun a=>some a
theorem aQ2 [IR] {k} (d) (x1 x2:YS):OD k (d+4) 156 [.agg (YS.g x1),.agg (YS.g x2)]=(lO1 x1 x2).map bv:=by
 refine oe rfl ?_;refine bo (Cy d x1.To x2.gZ) fun x3=>?_;refine bo (e:=id) ?_ fun a=>?_;refine io rfl ?_;refine bo (Cy d x2.To x1.gZ) fun x4=>?_;rfl;rfl
def Xx (x1 x2:YS):aB Bool:=
 (lO1 x1 x2).bind fun x3=>some (!x3)
theorem dR1 [IR] {k} (d) (x1 x2:YS):OD k (d+5) 155 [.agg (YS.g x1),.agg (YS.g x2)]=(Xx x1 x2).map bv:=by
 refine oe rfl ?_;refine bo (aQ2 d x1 x2) fun x3=>?_;rfl
def dS1 (x1 x2:YS):aB Bool:=
 (Ep x1.To x2.gZ).bind fun x3=>((if decide (x3<=0)then some true else(Ep x2.To x1.gZ).bind fun x4=>some (decide (x4<=0)):aB (Bool))).bind fun a=>some a
theorem pS1 [IR] {k} (d) (x1 x2:YS):OD k (d+4) 154 [.agg (YS.g x1),.agg (YS.g x2)]=(dS1 x1 x2).map bv:=by
 refine oe rfl ?_;refine bo (Cy d x1.To x2.gZ) fun x3=>?_;refine bo (e:=id) ?_ fun a=>?_;refine io rfl ?_;refine bo (Cy d x2.To x1.gZ) fun x4=>?_;rfl;rfl
def Xy (x1 x2:YS):aB Bool:=
 (dS1 x1 x2).bind fun x3=>some (!x3)
theorem dT1 [IR] {k} (d) (x1 x2:YS):OD k (d+5) 153 [.agg (YS.g x1),.agg (YS.g x2)]=(Xy x1 x2).map bv:=by
 refine oe rfl ?_;refine bo (pS1 d x1 x2) fun x3=>?_;rfl
def dU1 (x1 x2:YS):aB Bool:=
 (Ep x1.gZ x2.gZ).bind fun x3=>((if decide (x3>=0)then(Ep x1.To x2.To).bind fun x4=>some (decide (x4<=0))else some false:aB (Bool))).bind fun a=>some a
theorem pT1 [IR] {k} (d) (x1 x2:YS):OD k (d+4) 194 [.agg (YS.g x1),.agg (YS.g x2)]=(dU1 x1 x2).map bv:=by
 refine oe rfl ?_;refine bo (Cy d x1.gZ x2.gZ) fun x3=>?_;refine bo (e:=id) ?_ fun a=>?_;refine io ?_ rfl;refine bo (Cy d x1.To x2.To) fun x4=>?_;rfl;rfl
def lP1 (x1 x2:YS):aB Bool:=
 (dS1 x1 x2).bind fun x3=>((if !x3 then(dU1 x1 x2).bind fun x4=>(dU1 x2 x1).bind fun a=>some ((x4==a)!=false)else some false:aB (Bool))).bind fun b=>some b
theorem aR2 [IR] {k} (d) (x1 x2:YS):OD k (d+5) 157 [.agg (YS.g x1),.agg (YS.g x2)]=(lP1 x1 x2).map bv:=by
 refine oe rfl ?_;refine bo (pS1 d x1 x2) fun x3=>?_;refine bo (e:=id) ?_ fun b=>?_;refine io ?_ rfl;refine bo (pT1 d x1 x2) fun x4=>?_;refine bo (pT1 d x2 x1) fun a=>?_;rfl;rfl
def F95 (x1 x2:YS):aB Bool:=
 (lN1 x1 x2).bind fun x3=>if !x3 then some false else if(bF (x1.dD-1))==6 then(Xx x1 x2).bind fun x4=>some x4 else if(bF (x1.dD-1))==5 then(Xy x1 x2).bind fun b=>some b else if(bF (x1.dD-1))==4 then(Xx x1 x2).bind fun c=>some c else if(bF (x1.dD-1))==3 then(Xx x1 x2).bind fun d=>some d else if(bF (x1.dD-1))==2 then(Xy x1 x2).bind fun e=>some e else if(bF (x1.dD-1))==1 then(Xy x1 x2).bind fun f=>some f else if(bF (x1.dD-1))==0 then(lP1 x1 x2).bind fun a=>some a else none
theorem lN2 [IR] {k} (d) (x1 x2:YS):OD k (d+6) 95 [.agg (YS.g x1),.agg (YS.g x2)]=(F95 x1 x2).map bv:=by
 refine oe rfl ?_;refine bo (aP2 (d+3) x1 x2) fun x3=>?_;refine io rfl ?_;refine io ?_ ?_;refine bo (dR1 d x1 x2) fun x4=>?_;rfl;refine io ?_ ?_;refine bo (dT1 d x1 x2) fun b=>?_;rfl;refine io ?_ ?_;refine bo (dR1 d x1 x2) fun c=>?_;rfl;refine io ?_ ?_;refine bo (dR1 d x1 x2) fun e=>?_;rfl;refine io ?_ ?_;refine bo (dT1 d x1 x2) fun f=>?_;rfl;refine io ?_ ?_;refine bo (dT1 d x1 x2) fun h=>?_;rfl;refine io ?_ ?_;refine bo (aR2 d x1 x2) fun a=>?_;rfl;rfl
def dV1 (x1:aA YV) (x2:Y0) (x3:Int):aB (aA YV):=
 (dO1 x1 x2 x3).bind fun⟨x4,e⟩=>(aZ (E:=aA YV) (fun(⟨a,c⟩:Int×(aA YV))=>if decide (a<(x2.bY.length:Int))then(bB x2.bY a).bind fun f=>(aZ (E:=Bool) (fun(⟨d,b⟩:Bool×Int)=>((if decide (b<a)then(dA x4 a).bind fun g=>(eL x4 g).bind fun h=>some (!h)else some false:aB (Bool))).bind fun i=>if i&&(!d)then(dA x4 b).bind fun j=>(eL x4 j).bind fun k=>((if !k then(dA e b).bind fun l=>(eL e l).bind fun m=>(dA e a).bind fun n=>(eL e n).bind fun o=>(F95 m o).bind fun p=>some p else some false:aB (Bool))).bind fun q=>some (.inl (q,(bF (b+1))))else some (.inr d)) bN (false,0)).bind fun r=>(kO r f.ID c x2 x3).bind fun s=>some (.inl ((bF (a+1)),s))else some (.inr c)) bN (0,x1)).bind fun t=>some t
theorem aS2 [IR] {k} (d) (x1:aA YV) (x2:Y0) (x3:Int):eD (XD k (d+17)) 44 [.ref 1 0] (cL x1 x2 x3) 3 false=(dV1 x1 x2 x3).map (fun(s:aA YV)=>((.tup [],(cL s x2 x3),0))):=by
 rw[xd (fn:=p44) rfl];refine bo (pR1 d x1 x2 x3) fun⟨x4,i⟩=>?_;refine bz lm ?_;refine bo (aL (S:=Int×(aA YV)) (enc:=fun⟨f,h⟩=>(Q [(0,.ref 1 0),(2,.own 3),(3,.own 4),(17,.is 7 (I YN.g x2.bY)),(18,i64 (x2.bY.length:Int)),(19,i64 f)] ((4,.lst 4 1 false (I cB x4))::(3,.lst 192 9 false (I YS.g i))::cL h x2 x3))) (encE:=(fun(r:aA YV)=>(xq 0 [] ((4,.lst 4 1 false (I cB x4))::(3,.lst 192 9 false (I YS.g i))::cL r x2 x3)))) (fun⟨f,h⟩=>?_) bN (0,x1)) fun r=>?_;refine ig fun j=>?_;refine bo (aL (S:=Bool×Int) (enc:=fun⟨n,o⟩=>(Q [(0,.ref 1 0),(2,.own 3),(3,.own 4),(4,i64 f),(5,.ref 5 0),(6,bv n),(7,i64 o),(17,.is 7 (I YN.g x2.bY)),(18,i64 (x2.bY.length:Int)),(19,i64 f)] ((5,.box (YN.g j))::(4,.lst 4 1 false (I cB x4))::(3,.lst 192 9 false (I YS.g i))::cL h x2 x3))) (encE:=(fun(l:Bool)=>(xq 2 [(0,.ref 1 0),(2,.own 3),(3,.own 4),(5,.ref 5 0),(6,bv l),(17,.is 7 (I YN.g x2.bY)),(18,i64 (x2.bY.length:Int)),(19,i64 f)] ((5,.box (YN.g j))::(4,.lst 4 1 false (I cB x4))::(3,.lst 192 9 false (I YS.g i))::cL h x2 x3)))) (fun⟨n,o⟩=>?_) bN (false,0)) fun l=>?_;refine bo (e:=id) ?_ fun u=>?_;refine io ?_ rfl;refine bo (bM cB x4 _) fun t=>?_;refine bo (cV (A:=Bool) (c:=cB) (g:=fun p=>bv p) (fun _=>rfl) x4 _) fun p=>?_;rfl;refine bz (fW rfl) ?_;refine io ?_ rfl;refine bo (bM cB x4 _) fun v=>?_;refine bo (cV (A:=Bool) (c:=cB) (g:=fun q=>bv q) (fun _=>rfl) x4 _) fun q=>?_;refine bo (e:=id) ?_ fun z=>?_;refine io ?_ rfl;refine bo (bM YS.g i _) fun w=>?_;refine bo (cS (A:=YS) (c:=YS.g) (m:=9) (g:=fun a=>[i64 a.dD,i64 a.gZ.aY,i64 a.gZ.At,i64 a.gZ.bS,i64 a.gZ.bU,i64 a.To.aY,i64 a.To.At,i64 a.To.bS,i64 a.To.bU]) (fun _=>⟨rfl,rfl⟩) (wV2 rfl) i _) fun a=>?_;refine bo (bM YS.g i _) fun x=>?_;refine bo (cS (A:=YS) (c:=YS.g) (m:=9) (g:=fun b=>[i64 b.dD,i64 b.gZ.aY,i64 b.gZ.At,i64 b.gZ.bS,i64 b.gZ.bU,i64 b.To.aY,i64 b.To.At,i64 b.To.bS,i64 b.To.bU]) (fun _=>⟨rfl,rfl⟩) (wV2 rfl) i _) fun b=>?_;refine bo (lN2 (d+10) a b) fun y=>?_;rfl;rfl;refine bo (iS (d+15) l j.ID h x2 x3) fun B=>?_;rfl;rfl
def F96 (x1:Int) (x2:YM):aB Bool:=
 ((if x2.aW !=0 then(zS x2.aW 2 8).bind fun x3=>some (!x3)else some false:aB (Bool))).bind fun x4=>((if x4 then some true else(zS x2.aN 0 255).bind fun a=>some (!a):aB (Bool))).bind fun b=>some b
theorem lO2 [IR] {k} (d) (x1:Int) (x2:YM):OD k (d+2) 96 [i64 x1,.agg (YM.g x2)]=(F96 x1 x2).map bv:=by
 refine oe rfl ?_;refine bo (e:=id) ?_ fun x4=>?_;refine io ?_ rfl;refine bo (rE d x2.aW 2 8) fun x3=>?_;rfl;refine bo (e:=id) ?_ fun b=>?_;refine io rfl ?_;refine bo (rE d x2.aN 0 255) fun a=>?_;rfl;rfl
def xG (x1:aA YV) (x2:Y0) (x3:Int):aB (aA YV):=
 (aZ (E:=aA YV) (fun(⟨a,e⟩:Int×(aA YV))=>if decide (a<(x2.aD.length:Int))then(bB x2.aD a).bind fun f=>(F96 a f).bind fun b=>(kO b f.ID e x2 x3).bind fun c=>some (.inl ((bF (a+1)),c))else some (.inr e)) bN (0,x1)).bind fun d=>some d
theorem lQ1 [IR] {k} (d) (x1:aA YV) (x2:Y0) (x3:Int):eD (XD k (d+3)) 68 [.ref 1 0,.fn 96 [] []] (cL x1 x2 x3) 3 false=(xG x1 x2 x3).map (fun(c:aA YV)=>((.tup [],(cL c x2 x3),0))):=by
 rw[xd (fn:=p68) rfl];refine bz lm ?_;refine bo (aL (S:=Int×(aA YV)) (enc:=fun⟨e,f⟩=>(Q [(0,.ref 1 0),(1,.fn 96 [] []),(10,.is 22 (I YM.g x2.aD)),(11,i64 (x2.aD.length:Int)),(12,i64 e)] (cL f x2 x3))) (encE:=(fun(a:aA YV)=>(xq 0 [] (cL a x2 x3)))) (fun⟨e,f⟩=>?_) bN (0,x1)) fun a=>?_;refine ig fun h=>?_;refine bo (lO2 d e h) fun b=>?_;refine bo (iS (d+1) b h.ID f x2 x3) fun i=>?_;rfl;rfl
def lR1 (x1:Int):aB Int:=
 ((if decide (x1>=4294967296)then(mB .u64 x1 32).bind fun x2=>some (x2,32)else some (x1,0):aB (Int×Int))).bind fun⟨x3,x4⟩=>((if decide (x3>=65536)then(mB .u64 x3 16).bind fun e=>some (e,(bF (x4+16)))else some (x3,x4):aB (Int×Int))).bind fun⟨c,d⟩=>((if decide (c>=256)then(mB .u64 c 8).bind fun f=>some (f,(bF (d+8)))else some (c,d):aB (Int×Int))).bind fun⟨g,a⟩=>(qS (⟨#[0,1,2,2,3,3,3,3,4,4,4,4,4,4,4,4,5,5,5,5,5,5,5,5,5,5,5,5,5,5,5,5,6,6,6,6,6,6,6,6,6,6,6,6,6,6,6,6,6,6,6,6,6,6,6,6,6,6,6,6,6,6,6,6,7,7,7,7,7,7,7,7,7,7,7,7,7,7,7,7,7,7,7,7,7,7,7,7,7,7,7,7,7,7,7,7,7,7,7,7,7,7,7,7,7,7,7,7,7,7,7,7,7,7,7,7,7,7,7,7,7,7,7,7,7,7,7,7,8,8,8,8,8,8,8,8,8,8,8,8,8,8,8,8,8,8,8,8,8,8,8,8,8,8,8,8,8,8,8,8,8,8,8,8,8,8,8,8,8,8,8,8,8,8,8,8,8,8,8,8,8,8,8,8,8,8,8,8,8,8,8,8,8,8,8,8,8,8,8,8,8,8,8,8,8,8,8,8,8,8,8,8,8,8,8,8,8,8,8,8,8,8,8,8,8,8,8,8,8,8,8,8,8,8,8,8,8,8,8,8,8,8,8,8,8,8,8,8,8,8,8,8,8,8,8,8]⟩:ByteArray) (IntKind.wrap .u8 (g))).bind fun b=>some (bF (a+(bF (b))))
theorem aT2 [IR] {k} (d) (x1:Int):OD k (d+1) 202 [.v (.int .u64 x1)]=(lR1 x1).map i64:=by
 refine oe rfl ?_;refine bo (e:=(fun(⟨x3,x4⟩:Int×Int)=>(nq [(0,.v (.int .u64 x3)),(2,i64 x4)] []))) ?_ fun⟨x3,x4⟩=>?_;refine io ?_ rfl;refine bo oi fun x2=>?_;rfl;refine bo (e:=(fun(⟨b,c⟩:Int×Int)=>(nq [(0,.v (.int .u64 b)),(2,i64 c)] []))) ?_ fun⟨b,c⟩=>?_;refine io ?_ rfl;refine bo oi fun h=>?_;rfl;refine bo (e:=(fun(⟨f,a⟩:Int×Int)=>(nq [(0,.v (.int .u64 f)),(2,i64 a)] []))) ?_ fun⟨f,a⟩=>?_;refine io ?_ rfl;refine bo oi fun i=>?_;rfl;refine bo oi fun g=>?_;rfl
def Cz (x1:Int):aB Int:=
 (lR1 x1).bind fun x2=>some x2
theorem Uf [IR] {k} (d) (x1:Int):OD k (d+2) 195 [.v (.int .u64 x1)]=(Cz x1).map i64:=by
 refine oe rfl ?_;refine bo (aT2 d x1) fun x2=>?_;rfl
def Yt (x1:YG):aB Bool:=
 ((if decide (x1.passes>0)then(bZ1 .i64 1 (bF (x1.passes-1))).bind fun x2=>some (x1.ending==x2)else some false:aB (Bool))).bind fun x3=>some x3
theorem Xz [IR] {k} (d) (x1:YG):OD k (d+1) 98 [.agg (YG.g x1)]=(Yt x1).map bv:=by
 refine oe rfl ?_;refine bo (e:=id) ?_ fun x3=>?_;refine io ?_ rfl;refine bo oi fun x2=>?_;rfl;rfl
def dW1 (x1:YG) (x2:YM):aB (YG×Bool):=
 if x2.dG||(x1.body==0)then some (x1,false)else if x2.aN !=x1.ending then if((x1.ending !=0)&&(!x1.ended))||((dU .i64 x2.aN x1.used)!=0)then some (x1,false)else(Cz (IntKind.wrap .u64 (x2.aN))).bind fun x3=>if x1.passes==0 then if((dU .i64 x2.aN 1)==0)||(decide ((bF (x3-1))>6))then some ((YG.mk x1.started x1.body (ior .i64 x1.used x2.aN) x2.aN false x1.passes),false)else if x2.aW !=0 then(Yt (YG.mk x1.started x1.body (ior .i64 x1.used x2.aN) x2.aN false x1.passes)).bind fun x4=>((if x4||((x1.passes !=0)&&(x2.aW !=x1.passes))then some true else(Cz (IntKind.wrap .u64 (x2.aN))).bind fun i=>some (decide (i>=x2.aW)):aB (Bool))).bind fun j=>if j then some ((YG.mk x1.started x1.body (ior .i64 x1.used x2.aN) x2.aN false x1.passes),false)else some ((YG.mk x1.started x1.body (ior .i64 x1.used x2.aN) x2.aN true x2.aW),true)else some ((YG.mk x1.started x1.body (ior .i64 x1.used x2.aN) x2.aN false x1.passes),true)else((if decide ((bF (x3-1))>=x1.passes)then some true else((if(bF (x3-1))==(bF (x1.passes-1))then(Yt (YG.mk x1.started x1.body (ior .i64 x1.used x2.aN) x2.aN false x1.passes)).bind fun k=>((if !k then some true else(bZ1 .i64 1 x1.passes).bind fun l=>some ((ior .i64 x1.used x2.aN)!=(bF (l-1))):aB (Bool))).bind fun m=>some m else some false:aB (Bool))).bind fun a=>some a:aB (Bool))).bind fun b=>if b then some ((YG.mk x1.started x1.body (ior .i64 x1.used x2.aN) x2.aN false x1.passes),false)else if x2.aW !=0 then(Yt (YG.mk x1.started x1.body (ior .i64 x1.used x2.aN) x2.aN false x1.passes)).bind fun c=>((if c||((x1.passes !=0)&&(x2.aW !=x1.passes))then some true else(Cz (IntKind.wrap .u64 (x2.aN))).bind fun d=>some (decide (d>=x2.aW)):aB (Bool))).bind fun e=>if e then some ((YG.mk x1.started x1.body (ior .i64 x1.used x2.aN) x2.aN false x1.passes),false)else some ((YG.mk x1.started x1.body (ior .i64 x1.used x2.aN) x2.aN true x2.aW),true)else some ((YG.mk x1.started x1.body (ior .i64 x1.used x2.aN) x2.aN false x1.passes),true)else if x1.ended then some (x1,false)else if x2.aW !=0 then(Yt x1).bind fun f=>((if f||((x1.passes !=0)&&(x2.aW !=x1.passes))then some true else(Cz (IntKind.wrap .u64 (x1.ending))).bind fun g=>some (decide (g>=x2.aW)):aB (Bool))).bind fun h=>if h then some (x1,false)else some ((YG.mk x1.started x1.body x1.used x1.ending true x2.aW),true)else some (x1,true)
theorem aU2 [IR] {k} (d) (x1:YG) (x2:YM):OD k (d+3) 158 [.agg (YG.g x1),.agg (YM.g x2)]=(dW1 x1 x2).map (fun⟨m,n⟩=>.tup [.agg (YG.g m),bv n]):=by
 refine oe rfl ?_;refine bz (gM rfl) ?_;refine io rfl ?_;refine io ?_ ?_;refine bz (fW rfl) ?_;refine bz (gM rfl) ?_;refine io rfl ?_;refine bo (Uf d (IntKind.wrap .u64 (x2.aN))) fun x3=>?_;refine io ?_ ?_;refine bz (gM rfl) ?_;refine io rfl ?_;refine io ?_ rfl;refine bo (Xz (d+1) (YG.mk x1.started x1.body (ior .i64 x1.used x2.aN) x2.aN false x1.passes)) fun x4=>?_;refine bz (gM (bz (fW rfl) rfl)) ?_;refine bo (e:=id) ?_ fun p=>?_;refine io rfl ?_;refine bo (Uf d (IntKind.wrap .u64 (x2.aN))) fun o=>?_;rfl;refine io rfl rfl;refine bo (e:=id) ?_ fun b=>?_;refine io rfl ?_;refine bo (e:=id) ?_ fun a=>?_;refine io ?_ rfl;refine bo (Xz (d+1) (YG.mk x1.started x1.body (ior .i64 x1.used x2.aN) x2.aN false x1.passes)) fun q=>?_;refine bo (e:=id) ?_ fun s=>?_;refine io rfl ?_;refine bo oi fun r=>?_;rfl;rfl;rfl;refine io rfl ?_;refine io ?_ rfl;refine bo (Xz (d+1) (YG.mk x1.started x1.body (ior .i64 x1.used x2.aN) x2.aN false x1.passes)) fun c=>?_;refine bz (gM (bz (fW rfl) rfl)) ?_;refine bo (e:=id) ?_ fun h=>?_;refine io rfl ?_;refine bo (Uf d (IntKind.wrap .u64 (x2.aN))) fun f=>?_;rfl;refine io rfl rfl;refine io rfl ?_;refine io ?_ rfl;refine bo (Xz (d+1) x1) fun i=>?_;refine bz (gM (bz (fW rfl) rfl)) ?_;refine bo (e:=id) ?_ fun l=>?_;refine io rfl ?_;refine bo (Uf d (IntKind.wrap .u64 (x1.ending))) fun j=>?_;rfl;refine io rfl rfl
def F97 (x1:YG) (x2:YM):aB (YG×Bool):=
 if x2.aN !=0 then(dW1 x1 x2).bind fun⟨x3,x4⟩=>some (x3,x4)else if x1.ending !=0 then(Yt x1).bind fun c=>if !c then some (x1,false)else if x2.dG then if false then some ((YG.mk false 0 0 0 false 0),false)else((if x2.aW !=0 then some (false,0)else some (true,1):aB (Bool×Int))).bind fun⟨d,e⟩=>some ((YG.mk d e 0 0 false 0),true)else((if x2.aW !=0 then some 0 else some 1:aB (Int))).bind fun f=>some ((YG.mk false f 0 0 false 0),true)else if x2.dG then if x1.started then some (x1,false)else((if x2.aW !=0 then some (false,0)else some (true,1):aB (Bool×Int))).bind fun⟨g,a⟩=>some ((YG.mk g a 0 0 false 0),true)else((if x2.aW !=0 then some (YG.mk false 0 0 0 false 0)else some (YG.mk x1.started (bF (x1.body+1)) x1.used x1.ending x1.ended x1.passes):aB (YG))).bind fun b=>some (b,true)
theorem lP2 [IR] {k} (d) (x1:YG) (x2:YM):OD k (d+4) 97 [.agg (YG.g x1),.agg (YM.g x2)]=(F97 x1 x2).map (fun⟨j,l⟩=>.tup [.agg (YG.g j),bv l]):=by
 refine oe rfl ?_;refine io ?_ ?_;refine bo (aU2 d x1 x2) fun⟨x3,x4⟩=>?_;rfl;refine io ?_ ?_;refine bo (Xz (d+2) x1) fun m=>?_;refine io rfl ?_;refine io ?_ ?_;refine io rfl ?_;refine bo (e:=(fun(⟨c,f⟩:Bool×Int)=>(nq Tx [jB1,(1,.box (YM.g x2)),(0,.box [bv c,i64 f,i64 0,i64 0,bv false,i64 0])]))) ?_ fun⟨c,f⟩=>?_;refine io rfl rfl;rfl;refine bo (e:=(fun(h:Int)=>(nq Tx [jB1,(1,.box (YM.g x2)),(0,.box [bv false,i64 h,i64 0,i64 0,bv false,i64 0])]))) ?_ fun h=>?_;refine io rfl rfl;rfl;refine io ?_ ?_;refine io rfl ?_;refine bo (e:=(fun(⟨i,a⟩:Bool×Int)=>(nq Tx [jB1,(1,.box (YM.g x2)),(0,.box [bv i,i64 a,i64 0,i64 0,bv false,i64 0])]))) ?_ fun⟨i,a⟩=>?_;refine io rfl rfl;rfl;refine bo (e:=(fun(b:YG)=>(nq Tx [jB1,(1,.box (YM.g x2)),(0,.box (YG.g b))]))) ?_ fun b=>?_;refine io rfl rfl;rfl
def Qv (x1:aA YV) (x2:Y0) (x3:Int):aB (aA YV):=
 (xG x1 x2 x3).bind fun x4=>if decide ((x4.length:Int)>(x1.length:Int))then some x4 else(aZ (E:=(YG×(aA YV))⊕YG) (fun(⟨l,a⟩:Int×YG)=>if decide (l<(x2.aD.length:Int))then(bB x2.aD l).bind fun b=>(F97 a b).bind fun⟨c,d⟩=>if !d then(kO true b.ID x4 x2 x3).bind fun e=>some (.inr (.inl (c,e)))else some (.inl ((bF (l+1)),c))else some (.inr (.inr a))) bN (0,(YG.mk false 0 0 0 false 0))).bind fun f=>(match f with|.inl ⟨x15,x16⟩=>some x16|.inr x17=>((if x17.started&&(x17.ending==0)then some true else((if x17.ending !=0 then(Yt x17).bind fun g=>some (!g)else some false:aB (Bool))).bind fun h=>some h:aB (Bool))).bind fun i=>(bB x2.aD (bF ((x2.aD.length:Int)-1))).bind fun j=>(kO i j.ID x4 x2 x3).bind fun k=>some k)
theorem aV2 [IR] {k} (d) (x1:aA YV) (x2:Y0) (x3:Int):eD (XD k (d+5)) 45 [.ref 1 0] (cL x1 x2 x3) 3 false=(Qv x1 x2 x3).map (fun(l:aA YV)=>((.tup [],(cL l x2 x3),0))):=by
 rw[xd (fn:=p45) rfl];refine bz (dE YV.g x1) ?_;refine bo (lQ1 (d+1) x1 x2 x3) fun x4=>?_;refine bz (dE YV.g x4) ?_;refine io rfl ?_;refine bz lm ?_;refine bo (aL (S:=Int×YG) (enc:=fun⟨m,a⟩=>(Q [(0,.ref 1 0),(3,.ref 3 0),(26,.is 22 (I YM.g x2.aD)),(27,i64 (x2.aD.length:Int)),(28,i64 m)] ((3,.box (YG.g a))::cL x4 x2 x3))) (encE:=(fun|.inl ⟨c,f⟩=>(rq [(3,.ref 3 0)] ((3,.box (YG.g c))::cL f x2 x3))|.inr x17=>(xq 0 [(0,.ref 1 0),(3,.ref 3 0)] ((3,.box (YG.g x17))::cL x4 x2 x3)))) (fun⟨m,a⟩=>?_) bN (0,(YG.mk false 0 0 0 false 0))) fun h=>?_;refine ig fun b=>?_;refine bo (lP2 d a b) fun⟨n,o⟩=>?_;refine io ?_ rfl;refine bo (iS (d+3) true b.ID x4 x2 x3) fun p=>?_;rfl;rcases h with⟨c,f⟩|x17;rfl;refine bz (fW rfl) ?_;refine bo (e:=id) ?_ fun i=>?_;refine io rfl ?_;refine bo (e:=id) ?_ fun r=>?_;refine io ?_ rfl;refine bo (Xz (d+3) x17) fun q=>?_;rfl;rfl;refine bz lm ?_;refine bo rg fun j=>?_;refine bo (iS (d+3) i j.ID x4 x2 x3) fun s=>?_;rfl
def dX1 (x1 x2:YM):aB Bool:=
 some (((x2.hU !=0)&&(x1.hU !=0))||((dU .i64 x2.cZ x1.cZ)!=0))
theorem aW2 [IR] {k} (d) (x1 x2:YM):OD k (d+1) 100 [.agg (YM.g x1),.ip (YM.g x2)]=(dX1 x1 x2).map bv:=by
 refine oe rfl ?_;refine bz (fW rfl) ?_;refine bz (gM rfl) ?_;rfl
def dY1 (x1:aA YM) (x2:YM):aB Int:=
 (aZ (E:=Int⊕Unit) (fun(a:Int)=>if decide (a<(x1.length:Int))then(bB x1 a).bind fun b=>(dX1 b x2).bind fun c=>if c then some (.inr (.inl a))else some (.inl (bF (a+1)))else some (.inr (.inr ()))) bN 0).bind fun d=>(match d with|.inl x8=>some x8|.inr _=>some (-1))
theorem aX2 [IR] {k} (d) (x1:aA YM) (x2:YM):OD k (d+2) 159 [.is 22 (I YM.g x1),.fn 100 [] [.ip (YM.g x2)]]=(dY1 x1 x2).map i64:=by
 refine oe rfl ?_;refine bz lm ?_;refine bo (aL (S:=Int) (enc:=fun a=>(Q [(0,.is 22 (I YM.g x1)),(1,.fn 100 [] [.ip (YM.g x2)]),(7,i64 (x1.length:Int)),(8,i64 a)] [])) (encE:=(fun|.inl b=>(rq [(4,i64 b)] [])|.inr _=>(xq 0 [] []))) (fun a=>?_) bN 0) fun e=>?_;refine ig fun c=>?_;refine bo (aW2 d c x2) fun f=>?_;refine io rfl rfl;rcases e with b|_;rfl;rfl
def dZ1 (x1:aA YM) (x2:YM):aB Bool:=
 (dY1 x1 x2).bind fun x3=>some (decide (x3>=0))
theorem aY2 [IR] {k} (d) (x1:aA YM) (x2:YM):OD k (d+3) 101 [.is 22 (I YM.g x1),.fn 100 [] [.ip (YM.g x2)]]=(dZ1 x1 x2).map bv:=by
 refine oe rfl ?_;refine bo (aX2 d x1 x2) fun x3=>?_;rfl
def eA1 (x1:YM) (x2:Int):aB Bool:=
 some ((dU .i64 x1.cZ x2)!=0)
theorem aZ2 [IR] {k} (d) (x1:YM) (x2:Int):OD k (d+1) 196 [.agg (YM.g x1),.ip [i64 x2]]=(eA1 x1 x2).map bv:=by
 refine oe rfl ?_;rfl
def xH (x1:aA YM) (x2:Int):aB Int:=
 (aZ (E:=Int⊕Unit) (fun(a:Int)=>if decide (a<(x1.length:Int))then(bB x1 a).bind fun b=>(eA1 b x2).bind fun c=>if c then some (.inr (.inl a))else some (.inl (bF (a+1)))else some (.inr (.inr ()))) bN 0).bind fun d=>(match d with|.inl x8=>some x8|.inr _=>some (-1))
theorem lS1 [IR] {k} (d) (x1:aA YM) (x2:Int):OD k (d+2) 159 [.is 22 (I YM.g x1),.fn 196 [] [.ip [i64 x2]]]=(xH x1 x2).map i64:=by
 refine oe rfl ?_;refine bz lm ?_;refine bo (aL (S:=Int) (enc:=fun a=>(Q [(0,.is 22 (I YM.g x1)),(1,.fn 196 [] [.ip [i64 x2]]),(7,i64 (x1.length:Int)),(8,i64 a)] [])) (encE:=(fun|.inl b=>(rq [(4,i64 b)] [])|.inr _=>(xq 0 [] []))) (fun a=>?_) bN 0) fun e=>?_;refine ig fun c=>?_;refine bo (aZ2 d c x2) fun f=>?_;refine io rfl rfl;rcases e with b|_;rfl;rfl
def Qw (x1:YK) (x2:Int):aB Int:=
 (xH x1.s'.aD x2).bind fun x3=>some x3
theorem eB1 [IR] {k} (d) (x1:YK) (x2:Int):OD k (d+3) 161 [.ip (YK.g x1),i64 x2]=(Qw x1 x2).map i64:=by
 refine oe rfl ?_;refine bo (lS1 d x1.s'.aD x2) fun x3=>?_;rfl
def Qx (x1:Int) (x2:YK) (x3:Int):aB Bool:=
 (Qw x2 x1).bind fun x4=>(zS x4 0 x3).bind fun a=>some a
theorem eC1 [IR] {k} (d) (x1:Int) (x2:YK) (x3:Int):OD k (d+4) 160 [i64 x1,.ip [.ip (YK.g x2)],.ip [i64 x3]]=(Qx x1 x2 x3).map bv:=by
 refine oe rfl ?_;refine bo (eB1 d x2 x1) fun x4=>?_;refine bo (rE (d+2) x4 0 x3) fun a=>?_;rfl
def eD1 (x1:YK) (x2:Int) (x3:Int):aB Bool:=
 ((if decide (x2>=4)then(Qx 1 x1 x3).bind fun x4=>some (!x4)else some false:aB (Bool))).bind fun d=>if d then some false else((if x2==2 then some (x2==2)else some (x2==5):aB (Bool))).bind fun e=>if e then(Qx 4 x1 x3).bind fun f=>some f else((if x2==3 then some (x2==3)else some (x2==6):aB (Bool))).bind fun g=>if g then(Qx 8 x1 x3).bind fun h=>((if h then(Qw x1 2).bind fun a=>(Qw x1 8).bind fun b=>some (decide (a>b))else some false:aB (Bool))).bind fun c=>some c else some true
theorem bA2 [IR] {k} (d) (x1:YK) (x2:Int) (x3:Int):OD k (d+5) 102 [.ip (YK.g x1),i64 x2,i64 x3]=(eD1 x1 x2 x3).map bv:=by
 refine oe rfl ?_;refine bo (e:=id) ?_ fun i=>?_;refine io ?_ rfl;refine bo (eC1 d 1 x1 x3) fun x4=>?_;rfl;refine io rfl ?_;refine bo (e:=(fun(a:Bool)=>(nq [(3,.ref 0 0),(7,.fn 160 [] [.ref 0 0,.ref 1 0]),(16,i64 x2),(17,bv a)] [(1,.box [i64 x3]),(0,.box [.ip (YK.g x1)])]))) ?_ fun a=>?_;refine io rfl rfl;refine io ?_ ?_;refine bo (eC1 d 4 x1 x3) fun j=>?_;rfl;refine bo (e:=(fun(b:Bool)=>(nq [(3,.ref 0 0),(7,.fn 160 [] [.ref 0 0,.ref 1 0]),(22,bv b)] [(1,.box [i64 x3]),(0,.box [.ip (YK.g x1)])]))) ?_ fun b=>?_;refine io rfl rfl;refine io ?_ rfl;refine bo (eC1 d 8 x1 x3) fun l=>?_;refine bo (e:=id) ?_ fun h=>?_;refine io ?_ rfl;refine bo (eB1 (d+1) x1 2) fun c=>?_;refine bo (eB1 (d+1) x1 8) fun f=>?_;rfl;rfl
def F99 (x1:Int) (x2:YM) (x3:YK):aB Bool:=
 (zS x2.hU 0 6).bind fun x4=>((if !x4 then some true else(zS x2.cZ 0 15).bind fun b=>some (!b):aB (Bool))).bind fun c=>if c||(((x2.hU !=0)||(x2.cZ !=0))&&((x2.aW !=0)||(x2.aN !=0)))then some true else(pI x3.s'.aD 0 x1).bind fun d=>(dZ1 d x2).bind fun e=>((if e then some true else(eD1 x3 x2.hU x1).bind fun f=>some (!f):aB (Bool))).bind fun a=>some a
theorem lQ2 [IR] {k} (d) (x1:Int) (x2:YM) (x3:YK):OD k (d+6) 99 [i64 x1,.agg (YM.g x2),.ip [.ip (YK.g x3)]]=(F99 x1 x2 x3).map bv:=by
 refine oe rfl ?_;refine bo (rE (d+4) x2.hU 0 6) fun x4=>?_;refine bo (e:=id) ?_ fun f=>?_;refine io rfl ?_;refine bo (rE (d+4) x2.cZ 0 15) fun c=>?_;rfl;refine bz (gM (bz (gM rfl) (bz (fW (bz (gM rfl) rfl)) rfl))) ?_;refine io rfl ?_;refine bo (vK _ _ _ _) fun b=>?_;refine bo (aY2 (d+2) b x2) fun h=>?_;refine bo (e:=id) ?_ fun a=>?_;refine io rfl ?_;refine bo (bA2 d x3 x2.hU x1) fun i=>?_;rfl;rfl
def Da (x1:aA YV) (x2:Y0) (x3:Int):aB (aA YV):=
 (aZ (E:=aA YV) (fun(⟨a,e⟩:Int×(aA YV))=>if decide (a<(x2.aD.length:Int))then(bB x2.aD a).bind fun f=>(F99 a f (YK.mk x2 x3 e)).bind fun b=>(kO b f.ID e x2 x3).bind fun c=>some (.inl ((bF (a+1)),c))else some (.inr e)) bN (0,x1)).bind fun d=>some d
theorem lT1 [IR] {k} (d) (x1:aA YV) (x2:Y0) (x3:Int):eD (XD k (d+7)) 68 [.ref 1 0,.fn 99 [] [.ref 3 0]] ((3,.box [.ref 1 0])::cL x1 x2 x3) 4 false=(Da x1 x2 x3).map (fun(e:aA YV)=>((.tup [],((3,.box [.ref 1 0])::cL e x2 x3),0))):=by
 rw[xd (fn:=p68) rfl];refine bz lm ?_;refine bo (aL (S:=Int×(aA YV)) (enc:=fun⟨f,b⟩=>(Q [(0,.ref 1 0),(1,.fn 99 [] [.ref 3 0]),(10,.is 22 (I YM.g x2.aD)),(11,i64 (x2.aD.length:Int)),(12,i64 f)] ((3,.box [.ref 1 0])::cL b x2 x3))) (encE:=(fun(a:aA YV)=>(xq 0 [] ((3,.box [.ref 1 0])::cL a x2 x3)))) (fun⟨f,b⟩=>?_) bN (0,x1)) fun a=>?_;refine ig fun h=>?_;refine bo (lQ2 d f h (YK.mk x2 x3 b)) fun c=>?_;refine bo (iS (d+5) c h.ID b x2 x3) fun i=>?_;rfl;rfl
def Qy (x1:aA YV) (x2:Y0) (x3:Int):aB (aA YV):=
 (Da x1 x2 x3).bind fun x4=>some x4
theorem bB2 [IR] {k} (d) (x1:aA YV) (x2:Y0) (x3:Int):eD (XD k (d+8)) 46 [.ref 1 0] (cL x1 x2 x3) 3 false=(Qy x1 x2 x3).map (fun(a:aA YV)=>((.tup [],(cL a x2 x3),0))):=by
 rw[xd (fn:=p46) rfl];refine bo (lT1 d x1 x2 x3) fun x4=>?_;rfl
def lU1 (x1:Int) (x2:YM):aB Bool:=
 (Dy x2).bind fun⟨x3,x4⟩=>((if x2.Oa !=0 then(zS x2.Oa 50 75).bind fun l=>some (!l)else some false:aB (Bool))).bind fun m=>((if m then some true else(zS x2.gJ1 0 3).bind fun n=>some (!n):aB (Bool))).bind fun o=>(aZ (E:=Bool) (fun(⟨c,a⟩:Bool×Int)=>if decide (a<(x2.kW.length:Int))then(bB x2.kW a).bind fun b=>((if c then some true else(zS b.At 0 (bF (x3-1))).bind fun d=>some (!d):aB (Bool))).bind fun e=>((if e then some true else(zS b.Rw 1 60000000).bind fun f=>some (!f):aB (Bool))).bind fun g=>((if g then some true else((if decide (a>0)then(bB x2.kW (bF (a-1))).bind fun h=>some (decide (b.At<=h.At))else some false:aB (Bool))).bind fun i=>some i:aB (Bool))).bind fun j=>some (.inl (j,(bF (a+1))))else some (.inr c)) bN (o,0)).bind fun k=>some k
theorem bC2 [IR] {k} (d) (x1:Int) (x2:YM):OD k (d+5) 103 [i64 x1,.agg (YM.g x2)]=(lU1 x1 x2).map bv:=by
 refine oe rfl ?_;refine bo (Is d x2) fun⟨x3,x4⟩=>?_;refine bo (e:=id) ?_ fun r=>?_;refine io ?_ rfl;refine bo (rE (d+3) x2.Oa 50 75) fun q=>?_;rfl;refine bo (e:=id) ?_ fun p=>?_;refine io rfl ?_;refine bo (rE (d+3) x2.gJ1 0 3) fun s=>?_;rfl;refine bz lm ?_;refine bo (aL (S:=Bool×Int) (enc:=fun⟨a,b⟩=>(Q [(3,.ref 0 0),(5,i64 x3),(7,bv a),(31,.is 3 (I YT.g x2.kW)),(32,i64 (x2.kW.length:Int)),(33,i64 b)] [(0,.box (YM.g x2))])) (encE:=(fun(f:Bool)=>(xq 0 [(7,bv f)] [(0,.box (YM.g x2))]))) (fun⟨a,b⟩=>?_) bN (p,0)) fun f=>?_;refine ig fun c=>?_;refine bo (e:=id) ?_ fun i=>?_;refine io rfl ?_;refine bo (rE (d+3) c.At 0 (bF (x3-1))) fun h=>?_;rfl;refine bo (e:=id) ?_ fun l=>?_;refine io rfl ?_;refine bo (rE (d+3) c.Rw 1 60000000) fun j=>?_;rfl;refine bo (e:=id) ?_ fun o=>?_;refine io rfl ?_;refine bo (e:=id) ?_ fun n=>?_;refine ig fun m=>?_;rfl;rfl;rfl;rfl
def Ji (x1:aA YV) (x2:Y0) (x3:Int):aB (aA YV):=
 (aZ (E:=aA YV) (fun(⟨a,e⟩:Int×(aA YV))=>if decide (a<(x2.aD.length:Int))then(bB x2.aD a).bind fun f=>(lU1 a f).bind fun b=>(kO b f.ID e x2 x3).bind fun c=>some (.inl ((bF (a+1)),c))else some (.inr e)) bN (0,x1)).bind fun d=>some d
theorem lV1 [IR] {k} (d) (x1:aA YV) (x2:Y0) (x3:Int):eD (XD k (d+6)) 68 [.ref 1 0,.fn 103 [] []] (cL x1 x2 x3) 3 false=(Ji x1 x2 x3).map (fun(c:aA YV)=>((.tup [],(cL c x2 x3),0))):=by
 rw[xd (fn:=p68) rfl];refine bz lm ?_;refine bo (aL (S:=Int×(aA YV)) (enc:=fun⟨e,f⟩=>(Q [(0,.ref 1 0),(1,.fn 103 [] []),(10,.is 22 (I YM.g x2.aD)),(11,i64 (x2.aD.length:Int)),(12,i64 e)] (cL f x2 x3))) (encE:=(fun(a:aA YV)=>(xq 0 [] (cL a x2 x3)))) (fun⟨e,f⟩=>?_) bN (0,x1)) fun a=>?_;refine ig fun h=>?_;refine bo (bC2 d e h) fun b=>?_;refine bo (iS (d+4) b h.ID f x2 x3) fun i=>?_;rfl;rfl
def eE1 (x1:aA YV) (x2:Y0) (x3:Int):aB (aA YV):=
 (Ji x1 x2 x3).bind fun x4=>some x4
theorem bD2 [IR] {k} (d) (x1:aA YV) (x2:Y0) (x3:Int):eD (XD k (d+7)) 47 [.ref 1 0] (cL x1 x2 x3) 3 false=(eE1 x1 x2 x3).map (fun(a:aA YV)=>((.tup [],(cL a x2 x3),0))):=by
 rw[xd (fn:=p47) rfl];refine bo (lV1 d x1 x2 x3) fun x4=>?_;rfl
def Db (x1:YP) (x2:YE) (x3:YK):aB Bool:=
 (F89 x3.s' x1).bind fun⟨x4,c⟩=>((if !c then some true else(F88 x2).bind fun d=>some (!d):aB (Bool))).bind fun e=>if e||(x4.aY==x1.aY)then some false else(bB x3.s'.aD x1.aY).bind fun a=>(bB x3.s'.aD x4.aY).bind fun b=>some ((((((a.aW !=0)||(a.hU !=0))||((dU .i64 a.cZ 12)!=0))||(a.aN !=b.aN))||b.dG)||((dU .i64 b.cZ 3)!=0))
theorem bE2 [IR] {k} (d) (x1:YP) (x2:YE) (x3:YK):OD k (d+5) 104 [.agg (YP.g x1),.agg (YE.g x2),.ip [.ip (YK.g x3)]]=(Db x1 x2 x3).map bv:=by
 refine oe rfl ?_;refine bo (aD2 (d+1) x3.s' x1) fun⟨x4,a⟩=>?_;refine bo (e:=id) ?_ fun c=>?_;refine io rfl ?_;refine bo (aC2 d x2) fun b=>?_;rfl;refine bz (gM rfl) ?_;refine io rfl ?_;refine bo rg fun f=>?_;refine bo rg fun h=>?_;refine bz (gM rfl) ?_;refine bz (gM rfl) ?_;refine bz (gM rfl) ?_;refine bz (gM rfl) ?_;refine bz (gM rfl) ?_;rfl
def xI (x1:aA YV) (x2:Y0) (x3:Int):aB (aA YV):=
 (aZ (E:=aA YV) (fun(⟨c,m⟩:Int×(aA YV))=>if decide (c<(x2.aD.length:Int))then(bB x2.aD c).bind fun n=>(aZ (E:=aA YV) (fun(⟨d,o⟩:Int×(aA YV))=>if decide (d<(n.aR.length:Int))then(bB n.aR d).bind fun p=>(aZ (E:=aA YV) (fun(⟨e,q⟩:Int×(aA YV))=>if decide (e<(p.aQ.length:Int))then(bB p.aQ e).bind fun r=>(aZ (E:=aA YV) (fun(⟨a,b⟩:Int×(aA YV))=>if decide (a<(r.aT.length:Int))then(bB r.aT a).bind fun f=>(Db (YP.mk 4 0 d c e a 0) f (YK.mk x2 x3 b)).bind fun g=>(kO g f.ID b x2 x3).bind fun h=>some (.inl ((bF (a+1)),h))else some (.inr b)) bN (0,q)).bind fun i=>some (.inl ((bF (e+1)),i))else some (.inr q)) bN (0,o)).bind fun j=>some (.inl ((bF (d+1)),j))else some (.inr o)) bN (0,m)).bind fun k=>some (.inl ((bF (c+1)),k))else some (.inr m)) bN (0,x1)).bind fun l=>some l
theorem lW1 [IR] {k} (d) (x1:aA YV) (x2:Y0) (x3:Int):eD (XD k (d+6)) 77 [.ref 1 0,.fn 104 [] [.ref 3 0]] ((3,.box [.ref 1 0])::cL x1 x2 x3) 4 false=(xI x1 x2 x3).map (fun(u:aA YV)=>((.tup [],((3,.box [.ref 1 0])::cL u x2 x3),0))):=by
 rw[xd (fn:=p77) rfl];refine bz lm ?_;refine bo (aL (S:=Int×(aA YV)) (enc:=fun⟨b,q⟩=>(Q [(0,.ref 1 0),(1,.fn 104 [] [.ref 3 0]),(16,.is 22 (I YM.g x2.aD)),(17,i64 (x2.aD.length:Int)),(18,i64 b)] ((3,.box [.ref 1 0])::cL q x2 x3))) (encE:=(fun(p:aA YV)=>(xq 0 [] ((3,.box [.ref 1 0])::cL p x2 x3)))) (fun⟨b,q⟩=>?_) bN (0,x1)) fun p=>?_;refine ig fun a=>?_;refine bz lm ?_;refine bo (aL (S:=Int×(aA YV)) (enc:=fun⟨c,r⟩=>(Q [(0,.ref 1 0),(1,.fn 104 [] [.ref 3 0]),(4,i64 b),(16,.is 22 (I YM.g x2.aD)),(17,i64 (x2.aD.length:Int)),(18,i64 b),(24,.is 2 (I YW.g a.aR)),(25,i64 (a.aR.length:Int)),(26,i64 c)] ((4,.box (YM.g a))::(3,.box [.ref 1 0])::cL r x2 x3))) (encE:=(fun(o:aA YV)=>(xq 2 [(0,.ref 1 0),(1,.fn 104 [] [.ref 3 0]),(16,.is 22 (I YM.g x2.aD)),(17,i64 (x2.aD.length:Int)),(18,i64 b)] ((4,.box (YM.g a))::(3,.box [.ref 1 0])::cL o x2 x3)))) (fun⟨c,r⟩=>?_) bN (0,q)) fun o=>?_;refine ig fun e=>?_;refine bz lm ?_;refine bo (aL (S:=Int×(aA YV)) (enc:=fun⟨h,s⟩=>(Q [(0,.ref 1 0),(1,.fn 104 [] [.ref 3 0]),(4,i64 b),(6,i64 c),(16,.is 22 (I YM.g x2.aD)),(17,i64 (x2.aD.length:Int)),(18,i64 b),(24,.is 2 (I YW.g a.aR)),(25,i64 (a.aR.length:Int)),(26,i64 c),(32,.is 2 (I YO.g e.aQ)),(33,i64 (e.aQ.length:Int)),(34,i64 h)] ((5,.box (YW.g e))::(4,.box (YM.g a))::(3,.box [.ref 1 0])::cL s x2 x3))) (encE:=(fun(n:aA YV)=>(xq 4 [(0,.ref 1 0),(1,.fn 104 [] [.ref 3 0]),(4,i64 b),(16,.is 22 (I YM.g x2.aD)),(17,i64 (x2.aD.length:Int)),(18,i64 b),(24,.is 2 (I YW.g a.aR)),(25,i64 (a.aR.length:Int)),(26,i64 c)] ((5,.box (YW.g e))::(4,.box (YM.g a))::(3,.box [.ref 1 0])::cL n x2 x3)))) (fun⟨h,s⟩=>?_) bN (0,r)) fun n=>?_;refine ig fun j=>?_;refine bz lm ?_;refine bo (aL (S:=Int×(aA YV)) (enc:=fun⟨i,f⟩=>(Q [(0,.ref 1 0),(1,.fn 104 [] [.ref 3 0]),(4,i64 b),(6,i64 c),(8,i64 h),(16,.is 22 (I YM.g x2.aD)),(17,i64 (x2.aD.length:Int)),(18,i64 b),(24,.is 2 (I YW.g a.aR)),(25,i64 (a.aR.length:Int)),(26,i64 c),(32,.is 2 (I YO.g e.aQ)),(33,i64 (e.aQ.length:Int)),(34,i64 h),(40,.is 13 (I YE.g j.aT)),(41,i64 (j.aT.length:Int)),(42,i64 i)] ((6,.box (YO.g j))::(5,.box (YW.g e))::(4,.box (YM.g a))::(3,.box [.ref 1 0])::cL f x2 x3))) (encE:=(fun(m:aA YV)=>(xq 6 [(0,.ref 1 0),(1,.fn 104 [] [.ref 3 0]),(4,i64 b),(6,i64 c),(16,.is 22 (I YM.g x2.aD)),(17,i64 (x2.aD.length:Int)),(18,i64 b),(24,.is 2 (I YW.g a.aR)),(25,i64 (a.aR.length:Int)),(26,i64 c),(32,.is 2 (I YO.g e.aQ)),(33,i64 (e.aQ.length:Int)),(34,i64 h)] ((6,.box (YO.g j))::(5,.box (YW.g e))::(4,.box (YM.g a))::(3,.box [.ref 1 0])::cL m x2 x3)))) (fun⟨i,f⟩=>?_) bN (0,s)) fun m=>?_;refine ig fun l=>?_;refine bo (bE2 d (YP.mk 4 0 c b h i 0) l (YK.mk x2 x3 f)) fun t=>?_;refine bo (iS (d+4) t l.ID f x2 x3) fun v=>?_;rfl;rfl;rfl;rfl;rfl
def Ya (x1:aA YV) (x2:Y0) (x3:Int):aB (aA YV):=
 (xI x1 x2 x3).bind fun x4=>some x4
theorem bF2 [IR] {k} (d) (x1:aA YV) (x2:Y0) (x3:Int):eD (XD k (d+7)) 48 [.ref 1 0] (cL x1 x2 x3) 3 false=(Ya x1 x2 x3).map (fun(a:aA YV)=>((.tup [],(cL a x2 x3),0))):=by
 rw[xd (fn:=p48) rfl];refine bo (lW1 d x1 x2 x3) fun x4=>?_;rfl
def F21 (x1:Y0):aB (aA YV):=
 ((if decide ((([]:aA YV).length:Int)>0)then((if false then some true else((if false then(dA ([]:aA YV) 0).bind fun x2=>(eL ([]:aA YV) x2).bind fun x3=>some (decide (x3.iF<10))else some false:aB (Bool))).bind fun x4=>some x4:aB (Bool))).bind fun x5=>some x5 else some false:aB (Bool))).bind fun x6=>if x6 then some []else(Qn [] x1 1).bind fun t=>((if decide ((t.length:Int)>0)then((if true then some true else((if false then(dA t 0).bind fun x8=>(eL t x8).bind fun x9=>some (decide (x9.iF<10))else some false:aB (Bool))).bind fun u=>some u:aB (Bool))).bind fun v=>some v else some false:aB (Bool))).bind fun w=>if w then some t else(cM1 t x1 2).bind fun a=>((if decide ((a.length:Int)>0)then((if false then some true else((if false then(dA a 0).bind fun x=>(eL a x).bind fun y=>some (decide (y.iF<10))else some false:aB (Bool))).bind fun z=>some z:aB (Bool))).bind fun A=>some A else some false:aB (Bool))).bind fun B=>if B then some a else(cN1 a x1 3).bind fun b=>((if decide ((b.length:Int)>0)then((if false then some true else((if false then(dA b 0).bind fun C=>(eL b C).bind fun D=>some (decide (D.iF<10))else some false:aB (Bool))).bind fun E=>some E:aB (Bool))).bind fun F=>some F else some false:aB (Bool))).bind fun G=>if G then some b else(cR1 b x1 4).bind fun c=>((if decide ((c.length:Int)>0)then((if false then some true else((if false then(dA c 0).bind fun H=>(eL c H).bind fun J=>some (decide (J.iF<10))else some false:aB (Bool))).bind fun K=>some K:aB (Bool))).bind fun L=>some L else some false:aB (Bool))).bind fun M=>if M then some c else(Xf c x1 5).bind fun d=>((if decide ((d.length:Int)>0)then((if false then some true else((if false then(dA d 0).bind fun N=>(eL d N).bind fun O=>some (decide (O.iF<10))else some false:aB (Bool))).bind fun P=>some P:aB (Bool))).bind fun R=>some R else some false:aB (Bool))).bind fun S=>if S then some d else(dB1 d x1 6).bind fun e=>((if decide ((e.length:Int)>0)then((if false then some true else((if false then(dA e 0).bind fun T=>(eL e T).bind fun U=>some (decide (U.iF<10))else some false:aB (Bool))).bind fun V=>some V:aB (Bool))).bind fun W=>some W else some false:aB (Bool))).bind fun X=>if X then some e else(dC1 e x1 7).bind fun f=>((if decide ((f.length:Int)>0)then((if false then some true else((if false then(dA f 0).bind fun Y=>(eL f Y).bind fun Z=>some (decide (Z.iF<10))else some false:aB (Bool))).bind fun a0=>some a0:aB (Bool))).bind fun b0=>some b0 else some false:aB (Bool))).bind fun b4=>if b4 then some f else(Xq f x1 8).bind fun g=>((if decide ((g.length:Int)>0)then((if false then some true else((if false then(dA g 0).bind fun b5=>(eL g b5).bind fun b6=>some (decide (b6.iF<10))else some false:aB (Bool))).bind fun b7=>some b7:aB (Bool))).bind fun b8=>some b8 else some false:aB (Bool))).bind fun b9=>if b9 then some g else(dE1 g x1 9).bind fun h=>((if decide ((h.length:Int)>0)then((if false then some true else((if true then(dA h 0).bind fun d1=>(eL h d1).bind fun d2=>some (decide (d2.iF<10))else some false:aB (Bool))).bind fun d3=>some d3:aB (Bool))).bind fun d4=>some d4 else some false:aB (Bool))).bind fun d5=>if d5 then some h else(Xr h x1 10).bind fun i=>((if decide ((i.length:Int)>0)then((if false then some true else((if true then(dA i 0).bind fun d6=>(eL i d6).bind fun d7=>some (decide (d7.iF<10))else some false:aB (Bool))).bind fun d8=>some d8:aB (Bool))).bind fun d9=>some d9 else some false:aB (Bool))).bind fun e0=>if e0 then some i else(dI1 i x1 11).bind fun j=>((if decide ((j.length:Int)>0)then((if false then some true else((if true then(dA j 0).bind fun e1=>(eL j e1).bind fun e3=>some (decide (e3.iF<10))else some false:aB (Bool))).bind fun e4=>some e4:aB (Bool))).bind fun e5=>some e5 else some false:aB (Bool))).bind fun e6=>if e6 then some j else(dP1 j x1 12).bind fun k=>((if decide ((k.length:Int)>0)then((if false then some true else((if true then(dA k 0).bind fun e7=>(eL k e7).bind fun e8=>some (decide (e8.iF<10))else some false:aB (Bool))).bind fun e9=>some e9:aB (Bool))).bind fun f1=>some f1 else some false:aB (Bool))).bind fun f2=>if f2 then some k else(dV1 k x1 13).bind fun l=>((if decide ((l.length:Int)>0)then((if false then some true else((if true then(dA l 0).bind fun f3=>(eL l f3).bind fun f5=>some (decide (f5.iF<10))else some false:aB (Bool))).bind fun f6=>some f6:aB (Bool))).bind fun f7=>some f7 else some false:aB (Bool))).bind fun f8=>if f8 then some l else(Qv l x1 14).bind fun m=>((if decide ((m.length:Int)>0)then((if false then some true else((if true then(dA m 0).bind fun f9=>(eL m f9).bind fun g1=>some (decide (g1.iF<10))else some false:aB (Bool))).bind fun g3=>some g3:aB (Bool))).bind fun g4=>some g4 else some false:aB (Bool))).bind fun g5=>if g5 then some m else(Qy m x1 15).bind fun n=>((if decide ((n.length:Int)>0)then((if false then some true else((if true then(dA n 0).bind fun g6=>(eL n g6).bind fun g7=>some (decide (g7.iF<10))else some false:aB (Bool))).bind fun g8=>some g8:aB (Bool))).bind fun g9=>some g9 else some false:aB (Bool))).bind fun h0=>if h0 then some n else(eE1 n x1 16).bind fun o=>((if decide ((o.length:Int)>0)then((if false then some true else((if true then(dA o 0).bind fun h2=>(eL o h2).bind fun h3=>some (decide (h3.iF<10))else some false:aB (Bool))).bind fun p=>some p:aB (Bool))).bind fun q=>some q else some false:aB (Bool))).bind fun r=>if r then some o else(Ya o x1 17).bind fun s=>some s
theorem lR2 [IR] {k} (d) (x1:Y0):OD k (d+25) 21 [.agg (Y0.g x1)]=(F21 x1).map (fun y0=>.is 3 (I YV.g y0)):=by
 refine oe rfl ?_;refine bz (dE YV.g ([]:aA YV)) ?_;refine bo (e:=id) ?_ fun x6=>?_;refine io ?_ rfl;refine bo (e:=id) ?_ fun x5=>?_;refine io rfl ?_;refine bo (e:=id) ?_ fun x4=>?_;refine io ?_ rfl;refine bo (bM YV.g ([]:aA YV) _) fun x2=>?_;refine bo (cV (A:=YV) (c:=YV.g) (g:=fun x3=>i64 x3.iF) (fun _=>rfl) ([]:aA YV) _) fun x3=>?_;rfl;rfl;rfl;refine io rfl ?_;refine bo (xJ1 (d+19) [] x1 1) fun L=>?_;refine bz (dE YV.g L) ?_;refine bo (e:=id) ?_ fun U=>?_;refine io ?_ rfl;refine bo (e:=id) ?_ fun T=>?_;refine io rfl ?_;refine bo (e:=id) ?_ fun S=>?_;refine io ?_ rfl;refine bo (bM YV.g L _) fun x8=>?_;refine bo (cV (A:=YV) (c:=YV.g) (g:=fun R=>i64 R.iF) (fun _=>rfl) L _) fun R=>?_;rfl;rfl;rfl;refine io rfl ?_;refine bo (xM1 (d+20) L x1 2) fun a=>?_;refine bz (dE YV.g a) ?_;refine bo (e:=id) ?_ fun Y=>?_;refine io ?_ rfl;refine bo (e:=id) ?_ fun X=>?_;refine io rfl ?_;refine bo (e:=id) ?_ fun W=>?_;refine io ?_ rfl;refine bo (bM YV.g a _) fun V=>?_;refine bo (cV (A:=YV) (c:=YV.g) (g:=fun u=>i64 u.iF) (fun _=>rfl) a _) fun u=>?_;rfl;rfl;rfl;refine io rfl ?_;refine bo (xO1 (d+21) a x1 3) fun b=>?_;refine bz (dE YV.g b) ?_;refine bo (e:=id) ?_ fun b4=>?_;refine io ?_ rfl;refine bo (e:=id) ?_ fun b0=>?_;refine io rfl ?_;refine bo (e:=id) ?_ fun a0=>?_;refine io ?_ rfl;refine bo (bM YV.g b _) fun Z=>?_;refine bo (cV (A:=YV) (c:=YV.g) (g:=fun v=>i64 v.iF) (fun _=>rfl) b _) fun v=>?_;rfl;rfl;rfl;refine io rfl ?_;refine bo (xY1 (d+17) b x1 4) fun f=>?_;refine bz (dE YV.g f) ?_;refine bo (e:=id) ?_ fun b8=>?_;refine io ?_ rfl;refine bo (e:=id) ?_ fun b7=>?_;refine io rfl ?_;refine bo (e:=id) ?_ fun b6=>?_;refine io ?_ rfl;refine bo (bM YV.g f _) fun b5=>?_;refine bo (cV (A:=YV) (c:=YV.g) (g:=fun w=>i64 w.iF) (fun _=>rfl) f _) fun w=>?_;rfl;rfl;rfl;refine io rfl ?_;refine bo (yA1 (d+17) f x1 5) fun h=>?_;refine bz (dE YV.g h) ?_;refine bo (e:=id) ?_ fun d3=>?_;refine io ?_ rfl;refine bo (e:=id) ?_ fun d2=>?_;refine io rfl ?_;refine bo (e:=id) ?_ fun d1=>?_;refine io ?_ rfl;refine bo (bM YV.g h _) fun b9=>?_;refine bo (cV (A:=YV) (c:=YV.g) (g:=fun x=>i64 x.iF) (fun _=>rfl) h _) fun x=>?_;rfl;rfl;rfl;refine io rfl ?_;refine bo (zR1 d h x1 6) fun i=>?_;refine bz (dE YV.g i) ?_;refine bo (e:=id) ?_ fun d7=>?_;refine io ?_ rfl;refine bo (e:=id) ?_ fun d6=>?_;refine io rfl ?_;refine bo (e:=id) ?_ fun d5=>?_;refine io ?_ rfl;refine bo (bM YV.g i _) fun d4=>?_;refine bo (cV (A:=YV) (c:=YV.g) (g:=fun y=>i64 y.iF) (fun _=>rfl) i _) fun y=>?_;rfl;rfl;rfl;refine io rfl ?_;refine bo (zS1 d i x1 7) fun j=>?_;refine bz (dE YV.g j) ?_;refine bo (e:=id) ?_ fun e1=>?_;refine io ?_ rfl;refine bo (e:=id) ?_ fun e0=>?_;refine io rfl ?_;refine bo (e:=id) ?_ fun d9=>?_;refine io ?_ rfl;refine bo (bM YV.g j _) fun d8=>?_;refine bo (cV (A:=YV) (c:=YV.g) (g:=fun z=>i64 z.iF) (fun _=>rfl) j _) fun z=>?_;rfl;rfl;rfl;refine io rfl ?_;refine bo (zU1 (d+13) j x1 8) fun l=>?_;refine bz (dE YV.g l) ?_;refine bo (e:=id) ?_ fun e6=>?_;refine io ?_ rfl;refine bo (e:=id) ?_ fun e5=>?_;refine io rfl ?_;refine bo (e:=id) ?_ fun e4=>?_;refine io ?_ rfl;refine bo (bM YV.g l _) fun e3=>?_;refine bo (cV (A:=YV) (c:=YV.g) (g:=fun B=>i64 B.iF) (fun _=>rfl) l _) fun B=>?_;rfl;rfl;rfl;refine io rfl ?_;refine bo (aA2 (d+13) l x1 9) fun m=>?_;refine bz (dE YV.g m) ?_;refine bo (e:=id) ?_ fun f1=>?_;refine io ?_ rfl;refine bo (e:=id) ?_ fun e9=>?_;refine io rfl ?_;refine bo (e:=id) ?_ fun e8=>?_;refine io ?_ rfl;refine bo (bM YV.g m _) fun e7=>?_;refine bo (cV (A:=YV) (c:=YV.g) (g:=fun C=>i64 C.iF) (fun _=>rfl) m _) fun C=>?_;rfl;rfl;rfl;refine io rfl ?_;refine bo (aG2 (d+17) m x1 10) fun n=>?_;refine bz (dE YV.g n) ?_;refine bo (e:=id) ?_ fun f6=>?_;refine io ?_ rfl;refine bo (e:=id) ?_ fun f5=>?_;refine io rfl ?_;refine bo (e:=id) ?_ fun f3=>?_;refine io ?_ rfl;refine bo (bM YV.g n _) fun f2=>?_;refine bo (cV (A:=YV) (c:=YV.g) (g:=fun D=>i64 D.iF) (fun _=>rfl) n _) fun D=>?_;rfl;rfl;rfl;refine io rfl ?_;refine bo (aJ2 (d+21) n x1 11) fun o=>?_;refine bz (dE YV.g o) ?_;refine bo (e:=id) ?_ fun g1=>?_;refine io ?_ rfl;refine bo (e:=id) ?_ fun f9=>?_;refine io rfl ?_;refine bo (e:=id) ?_ fun f8=>?_;refine io ?_ rfl;refine bo (bM YV.g o _) fun f7=>?_;refine bo (cV (A:=YV) (c:=YV.g) (g:=fun E=>i64 E.iF) (fun _=>rfl) o _) fun E=>?_;rfl;rfl;rfl;refine io rfl ?_;refine bo (aO2 (d+7) o x1 12) fun p=>?_;refine bz (dE YV.g p) ?_;refine bo (e:=id) ?_ fun g6=>?_;refine io ?_ rfl;refine bo (e:=id) ?_ fun g5=>?_;refine io rfl ?_;refine bo (e:=id) ?_ fun g4=>?_;refine io ?_ rfl;refine bo (bM YV.g p _) fun g3=>?_;refine bo (cV (A:=YV) (c:=YV.g) (g:=fun F=>i64 F.iF) (fun _=>rfl) p _) fun F=>?_;rfl;rfl;rfl;refine io rfl ?_;refine bo (aS2 (d+7) p x1 13) fun q=>?_;refine bz (dE YV.g q) ?_;refine bo (e:=id) ?_ fun h0=>?_;refine io ?_ rfl;refine bo (e:=id) ?_ fun g9=>?_;refine io rfl ?_;refine bo (e:=id) ?_ fun g8=>?_;refine io ?_ rfl;refine bo (bM YV.g q _) fun g7=>?_;refine bo (cV (A:=YV) (c:=YV.g) (g:=fun G=>i64 G.iF) (fun _=>rfl) q _) fun G=>?_;rfl;rfl;rfl;refine io rfl ?_;refine bo (aV2 (d+19) q x1 14) fun r=>?_;refine bz (dE YV.g r) ?_;refine bo (e:=id) ?_ fun h5=>?_;refine io ?_ rfl;refine bo (e:=id) ?_ fun h4=>?_;refine io rfl ?_;refine bo (e:=id) ?_ fun h3=>?_;refine io ?_ rfl;refine bo (bM YV.g r _) fun h2=>?_;refine bo (cV (A:=YV) (c:=YV.g) (g:=fun H=>i64 H.iF) (fun _=>rfl) r _) fun H=>?_;rfl;rfl;rfl;refine io rfl ?_;refine bo (bB2 (d+16) r x1 15) fun s=>?_;refine bz (dE YV.g s) ?_;refine bo (e:=id) ?_ fun h9=>?_;refine io ?_ rfl;refine bo (e:=id) ?_ fun h8=>?_;refine io rfl ?_;refine bo (e:=id) ?_ fun h7=>?_;refine io ?_ rfl;refine bo (bM YV.g s _) fun h6=>?_;refine bo (cV (A:=YV) (c:=YV.g) (g:=fun J=>i64 J.iF) (fun _=>rfl) s _) fun J=>?_;rfl;rfl;rfl;refine io rfl ?_;refine bo (bD2 (d+17) s x1 16) fun t=>?_;refine bz (dE YV.g t) ?_;refine bo (e:=id) ?_ fun O=>?_;refine io ?_ rfl;refine bo (e:=id) ?_ fun N=>?_;refine io rfl ?_;refine bo (e:=id) ?_ fun M=>?_;refine io ?_ rfl;refine bo (bM YV.g t _) fun i0=>?_;refine bo (cV (A:=YV) (c:=YV.g) (g:=fun K=>i64 K.iF) (fun _=>rfl) t _) fun K=>?_;rfl;rfl;rfl;refine io rfl ?_;refine bo (bF2 (d+17) t x1 17) fun P=>?_;rfl
end Go.P
